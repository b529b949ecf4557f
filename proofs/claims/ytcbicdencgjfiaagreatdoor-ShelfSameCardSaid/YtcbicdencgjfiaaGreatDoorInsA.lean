import Derived.Deep.CutRange
import Derived.Test.YtcbicdencgjfiaaGreatDoorMeetC
set_option linter.all false
set_option maxHeartbeats 4000000
set_option maxRecDepth 20000
namespace Tryst
open Go Go.RowKit
def okH {α:Type} (f:List α->α->Bool):List α->List α->Bool
 | _,[]=>true
 | p,x :: t=>f p x&&okH f (p++[x]) t
theorem kQl {α:Type} {f:List α->α->Bool} {l:List α} {k:Nat} (h:k < l.length):okH f (l.take k) (l.drop k)=(f (l.take k) l[k]&&okH f (l.take (k+1)) (l.drop (k+1))):=by
 rw [List.drop_eq_getElem_cons h,okH,List.take_succ_eq_append_getElem h]
theorem zQj {α:Type} {f:List α->α->Bool} {l:List α} {k:Nat} (h:l.length<=k):okH f (l.take k) (l.drop k)=true:=by
 rw [List.drop_eq_nil_of_le h];rfl
def OkH {α:Type} (f:List α->α->Bool) (w:World) (l:List α) (R:Bool) (i:Value) (wr:World):Prop:=∃ k:Nat,k<=l.length/\i=.int .i64 k/\Hid (R=okH f (l.take k) (l.drop k))/\Hid (Below w.heap.size w wr)
def kQB (parts:Int) (p:List KpB) (x:KpB):Bool:=xQw parts x&&(!(vQ5 p x.time)&&!(p.any (fun y=>(y.id:Int)==(x.id:Int))))
theorem xQG {α:Type} {f:List α->α->Bool} {P:α->Prop} (hf:∀ p x,f p x=true->P x):∀ (l p:List α),okH f p l=true->∀ x∈l,P x
 | [],_,_,x,hx=>by cases hx
 | y :: l,p,h,x,hx=>by
  unfold okH at h;rw [Bool.and_eq_true] at h
  rcases List.mem_cons.1 hx with rfl | hx
  · exact hf _ _ h.1
  · exact xQG hf l _ h.2 x hx
def qQg (j:JB) (l:List KpB):Bool:=mayJ j&&(decide (l.length < 30)&&(okH (kQB j.parts) [] l&&decide ((qQw j l).length=0)))
theorem Xg.takeK {w:World} {a:Option Addr} {l:List KpB} (h:Xg w a l) (k:Nat):Xg w a (l.take k):=by
 have:=Row.take h k
 rwa [<- List.map_take] at this
theorem kJH {parts:Int} (h6:parts<=6) (p:List KpB) (x:KpB) (h:kQB parts p x=true):0<=x.part/\x.part < 6:=by
 unfold kQB xQw at h;simp only [Bool.and_eq_true,decide_eq_true_eq] at h;omega
theorem qJ6 {j:JB} (h:mayJ j=true):j.parts<=6:=by
 unfold mayJ at h;simp only [Bool.and_eq_true,decide_eq_true_eq] at h;exact h.2.1
end Tryst
namespace Go.Proofs.YtcbicdencgjfiaaGreatDoor
open Go.RowKit Tryst
theorem jJJ (j:JB) (a:Option Addr) (c:Nat) (l:List KpB) (hl:l.length<=1500000) (hc:l.length<=c) (w:World) (hR:Xg w a l) :
  Calls Tryz.prog 229 #[.agg #[.string j.kind,.int .i64 j.parts,.int .i64 j.need,.int .i64 j.window],.slice a l.length c] w fun e w'=>e=.returned (.int .i64 (errO (qQg j l)))/\Below w.heap.size w w':=by
 have HF:=Zh (fun W (hb:Below w.heap.size w W)=>KpR.mk (hR.grow hb));have CJ:=Zh (fun W=>jJj j W);have CM:=Zh (fun (hm:mayJ j=true) (ho:okH (kQB j.parts) [] l=true) W (hb:Below w.heap.size w W)=>qJh j hm a c l hl (xQG (fun p x=>kJH (qJ6 hm) p x) l [] ho) W (hR.grow hb));have C1:=Zh (fun (k:Nat) (hk:k < l.length) W=>jYZ j l[k] W)
 have C2:=Zh (fun (k:Nat) (hk:k < l.length) W (hb:Below w.heap.size w W)=>by
  have h:=jY0 a c (l.take k) l[k].time (by rw [List.length_take];omega) W (Xg.takeK (hR.grow hb) k)
  rwa [List.length_take,Nat.min_eq_left (Nat.le_of_lt hk)] at h)
 have C3:=Zh (fun (k:Nat) (hk:k < l.length) W (hb:Below w.heap.size w W)=>by
  have h:=xQo a c (l.take k) l[k].id (by rw [List.length_take];omega) W (Xg.takeK (hR.grow hb) k)
  rwa [List.length_take,Nat.min_eq_left (Nat.le_of_lt hk)] at h)
 clear hR;obtain ⟨V,hV⟩:∃ V,errO (qQg j l)=V:=⟨_,rfl⟩;rw [hV];have HV:=Zh hV;obtain ⟨R,hRR⟩:∃ R,okH (kQB j.parts) [] l=R:=⟨_,rfl⟩;have HR:Hid (R=okH (kQB j.parts) (l.take 0) (l.drop 0)):=Zh (by rw [<- hRR];rfl);have HRR:=Zh hRR;obtain ⟨mj,hmj⟩:∃ mj,mayJ j=mj:=⟨_,rfl⟩;have HMJ:=Zh hmj;rw [hmj] at CJ CM;rw [hRR] at CM;have HE1:Hid (R=false->(1:Int)=V):=Zh (fun h=>by rw [<- hV];unfold qQg;rw [hRR,h];simp [errO]);have HE2:Hid (mj=true->R=true->l.length < 30->errO (decide ((qQw j l).length=0))=V):=Zh (fun h1 h2 h3=>by rw [<- hV];unfold qQg;rw [hmj,hRR,h1,h2,decide_eq_true h3];rfl);obtain ⟨M,hM⟩:∃ M,qQw j l=M:=⟨_,rfl⟩;rw [hM] at HE2 CM;clear hV hRR hmj hM;obtain ⟨kd,ps,nd,wd⟩:=j;simp only at CJ CM C1 HR HRR HMJ HE1 HE2 ⊢;have HX:=Zh (Var.new w 43 [.string kd,.int .i64 ps,.int .i64 nd,.int .i64 wd]);have HB0:=Zh (Qj (.cells #[.string kd,.int .i64 ps,.int .i64 nd,.int .i64 wd] 43) (.refl w.heap.size w));go_enter Tryz.func229,Tryz.ntmps229;go_upto_region 1 with fail
 revert HX HB0;simp only [List.toArray];generalize w.alloc (.cells #[.string kd,.int .i64 ps,.int .i64 nd,.int .i64 wd] 43)=X;intro HX HB0;obtain ⟨x0,x1,x2,x3⟩:=v4 (HX.out);cases mj with
 | false=>
  go_wp2_with fail;refine (CJ.out _).mono ?_;rintro e w1 ⟨rfl,hb1⟩;have HB1:=Zh (Qk hb1 HB0.out);clear hb1 x0 x1 x2 x3 HX HB0 CJ;go_wp2_with fail;go_ret;exact ⟨Qy (by rw [<- HV.out];unfold qQg;rw [HMJ.out];rfl),HB1.out⟩
 | true=>
  by_cases h30:l.length < 30
  ·
   have y0:¬ ((30:Int)<=l.length):=by omega
   go_wp2_with fail;refine (CJ.out _).mono ?_;rintro e w1 ⟨rfl,hb1⟩;have HX1:=Zh (HX.out.grow hb1);have HB1:=Zh (Qk hb1 HB0.out);have hzw:w.heap.size < w1.heap.size:=HX1.out.lt;clear hb1 x0 x1 x2 x3 HX HB0 CJ;go_wp2_with fail;go_loopw [17] (fun i wr=>OkH (kQB ps) w1 l R i wr) (fun i _=>l.length - (intOf i).toNat)
   case atStart=>exact ⟨0,by omega,rfl,HR,Zh (.refl _ _)⟩
   case round=>
    clear HR;obtain ⟨k,hk,rfl,HP,HW⟩:=hrel;obtain ⟨wo,rfl⟩:∃ wo,wo=wr:=⟨_,rfl⟩;have HWW:=Zh (Qk HW.out HB1.out);have HXo:=Zh (HX1.out.grow HW.out);have hzo:w.heap.size < wo.heap.size:=HXo.out.lt;obtain ⟨x0,x1,x2,x3⟩:=v4 (HXo.out)
    by_cases hlt:k < l.length
    ·
     obtain ⟨b,o,ha,hb⟩:=(HF.out wo HWW.out).head hlt;subst ha;obtain ⟨_,f0,f1,f2⟩:=Xg.at (HF.out wo HWW.out).r hlt;have HST:Hid (R=(kQB ps (l.take k) l[k]&&okH (kQB ps) (l.take (k+1)) (l.drop (k+1)))):=Zh (HP.out.trans (kQl hlt));have D1:=Zh (C1.out k hlt);have D2:=Zh (C2.out k hlt);have D3:=Zh (C3.out k hlt);unfold kQB at HST;have x8:(k:Int) < l.length:=by omega
     have x9:(0:Int)<=k:=by omega
     have z1:(k:Int)<=c:=by omega
     have z2:k<=c:=by omega
     have HK:=Zh (Qk (Qj (.cells #[.int .i64 l[k].part,.int .u64 l[k].id,.int .i64 l[k].time] 155) (.refl wo.heap.size wo)) HWW.out);have HKW:=Zh (Qk (Qj (.cells #[.int .i64 l[k].part,.int .u64 l[k].id,.int .i64 l[k].time] 155) (.refl wo.heap.size wo)) HW.out);unfold KpB.val at D1;generalize xQw ps l[k]=fb at HST D1;generalize vQ5 (l.take k) l[k].time=eb at HST D2;generalize (l.take k).any (fun y=>(y.id:Int)==(l[k].id:Int))=tb at HST D3;clear HP;go_upto_region 6 with fail
     cases fb with
     | false=>
      have HN:Hid (R=false):=Zh (by rw [HST.out];rfl);clear HST;refine Tryst2.wp_region_text 20 (by kernel_rfl) (by kernel_rfl) ?_
      iterate 20 ((first | refine Tryst2.TW.skip (by rfl) ?_ | (refine' Tryst2.TW.op _ ?_ (by rfl) ?_;rotate_left;focus (intro w' hg;obtain ⟨hcg,hfg,hsg⟩:=YG hg;first | (go_simp;done) | (go_simp;with_reducible rfl) | (go_simp;first | (go_at_call 240;refine (D1.out _).mono ?_;rintro e w5 ⟨rfl,hb5⟩;refine ⟨hb5,?_⟩;with_reducible rfl) | (go_at_call 241;refine (D2.out _ (Tryst2.Grow.below hg HK.out)).mono ?_;rintro e w5 ⟨rfl,rfl⟩;refine ⟨Below.refl _ _,?_⟩;with_reducible rfl) | (go_at_call 242;refine (D3.out _ (Tryst2.Grow.below hg HK.out)).mono ?_;rintro e w5 ⟨rfl,hb5⟩;refine ⟨hb5,?_⟩;with_reducible rfl)))));simp only [Act.put,List.setIfInBounds_toArray,List.set_cons_zero,List.set_cons_succ])
      intro w' hg;obtain ⟨hcg,hfg,hsg⟩:=YG hg
      try change wpList _ _ _ [] _ _
      have HB9:=Zh (Tryst2.Grow.below hg HK.out);clear hg hcg hfg hsg;go_wp2_with fail;go_ret;exact ⟨Qy (HE1.out HN.out),HB9.out⟩
     | true=>
      cases eb with
      | true=>
       have HN:Hid (R=false):=Zh (by rw [HST.out];rfl);clear HST;refine Tryst2.wp_region_text 20 (by kernel_rfl) (by kernel_rfl) ?_
       iterate 20 ((first | refine Tryst2.TW.skip (by rfl) ?_ | (refine' Tryst2.TW.op _ ?_ (by rfl) ?_;rotate_left;focus (intro w' hg;obtain ⟨hcg,hfg,hsg⟩:=YG hg;first | (go_simp;done) | (go_simp;with_reducible rfl) | (go_simp;first | (go_at_call 240;refine (D1.out _).mono ?_;rintro e w5 ⟨rfl,hb5⟩;refine ⟨hb5,?_⟩;with_reducible rfl) | (go_at_call 241;refine (D2.out _ (Tryst2.Grow.below hg HK.out)).mono ?_;rintro e w5 ⟨rfl,rfl⟩;refine ⟨Below.refl _ _,?_⟩;with_reducible rfl) | (go_at_call 242;refine (D3.out _ (Tryst2.Grow.below hg HK.out)).mono ?_;rintro e w5 ⟨rfl,hb5⟩;refine ⟨hb5,?_⟩;with_reducible rfl)))));simp only [Act.put,List.setIfInBounds_toArray,List.set_cons_zero,List.set_cons_succ])
       intro w' hg;obtain ⟨hcg,hfg,hsg⟩:=YG hg
       try change wpList _ _ _ [] _ _
       have HB9:=Zh (Tryst2.Grow.below hg HK.out);clear hg hcg hfg hsg;go_wp2_with fail;go_ret;exact ⟨Qy (HE1.out HN.out),HB9.out⟩
      | false=>
       cases tb with
       | true=>
        have HN:Hid (R=false):=Zh (by rw [HST.out];rfl);clear HST;refine Tryst2.wp_region_text 20 (by kernel_rfl) (by kernel_rfl) ?_
        iterate 20 ((first | refine Tryst2.TW.skip (by rfl) ?_ | (refine' Tryst2.TW.op _ ?_ (by rfl) ?_;rotate_left;focus (intro w' hg;obtain ⟨hcg,hfg,hsg⟩:=YG hg;first | (go_simp;done) | (go_simp;with_reducible rfl) | (go_simp;first | (go_at_call 240;refine (D1.out _).mono ?_;rintro e w5 ⟨rfl,hb5⟩;refine ⟨hb5,?_⟩;with_reducible rfl) | (go_at_call 241;refine (D2.out _ (Tryst2.Grow.below hg HK.out)).mono ?_;rintro e w5 ⟨rfl,rfl⟩;refine ⟨Below.refl _ _,?_⟩;with_reducible rfl) | (go_at_call 242;refine (D3.out _ (Tryst2.Grow.below hg HK.out)).mono ?_;rintro e w5 ⟨rfl,hb5⟩;refine ⟨hb5,?_⟩;with_reducible rfl)))));simp only [Act.put,List.setIfInBounds_toArray,List.set_cons_zero,List.set_cons_succ])
        intro w' hg;obtain ⟨hcg,hfg,hsg⟩:=YG hg
        try change wpList _ _ _ [] _ _
        have HB9:=Zh (Tryst2.Grow.below hg HK.out);clear hg hcg hfg hsg;go_wp2_with fail;go_ret;exact ⟨Qy (HE1.out HN.out),HB9.out⟩
       | false=>
        have HN:Hid (R=okH (kQB ps) (l.take (k+1)) (l.drop (k+1))):=Zh (by rw [HST.out];rfl);clear HST;refine Tryst2.wp_region_text 20 (by kernel_rfl) (by kernel_rfl) ?_
        iterate 20 ((first | refine Tryst2.TW.skip (by rfl) ?_ | (refine' Tryst2.TW.op _ ?_ (by rfl) ?_;rotate_left;focus (intro w' hg;obtain ⟨hcg,hfg,hsg⟩:=YG hg;first | (go_simp;done) | (go_simp;with_reducible rfl) | (go_simp;first | (go_at_call 240;refine (D1.out _).mono ?_;rintro e w5 ⟨rfl,hb5⟩;refine ⟨hb5,?_⟩;with_reducible rfl) | (go_at_call 241;refine (D2.out _ (Tryst2.Grow.below hg HK.out)).mono ?_;rintro e w5 ⟨rfl,rfl⟩;refine ⟨Below.refl _ _,?_⟩;with_reducible rfl) | (go_at_call 242;refine (D3.out _ (Tryst2.Grow.below hg HK.out)).mono ?_;rintro e w5 ⟨rfl,hb5⟩;refine ⟨hb5,?_⟩;with_reducible rfl)))));simp only [Act.put,List.setIfInBounds_toArray,List.set_cons_zero,List.set_cons_succ])
        intro w' hg;obtain ⟨hcg,hfg,hsg⟩:=YG hg
        try change wpList _ _ _ [] _ _
        have HB9:=Zh (Tryst2.Grow.below hg HKW.out);clear hg hcg hfg hsg;go_wp2_with fail;go_roundw
        case rel=>exact ⟨k+1,by omega,by go_num,HN,HB9⟩
        case measure=>simp [intOf]<;>omega
    ·
     have HN:Hid (R=true):=Zh (HP.out.trans (zQj (by omega:l.length<=k)));have HE3:=Zh (HE2.out trivial HN.out h30);have CM2:=Zh (CM.out trivial HN.out wo HWW.out);clear HP HE1 HE2 CM C1 C2 C3;go_wp2_with fail;refine CM2.out.mono ?_;rintro e w5 ⟨a5,c5,rfl,_,hb5⟩;have HB5:=Zh (Qk hb5 HWW.out);clear hb5 CM2
     by_cases h0:M.length=0
     ·
      have y1:¬ (0:Int) < M.length:=by omega
      go_wp2_with fail;go_ret;exact ⟨Qy (by rw [<- HE3.out,decide_eq_true h0];rfl),HB5.out⟩
     ·
      have y1:(0:Int) < M.length:=by omega
      go_wp2_with fail;go_ret;exact ⟨Qy (by rw [<- HE3.out,decide_eq_false h0];rfl),HB5.out⟩
  ·
   have y0:(30:Int)<=l.length:=by omega
   go_wp2_with fail;refine (CJ.out _).mono ?_;rintro e w1 ⟨rfl,hb1⟩;have HB1:=Zh (Qk hb1 HB0.out);clear hb1 x0 x1 x2 x3 HX HB0 CJ;go_wp2_with fail;go_ret;exact ⟨Qy (by rw [<- HV.out];unfold qQg;rw [HMJ.out,decide_eq_false h30];rfl),HB1.out⟩
end Go.Proofs.YtcbicdencgjfiaaGreatDoor
namespace Go.Proofs.YtcbicdencgjfiaaGreatDoor
open Go Go.RowKit Tryst
structure InB where
 num:Bool
 n:Int
 s:ByteArray
 la:Option Addr
 l:List KpB
 lc:Nat
def InB.cells (x:InB):List Value:=[.bool x.num,.int .i64 x.n,.string x.s,.slice x.la x.l.length x.lc]
def InB.val (x:InB):Value:=.agg #[.bool x.num,.int .i64 x.n,.string x.s,.slice x.la x.l.length x.lc]
def InB.key (x:InB):V:=⟨x.num,x.n,x.s.data.toList⟩
structure InAt (w:World) (b o:Nat) (t:InB):Prop where
 c0:w.cell? ⟨b,o,none⟩=some (.bool t.num)
 c1:w.cell? ⟨b,o+1,none⟩=some (.int .i64 t.n)
 c2:w.cell? ⟨b,o+2,none⟩=some (.string t.s)
 c3:w.cell? ⟨b,o+3,none⟩=some (.slice t.la t.l.length t.lc)
structure Insts (w:World) (a:Option Addr) (l:List InB):Prop where
 row:Row w a 4 (l.map InB.cells)
 mem:∀ x∈l,Xg w x.la x.l
 cap:∀ x∈l,x.l.length<=x.lc
 ids:∀ x∈l,∀ y∈x.l,y.id < 2 ^ 64
theorem Insts.grow {w W:World} {a:Option Addr} {l:List InB} (h:Insts w a l) (hb:Below w.heap.size w W):Insts W a l:=⟨h.row.grow hb,fun x hx=>(h.mem x hx).grow hb,h.cap,h.ids⟩
theorem Insts.at {w:World} {b o:Nat} {l:List InB} (h:Insts w (some ⟨b,o,none⟩) l) {i:Nat} (hi:i < l.length):b < w.heap.size/\InAt w b (o+i*4) l[i]:=by
 obtain ⟨h1,h2⟩:=Row.at h.row (i:=i) (by simpa using hi);simp only [List.getElem_map] at h2;exact ⟨h1,h2 0 (by omega),h2 1 (by omega),h2 2 (by omega),h2 3 (by omega)⟩
theorem Insts.head {w:World} {a:Option Addr} {l:List InB} (h:Insts w a l) {i:Nat} (hi:i < l.length):∃ b o,a=some ⟨b,o,none⟩/\b < w.heap.size:=Row.head h.row (by simpa using hi)
def Xj:List InB->Nat
 | []=>0
 | x :: l=>x.l.length+Xj l
theorem kQd:∀ (l m:List InB),Xj (l++m)=Xj l+Xj m
 | [],m=>by simp [Xj]
 | x :: l,m=>by rw [List.cons_append,Xj,Xj,kQd l m];omega
theorem xQT {l:List InB} {k:Nat} (h:k < l.length):Xj (l.take (k+1))=Xj (l.take k)+l[k].l.length:=by
 rw [List.take_succ_eq_append_getElem h,kQd,Xj,Xj];omega
theorem zJ1 {l:List InB} (k:Nat):Xj (l.take k)<=Xj l:=by
 have h:=kQd (l.take k) (l.drop k);rw [List.take_append_drop] at h;omega
def idsK (p:List InB) (q:List KpB) (n:Nat):Bool:=p.any (fun x=>x.l.any (fun y=>decide (y.id=n)))||q.any (fun y=>decide (y.id=n))
def kQG (p:List InB) (q:List KpB) (x:KpB):Bool:=!(idsK p q x.id)
def kQ6 (j:JB) (p:List InB) (x:InB):Bool:=V.mayB x.key&&((match p.getLast? with | none=>true | some q=>decide (V.order q.key x.key < 0))&&(decide (x.l.length≠0)&&(qQg j x.l&&okH (kQG p) [] x.l)))
def qQM (j:JB) (l:List InB):Bool:=mayJ j&&(decide (l.length<=40)&&okH (kQ6 j) [] l)
theorem vQh (p:List InB) (q:List KpB) (x:KpB) (n:Nat):idsK p (q++[x]) n=(decide (x.id=n)||idsK p q n):=by
 unfold idsK;rw [List.any_append];simp only [List.any_cons,List.any_nil,Bool.or_false];cases p.any (fun x=>x.l.any (fun y=>decide (y.id=n)))<;>cases q.any (fun y=>decide (y.id=n))<;>cases decide (x.id=n)<;>rfl
theorem zJ3 (p:List InB) (x:InB) (n:Nat):idsK (p++[x]) [] n=idsK p x.l n:=by
 unfold idsK;rw [List.any_append];simp
def CntR (w:World) (l:List InB) (n i:Value) (wr:World):Prop:=∃ k:Nat,k<=l.length/\i=.int .i64 k/\n=.int .i64 (Xj (l.take k):Nat)/\Hid (Below w.heap.size w wr)
theorem zJg (a:Option Addr) (c:Nat) (l:List InB) (hl:l.length<=1500000) (hs:Xj l<=1000000000) (w:World) (hR:Insts w a l) :
  Calls Tryz.prog 213 #[.slice a l.length c] w fun e w'=>e=.returned (.int .i64 (Xj l:Nat))/\Below w.heap.size w w':=by
 have HF:=Zh (fun W (hb:Below w.heap.size w W)=>hR.grow hb);clear hR;obtain ⟨V,hV⟩:∃ V,Xj l=V:=⟨_,rfl⟩;rw [hV];have HV:=Zh hV;clear hV;go_enter Tryz.func213,Tryz.ntmps213;go_wp2_with fail;go_loopw [3,8] (fun n i wr=>CntR w l n i wr) (fun _ i _=>l.length - (intOf i).toNat)
 case atStart=>exact ⟨0,by omega,rfl,rfl,Zh (.refl _ _)⟩
 case round=>
  obtain ⟨k,hk,rfl,rfl,HW⟩:=hrel;obtain ⟨wo,rfl⟩:∃ wo,wo=wr:=⟨_,rfl⟩
  by_cases hlt:k < l.length
  ·
   obtain ⟨b,o,ha,hb⟩:=(HF.out wo HW.out).head hlt;subst ha;obtain ⟨_,f0,f1,f2,f3⟩:=(HF.out wo HW.out).at hlt;have x1:(k:Int) < l.length:=by omega
   have x2:(0:Int)<=k:=by omega
   have hct:=xQT hlt;have hcl:=zJ1 (l:=l) (k+1);have HCT:=Zh hct;obtain ⟨n,hn⟩:∃ n,Xj (l.take k)=n:=⟨_,rfl⟩;rw [hn] at hct ⊢;have y1:IntKind.i64.wrap ((n:Int)+(l[k].l.length:Int))=((n+l[k].l.length:Nat):Int):=by rw [IntWalk.i64_in _ (by omega)];omega
   have HN:=Zh hn;clear hn;have HB:=Zh (Qk (Qj (.cells #[.bool l[k].num,.int .i64 l[k].n,.string l[k].s,.slice l[k].la l[k].l.length l[k].lc] 130) (.refl wo.heap.size wo)) HW.out);go_wp2_with fail;go_roundw
   case rel=>exact ⟨k+1,by omega,by go_num,by (rw [HCT.out,HN.out];first | rfl | exact congrArg (Value.int .i64) (by omega)),HB⟩
   case measure=>simp [intOf]<;>omega
  ·
   have hkl:k=l.length:=by omega
   have HN:=Zh hkl;go_wp2_with fail;go_ret;exact ⟨Qy (by rw [<- HV.out,HN.out,List.take_length]),HW.out⟩
