import Derived.Test.YtcbicdencgjfiaaGreatDoorRtI
set_option linter.all false
set_option maxHeartbeats 4000000
set_option maxRecDepth 20000
namespace Go.Proofs.YtcbicdencgjfiaaGreatDoor
open Go Go.RowKit Tryst
structure RtO (w:World) (r:RtB):Prop where
 t:Tops w r.ta r.tl
 tI:TIn r.tl
 tn:r.tl.length<=1500000
 l:qQF w r.la r.ll
 ln:r.ll.length<=1500000
 lS:∀ x∈r.ll,x.producer.size<=1500000
 s:Subs w r.sa r.sl
 sn:r.sl.length<=1500000
 tt:-9223372036854775808<=r.total/\r.total<=9223372036854775807
 u:Zj w r.ua r.ul
 un:r.ul.length<=1500000
 uS:∀ x∈r.ul,x.sub.size<=1500000
 g:Zj w r.ga r.gl
 gn:r.gl.length<=1500000
 gS:∀ x∈r.gl,x.sub.size<=1500000
 d:Deads w r.da r.dl
 dn:r.dl.length<=1500000
theorem RtO.grow {w W:World} {r:RtB} (h:RtO w r) (hb:Below w.heap.size w W):RtO W r:=
 ⟨h.t.grow hb,h.tI,h.tn,Row.grow h.l hb,h.ln,h.lS,h.s.grow hb,h.sn,h.tt,Row.grow h.u hb,h.un,h.uS,Row.grow h.g hb,h.gn,h.gS,h.d.grow hb,h.dn⟩
def Xx (r:RtB):Bool:=decide (0<=r.now)&&(decide (r.now<=1099511627775)&&(jQo (r.tl.map TB.tp)&&(qJd r.ll&&(qQP r&&(zQk r&&zQ6 r)))))
theorem xQM:∀ {l:List Tp} {q:Option ByteArray},okT q l=true->∀ t∈l,tMay t=true
 | [],_,_,t,ht=>by cases ht
 | x :: l,q,h,t,ht=>by
  obtain ⟨h1,_,h3⟩:=jJ7.1 h
  rcases List.mem_cons.1 ht with rfl | ht
  · exact h1
  · exact xQM h3 t ht
theorem xJP {l:List TB} (h:jQo (l.map TB.tp)=true):vJy l:=by
 unfold jQo at h;rw [Bool.and_eq_true] at h;intro t ht;obtain ⟨h1,h2,h3,_⟩:=qJ7 (xQM h.2 t.tp (List.mem_map.2 ⟨t,ht,rfl⟩));omega
theorem vQJ (r:RtB) (w:World) (hM:MaxW w) (hR:RtO w r) :
  Calls Tryz.prog 31 #[r.agg] w fun e w'=>e=.returned (.int .i64 (errO (Xx r)))/\Below w.heap.size w w':=by
 have C1:=Zh (fun W (hb:Below w.heap.size w W)=>zJR r.ta r.tc r.tl (Nat.le_trans hR.tn (by decide)) hR.tI W (hM.grow hb) (hR.t.grow hb));have C2:=Zh (fun W (hb:Below w.heap.size w W)=>zJp r.la r.lc r.ll hR.ln hR.lS W (hM.grow hb) (Row.grow hR.l hb));have C3:=Zh (fun (h:jQo (r.tl.map TB.tp)=true) W (hb:Below w.heap.size w W)=>kJr r hR.tn (xJP h) hR.sn W (hM.grow hb) (hR.t.grow hb) (hR.s.grow hb));have C4:=Zh (fun W (hb:Below w.heap.size w W)=>vJK r hR.un hR.uS hR.gn hR.gS hR.tt.2 W (hM.grow hb) (Row.grow hR.u hb) (Row.grow hR.g hb));have C5:=Zh (fun W (hb:Below w.heap.size w W)=>kJh r hR.sn hR.dn W (hM.grow hb) (hR.s.grow hb) (hR.d.grow hb));clear hM hR;unfold Xx;generalize jQo (r.tl.map TB.tp)=m1 at C1 C3 ⊢;generalize qJd r.ll=m2 at C2 ⊢;generalize qQP r=m3 at C3 ⊢;generalize zQk r=m4 at C4 ⊢;generalize zQ6 r=m5 at C5 ⊢;unfold RtB.agg at C3 C4 C5 ⊢;generalize r.tl.length=tn at *;generalize r.ll.length=ln at *;generalize r.sl.length=sn at *;generalize r.ul.length=un at *;generalize r.gl.length=gn at *;generalize r.dl.length=dn at *;obtain ⟨now,ta,tl,tc,la,ll,lc,sa,sl,sc,total,ua,ul,uc,ga,gl,gc,da,dl,dc⟩:=r;simp only at C1 C2 C3 C4 C5 ⊢;obtain ⟨VV,hVV⟩:∃ VV,errO (decide (0<=now)&&(decide (now<=1099511627775)&&(m1&&(m2&&(m3&&(m4&&m5))))))=VV:=⟨_,rfl⟩;rw [hVV];have HVV:=Zh hVV;clear hVV;have HS0:=Zh (Var.new w 28 [.int .i64 now,.slice ta tn tc,.slice la ln lc,.slice sa sn sc,.int .i64 total,.slice ua un uc,.slice ga gn gc,.slice da dn dc]);have HB0:=Zh (Qj (.cells #[.int .i64 now,.slice ta tn tc,.slice la ln lc,.slice sa sn sc,.int .i64 total,.slice ua un uc,.slice ga gn gc,.slice da dn dc] 28) (.refl w.heap.size w));go_enter Tryz.func31,Tryz.ntmps31;go_upto_region 1 with fail
 revert HS0 HB0;simp only [List.toArray];generalize w.alloc (.cells _ 28)=X;intro HS0 HB0;obtain ⟨s0,s1,s2,s3,s4,s5,s6,s7⟩:=v8 (HS0.out);have hzs:=HS0.out.lt
 by_cases h1:0<=now
 case neg=>
  have z1:now < 0:=by omega
  go_wp2_with fail;go_ret;exact ⟨Qy (by rw [<- HVV.out,decide_eq_false (show ¬ 0<=now by omega)];rfl),HB0.out⟩
 have z1:¬ now < 0:=by omega
 by_cases h2:now<=1099511627775
 case neg=>
  have z2:1099511627775 < now:=by omega
  go_wp2_with fail;go_ret;exact ⟨Qy (by rw [<- HVV.out,decide_eq_false (show ¬ now<=1099511627775 by omega),Bool.false_and,Bool.and_false];rfl),HB0.out⟩
 have z2:¬ 1099511627775 < now:=by omega
 have HV1:Hid (VV=errO (m1&&(m2&&(m3&&(m4&&m5))))):=Zh (by rw [<- HVV.out,decide_eq_true h1,decide_eq_true h2];rfl);clear HVV h1 h2;go_wp2_with fail;refine (C1.out _ HB0.out).mono ?_;rintro e w1 ⟨rfl,hb1⟩;have HB1:=Zh (Qk hb1 HB0.out);have HS1:=Zh (HS0.out.grow hb1);clear hb1 HB0 HS0 s0 s1 s2 s3 s4 s5 s6 s7 hzs;obtain ⟨s0,s1,s2,s3,s4,s5,s6,s7⟩:=v8 (HS1.out);have hzs:=HS1.out.lt;cases m1 with
 | false=>
  rw [show errV false=1 from rfl];go_wp2_with fail;go_ret;exact ⟨Qy (by rw [HV1.out];rfl),HB1.out⟩
 | true=>
  rw [show errV true=0 from rfl];go_wp2_with fail;refine (C2.out _ HB1.out).mono ?_;rintro e w2 ⟨rfl,hb2⟩;have HB2:=Zh (Qk hb2 HB1.out);have HS2:=Zh (HS1.out.grow hb2);clear hb2 HB1 HS1 s0 s1 s2 s3 s4 s5 s6 s7 hzs;obtain ⟨s0,s1,s2,s3,s4,s5,s6,s7⟩:=v8 (HS2.out);have hzs:=HS2.out.lt;cases m2 with
  | false=>
   rw [show errO false=1 from rfl];go_wp2_with fail;go_ret;exact ⟨Qy (by rw [HV1.out];rfl),HB2.out⟩
  | true=>
   rw [show errO true=0 from rfl];go_wp2_with fail;refine (C3.out trivial _ HB2.out).mono ?_;rintro e w3 ⟨rfl,hb3⟩;have HB3:=Zh (Qk hb3 HB2.out);have HS3:=Zh (HS2.out.grow hb3);clear hb3 HB2 HS2 s0 s1 s2 s3 s4 s5 s6 s7 hzs;obtain ⟨s0,s1,s2,s3,s4,s5,s6,s7⟩:=v8 (HS3.out);have hzs:=HS3.out.lt;cases m3 with
   | false=>
    go_wp2_with fail;go_ret;exact ⟨Qy (by rw [HV1.out];rfl),HB3.out⟩
   | true=>
    go_wp2_with fail;refine (C4.out _ HB3.out).mono ?_;rintro e w4 ⟨rfl,hb4⟩;have HB4:=Zh (Qk hb4 HB3.out);have HS4:=Zh (HS3.out.grow hb4);clear hb4 HB3 HS3 s0 s1 s2 s3 s4 s5 s6 s7 hzs;obtain ⟨s0,s1,s2,s3,s4,s5,s6,s7⟩:=v8 (HS4.out);have hzs:=HS4.out.lt;cases m4 with
    | false=>
     go_wp2_with fail;go_ret;exact ⟨Qy (by rw [HV1.out];rfl),HB4.out⟩
    | true=>
     go_wp2_with fail;refine (C5.out _ HB4.out).mono ?_;rintro e w5 ⟨rfl,hb5⟩;have HB5:=Zh (Qk hb5 HB4.out);have HS5:=Zh (HS4.out.grow hb5);clear hb5 HB4 HS4 s0 s1 s2 s3 s4 s5 s6 s7 hzs;obtain ⟨s0,s1,s2,s3,s4,s5,s6,s7⟩:=v8 (HS5.out);have hzs:=HS5.out.lt;cases m5 with
     | false=>
      go_wp2_with fail;go_ret;exact ⟨Qy (by rw [HV1.out];rfl),HB5.out⟩
     | true=>
      go_wp2_with fail;go_ret;exact ⟨Qy (by rw [HV1.out];rfl),HB5.out⟩
end Go.Proofs.YtcbicdencgjfiaaGreatDoor
namespace Go.Proofs.YtcbicdencgjfiaaGreatDoor
open Go Go.RowKit Tryst
def Y1 (j:JB) (l:List KpB) (i:Nat):Bool:=(decide (j.kind=⟨#[97,108,108]⟩)&&newK l i)||((decide (j.kind=⟨#[97,110,121]⟩)&&decide (i=0))||(decide (j.kind=⟨#[99,111,117,110,116]⟩)&&decide ((i:Int) < j.need)))
def kYV (j:JB) (l:List KpB) (k:Nat):Nat:=((List.range k).filter (Y1 j l)).length
theorem zY9 (j:JB) (l:List KpB) (k:Nat):kYV j l (k+1)=kYV j l k+(if Y1 j l k=true then 1 else 0):=by
 unfold kYV;rw [List.range_succ,List.filter_append,List.length_append]
 by_cases h:Y1 j l k=true
 · rw [if_pos h];simp [h]
 · rw [if_neg h];simp [h]
theorem zYW (j:JB) (l:List KpB) (k:Nat):kYV j l k<=k:=by
 have:=List.length_filter_le (Y1 j l) (List.range k)
 rwa [List.length_range] at this
def kYO (j:JB):Int:=if j.kind=⟨#[99,111,117,110,116]⟩ then j.need else if j.kind=⟨#[97,108,108]⟩ then j.parts else 1
def metJ (j:JB) (l:List KpB):Bool:=decide (kYO j<=(kYV j l l.length:Nat))
theorem kYq (m:Int):∀ n:Nat,((List.range n).filter (fun i:Nat=>decide ((i:Int) < m))).length=min n m.toNat
 | 0=>by simp
 | n+1=>by
  rw [List.range_succ,List.filter_append,List.length_append,kYq m n]
  by_cases h:(n:Int) < m
  · simp [h];omega
  · simp [h];omega
theorem vYI {j:JB} (hj:mayJ j=true) (l:List KpB):decide ((qQw j l).length=0)=!metJ j l:=by
 unfold mayJ at hj;simp only [Bool.and_eq_true,decide_eq_true_eq] at hj;obtain ⟨h1,h2,h3,h4,h5⟩:=hj;have ha:(⟨#[97,108,108]⟩:ByteArray)≠⟨#[97,110,121]⟩:=by decide
 have hb:(⟨#[97,108,108]⟩:ByteArray)≠⟨#[99,111,117,110,116]⟩:=by decide
 have hc:(⟨#[97,110,121]⟩:ByteArray)≠⟨#[99,111,117,110,116]⟩:=by decide
 unfold metJ qQw kYV
 by_cases k1:j.kind=⟨#[97,108,108]⟩
 ·
  have hf:Y1 j l=newK l:=by
   funext i
   unfold Y1;rw [k1,decide_eq_true rfl,decide_eq_false ha,decide_eq_false hb];simp
  have hn:kYO j=j.parts:=by unfold kYO;rw [if_neg (by rw [k1];exact hb),if_pos k1]
  rw [if_pos k1,hn,hf]
  change decide ((if ((Jw l l.length).length:Int) < j.parts then [] else Jw l l.length).length=0)=!decide (j.parts<=((Jw l l.length).length:Int))
  generalize Jw l l.length=m
  by_cases hm:(m.length:Int) < j.parts
  · rw [if_pos hm,decide_eq_false (show ¬ j.parts<=(m.length:Int) by omega)];rfl
  · rw [if_neg hm,decide_eq_true (show j.parts<=(m.length:Int) by omega),decide_eq_false (by omega)];rfl
 ·
  rw [if_neg k1]
  by_cases k2:j.kind=⟨#[97,110,121]⟩
  ·
   have hf:Y1 j l=fun i:Nat=>decide ((i:Int) < 1):=by
    funext i
    unfold Y1;rw [k2,decide_eq_true rfl,decide_eq_false (Ne.symm ha),decide_eq_false hc];simp;omega
   have hn:kYO j=1:=by unfold kYO;rw [if_neg (by rw [k2];exact hc),if_neg k1]
   rw [if_pos k2,hn,hf,kYq]
   by_cases hm:1<=l.length
   · rw [if_pos hm,decide_eq_true (show (1:Int)<=(min l.length (1:Int).toNat:Nat) by omega)];rfl
   · rw [if_neg hm,decide_eq_false (show ¬ (1:Int)<=(min l.length (1:Int).toNat:Nat) by omega)];rfl
  ·
   rw [if_neg k2]
   by_cases k3:j.kind=⟨#[99,111,117,110,116]⟩
   ·
    have hf:Y1 j l=fun i:Nat=>decide ((i:Int) < j.need):=by
     funext i
     unfold Y1;rw [k3,decide_eq_true rfl,decide_eq_false (Ne.symm hc),decide_eq_false (Ne.symm hb)];simp
    rw [if_neg (by rw [k3];exact fun h=>h.elim (Ne.symm hb) (Ne.symm hc)),if_pos k3,Bool.and_eq_true,decide_eq_true_eq,decide_eq_true_eq] at h5;have hn:kYO j=j.need:=by unfold kYO;rw [if_pos k3]
    rw [if_pos k3,hn,hf,kYq]
    by_cases hm:j.need<=(l.length:Int)
    · rw [if_pos hm,decide_eq_true (show j.need<=(min l.length j.need.toNat:Nat) by omega),List.length_range,decide_eq_false (by omega)];rfl
    · rw [if_neg hm,decide_eq_false (show ¬ j.need<=(min l.length j.need.toNat:Nat) by omega)];rfl
   · rw [if_neg (fun h=>h.elim k1 k2),if_neg k3] at h5;cases h5
theorem zYi (j:JB) (l:List KpB):qQg j l=(mayJ j&&(decide (l.length < 30)&&(okH (kQB j.parts) [] l&&!metJ j l))):=by
 unfold qQg;cases h:mayJ j with
 | false=>rfl
 | true=>rw [vYI h]
def allI (l:List InB):List KpB:=l.flatMap (·.l)
def kYR (p:List KpB) (x:KpB):Bool:=!(p.any (fun y=>(y.id:Int)==(x.id:Int)))
def mayI (j:JB) (q:Option InB) (x:InB):Bool:=V.mayB x.key&&(decide (x.l.length≠0)&&(qQg j x.l&&(match q with | none=>true | some q=>decide (V.order q.key x.key < 0))))
theorem zYN {α:Type} (f:List α->α->Bool):∀ (l m p:List α),okH f p (l++m)=(okH f p l&&okH f (p++l) m)
 | [],m,p=>by simp [okH]
 | x :: l,m,p=>by
  rw [List.cons_append,okH,okH,zYN f l m,List.append_assoc,Bool.and_assoc];rfl
theorem kYs (p:List InB):∀ (l q:List KpB),okH (kQG p) q l=okH kYR (allI p++q) l
 | [],q=>rfl
 | x :: l,q=>by
  rw [okH,okH,kYs p l,List.append_assoc]
  congr 1
  unfold kQG kYR idsK allI;rw [List.any_append,List.any_flatMap]
  congr 2
  ·
   congr 1
   funext y
   congr 1
   funext z
   rw [Bool.eq_iff_iff,decide_eq_true_eq,beq_iff_eq];omega
  ·
   congr 1
   funext z
   rw [Bool.eq_iff_iff,decide_eq_true_eq,beq_iff_eq];omega
theorem vYB (j:JB):∀ (l p:List InB),okH (kQ6 j) p l=(okK (mayI j) p.getLast? l&&okH kYR (allI p) (allI l))
 | [],p=>rfl
 | x :: l,p=>by
  rw [okH,okK,vYB j l];have e1:allI (p++[x])=allI p++x.l:=by simp [allI]
  have e2:allI (x :: l)=x.l++allI l:=by simp [allI]
  rw [e1,e2,zYN];have e3:(p++[x]).getLast?=some x:=by simp
  rw [e3];unfold kQ6 mayI;rw [kYs,List.append_nil];generalize okH kYR (allI p) x.l=a;generalize okH kYR (allI p++x.l) (allI l)=b;generalize okK _ _ _=c;generalize V.mayB x.key=d;generalize decide (x.l.length≠0)=e;generalize qQg j x.l=f
  rcases p.getLast? with _ | q
  · simp only;cases a<;>cases b<;>cases c<;>cases d<;>cases e<;>cases f<;>rfl
  · simp only;generalize decide (V.order q.key x.key < 0)=g;cases a<;>cases b<;>cases c<;>cases d<;>cases e<;>cases f<;>cases g<;>rfl
theorem zYX (j:JB) (l:List InB):qQM j l=(okK (mayI j) none l&&(okH kYR [] (allI l)&&(mayJ j&&decide (l.length<=40)))):=by
 unfold qQM;rw [vYB];show (_&&(_&&(okK (mayI j) none l&&okH kYR [] (allI l))))=_;generalize mayJ j=a;generalize decide (l.length<=40)=b;generalize okK (mayI j) none l=c;generalize okH kYR [] (allI l)=d;cases a<;>cases b<;>cases c<;>cases d<;>rfl
theorem zYR:∀ (l:List UB) (q:Option UB),okK mayU q l=true->(∀ x∈l,∀ p,q=some p->p.id < x.id)/\∀ x∈l,∀ y,l.getLast?=some y->x.id<=y.id
 | [],q,_=>⟨fun x hx=>(by cases hx),fun x hx=>(by cases hx)⟩
 | x :: l,q,h=>by
  rw [okK,Bool.and_eq_true] at h;obtain ⟨h1,h2⟩:=zYR l (some x) h.2
  have h0:∀ p,q=some p->p.id < x.id:=fun p hp=>by
   have:=h.1;unfold mayU at this;rw [hp,Bool.and_eq_true] at this;exact of_decide_eq_true this.2
  refine ⟨fun y hy p hp=>?_,fun y hy z hz=>?_⟩
  ·
   rcases List.mem_cons.1 hy with rfl | hy
   · exact h0 p hp
   · exact Nat.lt_trans (h0 p hp) (h1 y hy x rfl)
  ·
   cases l with
   | nil=>
    simp at hz hy;rw [hy,<- hz];exact Nat.le_refl _
   | cons u l=>
    rw [List.getLast?_cons_cons] at hz
    rcases List.mem_cons.1 hy with rfl | hy
    · exact Nat.le_of_lt (h1 z (List.mem_of_getLast? hz) y rfl)
    · exact h2 y hy z hz
theorem kYo {l:List UB} (h:okK mayU none l=true) (total:Int):zQF total l=l.all (fun x=>decide ((x.id:Int)<=total)):=by
 obtain ⟨_,h2⟩:=zYR l none h;unfold zQF;rw [Bool.eq_iff_iff,List.all_eq_true];cases hz:l.getLast? with
 | none=>
  rw [List.getLast?_eq_none_iff] at hz;subst hz;simp
 | some z=>
  simp only [decide_eq_true_eq];refine ⟨fun h x hx=>?_,fun h=>h z (List.mem_of_getLast? hz)⟩;have:=h2 x hx z hz;omega
theorem kYc:∀ (u g:List UB) (p q:Option UB),okK mayU p u=true->okK mayU q g=true->jQ5 u g=u.all (fun x=>!(g.any (fun y=>decide (y.id=x.id))))
 | [],g,_,_,_,_=>by rw [jQ5];rfl
 | x :: u,[],_,_,_,_=>by rw [jQ5];simp
 | x :: u,y :: g,p,q,hu,hg=>by
  have hu':=hu;have hg':=hg;rw [okK,Bool.and_eq_true] at hu' hg';obtain ⟨a1,_⟩:=zYR u (some x) hu'.2;obtain ⟨b1,_⟩:=zYR g (some y) hg'.2;rw [jQ5]
  by_cases h1:x.id=y.id
  ·
   rw [if_pos h1]
   symm
   simp [h1]
  ·
   rw [if_neg h1]
   by_cases h2:x.id < y.id
   ·
    rw [if_pos h2,kYc u (y :: g) (some x) q hu'.2 hg,List.all_cons]
    have:(y :: g).any (fun z=>decide (z.id=x.id))=false:=by
     rw [List.any_eq_false];intro z hz;rw [decide_eq_true_eq]
     rcases List.mem_cons.1 hz with rfl | hz
     · omega
     · have:=b1 z hz y rfl;omega
    rw [this];simp
   ·
    rw [if_neg h2,kYc (x :: u) g p (some y) hu hg'.2];rw [Bool.eq_iff_iff,List.all_eq_true,List.all_eq_true]
    have key:∀ z∈x :: u,decide (y.id=z.id)=false:=fun z hz=>by
     rw [decide_eq_false_iff_not]
     rcases List.mem_cons.1 hz with rfl | hz
     · omega
     · have:=a1 z hz x rfl;omega
    constructor
    · intro h z hz;rw [List.any_cons,key z hz,Bool.false_or];exact h z hz
    · intro h z hz;have:=h z hz;rw [List.any_cons,key z hz,Bool.false_or] at this;exact this
termination_by u g=>u.length+g.length
def endT (tl:List TB) (n:ByteArray):Int:=match zQZ (tl.map TB.tp) n with | none=>-1 | some i=>match tl[i]? with | some t=>t.first+t.log.length | none=>-1
def leT (tl:List TB) (o:OB):Bool:=decide (o.next<=endT tl o.topic)
theorem zY3 {α:Type} {f g:α->Bool}:∀ {l:List α},(∀ x∈l,f x=g x)->l.all f=l.all g
 | [],_=>rfl
 | x :: l,h=>by rw [List.all_cons,List.all_cons,h x (List.mem_cons_self ..),zY3 (fun y hy=>h y (List.mem_cons_of_mem _ hy))]
theorem vYF (ol:List OB) (tl:List TB):qJb ol tl=(vQ9 ol&&ol.all (leT tl)):=by
 unfold qJb;cases h:vQ9 ol with
 | false=>rfl
 | true=>
  rw [Bool.true_and,Bool.true_and];refine zY3 fun o ho=>?_
  unfold vQ9 at h;rw [Bool.and_eq_true] at h;have h1:=vYY h.2 o ho;unfold oMay at h1;rw [Bool.and_eq_true,decide_eq_true_eq] at h1;have h2:=h1.2;unfold upT leT endT
  rcases zQZ (tl.map TB.tp) o.topic with _ | i
  · exact (decide_eq_false (by show ¬ o.next<=-1;omega)).symm
  ·
   show (match tl[i]? with | some t=>decide (o.next<=t.first+t.log.length) | none=>false)=decide (o.next<=match tl[i]? with | some t=>t.first+t.log.length | none=>-1)
   rcases tl[i]? with _ | t
   · exact (decide_eq_false (by show ¬ o.next<=-1;omega)).symm
   · rfl
theorem vYG (l:List InB) (f:KpB->Bool):l.all (fun y=>y.l.all f)=(allI l).all f:=by
 unfold allI;rw [List.all_flatMap]
theorem kYN:∀ l:List InB,Xj l=(allI l).length
 | []=>rfl
 | x :: l=>by
  rw [Xj,kYN l];simp [allI]
theorem zYD (r:RtB) (x:SubB):kQJ r x=((mayD x.d&&(vQ9 x.ol&&(qQM x.d.j x.il&&(decide (0<=x.fails)&&decide (x.fails<=2)))))&&(x.ol.all (leT r.tl)&&(qQ2 x&&(allI x.il).all (okW x.taken r.now)))):=by
 unfold kQJ kQ9;rw [vYF,vYG];have e:decide (x.fails < 3)=decide (x.fails<=2):=by rw [Bool.eq_iff_iff,decide_eq_true_eq,decide_eq_true_eq];omega
 rw [e];generalize mayD x.d=a;generalize vQ9 x.ol=b;generalize qQM x.d.j x.il=c;generalize decide (0<=x.fails)=d;generalize decide (x.fails<=2)=e;generalize x.ol.all (leT r.tl)=f;generalize qQ2 x=g;cases a<;>cases b<;>cases c<;>cases d<;>cases e<;>cases f<;>cases g<;>rfl
def outU (total:Int) (gl:List UB) (x:UB):Bool:=decide ((x.id:Int)<=total)&&!(gl.any (fun y=>decide (y.id=x.id)))
theorem zYJ {α:Type} (f g:α->Bool):∀ l:List α,l.all (fun x=>f x&&g x)=(l.all f&&l.all g)
 | []=>rfl
 | x :: l=>by
  rw [List.all_cons,List.all_cons,List.all_cons,zYJ f g l];generalize f x=a;generalize g x=b;generalize l.all f=c;cases a<;>cases b<;>cases c<;>rfl
theorem zYB (r:RtB):zQk r=((decide (0<=r.total)&&(xQ8 r.ul&&xQ8 r.gl))&&(r.ul.all (outU r.total r.gl)&&r.gl.all (fun x=>decide ((x.id:Int)<=r.total)))):=by
 unfold zQk;cases hu:xQ8 r.ul with
 | false=>cases decide (0<=r.total)<;>rfl
 | true=>
  cases hg:xQ8 r.gl with
  | false=>cases decide (0<=r.total)<;>rfl
  | true=>
   unfold xQ8 at hu hg;rw [Bool.and_eq_true] at hu hg;rw [kYo hu.1,kYo hg.1,kYc _ _ _ _ hu.1 hg.1];unfold outU;rw [zYJ];generalize decide (0<=r.total)=a;generalize List.all r.ul _=b;generalize List.all r.gl _=c;generalize List.all r.ul _=d;cases a<;>cases b<;>cases c<;>cases d<;>rfl
theorem zYc (r:RtB):Xx r=((decide (0<=r.now)&&(decide (r.now<=1099511627775)&&(decide (0<=r.total)&&(decide (r.sl.length<=8)&&(decide (r.dl.length<=40)&&(jQo (r.tl.map TB.tp)&&(qJd r.ll&&(xQ8 r.ul&&xQ8 r.gl))))))))&&(okK (jQr r) none r.sl&&(r.ul.all (outU r.total r.gl)&&(r.gl.all (fun x=>decide ((x.id:Int)<=r.total))&&r.dl.all (qQl r.sl))))):=by
 unfold Xx qQP zQ6;rw [zYB];generalize decide (0<=r.now)=a;generalize decide (r.now<=1099511627775)=b;generalize decide (0<=r.total)=c;generalize decide (r.sl.length<=8)=d;generalize decide (r.dl.length<=40)=e;generalize jQo (r.tl.map TB.tp)=f;generalize qJd r.ll=g;generalize xQ8 r.ul=h;generalize xQ8 r.gl=i;generalize okK (jQr r) none r.sl=j;cases a<;>cases b<;>cases c<;>try rfl
 all_goals (cases d<;>cases e<;>cases f<;>cases g<;>cases h<;>cases i<;>cases j<;>simp [Bool.and_assoc])
