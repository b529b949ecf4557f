import Derived.Test.YtcbicdencgjfiaaGreatDoorInsC
set_option linter.all false
set_option maxHeartbeats 4000000
set_option maxRecDepth 20000
namespace Go.Proofs.YtcbicdencgjfiaaGreatDoor
open Go Go.RowKit Tryst
structure SubB where
 d:DB
 oa:Option Addr
 ol:List OB
 oc:Nat
 ia:Option Addr
 il:List InB
 ic:Nat
 fails:Int
 taken:Int
 passes:Int
 fires:Int
 over:Int
def SubB.cells (x:SubB):List Value:=[.string x.d.name,.slice x.d.ga x.d.gl.length x.d.gc,.slice x.d.wa x.d.wl.length x.d.wc,.string x.d.key,.string x.d.j.kind,.int .i64 x.d.j.parts,.int .i64 x.d.j.need,.int .i64 x.d.j.window,.slice x.oa x.ol.length x.oc,.slice x.ia x.il.length x.ic,.int .i64 x.fails,.int .i64 x.taken,.int .i64 x.passes,.int .i64 x.fires,.int .i64 x.over]
def SubB.agg (x:SubB):Value:=.agg #[.string x.d.name,.slice x.d.ga x.d.gl.length x.d.gc,.slice x.d.wa x.d.wl.length x.d.wc,.string x.d.key,.string x.d.j.kind,.int .i64 x.d.j.parts,.int .i64 x.d.j.need,.int .i64 x.d.j.window,.slice x.oa x.ol.length x.oc,.slice x.ia x.il.length x.ic,.int .i64 x.fails,.int .i64 x.taken,.int .i64 x.passes,.int .i64 x.fires,.int .i64 x.over]
structure SubO (w:World) (x:SubB):Prop where
 d:DO w x.d
 o:Offs w x.oa x.ol
 os:∀ y∈x.ol,y.topic.size<=1500000
 ol:x.ol.length<=1500000
 i:Insts w x.ia x.il
 il:x.il.length<=1500000
 iL:∀ y∈x.il,y.l.length<=1500000
 iS:∀ y∈x.il,y.s.size<=1500000
 ct:Xj x.il<=1000000000
 r1:-9223372036854775808<=x.fails/\x.fails<=9223372036854775807
 r2:-9223372036854775808<=x.taken/\x.taken<=9223372036854775807
 r3:-9223372036854775808<=x.passes/\x.passes<=9223372036854775807
 r4:-9223372036854775808<=x.fires/\x.fires<=9223372036854775807
 r5:-9223372036854775808<=x.over/\x.over<=9223372036854775807
theorem SubO.grow {w W:World} {x:SubB} (h:SubO w x) (hb:Below w.heap.size w W):SubO W x:=⟨h.d.grow hb,Row.grow h.o hb,h.os,h.ol,h.i.grow hb,h.il,h.iL,h.iS,h.ct,h.r1,h.r2,h.r3,h.r4,h.r5⟩
structure SubAt (w:World) (b o:Nat) (x:SubB):Prop where
 c0:w.cell? ⟨b,o,none⟩=some (.string x.d.name)
 c1:w.cell? ⟨b,o+1,none⟩=some (.slice x.d.ga x.d.gl.length x.d.gc)
 c2:w.cell? ⟨b,o+2,none⟩=some (.slice x.d.wa x.d.wl.length x.d.wc)
 c3:w.cell? ⟨b,o+3,none⟩=some (.string x.d.key)
 c4:w.cell? ⟨b,o+4,none⟩=some (.string x.d.j.kind)
 c5:w.cell? ⟨b,o+5,none⟩=some (.int .i64 x.d.j.parts)
 c6:w.cell? ⟨b,o+6,none⟩=some (.int .i64 x.d.j.need)
 c7:w.cell? ⟨b,o+7,none⟩=some (.int .i64 x.d.j.window)
 c8:w.cell? ⟨b,o+8,none⟩=some (.slice x.oa x.ol.length x.oc)
 c9:w.cell? ⟨b,o+9,none⟩=some (.slice x.ia x.il.length x.ic)
 c10:w.cell? ⟨b,o+10,none⟩=some (.int .i64 x.fails)
 c11:w.cell? ⟨b,o+11,none⟩=some (.int .i64 x.taken)
 c12:w.cell? ⟨b,o+12,none⟩=some (.int .i64 x.passes)
 c13:w.cell? ⟨b,o+13,none⟩=some (.int .i64 x.fires)
 c14:w.cell? ⟨b,o+14,none⟩=some (.int .i64 x.over)
structure Subs (w:World) (a:Option Addr) (l:List SubB):Prop where
 row:Row w a 15 (l.map SubB.cells)
 mem:∀ x∈l,SubO w x
theorem Subs.grow {w W:World} {a:Option Addr} {l:List SubB} (h:Subs w a l) (hb:Below w.heap.size w W):Subs W a l:=⟨h.row.grow hb,fun x hx=>(h.mem x hx).grow hb⟩
theorem Subs.at {w:World} {b o:Nat} {l:List SubB} (h:Subs w (some ⟨b,o,none⟩) l) {i:Nat} (hi:i < l.length):b < w.heap.size/\SubAt w b (o+i*15) l[i]:=by
 obtain ⟨h1,h2⟩:=Row.at h.row (i:=i) (by simpa using hi);simp only [List.getElem_map] at h2;exact ⟨h1,h2 0 (by omega),h2 1 (by omega),h2 2 (by omega),h2 3 (by omega),h2 4 (by omega),h2 5 (by omega),h2 6 (by omega),h2 7 (by omega),h2 8 (by omega),h2 9 (by omega),h2 10 (by omega),h2 11 (by omega),h2 12 (by omega),h2 13 (by omega),h2 14 (by omega)⟩
theorem Subs.head {w:World} {a:Option Addr} {l:List SubB} (h:Subs w a l) {i:Nat} (hi:i < l.length):∃ b o,a=some ⟨b,o,none⟩/\b < w.heap.size:=Row.head h.row (by simpa using hi)
theorem kQy {α:Type} {f:α->Bool} {l:List α} {k:Nat} (h:k < l.length):(l.drop k).all f=(f l[k]&&(l.drop (k+1)).all f):=by
 rw [List.drop_eq_getElem_cons h,List.all_cons]
theorem zQp {α:Type} {f:α->Bool} {l:List α} {k:Nat} (h:l.length<=k):(l.drop k).all f=true:=by
 rw [List.drop_eq_nil_of_le h];rfl
def AlH {α:Type} (f:α->Bool) (w:World) (l:List α) (R:Bool) (i:Value) (wr:World):Prop:=∃ k:Nat,k<=l.length/\i=.int .i64 k/\Hid (R=(l.drop k).all f)/\Hid (Below w.heap.size w wr)
def upT (tl:List TB) (o:OB):Bool:=match zQZ (tl.map TB.tp) o.topic with | none=>false | some i=>match tl[i]? with | some t=>decide (o.next<=t.first+t.log.length) | none=>false
def qJb (ol:List OB) (tl:List TB):Bool:=vQ9 ol&&ol.all (upT tl)
theorem jYl (t:TB) (h1:0<=t.first) (h2:t.first<=1000000000000000) (hl:t.log.length<=1000000000) (w:World) :
  Calls Tryz.prog 212 #[tV t] w fun e w'=>e=.returned (.int .i64 (t.first+t.log.length))/\Below w.heap.size w w':=by
 unfold tV;go_enter Tryz.func212,Tryz.ntmps212;go_wp2_with fail;go_ret;exact ⟨rfl,Qj _ (.refl _ _)⟩
theorem kJQ (x:SubB) (n:ByteArray) (A:Addr) (w:World) (hc:w.cell? A=some (.string n)) (hb:A.block < w.heap.size):Calls Tryz.prog 190 #[x.agg,.pointer (some A)] w fun e w'=>e=.returned (.bool (x.d.name.toList==n.toList))/\Below w.heap.size w w':=by
 obtain ⟨b,o,z⟩:=A;unfold SubB.agg;go_enter Tryz.func190,Tryz.ntmps190;go_wp2_with fail;go_ret;exact ⟨rfl,Qj _ (.refl _ _)⟩
theorem vJ4 (n:ByteArray) (A:Addr) (a:Option Addr) (c:Nat) (l:List SubB) (hl:l.length<=1500000) (w:World) (hO:Subs w a l) (hA:w.cell? A=some (.string n)) (hAb:A.block < w.heap.size) :
  Calls Tryz.prog 189 #[.slice a l.length c,.func (.func 190) #[] #[.pointer (some A)]] w fun e w'=>e=.returned (.int .i64 (idxG (fun x:SubB=>x.d.name.toList==n.toList) l))/\Below w.heap.size w w':=by
 have HF:=Zh (fun W (hb:Below w.heap.size w W)=>hO.grow hb);have HC:=Zh (fun (k:Nat) (hk:k < l.length) W (hb:Below w.heap.size w W)=>kJQ l[k] n A W ((hb.cell hAb).trans hA) (Nat.lt_of_lt_of_le hAb hb.size));unfold SubB.agg at HC;clear hO hA;go_enter Tryz.func189,Tryz.ntmps189;go_wp2_with fail;go_loopw [8] (fun i wr=>qJu (fun x:SubB=>x.d.name.toList==n.toList) l w i wr) (fun i _=>l.length - (intOf i).toNat)
 case atStart=>exact ⟨0,by omega,rfl,fun _ _ h=>by omega,.refl _ _,by omega⟩
 case round=>
  obtain ⟨k,hk,rfl,HR,HW,hz⟩:=hrel;obtain ⟨wo,rfl⟩:∃ wo,wo=wr:=⟨_,rfl⟩
  by_cases hlt:k < l.length
  ·
   obtain ⟨b,o,ha,hb⟩:=(HF.out wo HW.out).head hlt;subst ha;have HCC:=Zh (HC.out k hlt);obtain ⟨pp,hpp⟩:∃ pp,(l[k].d.name.toList==n.toList)=pp:=⟨_,rfl⟩;have HPP:=Zh hpp;clear hpp;obtain ⟨_,f0,f1,f2,f3,f4,f5,f6,f7,f8,f9,f10,f11,f12,f13,f14⟩:=(HF.out wo HW.out).at hlt;go_wp2_with fail;refine (HCC.out _ HW.out).mono ?_;rintro e w2 ⟨rfl,hb2⟩;have HB2:=Zh (Qk hb2 HW.out);clear hb2 HCC;rw [show (l[k].d.name.toList==n.toList)=pp from HPP.out];cases pp with
   | true=>
    have HI:=Zh (jJO (p:=fun x:SubB=>x.d.name.toList==n.toList) hlt HR.out HPP.out);clear HR;go_wp2_with fail;go_ret;exact ⟨Qy HI.out.symm,HB2.out⟩
   | false=>
    have HI:=Zh (xQ6 (p:=fun x:SubB=>x.d.name.toList==n.toList) hlt HR.out HPP.out);clear HR;go_wp2_with fail;go_roundw
    case rel=>exact ⟨k+1,by omega,by go_num,HI.out,HB2.out,HB2.out.size⟩
    case measure=>simp [intOf]<;>omega
  · have HI:=Zh (kJ7 (p:=fun x:SubB=>x.d.name.toList==n.toList) (by omega:l.length<=k) HR.out);clear HR;go_wp2_with fail;go_ret;exact ⟨Qy HI.out.symm,HW.out⟩
theorem zJi (a:Option Addr) (c:Nat) (l:List SubB) (n:ByteArray) (hl:l.length<=1500000) (w:World) (hO:Subs w a l) :
  Calls Tryz.prog 137 #[.slice a l.length c,.string n] w fun e w'=>e=.returned (.int .i64 (idxG (fun x:SubB=>x.d.name.toList==n.toList) l))/\Below w.heap.size w w':=by
 have CI:=Zh (fun A W (hb:Below w.heap.size w W) h1 h2=>vJ4 n A a c l hl W (hO.grow hb) h1 h2);generalize idxG (fun x:SubB=>x.d.name.toList==n.toList) l=R at CI ⊢;clear hO;have HB0:=Zh (Qj (.cells #[.string n] 9) (.refl w.heap.size w));go_enter Tryz.func137,Tryz.ntmps137;go_wp2_with fail;refine (CI.out ⟨w.heap.size,0,none⟩ _ HB0.out (by simp [go_sem]) (by simp)).mono ?_;rintro e w1 ⟨rfl,hb1⟩;have HB1:=Zh (Qk hb1 HB0.out);clear hb1;go_wp2_with fail;go_ret;exact ⟨rfl,HB1.out⟩
end Go.Proofs.YtcbicdencgjfiaaGreatDoor
namespace Go.Proofs.YtcbicdencgjfiaaGreatDoor
open Go Go.RowKit Tryst
theorem xJ2 {l:List TB} {n:ByteArray} {i:Nat} (h:zQZ (l.map TB.tp) n=some i):i < l.length:=by
 unfold zQZ at h;rw [List.findIdx?_eq_some_iff_getElem] at h;obtain ⟨hi,_⟩:=h
 simpa using hi
theorem xJG (a:Option Addr) (c:Nat) (l:List OB) (ta:Option Addr) (tc:Nat) (tl:List TB) (hl:l.length<=1500000) (hs:∀ x∈l,x.topic.size<=1500000) (htl:tl.length<=1500000) (ht:∀ t∈tl,0<=t.first/\t.first<=1000000000000000/\t.log.length<=1500000) (w:World) (hM:MaxW w) (hO:Offs w a l) (hT:Tops w ta tl) :
  Calls Tryz.prog 181 #[.slice a l.length c,.slice ta tl.length tc] w fun e w'=>e=.returned (.bool (qJb l tl))/\Below w.heap.size w w':=by
 have HF:=Zh (fun W (hb:Below w.heap.size w W)=>OfR.mk (Row.grow hO hb));have HT:=Zh (fun W (hb:Below w.heap.size w W)=>hT.grow hb);have CO:=Zh (zJw a c l hl (fun x hx=>by have:=hs x hx;omega) w hM hO);have CF:=Zh (fun (n:ByteArray) W (hb:Below w.heap.size w W)=>xJ9 n ta tc tl (by omega) W (hT.grow hb))
 have CE:=Zh (fun (i:Nat) (hi:i < tl.length) W=>by
  obtain ⟨h1,h2,h3⟩:=ht _ (List.getElem_mem hi);exact jYl tl[i] h1 h2 (by omega) W)
 clear hO hT hs ht hM;obtain ⟨R,hRR⟩:∃ R,l.all (upT tl)=R:=⟨_,rfl⟩;obtain ⟨co,hco⟩:∃ co,vQ9 l=co:=⟨_,rfl⟩;unfold qJb;rw [hRR,hco];rw [hco] at CO;have HR:Hid (R=(l.drop 0).all (upT tl)):=Zh (by rw [<- hRR];rfl);clear hRR hco;go_enter Tryz.func181,Tryz.ntmps181;go_wp2_with fail;refine CO.out.mono ?_;rintro e w1 ⟨rfl,hb1⟩;have HB1:=Zh hb1;clear hb1 CO;cases co with
 | false=>
  rw [show errO false=1 from rfl];go_wp2_with fail;go_ret;exact ⟨rfl,HB1.out⟩
 | true=>
  rw [show errO true=0 from rfl];go_wp2_with fail;go_loopw [14] (fun i wr=>AlH (upT tl) w l R i wr) (fun i _=>l.length - (intOf i).toNat)
  case atStart=>exact ⟨0,by omega,rfl,HR,HB1⟩
  case round=>
   clear HR HB1;obtain ⟨k,hk,rfl,HP,HW⟩:=hrel;obtain ⟨wo,rfl⟩:∃ wo,wo=wr:=⟨_,rfl⟩
   by_cases hlt:k < l.length
   ·
    obtain ⟨b,o,ha,hb⟩:=Row.head (HF.out wo HW.out).r (i:=k) (by simpa using hlt);subst ha;obtain ⟨_,f0,f1⟩:=(HF.out wo HW.out).r.at hlt;have HST:Hid (R=(upT tl l[k]&&(l.drop (k+1)).all (upT tl))):=Zh (HP.out.trans (kQy hlt));have x1:(k:Int) < l.length:=by omega
    have x2:(0:Int)<=k:=by omega
    have HK:=Zh (Qk (Qj (.cells #[.string l[k].topic,.int .i64 l[k].next] 126) (.refl wo.heap.size wo)) HW.out);have D:=Zh (CF.out l[k].topic);unfold upT at HST;clear HP;cases hfi:zQZ (tl.map TB.tp) l[k].topic with
    | none=>
     have HN:Hid (R=false):=Zh (by rw [HST.out,hfi];rfl);rw [hfi] at D;clear HST hfi;go_wp2_with fail;refine (D.out _ HK.out).mono ?_;rintro e w2 ⟨rfl,hb2⟩;have HB2:=Zh (Qk hb2 HK.out);clear hb2 D;unfold kJB;simp only [Option.getD_none,Option.isSome_none];go_upto_region 7 with fail
     refine Tryst2.wp_region_text 12 (by kernel_rfl) (by kernel_rfl) ?_
     iterate 12 ((first | refine Tryst2.TW.skip (by rfl) ?_ | (refine' Tryst2.TW.op _ ?_ (by rfl) ?_;rotate_left;focus (intro w' hg;obtain ⟨hcg,hfg,hsg⟩:=YG hg;first | (go_simp;done) | (go_simp;with_reducible rfl) )));simp only [Act.put,List.setIfInBounds_toArray,List.set_cons_zero,List.set_cons_succ])
     intro w' hg;obtain ⟨hcg,hfg,hsg⟩:=YG hg
     try change wpList _ _ _ [] _ _
     have HB9:=Zh (Tryst2.Grow.below hg HB2.out);clear hg hcg hfg hsg;go_wp2_with fail;go_ret;exact ⟨Qq (by rw [HN.out];rfl),HB9.out⟩
    | some i=> 
     have hi:=xJ2 hfi;rw [hfi] at D
     have HS2:Hid (R=(decide (l[k].next<=tl[i].first+tl[i].log.length)&&(l.drop (k+1)).all (upT tl))):=Zh (by
      rw [HST.out,hfi];simp only [List.getElem?_eq_getElem hi];rfl)
     have DE:=Zh (CE.out i hi);unfold tV at DE;have z1:(i:Int) < tl.length:=by omega
     have z2:(0:Int)<=i:=by omega
     have HBX:=Zh (Var.new wo 126 [.string l[k].topic,.int .i64 l[k].next]);clear HST hfi;go_wp2_with fail;refine (D.out _ HK.out).mono ?_;rintro e w2 ⟨rfl,hb2⟩;have HB2:=Zh (Qk hb2 HK.out);have HX2:=Zh (HBX.out.grow hb2);obtain ⟨b2,o2,ha2,hbz⟩:=(HT.out _ HB2.out).head hi;subst ha2;obtain ⟨_,⟨t0,t1,t2⟩,_,_⟩:=(HT.out _ HB2.out).at hi;clear hb2 D HBX HK f0 f1;generalize wo.heap.size=E at HX2 ⊢;obtain ⟨e0,e1⟩:=v2 (HX2.out);have hze:=HX2.out.lt;unfold kJB;simp only [Option.getD_some,Option.isSome_some];go_upto_region 7 with fail
     by_cases hle:l[k].next<=tl[i].first+tl[i].log.length
     ·
      have HN:Hid (R=(l.drop (k+1)).all (upT tl)):=Zh (by rw [HS2.out,decide_eq_true hle,Bool.true_and]);have z3:¬ (tl[i].first+tl[i].log.length < l[k].next):=by omega
      clear HS2;refine Tryst2.wp_region_text 12 (by kernel_rfl) (by kernel_rfl) ?_
      iterate 12 ((first | refine Tryst2.TW.skip (by rfl) ?_ | (refine' Tryst2.TW.op _ ?_ (by rfl) ?_;rotate_left;focus (intro w' hg;obtain ⟨hcg,hfg,hsg⟩:=YG hg;first | (go_simp;done) | (go_simp;with_reducible rfl) | (go_simp;go_at_call 212;refine (DE.out _).mono ?_;rintro e w5 ⟨rfl,hb5⟩;refine ⟨hb5,?_⟩;with_reducible rfl))));simp only [Act.put,List.setIfInBounds_toArray,List.set_cons_zero,List.set_cons_succ])
      intro w' hg;obtain ⟨hcg,hfg,hsg⟩:=YG hg
      try change wpList _ _ _ [] _ _
      have HB9:=Zh (Tryst2.Grow.below hg HB2.out);clear hg hcg hfg hsg;go_wp2_with fail;go_roundw
      case rel=>exact ⟨k+1,by omega,by go_num,HN,HB9⟩
      case measure=>simp [intOf]<;>omega
     ·
      have HN:Hid (R=false):=Zh (by rw [HS2.out,decide_eq_false hle,Bool.false_and]);have z3:tl[i].first+tl[i].log.length < l[k].next:=by omega
      clear HS2;refine Tryst2.wp_region_text 12 (by kernel_rfl) (by kernel_rfl) ?_
      iterate 12 ((first | refine Tryst2.TW.skip (by rfl) ?_ | (refine' Tryst2.TW.op _ ?_ (by rfl) ?_;rotate_left;focus (intro w' hg;obtain ⟨hcg,hfg,hsg⟩:=YG hg;first | (go_simp;done) | (go_simp;with_reducible rfl) | (go_simp;go_at_call 212;refine (DE.out _).mono ?_;rintro e w5 ⟨rfl,hb5⟩;refine ⟨hb5,?_⟩;with_reducible rfl))));simp only [Act.put,List.setIfInBounds_toArray,List.set_cons_zero,List.set_cons_succ])
      intro w' hg;obtain ⟨hcg,hfg,hsg⟩:=YG hg
      try change wpList _ _ _ [] _ _
      have HB9:=Zh (Tryst2.Grow.below hg HB2.out);clear hg hcg hfg hsg;go_wp2_with fail;go_ret;exact ⟨Qq (by rw [HN.out]),HB9.out⟩
   · have HN:Hid (R=true):=Zh (HP.out.trans (zQp (by omega:l.length<=k)));go_wp2_with fail;go_ret;exact ⟨Qq (by rw [HN.out];rfl),HW.out⟩
end Go.Proofs.YtcbicdencgjfiaaGreatDoor
namespace Go.Proofs.YtcbicdencgjfiaaGreatDoor
open Go Go.RowKit Tryst
def qQ2 (x:SubB):Bool:=decide (0<=x.taken)&&(decide (0<=x.passes)&&(decide (0<=x.fires)&&(decide (0<=x.over)&&(decide (x.fires<=x.taken)&&(decide (x.over<=x.taken - x.fires)&&decide (x.taken - x.fires - x.over=(Xj x.il:Nat)))))))
theorem kJf (x:SubB) (w:World) (hO:SubO w x) :
  Calls Tryz.prog 182 #[x.agg] w fun e w'=>e=.returned (.bool (qQ2 x))/\Below w.heap.size w w':=by
 have CI:=Zh (fun W (hb:Below w.heap.size w W)=>zJg x.ia x.ic x.il hO.il hO.ct W (hO.i.grow hb));obtain ⟨r0,r1⟩:=hO.r2;obtain ⟨r2,r3⟩:=hO.r4;have hct:=hO.ct;clear hO;obtain ⟨⟨nm,ga,gl,gc,wa,wl,wc,ky,⟨kd,ps,nd,wd⟩⟩,oa,ol,oc,ia,il,ic,fails,taken,passes,fires,over⟩:=x;unfold qQ2 SubB.agg;simp only at CI r0 r1 r2 r3 hct ⊢;obtain ⟨n,hn⟩:∃ n,Xj il=n:=⟨_,rfl⟩;rw [hn] at CI hct ⊢;clear hn;have HX:=Zh (Var.new w 68 [.string nm,.slice ga gl.length gc,.slice wa wl.length wc,.string ky,.string kd,.int .i64 ps,.int .i64 nd,.int .i64 wd,.slice oa ol.length oc,.slice ia il.length ic,.int .i64 fails,.int .i64 taken,.int .i64 passes,.int .i64 fires,.int .i64 over]);have HB0:=Zh (Qj (.cells #[.string nm,.slice ga gl.length gc,.slice wa wl.length wc,.string ky,.string kd,.int .i64 ps,.int .i64 nd,.int .i64 wd,.slice oa ol.length oc,.slice ia il.length ic,.int .i64 fails,.int .i64 taken,.int .i64 passes,.int .i64 fires,.int .i64 over] 68) (.refl w.heap.size w))
 by_cases h1:0<=taken
 case neg=>
  rw [decide_eq_false h1,Bool.false_and];go_enter Tryz.func182,Tryz.ntmps182;go_upto_region 1 with fail
  revert HX HB0;simp only [List.toArray];generalize w.alloc (.cells _ 68)=X;intro HX HB0;obtain ⟨x0,x1,x2,x3,x4,x5,x6,x7,x8,x9,x10,x11,x12,x13,x14⟩:=v15 (HX.out);have hzx:=HX.out.lt;go_wp2_with fail;go_ret;exact ⟨rfl,HB0.out⟩
 rw [decide_eq_true h1,Bool.true_and]
 by_cases h2:0<=passes
 case neg=>
  rw [decide_eq_false h2,Bool.false_and];go_enter Tryz.func182,Tryz.ntmps182;go_upto_region 1 with fail
  revert HX HB0;simp only [List.toArray];generalize w.alloc (.cells _ 68)=X;intro HX HB0;obtain ⟨x0,x1,x2,x3,x4,x5,x6,x7,x8,x9,x10,x11,x12,x13,x14⟩:=v15 (HX.out);have hzx:=HX.out.lt;go_wp2_with fail;go_ret;exact ⟨rfl,HB0.out⟩
 rw [decide_eq_true h2,Bool.true_and]
 by_cases h3:0<=fires
 case neg=>
  rw [decide_eq_false h3,Bool.false_and];go_enter Tryz.func182,Tryz.ntmps182;go_upto_region 1 with fail
  revert HX HB0;simp only [List.toArray];generalize w.alloc (.cells _ 68)=X;intro HX HB0;obtain ⟨x0,x1,x2,x3,x4,x5,x6,x7,x8,x9,x10,x11,x12,x13,x14⟩:=v15 (HX.out);have hzx:=HX.out.lt;go_wp2_with fail;go_ret;exact ⟨rfl,HB0.out⟩
 rw [decide_eq_true h3,Bool.true_and]
 by_cases h4:0<=over
 case neg=>
  rw [decide_eq_false h4,Bool.false_and];go_enter Tryz.func182,Tryz.ntmps182;go_upto_region 1 with fail
  revert HX HB0;simp only [List.toArray];generalize w.alloc (.cells _ 68)=X;intro HX HB0;obtain ⟨x0,x1,x2,x3,x4,x5,x6,x7,x8,x9,x10,x11,x12,x13,x14⟩:=v15 (HX.out);have hzx:=HX.out.lt;go_wp2_with fail;go_ret;exact ⟨rfl,HB0.out⟩
 rw [decide_eq_true h4,Bool.true_and]
 by_cases h5:fires<=taken
 case neg=>
  rw [decide_eq_false h5,Bool.false_and];go_enter Tryz.func182,Tryz.ntmps182;go_upto_region 1 with fail
  revert HX HB0;simp only [List.toArray];generalize w.alloc (.cells _ 68)=X;intro HX HB0;obtain ⟨x0,x1,x2,x3,x4,x5,x6,x7,x8,x9,x10,x11,x12,x13,x14⟩:=v15 (HX.out);have hzx:=HX.out.lt;go_wp2_with fail;go_ret;exact ⟨rfl,HB0.out⟩
 rw [decide_eq_true h5,Bool.true_and];have k1:¬ taken < 0:=by omega
 have k2:¬ passes < 0:=by omega
 have k3:¬ fires < 0:=by omega
 have k4:¬ over < 0:=by omega
 have k5:¬ taken < fires:=by omega
 obtain ⟨r,hr⟩:∃ r,taken - fires=r:=⟨_,rfl⟩;have y1:IntKind.i64.wrap (taken - fires)=r:=by rw [IntWalk.i64_in _ (by omega)];exact hr
 have q0:0<=r:=by omega
 have q1:r<=9223372036854775807:=by omega
 rw [hr];clear hr
 by_cases h6:over<=r
 ·
  have y2:IntKind.i64.wrap (r - over)=r - over:=by rw [IntWalk.i64_in _ (by omega)]
  rw [decide_eq_true h6,Bool.true_and];obtain ⟨eb,heb⟩:∃ eb,((r - over)==(n:Int))=eb:=⟨_,rfl⟩;have HEB:Hid (decide (r - over=(n:Int))=eb):=Zh (by rw [<- heb];by_cases h:r - over=(n:Int)<;>simp [h]);rw [HEB.out];go_enter Tryz.func182,Tryz.ntmps182;go_upto_region 1 with fail
  revert HX HB0;simp only [List.toArray];generalize w.alloc (.cells _ 68)=X;intro HX HB0;obtain ⟨x0,x1,x2,x3,x4,x5,x6,x7,x8,x9,x10,x11,x12,x13,x14⟩:=v15 (HX.out);have hzx:=HX.out.lt;go_upto_region 4 with fail
  refine Tryst2.wp_region_text 15 (by kernel_rfl) (by kernel_rfl) ?_
  iterate 15 ((first | refine Tryst2.TW.skip (by rfl) ?_ | (refine' Tryst2.TW.op _ ?_ (by rfl) ?_;rotate_left;focus (intro w' hg;obtain ⟨hcg,hfg,hsg⟩:=YG hg;first | (go_simp;done) | (go_simp;with_reducible rfl) | (go_simp;go_at_call 213;refine (CI.out _ (Tryst2.Grow.below hg HB0.out)).mono ?_;rintro e w5 ⟨rfl,hb5⟩;refine ⟨hb5,?_⟩;with_reducible rfl))));simp only [Act.put,List.setIfInBounds_toArray,List.set_cons_zero,List.set_cons_succ])
  intro w' hg;obtain ⟨hcg,hfg,hsg⟩:=YG hg
  try change wpList _ _ _ [] _ _
  have HB9:=Zh (Tryst2.Grow.below hg HB0.out);clear hg hcg hfg hsg;go_wp2_with fail;go_ret;exact ⟨Qq (by first | rfl | rw [heb]),HB9.out⟩
 ·
  rw [decide_eq_false h6,Bool.false_and];go_enter Tryz.func182,Tryz.ntmps182;go_upto_region 1 with fail
  revert HX HB0;simp only [List.toArray];generalize w.alloc (.cells _ 68)=X;intro HX HB0;obtain ⟨x0,x1,x2,x3,x4,x5,x6,x7,x8,x9,x10,x11,x12,x13,x14⟩:=v15 (HX.out);have hzx:=HX.out.lt;go_upto_region 4 with fail
  refine Tryst2.wp_region_text 15 (by kernel_rfl) (by kernel_rfl) ?_
  iterate 15 ((first | refine Tryst2.TW.skip (by rfl) ?_ | (refine' Tryst2.TW.op _ ?_ (by rfl) ?_;rotate_left;focus (intro w' hg;obtain ⟨hcg,hfg,hsg⟩:=YG hg;first | (go_simp;done) | (go_simp;with_reducible rfl) )));simp only [Act.put,List.setIfInBounds_toArray,List.set_cons_zero,List.set_cons_succ])
  intro w' hg;obtain ⟨hcg,hfg,hsg⟩:=YG hg
  try change wpList _ _ _ [] _ _
  have HB9:=Zh (Tryst2.Grow.below hg HB0.out);clear hg hcg hfg hsg;go_wp2_with fail;go_ret;exact ⟨Qq rfl,HB9.out⟩
