import Derived.IntWalk
import Derived.Test.YtcbicdencgjfiaaGreatDoorRdAB
import Derived.Test.YtcbicdencgjfiaaGreatDoorRowK
set_option linter.all false
set_option maxHeartbeats 400000
set_option maxRecDepth 20000
namespace Go.Proofs.YtcbicdencgjfiaaGreatDoor
open Go.RowKit Tryst
theorem of_c (s n:ByteArray) (hs:s.size<=1000000000) (w:World) (hM:MaxW w) :
  Calls Tryz.prog 180 #[.string s,.string n] w fun e w'=>e=.returned (.bool (ofB s n))/\Below w.heap.size w w':=by
 have ht:=kJ3 s hs w hM;obtain ⟨r,hr⟩:∃ r,qQB s.data.toList=r:=⟨_,rfl⟩;have hof:ofB s n=(decide (r.2.2=0)&&(decide (r.2.1=s.size)&&decide (r.1.topic=n.data.toList))):=by unfold ofB;rw [hr]
 rw [hr] at ht;rw [hof];clear hr hof hM;obtain ⟨E,k,ee⟩:=r;have HT:=Zh ht;clear ht;go_enter Tryz.func180,Tryz.ntmps180;go_wp2_with fail;refine HT.out.mono ?_;rintro e w1 ⟨a,c,rfl,hF,hS,hb⟩;clear hF hS;obtain ⟨T,hT⟩:∃ T:ByteArray,(⟨E.topic.toArray⟩:ByteArray)=T:=⟨_,rfl⟩;have hTd:E.topic=T.data.toList:=by rw [<- hT]
 rw [hT]
 by_cases he:ee=0
 ·
  subst he
  by_cases hk:k=s.size
  ·
   subst hk
   by_cases hn:T.data.toList=n.data.toList
   · have h1:(T.toList==n.toList)=true:=jYL hn;have HR:=Zh (show (decide ((0:Nat)=0)&&(decide (s.size=s.size)&&decide (E.topic=n.data.toList)))=true by rw [hTd];simp [hn]);clear hTd hn;go_wp2_with fail;go_ret;exact ⟨Qq HR.out.symm,Qj _ hb⟩
   · have h1:(T.toList==n.toList)=false:=jY9 hn;have HR:=Zh (show (decide ((0:Nat)=0)&&(decide (s.size=s.size)&&decide (E.topic=n.data.toList)))=false by rw [hTd];simp [hn]);clear hTd hn;go_wp2_with fail;go_ret;exact ⟨Qq HR.out.symm,Qj _ hb⟩
  · have h1:((k:Int)==(s.size:Int))=false:=beq_false_of_ne (by omega);have HR:=Zh (show (decide ((0:Nat)=0)&&(decide (k=s.size)&&decide (E.topic=n.data.toList)))=false by simp [hk]);clear hTd hk;go_wp2_with fail;go_ret;exact ⟨Qq HR.out.symm,Qj _ hb⟩
 · have h1:((ee:Int)==0)=false:=beq_false_of_ne (by omega);have HR:=Zh (show (decide (ee=0)&&(decide (k=s.size)&&decide (E.topic=n.data.toList)))=false by simp [he]);clear hTd he;go_wp2_with fail;go_ret;exact ⟨Qq HR.out.symm,Qj _ hb⟩
def tV (t:TB):Value:=.agg #[.string t.name,.int .i64 t.first,.slice t.la t.log.length t.lc]
theorem xQU (t:TB) (n:ByteArray) (a:Addr) (w:World) (hc:w.cell? a=some (.string n)) (hb:a.block < w.heap.size) :
  Calls Tryz.prog 227 #[tV t,.pointer (some a)] w fun e w'=>e=.returned (.bool (t.name.toList==n.toList))/\Below w.heap.size w w':=by
 obtain ⟨b,o,x⟩:=a;unfold tV;go_enter Tryz.func227,Tryz.ntmps227;go_wp2_with fail;go_ret;exact ⟨rfl,Qj _ (.refl _ _)⟩
def idxT (p:TB->Bool) (l:List TB):Int:=match l.findIdx? p with | some i=>(i:Int) | none=>-1
theorem vJS {p:TB->Bool} {l:List TB} {k:Nat} (hlt:k < l.length) (h:∀ (j:Nat) (h:j < l.length),j < k->p l[j]=false) (hp:p l[k]=true):idxT p l=k:=by
 unfold idxT;rw [List.findIdx?_eq_some_iff_getElem.2 ⟨hlt,hp,fun j hj=>by rw [h j (by omega) hj];simp⟩]
theorem kJW {p:TB->Bool} {l:List TB} {k:Nat} (hlt:k < l.length) (h:∀ (j:Nat) (h:j < l.length),j < k->p l[j]=false) (hp:p l[k]=false):∀ (j:Nat) (h:j < l.length),j < k+1->p l[j]=false:=by
 intro j hj hk
 by_cases e:j=k
 · subst e;exact hp
 · exact h j hj (by omega)
theorem xJk {p:TB->Bool} {l:List TB} {k:Nat} (hk:l.length<=k) (h:∀ (j:Nat) (h:j < l.length),j < k->p l[j]=false):idxT p l=-1:=by
 unfold idxT
 rw [List.findIdx?_eq_none_iff.2 fun x hx=>by
  obtain ⟨j,hj,rfl⟩:=List.getElem_of_mem hx;exact h j hj (by omega)]
def xJ7 (p:TB->Bool) (l:List TB) (w:World) (i:Value) (wr:World):Prop:=∃ k:Nat,k<=l.length/\i=.int .i64 k/\Hid (∀ (j:Nat) (h:j < l.length),j < k->p l[j]=false)/\Hid (Below w.heap.size w wr)/\w.heap.size<=wr.heap.size
theorem vJE (n:ByteArray) (A:Addr) (a:Option Addr) (c:Nat) (l:List TB) (hl:l.length<=1000000000) (w:World) (hF:Tops w a l) (hA:w.cell? A=some (.string n)) (hAb:A.block < w.heap.size) :
  Calls Tryz.prog 226 #[.slice a l.length c,.func (.func 227) #[] #[.pointer (some A)]] w fun e w'=>e=.returned (.int .i64 (idxT (fun t=>t.name.toList==n.toList) l))/\Below w.heap.size w w':=by
 have HF:=Zh hF;have HA:=Zh hA;clear hF hA;go_enter Tryz.func226,Tryz.ntmps226;go_wp2_with fail;go_loopw [8] (fun i wr=>xJ7 (fun t=>t.name.toList==n.toList) l w i wr) (fun i _=>l.length - (intOf i).toNat)
 case atStart=>exact ⟨0,by omega,rfl,fun _ _ h=>by omega,.refl _ _,by omega⟩
 case round=>
  obtain ⟨k,hk,rfl,HR,HW,hz⟩:=hrel;obtain ⟨wo,rfl⟩:∃ wo,wo=wr:=⟨_,rfl⟩
  by_cases hlt:k < l.length
  ·
   have HF2:=Zh (HF.out.grow HW.out);have HA2:=Zh ((HW.out.cell hAb).trans HA.out);clear HF HA;obtain ⟨b,o,ha,hb⟩:=HF2.out.head hlt;subst ha;obtain ⟨_,⟨f0,f1,f2⟩,_⟩:=HF2.out.at hlt;cases hpk:(l[k].name.toList==n.toList) with
   | true=>
    have HK:=Zh hpk;have HI:=Zh (vJS (p:=fun t=>t.name.toList==n.toList) hlt HR.out hpk);clear hpk HR;go_wp2_with fail;refine (xQU l[k] n A _ HA2.out (by omega)).mono ?_;rintro e w2 ⟨rfl,hb2⟩;rw [HK.out];go_wp2_with fail;go_ret;refine ⟨Qy HI.out.symm,?_⟩;exact HW.out.trans (hb2.mono HW.out.size)
   | false=>
    have HK:=Zh hpk;have HI:=Zh (kJW (p:=fun t=>t.name.toList==n.toList) hlt HR.out hpk);clear hpk HR;go_wp2_with fail;refine (xQU l[k] n A _ HA2.out (by omega)).mono ?_;rintro e w2 ⟨rfl,hb2⟩;rw [HK.out];have hz2:=hb2.size;have HB2:=Zh (HW.out.trans (hb2.mono HW.out.size));clear hb2;go_wp2_with fail;go_roundw
    case rel=>exact ⟨k+1,by omega,by go_num,HI.out,HB2.out,by omega⟩
    case measure=>simp [intOf]<;>omega
  · have HI:=Zh (xJk (p:=fun t=>t.name.toList==n.toList) (by omega:l.length<=k) HR.out);clear HR;go_wp2_with fail;go_ret;exact ⟨Qy HI.out.symm,HW.out⟩
theorem kJY (l:List TB) (n:ByteArray):idxT (fun t=>t.name.toList==n.toList) l=match zQZ (l.map TB.tp) n with | some i=>(i:Int) | none=>-1:=by
 unfold idxT zQZ;rw [List.findIdx?_map]
 have e:(isT n ∘ TB.tp)=fun t:TB=>t.name.toList==n.toList:=by
  funext t
  show decide (t.name.data.toList=n.data.toList)=_
  by_cases h:t.name.data.toList=n.data.toList
  · rw [jYL h,decide_eq_true h]
  · rw [jY9 h,decide_eq_false h]
 rw [e]
def kJB (o:Option Nat):Value:=.tuple #[.int .i64 (o.getD 0:Nat),.bool o.isSome]
theorem xJ9 (n:ByteArray) (a:Option Addr) (c:Nat) (l:List TB) (hl:l.length<=1000000000) (w:World) (hF:Tops w a l) :
  Calls Tryz.prog 211 #[.slice a l.length c,.string n] w fun e w'=>e=.returned (kJB (zQZ (l.map TB.tp) n))/\Below w.heap.size w w':=by
 have HF:=Zh hF;clear hF;have hi:=kJY l n;have HC:=Zh (fun A W h1 h2 h3=>vJE n A a c l hl W h1 h2 h3);rw [hi] at HC;clear hi;generalize zQZ (l.map TB.tp) n=o at HC ⊢;unfold kJB;go_enter Tryz.func211,Tryz.ntmps211;go_wp2_with fail;have HF2:=HF.out.grow (Qj (.cells #[.string n] 9) (.refl w.heap.size w));refine (HC.out ⟨w.heap.size,0,none⟩ _ HF2 (by simp [go_sem]) (by simp)).mono ?_;rintro e w1 ⟨rfl,hb⟩;clear HF2;have hb2:=Zh (Qk hb (Qj (.cells #[.string n] 9) (.refl w.heap.size w)));clear hb;cases o with
 | none=>
  go_wp2_with fail;go_ret2;exact ⟨rfl,hb2.out⟩
 | some i=>
  have h1:¬ ((i:Int) < 0):=by omega
  go_wp2_with fail;go_ret2;exact ⟨rfl,hb2.out⟩
structure TBox (w:World) (b:Nat) (n:ByteArray) (x:Int) (v:Value):Prop where
 c0:w.cell? ⟨b,0,none⟩=some (.string n)
 c1:w.cell? ⟨b,1,none⟩=some (.int .i64 x)
 c2:w.cell? ⟨b,2,none⟩=some v
 f0:w.frozen? ⟨b,0,none⟩=false
 f1:w.frozen? ⟨b,1,none⟩=false
 f2:w.frozen? ⟨b,2,none⟩=false
 hz:b < w.heap.size
theorem TBox.grow {v w:World} {b:Nat} {n:ByteArray} {x:Int} {u:Value} (h:TBox v b n x u) (hw:Below v.heap.size v w):TBox w b n x u:=by
 obtain ⟨h0,h1,h2,h3,h4,h5,h6⟩:=h;exact ⟨by rw [hw.cell (p:=⟨b,0,none⟩) h6];exact h0,by rw [hw.cell (p:=⟨b,1,none⟩) h6];exact h1,by rw [hw.cell (p:=⟨b,2,none⟩) h6];exact h2,by rw [hw.frozen (p:=⟨b,0,none⟩) h6];exact h3,by rw [hw.frozen (p:=⟨b,1,none⟩) h6];exact h4,by rw [hw.frozen (p:=⟨b,2,none⟩) h6];exact h5,Nat.lt_of_lt_of_le h6 hw.size⟩
theorem TBox.new (w:World) (n:ByteArray) (x:Int) (v:Value) (T:TypeId):TBox (w.alloc (.cells #[.string n,.int .i64 x,v] T)) w.heap.size n x v:=by
 constructor<;>simp [go_sem]
def xJb (w W:World) (B:Nat) (nm:ByteArray) (fst:Int) (la:Option Addr) (lg:List ByteArray) (lc:Nat) (i:Value) (wr:World):Prop:=∃ k:Nat,k<=lg.length/\i=.int .i64 k/\Hid (∀ (j:Nat) (h:j < lg.length),j < k->ofB lg[j] nm=true)/\Hid (TBox wr B nm fst (.slice la lg.length lc))/\Hid (Below W.heap.size W wr)/\Hid (Below w.heap.size w wr)
theorem jYc {l:List ByteArray} {n:ByteArray} (h:∀ (j:Nat) (h:j < l.length),ofB l[j] n=true):l.all (fun s=>ofB s n)=true:=by
 rw [List.all_eq_true];intro x hx;obtain ⟨j,hj,rfl⟩:=List.getElem_of_mem hx;exact h j hj
theorem qJQ {l:List ByteArray} {n:ByteArray} {k:Nat} (hk:k < l.length) (h:ofB l[k] n=false):l.all (fun s=>ofB s n)=false:=by
 rw [List.all_eq_false];exact ⟨l[k],List.getElem_mem hk,by rw [h];simp⟩
theorem qJo (nm:ByteArray) (fst:Int) (lg:List ByteArray):tMay ⟨nm,fst,lg⟩=(Yx nm.data.toList&&(decide (0<=fst)&&(decide (lg.length<=100)&&(decide (fst<=1099511627775 - lg.length)&&lg.all (fun s=>ofB s nm))))):=rfl
set_option maxHeartbeats 1500000 in
theorem jYr (nm:ByteArray) (fst:Int) (la:Option Addr) (lg:List ByteArray) (lc:Nat) (hn:nm.size<=1000000000) (hs:∀ s∈lg,s.size<=1000000000) (hl:lg.length<=1000000000) (h1:-9223372036854775808<=fst) (h2:fst<=9223372036854775807) (w:World) (hM:MaxW w) (hS:Strs w la lg) :
  Calls Tryz.prog 133 #[.agg #[.string nm,.int .i64 fst,.slice la lg.length lc]] w fun e w'=>e=.returned (.bool (tMay ⟨nm,fst,lg⟩))/\Below w.heap.size w w':=by
 obtain ⟨R,hR⟩:∃ R,tMay ⟨nm,fst,lg⟩=R:=⟨_,rfl⟩;rw [hR];rw [qJo] at hR;have HR:=Zh hR;have HM:=Zh hM;have HS:=Zh hS;have HSZ:=Zh hs;clear hM hS hs hR;go_enter Tryz.func133,Tryz.ntmps133;go_wp2_with fail;have HX:=Zh (TBox.new w nm fst (.slice la lg.length lc) 64);have hbx:=Qj (.cells #[.string nm,.int .i64 fst,.slice la lg.length lc] 64) (.refl w.heap.size w);refine (qQD nm hn _ (HM.out.grow hbx)).mono ?_;rintro e w1 ⟨rfl,hb1⟩;have HX1:=Zh (HX.out.grow hb1);have KB:=Zh (Qk hb1 hbx);clear hb1 hbx HX;obtain ⟨x0,x1,x2,x3,x4,x5,x6⟩:=HX1.out;cases htb:Yx nm.data.toList with
 | false=>
  have HQ:Hid (R=false):=Zh (by rw [<- HR.out,htb];rfl);clear htb;go_wp2_with fail;go_ret;exact ⟨Qq HQ.out.symm,KB.out⟩
 | true=>
  have HR1:Hid ((decide (0<=fst)&&(decide (lg.length<=100)&&(decide (fst<=1099511627775 - lg.length)&&lg.all (fun s=>ofB s nm))))=R):=Zh (by rw [<- HR.out,htb];rfl);clear htb HR
  by_cases g1:0<=fst
  ·
   by_cases g2:lg.length<=100
   ·
    by_cases g3:fst<=1099511627775 - lg.length
    ·
     have HR2:Hid (lg.all (fun s=>ofB s nm)=R):=Zh (by rw [<- HR1.out,decide_eq_true g1,decide_eq_true g2,decide_eq_true g3];rfl);clear HR1;have y1:¬ fst < 0:=by omega
     have y2:¬ (100:Int) < lg.length:=by omega
     have y3:¬ (1099511627775 - (lg.length:Int)) < fst:=by omega
     go_wp2_with fail;go_loopw [32] (fun i wr=>xJb w w1 w.heap.size nm fst la lg lc i wr) (fun i _=>lg.length - (intOf i).toNat)
     case atStart=>exact ⟨0,by omega,rfl,fun _ _ h=>by omega,HX1,.refl _ _,KB⟩
     case round=>
      obtain ⟨k,hk,rfl,HP,HXR,HW,HK⟩:=hrel;obtain ⟨wo,rfl⟩:∃ wo,wo=wr:=⟨_,rfl⟩;clear x0 x1 x2 x3 x4 x5 x6 HX1 KB;obtain ⟨x0,x1,x2,x3,x4,x5,x6⟩:=HXR.out
      by_cases hlt:k < lg.length
      ·
       have HS2:=Zh ((HS.out.grow HK.out));obtain ⟨b,o,ha,hbz⟩:=HS2.out.head hlt;have hsz:=HSZ.out lg[k] (List.getElem_mem hlt);subst ha;obtain ⟨_,hs1⟩:=HS2.out.at hlt;go_wp2_with fail;refine (of_c lg[k] nm hsz wo (HM.out.grow HK.out)).mono ?_;rintro e w2 ⟨rfl,hb2⟩;have HXR2:=Zh (HXR.out.grow hb2);have HW2:=Zh (Qk hb2 HW.out);have HK2:=Zh (Qk hb2 HK.out);clear hb2 x0 x1 x2 x3 x4 x5 x6 hs1;cases hof:ofB lg[k] nm with
       | false=>
        have HQ:Hid (R=false):=Zh (by rw [<- HR2.out];exact qJQ hlt hof);clear hof;go_wp2_with fail;go_ret;exact ⟨Qq HQ.out.symm,HK2.out⟩
       | true=>
        have HP2:Hid (∀ (j:Nat) (h:j < lg.length),j < k+1->ofB lg[j] nm=true):=Zh (fun j h hj=>by
         by_cases e:j=k
         · subst e;exact hof
         · exact HP.out j h (by omega))
        clear hof;go_wp2_with fail;go_roundw
        case rel=>exact ⟨k+1,by omega,by go_num,HP2,HXR2,HW2,HK2⟩
        case measure=>simp [intOf]<;>omega
      · have HQ:Hid (R=true):=Zh (by rw [<- HR2.out];exact jYc (fun j h=>HP.out j h (by omega)));go_wp2_with fail;go_ret;exact ⟨Qq HQ.out.symm,HK.out⟩
    ·
     have HQ:Hid (R=false):=Zh (by rw [<- HR1.out,decide_eq_true g1,decide_eq_true g2,decide_eq_false g3];rfl);have y1:¬ fst < 0:=by omega
     have y2:¬ (100:Int) < lg.length:=by omega
     have y3:(1099511627775 - (lg.length:Int)) < fst:=by omega
     go_wp2_with fail;go_ret;exact ⟨Qq HQ.out.symm,KB.out⟩
   ·
    have HQ:Hid (R=false):=Zh (by rw [<- HR1.out,decide_eq_true g1,decide_eq_false g2];rfl);have y1:¬ fst < 0:=by omega
    have y2:(100:Int) < lg.length:=by omega
    go_wp2_with fail;go_ret;exact ⟨Qq HQ.out.symm,KB.out⟩
  ·
   have HQ:Hid (R=false):=Zh (by rw [<- HR1.out,decide_eq_false g1];rfl);have y1:fst < 0:=by omega
   go_wp2_with fail;go_ret;exact ⟨Qq HQ.out.symm,KB.out⟩
theorem qY6 (t:TB) (hn:t.name.size<=1000000000) (hs:∀ s∈t.log,s.size<=1000000000) (hl:t.log.length<=1000000000) (h1:-9223372036854775808<=t.first) (h2:t.first<=9223372036854775807) (w:World) (hM:MaxW w) (hS:Strs w t.la t.log) :
  Calls Tryz.prog 133 #[tV t] w fun e w'=>e=.returned (.bool (tMay t.tp))/\Below w.heap.size w w':=jYr t.name t.first t.la t.log t.lc hn hs hl h1 h2 w hM hS
def TIn (l:List TB):Prop:=∀ t∈l,t.name.size<=1000000000/\(∀ s∈t.log,s.size<=1000000000)/\t.log.length<=1000000000/\-9223372036854775808<=t.first/\t.first<=9223372036854775807
def qQr (L:List Tp):Nat->Option ByteArray
 | 0=>none
 | k+1=>(L[k]?).map Tp.name
theorem vJ0 {L:List Tp} {k:Nat} (hk:k < L.length):okT (qQr L k) (L.drop k)=(tMay L[k]&&((match qQr L k with | none=>true | some q=>Kf q L[k].name)&&okT (qQr L (k+1)) (L.drop (k+1)))):=by
 rw [List.drop_eq_getElem_cons hk];have e:qQr L (k+1)=some L[k].name:=by show (L[k]?).map Tp.name=_;rw [List.getElem?_eq_getElem hk];rfl
 rw [e];cases qQr L k<;>rfl
theorem xJr {L:List Tp} {k:Nat} (hk:L.length<=k):okT (qQr L k) (L.drop k)=true:=by
 rw [List.drop_eq_nil_of_le hk];cases qQr L k<;>rfl
theorem qJA {L:List Tp} {k:Nat} (hk:k < L.length):qQr L (k+1)=some L[k].name:=by
 show (L[k]?).map Tp.name=_;rw [List.getElem?_eq_getElem hk];rfl
def errV (b:Bool):Int:=if b=true then 0 else 1
def xJu (w:World) (l:List TB) (R:Bool) (i:Value) (wr:World):Prop:=∃ k:Nat,k<=l.length/\i=.int .i64 k/\Hid (R=okT (qQr (l.map TB.tp) k) ((l.map TB.tp).drop k))/\Hid (Below w.heap.size w wr)/\w.heap.size<=wr.heap.size
theorem geB (a b:ByteArray):(!Op.bytesLess a.toList b.toList)=!Kf a b:=by unfold Kf;rw [Qp,Qp]
set_option maxHeartbeats 2000000 in
theorem zJR (a:Option Addr) (c:Nat) (l:List TB) (hl:l.length<=1000000000) (hI:TIn l) (w:World) (hM:MaxW w) (hF:Tops w a l) :
  Calls Tryz.prog 68 #[.slice a l.length c] w fun e w'=>e=.returned (.int .i64 (errV (jQo (l.map TB.tp))))/\Below w.heap.size w w':=by
 obtain ⟨R,hR⟩:∃ R,okT none (l.map TB.tp)=R:=⟨_,rfl⟩;have hT:jQo (l.map TB.tp)=(decide (l.length<=20)&&R):=by unfold jQo;rw [hR,List.length_map]
 rw [hT];have HR:=Zh hR;have HM:=Zh hM;have HF:=Zh hF;have HI:=Zh hI;clear hM hF hR hT hI
 by_cases h20:l.length<=20
 ·
  have HQ:Hid ((decide (l.length<=20)&&R)=R):=Zh (by rw [decide_eq_true h20];rfl);rw [HQ.out];have y1:¬ (20:Int) < l.length:=by omega
  go_enter Tryz.func68,Tryz.ntmps68;go_wp2_with fail;go_loopw [10] (fun i wr=>xJu w l R i wr) (fun i _=>l.length - (intOf i).toNat)
  case atStart=>exact ⟨0,by omega,rfl,HR.out.symm,.refl _ _,by omega⟩
  case round=>
   obtain ⟨k,hk,rfl,HP,HW,hz⟩:=hrel;obtain ⟨wo,rfl⟩:∃ wo,wo=wr:=⟨_,rfl⟩
   by_cases hlt:k < l.length
   ·
    have HF2:=Zh (HF.out.grow HW.out);obtain ⟨b,o,ha,hb⟩:=HF2.out.head hlt;subst ha;obtain ⟨_,⟨f0,f1,f2⟩,hS,_⟩:=HF2.out.at hlt;have HS:=Zh hS;have hin:=HI.out l[k] (List.getElem_mem hlt);have hc:=(fun (W:World) (hM:MaxW W) (hS:Strs W l[k].la l[k].log)=>qY6 l[k] hin.1 hin.2.1 hin.2.2.1 hin.2.2.2.1 hin.2.2.2.2 W hM hS);unfold tV at hc;have HC:=Zh hc;clear hc;have hst:=vJ0 (L:=l.map TB.tp) (k:=k) (by simpa using hlt);rw [<- HP.out] at hst;simp only [List.getElem_map] at hst;have HST:=Zh hst;clear hst hin hS;go_upto_region 6 with fail
    have HBX:=Zh (Qj (.cells #[.string l[k].name,.int .i64 l[k].first,.slice l[k].la l[k].log.length l[k].lc] 64) (.refl wo.heap.size wo));have HK:=Zh (Qk HBX.out HW.out);generalize tMay l[k].tp=mm at HC HST;cases mm with
    | false=>
     have HQ2:Hid (R=false):=Zh (HST.out.trans (Bool.false_and _));clear HST;refine Tryst2.wp_region_grows [.is (.agg #[.string l[k].name,.int .i64 l[k].first,.slice l[k].la l[k].log.length l[k].lc]),.is (.bool false),.is (.bool true),.is (.bool true),.is undef,.is undef,.is undef,.is undef,.is undef,.is undef,.is undef,.is undef,.is undef,.is undef,.is undef,.is undef,.is undef,.is (.bool true)] (by kernel_rfl) (by kernel_rfl) ?obl ?fin
     case obl=>
      simp only [YA,YL,YO,YR,Op.operands,Call.operands]
      repeat' apply And.intro
      any_goals trivial
      all_goals (intro tv w' hg hold hd;(try simp at hold);obtain ⟨hcg,hfg,hsg⟩:=YG hg)
      all_goals first | (go_simp;done) | (go_simp;rw [if_neg (by omega)];exact ⟨.refl _,rfl⟩) | (obtain ⟨⟨g,hvg,hgg,hcell⟩,_⟩:=hd;have hcell0:=hcell 0 (by decide);simp at hcell0;go_simp;done) | (go_simp;go_at_call 133;(with_reducible refine (HC.out _ ?_ ?_).mono ?_);(exact HM.out.grow (Tryst2.Grow.below hg HK.out));(exact HS.out.grow (Tryst2.Grow.below hg HBX.out));rintro e w5 ⟨rfl,hb5⟩;exact ⟨hb5,rfl⟩)
     case fin=>
      intro tv w' hg hR;simp only [YF,YL,YR] at hR;obtain ⟨hcg,hfg,hsg⟩:=YG hg;simp only [YP,YL,Act.put,hR];have HK9:=Zh (Tryst2.Grow.below hg HK.out);clear hg hR hcg hfg hsg;go_wp2_with fail;go_ret;exact ⟨Qy (by rw [HQ2.out];rfl),HK9.out⟩
    | true=>
     rw [Bool.true_and] at HST;cases k with
     | zero=>
      have HQ2:Hid (R=okT (qQr (l.map TB.tp) (0+1)) ((l.map TB.tp).drop (0+1))):=Zh HST.out;clear HST;refine Tryst2.wp_region_grows [.is (.agg #[.string l[0].name,.int .i64 l[0].first,.slice l[0].la l[0].log.length l[0].lc]),.is (.bool true),.is (.bool false),.is (.bool false),.is (.int .i64 0),.is (.bool false),.is (.bool false),.is undef,.is undef,.is undef,.is undef,.is undef,.is undef,.is undef,.is undef,.is undef,.is (.bool false),.is (.bool false)] (by kernel_rfl) (by kernel_rfl) ?obl ?fin
      case obl=>
       simp only [YA,YL,YO,YR,Op.operands,Call.operands]
       repeat' apply And.intro
       any_goals trivial
       all_goals (intro tv w' hg hold hd;(try simp at hold);obtain ⟨hcg,hfg,hsg⟩:=YG hg)
       all_goals first | (go_simp;done) | (go_simp;rw [if_neg (by omega)];exact ⟨.refl _,rfl⟩) | (obtain ⟨⟨g,hvg,hgg,hcell⟩,_⟩:=hd;have hcell0:=hcell 0 (by decide);simp at hcell0;go_simp;done) | (go_simp;go_at_call 133;(with_reducible refine (HC.out _ ?_ ?_).mono ?_);(exact HM.out.grow (Tryst2.Grow.below hg HK.out));(exact HS.out.grow (Tryst2.Grow.below hg HBX.out));rintro e w5 ⟨rfl,hb5⟩;exact ⟨hb5,rfl⟩)
      case fin=>
       intro tv w' hg hR;simp only [YF,YL,YR] at hR;obtain ⟨hcg,hfg,hsg⟩:=YG hg;simp only [YP,YL,Act.put,hR];have HK9:=Zh (Tryst2.Grow.below hg HK.out);clear hg hR hcg hfg hsg;go_wp2_with fail;go_roundw
       case rel=>exact ⟨0+1,by omega,by go_num,HQ2,HK9,HK9.out.size⟩
       case measure=>simp [intOf]<;>omega
     | succ m=>
      have hlm:m < l.length:=by omega
      obtain ⟨_,⟨g0,g1,g2⟩,_⟩:=HF2.out.at hlm;have hpv:=qJA (L:=l.map TB.tp) (k:=m) (by simpa using hlm);rw [List.getElem_map] at hpv;rw [hpv] at HST;clear hpv;have HGE:=geB l[m].name l[m+1].name;have HLS:Hid (R=(Kf l[m].name l[m+1].name&&okT (qQr (l.map TB.tp) (m+1+1)) ((l.map TB.tp).drop (m+1+1)))):=Zh HST.out;clear HST;generalize Kf l[m].name l[m+1].name=lb at HLS HGE;cases lb with
      | false=>
       have HQ2:Hid (R=false):=Zh (HLS.out.trans (Bool.false_and _));have hge:(!Op.bytesLess l[m].name.toList l[m+1].name.toList)=true:=HGE;clear HGE HLS;refine Tryst2.wp_region_grows [.is (.agg #[.string l[m+1].name,.int .i64 l[m+1].first,.slice l[m+1].la l[m+1].log.length l[m+1].lc]),.is (.bool true),.is (.bool false),.is (.bool false),.is (.int .i64 ((m+1:Nat):Int)),.is (.bool true),.is (.bool true),.is (.slice (some ⟨b,o,none⟩) l.length c),.is (.int .i64 ((m+1:Nat):Int)),.is (.int .i64 (m:Int)),.is (.pointer (some ⟨b,o+m*3,none⟩)),.is (.pointer (some ⟨b,o+m*3,none⟩)),.is (.string l[m].name),.is (.pointer (some ⟨wo.heap.size,0,none⟩)),.is (.string l[m+1].name),.is (.bool true),.is (.bool true),.is (.bool true)] (by kernel_rfl) (by kernel_rfl) ?obl ?fin
       case obl=>
        simp only [YA,YL,YO,YR,Op.operands,Call.operands]
        repeat' apply And.intro
        any_goals trivial
        all_goals (intro tv w' hg hold hd;(try simp at hold);obtain ⟨hcg,hfg,hsg⟩:=YG hg)
        all_goals first | (go_simp;done) | (go_simp;rw [if_neg (by omega)];exact ⟨.refl _,rfl⟩) | (obtain ⟨⟨g,hvg,hgg,hcell⟩,_⟩:=hd;have hcell0:=hcell 0 (by decide);simp at hcell0;go_simp;done) | (go_simp;go_at_call 133;(with_reducible refine (HC.out _ ?_ ?_).mono ?_);(exact HM.out.grow (Tryst2.Grow.below hg HK.out));(exact HS.out.grow (Tryst2.Grow.below hg HBX.out));rintro e w5 ⟨rfl,hb5⟩;exact ⟨hb5,rfl⟩) | (go_simp;exact IntWalk.i64_in _ (by omega))
       case fin=>
        intro tv w' hg hR;simp only [YF,YL,YR] at hR;obtain ⟨hcg,hfg,hsg⟩:=YG hg;simp only [YP,YL,Act.put,hR];have HK9:=Zh (Tryst2.Grow.below hg HK.out);clear hg hR hcg hfg hsg;go_wp2_with fail;go_ret;exact ⟨Qy (by rw [HQ2.out];rfl),HK9.out⟩
      | true=>
       have HQ2:Hid (R=okT (qQr (l.map TB.tp) (m+1+1)) ((l.map TB.tp).drop (m+1+1))):=Zh (HLS.out.trans (Bool.true_and _));have hge:(!Op.bytesLess l[m].name.toList l[m+1].name.toList)=false:=HGE;clear HGE HLS;refine Tryst2.wp_region_grows [.is (.agg #[.string l[m+1].name,.int .i64 l[m+1].first,.slice l[m+1].la l[m+1].log.length l[m+1].lc]),.is (.bool true),.is (.bool false),.is (.bool false),.is (.int .i64 ((m+1:Nat):Int)),.is (.bool true),.is (.bool true),.is (.slice (some ⟨b,o,none⟩) l.length c),.is (.int .i64 ((m+1:Nat):Int)),.is (.int .i64 (m:Int)),.is (.pointer (some ⟨b,o+m*3,none⟩)),.is (.pointer (some ⟨b,o+m*3,none⟩)),.is (.string l[m].name),.is (.pointer (some ⟨wo.heap.size,0,none⟩)),.is (.string l[m+1].name),.is (.bool false),.is (.bool false),.is (.bool false)] (by kernel_rfl) (by kernel_rfl) ?obl ?fin
       case obl=>
        simp only [YA,YL,YO,YR,Op.operands,Call.operands]
        repeat' apply And.intro
        any_goals trivial
        all_goals (intro tv w' hg hold hd;(try simp at hold);obtain ⟨hcg,hfg,hsg⟩:=YG hg)
        all_goals first | (go_simp;done) | (go_simp;rw [if_neg (by omega)];exact ⟨.refl _,rfl⟩) | (obtain ⟨⟨g,hvg,hgg,hcell⟩,_⟩:=hd;have hcell0:=hcell 0 (by decide);simp at hcell0;go_simp;done) | (go_simp;go_at_call 133;(with_reducible refine (HC.out _ ?_ ?_).mono ?_);(exact HM.out.grow (Tryst2.Grow.below hg HK.out));(exact HS.out.grow (Tryst2.Grow.below hg HBX.out));rintro e w5 ⟨rfl,hb5⟩;exact ⟨hb5,rfl⟩) | (go_simp;exact IntWalk.i64_in _ (by omega))
       case fin=>
        intro tv w' hg hR;simp only [YF,YL,YR] at hR;obtain ⟨hcg,hfg,hsg⟩:=YG hg;simp only [YP,YL,Act.put,hR];have HK9:=Zh (Tryst2.Grow.below hg HK.out);clear hg hR hcg hfg hsg;go_wp2_with fail;go_roundw
        case rel=>exact ⟨m+1+1,by omega,by go_num,HQ2,HK9,HK9.out.size⟩
        case measure=>simp [intOf]<;>omega
   · have HQ2:Hid (R=true):=Zh (HP.out.trans (xJr (by simpa using hlt)));go_wp2_with fail;go_ret;exact ⟨Qy (by rw [HQ2.out];rfl),HW.out⟩
 ·
  have HQ:Hid ((decide (l.length<=20)&&R)=false):=Zh (by rw [decide_eq_false h20];rfl);rw [HQ.out];have y1:(20:Int) < l.length:=by omega
  go_enter Tryz.func68,Tryz.ntmps68;go_wp2_with fail;go_ret;exact ⟨Qy rfl,.refl _ _⟩
theorem qJ7 {t:TB} (h:tMay t.tp=true):0<=t.first/\t.log.length<=100/\t.first<=1099511627775 - t.log.length/\∀ s∈t.log,ofB s t.name=true:=by
 rw [show tMay t.tp=_ from qJo t.name t.first t.log] at h;simp only [Bool.and_eq_true,decide_eq_true_eq,List.all_eq_true] at h;exact ⟨h.2.1,h.2.2.1,h.2.2.2.1,h.2.2.2.2⟩
