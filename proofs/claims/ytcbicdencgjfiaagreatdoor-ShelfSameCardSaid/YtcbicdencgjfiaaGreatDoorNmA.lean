import Derived.Deep.RegionWith
import Derived.Deep.Cut
import Derived.Test.YtcbicdencgjfiaaGreatDoorDraws
import Derived.Test.YtcbicdencgjfiaaGreatDoorFacts
import Derived.Test.YtcbicdencgjfiaaGreatDoorShelf
set_option linter.all false
set_option maxHeartbeats 400000
set_option maxRecDepth 20000
namespace Go.Proofs.YtcbicdencgjfiaaGreatDoor
open Go.RowKit Tryst
def Zv (r:Int):Bool:=decide (97<=r/\r<=122)||decide (48<=r/\r<=57)||decide (r=95)
theorem xQH (r:Int) (h0:0<=r) (h1:r<=2147483647) (w:World):Calls Tryz.prog 207 #[.int .i32 r] w fun e w'=>e=.returned (.bool (Zv r))/\w=w':=by
 by_cases ha:97<=r
 ·
  by_cases hb:r<=122
  ·
   have e:Zv r=true:=by unfold Zv;simp;omega
   have E:=Zh e;clear e;go_enter Tryz.func207,Tryz.ntmps207;go_wp2_with fail;go_ret;exact ⟨Qq E.out.symm,rfl⟩
  ·
   have hc:48<=r:=by omega
   have hd:¬ r<=57:=by omega
   have hn:(r==95)=false:=by simp;omega
   have e:Zv r=false:=by unfold Zv;simp;omega
   have E:=Zh e;clear e;go_enter Tryz.func207,Tryz.ntmps207;go_wp2_with fail;go_ret;exact ⟨Qq E.out.symm,rfl⟩
 ·
  by_cases hc:48<=r
  ·
   by_cases hd:r<=57
   ·
    have e:Zv r=true:=by unfold Zv;simp;omega
    have E:=Zh e;clear e;go_enter Tryz.func207,Tryz.ntmps207;go_wp2_with fail;go_ret;exact ⟨Qq E.out.symm,rfl⟩
   ·
    have e:Zv r=(r==95):=by
     by_cases h:r=95
     · subst h;rfl
     ·
      have h':(r==95)=false:=by simpa using h
      rw [h'];unfold Zv;simp;omega
    have E:=Zh e;clear e;go_enter Tryz.func207,Tryz.ntmps207;go_wp2_with fail;go_ret;exact ⟨Qq E.out.symm,rfl⟩
  ·
   have hn:(r==95)=false:=by simp;omega
   have e:Zv r=false:=by unfold Zv;simp;omega
   have E:=Zh e;clear e;go_enter Tryz.func207,Tryz.ntmps207;go_wp2_with fail;go_ret;exact ⟨Qq E.out.symm,rfl⟩
def xJn (s:ByteArray) (w:World) (wr:World):Prop:=∃ pos:Nat,wr=w.iter s pos/\pos<=s.size/\Hid (∀ (j:Nat) (h:j < s.size),j < pos->qQE s[j]=true)
theorem qJ3 (s:ByteArray) (hs:s.size<=1000000000) (w:World):Calls Tryz.prog 178 #[.string s] w fun e w'=>e=.returned (.bool (Z1 s.data.toList))/\Below w.heap.size w w':=by
 go_enter Tryz.func178,Tryz.ntmps178;go_wp2_with fail;go_loopw [5] (fun _ wr=>xJn s w wr) (fun _ wr=>s.size - wr.iterPos w.heap.size)
 case atStart=>exact ⟨0,rfl,by omega,fun j _ h=>by omega⟩
 case round=>
  obtain ⟨pos,rfl,hp,HA⟩:=hrel
  by_cases hlt:pos < s.size
  ·
   obtain ⟨c,hc⟩:∃ c,s[pos].toNat=c:=⟨_,rfl⟩;have hcl:c < 256:=hc ▸ s[pos].toNat_lt
   by_cases hasc:c < 128
   ·
    have hnx:=fun ty=>run_next_ascii (P:=Tryz.prog) w s pos ty hlt (by omega)
    rw [hc] at hnx
    by_cases hok:qQE s[pos]=true
    ·
     have hr:Zv (c:Int)=true:=by
      unfold qQE at hok;rw [hc] at hok;unfold Zv;simp at hok ⊢;omega
     have HR:=Zh hr;have HK:=Zh hok;clear hr hok;go_wp2_with fail;refine (xQH c (by omega) (by omega) _).mono ?_;rintro e w1 ⟨rfl,rfl⟩;rw [HR.out];go_wp2_with fail;go_roundw
     case rel=>exact ⟨pos+1,rfl,by omega,fun j h hj=>by
      by_cases e:j=pos
      · subst e;exact HK.out
      · exact HA.out j h (by omega)⟩
     case measure=>simp;omega
    ·
     have hr:Zv (c:Int)=false:=by
      unfold qQE at hok;rw [hc] at hok;unfold Zv;simp at hok ⊢;omega
     have hbad:Z1 s.data.toList=false:=by
      unfold Z1
      have:s.data.toList.all qQE=false:=by
       rw [List.all_eq_false];exact ⟨s[pos],List.mem_of_getElem? (by rw [List.getElem?_eq_getElem (by simpa using hlt)];rfl),hok⟩
      rw [this,Bool.and_false]
     have HR:=Zh hr;have HB:=Zh hbad;clear hr hok hbad;go_wp2_with fail;refine (xQH c (by omega) (by omega) _).mono ?_;rintro e w1 ⟨rfl,rfl⟩;rw [HR.out];go_wp2_with fail;go_ret;exact ⟨Qq HB.out.symm,Qj _ (.refl _ _)⟩
   ·
    have hnx:=fun ty=>run_next_any (P:=Tryz.prog) w s pos ty hlt
    obtain ⟨hd1,hd2⟩:=decode_high s pos hlt (by omega);have hd3:=decode_le s pos;obtain ⟨D,hD⟩:∃ D,(Utf8.decode s pos).1=D:=⟨_,rfl⟩;rw [hD] at hnx hd1 hd3
    have hr:Zv (D:Int)=false:=by
     unfold Zv;simp;omega
    have hbad:Z1 s.data.toList=false:=by
     unfold Z1
     have:s.data.toList.all qQE=false:=by
      rw [List.all_eq_false];refine ⟨s[pos],List.mem_of_getElem? (by rw [List.getElem?_eq_getElem (by simpa using hlt)];rfl),?_⟩;unfold qQE;rw [hc];simp;omega
     rw [this,Bool.and_false]
    have HR:=Zh hr;have HB:=Zh hbad;clear hr hbad hD;go_wp2_with fail;refine (xQH D (by omega) (by omega) _).mono ?_;rintro e w1 ⟨rfl,rfl⟩;rw [HR.out];go_wp2_with fail;go_ret;exact ⟨Qq HB.out.symm,Qj _ (.refl _ _)⟩
  ·
   have hnx:=fun ty=>run_next_end (P:=Tryz.prog) w s pos ty hlt
   have hall:s.data.toList.all qQE=true:=by
    rw [List.all_eq_true];intro x hx;obtain ⟨j,hj,rfl⟩:=List.getElem_of_mem hx;exact HA.out j (by simpa using hj) (by simp at hj;omega)
   have HP:Hid (Z1 s.data.toList=!s.data.toList.isEmpty):=by
    show Z1 s.data.toList=_;unfold Z1;rw [hall,Bool.and_true]
   clear hall;go_wp2_with fail;go_ret;refine ⟨Qq ?_,Qj _ (.refl _ _)⟩;rw [HP.out,<- Qp]
def MaxW (w:World):Prop:=(∃ m:Int,w.cell? ⟨0,0,none⟩=some (.int .i64 m))/\0 < w.heap.size
theorem MaxW.grow {w w':World} (h:MaxW w) (hb:Below w.heap.size w w'):MaxW w':=by
 obtain ⟨⟨m,hm⟩,hz⟩:=h;exact ⟨⟨m,by rw [hb.cell (p:=⟨0,0,none⟩) hz];exact hm⟩,Nat.lt_of_lt_of_le hz hb.size⟩
theorem kQ7 (w:World) (n:Nat):Below w.heap.size w (w.drewN n):=⟨rfl,rfl,rfl,Nat.le_refl _,fun _ _=>rfl⟩
theorem jJQ (s:ByteArray) (hs:s.size<=1000000000) (w:World) (hM:MaxW w) :
  (46 ∉ s.data.toList/\Calls Tryz.prog 206 #[.string s,.string ⟨#[46]⟩] w fun e w'=>e=.returned (.tuple #[.string s,.string ⟨#[]⟩,.bool false])/\Below w.heap.size w w')∨
  (∃ p r:ByteArray,s.data.toList=p.data.toList++46 :: r.data.toList/\46 ∉ p.data.toList/\Calls Tryz.prog 206 #[.string s,.string ⟨#[46]⟩] w fun e w'=>e=.returned (.tuple #[.string p,.string r,.bool true])/\Below w.heap.size w w'):=by
 obtain ⟨⟨m,hm⟩,_⟩:=hM;have hc:=Tryz.strings_Cut s ⟨#[46]⟩ m w (by omega) hm;have e46:(⟨#[46]⟩:ByteArray).data.toList=[46]:=rfl;rw [e46] at hc
 rcases xJS s.data.toList with ⟨h,e⟩ | ⟨p,r,e1,e2,e3⟩
 · refine .inl ⟨h,hc.mono ?_⟩;rintro e0 w' ⟨rfl,n,rfl⟩;rw [e];exact ⟨rfl,kQ7 w n⟩
 · refine .inr ⟨⟨p.toArray⟩,⟨r.toArray⟩,by rw [Jb,Jb];exact e1,by rw [Jb];exact e2,hc.mono ?_⟩;rintro e0 w' ⟨rfl,n,rfl⟩;rw [e3];exact ⟨rfl,kQ7 w n⟩
def jYs (s:ByteArray) (w:World) (t i:Value) (wr:World):Prop:=∃ (k:Nat) (u:ByteArray),k<=8/\t=.string u/\i=.int .i64 k/\u.size<=s.size/\Hid (allF 8 s.data.toList=allF (8 - k) u.data.toList)/\Hid (Below w.heap.size w wr)
theorem all_c (s:ByteArray) (hs:s.size<=1000000000) (w:World) (hM:MaxW w) :
  Calls Tryz.prog 176 #[.string s,.func (.func 178) #[] #[]] w fun e w'=>e=.returned (.bool (Yx s.data.toList))/\Below w.heap.size w w':=by
 have HM:=Zh hM;clear hM;have hte:=kJM s.data.toList;rw [Qx] at hte
 by_cases h40:40 < s.size
 ·
  have HT:Hid (Yx s.data.toList=false):=by
   show Yx s.data.toList=false;rw [hte,decide_eq_false (by omega)];rfl
  clear hte;go_enter Tryz.func176,Tryz.ntmps176;go_wp2_with fail;go_ret;exact ⟨Qq HT.out.symm,.refl _ _⟩
 ·
  have HT:Hid (Yx s.data.toList=allF 8 s.data.toList):=by
   show Yx s.data.toList=_;rw [hte,decide_eq_true (by omega)];rfl
  clear hte;go_enter Tryz.func176,Tryz.ntmps176;go_wp2_with fail;go_loopw [0,11] (fun t i wr=>jYs s w t i wr) (fun _ i _=>8 - (intOf i).toNat)
  case atStart=>exact ⟨0,s,by omega,rfl,rfl,Nat.le_refl _,rfl,.refl _ _⟩
  case round=>
   obtain ⟨k,u,hk,rfl,rfl,hu,HA,HB⟩:=hrel;obtain ⟨wo,rfl⟩:∃ wo,wo=wr:=⟨_,rfl⟩
   by_cases hlt:k < 8
   ·
    rcases jJQ u (by omega) wo (HM.out.grow HB.out) with ⟨hno,hc⟩ | ⟨p,r,e1,e2,hc⟩
    ·
     have HC:=Zh hc
     have HF:Hid (Yx s.data.toList=Z1 u.data.toList):=by
      show Yx s.data.toList=_;rw [HT.out,HA.out,show 8 - k=(7 - k)+1 by omega,kJG hno]
     clear hc hno HA;go_wp2_with fail;refine HC.out.mono ?_;rintro e w1 ⟨rfl,hb1⟩;go_wp2_with fail;refine (qJ3 u (by omega) _).mono ?_;rintro e w2 ⟨rfl,hb2⟩;have KB:=Zh ((HB.out.trans (hb1.mono HB.out.size)).trans (hb2.mono (Nat.le_trans HB.out.size hb1.size)));clear hb1 hb2;cases hpb:Z1 u.data.toList with
     | true=>
      have HP:=Zh hpb;clear hpb;go_wp2_with fail;go_ret;exact ⟨Qq (by rw [HF.out,HP.out]),KB.out⟩
     | false=>
      have HP:=Zh hpb;clear hpb;go_wp2_with fail;go_ret;exact ⟨Qq (by rw [HF.out,HP.out]),KB.out⟩
    ·
     have HC:=Zh hc
     have hsz:p.size+1+r.size=u.size:=by
      have:=congrArg List.length e1;rw [List.length_append,List.length_cons,Qx,Qx,Qx] at this;omega
     have hps:p.size<=1000000000:=by omega
     have hrs:r.size<=s.size:=by omega
     have HF:Hid (Yx s.data.toList=(Z1 p.data.toList&&allF (8 - (k+1)) r.data.toList)):=by
      show Yx s.data.toList=_;rw [HT.out,HA.out,show 8 - k=(8 - (k+1))+1 by omega,e1,vJg e2]
     have HA2:Hid (Z1 p.data.toList=true->allF 8 s.data.toList=allF (8 - (k+1)) r.data.toList):=fun h=>by
      rw [<- HT.out,HF.out,h,Bool.true_and]
     clear hc HA e1 e2 hsz;go_wp2_with fail;refine HC.out.mono ?_;rintro e w1 ⟨rfl,hb1⟩;go_wp2_with fail;refine (qJ3 p hps _).mono ?_;rintro e w2 ⟨rfl,hb2⟩;have KB:=Zh ((HB.out.trans (hb1.mono HB.out.size)).trans (hb2.mono (Nat.le_trans HB.out.size hb1.size)));clear hb1 hb2 HB;cases hpb:Z1 p.data.toList with
     | true=>
      have HP:=Zh (HA2.out hpb);clear hpb HA2 HF;go_wp2_with fail;go_roundw
      case rel=>exact ⟨k+1,r,by omega,rfl,by go_num,hrs,HP,KB⟩
      case measure=>simp [intOf]<;>omega
     | false=>
      have HP:Hid (Yx s.data.toList=false):=by
       show Yx s.data.toList=false;rw [HF.out,hpb,Bool.false_and]
      clear hpb HA2 HF;go_wp2_with fail;go_ret;exact ⟨Qq HP.out.symm,KB.out⟩
   ·
    have HP:Hid (Yx s.data.toList=false):=by
     show Yx s.data.toList=false;rw [HT.out,HA.out,show 8 - k=0 by omega,kJN]
    clear HA HT;go_wp2_with fail;go_ret;exact ⟨Qq HP.out.symm,HB.out⟩
theorem qQD (s:ByteArray) (hs:s.size<=1000000000) (w:World) (hM:MaxW w):Calls Tryz.prog 175 #[.string s] w fun e w'=>e=.returned (.bool (Yx s.data.toList))/\Below w.heap.size w w':=by
 go_enter Tryz.func175,Tryz.ntmps175;go_wp2_with fail;refine (all_c s hs _ hM).mono ?_;rintro e w1 ⟨rfl,hb1⟩;go_wp2_with fail;go_ret;exact ⟨rfl,hb1⟩
theorem Xp (s:ByteArray) (hs:s.size<=1000000000) (w:World) (hM:MaxW w):Calls Tryz.prog 121 #[.string s] w fun e w'=>e=.returned (.bool (Q5 s.data.toList))/\Below w.heap.size w w':=by
 have HM:=Zh hM;clear hM
 by_cases h16:s.size<=16
 ·
  have hd:=zJE s.data.toList;cases hdc:s.data.toList.contains 46 with
  | true=>
   have HT:Hid (Q5 s.data.toList=false):=by
    show Q5 s.data.toList=false;unfold Q5;rw [hdc];simp
   rw [hdc] at hd;have HD:=Zh hd;clear hd hdc;go_enter Tryz.func121,Tryz.ntmps121;go_wp2_with fail;refine (Tryz.strings_Contains_one s 46 _).mono ?_;rintro e w1 ⟨rfl,rfl⟩;rw [HD.out];go_wp2_with fail;go_ret;exact ⟨Qq HT.out.symm,.refl _ _⟩
  | false=>
   have HT:Hid (Q5 s.data.toList=Yx s.data.toList):=by
    show Q5 s.data.toList=_;unfold Q5;rw [hdc,Qx,decide_eq_true h16];rfl
   rw [hdc] at hd;have HD:=Zh hd;clear hd hdc;go_enter Tryz.func121,Tryz.ntmps121;go_wp2_with fail;refine (Tryz.strings_Contains_one s 46 _).mono ?_;rintro e w1 ⟨rfl,rfl⟩;rw [HD.out];go_wp2_with fail;refine (qQD s hs _ HM.out).mono ?_;rintro e w1 ⟨rfl,hb1⟩;go_wp2_with fail;go_ret;exact ⟨Qq HT.out.symm,hb1⟩
 ·
  have HT:Hid (Q5 s.data.toList=false):=by
   show Q5 s.data.toList=false;unfold Q5;rw [Qx,decide_eq_false h16];rfl
  go_enter Tryz.func121,Tryz.ntmps121;go_wp2_with fail;go_ret;exact ⟨Qq HT.out.symm,.refl _ _⟩
