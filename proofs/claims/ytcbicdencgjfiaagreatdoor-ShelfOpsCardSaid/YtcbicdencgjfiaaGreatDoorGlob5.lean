/- name.Glob; a predicate in a box. -/
import Derived.Test.YtcbicdencgjfiaaGreatDoorFldG
import Derived.Test.YtcbicdencgjfiaaGreatDoorNmA
import Derived.Test.YtcbicdencgjfiaaGreatDoorPrF
set_option linter.unusedVariables false
set_option linter.unusedSimpArgs false
namespace Go.Proofs.YtcbicdencgjfiaaGreatDoor
open Go.RowKit Tryst
set_option maxHeartbeats 400000
set_option maxRecDepth 20000
theorem gpart_c (u:ByteArray) (hs:u.size≤1000000000) (w:World):Calls Tryz.prog 177 #[.string u] w fun e w'=>e=.returned (.bool (gpartB u.data.toList))∧Below w.heap.size w w':=by
 by_cases h1:u.data.toList=[42]
 ·
  have e1:(u.toList==[42])=true:=by rw [str_toList,h1];rfl
  have HT:Hid (gpartB u.data.toList=true):=by show gpartB _=true;unfold gpartB;rw [h1];rfl
  clear h1
  go_enter Tryz.func177,Tryz.ntmps177
  go_wp2_with fail
  go_ret
  exact ⟨ret_bool HT.out.symm,.refl _ _⟩
 ·
  have e1:(u.toList==[42])=false:=by rw [str_toList];simpa using h1
  by_cases h2:u.data.toList=[42,42]
  ·
   have e2:(u.toList==[42,42])=true:=by rw [str_toList,h2];rfl
   have HT:Hid (gpartB u.data.toList=true):=by show gpartB _=true;unfold gpartB;rw [h2];rfl
   clear h1 h2
   go_enter Tryz.func177,Tryz.ntmps177
   go_wp2_with fail
   go_ret
   exact ⟨ret_bool HT.out.symm,.refl _ _⟩
  ·
   have e2:(u.toList==[42,42])=false:=by rw [str_toList];simpa using h2
   have HT:Hid (gpartB u.data.toList=partB u.data.toList):=by
    show gpartB _=_
    unfold gpartB;rw [decide_eq_false h1,decide_eq_false h2];rfl
   clear h1 h2
   go_enter Tryz.func177,Tryz.ntmps177
   go_wp2_with fail
   refine (part_c u hs _).mono ?_
   rintro e w1 ⟨rfl,hb1⟩
   go_wp2_with fail
   go_ret
   exact ⟨ret_bool HT.out.symm,hb1⟩
end Go.Proofs.YtcbicdencgjfiaaGreatDoor
namespace Tryst
def gallF (k:Nat) (s:List UInt8):Bool:=decide ((dots s).length≤k)&&(dots s).all gpartB
theorem gallF_none {k:Nat} {s:List UInt8} (h:46 ∉ s):gallF (k+1) s=gpartB s:=by
 unfold gallF;rw [dots_none s h];simp
theorem gallF_cut {k:Nat} {p r:List UInt8} (h:46 ∉ p):gallF (k+1) (p++46 :: r)=(gpartB p&&gallF k r):=by
 unfold gallF;rw [dots_cut p r h]
 simp only [List.length_cons,List.all_cons,Nat.add_le_add_iff_right]
 cases gpartB p<;>simp
theorem gallF_zero (s:List UInt8):gallF 0 s=false:=by
 unfold gallF
 have:=List.length_pos_iff.2 (dots_ne s)
 rw [decide_eq_false (by omega)];rfl
theorem globB_eq (s:List UInt8):globB s=(decide (s.length≤40)&&gallF 8 s):=by
 unfold globB gallF;rw [Bool.and_assoc]
end Tryst
namespace Go.Proofs.YtcbicdencgjfiaaGreatDoor
open Go.RowKit Tryst
set_option maxHeartbeats 400000
set_option maxRecDepth 20000
def GAllRel (s:ByteArray) (w:World) (t i:Value) (wr:World):Prop:=∃ (k:Nat) (u:ByteArray),k≤8∧t=.string u∧i=.int .i64 k∧u.size≤s.size∧Hid (gallF 8 s.data.toList=gallF (8 - k) u.data.toList)∧Hid (Below w.heap.size w wr)
theorem gall_c (s:ByteArray) (hs:s.size≤1000000000) (w:World) (hM:MaxW w) :
  Calls Tryz.prog 176 #[.string s,.func (.func 177) #[] #[]] w fun e w'=>e=.returned (.bool (globB s.data.toList))∧Below w.heap.size w w':=by
 have HM:=Lib.hid hM
 clear hM
 have hte:=globB_eq s.data.toList
 rw [len_str] at hte
 by_cases h40:40 < s.size
 ·
  have HT:Hid (globB s.data.toList=false):=by
   show globB s.data.toList=false
   rw [hte,decide_eq_false (by omega)];rfl
  clear hte
  go_enter Tryz.func176,Tryz.ntmps176
  go_wp2_with fail
  go_ret
  exact ⟨ret_bool HT.out.symm,.refl _ _⟩
 ·
  have HT:Hid (globB s.data.toList=gallF 8 s.data.toList):=by
   show globB s.data.toList=_
   rw [hte,decide_eq_true (by omega)];rfl
  clear hte
  go_enter Tryz.func176,Tryz.ntmps176
  go_wp2_with fail
  go_loopw [0,11] (fun t i wr=>GAllRel s w t i wr) (fun _ i _=>8 - (intOf i).toNat)
  case atStart=>exact ⟨0,s,by omega,rfl,rfl,Nat.le_refl _,rfl,.refl _ _⟩
  case round=>
   obtain ⟨k,u,hk,rfl,rfl,hu,HA,HB⟩:=hrel
   obtain ⟨wo,rfl⟩:∃ wo,wo=wr:=⟨_,rfl⟩
   by_cases hlt:k < 8
   ·
    rcases cutDot_c u (by omega) wo (HM.out.grow HB.out) with ⟨hno,hc⟩ | ⟨p,r,e1,e2,hc⟩
    ·
     have HC:=Lib.hid hc
     have HF:Hid (globB s.data.toList=gpartB u.data.toList):=by
      show globB s.data.toList=_
      rw [HT.out,HA.out,show 8 - k=(7 - k)+1 by omega,gallF_none hno]
     clear hc hno HA
     go_wp2_with fail
     refine HC.out.mono ?_
     rintro e w1 ⟨rfl,hb1⟩
     go_wp2_with fail
     refine (gpart_c u (by omega) _).mono ?_
     rintro e w2 ⟨rfl,hb2⟩
     have KB:=Lib.hid ((HB.out.trans (hb1.mono HB.out.size)).trans (hb2.mono (Nat.le_trans HB.out.size hb1.size)))
     clear hb1 hb2
     cases hpb:gpartB u.data.toList with
     | true=>
      have HP:=Lib.hid hpb
      clear hpb
      go_wp2_with fail
      go_ret
      exact ⟨ret_bool (by rw [HF.out,HP.out]),KB.out⟩
     | false=>
      have HP:=Lib.hid hpb
      clear hpb
      go_wp2_with fail
      go_ret
      exact ⟨ret_bool (by rw [HF.out,HP.out]),KB.out⟩
    ·
     have HC:=Lib.hid hc
     have hsz:p.size+1+r.size=u.size:=by
      have:=congrArg List.length e1
      rw [List.length_append,List.length_cons,len_str,len_str,len_str] at this
      omega
     have hps:p.size≤1000000000:=by omega
     have hrs:r.size≤s.size:=by omega
     have HF:Hid (globB s.data.toList=(gpartB p.data.toList&&gallF (8 - (k+1)) r.data.toList)):=by
      show globB s.data.toList=_
      rw [HT.out,HA.out,show 8 - k=(8 - (k+1))+1 by omega,e1,gallF_cut e2]
     have HA2:Hid (gpartB p.data.toList=true→gallF 8 s.data.toList=gallF (8 - (k+1)) r.data.toList):=fun h=>by
      rw [← HT.out,HF.out,h,Bool.true_and]
     clear hc HA e1 e2 hsz
     go_wp2_with fail
     refine HC.out.mono ?_
     rintro e w1 ⟨rfl,hb1⟩
     go_wp2_with fail
     refine (gpart_c p hps _).mono ?_
     rintro e w2 ⟨rfl,hb2⟩
     have KB:=Lib.hid ((HB.out.trans (hb1.mono HB.out.size)).trans (hb2.mono (Nat.le_trans HB.out.size hb1.size)))
     clear hb1 hb2 HB
     cases hpb:gpartB p.data.toList with
     | true=>
      have HP:=Lib.hid (HA2.out hpb)
      clear hpb HA2 HF
      go_wp2_with fail
      go_roundw
      case rel=>exact ⟨k+1,r,by omega,rfl,by go_num,hrs,HP,KB⟩
      case measure=>simp [intOf]<;>omega
     | false=>
      have HP:Hid (globB s.data.toList=false):=by
       show globB s.data.toList=false
       rw [HF.out,hpb,Bool.false_and]
      clear hpb HA2 HF
      go_wp2_with fail
      go_ret
      exact ⟨ret_bool HP.out.symm,KB.out⟩
   ·
    have HP:Hid (globB s.data.toList=false):=by
     show globB s.data.toList=false
     rw [HT.out,HA.out,show 8 - k=0 by omega,gallF_zero]
    clear HA HT
    go_wp2_with fail
    go_ret
    exact ⟨ret_bool HP.out.symm,HB.out⟩
theorem glob_c (s:ByteArray) (hs:s.size≤1000000000) (w:World) (hM:MaxW w):Calls Tryz.prog 125 #[.string s] w fun e w'=>e=.returned (.bool (globB s.data.toList))∧Below w.heap.size w w':=by
 go_enter Tryz.func125,Tryz.ntmps125
 go_wp2_with fail
 refine (gall_c s hs _ hM).mono ?_
 rintro e w1 ⟨rfl,hb1⟩
 go_wp2_with fail
 go_ret
 exact ⟨rfl,hb1⟩
structure PBox (w:World) (b:Nat) (op s:ByteArray) (num:Bool) (n:Int) (vs:ByteArray) (u:Value):Prop where
 c0:w.cell? ⟨b,0,none⟩=some (.string op)
 c1:w.cell? ⟨b,1,none⟩=some (.string s)
 c2:w.cell? ⟨b,2,none⟩=some (.bool num)
 c3:w.cell? ⟨b,3,none⟩=some (.int .i64 n)
 c4:w.cell? ⟨b,4,none⟩=some (.string vs)
 c5:w.cell? ⟨b,5,none⟩=some u
 hz:b < w.heap.size
theorem PBox.new (w:World) (op s:ByteArray) (num:Bool) (n:Int) (vs:ByteArray) (u:Value) (T:TypeId):PBox (w.alloc (.cells #[.string op,.string s,.bool num,.int .i64 n,.string vs,u] T)) w.heap.size op s num n vs u:=by
 constructor<;>simp [go_sem]
theorem PBox.grow {v w:World} {b:Nat} {op s:ByteArray} {num:Bool} {n:Int} {vs:ByteArray} {u:Value} (h:PBox v b op s num n vs u) (hw:Below v.heap.size v w):PBox w b op s num n vs u:=by
 obtain ⟨h0,h1,h2,h3,h4,h5,h6⟩:=h
 exact ⟨by rw [hw.cell (p:=⟨b,0,none⟩) h6];exact h0,by rw [hw.cell (p:=⟨b,1,none⟩) h6];exact h1,by rw [hw.cell (p:=⟨b,2,none⟩) h6];exact h2,by rw [hw.cell (p:=⟨b,3,none⟩) h6];exact h3,by rw [hw.cell (p:=⟨b,4,none⟩) h6];exact h4,by rw [hw.cell (p:=⟨b,5,none⟩) h6];exact h5,Nat.lt_of_lt_of_le h6 hw.size⟩
end Go.Proofs.YtcbicdencgjfiaaGreatDoor
