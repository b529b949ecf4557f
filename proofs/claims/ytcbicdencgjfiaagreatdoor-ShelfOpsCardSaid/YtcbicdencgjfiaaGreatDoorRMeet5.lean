/- ref02.Glob, ref02.meets, ref02.Meets. -/
import Derived.Test.YtcbicdencgjfiaaGreatDoorMeets5
import Derived.Test.YtcbicdencgjfiaaGreatDoorNmB
set_option linter.unusedVariables false
set_option linter.unusedSimpArgs false
namespace Go.Proofs.YtcbicdencgjfiaaGreatDoor
open Go.RowKit Tryst
set_option maxHeartbeats 400000
set_option maxRecDepth 20000
def GIsRel (l:List ByteArray) (i:Value):Prop:=∃ k:Nat,k≤l.length∧i=.int .i64 k∧Hid (∀ (j:Nat) (h:j < l.length),j < k→gpartB l[j].data.toList=true)
set_option maxHeartbeats 4000000 in
theorem risglob_c (s:ByteArray) (hs:s.size≤1000000) (w:World):Calls Tryz.prog 145 #[.string s,.bool true] w fun e w'=>e=.returned (.bool (globB s.data.toList))∧Below w.heap.size w w':=by
 go_enter Tryz.func145,Tryz.ntmps145
 go_wp2_with fail
 refine (rcut_c s hs w).mono ?_
 rintro e w1 ⟨v,l,rfl,ho,hd,hb1⟩
 have hlen:l.length≤s.size+1:=by
  have:=(dots_len s.data.toList).1
  rw [← hd,List.length_map,len_str] at this
  exact this
 have hsz:∀ x∈l,x.size≤s.size:=fun x hx=>by
  have:=(dots_len s.data.toList).2 x.data.toList (by rw [← hd];exact List.mem_map.2 ⟨x,hx,rfl⟩)
  rw [len_str,len_str] at this
  exact this
 obtain ⟨a,c,rfl,hst,hsl,_⟩:=ho.strs
 have HST:=Lib.hid hst
 have HD:=Lib.hid hd
 have KB:=Lib.hid hb1
 have HSZ:=Lib.hid hsz
 clear ho hst hd hb1 hsl hsz
 go_wp2_with fail
 go_loop [6] (fun i=>GIsRel l i) (fun i=>l.length - (intOf i).toNat)
 case atStart=>exact ⟨0,by omega,rfl,fun j _ h=>by omega⟩
 case round=>
  obtain ⟨k,hk,rfl,HA⟩:=hrel
  by_cases hlt:k < l.length
  ·
   obtain ⟨b,o,ha,hb⟩:=HST.out.head hlt
   subst ha
   obtain ⟨_,f0⟩:=HST.out.at hlt
   have x1:(k:Int) < l.length:=by omega
   have x2:(0:Int)≤k:=by omega
   have hls:=HSZ.out l[k] (List.getElem_mem hlt)
   cases hp:partB l[k].data.toList with
   | true=>
    skip
    have HP:=Lib.hid hp
    have HG:Hid (∀ (j:Nat) (h:j < l.length),j < k+1→gpartB l[j].data.toList=true):=fun j hj hjk=>by
     by_cases e:j=k
     ·
      subst e;unfold gpartB;simp [HP.out]
     ·
      exact HA.out j hj (by omega)
    clear hp HA
    go_wp2_with fail
    refine (rpart_c l[k] (by omega) _).mono ?_
    rintro e w2 ⟨rfl,rfl⟩
    rw [HP.out]
    go_wp2_with fail
    go_round
    case rel=>exact ⟨k+1,by omega,by go_num,HG.out⟩
    case measure=>simp [intOf]<;>omega
   | false=>
    by_cases h1:l[k].data.toList=[42]
    ·
     skip
     have z1:(l[k].toList==[42])=true:=by rw [str_toList,h1];rfl
     have HP:=Lib.hid hp
     have HG:Hid (∀ (j:Nat) (h:j < l.length),j < k+1→gpartB l[j].data.toList=true):=fun j hj hjk=>by
      by_cases e:j=k
      ·
       subst e;unfold gpartB;simp [h1]
      ·
       exact HA.out j hj (by omega)
     clear hp HA
     go_wp2_with fail
     refine (rpart_c l[k] (by omega) _).mono ?_
     rintro e w2 ⟨rfl,rfl⟩
     rw [HP.out]
     go_wp2_with fail
     go_round
     case rel=>exact ⟨k+1,by omega,by go_num,HG.out⟩
     case measure=>simp [intOf]<;>omega
    by_cases h2:l[k].data.toList=[42,42]
    ·
     skip
     have z1:(l[k].toList==[42])=false:=by rw [str_toList];simpa using h1
     have z2:(l[k].toList==[42,42])=true:=by rw [str_toList,h2];rfl
     have HP:=Lib.hid hp
     have HG:Hid (∀ (j:Nat) (h:j < l.length),j < k+1→gpartB l[j].data.toList=true):=fun j hj hjk=>by
      by_cases e:j=k
      ·
       subst e;unfold gpartB;simp [h2]
      ·
       exact HA.out j hj (by omega)
     clear hp HA
     go_wp2_with fail
     refine (rpart_c l[k] (by omega) _).mono ?_
     rintro e w2 ⟨rfl,rfl⟩
     rw [HP.out]
     go_wp2_with fail
     go_round
     case rel=>exact ⟨k+1,by omega,by go_num,HG.out⟩
     case measure=>simp [intOf]<;>omega
    have HP:=Lib.hid hp
    have HG:Hid (globB s.data.toList=false):=by
     show _=_
     unfold globB
     rw [← HD.out]
     have:(l.map (fun x=>x.data.toList)).all gpartB=false:=by
      rw [List.all_eq_false]
      exact ⟨_,List.mem_map.2 ⟨l[k],List.getElem_mem hlt,rfl⟩,by unfold gpartB;rw [hp];simp [h1,h2]⟩
     rw [this,Bool.and_false]
    have z1:(l[k].toList==[42])=false:=by rw [str_toList];simpa using h1
    have z2:(l[k].toList==[42,42])=false:=by rw [str_toList];simpa using h2
    clear hp HA h1 h2
    go_wp2_with fail
    refine (rpart_c l[k] (by omega) _).mono ?_
    rintro e w2 ⟨rfl,rfl⟩
    rw [HP.out]
    go_wp2_with fail
    go_ret
    exact ⟨ret_bool HG.out.symm,KB.out⟩
  ·
   have HG:Hid (globB s.data.toList=(decide (s.size≤40)&&decide (l.length≤8))):=by
    show _=_
    unfold globB
    rw [← HD.out]
    have:(l.map (fun x=>x.data.toList)).all gpartB=true:=by
     rw [List.all_eq_true]
     intro x hx
     obtain ⟨y,hy,rfl⟩:=List.mem_map.1 hx
     obtain ⟨j,hj,rfl⟩:=List.getElem_of_mem hy
     exact HA.out j hj (by omega)
    rw [this,Bool.and_true,len_str,List.length_map]
   clear HA
   by_cases h8:l.length≤8
   ·
    by_cases h40:s.size≤40
    ·
     have HR:Hid (globB s.data.toList=true):=by show _=_;rw [HG.out,decide_eq_true h8,decide_eq_true h40];rfl
     go_wp2_with fail
     go_ret
     exact ⟨ret_bool (by rw [HR.out];simp;omega),KB.out⟩
    ·
     have HR:Hid (globB s.data.toList=false):=by show _=_;rw [HG.out,decide_eq_false h40];rfl
     have z1:decide ((s.size:Int)≤40)=false:=by simp;omega
     go_wp2_with fail
     go_ret
     exact ⟨ret_bool HR.out.symm,KB.out⟩
   ·
    have HR:Hid (globB s.data.toList=false):=by show _=_;rw [HG.out,decide_eq_false h8,Bool.and_false]
    have z1:decide ((l.length:Int)≤8)=false:=by simp;omega
    go_wp2_with fail
    go_ret
    exact ⟨ret_bool HR.out.symm,KB.out⟩
theorem rglob_c (s:ByteArray) (hs:s.size≤1000000) (w:World):Calls Tryz.prog 117 #[.string s] w fun e w'=>e=.returned (.bool (globB s.data.toList))∧Below w.heap.size w w':=by
 go_enter Tryz.func117,Tryz.ntmps117
 go_wp2_with fail
 refine (risglob_c s hs w).mono ?_
 rintro e w1 ⟨rfl,hb1⟩
 go_wp2_with fail
 go_ret
 exact ⟨rfl,hb1⟩
end Go.Proofs.YtcbicdencgjfiaaGreatDoor
namespace Go.Proofs.YtcbicdencgjfiaaGreatDoor
open Go.RowKit Tryst
set_option maxHeartbeats 20000000
set_option maxRecDepth 20000
end Go.Proofs.YtcbicdencgjfiaaGreatDoor
namespace Go.Proofs.YtcbicdencgjfiaaGreatDoor
open Go.RowKit Tryst
set_option maxHeartbeats 2000000
set_option maxRecDepth 20000
end Go.Proofs.YtcbicdencgjfiaaGreatDoor
