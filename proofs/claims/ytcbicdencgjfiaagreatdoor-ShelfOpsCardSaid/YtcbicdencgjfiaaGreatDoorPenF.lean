/- which operations may be -/
import Derived.RegionTactic
import Derived.ChangeAlike
import Derived.Lib.UnsafeStr
import Derived.Test.YtcbicdencgjfiaaGreatDoorROffA
import Derived.Test.YtcbicdencgjfiaaGreatDoorSamE14
import Derived.Test.YtcbicdencgjfiaaGreatDoorShS
set_option linter.unusedVariables false
set_option linter.unusedSimpArgs false
namespace Go.Proofs.YtcbicdencgjfiaaGreatDoor
open Go.RowKit Tryst
set_option maxHeartbeats 4000000
set_option maxRecDepth 20000
theorem emptyNe {s:ByteArray} (h:¬ s=⟨#[]⟩):s.toList.isEmpty=false:=by
 cases e:s.toList with
 | nil=>exact absurd (str_ext (by rw [← str_toList,e])) h
 | cons a b=>rfl
theorem none_c (d:DB) (w:World) (hg:d.gl.length≤1000000) (hw:d.wl.length≤1000000):Calls Tryz.prog 61 #[d.agg] w fun e w'=>e=.returned (.bool (noneD d))∧Below w.heap.size w w':=by
 obtain ⟨R,hR⟩:∃ R,noneD d=R:=⟨_,rfl⟩
 rw [hR]
 unfold noneD sameJ at hR
 obtain ⟨nm,ga,gl,gc,wa,wl,wc,ky,⟨kd,p,n,x⟩⟩:=d
 unfold DB.agg
 simp only at hR hg hw ⊢
 have HR:=Lib.hid hR
 have HX:=Lib.hid (Var.new w 45 [.string nm,.slice ga gl.length gc,.slice wa wl.length wc,.string ky,.string kd,.int .i64 p,.int .i64 n,.int .i64 x])
 have HB0:=Lib.hid (balloc (.cells #[.string nm,.slice ga gl.length gc,.slice wa wl.length wc,.string ky,.string kd,.int .i64 p,.int .i64 n,.int .i64 x] 45) (.refl w.heap.size w))
 clear hR
 go_enter Tryz.func61,Tryz.ntmps61
 go_upto_region 1 with fail
 revert HX HB0
 generalize w.alloc (.cells _ 45)=Z
 intro HX HB0
 have XX:=HX.out.cells
 simp only [VarC,Nat.reduceAdd,Nat.zero_add,and_true] at XX
 obtain ⟨x0,x1,x2,x3,x4,x5,x6,x7⟩:=XX
 by_cases h1:nm=⟨#[]⟩
 ·
  subst h1
  by_cases h2:(gl.length:Int)=0
  ·
   have e2:gl.length=0:=by omega
   by_cases h3:(wl.length:Int)=0
   ·
    have e3:wl.length=0:=by omega
    rw [e2] at x1
    rw [e3] at x2
    by_cases h4:ky=⟨#[]⟩
    ·
     subst h4
     by_cases a1:kd=⟨#[]⟩
     ·
      subst a1
      by_cases a2:p=0
      ·
       subst a2
       by_cases a3:n=0
       ·
        subst a3
        by_cases a4:x=0
        ·
         subst a4
         have HN:=Lib.hid (show R=true by rw [← HR.out];simp [e2,e3])
         clear h2 h3 e2 e3
         go_wp2_with fail
         go_ret
         exact ⟨ret_bool HN.out.symm,HB0.out⟩
        ·
         have HN:=Lib.hid (show R=false by rw [← HR.out];simp [a4])
         have b4:(x==0)=false:=by simpa using a4
         clear h2 h3 e2 e3
         go_wp2_with fail
         go_ret
         exact ⟨ret_bool HN.out.symm,HB0.out⟩
       ·
        have HN:=Lib.hid (show R=false by rw [← HR.out];simp [a3])
        have b4:(n==0)=false:=by simpa using a3
        clear h2 h3 e2 e3
        go_wp2_with fail
        go_ret
        exact ⟨ret_bool HN.out.symm,HB0.out⟩
      ·
       have HN:=Lib.hid (show R=false by rw [← HR.out];simp [a2])
       have b4:(p==0)=false:=by simpa using a2
       clear h2 h3 e2 e3
       go_wp2_with fail
       go_ret
       exact ⟨ret_bool HN.out.symm,HB0.out⟩
     ·
      have HN:=Lib.hid (show R=false by rw [← HR.out];simp [a1])
      have b4:kd.toList.isEmpty=false:=emptyNe a1
      clear h2 h3 e2 e3
      go_wp2_with fail
      go_ret
      exact ⟨ret_bool HN.out.symm,HB0.out⟩
    ·
     have HN:=Lib.hid (show R=false by rw [← HR.out];simp [h4])
     have b4:ky.toList.isEmpty=false:=emptyNe h4
     clear h2 h3 e2 e3
     go_wp2_with fail
     go_ret
     exact ⟨ret_bool HN.out.symm,HB0.out⟩
   ·
    have HN:=Lib.hid (show R=false by rw [← HR.out,decide_eq_false (show ¬ wl.length=0 by omega)];simp)
    have b4:((wl.length:Int)==0)=false:=by simpa using h3
    rw [e2] at x1
    clear h2 e2
    go_wp2_with fail
    go_ret
    exact ⟨ret_bool HN.out.symm,HB0.out⟩
  ·
   have HN:=Lib.hid (show R=false by rw [← HR.out,decide_eq_false (show ¬ gl.length=0 by omega)];simp)
   have b4:((gl.length:Int)==0)=false:=by simpa using h2
   go_wp2_with fail
   go_ret
   exact ⟨ret_bool HN.out.symm,HB0.out⟩
 ·
  have HN:=Lib.hid (show R=false by rw [← HR.out];simp [h1])
  have b4:nm.toList.isEmpty=false:=emptyNe h1
  go_wp2_with fail
  go_ret
  exact ⟨ret_bool HN.out.symm,HB0.out⟩
theorem DO.zero (w:World):DO w .zero where
 hn:=by decide
 hg:=by decide
 hgs:=fun g h=>by cases h
 gS:=fun i h=>absurd h (Nat.not_lt_zero i)
 gL:=⟨Nat.le_refl _,fun A h=>(by cases h),fun _=>rfl⟩
 hw:=by decide
 wR:=⟨Row.nil _ _ _,⟨Nat.le_refl _,fun A h=>(by cases h),fun _=>rfl⟩,fun p h=>by cases h⟩
 hk:=by decide
theorem omay20_c (o:OPB) (w:World) (hM:MaxW w) (hD:DO w o.d) (hs:o.s.size≤1000000):Calls Tryz.prog 22 #[o.agg] w fun e w'=>e=.returned (.bool (mayO o))∧Below w.heap.size w w':=by
 obtain ⟨k,s,d,ok,id,n⟩:=o
 simp only at hD hs
 have CM:=Lib.hid (fun W (hb:Below w.heap.size w W)=>dmay_c d W (hM.grow hb) (hD.grow hb))
 have CN:=Lib.hid (fun W (hb:Below w.heap.size w W)=>none_c d W (Nat.le_trans hD.hg (by decide)) (Nat.le_trans hD.hw (by decide)))
 have hNS:=noneD_same d
 obtain ⟨R,hR⟩:∃ R,mayO (OPB.mk k s d ok id n)=R:=⟨_,rfl⟩
 rw [hR]
 unfold mayO at hR
 clear hM hD
 try rw [← hNS] at CN
 simp only at hR
 generalize mayD d=md at CM hR
 generalize noneD d=nd at CN hR
 have HR:=Lib.hid hR
 have HX:=Lib.hid (Var.new w 48 (OPB.mk k s d ok id n).cells)
 have HB0:=Lib.hid (balloc (.cells (OPB.mk k s d ok id n).cells.toArray 48) (.refl w.heap.size w))
 clear hR hNS
 unfold OPB.cells at HX HB0
 unfold OPB.agg
 unfold DB.agg at CM CN
 try unfold DB.zero at CN
 simp only [List.length_nil] at CM CN HX HB0 ⊢
 go_enter Tryz.func22,Tryz.ntmps22
 go_upto_region 1 with fail
 revert HX HB0
 generalize w.alloc (.cells _ 48)=Z
 intro HX HB0
 have XX:=HX.out.cells
 simp only [VarC,Nat.reduceAdd,Nat.zero_add,and_true] at XX
 obtain ⟨x0,x1,x2,x3,x4,x5,x6,x7,x8,x9,x10,x11,x12⟩:=XX
 by_cases h1:k < 1
 ·
  have HN:=Lib.hid (show R=false by rw [← HR.out,decide_eq_false (show ¬ 1≤k by omega)];simp)
  go_wp2_with fail
  go_ret
  exact ⟨ret_bool HN.out.symm,HB0.out⟩
 ·
  by_cases h2:10 < k
  ·
   have HN:=Lib.hid (show R=false by rw [← HR.out,decide_eq_false (show ¬ k≤10 by omega)];simp)
   go_wp2_with fail
   go_ret
   exact ⟨ret_bool HN.out.symm,HB0.out⟩
  ·
   by_cases h3:2000 < s.size
   ·
    have HN:=Lib.hid (show R=false by rw [← HR.out,decide_eq_false (show ¬ s.size≤2000 by omega)];simp)
    go_wp2_with fail
    go_ret
    exact ⟨ret_bool HN.out.symm,HB0.out⟩
   ·
    have HR2:Hid (R=if k=2 then md else nd):=Lib.hid (by
     rw [← HR.out,decide_eq_true (show 1≤k by omega),decide_eq_true (show k≤10 by omega),decide_eq_true (show s.size≤2000 by omega)]
     simp)
    clear HR
    by_cases h4:k=2
    ·
     subst h4
     have HN:=Lib.hid (show R=md by rw [HR2.out,if_pos rfl])
     go_wp2_with fail
     refine (CM.out _ HB0.out).mono ?_
     rintro e w8 ⟨rfl,hb8⟩
     have HB8:=Lib.hid (bstep hb8 HB0.out)
     clear hb8
     go_wp2_with fail
     go_ret
     exact ⟨ret_bool HN.out.symm,HB8.out⟩
    ·
     have HN:=Lib.hid (show R=nd by rw [HR2.out,if_neg h4])
     have b4:(k==2)=false:=by simpa using h4
     clear h4
     go_wp2_with fail
     refine (CN.out _ HB0.out).mono ?_
     rintro e w8 ⟨rfl,hb8⟩
     have HB8:=Lib.hid (bstep hb8 HB0.out)
     clear hb8
     go_wp2_with fail
     go_ret
     exact ⟨ret_bool HN.out.symm,HB8.out⟩
theorem romay20_c (o:OPB) (w:World) (hM:MaxW w) (hD:DO w o.d) (hs:o.s.size≤1000000):Calls Tryz.prog 20 #[o.agg] w fun e w'=>e=.returned (.bool (mayO o))∧Below w.heap.size w w':=by
 obtain ⟨k,s,d,ok,id,n⟩:=o
 simp only at hD hs
 have CM:=Lib.hid (fun W (hb:Below w.heap.size w W)=>rdmay_c d W (hD.grow hb))
 have CN:=Lib.hid (fun W (hb:Below w.heap.size w W)=>rdSame_c d .zero W (hD.grow hb) (DO.zero W))
 have hNS:=noneD_same d
 obtain ⟨R,hR⟩:∃ R,mayO (OPB.mk k s d ok id n)=R:=⟨_,rfl⟩
 rw [hR]
 unfold mayO at hR
 clear hM hD
 try rw [← hNS] at CN
 simp only at hR
 generalize mayD d=md at CM hR
 generalize noneD d=nd at CN hR
 have HR:=Lib.hid hR
 have HX:=Lib.hid (Var.new w 48 (OPB.mk k s d ok id n).cells)
 have HB0:=Lib.hid (balloc (.cells (OPB.mk k s d ok id n).cells.toArray 48) (.refl w.heap.size w))
 clear hR hNS
 unfold OPB.cells at HX HB0
 unfold OPB.agg
 unfold DB.agg at CM CN
 try unfold DB.zero at CN
 simp only [List.length_nil] at CM CN HX HB0 ⊢
 go_enter Tryz.func20,Tryz.ntmps20
 go_upto_region 1 with fail
 revert HX HB0
 generalize w.alloc (.cells _ 48)=Z
 intro HX HB0
 have XX:=HX.out.cells
 simp only [VarC,Nat.reduceAdd,Nat.zero_add,and_true] at XX
 obtain ⟨x0,x1,x2,x3,x4,x5,x6,x7,x8,x9,x10,x11,x12⟩:=XX
 by_cases h1:k < 1
 ·
  have HN:=Lib.hid (show R=false by rw [← HR.out,decide_eq_false (show ¬ 1≤k by omega)];simp)
  go_wp2_with fail
  go_ret
  exact ⟨ret_bool HN.out.symm,HB0.out⟩
 ·
  by_cases h2:10 < k
  ·
   have HN:=Lib.hid (show R=false by rw [← HR.out,decide_eq_false (show ¬ k≤10 by omega)];simp)
   go_wp2_with fail
   go_ret
   exact ⟨ret_bool HN.out.symm,HB0.out⟩
  ·
   by_cases h3:2000 < s.size
   ·
    have HN:=Lib.hid (show R=false by rw [← HR.out,decide_eq_false (show ¬ s.size≤2000 by omega)];simp)
    go_wp2_with fail
    go_ret
    exact ⟨ret_bool HN.out.symm,HB0.out⟩
   ·
    have HR2:Hid (R=if k=2 then md else nd):=Lib.hid (by
     rw [← HR.out,decide_eq_true (show 1≤k by omega),decide_eq_true (show k≤10 by omega),decide_eq_true (show s.size≤2000 by omega)]
     simp)
    clear HR
    by_cases h4:k=2
    ·
     subst h4
     have HN:=Lib.hid (show R=md by rw [HR2.out,if_pos rfl])
     go_wp2_with fail
     refine (CM.out _ HB0.out).mono ?_
     rintro e w8 ⟨rfl,hb8⟩
     have HB8:=Lib.hid (bstep hb8 HB0.out)
     clear hb8
     go_wp2_with fail
     go_ret
     exact ⟨ret_bool HN.out.symm,HB8.out⟩
    ·
     have HN:=Lib.hid (show R=nd by rw [HR2.out,if_neg h4])
     have b4:(k==2)=false:=by simpa using h4
     clear h4
     go_wp2_with fail
     refine (CN.out _ HB0.out).mono ?_
     rintro e w8 ⟨rfl,hb8⟩
     have HB8:=Lib.hid (bstep hb8 HB0.out)
     clear hb8
     go_wp2_with fail
     go_ret
     exact ⟨ret_bool HN.out.symm,HB8.out⟩
end Go.Proofs.YtcbicdencgjfiaaGreatDoor
/- String of a builder in any box; LayOp -/
set_option linter.unusedVariables false
set_option linter.unusedSimpArgs false
namespace Go.Proofs.YtcbicdencgjfiaaGreatDoor
open Go.RowKit Tryst
set_option maxHeartbeats 2000000
set_option maxRecDepth 100000
theorem stringT_c {T:TypeId} (B b:Nat) (l:List UInt8) (w:World) (h:BldT T w B b l) (h0:l≠[]) :
  Calls Tryz.prog 33 #[.pointer (some ⟨b,0,none⟩)] w fun e w'=>e=.returned (.string ⟨l.toArray⟩)∧Below B w w':=by
 have hp:∃ p,Lib.BuilderAt T 5 B b p (Lib.byteCells l) w:=by
  unfold BldT Lib.IsBuilder at h
  rcases h with h | h<;>exact ⟨_,h⟩
 obtain ⟨p,-,v,hv,ho,-⟩:=hp
 have hl0:0 < l.length:=List.length_pos_iff.2 h0
 have hbl:(Lib.byteCells l).length=l.length:=Lib.byteCells_length l
 rcases ho.2 with ⟨_,hz⟩ | ⟨g,cap,cur,rfl,hg,hgh,hnc,hcm,hcs,_⟩
 ·
  omega
 ·
  rw [hbl] at hv hnc ho
  have x1:w.drew.cell? ⟨b,1,none⟩=some (.slice (some ⟨g,0,none⟩) l.length cap):=by
   have e:w.drew.heap[b]?=w.heap[b]?:=rfl
   rw [Lib.cell_of_heap (e.trans hv)]
   rfl
  have q1:(Builtin.unsafeSliceData_ #[77] 146 #[.slice (some ⟨g,0,none⟩) l.length cap]).run Tryz.prog w.drew=.ok (.pointer (some ⟨g,0,none⟩)) w.drew:=Lib.run_unsafeSliceData_row _ _ _ _ _ _ (by omega)
  have hsh:w.drew.shape? g=some (5,cur.size):=by
   have e:w.drew.heap[g]?=some (.cells cur 5 (0,0)):=hgh
   simp [World.shape?,e]
  have q2:=Lib.run_unsafeString_row (P:=Tryz.prog) (w:=w.drew) 146 3 9 5 Tryz.underlying146 (by kernel_rfl) g cur.size hsh l h0 (by omega) (by unfold maxLen at hcm;omega) (fun j x hx=>ho.cells (g:=g) rfl j (.int .u8 x.toNat) (by simp [Lib.byteCells,hx]))
  clear hnc hcm hcs hbl
  go_enter Tryz.func33,Tryz.ntmps33
  go_wp2
  go_region
  all_goals
   go_wp2
   go_ret
   exact ⟨rfl,Lib.below_freeze (Below.drew (Below.refl B w)) (p:=⟨g,0,none⟩) hg _⟩
theorem ptext_nodes:∀ (d:Nat) (p:Pr),formP p d=true→fitsP p→(pText p).length≤300*nodesP p:=by
 intro d
 induction d with
 | zero=>
  intro p h
  obtain ⟨op,s,num,n,vs,l⟩:=p
  rw [formP] at h
  simp at h
 | succ d ih=>
  intro p h hft
  obtain ⟨op,s,num,n,vs,l⟩:=p
  obtain ⟨k,rfl,h1,h2⟩:=form_at h
  rw [fitsP] at hft
  rw [text_at,nodesP]
  cases k with
  | all=>simp;omega
  | topic=>
   simp only [aloneK,Bool.and_eq_true,decide_eq_true_eq] at h1
   have:=glob_le h1.1
   simp at this ⊢;omega
  | has=>
   simp only [aloneK,Bool.and_eq_true,decide_eq_true_eq] at h1
   have:=field_le h1.1
   simp at this ⊢;omega
  | eq=>
   simp only [aloneK,Bool.and_eq_true,decide_eq_true_eq,Go.Proofs.YtcbicdencgjfiaaGreatDoor.V.mayB] at h1
   have:=field_le h1.1
   have:=write_le _ h1.2.1 hft.1
   simp at *;omega
  | lt=>
   simp only [aloneK,Bool.and_eq_true,decide_eq_true_eq,Go.Proofs.YtcbicdencgjfiaaGreatDoor.V.mayB] at h1
   have:=field_le h1.1
   have:=write_le _ h1.2.1 hft.1
   simp at *;omega
  | not=>
   simp only [aloneK,Bool.and_eq_true,decide_eq_true_eq] at h1
   obtain ⟨y,rfl⟩:=List.length_eq_one_iff.1 h1.2.2
   have hy:formP y d=true:=by simpa [formL] using h2
   have fy:fitsP y:=by
    have:=hft.2
    rw [fitsL] at this
    exact this.1
   have:=ih y hy fy
   simp [pTextL,nodesL];omega
  | and=>
   simp only [aloneK,Bool.and_eq_true,decide_eq_true_eq] at h1
   obtain ⟨y,z,rfl⟩:∃ y z,l=[y,z]:=by
    match l,h1.2.2 with
    | [y,z],_=>exact ⟨y,z,rfl⟩
   simp only [formL,Bool.and_eq_true,and_true] at h2
   have hft:=hft.2
   simp only [fitsL,and_true] at hft
   have:=ih y h2.1 hft.1
   have:=ih z h2.2 hft.2
   simp [pTextL,nodesL];omega
  | or=>
   simp only [aloneK,Bool.and_eq_true,decide_eq_true_eq] at h1
   obtain ⟨y,z,rfl⟩:∃ y z,l=[y,z]:=by
    match l,h1.2.2 with
    | [y,z],_=>exact ⟨y,z,rfl⟩
   simp only [formL,Bool.and_eq_true,and_true] at h2
   have hft:=hft.2
   simp only [fitsL,and_true] at hft
   have:=ih y h2.1 hft.1
   have:=ih z h2.2 hft.2
   simp [pTextL,nodesL];omega
theorem mayP_text {p:Pr} (h:mayP p=true) (hf:fitsP p):(pText p).length≤12000:=by
 rw [mayP_eq,Bool.and_eq_true,decide_eq_true_eq] at h
 have:=ptext_nodes 8 p h.1 hf
 omega
theorem mayD_w {d:DB} (h:mayD d=true):∀ p∈d.wl,mayP p.pr=true:=by
 unfold mayD at h
 simp only [Bool.and_eq_true,List.all_eq_true] at h
 exact h.2.2.2.2.2.2.2
structure DSm (d:DB):Prop where
 name:d.name.size≤16
 key:d.key.size≤16
 kind:d.j.kind.size≤5
 g:d.gl.length≤5
 gs:∀ g∈d.gl,g.size≤40
 w:d.wl.length≤6
theorem mayD_small {d:DB} (h:mayD d=true):DSm d:=by
 unfold mayD mayJ at h
 simp only [Bool.and_eq_true,List.all_eq_true,decide_eq_true_eq,Bool.or_eq_true] at h
 obtain ⟨h1,_,h2,⟨_,h3,_,_,h4⟩,h5,h6,h7,_⟩:=h
 refine ⟨by have:=field_le h1;rwa [len_str] at this,?_,?_,h2,fun g hg=>by have:=glob_le (h7 g hg);rwa [len_str] at this,by omega⟩
 ·
  rcases h6 with h6 | h6
  ·
   rw [h6];decide
  ·
   have:=field_le h6;rwa [len_str] at this
 ·
  split at h4
  ·
   rename_i hk
   rcases hk with hk | hk<;>rw [hk]<;>decide
  ·
   split at h4
   ·
    rename_i hk
    rw [hk];decide
   ·
    cases h4
theorem defL_le {d:DB} (hf:∀ p∈d.wl,fitsP p.pr) (hm:mayD d=true):(defL d.dp).length≤80000:=by
 have h:=mayD_small hm
 have h1:=flat_bound (f:=strL) (l:=d.gl) (m:=50) (fun x hx=>by have:=strL_le x;have:=h.gs x hx;omega)
 have h2:=flat_bound (f:=whereL) (l:=d.wl.map PB.pr) (m:=12010) (fun x hx=>by
  obtain ⟨q,hq,rfl⟩:=List.mem_map.1 hx
  have h4:=mayP_text (mayD_w hm q hq) (hf q hq)
  have:=pack_le (pText q.pr).length
  unfold whereL textL
  rw [List.length_append]
  omega)
 have e1:=pack_le d.gl.length
 have e2:=pack_le d.wl.length
 have:=strL_le d.name
 have:=strL_le d.key
 have:=strL_le d.j.kind
 have:=numL_le d.j.parts
 have:=numL_le d.j.need
 have:=numL_le d.j.window
 have:=h.g
 have:=h.w
 have:=h.name
 have:=h.key
 have:=h.kind
 unfold DB.dp defL listL
 simp only [List.length_append,List.length_map] at h2 ⊢
 omega
theorem mayO_s {q:OPB} (hm:mayO q=true):q.s.size≤2000∧(q.kind=2→mayD q.d=true):=by
 unfold mayO at hm
 simp only [Bool.and_eq_true,decide_eq_true_eq] at hm
 exact ⟨hm.2.2.1,fun hk=>by rw [if_pos hk] at hm;exact hm.2.2.2⟩
theorem opL_le {q:OPB} (hf:∀ p∈q.d.wl,fitsP p.pr) (hm:mayO q=true):(opL q.p).length≤90000:=by
 obtain ⟨hs,hk⟩:=mayO_s hm
 have:=numL_le q.kind
 have:=strL_le q.s
 have:=pack_le q.id
 have:=numL_le q.n
 have e:(truthL q.ok).length=1:=rfl
 unfold OPB.p opL OpP.head Tryst.headL
 simp only [List.length_append]
 split
 ·
  rename_i h2
  have:=defL_le hf (hk h2)
  omega
 ·
  simp only [List.length_nil]
  omega
theorem opL_ne (q:OPB):opL q.p≠[]:=by
 intro h
 have h2:=congrArg List.length h
 unfold OPB.p opL OpP.head Tryst.headL at h2
 simp only [List.length_append,List.length_nil] at h2
 have e:(truthL q.ok).length=1:=rfl
 omega
theorem layop_c (q:OPB) (w:World) (hM:MaxW w) (hT:Tab w) (hD:DO w q.d) (hj:JIn q.d.j) (hq:OPIn q) (hs:q.s.size≤1000000) :
  Calls Tryz.prog 17 #[q.agg] w fun e w'=>e=.returned (.tuple #[.string (if mayO q=true then ⟨(opL q.p).toArray⟩ else ⟨#[]⟩),.int .i64 (if mayO q=true then 0 else 1)])∧Below w.heap.size w w':=by
 have CM:=Lib.hid (fun W (hb:Below w.heap.size w W)=>omay20_c q W (hM.grow hb) (hD.grow hb) hs)
 have CP:=Lib.hid (fun (hm:mayO q=true) W0 (hb:Below w.heap.size w W0) Y X b hX=>pop_c q (W0:=W0) (Y:=Y) (w:=X) (b:=b) (o:=[]) hX (hM.grow hb) (hT.grow hb) (hD.grow hb) hj hq (fun hk=>mayD_w ((mayO_s hm).2 hk)) (by have:=opL_le (fun p hp=>po_fits p (hD.wR.po p hp).1) hm;simp;omega))
 have hne:=opL_ne q
 obtain ⟨m,hm⟩:∃ m,mayO q=m:=⟨_,rfl⟩
 rw [hm] at CM CP
 rw [hm]
 generalize opL q.p=L at CP hne ⊢
 clear hM hT hD hj hq hs hm
 have HNE:=Lib.hid hne
 clear hne
 obtain ⟨k,s,d,ok,id,n⟩:=q
 have HX:=Lib.hid (Var.new w 48 (OPB.mk k s d ok id n).cells)
 have HB0:=Lib.hid (balloc (.cells (OPB.mk k s d ok id n).cells.toArray 48) (.refl w.heap.size w))
 unfold OPB.cells at HX HB0
 unfold OPB.agg at CM CP ⊢
 simp only at CM CP HX HB0 ⊢
 go_enter Tryz.func17,Tryz.ntmps17
 go_upto_region 1 with fail
 revert HX HB0
 generalize w.alloc (.cells _ 48)=Z
 intro HX HB0
 have XX:=HX.out.cells
 simp only [VarC,Nat.reduceAdd,Nat.zero_add,and_true] at XX
 obtain ⟨x0,x1,x2,x3,x4,x5,x6,x7,x8,x9,x10,x11,x12⟩:=XX
 cases m with
 | false=>
  go_wp2_with fail
  refine (CM.out _ HB0.out).mono ?_
  rintro e w2 ⟨rfl,hb2⟩
  have HB2:=Lib.hid (bstep hb2 HB0.out)
  clear hb2
  go_wp2_with fail
  go_ret2
  exact ⟨by simp,HB2.out⟩
 | true=>
  have HX0:=HX
  go_wp2_with fail
  refine (CM.out _ HB0.out).mono ?_
  rintro e w2 ⟨rfl,hb2⟩
  have HB2:=Lib.hid (bstep hb2 HB0.out)
  have HX2:=Lib.hid (HX.out.grow hb2)
  clear hb2 HX HB0 x0 x1 x2 x3 x4 x5 x6 x7 x8 x9 x10 x11 x12 HX0
  have HP:=Lib.hid (show PenS w2 (w2.alloc (.cells #[.pointer none,.slice none 0 0] 81)) w2.heap.size [] (w2.alloc (.cells #[.pointer none,.slice none 0 0] 81)) from ⟨Lib.fresh_isBuilder 81 5 w2,balloc _ (.refl _ _),Kept.refl _ _⟩)
  have HX3:=Lib.hid (HX2.out.grow (balloc (.cells #[.pointer none,.slice none 0 0] 81) (.refl _ w2)))
  go_upto_region 4 with fail
  revert HP HX3
  generalize w2.alloc (.cells #[.pointer none,.slice none 0 0] 81)=Y
  intro HP HX3
  have XX:=HX3.out.cells
  simp only [VarC,Nat.reduceAdd,Nat.zero_add,and_true] at XX
  obtain ⟨x0,x1,x2,x3,x4,x5,x6,x7,x8,x9,x10,x11,x12⟩:=XX
  go_wp2_with fail
  refine (CP.out (by trivial) w2 HB2.out _ _ _ HP.out).mono ?_
  rintro e w3 ⟨rfl,h3⟩
  have H3:=Lib.hid h3
  clear h3 HP HX3 x0 x1 x2 x3 x4 x5 x6 x7 x8 x9 x10 x11 x12
  go_wp2_with fail
  refine (stringT_c w2.heap.size _ _ _ H3.out.bld HNE.out).mono ?_
  rintro e w4 ⟨rfl,hb4⟩
  have HB4:=Lib.hid (bstep (H3.out.low.trans hb4) HB2.out)
  clear hb4 H3
  go_wp2_with fail
  go_ret2
  exact ⟨by simp,HB4.out⟩
end Go.Proofs.YtcbicdencgjfiaaGreatDoor
