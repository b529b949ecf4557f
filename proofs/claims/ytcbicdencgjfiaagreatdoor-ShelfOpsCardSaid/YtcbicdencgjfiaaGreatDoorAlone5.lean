/- pred.alone. -/
import Derived.Test.YtcbicdencgjfiaaGreatDoorAlones
set_option linter.unusedVariables false
set_option linter.unusedSimpArgs false
namespace Go.Proofs.YtcbicdencgjfiaaGreatDoor
open Go.RowKit Tryst
set_option maxHeartbeats 400000
set_option maxRecDepth 20000
set_option maxHeartbeats 8000000 in
theorem alone_c (op s:ByteArray) (num:Bool) (n:Int) (vs:ByteArray) (a:Option Addr) (len c:Nat) (hs:s.size≤1000000000) (hv:vs.size≤1000000000) (hl:len≤1000000000) (w:World) (hM:MaxW w) :
  Calls Tryz.prog 209 #[.agg #[.string op,.string s,.bool num,.int .i64 n,.string vs,.slice a len c]] w fun e w'=>e=.returned (.bool (aloneB op s num n vs len))∧Below w.heap.size w w':=by
 have HM:=Lib.hid hM
 clear hM
 rcases op_cases op with ⟨k,rfl⟩ | ⟨h0,h1,h2,h3,h4,h5,h6,h7,h8⟩
 ·
  have hsz:s.toList.isEmpty=decide (s.size=0):=by
   rw [str_toList,← len_str]
   cases s.data.toList<;>simp
  have hvz:vs.toList=[]↔vs.size=0:=by
   rw [str_toList,← len_str]
   cases vs.data.toList<;>simp
  have HV:=Lib.hid hvz
  clear hvz
  cases k with
  | all=>
   clear HM
   by_cases hs0:s.size=0
   all_goals
    rw [show decide (s.size=0)=_ from by first | exact decide_eq_true hs0 | exact decide_eq_false hs0] at hsz
    have HS0:=Lib.hid hs0
    clear hs0
    by_cases hl0:len=0
    all_goals
     have y1:=hl0
     have HL0:=Lib.hid hl0
     clear hl0
     first | (have y2:((len:Int)==0)=true:=by simp<;>omega) | (have y2:((len:Int)==0)=false:=by simp<;>omega)
     clear y1
    all_goals
     go_enter Tryz.func209,Tryz.ntmps209
     unfold Opk.text
     go_wp2_with fail
     all_goals
      have hs0:=HS0.out
      go_ret
      refine ⟨ret_bool (Eq.trans ?_ (aloneB_at (.all) s _ _ vs len).symm),balloc _ (.refl _ _)⟩
      have hl0:=HL0.out
      have hvz:=HV.out
      dsimp only [aloneK]
      first
      | (simp only [noV,Bool.not_true,Bool.false_and,Bool.and_false];done)
      | (have hvv:vs.size=0:=hvz.1 (by assumption);simp only [noV,hvv,hl0,Bool.not_false,decide_true,decide_false,Bool.true_and,Bool.and_true,Bool.and_false,Bool.false_and,hs0];done)
      | (have hvv:¬ vs.size=0:=fun h=>(by assumption:¬ vs.toList=[]) (hvz.2 h);simp only [noV,hvv,decide_false,Bool.and_false,Bool.false_and];done)
      | (have hnn:¬ n=0:=by assumption;simp [noV,hnn];done)
      | (simp_all [noV];done)
  | topic=>
   clear hsz
   have HC:=Lib.hid (fun (W:World) (hM:MaxW W)=>glob_c s hs W hM)
   by_cases hl0:len=0
   all_goals
    have y1:=hl0
    have HL0:=Lib.hid hl0
    clear hl0
    first | (have y2:((len:Int)==0)=true:=by simp<;>omega) | (have y2:((len:Int)==0)=false:=by simp<;>omega)
    clear y1
   all_goals
    go_enter Tryz.func209,Tryz.ntmps209
    unfold Opk.text
    go_wp2_with fail
    all_goals
     refine (HC.out _ (HM.out.grow (balloc _ (.refl _ _)))).mono ?_
     rintro e w1 ⟨rfl,hb1⟩
     obtain ⟨hc1,hf1⟩:=bcell hb1
     have hz1:w.heap.size < w1.heap.size:=(by have:=hb1.size;simp at this;omega)
     have HB1:=Lib.hid (bstep hb1 (balloc _ (.refl _ _)))
     clear hb1
     cases hg:globB s.data.toList
     all_goals
      have HG:=Lib.hid hg
      clear hg
      go_wp2_with fail
      have hg:=HG.out
      go_ret
      refine ⟨ret_bool (Eq.trans ?_ (aloneB_at (.topic) s _ _ vs len).symm),HB1.out⟩
      have hl0:=HL0.out
      have hvz:=HV.out
      dsimp only [aloneK]
      first
      | (simp only [noV,Bool.not_true,Bool.false_and,Bool.and_false];done)
      | (have hvv:vs.size=0:=hvz.1 (by assumption);simp only [noV,hvv,hl0,Bool.not_false,decide_true,decide_false,Bool.true_and,Bool.and_true,Bool.and_false,Bool.false_and,hg];done)
      | (have hvv:¬ vs.size=0:=fun h=>(by assumption:¬ vs.toList=[]) (hvz.2 h);simp only [noV,hvv,decide_false,Bool.and_false,Bool.false_and];done)
      | (have hnn:¬ n=0:=by assumption;simp [noV,hnn];done)
      | (simp_all [noV];done)
  | has=>
   clear hsz
   have HC:=Lib.hid (fun (W:World) (hM:MaxW W)=>field_c s hs W hM)
   by_cases hl0:len=0
   all_goals
    have y1:=hl0
    have HL0:=Lib.hid hl0
    clear hl0
    first | (have y2:((len:Int)==0)=true:=by simp<;>omega) | (have y2:((len:Int)==0)=false:=by simp<;>omega)
    clear y1
   all_goals
    go_enter Tryz.func209,Tryz.ntmps209
    unfold Opk.text
    go_wp2_with fail
    all_goals
     refine (HC.out _ (HM.out.grow (balloc _ (.refl _ _)))).mono ?_
     rintro e w1 ⟨rfl,hb1⟩
     obtain ⟨hc1,hf1⟩:=bcell hb1
     have hz1:w.heap.size < w1.heap.size:=(by have:=hb1.size;simp at this;omega)
     have HB1:=Lib.hid (bstep hb1 (balloc _ (.refl _ _)))
     clear hb1
     cases hg:fieldB s.data.toList
     all_goals
      have HG:=Lib.hid hg
      clear hg
      go_wp2_with fail
      have hg:=HG.out
      go_ret
      refine ⟨ret_bool (Eq.trans ?_ (aloneB_at (.has) s _ _ vs len).symm),HB1.out⟩
      have hl0:=HL0.out
      have hvz:=HV.out
      dsimp only [aloneK]
      first
      | (simp only [noV,Bool.not_true,Bool.false_and,Bool.and_false];done)
      | (have hvv:vs.size=0:=hvz.1 (by assumption);simp only [noV,hvv,hl0,Bool.not_false,decide_true,decide_false,Bool.true_and,Bool.and_true,Bool.and_false,Bool.false_and,hg];done)
      | (have hvv:¬ vs.size=0:=fun h=>(by assumption:¬ vs.toList=[]) (hvz.2 h);simp only [noV,hvv,decide_false,Bool.and_false,Bool.false_and];done)
      | (have hnn:¬ n=0:=by assumption;simp [noV,hnn];done)
      | (simp_all [noV];done)
  | eq=>
   exact alone_eq_c s num n vs a len c hs hv hl w HM.out
  | lt=>
   exact alone_lt_c s num n vs a len c hs hv hl w HM.out
  | not=>
   clear HM
   by_cases hs0:s.size=0
   all_goals
    rw [show decide (s.size=0)=_ from by first | exact decide_eq_true hs0 | exact decide_eq_false hs0] at hsz
    have HS0:=Lib.hid hs0
    clear hs0
    by_cases hl0:len=1
    all_goals
     have y1:=hl0
     have HL0:=Lib.hid hl0
     clear hl0
     first | (have y2:((len:Int)==1)=true:=by simp<;>omega) | (have y2:((len:Int)==1)=false:=by simp<;>omega)
     clear y1
    all_goals
     go_enter Tryz.func209,Tryz.ntmps209
     unfold Opk.text
     go_wp2_with fail
     all_goals
      have hs0:=HS0.out
      go_ret
      refine ⟨ret_bool (Eq.trans ?_ (aloneB_at (.not) s _ _ vs len).symm),balloc _ (.refl _ _)⟩
      have hl0:=HL0.out
      have hvz:=HV.out
      dsimp only [aloneK]
      first
      | (simp only [noV,Bool.not_true,Bool.false_and,Bool.and_false];done)
      | (have hvv:vs.size=0:=hvz.1 (by assumption);simp only [noV,hvv,hl0,Bool.not_false,decide_true,decide_false,Bool.true_and,Bool.and_true,Bool.and_false,Bool.false_and,hs0];done)
      | (have hvv:¬ vs.size=0:=fun h=>(by assumption:¬ vs.toList=[]) (hvz.2 h);simp only [noV,hvv,decide_false,Bool.and_false,Bool.false_and];done)
      | (have hnn:¬ n=0:=by assumption;simp [noV,hnn];done)
      | (simp_all [noV];done)
  | and=>
   clear HM
   by_cases hs0:s.size=0
   all_goals
    rw [show decide (s.size=0)=_ from by first | exact decide_eq_true hs0 | exact decide_eq_false hs0] at hsz
    have HS0:=Lib.hid hs0
    clear hs0
    by_cases hl0:len=2
    all_goals
     have y1:=hl0
     have HL0:=Lib.hid hl0
     clear hl0
     first | (have y2:((len:Int)==2)=true:=by simp<;>omega) | (have y2:((len:Int)==2)=false:=by simp<;>omega)
     clear y1
    all_goals
     go_enter Tryz.func209,Tryz.ntmps209
     unfold Opk.text
     go_wp2_with fail
     all_goals
      have hs0:=HS0.out
      go_ret
      refine ⟨ret_bool (Eq.trans ?_ (aloneB_at (.and) s _ _ vs len).symm),balloc _ (.refl _ _)⟩
      have hl0:=HL0.out
      have hvz:=HV.out
      dsimp only [aloneK]
      first
      | (simp only [noV,Bool.not_true,Bool.false_and,Bool.and_false];done)
      | (have hvv:vs.size=0:=hvz.1 (by assumption);simp only [noV,hvv,hl0,Bool.not_false,decide_true,decide_false,Bool.true_and,Bool.and_true,Bool.and_false,Bool.false_and,hs0];done)
      | (have hvv:¬ vs.size=0:=fun h=>(by assumption:¬ vs.toList=[]) (hvz.2 h);simp only [noV,hvv,decide_false,Bool.and_false,Bool.false_and];done)
      | (have hnn:¬ n=0:=by assumption;simp [noV,hnn];done)
      | (simp_all [noV];done)
  | or=>
   clear HM
   by_cases hs0:s.size=0
   all_goals
    rw [show decide (s.size=0)=_ from by first | exact decide_eq_true hs0 | exact decide_eq_false hs0] at hsz
    have HS0:=Lib.hid hs0
    clear hs0
    by_cases hl0:len=2
    all_goals
     have y1:=hl0
     have HL0:=Lib.hid hl0
     clear hl0
     first | (have y2:((len:Int)==2)=true:=by simp<;>omega) | (have y2:((len:Int)==2)=false:=by simp<;>omega)
     clear y1
    all_goals
     go_enter Tryz.func209,Tryz.ntmps209
     unfold Opk.text
     go_wp2_with fail
     all_goals
      have hs0:=HS0.out
      go_ret
      refine ⟨ret_bool (Eq.trans ?_ (aloneB_at (.or) s _ _ vs len).symm),balloc _ (.refl _ _)⟩
      have hl0:=HL0.out
      have hvz:=HV.out
      dsimp only [aloneK]
      first
      | (simp only [noV,Bool.not_true,Bool.false_and,Bool.and_false];done)
      | (have hvv:vs.size=0:=hvz.1 (by assumption);simp only [noV,hvv,hl0,Bool.not_false,decide_true,decide_false,Bool.true_and,Bool.and_true,Bool.and_false,Bool.false_and,hs0];done)
      | (have hvv:¬ vs.size=0:=fun h=>(by assumption:¬ vs.toList=[]) (hvz.2 h);simp only [noV,hvv,decide_false,Bool.and_false,Bool.false_and];done)
      | (have hnn:¬ n=0:=by assumption;simp [noV,hnn];done)
      | (simp_all [noV];done)
 ·
  have HT:Hid (∀ num n,aloneB op s num n vs len=false):=Lib.hid (fun num n=>by unfold aloneB;rw [h0])
  clear h0
  go_enter Tryz.func209,Tryz.ntmps209
  go_wp2_with fail
  all_goals
   go_ret
   exact ⟨ret_bool (HT.out _ _).symm,balloc _ (.refl _ _)⟩
end Go.Proofs.YtcbicdencgjfiaaGreatDoor
