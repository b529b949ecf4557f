/- What the rows list of the library's tables gives; a world for the witness. -/
import Derived.Test.YtcbicdencgjfiaaGreatDoorRows
import Derived.WalkKit
import Derived.ProofKit
import Derived.Deep.DeepHandedRow
import Derived.Lib.LaidTab
import Derived.Lib.ItoaNum
set_option linter.unusedVariables false
set_option linter.unusedSimpArgs false
namespace Go.Proofs.YtcbicdencgjfiaaGreatDoor
open Go.ChangeShapes Go.WideShapes Go.ChangeAt Go.RowKit
theorem own:ownKnob Tryz.prog.godebug=none:=by kernel_rfl
theorem laidTail {P:Program} {x:String × DataW Unit} {rest:List (String × DataW Unit)} {W:World} (h:laidMet P (x :: rest) W):laidMet P rest W:=by
 obtain ⟨ps,⟨g,t,cs,fuel,p,q,_,_,_,_,hq,rfl⟩,hn,hc⟩:=h
 exact ⟨q,hq,(List.nodup_append.1 hn).2.1,fun b off hb=>hc b off (by simp [hb])⟩
def laidTabs : List (String × DataW Unit) := [("math/bits.deBruijn32tab", Rows.laid_math_bits_deBruijn32tab), ("math/bits.deBruijn64tab", Rows.laid_math_bits_deBruijn64tab), ("internal/strconv.uint64pow10", Rows.laid_internal_strconv_uint64pow10)]
theorem gPow : Tryz.prog.globalNamed "internal/strconv.uint64pow10" = some 1 := by kernel_rfl
theorem gPowType:(Tryz.prog.globals[1]?).map (·.type)=some 336:=by kernel_rfl
theorem cellsPow:Tryz.prog.cellsOf 336=20:=by kernel_rfl
theorem cellsU64:Tryz.prog.cellsOf 46=1:=by kernel_rfl
theorem powData:Rows.laid_internal_strconv_uint64pow10 (H:=Unit)=Lib.tabData .u64 Lib.pow10Tab:=by kernel_rfl
theorem pow_of_laid {W : World} (h : laidMetH Tryz.prog laidTabs W) : Lib.TabIs Tryz.prog W "internal/strconv.uint64pow10" .u64 Lib.pow10Tab ∧ 1 < W.heap.size := by
 have h1:laidMet Tryz.prog laidTabs W:=h
 have h2:=laidTail (laidTail h1)
 rw [powData] at h2
 have ht:=Lib.tabIs_of_head gPow gPowType Tryz.underlying336 Tryz.underlying46 cellsU64 cellsPow h2
 refine ⟨ht,?_⟩
 have hc:=ht.cell gPow 0 (by decide)
 rcases Nat.lt_or_ge 1 W.heap.size with h | h
 ·
  exact h
 ·
  simp [World.cell?,Array.getElem?_eq_none h] at hc
def dataInt:DataW Unit→Value
 | .lit (.int k z)=>.int k z
 | _=>undef
def dataInts:DataW Unit→Array Value
 | .agg l=>(l.map dataInt).toArray
 | _=>#[]
def setTab (cs:Array Value):Obj→Obj
 | .cells _ t frozen=>.cells cs t frozen
 | o=>o
noncomputable def laidWorld (os:Os):World:=
 { World.holding Tryz.prog os ⟨#[],#[],[]⟩ with heap:=(((World.holding Tryz.prog os ⟨#[],#[],[]⟩).heap.modify 1 (setTab (Lib.pow10Tab.map (Value.int .u64)).toArray)).modify 2 (setTab (dataInts Rows.laid_math_bits_deBruijn32tab))).modify 3 (setTab (dataInts Rows.laid_math_bits_deBruijn64tab)) }
end Go.Proofs.YtcbicdencgjfiaaGreatDoor
