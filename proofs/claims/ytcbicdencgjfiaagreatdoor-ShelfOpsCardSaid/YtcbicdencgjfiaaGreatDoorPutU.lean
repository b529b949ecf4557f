/- A strings.Builder in a box of any type that begins with it (strings.Builder itself, or a struct of one). -/
import Derived.Test.YtcbicdencgjfiaaGreatDoorProg
import Derived.Lib.Builder
import Derived.Lib.OthersKept
import Derived.Lib.OwnKind
import Derived.Lib.AppendStr
import Derived.Lib.BufferKept
import Derived.Laws.Externs
import Derived.Deep.Cut
import Derived.Test.YtcbicdencgjfiaaGreatDoorFldG
import Derived.Test.YtcbicdencgjfiaaGreatDoorNmA
import Derived.Test.YtcbicdencgjfiaaGreatDoorNumV
import Derived.Test.YtcbicdencgjfiaaGreatDoorVal47
set_option linter.unusedVariables false
set_option linter.unusedSimpArgs false
namespace Go.Proofs.YtcbicdencgjfiaaGreatDoor
open Go.RowKit Tryst
set_option maxHeartbeats 400000
set_option maxRecDepth 20000
theorem _root_.Tryst.mk_size (l:List UInt8):(ByteArray.mk l.toArray).size=l.length:=rfl
theorem infoByte:(Tryz.prog.info? 5).map (fun i=>(i.zero,i.size,i.bytes))=some (some (.int .u8 0),1,1):=by kernel_rfl
theorem sizeBld:(Tryz.prog.info? 79).map (·.size)=some 2:=by kernel_rfl
structure BT (T:TypeId):Prop where
 lies:liesAt Tryz.prog Tryz.prog.depth T (2 / Tryz.prog.cellsOf T) 0 79 1=true
 ne:T≠5
theorem btB:BT 79:=⟨by kernel_rfl,by decide⟩
def BldT (T:TypeId) (w:World) (B b:Nat) (l:List UInt8):Prop:=Lib.IsBuilder T 5 B b (Lib.byteCells l) w
def Kept (b:Nat) (w w':World):Prop:=Lib.OthersKept 5 (some b) w w'
theorem check_used (b:Nat) (w:World) (h0:w.cell? ⟨b,0,none⟩=some (.pointer (some ⟨b,0,none⟩))) :
  Calls Tryz.prog 201 #[.pointer (some ⟨b,0,none⟩)] w fun e w'=>e=.returned (.tuple #[])∧w'=w:=by
 obtain ⟨j,hj,_⟩:=Option.map_eq_some_iff.1 sizeBld
 go_enter Tryz.func201,Tryz.ntmps201
 go_wp2
 rw [Lib.run_neq_ptr_same w _ Tryz.underlying76 hj]
 go_wp2
 go_end0
 exact ⟨rfl,rfl⟩
theorem check_fresh (b:Nat) (w:World) (h0:w.cell? ⟨b,0,none⟩=some (.pointer none)) {T:TypeId} (H:BT T) (hsh:w.shape? b=some (T,2)) (hfz:w.frozen? ⟨b,0,none⟩=false) :
  Calls Tryz.prog 201 #[.pointer (some ⟨b,0,none⟩)] w fun e w'=>e=.returned (.tuple #[])∧w'=w.setCell ⟨b,0,none⟩ (.pointer (some ⟨b,0,none⟩)):=by
 obtain ⟨j,hj,hjs⟩:=Option.map_eq_some_iff.1 sizeBld
 go_enter Tryz.func201,Tryz.ntmps201
 go_wp2
 rw [Lib.run_to_unsafe w ⟨b,0,none⟩ Tryz.underlying76 Tryz.underlying288 hj (by rw [hjs];decide) hsh (Nat.zero_lt_succ 1)]
 simp only [Result.andThen]
 rw [Oper.upon_value]
 go_wp2
 rw [run_callFunc_extern Tryz.func218 (by kernel_rfl) (by kernel_rfl) (by kernel_rfl) (e:=Extern.AbiNoEscape.same) (by kernel_rfl)]
 rw [Lib.run_noEscape]
 simp only [Result.andThen]
 rw [Oper.upon_value]
 go_wp2
 rw [Lib.run_from_unsafe w ⟨b,0,none⟩ Tryz.underlying288 Tryz.underlying76 hj hsh H.lies]
 simp only [Result.andThen]
 rw [Oper.upon_value]
 go_wp2
 go_end0
 exact ⟨rfl,rfl⟩
theorem check_c {T:TypeId} (H:BT T) (B b:Nat) (bs:List Value) (w:World) (h:Lib.IsBuilder T 5 B b bs w) :
  Calls Tryz.prog 201 #[.pointer (some ⟨b,0,none⟩)] w fun e w'=>e=.returned (.tuple #[])∧Lib.BuilderAt T 5 B b (.pointer (some ⟨b,0,none⟩)) bs w'∧Below B w w'∧Kept b w w':=by
 rcases h with h | h
 ·
  refine (check_fresh b w h.cell0 H h.shape h.frozen0).mono ?_
  rintro e w' ⟨rfl,rfl⟩
  exact ⟨rfl,h.used _,(Below.refl B w).setCell (p:=⟨b,0,none⟩) h.1 _,by unfold Kept;exact (Lib.OthersKept.refl 5 (some b) w).setCell ⟨b,0,none⟩ rfl _⟩
 ·
  refine (check_used b w h.cell0).mono ?_
  rintro e w' ⟨rfl,rfl⟩
  exact ⟨rfl,h,Below.refl B _,Lib.OthersKept.refl _ _ _⟩
theorem str_cells (s:ByteArray):Lib.strCells s=Lib.byteCells s.data.toList:=by
 simp [Lib.strCells,Lib.byteCells]
set_option maxHeartbeats 2000000 in
theorem writeT_c {T:TypeId} (H:BT T) (B b:Nat) (l:List UInt8) (s:ByteArray) (w:World) (h:BldT T w B b l) (hl:l.length≤1000000000) (hs:s.size≤1000000000) (hBw:B≤w.heap.size) :
  Calls Tryz.prog 162 #[.pointer (some ⟨b,0,none⟩),.string s] w fun e w'=>e=.returned (.tuple #[.int .i64 s.size,.nilIface])∧BldT T w' B b (l++s.data.toList)∧Below B w w'∧Kept b w w':=by
 obtain ⟨i0,hi,hz0,hz1,hz2⟩:=info_parts infoByte
 have HB0:=Lib.hid h
 clear h
 go_enter Tryz.func162,Tryz.ntmps162
 go_wp2_with fail
 refine (check_c H B b _ _ HB0.out).mono ?_
 rintro e w1 ⟨rfl,h1,hb1,hk1⟩
 obtain ⟨hB,v,hbk,hown,hne⟩:=h1
 have c0:w1.cell? ⟨b,0,none⟩=some (.pointer (some ⟨b,0,none⟩)):=by rw [Lib.cell_of_heap hbk];rfl
 have c1:w1.cell? ⟨b,1,none⟩=some v:=by rw [Lib.cell_of_heap hbk];rfl
 have hle:(Lib.byteCells l).length≤1000000000:=by simp [Lib.byteCells];omega
 go_wp2_with (at_builtin;refine Lib.wpList_append_own_string _ rfl _ _ 77 9 rfl B 5 i0 Tryz.underlying77 Tryz.underlying9 hi hz0 hz1 hz2 _ _ _ rfl hown s rfl ?c3 ?c4 ?c5 ?_)
 case c3=>unfold maxLen;omega
 case c4=>omega
 case c5=>have:=hb1.size;omega
 intro v' w2 hown' hgrow _
 have hlt:b < w1.heap.size:=by
  rcases Nat.lt_or_ge b w1.heap.size with h' | h'
  ·
   exact h'
  ·
   simp [Array.getElem?_eq_none h'] at hbk
 have hb2:w2.heap[b]?=some (.cells #[.pointer (some ⟨b,0,none⟩),v] T (0,0)):=by
  rw [hgrow.block b hlt (fun e=>hne e.symm)]
  exact hbk
 have d0:w2.cell? ⟨b,0,none⟩=some (.pointer (some ⟨b,0,none⟩)):=by rw [Lib.cell_of_heap hb2];rfl
 have d1:w2.cell? ⟨b,1,none⟩=some v:=by rw [Lib.cell_of_heap hb2];rfl
 have f1:w2.frozen? ⟨b,1,none⟩=false:=Lib.frozen_of_heap hb2 1
 obtain ⟨ao,n',cap,rfl⟩:∃ ao n' cap,v'=.slice ao n' cap:=by
  rcases hown'.2 with ⟨hv,_⟩ | ⟨g,cap,cur,hv,_⟩
  ·
   exact ⟨_,_,_,hv⟩
  ·
   exact ⟨_,_,_,hv⟩
 go_wp2
 go_ret2
 refine ⟨rfl,.inr ?_,?_,by unfold Kept at hk1 ⊢;exact (hk1.grown hgrow (Lib.ownsRow_kind hown)).setCell ⟨b,1,none⟩ rfl _⟩
 ·
  refine Lib.BuilderAt.put (T:=T) (e:=5) hB hb2 (bs':=Lib.byteCells (l++s.data.toList)) ?_ H.ne
  rw [str_cells] at hown'
  simpa [Lib.byteCells] using hown'
 ·
  exact (hb1.grown hgrow (by have:=hb1.size;omega) (fun k hk=>(hown.lt k hk).1)).setCell (p:=⟨b,1,none⟩) hB _
theorem BldT.grow {T:TypeId} {w w':World} {B b:Nat} {l:List UInt8} (h:BldT T w B b l) (hb:Below w.heap.size w w'):BldT T w' B b l:=by
 have key:∀ {p:Value} {bs:List Value},Lib.BuilderAt T 5 B b p bs w→Lib.BuilderAt T 5 B b p bs w':=by
  intro p bs h
  have hlt:=h.lt
  obtain ⟨hB,v,hv,hown,hne⟩:=h
  exact ⟨hB,v,(hb.block b hlt).trans hv,own_kept hown hb,hne⟩
 rcases h with h | h
 ·
  exact .inl (key h)
 ·
  exact .inr (key h)
theorem BldT.lt {T:TypeId} {w:World} {B b:Nat} {l:List UInt8} (h:BldT T w B b l):B≤b∧b < w.heap.size:=by
 rcases h with h | h
 ·
  exact ⟨h.1,h.lt⟩
 ·
  exact ⟨h.1,h.lt⟩
theorem Kept.refl (b:Nat) (w:World):Kept b w w:=Lib.OthersKept.refl _ _ _
theorem Kept.trans {b:Nat} {u v w:World} (h:Kept b u v) (k:Kept b v w):Kept b u w:=Lib.OthersKept.trans h k
theorem Kept.below {b:Nat} {v w:World} (h:Below v.heap.size v w):Kept b v w:=Lib.OthersKept.below (Lib.OthersKept.refl _ _ _) h
theorem Kept.box {b g:Nat} {v w:World} {cs:Array Value} {T:TypeId} (h:Kept b v w) (hg:v.heap[g]?=some (.cells cs T (0,0))) (hgb:g≠b) (hT:T≠5):w.heap[g]?=some (.cells cs T (0,0)):=
 h g _ hg (by simpa using hgb) (fun c fz e=>hT (by injection e))
end Go.Proofs.YtcbicdencgjfiaaGreatDoor
/- joined: law04.Few. -/
set_option linter.unusedVariables false
set_option linter.unusedSimpArgs false
namespace Go.Proofs.YtcbicdencgjfiaaGreatDoor
open Go.RowKit Tryst
set_option maxHeartbeats 400000
set_option maxRecDepth 20000
def few60 (s:ByteArray):ByteArray:=if 60 < s.size then s.extract 0 60 else s
theorem few60_le (s:ByteArray):(few60 s).size≤60:=by
 unfold few60;split
 ·
  simp;omega
 ·
  omega
theorem few60_c (s:ByteArray) (hs:s.size≤9223372036854775807) (w:World) :
  Calls Tryz.prog 30 #[.string s] w fun e w'=>e=.returned (.string (few60 s))∧w=w':=by
 by_cases h:60 < s.size
 all_goals
  go_enter Tryz.func30,Tryz.ntmps30
  go_wp2
  first | rw [show few60 s=s.extract 0 60 by unfold few60;rw [if_pos (by omega)]] | rw [show few60 s=s by unfold few60;rw [if_neg (by omega)]]
  go_ret
  exact ⟨rfl,rfl⟩
theorem fewV_c (x:Bool) (n:Int) (s:ByteArray) (hs:s.size≤9223372036854775807) (w:World) :
  Calls Tryz.prog 66 #[.agg #[.bool x,.int .i64 n,.string s]] w fun e w'=>e=.returned (.agg #[.bool x,.int .i64 n,.string (few s)])∧Below w.heap.size w w':=by
 by_cases h:70 < s.size
 all_goals
  go_enter Tryz.func66,Tryz.ntmps66
  go_wp2
  first | rw [show few s=s.extract 0 70 by unfold few;rw [if_pos (by omega)]] | rw [show few s=s by unfold few;rw [if_neg (by omega)]]
  exact bodyPost_ret (v:=.agg #[.bool x,.int .i64 n,.string _]) (by simp [results,Tryz.results66,go_sem, *]) rfl ⟨rfl,by repeat (first | exact Below.refl _ _ | refine bdrew ?_ | refine balloc _ ?_ | refine bset _ (by simp) ?_ | refine bstep (by assumption) ?_)⟩
end Go.Proofs.YtcbicdencgjfiaaGreatDoor
namespace Go.Proofs.YtcbicdencgjfiaaGreatDoor
open Go.RowKit Tryst
set_option maxHeartbeats 400000
set_option maxRecDepth 20000
end Go.Proofs.YtcbicdencgjfiaaGreatDoor
/- joined: events. -/
set_option linter.unusedVariables false
set_option linter.unusedSimpArgs false
namespace Go.Proofs.YtcbicdencgjfiaaGreatDoor
open Go.RowKit Tryst
set_option maxHeartbeats 400000
set_option maxRecDepth 20000
end Go.Proofs.YtcbicdencgjfiaaGreatDoor
namespace Go.Proofs.YtcbicdencgjfiaaGreatDoor
open Go.RowKit Tryst
set_option maxHeartbeats 400000
set_option maxRecDepth 20000
end Go.Proofs.YtcbicdencgjfiaaGreatDoor
namespace Go.Proofs.YtcbicdencgjfiaaGreatDoor
open Go.RowKit Tryst
set_option maxHeartbeats 400000
set_option maxRecDepth 20000
end Go.Proofs.YtcbicdencgjfiaaGreatDoor
namespace Go.Proofs.YtcbicdencgjfiaaGreatDoor
open Go.RowKit Tryst
set_option maxHeartbeats 400000
set_option maxRecDepth 20000
theorem _root_.Tryst.FOwn.empty (e:TypeId) (w:World) (base:Nat) (h:base≤w.heap.size):FOwn e (w.alloc (.cells #[] e)) base (.slice (some ⟨w.heap.size,0,none⟩) 0 0) []:=by
 refine ⟨rfl,.inr ⟨w.heap.size,0,#[],rfl,h,?_,Nat.le_refl _,by unfold maxLen;omega,rfl,rfl⟩⟩
 show (w.heap.push _)[w.heap.size]?=_;simp
end Go.Proofs.YtcbicdencgjfiaaGreatDoor
namespace Go.Proofs.YtcbicdencgjfiaaGreatDoor
open Go.RowKit Tryst
set_option maxHeartbeats 400000
set_option maxRecDepth 20000
end Go.Proofs.YtcbicdencgjfiaaGreatDoor
namespace Go.Proofs.YtcbicdencgjfiaaGreatDoor
open Go.RowKit Tryst
set_option maxHeartbeats 400000
set_option maxRecDepth 20000
end Go.Proofs.YtcbicdencgjfiaaGreatDoor
namespace Go.Proofs.YtcbicdencgjfiaaGreatDoor
open Go.RowKit Tryst
set_option maxHeartbeats 400000
set_option maxRecDepth 20000
end Go.Proofs.YtcbicdencgjfiaaGreatDoor
namespace Go.Proofs.YtcbicdencgjfiaaGreatDoor
open Go.RowKit Tryst
set_option maxHeartbeats 400000
set_option maxRecDepth 20000
end Go.Proofs.YtcbicdencgjfiaaGreatDoor
namespace Go.Proofs.YtcbicdencgjfiaaGreatDoor
open Go.RowKit Tryst
set_option maxHeartbeats 400000
set_option maxRecDepth 20000
end Go.Proofs.YtcbicdencgjfiaaGreatDoor
namespace Go.Proofs.YtcbicdencgjfiaaGreatDoor
open Go.RowKit Tryst
set_option maxHeartbeats 400000
set_option maxRecDepth 20000
end Go.Proofs.YtcbicdencgjfiaaGreatDoor
namespace Go.Proofs.YtcbicdencgjfiaaGreatDoor
open Go.RowKit Tryst
set_option maxHeartbeats 400000
set_option maxRecDepth 20000
end Go.Proofs.YtcbicdencgjfiaaGreatDoor
/- The walk of event.May. -/
set_option linter.unusedVariables false
set_option linter.unusedSimpArgs false
namespace Tryst2
open Go Go.RowKit
@[go_sem] theorem boolOf_undef:boolOf undef=none:=rfl
end Tryst2
namespace Go.Proofs.YtcbicdencgjfiaaGreatDoor
open Go.RowKit Tryst
set_option maxHeartbeats 400000
set_option maxRecDepth 20000
end Go.Proofs.YtcbicdencgjfiaaGreatDoor
namespace Go.Proofs.YtcbicdencgjfiaaGreatDoor
open Go.RowKit Tryst
set_option maxHeartbeats 400000
set_option maxRecDepth 20000
end Go.Proofs.YtcbicdencgjfiaaGreatDoor
/- joined: event.Put. -/
set_option linter.unusedVariables false
set_option linter.unusedSimpArgs false
namespace Go.Proofs.YtcbicdencgjfiaaGreatDoor
open Go.RowKit Tryst
set_option maxHeartbeats 400000
set_option maxRecDepth 20000
abbrev Bld (w:World) (B b:Nat) (l:List UInt8):Prop:=BldT 79 w B b l
theorem write_c (B b:Nat) (l:List UInt8) (s:ByteArray) (w:World) (h:Bld w B b l) (hl:l.length≤1000000000) (hs:s.size≤1000000000) (hBw:B≤w.heap.size) :
  Calls Tryz.prog 162 #[.pointer (some ⟨b,0,none⟩),.string s] w fun e w'=>e=.returned (.tuple #[.int .i64 s.size,.nilIface])∧Bld w' B b (l++s.data.toList)∧Below B w w'∧Kept b w w':=writeT_c btB B b l s w h hl hs hBw
theorem Bld.grow {w w':World} {B b:Nat} {l:List UInt8} (h:Bld w B b l) (hb:Below w.heap.size w w'):Bld w' B b l:=BldT.grow h hb
theorem Bld.lt {w:World} {B b:Nat} {l:List UInt8} (h:Bld w B b l):B≤b∧b < w.heap.size:=BldT.lt h
end Go.Proofs.YtcbicdencgjfiaaGreatDoor
namespace Go.Proofs.YtcbicdencgjfiaaGreatDoor
open Go.RowKit Tryst
set_option maxHeartbeats 400000
set_option maxRecDepth 20000
def headL (t p:ByteArray) (q:Int) (n:Nat):List UInt8:=textL t.data.toList++textL p.data.toList++pack q.toNat++pack n
end Go.Proofs.YtcbicdencgjfiaaGreatDoor
namespace Go.Proofs.YtcbicdencgjfiaaGreatDoor
open Go.RowKit Tryst
set_option maxHeartbeats 400000
set_option maxRecDepth 20000
def restF (there done:Bool) (l:List FB) (f:FB):List FB:=if done then l else if there then setB l f else insB l f
structure RPut (there done:Bool) (acc rest:List FB) (l:List FB) (f:FB):Prop where
 all:acc++restF there done rest f=putB l f
 is:there=true→done=false→(findB rest f.name).isSome=true
theorem RPut.start (l:List FB) (f:FB):RPut (findB l f.name).isSome false [] l l f:=by
 refine ⟨?_,fun h _=>h⟩
 unfold restF putB
 rfl
theorem RPut.step {there done:Bool} {acc l:List FB} {x:FB} {r:List FB} {f:FB} (h:RPut there done acc (x :: r) l f) :
  (done=true→RPut there true (acc++[x]) r l f)∧
  (done=false→there=true→x.name.data.toList=f.name.data.toList→RPut true true (acc++[f]) r l f)∧
  (done=false→there=true→x.name.data.toList≠f.name.data.toList→RPut true false (acc++[x]) r l f)∧
  (done=false→there=false→Op.bytesLess f.name.data.toList x.name.data.toList=true→RPut false true (acc++[f]++[x]) r l f)∧
  (done=false→there=false→Op.bytesLess f.name.data.toList x.name.data.toList=false→RPut false false (acc++[x]) r l f):=by
 obtain ⟨h1,h2⟩:=h
 refine ⟨?_,?_,?_,?_,?_⟩
 ·
  rintro rfl
  refine ⟨?_,fun _ h=>by cases h⟩
  rw [← h1];simp [restF]
 ·
  rintro rfl rfl e
  refine ⟨?_,fun _ h=>by cases h⟩
  rw [← h1];simp [restF,setB_cons,e]
 ·
  rintro rfl rfl e
  refine ⟨?_,fun _ _=>?_⟩
  ·
   rw [← h1];simp [restF,setB_cons,e]
  ·
   have:=h2 rfl rfl
   rwa [findB_cons,if_neg e] at this
 ·
  rintro rfl rfl e
  refine ⟨?_,fun h=>by cases h⟩
  rw [← h1];simp [restF,insB_cons,e]
 ·
  rintro rfl rfl e
  refine ⟨?_,fun h=>by cases h⟩
  rw [← h1];simp [restF,insB_cons,e]
theorem RPut.done {there done:Bool} {acc l:List FB} {f:FB} (h:RPut there done acc [] l f):(done=true→acc=putB l f)∧(done=false→there=false∧acc++[f]=putB l f):=by
 obtain ⟨h1,h2⟩:=h
 refine ⟨?_,?_⟩
 ·
  rintro rfl;rw [← h1];simp [restF]
 ·
  rintro rfl
  cases there with
  | true=>have:=h2 rfl rfl;simp [findB] at this
  | false=>exact ⟨rfl,by rw [← h1];simp [restF,insB]⟩
structure RW (w:World) (B:Nat) (t p:ByteArray) (q:Int) (v:Value) (f:FB) (X:World):Prop where
 e:EAt X w.heap.size t p q v
 z:EAt X (w.heap.size+1+1) ⟨#[]⟩ ⟨#[]⟩ 0 (.slice none 0 0)
 v0:X.cell? ⟨w.heap.size+1,0,none⟩=some (.bool f.num)
 v1:X.cell? ⟨w.heap.size+1,1,none⟩=some (.int .i64 f.n)
 v2:X.cell? ⟨w.heap.size+1,2,none⟩=some (.string f.s)
 b:Below w.heap.size w X
 lo:w.heap.size+3≤B
 hi:B≤X.heap.size
theorem RW.grow {w X Y:World} {B C:Nat} {t p:ByteArray} {q:Int} {v:Value} {f:FB} (h:RW w B t p q v f X) (hC:B≤C) (hb:Below C X Y):RW w B t p q v f Y:=by
 have h1:=h.lo
 have h2:=hb.size
 have h3:=h.hi
 exact ⟨h.e.growB (by omega) hb,h.z.growB (by omega) hb,by rw [hb.cell (p:=⟨w.heap.size+1,0,none⟩) (by show w.heap.size+1 < _;omega)];exact h.v0,by rw [hb.cell (p:=⟨w.heap.size+1,1,none⟩) (by show w.heap.size+1 < _;omega)];exact h.v1,by rw [hb.cell (p:=⟨w.heap.size+1,2,none⟩) (by show w.heap.size+1 < _;omega)];exact h.v2,h.b.trans (hb.mono (by omega)),h.lo,by omega⟩
end Go.Proofs.YtcbicdencgjfiaaGreatDoor
