/- The walk of the document s way to read a value. -/
import Derived.Deep.Cut
import Derived.Test.YtcbicdencgjfiaaGreatDoorNmB
import Derived.Test.YtcbicdencgjfiaaGreatDoorParG
import Derived.Test.YtcbicdencgjfiaaGreatDoorVal47
set_option linter.unusedVariables false
set_option linter.unusedSimpArgs false
namespace Tryst
open Go Go.RowKit
structure Box (v:World) (b:Nat) (x:Bool) (n:Int) (s:ByteArray):Prop where
 c0:v.cell? ⟨b,0,none⟩=some (.bool x)
 c1:v.cell? ⟨b,1,none⟩=some (.int .i64 n)
 c2:v.cell? ⟨b,2,none⟩=some (.string s)
 f0:v.frozen? ⟨b,0,none⟩=false
 f1:v.frozen? ⟨b,1,none⟩=false
 f2:v.frozen? ⟨b,2,none⟩=false
theorem Box.new (v:World) (T:TypeId) (x:Bool) (n:Int) (s:ByteArray):Box (v.alloc (.cells #[.bool x,.int .i64 n,.string s] T)) v.heap.size x n s:=by
 refine ⟨?_,?_,?_,?_,?_,?_⟩<;>simp [go_sem]
theorem Box.grow {v w:World} {b:Nat} {x:Bool} {n:Int} {s:ByteArray} (h:Box v b x n s) (hb:b < v.heap.size) (hw:Below v.heap.size v w):Box w b x n s:=by
 obtain ⟨h1,h2,h3,h4,h5,h6⟩:=h
 refine ⟨?_,?_,?_,?_,?_,?_⟩
 ·
  rw [hw.cell (p:=⟨b,0,none⟩) hb];assumption
 ·
  rw [hw.cell (p:=⟨b,1,none⟩) hb];assumption
 ·
  rw [hw.cell (p:=⟨b,2,none⟩) hb];assumption
 ·
  rw [hw.frozen (p:=⟨b,0,none⟩) hb];assumption
 ·
  rw [hw.frozen (p:=⟨b,1,none⟩) hb];assumption
 ·
  rw [hw.frozen (p:=⟨b,2,none⟩) hb];assumption
theorem Box.set {v:World} {b:Nat} {x y:Bool} {n m:Int} {s t:ByteArray} (h:Box v b x n s):Box (((v.setCell ⟨b,0,none⟩ (.bool y)).setCell ⟨b,1,none⟩ (.int .i64 m)).setCell ⟨b,2,none⟩ (.string t)) b y m t:=by
 obtain ⟨h1,h2,h3,h4,h5,h6⟩:=h
 refine ⟨?_,?_,?_,?_,?_,?_⟩<;>simp [cell_setCell,frozen_setCell,h1,h2,h3,h4,h5,h6]
theorem Box.set2 {v:World} {b:Nat} {x:Bool} {n:Int} {s t:ByteArray} (h:Box v b x n s):Box (v.setCell ⟨b,2,none⟩ (.string t)) b x n t:=by
 obtain ⟨h1,h2,h3,h4,h5,h6⟩:=h
 refine ⟨?_,?_,?_,?_,?_,?_⟩<;>simp [cell_setCell,frozen_setCell,h1,h2,h3,h4,h5,h6]
theorem Box.other {v:World} {b c:Nat} {x:Bool} {n:Int} {s:ByteArray} {y:Value} {m:Value} {t:Value} (h:Box v b x n s) (hn:c≠b):Box (((v.setCell ⟨c,0,none⟩ y).setCell ⟨c,1,none⟩ m).setCell ⟨c,2,none⟩ t) b x n s:=by
 obtain ⟨h1,h2,h3,h4,h5,h6⟩:=h
 refine ⟨?_,?_,?_,?_,?_,?_⟩<;>simp [cell_setCell,frozen_setCell,hn,h1,h2,h3,h4,h5,h6]
end Tryst
namespace Go.Proofs.YtcbicdencgjfiaaGreatDoor
open Go.RowKit Tryst
set_option maxHeartbeats 400000
set_option maxRecDepth 20000
end Go.Proofs.YtcbicdencgjfiaaGreatDoor
/- ref05.compare, ref05.first. -/
set_option linter.unusedVariables false
set_option linter.unusedSimpArgs false
namespace Tryst
open Go Go.RowKit Go.Lib
end Tryst
namespace Go.Proofs.YtcbicdencgjfiaaGreatDoor
open Go.RowKit Tryst
set_option maxHeartbeats 4000000
set_option maxRecDepth 20000
end Go.Proofs.YtcbicdencgjfiaaGreatDoor
namespace Tryst
open Go Go.RowKit Go.Lib
end Tryst
namespace Go.Proofs.YtcbicdencgjfiaaGreatDoor
open Go.RowKit Tryst
set_option maxHeartbeats 8000000
set_option maxRecDepth 20000
section
variable {B:Nat} {v:World} {a0 a1 a2 a3 a4 a5:Value} {T:TypeId} {op r0 r1:ByteArray} {r2:Bool} {r3:Int} {r4:ByteArray} {r5:Option Addr} {r6:Nat} {r7:List PB} {s0 s1:ByteArray} {s2:Bool} {s3:Int} {s4:ByteArray} {s5:Option Addr} {s6:Nat} {s7:List PB}
end
structure FX (w v:World):Prop where
 x:BX v w.heap.size ⟨#[]⟩ ⟨#[]⟩ false 0 ⟨#[]⟩ (.slice none 0 0)
 b:Below w.heap.size w v
theorem FX.grow {w v v':World} (h:FX w v) (hb:Below v.heap.size v v'):FX w v':=⟨h.x.grow hb,bstep hb h.b⟩
theorem FX.facts {w v:World} (h:FX w v):(v.cell? ⟨w.heap.size,0,none⟩=some (.string ⟨#[]⟩)∧v.cell? ⟨w.heap.size,1,none⟩=some (.string ⟨#[]⟩)∧v.cell? ⟨w.heap.size,2,none⟩=some (.bool false)∧v.cell? ⟨w.heap.size,3,none⟩=some (.int .i64 0)∧v.cell? ⟨w.heap.size,4,none⟩=some (.string ⟨#[]⟩)∧v.cell? ⟨w.heap.size,5,none⟩=some (.slice none 0 0))∧(v.frozen? ⟨w.heap.size,0,none⟩=false∧v.frozen? ⟨w.heap.size,1,none⟩=false∧v.frozen? ⟨w.heap.size,2,none⟩=false∧v.frozen? ⟨w.heap.size,3,none⟩=false∧v.frozen? ⟨w.heap.size,4,none⟩=false∧v.frozen? ⟨w.heap.size,5,none⟩=false)∧w.heap.size < v.heap.size:=
 ⟨⟨h.x.box.c0,h.x.box.c1,h.x.box.c2,h.x.box.c3,h.x.box.c4,h.x.box.c5⟩,⟨h.x.fz 0,h.x.fz 1,h.x.fz 2,h.x.fz 3,h.x.fz 4,h.x.fz 5⟩,h.x.box.hz⟩
end Go.Proofs.YtcbicdencgjfiaaGreatDoor
