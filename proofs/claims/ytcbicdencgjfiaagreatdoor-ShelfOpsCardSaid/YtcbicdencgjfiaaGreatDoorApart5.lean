/- Maps with texts as keys, by what each key holds. -/
import Derived.Test.YtcbicdencgjfiaaGreatDoorProg
import Derived.WalkKit
import Derived.Maps.OwnSet
import Derived.Maps.RangeWalk
import Derived.Maps.Views
import Derived.StringKeys
import Derived.Test.YtcbicdencgjfiaaGreatDoorMeets5
import Derived.Test.YtcbicdencgjfiaaGreatDoorPars5
import Derived.Test.YtcbicdencgjfiaaGreatDoorRNS5
import Derived.Test.YtcbicdencgjfiaaGreatDoorWrT5
set_option linter.unusedVariables false
set_option linter.unusedSimpArgs false
namespace Tryst
open Go Go.RowKit Go.Maps
def rawE (v:Value):Option (DataW Value × List MemPlace):=some (.held v,[])
def keyL (l:List UInt8):Lit:=.string l
def MapS (P:Program) (k:TypeId) (w:World) (b n:Nat) (z:Value) (f:List UInt8→Value) (p:List UInt8→Bool):Prop:=
 ∃ D:DataW Value,w.ownsMap P k rawE b n D∧(∀ l,D.atKey (keyL l) (.held z)=.held (f l))∧(∀ l,Maps.has D (keyL l)=p l)
section
variable {P:Program} {k e t:TypeId} {w w':World} {b n:Nat} {z:Value} {f:List UInt8→Value} {p:List UInt8→Bool}
theorem MapS.lt (h:MapS P k w b n z f p):b < w.heap.size:=by
 obtain ⟨D,h1,_⟩:=h
 exact h1.lt
theorem MapS.of_block (h:MapS P k w b n z f p) (hb:w'.heap[b]?=w.heap[b]?):MapS P k w' b n z f p:=by
 obtain ⟨D,⟨es,c,h1,h2⟩,h3⟩:=h
 exact ⟨D,⟨es,c,hb.trans h1,h2⟩,h3⟩
theorem MapS.growB (h:MapS P k w b n z f p) {B:Nat} (hB:b < B) (hb:Below B w w'):MapS P k w' b n z f p:=h.of_block (hb.block b hB)
theorem MapS.grow (h:MapS P k w b n z f p) (hb:Below w.heap.size w w'):MapS P k w' b n z f p:=h.growB h.lt hb
theorem MapS.away (h:MapS P k w b n z f p) {c o:Nat} (hc:c≠b) (u:Value):MapS P k (w.setCell ⟨c,o,none⟩ u) b n z f p:=h.of_block (Below.heap_setCell _ _ _ _ (fun e=>hc e.symm))
theorem MapS.kept {row:Option Nat} (h:MapS P k w b n z f p) (hg:w.grownBy w' row) (hr:some b≠row):MapS P k w' b n z f p:=h.of_block (hg.block b h.lt hr)
theorem MapS.made (P:Program) (k:TypeId) (w:World) (z:Value):MapS P k (w.alloc (.map #[] 0)) w.heap.size 0 z (fun _=>z) (fun _=>false):=
 ⟨.map [],World.ownsMap_made w P k rawE,fun _=>rfl,fun _=>rfl⟩
theorem MapS.congr {f':List UInt8→Value} {p':List UInt8→Bool} (h:MapS P k w b n z f p) (hf:∀ l,f l=f' l) (hp:∀ l,p l=p' l):MapS P k w b n z f' p':=by
 obtain rfl:f=f':=funext hf
 obtain rfl:p=p':=funext hp
 exact h
theorem MapS.mono {n':Nat} (h:MapS P k w b n z f p) (hn:n≤n'):MapS P k w b n' z f p:=by
 obtain ⟨D,h1,h2⟩:=h
 exact ⟨D,h1.mono hn,h2⟩
theorem isKey (l:List UInt8):WideAt.IsKeyLit (keyL l):=by unfold WideAt.IsKeyLit keyL;trivial
theorem MapS.look (h:MapS P k w b n z f p) (hk:P.underlying k=some .string) (ht:P.underlying t=some (.map k e)) (hz:(zeroValue e).run P w=.ok z w) {s:ByteArray} (hs:s.size≤maxLen) :
  (Instr.lookup t (.map (some b)) (.string s) false).run P w=.ok (f s.data.toList) w:=by
 obtain ⟨D,h1,h2,_⟩:=h
 obtain ⟨v,ps,hrun,hv⟩:=h1.lookup (string_keyed hk) ht hz rfl (WideMaps.keyOf_string_mk hk hs)
 have e1:D.atKey (.string s.data.toList) (.held z)=.held (f s.data.toList):=h2 s.data.toList
 rw [e1] at hv
 simp only [rawE,Option.some.injEq,Prod.mk.injEq,DataW.held.injEq] at hv
 rw [hrun,hv.1]
theorem MapS.put (h:MapS P k w b n z f p) (hk:P.underlying k=some .string) (ht:P.underlying t=some (.map k e)) (hn:n < maxLen) {s:ByteArray} (hs:s.size≤maxLen) (v:Value) :
  ∃ w',(Instr.mapUpdate t (.map (some b)) (.string s) v).run P w=.ok () w'∧MapS P k w' b (n+1) z (fun l=>if l=s.data.toList then v else f l) (fun l=>decide (l=s.data.toList)||p l)∧w.grownBy w' (some b):=by
 obtain ⟨D,h1,h2,h3⟩:=h
 obtain ⟨w',hrun,ho,hg⟩:=h1.update (string_keyed hk) ht hn (WideMaps.keyOf_string_mk hk hs) (val:=v) rfl
 have hM:=h1.isMap
 refine ⟨w',hrun,⟨_,ho,fun l=>?_,fun l=>?_⟩,hg⟩
 ·
  by_cases hl:l=s.data.toList
  ·
   subst hl
   simp only [if_true]
   exact atKey_put_same hM (isKey _) _ _
  ·
   simp only [hl,if_false]
   exact (atKey_put_other (fun e=>hl (by simpa [keyL] using e)) _ _).trans (h2 l)
 ·
  by_cases hl:l=s.data.toList
  ·
   subst hl
   simp only [decide_true,Bool.true_or]
   exact has_put_same hM (isKey _) _
  ·
   simp only [hl,decide_false,Bool.false_or]
   exact (has_put_other (fun e=>hl (by simpa [keyL] using e)) _).trans (h3 l)
def RangeS (P:Program) (k:TypeId) (w:World) (b r n:Nat) (z:Value) (f:List UInt8→Value) (p q:List UInt8→Bool) (cnt:Nat):Prop:=
 ∃ (D:DataW Value) (left:Lit→Bool),w.ranges P k rawE b r n D left cnt∧(∀ l,D.atKey (keyL l) (.held z)=.held (f l))∧(∀ l,Maps.has D (keyL l)=p l)∧(∀ l,left (keyL l)=q l)
theorem RangeS.map {r cnt:Nat} {q:List UInt8→Bool} (h:RangeS P k w b r n z f p q cnt):MapS P k w b n z f p:=by
 obtain ⟨D,left,h1,h2,h3,_⟩:=h
 exact ⟨D,h1.owns,h2,h3⟩
theorem RangeS.lt {r cnt:Nat} {q:List UInt8→Bool} (h:RangeS P k w b r n z f p q cnt):r < w.heap.size:=by
 obtain ⟨D,left,h1,_⟩:=h
 exact h1.lt
theorem RangeS.of_block {r cnt:Nat} {q:List UInt8→Bool} (h:RangeS P k w b r n z f p q cnt) (hb:w'.heap[b]?=w.heap[b]?) (hr:w'.heap[r]?=w.heap[r]?):RangeS P k w' b r n z f p q cnt:=by
 obtain ⟨D,left,⟨es,c,since,seen,c0,h1,h2,h3,h4,h5,h6⟩,hh⟩:=h
 exact ⟨D,left,⟨es,c,since,seen,c0,hb.trans h1,h2,h3,h4,hr.trans h5,h6⟩,hh⟩
theorem RangeS.grow {r cnt:Nat} {q:List UInt8→Bool} (h:RangeS P k w b r n z f p q cnt) (hb:Below w.heap.size w w'):RangeS P k w' b r n z f p q cnt:=h.of_block (hb.block b h.map.lt) (hb.block r h.lt)
theorem RangeS.away {r cnt:Nat} {q:List UInt8→Bool} (h:RangeS P k w b r n z f p q cnt) {c o:Nat} (h1:c≠b) (h2:c≠r) (u:Value):RangeS P k (w.setCell ⟨c,o,none⟩ u) b r n z f p q cnt:=
 h.of_block (Below.heap_setCell _ _ _ _ (fun e=>h1 e.symm)) (Below.heap_setCell _ _ _ _ (fun e=>h2 e.symm))
end
end Tryst
/- pred.Holds of any predicate: the methods; awake. -/
set_option linter.unusedVariables false
set_option linter.unusedSimpArgs false
namespace Tryst
open Go Go.RowKit Go.Maps
end Tryst
namespace Go.Proofs.YtcbicdencgjfiaaGreatDoor
open Go.RowKit Tryst
set_option maxHeartbeats 400000
set_option maxRecDepth 20000
end Go.Proofs.YtcbicdencgjfiaaGreatDoor
namespace Go.Proofs.YtcbicdencgjfiaaGreatDoor
open Go.RowKit Tryst
set_option maxHeartbeats 400000
set_option maxRecDepth 20000
set_option maxHeartbeats 4000000
end Go.Proofs.YtcbicdencgjfiaaGreatDoor
namespace Go.Proofs.YtcbicdencgjfiaaGreatDoor
open Go.RowKit Tryst
set_option maxHeartbeats 400000
set_option maxRecDepth 20000
set_option maxHeartbeats 4000000
end Go.Proofs.YtcbicdencgjfiaaGreatDoor
namespace Go.Proofs.YtcbicdencgjfiaaGreatDoor
open Go.RowKit Tryst
set_option maxHeartbeats 2000000
set_option maxRecDepth 20000
end Go.Proofs.YtcbicdencgjfiaaGreatDoor
namespace Go.Proofs.YtcbicdencgjfiaaGreatDoor
open Go.RowKit Tryst
set_option maxHeartbeats 2000000
set_option maxRecDepth 20000
end Go.Proofs.YtcbicdencgjfiaaGreatDoor
namespace Go.Proofs.YtcbicdencgjfiaaGreatDoor
open Go.RowKit Tryst
set_option maxHeartbeats 2000000
set_option maxRecDepth 20000
end Go.Proofs.YtcbicdencgjfiaaGreatDoor
namespace Go.Proofs.YtcbicdencgjfiaaGreatDoor
open Go.RowKit Tryst
set_option maxHeartbeats 2000000
set_option maxRecDepth 20000
end Go.Proofs.YtcbicdencgjfiaaGreatDoor
namespace Go.Proofs.YtcbicdencgjfiaaGreatDoor
open Go.RowKit Tryst
set_option maxHeartbeats 2000000
set_option maxRecDepth 20000
end Go.Proofs.YtcbicdencgjfiaaGreatDoor
namespace Go.Proofs.YtcbicdencgjfiaaGreatDoor
open Go.RowKit Tryst
set_option maxHeartbeats 2000000
set_option maxRecDepth 20000
end Go.Proofs.YtcbicdencgjfiaaGreatDoor
/- The walk of the law PredApart. -/
set_option linter.unusedVariables false
set_option linter.unusedSimpArgs false
namespace Tryst
open Go Go.RowKit
mutual
theorem po_fits {w:World}:∀ x:PB,PO w x→fitsP x.pr
 | .mk op s num n vs a c l,h=>by
  obtain ⟨-,hn,-,hl⟩:=PO.parts h
  rw [PB.pr,fitsP]
  exact ⟨hn,po_fitsL l hl⟩
theorem po_fitsL {w:World}:∀ l:List PB,(∀ x,x∈l→PO w x)→fitsL (PB.prs l)
 | [],_=>by rw [PB.prs,fitsL];trivial
 | x :: r,h=>by
  rw [PB.prs,fitsL]
  exact ⟨po_fits x (h x List.mem_cons_self),po_fitsL r (fun y hy=>h y (List.mem_cons_of_mem _ hy))⟩
end
end Tryst
namespace Go.Proofs.YtcbicdencgjfiaaGreatDoor
open Go.RowKit Tryst
set_option maxHeartbeats 4000000
set_option maxRecDepth 20000
section
variable {w:World} {B:Nat} {a0 a1:ByteArray} {a2:Bool} {a3:Int} {a4:ByteArray} {a5:Value} {b0 b1:ByteArray} {b2:Bool} {b3:Int} {b4:ByteArray} {b5:Value}
end
end Go.Proofs.YtcbicdencgjfiaaGreatDoor
