import Derived.Test.YtcbicdencgjfiaaGreatDoorProg
import Derived.WalkKit
import Derived.Maps.OwnSet
import Derived.Maps.RangeWalk
import Derived.Maps.Views
import Derived.StringKeys
import Derived.Deep.RegionWith
import Derived.Deep.Cut
import Derived.Deep.CutRange
import Derived.Laws.CopyOwn
import Derived.Laws.CopyRow
import Derived.Lib.AppendZerosOnto
import Derived.Lib.LazyBuf
import Derived.Lib.BufferMore
import Derived.Lib.Overlaps
import Derived.ArgAppend
import Derived.Test.YtcbicdencgjfiaaGreatDoorFldG
import Derived.Test.YtcbicdencgjfiaaGreatDoorFwP5
import Derived.Test.YtcbicdencgjfiaaGreatDoorMeets5
import Derived.Test.YtcbicdencgjfiaaGreatDoorParG
import Derived.Test.YtcbicdencgjfiaaGreatDoorPars5
import Derived.Test.YtcbicdencgjfiaaGreatDoorPuts4
import Derived.Test.YtcbicdencgjfiaaGreatDoorTopAD
import Derived.Test.YtcbicdencgjfiaaGreatDoorVal47
import Derived.Test.YtcbicdencgjfiaaGreatDoorWrT5
set_option linter.all false
set_option maxHeartbeats 20000000
set_option maxRecDepth 20000
namespace Tryst
open Go Go.RowKit Go.Maps
def rawE (v:Value):Option (DataW Value × List MemPlace):=some (.held v,[])
def keyL (l:List UInt8):Lit:=.string l
def MapS (P:Program) (k:TypeId) (w:World) (b n:Nat) (z:Value) (f:List UInt8->Value) (p:List UInt8->Bool):Prop:=
 ∃ D:DataW Value,w.ownsMap P k rawE b n D/\(∀ l,D.atKey (keyL l) (.held z)=.held (f l))/\(∀ l,Maps.has D (keyL l)=p l)
section
variable {P:Program} {k e t:TypeId} {w w':World} {b n:Nat} {z:Value} {f:List UInt8->Value} {p:List UInt8->Bool}
theorem MapS.lt (h:MapS P k w b n z f p):b < w.heap.size:=by
 obtain ⟨D,h1,_⟩:=h;exact h1.lt
theorem MapS.of_block (h:MapS P k w b n z f p) (hb:w'.heap[b]?=w.heap[b]?):MapS P k w' b n z f p:=by
 obtain ⟨D,⟨es,c,h1,h2⟩,h3⟩:=h;exact ⟨D,⟨es,c,hb.trans h1,h2⟩,h3⟩
theorem MapS.growB (h:MapS P k w b n z f p) {B:Nat} (hB:b < B) (hb:Below B w w'):MapS P k w' b n z f p:=h.of_block (hb.block b hB)
theorem MapS.grow (h:MapS P k w b n z f p) (hb:Below w.heap.size w w'):MapS P k w' b n z f p:=h.growB h.lt hb
theorem MapS.away (h:MapS P k w b n z f p) {c o:Nat} (hc:c≠b) (u:Value):MapS P k (w.setCell ⟨c,o,none⟩ u) b n z f p:=h.of_block (Below.heap_setCell _ _ _ _ (fun e=>hc e.symm))
theorem MapS.kept {row:Option Nat} (h:MapS P k w b n z f p) (hg:w.grownBy w' row) (hr:some b≠row):MapS P k w' b n z f p:=h.of_block (hg.block b h.lt hr)
theorem MapS.made (P:Program) (k:TypeId) (w:World) (z:Value):MapS P k (w.alloc (.map #[] 0)) w.heap.size 0 z (fun _=>z) (fun _=>false):=
 ⟨.map [],World.ownsMap_made w P k rawE,fun _=>rfl,fun _=>rfl⟩
theorem MapS.congr {f':List UInt8->Value} {p':List UInt8->Bool} (h:MapS P k w b n z f p) (hf:∀ l,f l=f' l) (hp:∀ l,p l=p' l):MapS P k w b n z f' p':=by
 obtain rfl:f=f':=funext hf;obtain rfl:p=p':=funext hp;exact h
theorem MapS.mono {n':Nat} (h:MapS P k w b n z f p) (hn:n<=n'):MapS P k w b n' z f p:=by
 obtain ⟨D,h1,h2⟩:=h;exact ⟨D,h1.mono hn,h2⟩
theorem jY6 (l:List UInt8):WideAt.IsKeyLit (keyL l):=by unfold WideAt.IsKeyLit keyL;trivial
theorem MapS.look (h:MapS P k w b n z f p) (hk:P.underlying k=some .string) (ht:P.underlying t=some (.map k e)) (hz:(zeroValue e).run P w=.ok z w) {s:ByteArray} (hs:s.size<=maxLen) :
  (Instr.lookup t (.map (some b)) (.string s) false).run P w=.ok (f s.data.toList) w:=by
 obtain ⟨D,h1,h2,_⟩:=h;obtain ⟨v,ps,hrun,hv⟩:=h1.lookup (string_keyed hk) ht hz rfl (WideMaps.keyOf_string_mk hk hs);have e1:D.atKey (.string s.data.toList) (.held z)=.held (f s.data.toList):=h2 s.data.toList;rw [e1] at hv;simp only [rawE,Option.some.injEq,Prod.mk.injEq,DataW.held.injEq] at hv;rw [hrun,hv.1]
theorem MapS.look_ok (h:MapS P k w b n z f p) (hk:P.underlying k=some .string) (ht:P.underlying t=some (.map k e)) (hz:(zeroValue e).run P w=.ok z w) {s:ByteArray} (hs:s.size<=maxLen) :
  (Instr.lookup t (.map (some b)) (.string s) true).run P w=.ok (.tuple #[f s.data.toList,.bool (p s.data.toList)]) w:=by
 obtain ⟨D,h1,h2,h3⟩:=h;obtain ⟨v,ps,hrun,hv⟩:=h1.look_ok (string_keyed hk) ht hz rfl (WideMaps.keyOf_string_mk hk hs);have e1:D.atKey (.string s.data.toList) (.held z)=.held (f s.data.toList):=h2 s.data.toList;have e2:Maps.has D (.string s.data.toList)=p s.data.toList:=h3 s.data.toList;rw [e1] at hv;rw [e2] at hrun;simp only [rawE,Option.some.injEq,Prod.mk.injEq,DataW.held.injEq] at hv;rw [hrun,hv.1]
theorem MapS.put (h:MapS P k w b n z f p) (hk:P.underlying k=some .string) (ht:P.underlying t=some (.map k e)) (hn:n < maxLen) {s:ByteArray} (hs:s.size<=maxLen) (v:Value) :
  ∃ w',(Instr.mapUpdate t (.map (some b)) (.string s) v).run P w=.ok () w'/\MapS P k w' b (n+1) z (fun l=>if l=s.data.toList then v else f l) (fun l=>decide (l=s.data.toList)||p l)/\w.grownBy w' (some b):=by
 obtain ⟨D,h1,h2,h3⟩:=h;obtain ⟨w',hrun,ho,hg⟩:=h1.update (string_keyed hk) ht hn (WideMaps.keyOf_string_mk hk hs) (val:=v) rfl;have hM:=h1.isMap;refine ⟨w',hrun,⟨_,ho,fun l=>?_,fun l=>?_⟩,hg⟩
 ·
  by_cases hl:l=s.data.toList
  · subst hl;simp only [if_true];exact atKey_put_same hM (jY6 _) _ _
  · simp only [hl,if_false];exact (atKey_put_other (fun e=>hl (by simpa [keyL] using e)) _ _).trans (h2 l)
 ·
  by_cases hl:l=s.data.toList
  · subst hl;simp only [decide_true,Bool.true_or];exact has_put_same hM (jY6 _) _
  · simp only [hl,decide_false,Bool.false_or];exact (has_put_other (fun e=>hl (by simpa [keyL] using e)) _).trans (h3 l)
theorem jQe {ops:Array Oper} {rest:List Oper} {o:Oper} {a:Act} {Q:Exit->Act->World->Prop} (hg:o.guard=none) (m x:Operand) (hop:o.op=Op.lookup t m x true)
  (h:MapS P k w b n z f p) (hk:P.underlying k=some .string) (ht:P.underlying t=some (.map k e)) (hz:(zeroValue e).run P w=.ok z w) (hm:a.eval m=.map (some b)) {s:ByteArray} (hs:s.size<=maxLen) (hx:a.eval x=.string s) {v:Value} (hv:f s.data.toList=v)
  (hK:wpList P ops Q rest (a.put o.dst (.tuple #[v,.bool (p s.data.toList)])) w):wpList P ops Q (o :: rest) a w:=by
 refine wpList_plain hg fun K' hK'=>?_
 have hrun:=h.look_ok hk ht hz hs;unfold Oper.wp;simp [execOp,hop,hm,hx,hrun,Result.andThen,hv];exact hK' _ _ hK
def jQQ (P:Program) (k:TypeId) (w:World) (b r n:Nat) (z:Value) (f:List UInt8->Value) (p q:List UInt8->Bool) (cnt:Nat):Prop:=
 ∃ (D:DataW Value) (left:Lit->Bool),w.ranges P k rawE b r n D left cnt/\(∀ l,D.atKey (keyL l) (.held z)=.held (f l))/\(∀ l,Maps.has D (keyL l)=p l)/\(∀ l,left (keyL l)=q l)
theorem jQQ.map {r cnt:Nat} {q:List UInt8->Bool} (h:jQQ P k w b r n z f p q cnt):MapS P k w b n z f p:=by
 obtain ⟨D,left,h1,h2,h3,_⟩:=h;exact ⟨D,h1.owns,h2,h3⟩
theorem jQQ.lt {r cnt:Nat} {q:List UInt8->Bool} (h:jQQ P k w b r n z f p q cnt):r < w.heap.size:=by
 obtain ⟨D,left,h1,_⟩:=h;exact h1.lt
theorem jQQ.of_block {r cnt:Nat} {q:List UInt8->Bool} (h:jQQ P k w b r n z f p q cnt) (hb:w'.heap[b]?=w.heap[b]?) (hr:w'.heap[r]?=w.heap[r]?):jQQ P k w' b r n z f p q cnt:=by
 obtain ⟨D,left,⟨es,c,since,seen,c0,h1,h2,h3,h4,h5,h6⟩,hh⟩:=h;exact ⟨D,left,⟨es,c,since,seen,c0,hb.trans h1,h2,h3,h4,hr.trans h5,h6⟩,hh⟩
theorem jQQ.grow {r cnt:Nat} {q:List UInt8->Bool} (h:jQQ P k w b r n z f p q cnt) (hb:Below w.heap.size w w'):jQQ P k w' b r n z f p q cnt:=h.of_block (hb.block b h.map.lt) (hb.block r h.lt)
theorem jQQ.away {r cnt:Nat} {q:List UInt8->Bool} (h:jQQ P k w b r n z f p q cnt) {c o:Nat} (h1:c≠b) (h2:c≠r) (u:Value):jQQ P k (w.setCell ⟨c,o,none⟩ u) b r n z f p q cnt:=
 h.of_block (Below.heap_setCell _ _ _ _ (fun e=>h1 e.symm)) (Below.heap_setCell _ _ _ _ (fun e=>h2 e.symm))
end
end Tryst
namespace Tryst
open Go Go.RowKit Go.Maps
theorem jJS {P:Program} {k e t:TypeId} {w:World} {b n:Nat} {z:Value} {f:List UInt8->Value} {p:List UInt8->Bool} {ops:Array Oper} {rest:List Oper} {o:Oper} {a:Act} {Q:Exit->Act->World->Prop} (hg:o.guard=none) (m x y:Operand) (hop:o.op=Op.insert t m x y)
  (h:MapS P k w b n z f p) (hk:P.underlying k=some .string) (ht:P.underlying t=some (.map k e)) (hn:n < maxLen) (hm:a.eval m=.map (some b)) {s:ByteArray} (hs:s.size<=maxLen) (hx:a.eval x=.string s) {v:Value} (hy:a.eval y=v)
  (hK:∀ w',MapS P k w' b (n+1) z (fun l=>if l=s.data.toList then v else f l) (fun l=>decide (l=s.data.toList)||p l)->w.grownBy w' (some b)->wpList P ops Q rest (a.put o.dst undef) w'):wpList P ops Q (o :: rest) a w:=by
 refine wpList_plain hg fun K' hK'=>?_
 obtain ⟨w',hrun,h1,h2⟩:=h.put hk ht hn hs v;unfold Oper.wp;simp [execOp,hop,hm,hx,hy,hrun,Result.andThen];exact hK' _ _ (hK w' h1 h2)
end Tryst
namespace Go.Proofs.YtcbicdencgjfiaaGreatDoor
open Go.RowKit Tryst
end Go.Proofs.YtcbicdencgjfiaaGreatDoor
namespace Tryst
open Go Go.RowKit
abbrev PO (w:World) (x:PB):Prop:=POwn w (fun _=>True) x
theorem PO.grow {w w':World} {x:PB} (h:PO w x) (hb:Below w.heap.size w w'):PO w' x:=POwn.grow h hb (fun _ _=>trivial)
theorem POwn.po {w:World} {S:Nat->Prop} {x:PB} (h:POwn w S x):PO w x:=POwn.grow h (.refl _ _) (fun _ _=>trivial)
theorem PO.parts {w:World} {op s:ByteArray} {num:Bool} {n:Int} {vs:ByteArray} {a:Option Addr} {c:Nat} {l:List PB} (h:PO w (.mk op s num n vs a c l)):(op.size<=1500000/\s.size<=1500000/\vs.size<=1500000/\l.length<=10)/\(-9223372036854775808<=n/\n<=9223372036854775807)/\Row w a 6 (l.map PB.cells)/\∀ x∈l,PO w x:=by
 cases h with
 | mk _ _ _ _ _ _ _ _ h0 h1 h2 h3 h4 h5 h6 h7 h8 h9=>exact ⟨⟨h0,h1,h2,h3⟩,h4,h5,h9⟩
theorem PO.plain {w:World} {x:PB} (h:PO w x) {b o:Nat} (e:x.a=some ⟨b,o,none⟩):b < w.heap.size/\∃ cs T,w.heap[b]?=some (.cells cs T (0,0)):=by
 cases h with
 | mk _ _ _ _ _ _ _ _ h0 h1 h2 h3 h4 h5 h6 h7 h8 h9=>exact ⟨(h7 b o e).2,h8 b o e⟩
end Tryst
namespace Go.Proofs.YtcbicdencgjfiaaGreatDoor
open Go.RowKit Tryst
end Go.Proofs.YtcbicdencgjfiaaGreatDoor
namespace Tryst
open Go Go.RowKit
end Tryst
namespace Go.Proofs.YtcbicdencgjfiaaGreatDoor
open Go.RowKit Tryst
end Go.Proofs.YtcbicdencgjfiaaGreatDoor
namespace Go.Proofs.YtcbicdencgjfiaaGreatDoor
open Go.RowKit Tryst
theorem strT:SliceOf Tryz.prog 40 9 1 16:=.mk' Tryz.underlying40 (z:=.string ⟨#[]⟩) (by kernel_rfl) rfl (by decide) (by decide)
end Go.Proofs.YtcbicdencgjfiaaGreatDoor
namespace Go.Proofs.YtcbicdencgjfiaaGreatDoor
open Go.RowKit Tryst
end Go.Proofs.YtcbicdencgjfiaaGreatDoor
namespace Go.Proofs.YtcbicdencgjfiaaGreatDoor
open Go.RowKit Tryst
end Go.Proofs.YtcbicdencgjfiaaGreatDoor
namespace Tryst
open Go
mutual
theorem vQo:∀ x:PB,J9 x=Q9 x.pr
 | .mk op s num n vs a c l=>by rw [J9,PB.pr,Q9,vQ8 l]
theorem vQ8:∀ l:List PB,Xz l=J3 (PB.prs l)
 | []=>by rw [Xz,PB.prs,J3]
 | x :: r=>by rw [Xz,PB.prs,J3,vQo x,vQ8 r]
end
end Tryst
namespace Go.Proofs.YtcbicdencgjfiaaGreatDoor
open Go.RowKit Tryst
end Go.Proofs.YtcbicdencgjfiaaGreatDoor
namespace Tryst
open Go Go.RowKit
structure Box (v:World) (b:Nat) (x:Bool) (n:Int) (s:ByteArray):Prop where
 c0:v.cell? ⟨b,0,none⟩=some (.bool x)
 c1:v.cell? ⟨b,1,none⟩=some (.int .i64 n)
 c2:v.cell? ⟨b,2,none⟩=some (.string s)
 f0:v.frozen? ⟨b,0,none⟩=false
 f1:v.frozen? ⟨b,1,none⟩=false
 f2:v.frozen? ⟨b,2,none⟩=false
theorem Box.new (v:World) (T:TypeId) (x:Bool) (n:Int) (s:ByteArray):Box (v.alloc (.cells #[.bool x,.int .i64 n,.string s] T)) v.heap.size x n s:=by
 refine ⟨?_,?_,?_,?_,?_,?_⟩<;>simp [go_sem]
theorem Box.grow {v w:World} {b:Nat} {x:Bool} {n:Int} {s:ByteArray} (h:Box v b x n s) (hb:b < v.heap.size) (hw:Below v.heap.size v w):Box w b x n s:=by
 obtain ⟨h1,h2,h3,h4,h5,h6⟩:=h;refine ⟨?_,?_,?_,?_,?_,?_⟩
 · rw [hw.cell (p:=⟨b,0,none⟩) hb];assumption
 · rw [hw.cell (p:=⟨b,1,none⟩) hb];assumption
 · rw [hw.cell (p:=⟨b,2,none⟩) hb];assumption
 · rw [hw.frozen (p:=⟨b,0,none⟩) hb];assumption
 · rw [hw.frozen (p:=⟨b,1,none⟩) hb];assumption
 · rw [hw.frozen (p:=⟨b,2,none⟩) hb];assumption
theorem Box.set {v:World} {b:Nat} {x y:Bool} {n m:Int} {s t:ByteArray} (h:Box v b x n s):Box (((v.setCell ⟨b,0,none⟩ (.bool y)).setCell ⟨b,1,none⟩ (.int .i64 m)).setCell ⟨b,2,none⟩ (.string t)) b y m t:=by
 obtain ⟨h1,h2,h3,h4,h5,h6⟩:=h;refine ⟨?_,?_,?_,?_,?_,?_⟩<;>simp [Qz,Qv,h1,h2,h3,h4,h5,h6]
theorem Box.set2 {v:World} {b:Nat} {x:Bool} {n:Int} {s t:ByteArray} (h:Box v b x n s):Box (v.setCell ⟨b,2,none⟩ (.string t)) b x n t:=by
 obtain ⟨h1,h2,h3,h4,h5,h6⟩:=h;refine ⟨?_,?_,?_,?_,?_,?_⟩<;>simp [Qz,Qv,h1,h2,h3,h4,h5,h6]
theorem Box.other {v:World} {b c:Nat} {x:Bool} {n:Int} {s:ByteArray} {y:Value} {m:Value} {t:Value} (h:Box v b x n s) (hn:c≠b):Box (((v.setCell ⟨c,0,none⟩ y).setCell ⟨c,1,none⟩ m).setCell ⟨c,2,none⟩ t) b x n s:=by
 obtain ⟨h1,h2,h3,h4,h5,h6⟩:=h;refine ⟨?_,?_,?_,?_,?_,?_⟩<;>simp [Qz,Qv,hn,h1,h2,h3,h4,h5,h6]
end Tryst
namespace Go.Proofs.YtcbicdencgjfiaaGreatDoor
open Go.RowKit Tryst
end Go.Proofs.YtcbicdencgjfiaaGreatDoor
namespace Tryst
open Go Go.RowKit Go.Lib
end Tryst
namespace Go.Proofs.YtcbicdencgjfiaaGreatDoor
open Go.RowKit Tryst
end Go.Proofs.YtcbicdencgjfiaaGreatDoor
namespace Tryst
open Go Go.RowKit Go.Lib
end Tryst
namespace Go.Proofs.YtcbicdencgjfiaaGreatDoor
open Go.RowKit Tryst
section
variable {B:Nat} {v:World} {a0 a1 a2 a3 a4 a5:Value} {T:TypeId} {op r0 r1:ByteArray} {r2:Bool} {r3:Int} {r4:ByteArray} {r5:Option Addr} {r6:Nat} {r7:List PB} {s0 s1:ByteArray} {s2:Bool} {s3:Int} {s4:ByteArray} {s5:Option Addr} {s6:Nat} {s7:List PB}
end
structure FX (w v:World):Prop where
 x:BX v w.heap.size ⟨#[]⟩ ⟨#[]⟩ false 0 ⟨#[]⟩ (.slice none 0 0)
 b:Below w.heap.size w v
theorem FX.grow {w v v':World} (h:FX w v) (hb:Below v.heap.size v v'):FX w v':=⟨h.x.grow hb,Qk hb h.b⟩
theorem FX.facts {w v:World} (h:FX w v):(v.cell? ⟨w.heap.size,0,none⟩=some (.string ⟨#[]⟩)/\v.cell? ⟨w.heap.size,1,none⟩=some (.string ⟨#[]⟩)/\v.cell? ⟨w.heap.size,2,none⟩=some (.bool false)/\v.cell? ⟨w.heap.size,3,none⟩=some (.int .i64 0)/\v.cell? ⟨w.heap.size,4,none⟩=some (.string ⟨#[]⟩)/\v.cell? ⟨w.heap.size,5,none⟩=some (.slice none 0 0))/\(v.frozen? ⟨w.heap.size,0,none⟩=false/\v.frozen? ⟨w.heap.size,1,none⟩=false/\v.frozen? ⟨w.heap.size,2,none⟩=false/\v.frozen? ⟨w.heap.size,3,none⟩=false/\v.frozen? ⟨w.heap.size,4,none⟩=false/\v.frozen? ⟨w.heap.size,5,none⟩=false)/\w.heap.size < v.heap.size:=
 ⟨⟨h.x.box.c0,h.x.box.c1,h.x.box.c2,h.x.box.c3,h.x.box.c4,h.x.box.c5⟩,⟨h.x.fz 0,h.x.fz 1,h.x.fz 2,h.x.fz 3,h.x.fz 4,h.x.fz 5⟩,h.x.box.hz⟩
end Go.Proofs.YtcbicdencgjfiaaGreatDoor
namespace Tryst
open Go Go.RowKit
mutual
theorem qQd {w:World}:∀ x:PB,PO w x->Zb x.pr
 | .mk op s num n vs a c l,h=>by
  obtain ⟨-,hn,-,hl⟩:=PO.parts h;rw [PB.pr,Zb];exact ⟨hn,xQX l hl⟩
theorem xQX {w:World}:∀ l:List PB,(∀ x,x∈l->PO w x)->jQc (PB.prs l)
 | [],_=>by rw [PB.prs,jQc];trivial
 | x :: r,h=>by
  rw [PB.prs,jQc];exact ⟨qQd x (h x List.mem_cons_self),xQX r (fun y hy=>h y (List.mem_cons_of_mem _ hy))⟩
end
end Tryst
namespace Go.Proofs.YtcbicdencgjfiaaGreatDoor
open Go.RowKit Tryst
section
variable {w:World} {B:Nat} {a0 a1:ByteArray} {a2:Bool} {a3:Int} {a4:ByteArray} {a5:Value} {b0 b1:ByteArray} {b2:Bool} {b3:Int} {b4:ByteArray} {b5:Value}
end
end Go.Proofs.YtcbicdencgjfiaaGreatDoor
namespace Go.Proofs.YtcbicdencgjfiaaGreatDoor
open Go.RowKit Tryst
end Go.Proofs.YtcbicdencgjfiaaGreatDoor
namespace Tryst
open Go Go.RowKit Go.Lib
theorem jJo {p:Pr} (h:mayP p=true) (hf:Zb p):Xv (Yk p)=some p:=by
 have h2:=h;rw [qQi,Bool.and_eq_true] at h2;have h3:=xJ0 8 p h2.1 hf [];rw [List.append_nil] at h3;unfold Xv;rw [h3];simp [h]
end Tryst
namespace Go.Proofs.YtcbicdencgjfiaaGreatDoor
open Go.RowKit Tryst
end Go.Proofs.YtcbicdencgjfiaaGreatDoor
namespace Tryst
open Go Go.RowKit
end Tryst
namespace Go.Proofs.YtcbicdencgjfiaaGreatDoor
open Go.RowKit Tryst
theorem topT:SliceOf Tryz.prog 22 64 3 48:=.mk' Tryz.underlying22 (z:=.agg #[.string ⟨#[]⟩,.int .i64 0,.slice none 0 0]) (by kernel_rfl) rfl (by decide) (by decide)
def Kp (w:World) (base:Nat) (l:List TB) (k:Nat):Prop:=∀ (i:Nat) (h:i < l.length),i < k->ROwn 9 1 w base (.slice l[i].la l[i].log.length l[i].lc) (l[i].log.map fun s=>[Value.string s])
theorem Kp.grow {w w':World} {base:Nat} {l:List TB} {k:Nat} (h:Kp w base l k) (hb:Below w.heap.size w w'):Kp w' base l k:=fun i hi hk=>(h i hi hk).grow hb
def TOwn (w:World) (base:Nat) (v:Value) (l:List TB):Prop:=ROwn 64 3 w base v (l.map TB.cells)
theorem TOwn.grow {w w':World} {base:Nat} {v:Value} {l:List TB} (h:TOwn w base v l) (hb:Below w.heap.size w w'):TOwn w' base v l:=ROwn.grow h hb
def xJ8 (w:World) (l:List TB) (e:Ending) (w':World):Prop:=∃ a c l',e=.returned (.slice a l.length c)/\l'.length=l.length/\l'.map TB.tp=l.map TB.tp/\TOwn w' w.heap.size (.slice a l.length c) l'/\Kp w' w.heap.size l' l.length/\Below w.heap.size w w'
def _root_.Tryst.TB.relog (t:TB) (a:Option Addr) (c:Nat):TB:=⟨t.name,t.first,a,t.log,c⟩
theorem TOwn.block {w:World} {base:Nat} {v:Value} {l:List TB} (h:TOwn w base v l) (h0:0 < l.length) :
  ∃ g c,v=.slice (some ⟨g,0,none⟩) l.length c/\base<=g/\g < w.heap.size/\(∀ j,w.frozen? ⟨g,j,none⟩=false)/\(∃ cur,w.heap[g]?=some (.cells cur 64 (0,0)))/\
   (∀ (i:Nat) (hi:i < l.length),TAt w g (i*3) l[i])/\
   (∀ (i:Nat) (hi:i < l.length) (a:Option Addr) (c:Nat),TOwn (w.setCell ⟨g,i*3+2,none⟩ (.slice a l[i].log.length c)) base v (l.set i (l[i].relog a c))):=by
 obtain ⟨g,c,hv,h1,h2,h3,h4,h5⟩:=ROwn.block h (TB.cells_len l) (by simpa using h0);rw [List.length_map] at hv;refine ⟨g,c,hv,h1,h2,h3,?_,fun i hi=>?_,fun i hi a c=>?_⟩
 · exact zQE h ⟨g,0,none⟩ _ _ hv
 · have h6:=h4 i (by simpa using hi);simp only [List.getElem_map] at h6;exact ⟨h6 0 (by omega),h6 1 (by omega),h6 2 (by omega)⟩
 ·
  have h6:=h5 i (by simpa using hi) 2 (by omega) (.slice a l[i].log.length c)
  have e:(l.map TB.cells).set i (((l.map TB.cells)[i]'(by simpa using hi)).set 2 (.slice a l[i].log.length c))=(l.set i (l[i].relog a c)).map TB.cells:=by
   rw [List.map_set,List.getElem_map];rfl
  rw [e] at h6;exact h6
theorem Kp.off {w:World} {base:Nat} {l:List TB} {k:Nat} (h:Kp w base l k) {g j:Nat} {cur:Array Value} (hg:w.heap[g]?=some (.cells cur 64 (0,0))) (u:Value):Kp (w.setCell ⟨g,j,none⟩ u) base l k:=
 fun i hi hk=>Kv (h i hi hk) u (kQ4 (h i hi hk) hg (by decide))
theorem Kp.next {w:World} {base:Nat} {l:List TB} {k:Nat} (h:Kp w base l k) {t:TB} (hk:k < l.length) (ht:ROwn 9 1 w base (.slice t.la t.log.length t.lc) (t.log.map fun s=>[Value.string s])):Kp w base (l.set k t) (k+1):=by
 intro i hi hik;rw [List.length_set] at hi
 by_cases e:i=k
 · subst e;rw [List.getElem_set_self];exact ht
 · rw [List.getElem_set_ne (fun h=>e h.symm)];exact h i hi (by omega)
def jYN (w:World) (p:List Tp × Nat) (e:Ending) (w':World):Prop:=∃ a c l',e=.returned (.tuple #[.slice a p.1.length c,.int .i64 p.2])/\l'.map TB.tp=p.1/\Tops w' a l'/\Sl a c p.1.length/\Below w.heap.size w w'
theorem jYN.bad {w w':World} {k:Nat} {e:Ending} (he:e=.returned (.tuple #[.slice none 0 0,.int .i64 k])) (hb:Below w.heap.size w w'):jYN w ([],k) e w':=
 ⟨none,0,[],he,rfl,Tops.nil _ _,⟨Nat.le_refl _,fun A h=>(by cases h),fun _=>rfl⟩,hb⟩
theorem zQC {w:World} {base:Nat} {a:Option Addr} {n c:Nat} {log:List ByteArray} (h:ROwn 9 1 w base (.slice a n c) (log.map fun s=>[Value.string s])):Strs w a log/\Sl a c log.length:=by
 have h2:SOwn 9 w base (.slice a n c) log:=SOwn.rows.2 h;obtain ⟨a',c',hv,h3,h4,_⟩:=h2.strs;simp only [Value.slice.injEq] at hv;obtain ⟨rfl,rfl,rfl⟩:=hv;exact ⟨h3,h4⟩
theorem Kp.logs {w:World} {base:Nat} {l:List TB} {k:Nat} (h:Kp w base l k) (hk:l.length<=k):vQT w l:=by
 intro t ht;obtain ⟨i,hi,rfl⟩:=List.getElem_of_mem ht;exact zQC (h i hi (by omega))
theorem TOwn.put2 {w:World} {base:Nat} {v:Value} {l:List TB} (h:TOwn w base v l) {g:Nat} {n c:Nat} (hv:v=.slice (some ⟨g,0,none⟩) n c) {i:Nat} (hi:i < l.length) (f:Int) (a:Option Addr) (lg:List ByteArray) (c':Nat) :
  TOwn ((w.setCell ⟨g,i*3+2,none⟩ (.slice a lg.length c')).setCell ⟨g,i*3+1,none⟩ (.int .i64 f)) base v (l.set i ⟨l[i].name,f,a,lg,c'⟩):=by
 have hlen:=TB.cells_len l;obtain ⟨g1,c1,hv1,_,_,_,_,h5⟩:=ROwn.block h hlen (by simpa using (by omega:0 < l.length));rw [hv] at hv1;simp only [Value.slice.injEq,Option.some.injEq,Addr.mk.injEq,and_true] at hv1;obtain ⟨rfl,_⟩:=hv1;have h6:=h5 i (by simpa using hi) 2 (by omega) (.slice a lg.length c')
 have e1:(l.map TB.cells).set i (((l.map TB.cells)[i]'(by simpa using hi)).set 2 (.slice a lg.length c'))=(l.set i ⟨l[i].name,l[i].first,a,lg,c'⟩).map TB.cells:=by
  rw [List.map_set,List.getElem_map];rfl
 rw [e1] at h6;obtain ⟨g2,c2,hv2,_,_,_,_,h7⟩:=ROwn.block h6 (TB.cells_len _) (by rw [List.length_map,List.length_set];omega);rw [hv] at hv2;simp only [Value.slice.injEq,Option.some.injEq,Addr.mk.injEq,and_true] at hv2;obtain ⟨rfl,_⟩:=hv2;have h8:=h7 i (by simpa using hi) 1 (by omega) (.int .i64 f)
 have e2:((l.set i ⟨l[i].name,l[i].first,a,lg,c'⟩).map TB.cells).set i ((((l.set i ⟨l[i].name,l[i].first,a,lg,c'⟩).map TB.cells)[i]'(by simpa using hi)).set 1 (.int .i64 f))=(l.set i ⟨l[i].name,f,a,lg,c'⟩).map TB.cells:=by
  rw [List.getElem_map,List.getElem_set_self];show ((l.set i ⟨l[i].name,l[i].first,a,lg,c'⟩).map TB.cells).set i (TB.cells ⟨l[i].name,f,a,lg,c'⟩)=_;rw [<- List.map_set,List.set_set]
 rw [e2] at h8;exact h8
theorem Kp.put {w:World} {base:Nat} {l:List TB} (h:Kp w base l l.length) {g j j':Nat} {cur:Array Value} (hg:w.heap[g]?=some (.cells cur 64 (0,0))) (u u':Value) {i:Nat} {t:TB} (ht:Strs w t.la t.log/\Sl t.la t.lc t.log.length) (ha:∀ b o,t.la=some ⟨b,o,none⟩->g≠b) :
  vQT ((w.setCell ⟨g,j,none⟩ u).setCell ⟨g,j',none⟩ u') (l.set i t):=by
 intro x hx;obtain ⟨k,hk,rfl⟩:=List.getElem_of_mem hx;rw [List.length_set] at hk
 by_cases e:i=k
 · subst e;rw [List.getElem_set_self];exact ⟨(ht.1.away ha u).away ha u',ht.2⟩
 · rw [List.getElem_set_ne e];have h1:=h k hk hk;have hne:=kQ4 h1 hg (by decide);exact zQC (Kv (Kv h1 u hne) u' hne)
end Go.Proofs.YtcbicdencgjfiaaGreatDoor
namespace Tryst
open Go Go.Lib
end Tryst
namespace Go.Proofs.YtcbicdencgjfiaaGreatDoor
open Go.RowKit Tryst
def AppR (w:World) (p:List Tp × Int × Nat) (e:Ending) (w':World):Prop:=∃ a c l',e=.returned (.tuple #[.slice a p.1.length c,.int .i64 p.2.1,.int .i64 p.2.2])/\l'.map TB.tp=p.1/\Tops w' a l'/\Sl a c p.1.length/\Below w.heap.size w w'
theorem AppR.bad {w w':World} {k:Nat} {e:Ending} (he:e=.returned (.tuple #[.slice none 0 0,.int .i64 0,.int .i64 k])) (hb:Below w.heap.size w w'):AppR w ([],0,k) e w':=
 ⟨none,0,[],he,rfl,Tops.nil _ _,⟨Nat.le_refl _,fun A h=>(by cases h),fun _=>rfl⟩,hb⟩
def vQE (base:Nat) (l:List TB) (v:Value) (w:World):Prop:=∃ a c l',v=.slice a l'.length c/\l'.length=l.length/\l'.map TB.tp=l.map TB.tp/\TOwn w base (.slice a l'.length c) l'/\Kp w base l' l'.length
theorem Kp.lower {w:World} {base base':Nat} {l:List TB} {k:Nat} (h:Kp w base l k) (hb:base'<=base):Kp w base' l k:=fun i hi hk=>(h i hi hk).lower hb
theorem vQE.at {base:Nat} {l:List TB} {v:Value} {w':World} (h:∃ w0,Tryst2.Grow w0 w'/\vQE base l v w0):vQE base l v w':=by
 obtain ⟨w0,hg,a,c,l',h1,h2,h3,h4,h5⟩:=h;exact ⟨a,c,l',h1,h2,h3,h4.grow hg,h5.grow hg⟩
theorem vQE.of {w w':World} {base:Nat} {l:List TB} {e:Ending} (hb:base<=w.heap.size) (h:xJ8 w l e w'):∃ v,e=.returned v/\Tryst2.Grow w w'/\∃ w0,Tryst2.Grow w0 w'/\vQE base l v w0:=by
 obtain ⟨a,c,l',rfl,h1,h2,h3,h4,h5⟩:=h;rw [<- h1] at h3 h4 ⊢;exact ⟨_,rfl,h5,w',Tryst2.Grow.refl _,a,c,l',rfl,h1,h2,ROwn.lower h3 hb,h4.lower hb⟩
theorem _root_.Tryst.ROwn.cap {e:TypeId} {k:Nat} {w:World} {base:Nat} {a:Option Addr} {n c:Nat} {l:List (List Value)} (h:ROwn e k w base (.slice a n c) l):c<=9223372036854775807:=by
 rcases h.2 with ⟨hv,_⟩ | ⟨g,cap,cur,hv,_,_,_,h2,_⟩
 · cases hv;omega
 · cases hv;exact h2
def OneP (t:TB) (v:Value) (w:World):Prop:=∃ g,v=.slice (some ⟨g,0,none⟩) 1 1/\w.heap[g]?=some (.cells #[.string t.name,.int .i64 t.first,.slice t.la t.log.length t.lc] 64 (0,0))
theorem OneP.at {t:TB} {v:Value} {w':World} (h:∃ w0,Tryst2.Grow w0 w'/\OneP t v w0):OneP t v w':=by
 obtain ⟨w0,hg,g,h1,h2⟩:=h;exact ⟨g,h1,(hg.block g (Array.getElem?_eq_some_iff.1 h2).1).trans h2⟩
theorem OneP.of (w:World) (t:TB):Tryst2.Grow w (w.alloc (.cells #[.string t.name,.int .i64 t.first,.slice t.la t.log.length t.lc] 64))/\∃ w0,Tryst2.Grow w0 (w.alloc (.cells #[.string t.name,.int .i64 t.first,.slice t.la t.log.length t.lc] 64))/\OneP t (.slice (some ⟨w.heap.size,0,none⟩) 1 1) w0:=
 ⟨Qj _ (.refl _ _),_,Tryst2.Grow.refl _,w.heap.size,rfl,by show (w.heap.push _)[w.heap.size]?=_;simp⟩
theorem TOwn.put1 {w:World} {base:Nat} {v:Value} {l:List TB} (h:TOwn w base v l) {g:Nat} {n c:Nat} (hv:v=.slice (some ⟨g,0,none⟩) n c) {i:Nat} (hi:i < l.length) (a:Option Addr) (lg:List ByteArray) (c':Nat) :
  TOwn (w.setCell ⟨g,i*3+2,none⟩ (.slice a lg.length c')) base v (l.set i ⟨l[i].name,l[i].first,a,lg,c'⟩):=by
 have hlen:=TB.cells_len l;obtain ⟨g1,c1,hv1,_,_,_,_,h5⟩:=ROwn.block h hlen (by simpa using (by omega:0 < l.length));rw [hv] at hv1;simp only [Value.slice.injEq,Option.some.injEq,Addr.mk.injEq,and_true] at hv1;obtain ⟨rfl,_⟩:=hv1;have h6:=h5 i (by simpa using hi) 2 (by omega) (.slice a lg.length c')
 have e1:(l.map TB.cells).set i (((l.map TB.cells)[i]'(by simpa using hi)).set 2 (.slice a lg.length c'))=(l.set i ⟨l[i].name,l[i].first,a,lg,c'⟩).map TB.cells:=by
  rw [List.map_set,List.getElem_map];rfl
 rw [e1] at h6;exact h6
theorem Kp.put1 {w:World} {base:Nat} {l:List TB} (h:Kp w base l l.length) {g j:Nat} {cur:Array Value} (hg:w.heap[g]?=some (.cells cur 64 (0,0))) (u:Value) {i:Nat} {t:TB} (ht:Strs w t.la t.log/\Sl t.la t.lc t.log.length) (ha:∀ b o,t.la=some ⟨b,o,none⟩->g≠b) :
  vQT (w.setCell ⟨g,j,none⟩ u) (l.set i t):=by
 intro x hx;obtain ⟨k,hk,rfl⟩:=List.getElem_of_mem hx;rw [List.length_set] at hk
 by_cases e:i=k
 · subst e;rw [List.getElem_set_self];exact ⟨ht.1.away ha u,ht.2⟩
 · rw [List.getElem_set_ne e];have h1:=h k hk hk;exact zQC (Kv h1 u (kQ4 h1 hg (by decide)))
def NewL (base:Nat) (l:List TB):Prop:=∀ t∈l,∀ b o,t.la=some ⟨b,o,none⟩->base<=b
theorem NewL.mono {base base':Nat} {l:List TB} (h:NewL base l) (hb:base'<=base):NewL base' l:=fun t ht b o e=>Nat.le_trans hb (h t ht b o e)
theorem NewL.set {base:Nat} {l:List TB} (h:NewL base l) (i:Nat) {t:TB} (ht:∀ b o,t.la=some ⟨b,o,none⟩->base<=b):NewL base (l.set i t):=fun x hx=>by
 rcases List.mem_or_eq_of_mem_set hx with h1 | rfl
 · exact h x h1
 · exact ht
def jYF (w:World) (p:List Tp × Int × Nat) (e:Ending) (w':World):Prop:=∃ a c l',e=.returned (.tuple #[.slice a p.1.length c,.int .i64 p.2.1,.int .i64 p.2.2])/\l'.map TB.tp=p.1/\Tops w' a l'/\Sl a c p.1.length/\Below w.heap.size w w'/\NewL w.heap.size l'/\∀ b o,a=some ⟨b,o,none⟩->w.heap.size<=b
theorem jYF.bad {w w':World} {k:Nat} {e:Ending} (he:e=.returned (.tuple #[.slice none 0 0,.int .i64 0,.int .i64 k])) (hb:Below w.heap.size w w'):jYF w ([],0,k) e w':=
 ⟨none,0,[],he,rfl,Tops.nil _ _,⟨Nat.le_refl _,fun A h=>(by cases h),fun _=>rfl⟩,hb,fun t h=>(by cases h),fun b o h=>(by cases h)⟩
