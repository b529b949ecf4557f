/- joined: topic.of, Find, end; may; Check; ask, End. -/
import Derived.IntWalk
import Derived.Laws.CopyOwn
import Derived.Laws.CopyRow
import Derived.Lib.AppendZerosOnto
import Derived.Lib.LazyBuf
import Derived.Lib.BufferMore
import Derived.Lib.Overlaps
import Derived.ArgAppend
import Derived.Test.YtcbicdencgjfiaaGreatDoorNmB
import Derived.Test.YtcbicdencgjfiaaGreatDoorPuts4
import Derived.Test.YtcbicdencgjfiaaGreatDoorRdAB
import Derived.Test.YtcbicdencgjfiaaGreatDoorRowK
set_option linter.unusedVariables false
set_option linter.unusedSimpArgs false
namespace Go.Proofs.YtcbicdencgjfiaaGreatDoor
open Go.RowKit Tryst
set_option maxHeartbeats 400000
set_option maxRecDepth 20000
end Go.Proofs.YtcbicdencgjfiaaGreatDoor
namespace Go.Proofs.YtcbicdencgjfiaaGreatDoor
open Go.RowKit Tryst
set_option maxHeartbeats 400000
set_option maxRecDepth 20000
structure TBox (w:World) (b:Nat) (n:ByteArray) (x:Int) (v:Value):Prop where
 c0:w.cell? ⟨b,0,none⟩=some (.string n)
 c1:w.cell? ⟨b,1,none⟩=some (.int .i64 x)
 c2:w.cell? ⟨b,2,none⟩=some v
 f0:w.frozen? ⟨b,0,none⟩=false
 f1:w.frozen? ⟨b,1,none⟩=false
 f2:w.frozen? ⟨b,2,none⟩=false
 hz:b < w.heap.size
theorem TBox.grow {v w:World} {b:Nat} {n:ByteArray} {x:Int} {u:Value} (h:TBox v b n x u) (hw:Below v.heap.size v w):TBox w b n x u:=by
 obtain ⟨h0,h1,h2,h3,h4,h5,h6⟩:=h
 exact ⟨by rw [hw.cell (p:=⟨b,0,none⟩) h6];exact h0,by rw [hw.cell (p:=⟨b,1,none⟩) h6];exact h1,by rw [hw.cell (p:=⟨b,2,none⟩) h6];exact h2,by rw [hw.frozen (p:=⟨b,0,none⟩) h6];exact h3,by rw [hw.frozen (p:=⟨b,1,none⟩) h6];exact h4,by rw [hw.frozen (p:=⟨b,2,none⟩) h6];exact h5,Nat.lt_of_lt_of_le h6 hw.size⟩
theorem TBox.new (w:World) (n:ByteArray) (x:Int) (v:Value) (T:TypeId):TBox (w.alloc (.cells #[.string n,.int .i64 x,v] T)) w.heap.size n x v:=by
 constructor<;>simp [go_sem]
end Go.Proofs.YtcbicdencgjfiaaGreatDoor
namespace Go.Proofs.YtcbicdencgjfiaaGreatDoor
open Go.RowKit Tryst
set_option maxHeartbeats 400000
set_option maxRecDepth 20000
end Go.Proofs.YtcbicdencgjfiaaGreatDoor
namespace Go.Proofs.YtcbicdencgjfiaaGreatDoor
open Go.RowKit Tryst
set_option maxHeartbeats 400000
set_option maxRecDepth 20000
end Go.Proofs.YtcbicdencgjfiaaGreatDoor
/- joined: clone, trim, insert and append of topics. -/
set_option linter.unusedVariables false
set_option linter.unusedSimpArgs false
namespace Tryst
open Go Go.RowKit
end Tryst
namespace Go.Proofs.YtcbicdencgjfiaaGreatDoor
open Go.RowKit Tryst
set_option maxHeartbeats 400000
set_option maxRecDepth 20000
end Go.Proofs.YtcbicdencgjfiaaGreatDoor
namespace Go.Proofs.YtcbicdencgjfiaaGreatDoor
open Go.RowKit Tryst
set_option maxHeartbeats 400000
set_option maxRecDepth 20000
def TLogO (w:World) (base:Nat) (l:List TB) (k:Nat):Prop:=∀ (i:Nat) (h:i < l.length),i < k→ROwn 9 1 w base (.slice l[i].la l[i].log.length l[i].lc) (l[i].log.map fun s=>[Value.string s])
theorem TLogO.grow {w w':World} {base:Nat} {l:List TB} {k:Nat} (h:TLogO w base l k) (hb:Below w.heap.size w w'):TLogO w' base l k:=fun i hi hk=>(h i hi hk).grow hb
def TOwn (w:World) (base:Nat) (v:Value) (l:List TB):Prop:=ROwn 64 3 w base v (l.map TB.cells)
theorem TOwn.grow {w w':World} {base:Nat} {v:Value} {l:List TB} (h:TOwn w base v l) (hb:Below w.heap.size w w'):TOwn w' base v l:=ROwn.grow h hb
def CloneTR (w:World) (l:List TB) (e:Ending) (w':World):Prop:=∃ a c l',e=.returned (.slice a l.length c)∧l'.length=l.length∧l'.map TB.tp=l.map TB.tp∧TOwn w' w.heap.size (.slice a l.length c) l'∧TLogO w' w.heap.size l' l.length∧Below w.heap.size w w'
def _root_.Tryst.TB.relog (t:TB) (a:Option Addr) (c:Nat):TB:=⟨t.name,t.first,a,t.log,c⟩
theorem TOwn.block {w:World} {base:Nat} {v:Value} {l:List TB} (h:TOwn w base v l) (h0:0 < l.length) :
  ∃ g c,v=.slice (some ⟨g,0,none⟩) l.length c∧base≤g∧g < w.heap.size∧(∀ j,w.frozen? ⟨g,j,none⟩=false)∧(∃ cur,w.heap[g]?=some (.cells cur 64 (0,0)))∧
   (∀ (i:Nat) (hi:i < l.length),TAt w g (i*3) l[i])∧
   (∀ (i:Nat) (hi:i < l.length) (a:Option Addr) (c:Nat),TOwn (w.setCell ⟨g,i*3+2,none⟩ (.slice a l[i].log.length c)) base v (l.set i (l[i].relog a c))):=by
 obtain ⟨g,c,hv,h1,h2,h3,h4,h5⟩:=ROwn.block h (TB.cells_len l) (by simpa using h0)
 rw [List.length_map] at hv
 refine ⟨g,c,hv,h1,h2,h3,?_,fun i hi=>?_,fun i hi a c=>?_⟩
 ·
  exact own_typed h ⟨g,0,none⟩ _ _ hv
 ·
  have h6:=h4 i (by simpa using hi)
  simp only [List.getElem_map] at h6
  exact ⟨h6 0 (by omega),h6 1 (by omega),h6 2 (by omega)⟩
 ·
  have h6:=h5 i (by simpa using hi) 2 (by omega) (.slice a l[i].log.length c)
  have e:(l.map TB.cells).set i (((l.map TB.cells)[i]'(by simpa using hi)).set 2 (.slice a l[i].log.length c))=(l.set i (l[i].relog a c)).map TB.cells:=by
   rw [List.map_set,List.getElem_map]
   rfl
  rw [e] at h6
  exact h6
theorem TLogO.off {w:World} {base:Nat} {l:List TB} {k:Nat} (h:TLogO w base l k) {g j:Nat} {cur:Array Value} (hg:w.heap[g]?=some (.cells cur 64 (0,0))) (u:Value):TLogO (w.setCell ⟨g,j,none⟩ u) base l k:=
 fun i hi hk=>own_setCell_off (h i hi hk) u (typed_ne (h i hi hk) hg (by decide))
theorem TLogO.next {w:World} {base:Nat} {l:List TB} {k:Nat} (h:TLogO w base l k) {t:TB} (hk:k < l.length) (ht:ROwn 9 1 w base (.slice t.la t.log.length t.lc) (t.log.map fun s=>[Value.string s])):TLogO w base (l.set k t) (k+1):=by
 intro i hi hik
 rw [List.length_set] at hi
 by_cases e:i=k
 ·
  subst e
  rw [List.getElem_set_self]
  exact ht
 ·
  rw [List.getElem_set_ne (fun h=>e h.symm)]
  exact h i hi (by omega)
end Go.Proofs.YtcbicdencgjfiaaGreatDoor
namespace Go.Proofs.YtcbicdencgjfiaaGreatDoor
open Go.RowKit Tryst
set_option maxHeartbeats 400000
set_option maxRecDepth 20000
def TopsR (w:World) (p:List Tp × Nat) (e:Ending) (w':World):Prop:=∃ a c l',e=.returned (.tuple #[.slice a p.1.length c,.int .i64 p.2])∧l'.map TB.tp=p.1∧Tops w' a l'∧Sl a c p.1.length∧Below w.heap.size w w'
theorem TopsR.bad {w w':World} {k:Nat} {e:Ending} (he:e=.returned (.tuple #[.slice none 0 0,.int .i64 k])) (hb:Below w.heap.size w w'):TopsR w ([],k) e w':=
 ⟨none,0,[],he,rfl,Tops.nil _ _,⟨Nat.le_refl _,fun A h=>(by cases h),fun _=>rfl⟩,hb⟩
theorem rows_strs {w:World} {base:Nat} {a:Option Addr} {n c:Nat} {log:List ByteArray} (h:ROwn 9 1 w base (.slice a n c) (log.map fun s=>[Value.string s])):Strs w a log∧Sl a c log.length:=by
 have h2:SOwn 9 w base (.slice a n c) log:=SOwn.rows.2 h
 obtain ⟨a',c',hv,h3,h4,_⟩:=h2.strs
 simp only [Value.slice.injEq] at hv
 obtain ⟨rfl,rfl,rfl⟩:=hv
 exact ⟨h3,h4⟩
theorem TLogO.logs {w:World} {base:Nat} {l:List TB} {k:Nat} (h:TLogO w base l k) (hk:l.length≤k):TLogs w l:=by
 intro t ht
 obtain ⟨i,hi,rfl⟩:=List.getElem_of_mem ht
 exact rows_strs (h i hi (by omega))
theorem TLogO.put {w:World} {base:Nat} {l:List TB} (h:TLogO w base l l.length) {g j j':Nat} {cur:Array Value} (hg:w.heap[g]?=some (.cells cur 64 (0,0))) (u u':Value) {i:Nat} {t:TB} (ht:Strs w t.la t.log∧Sl t.la t.lc t.log.length) (ha:∀ b o,t.la=some ⟨b,o,none⟩→g≠b) :
  TLogs ((w.setCell ⟨g,j,none⟩ u).setCell ⟨g,j',none⟩ u') (l.set i t):=by
 intro x hx
 obtain ⟨k,hk,rfl⟩:=List.getElem_of_mem hx
 rw [List.length_set] at hk
 by_cases e:i=k
 ·
  subst e
  rw [List.getElem_set_self]
  exact ⟨(ht.1.away ha u).away ha u',ht.2⟩
 ·
  rw [List.getElem_set_ne e]
  have h1:=h k hk hk
  have hne:=typed_ne h1 hg (by decide)
  exact rows_strs (own_setCell_off (own_setCell_off h1 u hne) u' hne)
end Go.Proofs.YtcbicdencgjfiaaGreatDoor
namespace Go.Proofs.YtcbicdencgjfiaaGreatDoor
open Go.RowKit Tryst
set_option maxHeartbeats 400000
set_option maxRecDepth 20000
end Go.Proofs.YtcbicdencgjfiaaGreatDoor
namespace Go.Proofs.YtcbicdencgjfiaaGreatDoor
open Go.RowKit Tryst
set_option maxHeartbeats 400000
set_option maxRecDepth 20000
end Go.Proofs.YtcbicdencgjfiaaGreatDoor
namespace Go.Proofs.YtcbicdencgjfiaaGreatDoor
open Go.RowKit Tryst
set_option maxHeartbeats 400000
set_option maxRecDepth 20000
end Go.Proofs.YtcbicdencgjfiaaGreatDoor
namespace Go.Proofs.YtcbicdencgjfiaaGreatDoor
open Go.RowKit Tryst
set_option maxHeartbeats 400000
set_option maxRecDepth 20000
end Go.Proofs.YtcbicdencgjfiaaGreatDoor
namespace Tryst
open Go Go.Lib
end Tryst
namespace Go.Proofs.YtcbicdencgjfiaaGreatDoor
open Go.RowKit Tryst
set_option maxHeartbeats 400000
set_option maxRecDepth 20000
def AppR (w:World) (p:List Tp × Int × Nat) (e:Ending) (w':World):Prop:=∃ a c l',e=.returned (.tuple #[.slice a p.1.length c,.int .i64 p.2.1,.int .i64 p.2.2])∧l'.map TB.tp=p.1∧Tops w' a l'∧Sl a c p.1.length∧Below w.heap.size w w'
theorem AppR.bad {w w':World} {k:Nat} {e:Ending} (he:e=.returned (.tuple #[.slice none 0 0,.int .i64 0,.int .i64 k])) (hb:Below w.heap.size w w'):AppR w ([],0,k) e w':=
 ⟨none,0,[],he,rfl,Tops.nil _ _,⟨Nat.le_refl _,fun A h=>(by cases h),fun _=>rfl⟩,hb⟩
def CloneP (base:Nat) (l:List TB) (v:Value) (w:World):Prop:=∃ a c l',v=.slice a l'.length c∧l'.length=l.length∧l'.map TB.tp=l.map TB.tp∧TOwn w base (.slice a l'.length c) l'∧TLogO w base l' l'.length
theorem TLogO.lower {w:World} {base base':Nat} {l:List TB} {k:Nat} (h:TLogO w base l k) (hb:base'≤base):TLogO w base' l k:=fun i hi hk=>(h i hi hk).lower hb
theorem CloneP.at {base:Nat} {l:List TB} {v:Value} {w':World} (h:∃ w0,Tryst2.Grow w0 w'∧CloneP base l v w0):CloneP base l v w':=by
 obtain ⟨w0,hg,a,c,l',h1,h2,h3,h4,h5⟩:=h
 exact ⟨a,c,l',h1,h2,h3,h4.grow hg,h5.grow hg⟩
theorem CloneP.of {w w':World} {base:Nat} {l:List TB} {e:Ending} (hb:base≤w.heap.size) (h:CloneTR w l e w'):∃ v,e=.returned v∧Tryst2.Grow w w'∧∃ w0,Tryst2.Grow w0 w'∧CloneP base l v w0:=by
 obtain ⟨a,c,l',rfl,h1,h2,h3,h4,h5⟩:=h
 rw [← h1] at h3 h4 ⊢
 exact ⟨_,rfl,h5,w',Tryst2.Grow.refl _,a,c,l',rfl,h1,h2,ROwn.lower h3 hb,h4.lower hb⟩
theorem _root_.Tryst.ROwn.cap {e:TypeId} {k:Nat} {w:World} {base:Nat} {a:Option Addr} {n c:Nat} {l:List (List Value)} (h:ROwn e k w base (.slice a n c) l):c≤9223372036854775807:=by
 rcases h.2 with ⟨hv,_⟩ | ⟨g,cap,cur,hv,_,_,_,h2,_⟩
 ·
  cases hv;omega
 ·
  cases hv;exact h2
def OneP (t:TB) (v:Value) (w:World):Prop:=∃ g,v=.slice (some ⟨g,0,none⟩) 1 1∧w.heap[g]?=some (.cells #[.string t.name,.int .i64 t.first,.slice t.la t.log.length t.lc] 64 (0,0))
theorem OneP.at {t:TB} {v:Value} {w':World} (h:∃ w0,Tryst2.Grow w0 w'∧OneP t v w0):OneP t v w':=by
 obtain ⟨w0,hg,g,h1,h2⟩:=h
 exact ⟨g,h1,(hg.block g (Array.getElem?_eq_some_iff.1 h2).1).trans h2⟩
theorem OneP.of (w:World) (t:TB):Tryst2.Grow w (w.alloc (.cells #[.string t.name,.int .i64 t.first,.slice t.la t.log.length t.lc] 64))∧∃ w0,Tryst2.Grow w0 (w.alloc (.cells #[.string t.name,.int .i64 t.first,.slice t.la t.log.length t.lc] 64))∧OneP t (.slice (some ⟨w.heap.size,0,none⟩) 1 1) w0:=
 ⟨balloc _ (.refl _ _),_,Tryst2.Grow.refl _,w.heap.size,rfl,by show (w.heap.push _)[w.heap.size]?=_;simp⟩
def NewL (base:Nat) (l:List TB):Prop:=∀ t∈l,∀ b o,t.la=some ⟨b,o,none⟩→base≤b
theorem NewL.mono {base base':Nat} {l:List TB} (h:NewL base l) (hb:base'≤base):NewL base' l:=fun t ht b o e=>Nat.le_trans hb (h t ht b o e)
theorem NewL.set {base:Nat} {l:List TB} (h:NewL base l) (i:Nat) {t:TB} (ht:∀ b o,t.la=some ⟨b,o,none⟩→base≤b):NewL base (l.set i t):=fun x hx=>by
 rcases List.mem_or_eq_of_mem_set hx with h1 | rfl
 ·
  exact h x h1
 ·
  exact ht
def AppRO (w:World) (p:List Tp × Int × Nat) (e:Ending) (w':World):Prop:=∃ a c l',e=.returned (.tuple #[.slice a p.1.length c,.int .i64 p.2.1,.int .i64 p.2.2])∧l'.map TB.tp=p.1∧Tops w' a l'∧Sl a c p.1.length∧Below w.heap.size w w'∧NewL w.heap.size l'∧∀ b o,a=some ⟨b,o,none⟩→w.heap.size≤b
theorem AppRO.bad {w w':World} {k:Nat} {e:Ending} (he:e=.returned (.tuple #[.slice none 0 0,.int .i64 0,.int .i64 k])) (hb:Below w.heap.size w w'):AppRO w ([],0,k) e w':=
 ⟨none,0,[],he,rfl,Tops.nil _ _,⟨Nat.le_refl _,fun A h=>(by cases h),fun _=>rfl⟩,hb,fun t h=>(by cases h),fun b o h=>(by cases h)⟩
end Go.Proofs.YtcbicdencgjfiaaGreatDoor
/- joined: offs.Check, Get, Put. -/
set_option linter.unusedVariables false
set_option linter.unusedSimpArgs false
namespace Tryst
open Go Go.RowKit
def OB.cells (t:OB):List Value:=[.string t.topic,.int .i64 t.next]
theorem OB.cells_len (l:List OB):∀ x∈l.map OB.cells,x.length=2:=by
 intro x hx
 obtain ⟨t,_,rfl⟩:=List.mem_map.1 hx
 rfl
structure OAt (w:World) (b o:Nat) (t:OB):Prop where
 c0:w.cell? ⟨b,o,none⟩=some (.string t.topic)
 c1:w.cell? ⟨b,o+1,none⟩=some (.int .i64 t.next)
abbrev Offs (w:World) (a:Option Addr) (l:List OB):Prop:=Row w a 2 (l.map OB.cells)
theorem Offs.at {w:World} {b o:Nat} {l:List OB} (h:Offs w (some ⟨b,o,none⟩) l) {i:Nat} (hi:i < l.length):b < w.heap.size∧OAt w b (o+i*2) l[i]:=by
 obtain ⟨h1,h2⟩:=Row.at h (i:=i) (by simpa using hi)
 simp only [List.getElem_map] at h2
 exact ⟨h1,h2 0 (by omega),h2 1 (by omega)⟩
structure OfR (w:World) (a:Option Addr) (l:List OB):Prop where
 r:Offs w a l
theorem OfR.head {w:World} {a:Option Addr} {l:List OB} (h:OfR w a l) {i:Nat} (hi:i < l.length):∃ b o,a=some ⟨b,o,none⟩∧b < w.heap.size:=Row.head h.r (by simpa using hi)
end Tryst
namespace Go.Proofs.YtcbicdencgjfiaaGreatDoor
open Go.RowKit Tryst
set_option maxHeartbeats 1000000
set_option maxRecDepth 20000
def CloneKO (e:TypeId) (k:Nat) (w:World) (r:List (List Value)) (n:Nat) (x:Ending) (w':World):Prop:=∃ a c,x=.returned (.slice a n c)∧ROwn e k w' w.heap.size (.slice a n c) r∧Below w.heap.size w w'
def OOwn (w:World) (base:Nat) (v:Value) (l:List OB):Prop:=ROwn 126 2 w base v (l.map OB.cells)
theorem OOwn.grow {w w':World} {base:Nat} {v:Value} {l:List OB} (h:OOwn w base v l) (hb:Below w.heap.size w w'):OOwn w' base v l:=ROwn.grow h hb
theorem OOwn.block {w:World} {base:Nat} {v:Value} {l:List OB} (h:OOwn w base v l) (h0:0 < l.length) :
  ∃ g c,v=.slice (some ⟨g,0,none⟩) l.length c∧base≤g∧g < w.heap.size∧(∀ j,w.frozen? ⟨g,j,none⟩=false):=by
 obtain ⟨g,c,hv,h1,h2,h3,h4,h5⟩:=ROwn.block h (OB.cells_len l) (by simpa using h0)
 rw [List.length_map] at hv
 exact ⟨g,c,hv,h1,h2,h3⟩
def AllR {α:Type} (R:Bool) (p:α→Bool) (l:List α) (w:World) (i:Value) (wr:World):Prop:=∃ k:Nat,k≤l.length∧i=.int .i64 k∧Hid (R=(l.drop k).all p)∧Hid (Below w.heap.size w wr)∧w.heap.size≤wr.heap.size
theorem allR_step {α:Type} {R:Bool} {p:α→Bool} {l:List α} {k:Nat} (hk:k < l.length) (h:R=(l.drop k).all p):R=(p l[k]&&(l.drop (k+1)).all p):=by
 rw [h,List.drop_eq_getElem_cons hk];rfl
theorem allR_end {α:Type} {R:Bool} {p:α→Bool} {l:List α} {k:Nat} (hk:l.length≤k) (h:R=(l.drop k).all p):R=true:=by
 rw [h,List.drop_eq_nil_of_le hk];rfl
end Go.Proofs.YtcbicdencgjfiaaGreatDoor
namespace Go.Proofs.YtcbicdencgjfiaaGreatDoor
open Go.RowKit Tryst
set_option maxHeartbeats 1000000
set_option maxRecDepth 20000
end Go.Proofs.YtcbicdencgjfiaaGreatDoor
namespace Tryst
open Go Go.Lib
end Tryst
namespace Go.Proofs.YtcbicdencgjfiaaGreatDoor
open Go.RowKit Tryst
set_option maxHeartbeats 2000000
set_option maxRecDepth 20000
end Go.Proofs.YtcbicdencgjfiaaGreatDoor
namespace Go.Proofs.YtcbicdencgjfiaaGreatDoor
open Go.RowKit Tryst
set_option maxHeartbeats 2000000
set_option maxRecDepth 20000
def PutR (w:World) (p:Option (List OB) × Int) (e:Ending) (w':World):Prop:=∃ a c,e=.returned (.tuple #[.slice a (p.1.getD []).length c,.int .i64 p.2])∧OOwn w' w.heap.size (.slice a (p.1.getD []).length c) (p.1.getD [])∧Below w.heap.size w w'
theorem PutR.bad {w w':World} {k:Int} {e:Ending} (he:e=.returned (.tuple #[.slice none 0 0,.int .i64 k])) (hb:Below w.heap.size w w'):PutR w (none,k) e w':=⟨none,0,he,ROwn.nil _ _ _ _,hb⟩
def OX (w:World) (g:Nat) (tp:ByteArray) (nx:Int):Prop:=w.heap[g]?=some (.cells #[.string tp,.int .i64 nx] 126 (0,0))
theorem OX.grow {w w':World} {g:Nat} {tp:ByteArray} {nx:Int} (h:OX w g tp nx) (hb:Below w.heap.size w w'):OX w' g tp nx:=(hb.block g (Array.getElem?_eq_some_iff.1 h).1).trans h
theorem OX.new (w:World) (tp:ByteArray) (nx:Int):OX (w.alloc (.cells #[.string tp,.int .i64 nx] 126)) w.heap.size tp nx:=by
 show (w.heap.push _)[w.heap.size]?=_
 simp
theorem OX.box {w:World} {g:Nat} {tp:ByteArray} {nx:Int} (h:OX w g tp nx):g < w.heap.size∧w.cell? ⟨g,0,none⟩=some (.string tp)∧w.cell? ⟨g,1,none⟩=some (.int .i64 nx):=by
 have hz:=(Array.getElem?_eq_some_iff.1 h).1
 unfold OX at h
 refine ⟨hz,?_,?_⟩<;>simp [World.cell?,h]
def CloneOP (base:Nat) (l:List OB) (v:Value) (w:World):Prop:=∃ a c,v=.slice a l.length c∧OOwn w base (.slice a l.length c) l
theorem CloneOP.at {base:Nat} {l:List OB} {v:Value} {w':World} (h:∃ w0,Tryst2.Grow w0 w'∧CloneOP base l v w0):CloneOP base l v w':=by
 obtain ⟨w0,hg,a,c,h1,h2⟩:=h
 exact ⟨a,c,h1,h2.grow hg⟩
theorem CloneOP.of {w w':World} {base:Nat} {l:List OB} {e:Ending} (hb:base≤w.heap.size) (h:CloneKO 126 2 w (l.map OB.cells) l.length e w'):∃ v,e=.returned v∧Tryst2.Grow w w'∧∃ w0,Tryst2.Grow w0 w'∧CloneOP base l v w0:=by
 obtain ⟨a,c,rfl,h3,h5⟩:=h
 exact ⟨_,rfl,h5,w',Tryst2.Grow.refl _,a,c,rfl,ROwn.lower h3 hb⟩
theorem OOwn.cap {w:World} {base:Nat} {a:Option Addr} {n c:Nat} {l:List OB} (h:OOwn w base (.slice a n c) l):c≤9223372036854775807:=by
 rcases h.2 with ⟨hv,_⟩ | ⟨g,cap,cur,hv,_,_,_,h2,_⟩
 ·
  cases hv;omega
 ·
  cases hv;exact h2
def OneO (tp:ByteArray) (nx:Int) (v:Value) (w:World):Prop:=∃ g,v=.slice (some ⟨g,0,none⟩) 1 1∧OX w g tp nx
theorem OneO.at {tp:ByteArray} {nx:Int} {v:Value} {w':World} (h:∃ w0,Tryst2.Grow w0 w'∧OneO tp nx v w0):OneO tp nx v w':=by
 obtain ⟨w0,hg,g,h1,h2⟩:=h
 exact ⟨g,h1,h2.grow hg⟩
theorem OneO.of (w:World) (tp:ByteArray) (nx:Int):Tryst2.Grow w (w.alloc (.cells #[.string tp,.int .i64 nx] 126))∧∃ w0,Tryst2.Grow w0 (w.alloc (.cells #[.string tp,.int .i64 nx] 126))∧OneO tp nx (.slice (some ⟨w.heap.size,0,none⟩) 1 1) w0:=
 ⟨balloc _ (.refl _ _),_,Tryst2.Grow.refl _,w.heap.size,rfl,OX.new _ _ _⟩
theorem OOwn.put {w:World} {base:Nat} {v:Value} {l:List OB} (h:OOwn w base v l) {g:Nat} {n c:Nat} (hv:v=.slice (some ⟨g,0,none⟩) n c) {i:Nat} (hi:i < l.length) (tp:ByteArray) (nx:Int) :
  OOwn ((w.setCell ⟨g,i*2,none⟩ (.string tp)).setCell ⟨g,i*2+1,none⟩ (.int .i64 nx)) base v (l.set i ⟨tp,nx⟩):=by
 have hlen:=OB.cells_len l
 obtain ⟨g1,c1,hv1,_,_,_,_,h5⟩:=ROwn.block h hlen (by simpa using (by omega:0 < l.length))
 rw [hv] at hv1
 simp only [Value.slice.injEq,Option.some.injEq,Addr.mk.injEq,and_true] at hv1
 obtain ⟨rfl,_⟩:=hv1
 have h6:=h5 i (by simpa using hi) 0 (by omega) (.string tp)
 have e1:(l.map OB.cells).set i (((l.map OB.cells)[i]'(by simpa using hi)).set 0 (.string tp))=(l.set i ⟨tp,l[i].next⟩).map OB.cells:=by
  rw [List.map_set,List.getElem_map]
  rfl
 rw [e1] at h6
 obtain ⟨g2,c2,hv2,_,_,_,_,h7⟩:=ROwn.block h6 (OB.cells_len _) (by rw [List.length_map,List.length_set];omega)
 rw [hv] at hv2
 simp only [Value.slice.injEq,Option.some.injEq,Addr.mk.injEq,and_true] at hv2
 obtain ⟨rfl,_⟩:=hv2
 have h8:=h7 i (by simpa using hi) 1 (by omega) (.int .i64 nx)
 have e2:((l.set i ⟨tp,l[i].next⟩).map OB.cells).set i ((((l.set i ⟨tp,l[i].next⟩).map OB.cells)[i]'(by simpa using hi)).set 1 (.int .i64 nx))=(l.set i ⟨tp,nx⟩).map OB.cells:=by
  rw [List.getElem_map,List.getElem_set_self]
  show ((l.set i ⟨tp,l[i].next⟩).map OB.cells).set i (OB.cells ⟨tp,nx⟩)=_
  rw [← List.map_set,List.set_set]
 rw [e2] at h8
 exact h8
theorem OOwn.cells {w:World} {base:Nat} {l:List OB} {g n c:Nat} (h:OOwn w base (.slice (some ⟨g,0,none⟩) n c) l) {i:Nat} (hi:i < l.length):OAt w g (i*2) l[i]:=by
 obtain ⟨g1,c1,hv1,_,_,_,h4,_⟩:=ROwn.block h (OB.cells_len l) (by rw [List.length_map];omega)
 simp only [Value.slice.injEq,Option.some.injEq,Addr.mk.injEq,and_true] at hv1
 obtain ⟨rfl,_⟩:=hv1
 have h0:=h4 i (by simpa using hi) 0 (by omega)
 have h1:=h4 i (by simpa using hi) 1 (by omega)
 rw [List.getElem_map] at h0 h1
 exact ⟨h0,h1⟩
end Go.Proofs.YtcbicdencgjfiaaGreatDoor
