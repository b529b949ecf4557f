/- law09.Kind, law14.Few. -/
import Derived.Test.YtcbicdencgjfiaaGreatDoorDefU
set_option linter.unusedVariables false
set_option linter.unusedSimpArgs false
namespace Go.Proofs.YtcbicdencgjfiaaGreatDoor
open Go.RowKit Tryst
set_option maxHeartbeats 4000000
set_option maxRecDepth 20000
def few10 (s:ByteArray):ByteArray:=if 10 < s.size then s.extract 0 10 else s
theorem kindJ_c (kd:ByteArray) (p n x:Int) (hk:kd.size≤9223372036854775807) (w:World) :
  Calls Tryz.prog 64 #[.agg #[.string kd,.int .i64 p,.int .i64 n,.int .i64 x]] w fun e w'=>e=.returned (.agg #[.string (few10 kd),.int .i64 p,.int .i64 n,.int .i64 x])∧Below w.heap.size w w':=by
 by_cases h:10 < kd.size
 ·
  have e:few10 kd=kd.extract 0 10:=by unfold few10;rw [if_pos h]
  rw [e]
  have y1:(10:Int) < (kd.size:Int):=by omega
  go_enter Tryz.func64,Tryz.ntmps64
  go_wp2_with fail
  exact bodyPost_ret (v:=.agg #[.string (kd.extract 0 10),.int .i64 p,.int .i64 n,.int .i64 x]) (by simp [results,Tryz.results64,go_sem]) rfl ⟨rfl,by repeat first | exact .refl _ _ | refine bset _ (by simp) ?_ | refine balloc _ ?_⟩
 ·
  have e:few10 kd=kd:=by unfold few10;rw [if_neg h]
  rw [e]
  have y1:¬ (10:Int) < (kd.size:Int):=by omega
  go_enter Tryz.func64,Tryz.ntmps64
  go_wp2_with fail
  exact bodyPost_ret (v:=.agg #[.string kd,.int .i64 p,.int .i64 n,.int .i64 x]) (by simp [results,Tryz.results64,go_sem]) rfl ⟨rfl,by repeat first | exact .refl _ _ | refine bset _ (by simp) ?_ | refine balloc _ ?_⟩
structure DArg (w:World) (d:DB):Prop where
 hn:d.name.size≤9223372036854775807
 hk:d.key.size≤9223372036854775807
 hj:d.j.kind.size≤9223372036854775807
 gS:Strs w d.ga d.gl
 gs:∀ s∈d.gl,s.size≤9223372036854775807
 gn:d.gl.length≤9223372036854775807
 wR:Row w d.wa 6 (d.wl.map PB.cells)
 wP:∀ p∈d.wl,PArg w p
 wn:d.wl.length≤9223372036854775807
theorem DArg.grow {v w:World} {d:DB} (h:DArg v d) (hb:Below v.heap.size v w):DArg w d:=⟨h.hn,h.hk,h.hj,h.gS.grow hb,h.gs,h.gn,h.wR.grow hb,fun p hp=>PArg.grow (h.wP p hp) hb,h.wn⟩
section
variable {w w':World} {g:Nat} {nm:ByteArray} {G U:Value} {ky kd:ByteArray} {p n x:Int}
theorem DX.away (h:DX w g nm G U ky kd p n x) {c o:Nat} (hc:c≠g) (v:Value):DX (w.setCell ⟨c,o,none⟩ v) g nm G U ky kd p n x:=(Below.heap_setCell _ _ _ _ (fun e=>hc e.symm)).trans h
theorem DX.set1 (h:DX w g nm G U ky kd p n x) (v:Value):DX (w.setCell ⟨g,1,none⟩ v) g nm v U ky kd p n x:=by
 unfold DX at h ⊢
 simp [World.setCell,Array.getElem?_modify,h]
theorem DX.set2 (h:DX w g nm G U ky kd p n x) (v:Value):DX (w.setCell ⟨g,2,none⟩ v) g nm G v ky kd p n x:=by
 unfold DX at h ⊢
 simp [World.setCell,Array.getElem?_modify,h]
theorem DX.fz (h:DX w g nm G U ky kd p n x) (j:Nat):w.frozen? ⟨g,j,none⟩=false:=by
 unfold DX at h
 simp [World.frozen?,h]
theorem DX.growB {B:Nat} (h:DX w g nm G U ky kd p n x) (hg:g < B) (hb:Below B w w'):DX w' g nm G U ky kd p n x:=(hb.block g hg).trans h
def DS8 (w:World) (g:Nat) (nm:ByteArray) (G U:Value) (ky kd:ByteArray) (p n x:Int):World:=
 (((((((w.setCell ⟨g,0,none⟩ (.string nm)).setCell ⟨g,1,none⟩ G).setCell ⟨g,2,none⟩ U).setCell ⟨g,3,none⟩ (.string ky)).setCell ⟨g,4,none⟩ (.string kd)).setCell ⟨g,5,none⟩ (.int .i64 p)).setCell ⟨g,6,none⟩ (.int .i64 n)).setCell ⟨g,7,none⟩ (.int .i64 x)
theorem DS8.away {k:Nat} (h:k≠g):(DS8 w g nm G U ky kd p n x).heap[k]?=w.heap[k]?:=by
 unfold DS8
 repeat rw [Below.heap_setCell _ _ _ _ (show k≠_ from h)]
theorem DS8.size:(DS8 w g nm G U ky kd p n x).heap.size=w.heap.size:=by unfold DS8;simp
theorem DS8.below {B:Nat} {v:World} (hg:B≤g) (h:Below B v w):Below B v (DS8 w g nm G U ky kd p n x):=by
 unfold DS8
 exact (((((((h.setCell (p:=⟨g,0,none⟩) hg _).setCell (p:=⟨g,1,none⟩) hg _).setCell (p:=⟨g,2,none⟩) hg _).setCell (p:=⟨g,3,none⟩) hg _).setCell (p:=⟨g,4,none⟩) hg _).setCell (p:=⟨g,5,none⟩) hg _).setCell (p:=⟨g,6,none⟩) hg _).setCell (p:=⟨g,7,none⟩) hg _
theorem DS8.box {nm':ByteArray} {G' U':Value} {ky' kd':ByteArray} {p' n' x':Int} (h:DX w g nm' G' U' ky' kd' p' n' x'):DX (DS8 w g nm G U ky kd p n x) g nm G U ky kd p n x:=by
 unfold DX at h ⊢
 unfold DS8
 simp [World.setCell,Array.getElem?_modify,h]
end
theorem Strs.keepB {w w':World} {a:Option Addr} {l:List ByteArray} (h:Strs w a l) (hb:∀ b o,a=some ⟨b,o,none⟩→w'.heap[b]?=w.heap[b]?) (hz:w.heap.size≤w'.heap.size):Strs w' a l:=by
 intro i hi
 obtain ⟨b,o,h1,h2,h3⟩:=h i hi
 exact ⟨b,o,h1,Nat.lt_of_lt_of_le h2 hz,(World.cell?_of_block (w:=w) (a:=⟨b,o+i,none⟩) (hb b o h1)).trans h3⟩
def OneSt (s:ByteArray) (v:Value) (w:World):Prop:=∃ g,v=.slice (some ⟨g,0,none⟩) 1 1∧w.heap[g]?=some (.cells #[.string s] 9 (0,0))
theorem OneSt.at {s:ByteArray} {v:Value} {w':World} (h:∃ w0,Tryst2.Grow w0 w'∧OneSt s v w0):OneSt s v w':=by
 obtain ⟨w0,hg,g,h1,h2⟩:=h
 exact ⟨g,h1,(hg.block g (Array.getElem?_eq_some_iff.1 h2).1).trans h2⟩
theorem OneSt.of (w:World) (s:ByteArray):Tryst2.Grow w (w.alloc (.cells #[.string s] 9))∧∃ w0,Tryst2.Grow w0 (w.alloc (.cells #[.string s] 9))∧OneSt s (.slice (some ⟨w.heap.size,0,none⟩) 1 1) w0:=
 ⟨balloc _ (.refl _ _),_,Tryst2.Grow.refl _,w.heap.size,rfl,by show (w.heap.push _)[w.heap.size]?=_;simp⟩
def OnePr (base:Nat) (v:Value) (w:World):Prop:=∃ (g:Nat) (y:PB),v=.slice (some ⟨g,0,none⟩) 1 1∧BX w g y.op y.s y.num y.n y.vs (.slice y.a y.l.length y.c)∧POwn w (fun b=>base≤b) y∧nodesB y≤50
theorem OnePr.at {base:Nat} {v:Value} {w':World} (h:∃ w0,Tryst2.Grow w0 w'∧OnePr base v w0):OnePr base v w':=by
 obtain ⟨w0,hg,g,y,h1,h2,h3,h4⟩:=h
 exact ⟨g,y,h1,h2.grow hg,h3.grow hg (fun _ h=>h),h4⟩
theorem allocD (ρ:Operand→Value) (o:Oper) (w:World) (ho:o.op=.alloc 45):(execOp ρ o).run Tryz.prog w=.ok (.value (.pointer (some ⟨w.heap.size,0,none⟩))) (w.alloc (.cells #[.string ⟨#[]⟩,.slice none 0 0,.slice none 0 0,.string ⟨#[]⟩,.string ⟨#[]⟩,.int .i64 0,.int .i64 0,.int .i64 0] 45)):=by
 unfold execOp
 rw [ho]
 kernel_rfl
def gV (l:List ByteArray):List (List Value):=l.map fun s=>[Value.string s]
structure F3 (w v:World) (g:Nat) (nm:ByteArray) (G U:Value) (ky kd:ByteArray) (p n x:Int) (nm1:ByteArray) (G1 U1:Value) (ky1 kd1:ByteArray):Prop where
 a:DX v w.heap.size nm G U ky kd p n x
 z:DX v (w.heap.size+1) ⟨#[]⟩ (.slice none 0 0) (.slice none 0 0) ⟨#[]⟩ ⟨#[]⟩ 0 0 0
 x:DX v g nm1 G1 U1 ky1 kd1 p n x
 hg:w.heap.size+1 < g
 l:Below w.heap.size w v
section
variable {w v v':World} {g:Nat} {nm:ByteArray} {G U:Value} {ky kd:ByteArray} {p n x:Int} {nm1:ByteArray} {G1 U1:Value} {ky1 kd1:ByteArray}
theorem F3.growB {B:Nat} (h:F3 w v g nm G U ky kd p n x nm1 G1 U1 ky1 kd1) (hgB:g < B) (hb:Below B v v'):F3 w v' g nm G U ky kd p n x nm1 G1 U1 ky1 kd1:=by
 have hg:=h.hg
 exact ⟨h.a.growB (by omega) hb,h.z.growB (by omega) hb,h.x.growB hgB hb,h.hg,h.l.trans (hb.mono (by omega))⟩
theorem F3.grow (h:F3 w v g nm G U ky kd p n x nm1 G1 U1 ky1 kd1) (hb:Below v.heap.size v v'):F3 w v' g nm G U ky kd p n x nm1 G1 U1 ky1 kd1:=h.growB h.x.box.lt hb
theorem F3.set1 (h:F3 w v g nm G U ky kd p n x nm1 G1 U1 ky1 kd1) (u:Value):F3 w (v.setCell ⟨g,1,none⟩ u) g nm G U ky kd p n x nm1 u U1 ky1 kd1:=by
 have hg:=h.hg
 exact ⟨h.a.away (by omega) _,h.z.away (by omega) _,h.x.set1 u,h.hg,h.l.setCell (p:=⟨g,1,none⟩) (by show w.heap.size≤g;omega) _⟩
theorem F3.set2 (h:F3 w v g nm G U ky kd p n x nm1 G1 U1 ky1 kd1) (u:Value):F3 w (v.setCell ⟨g,2,none⟩ u) g nm G U ky kd p n x nm1 G1 u ky1 kd1:=by
 have hg:=h.hg
 exact ⟨h.a.away (by omega) _,h.z.away (by omega) _,h.x.set2 u,h.hg,h.l.setCell (p:=⟨g,2,none⟩) (by show w.heap.size≤g;omega) _⟩
end
theorem OnePr.of {base:Nat} (w:World) (y:PB) (h:POwn w (fun b=>base≤b) y) (hn:nodesB y≤50):Tryst2.Grow w (w.alloc (.cells #[.string y.op,.string y.s,.bool y.num,.int .i64 y.n,.string y.vs,.slice y.a y.l.length y.c] 123))∧∃ w0,Tryst2.Grow w0 (w.alloc (.cells #[.string y.op,.string y.s,.bool y.num,.int .i64 y.n,.string y.vs,.slice y.a y.l.length y.c] 123))∧OnePr base (.slice (some ⟨w.heap.size,0,none⟩) 1 1) w0:=
 ⟨balloc _ (.refl _ _),_,Tryst2.Grow.refl _,w.heap.size,y,rfl,BX.new _ _ _ _ _ _ _,h.grow (balloc _ (.refl _ _)) (fun _ h=>h),hn⟩
def FD1 (w:World) (g B:Nat) (nm:ByteArray) (G U:Value) (ky kd nm1 ky1 kd1:ByteArray) (p n x:Int) (gl:List ByteArray) (i:Value) (wr:World):Prop:=
 ∃ (k:Nat) (v:Value),k≤6∧k≤gl.length∧i=.int .i64 k∧Hid (F3 w wr g nm G U ky kd p n x nm1 v (.slice none 0 0) ky1 kd1)∧Hid (ROwn 9 1 wr B v (gV ((gl.take k).map few60)))∧B≤wr.heap.size
def FD2 (w:World) (g B:Nat) (nm:ByteArray) (G U:Value) (ky kd nm1 ky1 kd1:ByteArray) (p n x:Int) (a1:Option Addr) (c1:Nat) (gs:List ByteArray) (len:Nat) (i:Value) (wr:World):Prop:=
 ∃ (k:Nat) (v:Value) (ys:List PB),k≤7∧k≤len∧i=.int .i64 k∧ys.length=k∧Hid (F3 w wr g nm G U ky kd p n x nm1 (.slice a1 gs.length c1) v ky1 kd1)∧Hid (ROwn 123 6 wr B v (ys.map PB.cells))∧Hid (∀ y∈ys,POwn wr (fun b=>B≤b∧Away v b) y∧nodesB y≤50)∧Hid (Strs wr a1 gs)∧B≤wr.heap.size
theorem fd_step {Z3 Z4:World} {B g g' N cap:Nat} {v u:Value} {ys:List PB} {rows:List (List Value)} (hgB:g < B) (C3:∀ y∈ys,POwn Z3 (fun b=>B≤b∧Away v b) y∧nodesB y≤50)
  (HO:ROwn 123 6 Z4 B (.slice (some ⟨g',0,none⟩) N cap) rows) (HB:Below B Z3 Z4) (HS:∀ k,k < Z3.heap.size→Away v k→Z4.heap[k]?=Z3.heap[k]?) (hat:v.ownBlock=some g'∨g'=Z3.heap.size) :
  ROwn 123 6 (Z4.setCell ⟨g,2,none⟩ u) B (.slice (some ⟨g',0,none⟩) N cap) rows∧(∀ y∈ys,POwn (Z4.setCell ⟨g,2,none⟩ u) (fun b=>B≤b∧Away (.slice (some ⟨g',0,none⟩) N cap) b) y∧nodesB y≤50):=by
 have hne:∀ k,k < Z3.heap.size→Away v k→g'≠k:=fun k hk ha=>by
  rcases hat with h | h
  ·
   exact own_away h ha
  ·
   omega
 refine ⟨HO.below hgB u,fun y hy=>⟨(C3 y hy).1.keep (fun b hb hbz=>⟨(Below.heap_setCell _ _ _ _ (by show b≠g;omega)).trans (HS b hbz hb.2),hb.1,fun A m c hv=>by cases hv;exact hne b hbz hb.2⟩) ?_,(C3 y hy).2⟩⟩
 have:=HB.size
 simp
 omega
end Go.Proofs.YtcbicdencgjfiaaGreatDoor
