import Derived.Test.YtcbicdencgjfiaaGreatDoorProg
import Derived.WalkKit
import Derived.Maps.OwnSet
import Derived.Maps.RangeWalk
import Derived.Maps.Views
import Derived.StringKeys
import Derived.Test.YtcbicdencgjfiaaGreatDoorMay5
import Derived.Test.YtcbicdencgjfiaaGreatDoorOffU
import Derived.Test.YtcbicdencgjfiaaGreatDoorRMeet5
import Derived.Test.YtcbicdencgjfiaaGreatDoorRNS5
import Derived.Test.YtcbicdencgjfiaaGreatDoorWrT5
set_option linter.all false
set_option maxHeartbeats 4000000
set_option maxRecDepth 20000
namespace Tryst
open Go Go.RowKit
def jQK (s w:ByteArray):ByteArray × Bool:=(⟨(Lib.trimPrefix s.data.toList w.data.toList).toArray⟩,Lib.hasPrefix s.data.toList w.data.toList)
def Yg (w:World) (g:Nat) (s:ByteArray) (m:Nat) (T:TypeId):Prop:=w.heap[g]?=some (.cells #[.string s,.int .i64 m] T (0,0))
structure ParP (g:Nat) (s:ByteArray) (m:Nat) (T:TypeId) (w w':World):Prop where
 os:w'.os=w.os
 tape:w'.tape=w.tape
 output:w'.output=w.output
 size:w.heap.size<=w'.heap.size
 block:∀ k,k < w.heap.size->k≠g->w'.heap[k]?=w.heap[k]?
 at':Yg w' g s m T
theorem ParP.refl {g m:Nat} {s:ByteArray} {T:TypeId} {w:World} (h:Yg w g s m T):ParP g s m T w w:=⟨rfl,rfl,rfl,Nat.le_refl _,fun _ _ _=>rfl,h⟩
theorem ParP.trans {g m m':Nat} {s s':ByteArray} {T:TypeId} {a b c:World} (h:ParP g s m T a b) (k:ParP g s' m' T b c):ParP g s' m' T a c:=
 ⟨k.os.trans h.os,k.tape.trans h.tape,k.output.trans h.output,Nat.le_trans h.size k.size,fun i hi hg=>(k.block i (Nat.lt_of_lt_of_le hi h.size) hg).trans (h.block i hi hg),k.at'⟩
theorem ParP.grow {g m:Nat} {s:ByteArray} {T:TypeId} {a b c:World} (h:ParP g s m T a b) (hb:Below b.heap.size b c):ParP g s m T a c:=
 ⟨hb.os.trans h.os,hb.tape.trans h.tape,hb.output.trans h.output,Nat.le_trans h.size hb.size,fun k hk hg=>(hb.block k (Nat.lt_of_lt_of_le hk h.size)).trans (h.block k hk hg),(hb.block g (Array.getElem?_eq_some_iff.1 h.at').1).trans h.at'⟩
theorem ParP.below {g m B:Nat} {s:ByteArray} {T:TypeId} {a b c:World} (h:ParP g s m T b c) (k:Below B a b) (hB:B<=g) (hz:B<=b.heap.size):Below B a c:=
 ⟨h.os.trans k.os,h.tape.trans k.tape,h.output.trans k.output,Nat.le_trans k.size h.size,fun i hi=>(h.block i (by omega) (by omega)).trans (k.block i hi)⟩
theorem ParP.cell {g m:Nat} {s:ByteArray} {T:TypeId} {a b:World} (h:ParP g s m T a b) {k:Nat} (hk:k < a.heap.size) (hg:k≠g) (o:Nat):b.cell? ⟨k,o,none⟩=a.cell? ⟨k,o,none⟩:=World.cell?_of_block (w:=a) (a:=⟨k,o,none⟩) (h.block k hk hg)
theorem ParP.frozen {g m:Nat} {s:ByteArray} {T:TypeId} {a b:World} (h:ParP g s m T a b) {k:Nat} (hk:k < a.heap.size) (hg:k≠g) (o:Nat):b.frozen? ⟨k,o,none⟩=a.frozen? ⟨k,o,none⟩:=World.frozen?_of_block (w:=a) (a:=⟨k,o,none⟩) (h.block k hk hg)
theorem ParP.drew {g m:Nat} {s:ByteArray} {T:TypeId} {a b:World} (h:ParP g s m T a b):ParP g s m T a b.drew:=⟨h.os,h.tape,h.output,h.size,h.block,h.at'⟩
theorem ParP.setB {w w':World} {g m:Nat} {s:ByteArray} {T:TypeId} (h:ParP g s m T w w') {b o:Nat} (hb:w.heap.size<=b) (hg:b≠g) (v:Value):ParP g s m T w (w'.setCell ⟨b,o,none⟩ v):=
 ⟨h.os,h.tape,h.output,by simpa using h.size,fun k hk hg=>(Below.heap_setCell _ _ _ _ (by show k≠b;omega)).trans (h.block k hk hg),(Below.heap_setCell _ _ _ _ (fun e=>hg e.symm)).trans h.at'⟩
theorem Yg.cells {w:World} {g m:Nat} {s:ByteArray} {T:TypeId} (h:Yg w g s m T):w.cell? ⟨g,0,none⟩=some (.string s)/\w.cell? ⟨g,1,none⟩=some (.int .i64 m)/\w.frozen? ⟨g,0,none⟩=false/\w.frozen? ⟨g,1,none⟩=false/\g < w.heap.size:=
 ⟨by rw [Lib.cell_of_heap h];rfl,by rw [Lib.cell_of_heap h];rfl,Lib.frozen_of_heap h 0,Lib.frozen_of_heap h 1,(Array.getElem?_eq_some_iff.1 h).1⟩
theorem Yg.set0 {w:World} {g m:Nat} {s:ByteArray} {T:TypeId} (h:Yg w g s m T) (s':ByteArray):Yg (w.setCell ⟨g,0,none⟩ (.string s')) g s' m T:=by
 unfold Yg at h ⊢;simp [World.setCell,Array.getElem?_modify,h]
theorem Yg.set1 {w:World} {g m:Nat} {s:ByteArray} {T:TypeId} (h:Yg w g s m T) (m':Nat):Yg (w.setCell ⟨g,1,none⟩ (.int .i64 (m':Int))) g s m' T:=by
 unfold Yg at h ⊢;simp [World.setCell,Array.getElem?_modify,h]
theorem ParP.set0 {g m:Nat} {s:ByteArray} {T:TypeId} {a b:World} (h:ParP g s m T a b) (s':ByteArray):ParP g s' m T a (b.setCell ⟨g,0,none⟩ (.string s')):=
 ⟨h.os,h.tape,h.output,by simpa using h.size,fun k hk hg=>(Below.heap_setCell _ _ _ _ hg).trans (h.block k hk hg),h.at'.set0 s'⟩
end Tryst
namespace Go.Proofs.YtcbicdencgjfiaaGreatDoor
open Go.RowKit Tryst
theorem PBox.away {w:World} {b c j:Nat} {op s:ByteArray} {num:Bool} {n:Int} {vs:ByteArray} {u:Value} (h:PBox w b op s num n vs u) (hc:c≠b) (v:Value):PBox (w.setCell ⟨c,j,none⟩ v) b op s num n vs u:=by
 obtain ⟨h0,h1,h2,h3,h4,h5,h6⟩:=h
 constructor<;>simp [Qz,h0,h1,h2,h3,h4,h5,h6,hc]
theorem kQc (g m:Nat) (s word:ByteArray) (w:World) (h:Yg w g s m 292) :
  Calls Tryz.prog 231 #[.pointer (some ⟨g,0,none⟩),.string word] w fun e w'=>e=.returned (.bool (jQK s word).2)/\ParP g (jQK s word).1 m 292 w w':=by
 have H:=Zh h;obtain ⟨c0,c1,f0,f1,hz⟩:=h.cells;have HC:=Zh (fun (W:World)=>Tryz.strings_CutPrefix s word W);clear h;go_enter Tryz.func231,Tryz.ntmps231;go_wp2_with fail;refine (HC.out w).mono ?_;rintro e w1 ⟨rfl,rfl⟩;go_wp2_with fail;go_ret;exact ⟨rfl,(ParP.refl H.out).set0 _⟩
def Jq (op s:ByteArray) (v:V):PB:=.mk op s v.num v.n ⟨v.s.toArray⟩ none 0 []
theorem jJu (g m:Nat) (s0 op field rest:ByteArray) (v:V) (k:Nat) (hk:0 < k) (hkl:k<=rest.size) (hr:rest.size<=1500000) (hrd:J0 rest.data.toList=(v,k)) (w:World) (h:Yg w g s0 m 292) :
  Calls Tryz.prog 247 #[.pointer (some ⟨g,0,none⟩),.string op,.string field,.string rest] w fun e w'=>e=.returned (.tuple #[(Jq op field v).agg,.bool (jQK (rest.extract k rest.size) ⟨#[41]⟩).2])/\ParP g (jQK (rest.extract k rest.size) ⟨#[41]⟩).1 m 292 w w':=by
 have H:=Zh h;obtain ⟨c0,c1,f0,f1,hz⟩:=h.cells;have hrc:=zJr rest hr;rw [hrd] at hrc;rw [show kQo k=0 by unfold kQo;rw [if_neg (by omega)]] at hrc;have HR:=Zh hrc;clear h hrd hrc;have x1:(0:Int)<=k:=by omega
 have x2:(k:Int)<=rest.size:=by omega
 go_enter Tryz.func247,Tryz.ntmps247;go_wp2_with fail;refine (HR.out _).mono ?_;rintro e w1 ⟨rfl,hb1⟩;have HP1:=Zh (((ParP.refl H.out).grow (Qj (.cells #[.string ⟨#[]⟩,.string ⟨#[]⟩,.bool false,.int .i64 0,.string ⟨#[]⟩,.slice none 0 0] 123) (.refl _ _))).grow hb1);have hX0:=(PBox.new w ⟨#[]⟩ ⟨#[]⟩ false 0 ⟨#[]⟩ (.slice none 0 0) 123).grow hb1;obtain ⟨hc1,hf1⟩:=Z8 hb1;have hF0:∀ j,w1.frozen? ⟨w.heap.size,j,none⟩=false:=fun j=>by rw [hf1 _ _ (by simp)];simp [go_sem]
 have HX0:=Zh hX0;have HF0:=Zh hF0;clear hb1 hc1 hf1 hX0 hF0;go_upto_region 4 with fail
 refine Qg (fun v'=>Hid (ParP g s0 m 292 w v')/\Hid (PBox v' w.heap.size ⟨#[]⟩ ⟨#[]⟩ false 0 ⟨#[]⟩ (.slice none 0 0))/\Hid (∀ j,v'.frozen? ⟨w.heap.size,j,none⟩=false)/\Hid (VB3 v' w1.heap.size v.num v.n ⟨v.s.toArray⟩)/\w.heap.size < w1.heap.size) ⟨HP1.out.grow (Qj _ (.refl _ _)),HX0.out.grow (Qj _ (.refl _ _)),?_,VB3.new w1 v.num v.n ⟨v.s.toArray⟩ 121,HX0.out.hz⟩ ?_
 · show ∀ j,_;intro j;rw [(Qj (.cells #[.bool v.num,.int .i64 v.n,.string ⟨v.s.toArray⟩] 121) (.refl w1.heap.size w1)).frozen (p:=⟨w.heap.size,j,none⟩) HX0.out.hz];exact HF0.out j
 clear HP1 HX0 HF0;rintro Y ⟨HPY,HXY,HFY,HVY,hwz⟩;generalize w1.heap.size=B1 at HVY hwz ⊢;obtain ⟨d0,d1,e0,e1,dz⟩:=HPY.out.at'.cells;obtain ⟨v0,v1,v2,v3⟩:=HVY.out;have hgw:g < w.heap.size:=hz;go_upto_region 5 with fail
 refine Qg (fun v'=>Hid (ParP g (rest.extract k rest.size) m 292 w v')/\Hid (PBox v' w.heap.size ⟨#[]⟩ ⟨#[]⟩ false 0 ⟨#[]⟩ (.slice none 0 0))/\Hid (∀ j,v'.frozen? ⟨w.heap.size,j,none⟩=false)/\Hid (VB3 v' B1 v.num v.n ⟨v.s.toArray⟩)) ⟨HPY.out.set0 _,HXY.out.away (by omega) _,?_,HVY.out.away (by omega)⟩ ?_
 · show ∀ j,_;intro j;rw [Qv];exact HFY.out j
 clear HPY HXY HFY HVY d0 d1 e0 e1 v0 v1 v2 v3 dz;rintro Z ⟨HPZ,HXZ,HFZ,HVZ⟩;have HSK:=Zh (kQc g m (rest.extract k rest.size) ⟨#[41]⟩ Z HPZ.out.at');have HSK1:=Zh (kQc g m (rest.extract k rest.size) ⟨#[41]⟩ Z.drew HPZ.out.at');obtain ⟨d0,d1,e0,e1,dz⟩:=HPZ.out.at'.cells;obtain ⟨v0,v1,v2,v3⟩:=HVZ.out;obtain ⟨x0,x1,x2,x3,x4,x5,x6⟩:=HXZ.out;have z0:=HFZ.out 0;have z1:=HFZ.out 1;have z2:=HFZ.out 2;have z3:=HFZ.out 3;have z4:=HFZ.out 4;have z5:=HFZ.out 5
 go_region_with (go_at_call 231;(first | refine HSK.out.mono ?_ | refine HSK1.out.mono ?_);rintro x w2 ⟨rfl,hp2⟩;have qv0:=(hp2.cell v3 (by omega) 0).trans v0;have qv1:=(hp2.cell v3 (by omega) 1).trans v1;have qv2:=(hp2.cell v3 (by omega) 2).trans v2;have qx0:=(hp2.cell x6 (by omega) 0).trans x0;have qx1:=(hp2.cell x6 (by omega) 1).trans x1;have qx2:=(hp2.cell x6 (by omega) 2).trans x2;have qx3:=(hp2.cell x6 (by omega) 3).trans x3;have qx4:=(hp2.cell x6 (by omega) 4).trans x4;have qx5:=(hp2.cell x6 (by omega) 5).trans x5;have qz0:=(hp2.frozen x6 (by omega) 0).trans z0;have qz1:=(hp2.frozen x6 (by omega) 1).trans z1;have qz2:=(hp2.frozen x6 (by omega) 2).trans z2;have qz3:=(hp2.frozen x6 (by omega) 3).trans z3;have qz4:=(hp2.frozen x6 (by omega) 4).trans z4;have qz5:=(hp2.frozen x6 (by omega) 5).trans z5;have qzz:w.heap.size < w2.heap.size:=Nat.lt_of_lt_of_le x6 hp2.size)
 all_goals
  have HPF:=Zh (ParP.trans HPZ.out ⟨hp2.os,hp2.tape,hp2.output,hp2.size,hp2.block,hp2.at'⟩);clear hp2 d0 d1 e0 e1 v0 v1 v2 x0 x1 x2 x3 x4 x5 z0 z1 z2 z3 z4 z5 HSK HSK1 HXZ HFZ HVZ HPZ;go_wp2_with fail;refine bodyPost_ret (v:=.tuple #[(Jq op field v).agg,.bool (jQK (rest.extract k rest.size) ⟨#[41]⟩).2]) (by simp [results,Tryz.results247,go_sem,Jq,PB.agg,PB.op,PB.s,PB.num,PB.n,PB.vs,PB.a,PB.c,PB.l, *]) rfl ⟨rfl,?_⟩
  (repeat (first | with_reducible exact HPF.out | with_reducible apply ParP.drew | with_reducible refine ParP.setB ?_ (Nat.le_refl _) (by omega) _))
structure RB (g:Nat) (s:ByteArray) (m:Nat) (w v:World):Prop where
 p:ParP g s m 292 w v
 x:PBox v w.heap.size ⟨#[]⟩ ⟨#[]⟩ false 0 ⟨#[]⟩ (.slice none 0 0)
 z:∀ j,v.frozen? ⟨w.heap.size,j,none⟩=false
theorem RB.start {g m:Nat} {s:ByteArray} {w:World} (h:Yg w g s m 292):RB g s m w (w.alloc (.cells #[.string ⟨#[]⟩,.string ⟨#[]⟩,.bool false,.int .i64 0,.string ⟨#[]⟩,.slice none 0 0] 123)):=
 ⟨(ParP.refl h).grow (Qj _ (.refl _ _)),PBox.new w ⟨#[]⟩ ⟨#[]⟩ false 0 ⟨#[]⟩ (.slice none 0 0) 123,fun j=>by simp [go_sem]⟩
theorem RB.step {g m m':Nat} {s s':ByteArray} {w v v':World} (h:RB g s m w v) (hg:g < w.heap.size) (hp:ParP g s' m' 292 v v'):RB g s' m' w v':=by
 have hne:w.heap.size≠g:=by omega
 obtain ⟨h0,h1,h2,h3,h4,h5,h6⟩:=h.x;exact ⟨h.p.trans hp,⟨(hp.cell h6 hne 0).trans h0,(hp.cell h6 hne 1).trans h1,(hp.cell h6 hne 2).trans h2,(hp.cell h6 hne 3).trans h3,(hp.cell h6 hne 4).trans h4,(hp.cell h6 hne 5).trans h5,Nat.lt_of_lt_of_le h6 hp.size⟩,fun j=>(hp.frozen h6 hne j).trans (h.z j)⟩
theorem RB.grow {g m:Nat} {s:ByteArray} {w v v':World} (h:RB g s m w v) (hb:Below v.heap.size v v'):RB g s m w v':=
 ⟨h.p.grow hb,h.x.grow hb,fun j=>by rw [hb.frozen (p:=⟨w.heap.size,j,none⟩) h.x.hz];exact h.z j⟩
theorem RB.set1 {g m:Nat} {s:ByteArray} {w v:World} (h:RB g s m w v) (hg:g < w.heap.size) (m':Nat):RB g s m' w (v.setCell ⟨g,1,none⟩ (.int .i64 (m':Int))):=
 ⟨⟨h.p.os,h.p.tape,h.p.output,by simpa using h.p.size,fun k hk hkg=>(Below.heap_setCell _ _ _ _ hkg).trans (h.p.block k hk hkg),h.p.at'.set1 m'⟩,h.x.away (by omega) _,fun j=>by rw [Qv];exact h.z j⟩
theorem RB.start1 {g m:Nat} {s:ByteArray} {w:World} (h:Yg w g s m 292) (m':Nat):RB g s m' w ((w.setCell ⟨g,1,none⟩ (.int .i64 (m':Int))).alloc (.cells #[.string ⟨#[]⟩,.string ⟨#[]⟩,.bool false,.int .i64 0,.string ⟨#[]⟩,.slice none 0 0] 123)):=by
 have hz:=h.cells.2.2.2.2
 have hp:ParP g s m' 292 w (w.setCell ⟨g,1,none⟩ (.int .i64 (m':Int))):=
  ⟨rfl,rfl,rfl,by simp,fun k hk hkg=>Below.heap_setCell _ _ _ _ hkg,h.set1 m'⟩
 have hx:=PBox.new (w.setCell ⟨g,1,none⟩ (.int .i64 (m':Int))) ⟨#[]⟩ ⟨#[]⟩ false 0 ⟨#[]⟩ (.slice none 0 0) 123;rw [show (w.setCell ⟨g,1,none⟩ (.int .i64 (m':Int))).heap.size=w.heap.size by simp] at hx;exact ⟨hp.grow (Qj _ (.refl _ _)),hx,fun j=>by simp [go_sem]⟩
theorem RB.facts {g m:Nat} {s:ByteArray} {w v:World} (h:RB g s m w v):(v.cell? ⟨g,0,none⟩=some (.string s)/\v.cell? ⟨g,1,none⟩=some (.int .i64 m)/\v.frozen? ⟨g,0,none⟩=false/\v.frozen? ⟨g,1,none⟩=false/\g < v.heap.size)/\(v.cell? ⟨w.heap.size,0,none⟩=some (.string ⟨#[]⟩)/\v.cell? ⟨w.heap.size,1,none⟩=some (.string ⟨#[]⟩)/\v.cell? ⟨w.heap.size,2,none⟩=some (.bool false)/\v.cell? ⟨w.heap.size,3,none⟩=some (.int .i64 0)/\v.cell? ⟨w.heap.size,4,none⟩=some (.string ⟨#[]⟩)/\v.cell? ⟨w.heap.size,5,none⟩=some (.slice none 0 0))/\(v.frozen? ⟨w.heap.size,0,none⟩=false/\v.frozen? ⟨w.heap.size,1,none⟩=false/\v.frozen? ⟨w.heap.size,2,none⟩=false/\v.frozen? ⟨w.heap.size,3,none⟩=false/\v.frozen? ⟨w.heap.size,4,none⟩=false/\v.frozen? ⟨w.heap.size,5,none⟩=false)/\w.heap.size < v.heap.size:=
 ⟨h.p.at'.cells,⟨h.x.c0,h.x.c1,h.x.c2,h.x.c3,h.x.c4,h.x.c5⟩,⟨h.z 0,h.z 1,h.z 2,h.z 3,h.z 4,h.z 5⟩,h.x.hz⟩
theorem jQH (g m:Nat) (s word:ByteArray) (hs:jQK s word=(s,false)) (w:World) (h:Yg w g s m 292) :
  Calls Tryz.prog 231 #[.pointer (some ⟨g,0,none⟩),.string word] w fun e w'=>e=.returned (.bool false)/\ParP g s m 292 w w':=by
 have h1:=kQc g m s word w h;rw [hs] at h1;exact h1
theorem kQA (g m:Nat) (s s' word:ByteArray) (hs:jQK s word=(s',true)) (w:World) (h:Yg w g s m 292) :
  Calls Tryz.prog 231 #[.pointer (some ⟨g,0,none⟩),.string word] w fun e w'=>e=.returned (.bool true)/\ParP g s' m 292 w w':=by
 have h1:=kQc g m s word w h;rw [hs] at h1;exact h1
theorem kQh {g m:Nat} {s:ByteArray} {T:TypeId} {a b:World} (h:ParP g s m T a b) (hM:MaxW a) (hg:0≠g):MaxW b:=by
 obtain ⟨⟨k,hk⟩,hz⟩:=hM;exact ⟨⟨k,by rw [h.cell hz hg];exact hk⟩,Nat.lt_of_lt_of_le hz h.size⟩
theorem jQx {g m:Nat} {s:ByteArray} {T:TypeId} {a b:World} {o:Obj} (h:ParP g s m T a b):ParP g s m T a (b.alloc o):=h.grow (Qj _ (.refl _ _))
end Go.Proofs.YtcbicdencgjfiaaGreatDoor
namespace Tryst
open Go Go.RowKit Go.Maps
def rawE (v:Value):Option (DataW Value × List MemPlace):=some (.held v,[])
def keyL (l:List UInt8):Lit:=.string l
def MapS (P:Program) (k:TypeId) (w:World) (b n:Nat) (z:Value) (f:List UInt8->Value) (p:List UInt8->Bool):Prop:=
 ∃ D:DataW Value,w.ownsMap P k rawE b n D/\(∀ l,D.atKey (keyL l) (.held z)=.held (f l))/\(∀ l,Maps.has D (keyL l)=p l)
section
variable {P:Program} {k e t:TypeId} {w w':World} {b n:Nat} {z:Value} {f:List UInt8->Value} {p:List UInt8->Bool}
theorem MapS.lt (h:MapS P k w b n z f p):b < w.heap.size:=by
 obtain ⟨D,h1,_⟩:=h;exact h1.lt
theorem MapS.of_block (h:MapS P k w b n z f p) (hb:w'.heap[b]?=w.heap[b]?):MapS P k w' b n z f p:=by
 obtain ⟨D,⟨es,c,h1,h2⟩,h3⟩:=h;exact ⟨D,⟨es,c,hb.trans h1,h2⟩,h3⟩
theorem MapS.growB (h:MapS P k w b n z f p) {B:Nat} (hB:b < B) (hb:Below B w w'):MapS P k w' b n z f p:=h.of_block (hb.block b hB)
theorem MapS.grow (h:MapS P k w b n z f p) (hb:Below w.heap.size w w'):MapS P k w' b n z f p:=h.growB h.lt hb
theorem MapS.away (h:MapS P k w b n z f p) {c o:Nat} (hc:c≠b) (u:Value):MapS P k (w.setCell ⟨c,o,none⟩ u) b n z f p:=h.of_block (Below.heap_setCell _ _ _ _ (fun e=>hc e.symm))
theorem MapS.kept {row:Option Nat} (h:MapS P k w b n z f p) (hg:w.grownBy w' row) (hr:some b≠row):MapS P k w' b n z f p:=h.of_block (hg.block b h.lt hr)
theorem MapS.made (P:Program) (k:TypeId) (w:World) (z:Value):MapS P k (w.alloc (.map #[] 0)) w.heap.size 0 z (fun _=>z) (fun _=>false):=
 ⟨.map [],World.ownsMap_made w P k rawE,fun _=>rfl,fun _=>rfl⟩
theorem MapS.mono {n':Nat} (h:MapS P k w b n z f p) (hn:n<=n'):MapS P k w b n' z f p:=by
 obtain ⟨D,h1,h2⟩:=h;exact ⟨D,h1.mono hn,h2⟩
theorem jY6 (l:List UInt8):WideAt.IsKeyLit (keyL l):=by unfold WideAt.IsKeyLit keyL;trivial
theorem MapS.look (h:MapS P k w b n z f p) (hk:P.underlying k=some .string) (ht:P.underlying t=some (.map k e)) (hz:(zeroValue e).run P w=.ok z w) {s:ByteArray} (hs:s.size<=maxLen) :
  (Instr.lookup t (.map (some b)) (.string s) false).run P w=.ok (f s.data.toList) w:=by
 obtain ⟨D,h1,h2,_⟩:=h;obtain ⟨v,ps,hrun,hv⟩:=h1.lookup (string_keyed hk) ht hz rfl (WideMaps.keyOf_string_mk hk hs);have e1:D.atKey (.string s.data.toList) (.held z)=.held (f s.data.toList):=h2 s.data.toList;rw [e1] at hv;simp only [rawE,Option.some.injEq,Prod.mk.injEq,DataW.held.injEq] at hv;rw [hrun,hv.1]
theorem MapS.look_ok (h:MapS P k w b n z f p) (hk:P.underlying k=some .string) (ht:P.underlying t=some (.map k e)) (hz:(zeroValue e).run P w=.ok z w) {s:ByteArray} (hs:s.size<=maxLen) :
  (Instr.lookup t (.map (some b)) (.string s) true).run P w=.ok (.tuple #[f s.data.toList,.bool (p s.data.toList)]) w:=by
 obtain ⟨D,h1,h2,h3⟩:=h;obtain ⟨v,ps,hrun,hv⟩:=h1.look_ok (string_keyed hk) ht hz rfl (WideMaps.keyOf_string_mk hk hs);have e1:D.atKey (.string s.data.toList) (.held z)=.held (f s.data.toList):=h2 s.data.toList;have e2:Maps.has D (.string s.data.toList)=p s.data.toList:=h3 s.data.toList;rw [e1] at hv;rw [e2] at hrun;simp only [rawE,Option.some.injEq,Prod.mk.injEq,DataW.held.injEq] at hv;rw [hrun,hv.1]
theorem MapS.put (h:MapS P k w b n z f p) (hk:P.underlying k=some .string) (ht:P.underlying t=some (.map k e)) (hn:n < maxLen) {s:ByteArray} (hs:s.size<=maxLen) (v:Value) :
  ∃ w',(Instr.mapUpdate t (.map (some b)) (.string s) v).run P w=.ok () w'/\MapS P k w' b (n+1) z (fun l=>if l=s.data.toList then v else f l) (fun l=>decide (l=s.data.toList)||p l)/\w.grownBy w' (some b):=by
 obtain ⟨D,h1,h2,h3⟩:=h;obtain ⟨w',hrun,ho,hg⟩:=h1.update (string_keyed hk) ht hn (WideMaps.keyOf_string_mk hk hs) (val:=v) rfl;have hM:=h1.isMap;refine ⟨w',hrun,⟨_,ho,fun l=>?_,fun l=>?_⟩,hg⟩
 ·
  by_cases hl:l=s.data.toList
  · subst hl;simp only [if_true];exact atKey_put_same hM (jY6 _) _ _
  · simp only [hl,if_false];exact (atKey_put_other (fun e=>hl (by simpa [keyL] using e)) _ _).trans (h2 l)
 ·
  by_cases hl:l=s.data.toList
  · subst hl;simp only [decide_true,Bool.true_or];exact has_put_same hM (jY6 _) _
  · simp only [hl,decide_false,Bool.false_or];exact (has_put_other (fun e=>hl (by simpa [keyL] using e)) _).trans (h3 l)
theorem jQe {ops:Array Oper} {rest:List Oper} {o:Oper} {a:Act} {Q:Exit->Act->World->Prop} (hg:o.guard=none) (m x:Operand) (hop:o.op=Op.lookup t m x true)
  (h:MapS P k w b n z f p) (hk:P.underlying k=some .string) (ht:P.underlying t=some (.map k e)) (hz:(zeroValue e).run P w=.ok z w) (hm:a.eval m=.map (some b)) {s:ByteArray} (hs:s.size<=maxLen) (hx:a.eval x=.string s) {v:Value} (hv:f s.data.toList=v)
  (hK:wpList P ops Q rest (a.put o.dst (.tuple #[v,.bool (p s.data.toList)])) w):wpList P ops Q (o :: rest) a w:=by
 refine wpList_plain hg fun K' hK'=>?_
 have hrun:=h.look_ok hk ht hz hs;unfold Oper.wp;simp [execOp,hop,hm,hx,hrun,Result.andThen,hv];exact hK' _ _ hK
end
end Tryst
namespace Tryst
open Go Go.RowKit Go.Maps
theorem jJS {P:Program} {k e t:TypeId} {w:World} {b n:Nat} {z:Value} {f:List UInt8->Value} {p:List UInt8->Bool} {ops:Array Oper} {rest:List Oper} {o:Oper} {a:Act} {Q:Exit->Act->World->Prop} (hg:o.guard=none) (m x y:Operand) (hop:o.op=Op.insert t m x y)
  (h:MapS P k w b n z f p) (hk:P.underlying k=some .string) (ht:P.underlying t=some (.map k e)) (hn:n < maxLen) (hm:a.eval m=.map (some b)) {s:ByteArray} (hs:s.size<=maxLen) (hx:a.eval x=.string s) {v:Value} (hy:a.eval y=v)
  (hK:∀ w',MapS P k w' b (n+1) z (fun l=>if l=s.data.toList then v else f l) (fun l=>decide (l=s.data.toList)||p l)->w.grownBy w' (some b)->wpList P ops Q rest (a.put o.dst undef) w'):wpList P ops Q (o :: rest) a w:=by
 refine wpList_plain hg fun K' hK'=>?_
 obtain ⟨w',hrun,h1,h2⟩:=h.put hk ht hn hs v;unfold Oper.wp;simp [execOp,hop,hm,hx,hy,hrun,Result.andThen];exact hK' _ _ (hK w' h1 h2)
end Tryst
namespace Go.Proofs.YtcbicdencgjfiaaGreatDoor
open Go.RowKit Tryst
end Go.Proofs.YtcbicdencgjfiaaGreatDoor
namespace Tryst
open Go Go.RowKit
mutual
theorem qQd {w:World}:∀ x:PB,PO w x->Zb x.pr
 | .mk op s num n vs a c l,h=>by
  obtain ⟨-,hn,-,hl⟩:=PO.parts h;rw [PB.pr,Zb];exact ⟨hn,xQX l hl⟩
theorem xQX {w:World}:∀ l:List PB,(∀ x,x∈l->PO w x)->jQc (PB.prs l)
 | [],_=>by rw [PB.prs,jQc];trivial
 | x :: r,h=>by
  rw [PB.prs,jQc];exact ⟨qQd x (h x List.mem_cons_self),xQX r (fun y hy=>h y (List.mem_cons_of_mem _ hy))⟩
end
end Tryst
namespace Go.Proofs.YtcbicdencgjfiaaGreatDoor
open Go.RowKit Tryst
section
variable {w:World} {B:Nat} {a0 a1:ByteArray} {a2:Bool} {a3:Int} {a4:ByteArray} {a5:Value} {b0 b1:ByteArray} {b2:Bool} {b3:Int} {b4:ByteArray} {b5:Value}
end
