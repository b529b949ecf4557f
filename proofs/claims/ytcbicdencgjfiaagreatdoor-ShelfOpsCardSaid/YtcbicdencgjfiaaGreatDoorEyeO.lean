/- what the eye takes: lists, structs (general) -/
import Derived.Test.YtcbicdencgjfiaaGreatDoorEyeG
set_option linter.unusedVariables false
set_option linter.unusedSimpArgs false
namespace Go.Proofs.YtcbicdencgjfiaaGreatDoor
open Go.RowKit Tryst
set_option maxHeartbeats 4000000
set_option maxRecDepth 20000
section
variable {α β:Type} (X:EK β)
structure LM (S:Nat→Prop) (w:World) (a:Option Addr) (c:Nat) (ys:List β):Prop where
 row:Row w a X.k (ys.map X.cells)
 sl:Sl a c ys.length
 at':∀ b o,a=some ⟨b,o,none⟩→S b∧b < w.heap.size
 mem:∀ y∈ys,X.E S w y
variable {X}
theorem LM.keep {S S':Nat→Prop} {w w':World} {a:Option Addr} {c:Nat} {ys:List β} (h:LM X S w a c ys) (hk:∀ g,S g→g < w.heap.size→w'.heap[g]?=w.heap[g]?∧S' g) (hz:w.heap.size≤w'.heap.size):LM X S' w' a c ys:=
 ⟨h.row.block (fun b o e=>(hk b (h.at' b o e).1 (h.at' b o e).2).1) hz,h.sl,fun b o e=>⟨(hk b (h.at' b o e).1 (h.at' b o e).2).2,Nat.lt_of_lt_of_le (h.at' b o e).2 hz⟩,fun y hy=>X.keep (h.mem y hy) hk hz⟩
theorem LM.of {S:Nat→Prop} {w:World} {base:Nat} {v:Value} {ys:List β} (hk:0 < X.k) (hr:ROwn X.T X.k w base v (ys.map X.cells)) (hm:∀ y∈ys,X.E (fun g=>base≤g∧Away v g) w y) (hS:∀ g,base≤g→S g):∃ a c,v=.slice a ys.length c∧LM X S w a c ys:=by
 obtain ⟨a,c,h1,h2,h3,h4⟩:=ROwn.row hr (fun x hx=>by
  obtain ⟨y,_,rfl⟩:=List.mem_map.1 hx
  exact X.len y) hk
 rw [List.length_map] at h1 h3
 exact ⟨a,c,h1,h2,h3,fun b o e=>⟨hS b (h4 b o e).1,(h4 b o e).2.1⟩,fun y hy=>X.keep (hm y hy) (fun g hg _=>⟨rfl,hS g hg.1⟩) (Nat.le_refl _)⟩
theorem LM.nil (S:Nat→Prop) (w:World):LM X S w none 0 []:=⟨Row.nil _ _ _,⟨Nat.le_refl _,fun A h=>(by cases h),fun _=>rfl⟩,fun b o h=>(by cases h),fun y h=>by cases h⟩
end
theorem EyeS.away {W0 w:World} {b g o:Nat} {s:List UInt8 × Bool} (h:EyeS W0 b s w) (hg:g≠b) (hW:W0.heap.size≤g) (u:Value):EyeS W0 b s (w.setCell ⟨g,o,none⟩ u):=⟨h.v.away hg u,h.low.setCell (p:=⟨g,o,none⟩) hW u,h.ge,h.n⟩
structure ED (W0 w:World) (b:Nat) (T:TypeId) (z:List Value) (s:List UInt8 × Bool) (vs:List Value) (W:World):Prop where
 eye:EyeS W0 b s W
 oth:Oth b w W
 hb:b < w.heap.size
 zz:Var W w.heap.size T z
 vv:Var W (w.heap.size+1) T vs
section
variable {W0 w W W':World} {b:Nat} {T:TypeId} {z vs:List Value} {s s':List UInt8 × Bool}
theorem ED.start (h:EyeS W0 b s w):ED W0 w b T z s z ((w.alloc (.cells z.toArray T)).alloc (.cells z.toArray T)):=by
 have h1:=Var.new w T z
 have h2:=Var.new (w.alloc (.cells z.toArray T)) T z
 rw [show (w.alloc (.cells z.toArray T)).heap.size=w.heap.size+1 by simp] at h2
 have hb:Below w.heap.size w ((w.alloc (.cells z.toArray T)).alloc (.cells z.toArray T)):=balloc _ (balloc _ (.refl _ _))
 exact ⟨h.quiet hb,Oth.below hb,h.v.lt,h1.grow (balloc _ (.refl _ _)),h2⟩
theorem ED.step (h:ED W0 w b T z s vs W) (h1:EyeS W0 b s' W') (h2:Oth b W W') (i:Nat) (v:Value):ED W0 w b T z s' (vs.set i v) (W'.setCell ⟨w.heap.size+1,i,none⟩ v):=by
 have hb:=h.hb
 have hge:=h.eye.ge
 refine ⟨h1.away (by omega) (by omega) v,?_,h.hb,(h.zz.oth h2 (by omega)).away (by omega) v,(h.vv.oth h2 (by omega)).set i v⟩
 have h3:=h.oth.trans h2
 exact ⟨by simpa using h3.size,fun k hk hne=>(Below.heap_setCell _ _ _ _ (show k≠w.heap.size+1 by omega)).trans (h3.same k hk hne)⟩
theorem ED.fz (h:ED W0 w b T z s vs W) (h2:Oth b W W') (i:Nat):W'.frozen? ⟨w.heap.size+1,i,none⟩=false:=(h.vv.oth h2 (by have:=h.hb;omega)).fz i
theorem ED.cl (h:ED W0 w b T z s vs W) (h2:Oth b W W') (i:Nat) {v:Value} (hv:vs[i]?=some v):W'.cell? ⟨w.heap.size+1,i,none⟩=some v:=((h.vv.oth h2 (by have:=h.hb;omega)).cell i).trans hv
theorem LM.step {β:Type} {X:EK β} {a:Option Addr} {c:Nat} {ys:List β} (h:LM X (fun g=>w.heap.size+1 < g) W a c ys) (hb:b < w.heap.size) (h2:Oth b W W') (i:Nat) (v:Value):LM X (fun g=>w.heap.size+1 < g) (W'.setCell ⟨w.heap.size+1,i,none⟩ v) a c ys:=
 h.keep (fun g hg hl=>⟨(Below.heap_setCell _ _ _ _ (show g≠w.heap.size+1 by omega)).trans (h2.same g hl (by omega)),hg⟩) (by simpa using h2.size)
theorem LM.put {β:Type} {X:EK β} {a:Option Addr} {c:Nat} {ys:List β} (h:LM X (fun g=>w.heap.size+1 < g) W a c ys) (i:Nat) (v:Value):LM X (fun g=>w.heap.size+1 < g) (W.setCell ⟨w.heap.size+1,i,none⟩ v) a c ys:=
 h.keep (fun g hg hl=>⟨Below.heap_setCell _ _ _ _ (show g≠w.heap.size+1 by omega),hg⟩) (by simp)
def setL:List Value→Nat→List Value→List Value
 | cs,_,[]=>cs
 | cs,i,v :: r=>setL (cs.set i v) (i+1) r
theorem putAtV {g:Nat}:∀ (us cs:List Value) (i:Nat) (w:World),Var w g T cs→Var (setsV w g i us) g T (setL cs i us)
 | [],_,_,_,h=>h
 | v :: r,cs,i,w,h=>putAtV r (cs.set i v) (i+1) _ (h.set i v)
theorem ED.steps (h:ED W0 w b T z s vs W) (h1:EyeS W0 b s' W') (h2:Oth b W W') (i:Nat) (us:List Value):ED W0 w b T z s' (setL vs i us) (setsV W' (w.heap.size+1) i us):=by
 have hb:=h.hb
 have hge:=h.eye.ge
 refine ⟨h1.sets (by omega) (by omega) i us,(h.oth.trans h2).setsB (by omega) i us,h.hb,?_,putAtV us vs i W' (h.vv.oth h2 (by omega))⟩
 have h3:=h.zz.oth h2 (by omega)
 exact (setsV_away (by omega) us i W').trans h3
theorem LM.puts {β:Type} {X:EK β} {a:Option Addr} {c:Nat} {ys:List β} (h:LM X (fun g=>w.heap.size+1 < g) W a c ys) (i:Nat) (us:List Value):LM X (fun g=>w.heap.size+1 < g) (setsV W (w.heap.size+1) i us) a c ys:=
 h.keep (fun g hg hl=>⟨setsV_away (show g≠w.heap.size+1 by omega) us i W,hg⟩) (by rw [setsV_size];exact Nat.le_refl _)
theorem ED.fin (h:ED W0 w b T z s vs W) (us:List Value):EyeS W0 b s (setsV W w.heap.size 0 us)∧Oth b w (setsV W w.heap.size 0 us):=
 ⟨h.eye.sets (by have:=h.hb;omega) (by have:=h.hb;have:=h.eye.ge;omega) 0 us,h.oth.setsB (Nat.le_refl _) 0 us⟩
theorem LM.fin {β:Type} {X:EK β} {a:Option Addr} {c:Nat} {ys:List β} (h:LM X (fun g=>w.heap.size+1 < g) W a c ys) (us:List Value):LM X (fun g=>w.heap.size≤g) (setsV W w.heap.size 0 us) a c ys:=
 h.keep (fun g hg hl=>⟨setsV_away (by omega) us 0 W,by omega⟩) (by rw [setsV_size];exact Nat.le_refl _)
end
end Go.Proofs.YtcbicdencgjfiaaGreatDoor
/- shelf.eye: def -/
set_option linter.unusedVariables false
set_option linter.unusedSimpArgs false
namespace Go.Proofs.YtcbicdencgjfiaaGreatDoor
open Go.RowKit Tryst
set_option maxHeartbeats 4000000
set_option maxRecDepth 20000
theorem enumber_k {W0 w:World} {b:Nat} {s:List UInt8 × Bool} (h:EyeS W0 b s w) :
  Calls Tryz.prog 92 #[.pointer (some ⟨b,0,none⟩)] w (TkR intK (fun x=>x) W0 b (numR s) w):=
 (enumber_c h).mono fun e w' ⟨h1,h2,h3⟩=>⟨_,h1,trivial,rfl,h2,h3⟩
structure DM (S:Nat→Prop) (w:World) (d:DB):Prop where
 g:LM strK S w d.ga d.gc d.gl
 w:LM predK S w d.wa d.wc d.wl
def defK:EK DB where
 T:=45
 k:=8
 cells:=DB.cells
 val:=DB.agg
 E:=DM
 len:=fun y=>rfl
 one:=fun y u hu=>by
  simp [DB.cells] at hu
  rcases hu with rfl | rfl | rfl | rfl | rfl | rfl | rfl | rfl<;>rfl
 keep:=fun h hk hz=>⟨h.g.keep hk hz,h.w.keep hk hz⟩
theorem edef_k {W0 w:World} {b:Nat} {s:List UInt8 × Bool} (h:EyeS W0 b s w) (hM:MaxW W0) :
  Calls Tryz.prog 116 #[.pointer (some ⟨b,0,none⟩)] w (TkR defK DB.dp W0 b (defR s) w):=by
 have D0:=Lib.hid (ED.start (T:=45) (z:=[.string ⟨#[]⟩,.slice none 0 0,.slice none 0 0,.string ⟨#[]⟩,.string ⟨#[]⟩,.int .i64 0,.int .i64 0,.int .i64 0]) h)
 have HM:=Lib.hid hM
 have hbw:=h.v.lt
 clear h hM
 go_enter Tryz.func116,Tryz.ntmps116
 go_wp2_with fail
 refine (etext_k D0.out.eye).mono ?_
 rintro e w1 ⟨y1,rfl,m1,p1,h1,o1⟩
 dsimp only [strK,intK,idK,boolK]
 have P1:=Lib.hid p1
 have hf1:=D0.out.fz o1 0
 have hk1:=D0.out.cl o1 0 rfl
 have D1:=Lib.hid (D0.out.step h1 o1 0 (.string y1))
 clear p1 h1 o1 D0
 go_wp2_with fail
 refine (esomeS_c D1.out.eye).mono ?_
 rintro e w2 ⟨v2,y2,rfl,hr2,m2,p2,h2,o2⟩
 have P2:=Lib.hid p2
 have hf2:=D1.out.fz o2 1
 have hk2:=D1.out.cl o2 1 rfl
 have D2:=Lib.hid (D1.out.step h2 o2 1 v2)
 obtain ⟨a2,c2,hv2,hl2⟩:=LM.of (X:=strK) (S:=fun g=>w.heap.size+1 < g) (by decide) hr2 m2 (fun g hg=>Nat.lt_of_lt_of_le D1.out.vv.lt hg)
 subst hv2
 have L2:=Lib.hid (hl2.put 1 (.slice a2 y2.length c2))
 clear p2 h2 o2 hr2 m2 hl2 D1
 go_wp2_with fail
 refine (esomeP_c D2.out.eye HM.out).mono ?_
 rintro e w3 ⟨v3,y3,rfl,hr3,m3,p3,h3,o3⟩
 have P3:=Lib.hid p3
 have hf3:=D2.out.fz o3 2
 have hk3:=D2.out.cl o3 2 rfl
 have D3:=Lib.hid (D2.out.step h3 o3 2 v3)
 obtain ⟨a3,c3,hv3,hl3⟩:=LM.of (X:=predK) (S:=fun g=>w.heap.size+1 < g) (by decide) hr3 m3 (fun g hg=>Nat.lt_of_lt_of_le D2.out.vv.lt hg)
 subst hv3
 have L3:=Lib.hid (hl3.put 2 (.slice a3 y3.length c3))
 have K3:=Lib.hid (L2.out.step hbw o3 2 (.slice a3 y3.length c3))
 clear p3 h3 o3 hr3 m3 hl3 D2
 go_wp2_with fail
 refine (etext_k D3.out.eye).mono ?_
 rintro e w4 ⟨y4,rfl,m4,p4,h4,o4⟩
 dsimp only [strK,intK,idK,boolK]
 have P4:=Lib.hid p4
 have hf4:=D3.out.fz o4 3
 have hk4:=D3.out.cl o4 3 rfl
 have D4:=Lib.hid (D3.out.step h4 o4 3 (.string y4))
 have K4:=Lib.hid (K3.out.step hbw o4 3 (.string y4))
 have J4:=Lib.hid (L3.out.step hbw o4 3 (.string y4))
 clear p4 h4 o4 D3
 go_wp2_with fail
 refine (etext_k D4.out.eye).mono ?_
 rintro e w5 ⟨y5,rfl,m5,p5,h5,o5⟩
 dsimp only [strK,intK,idK,boolK]
 have P5:=Lib.hid p5
 have hf5:=D4.out.fz o5 4
 have hk5:=D4.out.cl o5 4 rfl
 have D5:=Lib.hid (D4.out.step h5 o5 4 (.string y5))
 have K5:=Lib.hid (K4.out.step hbw o5 4 (.string y5))
 have J5:=Lib.hid (J4.out.step hbw o5 4 (.string y5))
 clear p5 h5 o5 D4
 go_wp2_with fail
 refine (enumber_k D5.out.eye).mono ?_
 rintro e w6 ⟨y6,rfl,m6,p6,h6,o6⟩
 dsimp only [strK,intK,idK,boolK]
 have P6:=Lib.hid p6
 have hf6:=D5.out.fz o6 5
 have hk6:=D5.out.cl o6 5 rfl
 have D6:=Lib.hid (D5.out.step h6 o6 5 (.int .i64 y6))
 have K6:=Lib.hid (K5.out.step hbw o6 5 (.int .i64 y6))
 have J6:=Lib.hid (J5.out.step hbw o6 5 (.int .i64 y6))
 clear p6 h6 o6 D5
 go_wp2_with fail
 refine (enumber_k D6.out.eye).mono ?_
 rintro e w7 ⟨y7,rfl,m7,p7,h7,o7⟩
 dsimp only [strK,intK,idK,boolK]
 have P7:=Lib.hid p7
 have hf7:=D6.out.fz o7 6
 have hk7:=D6.out.cl o7 6 rfl
 have D7:=Lib.hid (D6.out.step h7 o7 6 (.int .i64 y7))
 have K7:=Lib.hid (K6.out.step hbw o7 6 (.int .i64 y7))
 have J7:=Lib.hid (J6.out.step hbw o7 6 (.int .i64 y7))
 clear p7 h7 o7 D6
 go_wp2_with fail
 refine (enumber_k D7.out.eye).mono ?_
 rintro e w8 ⟨y8,rfl,m8,p8,h8,o8⟩
 dsimp only [strK,intK,idK,boolK]
 have P8:=Lib.hid p8
 have hf8:=D7.out.fz o8 7
 have hgz:=D7.out.hb
 have D8:=Lib.hid (D7.out.step h8 o8 7 (.int .i64 y8))
 have VV:Hid (Var w8 (w.heap.size+1) 45 [.string y1,.slice a2 y2.length c2,.slice a3 y3.length c3,.string y4,.string y5,.int .i64 y6,.int .i64 y7,.int .i64 0]):=Lib.hid (D7.out.vv.oth o8 (by omega))
 have ZZ:=Lib.hid (D7.out.zz.oth o8 (by omega))
 have K8:=Lib.hid (K7.out.step hbw o8 7 (.int .i64 y8))
 have J8:=Lib.hid (J7.out.step hbw o8 7 (.int .i64 y8))
 clear p8 h8 o8 D7
 have XX:=VV.out.cells
 simp only [VarC,Nat.reduceAdd,Nat.zero_add,and_true] at XX
 obtain ⟨x0,x1,x2,x3,x4,x5,x6,x7⟩:=XX
 have zf:=ZZ.out.fz
 have zl:=ZZ.out.lt
 have XX:=ZZ.out.cells
 simp only [VarC,Nat.reduceAdd,Nat.zero_add,and_true] at XX
 obtain ⟨u0,u1,u2,u3,u4,u5,u6,u7⟩:=XX
 go_wp2_with fail
 refine bodyPost_ret (v:=(DB.mk y1 a2 y2 c2 a3 y3 c3 y4 ⟨y5,y6,y7,y8⟩).agg) (by simp [results,Tryz.results116,go_sem,DB.agg, *]) rfl ?_
 obtain ⟨q1,q2⟩:=D8.out.fin [.string y1,.slice a2 y2.length c2,.slice a3 y3.length c3,.string y4,.string y5,.int .i64 y6,.int .i64 y7,.int .i64 y8]
 refine ⟨DB.mk y1 a2 y2 c2 a3 y3 c3 y4 ⟨y5,y6,y7,y8⟩,rfl,⟨K8.out.fin [.string y1,.slice a2 y2.length c2,.slice a3 y3.length c3,.string y4,.string y5,.int .i64 y6,.int .i64 y7,.int .i64 y8],J8.out.fin [.string y1,.slice a2 y2.length c2,.slice a3 y3.length c3,.string y4,.string y5,.int .i64 y6,.int .i64 y7,.int .i64 y8]⟩,?_,q1,q2⟩
 have e2:=P2.out
 rw [List.map_id'] at e2
 unfold DB.dp
 simp only [P1.out,e2,P3.out,P4.out,P5.out,P6.out,P7.out,P8.out]
 rfl
end Go.Proofs.YtcbicdencgjfiaaGreatDoor
/- shelf.eye: op -/
set_option linter.unusedVariables false
set_option linter.unusedSimpArgs false
namespace Go.Proofs.YtcbicdencgjfiaaGreatDoor
open Go.RowKit Tryst
set_option maxHeartbeats 4000000
set_option maxRecDepth 20000
theorem eid_k {W0 w:World} {b:Nat} {s:List UInt8 × Bool} (h:EyeS W0 b s w) :
  Calls Tryz.prog 115 #[.pointer (some ⟨b,0,none⟩)] w (TkR idK (fun x=>x) W0 b (idR s) w):=
 (eid_c h).mono fun e w' ⟨h1,h2,h3⟩=>⟨_,h1,trivial,rfl,h2,h3⟩
theorem etruth_k {W0 w:World} {b:Nat} {s:List UInt8 × Bool} (h:EyeS W0 b s w) :
  Calls Tryz.prog 114 #[.pointer (some ⟨b,0,none⟩)] w (TkR boolK (fun x=>x) W0 b (truthR s) w):=
 (etruth_c h).mono fun e w' ⟨h1,h2,h3⟩=>⟨_,h1,trivial,rfl,h2,h3⟩
def opK:EK OPB where
 T:=48
 k:=13
 cells:=OPB.cells
 val:=OPB.agg
 E:=fun S w y=>DM S w y.d
 len:=fun y=>rfl
 one:=fun y u hu=>by
  simp [OPB.cells] at hu
  rcases hu with rfl | rfl | rfl | rfl | rfl | rfl | rfl | rfl | rfl | rfl | rfl | rfl | rfl<;>rfl
 keep:=fun h hk hz=>⟨h.g.keep hk hz,h.w.keep hk hz⟩
theorem eop_k {W0 w:World} {b:Nat} {s:List UInt8 × Bool} (h:EyeS W0 b s w) (hM:MaxW W0) :
  Calls Tryz.prog 57 #[.pointer (some ⟨b,0,none⟩)] w (TkR opK OPB.p W0 b (opR s) w):=by
 have D0:=Lib.hid (ED.start (T:=48) (z:=[.int .i64 0,.string ⟨#[]⟩,.string ⟨#[]⟩,.slice none 0 0,.slice none 0 0,.string ⟨#[]⟩,.string ⟨#[]⟩,.int .i64 0,.int .i64 0,.int .i64 0,.bool false,.int .u64 0,.int .i64 0]) h)
 have HM:=Lib.hid hM
 have hbw:=h.v.lt
 clear h hM
 go_enter Tryz.func57,Tryz.ntmps57
 go_wp2_with fail
 refine (enumber_k D0.out.eye).mono ?_
 rintro e w1 ⟨y1,rfl,m1,p1,h1,o1⟩
 dsimp only [strK,intK,idK,boolK]
 have P1:=Lib.hid p1
 have hf1:=D0.out.fz o1 0
 have hk1:=D0.out.cl o1 0 rfl
 have D1:=Lib.hid (D0.out.step h1 o1 0 (.int .i64 y1))
 clear p1 h1 o1 D0
 go_wp2_with fail
 by_cases hk:y1=2
 ·
  subst hk
  refine (etext_k D1.out.eye).mono ?_
  rintro e w2 ⟨y2,rfl,m2,p2,h2,o2⟩
  dsimp only [strK,intK,idK,boolK]
  have P2:=Lib.hid p2
  have hf2:=D1.out.fz o2 1
  have hk2:=D1.out.cl o2 1 rfl
  have D2:=Lib.hid (D1.out.step h2 o2 1 (.string y2))
  clear p2 h2 o2 D1
  go_wp2_with fail
  refine (etruth_k D2.out.eye).mono ?_
  rintro e w3 ⟨y3,rfl,m3,p3,h3,o3⟩
  dsimp only [strK,intK,idK,boolK]
  have P3:=Lib.hid p3
  have hf3:=D2.out.fz o3 10
  have hk3:=D2.out.cl o3 10 rfl
  have D3:=Lib.hid (D2.out.step h3 o3 10 (.bool y3))
  clear p3 h3 o3 D2
  go_wp2_with fail
  refine (eid_k D3.out.eye).mono ?_
  rintro e w4 ⟨y4,rfl,m4,p4,h4,o4⟩
  dsimp only [strK,intK,idK,boolK]
  have P4:=Lib.hid p4
  have hf4:=D3.out.fz o4 11
  have hk4:=D3.out.cl o4 11 rfl
  have D4:=Lib.hid (D3.out.step h4 o4 11 (.int .u64 (y4:Nat)))
  clear p4 h4 o4 D3
  go_wp2_with fail
  refine (enumber_k D4.out.eye).mono ?_
  rintro e w5 ⟨y5,rfl,m5,p5,h5,o5⟩
  dsimp only [strK,intK,idK,boolK]
  have P5:=Lib.hid p5
  have hf5:=D4.out.fz o5 12
  have hk5:=D4.out.cl o5 12 rfl
  have D5:=Lib.hid (D4.out.step h5 o5 12 (.int .i64 y5))
  have q0:=D4.out.cl o5 0 rfl
  clear p5 h5 o5 D4
  go_wp2_with fail
  clear q0 hf1 hf2 hf3 hf4 hf5 hk1 hk2 hk3 hk4 hk5 m1 m2 m3 m4 m5
  refine (edef_k D5.out.eye HM.out).mono ?_
  rintro e w6 ⟨y6,rfl,m6,p6,h6,o6⟩
  obtain ⟨nm,ga,gl,gc,wa,wl,wc,ky,⟨kd,dp,dn,dx⟩⟩:=y6
  dsimp only [defK,DB.agg]
  have P6:=Lib.hid p6
  have hgz:=D5.out.hb
  have hlt5:=D5.out.vv.lt
  have VV:Hid (Var w6 (w.heap.size+1) 48 [.int .i64 2,.string y2,.string ⟨#[]⟩,.slice none 0 0,.slice none 0 0,.string ⟨#[]⟩,.string ⟨#[]⟩,.int .i64 0,.int .i64 0,.int .i64 0,.bool y3,.int .u64 y4,.int .i64 y5]):=Lib.hid (D5.out.vv.oth o6 (by omega))
  have ZZ:=Lib.hid (D5.out.zz.oth o6 (by omega))
  have D6:=Lib.hid (D5.out.steps h6 o6 2 [.string nm,.slice ga gl.length gc,.slice wa wl.length wc,.string ky,.string kd,.int .i64 dp,.int .i64 dn,.int .i64 dx])
  have M6:=Lib.hid (show DM (fun g=>w.heap.size+1 < g) w6 ⟨nm,ga,gl,gc,wa,wl,wc,ky,⟨kd,dp,dn,dx⟩⟩ from defK.keep m6 (fun g hg _=>⟨rfl,Nat.lt_of_lt_of_le hlt5 hg⟩) (Nat.le_refl _))
  clear p6 h6 o6 m6 D5 hlt5
  have XX:=VV.out.cells
  simp only [VarC,Nat.reduceAdd,Nat.zero_add,and_true] at XX
  obtain ⟨x0,x1,x2,x3,x4,x5,x6,x7,x8,x9,x10,x11,x12⟩:=XX
  have XX:=ZZ.out.cells
  simp only [VarC,Nat.reduceAdd,Nat.zero_add,and_true] at XX
  obtain ⟨u0,u1,u2,u3,u4,u5,u6,u7,u8,u9,u10,u11,u12⟩:=XX
  have zf:=ZZ.out.fz
  have vf:=VV.out.fz
  have zl:=ZZ.out.lt
  go_wp2_with fail
  refine bodyPost_ret (v:=(OPB.mk 2 y2 (DB.mk nm ga gl gc wa wl wc ky ⟨kd,dp,dn,dx⟩) y3 y4 y5).agg) (by simp [results,Tryz.results57,go_sem,OPB.agg, *]) rfl ?_
  obtain ⟨q1,q2⟩:=D6.out.fin (OPB.mk 2 y2 (DB.mk nm ga gl gc wa wl wc ky ⟨kd,dp,dn,dx⟩) y3 y4 y5).cells
  have M7:=defK.keep (M6.out) (w':=setsV (setsV w6 (w.heap.size+1) 2 [.string nm,.slice ga gl.length gc,.slice wa wl.length wc,.string ky,.string kd,.int .i64 dp,.int .i64 dn,.int .i64 dx]) w.heap.size 0 (OPB.mk 2 y2 (DB.mk nm ga gl gc wa wl wc ky ⟨kd,dp,dn,dx⟩) y3 y4 y5).cells) (S':=fun g=>w.heap.size≤g) (fun g hg _=>⟨(setsV_away (by omega) _ _ _).trans (setsV_away (by omega) _ _ _),by omega⟩) (by rw [setsV_size,setsV_size];exact Nat.le_refl _)
  refine ⟨OPB.mk 2 y2 (DB.mk nm ga gl gc wa wl wc ky ⟨kd,dp,dn,dx⟩) y3 y4 y5,rfl,M7,?_,?_⟩
  ·
   have hk1:=P1.out
   unfold OPB.p opR headR seqR
   simp only
   rw [if_pos hk1.symm,← hk1,P2.out,P3.out,P4.out,P5.out,P6.out]
  ·
   have hk1:=P1.out
   have e:(opR s).2=(defR (numR (idR (truthR (strR (numR s).2).2).2).2).2).2:=by
    unfold opR headR seqR
    simp only
    rw [if_pos hk1.symm]
   rw [e]
   exact ⟨q1,q2⟩
 ·
  have b1:(y1==2)=false:=by simpa using hk
  refine (etext_k D1.out.eye).mono ?_
  rintro e w2 ⟨y2,rfl,m2,p2,h2,o2⟩
  dsimp only [strK,intK,idK,boolK]
  have P2:=Lib.hid p2
  have hf2:=D1.out.fz o2 1
  have hk2:=D1.out.cl o2 1 rfl
  have D2:=Lib.hid (D1.out.step h2 o2 1 (.string y2))
  clear p2 h2 o2 D1
  go_wp2_with fail
  refine (etruth_k D2.out.eye).mono ?_
  rintro e w3 ⟨y3,rfl,m3,p3,h3,o3⟩
  dsimp only [strK,intK,idK,boolK]
  have P3:=Lib.hid p3
  have hf3:=D2.out.fz o3 10
  have hk3:=D2.out.cl o3 10 rfl
  have D3:=Lib.hid (D2.out.step h3 o3 10 (.bool y3))
  clear p3 h3 o3 D2
  go_wp2_with fail
  refine (eid_k D3.out.eye).mono ?_
  rintro e w4 ⟨y4,rfl,m4,p4,h4,o4⟩
  dsimp only [strK,intK,idK,boolK]
  have P4:=Lib.hid p4
  have hf4:=D3.out.fz o4 11
  have hk4:=D3.out.cl o4 11 rfl
  have D4:=Lib.hid (D3.out.step h4 o4 11 (.int .u64 (y4:Nat)))
  clear p4 h4 o4 D3
  go_wp2_with fail
  clear hf1 hf2 hf3 hf4 hk1 hk2 hk3 hk4 m1 m2 m3 m4
  refine (enumber_k D4.out.eye).mono ?_
  rintro e w5 ⟨y5,rfl,m5,p5,h5,o5⟩
  dsimp only [strK,intK,idK,boolK]
  have P5:=Lib.hid p5
  have hf5:=D4.out.fz o5 12
  have hgz:=D4.out.hb
  have D5:=Lib.hid (D4.out.step h5 o5 12 (.int .i64 y5))
  have VV:Hid (Var w5 (w.heap.size+1) 48 [.int .i64 y1,.string y2,.string ⟨#[]⟩,.slice none 0 0,.slice none 0 0,.string ⟨#[]⟩,.string ⟨#[]⟩,.int .i64 0,.int .i64 0,.int .i64 0,.bool y3,.int .u64 y4,.int .i64 0]):=Lib.hid (D4.out.vv.oth o5 (by omega))
  have ZZ:=Lib.hid (D4.out.zz.oth o5 (by omega))
  clear p5 h5 o5 D4
  have XX:=VV.out.cells
  simp only [VarC,Nat.reduceAdd,Nat.zero_add,and_true] at XX
  obtain ⟨x0,x1,x2,x3,x4,x5,x6,x7,x8,x9,x10,x11,x12⟩:=XX
  have zf:=ZZ.out.fz
  have zl:=ZZ.out.lt
  have XX:=ZZ.out.cells
  simp only [VarC,Nat.reduceAdd,Nat.zero_add,and_true] at XX
  obtain ⟨u0,u1,u2,u3,u4,u5,u6,u7,u8,u9,u10,u11,u12⟩:=XX
  go_wp2_with fail
  refine bodyPost_ret (v:=(OPB.mk y1 y2 .zero y3 y4 y5).agg) (by simp [results,Tryz.results57,go_sem,OPB.agg,DB.zero, *]) rfl ?_
  obtain ⟨q1,q2⟩:=D5.out.fin (OPB.mk y1 y2 .zero y3 y4 y5).cells
  refine ⟨OPB.mk y1 y2 .zero y3 y4 y5,rfl,⟨LM.nil _ _,LM.nil _ _⟩,?_,?_⟩
  ·
   have hk1:=P1.out
   unfold OPB.p opR headR seqR
   simp only
   rw [if_neg (by rw [← hk1];exact hk),hk1,P2.out,P3.out,P4.out,P5.out]
   rfl
  ·
   have hk1:=P1.out
   have e:(opR s).2=(numR (idR (truthR (strR (numR s).2).2).2).2).2:=by
    unfold opR headR seqR
    simp only
    rw [if_neg (by rw [← hk1];exact hk)]
   rw [e]
   exact ⟨q1,q2⟩
end Go.Proofs.YtcbicdencgjfiaaGreatDoor
