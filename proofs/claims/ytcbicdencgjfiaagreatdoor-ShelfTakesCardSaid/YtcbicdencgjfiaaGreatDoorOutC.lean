import Derived.Test.YtcbicdencgjfiaaGreatDoorLastC
set_option linter.all false
set_option maxHeartbeats 4000000
set_option maxRecDepth 20000
namespace Tryst
open Go Go.RowKit
structure UB where
 id:Nat
 sub:ByteArray
 ia:Option Addr
 ic:Nat
 ids:List Nat
 tries:Int
 due:Int
def UB.cells (x:UB):List Value:=[.int .u64 x.id,.string x.sub,.slice x.ia x.ids.length x.ic,.int .i64 x.tries,.int .i64 x.due]
def UB.val (x:UB):Value:=.agg #[.int .u64 x.id,.string x.sub,.slice x.ia x.ids.length x.ic,.int .i64 x.tries,.int .i64 x.due]
def ownU (x:UB):Bool:=decide (1<=x.id)&&(Q5 x.sub.data.toList&&(decide (1<=x.ids.length)&&(decide (x.ids.length<=30)&&(decide (0<=x.tries)&&(decide (x.tries<=4)&&(decide (0<=x.due)&&decide (x.due<=1099511627775)))))))
end Tryst
namespace Go.Proofs.YtcbicdencgjfiaaGreatDoor
open Go.RowKit Tryst
theorem at_c (n:Int) (w:World):Calls Tryz.prog 215 #[.int .i64 n] w fun e w'=>e=.returned (.bool (decide (0<=n)&&decide (n<=1099511627775)))/\w'=w:=by
 by_cases h1:0<=n
 ·
  by_cases h2:n<=1099511627775
  · go_enter Tryz.func215,Tryz.ntmps215;go_wp2_with fail;go_ret;exact ⟨Qq (by simp [h1,h2]),rfl⟩
  · go_enter Tryz.func215,Tryz.ntmps215;go_wp2_with fail;go_ret;exact ⟨Qq (by simp [h1,h2]),rfl⟩
 · go_enter Tryz.func215,Tryz.ntmps215;go_wp2_with fail;go_ret;exact ⟨Qq (by rw [decide_eq_false (show ¬ 0<=n by omega),Bool.false_and]),rfl⟩
theorem jYQ (x:UB) (hs:x.sub.size<=1500000) (w:World) (hM:MaxW w) :
  Calls Tryz.prog 184 #[x.val] w fun e w'=>e=.returned (.bool (ownU x))/\Below w.heap.size w w':=by
 have HB0:=Zh (Qj (.cells #[.int .u64 x.id,.string x.sub,.slice x.ia x.ids.length x.ic,.int .i64 x.tries,.int .i64 x.due] 90) (.refl w.heap.size w));have HC:=Zh (fun W (hb:Below w.heap.size w W)=>Xp x.sub (by omega) W (hM.grow hb));obtain ⟨id,sub,ia,ic,ids,tries,due⟩:=x;unfold UB.val ownU;simp only at HB0 HC ⊢;generalize ids.length=n at HB0 ⊢;clear hs hM;generalize Q5 sub.data.toList=fb at HC ⊢
 by_cases h1:1<=id
 case neg=>
  have h1':¬ ((1:Int)<=id):=by omega
  rw [decide_eq_false h1];clear HC h1;go_enter Tryz.func184,Tryz.ntmps184;go_wp2_with fail;go_ret;exact ⟨rfl,HB0.out⟩
 have h1':(1:Int)<=id:=by omega
 rw [decide_eq_true h1,Bool.true_and];clear h1;cases fb
 case false=>
  go_enter Tryz.func184,Tryz.ntmps184;go_wp2_with fail;refine (HC.out _ HB0.out).mono ?_;rintro e w2 ⟨rfl,hb2⟩;have HB2:=Zh (Qk hb2 HB0.out);have e2:w2.cell? ⟨w.heap.size,2,none⟩=some (.slice ia n ic):=(hb2.cell (p:=⟨w.heap.size,2,none⟩) (by simp)).trans (by rw [World.cell?_alloc_new];rfl);have e3:w2.cell? ⟨w.heap.size,3,none⟩=some (.int .i64 tries):=(hb2.cell (p:=⟨w.heap.size,3,none⟩) (by simp)).trans (by rw [World.cell?_alloc_new];rfl);have e4:w2.cell? ⟨w.heap.size,4,none⟩=some (.int .i64 due):=(hb2.cell (p:=⟨w.heap.size,4,none⟩) (by simp)).trans (by rw [World.cell?_alloc_new];rfl);clear hb2 HC HB0;go_wp2_with fail;go_ret;exact ⟨rfl,HB2.out⟩
 rw [Bool.true_and]
 by_cases h2:1<=n
 case neg=>
  have h2':¬ ((1:Int)<=n):=by omega
  rw [decide_eq_false h2];clear h2;go_enter Tryz.func184,Tryz.ntmps184;go_wp2_with fail;refine (HC.out _ HB0.out).mono ?_;rintro e w2 ⟨rfl,hb2⟩;have HB2:=Zh (Qk hb2 HB0.out);have e2:w2.cell? ⟨w.heap.size,2,none⟩=some (.slice ia n ic):=(hb2.cell (p:=⟨w.heap.size,2,none⟩) (by simp)).trans (by rw [World.cell?_alloc_new];rfl);have e3:w2.cell? ⟨w.heap.size,3,none⟩=some (.int .i64 tries):=(hb2.cell (p:=⟨w.heap.size,3,none⟩) (by simp)).trans (by rw [World.cell?_alloc_new];rfl);have e4:w2.cell? ⟨w.heap.size,4,none⟩=some (.int .i64 due):=(hb2.cell (p:=⟨w.heap.size,4,none⟩) (by simp)).trans (by rw [World.cell?_alloc_new];rfl);clear hb2 HC HB0;go_wp2_with fail;go_ret;exact ⟨rfl,HB2.out⟩
 have h2':(1:Int)<=n:=by omega
 rw [decide_eq_true h2,Bool.true_and];clear h2
 by_cases h3:n<=30
 case neg=>
  have h3':¬ ((n:Int)<=30):=by omega
  rw [decide_eq_false h3];clear h3;go_enter Tryz.func184,Tryz.ntmps184;go_wp2_with fail;refine (HC.out _ HB0.out).mono ?_;rintro e w2 ⟨rfl,hb2⟩;have HB2:=Zh (Qk hb2 HB0.out);have e2:w2.cell? ⟨w.heap.size,2,none⟩=some (.slice ia n ic):=(hb2.cell (p:=⟨w.heap.size,2,none⟩) (by simp)).trans (by rw [World.cell?_alloc_new];rfl);have e3:w2.cell? ⟨w.heap.size,3,none⟩=some (.int .i64 tries):=(hb2.cell (p:=⟨w.heap.size,3,none⟩) (by simp)).trans (by rw [World.cell?_alloc_new];rfl);have e4:w2.cell? ⟨w.heap.size,4,none⟩=some (.int .i64 due):=(hb2.cell (p:=⟨w.heap.size,4,none⟩) (by simp)).trans (by rw [World.cell?_alloc_new];rfl);clear hb2 HC HB0;go_wp2_with fail;go_ret;exact ⟨rfl,HB2.out⟩
 have h3':(n:Int)<=30:=by omega
 rw [decide_eq_true h3,Bool.true_and];clear h3
 by_cases h4:0<=tries
 case neg=>
  rw [decide_eq_false h4];go_enter Tryz.func184,Tryz.ntmps184;go_wp2_with fail;refine (HC.out _ HB0.out).mono ?_;rintro e w2 ⟨rfl,hb2⟩;have HB2:=Zh (Qk hb2 HB0.out);have e2:w2.cell? ⟨w.heap.size,2,none⟩=some (.slice ia n ic):=(hb2.cell (p:=⟨w.heap.size,2,none⟩) (by simp)).trans (by rw [World.cell?_alloc_new];rfl);have e3:w2.cell? ⟨w.heap.size,3,none⟩=some (.int .i64 tries):=(hb2.cell (p:=⟨w.heap.size,3,none⟩) (by simp)).trans (by rw [World.cell?_alloc_new];rfl);have e4:w2.cell? ⟨w.heap.size,4,none⟩=some (.int .i64 due):=(hb2.cell (p:=⟨w.heap.size,4,none⟩) (by simp)).trans (by rw [World.cell?_alloc_new];rfl);clear hb2 HC HB0;go_wp2_with fail;go_ret;exact ⟨rfl,HB2.out⟩
 rw [decide_eq_true h4,Bool.true_and]
 by_cases h5:tries<=4
 case neg=>
  have h5':¬ (tries < 5):=by omega
  rw [decide_eq_false h5];clear h5;go_enter Tryz.func184,Tryz.ntmps184;go_wp2_with fail;refine (HC.out _ HB0.out).mono ?_;rintro e w2 ⟨rfl,hb2⟩;have HB2:=Zh (Qk hb2 HB0.out);have e2:w2.cell? ⟨w.heap.size,2,none⟩=some (.slice ia n ic):=(hb2.cell (p:=⟨w.heap.size,2,none⟩) (by simp)).trans (by rw [World.cell?_alloc_new];rfl);have e3:w2.cell? ⟨w.heap.size,3,none⟩=some (.int .i64 tries):=(hb2.cell (p:=⟨w.heap.size,3,none⟩) (by simp)).trans (by rw [World.cell?_alloc_new];rfl);have e4:w2.cell? ⟨w.heap.size,4,none⟩=some (.int .i64 due):=(hb2.cell (p:=⟨w.heap.size,4,none⟩) (by simp)).trans (by rw [World.cell?_alloc_new];rfl);clear hb2 HC HB0;go_wp2_with fail;go_ret;exact ⟨rfl,HB2.out⟩
 have h5':tries < 5:=by omega
 rw [decide_eq_true h5,Bool.true_and];clear h5;have CA:=Zh (fun W=>at_c due W);generalize (decide (0<=due)&&decide (due<=1099511627775))=b at CA ⊢;go_enter Tryz.func184,Tryz.ntmps184;go_wp2_with fail;refine (HC.out _ HB0.out).mono ?_;rintro e w2 ⟨rfl,hb2⟩;have HB2:=Zh (Qk hb2 HB0.out);have e2:w2.cell? ⟨w.heap.size,2,none⟩=some (.slice ia n ic):=(hb2.cell (p:=⟨w.heap.size,2,none⟩) (by simp)).trans (by rw [World.cell?_alloc_new];rfl);have e3:w2.cell? ⟨w.heap.size,3,none⟩=some (.int .i64 tries):=(hb2.cell (p:=⟨w.heap.size,3,none⟩) (by simp)).trans (by rw [World.cell?_alloc_new];rfl);have e4:w2.cell? ⟨w.heap.size,4,none⟩=some (.int .i64 due):=(hb2.cell (p:=⟨w.heap.size,4,none⟩) (by simp)).trans (by rw [World.cell?_alloc_new];rfl);clear hb2 HC HB0;go_wp2_with fail;refine (CA.out _).mono ?_;rintro e w3 ⟨rfl,rfl⟩;clear CA;go_wp2_with fail;go_ret;exact ⟨rfl,HB2.out⟩
theorem vYd (x:UB) (hs:x.sub.size<=1500000) (w:World) :
  Calls Tryz.prog 87 #[x.val] w fun e w'=>e=.returned (.bool (ownU x))/\Below w.heap.size w w':=by
 have HB0:=Zh (Qj (.cells #[.int .u64 x.id,.string x.sub,.slice x.ia x.ids.length x.ic,.int .i64 x.tries,.int .i64 x.due] 90) (.refl w.heap.size w));have HC:=Zh (fun W=>J1 x.sub hs W);obtain ⟨id,sub,ia,ic,ids,tries,due⟩:=x;unfold UB.val ownU;simp only at HB0 HC ⊢;generalize ids.length=n at HB0 ⊢;clear hs;generalize Q5 sub.data.toList=fb at HC ⊢
 by_cases h1:1<=id
 case neg=>
  have h1':¬ ((0:Int) < id):=by omega
  have h1'':¬ (0 < id):=by omega
  rw [decide_eq_false h1];clear HC h1;go_enter Tryz.func87,Tryz.ntmps87;go_wp2_with fail;go_ret;exact ⟨rfl,HB0.out⟩
 have h1':(0:Int) < id:=by omega
 have h1'':0 < id:=by omega
 rw [decide_eq_true h1,Bool.true_and];clear h1;cases fb
 case false=>
  go_enter Tryz.func87,Tryz.ntmps87;go_wp2_with fail;refine (HC.out _).mono ?_;rintro e w2 ⟨rfl,hb2⟩;have HB2:=Zh (Qk hb2 HB0.out);have e2:w2.cell? ⟨w.heap.size,2,none⟩=some (.slice ia n ic):=(hb2.cell (p:=⟨w.heap.size,2,none⟩) (by simp)).trans (by rw [World.cell?_alloc_new];rfl);have e3:w2.cell? ⟨w.heap.size,3,none⟩=some (.int .i64 tries):=(hb2.cell (p:=⟨w.heap.size,3,none⟩) (by simp)).trans (by rw [World.cell?_alloc_new];rfl);have e4:w2.cell? ⟨w.heap.size,4,none⟩=some (.int .i64 due):=(hb2.cell (p:=⟨w.heap.size,4,none⟩) (by simp)).trans (by rw [World.cell?_alloc_new];rfl);clear hb2 HC HB0;go_wp2_with fail;go_ret;exact ⟨rfl,HB2.out⟩
 rw [Bool.true_and]
 by_cases h2:1<=n
 case neg=>
  have h2':¬ ((1:Int)<=n):=by omega
  rw [decide_eq_false h2];clear h2;go_enter Tryz.func87,Tryz.ntmps87;go_wp2_with fail;refine (HC.out _).mono ?_;rintro e w2 ⟨rfl,hb2⟩;have HB2:=Zh (Qk hb2 HB0.out);have e2:w2.cell? ⟨w.heap.size,2,none⟩=some (.slice ia n ic):=(hb2.cell (p:=⟨w.heap.size,2,none⟩) (by simp)).trans (by rw [World.cell?_alloc_new];rfl);have e3:w2.cell? ⟨w.heap.size,3,none⟩=some (.int .i64 tries):=(hb2.cell (p:=⟨w.heap.size,3,none⟩) (by simp)).trans (by rw [World.cell?_alloc_new];rfl);have e4:w2.cell? ⟨w.heap.size,4,none⟩=some (.int .i64 due):=(hb2.cell (p:=⟨w.heap.size,4,none⟩) (by simp)).trans (by rw [World.cell?_alloc_new];rfl);clear hb2 HC HB0;go_wp2_with fail;go_ret;exact ⟨rfl,HB2.out⟩
 have h2':(1:Int)<=n:=by omega
 rw [decide_eq_true h2,Bool.true_and];clear h2
 by_cases h3:n<=30
 case neg=>
  have h3':¬ ((n:Int)<=30):=by omega
  rw [decide_eq_false h3];clear h3;go_enter Tryz.func87,Tryz.ntmps87;go_wp2_with fail;refine (HC.out _).mono ?_;rintro e w2 ⟨rfl,hb2⟩;have HB2:=Zh (Qk hb2 HB0.out);have e2:w2.cell? ⟨w.heap.size,2,none⟩=some (.slice ia n ic):=(hb2.cell (p:=⟨w.heap.size,2,none⟩) (by simp)).trans (by rw [World.cell?_alloc_new];rfl);have e3:w2.cell? ⟨w.heap.size,3,none⟩=some (.int .i64 tries):=(hb2.cell (p:=⟨w.heap.size,3,none⟩) (by simp)).trans (by rw [World.cell?_alloc_new];rfl);have e4:w2.cell? ⟨w.heap.size,4,none⟩=some (.int .i64 due):=(hb2.cell (p:=⟨w.heap.size,4,none⟩) (by simp)).trans (by rw [World.cell?_alloc_new];rfl);clear hb2 HC HB0;go_wp2_with fail;go_ret;exact ⟨rfl,HB2.out⟩
 have h3':(n:Int)<=30:=by omega
 rw [decide_eq_true h3,Bool.true_and];clear h3
 by_cases h4:0<=tries
 case neg=>
  rw [decide_eq_false h4];go_enter Tryz.func87,Tryz.ntmps87;go_wp2_with fail;refine (HC.out _).mono ?_;rintro e w2 ⟨rfl,hb2⟩;have HB2:=Zh (Qk hb2 HB0.out);have e2:w2.cell? ⟨w.heap.size,2,none⟩=some (.slice ia n ic):=(hb2.cell (p:=⟨w.heap.size,2,none⟩) (by simp)).trans (by rw [World.cell?_alloc_new];rfl);have e3:w2.cell? ⟨w.heap.size,3,none⟩=some (.int .i64 tries):=(hb2.cell (p:=⟨w.heap.size,3,none⟩) (by simp)).trans (by rw [World.cell?_alloc_new];rfl);have e4:w2.cell? ⟨w.heap.size,4,none⟩=some (.int .i64 due):=(hb2.cell (p:=⟨w.heap.size,4,none⟩) (by simp)).trans (by rw [World.cell?_alloc_new];rfl);clear hb2 HC HB0;go_wp2_with fail;go_ret;exact ⟨rfl,HB2.out⟩
 rw [decide_eq_true h4,Bool.true_and]
 by_cases h5:tries<=4
 case neg=>
  have h5':¬ (tries<=4):=by omega
  rw [decide_eq_false h5];clear h5;go_enter Tryz.func87,Tryz.ntmps87;go_wp2_with fail;refine (HC.out _).mono ?_;rintro e w2 ⟨rfl,hb2⟩;have HB2:=Zh (Qk hb2 HB0.out);have e2:w2.cell? ⟨w.heap.size,2,none⟩=some (.slice ia n ic):=(hb2.cell (p:=⟨w.heap.size,2,none⟩) (by simp)).trans (by rw [World.cell?_alloc_new];rfl);have e3:w2.cell? ⟨w.heap.size,3,none⟩=some (.int .i64 tries):=(hb2.cell (p:=⟨w.heap.size,3,none⟩) (by simp)).trans (by rw [World.cell?_alloc_new];rfl);have e4:w2.cell? ⟨w.heap.size,4,none⟩=some (.int .i64 due):=(hb2.cell (p:=⟨w.heap.size,4,none⟩) (by simp)).trans (by rw [World.cell?_alloc_new];rfl);clear hb2 HC HB0;go_wp2_with fail;go_ret;exact ⟨rfl,HB2.out⟩
 have h5':tries<=4:=by omega
 rw [decide_eq_true h5,Bool.true_and];clear h5
 by_cases h6:0<=due
 case neg=>
  rw [decide_eq_false h6];go_enter Tryz.func87,Tryz.ntmps87;go_wp2_with fail;refine (HC.out _).mono ?_;rintro e w2 ⟨rfl,hb2⟩;have HB2:=Zh (Qk hb2 HB0.out);have e2:w2.cell? ⟨w.heap.size,2,none⟩=some (.slice ia n ic):=(hb2.cell (p:=⟨w.heap.size,2,none⟩) (by simp)).trans (by rw [World.cell?_alloc_new];rfl);have e3:w2.cell? ⟨w.heap.size,3,none⟩=some (.int .i64 tries):=(hb2.cell (p:=⟨w.heap.size,3,none⟩) (by simp)).trans (by rw [World.cell?_alloc_new];rfl);have e4:w2.cell? ⟨w.heap.size,4,none⟩=some (.int .i64 due):=(hb2.cell (p:=⟨w.heap.size,4,none⟩) (by simp)).trans (by rw [World.cell?_alloc_new];rfl);clear hb2 HC HB0;go_wp2_with fail;go_ret;exact ⟨rfl,HB2.out⟩
 rw [decide_eq_true h6,Bool.true_and];go_enter Tryz.func87,Tryz.ntmps87;go_wp2_with fail;refine (HC.out _).mono ?_;rintro e w2 ⟨rfl,hb2⟩;have HB2:=Zh (Qk hb2 HB0.out);have e2:w2.cell? ⟨w.heap.size,2,none⟩=some (.slice ia n ic):=(hb2.cell (p:=⟨w.heap.size,2,none⟩) (by simp)).trans (by rw [World.cell?_alloc_new];rfl);have e3:w2.cell? ⟨w.heap.size,3,none⟩=some (.int .i64 tries):=(hb2.cell (p:=⟨w.heap.size,3,none⟩) (by simp)).trans (by rw [World.cell?_alloc_new];rfl);have e4:w2.cell? ⟨w.heap.size,4,none⟩=some (.int .i64 due):=(hb2.cell (p:=⟨w.heap.size,4,none⟩) (by simp)).trans (by rw [World.cell?_alloc_new];rfl);clear hb2 HC HB0;go_wp2_with fail;go_ret;exact ⟨rfl,HB2.out⟩
end Go.Proofs.YtcbicdencgjfiaaGreatDoor
namespace Tryst
open Go Go.RowKit
def mayU (q:Option UB) (x:UB):Bool:=ownU x&&(match q with | none=>true | some p=>decide (p.id < x.id))
def xQ8 (l:List UB):Bool:=okK mayU none l&&decide (l.length<=100)
structure UAt (w:World) (b o:Nat) (t:UB):Prop where
 c0:w.cell? ⟨b,o,none⟩=some (.int .u64 t.id)
 c1:w.cell? ⟨b,o+1,none⟩=some (.string t.sub)
 c2:w.cell? ⟨b,o+2,none⟩=some (.slice t.ia t.ids.length t.ic)
 c3:w.cell? ⟨b,o+3,none⟩=some (.int .i64 t.tries)
 c4:w.cell? ⟨b,o+4,none⟩=some (.int .i64 t.due)
abbrev Zj (w:World) (a:Option Addr) (l:List UB):Prop:=Row w a 5 (l.map UB.cells)
theorem Zj.at {w:World} {b o:Nat} {l:List UB} (h:Zj w (some ⟨b,o,none⟩) l) {i:Nat} (hi:i < l.length):b < w.heap.size/\UAt w b (o+i*5) l[i]:=by
 obtain ⟨h1,h2⟩:=Row.at h (i:=i) (by simpa using hi);simp only [List.getElem_map] at h2;exact ⟨h1,h2 0 (by omega),h2 1 (by omega),h2 2 (by omega),h2 3 (by omega),h2 4 (by omega)⟩
theorem Zj.hd {w:World} {a:Option Addr} {l:List UB} (h:Zj w a l) {i:Nat} (hi:i < l.length):∃ b o,a=some ⟨b,o,none⟩/\b < w.heap.size:=Row.head h (by simpa using hi)
end Tryst
namespace Go.Proofs.YtcbicdencgjfiaaGreatDoor
open Go.RowKit Tryst
theorem zYP (a:Option Addr) (c:Nat) (l:List UB) (hl:l.length<=1500000) (hs:∀ x∈l,x.sub.size<=1500000) (w:World) (hR:Zj w a l) :
  Calls Tryz.prog 36 #[.slice a l.length c] w fun e w'=>e=.returned (.bool (xQ8 l))/\Below w.heap.size w w':=by
 have HF:=Zh (fun W (hb:Below w.heap.size w W)=>hR.grow hb);have HC:=Zh (fun (k:Nat) (hk:k < l.length) W=>vYd l[k] (hs _ (List.getElem_mem hk)) W);obtain ⟨R,hRR⟩:∃ R,okK mayU none l=R:=⟨_,rfl⟩;unfold xQ8;rw [hRR];have HR:Hid (R=okK mayU (Xq l 0) (l.drop 0)):=Zh (by rw [<- hRR];rfl);clear hR hRR hs;go_enter Tryz.func36,Tryz.ntmps36;go_wp2_with fail;go_loopw [3] (fun i wr=>OkR mayU w l R i wr) (fun i _=>l.length - (intOf i).toNat)
 case atStart=>exact ⟨0,by omega,rfl,HR,Zh (.refl _ _)⟩
 case round=>
  clear HR;obtain ⟨k,hk,rfl,HP,HW⟩:=hrel;obtain ⟨wo,rfl⟩:∃ wo,wo=wr:=⟨_,rfl⟩
  by_cases hlt:k < l.length
  ·
   have hrow:=HF.out wo HW.out;obtain ⟨b,o,ha,hb⟩:=Zj.hd hrow hlt;subst ha;obtain ⟨_,f0,f1,f2,f3,f4⟩:=Zj.at hrow hlt;have HST:Hid (R=(ownU l[k]&&(match Xq l k with | none=>true | some p=>decide (p.id < l[k].id))&&okK mayU (Xq l (k+1)) (l.drop (k+1)))):=Zh (HP.out.trans (vQU hlt));have HCC:=Zh (HC.out k hlt);have x1:(k:Int) < l.length:=by omega
   have x2:(0:Int)<=k:=by omega
   generalize ownU l[k]=my at HST HCC;unfold UB.val at HCC;clear HP;go_upto_region 4 with fail
   cases my with
   | false=>
    have HN:Hid (R=false):=Zh (by rw [HST.out];rfl);clear HST;refine Tryst2.wp_region_text 24 (by kernel_rfl) (by kernel_rfl) ?_
    iterate 24 ((first | refine Tryst2.TW.skip (by rfl) ?_ | (refine' Tryst2.TW.op _ ?_ (by rfl) ?_;rotate_left;focus (intro w' hg;obtain ⟨hcg,hfg,hsg⟩:=YG hg;first | (go_simp;done) | (go_simp;with_reducible rfl) | (go_simp;go_at_call 87;refine (HCC.out _).mono ?_;rintro e w5 ⟨rfl,hb5⟩;refine ⟨hb5,?_⟩;with_reducible rfl))));simp only [Act.put,List.setIfInBounds_toArray,List.set_cons_zero,List.set_cons_succ])
    intro w' hg;obtain ⟨hcg,hfg,hsg⟩:=YG hg
    try change wpList _ _ _ [] _ _
    have HB9:=Zh (Qk (Tryst2.Grow.below hg (.refl _ _)) HW.out);clear hg hcg hfg hsg;go_wp2_with fail;go_ret;exact ⟨Qq (by rw [HN.out];rfl),HB9.out⟩
   | true=>
    by_cases hk0:k=0
    ·
     subst hk0;have HN:Hid (R=okK mayU (Xq l (0+1)) (l.drop (0+1))):=Zh (HST.out.trans (by simp [Xq]));simp only [Nat.zero_mul,Nat.add_zero] at f0 f1 f2 f3 f4;clear HST;refine Tryst2.wp_region_text 24 (by kernel_rfl) (by kernel_rfl) ?_
     iterate 24 ((first | refine Tryst2.TW.skip (by rfl) ?_ | (refine' Tryst2.TW.op _ ?_ (by rfl) ?_;rotate_left;focus (intro w' hg;obtain ⟨hcg,hfg,hsg⟩:=YG hg;first | (go_simp;done) | (go_simp;with_reducible rfl) | (go_simp;go_at_call 87;refine (HCC.out _).mono ?_;rintro e w5 ⟨rfl,hb5⟩;refine ⟨hb5,?_⟩;with_reducible rfl))));simp only [Act.put,List.setIfInBounds_toArray,List.set_cons_zero,List.set_cons_succ])
     intro w' hg;obtain ⟨hcg,hfg,hsg⟩:=YG hg
     try change wpList _ _ _ [] _ _
     have HB9:=Zh (Qk (Tryst2.Grow.below hg (.refl _ _)) HW.out);clear hg hcg hfg hsg;go_wp2_with fail;go_roundw
     case rel=>exact ⟨0+1,by omega,by go_num,HN,HB9⟩
     case measure=>simp [intOf]<;>omega
    ·
     obtain ⟨m,hm⟩:∃ m,k=m+1:=⟨k - 1,by omega⟩;have hlm:m < l.length:=by omega
     obtain ⟨_,g0,_,_,_,_⟩:=Zj.at hrow hlm;have y1:(0:Int) < (k:Int):=by omega
     have y6:0 < k:=by omega
     have y2:IntKind.i64.wrap ((k:Int) - 1)=(m:Int):=by rw [IntWalk.i64_in _ (by omega)];omega
     have y4:(m:Int) < (l.length:Int):=by omega
     have y5:(0:Int)<=(m:Int):=by omega
     have HS3:Hid (R=(decide (l[m].id < l[k].id)&&okK mayU (Xq l (k+1)) (l.drop (k+1)))):=Zh (by
      have:=HST.out;rw [show Xq l k=some l[m] by rw [hm];exact List.getElem?_eq_getElem hlm] at this
      simpa using this)
     clear hm hk0;clear HST
     by_cases hid:l[m].id < l[k].id
     ·
      have HN:Hid (R=okK mayU (Xq l (k+1)) (l.drop (k+1))):=Zh (by rw [HS3.out,decide_eq_true hid];rfl);have z1:¬ ((l[k].id:Int)<=(l[m].id:Int)):=by omega
      clear HS3;refine Tryst2.wp_region_text 24 (by kernel_rfl) (by kernel_rfl) ?_
      iterate 24 ((first | refine Tryst2.TW.skip (by rfl) ?_ | (refine' Tryst2.TW.op _ ?_ (by rfl) ?_;rotate_left;focus (intro w' hg;obtain ⟨hcg,hfg,hsg⟩:=YG hg;first | (go_simp;done) | (go_simp;with_reducible rfl) | (go_simp;go_at_call 87;refine (HCC.out _).mono ?_;rintro e w5 ⟨rfl,hb5⟩;refine ⟨hb5,?_⟩;with_reducible rfl))));simp only [Act.put,List.setIfInBounds_toArray,List.set_cons_zero,List.set_cons_succ])
      intro w' hg;obtain ⟨hcg,hfg,hsg⟩:=YG hg
      try change wpList _ _ _ [] _ _
      have HB9:=Zh (Qk (Tryst2.Grow.below hg (.refl _ _)) HW.out);clear hg hcg hfg hsg;go_wp2_with fail;go_roundw
      case rel=>exact ⟨k+1,by omega,by go_num,HN,HB9⟩
      case measure=>simp [intOf]<;>omega
     ·
      have HN:Hid (R=false):=Zh (by rw [HS3.out,decide_eq_false hid];rfl);have z1:(l[k].id:Int)<=(l[m].id:Int):=by omega
      clear HS3;refine Tryst2.wp_region_text 24 (by kernel_rfl) (by kernel_rfl) ?_
      iterate 24 ((first | refine Tryst2.TW.skip (by rfl) ?_ | (refine' Tryst2.TW.op _ ?_ (by rfl) ?_;rotate_left;focus (intro w' hg;obtain ⟨hcg,hfg,hsg⟩:=YG hg;first | (go_simp;done) | (go_simp;with_reducible rfl) | (go_simp;go_at_call 87;refine (HCC.out _).mono ?_;rintro e w5 ⟨rfl,hb5⟩;refine ⟨hb5,?_⟩;with_reducible rfl))));simp only [Act.put,List.setIfInBounds_toArray,List.set_cons_zero,List.set_cons_succ])
      intro w' hg;obtain ⟨hcg,hfg,hsg⟩:=YG hg
      try change wpList _ _ _ [] _ _
      have HB9:=Zh (Qk (Tryst2.Grow.below hg (.refl _ _)) HW.out);clear hg hcg hfg hsg;go_wp2_with fail;go_ret;exact ⟨Qq (by rw [HN.out];rfl),HB9.out⟩
  ·
   have HN:=Zh (HP.out.trans (xQJ (by omega:l.length<=k)))
   have HLE:Hid (decide (l.length<=100)=decide ((l.length:Int)<=100)):=Zh (by
    by_cases h:l.length<=100
    · rw [decide_eq_true h,decide_eq_true (by omega)]
    · rw [decide_eq_false h,decide_eq_false (by omega)])
   go_wp2_with fail;go_ret;exact ⟨Qq (by rw [HN.out,Bool.true_and,HLE.out]),HW.out⟩
theorem jJZ (a:Option Addr) (c:Nat) (l:List UB) (hl:l.length<=1500000) (hs:∀ x∈l,x.sub.size<=1500000) (w:World) (hM:MaxW w) (hR:Zj w a l) :
  Calls Tryz.prog 135 #[.slice a l.length c] w fun e w'=>e=.returned (.int .i64 (errO (xQ8 l)))/\Below w.heap.size w w':=by
 have HF:=Zh (fun W (hb:Below w.heap.size w W)=>hR.grow hb);have HC:=Zh (fun (k:Nat) (hk:k < l.length) W (hb:Below w.heap.size w W)=>jYQ l[k] (hs _ (List.getElem_mem hk)) W (hM.grow hb));obtain ⟨R,hRR⟩:∃ R,okK mayU none l=R:=⟨_,rfl⟩;unfold xQ8;rw [hRR];have HR:Hid (R=okK mayU (Xq l 0) (l.drop 0)):=Zh (by rw [<- hRR];rfl);clear hR hRR hs hM
 by_cases h50:l.length<=100
 ·
  have y0:¬ (100:Int) < l.length:=by omega
  rw [decide_eq_true h50,Bool.and_true];go_enter Tryz.func135,Tryz.ntmps135;go_wp2_with fail;go_loopw [10] (fun i wr=>OkR mayU w l R i wr) (fun i _=>l.length - (intOf i).toNat)
  case atStart=>exact ⟨0,by omega,rfl,HR,Zh (.refl _ _)⟩
  case round=>
   clear HR;obtain ⟨k,hk,rfl,HP,HW⟩:=hrel;obtain ⟨wo,rfl⟩:∃ wo,wo=wr:=⟨_,rfl⟩
   by_cases hlt:k < l.length
   ·
    have hrow:=HF.out wo HW.out;obtain ⟨b,o,ha,hb⟩:=Zj.hd hrow hlt;subst ha;obtain ⟨_,f0,f1,f2,f3,f4⟩:=Zj.at hrow hlt;have HST:Hid (R=(ownU l[k]&&(match Xq l k with | none=>true | some p=>decide (p.id < l[k].id))&&okK mayU (Xq l (k+1)) (l.drop (k+1)))):=Zh (HP.out.trans (vQU hlt));have HCC:=Zh (HC.out k hlt);have x1:(k:Int) < l.length:=by omega
    have x2:(0:Int)<=k:=by omega
    have HBX:=Zh (Qj (.cells #[.int .u64 l[k].id,.string l[k].sub,.slice l[k].ia l[k].ids.length l[k].ic,.int .i64 l[k].tries,.int .i64 l[k].due] 90) (.refl wo.heap.size wo));have HK:=Zh (Qk HBX.out HW.out);generalize ownU l[k]=my at HST HCC;unfold UB.val at HCC;clear HP HBX;go_upto_region 6 with fail
    cases my with
    | false=>
     have HN:Hid (R=false):=Zh (by rw [HST.out];rfl);clear HST;refine Tryst2.wp_region_text 18 (by kernel_rfl) (by kernel_rfl) ?_
     iterate 18 ((first | refine Tryst2.TW.skip (by rfl) ?_ | (refine' Tryst2.TW.op _ ?_ (by rfl) ?_;rotate_left;focus (intro w' hg;obtain ⟨hcg,hfg,hsg⟩:=YG hg;first | (go_simp;done) | (go_simp;with_reducible rfl) | (go_simp;go_at_call 184;refine (HCC.out _ (Tryst2.Grow.below hg HK.out)).mono ?_;rintro e w5 ⟨rfl,hb5⟩;refine ⟨hb5,?_⟩;with_reducible rfl))));simp only [Act.put,List.setIfInBounds_toArray,List.set_cons_zero,List.set_cons_succ])
     intro w' hg;obtain ⟨hcg,hfg,hsg⟩:=YG hg
     try change wpList _ _ _ [] _ _
     have HB9:=Zh (Tryst2.Grow.below hg HK.out);clear hg hcg hfg hsg;go_wp2_with fail;go_ret;exact ⟨Qy (by rw [HN.out];rfl),HB9.out⟩
    | true=>
     by_cases hk0:k=0
     ·
      subst hk0;have HN:Hid (R=okK mayU (Xq l (0+1)) (l.drop (0+1))):=Zh (HST.out.trans (by simp [Xq]));clear HST;refine Tryst2.wp_region_text 18 (by kernel_rfl) (by kernel_rfl) ?_
      iterate 18 ((first | refine Tryst2.TW.skip (by rfl) ?_ | (refine' Tryst2.TW.op _ ?_ (by rfl) ?_;rotate_left;focus (intro w' hg;obtain ⟨hcg,hfg,hsg⟩:=YG hg;first | (go_simp;done) | (go_simp;with_reducible rfl) | (go_simp;go_at_call 184;refine (HCC.out _ (Tryst2.Grow.below hg HK.out)).mono ?_;rintro e w5 ⟨rfl,hb5⟩;refine ⟨hb5,?_⟩;with_reducible rfl))));simp only [Act.put,List.setIfInBounds_toArray,List.set_cons_zero,List.set_cons_succ])
      intro w' hg;obtain ⟨hcg,hfg,hsg⟩:=YG hg
      try change wpList _ _ _ [] _ _
      have HB9:=Zh (Tryst2.Grow.below hg HK.out);clear hg hcg hfg hsg;go_wp2_with fail;go_roundw
      case rel=>exact ⟨0+1,by omega,by go_num,HN,HB9⟩
      case measure=>simp [intOf]<;>omega
     ·
      obtain ⟨m,hm⟩:∃ m,k=m+1:=⟨k - 1,by omega⟩;have hlm:m < l.length:=by omega
      obtain ⟨_,g0,_,_,_,_⟩:=Zj.at hrow hlm;have y1:(0:Int) < (k:Int):=by omega
      have y6:0 < k:=by omega
      have y2:IntKind.i64.wrap ((k:Int) - 1)=(m:Int):=by rw [IntWalk.i64_in _ (by omega)];omega
      have y4:(m:Int) < (l.length:Int):=by omega
      have y5:(0:Int)<=(m:Int):=by omega
      have HS3:Hid (R=(decide (l[m].id < l[k].id)&&okK mayU (Xq l (k+1)) (l.drop (k+1)))):=Zh (by
       have:=HST.out;rw [show Xq l k=some l[m] by rw [hm];exact List.getElem?_eq_getElem hlm] at this
       simpa using this)
      clear hm hk0;clear HST
      by_cases hid:l[m].id < l[k].id
      ·
       have HN:Hid (R=okK mayU (Xq l (k+1)) (l.drop (k+1))):=Zh (by rw [HS3.out,decide_eq_true hid];rfl);have z1:¬ ((l[k].id:Int)<=(l[m].id:Int)):=by omega
       clear HS3;refine Tryst2.wp_region_text 18 (by kernel_rfl) (by kernel_rfl) ?_
       iterate 18 ((first | refine Tryst2.TW.skip (by rfl) ?_ | (refine' Tryst2.TW.op _ ?_ (by rfl) ?_;rotate_left;focus (intro w' hg;obtain ⟨hcg,hfg,hsg⟩:=YG hg;first | (go_simp;done) | (go_simp;with_reducible rfl) | (go_simp;go_at_call 184;refine (HCC.out _ (Tryst2.Grow.below hg HK.out)).mono ?_;rintro e w5 ⟨rfl,hb5⟩;refine ⟨hb5,?_⟩;with_reducible rfl))));simp only [Act.put,List.setIfInBounds_toArray,List.set_cons_zero,List.set_cons_succ])
       intro w' hg;obtain ⟨hcg,hfg,hsg⟩:=YG hg
       try change wpList _ _ _ [] _ _
       have HB9:=Zh (Tryst2.Grow.below hg HK.out);clear hg hcg hfg hsg;go_wp2_with fail;go_roundw
       case rel=>exact ⟨k+1,by omega,by go_num,HN,HB9⟩
       case measure=>simp [intOf]<;>omega
      ·
       have HN:Hid (R=false):=Zh (by rw [HS3.out,decide_eq_false hid];rfl);have z1:(l[k].id:Int)<=(l[m].id:Int):=by omega
       clear HS3;refine Tryst2.wp_region_text 18 (by kernel_rfl) (by kernel_rfl) ?_
       iterate 18 ((first | refine Tryst2.TW.skip (by rfl) ?_ | (refine' Tryst2.TW.op _ ?_ (by rfl) ?_;rotate_left;focus (intro w' hg;obtain ⟨hcg,hfg,hsg⟩:=YG hg;first | (go_simp;done) | (go_simp;with_reducible rfl) | (go_simp;go_at_call 184;refine (HCC.out _ (Tryst2.Grow.below hg HK.out)).mono ?_;rintro e w5 ⟨rfl,hb5⟩;refine ⟨hb5,?_⟩;with_reducible rfl))));simp only [Act.put,List.setIfInBounds_toArray,List.set_cons_zero,List.set_cons_succ])
       intro w' hg;obtain ⟨hcg,hfg,hsg⟩:=YG hg
       try change wpList _ _ _ [] _ _
       have HB9:=Zh (Tryst2.Grow.below hg HK.out);clear hg hcg hfg hsg;go_wp2_with fail;go_ret;exact ⟨Qy (by rw [HN.out];rfl),HB9.out⟩
   · have HN:=Zh (HP.out.trans (xQJ (by omega:l.length<=k)));go_wp2_with fail;go_ret;exact ⟨Qy (by rw [HN.out];rfl),HW.out⟩
 ·
  have y0:(100:Int) < l.length:=by omega
  rw [decide_eq_false h50,Bool.and_false];go_enter Tryz.func135,Tryz.ntmps135;go_wp2_with fail;go_ret;exact ⟨Qy rfl,.refl _ _⟩
