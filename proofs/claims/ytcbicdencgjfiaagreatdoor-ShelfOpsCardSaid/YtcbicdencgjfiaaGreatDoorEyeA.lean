/- shelf.eye: past, id, number, text, truth -/
import Derived.Test.YtcbicdencgjfiaaGreatDoorRShD
import Derived.Test.YtcbicdencgjfiaaGreatDoorShO
set_option linter.unusedVariables false
set_option linter.unusedSimpArgs false
namespace Go.Proofs.YtcbicdencgjfiaaGreatDoor
open Go.RowKit Tryst
set_option maxHeartbeats 2000000
set_option maxRecDepth 20000
structure EyeS (W0:World) (b:Nat) (s:List UInt8 × Bool) (w:World):Prop where
 v:Var w b 99 [.string ⟨s.1.toArray⟩,.bool s.2]
 low:Below W0.heap.size W0 w
 ge:W0.heap.size≤b
 n:s.1.length≤1000000
structure _root_.Tryst.Oth (b:Nat) (w w':World):Prop where
 size:w.heap.size≤w'.heap.size
 same:∀ k,k < w.heap.size→k≠b→w'.heap[k]?=w.heap[k]?
theorem _root_.Tryst.Oth.refl (b:Nat) (w:World):Oth b w w:=⟨Nat.le_refl _,fun _ _ _=>rfl⟩
theorem _root_.Tryst.Oth.trans {b:Nat} {u v w:World} (h:Oth b u v) (k:Oth b v w):Oth b u w:=⟨Nat.le_trans h.size k.size,fun i hi hb=>(k.same i (Nat.lt_of_lt_of_le hi h.size) hb).trans (h.same i hi hb)⟩
theorem _root_.Tryst.Oth.below {b:Nat} {v w:World} (h:Below v.heap.size v w):Oth b v w:=⟨h.size,fun k hk _=>h.block k hk⟩
theorem _root_.Tryst.Oth.set {b o:Nat} {v w:World} (h:Oth b v w) (u:Value):Oth b v (w.setCell ⟨b,o,none⟩ u):=⟨by simpa using h.size,fun k hk hb=>(Below.heap_setCell _ _ _ _ hb).trans (h.same k hk hb)⟩
theorem EyeS.quiet {W0 w w':World} {b:Nat} {s:List UInt8 × Bool} (h:EyeS W0 b s w) (hb:Below w.heap.size w w'):EyeS W0 b s w':=⟨h.v.grow hb,h.low.trans (hb.mono h.low.size),h.ge,h.n⟩
def pastR (n:Int) (ok:Bool) (s:List UInt8 × Bool):List UInt8 × Bool:=if s.2=true∨ok=false then (s.1,true) else (s.1.drop n.toNat,false)
def EyeR (W0:World) (b:Nat) (s:List UInt8 × Bool) (v:Value) (w:World) (e:Ending) (w':World):Prop:=e=.returned v∧EyeS W0 b s w'∧Oth b w w'
theorem epast_c (n:Int) (ok:Bool) {W0 w:World} {b:Nat} {s:List UInt8 × Bool} (h:EyeS W0 b s w) (hn:s.2=false→ok=true→0≤n∧n≤s.1.length) :
  Calls Tryz.prog 167 #[.pointer (some ⟨b,0,none⟩),.int .i64 n,.bool ok] w (EyeR W0 b (pastR n ok s) (.bool (!(pastR n ok s).2)) w):=by
 obtain ⟨l,d⟩:=s
 have H0:=Lib.hid h
 have z0:=h.v.fz 0
 have z1:=h.v.fz 1
 have hlen:=h.n
 simp only at hlen hn
 clear h
 have XX:=H0.out.v.cells
 simp only [VarC,Nat.reduceAdd,Nat.zero_add,and_true] at XX
 obtain ⟨x0,x1⟩:=XX
 cases d with
 | true=>
  have e:pastR n ok (l,true)=(l,true):=by unfold pastR;rw [if_pos (.inl rfl)]
  rw [e]
  clear hn
  go_enter Tryz.func167,Tryz.ntmps167
  go_wp2_with fail
  go_ret
  exact ⟨rfl,⟨H0.out.v.set 1 (.bool true),H0.out.low.setCell (p:=⟨b,1,none⟩) H0.out.ge _,H0.out.ge,H0.out.n⟩,(Oth.refl b w).set _⟩
 | false=>
  cases ok with
  | false=>
   have e:pastR n false (l,false)=(l,true):=by unfold pastR;rw [if_pos (.inr rfl)]
   rw [e]
   clear hn
   go_enter Tryz.func167,Tryz.ntmps167
   go_wp2_with fail
   go_ret
   exact ⟨rfl,⟨H0.out.v.set 1 (.bool true),H0.out.low.setCell (p:=⟨b,1,none⟩) H0.out.ge _,H0.out.ge,H0.out.n⟩,(Oth.refl b w).set _⟩
  | true=>
   have e:pastR n true (l,false)=(l.drop n.toNat,false):=by unfold pastR;rw [if_neg (by simp)]
   rw [e]
   obtain ⟨n0,n1⟩:=hn rfl rfl
   obtain ⟨m,rfl⟩:=Int.eq_ofNat_of_zero_le n0
   have hm:m≤(⟨l.toArray⟩:ByteArray).size:=by rw [mk_size];omega
   clear hn
   go_enter Tryz.func167,Tryz.ntmps167
   go_wp2_with fail
   go_ret
   have ex:(⟨l.toArray⟩:ByteArray).extract m l.length=⟨(l.drop m).toArray⟩:=str_ext (by rw [Lib.extract_data,mk_str,mk_str,List.take_of_length_le (by simp)])
   refine ⟨rfl,⟨?_,(H0.out.low.setCell (p:=⟨b,1,none⟩) H0.out.ge _).setCell (p:=⟨b,0,none⟩) H0.out.ge _,H0.out.ge,by simp;omega⟩,((Oth.refl b w).set _).set _⟩
   have:=(H0.out.v.set 1 (.bool false)).set 0 (.string ((⟨l.toArray⟩:ByteArray).extract m l.length))
   rw [ex] at this ⊢
   exact this
theorem idR_lt (s:List UInt8 × Bool):(idR s).1 < 2 ^ 64:=by
 unfold idR
 split
 ·
  exact Nat.two_pow_pos 64
 ·
  split
  ·
   rename_i h
   exact (unp_ok (l:=s.1) (n:=(unp s.1).1) (k:=(unp s.1).2.1) (by rw [← h])).1
  ·
   exact Nat.two_pow_pos 64
theorem eid_c {W0 w:World} {b:Nat} {s:List UInt8 × Bool} (h:EyeS W0 b s w) :
  Calls Tryz.prog 115 #[.pointer (some ⟨b,0,none⟩)] w (EyeR W0 b (idR s).2 (.int .u64 ((idR s).1:Nat)) w):=by
 obtain ⟨l,d⟩:=s
 have H0:=Lib.hid h
 have hlen:=h.n
 simp only at hlen
 have hu:(unp l).2.2=0→(unp l).2.1≤l.length:=fun h=>by
  have:=unp_ok (l:=l) (n:=(unp l).1) (k:=(unp l).2.1) (by rw [← h])
  exact this.2.2.1
 have CU:=Lib.hid (fun W=>unpack_c ⟨l.toArray⟩ (by rw [mk_size];omega) W)
 simp only [mk_str] at CU
 clear h
 have XX:=H0.out.v.cells
 simp only [VarC,Nat.reduceAdd,Nat.zero_add,and_true] at XX
 obtain ⟨x0,x1⟩:=XX
 have HI:Hid (idR (l,d)=if d=true then (0,(l,d)) else if (unp l).2.2=0 then ((unp l).1,(l.drop (unp l).2.1,false)) else (0,(l,true))):=Lib.hid rfl
 generalize idR (l,d)=R at HI ⊢
 generalize hn:(unp l).1=n at CU HI
 generalize hk:(unp l).2.1=k at CU HI hu
 generalize he:(unp l).2.2=err at CU HI hu
 clear hn hk he
 have key:pastR (k:Int) (decide (err=0)) (l,d)=R.2∧R.1=(if R.2.2=true then 0 else n):=by
  rw [HI.out]
  unfold pastR
  cases d with
  | true=>simp
  | false=>
   by_cases h0:err=0
   ·
    simp [h0]
   ·
    simp [h0]
 obtain ⟨k1,k2⟩:=key
 have HK1:=Lib.hid k1
 have HK2:=Lib.hid k2
 have HU:Hid (d=false→decide (err=0)=true→(0:Int)≤k∧(k:Int)≤l.length):=Lib.hid (fun _ h=>⟨by omega,by have:=hu (by simpa using h);omega⟩)
 clear k1 k2 hu HI
 have b1:((err:Int)==0)=decide (err=0):=by
  rw [Bool.eq_iff_iff];simp
 go_enter Tryz.func115,Tryz.ntmps115
 go_wp2_with fail
 refine (CU.out _).mono ?_
 rintro e w1 ⟨rfl,rfl⟩
 go_wp2_with fail
 refine (epast_c (k:Int) (decide (err=0)) H0.out HU.out).mono ?_
 rintro e w2 ⟨rfl,h1,h2⟩
 rw [HK1.out] at h1 ⊢
 have H1:=Lib.hid h1
 have H2:=Lib.hid h2
 clear h1 h2
 obtain ⟨r1,r2,r3⟩:=R
 simp only at HK2 H1 ⊢
 cases r3 with
 | true=>
  go_wp2_with fail
  go_ret
  exact ⟨by rw [HK2.out];rfl,H1.out,H2.out⟩
 | false=>
  go_wp2_with fail
  go_ret
  exact ⟨by rw [HK2.out];rfl,H1.out,H2.out⟩
theorem enumber_c {W0 w:World} {b:Nat} {s:List UInt8 × Bool} (h:EyeS W0 b s w) :
  Calls Tryz.prog 92 #[.pointer (some ⟨b,0,none⟩)] w (EyeR W0 b (numR s).2 (.int .i64 (numR s).1) w):=by
 have H0:=Lib.hid h
 have hl:=idR_lt s
 unfold numR
 have CI:=Lib.hid (eid_c h)
 generalize (idR s).1=n at CI hl ⊢
 generalize (idR s).2=s1 at CI ⊢
 have CU:=Lib.hid (fun W=>unfold_c (n:Int) (by omega) (by omega) W)
 rw [Int.toNat_natCast] at CU
 clear h hl
 go_enter Tryz.func92,Tryz.ntmps92
 go_wp2_with fail
 refine CI.out.mono ?_
 rintro e w1 ⟨rfl,h1,h2⟩
 have H1:=Lib.hid h1
 have H2:=Lib.hid h2
 clear h1 h2
 go_wp2_with fail
 refine (CU.out _).mono ?_
 rintro e w2 ⟨rfl,rfl⟩
 go_wp2_with fail
 go_ret
 exact ⟨rfl,H1.out,H2.out⟩
theorem ebox {W0 w:World} {b:Nat} {s:List UInt8 × Bool} (h:EyeS W0 b s w):b < w.heap.size∧w.cell? ⟨b,0,none⟩=some (.string ⟨s.1.toArray⟩)∧w.cell? ⟨b,1,none⟩=some (.bool s.2)∧w.frozen? ⟨b,0,none⟩=false∧w.frozen? ⟨b,1,none⟩=false:=⟨h.v.lt,h.v.cell 0,h.v.cell 1,h.v.fz 0,h.v.fz 1⟩
theorem etext_c {W0 w:World} {b:Nat} {s:List UInt8 × Bool} (h:EyeS W0 b s w) :
  Calls Tryz.prog 113 #[.pointer (some ⟨b,0,none⟩)] w (EyeR W0 b (textR s).2 (.string ⟨(textR s).1.toArray⟩) w):=by
 have hl:=idR_lt s
 have CI:=Lib.hid (eid_c h)
 have HT:Hid (textR s=if (idR s).2.2=true then ([],(idR s).2) else if (idR s).1≤(idR s).2.1.length then ((idR s).2.1.take (idR s).1,((idR s).2.1.drop (idR s).1,false)) else ([],((idR s).2.1,true))):=Lib.hid rfl
 generalize textR s=R at HT ⊢
 generalize (idR s).1=n at CI HT hl
 generalize (idR s).2=s1 at CI HT
 clear h
 obtain ⟨l,d⟩:=s1
 simp only at HT
 go_enter Tryz.func113,Tryz.ntmps113
 go_wp2_with fail
 refine CI.out.mono ?_
 rintro e w1 ⟨rfl,h1,h2⟩
 have H1:=Lib.hid h1
 have H2:=Lib.hid h2
 have hlen:=h1.n
 simp only at hlen
 clear h1 h2 CI
 obtain ⟨hz,x0,x1,z0,z1⟩:=ebox H1.out
 simp only at x0 x1
 by_cases hn:n≤l.length
 ·
  have hc:IntKind.i64.wrap (n:Int)=n:=by rw [IntKind.wrap_i64];omega
  have b1:decide ((n:Int)≤(l.length:Int))=true:=by simpa using hn
  go_wp2_with fail
  refine (epast_c (n:Int) true H1.out (fun _ _=>⟨by omega,by simp only;omega⟩)).mono ?_
  rintro e w2 ⟨rfl,h3,h4⟩
  cases d with
  | true=>
   have e1:pastR (n:Int) true (l,true)=(l,true):=by unfold pastR;simp
   rw [e1] at h3 ⊢
   rw [if_pos rfl] at HT
   have HR:=Lib.hid HT.out
   have H4:=Lib.hid (H2.out.trans h4)
   have H3:=Lib.hid h3
   clear h3 h4 HT
   go_wp2_with fail
   go_ret
   rw [HR.out]
   exact ⟨rfl,H3.out,H4.out⟩
  | false=>
   have e1:pastR (n:Int) true (l,false)=(l.drop n,false):=by unfold pastR;simp
   rw [e1] at h3 ⊢
   rw [if_neg (by simp),if_pos hn] at HT
   have HR:=Lib.hid HT.out
   have H4:=Lib.hid (H2.out.trans h4)
   have H3:=Lib.hid h3
   clear h3 h4 HT
   have hm:n≤(⟨l.toArray⟩:ByteArray).size:=by rw [mk_size];omega
   go_wp2_with fail
   go_ret
   rw [HR.out]
   exact ⟨congrArg (fun z=>Ending.returned (.string z)) (str_ext (by rw [Lib.extract_data,mk_str,mk_str,List.drop_zero,Nat.sub_zero])),H3.out,H4.out⟩
 ·
  have b1:decide ((n:Int)≤(l.length:Int))=false:=by simpa using hn
  have hnn:¬ (n:Int)≤(l.length:Int):=by omega
  go_wp2_with fail
  refine (epast_c _ false H1.out (fun _ h=>by cases h)).mono ?_
  rintro e w2 ⟨rfl,h3,h4⟩
  have e1:∀ x:Int,pastR x false (l,d)=(l,true):=fun x=>by unfold pastR;simp
  rw [e1] at h3 ⊢
  have HR:Hid (R=([],(l,true))):=Lib.hid (by
   rw [HT.out]
   cases d with
   | true=>rw [if_pos rfl]
   | false=>rw [if_neg (by simp),if_neg hn])
  have H4:=Lib.hid (H2.out.trans h4)
  have H3:=Lib.hid h3
  clear h3 h4 HT e1
  go_wp2_with fail
  go_ret
  rw [HR.out]
  exact ⟨rfl,H3.out,H4.out⟩
theorem etruth_c {W0 w:World} {b:Nat} {s:List UInt8 × Bool} (h:EyeS W0 b s w) :
  Calls Tryz.prog 114 #[.pointer (some ⟨b,0,none⟩)] w (EyeR W0 b (truthR s).2 (.bool (truthR s).1) w):=by
 have H0:=Lib.hid h
 clear h
 obtain ⟨l,d⟩:=s
 obtain ⟨hz,x0,x1,z0,z1⟩:=ebox H0.out
 simp only at x0 x1
 have HT:Hid (truthR (l,d)=if d=true then (false,(l,d)) else match l with
  | c :: r=>if c.toNat≤1 then (c==1,(r,false)) else (false,(l,true))
  | []=>(false,([],true))):=Lib.hid (by cases l<;>rfl)
 generalize truthR (l,d)=R at HT ⊢
 cases l with
 | nil=>
  have e1:∀ x:Int,pastR x false ([],d)=([],true):=fun x=>by unfold pastR;simp
  have HR:Hid (R=(false,([],true))):=Lib.hid (by
   rw [HT.out]
   cases d<;>rfl)
  go_enter Tryz.func114,Tryz.ntmps114
  go_wp2_with fail
  refine (epast_c _ false H0.out (fun _ h=>by cases h)).mono ?_
  rintro e w2 ⟨rfl,h3,h4⟩
  rw [e1] at h3 ⊢
  have H4:=Lib.hid h4
  have H3:=Lib.hid h3
  clear h3 h4 HT e1
  go_wp2_with fail
  go_ret
  rw [HR.out]
  exact ⟨rfl,H3.out,H4.out⟩
 | cons c r=>
  have hc:=c.toNat_lt
  go_enter Tryz.func114,Tryz.ntmps114
  go_wp2_with fail
  refine (epast_c 1 (decide ((c.toNat:Int)≤1)) H0.out (fun _ _=>⟨by omega,by simp only [List.length_cons];omega⟩)).mono ?_
  rintro e w2 ⟨rfl,h3,h4⟩
  by_cases h1:c.toNat≤1
  ·
   cases d with
   | true=>
    have e1:pastR 1 (decide ((c.toNat:Int)≤1)) (c :: r,true)=(c :: r,true):=by unfold pastR;simp
    rw [e1] at h3 ⊢
    have HR:Hid (R=(false,(c :: r,true))):=Lib.hid (by rw [HT.out];rfl)
    have H4:=Lib.hid h4
    have H3:=Lib.hid h3
    clear h3 h4 HT e1
    go_wp2_with fail
    go_ret
    rw [HR.out]
    exact ⟨rfl,H3.out,H4.out⟩
   | false=>
    have e1:pastR 1 (decide ((c.toNat:Int)≤1)) (c :: r,false)=(r,false):=by unfold pastR;rw [decide_eq_true (show (c.toNat:Int)≤1 by omega)];simp
    rw [e1] at h3 ⊢
    have HR:Hid (R=(c==1,(r,false))):=Lib.hid (by rw [HT.out];simp [h1])
    have H4:=Lib.hid h4
    have H3:=Lib.hid h3
    have hsz:0 < (⟨(c :: r).toArray⟩:ByteArray).size:=by rw [mk_size];simp
    clear h3 h4 HT e1
    go_wp2_with fail
    go_ret
    rw [HR.out]
    refine ⟨ret_bool ?_,H3.out,H4.out⟩
    show ((c.toNat:Int)==1)=(c==1)
    rw [Bool.eq_iff_iff,beq_iff_eq,beq_iff_eq]
    exact ⟨fun h=>UInt8.toNat_inj.1 (by show c.toNat=1;omega),fun h=>by rw [h];rfl⟩
  ·
   have e1:pastR 1 (decide ((c.toNat:Int)≤1)) (c :: r,d)=(c :: r,true):=by unfold pastR;rw [decide_eq_false (show ¬ (c.toNat:Int)≤1 by omega)];simp
   rw [e1] at h3 ⊢
   have HR:Hid (R=(false,(c :: r,true))):=Lib.hid (by
    rw [HT.out]
    cases d with
    | true=>rfl
    | false=>simp [h1])
   have H4:=Lib.hid h4
   have H3:=Lib.hid h3
   clear h3 h4 HT e1
   go_wp2_with fail
   go_ret
   rw [HR.out]
   exact ⟨rfl,H3.out,H4.out⟩
end Go.Proofs.YtcbicdencgjfiaaGreatDoor
