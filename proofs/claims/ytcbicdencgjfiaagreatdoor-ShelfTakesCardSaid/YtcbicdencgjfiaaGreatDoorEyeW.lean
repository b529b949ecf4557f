import Derived.Test.YtcbicdencgjfiaaGreatDoorMeetB
import Derived.Test.YtcbicdencgjfiaaGreatDoorPenL
set_option linter.all false
set_option maxHeartbeats 4000000
set_option maxRecDepth 20000
namespace Go.Proofs.YtcbicdencgjfiaaGreatDoor
open Go.RowKit Tryst
structure EyeS (W0:World) (b:Nat) (s:List UInt8 × Bool) (w:World):Prop where
 v:Var w b 99 [.string ⟨s.1.toArray⟩,.bool s.2]
 low:Below W0.heap.size W0 w
 ge:W0.heap.size<=b
 n:s.1.length<=1500000
structure _root_.Tryst.Oth (b:Nat) (w w':World):Prop where
 size:w.heap.size<=w'.heap.size
 same:∀ k,k < w.heap.size->k≠b->w'.heap[k]?=w.heap[k]?
theorem _root_.Tryst.Oth.refl (b:Nat) (w:World):Oth b w w:=⟨Nat.le_refl _,fun _ _ _=>rfl⟩
theorem _root_.Tryst.Oth.trans {b:Nat} {u v w:World} (h:Oth b u v) (k:Oth b v w):Oth b u w:=⟨Nat.le_trans h.size k.size,fun i hi hb=>(k.same i (Nat.lt_of_lt_of_le hi h.size) hb).trans (h.same i hi hb)⟩
theorem _root_.Tryst.Oth.below {b:Nat} {v w:World} (h:Below v.heap.size v w):Oth b v w:=⟨h.size,fun k hk _=>h.block k hk⟩
theorem _root_.Tryst.Oth.set {b o:Nat} {v w:World} (h:Oth b v w) (u:Value):Oth b v (w.setCell ⟨b,o,none⟩ u):=⟨by simpa using h.size,fun k hk hb=>(Below.heap_setCell _ _ _ _ hb).trans (h.same k hk hb)⟩
theorem EyeS.quiet {W0 w w':World} {b:Nat} {s:List UInt8 × Bool} (h:EyeS W0 b s w) (hb:Below w.heap.size w w'):EyeS W0 b s w':=⟨h.v.grow hb,h.low.trans (hb.mono h.low.size),h.ge,h.n⟩
def Y8 (n:Int) (ok:Bool) (s:List UInt8 × Bool):List UInt8 × Bool:=if s.2=true∨ok=false then (s.1,true) else (s.1.drop n.toNat,false)
def EyeR (W0:World) (b:Nat) (s:List UInt8 × Bool) (v:Value) (w:World) (e:Ending) (w':World):Prop:=e=.returned v/\EyeS W0 b s w'/\Oth b w w'
theorem qQe (n:Int) (ok:Bool) {W0 w:World} {b:Nat} {s:List UInt8 × Bool} (h:EyeS W0 b s w) (hn:s.2=false->ok=true->0<=n/\n<=s.1.length) :
  Calls Tryz.prog 167 #[.pointer (some ⟨b,0,none⟩),.int .i64 n,.bool ok] w (EyeR W0 b (Y8 n ok s) (.bool (!(Y8 n ok s).2)) w):=by
 obtain ⟨l,d⟩:=s;have H0:=Zh h;have z0:=h.v.fz 0;have z1:=h.v.fz 1;have hlen:=h.n;simp only at hlen hn;clear h;obtain ⟨x0,x1⟩:=v2 (H0.out.v);cases d with
 | true=>
  have e:Y8 n ok (l,true)=(l,true):=by unfold Y8;rw [if_pos (.inl rfl)]
  rw [e];clear hn;go_enter Tryz.func167,Tryz.ntmps167;go_wp2_with fail;go_ret;exact ⟨rfl,⟨H0.out.v.set 1 (.bool true),H0.out.low.setCell (p:=⟨b,1,none⟩) H0.out.ge _,H0.out.ge,H0.out.n⟩,(Oth.refl b w).set _⟩
 | false=>
  cases ok with
  | false=>
   have e:Y8 n false (l,false)=(l,true):=by unfold Y8;rw [if_pos (.inr rfl)]
   rw [e];clear hn;go_enter Tryz.func167,Tryz.ntmps167;go_wp2_with fail;go_ret;exact ⟨rfl,⟨H0.out.v.set 1 (.bool true),H0.out.low.setCell (p:=⟨b,1,none⟩) H0.out.ge _,H0.out.ge,H0.out.n⟩,(Oth.refl b w).set _⟩
  | true=>
   have e:Y8 n true (l,false)=(l.drop n.toNat,false):=by unfold Y8;rw [if_neg (by simp)]
   rw [e];obtain ⟨n0,n1⟩:=hn rfl rfl;obtain ⟨m,rfl⟩:=Int.eq_ofNat_of_zero_le n0;have hm:m<=(⟨l.toArray⟩:ByteArray).size:=by rw [mk_size];omega
   clear hn;go_enter Tryz.func167,Tryz.ntmps167;go_wp2_with fail;go_ret;have ex:(⟨l.toArray⟩:ByteArray).extract m l.length=⟨(l.drop m).toArray⟩:=Xk (by rw [Lib.extract_data,Jb,Jb,List.take_of_length_le (by simp)]);refine ⟨rfl,⟨?_,(H0.out.low.setCell (p:=⟨b,1,none⟩) H0.out.ge _).setCell (p:=⟨b,0,none⟩) H0.out.ge _,H0.out.ge,by simp;omega⟩,((Oth.refl b w).set _).set _⟩;have:=(H0.out.v.set 1 (.bool false)).set 0 (.string ((⟨l.toArray⟩:ByteArray).extract m l.length));rw [ex] at this ⊢;exact this
theorem jQO (s:List UInt8 × Bool):(idR s).1 < 2 ^ 64:=by
 unfold idR
 split
 · exact Nat.two_pow_pos 64
 ·
  split
  · rename_i h;exact (qQf (l:=s.1) (n:=(unp s.1).1) (k:=(unp s.1).2.1) (by rw [<- h])).1
  · exact Nat.two_pow_pos 64
theorem qQ7 {W0 w:World} {b:Nat} {s:List UInt8 × Bool} (h:EyeS W0 b s w) :
  Calls Tryz.prog 115 #[.pointer (some ⟨b,0,none⟩)] w (EyeR W0 b (idR s).2 (.int .u64 ((idR s).1:Nat)) w):=by
 obtain ⟨l,d⟩:=s;have H0:=Zh h;have hlen:=h.n;simp only at hlen
 have hu:(unp l).2.2=0->(unp l).2.1<=l.length:=fun h=>by
  have:=qQf (l:=l) (n:=(unp l).1) (k:=(unp l).2.1) (by rw [<- h]);exact this.2.2.1
 have CU:=Zh (fun W=>zQ4 ⟨l.toArray⟩ (by rw [mk_size];omega) W);simp only [Jb] at CU;clear h;obtain ⟨x0,x1⟩:=v2 (H0.out.v);have HI:Hid (idR (l,d)=if d=true then (0,(l,d)) else if (unp l).2.2=0 then ((unp l).1,(l.drop (unp l).2.1,false)) else (0,(l,true))):=Zh rfl;generalize idR (l,d)=R at HI ⊢;generalize hn:(unp l).1=n at CU HI;generalize hk:(unp l).2.1=k at CU HI hu;generalize he:(unp l).2.2=err at CU HI hu;clear hn hk he
 have key:Y8 (k:Int) (decide (err=0)) (l,d)=R.2/\R.1=(if R.2.2=true then 0 else n):=by
  rw [HI.out];unfold Y8;cases d with
  | true=>simp
  | false=>
   by_cases h0:err=0
   · simp [h0]
   · simp [h0]
 obtain ⟨k1,k2⟩:=key;have HK1:=Zh k1;have HK2:=Zh k2;have HU:Hid (d=false->decide (err=0)=true->(0:Int)<=k/\(k:Int)<=l.length):=Zh (fun _ h=>⟨by omega,by have:=hu (by simpa using h);omega⟩);clear k1 k2 hu HI
 have b1:((err:Int)==0)=decide (err=0):=by
  rw [Bool.eq_iff_iff];simp
 go_enter Tryz.func115,Tryz.ntmps115;go_wp2_with fail;refine (CU.out _).mono ?_;rintro e w1 ⟨rfl,rfl⟩;go_wp2_with fail;refine (qQe (k:Int) (decide (err=0)) H0.out HU.out).mono ?_;rintro e w2 ⟨rfl,h1,h2⟩;rw [HK1.out] at h1 ⊢;have H1:=Zh h1;have H2:=Zh h2;clear h1 h2;obtain ⟨r1,r2,r3⟩:=R;simp only at HK2 H1 ⊢;cases r3 with
 | true=>
  go_wp2_with fail;go_ret;exact ⟨by rw [HK2.out];rfl,H1.out,H2.out⟩
 | false=>
  go_wp2_with fail;go_ret;exact ⟨by rw [HK2.out];rfl,H1.out,H2.out⟩
theorem kJu {W0 w:World} {b:Nat} {s:List UInt8 × Bool} (h:EyeS W0 b s w) :
  Calls Tryz.prog 92 #[.pointer (some ⟨b,0,none⟩)] w (EyeR W0 b (numR s).2 (.int .i64 (numR s).1) w):=by
 have H0:=Zh h;have hl:=jQO s;unfold numR;have CI:=Zh (qQ7 h);generalize (idR s).1=n at CI hl ⊢;generalize (idR s).2=s1 at CI ⊢;have CU:=Zh (fun W=>xQq (n:Int) (by omega) (by omega) W);rw [Int.toNat_natCast] at CU;clear h hl;go_enter Tryz.func92,Tryz.ntmps92;go_wp2_with fail;refine CI.out.mono ?_;rintro e w1 ⟨rfl,h1,h2⟩;have H1:=Zh h1;have H2:=Zh h2;clear h1 h2;go_wp2_with fail;refine (CU.out _).mono ?_;rintro e w2 ⟨rfl,rfl⟩;go_wp2_with fail;go_ret;exact ⟨rfl,H1.out,H2.out⟩
theorem ebox {W0 w:World} {b:Nat} {s:List UInt8 × Bool} (h:EyeS W0 b s w):b < w.heap.size/\w.cell? ⟨b,0,none⟩=some (.string ⟨s.1.toArray⟩)/\w.cell? ⟨b,1,none⟩=some (.bool s.2)/\w.frozen? ⟨b,0,none⟩=false/\w.frozen? ⟨b,1,none⟩=false:=⟨h.v.lt,h.v.cell 0,h.v.cell 1,h.v.fz 0,h.v.fz 1⟩
theorem qJf {W0 w:World} {b:Nat} {s:List UInt8 × Bool} (h:EyeS W0 b s w) :
  Calls Tryz.prog 113 #[.pointer (some ⟨b,0,none⟩)] w (EyeR W0 b (X7 s).2 (.string ⟨(X7 s).1.toArray⟩) w):=by
 have hl:=jQO s;have CI:=Zh (qQ7 h);have HT:Hid (X7 s=if (idR s).2.2=true then ([],(idR s).2) else if (idR s).1<=(idR s).2.1.length then ((idR s).2.1.take (idR s).1,((idR s).2.1.drop (idR s).1,false)) else ([],((idR s).2.1,true))):=Zh rfl;generalize X7 s=R at HT ⊢;generalize (idR s).1=n at CI HT hl;generalize (idR s).2=s1 at CI HT;clear h;obtain ⟨l,d⟩:=s1;simp only at HT;go_enter Tryz.func113,Tryz.ntmps113;go_wp2_with fail;refine CI.out.mono ?_;rintro e w1 ⟨rfl,h1,h2⟩;have H1:=Zh h1;have H2:=Zh h2;have hlen:=h1.n;simp only at hlen;clear h1 h2 CI;obtain ⟨hz,x0,x1,z0,z1⟩:=ebox H1.out;simp only at x0 x1
 by_cases hn:n<=l.length
 ·
  have hc:IntKind.i64.wrap (n:Int)=n:=by rw [IntKind.wrap_i64];omega
  have b1:decide ((n:Int)<=(l.length:Int))=true:=by simpa using hn
  go_wp2_with fail;refine (qQe (n:Int) true H1.out (fun _ _=>⟨by omega,by simp only;omega⟩)).mono ?_;rintro e w2 ⟨rfl,h3,h4⟩;cases d with
  | true=>
   have e1:Y8 (n:Int) true (l,true)=(l,true):=by unfold Y8;simp
   rw [e1] at h3 ⊢;rw [if_pos rfl] at HT;have HR:=Zh HT.out;have H4:=Zh (H2.out.trans h4);have H3:=Zh h3;clear h3 h4 HT;go_wp2_with fail;go_ret;rw [HR.out];exact ⟨rfl,H3.out,H4.out⟩
  | false=>
   have e1:Y8 (n:Int) true (l,false)=(l.drop n,false):=by unfold Y8;simp
   rw [e1] at h3 ⊢;rw [if_neg (by simp),if_pos hn] at HT;have HR:=Zh HT.out;have H4:=Zh (H2.out.trans h4);have H3:=Zh h3;clear h3 h4 HT;have hm:n<=(⟨l.toArray⟩:ByteArray).size:=by rw [mk_size];omega
   go_wp2_with fail;go_ret;rw [HR.out];exact ⟨congrArg (fun z=>Ending.returned (.string z)) (Xk (by rw [Lib.extract_data,Jb,Jb,List.drop_zero,Nat.sub_zero])),H3.out,H4.out⟩
 ·
  have b1:decide ((n:Int)<=(l.length:Int))=false:=by simpa using hn
  have hnn:¬ (n:Int)<=(l.length:Int):=by omega
  go_wp2_with fail;refine (qQe _ false H1.out (fun _ h=>by cases h)).mono ?_;rintro e w2 ⟨rfl,h3,h4⟩;have e1:∀ x:Int,Y8 x false (l,d)=(l,true):=fun x=>by unfold Y8;simp
  rw [e1] at h3 ⊢
  have HR:Hid (R=([],(l,true))):=Zh (by
   rw [HT.out];cases d with
   | true=>rw [if_pos rfl]
   | false=>rw [if_neg (by simp),if_neg hn])
  have H4:=Zh (H2.out.trans h4);have H3:=Zh h3;clear h3 h4 HT e1;go_wp2_with fail;go_ret;rw [HR.out];exact ⟨rfl,H3.out,H4.out⟩
end Go.Proofs.YtcbicdencgjfiaaGreatDoor
namespace Go.Proofs.YtcbicdencgjfiaaGreatDoor
open Go.RowKit Tryst
theorem _root_.Tryst.Var.oth {b g:Nat} {w w':World} {T:TypeId} {cs:List Value} (h:Var w g T cs) (k:Oth b w w') (hg:g≠b):Var w' g T cs:=(k.same g h.lt hg).trans h
theorem _root_.Tryst.Oth.mono {b:Nat} {v w w':World} (h:Oth b w w') (hb:Below v.heap.size v w):Oth b v w':=(Oth.below hb).trans h
theorem _root_.Tryst.Oth.setsB {b g:Nat} {v w:World} (h:Oth b v w) (hg:v.heap.size<=g) (i:Nat) (vs:List Value):Oth b v (Yq w g i vs):=⟨by rw [Q6];exact h.size,fun k hk hb=>(Qb (by omega) vs i w).trans (h.same k hk hb)⟩
theorem _root_.Tryst.POwn.oth {b:Nat} {w w':World} {S:Nat->Prop} {p:PB} (h:POwn w S p) (k:Oth b w w') (hb:∀ g,S g->g≠b):POwn w' S p:=h.keep (fun g hg hl=>⟨k.same g hl (hb g hg),hg⟩) k.size
theorem EyeS.sets {W0 w:World} {b g:Nat} {s:List UInt8 × Bool} (h:EyeS W0 b s w) (hg:g≠b) (hW:W0.heap.size<=g) (i:Nat) (vs:List Value):EyeS W0 b s (Yq w g i vs):=⟨(Qb (fun e=>hg e.symm) vs i w).trans h.v,Qw hW vs i w h.low,h.ge,h.n⟩
theorem _root_.Tryst.POwn.sets {g:Nat} {w:World} {S S':Nat->Prop} {p:PB} (h:POwn w S p) (hg:∀ k,S k->k≠g/\S' k) (i:Nat) (vs:List Value):POwn (Yq w g i vs) S' p:=h.keep (fun k hk _=>⟨Qb (hg k hk).1 vs i w,(hg k hk).2⟩) (by rw [Q6];exact Nat.le_refl _)
theorem _root_.Tryst.POwn.zero (w:World) (S:Nat->Prop):POwn w S (.mk ⟨#[]⟩ ⟨#[]⟩ false 0 ⟨#[]⟩ none 0 []):=.mk _ _ _ _ _ _ _ _ (by decide) (by decide) (by decide) (by decide) (by decide) (Row.nil _ _ _) ⟨Nat.le_refl _,fun A h=>(by cases h),fun _=>rfl⟩ (fun b o h=>by cases h) (fun b o h=>by cases h) (fun x h=>by cases h)
def WhR (W0:World) (b:Nat) (s:List UInt8 × Bool) (w:World) (e:Ending) (w':World):Prop:=∃ y:PB,e=.returned y.agg/\POwn w' (fun g=>w.heap.size<=g) y/\y.pr=(Zk s).1/\EyeS W0 b (Zk s).2 w'/\Oth b w w'
theorem qY9 (s:List UInt8 × Bool):(idR s).2.1.length<=s.1.length:=by
 unfold idR
 split
 · exact Nat.le_refl _
 ·
  split
  · simp only [List.length_drop];omega
  · exact Nat.le_refl _
theorem zJs (s:List UInt8 × Bool):(X7 s).1.length<=s.1.length:=by
 have:=qY9 s;unfold X7
 split
 · exact Nat.zero_le _
 ·
  split
  · simp only [List.length_take];omega
  · exact Nat.zero_le _
theorem vJB {W0 w:World} {b:Nat} {s:List UInt8 × Bool} (h:EyeS W0 b s w) (hM:MaxW W0) :
  Calls Tryz.prog 170 #[.pointer (some ⟨b,0,none⟩)] w (WhR W0 b s w):=by
 have H0:=Zh (h.quiet (Qj (.cells #[.string ⟨#[]⟩,.string ⟨#[]⟩,.bool false,.int .i64 0,.string ⟨#[]⟩,.slice none 0 0] 123) (.refl w.heap.size w)));have HV:=Zh (Var.new w 123 [.string ⟨#[]⟩,.string ⟨#[]⟩,.bool false,.int .i64 0,.string ⟨#[]⟩,.slice none 0 0]);have HB:=Zh (Qj (.cells #[.string ⟨#[]⟩,.string ⟨#[]⟩,.bool false,.int .i64 0,.string ⟨#[]⟩,.slice none 0 0] 123) (.refl w.heap.size w));have hbw:=h.v.lt;have HM:=Zh hM
 have HWR:Hid (Zk s=if (X7 s).2.2=true then (zQf,(X7 s).2) else match Xv (X7 s).1 with
  | some p=>(p,(X7 s).2)
  | none=>(zQf,((X7 s).2.1,true))):=Zh rfl
 have HTL:Hid ((X7 s).1.length<=1500000):=Zh (Nat.le_trans (zJs s) h.n);clear h hM;go_enter Tryz.func170,Tryz.ntmps170;go_upto_region 1 with fail
 revert H0 HV HB;rw [show (w.alloc (.cells [Value.string ⟨#[]⟩,.string ⟨#[]⟩,.bool false,.int .i64 0,.string ⟨#[]⟩,.slice none 0 0].toArray 123))=w.alloc (.cells #[.string ⟨#[]⟩,.string ⟨#[]⟩,.bool false,.int .i64 0,.string ⟨#[]⟩,.slice none 0 0] 123) from rfl];generalize w.alloc (.cells #[.string ⟨#[]⟩,.string ⟨#[]⟩,.bool false,.int .i64 0,.string ⟨#[]⟩,.slice none 0 0] 123)=Y;intro H0 HV HB;have hgb:w.heap.size≠b:=by omega
 have CT:=Zh (qJf H0.out);generalize hts:X7 s=ts at CT HWR HTL;obtain ⟨R,hR⟩:∃ R,Zk s=R:=⟨_,rfl⟩;rw [hR] at HWR;have HR:=Zh hR;clear hts hR;obtain ⟨tx,s1⟩:=ts;simp only at CT HWR HTL;go_wp2_with fail;refine CT.out.mono ?_;rintro e w1 ⟨rfl,h1,h2⟩;have H1:=Zh h1;have O1:=Zh (h2.mono HB.out);have V1:=Zh (HV.out.oth h2 hgb);have hV1:=V1.out.lt;clear h1 h2 CT H0 HV HB;have hz1:=O1.out.size;go_wp2_with fail;refine (jY2 ⟨tx.toArray⟩ (by rw [mk_size];exact HTL.out) w1 (HM.out.grow H1.out.low)).mono ?_;rintro e w2 ⟨y,rfl,ho,hp,hb⟩;rw [Jb] at hp ⊢;have HB2:=Zh (Qj (.cells #[.string y.op,.string y.s,.bool y.num,.int .i64 y.n,.string y.vs,.slice y.a y.l.length y.c] 123) hb);have HP:=Zh hp;have HO:=Zh (ho.grow (Qj (.cells #[.string y.op,.string y.s,.bool y.num,.int .i64 y.n,.string y.vs,.slice y.a y.l.length y.c] 123) (.refl _ _)) (fun _ h=>h));have VY:=Zh (Var.new w2 123 [.string y.op,.string y.s,.bool y.num,.int .i64 y.n,.string y.vs,.slice y.a y.l.length y.c]);have H2:=Zh (H1.out.quiet HB2.out);have O2:=Zh (O1.out.trans (Oth.below HB2.out));have V2:=Zh (V1.out.grow HB2.out);have hz2:=hb.size;clear ho hp hb HB2 H1 O1 V1;unfold PB.agg;go_upto_region 2 with fail
 revert HO VY H2 O2 V2;generalize w2.alloc (.cells _ 123)=Z;intro HO VY H2 O2 V2;have hgg:w.heap.size < w2.heap.size:=by have:=hV1;omega
 generalize w2.heap.size=g2 at VY hz2 hgg ⊢
 have HPE:Hid (((perr (Xv tx))==0)=(Xv tx).isSome):=Zh (by
  unfold perr;cases Xv tx<;>rfl)
 generalize hok:(Xv tx).isSome=ok at HPE;have hpe:=HPE.out;generalize perr (Xv tx)=pe at hpe ⊢;obtain ⟨x0,x1,x2,x3,x4,x5⟩:=v6 (V2.out);have z0:=V2.out.fz 0;have z1:=V2.out.fz 1;have z2:=V2.out.fz 2;have z3:=V2.out.fz 3;have z4:=V2.out.fz 4;have z5:=V2.out.fz 5;go_wp2_with fail;refine (qQe 0 ok H2.out (fun _ _=>⟨by omega,by omega⟩)).mono ?_;rintro e w3 ⟨rfl,h3,h4⟩;have H3:=Zh h3;have O3:=Zh (O2.out.trans h4);have V3:=Zh (V2.out.oth h4 hgb);have HO3:=Zh (HO.out.oth h4 (fun g hg=>by have:=hg;omega));have VY3:=Zh (VY.out.oth h4 (by omega));clear h3 h4 x0 x1 x2 x3 x4 x5 z0 z1 z2 z3 z4 z5 H2 O2 V2 HO VY hpe HPE;obtain ⟨x0,x1,x2,x3,x4,x5⟩:=v6 (V3.out);obtain ⟨y0,y1,y2,y3,y4,y5⟩:=v6 (VY3.out);have z0:=V3.out.fz 0;have z1:=V3.out.fz 1;have z2:=V3.out.fz 2;have z3:=V3.out.fz 3;have z4:=V3.out.fz 4;have z5:=V3.out.fz 5;have hg3:=V3.out.lt;have hWg:W0.heap.size<=w.heap.size:=Nat.le_of_lt (Nat.lt_of_le_of_lt H3.out.ge hbw);obtain ⟨l1,d1⟩:=s1;simp only at HWR;cases hb:(Y8 0 ok (l1,d1)).2 with
 | true=>
  have HN:Hid (R=(zQf,(l1,true))/\Y8 0 ok (l1,d1)=(l1,true)):=Zh (by
   unfold Y8 at hb ⊢;rw [HWR.out];cases d1 with
   | true=>simp
   | false=>
    cases hpp:Xv tx with
    | none=>
     rw [hpp] at hok;subst hok;simp
    | some p=>
     rw [hpp] at hok;subst hok;simp at hb)
  rw [HN.out.2] at H3;clear hb hok;go_wp2_with fail;refine bodyPost_ret (v:=(PB.mk ⟨#[]⟩ ⟨#[]⟩ false 0 ⟨#[]⟩ none 0 []).agg) (by simp [results,Tryz.results170,go_sem,PB.agg,PB.op,PB.s,PB.num,PB.n,PB.vs,PB.a,PB.c,PB.l, *]) rfl ?_;unfold WhR;rw [HR.out,HN.out.1];exact ⟨_,rfl,POwn.zero _ _,rfl,H3.out.sets hgb hWg 0 [.string ⟨#[]⟩,.string ⟨#[]⟩,.bool false,.int .i64 0,.string ⟨#[]⟩,.slice none 0 0],O3.out.setsB (Nat.le_refl _) 0 [.string ⟨#[]⟩,.string ⟨#[]⟩,.bool false,.int .i64 0,.string ⟨#[]⟩,.slice none 0 0]⟩
 | false=>
  have HN:Hid (∃ p,Xv tx=some p/\R=(p,(l1,d1))/\Y8 0 ok (l1,d1)=(l1,d1)):=Zh (by
   unfold Y8 at hb ⊢;rw [HWR.out];cases d1 with
   | true=>simp at hb
   | false=>
    cases hpp:Xv tx with
    | none=>
     rw [hpp] at hok;subst hok;simp at hb
    | some p=>
     rw [hpp] at hok;subst hok;exact ⟨p,rfl,by simp,by simp⟩)
  obtain ⟨p,hp,hR2,hpa⟩:=HN.out;rw [hpa] at H3;have HP2:=Zh (show y.pr=p by rw [HP.out,hp];rfl);have HR2:=Zh hR2;clear hb HN hp hR2 hpa hok HP;go_wp2_with fail;refine bodyPost_ret (v:=y.agg) (by simp [results,Tryz.results170,go_sem,PB.agg, *]) rfl ?_;unfold WhR;rw [HR.out,HR2.out];exact ⟨y,rfl,HO3.out.sets (g:=w.heap.size) (fun k hk=>⟨by have:=hk;omega,by have:=hk;omega⟩) 0 [.string y.op,.string y.s,.bool y.num,.int .i64 y.n,.string y.vs,.slice y.a y.l.length y.c],HP2.out,H3.out.sets hgb hWg 0 [.string y.op,.string y.s,.bool y.num,.int .i64 y.n,.string y.vs,.slice y.a y.l.length y.c],O3.out.setsB (Nat.le_refl _) 0 [.string y.op,.string y.s,.bool y.num,.int .i64 y.n,.string y.vs,.slice y.a y.l.length y.c]⟩
