import Derived.Deep.RegionHeld3
import Derived.Test.YtcbicdencgjfiaaGreatDoorPutU
set_option linter.all false
set_option maxHeartbeats 400000
set_option maxRecDepth 20000
namespace Tryst
open Go Go.RowKit
theorem zQo (l:List UInt8) (most a e:Nat) (ha:a<=l.length):(rnum l most (a,e)).1<=most/\(rnum l most (a,e)).2.1<=l.length:=by
 unfold rnum
 split
 · exact ⟨by simp,ha⟩
 ·
  split
  · exact ⟨by simp,ha⟩
  ·
   split
   · exact ⟨by simp,ha⟩
   · rename_i h1 h2 h3;refine ⟨by omega,?_⟩;simp only at h2 h3 ⊢;obtain ⟨n,k,e',h⟩:∃ n k e',unp (l.drop a)=(n,k,e'):=⟨_,_,_,rfl⟩;rw [h] at h2 ⊢;simp only [ne_eq,Decidable.not_not] at h2;subst h2;have:=(qQf h).2.2.1;rw [List.length_drop] at this;show a+k<=_;omega
theorem vQL (l:List UInt8) (most a e:Nat) (ha:a<=l.length):(jQJ l most (a,e)).1.length<=most/\(jQJ l most (a,e)).2.1<=l.length:=by
 obtain ⟨h1,h2⟩:=zQo l most a e ha;unfold jQJ
 split
 · exact ⟨by simp,h2⟩
 ·
  split
  · exact ⟨by simp,h2⟩
  · refine ⟨by rw [List.length_take];omega,?_⟩;show _+_<=_;omega
theorem qJs (l:List UInt8) (a e:Nat) (ha:a<=l.length):(rval l (a,e)).2.1<=l.length/\(rval l (a,e)).1.s.length<=60/\(rval l (a,e)).1.Fits:=by
 unfold rval
 split
 · exact ⟨ha,by simp [V.zero],by simp [V.zero,V.Fits]⟩
 ·
  rcases zJe (l.drop a) with h | ⟨h1,h2⟩
  ·
   obtain ⟨v,k,e',hh⟩:∃ v k e',Jp (l.drop a)=(v,k,e'):=⟨_,_,_,rfl⟩;simp only at h ⊢;rw [hh] at h ⊢;simp only at h;subst h;obtain ⟨g1,g2,g3,g4,g5⟩:=xQO hh;rw [List.length_drop] at g4;refine ⟨by show a+k<=_;omega,?_,g2⟩;unfold V.May at g1
   split at g1
   · rw [g1];simp
   · exact g1.2
  · simp only;rw [h1,h2];exact ⟨by omega,by simp [V.zero],by simp [V.zero,V.Fits]⟩
structure RAt (w:World) (g:Nat) (s:ByteArray) (a e:Nat):Prop where
 c0:w.cell? ⟨g,0,none⟩=some (.string s)
 c1:w.cell? ⟨g,1,none⟩=some (.int .i64 a)
 c2:w.cell? ⟨g,2,none⟩=some (.int .i64 e)
 f1:w.frozen? ⟨g,1,none⟩=false
 f2:w.frozen? ⟨g,2,none⟩=false
 hz:g < w.heap.size
structure Only (g:Nat) (w w':World):Prop where
 below:Below g w w'
 keep:∀ k,k < w.heap.size->k≠g->w'.heap[k]?=w.heap[k]?
theorem Only.refl (g:Nat) (w:World):Only g w w:=⟨.refl _ _,fun _ _ _=>rfl⟩
theorem Only.trans {g:Nat} {u v w:World} (h:Only g u v) (k:Only g v w):Only g u w:=
 ⟨h.below.trans k.below,fun i hi hg=>(k.keep i (Nat.lt_of_lt_of_le hi h.below.size) hg).trans (h.keep i hi hg)⟩
theorem Only.drew {g:Nat} {u v:World} (h:Only g u v):Only g u v.drew:=⟨h.below.drew,h.keep⟩
theorem Only.set {g:Nat} {u v:World} (h:Only g u v) (o:Nat) (x:Value):Only g u (v.setCell ⟨g,o,none⟩ x):=
 ⟨h.below.setCell (p:=⟨g,o,none⟩) (Nat.le_refl _) x,fun k hk hg=>by
  rw [Below.heap_setCell _ _ _ _ (fun e=>hg e)];exact h.keep k hk hg⟩
theorem Only.ofBelow {g:Nat} {u v:World} (hg:g < u.heap.size) (h:Below u.heap.size u v):Only g u v:=⟨h.mono (Nat.le_of_lt hg),fun k hk _=>h.block k hk⟩
theorem RAt.grow {v w:World} {g:Nat} {s:ByteArray} {a e:Nat} (h:RAt v g s a e) (hb:Below v.heap.size v w):RAt w g s a e:=by
 obtain ⟨h0,h1,h2,h3,h4,h5⟩:=h;exact ⟨by rw [hb.cell (p:=⟨g,0,none⟩) h5];exact h0,by rw [hb.cell (p:=⟨g,1,none⟩) h5];exact h1,by rw [hb.cell (p:=⟨g,2,none⟩) h5];exact h2,by rw [hb.frozen (p:=⟨g,1,none⟩) h5];exact h3,by rw [hb.frozen (p:=⟨g,2,none⟩) h5];exact h4,Nat.lt_of_lt_of_le h5 hb.size⟩
theorem RAt.set2 {w:World} {g:Nat} {s:ByteArray} {a e e':Nat} (h:RAt w g s a e):RAt (w.setCell ⟨g,2,none⟩ (.int .i64 e')) g s a e':=by
 obtain ⟨h0,h1,h2,h3,h4,h5⟩:=h
 constructor<;>simp [Qz,Qv,h0,h1,h2,h3,h4,h5]
theorem RAt.set1 {w:World} {g:Nat} {s:ByteArray} {a e a':Nat} (h:RAt w g s a e):RAt (w.setCell ⟨g,1,none⟩ (.int .i64 a')) g s a' e:=by
 obtain ⟨h0,h1,h2,h3,h4,h5⟩:=h
 constructor<;>simp [Qz,Qv,h0,h1,h2,h3,h4,h5]
theorem RAt.at {v w:World} {g c:Nat} {s:ByteArray} {a e:Nat} (h:RAt v g s a e) (ho:Only c v w) (hc:g≠c):RAt w g s a e:=by
 obtain ⟨h0,h1,h2,h3,h4,h5⟩:=h;have hb:=ho.keep g h5 hc;have hf:∀ j,w.frozen? ⟨g,j,none⟩=v.frozen? ⟨g,j,none⟩:=fun j=>by simp [World.frozen?,hb]
 exact ⟨by rw [World.cell?_of_block (w:=v) (a:=⟨g,0,none⟩) hb];exact h0,by rw [World.cell?_of_block (w:=v) (a:=⟨g,1,none⟩) hb];exact h1,by rw [World.cell?_of_block (w:=v) (a:=⟨g,2,none⟩) hb];exact h2,by rw [hf];exact h3,by rw [hf];exact h4,Nat.lt_of_lt_of_le h5 ho.below.size⟩
end Tryst
namespace Go.Proofs.YtcbicdencgjfiaaGreatDoor
open Go.RowKit Tryst
theorem jJf (s:ByteArray) (a:Nat):(s.extract a s.size).data.toList=s.data.toList.drop a:=by
 rw [zQ7,List.take_of_length_le (by simp)]
def NumR (w:World) (g:Nat) (s:ByteArray) (n a e:Nat) (x:Ending) (w':World):Prop:=x=.returned (.int .u64 n)/\RAt w' g s a e/\Only g w w'
theorem jJs (s:ByteArray) (most a:Nat) (ha:a<=s.size) :
  (∃ n k,unp (s.extract a s.size).data.toList=(n,k,0)/\n<=most/\a+k<=s.size/\rnum s.data.toList most (a,0)=(n,(a+k,0)))∨
  (∃ n k,unp (s.extract a s.size).data.toList=(n,k,0)/\most < n/\n < 2 ^ 64/\rnum s.data.toList most (a,0)=(0,(a,2)))∨
  (unp (s.extract a s.size).data.toList=(0,0,2)/\rnum s.data.toList most (a,0)=(0,(a,2)))∨
  (unp (s.extract a s.size).data.toList=(0,0,3)/\rnum s.data.toList most (a,0)=(0,(a,3))):=by
 rw [jJf];unfold rnum;simp only [ne_eq,not_true_eq_false,if_false]
 rcases kQs (s.data.toList.drop a) with h | h | h
 ·
  obtain ⟨n,k,e',hh⟩:∃ n k e',unp (s.data.toList.drop a)=(n,k,e'):=⟨_,_,_,rfl⟩;rw [hh] at h ⊢;simp only at h;subst h;have hk:=qQf hh;rw [List.length_drop,Qx] at hk
  by_cases hm:n<=most
  · exact .inl ⟨n,k,rfl,hm,by omega,by simp;omega⟩
  · exact .inr (.inl ⟨n,k,rfl,by omega,hk.1,by simp;omega⟩)
 · exact .inr (.inr (.inl ⟨h,by rw [h];simp⟩))
 · exact .inr (.inr (.inr ⟨h,by rw [h];simp⟩))
set_option maxHeartbeats 1500000 in
theorem zQL (g:Nat) (s:ByteArray) (hs:s.size<=1000000000) (a e most:Nat) (ha:a<=s.size) (he:e<=3) (hm:most<=18446744073709551615) (w:World) (h:RAt w g s a e) :
  Calls Tryz.prog 186 #[.pointer (some ⟨g,0,none⟩),.int .u64 most] w fun x w'=>NumR w g s (rnum s.data.toList most (a,e)).1 (rnum s.data.toList most (a,e)).2.1 (rnum s.data.toList most (a,e)).2.2 x w':=by
 have HR:=Zh h;have hgz:=h.hz;obtain ⟨c0,c1,c2,f1,f2,_⟩:=h
 by_cases h0:e=0
 ·
  subst h0;have hxz:(s.extract a s.size).size<=1000000000:=by rw [ByteArray.size_extract];omega
  have x1:(a:Int)<=s.size:=by omega
  have x2:(0:Int)<=a:=by omega
  rcases jJs s most a ha with ⟨n,k,hu,hn,hk,hr⟩ | ⟨n,k,hu,hn,hn2,hr⟩ | ⟨hu,hr⟩ | ⟨hu,hr⟩
  ·
   rw [hr];have HU:=Zh hu;have y1:¬ (most:Int) < n:=by omega
   have y2:IntKind.i64.wrap ((a:Int)+k)=(a:Int)+k:=IntWalk.i64_in _ (by omega);clear hu hr;go_enter Tryz.func186,Tryz.ntmps186;go_wp2_with fail;refine Tryst2.wp_region_grows [.is (.pointer (some ⟨g,0,none⟩)),.is (.pointer (some ⟨g,0,none⟩)),.is (.pointer (some ⟨g,0,none⟩)),.is (.string s),.is (.pointer (some ⟨g,0,none⟩)),.is (.pointer (some ⟨g,0,none⟩)),.is (.pointer (some ⟨g,1,none⟩)),.is (.int .i64 a),.is (.string (s.extract a s.size)),.is (.tuple #[.int .u64 n,.int .i64 k,.int .i64 0]),.is (.tuple #[.int .u64 n,.int .i64 k,.int .i64 0]),.is (.int .u64 n),.is (.int .i64 k),.is (.int .i64 0),.is (.int .u64 n),.is (.int .i64 k),.is (.int .i64 0)] (by kernel_rfl) (by kernel_rfl) ?obl ?fin
   case obl=>
    simp only [YA,YL,YO,YR,Op.operands,Call.operands]
    repeat' apply And.intro
    any_goals trivial
    all_goals (intro tv w' hg hold hd;(try simp at hold);obtain ⟨hcg,hfg,hsg⟩:=YG hg)
    all_goals first | (go_simp;done) | (go_simp;rw [if_neg (by omega)];exact ⟨.refl _,rfl⟩) | (obtain ⟨⟨g,hvg,hgg,hcell⟩,_⟩:=hd;have hcell0:=hcell 0 (by decide);simp at hcell0;go_simp;done) | (go_simp;refine (jQt hxz HU.out _).mono ?_;rintro e w2 ⟨rfl,rfl⟩;exact ⟨Tryst2.Grow.refl _,rfl⟩)
   case fin=>
    intro tv w' hg hR;simp only [YF,YL,YR] at hR;obtain ⟨hcg,hfg,hsg⟩:=YG hg;simp only [YP,YL,Act.put,hR];have hbw:=Tryst2.Grow.below hg (.refl w.heap.size w);have HRw:=Zh (HR.out.grow hbw);have HOw:=Zh (Only.ofBelow hgz hbw);obtain ⟨d0,d1,d2,d3,d4,d5⟩:=HRw.out;clear hg hR hcg hfg hsg hbw c0 c1 c2 f1 f2;go_wp2_with fail;go_ret;exact ⟨rfl,HRw.out.set1,HOw.out.set 1 _⟩
  ·
   rw [hr];have HU:=Zh hu;have y1:(most:Int) < n:=by omega
   clear hu hr;go_enter Tryz.func186,Tryz.ntmps186;go_wp2_with fail;refine Tryst2.wp_region_grows [.is (.pointer (some ⟨g,0,none⟩)),.is (.pointer (some ⟨g,0,none⟩)),.is (.pointer (some ⟨g,0,none⟩)),.is (.string s),.is (.pointer (some ⟨g,0,none⟩)),.is (.pointer (some ⟨g,0,none⟩)),.is (.pointer (some ⟨g,1,none⟩)),.is (.int .i64 a),.is (.string (s.extract a s.size)),.is (.tuple #[.int .u64 n,.int .i64 k,.int .i64 0]),.is (.tuple #[.int .u64 n,.int .i64 k,.int .i64 0]),.is (.int .u64 n),.is (.int .i64 k),.is (.int .i64 0),.is (.int .u64 n),.is (.int .i64 k),.is (.int .i64 0)] (by kernel_rfl) (by kernel_rfl) ?obl ?fin
   case obl=>
    simp only [YA,YL,YO,YR,Op.operands,Call.operands]
    repeat' apply And.intro
    any_goals trivial
    all_goals (intro tv w' hg hold hd;(try simp at hold);obtain ⟨hcg,hfg,hsg⟩:=YG hg)
    all_goals first | (go_simp;done) | (go_simp;rw [if_neg (by omega)];exact ⟨.refl _,rfl⟩) | (obtain ⟨⟨g,hvg,hgg,hcell⟩,_⟩:=hd;have hcell0:=hcell 0 (by decide);simp at hcell0;go_simp;done) | (go_simp;refine (jQt hxz HU.out _).mono ?_;rintro e w2 ⟨rfl,rfl⟩;exact ⟨Tryst2.Grow.refl _,rfl⟩)
   case fin=>
    intro tv w' hg hR;simp only [YF,YL,YR] at hR;obtain ⟨hcg,hfg,hsg⟩:=YG hg;simp only [YP,YL,Act.put,hR];have hbw:=Tryst2.Grow.below hg (.refl w.heap.size w);have HRw:=Zh (HR.out.grow hbw);have HOw:=Zh (Only.ofBelow hgz hbw);obtain ⟨d0,d1,d2,d3,d4,d5⟩:=HRw.out;clear hg hR hcg hfg hsg hbw c0 c1 c2 f1 f2;go_wp2_with fail;go_ret;exact ⟨rfl,HRw.out.set2,HOw.out.set 2 _⟩
  ·
   rw [hr];have HU:=Zh hu;clear hu hr;go_enter Tryz.func186,Tryz.ntmps186;go_wp2_with fail;refine Tryst2.wp_region_grows [.is (.pointer (some ⟨g,0,none⟩)),.is (.pointer (some ⟨g,0,none⟩)),.is (.pointer (some ⟨g,0,none⟩)),.is (.string s),.is (.pointer (some ⟨g,0,none⟩)),.is (.pointer (some ⟨g,0,none⟩)),.is (.pointer (some ⟨g,1,none⟩)),.is (.int .i64 a),.is (.string (s.extract a s.size)),.is (.tuple #[.int .u64 0,.int .i64 0,.int .i64 2]),.is (.tuple #[.int .u64 0,.int .i64 0,.int .i64 2]),.is (.int .u64 0),.is (.int .i64 0),.is (.int .i64 2),.is (.int .u64 0),.is (.int .i64 0),.is (.int .i64 2)] (by kernel_rfl) (by kernel_rfl) ?obl ?fin
   case obl=>
    simp only [YA,YL,YO,YR,Op.operands,Call.operands]
    repeat' apply And.intro
    any_goals trivial
    all_goals (intro tv w' hg hold hd;(try simp at hold);obtain ⟨hcg,hfg,hsg⟩:=YG hg)
    all_goals first | (go_simp;done) | (go_simp;rw [if_neg (by omega)];exact ⟨.refl _,rfl⟩) | (obtain ⟨⟨g,hvg,hgg,hcell⟩,_⟩:=hd;have hcell0:=hcell 0 (by decide);simp at hcell0;go_simp;done) | (go_simp;refine (kQH hxz HU.out _).mono ?_;rintro e w2 ⟨rfl,rfl⟩;exact ⟨Tryst2.Grow.refl _,rfl⟩)
   case fin=>
    intro tv w' hg hR;simp only [YF,YL,YR] at hR;obtain ⟨hcg,hfg,hsg⟩:=YG hg;simp only [YP,YL,Act.put,hR];have hbw:=Tryst2.Grow.below hg (.refl w.heap.size w);have HRw:=Zh (HR.out.grow hbw);have HOw:=Zh (Only.ofBelow hgz hbw);obtain ⟨d0,d1,d2,d3,d4,d5⟩:=HRw.out;clear hg hR hcg hfg hsg hbw c0 c1 c2 f1 f2;go_wp2_with fail;go_ret;exact ⟨rfl,HRw.out.set2,HOw.out.set 2 _⟩
  ·
   rw [hr];have HU:=Zh hu;clear hu hr;go_enter Tryz.func186,Tryz.ntmps186;go_wp2_with fail;refine Tryst2.wp_region_grows [.is (.pointer (some ⟨g,0,none⟩)),.is (.pointer (some ⟨g,0,none⟩)),.is (.pointer (some ⟨g,0,none⟩)),.is (.string s),.is (.pointer (some ⟨g,0,none⟩)),.is (.pointer (some ⟨g,0,none⟩)),.is (.pointer (some ⟨g,1,none⟩)),.is (.int .i64 a),.is (.string (s.extract a s.size)),.is (.tuple #[.int .u64 0,.int .i64 0,.int .i64 3]),.is (.tuple #[.int .u64 0,.int .i64 0,.int .i64 3]),.is (.int .u64 0),.is (.int .i64 0),.is (.int .i64 3),.is (.int .u64 0),.is (.int .i64 0),.is (.int .i64 3)] (by kernel_rfl) (by kernel_rfl) ?obl ?fin
   case obl=>
    simp only [YA,YL,YO,YR,Op.operands,Call.operands]
    repeat' apply And.intro
    any_goals trivial
    all_goals (intro tv w' hg hold hd;(try simp at hold);obtain ⟨hcg,hfg,hsg⟩:=YG hg)
    all_goals first | (go_simp;done) | (go_simp;rw [if_neg (by omega)];exact ⟨.refl _,rfl⟩) | (obtain ⟨⟨g,hvg,hgg,hcell⟩,_⟩:=hd;have hcell0:=hcell 0 (by decide);simp at hcell0;go_simp;done) | (go_simp;refine (qQj hxz HU.out _).mono ?_;rintro e w2 ⟨rfl,rfl⟩;exact ⟨Tryst2.Grow.refl _,rfl⟩)
   case fin=>
    intro tv w' hg hR;simp only [YF,YL,YR] at hR;obtain ⟨hcg,hfg,hsg⟩:=YG hg;simp only [YP,YL,Act.put,hR];have hbw:=Tryst2.Grow.below hg (.refl w.heap.size w);have HRw:=Zh (HR.out.grow hbw);have HOw:=Zh (Only.ofBelow hgz hbw);obtain ⟨d0,d1,d2,d3,d4,d5⟩:=HRw.out;clear hg hR hcg hfg hsg hbw c0 c1 c2 f1 f2;go_wp2_with fail;go_ret;exact ⟨rfl,HRw.out.set2,HOw.out.set 2 _⟩
 ·
  rw [kJd _ _ _ _ h0];have e1:((e:Int) != 0)=true:=by simp;omega
  have e2:((e:Int)==0)=false:=by simp;omega
  go_enter Tryz.func186,Tryz.ntmps186;go_wp2_with fail;go_ret;exact ⟨rfl,HR.out,.refl _ _⟩
def TextR (w:World) (g:Nat) (s:ByteArray) (t:List UInt8) (a e:Nat) (x:Ending) (w':World):Prop:=x=.returned (.string ⟨t.toArray⟩)/\RAt w' g s a e/\Only g w w'
theorem kQL (l:List UInt8) (most a e:Nat) (he:e<=3):(rnum l most (a,e)).2.2<=3:=by
 unfold rnum
 split
 · exact he
 ·
  split
  ·
   rcases kQs (l.drop a) with h | h | h
   · rename_i h1 h2;exact absurd h h2
   · show (unp (l.drop a)).2.2<=3;rw [h];decide
   · show (unp (l.drop a)).2.2<=3;rw [h];decide
  · split<;>simp
theorem kQV (l:List UInt8) (most a e:Nat) (he:e<=3):(jQJ l most (a,e)).2.2<=3:=by
 have h:=kQL l most a e he;unfold jQJ
 split
 · exact h
 ·
  split
  · exact Nat.le_refl 3
  · exact Nat.zero_le 3
theorem xJH (s:ByteArray) (a n:Nat) (h:a+n<=s.size):s.extract a (a+n)=⟨((s.data.toList.drop a).take n).toArray⟩:=by
 apply Xk
 rw [zQ7,Jb,List.drop_take,Nat.add_sub_cancel_left]
set_option maxHeartbeats 1500000 in
theorem vQD (g:Nat) (s:ByteArray) (hs:s.size<=1000000000) (a e most:Nat) (ha:a<=s.size) (he:e<=3) (hm:most<=1500000) (w:World) (h:RAt w g s a e) :
  Calls Tryz.prog 185 #[.pointer (some ⟨g,0,none⟩),.int .u64 most] w fun x w'=>TextR w g s (jQJ s.data.toList most (a,e)).1 (jQJ s.data.toList most (a,e)).2.1 (jQJ s.data.toList most (a,e)).2.2 x w':=by
 obtain ⟨hn1,hn2⟩:=zQo s.data.toList most a e (by rw [Qx];exact ha);rw [Qx] at hn2;have hnum:=zQL g s hs a e most ha he (by omega)
 have hrt:jQJ s.data.toList most (a,e)=if (rnum s.data.toList most (a,e)).2.2≠0 then ([],(rnum s.data.toList most (a,e)).2) else if s.size - (rnum s.data.toList most (a,e)).2.1 < (rnum s.data.toList most (a,e)).1 then ([],((rnum s.data.toList most (a,e)).2.1,3)) else ((s.data.toList.drop (rnum s.data.toList most (a,e)).2.1).take (rnum s.data.toList most (a,e)).1,((rnum s.data.toList most (a,e)).2.1+(rnum s.data.toList most (a,e)).1,0)):=by
  unfold jQJ;rw [Qx]
 have he3:=kQL s.data.toList most a e he;rw [hrt];clear hrt;revert hn1 hn2 hnum he3;generalize rnum s.data.toList most (a,e)=r;obtain ⟨n,a1,e1⟩:=r;simp only;intro hn1 hn2 hnum he3;have HN:=Zh hnum;have HR:=Zh h;have y1:IntKind.i64.wrap (n:Int)=n:=IntWalk.i64_in _ (by omega);clear hnum h
 by_cases h0:e1=0
 ·
  subst h0;rw [if_neg (by simp)];have y2:IntKind.i64.wrap ((s.size:Int) - a1)=(s.size:Int) - a1:=IntWalk.i64_in _ (by omega);have y3:IntKind.i64.wrap ((a1:Int)+n)=(a1:Int)+n:=IntWalk.i64_in _ (by omega)
  by_cases hlt:s.size - a1 < n
  ·
   rw [if_pos hlt];have x1:(s.size:Int) - a1 < n:=by omega
   go_enter Tryz.func185,Tryz.ntmps185;go_wp2_with fail;refine (HN.out w HR.out).mono ?_;rintro x w1 ⟨rfl,hr1,ho1⟩;have HR1:=Zh hr1;have HO1:=Zh ho1;have hgz:=hr1.hz;obtain ⟨d0,d1,d2,d3,d4,d5⟩:=hr1;clear ho1;go_wp2_with fail;refine Tryst2.wp_region_grows [.is (.pointer (some ⟨g,0,none⟩)),.is (.pointer (some ⟨g,0,none⟩)),.is (.pointer (some ⟨g,2,none⟩)),.is (.int .i64 0),.is (.bool true),.is (.bool true),.is (.int .i64 n),.is (.pointer (some ⟨g,0,none⟩)),.is (.pointer (some ⟨g,0,none⟩)),.is (.pointer (some ⟨g,0,none⟩)),.is (.string s),.is (.int .i64 s.size),.is (.pointer (some ⟨g,0,none⟩)),.is (.pointer (some ⟨g,0,none⟩)),.is (.pointer (some ⟨g,1,none⟩)),.is (.int .i64 a1),.is (.int .i64 ((s.size:Int) - a1)),.is (.bool true),.is (.bool true)] (by kernel_rfl) (by kernel_rfl) ?obl ?fin
   case obl=>
    simp only [YA,YL,YO,YR,Op.operands,Call.operands]
    repeat' apply And.intro
    any_goals trivial
    all_goals (intro tv w' hg hold hd;(try simp at hold);obtain ⟨hcg,hfg,hsg⟩:=YG hg)
    all_goals first | (go_simp;done) | (go_simp;rw [if_neg (by omega)];exact ⟨.refl _,rfl⟩) | (obtain ⟨⟨g,hvg,hgg,hcell⟩,_⟩:=hd;have hcell0:=hcell 0 (by decide);simp at hcell0;go_simp;done) 
   case fin=>
    intro tv w' hg hR;simp only [YF,YL,YR] at hR;obtain ⟨hcg,hfg,hsg⟩:=YG hg;simp only [YP,YL,Act.put,hR];have hbw:=Tryst2.Grow.below hg (.refl w1.heap.size w1);have HR2:=Zh (HR1.out.grow hbw);have HO2:=Zh (HO1.out.trans (Only.ofBelow hgz hbw));clear hg hR hcg hfg hsg hbw d0 d1 d2 d3 d4 d5;obtain ⟨d0,d1,d2,d3,d4,d5⟩:=HR2.out;go_wp2_with fail;go_ret;exact ⟨rfl,HR2.out.set2,HO2.out.set 2 _⟩
  ·
   rw [if_neg hlt];have x1:¬ (s.size:Int) - a1 < n:=by omega
   have hle:a1+n<=s.size:=by omega
   have y4:IntKind.i64.wrap (a1:Int)=a1:=IntWalk.i64_in _ (by omega);have hcut:=Zh (xJH s a1 n hle);go_enter Tryz.func185,Tryz.ntmps185;go_wp2_with fail;refine (HN.out w HR.out).mono ?_;rintro x w1 ⟨rfl,hr1,ho1⟩;have HR1:=Zh hr1;have HO1:=Zh ho1;have hgz:=hr1.hz;obtain ⟨d0,d1,d2,d3,d4,d5⟩:=hr1;clear ho1;go_wp2_with fail;refine Tryst2.wp_region_grows [.is (.pointer (some ⟨g,0,none⟩)),.is (.pointer (some ⟨g,0,none⟩)),.is (.pointer (some ⟨g,2,none⟩)),.is (.int .i64 0),.is (.bool true),.is (.bool true),.is (.int .i64 n),.is (.pointer (some ⟨g,0,none⟩)),.is (.pointer (some ⟨g,0,none⟩)),.is (.pointer (some ⟨g,0,none⟩)),.is (.string s),.is (.int .i64 s.size),.is (.pointer (some ⟨g,0,none⟩)),.is (.pointer (some ⟨g,0,none⟩)),.is (.pointer (some ⟨g,1,none⟩)),.is (.int .i64 a1),.is (.int .i64 ((s.size:Int) - a1)),.is (.bool false),.is (.bool false)] (by kernel_rfl) (by kernel_rfl) ?obl ?fin
   case obl=>
    simp only [YA,YL,YO,YR,Op.operands,Call.operands]
    repeat' apply And.intro
    any_goals trivial
    all_goals (intro tv w' hg hold hd;(try simp at hold);obtain ⟨hcg,hfg,hsg⟩:=YG hg)
    all_goals first | (go_simp;done) | (go_simp;rw [if_neg (by omega)];exact ⟨.refl _,rfl⟩) | (obtain ⟨⟨g,hvg,hgg,hcell⟩,_⟩:=hd;have hcell0:=hcell 0 (by decide);simp at hcell0;go_simp;done) 
   case fin=>
    intro tv w' hg hR;simp only [YF,YL,YR] at hR;obtain ⟨hcg,hfg,hsg⟩:=YG hg;simp only [YP,YL,Act.put,hR];have hbw:=Tryst2.Grow.below hg (.refl w1.heap.size w1);have HR2:=Zh (HR1.out.grow hbw);have HO2:=Zh (HO1.out.trans (Only.ofBelow hgz hbw));clear hg hR hcg hfg hsg hbw d0 d1 d2 d3 d4 d5 HR1 HO1;obtain ⟨d0,d1,d2,d3,d4,d5⟩:=HR2.out;go_upto_region 7 with fail
    have HR3:Hid (RAt (w'.setCell ⟨g,1,none⟩ (.int .i64 ((a1:Int)+n))) g s (a1+n) 0):=by
     have:=HR2.out.set1 (a':=a1+n);show RAt _ _ _ _ _
     rwa [show ((a1+n:Nat):Int)=(a1:Int)+n by omega] at this
    have HO3:=Zh (HO2.out.set 1 (.int .i64 ((a1:Int)+n)));clear HR2 HO2 d0 d1 d2 d3 d4 d5;revert HR3 HO3;generalize w'.setCell ⟨g,1,none⟩ (.int .i64 ((a1:Int)+n))=X;intro HR3 HO3;have hgz2:=HR3.out.hz;obtain ⟨d0,d1,d2,d3,d4,d5⟩:=HR3.out;rw [show ((a1+n:Nat):Int)=(a1:Int)+n by omega] at d1;have x2:(a1:Int)+n<=s.size:=by omega
    have x3:(0:Int)<=a1:=by omega
    have x4:(a1:Int)<=(a1:Int)+n:=by omega
    have x5:((a1:Int)+n).toNat=a1+n:=by omega
    have x6:(0:Int)<=(a1:Int)+n:=by omega
    have x7:IntKind.i64.wrap ((a1:Int)+n - n)=a1:=by rw [Int.add_sub_cancel];exact y4
    refine Tryst2.wp_region_grows [.is (.pointer (some ⟨g,0,none⟩)),.is (.pointer (some ⟨g,0,none⟩)),.is (.pointer (some ⟨g,0,none⟩)),.is (.string s),.is (.pointer (some ⟨g,0,none⟩)),.is (.pointer (some ⟨g,0,none⟩)),.is (.pointer (some ⟨g,1,none⟩)),.is (.int .i64 ((a1:Int)+n)),.is (.int .i64 n),.is (.int .i64 a1),.is (.pointer (some ⟨g,0,none⟩)),.is (.pointer (some ⟨g,0,none⟩)),.is (.pointer (some ⟨g,1,none⟩)),.is (.int .i64 ((a1:Int)+n)),.is (.string (s.extract a1 (a1+n))),.is (.string (s.extract a1 (a1+n)))] (by kernel_rfl) (by kernel_rfl) ?obl ?fin
    case obl=>
     simp only [YA,YL,YO,YR,Op.operands,Call.operands]
     repeat' apply And.intro
     any_goals trivial
     all_goals (intro tv w' hg hold hd;(try simp at hold);obtain ⟨hcg,hfg,hsg⟩:=YG hg)
     all_goals first | (go_simp;done) | (go_simp;rw [if_neg (by omega)];exact ⟨.refl _,rfl⟩) | (obtain ⟨⟨g,hvg,hgg,hcell⟩,_⟩:=hd;have hcell0:=hcell 0 (by decide);simp at hcell0;go_simp;done) 
    case fin=>
     intro tv w' hg hR;simp only [YF,YL,YR] at hR;obtain ⟨hcg,hfg,hsg⟩:=YG hg;simp only [YP,YL,Act.put,hR];have hbw:=Tryst2.Grow.below hg (.refl X.heap.size X);have HR4:=Zh (HR3.out.grow hbw);have HO4:=Zh (HO3.out.trans (Only.ofBelow hgz2 hbw));clear hg hR hcg hfg hsg hbw d0 d1 d2 d3 d4 d5;go_wp2_with fail;go_ret;exact ⟨Yw (by show Value.string (s.extract a1 (a1+n))=_;rw [hcut.out]),HR4.out,HO4.out⟩
 ·
  rw [if_pos h0];have e1':((e1:Int) != 0)=true:=by simp;omega
  have e2':((e1:Int)==0)=false:=by simp;omega
  go_enter Tryz.func185,Tryz.ntmps185;go_wp2_with fail;refine (HN.out w HR.out).mono ?_;rintro x w1 ⟨rfl,hr1,ho1⟩;have HR1:=Zh hr1;have HO1:=Zh ho1;have hgz:=hr1.hz;obtain ⟨d0,d1,d2,d3,d4,d5⟩:=hr1;clear ho1;go_wp2_with fail;refine Tryst2.wp_region_grows [.is (.pointer (some ⟨g,0,none⟩)),.is (.pointer (some ⟨g,0,none⟩)),.is (.pointer (some ⟨g,2,none⟩)),.is (.int .i64 e1),.is (.bool false),.is (.bool false),.is undef,.is undef,.is undef,.is undef,.is undef,.is undef,.is undef,.is undef,.is undef,.is undef,.is undef,.is undef,.is (.bool false)] (by kernel_rfl) (by kernel_rfl) ?obl ?fin
  case obl=>
   simp only [YA,YL,YO,YR,Op.operands,Call.operands]
   repeat' apply And.intro
   any_goals trivial
   all_goals (intro tv w' hg hold hd;(try simp at hold);obtain ⟨hcg,hfg,hsg⟩:=YG hg)
   all_goals first | (go_simp;done) | (go_simp;rw [if_neg (by omega)];exact ⟨.refl _,rfl⟩) | (obtain ⟨⟨g,hvg,hgg,hcell⟩,_⟩:=hd;have hcell0:=hcell 0 (by decide);simp at hcell0;go_simp;done) 
  case fin=>
   intro tv w' hg hR;simp only [YF,YL,YR] at hR;obtain ⟨hcg,hfg,hsg⟩:=YG hg;simp only [YP,YL,Act.put,hR];have hbw:=Tryst2.Grow.below hg (.refl w1.heap.size w1);have HR2:=Zh (HR1.out.grow hbw);have HO2:=Zh (HO1.out.trans (Only.ofBelow hgz hbw));clear hg hR hcg hfg hsg hbw d0 d1 d2 d3 d4 d5;obtain ⟨d0,d1,d2,d3,d4,d5⟩:=HR2.out;go_wp2_with fail;go_ret;exact ⟨rfl,HR2.out,HO2.out⟩
theorem _root_.Tryst.RAt.other {w:World} {g c o:Nat} {s:ByteArray} {a e:Nat} {u:Value} (h:RAt w g s a e) (hc:c≠g):RAt (w.setCell ⟨c,o,none⟩ u) g s a e:=by
 obtain ⟨h0,h1,h2,h3,h4,h5⟩:=h
 constructor<;>simp [Qz,Qv,hc,h0,h1,h2,h3,h4,h5]
theorem _root_.Tryst.RAt.put {w:World} {g:Nat} {s:ByteArray} {a e a' e':Nat} {x:Int} (h:RAt w g s a e) (hx:(a':Int)=x):RAt ((w.setCell ⟨g,1,none⟩ (.int .i64 x)).setCell ⟨g,2,none⟩ (.int .i64 e')) g s a' e':=by
 subst hx;exact h.set1.set2
theorem _root_.Tryst.RAt.alloc {w:World} {g:Nat} {s:ByteArray} {a e:Nat} (h:RAt w g s a e) (o:Obj):RAt (w.alloc o) g s a e:=h.grow (Qj _ (.refl _ _))
theorem _root_.Tryst.RAt.drew {w:World} {g:Nat} {s:ByteArray} {a e:Nat} (h:RAt w g s a e):RAt w.drew g s a e:=⟨h.c0,h.c1,h.c2,h.f1,h.f2,h.hz⟩
theorem _root_.Tryst.Only.new {g c:Nat} {u v:World} (h:Only g u v) (hg:g < u.heap.size) (hc:u.heap.size<=c) (o:Nat) (x:Value):Only g u (v.setCell ⟨c,o,none⟩ x):=
 ⟨h.below.setCell (p:=⟨c,o,none⟩) (show g<=c by omega) x,fun k hk hkg=>by
  rw [Below.heap_setCell _ _ _ _ (fun e=>(by have e':k=c:=e;omega))];exact h.keep k hk hkg⟩
theorem _root_.Tryst.Only.alloc {g:Nat} {u v:World} (h:Only g u v) (hg:g < u.heap.size) (o:Obj):Only g u (v.alloc o):=
 h.trans (Only.ofBelow (Nat.lt_of_lt_of_le hg h.below.size) (Qj o (.refl _ _)))
def VV (v:V):Value:=.agg #[.bool v.num,.int .i64 v.n,.string ⟨v.s.toArray⟩]
def ValR (w:World) (g:Nat) (s:ByteArray) (v:V) (a e:Nat) (x:Ending) (w':World):Prop:=x=.returned (VV v)/\RAt w' g s a e/\Only g w w'
structure VBox (w:World) (b:Nat) (v:V):Prop where
 c0:w.cell? ⟨b,0,none⟩=some (.bool v.num)
 c1:w.cell? ⟨b,1,none⟩=some (.int .i64 v.n)
 c2:w.cell? ⟨b,2,none⟩=some (.string ⟨v.s.toArray⟩)
 f0:w.frozen? ⟨b,0,none⟩=false
 f1:w.frozen? ⟨b,1,none⟩=false
 f2:w.frozen? ⟨b,2,none⟩=false
 hz:b < w.heap.size
theorem VBox.grow {w w':World} {b:Nat} {v:V} (h:VBox w b v) (hb:Below w.heap.size w w'):VBox w' b v:=by
 obtain ⟨h0,h1,h2,h3,h4,h5,h6⟩:=h;exact ⟨by rw [hb.cell (p:=⟨b,0,none⟩) h6];exact h0,by rw [hb.cell (p:=⟨b,1,none⟩) h6];exact h1,by rw [hb.cell (p:=⟨b,2,none⟩) h6];exact h2,by rw [hb.frozen (p:=⟨b,0,none⟩) h6];exact h3,by rw [hb.frozen (p:=⟨b,1,none⟩) h6];exact h4,by rw [hb.frozen (p:=⟨b,2,none⟩) h6];exact h5,Nat.lt_of_lt_of_le h6 hb.size⟩
theorem VBox.alloc {w:World} {b:Nat} {v:V} (h:VBox w b v) (o:Obj):VBox (w.alloc o) b v:=h.grow (Qj _ (.refl _ _))
theorem VBox.drew {w:World} {b:Nat} {v:V} (h:VBox w b v):VBox w.drew b v:=⟨h.c0,h.c1,h.c2,h.f0,h.f1,h.f2,h.hz⟩
theorem VBox.other {w:World} {b c o:Nat} {v:V} {u:Value} (h:VBox w b v) (hc:c≠b):VBox (w.setCell ⟨c,o,none⟩ u) b v:=by
 obtain ⟨h0,h1,h2,h3,h4,h5,h6⟩:=h
 constructor<;>simp [Qz,Qv,hc,h0,h1,h2,h3,h4,h5,h6]
theorem VBox.set {w:World} {b:Nat} {v u:V} (h:VBox w b u):VBox (((w.setCell ⟨b,0,none⟩ (.bool v.num)).setCell ⟨b,1,none⟩ (.int .i64 v.n)).setCell ⟨b,2,none⟩ (.string ⟨v.s.toArray⟩)) b v:=by
 obtain ⟨h0,h1,h2,h3,h4,h5,h6⟩:=h
 constructor<;>simp [Qz,Qv,h0,h1,h2,h3,h4,h5,h6]
theorem VBox.new (w:World) (v:V) (T:TypeId):VBox (w.alloc (.cells #[.bool v.num,.int .i64 v.n,.string ⟨v.s.toArray⟩] T)) w.heap.size v:=by
 constructor<;>simp [go_sem]
def jYp (w:World) (g:Nat) (s:ByteArray) (a:Nat) (v:V) (k e':Nat) (c:Act) (w':World):Prop:=
 ∃ g3,c=⟨#[.pointer (some ⟨g,0,none⟩),undef,.pointer (some ⟨w.heap.size,0,none⟩),.pointer (some ⟨g3,0,none⟩),.int .i64 k,.int .i64 e',.pointer (some ⟨g,0,none⟩),.pointer (some ⟨g,0,none⟩),.pointer (some ⟨g,2,none⟩),.int .i64 0,.bool false,undef,.tuple #[.agg #[.bool v.num,.int .i64 v.n,.string ⟨v.s.toArray⟩],.int .i64 k,.int .i64 e'],.pointer (some ⟨g,0,none⟩),.pointer (some ⟨g,0,none⟩),.pointer (some ⟨g,0,none⟩),.string s,.pointer (some ⟨g,0,none⟩),.pointer (some ⟨g,0,none⟩),.pointer (some ⟨g,1,none⟩),.int .i64 a,.string (s.extract a s.size),.tuple #[.agg #[.bool v.num,.int .i64 v.n,.string ⟨v.s.toArray⟩],.int .i64 k,.int .i64 e'],.agg #[.bool v.num,.int .i64 v.n,.string ⟨v.s.toArray⟩],.int .i64 k,.int .i64 e',undef,undef,undef,undef,undef,undef,undef,undef,undef,undef,undef,undef,undef,undef],[]⟩/\
  w.heap.size < g3/\RAt w' g s a 0/\Only g w w'/\VBox w' w.heap.size V.zero/\VBox w' g3 v
theorem vJX {C:Code} {P:Program} {K:Act->World->Prop} {Q:Exit->Act->World->Prop} {a:Act} {w:World} (M:Act->World->Prop) (h1:C.wp P (Exit.then M Q) a w) (h2:∀ a w,M a w->K a w):C.wp P (Exit.then K Q) a w:=
 Code.wp_mono (fun e a w h=>by cases e<;>first | exact h2 a w h | exact h) h1
set_option maxHeartbeats 3000000 in
theorem xJw (g:Nat) (s:ByteArray) (hs:s.size<=1000000000) (a e:Nat) (ha:a<=s.size) (he:e<=3) (w:World) (h:RAt w g s a e) :
    Calls Tryz.prog 187 #[.pointer (some ⟨g,0,none⟩)] w fun x w'=>ValR w g s (rval s.data.toList (a,e)).1 (rval s.data.toList (a,e)).2.1 (rval s.data.toList (a,e)).2.2 x w':=by
  have HR:=Zh h;have hgz:=h.hz;obtain ⟨c0,c1,c2,f1,f2,_⟩:=h;have hgn:g≠w.heap.size:=by omega
  by_cases h0:e=0
  · subst h0
    have hrv:rval s.data.toList (a,0)=((Jp (s.extract a s.size).data.toList).1,(a+(Jp (s.extract a s.size).data.toList).2.1,(Jp (s.extract a s.size).data.toList).2.2)):=by
      unfold rval;rw [if_neg (by simp),jJf]
    have hvl:=(qJs s.data.toList a 0 (by rw [Qx];exact ha)).1;rw [Qx,hrv] at hvl;rw [hrv];clear hrv;have hxz:(s.extract a s.size).size<=1000000000:=by rw [ByteArray.size_extract];omega
    have hT:=zJt (s.extract a s.size) hxz;revert hT hvl;generalize Jp (s.extract a s.size).data.toList=r;obtain ⟨v,k,e'⟩:=r;simp only;intro hvl hT;have HT:=Zh hT;have x1:(a:Int)<=s.size:=by omega
    have x2:(0:Int)<=a:=by omega
    have y2:IntKind.i64.wrap ((a:Int)+k)=(a:Int)+k:=IntWalk.i64_in _ (by omega);clear hT;go_enter Tryz.func187,Tryz.ntmps187;go_wp2_with fail;refine vJX (fun c w'=>jYp w g s a v k e' c w') ?_ ?_
    case refine_1=>
      go_region_with (go_at_call 216;refine (HT.out _).mono ?_;rintro x w2 ⟨rfl,hb2⟩;obtain ⟨hc2,hf2⟩:=Z8 hb2;have hsz2:=hb2.size;simp at hsz2)
      all_goals
        have hbA:Below w.heap.size w w2:=by
          (repeat (first | exact Below.refl _ _ | assumption | refine Y0 ?_ | refine Qj _ ?_ | refine bset _ (by simp) ?_ | refine Qk (by assumption) ?_ | refine Grow.below (by assumption) ?_ | refine Tryst2.Grow.below (by assumption) ?_))
        have hzA:=hbA.size;have HR2:=Zh (HR.out.grow hbA);have HO2:=Zh (Only.ofBelow hgz hbA)
        have hZ:VBox w2 w.heap.size V.zero:=by
          constructor
          · rw [hc2 _ _ (by simp<;>omega)];simp [go_sem,V.zero]
          · rw [hc2 _ _ (by simp<;>omega)];simp [go_sem,V.zero]
          · rw [hc2 _ _ (by simp<;>omega)];simp [go_sem,V.zero]
          · rw [hf2 _ _ (by simp<;>omega)];simp [go_sem]
          · rw [hf2 _ _ (by simp<;>omega)];simp [go_sem]
          · rw [hf2 _ _ (by simp<;>omega)];simp [go_sem]
          · omega
        clear hbA hb2;refine ⟨_,rfl,by omega,?_,?_,?_,?_⟩
        · (repeat (first | exact HR2.out | apply RAt.alloc | apply RAt.drew | (refine RAt.other ?_ (by omega))))
        · (repeat (first | exact HO2.out | (refine Only.alloc ?_ hgz _) | (refine Only.new ?_ hgz (by omega) _ _)))
        · (repeat (first | exact hZ | apply VBox.alloc | apply VBox.drew | (refine VBox.other ?_ (by omega))))
        · first
          | exact VBox.new _ _ _
          | (refine VBox.set (u:=V.zero) ?_
             constructor
             · rw [hc2 _ _ (by simp<;>omega)];simp [go_sem,V.zero]
             · rw [hc2 _ _ (by simp<;>omega)];simp [go_sem,V.zero]
             · rw [hc2 _ _ (by simp<;>omega)];simp [go_sem,V.zero]
             · rw [hf2 _ _ (by simp<;>omega)];simp [go_sem]
             · rw [hf2 _ _ (by simp<;>omega)];simp [go_sem]
             · rw [hf2 _ _ (by simp<;>omega)];simp [go_sem]
             · omega)
    case refine_2=>
      rintro c w' ⟨g3,rfl,hg3,hr,ho,hz,hv⟩;have HRm:=Zh hr;have HOm:=Zh ho;have HZm:=Zh hz;have HVm:=Zh hv;obtain ⟨d0,d1,d2,d3,d4,d5⟩:=hr;obtain ⟨q0,q1,q2,q3,q4,q5,q6⟩:=hz;obtain ⟨r0,r1,r2,r3,r4,r5,r6⟩:=hv;have n1:g3≠g:=by omega
      have n2:w.heap.size≠g:=by omega
      have n3:g3≠w.heap.size:=by omega
      clear ho c0 c1 c2 f1 f2;have HRf:=Zh ((((HRm.out.put (a':=a+k) (e':=e') (x:=(a:Int)+k) (by omega)).other (c:=w.heap.size) (o:=0) (u:=.bool v.num) n2).other (c:=w.heap.size) (o:=1) (u:=.int .i64 v.n) n2).other (c:=w.heap.size) (o:=2) (u:=.string ⟨v.s.toArray⟩) n2);have HOf:=Zh (((((HOm.out.set 1 (.int .i64 ((a:Int)+k))).set 2 (.int .i64 e')).new hgz (Nat.le_refl _) 0 (.bool v.num)).new hgz (Nat.le_refl _) 1 (.int .i64 v.n)).new hgz (Nat.le_refl _) 2 (.string ⟨v.s.toArray⟩));go_wp2_with fail;exact bodyPost_ret (v:=.agg #[.bool v.num,.int .i64 v.n,.string ⟨v.s.toArray⟩]) (by simp [results,Tryz.results187,go_sem, *]) rfl ⟨rfl,HRf.out,HOf.out⟩
  · have hrv:rval s.data.toList (a,e)=(V.zero,(a,e)):=by unfold rval;rw [if_pos h0]
    rw [hrv];clear hrv;have e1':((e:Int) != 0)=true:=by simp;omega
    go_enter Tryz.func187,Tryz.ntmps187;go_wp2_with fail;exact bodyPost_ret (v:=.agg #[.bool false,.int .i64 0,.string ⟨#[]⟩]) (by simp [results,Tryz.results187,go_sem, *]) rfl ⟨rfl,HR.out.grow (Qj _ (.refl _ _)),Only.ofBelow hgz (Qj _ (.refl _ _))⟩
end Go.Proofs.YtcbicdencgjfiaaGreatDoor
namespace Tryst
open Go Go.RowKit
theorem EAt.only {v w:World} {g b:Nat} {t p:ByteArray} {q:Int} {u:Value} (h:EAt v b t p q u) (ho:Only g v w) (hb:b < v.heap.size) (hne:b≠g):EAt w b t p q u:=by
 obtain ⟨h1,h2,h3,h4,g1,g2,g3,g4⟩:=h;have e:=ho.keep b hb hne;have hf:∀ j,w.frozen? ⟨b,j,none⟩=v.frozen? ⟨b,j,none⟩:=fun j=>by simp [World.frozen?,e]
 exact ⟨by rw [World.cell?_of_block (w:=v) (a:=⟨b,0,none⟩) e];exact h1,by rw [World.cell?_of_block (w:=v) (a:=⟨b,1,none⟩) e];exact h2,by rw [World.cell?_of_block (w:=v) (a:=⟨b,2,none⟩) e];exact h3,by rw [World.cell?_of_block (w:=v) (a:=⟨b,3,none⟩) e];exact h4,
  by rw [hf];exact g1,by rw [hf];exact g2,by rw [hf];exact g3,by rw [hf];exact g4⟩
theorem EAt.put0 {w:World} {b:Nat} {t p t':ByteArray} {q:Int} {u:Value} (h:EAt w b t p q u):EAt (w.setCell ⟨b,0,none⟩ (.string t')) b t' p q u:=by
 obtain ⟨h1,h2,h3,h4,g1,g2,g3,g4⟩:=h
 constructor<;>simp [Qz,Qv,h1,h2,h3,h4,g1,g2,g3,g4]
theorem EAt.put1 {w:World} {b:Nat} {t p p':ByteArray} {q:Int} {u:Value} (h:EAt w b t p q u):EAt (w.setCell ⟨b,1,none⟩ (.string p')) b t p' q u:=by
 obtain ⟨h1,h2,h3,h4,g1,g2,g3,g4⟩:=h
 constructor<;>simp [Qz,Qv,h1,h2,h3,h4,g1,g2,g3,g4]
theorem EAt.put2 {w:World} {b:Nat} {t p:ByteArray} {q q':Int} {u:Value} (h:EAt w b t p q u):EAt (w.setCell ⟨b,2,none⟩ (.int .u64 q')) b t p q' u:=by
 obtain ⟨h1,h2,h3,h4,g1,g2,g3,g4⟩:=h
 constructor<;>simp [Qz,Qv,h1,h2,h3,h4,g1,g2,g3,g4]
theorem EAt.away {w:World} {b c o:Nat} {t p:ByteArray} {q:Int} {u x:Value} (h:EAt w b t p q u) (hn:c≠b):EAt (w.setCell ⟨c,o,none⟩ x) b t p q u:=by
 obtain ⟨h1,h2,h3,h4,g1,g2,g3,g4⟩:=h
 constructor<;>simp [Qz,Qv,hn,h1,h2,h3,h4,g1,g2,g3,g4]
structure TkW (w X:World) (s:ByteArray) (a e:Nat) (t p:ByteArray) (q:Int) (v:Value):Prop where
 r:RAt X (w.heap.size+1) s a e
 z:EAt X w.heap.size ⟨#[]⟩ ⟨#[]⟩ 0 (.slice none 0 0)
 ev:EAt X (w.heap.size+1+1) t p q v
 b:Below w.heap.size w X
 hz:w.heap.size+3<=X.heap.size
theorem RAt.away {w:World} {g c o:Nat} {s:ByteArray} {a e:Nat} {u:Value} (h:RAt w g s a e) (hc:c≠g):RAt (w.setCell ⟨c,o,none⟩ u) g s a e:=by
 obtain ⟨h0,h1,h2,h3,h4,h5⟩:=h
 constructor<;>simp [Qz,Qv,hc,h0,h1,h2,h3,h4,h5]
theorem TkW.only {w X Y:World} {s:ByteArray} {a e a' e':Nat} {t p:ByteArray} {q:Int} {v:Value} (h:TkW w X s a e t p q v) (hr:RAt Y (w.heap.size+1) s a' e') (ho:Only (w.heap.size+1) X Y):TkW w Y s a' e' t p q v:=by
 have:=h.hz;exact ⟨hr,h.z.only ho (by omega) (by omega),h.ev.only ho (by omega) (by omega),h.b.trans (ho.below.mono (by omega)),Nat.le_trans this ho.below.size⟩
theorem TkW.grow {w X Y:World} {s:ByteArray} {a e:Nat} {t p:ByteArray} {q:Int} {v:Value} (h:TkW w X s a e t p q v) (hb:Below X.heap.size X Y):TkW w Y s a e t p q v:=by
 have:=h.hz;exact ⟨h.r.grow hb,h.z.grow (by omega) hb,h.ev.grow (by omega) hb,h.b.trans (hb.mono (by omega)),Nat.le_trans this hb.size⟩
theorem TkW.put0 {w X:World} {s:ByteArray} {a e:Nat} {t p t':ByteArray} {q:Int} {v:Value} (h:TkW w X s a e t p q v):TkW w (X.setCell ⟨w.heap.size+1+1,0,none⟩ (.string t')) s a e t' p q v:=
 ⟨h.r.away (by omega),h.z.away (by omega),h.ev.put0,h.b.setCell (p:=⟨w.heap.size+1+1,0,none⟩) (by simp;omega) _,by have:=h.hz;simp;omega⟩
theorem TkW.put1 {w X:World} {s:ByteArray} {a e:Nat} {t p p':ByteArray} {q:Int} {v:Value} (h:TkW w X s a e t p q v):TkW w (X.setCell ⟨w.heap.size+1+1,1,none⟩ (.string p')) s a e t p' q v:=
 ⟨h.r.away (by omega),h.z.away (by omega),h.ev.put1,h.b.setCell (p:=⟨w.heap.size+1+1,1,none⟩) (by simp;omega) _,by have:=h.hz;simp;omega⟩
theorem TkW.put2 {w X:World} {s:ByteArray} {a e:Nat} {t p:ByteArray} {q q':Int} {v:Value} (h:TkW w X s a e t p q v):TkW w (X.setCell ⟨w.heap.size+1+1,2,none⟩ (.int .u64 q')) s a e t p q' v:=
 ⟨h.r.away (by omega),h.z.away (by omega),h.ev.put2,h.b.setCell (p:=⟨w.heap.size+1+1,2,none⟩) (by simp;omega) _,by have:=h.hz;simp;omega⟩
theorem TkW.put3 {w X:World} {s:ByteArray} {a e:Nat} {t p:ByteArray} {q:Int} {v v':Value} (h:TkW w X s a e t p q v):TkW w (X.setCell ⟨w.heap.size+1+1,3,none⟩ v') s a e t p q v':=
 ⟨h.r.away (by omega),h.z.away (by omega),h.ev.set3,h.b.setCell (p:=⟨w.heap.size+1+1,3,none⟩) (by simp;omega) _,by have:=h.hz;simp;omega⟩
theorem TkW.err {w X:World} {s:ByteArray} {a e e':Nat} {t p:ByteArray} {q:Int} {v:Value} (h:TkW w X s a e t p q v):TkW w (X.setCell ⟨w.heap.size+1,2,none⟩ (.int .i64 e')) s a e' t p q v:=
 ⟨h.r.set2,h.z.away (by omega),h.ev.away (by omega),h.b.setCell (p:=⟨w.heap.size+1,2,none⟩) (by simp) _,by have:=h.hz;simp;omega⟩
theorem TkW.far {w X:World} {s:ByteArray} {a e c o:Nat} {t p:ByteArray} {q:Int} {v u:Value} (h:TkW w X s a e t p q v) (hc:w.heap.size+3<=c):TkW w (X.setCell ⟨c,o,none⟩ u) s a e t p q v:=
 ⟨h.r.away (by omega),h.z.away (by omega),h.ev.away (by omega),h.b.setCell (p:=⟨c,o,none⟩) (by simp;omega) _,by have:=h.hz;simp;omega⟩
structure FR (X:World) (B:Nat) (a:Option Addr) (L:List FB):Prop where
 fl:Flds X a L
 own:∀ A,a=some A->A=⟨A.block,0,none⟩/\B<=A.block/\A.block < X.heap.size/\∀ j,X.frozen? ⟨A.block,j,none⟩=false
theorem FR.only {X Y:World} {B g:Nat} {a:Option Addr} {L:List FB} (h:FR X B a L) (ho:Only g X Y) (hg:g < B):FR Y B a L:=by
 refine ⟨fun i hi=>?_,fun A hA=>?_⟩
 · obtain ⟨b,o,h1,h2,h3⟩:=h.fl i hi;obtain ⟨_,g2,_⟩:=h.own _ h1;exact ⟨b,o,h1,Nat.lt_of_lt_of_le h2 ho.below.size,h3.of_block (ho.keep b h2 (by have g2':B<=b:=g2;omega))⟩
 ·
  obtain ⟨g1,g2,g3,g4⟩:=h.own A hA;refine ⟨g1,g2,Nat.lt_of_lt_of_le g3 ho.below.size,fun j=>?_⟩;have e:=ho.keep A.block g3 (by omega);have:=g4 j
  simpa [World.frozen?,e] using this
theorem FR.away {X:World} {B c o:Nat} {a:Option Addr} {L:List FB} {u:Value} (h:FR X B a L) (hc:c < B):FR (X.setCell ⟨c,o,none⟩ u) B a L:=by
 refine ⟨fun i hi=>?_,fun A hA=>?_⟩
 ·
  obtain ⟨b,o',h1,h2,h3⟩:=h.fl i hi;obtain ⟨_,g2,_⟩:=h.own _ h1;have hne:c≠b:=by have g2':B<=b:=g2;omega
  obtain ⟨k0,k1,k2,k3⟩:=h3;exact ⟨b,o',h1,by simpa using h2,⟨by simp [Qz,hne,k0],by simp [Qz,hne,k1],by simp [Qz,hne,k2],by simp [Qz,hne,k3]⟩⟩
 ·
  obtain ⟨g1,g2,g3,g4⟩:=h.own A hA;refine ⟨g1,g2,by simpa using g3,fun j=>?_⟩;have hne:c≠A.block:=by omega
  simp [Qv,g4 j]
theorem FR.grow {X Y:World} {B:Nat} {a:Option Addr} {L:List FB} (h:FR X B a L) (hb:Below X.heap.size X Y):FR Y B a L:=
 ⟨h.fl.grow hb,fun A hA=>by
  obtain ⟨g1,g2,g3,g4⟩:=h.own A hA;exact ⟨g1,g2,Nat.lt_of_lt_of_le g3 hb.size,fun j=>by rw [hb.frozen (p:=⟨A.block,j,none⟩) g3];exact g4 j⟩⟩
theorem FR.name {X:World} {B F:Nat} {L:List FB} {i:Nat} (h:FR X B (some ⟨F,0,none⟩) L) (hi:i < L.length) (nm:ByteArray):FR (X.setCell ⟨F,i*4,none⟩ (.string nm)) B (some ⟨F,0,none⟩) (L.set i { L[i] with name:=nm }):=by
 refine ⟨fun j hj=>?_,fun A hA=>?_⟩
 ·
  rw [List.length_set] at hj;obtain ⟨hb,k0,k1,k2,k3⟩:=h.fl.at hj;rw [Nat.zero_add] at k0 k1 k2 k3;refine ⟨F,0,rfl,by simpa using hb,?_⟩;rw [Nat.zero_add]
  by_cases e:i=j
  · subst e;rw [List.getElem_set_self];exact ⟨by simp [Qz,k0],by simp [Qz,k1],by simp [Qz,k2],by simp [Qz,k3]⟩
  ·
   rw [List.getElem_set_ne e];have n0:¬ i*4=j*4:=by omega
   have n1:¬ i*4=j*4+1:=by omega
   have n2:¬ i*4=j*4+2:=by omega
   have n3:¬ i*4=j*4+3:=by omega
   exact ⟨by simp [Qz,n0,k0],by simp [Qz,n1,k1],by simp [Qz,n2,k2],by simp [Qz,n3,k3]⟩
 · obtain ⟨g1,g2,g3,g4⟩:=h.own A hA;exact ⟨g1,g2,by simpa using g3,fun j=>by simp [Qv,g4 j]⟩
theorem FR.val {X:World} {B F:Nat} {L:List FB} {i:Nat} (h:FR X B (some ⟨F,0,none⟩) L) (hi:i < L.length) (x:Bool) (n:Int) (s:ByteArray) :
  FR (((X.setCell ⟨F,i*4+1,none⟩ (.bool x)).setCell ⟨F,i*4+2,none⟩ (.int .i64 n)).setCell ⟨F,i*4+3,none⟩ (.string s)) B (some ⟨F,0,none⟩) (L.set i ⟨L[i].name,x,n,s⟩):=by
 refine ⟨fun j hj=>?_,fun A hA=>?_⟩
 ·
  rw [List.length_set] at hj;obtain ⟨hb,k0,k1,k2,k3⟩:=h.fl.at hj;rw [Nat.zero_add] at k0 k1 k2 k3;refine ⟨F,0,rfl,by simpa using hb,?_⟩;rw [Nat.zero_add]
  by_cases e:i=j
  · subst e;rw [List.getElem_set_self];exact ⟨by simp [Qz,k0],by simp [Qz,k1],by simp [Qz,k2],by simp [Qz,k3]⟩
  ·
   rw [List.getElem_set_ne e];have e4:¬ i*4=j*4:=by omega
   have m01:¬ i*4=j*4+1:=by omega
   have m02:¬ i*4=j*4+2:=by omega
   have m03:¬ i*4=j*4+3:=by omega
   have m10:¬ i*4+1=j*4:=by omega
   have m12:¬ i*4+1=j*4+2:=by omega
   have m13:¬ i*4+1=j*4+3:=by omega
   have m20:¬ i*4+2=j*4:=by omega
   have m21:¬ i*4+2=j*4+1:=by omega
   have m23:¬ i*4+2=j*4+3:=by omega
   have m30:¬ i*4+3=j*4:=by omega
   have m31:¬ i*4+3=j*4+1:=by omega
   have m32:¬ i*4+3=j*4+2:=by omega
   exact ⟨by simp [Qz,e4,m01,m02,m03,m10,m12,m13,m20,m21,m23,m30,m31,m32,k0],by simp [Qz,e4,m01,m02,m03,m10,m12,m13,m20,m21,m23,m30,m31,m32,k1],by simp [Qz,e4,m01,m02,m03,m10,m12,m13,m20,m21,m23,m30,m31,m32,k2],by simp [Qz,e4,m01,m02,m03,m10,m12,m13,m20,m21,m23,m30,m31,m32,k3]⟩
 · obtain ⟨g1,g2,g3,g4⟩:=h.own A hA;exact ⟨g1,g2,by simpa using g3,fun j=>by simp [Qv,g4 j]⟩
def fbOf (f:Fld):FB:=⟨⟨f.name.toArray⟩,f.v.num,f.v.n,⟨f.v.s.toArray⟩⟩
theorem jYg (f:Fld):(fbOf f).fld=f:=by
 obtain ⟨n,b,i,s⟩:=f;simp [fbOf,FB.fld]
theorem vQB (l:List Fld):(l.map fbOf).map FB.fld=l:=by
 induction l with
 | nil=>rfl
 | cons f l ih=>rw [List.map_cons,List.map_cons,jYg,ih]
theorem vYJ (l:List UInt8) (a e:Nat) (ha:a<=l.length):(rfld l (a,e)).2.1<=l.length/\(rfld l (a,e)).1.name.length<=16/\(rfld l (a,e)).1.v.s.length<=60/\(rfld l (a,e)).1.v.Fits:=by
 unfold rfld;obtain ⟨h1,h2⟩:=vQL l 16 a e ha;generalize jQJ l 16 (a,e)=r at *;obtain ⟨t,b,c⟩:=r;obtain ⟨g1,g2,g3⟩:=qJs l b c h2;exact ⟨g1,h1,g2,g3⟩
end Tryst
namespace Go.Proofs.YtcbicdencgjfiaaGreatDoor
open Go.RowKit Tryst
def zQ5 (n:Nat):Array Value:=((List.replicate n FB.zero).flatMap FB.cells).toArray
theorem makeN (n:Nat) (h0:0 < n) (h8:n<=8):∀ w:World,(Instr.makeSlice 92 (.int .u64 n) (.int .u64 n)).run Tryz.prog w=.ok (.slice (some ⟨w.heap.size,0,none⟩) n n) (w.alloc (.cells (zQ5 n) 209)):=by
 have h:n=1∨n=2∨n=3∨n=4∨n=5∨n=6∨n=7∨n=8:=by omega
 rcases h with rfl | rfl | rfl | rfl | rfl | rfl | rfl | rfl<;>(intro w;kernel_rfl)
theorem xJj (w:World) (n:Nat) (T:TypeId):FR (w.alloc (.cells (zQ5 n) T)) w.heap.size (some ⟨w.heap.size,0,none⟩) (List.replicate n FB.zero):=by
 have hb:(w.alloc (.cells (zQ5 n) T)).heap[w.heap.size]?=some (.cells (zQ5 n) T (0,0)):=by show (w.heap.push _)[_]?=_;simp
 refine ⟨fun i hi=>⟨w.heap.size,0,rfl,by simp,?_⟩,fun A hA=>?_⟩
 ·
  rw [Nat.zero_add]
  have hc:∀ j,j < 4->(w.alloc (.cells (zQ5 n) T)).cell? ⟨w.heap.size,i*4+j,none⟩=((List.replicate n FB.zero)[i]).cells[j]?:=fun j hj=>by
   rw [Lib.cell_of_heap hb,<- xQA _ i hi j hj];simp [zQ5]
  exact ⟨hc 0 (by omega),hc 1 (by omega),hc 2 (by omega),hc 3 (by omega)⟩
 ·
  obtain rfl:(⟨w.heap.size,0,none⟩:Addr)=A:=by simpa using hA
  exact ⟨rfl,Nat.le_refl _,by simp,fun j=>Lib.frozen_of_heap hb j⟩
def vY4 (w:World) (E:Ev) (k e:Nat) (x:Ending) (w':World):Prop:=
 ∃ a c,x=.returned (.tuple #[.agg #[.string ⟨E.topic.toArray⟩,.string ⟨E.prod.toArray⟩,.int .u64 E.seq,.slice a E.l.length c],.int .i64 k,.int .i64 e])/\Flds w' a (E.l.map fbOf)/\Sl a c E.l.length/\Below w.heap.size w w'
def TkRel (w:World) (s:ByteArray) (t p:ByteArray) (q:Int) (ad:Option Addr) (N:Nat) (R:List Fld × (Nat × Nat)) (i:Value) (X:World):Prop:=
 ∃ (k a e:Nat) (got:List Fld),k<=N/\i=.int .i64 k/\got.length=k/\a<=s.size/\e<=3/\Hid (R=(got++(jQy s.data.toList (N - k) (a,e)).1,(jQy s.data.toList (N - k) (a,e)).2))/\Hid (∀ f∈got,f.name.length<=16/\f.v.s.length<=60/\f.v.Fits)/\
  Hid (TkW w X s a e t p q (.slice ad N N))/\Hid (FR X (w.heap.size+3) ad (got.map fbOf++List.replicate (N - k) FB.zero))
theorem _root_.Tryst.FR.lower {X:World} {B C:Nat} {a:Option Addr} {L:List FB} (h:FR X B a L) (hC:C<=B):FR X C a L:=
 ⟨h.fl,fun A hA=>by
  obtain ⟨g1,g2,g3,g4⟩:=h.own A hA;exact ⟨g1,by omega,g3,g4⟩⟩
theorem kJb (l:List UInt8) (a e:Nat) (he:e<=3):(rval l (a,e)).2.2<=3:=by
 unfold rval
 split
 · exact he
 ·
  show (Jp (l.drop a)).2.2<=3;unfold Jp
  split
  · exact Nat.le_refl 3
  ·
   rename_i c r _
   split
   · simp
   ·
    split
    ·
     rcases kQs r with h | h | h
     · rename_i h2;exact absurd h h2
     · rw [h];simp
     · rw [h];simp
    ·
     split
     · simp
     ·
      split
      · simp
      · split<;>simp
theorem jYx {l:List UInt8} {R:List Fld × (Nat × Nat)} {got:List Fld} {N k a e a' e':Nat} {f:Fld} (h:R=(got++(jQy l (N - k) (a,e)).1,(jQy l (N - k) (a,e)).2)) (hk:k < N) (hf:rfld l (a,e)=(f,(a',e'))) :
  R=((got++[f])++(jQy l (N - (k+1)) (a',e')).1,(jQy l (N - (k+1)) (a',e')).2):=by
 rw [h,show N - k=(N - (k+1))+1 by omega];show (got++((rfld l (a,e)).1 :: (jQy l (N - (k+1)) (rfld l (a,e)).2).1),(jQy l (N - (k+1)) (rfld l (a,e)).2).2)=_;rw [hf];simp
theorem xJo (got:List Fld) (f:Fld) (N:Nat) {k:Nat} (hg:got.length=k) (hk:k < N):∀ (x:FB),((got.map fbOf++List.replicate (N - k) FB.zero).set k x).set k (fbOf f)=(got++[f]).map fbOf++List.replicate (N - (k+1)) FB.zero:=by
 intro x;rw [List.set_set,List.set_append_right _ _ (by simp;omega),show N - k=(N - (k+1))+1 by omega,List.replicate_succ];simp [hg]
set_option maxHeartbeats 4000000 in
theorem kJ3 (s:ByteArray) (hs:s.size<=1000000000) (w:World) (hM:MaxW w) :
  Calls Tryz.prog 136 #[.string s] w fun x w'=>vY4 w (qQB s.data.toList).1 (qQB s.data.toList).2.1 (qQB s.data.toList).2.2 x w':=by
 have HM:=Zh hM;obtain ⟨l,hl⟩:∃ l,s.data.toList=l:=⟨_,rfl⟩;have hll:l.length=s.size:=by rw [<- hl,Qx]
 -- the pieces
 obtain ⟨⟨T,a1,e1⟩,h1⟩:∃ r,rE1 l=r:=⟨_,rfl⟩;have b1:=vQL l 40 0 0 (Nat.zero_le _);have g1:=kQV l 40 0 0 (by omega);have r1:jQJ l 40 (0,0)=(T,(a1,e1)):=h1;rw [r1] at b1 g1;obtain ⟨⟨U,a2,e2⟩,h2⟩:∃ r,rE2 l=r:=⟨_,rfl⟩;have r2:jQJ l 16 (a1,e1)=(U,(a2,e2)):=by rw [<- h2];unfold rE2;rw [h1]
 have b2:=vQL l 16 a1 e1 b1.2;have g2:=kQV l 16 a1 e1 g1;rw [r2] at b2 g2;obtain ⟨⟨q,a3,e3⟩,h3⟩:∃ r,rE3 l=r:=⟨_,rfl⟩;have r3:rnum l 18446744073709551615 (a2,e2)=(q,(a3,e3)):=by rw [<- h3];unfold rE3;rw [h2]
 have b3:=zQo l 18446744073709551615 a2 e2 b2.2;have g3:=kQL l 18446744073709551615 a2 e2 g2;rw [r3] at b3 g3;obtain ⟨⟨N,a4,e4⟩,h4⟩:∃ r,rE4 l=r:=⟨_,rfl⟩;have r4:rnum l 8 (a3,e3)=(N,(a4,e4)):=by rw [<- h4];unfold rE4;rw [h3]
 have b4:=zQo l 8 a3 e3 b3.2;have g4:=kQL l 8 a3 e3 g3;rw [r4] at b4 g4;obtain ⟨R,h5⟩:∃ R,rE5 l=R:=⟨_,rfl⟩;have r5:jQy l N (a4,e4)=R:=by rw [<- h5];unfold rE5;rw [h4]
 have hE:rE l=⟨T,U,q,R.1⟩:=by unfold rE;rw [h1,h2,h3,h5]
 have hTk:qQB l=if R.2.2≠0 then (Ev.zero,0,R.2.2) else if 800 < R.2.1∨(⟨T,U,q,R.1⟩:Ev).may=false then (Ev.zero,0,2) else (⟨T,U,q,R.1⟩,R.2.1,0):=by
  unfold qQB;rw [h5,hE]
 rw [hl,hTk];generalize hres:(if R.2.2≠0 then (Ev.zero,0,R.2.2) else if 800 < R.2.1∨(⟨T,U,q,R.1⟩:Ev).may=false then (Ev.zero,0,2) else ((⟨T,U,q,R.1⟩:Ev),R.2.1,0))=res;obtain ⟨E0,k0,e0⟩:=res;simp only;have HRES:=Zh hres;clear hres;simp only at b1 b2 b3 b4 g1 g2 g3 g4;rw [hll] at b1 b2 b3 b4;have c1:=vQD (w.heap.size+1) s hs 0 0 40 (by omega) (by omega) (by omega);have c2:=vQD (w.heap.size+1) s hs a1 e1 16 b1.2 g1 (by omega);have c3:=zQL (w.heap.size+1) s hs a2 e2 18446744073709551615 b2.2 g2 (by omega);have c4:=zQL (w.heap.size+1) s hs a3 e3 8 b3.2 g3 (by omega);rw [hl] at c1 c2 c3 c4;rw [r1] at c1;rw [r2] at c2;rw [r3] at c3;rw [r4] at c4;have C1:=Zh c1;have C2:=Zh c2;have C3:=Zh c3;have C4:=Zh c4;have R5:=Zh r5;have HL:=Zh hl;clear c1 c2 c3 c4 r1 r2 r3 r4 r5 h1 h2 h3 h4 h5 hE hTk hM hl;obtain ⟨b1a,b1b⟩:=b1;obtain ⟨b2a,b2b⟩:=b2;obtain ⟨b3a,b3b⟩:=b3;obtain ⟨b4a,b4b⟩:=b4;go_enter Tryz.func136,Tryz.ntmps136;go_wp2_with fail
 have hX:TkW w (((w.alloc (.cells #[.string ⟨#[]⟩,.string ⟨#[]⟩,.int .u64 0,.slice none 0 0] 94)).alloc (.cells #[.string s,.int .i64 0,.int .i64 0] 257)).alloc (.cells #[.string ⟨#[]⟩,.string ⟨#[]⟩,.int .u64 0,.slice none 0 0] 94)) s 0 0 ⟨#[]⟩ ⟨#[]⟩ 0 (.slice none 0 0):=by
  refine ⟨?_,?_,?_,Qj _ (Qj _ (Qj _ (.refl _ _))),by simp⟩
  · constructor<;>simp [go_sem]
  · constructor<;>simp [go_sem]
  · constructor<;>simp [go_sem]
 revert hX;generalize ((w.alloc (.cells #[.string ⟨#[]⟩,.string ⟨#[]⟩,.int .u64 0,.slice none 0 0] 94)).alloc (.cells #[.string s,.int .i64 0,.int .i64 0] 257)).alloc (.cells #[.string ⟨#[]⟩,.string ⟨#[]⟩,.int .u64 0,.slice none 0 0] 94)=X;intro hX;have HX:=Zh hX;clear hX;refine (C1.out X HX.out.r).mono ?_;rintro x w1 ⟨rfl,hr,ho⟩;have H1:=Zh (HX.out.only hr ho);clear hr ho;obtain ⟨d0,d1,d2,d3,d4,d5,d6,d7⟩:=H1.out.ev;have hwz:w.heap.size+1+1 < w1.heap.size:=by have:=H1.out.hz;omega
 go_wp2_with fail;have H1':=Zh (H1.out.put0 (t':=⟨T.toArray⟩));clear H1 d0 d1 d2 d3 d4 d5 d6 d7 C1 hwz;refine (C2.out _ H1'.out.r).mono ?_;rintro x w2 ⟨rfl,hr,ho⟩;have H2:=Zh (H1'.out.only hr ho);clear hr ho;obtain ⟨d0,d1,d2,d3,d4,d5,d6,d7⟩:=H2.out.ev;have hwz:w.heap.size+1+1 < w2.heap.size:=by have:=H2.out.hz;omega
 go_wp2_with fail;have H2':=Zh (H2.out.put1 (p':=⟨U.toArray⟩));clear H2 H1' d0 d1 d2 d3 d4 d5 d6 d7 C2 hwz;refine (C3.out _ H2'.out.r).mono ?_;rintro x w3 ⟨rfl,hr,ho⟩;have H3:=Zh (H2'.out.only hr ho);clear hr ho;obtain ⟨d0,d1,d2,d3,d4,d5,d6,d7⟩:=H3.out.ev;have hwz:w.heap.size+1+1 < w3.heap.size:=by have:=H3.out.hz;omega
 go_wp2_with fail;have H3':=Zh (H3.out.put2 (q':=q));clear H3 H2' d0 d1 d2 d3 d4 d5 d6 d7 C3 hwz;refine (C4.out _ H3'.out.r).mono ?_;rintro x w4 ⟨rfl,hr,ho⟩;have H4:=Zh (H3'.out.only hr ho);clear hr ho;obtain ⟨d0,d1,d2,d3,d4,d5,d6,d7⟩:=H4.out.ev;have hwz:w.heap.size+1+1 < w4.heap.size:=by have:=H4.out.hz;omega
 clear H3' C4
 by_cases hN:N=0
 ·
  subst hN;have x1:¬ (0:Int) < ((0:Nat):Int):=by simp
  have HFR:Hid (FR w4 (w.heap.size+3) none (([]:List Fld).map fbOf)):=⟨Flds.nil _ _,fun A hA=>by cases hA⟩
  have hR0:Hid (R=(([]:List Fld),(a4,e4))):=by
   show R=_;rw [<- R5.out];rfl
  go_wp2_with fail;clear d0 d1 d2 d3 d4 d5 d6 d7 hwz;go_loopw [26] (fun i X=>X=w4/\i=.int .i64 0) (fun _ _=>0)
  case atStart=>exact ⟨rfl,rfl⟩
  case round=>
   obtain ⟨rfl,rfl⟩:=hrel;have hres:=HRES.out;rw [hR0.out] at hres;simp only at hres;have hgN:([]:List Fld).length=0:=rfl;have HG:Hid (∀ f∈([]:List Fld),f.name.length<=16/\f.v.s.length<=60/\f.v.Fits):=fun f hf=>by cases hf
   clear R5 hR0;obtain ⟨r0,r1,r2,r3,r4,r5⟩:=H4.out.r;obtain ⟨d0,d1,d2,d3,d4,d5,d6,d7⟩:=H4.out.ev;obtain ⟨z0,z1,z2,z3,z4,z5,z6,z7⟩:=H4.out.z;have hwz:w.heap.size+1+1 < wr.heap.size:=by have:=H4.out.hz;omega
   have hwz1:w.heap.size+1 < wr.heap.size:=by omega
   have hwz2:w.heap.size < wr.heap.size:=by omega
   have hgl2:((([]:List Fld)).map fbOf).length=0:=by rw [List.length_map];exact hgN
   by_cases he0:e4=0
   ·
    subst he0;rw [if_neg (by simp)] at hres
    by_cases h8:800 < a4
    ·
     rw [if_pos (.inl h8)] at hres;have HQ:=Zh hres;clear hres;have y1:(800:Int) < a4:=by omega
     go_wp2_with fail
     go_region
     go_wp2_with fail;refine bodyPost_ret (v:=.tuple #[.agg #[.string ⟨#[]⟩,.string ⟨#[]⟩,.int .u64 0,.slice none 0 0],.int .i64 0,.int .i64 2]) (by simp [results,Tryz.results136,go_sem, *]) rfl ?_;have hq:=HQ.out;rw [Prod.mk.injEq,Prod.mk.injEq] at hq;rw [<- hq.1,<- hq.2.1,<- hq.2.2];refine ⟨none,0,rfl,Flds.nil _ _,⟨Nat.le_refl _,(fun A h=>by cases h),fun _=>rfl⟩,?_⟩
     (repeat (first | with_reducible exact H4.out.b | with_reducible refine Y0 ?_ | with_reducible refine bset _ (by simp<;>omega) ?_))
    ·
     have y1:¬ (800:Int) < a4:=by omega
     have hbm:=H4.out.b
     have cm:=kJ1 ⟨T.toArray⟩ ⟨U.toArray⟩ q none 0 ((([]:List Fld)).map fbOf) (by rw [hgl2];omega) (by rw [mk_size];omega) (by rw [mk_size];omega) (fun f hf=>by
      obtain ⟨f',hf',rfl⟩:=List.mem_map.1 hf;obtain ⟨k1,k2,_⟩:=HG.out f' hf';exact ⟨Nat.le_trans (show (fbOf f').name.size<=16 from k1) (by omega),Nat.le_trans (show (fbOf f').s.size<=60 from k2) (by omega)⟩) wr (HM.out.grow hbm) HFR.out.fl (by omega) (by omega)
     rw [hgl2,show jQA ⟨T.toArray⟩ ⟨U.toArray⟩ q ((([]:List Fld)).map fbOf)=(⟨T,U,q,([]:List Fld)⟩:Ev).may by rw [xQl _ _ _ _ (by omega)];unfold evE;rw [vQB];simp] at cm;have CM:=Zh cm;clear cm hbm;cases hmay:(⟨T,U,q,([]:List Fld)⟩:Ev).may with
     | true=>
      rw [if_neg (by rw [hmay];simp;omega)] at hres;have HQ:=Zh hres;clear hres;have HMY:=Zh hmay;clear hmay;go_wp2_with fail;refine CM.out.mono ?_;rintro x w6 ⟨rfl,hb6⟩;rw [HMY.out];have HT6:=Zh (H4.out.grow hb6);have HF6:=Zh (HFR.out.grow hb6);have hwy:w.heap.size+1+1 < w6.heap.size:=Nat.lt_of_lt_of_le hwz hb6.size;have hwy1:w.heap.size+1 < w6.heap.size:=by omega
      have hwy2:w.heap.size < w6.heap.size:=by omega
      clear hb6 r0 r1 r2 r3 r4 r5 d0 d1 d2 d3 d4 d5 d6 d7 z0 z1 z2 z3 z4 z5 z6 z7 hwz hwz1 hwz2;obtain ⟨r0,r1,r2,r3,r4,r5⟩:=HT6.out.r;obtain ⟨d0,d1,d2,d3,d4,d5,d6,d7⟩:=HT6.out.ev;obtain ⟨z0,z1,z2,z3,z4,z5,z6,z7⟩:=HT6.out.z;have hf1:=HF6.out.grow (Y0 (.refl w6.heap.size w6));have hf2:=(((hf1.away (c:=w.heap.size) (o:=0) (u:=.string ⟨T.toArray⟩) (by omega)).away (c:=w.heap.size) (o:=1) (u:=.string ⟨U.toArray⟩) (by omega)).away (c:=w.heap.size) (o:=2) (u:=.int .u64 q) (by omega)).away (c:=w.heap.size) (o:=3) (u:=.slice none 0 0) (by omega);have HF7:=Zh hf2;clear hf1 hf2;go_wp2_with fail
      go_region
      go_wp2_with fail;refine bodyPost_ret (v:=.tuple #[.agg #[.string ⟨T.toArray⟩,.string ⟨U.toArray⟩,.int .u64 q,.slice none 0 0],.int .i64 a4,.int .i64 0]) (by simp [results,Tryz.results136,go_sem, *]) rfl ?_;have hq:=HQ.out;rw [Prod.mk.injEq,Prod.mk.injEq] at hq;rw [<- hq.1,<- hq.2.1,<- hq.2.2];refine ⟨none,0,(by show Ending.returned _=Ending.returned (.tuple #[.agg #[.string ⟨T.toArray⟩,.string ⟨U.toArray⟩,.int .u64 q,.slice none (([]:List Fld)).length 0],.int .i64 a4,.int .i64 0]);rw [hgN]),HF7.out.fl,?_,?_⟩
      · rw [show (⟨T,U,q,([]:List Fld)⟩:Ev).l.length=0 from hgN];exact ⟨Nat.le_refl _,fun A h=>(by cases h),fun _=>rfl⟩
      · (repeat (first | with_reducible exact HT6.out.b | with_reducible refine Y0 ?_ | with_reducible refine bset _ (by simp<;>omega) ?_))
     | false=>
      rw [if_pos (.inr hmay)] at hres;have HQ:=Zh hres;clear hres;have HMY:=Zh hmay;clear hmay;go_wp2_with fail;refine CM.out.mono ?_;rintro x w6 ⟨rfl,hb6⟩;rw [HMY.out];have HT6:=Zh (H4.out.grow hb6);have hwy:w.heap.size+1+1 < w6.heap.size:=Nat.lt_of_lt_of_le hwz hb6.size;have hwy1:w.heap.size+1 < w6.heap.size:=by omega
      have hwy2:w.heap.size < w6.heap.size:=by omega
      clear hb6 r0 r1 r2 r3 r4 r5 d0 d1 d2 d3 d4 d5 d6 d7 z0 z1 z2 z3 z4 z5 z6 z7 hwz hwz1 hwz2;obtain ⟨r0,r1,r2,r3,r4,r5⟩:=HT6.out.r;obtain ⟨d0,d1,d2,d3,d4,d5,d6,d7⟩:=HT6.out.ev;obtain ⟨z0,z1,z2,z3,z4,z5,z6,z7⟩:=HT6.out.z;go_wp2_with fail
      go_region
      go_wp2_with fail;refine bodyPost_ret (v:=.tuple #[.agg #[.string ⟨#[]⟩,.string ⟨#[]⟩,.int .u64 0,.slice none 0 0],.int .i64 0,.int .i64 2]) (by simp [results,Tryz.results136,go_sem, *]) rfl ?_;have hq:=HQ.out;rw [Prod.mk.injEq,Prod.mk.injEq] at hq;rw [<- hq.1,<- hq.2.1,<- hq.2.2];refine ⟨none,0,rfl,Flds.nil _ _,⟨Nat.le_refl _,(fun A h=>by cases h),fun _=>rfl⟩,?_⟩
      (repeat (first | with_reducible exact HT6.out.b | with_reducible refine Y0 ?_ | with_reducible refine bset _ (by simp<;>omega) ?_))
   ·
    rw [if_pos he0] at hres;have HQ:=Zh hres;clear hres;have y1:((e4:Int) != 0)=true:=by simp;omega
    have y2:((e4:Int)==0)=false:=by simp;omega
    go_wp2_with fail
    go_region
    go_wp2_with fail;refine bodyPost_ret (v:=.tuple #[.agg #[.string ⟨#[]⟩,.string ⟨#[]⟩,.int .u64 0,.slice none 0 0],.int .i64 0,.int .i64 e4]) (by simp [results,Tryz.results136,go_sem, *]) rfl ?_;have hq:=HQ.out;rw [Prod.mk.injEq,Prod.mk.injEq] at hq;rw [<- hq.1,<- hq.2.1,<- hq.2.2];refine ⟨none,0,rfl,Flds.nil _ _,⟨Nat.le_refl _,(fun A h=>by cases h),fun _=>rfl⟩,?_⟩
    (repeat (first | with_reducible exact H4.out.b | with_reducible refine Y0 ?_ | with_reducible refine bset _ (by simp<;>omega) ?_))
 ·
  have x1:(0:Int) < N:=by omega
  have hmk:=makeN N (by omega) b4a;have x0:decide (0 < N)=true:=by simp;omega
  have x00:decide ((0:Int) < N)=true:=by simp;omega
  obtain ⟨F,hF⟩:∃ F,w4.heap.size=F:=⟨_,rfl⟩;have hF3:w.heap.size+3<=F:=by have:=H4.out.hz;omega
  have H5:=Zh ((H4.out.put3 (v':=.slice (some ⟨F,0,none⟩) N N)).grow (Qj (.cells (zQ5 N) 209) (.refl _ (w4.setCell ⟨w.heap.size+1+1,3,none⟩ (.slice (some ⟨F,0,none⟩) N N)))));have hz:=xJj (w4.setCell ⟨w.heap.size+1+1,3,none⟩ (.slice (some ⟨F,0,none⟩) N N)) N 209;rw [show (w4.setCell ⟨w.heap.size+1+1,3,none⟩ (.slice (some ⟨F,0,none⟩) N N)).heap.size=F by simpa using hF] at hz;have HFR:Hid (FR ((w4.setCell ⟨w.heap.size+1+1,3,none⟩ (.slice (some ⟨F,0,none⟩) N N)).alloc (.cells (zQ5 N) 209)) (w.heap.size+3) (some ⟨F,0,none⟩) (([]:List Fld).map fbOf++List.replicate (N - 0) FB.zero)):=hz.lower hF3;clear hz;have hwF:w.heap.size+1+1 < F:=by omega
  go_wp2_with fail;clear hF;clear hmk H4 d0 d1 d2 d3 d4 d5 d6 d7 hwz;revert H5 HFR;generalize (w4.setCell ⟨w.heap.size+1+1,3,none⟩ (.slice (some ⟨F,0,none⟩) N N)).alloc (.cells (zQ5 N) 209)=Y;intro H5 HFR
  have hR0:Hid (R=(([]:List Fld)++(jQy s.data.toList (N - 0) (a4,e4)).1,(jQy s.data.toList (N - 0) (a4,e4)).2)):=by
   show R=_;rw [HL.out,Nat.sub_zero,R5.out];rfl
  go_loopw [26] (fun i X=>TkRel w s ⟨T.toArray⟩ ⟨U.toArray⟩ q (some ⟨F,0,none⟩) N R i X) (fun i _=>N - (intOf i).toNat)
  case atStart=>exact ⟨0,a4,e4,[],by omega,rfl,rfl,b4b,g4,hR0,(fun f hf=>by cases hf),H5,HFR⟩
  case round=>
   clear H5 HFR hR0 R5;obtain ⟨k,a,e,got,hk,rfl,hgl,ha,he,HRr,HG,HT,HF⟩:=hrel;obtain ⟨wo,rfl⟩:∃ wo,wo=wr:=⟨_,rfl⟩
   by_cases hlt:k < N
   ·
    obtain ⟨⟨t1,a',e'⟩,ht⟩:∃ r,jQJ s.data.toList 16 (a,e)=r:=⟨_,rfl⟩;have bt:=vQL s.data.toList 16 a e (by rw [Qx];exact ha);have gt:=kQV s.data.toList 16 a e he;have ct:=vQD (w.heap.size+1) s hs a e 16 ha he (by omega);rw [ht] at bt gt ct;simp only at bt gt;rw [Qx] at bt;obtain ⟨⟨v,a'',e''⟩,hv⟩:∃ r,rval s.data.toList (a',e')=r:=⟨_,rfl⟩;have bv:=qJs s.data.toList a' e' (by rw [Qx];exact bt.2);have gv:=kJb s.data.toList a' e' gt;have cv:=xJw (w.heap.size+1) s hs a' e' bt.2 gt;rw [hv] at bv gv cv;simp only at bv gv;rw [Qx] at bv;have hfld:rfld s.data.toList (a,e)=(⟨t1,v⟩,(a'',e'')):=by unfold rfld;rw [ht,hv]
    have HRn:=Zh (jYx HRr.out hlt hfld)
    have HGn:Hid (∀ f∈got++[(⟨t1,v⟩:Fld)],f.name.length<=16/\f.v.s.length<=60/\f.v.Fits):=fun f hf=>by
     rcases List.mem_append.1 hf with h | h
     · exact HG.out f h
     · rw [List.mem_singleton] at h;subst h;exact ⟨bt.1,bv.2.1,bv.2.2⟩
    have CT:=Zh ct;have CV:=Zh cv;have hLl:(got.map fbOf++List.replicate (N - k) FB.zero).length=N:=by rw [List.length_append,List.length_map,List.length_replicate,hgl];omega
    have HLn:=Zh (xJo got (⟨t1,v⟩:Fld) N hgl hlt);have HTd:=Zh (HT.out.grow (Y0 (.refl wo.heap.size wo)));have HFd:=Zh (HF.out.grow (Y0 (.refl wo.heap.size wo)));obtain ⟨bt1,bt2⟩:=bt;obtain ⟨bv1,bv2,bv3⟩:=bv;obtain ⟨L,hL⟩:∃ L,got.map fbOf++List.replicate (N - k) FB.zero=L:=⟨_,rfl⟩;rw [hL] at HLn hLl HFd;have hkL:k < L.length:=by omega
    have hkL2:Hid (N=L.length):=hLl.symm;clear ht hv ct cv hfld HRr HG HF hL hLl;obtain ⟨d0,d1,d2,d3,d4,d5,d6,d7⟩:=HT.out.ev;have hwz:w.heap.size+1+1 < wo.heap.size:=by have:=HT.out.hz;omega
    have x2:(k:Int) < N:=by omega
    have x3:(0:Int)<=k:=by omega
    go_wp2_with fail
    go_region_with (go_at_call 185;refine (CT.out _ HTd.out.r).mono ?_;rintro x w2 ⟨rfl,hr,ho⟩;have HT2:=Zh (HTd.out.only hr ho);have HF2:=Zh (HFd.out.only ho (by omega));obtain ⟨y0,y1,y2,y3,y4,y5,y6,y7⟩:=HT2.out.ev;obtain ⟨hFz,f0,f1,f2,f3⟩:=HF2.out.fl.at hkL;have ffz:=(HF2.out.own _ rfl).2.2.2;(simp only [Nat.zero_add] at f0 f1 f2 f3);have fz0:=ffz (k*4);clear hr ho ffz)
    all_goals
     have HT3:=Zh (HT2.out.far (c:=F) (o:=k*4) (u:=.string ⟨t1.toArray⟩) hF3);have HF3:=Zh (HF2.out.name hkL ⟨t1.toArray⟩);clear y0 y1 y2 y3 y4 y5 y6 y7 f0 f1 f2 f3 fz0 HT2 HF2 HTd HFd HT d0 d1 d2 d3 d4 d5 d6 d7 hwz CT;revert HT3 HF3;generalize w2.setCell ⟨F,k*4,none⟩ (.string ⟨t1.toArray⟩)=Z;intro HT3 HF3;obtain ⟨L2,hL2⟩:∃ L2,L.set k { L[k] with name:=⟨t1.toArray⟩ }=L2:=⟨_,rfl⟩;have hk2:k < L2.length:=by rw [<- hL2,List.length_set];exact hkL
     have hnm:L2[k].name=⟨t1.toArray⟩:=by subst hL2;rw [List.getElem_set_self]
     have HLn2:Hid (L2.set k (fbOf ⟨t1,v⟩)=(got++[(⟨t1,v⟩:Fld)]).map fbOf++List.replicate (N - (k+1)) FB.zero):=by
      show _=_;rw [<- hL2];exact HLn.out _
     rw [hL2] at HF3;have HNM:=Zh hnm;clear hL2 hnm HLn;have HTd:=Zh (HT3.out.grow (Y0 (.refl Z.heap.size Z)));have HFd:=Zh (HF3.out.grow (Y0 (.refl Z.heap.size Z)));obtain ⟨d0,d1,d2,d3,d4,d5,d6,d7⟩:=HT3.out.ev;have hwz:w.heap.size+1+1 < Z.heap.size:=by have:=HT3.out.hz;omega
     go_wp2_with fail
     go_region_with (go_at_call 187;refine (CV.out _ HTd.out.r).mono ?_;rintro x w3 ⟨rfl,hr,ho⟩;unfold VV;have HT4:=Zh (HTd.out.only hr ho);have HF4:=Zh (HFd.out.only ho (by omega));obtain ⟨y0,y1,y2,y3,y4,y5,y6,y7⟩:=HT4.out.ev;obtain ⟨hFz,f0,f1,f2,f3⟩:=HF4.out.fl.at hk2;have ffz:=(HF4.out.own _ rfl).2.2.2;(simp only [Nat.zero_add] at f0 f1 f2 f3);have fz1:=ffz (k*4+1);have fz2:=ffz (k*4+2);have fz3:=ffz (k*4+3);clear hr ho ffz)
     all_goals
      have HT5:=Zh (((HT4.out.far (c:=F) (o:=k*4+1) (u:=.bool v.num) hF3).far (c:=F) (o:=k*4+2) (u:=.int .i64 v.n) hF3).far (c:=F) (o:=k*4+3) (u:=.string ⟨v.s.toArray⟩) hF3);have hf5:=HF4.out.val hk2 v.num v.n ⟨v.s.toArray⟩;rw [HNM.out] at hf5
      have HF5:Hid (FR (((w3.setCell ⟨F,k*4+1,none⟩ (.bool v.num)).setCell ⟨F,k*4+2,none⟩ (.int .i64 v.n)).setCell ⟨F,k*4+3,none⟩ (.string ⟨v.s.toArray⟩)) (w.heap.size+3) (some ⟨F,0,none⟩) ((got++[(⟨t1,v⟩:Fld)]).map fbOf++List.replicate (N - (k+1)) FB.zero)):=by
       show FR _ _ _ _;rw [<- HLn2.out];exact hf5
      clear hf5 y0 y1 y2 y3 y4 y5 y6 y7 f0 f1 f2 f3 fz1 fz2 fz3;go_wp2_with fail;go_roundw
      case rel=>exact ⟨k+1,a'',e'',got++[(⟨t1,v⟩:Fld)],by omega,by go_num,by simp [hgl],bv1,gv,HRn,HGn,HT5,HF5⟩
      case measure=>simp [intOf]<;>omega
   ·
    have hkN:k=N:=by omega
    have hRn:R=(got,(a,e)):=by
     have:=HRr.out;rw [show N - k=0 by omega] at this;rw [this];simp [jQy]
    have hFR:FR wo (w.heap.size+3) (some ⟨F,0,none⟩) (got.map fbOf):=by
     have:=HF.out
     rwa [show N - k=0 by omega,List.replicate_zero,List.append_nil] at this
    have HFF:=Zh hFR;have hgN:got.length=N:=by omega
    have hres:=HRES.out;rw [hRn] at hres;simp only at hres;clear HRr HF hRn hFR;obtain ⟨r0,r1,r2,r3,r4,r5⟩:=HT.out.r;obtain ⟨d0,d1,d2,d3,d4,d5,d6,d7⟩:=HT.out.ev;obtain ⟨z0,z1,z2,z3,z4,z5,z6,z7⟩:=HT.out.z;have hwz:w.heap.size+1+1 < wo.heap.size:=by have:=HT.out.hz;omega
    have hwz1:w.heap.size+1 < wo.heap.size:=by omega
    have hwz2:w.heap.size < wo.heap.size:=by omega
    have hgl2:((got).map fbOf).length=N:=by rw [List.length_map];exact hgN
    by_cases he0:e=0
    ·
     subst he0;rw [if_neg (by simp)] at hres
     by_cases h8:800 < a
     ·
      rw [if_pos (.inl h8)] at hres;have HQ:=Zh hres;clear hres;have y1:(800:Int) < a:=by omega
      go_wp2_with fail
      go_region
      go_wp2_with fail;refine bodyPost_ret (v:=.tuple #[.agg #[.string ⟨#[]⟩,.string ⟨#[]⟩,.int .u64 0,.slice none 0 0],.int .i64 0,.int .i64 2]) (by simp [results,Tryz.results136,go_sem, *]) rfl ?_;have hq:=HQ.out;rw [Prod.mk.injEq,Prod.mk.injEq] at hq;rw [<- hq.1,<- hq.2.1,<- hq.2.2];refine ⟨none,0,rfl,Flds.nil _ _,⟨Nat.le_refl _,(fun A h=>by cases h),fun _=>rfl⟩,?_⟩
      (repeat (first | with_reducible exact HT.out.b | with_reducible refine Y0 ?_ | with_reducible refine bset _ (by simp<;>omega) ?_))
     ·
      have y1:¬ (800:Int) < a:=by omega
      have hbm:=HT.out.b
      have cm:=kJ1 ⟨T.toArray⟩ ⟨U.toArray⟩ q (some ⟨F,0,none⟩) N ((got).map fbOf) (by rw [hgl2];omega) (by rw [mk_size];omega) (by rw [mk_size];omega) (fun f hf=>by
       obtain ⟨f',hf',rfl⟩:=List.mem_map.1 hf;obtain ⟨k1,k2,_⟩:=HG.out f' hf';exact ⟨Nat.le_trans (show (fbOf f').name.size<=16 from k1) (by omega),Nat.le_trans (show (fbOf f').s.size<=60 from k2) (by omega)⟩) wo (HM.out.grow hbm) HFF.out.fl (by omega) (by omega)
      rw [hgl2,show jQA ⟨T.toArray⟩ ⟨U.toArray⟩ q ((got).map fbOf)=(⟨T,U,q,got⟩:Ev).may by rw [xQl _ _ _ _ (by omega)];unfold evE;rw [vQB];simp] at cm;have CM:=Zh cm;clear cm hbm;cases hmay:(⟨T,U,q,got⟩:Ev).may with
      | true=>
       rw [if_neg (by rw [hmay];simp;omega)] at hres;have HQ:=Zh hres;clear hres;have HMY:=Zh hmay;clear hmay;go_wp2_with fail;refine CM.out.mono ?_;rintro x w6 ⟨rfl,hb6⟩;rw [HMY.out];have HT6:=Zh (HT.out.grow hb6);have HF6:=Zh (HFF.out.grow hb6);have hwy:w.heap.size+1+1 < w6.heap.size:=Nat.lt_of_lt_of_le hwz hb6.size;have hwy1:w.heap.size+1 < w6.heap.size:=by omega
       have hwy2:w.heap.size < w6.heap.size:=by omega
       clear hb6 r0 r1 r2 r3 r4 r5 d0 d1 d2 d3 d4 d5 d6 d7 z0 z1 z2 z3 z4 z5 z6 z7 hwz hwz1 hwz2;obtain ⟨r0,r1,r2,r3,r4,r5⟩:=HT6.out.r;obtain ⟨d0,d1,d2,d3,d4,d5,d6,d7⟩:=HT6.out.ev;obtain ⟨z0,z1,z2,z3,z4,z5,z6,z7⟩:=HT6.out.z;have hf1:=HF6.out.grow (Y0 (.refl w6.heap.size w6));have hf2:=(((hf1.away (c:=w.heap.size) (o:=0) (u:=.string ⟨T.toArray⟩) (by omega)).away (c:=w.heap.size) (o:=1) (u:=.string ⟨U.toArray⟩) (by omega)).away (c:=w.heap.size) (o:=2) (u:=.int .u64 q) (by omega)).away (c:=w.heap.size) (o:=3) (u:=.slice (some ⟨F,0,none⟩) N N) (by omega);have HF7:=Zh hf2;clear hf1 hf2;go_wp2_with fail
       go_region
       go_wp2_with fail;refine bodyPost_ret (v:=.tuple #[.agg #[.string ⟨T.toArray⟩,.string ⟨U.toArray⟩,.int .u64 q,.slice (some ⟨F,0,none⟩) N N],.int .i64 a,.int .i64 0]) (by simp [results,Tryz.results136,go_sem, *]) rfl ?_;have hq:=HQ.out;rw [Prod.mk.injEq,Prod.mk.injEq] at hq;rw [<- hq.1,<- hq.2.1,<- hq.2.2];refine ⟨(some ⟨F,0,none⟩),N,(by show Ending.returned _=Ending.returned (.tuple #[.agg #[.string ⟨T.toArray⟩,.string ⟨U.toArray⟩,.int .u64 q,.slice (some ⟨F,0,none⟩) (got).length N],.int .i64 a,.int .i64 0]);rw [hgN]),HF7.out.fl,?_,?_⟩
       · rw [show (⟨T,U,q,got⟩:Ev).l.length=N from hgN];exact ⟨Nat.le_refl _,fun A h=>(by cases h;rfl),fun h=>(by cases h)⟩
       · (repeat (first | with_reducible exact HT6.out.b | with_reducible refine Y0 ?_ | with_reducible refine bset _ (by simp<;>omega) ?_))
      | false=>
       rw [if_pos (.inr hmay)] at hres;have HQ:=Zh hres;clear hres;have HMY:=Zh hmay;clear hmay;go_wp2_with fail;refine CM.out.mono ?_;rintro x w6 ⟨rfl,hb6⟩;rw [HMY.out];have HT6:=Zh (HT.out.grow hb6);have hwy:w.heap.size+1+1 < w6.heap.size:=Nat.lt_of_lt_of_le hwz hb6.size;have hwy1:w.heap.size+1 < w6.heap.size:=by omega
       have hwy2:w.heap.size < w6.heap.size:=by omega
       clear hb6 r0 r1 r2 r3 r4 r5 d0 d1 d2 d3 d4 d5 d6 d7 z0 z1 z2 z3 z4 z5 z6 z7 hwz hwz1 hwz2;obtain ⟨r0,r1,r2,r3,r4,r5⟩:=HT6.out.r;obtain ⟨d0,d1,d2,d3,d4,d5,d6,d7⟩:=HT6.out.ev;obtain ⟨z0,z1,z2,z3,z4,z5,z6,z7⟩:=HT6.out.z;go_wp2_with fail
       go_region
       go_wp2_with fail;refine bodyPost_ret (v:=.tuple #[.agg #[.string ⟨#[]⟩,.string ⟨#[]⟩,.int .u64 0,.slice none 0 0],.int .i64 0,.int .i64 2]) (by simp [results,Tryz.results136,go_sem, *]) rfl ?_;have hq:=HQ.out;rw [Prod.mk.injEq,Prod.mk.injEq] at hq;rw [<- hq.1,<- hq.2.1,<- hq.2.2];refine ⟨none,0,rfl,Flds.nil _ _,⟨Nat.le_refl _,(fun A h=>by cases h),fun _=>rfl⟩,?_⟩
       (repeat (first | with_reducible exact HT6.out.b | with_reducible refine Y0 ?_ | with_reducible refine bset _ (by simp<;>omega) ?_))
    ·
     rw [if_pos he0] at hres;have HQ:=Zh hres;clear hres;have y1:((e:Int) != 0)=true:=by simp;omega
     have y2:((e:Int)==0)=false:=by simp;omega
     go_wp2_with fail
     go_region
     go_wp2_with fail;refine bodyPost_ret (v:=.tuple #[.agg #[.string ⟨#[]⟩,.string ⟨#[]⟩,.int .u64 0,.slice none 0 0],.int .i64 0,.int .i64 e]) (by simp [results,Tryz.results136,go_sem, *]) rfl ?_;have hq:=HQ.out;rw [Prod.mk.injEq,Prod.mk.injEq] at hq;rw [<- hq.1,<- hq.2.1,<- hq.2.2];refine ⟨none,0,rfl,Flds.nil _ _,⟨Nat.le_refl _,(fun A h=>by cases h),fun _=>rfl⟩,?_⟩
     (repeat (first | with_reducible exact HT.out.b | with_reducible refine Y0 ?_ | with_reducible refine bset _ (by simp<;>omega) ?_))
