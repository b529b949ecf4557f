import Derived.Test.YtcbicdencgjfiaaGreatDoorTopFN
set_option linter.all false
set_option maxHeartbeats 400000
set_option maxRecDepth 100000
namespace Go.Proofs.YtcbicdencgjfiaaGreatDoor
open Go.RowKit Tryst
theorem xJK (ρ:Operand->Value) (o:Oper) (w:World) (ho:o.op=.alloc 64):(execOp ρ o).run Tryz.prog w=.ok (.value (.pointer (some ⟨w.heap.size,0,none⟩))) (w.alloc (.cells #[.string ⟨#[]⟩,.int .i64 0,.slice none 0 0] 64)):=by
 unfold execOp;rw [ho]
 kernel_rfl
def few9 (s:ByteArray):ByteArray:=if 900 < s.size then s.extract 0 900 else s
def kQw (t:Tp):Tp:=⟨Q7 t.name,t.first,(t.log.take 101).map few9⟩
def qQt (L:List Tp):List Tp:=(L.take 21).map kQw
theorem TBox.growB {v w:World} {b B:Nat} {n:ByteArray} {x:Int} {u:Value} (h:TBox v b n x u) (hb:b < B) (hB:B<=v.heap.size) (hw:Below B v w):TBox w b n x u:=by
 obtain ⟨h0,h1,h2,h3,h4,h5,h6⟩:=h;exact ⟨by rw [hw.cell (p:=⟨b,0,none⟩) hb];exact h0,by rw [hw.cell (p:=⟨b,1,none⟩) hb];exact h1,by rw [hw.cell (p:=⟨b,2,none⟩) hb];exact h2,by rw [hw.frozen (p:=⟨b,0,none⟩) hb];exact h3,by rw [hw.frozen (p:=⟨b,1,none⟩) hb];exact h4,by rw [hw.frozen (p:=⟨b,2,none⟩) hb];exact h5,Nat.lt_of_lt_of_le h6 hw.size⟩
theorem TBox.put2 {w:World} {b:Nat} {n:ByteArray} {x:Int} {u:Value} (h:TBox w b n x u) (v:Value):TBox (w.setCell ⟨b,2,none⟩ v) b n x v:=by
 obtain ⟨h0,h1,h2,h3,h4,h5,h6⟩:=h
 constructor<;>simp [Qz,Qv,h0,h1,h2,h3,h4,h5,h6]
def qQu (w:World) (a:Option Addr) (l:List TB):Prop:=Row w a 3 (l.map TB.cells)/\∀ t∈l,Strs w t.la t.log
theorem qQu.grow {v w:World} {a:Option Addr} {l:List TB} (h:qQu v a l) (hw:Below v.heap.size v w):qQu w a l:=⟨h.1.grow hw,fun t ht=>(h.2 t ht).grow hw⟩
theorem qQu.head {w:World} {a:Option Addr} {l:List TB} (h:qQu w a l) {i:Nat} (hi:i < l.length):∃ b o,a=some ⟨b,o,none⟩/\b < w.heap.size:=h.1.head (by simpa using hi)
theorem qQu.at {w:World} {b o:Nat} {l:List TB} (h:qQu w (some ⟨b,o,none⟩) l) {i:Nat} (hi:i < l.length):b < w.heap.size/\TAt w b (o+i*3) l[i]/\Strs w l[i].la l[i].log:=by
 obtain ⟨h1,h2⟩:=h.1.at (i:=i) (by simpa using hi);simp only [List.getElem_map] at h2;exact ⟨h1,⟨h2 0 (by omega),h2 1 (by omega),h2 2 (by omega)⟩,h.2 _ (List.getElem_mem hi)⟩
theorem Tops.a {w:World} {a:Option Addr} {l:List TB} (h:Tops w a l):qQu w a l:=⟨h.1,fun t ht=>(h.2 t ht).1⟩
def sV (l:List ByteArray):List (List Value):=l.map fun s=>[Value.string s]
def FLRel (X:World) (gB B:Nat) (nm:ByteArray) (fst:Int) (lg:List ByteArray) (i:Value) (wr:World):Prop:=
 ∃ (k:Nat) (a:Option Addr) (c:Nat) (acc:List ByteArray),k<=lg.length/\k<=101/\i=.int .i64 k/\acc.length=k/\Hid (acc=(lg.take k).map few9)/\Hid (TBox wr gB nm fst (.slice a acc.length c))/\Hid (ROwn 9 1 wr B (.slice a acc.length c) (sV acc))/\Hid (Below gB X wr)/\B<=wr.heap.size
def FTRel (w:World) (l:List TB) (v i:Value) (wr:World):Prop:=
 ∃ (k:Nat) (a:Option Addr) (c:Nat) (acc:List TB),k<=l.length/\k<=21/\i=.int .i64 k/\v=.slice a acc.length c/\acc.length=k/\Hid (acc.map TB.tp=((l.map TB.tp).take k).map kQw)/\Hid (TOwn wr w.heap.size v acc)/\Hid (Kp wr w.heap.size acc acc.length)/\Hid (Below w.heap.size w wr)
theorem xQ5 {e:TypeId} {size n:Nat} {w w':World} {base base2:Nat} {v u:Value} {xs:List Value} {l:List TB} (h:w.ownsRow base2 e size u n xs) (hne:64≠e) (hO:TOwn w base v l) (hk:∀ k,k < w.heap.size->Away v k->w'.heap[k]?=w.heap[k]?):w'.ownsRow base2 e size u n xs:=
 jQN h fun A n' c' hv=>by
  obtain ⟨cur,hcur⟩:=zQE h A n' c' hv;exact hk _ (Array.getElem?_eq_some_iff.1 hcur).1 fun A' n'' c'' hv' hb=>kQ4 hO hcur hne A' n'' c'' hv' hb
theorem vQY {w w':World} {base:Nat} {v:Value} {l:List TB} {t:TB} (hO:TOwn w base v l) (hL:Kp w base l l.length) (hk:∀ k,k < w.heap.size->Away v k->w'.heap[k]?=w.heap[k]?) (ht:ROwn 9 1 w base (.slice t.la t.log.length t.lc) (t.log.map fun s=>[Value.string s])):Kp w' base (l++[t]) (l++[t]).length:=by
 intro i hi _
 by_cases h:i < l.length
 · rw [List.getElem_append_left h];exact xQ5 (hL i h h) (by decide) hO hk
 ·
  have e:(l++[t])[i]=t:=by
   rw [List.getElem_append_right (by omega)];simp
  rw [e];exact xQ5 ht (by decide) hO hk
def qJa (base:Nat) (L:List Tp) (v:Value) (w:World):Prop:=∃ a c l',v=.slice a l'.length c/\l'.map TB.tp=qQt L/\TOwn w base (.slice a l'.length c) l'/\Kp w base l' l'.length
def jYq (w:World) (L:List Tp) (e:Ending) (w':World):Prop:=∃ v,e=.returned v/\qJa w.heap.size L v w'/\Below w.heap.size w w'
set_option maxHeartbeats 2000000 in
theorem vJR (a:Option Addr) (c:Nat) (l:List TB) (hl:l.length<=9223372036854775807) (hI:∀ t∈l,t.name.size<=9223372036854775807/\(∀ s∈t.log,s.size<=9223372036854775807)/\t.log.length<=9223372036854775807) (w:World) (hF:qQu w a l) :
  Calls Tryz.prog 24 #[.slice a l.length c] w fun e w'=>jYq w (l.map TB.tp) e w':=by
 have HF:=Zh hF;have HI:=Zh hI;clear hF hI;go_enter Tryz.func24,Tryz.ntmps24;go_wp2_with fail;go_loopw [3,4] (fun v i wr=>FTRel w l v i wr) (fun _ i _=>l.length - (intOf i).toNat)
 case atStart=>exact ⟨0,none,0,[],by omega,by omega,rfl,rfl,rfl,rfl,ROwn.nil _ _ _ _,fun i h=>absurd h (Nat.not_lt_zero i),.refl _ _⟩
 case round=>
  obtain ⟨k,av,cv,acc,hk,hk2,rfl,rfl,hal,HAC,HO,HL,HW⟩:=hrel;obtain ⟨wo,rfl⟩:∃ wo,wo=wr:=⟨_,rfl⟩;have HAL:=Zh hal;clear hal
  by_cases hlt:k < l.length/\k < 21
  ·
   obtain ⟨hl1,hl2⟩:=hlt;have HF2:=Zh (HF.out.grow HW.out);obtain ⟨b,o,ha,hb⟩:=HF2.out.head hl1;subst ha;obtain ⟨_,⟨f0,f1,f2⟩,_⟩:=HF2.out.at hl1;obtain ⟨i1,i2,i3⟩:=HI.out l[k] (List.getElem_mem hl1);have x1:(k:Int) < l.length:=by omega
   have x2:(k:Int) < 21:=by omega
   go_upto_region 5 with fail
   refine Tryst2.wp_region_grows [.is (.slice (some ⟨b,o,none⟩) l.length c),.is (.int .i64 (k:Int)),.is (.pointer (some ⟨b,o+k*3,none⟩)),.is (.pointer (some ⟨b,o+k*3,none⟩)),.is (.string l[k].name),.is (.string (Q7 l[k].name)),.is (.slice (some ⟨b,o,none⟩) l.length c),.is (.int .i64 (k:Int)),.is (.pointer (some ⟨b,o+k*3,none⟩)),.is (.pointer (some ⟨b,o+k*3+1,none⟩)),.is (.int .i64 l[k].first),.is (.agg #[.string (Q7 l[k].name),.int .i64 l[k].first,.slice none 0 0]),.any (qQk wo.heap.size 64 [.string ⟨#[]⟩,.int .i64 0,.slice none 0 0])] (by kernel_rfl) (by kernel_rfl) ?obl ?fin
   case obl=>
    simp only [YA,YL,YO,YR,Op.operands,Call.operands]
    repeat' apply And.intro
    any_goals trivial
    all_goals (intro tv w' hg hold hd;(try simp at hold);obtain ⟨hcg,hfg,hsg⟩:=YG hg)
    all_goals first | (go_simp;done) | (go_simp;rw [if_neg (by omega)];exact ⟨.refl _,rfl⟩) | (obtain ⟨⟨g,hvg,hgg,hcell⟩,_⟩:=hd;have hcell0:=hcell 0 (by decide);simp at hcell0;go_simp;done) | (go_simp;refine (jQn _ (by assumption) _).mono ?_;rintro e w2 ⟨rfl,rfl⟩;exact ⟨Tryst2.Grow.refl _,rfl⟩) | (rw [xJK _ _ _ rfl,Tryst2.stepV_value];exact qJJ _ _ _ _ (by omega))
   case fin=>
    intro tv w' hg hR;simp only [YF,YL,YR] at hR;obtain ⟨hcg,hfg,hsg⟩:=YG hg;simp only [YP,YL,Act.put,hR];obtain ⟨gB,e3,hg1,hg3⟩:=qQk.at hR.2.2.2.2.2.2.2.2.2.2.2.2.1;simp only [e3];have hbw:=Tryst2.Grow.below hg (.refl wo.heap.size wo)
    have hX0:TBox w' gB ⟨#[]⟩ 0 (.slice none 0 0):=by
     constructor<;>first | exact hg3.1 | simp [World.cell?,World.frozen?,hg3.2]
    have hX1:TBox (((w'.setCell ⟨gB,0,none⟩ (.string (Q7 l[k].name))).setCell ⟨gB,1,none⟩ (.int .i64 l[k].first)).setCell ⟨gB,2,none⟩ (.slice none 0 0)) gB (Q7 l[k].name) l[k].first (.slice none 0 0):=by
     obtain ⟨h0,h1,h2,h3,h4,h5,h6⟩:=hX0
     constructor<;>simp [Qz,Qv,h0,h1,h2,h3,h4,h5,h6]
    have hKB:=bset (p:=⟨gB,2,none⟩) (.slice none 0 0) hg1 (bset (p:=⟨gB,1,none⟩) (.int .i64 l[k].first) hg1 (bset (p:=⟨gB,0,none⟩) (.string (Q7 l[k].name)) hg1 hbw));have HX1:=Zh hX1;have HKB:=Zh hKB;obtain ⟨d0,d1,d2,d3,d4,d5,d6⟩:=hX0;clear hg hR hcg hfg hsg hbw hX1 hKB e3 hg3;go_upto_region 6 with fail
    refine Qg (fun v=>Hid (TBox v gB (Q7 l[k].name) l[k].first (.slice none 0 0))/\Hid (Below wo.heap.size wo v)) ⟨HX1,HKB⟩ ?_;clear HX1 HKB d0 d1 d2 d3 d4 d5 d6;rintro X ⟨HX,HKX⟩;obtain ⟨nm,fs,la,lg,lc,hlk⟩:∃ nm fs la lg lc,l[k]=(⟨nm,fs,la,lg,lc⟩:TB):=⟨_,_,_,_,_,rfl⟩;have HLG:=Zh ((HF2.out.at hl1).2.2);have HI2:=Zh i2;rw [hlk] at HLG f0 f1 f2 i1 i3 HX HI2;dsimp only at HLG f0 f1 f2 i1 i3 HX HI2;have HLK:=Zh hlk;have hgX:=HX.out.hz;clear hlk i2;go_wp2_with fail;go_loopw [6] (fun i wr=>FLRel X gB (gB+1) (Q7 nm) fs lg i wr) (fun i _=>lg.length - (intOf i).toNat)
    case atStart=>exact ⟨0,none,0,[],by omega,by omega,rfl,rfl,rfl,HX,ROwn.nil _ _ _ _,.refl _ _,by omega⟩
    case round=>
     obtain ⟨m,a2,c2,acc2,hm,hm2,rfl,hal2,HA2,HX2,HO2,HW2,hBr⟩:=hrel;obtain ⟨wi,rfl⟩:∃ wi,wi=wr:=⟨_,rfl⟩;have HAL2:=Zh hal2;clear hal2;have HWi:=Zh (HKX.out.trans (HW2.out.mono hg1));have hbi:b < wi.heap.size:=Nat.lt_of_lt_of_le hb HWi.out.size;have f2i:=(HWi.out.cell (p:=⟨b,o+k*3+2,none⟩) hb).trans f2;clear f0 f1 f2;obtain ⟨d0,d1,d2,d3,d4,d5,d6⟩:=HX2.out
     by_cases hml:m < lg.length/\m < 101
     ·
      obtain ⟨hm1,hm3⟩:=hml;have HLi:=Zh (HLG.out.grow HWi.out);obtain ⟨b2,o2,ha2,hb2⟩:=HLi.out.head hm1;subst ha2;obtain ⟨_,hs1⟩:=HLi.out.at hm1;have hsz:=HI2.out lg[m] (List.getElem_mem hm1);have x3:(m:Int) < lg.length:=by omega
      have x4:(m:Int) < 101:=by omega
      have hAN:acc2++[few9 lg[m]]=(lg.take (m+1)).map few9:=by rw [List.take_succ_eq_append_getElem hm1,List.map_append,<- HA2.out];rfl
      have HAN:=Zh hAN;have HSL:Hid ((sV acc2).length=m):=Zh (by unfold sV;rw [List.length_map];exact HAL2.out);clear hAN
      by_cases h9:900 < lg[m].size
      ·
       have HF9:Hid (few9 lg[m]=lg[m].extract 0 900):=Zh (by unfold few9;rw [if_pos h9]);go_upto_region 12 with fail
       refine wp_region_lit ?_
       iterate 12 go_step
       refine Kq strT rfl (.tmp 58) (.tmp 60) rfl (gB+1) (.slice a2 acc2.length c2) (sV acc2) m HSL.out rfl (ROwn.alloc HO2.out _) [.string (lg[m].extract 0 900)] rfl (by simp [Value.oneCell']) wi.heap.size rfl (by intro j hj;obtain rfl:j=0:=(by omega);simp [go_sem]) (by omega) (by simp;omega) ?_;intro v' w3 ho3 hb3 _;have hbA:=Qj (.cells #[.string (lg[m].extract 0 900)] 9) (.refl wi.heap.size wi)
       have ho4:ROwn 9 1 w3 (gB+1) v' (sV (acc2++[few9 lg[m]])):=by
        unfold sV;rw [List.map_append,HF9.out];exact ho3
       obtain ⟨a3,c3,hv3,_⟩:=ROwn.row ho4 (fun x hx=>by obtain ⟨s,_,rfl⟩:=List.mem_map.1 hx;rfl) (by decide);have hln:(sV (acc2++[few9 lg[m]])).length=(acc2++[few9 lg[m]]).length:=by unfold sV;rw [List.length_map]
       rw [hln] at hv3;have hX3:=((HX2.out.grow hbA).growB (B:=gB+1) (by omega) (by simp;omega) hb3);have HX3:=Zh (hX3.put2 (.slice a3 (acc2++[few9 lg[m]]).length c3));have HO3:=Zh (ho4.below (b:=gB) (o:=2) (by omega) (.slice a3 (acc2++[few9 lg[m]]).length c3));have HW3:=Zh (((HW2.out.trans (hbA.mono (by omega))).trans (hb3.mono (by omega))).setCell (p:=⟨gB,2,none⟩) (Nat.le_refl gB) (.slice a3 (acc2++[few9 lg[m]]).length c3));have hBr3:gB+1<=(w3.setCell ⟨gB,2,none⟩ (.slice a3 (acc2++[few9 lg[m]]).length c3)).heap.size:=by have:=hb3.size;simp at this ⊢;omega
       have HAL3:Hid ((acc2++[few9 lg[m]]).length=m+1):=Zh (by rw [List.length_append,HAL2.out];rfl);generalize acc2++[few9 lg[m]]=acc3 at hv3 ho4 HX3 HO3 HW3 hBr3 HAN HAL3;rw [hv3] at HO3;subst hv3;clear ho3 ho4 hbA hb3 hln d0 d1 d2 d3 d4 d5 d6;obtain ⟨d0,d1,d2,d3,d4,d5,d6⟩:=hX3;go_wp2_with fail;go_roundw
       case rel=>exact ⟨m+1,a3,c3,acc3,by omega,by omega,by go_num,HAL3.out,HAN,HX3,HO3,HW3,hBr3⟩
       case measure=>simp [intOf]<;>omega
      ·
       have HF9:Hid (few9 lg[m]=lg[m]):=Zh (by unfold few9;rw [if_neg h9]);go_upto_region 12 with fail
       refine wp_region_lit ?_
       iterate 12 go_step
       refine Kq strT rfl (.tmp 58) (.tmp 60) rfl (gB+1) (.slice a2 acc2.length c2) (sV acc2) m HSL.out rfl (ROwn.alloc HO2.out _) [.string (lg[m])] rfl (by simp [Value.oneCell']) wi.heap.size rfl (by intro j hj;obtain rfl:j=0:=(by omega);simp [go_sem]) (by omega) (by simp;omega) ?_;intro v' w3 ho3 hb3 _;have hbA:=Qj (.cells #[.string (lg[m])] 9) (.refl wi.heap.size wi)
       have ho4:ROwn 9 1 w3 (gB+1) v' (sV (acc2++[few9 lg[m]])):=by
        unfold sV;rw [List.map_append,HF9.out];exact ho3
       obtain ⟨a3,c3,hv3,_⟩:=ROwn.row ho4 (fun x hx=>by obtain ⟨s,_,rfl⟩:=List.mem_map.1 hx;rfl) (by decide);have hln:(sV (acc2++[few9 lg[m]])).length=(acc2++[few9 lg[m]]).length:=by unfold sV;rw [List.length_map]
       rw [hln] at hv3;have hX3:=((HX2.out.grow hbA).growB (B:=gB+1) (by omega) (by simp;omega) hb3);have HX3:=Zh (hX3.put2 (.slice a3 (acc2++[few9 lg[m]]).length c3));have HO3:=Zh (ho4.below (b:=gB) (o:=2) (by omega) (.slice a3 (acc2++[few9 lg[m]]).length c3));have HW3:=Zh (((HW2.out.trans (hbA.mono (by omega))).trans (hb3.mono (by omega))).setCell (p:=⟨gB,2,none⟩) (Nat.le_refl gB) (.slice a3 (acc2++[few9 lg[m]]).length c3));have hBr3:gB+1<=(w3.setCell ⟨gB,2,none⟩ (.slice a3 (acc2++[few9 lg[m]]).length c3)).heap.size:=by have:=hb3.size;simp at this ⊢;omega
       have HAL3:Hid ((acc2++[few9 lg[m]]).length=m+1):=Zh (by rw [List.length_append,HAL2.out];rfl);generalize acc2++[few9 lg[m]]=acc3 at hv3 ho4 HX3 HO3 HW3 hBr3 HAN HAL3;rw [hv3] at HO3;subst hv3;clear ho3 ho4 hbA hb3 hln d0 d1 d2 d3 d4 d5 d6;obtain ⟨d0,d1,d2,d3,d4,d5,d6⟩:=hX3;go_wp2_with fail;go_roundw
       case rel=>exact ⟨m+1,a3,c3,acc3,by omega,by omega,by go_num,HAL3.out,HAN,HX3,HO3,HW3,hBr3⟩
       case measure=>simp [intOf]<;>omega
     ·
      have HAC2:Hid (acc2=(lg.take 101).map few9):=Zh (by
       rw [HA2.out]
       by_cases h:m < lg.length
       · rw [show m=101 by omega]
       · rw [List.take_of_length_le (by omega),List.take_of_length_le (by omega)])
      have HOa:=Zh (HO.out.grow HWi.out);have HLa:=Zh (HL.out.grow HWi.out);have HCL:Hid ((acc.map TB.cells).length=k):=Zh (by rw [List.length_map];exact HAL.out);have hwi:w.heap.size<=wi.heap.size:=Nat.le_trans HW.out.size HWi.out.size;have hwg:w.heap.size<=gB:=Nat.le_trans HW.out.size hg1
      by_cases hks:m < lg.length
      ·
       go_upto_region 13 with fail
       refine wp_region_lit ?_
       iterate 9 go_step
       refine Kq topT rfl (.tmp 63) (.tmp 65) rfl w.heap.size (.slice av acc.length cv) (acc.map TB.cells) k HCL.out rfl (ROwn.alloc HOa.out _) [.string (Q7 nm),.int .i64 fs,.slice a2 acc2.length c2] rfl (by simp [Value.oneCell']) wi.heap.size rfl (by intro j hj;match j,hj with | 0,_=>simp [go_sem] | 1,_=>simp [go_sem] | 2,_=>simp [go_sem]) (by omega) (by simp;omega) ?_;intro v' w3 ho3 hb3 hk3
       have ho4:TOwn w3 w.heap.size v' (acc++[⟨Q7 nm,fs,a2,acc2,c2⟩]):=by
        show ROwn _ _ _ _ _ ((acc++[_]).map TB.cells);rw [List.map_append];exact ho3
       have HLO:=Zh (vQY (t:=⟨Q7 nm,fs,a2,acc2,c2⟩) (ROwn.alloc HOa.out (.cells #[.string (Q7 nm),.int .i64 fs,.slice a2 acc2.length c2] 64)) (HLa.out.grow (Qj _ (.refl _ _))) hk3 ((HO2.out.alloc _).lower (by omega)));obtain ⟨a3,c3,hv3,_⟩:=ROwn.row ho4 (TB.cells_len _) (by decide);rw [List.length_map] at hv3;have HO4:=Zh ho4;have HAL4:Hid ((acc++[(⟨Q7 nm,fs,a2,acc2,c2⟩:TB)]).length=k+1):=Zh (by rw [List.length_append,HAL.out];rfl)
       have HAC4:Hid ((acc++[(⟨Q7 nm,fs,a2,acc2,c2⟩:TB)]).map TB.tp=((l.map TB.tp).take (k+1)).map kQw):=Zh (by
        rw [List.take_succ_eq_append_getElem (by simpa using hl1),List.map_append,List.map_append,HAC.out,List.getElem_map,HLK.out];show _++[Tp.mk (Q7 nm) fs acc2]=_++[Tp.mk (Q7 nm) fs ((lg.take 101).map few9)];rw [HAC2.out])
       have HW4:=Zh ((HW.out.trans (HWi.out.mono HW.out.size)).trans ((Qj (.cells #[.string (Q7 nm),.int .i64 fs,.slice a2 acc2.length c2] 64) (.refl wi.heap.size wi)).mono (by omega) |>.trans hb3));generalize acc++[(⟨Q7 nm,fs,a2,acc2,c2⟩:TB)]=acc4 at hv3 HLO HO4 HAL4 HAC4;rw [hv3] at HO4;subst hv3;clear ho3 ho4 hb3 hk3 d0 d1 d2 d3 d4 d5 d6;go_wp2_with fail;go_roundw
       case rel=>exact ⟨k+1,a3,c3,acc4,by omega,by omega,by go_num,rfl,HAL4.out,HAC4,HO4,HLO,HW4⟩
       case measure=>simp [intOf]<;>omega
      ·
       go_upto_region 13 with fail
       refine wp_region_lit ?_
       iterate 9 go_step
       refine Kq topT rfl (.tmp 63) (.tmp 65) rfl w.heap.size (.slice av acc.length cv) (acc.map TB.cells) k HCL.out rfl (ROwn.alloc HOa.out _) [.string (Q7 nm),.int .i64 fs,.slice a2 acc2.length c2] rfl (by simp [Value.oneCell']) wi.heap.size rfl (by intro j hj;match j,hj with | 0,_=>simp [go_sem] | 1,_=>simp [go_sem] | 2,_=>simp [go_sem]) (by omega) (by simp;omega) ?_;intro v' w3 ho3 hb3 hk3
       have ho4:TOwn w3 w.heap.size v' (acc++[⟨Q7 nm,fs,a2,acc2,c2⟩]):=by
        show ROwn _ _ _ _ _ ((acc++[_]).map TB.cells);rw [List.map_append];exact ho3
       have HLO:=Zh (vQY (t:=⟨Q7 nm,fs,a2,acc2,c2⟩) (ROwn.alloc HOa.out (.cells #[.string (Q7 nm),.int .i64 fs,.slice a2 acc2.length c2] 64)) (HLa.out.grow (Qj _ (.refl _ _))) hk3 ((HO2.out.alloc _).lower (by omega)));obtain ⟨a3,c3,hv3,_⟩:=ROwn.row ho4 (TB.cells_len _) (by decide);rw [List.length_map] at hv3;have HO4:=Zh ho4;have HAL4:Hid ((acc++[(⟨Q7 nm,fs,a2,acc2,c2⟩:TB)]).length=k+1):=Zh (by rw [List.length_append,HAL.out];rfl)
       have HAC4:Hid ((acc++[(⟨Q7 nm,fs,a2,acc2,c2⟩:TB)]).map TB.tp=((l.map TB.tp).take (k+1)).map kQw):=Zh (by
        rw [List.take_succ_eq_append_getElem (by simpa using hl1),List.map_append,List.map_append,HAC.out,List.getElem_map,HLK.out];show _++[Tp.mk (Q7 nm) fs acc2]=_++[Tp.mk (Q7 nm) fs ((lg.take 101).map few9)];rw [HAC2.out])
       have HW4:=Zh ((HW.out.trans (HWi.out.mono HW.out.size)).trans ((Qj (.cells #[.string (Q7 nm),.int .i64 fs,.slice a2 acc2.length c2] 64) (.refl wi.heap.size wi)).mono (by omega) |>.trans hb3));generalize acc++[(⟨Q7 nm,fs,a2,acc2,c2⟩:TB)]=acc4 at hv3 HLO HO4 HAL4 HAC4;rw [hv3] at HO4;subst hv3;clear ho3 ho4 hb3 hk3 d0 d1 d2 d3 d4 d5 d6;go_wp2_with fail;go_roundw
       case rel=>exact ⟨k+1,a3,c3,acc4,by omega,by omega,by go_num,rfl,HAL4.out,HAC4,HO4,HLO,HW4⟩
       case measure=>simp [intOf]<;>omega
  ·
   have hfin:acc.map TB.tp=qQt (l.map TB.tp):=by
    rw [HAC.out];unfold qQt
    by_cases h:k < l.length
    · rw [show k=21 by omega]
    · rw [List.take_of_length_le (by simp;omega),List.take_of_length_le (by simp;omega)]
   have HFI:=Zh hfin;clear hfin
   by_cases hks:k < l.length
   all_goals
    go_wp2_with fail;go_ret;exact ⟨_,rfl,⟨av,cv,acc,rfl,HFI.out,HO.out,HL.out⟩,HW.out⟩
end Go.Proofs.YtcbicdencgjfiaaGreatDoor
namespace Tryst
open Go Go.RowKit Go.ChangeShapes Go.WideShapes Go.Joins
theorem Y7 {H:Type} {enc:TypeId × Value->H} {P:Program} {w:World} {base:Nat} {sp:Nat->Bool} {hd:Bool} {T E:TypeId} {k:Nat} {α:Type} (cells:α->List Value) (p:α->Prop) (zero:α) (hk:0 < k) (hu:P.underlying T=some (.slice E)) (hc:P.cellsOf E=k) (hlen:∀ y,(cells y).length=k)
  (hread:∀ {fuel:Nat} {cs:List Value} {x:DataW H × List MemPlace},DataW.trod enc P w base sp hd fuel E cs=some x->∃ y,cs=cells y/\p y)
  {fuel:Nat} {cs:List Value} {x:DataW H × List MemPlace} (h:DataW.trod enc P w base sp hd fuel T cs=some x) :
  ∃ (a:Option Addr) (l:List α) (c:Nat),cs=[.slice a l.length c]/\Row w a k (l.map cells)/\(∀ y∈l,p y)/\l.length<=9223372036854775807/\l.length<=c:=by
 rcases Go.Deep.open_slice hu h with ⟨rfl,_⟩ | ⟨ad,len,cap,m,n,D,Pl,rfl,_,hl,hm,hmm,_,hi⟩
 · exact ⟨none,[],0,rfl,Row.nil _ _ _,(fun f hf=>by cases hf),Nat.zero_le _,Nat.le_refl _⟩
 ·
  have hml:len<=m:=by rw [hmm];split<;>omega
  have key:∀ i,i < len->∃ y:α,(∀ j,j < k->w.cell? ((ad.add (i*k)).add j)=(cells y)[j]?)/\p y:=fun i hil=>by
   obtain ⟨cs',hc',ht⟩:=hi i (by omega);rw [hc] at hc';obtain ⟨_,_,hcell⟩:=World.cells?_some hc';obtain ⟨y,rfl,hy⟩:=hread ht;exact ⟨y,hcell,hy⟩
  obtain ⟨g,hg⟩:∃ g:Nat->α,∀ i,i < len->(∀ j,j < k->w.cell? ((ad.add (i*k)).add j)=(cells (g i))[j]?)/\p (g i):=
   ⟨fun i=>if h:i < len then (key i h).choose else zero,fun i h=>by simp only [dif_pos h];exact (key i h).choose_spec⟩
  refine ⟨some ad,(List.range len).map g,cap,by rw [List.length_map,List.length_range],?_,?_,?_,?_⟩
  ·
   intro i hil;rw [List.length_map,List.length_map,List.length_range] at hil;obtain ⟨hc,_⟩:=hg i hil;obtain ⟨b,o,sp⟩:=ad;have hz0:=(hg 0 (by omega)).1 0 hk;have hk0:0 < (cells (g 0)).length:=by rw [hlen];exact hk
   rw [List.getElem?_eq_getElem hk0] at hz0;obtain ⟨hb,hs⟩:=zQn hz0;have hb':b < w.heap.size:=by simpa [Addr.add] using hb
   have hs':sp=none:=by simpa [Addr.add] using hs
   subst hs';refine ⟨b,o,rfl,hb',fun j hj=>?_⟩;have e:(((List.range len).map g).map cells)[i]'(by simpa using hil)=cells (g i):=by simp
   rw [e,<- hc j hj,Addr.add_lit,Addr.add_lit]
  · intro y hy;obtain ⟨i,hi',rfl⟩:=List.mem_map.1 hy;exact (hg i (by simpa using hi')).2
  · rw [List.length_map,List.length_range];exact Nat.le_trans hl hm
  · rw [List.length_map,List.length_range];exact hl
end Tryst
namespace Go.Proofs.YtcbicdencgjfiaaGreatDoor
open Go.RowKit Tryst Go.ChangeShapes Go.WideShapes Go.Joins
section
variable {H:Type} {enc:TypeId × Value->H} {w:World} {base:Nat} {sp:Nat->Bool} {hd:Bool}
theorem vQr {fuel:Nat} {cs:List Value} {x:DataW H × List MemPlace} (h:DataW.trod enc Tryz.prog w base sp hd fuel 40 cs=some x):∃ (a:Option Addr) (l:List ByteArray) (c:Nat),cs=[.slice a l.length c]/\Strs w a l/\(∀ s∈l,s.size<=9223372036854775807)/\l.length<=9223372036854775807:=by
 obtain ⟨a,l,c,h1,h2,h3,h4,_⟩:=Y7 (fun s:ByteArray=>[Value.string s]) (fun s=>s.size<=9223372036854775807) ⟨#[]⟩ (by decide) Tryz.underlying40 kStr (fun _=>rfl) (fun h=>Xf h) h;exact ⟨a,l,c,h1,zQ9.2 h2,h3,h4⟩
theorem kTop:Tryz.prog.cellsOf 64=3:=by kernel_rfl
theorem kInt:Tryz.prog.cellsOf 3=1:=by kernel_rfl
theorem jYH:Tryz.prog.cellsOf 40=1:=by kernel_rfl
theorem zJM {fuel:Nat} {cs:List Value} {x:DataW H × List MemPlace} (h:DataW.trod enc Tryz.prog w base sp hd fuel 64 cs=some x) :
  ∃ t:TB,cs=t.cells/\Strs w t.la t.log/\t.name.size<=9223372036854775807/\(∀ s∈t.log,s.size<=9223372036854775807)/\t.log.length<=9223372036854775807/\-9223372036854775808<=t.first/\t.first<=9223372036854775807:=by
 obtain ⟨xs,n,_,_,hlen,hxl,hf⟩:=DataW.trod_struct Tryz.underlying64 h;rw [kTop] at hlen
 match cs,hlen,xs,hxl with
 | [c0,c1,c2],_,[y0,y1,y2],_=>
  have h0:DataW.trod enc Tryz.prog w base sp hd n 9 (([c0,c1,c2].drop 0).take (Tryz.prog.cellsOf 9))=some y0:=hf 0 _ rfl;have h1:DataW.trod enc Tryz.prog w base sp hd n 3 (([c0,c1,c2].drop 1).take (Tryz.prog.cellsOf 3))=some y1:=hf 1 _ rfl;have h2:DataW.trod enc Tryz.prog w base sp hd n 40 (([c0,c1,c2].drop 2).take (Tryz.prog.cellsOf 40))=some y2:=hf 2 _ rfl;rw [kStr] at h0;rw [kInt] at h1;rw [jYH] at h2;obtain ⟨s,e0,hs⟩:=Xf h0;obtain ⟨i,e1,_,hw⟩:=DataW.trod_int Tryz.underlying3 h1;obtain ⟨a,l,c,e2,q1,q2,q3⟩:=vQr h2;simp at e0 e1 e2;obtain ⟨hl,hh⟩:-9223372036854775808<=i/\i<=9223372036854775807:=by simpa [Lit.wf,IntKind.min,IntKind.max,IntKind.signed,IntKind.bits] using hw
  exact ⟨⟨s,i,a,l,c⟩,by rw [e0,e1,e2];rfl,q1,hs,q2,q3,hl,hh⟩
def TArg (l:List TB):Prop:=∀ t∈l,t.name.size<=9223372036854775807/\(∀ s∈t.log,s.size<=9223372036854775807)/\t.log.length<=9223372036854775807/\-9223372036854775808<=t.first/\t.first<=9223372036854775807
theorem zJ8 {fuel:Nat} {cs:List Value} {x:DataW H × List MemPlace} (h:DataW.trod enc Tryz.prog w base sp hd fuel 22 cs=some x):∃ (a:Option Addr) (l:List TB) (c:Nat),cs=[.slice a l.length c]/\qQu w a l/\TArg l/\l.length<=9223372036854775807:=by
 obtain ⟨a,l,c,h1,h2,h3,h4,_⟩:=Y7 TB.cells (fun t=>Strs w t.la t.log/\t.name.size<=9223372036854775807/\(∀ s∈t.log,s.size<=9223372036854775807)/\t.log.length<=9223372036854775807/\-9223372036854775808<=t.first/\t.first<=9223372036854775807) ⟨⟨#[]⟩,0,none,[],0⟩ (by decide) Tryz.underlying22 kTop (fun _=>rfl) (fun h=>zJM h) h;exact ⟨a,l,c,h1,⟨h2,fun t ht=>(h3 t ht).1⟩,fun t ht=>(h3 t ht).2,h4⟩
end
