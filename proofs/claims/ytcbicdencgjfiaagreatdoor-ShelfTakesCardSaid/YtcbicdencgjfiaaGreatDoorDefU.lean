import Derived.Test.YtcbicdencgjfiaaGreatDoorApart5
import Derived.Test.YtcbicdencgjfiaaGreatDoorOffU
import Derived.Test.YtcbicdencgjfiaaGreatDoorRNS5
set_option linter.all false
set_option maxHeartbeats 2000000
set_option maxRecDepth 20000
namespace Tryst
open Go Go.RowKit
structure JB where
 kind:ByteArray
 parts:Int
 need:Int
 window:Int
def mayJ (j:JB):Bool:=decide (1<=j.parts)&&(decide (j.parts<=6)&&(decide (0<=j.window)&&(decide (j.window<=1073741824)&&(if j.kind=⟨#[97,108,108]⟩∨j.kind=⟨#[97,110,121]⟩ then decide (j.need=0) else if j.kind=⟨#[99,111,117,110,116]⟩ then decide (1<=j.need)&&decide (j.need<=30) else false))))
structure DB where
 name:ByteArray
 ga:Option Addr
 gl:List ByteArray
 gc:Nat
 wa:Option Addr
 wl:List PB
 wc:Nat
 key:ByteArray
 j:JB
def DB.cells (d:DB):List Value:=[.string d.name,.slice d.ga d.gl.length d.gc,.slice d.wa d.wl.length d.wc,.string d.key,.string d.j.kind,.int .i64 d.j.parts,.int .i64 d.j.need,.int .i64 d.j.window]
def DB.agg (d:DB):Value:=.agg #[.string d.name,.slice d.ga d.gl.length d.gc,.slice d.wa d.wl.length d.wc,.string d.key,.string d.j.kind,.int .i64 d.j.parts,.int .i64 d.j.need,.int .i64 d.j.window]
def mayD (d:DB):Bool:=Q5 d.name.data.toList&&(decide (1<=d.gl.length)&&(decide (d.gl.length<=5)&&(mayJ d.j&&(decide ((d.wl.length:Int)=d.j.parts)&&((decide (d.key=⟨#[]⟩)||Q5 d.key.data.toList)&&(d.gl.all (fun g=>Yz g.data.toList)&&d.wl.all (fun p=>mayP p.pr)))))))
def vQt (a b:JB):Bool:=decide (a.kind=b.kind)&&(decide (a.parts=b.parts)&&(decide (a.need=b.need)&&decide (a.window=b.window)))
def vJc (a b:DB):Bool:=decide (a.name=b.name)&&(decide (a.key=b.key)&&(vQt a.j b.j&&(decide (a.gl=b.gl)&&jQ7 a.wl b.wl)))
end Tryst
namespace Go.Proofs.YtcbicdencgjfiaaGreatDoor
open Go.RowKit Tryst
structure PRow (w:World) (a:Option Addr) (c:Nat) (l:List PB):Prop where
 row:Row w a 6 (l.map PB.cells)
 sl:Sl a c l.length
 po:∀ p∈l,PO w p/\J9 p<=50
theorem PRow.grow {v w:World} {a:Option Addr} {c:Nat} {l:List PB} (h:PRow v a c l) (hb:Below v.heap.size v w):PRow w a c l:=⟨h.row.grow hb,h.sl,fun p hp=>⟨(h.po p hp).1.grow hb,(h.po p hp).2⟩⟩
theorem PRow.head {w:World} {a:Option Addr} {c:Nat} {l:List PB} (h:PRow w a c l) {i:Nat} (hi:i < l.length):∃ b o,a=some ⟨b,o,none⟩/\b < w.heap.size:=h.row.head (by simpa using hi)
structure PAt (w:World) (b o:Nat) (x:PB):Prop where
 c0:w.cell? ⟨b,o,none⟩=some (.string x.op)
 c1:w.cell? ⟨b,o+1,none⟩=some (.string x.s)
 c2:w.cell? ⟨b,o+2,none⟩=some (.bool x.num)
 c3:w.cell? ⟨b,o+3,none⟩=some (.int .i64 x.n)
 c4:w.cell? ⟨b,o+4,none⟩=some (.string x.vs)
 c5:w.cell? ⟨b,o+5,none⟩=some (.slice x.a x.l.length x.c)
theorem Row.pat {w:World} {b o:Nat} {l:List PB} (h:Row w (some ⟨b,o,none⟩) 6 (l.map PB.cells)) {i:Nat} (hi:i < l.length):b < w.heap.size/\PAt w b (o+i*6) l[i]:=by
 obtain ⟨h1,h2⟩:=h.at (i:=i) (by simpa using hi);simp only [List.getElem_map] at h2;cases hx:l[i] with
 | mk op s num n vs a c ps=>
  rw [hx] at h2;exact ⟨h1,h2 0 (by omega),h2 1 (by omega),h2 2 (by omega),h2 3 (by omega),h2 4 (by omega),h2 5 (by omega)⟩
structure DO (w:World) (d:DB):Prop where
 hn:d.name.size<=1500000
 hg:d.gl.length<=1500000
 hgs:∀ g∈d.gl,g.size<=1500000
 gS:Strs w d.ga d.gl
 gL:Sl d.ga d.gc d.gl.length
 hw:d.wl.length<=1500000
 wR:PRow w d.wa d.wc d.wl
 hk:d.key.size<=1500000
theorem DO.grow {v w:World} {d:DB} (h:DO v d) (hb:Below v.heap.size v w):DO w d:=⟨h.hn,h.hg,h.hgs,h.gS.grow hb,h.gL,h.hw,h.wR.grow hb,h.hk⟩
theorem jJj (j:JB) (w:World):Calls Tryz.prog 122 #[.agg #[.string j.kind,.int .i64 j.parts,.int .i64 j.need,.int .i64 j.window]] w fun e w'=>e=.returned (.bool (mayJ j))/\Below w.heap.size w w':=by
 obtain ⟨kd,p,n,x⟩:=j;obtain ⟨R,hR⟩:∃ R,mayJ ⟨kd,p,n,x⟩=R:=⟨_,rfl⟩;rw [hR];unfold mayJ at hR;simp only at hR;have HR:=Zh hR;have HB:=Zh (Qj (.cells #[.string kd,.int .i64 p,.int .i64 n,.int .i64 x] 43) (.refl w.heap.size w));clear hR
 by_cases h1:p < 1
 · have HN:=Zh (show R=false by rw [<- HR.out];simp;omega);go_enter Tryz.func122,Tryz.ntmps122;go_wp2_with fail;go_ret;exact ⟨Qq HN.out.symm,HB.out⟩
 ·
  by_cases h2:6 < p
  · have HN:=Zh (show R=false by rw [<- HR.out];simp;omega);go_enter Tryz.func122,Tryz.ntmps122;go_wp2_with fail;go_ret;exact ⟨Qq HN.out.symm,HB.out⟩
  ·
   by_cases h3:x < 0
   · have HN:=Zh (show R=false by rw [<- HR.out];simp;omega);go_enter Tryz.func122,Tryz.ntmps122;go_wp2_with fail;go_ret;exact ⟨Qq HN.out.symm,HB.out⟩
   ·
    by_cases h4:1073741824 < x
    · have HN:=Zh (show R=false by rw [<- HR.out];simp;omega);go_enter Tryz.func122,Tryz.ntmps122;go_wp2_with fail;go_ret;exact ⟨Qq HN.out.symm,HB.out⟩
    ·
     have HP:Hid (R=if kd=⟨#[97,108,108]⟩∨kd=⟨#[97,110,121]⟩ then decide (n=0) else if kd=⟨#[99,111,117,110,116]⟩ then decide (1<=n)&&decide (n<=30) else false):=Zh (by
      rw [<- HR.out,decide_eq_true (show 1<=p by omega),decide_eq_true (show p<=6 by omega),decide_eq_true (show 0<=x by omega),decide_eq_true (show x<=1073741824 by omega)];simp only [Bool.true_and])
     clear HR;have key:∀ k:ByteArray,¬ kd=k->(kd.toList==k.data.toList)=false:=fun k hk=>by rw [beq_eq_false_iff_ne];exact fun e=>hk (Xk (by rw [<- Qp,e]))
     by_cases ka:kd=⟨#[97,108,108]⟩
     ·
      subst ka
      by_cases hn:n=0
      · subst hn;have HN:=Zh (show R=true by rw [HP.out];simp);go_enter Tryz.func122,Tryz.ntmps122;go_wp2_with fail;go_ret;exact ⟨Qq HN.out.symm,HB.out⟩
      ·
       have HN:=Zh (show R=false by rw [HP.out];simp [hn]);have hn2:(n==0)=false:=by simpa using hn
       go_enter Tryz.func122,Tryz.ntmps122;go_wp2_with fail;go_ret;exact ⟨Qq HN.out.symm,HB.out⟩
     ·
      by_cases kb:kd=⟨#[97,110,121]⟩
      ·
       subst kb
       by_cases hn:n=0
       · subst hn;have HN:=Zh (show R=true by rw [HP.out];simp);go_enter Tryz.func122,Tryz.ntmps122;go_wp2_with fail;go_ret;exact ⟨Qq HN.out.symm,HB.out⟩
       ·
        have HN:=Zh (show R=false by rw [HP.out];simp [hn]);have hn2:(n==0)=false:=by simpa using hn
        go_enter Tryz.func122,Tryz.ntmps122;go_wp2_with fail;go_ret;exact ⟨Qq HN.out.symm,HB.out⟩
      ·
       have q1:(kd.toList==[97,108,108])=false:=key _ ka;have q2:(kd.toList==[97,110,121])=false:=key _ kb
       by_cases kc:kd=⟨#[99,111,117,110,116]⟩
       ·
        subst kc
        by_cases hn:1<=n
        ·
         by_cases hm:n<=30
         · have HN:=Zh (show R=true by rw [HP.out,if_neg (by rintro (h | h);exact ka h;exact kb h),if_pos rfl];simp [hn,hm]);go_enter Tryz.func122,Tryz.ntmps122;go_wp2_with fail;go_ret;exact ⟨Qq HN.out.symm,HB.out⟩
         · have HN:=Zh (show R=false by rw [HP.out,if_neg (by rintro (h | h);exact ka h;exact kb h),if_pos rfl];simp [hm]);go_enter Tryz.func122,Tryz.ntmps122;go_wp2_with fail;go_ret;exact ⟨Qq HN.out.symm,HB.out⟩
        · have HN:=Zh (show R=false by rw [HP.out,if_neg (by rintro (h | h);exact ka h;exact kb h),if_pos rfl];simp [hn]);go_enter Tryz.func122,Tryz.ntmps122;go_wp2_with fail;go_ret;exact ⟨Qq HN.out.symm,HB.out⟩
       · have q3:(kd.toList==[99,111,117,110,116])=false:=key _ kc;have HN:=Zh (show R=false by rw [HP.out,if_neg (by rintro (h | h);exact ka h;exact kb h),if_neg kc]);go_enter Tryz.func122,Tryz.ntmps122;go_wp2_with fail;go_ret;exact ⟨Qq HN.out.symm,HB.out⟩
theorem xJq (s:ByteArray) (hs:s.size<=1000000000) (w:World) (hM:MaxW w):Calls Tryz.prog 124 #[.string s] w fun e w'=>e=.returned (.bool (Yz s.data.toList))/\Below w.heap.size w w':=by
 have HT:=Zh (fun W (hb:Below w.heap.size w W)=>zJP s hs W (hM.grow hb));generalize Yz s.data.toList=R at HT ⊢;clear hM;go_enter Tryz.func124,Tryz.ntmps124;go_wp2_with fail;refine (HT.out _ (.refl _ _)).mono ?_;rintro e w1 ⟨rfl,hb1⟩;go_wp2_with fail;go_ret;exact ⟨rfl,hb1⟩
theorem xJC (x:PB) (w:World) (hM:MaxW w) (hP:PMem w x):Calls Tryz.prog 127 #[x.agg] w fun e w'=>e=.returned (.bool (mayP x.pr))/\Below w.heap.size w w':=by
 have HT:=Zh (fun W (hb:Below w.heap.size w W)=>qJE x W (hM.grow hb) (hP.grow hb));generalize mayP x.pr=R at HT ⊢;clear hM hP;unfold PB.agg at HT ⊢;have HB:=Zh (Qj (.cells #[.string x.op,.string x.s,.bool x.num,.int .i64 x.n,.string x.vs,.slice x.a x.l.length x.c] 123) (.refl w.heap.size w));go_enter Tryz.func127,Tryz.ntmps127;go_wp2_with fail;refine (HT.out _ HB.out).mono ?_;rintro e w1 ⟨rfl,hb1⟩;go_wp2_with fail;go_ret;exact ⟨rfl,Qk hb1 HB.out⟩
theorem jYT (a:Option Addr) (c:Nat) (l:List ByteArray) (hl:l.length<=1500000) (hs:∀ s∈l,s.size<=1000000000) (w:World) (hM:MaxW w) (hS:Strs w a l) :
  Calls Tryz.prog 123 #[.slice a l.length c,.func (.func 124) #[] #[]] w fun e w'=>e=.returned (.bool (l.all fun s=>Yz s.data.toList))/\Below w.heap.size w w':=by
 obtain ⟨R,hR⟩:∃ R,(l.all fun s=>Yz s.data.toList)=R:=⟨_,rfl⟩;rw [hR];have HR:Hid (R=(l.drop 0).all fun s=>Yz s.data.toList):=Zh (by rw [<- hR];rfl);have HF:=Zh (fun W (hb:Below w.heap.size w W)=>hS.grow hb);have HC:=Zh (fun (k:Nat) (hk:k < l.length) W (hb:Below w.heap.size w W)=>xJq l[k] (hs _ (List.getElem_mem hk)) W (hM.grow hb));clear hS hM hR hs;go_enter Tryz.func123,Tryz.ntmps123;go_wp2_with fail;go_loopw [9] (fun i wr=>AllR R (fun s:ByteArray=>Yz s.data.toList) l w i wr) (fun i _=>l.length - (intOf i).toNat)
 case atStart=>exact ⟨0,by omega,rfl,HR.out,.refl _ _,by omega⟩
 case round=>
  obtain ⟨k,hk,rfl,HP,HW,hz⟩:=hrel;obtain ⟨wo,rfl⟩:∃ wo,wo=wr:=⟨_,rfl⟩
  by_cases hlt:k < l.length
  ·
   have hst:R=((Yz l[k].data.toList)&&(l.drop (k+1)).all (fun s:ByteArray=>Yz s.data.toList)):=zQJ hlt HP.out;obtain ⟨b,o,ha,hb⟩:=(HF.out wo HW.out).head hlt;subst ha;have HCC:=Zh (HC.out k hlt);obtain ⟨pp,hpp⟩:∃ pp,(Yz l[k].data.toList)=pp:=⟨_,rfl⟩;rw [hpp] at hst;have HPP:=Zh hpp;have HST:=Zh hst;clear hpp hst HP;have hc1:=((HF.out wo HW.out).at hlt).2;have HBX:=Zh (HW.out);go_wp2_with fail;refine (HCC.out _ HBX.out).mono ?_;rintro e w2 ⟨rfl,hb2⟩;have HB2:=Zh (Qk hb2 HBX.out);clear hb2 HCC HBX;rw [show (Yz l[k].data.toList)=pp from HPP.out];cases pp with
   | true=>
    have HN:Hid (R=(l.drop (k+1)).all (fun s:ByteArray=>Yz s.data.toList)):=Zh (by have:=HST.out;rwa [Bool.true_and] at this);go_wp2_with fail;go_roundw
    case rel=>exact ⟨k+1,by omega,by go_num,HN,HB2.out,HB2.out.size⟩
    case measure=>simp [intOf]<;>omega
   | false=>
    have HN:Hid (R=false):=Zh (by have:=HST.out;rwa [Bool.false_and] at this);go_wp2_with fail;go_ret;exact ⟨Qq HN.out.symm,HB2.out⟩
  · have HN:=Zh (vQC (by omega:l.length<=k) HP.out);go_wp2_with fail;go_ret;exact ⟨Qq HN.out.symm,HW.out⟩
theorem jYo (a:Option Addr) (c:Nat) (l:List PB) (hl:l.length<=1500000) (w:World) (hM:MaxW w) (hP:PRow w a c l) :
  Calls Tryz.prog 126 #[.slice a l.length c,.func (.func 127) #[] #[]] w fun e w'=>e=.returned (.bool (l.all fun p=>mayP p.pr))/\Below w.heap.size w w':=by
 obtain ⟨R,hR⟩:∃ R,(l.all fun p=>mayP p.pr)=R:=⟨_,rfl⟩;rw [hR];have HR:Hid (R=(l.drop 0).all fun p=>mayP p.pr):=Zh (by rw [<- hR];rfl);have HF:=Zh (fun W (hb:Below w.heap.size w W)=>hP.grow hb);have hC:=(fun (k:Nat) (hk:k < l.length) W (hb:Below w.heap.size w W)=>xJC l[k] W (hM.grow hb) ((hP.po _ (List.getElem_mem hk)).1.mem.grow hb));unfold PB.agg at hC;have HC:=Zh hC;clear hP hM hR hC;go_enter Tryz.func126,Tryz.ntmps126;go_wp2_with fail;go_loopw [9] (fun i wr=>AllR R (fun p:PB=>mayP p.pr) l w i wr) (fun i _=>l.length - (intOf i).toNat)
 case atStart=>exact ⟨0,by omega,rfl,HR.out,.refl _ _,by omega⟩
 case round=>
  obtain ⟨k,hk,rfl,HP,HW,hz⟩:=hrel;obtain ⟨wo,rfl⟩:∃ wo,wo=wr:=⟨_,rfl⟩
  by_cases hlt:k < l.length
  ·
   have hst:R=((mayP l[k].pr)&&(l.drop (k+1)).all (fun p:PB=>mayP p.pr)):=zQJ hlt HP.out;obtain ⟨b,o,ha,hb⟩:=(HF.out wo HW.out).head hlt;subst ha;have HCC:=Zh (HC.out k hlt);obtain ⟨pp,hpp⟩:∃ pp,(mayP l[k].pr)=pp:=⟨_,rfl⟩;rw [hpp] at hst;have HPP:=Zh hpp;have HST:=Zh hst;clear hpp hst HP;obtain ⟨_,f0,f1,f2,f3,f4,f5⟩:=Row.pat (HF.out wo HW.out).row hlt;have HBX:=Zh (Qj (.cells #[.string l[k].op,.string l[k].s,.bool l[k].num,.int .i64 l[k].n,.string l[k].vs,.slice l[k].a l[k].l.length l[k].c] 123) HW.out);go_wp2_with fail;refine (HCC.out _ HBX.out).mono ?_;rintro e w2 ⟨rfl,hb2⟩;have HB2:=Zh (Qk hb2 HBX.out);clear hb2 HCC HBX;rw [show (mayP l[k].pr)=pp from HPP.out];cases pp with
   | true=>
    have HN:Hid (R=(l.drop (k+1)).all (fun p:PB=>mayP p.pr)):=Zh (by have:=HST.out;rwa [Bool.true_and] at this);go_wp2_with fail;go_roundw
    case rel=>exact ⟨k+1,by omega,by go_num,HN,HB2.out,HB2.out.size⟩
    case measure=>simp [intOf]<;>omega
   | false=>
    have HN:Hid (R=false):=Zh (by have:=HST.out;rwa [Bool.false_and] at this);go_wp2_with fail;go_ret;exact ⟨Qq HN.out.symm,HB2.out⟩
  · have HN:=Zh (vQC (by omega:l.length<=k) HP.out);go_wp2_with fail;go_ret;exact ⟨Qq HN.out.symm,HW.out⟩
def DX (w:World) (g:Nat) (nm:ByteArray) (G U:Value) (ky kd:ByteArray) (p n x:Int):Prop:=w.heap[g]?=some (.cells #[.string nm,G,U,.string ky,.string kd,.int .i64 p,.int .i64 n,.int .i64 x] 45 (0,0))
section
variable {w w':World} {g:Nat} {nm:ByteArray} {G U:Value} {ky kd:ByteArray} {p n x:Int}
theorem DX.grow (h:DX w g nm G U ky kd p n x) (hb:Below w.heap.size w w'):DX w' g nm G U ky kd p n x:=(hb.block g (Array.getElem?_eq_some_iff.1 h).1).trans h
theorem DX.new (w:World) (nm:ByteArray) (G U:Value) (ky kd:ByteArray) (p n x:Int):DX (w.alloc (.cells #[.string nm,G,U,.string ky,.string kd,.int .i64 p,.int .i64 n,.int .i64 x] 45)) w.heap.size nm G U ky kd p n x:=by
 show (w.heap.push _)[w.heap.size]?=_;simp
structure DC (w:World) (g:Nat) (nm:ByteArray) (G U:Value) (ky kd:ByteArray) (p n x:Int):Prop where
 lt:g < w.heap.size
 c0:w.cell? ⟨g,0,none⟩=some (.string nm)
 c1:w.cell? ⟨g,1,none⟩=some G
 c2:w.cell? ⟨g,2,none⟩=some U
 c3:w.cell? ⟨g,3,none⟩=some (.string ky)
 c4:w.cell? ⟨g,4,none⟩=some (.string kd)
 c5:w.cell? ⟨g,5,none⟩=some (.int .i64 p)
 c6:w.cell? ⟨g,6,none⟩=some (.int .i64 n)
 c7:w.cell? ⟨g,7,none⟩=some (.int .i64 x)
theorem DX.box (h:DX w g nm G U ky kd p n x):DC w g nm G U ky kd p n x:=by
 have hz:=(Array.getElem?_eq_some_iff.1 h).1;unfold DX at h
 constructor<;>first | exact hz | simp [World.cell?,h]
end
set_option maxHeartbeats 8000000 in
theorem zJC (d:DB) (w:World) (hM:MaxW w) (hD:DO w d):Calls Tryz.prog 60 #[d.agg] w fun e w'=>e=.returned (.bool (mayD d))/\Below w.heap.size w w':=by
 have CF:=Zh (fun W (hb:Below w.heap.size w W)=>Xp d.name (Nat.le_trans hD.hn (by decide)) W (hM.grow hb));have CK:=Zh (fun W (hb:Below w.heap.size w W)=>Xp d.key (Nat.le_trans hD.hk (by decide)) W (hM.grow hb));have CJ:=Zh (fun W=>jJj d.j W);have CG:=Zh (fun W (hb:Below w.heap.size w W)=>jYT d.ga d.gc d.gl (Nat.le_trans hD.hg (by decide)) (fun s hs=>Nat.le_trans (hD.hgs s hs) (by decide)) W (hM.grow hb) (hD.gS.grow hb));have CP:=Zh (fun W (hb:Below w.heap.size w W)=>jYo d.wa d.wc d.wl (Nat.le_trans hD.hw (by decide)) W (hM.grow hb) (hD.wR.grow hb));obtain ⟨R,hR⟩:∃ R,mayD d=R:=⟨_,rfl⟩;rw [hR];unfold mayD at hR;unfold DB.agg;have hlw:=hD.hw;have hlg:=hD.hg;clear hD hM;obtain ⟨nm,ga,gl,gc,wa,wl,wc,ky,j⟩:=d;simp only at CF CK CJ CG CP hR hlw hlg ⊢;obtain ⟨fb,hfb⟩:∃ b,Q5 nm.data.toList=b:=⟨_,rfl⟩;obtain ⟨kb,hkb⟩:∃ b,Q5 ky.data.toList=b:=⟨_,rfl⟩;obtain ⟨jb,hjb⟩:∃ b,mayJ j=b:=⟨_,rfl⟩;obtain ⟨gb,hgb⟩:∃ b,(gl.all fun s=>Yz s.data.toList)=b:=⟨_,rfl⟩;obtain ⟨pb,hpb⟩:∃ b,(wl.all fun p=>mayP p.pr)=b:=⟨_,rfl⟩;rw [hfb] at CF hR;rw [hkb] at CK hR;rw [hjb] at CJ hR;rw [hgb] at CG hR;rw [hpb] at CP hR;clear hfb hkb hjb hgb hpb;obtain ⟨kd,p,n,x⟩:=j;simp only at CJ hR ⊢;have HR:=Zh hR;have hx0:=DX.new w nm (.slice ga gl.length gc) (.slice wa wl.length wc) ky kd p n x;have hb0:=Qj (.cells #[.string nm,.slice ga gl.length gc,.slice wa wl.length wc,.string ky,.string kd,.int .i64 p,.int .i64 n,.int .i64 x] 45) (.refl w.heap.size w);have HX0:=Zh hx0;have HB0:=Zh hb0;clear hR hx0 hb0;go_enter Tryz.func60,Tryz.ntmps60;go_wp2_with fail;refine (CF.out _ HB0.out).mono ?_;rintro e w1 ⟨rfl,hb1⟩;have HX1:=Zh (HX0.out.grow hb1);have HB1:=Zh (Qk hb1 HB0.out);clear hb1 HX0 HB0 CF;generalize w.heap.size=g at HX1 ⊢;obtain ⟨x0,x1,x2,x3,x4,x5,x6,x7,x8⟩:=HX1.out.box;cases fb with
 | false=>
  have HN:=Zh (show R=false by rw [<- HR.out];rfl);go_wp2_with fail;go_ret;exact ⟨Qq HN.out.symm,HB1.out⟩
 | true=>
  by_cases h1:(gl.length:Int) < 1
  · have HN:=Zh (show R=false by rw [<- HR.out];simp;omega);go_wp2_with fail;go_ret;exact ⟨Qq HN.out.symm,HB1.out⟩
  ·
   by_cases h2:(5:Int) < gl.length
   · have HN:=Zh (show R=false by rw [<- HR.out];simp;omega);go_wp2_with fail;go_ret;exact ⟨Qq HN.out.symm,HB1.out⟩
   ·
    have HR2:Hid ((jb&&(decide ((wl.length:Int)=p)&&((decide (ky=⟨#[]⟩)||kb)&&(gb&&pb))))=R):=Zh (by
     rw [<- HR.out,decide_eq_true (show 1<=gl.length by omega),decide_eq_true (show gl.length<=5 by omega)];simp only [Bool.true_and])
    clear HR;go_wp2_with fail;refine (CJ.out _).mono ?_;rintro e w2 ⟨rfl,hb2⟩;have HX2:=Zh (HX1.out.grow hb2);have HB2:=Zh (Qk hb2 HB1.out);clear hb2 HX1 HB1 CJ x0 x1 x2 x3 x4 x5 x6 x7 x8;obtain ⟨x0,x1,x2,x3,x4,x5,x6,x7,x8⟩:=HX2.out.box;cases jb with
    | false=>
     have HN:=Zh (show R=false by rw [<- HR2.out];rfl);go_wp2_with fail;go_ret;exact ⟨Qq HN.out.symm,HB2.out⟩
    | true=>
     by_cases h3:(wl.length:Int)=p
     ·
      subst h3;have HR3:Hid (((decide (ky=⟨#[]⟩)||kb)&&(gb&&pb))=R):=Zh (by rw [<- HR2.out];simp);clear HR2
      by_cases hk:ky=⟨#[]⟩
      ·
       subst hk;have HR4:Hid ((gb&&pb)=R):=Zh (by rw [<- HR3.out];simp);clear HR3;go_wp2_with fail;refine (CG.out _ HB2.out).mono ?_;rintro e w8 ⟨rfl,hb8⟩;have HX8:=Zh (HX2.out.grow hb8);have HB8:=Zh (Qk hb8 HB2.out);clear hb8 HB2 HX2 CG x0 x1 x2 x3 x4 x5 x6 x7 x8;obtain ⟨x0,x1,x2,x3,x4,x5,x6,x7,x8⟩:=HX8.out.box;cases gb with
       | false=>
        have HN:=Zh (show R=false by rw [<- HR4.out];rfl);go_wp2_with fail;go_ret;exact ⟨Qq HN.out.symm,HB8.out⟩
       | true=>
        go_wp2_with fail;refine (CP.out _ HB8.out).mono ?_;rintro e w9 ⟨rfl,hb9⟩;have HB9:=Zh (Qk hb9 HB8.out);have HN:=Zh (show R=pb by rw [<- HR4.out];simp);clear hb9;go_wp2_with fail;go_ret;exact ⟨Qq HN.out.symm,HB9.out⟩
      ·
       have hky:(ky.toList==[])=false:=by rw [beq_eq_false_iff_ne];exact fun e=>hk (Xk (by rw [<- Qp,e]))
       have HK:=Zh hk;clear hk;go_wp2_with fail;refine (CK.out _ HB2.out).mono ?_;rintro e w3 ⟨rfl,hb3⟩;have HX3:=Zh (HX2.out.grow hb3);have HB3:=Zh (Qk hb3 HB2.out);clear hb3 HX2 HB2 CK x0 x1 x2 x3 x4 x5 x6 x7 x8;obtain ⟨x0,x1,x2,x3,x4,x5,x6,x7,x8⟩:=HX3.out.box;cases kb with
       | false=>
        have HN:=Zh (show R=false by rw [<- HR3.out];simp [HK.out]);go_wp2_with fail;go_ret;exact ⟨Qq HN.out.symm,HB3.out⟩
       | true=>
        have HR4:Hid ((gb&&pb)=R):=Zh (by rw [<- HR3.out];simp);clear HR3;go_wp2_with fail;refine (CG.out _ HB3.out).mono ?_;rintro e w8 ⟨rfl,hb8⟩;have HX8:=Zh (HX3.out.grow hb8);have HB8:=Zh (Qk hb8 HB3.out);clear hb8 HB3 HX3 CG x0 x1 x2 x3 x4 x5 x6 x7 x8;obtain ⟨x0,x1,x2,x3,x4,x5,x6,x7,x8⟩:=HX8.out.box;cases gb with
        | false=>
         have HN:=Zh (show R=false by rw [<- HR4.out];rfl);go_wp2_with fail;go_ret;exact ⟨Qq HN.out.symm,HB8.out⟩
        | true=>
         go_wp2_with fail;refine (CP.out _ HB8.out).mono ?_;rintro e w9 ⟨rfl,hb9⟩;have HB9:=Zh (Qk hb9 HB8.out);have HN:=Zh (show R=pb by rw [<- HR4.out];simp);clear hb9;go_wp2_with fail;go_ret;exact ⟨Qq HN.out.symm,HB9.out⟩
     · have HN:=Zh (show R=false by rw [<- HR2.out];simp [h3]);go_wp2_with fail;go_ret;exact ⟨Qq HN.out.symm,HB2.out⟩
