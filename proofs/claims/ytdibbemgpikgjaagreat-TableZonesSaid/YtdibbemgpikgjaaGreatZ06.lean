/- The texts Ob, Sa, in this order. -/
import Derived.Test.YtdibbemgpikgjaaGreatZ00
import Derived.Test.YtdibbemgpikgjaaGreatZ04
import Derived.Test.YtdibbemgpikgjaaGreatZ05
set_option maxRecDepth 10000
set_option maxHeartbeats 8000000
namespace Go.Proofs.YtdibbemgpikgjaaGreat
open Go Go.RowKit
attribute [local go_sem] lV lZ lW l7 pY qc lT lX lU lY Q4 Ri
def lM (b:Bool):Int:=if b=true then 1 else 0
def iH (x:Lr):List UInt8:=le x.every 2++(le x.rest 2++le (lM x.yes) 1)
def gu (x:Tr):List UInt8:=le x.at_ 8++le x.off 2
def iK (x:Yr):List UInt8:=le x.month 1++(le x.bZ 1++(le x.cZ 1++(le x.minute 2++le x.off 2)))
def kV (z:Int):Prop:= -9223372036854775808≤z∧z≤9223372036854775807
def yA (x:Lr):Prop:=kV x.every∧kV x.rest
def yK (x:Tr):Prop:=kV x.at_∧kV x.off
def pI (x:Yr):Prop:=kV x.month∧kV x.bZ∧kV x.cZ∧kV x.minute∧kV x.off
theorem yz (x:Lr):(iH x).length=5:=by simp [iH,aA]
theorem sJ (x:Tr):(gu x).length=10:=by simp [gu,aA]
theorem yL (x:Yr):(iK x).length=7:=by simp [iK,aA]
theorem uN {α:Type} (f:α→List UInt8) (L:Nat) (h:∀x,(f x).length=L) (xs:List α):(xs.flatMap f).length=xs.length*L:=by
 induction xs with
 |nil=>simp
 |cons x xs ih=>rw [List.flatMap_cons,bJ,ih,h,List.length_cons,Nat.succ_mul,Nat.add_comm]
theorem Oz (w:World) (g:Nat) (p:Addr) (v:Value) (bs:List UInt8) (b:Bool) (hl:bs.length≤1000000000) (hst:eu w g v bs) (hp:w.cell? p=some (.bool b)):
  Calls Tryz.prog 158 #[pt g, .pointer (some p)] w (eG w g v (bs++le (lM b) 1)):=by
 obtain ⟨h1,h2⟩:=hst.grow (ag w (.cells #[I (lM b)] 3));have HG2:=ae h2;have hp1:(w.alloc (.cells #[I 0] 3)).cell? p=some (.bool b):=(World.cell?_alloc_some w p _ (by rw [hp];rfl)).trans hp;have HC:=ae (bP (w.alloc (.cells #[I (lM b)] 3)) g ⟨w.heap.size,0,none⟩ v bs (lM b) 1 (by unfold lM;split<;>omega) (by unfold lM;split<;>omega) (by omega) (by omega) h1.lt h1 ((Row.new w #[I (lM b)] 3).2 0));clear hst h1 h2;cases b with
 |false=>
  rw [show lM false=0 from rfl] at HC HG2 ⊢;go_enter Tryz.func158,Tryz.ntmps158;go_wp2_with fail;refine HC.out.mono ?_;rintro e w1 ⟨rfl,v1,hs1,hk1⟩;have jQ:=ae hs1;have iP:=ae (HG2.out.trans hk1);clear hs1 hk1 HC HG2;go_wp2_with fail
  go_end0
  exact ⟨rfl,v1,jQ.out,iP.out⟩
 |true=>
  rw [show lM true=1 from rfl] at HC HG2 ⊢;go_enter Tryz.func158,Tryz.ntmps158;go_wp2_with fail;refine HC.out.mono ?_;rintro e w1 ⟨rfl,v1,hs1,hk1⟩;have jQ:=ae hs1;have iP:=ae (HG2.out.trans hk1);clear hs1 hk1 HC HG2;go_wp2_with fail
  go_end0
  exact ⟨rfl,v1,jQ.out,iP.out⟩
theorem OO (w:World) (g xb xo:Nat) (v:Value) (bs:List UInt8) (x:Lr) (hr:w.rangeAt xb xo x.cells) (hxg:xb<g) (hf:yA x) (hl:bs.length≤900000000) (hst:eu w g v bs):
  Calls Tryz.prog 88 #[.iface 71 (pt g), .pointer (some ⟨xb,xo,none⟩)] w (eG w g v (bs++iH x)):=by
 have hgl:=hst.lt;have HST:=ae hst;have HF:=ae hf;have c0:w.cell? ⟨xb,xo,none⟩=some (I x.every):=hr 0 _ rfl;have c1:w.cell? ⟨xb,xo+1,none⟩=some (I x.rest):=hr 1 _ rfl;have c2:w.cell? ⟨xb,xo+2,none⟩=some (.bool x.yes):=hr 2 _ rfl;have HB0:Hid (Below g w w):=ae (Below.refl _ _);have vM:=ae hst;have xg:Hid (iy g v w v w):=ae (iy.refl _ _ _);clear hr hf hst;have hc0:w.drew.cell? ⟨xb,xo,none⟩=some (I x.every):=(HB0.out.cell (p:=⟨xb,xo,none⟩) hxg).trans c0;have hlen0:(bs).length≤900000100:=by
  try simp only [bJ,aA]
  omega
 have FY:=ae (bP w.drew g ⟨xb,xo,none⟩ v (bs) x.every 2 (by have:=HF.out;unfold yA kV at this;omega) (by have:=HF.out;unfold yA kV at this;omega) (by omega) (by omega) vM.out.drew.lt vM.out.drew hc0);clear hc0;go_enter Tryz.func88,Tryz.ntmps88;go_wp2_with fail;go_still_tail 7,(by kernel_rfl);go_wp2_with fail;refine FY.out.mono ?_;rintro e w1 ⟨rfl,v1,hs1,hk1⟩;have HB1:=ae (HB0.out.trans (bD vM.out (aI hk1)));have jQ:=ae hs1;have iP:=ae (xg.out.trans (aI hk1));clear hs1 hk1 FY HB0 vM xg hlen0;have hc1:w1.drew.cell? ⟨xb,xo+1,none⟩=some (I x.rest):=(HB1.out.cell (p:=⟨xb,xo+1,none⟩) hxg).trans c1;have hlen1:(bs++le (x.every) 2).length≤900000100:=by
  try simp only [bJ,aA]
  omega
 have jf:=ae (bP w1.drew g ⟨xb,xo+1,none⟩ v1 (bs++le (x.every) 2) x.rest 2 (by have:=HF.out;unfold yA kV at this;omega) (by have:=HF.out;unfold yA kV at this;omega) (by omega) (by omega) jQ.out.drew.lt jQ.out.drew hc1);clear hc1;go_wp2_with fail;go_still_tail 7,(by kernel_rfl);go_wp2_with fail;refine jf.out.mono ?_;rintro e w2 ⟨rfl,v2,hs2,hk2⟩;have HB2:=ae (HB1.out.trans (bD jQ.out (aI hk2)));have HS2:=ae hs2;have jc:=ae (iP.out.trans (aI hk2));clear hs2 hk2 jf HB1 jQ iP hlen1;have hc2:w2.drew.cell? ⟨xb,xo+2,none⟩=some (.bool x.yes):=(HB2.out.cell (p:=⟨xb,xo+2,none⟩) hxg).trans c2;have hlen2:(bs++le (x.every) 2++le (x.rest) 2).length≤900000100:=by
  try simp only [bJ,aA]
  omega
 have HC2:=ae (Oz w2.drew g ⟨xb,xo+2,none⟩ v2 (bs++le (x.every) 2++le (x.rest) 2) x.yes (by omega) HS2.out.drew hc2);clear hc2;go_wp2_with fail;go_still_tail 7,(by kernel_rfl);go_wp2_with fail;refine HC2.out.mono ?_;rintro e w3 ⟨rfl,v3,hs3,hk3⟩;have HB3:=ae (HB2.out.trans (bD HS2.out (aI hk3)));have mZ:=ae hs3;have kU:=ae (jc.out.trans (aI hk3));clear hs3 hk3 HC2 HB2 HS2 jc hlen2;go_wp2_with fail
 go_end0
 exact ⟨rfl,v3,by unfold iH;have h:=mZ.out;simpa [List.append_assoc] using h,kU.out⟩
theorem KP (w:World) (g xb xo:Nat) (v:Value) (bs:List UInt8) (x:Tr) (hr:w.rangeAt xb xo x.cells) (hxg:xb<g) (hf:yK x) (hl:bs.length≤900000000) (hst:eu w g v bs):
  Calls Tryz.prog 63 #[.iface 71 (pt g), .pointer (some ⟨xb,xo,none⟩)] w (eG w g v (bs++gu x)):=by
 have hgl:=hst.lt;have HST:=ae hst;have HF:=ae hf;have c0:w.cell? ⟨xb,xo,none⟩=some (I x.at_):=hr 0 _ rfl;have c1:w.cell? ⟨xb,xo+1,none⟩=some (I x.off):=hr 1 _ rfl;have HB0:Hid (Below g w w):=ae (Below.refl _ _);have vM:=ae hst;have xg:Hid (iy g v w v w):=ae (iy.refl _ _ _);clear hr hf hst;have hc0:w.drew.cell? ⟨xb,xo,none⟩=some (I x.at_):=(HB0.out.cell (p:=⟨xb,xo,none⟩) hxg).trans c0;have hlen0:(bs).length≤900000100:=by
  try simp only [bJ,aA]
  omega
 have FY:=ae (bP w.drew g ⟨xb,xo,none⟩ v (bs) x.at_ 8 (by have:=HF.out;unfold yK kV at this;omega) (by have:=HF.out;unfold yK kV at this;omega) (by omega) (by omega) vM.out.drew.lt vM.out.drew hc0);clear hc0;go_enter Tryz.func63,Tryz.ntmps63;go_wp2_with fail;go_still_tail 7,(by kernel_rfl);go_wp2_with fail;refine FY.out.mono ?_;rintro e w1 ⟨rfl,v1,hs1,hk1⟩;have HB1:=ae (HB0.out.trans (bD vM.out (aI hk1)));have jQ:=ae hs1;have iP:=ae (xg.out.trans (aI hk1));clear hs1 hk1 FY HB0 vM xg hlen0;have hc1:w1.drew.cell? ⟨xb,xo+1,none⟩=some (I x.off):=(HB1.out.cell (p:=⟨xb,xo+1,none⟩) hxg).trans c1;have hlen1:(bs++le (x.at_) 8).length≤900000100:=by
  try simp only [bJ,aA]
  omega
 have jf:=ae (pq w1.drew g ⟨xb,xo+1,none⟩ v1 (bs++le (x.at_) 8) x.off (by have:=HF.out;unfold yK kV at this;omega) (by have:=HF.out;unfold yK kV at this;omega) (by omega) jQ.out.drew hc1);clear hc1;go_wp2_with fail;go_still_tail 7,(by kernel_rfl);go_wp2_with fail;refine jf.out.mono ?_;rintro e w2 ⟨rfl,v2,hs2,hk2⟩;have HB2:=ae (HB1.out.trans (bD jQ.out (aI hk2)));have HS2:=ae hs2;have jc:=ae (iP.out.trans (aI hk2));clear hs2 hk2 jf HB1 jQ iP hlen1;go_wp2_with fail
 go_end0
 exact ⟨rfl,v2,by unfold gu;have h:=HS2.out;simpa [List.append_assoc] using h,jc.out⟩
theorem OQ (w:World) (g xb xo:Nat) (v:Value) (bs:List UInt8) (x:Yr) (hr:w.rangeAt xb xo x.cells) (hxg:xb<g) (hf:pI x) (hl:bs.length≤900000000) (hst:eu w g v bs):
  Calls Tryz.prog 65 #[.iface 71 (pt g), .pointer (some ⟨xb,xo,none⟩)] w (eG w g v (bs++iK x)):=by
 have hgl:=hst.lt;have HST:=ae hst;have HF:=ae hf;have c0:w.cell? ⟨xb,xo,none⟩=some (I x.month):=hr 0 _ rfl;have c1:w.cell? ⟨xb,xo+1,none⟩=some (I x.bZ):=hr 1 _ rfl;have c2:w.cell? ⟨xb,xo+2,none⟩=some (I x.cZ):=hr 2 _ rfl;have c3:w.cell? ⟨xb,xo+3,none⟩=some (I x.minute):=hr 3 _ rfl;have c4:w.cell? ⟨xb,xo+4,none⟩=some (I x.off):=hr 4 _ rfl;have HB0:Hid (Below g w w):=ae (Below.refl _ _);have vM:=ae hst;have xg:Hid (iy g v w v w):=ae (iy.refl _ _ _);clear hr hf hst;have hc0:w.drew.cell? ⟨xb,xo,none⟩=some (I x.month):=(HB0.out.cell (p:=⟨xb,xo,none⟩) hxg).trans c0;have hlen0:(bs).length≤900000100:=by
  try simp only [bJ,aA]
  omega
 have FY:=ae (bP w.drew g ⟨xb,xo,none⟩ v (bs) x.month 1 (by have:=HF.out;unfold pI kV at this;omega) (by have:=HF.out;unfold pI kV at this;omega) (by omega) (by omega) vM.out.drew.lt vM.out.drew hc0);clear hc0;go_enter Tryz.func65,Tryz.ntmps65;go_wp2_with fail;go_still_tail 7,(by kernel_rfl);go_wp2_with fail;refine FY.out.mono ?_;rintro e w1 ⟨rfl,v1,hs1,hk1⟩;have HB1:=ae (HB0.out.trans (bD vM.out (aI hk1)));have jQ:=ae hs1;have iP:=ae (xg.out.trans (aI hk1));clear hs1 hk1 FY HB0 vM xg hlen0;have hc1:w1.drew.cell? ⟨xb,xo+1,none⟩=some (I x.bZ):=(HB1.out.cell (p:=⟨xb,xo+1,none⟩) hxg).trans c1;have hlen1:(bs++le (x.month) 1).length≤900000100:=by
  try simp only [bJ,aA]
  omega
 have jf:=ae (bP w1.drew g ⟨xb,xo+1,none⟩ v1 (bs++le (x.month) 1) x.bZ 1 (by have:=HF.out;unfold pI kV at this;omega) (by have:=HF.out;unfold pI kV at this;omega) (by omega) (by omega) jQ.out.drew.lt jQ.out.drew hc1);clear hc1;go_wp2_with fail;go_still_tail 7,(by kernel_rfl);go_wp2_with fail;refine jf.out.mono ?_;rintro e w2 ⟨rfl,v2,hs2,hk2⟩;have HB2:=ae (HB1.out.trans (bD jQ.out (aI hk2)));have HS2:=ae hs2;have jc:=ae (iP.out.trans (aI hk2));clear hs2 hk2 jf HB1 jQ iP hlen1;have hc2:w2.drew.cell? ⟨xb,xo+2,none⟩=some (I x.cZ):=(HB2.out.cell (p:=⟨xb,xo+2,none⟩) hxg).trans c2;have hlen2:(bs++le (x.month) 1++le (x.bZ) 1).length≤900000100:=by
  try simp only [bJ,aA]
  omega
 have HC2:=ae (bP w2.drew g ⟨xb,xo+2,none⟩ v2 (bs++le (x.month) 1++le (x.bZ) 1) x.cZ 1 (by have:=HF.out;unfold pI kV at this;omega) (by have:=HF.out;unfold pI kV at this;omega) (by omega) (by omega) HS2.out.drew.lt HS2.out.drew hc2);clear hc2;go_wp2_with fail;go_still_tail 7,(by kernel_rfl);go_wp2_with fail;refine HC2.out.mono ?_;rintro e w3 ⟨rfl,v3,hs3,hk3⟩;have HB3:=ae (HB2.out.trans (bD HS2.out (aI hk3)));have mZ:=ae hs3;have kU:=ae (jc.out.trans (aI hk3));clear hs3 hk3 HC2 HB2 HS2 jc hlen2;have hc3:w3.drew.cell? ⟨xb,xo+3,none⟩=some (I x.minute):=(HB3.out.cell (p:=⟨xb,xo+3,none⟩) hxg).trans c3;have hlen3:(bs++le (x.month) 1++le (x.bZ) 1++le (x.cZ) 1).length≤900000100:=by
  try simp only [bJ,aA]
  omega
 have oD:=ae (bP w3.drew g ⟨xb,xo+3,none⟩ v3 (bs++le (x.month) 1++le (x.bZ) 1++le (x.cZ) 1) x.minute 2 (by have:=HF.out;unfold pI kV at this;omega) (by have:=HF.out;unfold pI kV at this;omega) (by omega) (by omega) mZ.out.drew.lt mZ.out.drew hc3);clear hc3;go_wp2_with fail;go_still_tail 7,(by kernel_rfl);go_wp2_with fail;refine oD.out.mono ?_;rintro e w4 ⟨rfl,v4,hs4,hk4⟩;have HB4:=ae (HB3.out.trans (bD mZ.out (aI hk4)));have yf:=ae hs4;have IX:=ae (kU.out.trans (aI hk4));clear hs4 hk4 oD HB3 mZ kU hlen3;have hc4:w4.drew.cell? ⟨xb,xo+4,none⟩=some (I x.off):=(HB4.out.cell (p:=⟨xb,xo+4,none⟩) hxg).trans c4;have hlen4:(bs++le (x.month) 1++le (x.bZ) 1++le (x.cZ) 1++le (x.minute) 2).length≤900000100:=by
  try simp only [bJ,aA]
  omega
 have oM:=ae (pq w4.drew g ⟨xb,xo+4,none⟩ v4 (bs++le (x.month) 1++le (x.bZ) 1++le (x.cZ) 1++le (x.minute) 2) x.off (by have:=HF.out;unfold pI kV at this;omega) (by have:=HF.out;unfold pI kV at this;omega) (by omega) yf.out.drew hc4);clear hc4;go_wp2_with fail;go_still_tail 7,(by kernel_rfl);go_wp2_with fail;refine oM.out.mono ?_;rintro e w5 ⟨rfl,v5,hs5,hk5⟩;have kT:=ae (HB4.out.trans (bD yf.out (aI hk5)));have rC:=ae hs5;have tu:=ae (IX.out.trans (aI hk5));clear hs5 hk5 oM HB4 yf IX hlen4;go_wp2_with fail
 go_end0
 exact ⟨rfl,v5,by unfold iK;have h:=rC.out;simpa [List.append_assoc] using h,tu.out⟩
def Fq (w:World) (g:Nat) (v:Value) (bs:List UInt8) (n:Nat) (xs:List Lr) (i:Value) (wr:World):Prop:=
 ∃k:Nat,k≤n∧i= .int .i64 k∧∃v',eu wr g v' (bs++(le n 1++(xs.take k).flatMap iH))∧iy g v w v' wr
theorem Dk (w:World) (g lb lo:Nat) (A:Option Addr) (n c:Nat) (xs:List Lr) (v:Value) (bs:List UInt8) (hn:xs.length=n) (hn2:n≤100000) (hp:w.cell? ⟨lb,lo,none⟩=some (.slice A n c)) (JG:lb<g) (hA:aB w g A (xs.flatMap Lr.cells)) (hfit:∀z∈xs,yA z)
  (hl:bs.length≤100000000) (hst:eu w g v bs):
  Calls Tryz.prog 87 #[.iface 71 (pt g), .pointer (some ⟨lb,lo,none⟩),I 1, .func (.func 88) #[] #[]] w (eG w g v (bs++(le n 1++xs.flatMap iH))):=by
 have HC:=ae (fG w.drew g v bs n 1 (by omega) (by omega) (by omega) (by omega) hst.drew);have HST:=ae hst;have HN:=ae hn;have HF:=ae hfit;have HA:=ae hA;have HP:=ae hp;have hgl:=hst.lt;clear hst hn hfit hA;go_enter Tryz.func87,Tryz.ntmps87;go_wp2_with fail;go_still_tail 9,(by kernel_rfl);go_wp2_with fail;refine HC.out.mono ?_;rintro e w1 ⟨rfl,v1,hs1,hk1⟩;have jQ:=ae hs1;have iP:=ae (aI hk1);clear hs1 hk1 HC hp;go_wp2_with fail
 go_loopw [22] (fun i wr=>Fq w g v bs n xs i wr) (fun i _=>n - (intOf i).toNat)
 case atStart=>exact ⟨0,Nat.zero_le _,rfl,v1,by simpa using jQ.out,iP.out⟩
 case round=>
  obtain ⟨k,hk,rfl,v2,hs2,hk2⟩:=hrel;have hb2:=bD HST.out hk2;have HB2:=ae hb2;have HS2:=ae hs2;have jc:=ae hk2;have hp2:wr.cell? ⟨lb,lo,none⟩=some (.slice A n c):=(hb2.cell (p:=⟨lb,lo,none⟩) JG).trans HP.out;clear hs2 hk2 hb2 jQ iP;by_cases hlt:k<n
  ·have hkz:k<xs.length:=by rw [HN.out];exact hlt
   obtain ⟨b,off,rfl,hbg,hc0⟩:=HA.out.there (by rw [dJ (s:=3) Lr.cells _ fun _ _=>rfl];omega);obtain ⟨x,hx⟩:∃x,xs[k]? =some x:=⟨_,dE hkz⟩;have hcz:wr.rangeAt b (off+k*3) x.cells:=aU (aB.elem (s:=3) (f:=Lr.cells) (fun _ _=>rfl) hc0 k x hx) HB2.out hbg;have hlen:(bs++(le (n:Int) 1++(xs.take k).flatMap iH)).length≤900000000:=by
    rw [bJ,bJ,aA,uN iH 5 yz,List.length_take];omega
   have HM:=ae (OO wr g b (off+k*3) v2 _ x hcz hbg (HF.out x (fK hx)) hlen HS2.out);have HX:=ae hx;have i0:(0:Int)≤(k:Int):=by omega
   have i1:(k:Int)<(n:Int):=by omega
   have i2:((k:Int)==(n:Int))=false:=by simp;omega
   clear hkz hc0 hx hlen hcz;go_wp2_with fail;refine HM.out.mono ?_;rintro e w3 ⟨rfl,v3,hs3,hk3⟩;have mZ:=ae hs3;have kU:=ae (jc.out.trans hk3);clear hs3 hk3 hp2;go_wp2_with fail;go_roundw
   case rel=>exact ⟨k+1,by omega,by go_num,v3,by rw [iw xs k x HX.out,List.flatMap_append,List.flatMap_cons,List.flatMap_nil,List.append_nil,←List.append_assoc (le _ _),←List.append_assoc];exact mZ.out,kU.out⟩
   case measure=>simp [intOf];omega
  ·have hkn:k=n:=by omega
   have lG:=ae hkn;clear hkn;go_wp2_with fail
   go_end0
   exact ⟨rfl,v2,by have h:=HS2.out;rwa [lG.out,List.take_of_length_le (by rw [HN.out];exact Nat.le_refl _)] at h,jc.out⟩
def Dl (w:World) (g:Nat) (v:Value) (bs:List UInt8) (n:Nat) (xs:List Tr) (i:Value) (wr:World):Prop:=
 ∃k:Nat,k≤n∧i= .int .i64 k∧∃v',eu wr g v' (bs++(le n 2++(xs.take k).flatMap gu))∧iy g v w v' wr
theorem BD (w:World) (g lb lo:Nat) (A:Option Addr) (n c:Nat) (xs:List Tr) (v:Value) (bs:List UInt8) (hn:xs.length=n) (hn2:n≤100000) (hp:w.cell? ⟨lb,lo,none⟩=some (.slice A n c)) (JG:lb<g) (hA:aB w g A (xs.flatMap Tr.cells)) (hfit:∀z∈xs,yK z)
  (hl:bs.length≤100000000) (hst:eu w g v bs):
  Calls Tryz.prog 62 #[.iface 71 (pt g), .pointer (some ⟨lb,lo,none⟩),I 2, .func (.func 63) #[] #[]] w (eG w g v (bs++(le n 2++xs.flatMap gu))):=by
 have HC:=ae (fG w.drew g v bs n 2 (by omega) (by omega) (by omega) (by omega) hst.drew);have HST:=ae hst;have HN:=ae hn;have HF:=ae hfit;have HA:=ae hA;have HP:=ae hp;have hgl:=hst.lt;clear hst hn hfit hA;go_enter Tryz.func62,Tryz.ntmps62;go_wp2_with fail;go_still_tail 9,(by kernel_rfl);go_wp2_with fail;refine HC.out.mono ?_;rintro e w1 ⟨rfl,v1,hs1,hk1⟩;have jQ:=ae hs1;have iP:=ae (aI hk1);clear hs1 hk1 HC hp;go_wp2_with fail
 go_loopw [22] (fun i wr=>Dl w g v bs n xs i wr) (fun i _=>n - (intOf i).toNat)
 case atStart=>exact ⟨0,Nat.zero_le _,rfl,v1,by simpa using jQ.out,iP.out⟩
 case round=>
  obtain ⟨k,hk,rfl,v2,hs2,hk2⟩:=hrel;have hb2:=bD HST.out hk2;have HB2:=ae hb2;have HS2:=ae hs2;have jc:=ae hk2;have hp2:wr.cell? ⟨lb,lo,none⟩=some (.slice A n c):=(hb2.cell (p:=⟨lb,lo,none⟩) JG).trans HP.out;clear hs2 hk2 hb2 jQ iP;by_cases hlt:k<n
  ·have hkz:k<xs.length:=by rw [HN.out];exact hlt
   obtain ⟨b,off,rfl,hbg,hc0⟩:=HA.out.there (by rw [dJ (s:=2) Tr.cells _ fun _ _=>rfl];omega);obtain ⟨x,hx⟩:∃x,xs[k]? =some x:=⟨_,dE hkz⟩;have hcz:wr.rangeAt b (off+k*2) x.cells:=aU (aB.elem (s:=2) (f:=Tr.cells) (fun _ _=>rfl) hc0 k x hx) HB2.out hbg;have hlen:(bs++(le (n:Int) 2++(xs.take k).flatMap gu)).length≤900000000:=by
    rw [bJ,bJ,aA,uN gu 10 sJ,List.length_take];omega
   have HM:=ae (KP wr g b (off+k*2) v2 _ x hcz hbg (HF.out x (fK hx)) hlen HS2.out);have HX:=ae hx;have i0:(0:Int)≤(k:Int):=by omega
   have i1:(k:Int)<(n:Int):=by omega
   have i2:((k:Int)==(n:Int))=false:=by simp;omega
   clear hkz hc0 hx hlen hcz;go_wp2_with fail;refine HM.out.mono ?_;rintro e w3 ⟨rfl,v3,hs3,hk3⟩;have mZ:=ae hs3;have kU:=ae (jc.out.trans hk3);clear hs3 hk3 hp2;go_wp2_with fail;go_roundw
   case rel=>exact ⟨k+1,by omega,by go_num,v3,by rw [iw xs k x HX.out,List.flatMap_append,List.flatMap_cons,List.flatMap_nil,List.append_nil,←List.append_assoc (le _ _),←List.append_assoc];exact mZ.out,kU.out⟩
   case measure=>simp [intOf];omega
  ·have hkn:k=n:=by omega
   have lG:=ae hkn;clear hkn;go_wp2_with fail
   go_end0
   exact ⟨rfl,v2,by have h:=HS2.out;rwa [lG.out,List.take_of_length_le (by rw [HN.out];exact Nat.le_refl _)] at h,jc.out⟩
def Fv (w:World) (g:Nat) (v:Value) (bs:List UInt8) (n:Nat) (xs:List Yr) (i:Value) (wr:World):Prop:=
 ∃k:Nat,k≤n∧i= .int .i64 k∧∃v',eu wr g v' (bs++(le n 1++(xs.take k).flatMap iK))∧iy g v w v' wr
theorem Dn (w:World) (g lb lo:Nat) (A:Option Addr) (n c:Nat) (xs:List Yr) (v:Value) (bs:List UInt8) (hn:xs.length=n) (hn2:n≤100000) (hp:w.cell? ⟨lb,lo,none⟩=some (.slice A n c)) (JG:lb<g) (hA:aB w g A (xs.flatMap Yr.cells)) (hfit:∀z∈xs,pI z)
  (hl:bs.length≤100000000) (hst:eu w g v bs):
  Calls Tryz.prog 64 #[.iface 71 (pt g), .pointer (some ⟨lb,lo,none⟩),I 1, .func (.func 65) #[] #[]] w (eG w g v (bs++(le n 1++xs.flatMap iK))):=by
 have HC:=ae (fG w.drew g v bs n 1 (by omega) (by omega) (by omega) (by omega) hst.drew);have HST:=ae hst;have HN:=ae hn;have HF:=ae hfit;have HA:=ae hA;have HP:=ae hp;have hgl:=hst.lt;clear hst hn hfit hA;go_enter Tryz.func64,Tryz.ntmps64;go_wp2_with fail;go_still_tail 9,(by kernel_rfl);go_wp2_with fail;refine HC.out.mono ?_;rintro e w1 ⟨rfl,v1,hs1,hk1⟩;have jQ:=ae hs1;have iP:=ae (aI hk1);clear hs1 hk1 HC hp;go_wp2_with fail
 go_loopw [22] (fun i wr=>Fv w g v bs n xs i wr) (fun i _=>n - (intOf i).toNat)
 case atStart=>exact ⟨0,Nat.zero_le _,rfl,v1,by simpa using jQ.out,iP.out⟩
 case round=>
  obtain ⟨k,hk,rfl,v2,hs2,hk2⟩:=hrel;have hb2:=bD HST.out hk2;have HB2:=ae hb2;have HS2:=ae hs2;have jc:=ae hk2;have hp2:wr.cell? ⟨lb,lo,none⟩=some (.slice A n c):=(hb2.cell (p:=⟨lb,lo,none⟩) JG).trans HP.out;clear hs2 hk2 hb2 jQ iP;by_cases hlt:k<n
  ·have hkz:k<xs.length:=by rw [HN.out];exact hlt
   obtain ⟨b,off,rfl,hbg,hc0⟩:=HA.out.there (by rw [dJ (s:=5) Yr.cells _ fun _ _=>rfl];omega);obtain ⟨x,hx⟩:∃x,xs[k]? =some x:=⟨_,dE hkz⟩;have hcz:wr.rangeAt b (off+k*5) x.cells:=aU (aB.elem (s:=5) (f:=Yr.cells) (fun _ _=>rfl) hc0 k x hx) HB2.out hbg;have hlen:(bs++(le (n:Int) 1++(xs.take k).flatMap iK)).length≤900000000:=by
    rw [bJ,bJ,aA,uN iK 7 yL,List.length_take];omega
   have HM:=ae (OQ wr g b (off+k*5) v2 _ x hcz hbg (HF.out x (fK hx)) hlen HS2.out);have HX:=ae hx;have i0:(0:Int)≤(k:Int):=by omega
   have i1:(k:Int)<(n:Int):=by omega
   have i2:((k:Int)==(n:Int))=false:=by simp;omega
   clear hkz hc0 hx hlen hcz;go_wp2_with fail;refine HM.out.mono ?_;rintro e w3 ⟨rfl,v3,hs3,hk3⟩;have mZ:=ae hs3;have kU:=ae (jc.out.trans hk3);clear hs3 hk3 hp2;go_wp2_with fail;go_roundw
   case rel=>exact ⟨k+1,by omega,by go_num,v3,by rw [iw xs k x HX.out,List.flatMap_append,List.flatMap_cons,List.flatMap_nil,List.append_nil,←List.append_assoc (le _ _),←List.append_assoc];exact mZ.out,kU.out⟩
   case measure=>simp [intOf];omega
  ·have hkn:k=n:=by omega
   have lG:=ae hkn;clear hkn;go_wp2_with fail
   go_end0
   exact ⟨rfl,v2,by have h:=HS2.out;rwa [lG.out,List.take_of_length_le (by rw [HN.out];exact Nat.le_refl _)] at h,jc.out⟩
end Go.Proofs.YtdibbemgpikgjaaGreat
namespace Go.Proofs.YtdibbemgpikgjaaGreat
open Go Go.RowKit
attribute [local go_sem] eQ fA eU fC iZ ja eH eX eP eY wo wu
def kJ (cs:Array Value) (o:Nat):List Value→Array Value
 | []=>cs
 |v::vs=>kJ (cs.setIfInBounds o v) (o+1) vs
def Ym (M:Nat) (w:World) (rb pb po:Nat) (t:TypeId) (cs:Array Value) (vs:List Value) (R:List UInt8) (e:Ending) (w':World):Prop:=
 e= .returned (.tuple #[])∧gB M w' rb R∧bU w rb pb t (kJ cs po vs) w'
def Q3 (x:Lr):Prop:=(0≤x.every∧x.every<65536)∧(0≤x.rest∧x.rest<65536)
def RP (x:Tr):Prop:=(0≤x.at_∧x.at_<1000000000)∧(-32768≤x.off∧x.off≤32767)
def OU (x:Yr):Prop:=(0≤x.month∧x.month<256)∧(0≤x.bZ∧x.bZ<256)∧(0≤x.cZ∧x.cZ<256)∧(0≤x.minute∧x.minute<65536)∧(-32768≤x.off∧x.off≤32767)
theorem EZ (x:Int) (h0:0≤x) (h1:x<65536) (R:List UInt8):MK (le x 2++R) false 2=x:=by
 rw [Rq];omega
def TSetR (M:Nat) (w:World) (rb pb po:Nat) (t:TypeId) (cs:Array Value) (v:Value) (R:List UInt8) (e:Ending) (w':World):Prop:=
 e= .returned (.tuple #[])∧gB M w' rb R∧bU w rb pb t (cs.setIfInBounds po v) w'
theorem OB (M:Nat) (w:World) (rb pb po:Nat) (t:TypeId) (cs:Array Value) (b b0:Bool) (R:List UInt8) (hr:gB M w rb (le (lM b) 1++R)) (hp:w.heap[pb]? =some (.cells cs t (0,0))) (hpo:cs[po]? =some (.bool b0)) (pM:M≤pb) (hne:pb≠rb):
  Calls Tryz.prog 164 #[pt rb, .pointer (some ⟨pb,po,none⟩)] w (TSetR M w rb pb po t cs (.bool b) R):=by
 have hpl:pb<w.heap.size:=(aZ.1 hp).1;have hlo:=hr.lo;have hrl:=hr.lt;have hfb:0≤lM b∧lM b<256:=by cases b<;>decide
 have hb2:=ag w (.cells #[I 0] 3);have HB2:=ae hb2;have HC:=ae (dD M (w.alloc (.cells #[I 0] 3)) rb w.heap.size 0 1 3 #[I 0] (lM b) (lM b) R (hr.below hb2 hrl) (by omega) (jA _ hfb.1 hfb.2 _) (heap_alloc_last w _) (by decide) (by omega) (by omega));have HP0:=ae (bU.refl (rb:=rb) hp);have HPO:=ae hpo;clear hr hp hb2 hpo;go_enter Tryz.func164,Tryz.ntmps164;go_wp2_with fail;refine HC.out.mono ?_;rintro e w3 ⟨rfl,hr3,hp3⟩;have d3:w3.cell? ⟨w.heap.size,0,none⟩=some (I (lM b)):=hp3.cell 0;have hs3:=hp3.size;rw [World.size_alloc] at hs3;have hk3:kM rb w w3:=⟨hp3.os,hp3.tape,hp3.output,by omega,fun b hb hbr=>(hp3.block b (by simp;omega) (by omega) hbr).trans (HB2.out.block b hb)⟩;have vV:bU w rb pb t cs w3:=HP0.out.mP hk3 (by omega) hne;have e3:w3.cell? ⟨pb,po,none⟩=some (.bool b0):=(vV.cell po).trans HPO.out;have f3:=vV.gm po;have qo:=ae (vV.put po (.bool b));have HR4:=ae (hr3.put (o:=po) pM hne (.bool b));clear hr3 hp3 hk3 vV HC;cases b with
 |true=>
  have hf:lM true=1:=rfl;rw [hf] at d3;go_wp2_with fail
  go_end0
  exact ⟨rfl,HR4.out,qo.out⟩
 |false=>
  have hf:lM false=0:=rfl;rw [hf] at d3;go_wp2_with fail
  go_end0
  exact ⟨rfl,HR4.out,qo.out⟩
theorem KA (M:Nat) (w:World) (rb pb po:Nat) (t:TypeId) (cs:Array Value) (x:Lr) (R:List UInt8) (hx:Q3 x) (hr:gB M w rb (iH x++R)) (hp:w.heap[pb]? =some (.cells cs t (0,0))) (hpo:po+3≤cs.size) (hb0:cs[po+2]? =some (.bool false)) (pM:M≤pb) (hne:pb≠rb):
  Calls Tryz.prog 88 #[.iface 109 (pt rb), .pointer (some ⟨pb,po,none⟩)] w (Ym M w rb pb po t cs (Lr.cells x) R):=by
 obtain ⟨ev,re,ye⟩:=x;unfold Q3 at hx;unfold iH at hr;simp only [List.append_assoc] at hr hx;have HX:=ae hx;have HB0:=ae (show bU w rb pb t cs w from bU.refl hp);have V7:=ae hb0;have HR0:=ae hr;clear hr hp hx hb0;go_enter Tryz.func88,Tryz.ntmps88;have FY:=ae (dD M w.drew rb pb (po) 2 t (cs) ev ev _ HR0.out.drew (by omega) (EZ _ HX.out.1.1 HX.out.1.2 _) HB0.out.drew.tgt (by omega) pM hne);go_wp2_with fail;go_still_tail 7,(by kernel_rfl);go_wp2_with fail;refine FY.out.mono ?_;rintro e w1 ⟨rfl,hr,hp⟩;have HB1:=ae (HB0.out.trans hp.dB);have HR1:=ae hr;clear hr hp FY HR0 HB0;have jf:=ae (dD M w1.drew rb pb (po+1) 2 t ((cs).setIfInBounds (po) (I ev)) re re _ HR1.out.drew (by omega) (EZ _ HX.out.2.1 HX.out.2.2 _) HB1.out.drew.tgt (by simp only [Array.size_setIfInBounds];omega) pM hne);go_wp2_with fail;go_still_tail 7,(by kernel_rfl);go_wp2_with fail;refine jf.out.mono ?_;rintro e w2 ⟨rfl,hr,hp⟩;have HB2:=ae (HB1.out.trans hp.dB);have HR2:=ae hr;clear hr hp jf HR1 HB1;have HC2:=ae (OB M w2.drew rb pb (po+2) t (((cs).setIfInBounds (po) (I ev)).setIfInBounds (po+1) (I re)) ye false _ HR2.out.drew HB2.out.drew.tgt (by rw [Array.getElem?_setIfInBounds_ne (by omega),Array.getElem?_setIfInBounds_ne (by omega)];exact V7.out) pM hne);go_wp2_with fail;go_still_tail 7,(by kernel_rfl);go_wp2_with fail;refine HC2.out.mono ?_;rintro e w3 ⟨rfl,hr,hp⟩;have HB3:=ae (HB2.out.trans hp.dB);have HR3:=ae hr;clear hr hp HC2 HR2 HB2;go_wp2_with fail
 go_end0
 exact ⟨rfl,HR3.out,HB3.out⟩
theorem Ip (M:Nat) (w:World) (rb pb po:Nat) (t:TypeId) (cs:Array Value) (x:Tr) (R:List UInt8) (hx:RP x) (hr:gB M w rb (gu x++R)) (hp:w.heap[pb]? =some (.cells cs t (0,0))) (hpo:po+2≤cs.size) (pM:M≤pb) (hne:pb≠rb):
  Calls Tryz.prog 63 #[.iface 109 (pt rb), .pointer (some ⟨pb,po,none⟩)] w (Ym M w rb pb po t cs (Tr.cells x) R):=by
 obtain ⟨ta,to_⟩:=x;unfold RP at hx;unfold gu at hr;simp only [List.append_assoc] at hr hx;have HX:=ae hx;have HB0:=ae (show bU w rb pb t cs w from bU.refl hp);have HR0:=ae hr;clear hr hp hx;go_enter Tryz.func63,Tryz.ntmps63;have FY:=ae (dD M w.drew rb pb (po) 8 t (cs) ta ta _ HR0.out.drew (by omega) (ML _ (by have:=HX.out.1;unfold fits;omega) _) HB0.out.drew.tgt (by omega) pM hne);go_wp2_with fail;go_still_tail 7,(by kernel_rfl);go_wp2_with fail;refine FY.out.mono ?_;rintro e w1 ⟨rfl,hr,hp⟩;have HB1:=ae (HB0.out.trans hp.dB);have HR1:=ae hr;clear hr hp FY HR0 HB0;have jf:=ae (mX M w1.drew rb pb (po+1) t ((cs).setIfInBounds (po) (I ta)) to_ _ HR1.out.drew HX.out.2.1 HX.out.2.2 HB1.out.drew.tgt (by simp only [Array.size_setIfInBounds];omega) pM hne);go_wp2_with fail;go_still_tail 7,(by kernel_rfl);go_wp2_with fail;refine jf.out.mono ?_;rintro e w2 ⟨rfl,hr,hp⟩;have HB2:=ae (HB1.out.trans hp.dB);have HR2:=ae hr;clear hr hp jf HR1 HB1;go_wp2_with fail
 go_end0
 exact ⟨rfl,HR2.out,HB2.out⟩
theorem KC (M:Nat) (w:World) (rb pb po:Nat) (t:TypeId) (cs:Array Value) (x:Yr) (R:List UInt8) (hx:OU x) (hr:gB M w rb (iK x++R)) (hp:w.heap[pb]? =some (.cells cs t (0,0))) (hpo:po+5≤cs.size) (pM:M≤pb) (hne:pb≠rb):
  Calls Tryz.prog 65 #[.iface 109 (pt rb), .pointer (some ⟨pb,po,none⟩)] w (Ym M w rb pb po t cs (Yr.cells x) R):=by
 obtain ⟨ym,yw,yd,yi,yo⟩:=x;unfold OU at hx;unfold iK at hr;simp only [List.append_assoc] at hr hx;have HX:=ae hx;have HB0:=ae (show bU w rb pb t cs w from bU.refl hp);have HR0:=ae hr;clear hr hp hx;go_enter Tryz.func65,Tryz.ntmps65;have FY:=ae (dD M w.drew rb pb (po) 1 t (cs) ym ym _ HR0.out.drew (by omega) (jA _ HX.out.1.1 HX.out.1.2 _) HB0.out.drew.tgt (by omega) pM hne);go_wp2_with fail;go_still_tail 7,(by kernel_rfl);go_wp2_with fail;refine FY.out.mono ?_;rintro e w1 ⟨rfl,hr,hp⟩;have HB1:=ae (HB0.out.trans hp.dB);have HR1:=ae hr;clear hr hp FY HR0 HB0;have jf:=ae (dD M w1.drew rb pb (po+1) 1 t ((cs).setIfInBounds (po) (I ym)) yw yw _ HR1.out.drew (by omega) (jA _ HX.out.2.1.1 HX.out.2.1.2 _) HB1.out.drew.tgt (by simp only [Array.size_setIfInBounds];omega) pM hne);go_wp2_with fail;go_still_tail 7,(by kernel_rfl);go_wp2_with fail;refine jf.out.mono ?_;rintro e w2 ⟨rfl,hr,hp⟩;have HB2:=ae (HB1.out.trans hp.dB);have HR2:=ae hr;clear hr hp jf HR1 HB1;have HC2:=ae (dD M w2.drew rb pb (po+2) 1 t (((cs).setIfInBounds (po) (I ym)).setIfInBounds (po+1) (I yw)) yd yd _ HR2.out.drew (by omega) (jA _ HX.out.2.2.1.1 HX.out.2.2.1.2 _) HB2.out.drew.tgt (by simp only [Array.size_setIfInBounds];omega) pM hne);go_wp2_with fail;go_still_tail 7,(by kernel_rfl);go_wp2_with fail;refine HC2.out.mono ?_;rintro e w3 ⟨rfl,hr,hp⟩;have HB3:=ae (HB2.out.trans hp.dB);have HR3:=ae hr;clear hr hp HC2 HR2 HB2;have oD:=ae (dD M w3.drew rb pb (po+3) 2 t ((((cs).setIfInBounds (po) (I ym)).setIfInBounds (po+1) (I yw)).setIfInBounds (po+2) (I yd)) yi yi _ HR3.out.drew (by omega) (EZ _ HX.out.2.2.2.1.1 HX.out.2.2.2.1.2 _) HB3.out.drew.tgt (by simp only [Array.size_setIfInBounds];omega) pM hne);go_wp2_with fail;go_still_tail 7,(by kernel_rfl);go_wp2_with fail;refine oD.out.mono ?_;rintro e w4 ⟨rfl,hr,hp⟩;have HB4:=ae (HB3.out.trans hp.dB);have HR4:=ae hr;clear hr hp oD HR3 HB3;have oM:=ae (mX M w4.drew rb pb (po+4) t (((((cs).setIfInBounds (po) (I ym)).setIfInBounds (po+1) (I yw)).setIfInBounds (po+2) (I yd)).setIfInBounds (po+3) (I yi)) yo _ HR4.out.drew HX.out.2.2.2.2.1 HX.out.2.2.2.2.2 HB4.out.drew.tgt (by simp only [Array.size_setIfInBounds];omega) pM hne);go_wp2_with fail;go_still_tail 7,(by kernel_rfl);go_wp2_with fail;refine oM.out.mono ?_;rintro e w5 ⟨rfl,hr,hp⟩;have kT:=ae (HB4.out.trans hp.dB);have oN:=ae hr;clear hr hp oM HR4 HB4;go_wp2_with fail
 go_end0
 exact ⟨rfl,oN.out,kT.out⟩
end Go.Proofs.YtdibbemgpikgjaaGreat
