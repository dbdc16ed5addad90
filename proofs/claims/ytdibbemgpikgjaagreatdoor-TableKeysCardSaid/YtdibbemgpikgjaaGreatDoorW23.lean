/- The texts Ob, Oc, Ng1, Ng2, in this order. -/
import Derived.Test.YtdibbemgpikgjaaGreatDoorW00
import Derived.Test.YtdibbemgpikgjaaGreatDoorW03
import Derived.Test.YtdibbemgpikgjaaGreatDoorW10
import Derived.Test.YtdibbemgpikgjaaGreatDoorW11
import Derived.Test.YtdibbemgpikgjaaGreatDoorW16
set_option maxRecDepth 10000
set_option maxHeartbeats 8000000
namespace Go.Proofs.YtdibbemgpikgjaaGreatDoor
open Go Go.RowKit
attribute [local go_sem] mD mM mF mO qP qR mg mG mr mJ SV Ti
def vJ (b:Bool):Int:=if b=true then 1 else 0
def lL (x:Lr):List UInt8:=le x.every 2++(le x.rest 2++le (vJ x.yes) 1)
def jS (x:Tr):List UInt8:=le x.at_ 8++le x.off 2
def lU (x:Yr):List UInt8:=le x.month 1++(le x.cZ 1++(le x.df 1++(le x.minute 2++le x.off 2)))
def lG (z:Int):Prop:= -9223372036854775808≤z∧z≤9223372036854775807
def y9 (x:Lr):Prop:=lG x.every∧lG x.rest
def zn (x:Tr):Prop:=lG x.at_∧lG x.off
def qp (x:Yr):Prop:=lG x.month∧lG x.cZ∧lG x.df∧lG x.minute∧lG x.off
theorem y8 (x:Lr):(lL x).length=5:=by simp [lL,aC]
theorem uB (x:Tr):(jS x).length=10:=by simp [jS,aC]
theorem zu (x:Yr):(lU x).length=7:=by simp [lU,aC]
theorem wu {α:Type} (f:α→List UInt8) (L:Nat) (h:∀x,(f x).length=L) (xs:List α):(xs.flatMap f).length=xs.length*L:=by
 induction xs with
 |nil=>simp
 |cons x xs ih=>rw [List.flatMap_cons,aZ,ih,h,List.length_cons,Nat.succ_mul,Nat.add_comm]
theorem PT (w:World) (g:Nat) (p:Addr) (v:Value) (bs:List UInt8) (b:Bool) (hl:bs.length≤1000000000) (hst:eY w g v bs) (hp:w.cell? p=some (.bool b)):
  Calls Tryz.prog 168 #[pt g, .pointer (some p)] w (fD w g v (bs++le (vJ b) 1)):=by
 obtain ⟨h1,h2⟩:=hst.grow (ag w (.cells #[I (vJ b)] 3));have HG2:=ae h2;have hp1:(w.alloc (.cells #[I 0] 3)).cell? p=some (.bool b):=(World.cell?_alloc_some w p _ (by rw [hp];rfl)).trans hp;have HC:=ae (bG (w.alloc (.cells #[I (vJ b)] 3)) g ⟨w.heap.size,0,none⟩ v bs (vJ b) 1 (by unfold vJ;split<;>omega) (by unfold vJ;split<;>omega) (by omega) (by omega) h1.lt h1 ((Row.new w #[I (vJ b)] 3).2 0));clear hst h1 h2;cases b with
 |false=>
  rw [show vJ false=0 from rfl] at HC HG2 ⊢;go_enter Tryz.func168,Tryz.ntmps168;go_wp2_with fail;refine HC.out.mono ?_;rintro e w1 ⟨rfl,v1,hs1,hk1⟩;have iP:=ae hs1;have iH:=ae (HG2.out.trans hk1);clear hs1 hk1 HC HG2;go_wp2_with fail
  go_end0
  exact ⟨rfl,v1,iP.out,iH.out⟩
 |true=>
  rw [show vJ true=1 from rfl] at HC HG2 ⊢;go_enter Tryz.func168,Tryz.ntmps168;go_wp2_with fail;refine HC.out.mono ?_;rintro e w1 ⟨rfl,v1,hs1,hk1⟩;have iP:=ae hs1;have iH:=ae (HG2.out.trans hk1);clear hs1 hk1 HC HG2;go_wp2_with fail
  go_end0
  exact ⟨rfl,v1,iP.out,iH.out⟩
theorem Qa (w:World) (g xb xo:Nat) (v:Value) (bs:List UInt8) (x:Lr) (hr:w.rangeAt xb xo x.cells) (hxg:xb<g) (hf:y9 x) (hl:bs.length≤900000000) (hst:eY w g v bs):
  Calls Tryz.prog 93 #[.iface 77 (pt g), .pointer (some ⟨xb,xo,none⟩)] w (fD w g v (bs++lL x)):=by
 have hgl:=hst.lt;have HST:=ae hst;have HF:=ae hf;have c0:w.cell? ⟨xb,xo,none⟩=some (I x.every):=hr 0 _ rfl;have c1:w.cell? ⟨xb,xo+1,none⟩=some (I x.rest):=hr 1 _ rfl;have c2:w.cell? ⟨xb,xo+2,none⟩=some (.bool x.yes):=hr 2 _ rfl;have HB0:Hid (Below g w w):=ae (Below.refl _ _);have uV:=ae hst;have xX:Hid (gX g v w v w):=ae (gX.refl _ _ _);clear hr hf hst;have hc0:w.drew.cell? ⟨xb,xo,none⟩=some (I x.every):=(HB0.out.cell (p:=⟨xb,xo,none⟩) hxg).trans c0;have hlen0:(bs).length≤900000100:=by
  try simp only [aZ,aC]
  omega
 have Qi:=ae (bG w.drew g ⟨xb,xo,none⟩ v (bs) x.every 2 (by have:=HF.out;unfold y9 lG at this;omega) (by have:=HF.out;unfold y9 lG at this;omega) (by omega) (by omega) uV.out.drew.lt uV.out.drew hc0);clear hc0;go_enter Tryz.func93,Tryz.ntmps93;go_wp2_with fail;go_still_tail 7,(by kernel_rfl);go_wp2_with fail;refine Qi.out.mono ?_;rintro e w1 ⟨rfl,v1,hs1,hk1⟩;have HB1:=ae (HB0.out.trans (bf uV.out (aI hk1)));have iP:=ae hs1;have iH:=ae (xX.out.trans (aI hk1));clear hs1 hk1 Qi HB0 uV xX hlen0;have hc1:w1.drew.cell? ⟨xb,xo+1,none⟩=some (I x.rest):=(HB1.out.cell (p:=⟨xb,xo+1,none⟩) hxg).trans c1;have hlen1:(bs++le (x.every) 2).length≤900000100:=by
  try simp only [aZ,aC]
  omega
 have lY:=ae (bG w1.drew g ⟨xb,xo+1,none⟩ v1 (bs++le (x.every) 2) x.rest 2 (by have:=HF.out;unfold y9 lG at this;omega) (by have:=HF.out;unfold y9 lG at this;omega) (by omega) (by omega) iP.out.drew.lt iP.out.drew hc1);clear hc1;go_wp2_with fail;go_still_tail 7,(by kernel_rfl);go_wp2_with fail;refine lY.out.mono ?_;rintro e w2 ⟨rfl,v2,hs2,hk2⟩;have HB2:=ae (HB1.out.trans (bf iP.out (aI hk2)));have HS2:=ae hs2;have iR:=ae (iH.out.trans (aI hk2));clear hs2 hk2 lY HB1 iP iH hlen1;have hc2:w2.drew.cell? ⟨xb,xo+2,none⟩=some (.bool x.yes):=(HB2.out.cell (p:=⟨xb,xo+2,none⟩) hxg).trans c2;have hlen2:(bs++le (x.every) 2++le (x.rest) 2).length≤900000100:=by
  try simp only [aZ,aC]
  omega
 have HC2:=ae (PT w2.drew g ⟨xb,xo+2,none⟩ v2 (bs++le (x.every) 2++le (x.rest) 2) x.yes (by omega) HS2.out.drew hc2);clear hc2;go_wp2_with fail;go_still_tail 7,(by kernel_rfl);go_wp2_with fail;refine HC2.out.mono ?_;rintro e w3 ⟨rfl,v3,hs3,hk3⟩;have HB3:=ae (HB2.out.trans (bf HS2.out (aI hk3)));have jV:=ae hs3;have mQ:=ae (iR.out.trans (aI hk3));clear hs3 hk3 HC2 HB2 HS2 iR hlen2;go_wp2_with fail
 go_end0
 exact ⟨rfl,v3,by unfold lL;have h:=jV.out;simpa [List.append_assoc] using h,mQ.out⟩
theorem MW (w:World) (g xb xo:Nat) (v:Value) (bs:List UInt8) (x:Tr) (hr:w.rangeAt xb xo x.cells) (hxg:xb<g) (hf:zn x) (hl:bs.length≤900000000) (hst:eY w g v bs):
  Calls Tryz.prog 70 #[.iface 77 (pt g), .pointer (some ⟨xb,xo,none⟩)] w (fD w g v (bs++jS x)):=by
 have hgl:=hst.lt;have HST:=ae hst;have HF:=ae hf;have c0:w.cell? ⟨xb,xo,none⟩=some (I x.at_):=hr 0 _ rfl;have c1:w.cell? ⟨xb,xo+1,none⟩=some (I x.off):=hr 1 _ rfl;have HB0:Hid (Below g w w):=ae (Below.refl _ _);have uV:=ae hst;have xX:Hid (gX g v w v w):=ae (gX.refl _ _ _);clear hr hf hst;have hc0:w.drew.cell? ⟨xb,xo,none⟩=some (I x.at_):=(HB0.out.cell (p:=⟨xb,xo,none⟩) hxg).trans c0;have hlen0:(bs).length≤900000100:=by
  try simp only [aZ,aC]
  omega
 have Qi:=ae (bG w.drew g ⟨xb,xo,none⟩ v (bs) x.at_ 8 (by have:=HF.out;unfold zn lG at this;omega) (by have:=HF.out;unfold zn lG at this;omega) (by omega) (by omega) uV.out.drew.lt uV.out.drew hc0);clear hc0;go_enter Tryz.func70,Tryz.ntmps70;go_wp2_with fail;go_still_tail 7,(by kernel_rfl);go_wp2_with fail;refine Qi.out.mono ?_;rintro e w1 ⟨rfl,v1,hs1,hk1⟩;have HB1:=ae (HB0.out.trans (bf uV.out (aI hk1)));have iP:=ae hs1;have iH:=ae (xX.out.trans (aI hk1));clear hs1 hk1 Qi HB0 uV xX hlen0;have hc1:w1.drew.cell? ⟨xb,xo+1,none⟩=some (I x.off):=(HB1.out.cell (p:=⟨xb,xo+1,none⟩) hxg).trans c1;have hlen1:(bs++le (x.at_) 8).length≤900000100:=by
  try simp only [aZ,aC]
  omega
 have lY:=ae (qj w1.drew g ⟨xb,xo+1,none⟩ v1 (bs++le (x.at_) 8) x.off (by have:=HF.out;unfold zn lG at this;omega) (by have:=HF.out;unfold zn lG at this;omega) (by omega) iP.out.drew hc1);clear hc1;go_wp2_with fail;go_still_tail 7,(by kernel_rfl);go_wp2_with fail;refine lY.out.mono ?_;rintro e w2 ⟨rfl,v2,hs2,hk2⟩;have HB2:=ae (HB1.out.trans (bf iP.out (aI hk2)));have HS2:=ae hs2;have iR:=ae (iH.out.trans (aI hk2));clear hs2 hk2 lY HB1 iP iH hlen1;go_wp2_with fail
 go_end0
 exact ⟨rfl,v2,by unfold jS;have h:=HS2.out;simpa [List.append_assoc] using h,iR.out⟩
theorem Qb (w:World) (g xb xo:Nat) (v:Value) (bs:List UInt8) (x:Yr) (hr:w.rangeAt xb xo x.cells) (hxg:xb<g) (hf:qp x) (hl:bs.length≤900000000) (hst:eY w g v bs):
  Calls Tryz.prog 72 #[.iface 77 (pt g), .pointer (some ⟨xb,xo,none⟩)] w (fD w g v (bs++lU x)):=by
 have hgl:=hst.lt;have HST:=ae hst;have HF:=ae hf;have c0:w.cell? ⟨xb,xo,none⟩=some (I x.month):=hr 0 _ rfl;have c1:w.cell? ⟨xb,xo+1,none⟩=some (I x.cZ):=hr 1 _ rfl;have c2:w.cell? ⟨xb,xo+2,none⟩=some (I x.df):=hr 2 _ rfl;have c3:w.cell? ⟨xb,xo+3,none⟩=some (I x.minute):=hr 3 _ rfl;have c4:w.cell? ⟨xb,xo+4,none⟩=some (I x.off):=hr 4 _ rfl;have HB0:Hid (Below g w w):=ae (Below.refl _ _);have uV:=ae hst;have xX:Hid (gX g v w v w):=ae (gX.refl _ _ _);clear hr hf hst;have hc0:w.drew.cell? ⟨xb,xo,none⟩=some (I x.month):=(HB0.out.cell (p:=⟨xb,xo,none⟩) hxg).trans c0;have hlen0:(bs).length≤900000100:=by
  try simp only [aZ,aC]
  omega
 have Qi:=ae (bG w.drew g ⟨xb,xo,none⟩ v (bs) x.month 1 (by have:=HF.out;unfold qp lG at this;omega) (by have:=HF.out;unfold qp lG at this;omega) (by omega) (by omega) uV.out.drew.lt uV.out.drew hc0);clear hc0;go_enter Tryz.func72,Tryz.ntmps72;go_wp2_with fail;go_still_tail 7,(by kernel_rfl);go_wp2_with fail;refine Qi.out.mono ?_;rintro e w1 ⟨rfl,v1,hs1,hk1⟩;have HB1:=ae (HB0.out.trans (bf uV.out (aI hk1)));have iP:=ae hs1;have iH:=ae (xX.out.trans (aI hk1));clear hs1 hk1 Qi HB0 uV xX hlen0;have hc1:w1.drew.cell? ⟨xb,xo+1,none⟩=some (I x.cZ):=(HB1.out.cell (p:=⟨xb,xo+1,none⟩) hxg).trans c1;have hlen1:(bs++le (x.month) 1).length≤900000100:=by
  try simp only [aZ,aC]
  omega
 have lY:=ae (bG w1.drew g ⟨xb,xo+1,none⟩ v1 (bs++le (x.month) 1) x.cZ 1 (by have:=HF.out;unfold qp lG at this;omega) (by have:=HF.out;unfold qp lG at this;omega) (by omega) (by omega) iP.out.drew.lt iP.out.drew hc1);clear hc1;go_wp2_with fail;go_still_tail 7,(by kernel_rfl);go_wp2_with fail;refine lY.out.mono ?_;rintro e w2 ⟨rfl,v2,hs2,hk2⟩;have HB2:=ae (HB1.out.trans (bf iP.out (aI hk2)));have HS2:=ae hs2;have iR:=ae (iH.out.trans (aI hk2));clear hs2 hk2 lY HB1 iP iH hlen1;have hc2:w2.drew.cell? ⟨xb,xo+2,none⟩=some (I x.df):=(HB2.out.cell (p:=⟨xb,xo+2,none⟩) hxg).trans c2;have hlen2:(bs++le (x.month) 1++le (x.cZ) 1).length≤900000100:=by
  try simp only [aZ,aC]
  omega
 have HC2:=ae (bG w2.drew g ⟨xb,xo+2,none⟩ v2 (bs++le (x.month) 1++le (x.cZ) 1) x.df 1 (by have:=HF.out;unfold qp lG at this;omega) (by have:=HF.out;unfold qp lG at this;omega) (by omega) (by omega) HS2.out.drew.lt HS2.out.drew hc2);clear hc2;go_wp2_with fail;go_still_tail 7,(by kernel_rfl);go_wp2_with fail;refine HC2.out.mono ?_;rintro e w3 ⟨rfl,v3,hs3,hk3⟩;have HB3:=ae (HB2.out.trans (bf HS2.out (aI hk3)));have jV:=ae hs3;have mQ:=ae (iR.out.trans (aI hk3));clear hs3 hk3 HC2 HB2 HS2 iR hlen2;have hc3:w3.drew.cell? ⟨xb,xo+3,none⟩=some (I x.minute):=(HB3.out.cell (p:=⟨xb,xo+3,none⟩) hxg).trans c3;have hlen3:(bs++le (x.month) 1++le (x.cZ) 1++le (x.df) 1).length≤900000100:=by
  try simp only [aZ,aC]
  omega
 have sO:=ae (bG w3.drew g ⟨xb,xo+3,none⟩ v3 (bs++le (x.month) 1++le (x.cZ) 1++le (x.df) 1) x.minute 2 (by have:=HF.out;unfold qp lG at this;omega) (by have:=HF.out;unfold qp lG at this;omega) (by omega) (by omega) jV.out.drew.lt jV.out.drew hc3);clear hc3;go_wp2_with fail;go_still_tail 7,(by kernel_rfl);go_wp2_with fail;refine sO.out.mono ?_;rintro e w4 ⟨rfl,v4,hs4,hk4⟩;have HB4:=ae (HB3.out.trans (bf jV.out (aI hk4)));have Ac:=ae hs4;have Nu:=ae (mQ.out.trans (aI hk4));clear hs4 hk4 sO HB3 jV mQ hlen3;have hc4:w4.drew.cell? ⟨xb,xo+4,none⟩=some (I x.off):=(HB4.out.cell (p:=⟨xb,xo+4,none⟩) hxg).trans c4;have hlen4:(bs++le (x.month) 1++le (x.cZ) 1++le (x.df) 1++le (x.minute) 2).length≤900000100:=by
  try simp only [aZ,aC]
  omega
 have sV:=ae (qj w4.drew g ⟨xb,xo+4,none⟩ v4 (bs++le (x.month) 1++le (x.cZ) 1++le (x.df) 1++le (x.minute) 2) x.off (by have:=HF.out;unfold qp lG at this;omega) (by have:=HF.out;unfold qp lG at this;omega) (by omega) Ac.out.drew hc4);clear hc4;go_wp2_with fail;go_still_tail 7,(by kernel_rfl);go_wp2_with fail;refine sV.out.mono ?_;rintro e w5 ⟨rfl,v5,hs5,hk5⟩;have oO:=ae (HB4.out.trans (bf Ac.out (aI hk5)));have sZ:=ae hs5;have xP:=ae (Nu.out.trans (aI hk5));clear hs5 hk5 sV HB4 Ac Nu hlen4;go_wp2_with fail
 go_end0
 exact ⟨rfl,v5,by unfold lU;have h:=sZ.out;simpa [List.append_assoc] using h,xP.out⟩
def Gz (w:World) (g:Nat) (v:Value) (bs:List UInt8) (n:Nat) (xs:List Lr) (i:Value) (wr:World):Prop:=
 ∃k:Nat,k≤n∧i= .int .i64 k∧∃v',eY wr g v' (bs++(le n 1++(xs.take k).flatMap lL))∧gX g v w v' wr
theorem D7 (w:World) (g lb lo:Nat) (A:Option Addr) (n c:Nat) (xs:List Lr) (v:Value) (bs:List UInt8) (hn:xs.length=n) (hn2:n≤100000) (hp:w.cell? ⟨lb,lo,none⟩=some (.slice A n c)) (Ld:lb<g) (hA:aA w g A (xs.flatMap Lr.cells)) (hfit:∀z∈xs,y9 z)
  (hl:bs.length≤100000000) (hst:eY w g v bs):
  Calls Tryz.prog 92 #[.iface 77 (pt g), .pointer (some ⟨lb,lo,none⟩),I 1, .func (.func 93) #[] #[]] w (fD w g v (bs++(le n 1++xs.flatMap lL))):=by
 have HC:=ae (fO w.drew g v bs n 1 (by omega) (by omega) (by omega) (by omega) hst.drew);have HST:=ae hst;have HN:=ae hn;have HF:=ae hfit;have HA:=ae hA;have HP:=ae hp;have hgl:=hst.lt;clear hst hn hfit hA;go_enter Tryz.func92,Tryz.ntmps92;go_wp2_with fail;go_still_tail 9,(by kernel_rfl);go_wp2_with fail;refine HC.out.mono ?_;rintro e w1 ⟨rfl,v1,hs1,hk1⟩;have iP:=ae hs1;have iH:=ae (aI hk1);clear hs1 hk1 HC hp;go_wp2_with fail
 go_loopw [22] (fun i wr=>Gz w g v bs n xs i wr) (fun i _=>n - (intOf i).toNat)
 case atStart=>exact ⟨0,Nat.zero_le _,rfl,v1,by simpa using iP.out,iH.out⟩
 case round=>
  obtain ⟨k,hk,rfl,v2,hs2,hk2⟩:=hrel;have hb2:=bf HST.out hk2;have HB2:=ae hb2;have HS2:=ae hs2;have iR:=ae hk2;have hp2:wr.cell? ⟨lb,lo,none⟩=some (.slice A n c):=(hb2.cell (p:=⟨lb,lo,none⟩) Ld).trans HP.out;clear hs2 hk2 hb2 iP iH;by_cases hlt:k<n
  ·have hkz:k<xs.length:=by rw [HN.out];exact hlt
   obtain ⟨b,off,rfl,hbg,hc0⟩:=HA.out.there (by rw [dN (s:=3) Lr.cells _ fun _ _=>rfl];omega);obtain ⟨x,hx⟩:∃x,xs[k]? =some x:=⟨_,dw hkz⟩;have hcz:wr.rangeAt b (off+k*3) x.cells:=aN (aA.elem (s:=3) (f:=Lr.cells) (fun _ _=>rfl) hc0 k x hx) HB2.out hbg;have hlen:(bs++(le (n:Int) 1++(xs.take k).flatMap lL)).length≤900000000:=by
    rw [aZ,aZ,aC,wu lL 5 y8,List.length_take];omega
   have HM:=ae (Qa wr g b (off+k*3) v2 _ x hcz hbg (HF.out x (fZ hx)) hlen HS2.out);have HX:=ae hx;have i0:(0:Int)≤(k:Int):=by omega
   have i1:(k:Int)<(n:Int):=by omega
   have i2:((k:Int)==(n:Int))=false:=by simp;omega
   clear hkz hc0 hx hlen hcz;go_wp2_with fail;refine HM.out.mono ?_;rintro e w3 ⟨rfl,v3,hs3,hk3⟩;have jV:=ae hs3;have mQ:=ae (iR.out.trans hk3);clear hs3 hk3 hp2;go_wp2_with fail;go_roundw
   case rel=>exact ⟨k+1,by omega,by go_num,v3,by rw [lC xs k x HX.out,List.flatMap_append,List.flatMap_cons,List.flatMap_nil,List.append_nil,←List.append_assoc (le _ _),←List.append_assoc];exact jV.out,mQ.out⟩
   case measure=>simp [intOf];omega
  ·have hkn:k=n:=by omega
   have tJ:=ae hkn;clear hkn;go_wp2_with fail
   go_end0
   exact ⟨rfl,v2,by have h:=HS2.out;rwa [tJ.out,List.take_of_length_le (by rw [HN.out];exact Nat.le_refl _)] at h,iR.out⟩
def D8 (w:World) (g:Nat) (v:Value) (bs:List UInt8) (n:Nat) (xs:List Tr) (i:Value) (wr:World):Prop:=
 ∃k:Nat,k≤n∧i= .int .i64 k∧∃v',eY wr g v' (bs++(le n 2++(xs.take k).flatMap jS))∧gX g v w v' wr
theorem CV (w:World) (g lb lo:Nat) (A:Option Addr) (n c:Nat) (xs:List Tr) (v:Value) (bs:List UInt8) (hn:xs.length=n) (hn2:n≤100000) (hp:w.cell? ⟨lb,lo,none⟩=some (.slice A n c)) (Ld:lb<g) (hA:aA w g A (xs.flatMap Tr.cells)) (hfit:∀z∈xs,zn z)
  (hl:bs.length≤100000000) (hst:eY w g v bs):
  Calls Tryz.prog 69 #[.iface 77 (pt g), .pointer (some ⟨lb,lo,none⟩),I 2, .func (.func 70) #[] #[]] w (fD w g v (bs++(le n 2++xs.flatMap jS))):=by
 have HC:=ae (fO w.drew g v bs n 2 (by omega) (by omega) (by omega) (by omega) hst.drew);have HST:=ae hst;have HN:=ae hn;have HF:=ae hfit;have HA:=ae hA;have HP:=ae hp;have hgl:=hst.lt;clear hst hn hfit hA;go_enter Tryz.func69,Tryz.ntmps69;go_wp2_with fail;go_still_tail 9,(by kernel_rfl);go_wp2_with fail;refine HC.out.mono ?_;rintro e w1 ⟨rfl,v1,hs1,hk1⟩;have iP:=ae hs1;have iH:=ae (aI hk1);clear hs1 hk1 HC hp;go_wp2_with fail
 go_loopw [22] (fun i wr=>D8 w g v bs n xs i wr) (fun i _=>n - (intOf i).toNat)
 case atStart=>exact ⟨0,Nat.zero_le _,rfl,v1,by simpa using iP.out,iH.out⟩
 case round=>
  obtain ⟨k,hk,rfl,v2,hs2,hk2⟩:=hrel;have hb2:=bf HST.out hk2;have HB2:=ae hb2;have HS2:=ae hs2;have iR:=ae hk2;have hp2:wr.cell? ⟨lb,lo,none⟩=some (.slice A n c):=(hb2.cell (p:=⟨lb,lo,none⟩) Ld).trans HP.out;clear hs2 hk2 hb2 iP iH;by_cases hlt:k<n
  ·have hkz:k<xs.length:=by rw [HN.out];exact hlt
   obtain ⟨b,off,rfl,hbg,hc0⟩:=HA.out.there (by rw [dN (s:=2) Tr.cells _ fun _ _=>rfl];omega);obtain ⟨x,hx⟩:∃x,xs[k]? =some x:=⟨_,dw hkz⟩;have hcz:wr.rangeAt b (off+k*2) x.cells:=aN (aA.elem (s:=2) (f:=Tr.cells) (fun _ _=>rfl) hc0 k x hx) HB2.out hbg;have hlen:(bs++(le (n:Int) 2++(xs.take k).flatMap jS)).length≤900000000:=by
    rw [aZ,aZ,aC,wu jS 10 uB,List.length_take];omega
   have HM:=ae (MW wr g b (off+k*2) v2 _ x hcz hbg (HF.out x (fZ hx)) hlen HS2.out);have HX:=ae hx;have i0:(0:Int)≤(k:Int):=by omega
   have i1:(k:Int)<(n:Int):=by omega
   have i2:((k:Int)==(n:Int))=false:=by simp;omega
   clear hkz hc0 hx hlen hcz;go_wp2_with fail;refine HM.out.mono ?_;rintro e w3 ⟨rfl,v3,hs3,hk3⟩;have jV:=ae hs3;have mQ:=ae (iR.out.trans hk3);clear hs3 hk3 hp2;go_wp2_with fail;go_roundw
   case rel=>exact ⟨k+1,by omega,by go_num,v3,by rw [lC xs k x HX.out,List.flatMap_append,List.flatMap_cons,List.flatMap_nil,List.append_nil,←List.append_assoc (le _ _),←List.append_assoc];exact jV.out,mQ.out⟩
   case measure=>simp [intOf];omega
  ·have hkn:k=n:=by omega
   have tJ:=ae hkn;clear hkn;go_wp2_with fail
   go_end0
   exact ⟨rfl,v2,by have h:=HS2.out;rwa [tJ.out,List.take_of_length_le (by rw [HN.out];exact Nat.le_refl _)] at h,iR.out⟩
def GG (w:World) (g:Nat) (v:Value) (bs:List UInt8) (n:Nat) (xs:List Yr) (i:Value) (wr:World):Prop:=
 ∃k:Nat,k≤n∧i= .int .i64 k∧∃v',eY wr g v' (bs++(le n 1++(xs.take k).flatMap lU))∧gX g v w v' wr
theorem D9 (w:World) (g lb lo:Nat) (A:Option Addr) (n c:Nat) (xs:List Yr) (v:Value) (bs:List UInt8) (hn:xs.length=n) (hn2:n≤100000) (hp:w.cell? ⟨lb,lo,none⟩=some (.slice A n c)) (Ld:lb<g) (hA:aA w g A (xs.flatMap Yr.cells)) (hfit:∀z∈xs,qp z)
  (hl:bs.length≤100000000) (hst:eY w g v bs):
  Calls Tryz.prog 71 #[.iface 77 (pt g), .pointer (some ⟨lb,lo,none⟩),I 1, .func (.func 72) #[] #[]] w (fD w g v (bs++(le n 1++xs.flatMap lU))):=by
 have HC:=ae (fO w.drew g v bs n 1 (by omega) (by omega) (by omega) (by omega) hst.drew);have HST:=ae hst;have HN:=ae hn;have HF:=ae hfit;have HA:=ae hA;have HP:=ae hp;have hgl:=hst.lt;clear hst hn hfit hA;go_enter Tryz.func71,Tryz.ntmps71;go_wp2_with fail;go_still_tail 9,(by kernel_rfl);go_wp2_with fail;refine HC.out.mono ?_;rintro e w1 ⟨rfl,v1,hs1,hk1⟩;have iP:=ae hs1;have iH:=ae (aI hk1);clear hs1 hk1 HC hp;go_wp2_with fail
 go_loopw [22] (fun i wr=>GG w g v bs n xs i wr) (fun i _=>n - (intOf i).toNat)
 case atStart=>exact ⟨0,Nat.zero_le _,rfl,v1,by simpa using iP.out,iH.out⟩
 case round=>
  obtain ⟨k,hk,rfl,v2,hs2,hk2⟩:=hrel;have hb2:=bf HST.out hk2;have HB2:=ae hb2;have HS2:=ae hs2;have iR:=ae hk2;have hp2:wr.cell? ⟨lb,lo,none⟩=some (.slice A n c):=(hb2.cell (p:=⟨lb,lo,none⟩) Ld).trans HP.out;clear hs2 hk2 hb2 iP iH;by_cases hlt:k<n
  ·have hkz:k<xs.length:=by rw [HN.out];exact hlt
   obtain ⟨b,off,rfl,hbg,hc0⟩:=HA.out.there (by rw [dN (s:=5) Yr.cells _ fun _ _=>rfl];omega);obtain ⟨x,hx⟩:∃x,xs[k]? =some x:=⟨_,dw hkz⟩;have hcz:wr.rangeAt b (off+k*5) x.cells:=aN (aA.elem (s:=5) (f:=Yr.cells) (fun _ _=>rfl) hc0 k x hx) HB2.out hbg;have hlen:(bs++(le (n:Int) 1++(xs.take k).flatMap lU)).length≤900000000:=by
    rw [aZ,aZ,aC,wu lU 7 zu,List.length_take];omega
   have HM:=ae (Qb wr g b (off+k*5) v2 _ x hcz hbg (HF.out x (fZ hx)) hlen HS2.out);have HX:=ae hx;have i0:(0:Int)≤(k:Int):=by omega
   have i1:(k:Int)<(n:Int):=by omega
   have i2:((k:Int)==(n:Int))=false:=by simp;omega
   clear hkz hc0 hx hlen hcz;go_wp2_with fail;refine HM.out.mono ?_;rintro e w3 ⟨rfl,v3,hs3,hk3⟩;have jV:=ae hs3;have mQ:=ae (iR.out.trans hk3);clear hs3 hk3 hp2;go_wp2_with fail;go_roundw
   case rel=>exact ⟨k+1,by omega,by go_num,v3,by rw [lC xs k x HX.out,List.flatMap_append,List.flatMap_cons,List.flatMap_nil,List.append_nil,←List.append_assoc (le _ _),←List.append_assoc];exact jV.out,mQ.out⟩
   case measure=>simp [intOf];omega
  ·have hkn:k=n:=by omega
   have tJ:=ae hkn;clear hkn;go_wp2_with fail
   go_end0
   exact ⟨rfl,v2,by have h:=HS2.out;rwa [tJ.out,List.take_of_length_le (by rw [HN.out];exact Nat.le_refl _)] at h,iR.out⟩
end Go.Proofs.YtdibbemgpikgjaaGreatDoor
namespace Go.Proofs.YtdibbemgpikgjaaGreatDoor
open Go Go.RowKit
attribute [local go_sem] mD mM mF mO qP qR mg mG mr mJ
def Fz (c:Cal):List UInt8:=le c.aY 4++((le c.az.length 1++dA c.az)++(le (c.dP+1) 1++(le c.rules.length 1++c.rules.flatMap lL)))
def znB (z:Zn):List UInt8:=Fz z.cal++(le z.start 2++((le z.trans.length 2++z.trans.flatMap jS)++(le z.hor 8++(le z.aK.length 1++z.aK.flatMap lU))))
def UM (e:Ze):List UInt8:=(le e.name.size 1++e.name.data.toList)++znB e.z
theorem Ig {c:Cal} (h:gW c):(Fz c).length≤14:=by
 unfold Fz;simp only [aZ,aC,iI,wu lL 5 y8];have:=h.mo;have:=h.ru;omega
theorem WY {e:Ze} (h:uZ e.z) (hs:e.name.size≤32):(UM e).length≤140:=by
 have h1:=Ig h.cal;have h2:=h.UH;have h3:e.z.aK.length≤2:=by rcases h.yr with hy|⟨r0,r1,hy,_⟩<;>rw [hy]<;>simp
 have h4:e.name.data.toList.length=e.name.size:=by rw [Array.length_toList];rfl
 unfold UM znB;simp only [aZ,aC,wu jS 10 uB,wu lU 7 zu,h4];omega
theorem CQ (w:World) (g cb co:Nat) (c:Cal) (A:Option Addr) (a:Nat) (B:Option Addr) (b:Nat) (v:Value) (bs:List UInt8) (hc:gW c) (hr:w.rangeAt cb co (aF c A a B b).toList) (hfz:w.frozen? ⟨cb,co+2,none⟩=false) (hcb:cb<g) (hA:fG w g A c.az) (hB:aA w g B (c.rules.flatMap Lr.cells))
  (hl:bs.length≤10000000) (hst:eY w g v bs):
  Calls Tryz.prog 68 #[.iface 77 (pt g), .pointer (some ⟨cb,co,none⟩)] w (fD w g v (bs++Fz c)):=by
 have hgl:=hst.lt;have c0:w.cell? ⟨cb,co,none⟩=some (I c.aY):=hr 0 _ rfl;have c1:w.cell? ⟨cb,co+1,none⟩=some (.slice A c.az.length a):=hr 1 _ rfl;have c2:w.cell? ⟨cb,co+2,none⟩=some (I c.dP):=hr 2 _ rfl;have c3:w.cell? ⟨cb,co+3,none⟩=some (.slice B c.rules.length b):=hr 3 _ rfl;obtain ⟨lp,hlp⟩:∃l,c.dP=l:=⟨_,rfl⟩;obtain ⟨n1,hn1⟩:∃n,c.rules.length=n:=⟨_,rfl⟩;rw [hlp] at c2;rw [hn1] at c3;have hlb:=hc.le;rw [hlp] at hlb;have hrb:=hc.ru;rw [hn1] at hrb;have G9:=ae hlp;have HN1:=ae hn1;have zD:=ae hB;have HRF:Hid (∀z∈c.rules,y9 z):=ae (fun z hz=>by have:=hc.rl z hz;unfold y9 lG;omega);clear hB hlp hn1;obtain ⟨n,hn⟩:∃n,c.az.length=n:=⟨_,rfl⟩;rw [hn] at c1;have hn2:n≤16:=by have:=hc.mo;omega
 have hN1:(bs++le c.aY 4).length≤10000004:=by rw [aZ,aC];omega
 have HE:=ae hc.ep;have HN:=ae hn;have HM:Hid (∀z∈c.az,fits z):=ae fun z hz=>by have:=hc.all z hz;unfold fits;omega
 have lY:=ae (bG w.drew g ⟨cb,co,none⟩ v bs c.aY 4 (by have:=hc.ep;omega) (by have:=hc.ep;omega) (by omega) (by omega) hst.lt hst.drew c0);have HST:=ae hst;have HA:=ae hA;clear hc hr hst hA hn;go_enter Tryz.func68,Tryz.ntmps68;go_wp2_with fail;go_still_tail 7,(by kernel_rfl);go_wp2_with fail;refine lY.out.mono ?_;rintro e w1 ⟨rfl,v1,hs1,hk1⟩;have hb1:=bf HST.out (aI hk1);have HB1:=ae hb1;have iP:=ae hs1;have iH:=ae (aI hk1);have d1:w1.cell? ⟨cb,co+1,none⟩=some (.slice A n a):=(hb1.cell (p:=⟨cb,co+1,none⟩) hcb).trans c1;have hcb1:cb<w1.heap.size:=by have:=hs1.lt;omega
 have HL:=ae (xJ w1 g cb (co+1) A n a c.az v1 _ HN.out (by omega) d1 hcb (HA.out.keep hb1) HM.out (by omega) hs1);have UD:(bs++le c.aY 4++(le (n:Int) 1++dA c.az)).length≤10000040:=by
  simp only [aZ,aC,iI,HN.out];omega
 clear hs1 hk1 hb1 lY c0 d1;go_wp2_with fail;refine HL.out.mono ?_;rintro e w2 ⟨rfl,v2,hs2,hk2⟩;have hb2:=HB1.out.trans (bf iP.out hk2);have HB2:=ae hb2;have HS2:=ae hs2;have iR:=ae (iH.out.trans hk2);have d2:w2.cell? ⟨cb,co+2,none⟩=some (I lp):=(hb2.cell (p:=⟨cb,co+2,none⟩) hcb).trans c2;obtain ⟨h1,h2⟩:=hs2.grow (ag w2 (.cells #[I (lp+1)] 3));have G8:=ae h1;have HG2:=ae h2;have Nv:=ae hs2.new_ne;have yS:=ae (heap_alloc_last w2 (.cells #[I (lp+1)] 3));have HC2:=ae (bG (w2.alloc (.cells #[I (lp+1)] 3)) g ⟨w2.heap.size,0,none⟩ v2 _ (lp+1) 1 (by omega) (by omega) (by omega) (by omega) h1.lt h1 ((Row.new w2 #[I (lp+1)] 3).2 0));clear hs2 hk2 hb2 HL h1 h2;go_wp2_with fail;refine HC2.out.mono ?_;rintro e w3 ⟨rfl,v3,hs3,hk3⟩;have hb3:=bf G8.out hk3;have d3:w3.cell? ⟨w2.heap.size,0,none⟩=some (I (lp+1)):=cell_of_row w3 _ 0 _ _ _ ((G8.out.far hk3 w2.heap.size (by simp) Nv.out.1 Nv.out.2).trans yS.out);have zI:Below g w w3:=(HB2.out.trans ((ag w2 (.cells #[I (lp+1)] 3)).mono (by have:=HS2.out.lt;omega))).trans hb3;have HB3:=ae zI;have e3:w3.cell? ⟨cb,co+2,none⟩=some (I lp):=(zI.cell (p:=⟨cb,co+2,none⟩) hcb).trans c2;have f3:w3.frozen? ⟨cb,co+2,none⟩=false:=(zI.frozen (p:=⟨cb,co+2,none⟩) hcb).trans hfz;have e4:w3.cell? ⟨cb,co+3,none⟩=some (.slice B n1 b):=(zI.cell (p:=⟨cb,co+3,none⟩) hcb).trans c3;have hsame:=jc e3;have jV:=ae hs3;have mQ:=ae ((iR.out.trans HG2.out).trans hk3);have hN3:(bs++le c.aY 4++(le (n:Int) 1++dA c.az)++le (lp+1) 1).length≤10000041:=by rw [aZ];simp only [aC];omega
 have HLL:=ae (D7 w3 g cb (co+3) B n1 b c.rules v3 _ HN1.out (by omega) e4 hcb (zD.out.keep zI) HRF.out (by omega) hs3);clear hs3 hk3 hb3 zI HC2 d2 yS;go_wp2_with fail;refine HLL.out.mono ?_;rintro e w4 ⟨rfl,v4,hs4,hk4⟩;have Ac:=ae hs4;have Nu:=ae (mQ.out.trans hk4);clear hs4 hk4 HLL hsame d3 e3 f3 e4;go_wp2_with fail
 go_end0
 exact ⟨rfl,v4,by unfold Fz;rw [HN.out,HN1.out,G9.out];have h:=Ac.out;simpa only [List.append_assoc] using h,Nu.out⟩
theorem Jq (w:World) (g eb eo:Nat) (x:dD) (v:Value) (bs:List UInt8) (h:uZ x.e.z) (hs:x.e.name.size≤32) (hr:w.rangeAt eb eo x.cells.toList) (hfz:w.frozen? ⟨eb,eo+1+2,none⟩=false) (heb:eb<g) (hA:jy w g x.s x.e.z)
  (hl:bs.length≤9000000) (hst:eY w g v bs):
  Calls Tryz.prog 49 #[.iface 77 (pt g), .pointer (some ⟨eb,eo,none⟩)] w (fD w g v (bs++UM x.e)):=by
 have hgl:=hst.lt;have c0:w.cell? ⟨eb,eo,none⟩=some (.string x.e.name):=hr 0 _ rfl;have vW:Hid (w.rangeAt eb (eo+1) (aF x.e.z.cal x.s.A x.s.a x.s.B x.s.b).toList):=ae fun j u hu=>by
  have hj:j<4:=(gu.1 hu).1;rw [show eo+1+j=eo+(j+1) by omega];refine hr (j+1) u ?_
  match j,hj with
  |0,_=>exact hu
  |1,_=>exact hu
  |2,_=>exact hu
  |3,_=>exact hu
 have c5:w.cell? ⟨eb,eo+1+4,none⟩=some (I x.e.z.start):=hr 5 _ rfl;have c6:w.cell? ⟨eb,eo+1+5,none⟩=some (.slice x.s.C x.e.z.trans.length x.s.c):=hr 6 _ rfl;have c7:w.cell? ⟨eb,eo+1+6,none⟩=some (I x.e.z.hor):=hr 7 _ rfl;have c8:w.cell? ⟨eb,eo+1+7,none⟩=some (.slice x.s.D x.e.z.aK.length x.s.d):=hr 8 _ rfl;have hnl:x.e.name.data.toList.length=x.e.name.size:=by rw [Array.length_toList];rfl
 have hcl:=Ig h.cal;have htl:=h.UH;have hyl:x.e.z.aK.length≤2:=by rcases h.yr with hy|⟨r0,r1,hy,_⟩<;>rw [hy]<;>simp
 have xg:=ae htl;have nZ:=ae hyl;have Qo:Hid (∀z∈x.e.z.trans,zn z):=ae (fun z hz=>by have:=h.tr z hz;have:=h.hor;unfold zn lG;omega);have HYF:Hid (∀z∈x.e.z.aK,qp z):=ae (fun z hz=>by
  have hz2:yj z:=by
   rcases h.yr with hy|⟨r0,r1,hy,h0,h1⟩
   ·rw [hy] at hz;cases hz
   ·rw [hy] at hz;rcases List.mem_cons.1 hz with rfl|hz
    ·exact h0
    ·rw [List.mem_singleton.1 hz];exact h1
  have a:=hz2.mo;have b:=hz2.wk;have c:=hz2.wd;have d:=hz2.mi;have e:=hz2.of;unfold qp lG;omega)
 clear htl hyl;have lY:=ae (EO w.drew g ⟨eb,eo,none⟩ v bs x.e.name (by omega) (by omega) hst.drew c0 (by show eb≠g;omega) (eQ hst.2 eb (by omega)) (by show eb<w.heap.size;omega));have HST:=ae hst;have HF:=ae h;have HA:=ae hA;have zY:Hid (∀j u,Below g w u→u.cell? ⟨eb,j,none⟩=w.cell? ⟨eb,j,none⟩):=ae fun j u hb=>hb.cell (p:=⟨eb,j,none⟩) heb;have HL:Hid (x.e.name.data.toList.length=x.e.name.size∧(Fz x.e.z.cal).length≤14∧x.e.name.size≤32∧bs.length≤9000000):=ae ⟨hnl,hcl,hs,hl⟩;clear h hr hst hA hnl hcl hs hl;go_enter Tryz.func49,Tryz.ntmps49;go_wp2_with fail;go_still_tail 7,(by kernel_rfl);go_wp2_with fail;refine lY.out.mono ?_;rintro e w1 ⟨rfl,v1,hs1,hk1⟩;obtain ⟨B1,hB1⟩:∃B,bs++(le x.e.name.size 1++x.e.name.data.toList)=B:=⟨_,rfl⟩;have hl1:B1.length≤9000040:=by rw [←hB1];have:=HL.out;simp only [aZ,aC];omega
 rw [hB1] at hs1;have hb1:=bf HST.out (aI hk1);have HB1:=ae hb1;have iP:=ae hs1;have iH:=ae (aI hk1);have qB:=ae hB1;have HC2:=ae (CQ w1 g eb (eo+1) x.e.z.cal x.s.A x.s.a x.s.B x.s.b v1 B1 HF.out.cal (fun j u hu=>(hb1.cell (p:=⟨eb,eo+1+j,none⟩) heb).trans (vW.out j u hu)) ((hb1.frozen (p:=⟨eb,eo+1+2,none⟩) heb).trans hfz) heb (HA.out.az.ints.keep hb1) (HA.out.rules.keep hb1) (by omega) hs1);clear hs1 hk1 hb1 lY hB1 c0;go_wp2_with fail;refine HC2.out.mono ?_;rintro e w2 ⟨rfl,v2,hs2,hk2⟩;obtain ⟨B2,hB2⟩:∃B,B1++Fz x.e.z.cal=B:=⟨_,rfl⟩;have hl2:B2.length≤9000070:=by rw [←hB2];have:=HL.out;simp only [aZ];omega
 rw [hB2] at hs2;have hb2:=HB1.out.trans (bf iP.out hk2);have HB2:=ae hb2;have HS2:=ae hs2;have iR:=ae (iH.out.trans hk2);have mV:=ae hB2;have Sz:=HF.out.start;have sO:=ae (qj w2.drew g ⟨eb,eo+1+4,none⟩ v2 B2 x.e.z.start (by omega) (by omega) (by omega) hs2.drew ((zY.out _ _ hb2).trans c5));clear hs2 hk2 hb2 HC2 hB2 c5 Sz;go_wp2_with fail;go_still_tail 7,(by kernel_rfl);go_wp2_with fail;refine sO.out.mono ?_;rintro e w3 ⟨rfl,v3,hs3,hk3⟩;obtain ⟨B3,hB3⟩:∃B,B2++le x.e.z.start 2=B:=⟨_,rfl⟩;have hl3:B3.length≤9000080:=by rw [←hB3];simp only [aZ,aC];omega
 rw [hB3] at hs3;have hb3:=HB2.out.trans (bf HS2.out (aI hk3));have HB3:=ae hb3;have jV:=ae hs3;have mQ:=ae (iR.out.trans (aI hk3));have Aa:=ae hB3;have sV:=ae (CV w3 g eb (eo+1+5) x.s.C x.e.z.trans.length x.s.c x.e.z.trans v3 B3 rfl (by have:=xg.out;omega) ((zY.out _ _ hb3).trans c6) heb (HA.out.trans.keep hb3) Qo.out (by omega) hs3);clear hs3 hk3 hb3 sO hB3 c6;go_wp2_with fail;refine sV.out.mono ?_;rintro e w4 ⟨rfl,v4,hs4,hk4⟩;obtain ⟨B4,hB4⟩:∃B,B3++(le x.e.z.trans.length 2++x.e.z.trans.flatMap jS)=B:=⟨_,rfl⟩;have hl4:B4.length≤9000150:=by rw [←hB4];simp only [aZ,aC,wu jS 10 uB];have:=xg.out;omega
 rw [hB4] at hs4;have hb4:=HB3.out.trans (bf jV.out hk4);have HB4:=ae hb4;have Ac:=ae hs4;have Nu:=ae (mQ.out.trans hk4);have YD:=ae hB4;have hh0:=HF.out.hor;have zX:=ae (bG w4.drew g ⟨eb,eo+1+6,none⟩ v4 B4 x.e.z.hor 8 (by omega) (by omega) (by omega) (by omega) hs4.lt hs4.drew ((zY.out _ _ hb4).trans c7));clear hs4 hk4 hb4 sV hB4 c7 hh0;go_wp2_with fail;go_still_tail 7,(by kernel_rfl);go_wp2_with fail;refine zX.out.mono ?_;rintro e w5 ⟨rfl,v5,hs5,hk5⟩;obtain ⟨B5,KT⟩:∃B,B4++le x.e.z.hor 8=B:=⟨_,rfl⟩;have hl5:B5.length≤9000160:=by rw [←KT];simp only [aZ,aC];omega
 rw [KT] at hs5;have hb5:=HB4.out.trans (bf Ac.out (aI hk5));have sZ:=ae hs5;have xP:=ae (Nu.out.trans (aI hk5));have HQ5:=ae KT;have sQ:=ae (D9 w5 g eb (eo+1+7) x.s.D x.e.z.aK.length x.s.d x.e.z.aK v5 B5 rfl (by have:=nZ.out;omega) ((zY.out _ _ hb5).trans c8) heb (HA.out.aK.keep hb5) HYF.out (by omega) hs5);clear hs5 hk5 hb5 zX KT c8;go_wp2_with fail;refine sQ.out.mono ?_;rintro e w6 ⟨rfl,v6,hs6,hk6⟩;have JZ:=ae hs6;have Yu:=ae (xP.out.trans hk6);clear hs6 hk6 sQ;go_wp2_with fail
 go_end0
 refine ⟨rfl,v6,?_,Yu.out⟩;have h:=JZ.out;rw [←HQ5.out,←YD.out,←Aa.out,←mV.out,←qB.out] at h;unfold UM znB;simpa only [List.append_assoc] using h
end Go.Proofs.YtdibbemgpikgjaaGreatDoor
namespace Go.Proofs.YtdibbemgpikgjaaGreatDoor
open Go Go.RowKit
theorem scan_skip (wd wk:Int) (n:Nat):∀(j:Nat) (d cn la:Int),(∀i:Nat,i<j→(d+i)%7≠wd)→gQ wd wk (j+n) d cn la=gQ wd wk n (d+j) cn la:=by
 intro j
 induction j with
 |zero=>intro d cn la _;rw [Nat.zero_add];congr 1;omega
 |succ j ih=>
  intro d cn la h;have h0:¬d%7=wd:=by have:=h 0 (by omega);simpa using this
  rw [show j+1+n=(j+n)+1 by omega];show (if d%7=wd then _ else gQ wd wk (j+n) (d+1) cn la)=_;rw [if_neg h0,ih (d+1) cn la (fun i hi=>by have:=h (i+1) (by omega);rw [show d+1+(i:Int)=d+((i+1:Nat):Int) by omega];exact this)];congr 1;omega
theorem Cc (wd wk:Int) (n:Nat) (d cn la:Int) (h:∀i:Nat,i<n→(d+i)%7≠wd):gQ wd wk n d cn la=(la,wk==5&&decide (0≤la)):=by
 have:=scan_skip wd wk 0 n d cn la h;rw [Nat.add_zero] at this;rw [this];rfl
theorem I8 (wd wk:Int) (n:Nat) (d cn la:Int) (h:d%7=wd):gQ wd wk (n+1) d cn la=if cn+1=wk∧wk<5 then (d,true) else gQ wd wk n (d+1) (cn+1) d:=by
 show (if d%7=wd then _ else _)=_;rw [if_pos h]
def FI (wd wk first m:Int):Int×Bool:=
 if wk=5 then (first+m - 1 - (first+m - 1 - wd)%7,decide (first≤first+m - 1 - (first+m - 1 - wd)%7))
 else (first+(wd - first)%7+7*(wk - 1),decide (first+(wd - first)%7+7*(wk - 1)<first+m))
def UL (c:Cal) (bg y:Int) (r:Yr):Int×Bool:=FI r.df r.cZ (oV c bg y r.month) (dB c y r.month)
theorem Rn (wd wk d:Int) (m:Nat) (hm:m≤9) (h1:0≤wd∧wd≤6) (h2:1≤wk∧wk≤5) (hd:0≤d):
  (FI wd wk d m).2=(gQ wd wk m d 0 (-1)).2∧((gQ wd wk m d 0 (-1)).2=true→(FI wd wk d m).1=(gQ wd wk m d 0 (-1)).1):=by
 obtain ⟨j,hj⟩:∃j:Nat,(wd - d)%7=j:=⟨((wd - d)%7).toNat,by omega⟩;have hj7:j<7:=by omega
 have hjd:(d+j)%7=wd:=by omega
 have hjn:∀i:Nat,i<j→(d+i)%7≠wd:=fun i hi=>by omega
 by_cases hmj:m≤j
 ·rw [Cc wd wk m d 0 (-1) (fun i hi=>hjn i (by omega))];have e:(wk==5&&decide ((0:Int)≤ -1))=false:=by simp
  rw [e];refine ⟨?_,fun h=>by cases h⟩;unfold FI;split
  ·exact decide_eq_false (by omega)
  ·exact decide_eq_false (by rw [hj];omega)
 ·obtain ⟨n,hn⟩:∃n,m=j+(n+1):=⟨m - j - 1,by omega⟩;rw [show gQ wd wk m d 0 (-1)=gQ wd wk (n+1) (d+j) 0 (-1) by rw [hn];exact scan_skip wd wk (n+1) j d 0 (-1) hjn,I8 wd wk n (d+j) 0 (-1) hjd];by_cases hw1:(0:Int)+1=wk∧wk<5
  ·rw [if_pos hw1];unfold FI;rw [if_neg (by omega),hj];exact ⟨decide_eq_true (by omega),fun _=>by show d+(j:Int)+7*(wk - 1)=d+j;omega⟩
  ·rw [if_neg hw1];by_cases h6:n≤6
   ·rw [Cc wd wk n (d+j+1) (0+1) (d+j) (fun i hi=>by omega)];unfold FI;split
    ·rename_i h5;subst h5;have e:(((5:Int)==5)&&decide (0≤d+(j:Int)))=true:=by simp;omega
     rw [e];exact ⟨decide_eq_true (by omega),fun _=>by show d+(m:Int) - 1 - (d+m - 1 - wd)%7=d+j;omega⟩
    ·rename_i h5;have e:(wk==5&&decide (0≤d+(j:Int)))=false:=by simp [h5]
     rw [e];exact ⟨decide_eq_false (by rw [hj];omega),fun h=>by cases h⟩
   ·obtain ⟨q,hq⟩:∃q,n=6+(q+1):=⟨n - 7,by omega⟩;rw [show gQ wd wk n (d+j+1) (0+1) (d+j)=gQ wd wk (q+1) (d+j+1+(6:Nat)) (0+1) (d+j) by rw [hq];exact scan_skip wd wk (q+1) 6 (d+j+1) (0+1) (d+j) (fun i hi=>by omega),I8 wd wk q _ (0+1) (d+j) (by omega)];by_cases hw2:(0:Int)+1+1=wk∧wk<5
    ·rw [if_pos hw2];unfold FI;rw [if_neg (by omega),hj];exact ⟨decide_eq_true (by omega),fun _=>by show d+(j:Int)+7*(wk - 1)=d+j+1+(6:Nat);omega⟩
    ·rw [if_neg hw2];rw [Cc wd wk q _ _ _ (fun i hi=>by omega)];unfold FI;split
     ·rename_i h5;subst h5;have e:(((5:Int)==5)&&decide (0≤d+(j:Int)+1+(6:Nat)))=true:=by simp;omega
      rw [e];exact ⟨decide_eq_true (by omega),fun _=>by show d+(m:Int) - 1 - (d+m - 1 - wd)%7=d+j+1+(6:Nat);omega⟩
     ·rename_i h5;have e:(wk==5&&decide (0≤d+(j:Int)+1+(6:Nat)))=false:=by simp [h5]
      rw [e];exact ⟨decide_eq_false (by rw [hj];omega),fun h=>by cases h⟩
theorem GL (c:Cal) (bg y:Int) (r:Yr) (hc:gW c) (hr:yj r) (hb:0≤bg):(UL c bg y r).2=(findF c bg y r).2∧((findF c bg y r).2=true→(UL c bg y r).1=(findF c bg y r).1):=by
 have hm:=ku c y r.month hc hr.mo;have h1:=ku c y 1 hc (.inl rfl);have hf:0≤oV c bg y r.month:=by
  unfold oV;split<;>omega
 have h:=Rn r.df r.cZ (oV c bg y r.month) (dB c y r.month).toNat (by omega) hr.wd hr.wk hf;rw [show (((dB c y r.month).toNat:Nat):Int)=dB c y r.month by omega] at h;exact h
theorem Pj (ts:List Tr) (t:Tr):(vC ts t).Perm (ts++ [t]):=by
 unfold vC;refine (List.perm_middle).trans ?_;rw [List.take_append_drop];exact (List.perm_append_comm (l₁:= [t]) (l₂:=ts))
theorem LG {ts us:List Tr} (t:Tr) (h:ts.Perm us):(vC ts t).Perm (us++ [t]):=(Pj ts t).trans (List.Perm.append_right [t] h)
def vM (c:Cal) (bg y:Int) (r r':Yr) (out:List Tr):List Tr:=if (UL c bg y r).2=true then out++ [⟨(UL c bg y r).1*1440+r.minute - r'.off,r.off⟩] else out
def vN (c:Cal) (r0 r1:Yr) (stop:Int):Nat→Int→Int→List Tr→List Tr
 |0,_,_,out=>out
 |n+1,bg,y,out=>if bg<stop then vN c r0 r1 stop n (bg+dG c y) (y+1) (vM c bg y r1 r0 (vM c bg y r0 r1 out)) else out
theorem EJ {c:Cal} {bg y:Int} {r r':Yr} {ts us:List Tr} (hc:gW c) (hr:yj r) (hb:0≤bg) (h:ts.Perm us):(EW c bg y r r' ts).Perm (vM c bg y r r' us):=by
 obtain ⟨h1,h2⟩:=GL c bg y r hc hr hb;unfold EW vM;rw [h1];by_cases hf:(findF c bg y r).2=true
 ·rw [if_pos hf,if_pos hf,h2 hf];exact LG _ h
 ·rw [if_neg hf,if_neg hf];exact h
theorem PE {c:Cal} {r0 r1:Yr} {stop:Int} (hc:gW c) (hr0:yj r0) (hr1:yj r1):∀(f:Nat) (bg y:Int) (ts us:List Tr),0≤bg→ts.Perm us→(lT c r0 r1 stop f bg y ts).Perm (vN c r0 r1 stop f bg y us):=by
 intro f
 induction f with
 |zero=>intro bg y ts us _ h;exact h
 |succ f ih=>
  intro bg y ts us hb h;unfold lT vN;split
  ·have:=jv c y hc;exact ih _ _ _ _ (by omega) (EJ hc hr1 hb (EJ hc hr0 hb h))
  ·exact h
def Wl (z:Zn) (r0 r1:Yr):List Tr:=vN z.cal r0 r1 (z.cal.aY+jK z) 1400 z.cal.aY 1 []
theorem Tt {z:Zn} {r0 r1:Yr} (hc:gW z.cal) (hy:z.aK= [r0,r1]) (hr0:yj r0) (hr1:yj r1):(ry z).Perm (Wl z r0 r1):=by
 unfold ry Wl;rw [hy];exact PE hc hr0 hr1 _ _ _ _ _ hc.ep.1 (List.Perm.refl _)
theorem FN {ts:List Tr} {size:Int} (h:jT ts size=true) (i:Nat) (hi:i<ts.length):2160≤oZ ts size i:=by
 unfold jT at h;rw [List.all_eq_true] at h;exact of_decide_eq_true (h i (List.mem_range.2 hi))
theorem VD {ts:List Tr} {size:Int} (h:jT ts size=true):∀(k i:Nat),i+k+1<ts.length→iY ts i<iY ts (i+k+1):=by
 intro k
 induction k with
 |zero=>
  intro i hi;have:=FN h i (by omega);unfold oZ at this;rw [if_pos (by omega)] at this;rw [Nat.add_zero];omega
 |succ k ih=>
  intro i hi;have h1:=ih i (by omega);have h2:=FN h (i+k+1) (by omega);unfold oZ at h2;rw [if_pos (by omega)] at h2;rw [show i+(k+1)+1=i+k+1+1 by omega];omega
theorem Fp {ts:List Tr} {i:Nat} (hi:i<ts.length):iY ts i=ts[i].at_:=by
 unfold iY;rw [dw hi];rfl
theorem O9 {ts:List Tr} {size:Int} (h:jT ts size=true):ts.Pairwise (fun a b=>a.at_<b.at_):=by
 rw [List.pairwise_iff_getElem];intro i j hi hj hij;have:=VD h (j - i - 1) i (by omega);rw [show i+(j - i - 1)+1=j by omega,Fp hi,Fp hj] at this;exact this
theorem PM {ts us:List Tr} {size:Int} (h:jT ts size=true) (hp:us.Perm ts) (hs:us.Pairwise (fun a b=>a.at_≤b.at_)):us=ts:=by
 have hw:=O9 h;refine List.Perm.eq_of_pairwise (le:=fun a b=>a.at_≤b.at_) ?_ hs (hw.imp (fun h=>by omega)) hp;intro a b ha hb h1 h2;obtain ⟨i,hi,rfl⟩:=List.mem_iff_getElem.1 (hp.mem_iff.1 ha);obtain ⟨j,hj,rfl⟩:=List.mem_iff_getElem.1 hb;rw [List.pairwise_iff_getElem] at hw;rcases Nat.lt_trichotomy i j with h3|h3|h3
 ·have:=hw i j hi hj h3;omega
 ·subst h3;rfl
 ·have:=hw j i hj hi h3;omega
end Go.Proofs.YtdibbemgpikgjaaGreatDoor
