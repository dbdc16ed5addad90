/- The texts TbY, Ob, Oc, Jo, TbP, TbB, in this order. -/
import Derived.Test.YtbaehbbonkljpaaGreatDoorS00
import Derived.Test.YtbaehbbonkljpaaGreatDoorS02
import Derived.Test.YtbaehbbonkljpaaGreatDoorS03
import Derived.Test.YtbaehbbonkljpaaGreatDoorS10
import Derived.Test.YtbaehbbonkljpaaGreatDoorS17
set_option maxRecDepth 10000
set_option maxHeartbeats 8000000
namespace Go.Proofs.YtbaehbbonkljpaaGreatDoor
open Go Go.RowKit
attribute [local go_sem] kQ kU kR kV pq pG kN kS kP kT
theorem ig.drew {w:World} {g:Nat} {v:Value} {bs:List UInt8} (h:ig w g v bs):ig w.drew g v bs:=⟨h.1,h.2.drew⟩
theorem aQ {g:Nat} {v v':Value} {w w':World} (h:iL g v w.drew v' w'):iL g v w v' w':=⟨h.os,h.tape,h.output,h.size,h.block,h.own⟩
theorem df {w w':World} {g:Nat} {v v':Value} {bs:List UInt8} (h:ig w g v bs) (hk:iL g v w v' w'):Below g w w':=
 ⟨hk.os,hk.tape,hk.output,hk.size,fun k hb=>hk.block k (by have:=h.lt;omega) (by omega) (eG h.2 k (by omega))⟩
theorem NP (w:World) (g:Nat) (p:Addr) (v:Value) (bs:List UInt8) (n:Int) (hf:fits n) (hl:bs.length<=1000000000) (hst:ig w g v bs) (hp:w.cell? p=some (I n)):
  Calls Tryz.prog 104 #[.iface 91 (pt g), .pointer (some p)] w (iY w g v (bs++le n 1)):=by
 have HC:=ae (dC w g p v bs n 1 hf.1 hf.2 (by omega) (by omega) hst.lt hst hp);clear hst hp;go_enter Tryz.func104,Tryz.ntmps104;go_wp2_with fail;refine HC.out.mono ?_;rintro e w1 ⟨rfl,h⟩;have H:=ae h;clear h HC;go_wp2_with fail
 go_end0
 exact ⟨rfl,H.out⟩
def WlRel (w:World) (g:Nat) (v:Value) (bs:List UInt8) (n:Nat) (zs:List Int) (i:Value) (wr:World):Prop:=
 ∃k:Nat,k<=n/\i= .int .i64 k/\∃v',ig wr g v' (bs++(le n 1++gV (zs.take k)))/\iL g v w v' wr
theorem Ha (w:World) (g lb lo:Nat) (A:Option Addr) (n c:Nat) (zs:List Int) (v:Value) (bs:List UInt8) (hn:zs.length=n) (hn2:n<=100000) (hp:w.cell? ⟨lb,lo,none⟩=some (.slice A n c)) (TW:lb<g) (hA:ku w g A zs) (hfit:∀z∈zs,fits z)
  (hl:bs.length<=100000000) (hst:ig w g v bs):
  Calls Tryz.prog 103 #[.iface 91 (pt g), .pointer (some ⟨lb,lo,none⟩),I 1, .func (.func 104) #[] #[]] w (iY w g v (bs++(le n 1++gV zs))):=by
 have HC:=ae (jL w.drew g v bs n 1 (by omega) (by omega) (by omega) (by omega) hst.drew);have HST:=ae hst;have HN:=ae hn;have HF:=ae hfit;have HA:=ae hA;have HP:=ae hp;have hgl:=hst.lt;clear hst hn hfit hA;go_enter Tryz.func103,Tryz.ntmps103;go_wp2_with fail;go_still_tail 9,(by kernel_rfl);go_wp2_with fail;refine HC.out.mono ?_;rintro e w1 ⟨rfl,v1,hs1,hk1⟩;have lg:=ae hs1;have jP:=ae (aQ hk1);clear hs1 hk1 HC hp;go_wp2_with fail
 go_loopw [22] (fun i wr=>WlRel w g v bs n zs i wr) (fun i _=>n - (intOf i).toNat)
 case atStart=>exact ⟨0,Nat.zero_le _,rfl,v1,by simpa [gV] using lg.out,jP.out⟩
 case round=>
  obtain ⟨k,hk,rfl,v2,hs2,hk2⟩:=hrel;have hb2:=df HST.out hk2;have HB2:=ae hb2;have HS2:=ae hs2;have jA:=ae hk2;have hp2:wr.cell? ⟨lb,lo,none⟩=some (.slice A n c):=(hb2.cell (p:=⟨lb,lo,none⟩) TW).trans HP.out;clear hs2 hk2 hb2 lg jP;by_cases hlt:k<n
  ·have hkz:k<zs.length:=by rw [HN.out];exact hlt
   obtain ⟨b,off,rfl,hbg,hc0⟩:∃b off,A=some ⟨b,off,none⟩/\b<g/\∀j,j<zs.length->w.cell? ⟨b,off+j,none⟩=some (I (zs[j]?.getD 0)):=by
    rcases HA.out with h|h
    ·omega
    ·exact h
   obtain ⟨z,hz⟩:∃z,zs[k]? =some z:=⟨_,bK hkz⟩;have hcz:wr.cell? ⟨b,off+k,none⟩=some (I z):=(HB2.out.cell (p:=⟨b,off+k,none⟩) hbg).trans (by rw [hc0 k hkz,hz];rfl);have hlen:(bs++(le (n:Int) 1++gV (zs.take k))).length<=1000000000:=by
    rw [bF,bF,aC,mV,List.length_take];omega
   have HM:=ae (NP wr g ⟨b,off+k,none⟩ v2 _ z (HF.out z (gZ hz)) hlen HS2.out hcz);have HZ:=ae hz;have i0:(0:Int)<=(k:Int):=by omega
   have i1:(k:Int)<(n:Int):=by omega
   have i2:((k:Int)==(n:Int))=false:=by simp;omega
   clear hkz hc0 hz hlen hcz;go_wp2_with fail;refine HM.out.mono ?_;rintro e w3 ⟨rfl,v3,hs3,hk3⟩;have oz:=ae hs3;have nC:=ae (jA.out.trans hk3);clear hs3 hk3 hp2;go_wp2_with fail;go_roundw
   case rel=>exact ⟨k+1,by omega,by go_num,v3,by rw [jX zs k z HZ.out,BI,<-List.append_assoc (le _ _),<-List.append_assoc];exact oz.out,nC.out⟩
   case measure=>simp [intOf];omega
  ·have hkn:k=n:=by omega
   have oC:=ae hkn;clear hkn;go_wp2_with fail
   go_end0
   exact ⟨rfl,v2,by have h:=HS2.out;rwa [oC.out,List.take_of_length_le (by rw [HN.out];exact Nat.le_refl _)] at h,jA.out⟩
end Go.Proofs.YtbaehbbonkljpaaGreatDoor
namespace Go.Proofs.YtbaehbbonkljpaaGreatDoor
open Go Go.RowKit
attribute [local go_sem] kQ kU kR kV pq pG kN kS kP kT Ur Uz
def vU (b:Bool):Int:=if b=true then 1 else 0
def lS (x:Lr):List UInt8:=le x.every 2++(le x.rest 2++le (vU x.yes) 1)
def jY (x:Tr):List UInt8:=le x.at_ 8++le x.off 2
def lZ (x:Yr):List UInt8:=le x.month 1++(le x.cZ 1++(le x.dh 1++(le x.minute 2++le x.off 2)))
def lI (z:Int):Prop:= -9223372036854775808<=z/\z<=9223372036854775807
def zn (x:Lr):Prop:=lI x.every/\lI x.rest
def zF (x:Tr):Prop:=lI x.at_/\lI x.off
def qI (x:Yr):Prop:=lI x.month/\lI x.cZ/\lI x.dh/\lI x.minute/\lI x.off
theorem zl (x:Lr):(lS x).length=5:=by simp [lS,aC]
theorem uI (x:Tr):(jY x).length=10:=by simp [jY,aC]
theorem zO (x:Yr):(lZ x).length=7:=by simp [lZ,aC]
theorem wL {α:Type} (f:α->List UInt8) (L:Nat) (h:∀x,(f x).length=L) (xs:List α):(xs.flatMap f).length=xs.length*L:=by
 induction xs with
 |nil=>simp
 |cons x xs ih=>rw [List.flatMap_cons,bF,ih,h,List.length_cons,Nat.succ_mul,Nat.add_comm]
theorem QP (w:World) (g:Nat) (p:Addr) (v:Value) (bs:List UInt8) (b:Bool) (hl:bs.length<=1000000000) (hst:ig w g v bs) (hp:w.cell? p=some (.bool b)):
  Calls Tryz.prog 175 #[pt g, .pointer (some p)] w (iY w g v (bs++le (vU b) 1)):=by
 obtain ⟨h1,h2⟩:=hst.grow (ag w (.cells #[I (vU b)] 3));have HG2:=ae h2;have hp1:(w.alloc (.cells #[I 0] 3)).cell? p=some (.bool b):=(World.cell?_alloc_some w p _ (by rw [hp];rfl)).trans hp;have HC:=ae (dC (w.alloc (.cells #[I (vU b)] 3)) g ⟨w.heap.size,0,none⟩ v bs (vU b) 1 (by unfold vU;split<;>omega) (by unfold vU;split<;>omega) (by omega) (by omega) h1.lt h1 ((Row.new w #[I (vU b)] 3).2 0));clear hst h1 h2;cases b with
 |false=>
  rw [show vU false=0 from rfl] at HC HG2 ⊢;go_enter Tryz.func175,Tryz.ntmps175;go_wp2_with fail;refine HC.out.mono ?_;rintro e w1 ⟨rfl,v1,hs1,hk1⟩;have lg:=ae hs1;have jP:=ae (HG2.out.trans hk1);clear hs1 hk1 HC HG2;go_wp2_with fail
  go_end0
  exact ⟨rfl,v1,lg.out,jP.out⟩
 |true=>
  rw [show vU true=1 from rfl] at HC HG2 ⊢;go_enter Tryz.func175,Tryz.ntmps175;go_wp2_with fail;refine HC.out.mono ?_;rintro e w1 ⟨rfl,v1,hs1,hk1⟩;have lg:=ae hs1;have jP:=ae (HG2.out.trans hk1);clear hs1 hk1 HC HG2;go_wp2_with fail
  go_end0
  exact ⟨rfl,v1,lg.out,jP.out⟩
theorem Q5 (w:World) (g xb xo:Nat) (v:Value) (bs:List UInt8) (x:Lr) (hr:w.rangeAt xb xo x.cells) (hxg:xb<g) (hf:zn x) (hl:bs.length<=900000000) (hst:ig w g v bs):
  Calls Tryz.prog 106 #[.iface 91 (pt g), .pointer (some ⟨xb,xo,none⟩)] w (iY w g v (bs++lS x)):=by
 have hgl:=hst.lt;have HST:=ae hst;have HF:=ae hf;have c0:w.cell? ⟨xb,xo,none⟩=some (I x.every):=hr 0 _ rfl;have c1:w.cell? ⟨xb,xo+1,none⟩=some (I x.rest):=hr 1 _ rfl;have c2:w.cell? ⟨xb,xo+2,none⟩=some (.bool x.yes):=hr 2 _ rfl;have HB0:Hid (Below g w w):=ae (Below.refl _ _);have tN:=ae hst;have vP:Hid (iL g v w v w):=ae (iL.refl _ _ _);clear hr hf hst;have hc0:w.drew.cell? ⟨xb,xo,none⟩=some (I x.every):=(HB0.out.cell (p:=⟨xb,xo,none⟩) hxg).trans c0;have hlen0:(bs).length<=900000100:=by
  try simp only [bF,aC]
  omega
 have FD:=ae (dC w.drew g ⟨xb,xo,none⟩ v (bs) x.every 2 (by have:=HF.out;unfold zn lI at this;omega) (by have:=HF.out;unfold zn lI at this;omega) (by omega) (by omega) tN.out.drew.lt tN.out.drew hc0);clear hc0;go_enter Tryz.func106,Tryz.ntmps106;go_wp2_with fail;go_still_tail 7,(by kernel_rfl);go_wp2_with fail;refine FD.out.mono ?_;rintro e w1 ⟨rfl,v1,hs1,hk1⟩;have HB1:=ae (HB0.out.trans (df tN.out (aQ hk1)));have lg:=ae hs1;have jP:=ae (vP.out.trans (aQ hk1));clear hs1 hk1 FD HB0 tN vP hlen0;have hc1:w1.drew.cell? ⟨xb,xo+1,none⟩=some (I x.rest):=(HB1.out.cell (p:=⟨xb,xo+1,none⟩) hxg).trans c1;have hlen1:(bs++le (x.every) 2).length<=900000100:=by
  try simp only [bF,aC]
  omega
 have mG:=ae (dC w1.drew g ⟨xb,xo+1,none⟩ v1 (bs++le (x.every) 2) x.rest 2 (by have:=HF.out;unfold zn lI at this;omega) (by have:=HF.out;unfold zn lI at this;omega) (by omega) (by omega) lg.out.drew.lt lg.out.drew hc1);clear hc1;go_wp2_with fail;go_still_tail 7,(by kernel_rfl);go_wp2_with fail;refine mG.out.mono ?_;rintro e w2 ⟨rfl,v2,hs2,hk2⟩;have HB2:=ae (HB1.out.trans (df lg.out (aQ hk2)));have HS2:=ae hs2;have jA:=ae (jP.out.trans (aQ hk2));clear hs2 hk2 mG HB1 lg jP hlen1;have hc2:w2.drew.cell? ⟨xb,xo+2,none⟩=some (.bool x.yes):=(HB2.out.cell (p:=⟨xb,xo+2,none⟩) hxg).trans c2;have hlen2:(bs++le (x.every) 2++le (x.rest) 2).length<=900000100:=by
  try simp only [bF,aC]
  omega
 have HC2:=ae (QP w2.drew g ⟨xb,xo+2,none⟩ v2 (bs++le (x.every) 2++le (x.rest) 2) x.yes (by omega) HS2.out.drew hc2);clear hc2;go_wp2_with fail;go_still_tail 7,(by kernel_rfl);go_wp2_with fail;refine HC2.out.mono ?_;rintro e w3 ⟨rfl,v3,hs3,hk3⟩;have HB3:=ae (HB2.out.trans (df HS2.out (aQ hk3)));have oz:=ae hs3;have nC:=ae (jA.out.trans (aQ hk3));clear hs3 hk3 HC2 HB2 HS2 jA hlen2;go_wp2_with fail
 go_end0
 exact ⟨rfl,v3,by unfold lS;have h:=oz.out;simpa [List.append_assoc] using h,nC.out⟩
theorem NR (w:World) (g xb xo:Nat) (v:Value) (bs:List UInt8) (x:Tr) (hr:w.rangeAt xb xo x.cells) (hxg:xb<g) (hf:zF x) (hl:bs.length<=900000000) (hst:ig w g v bs):
  Calls Tryz.prog 85 #[.iface 91 (pt g), .pointer (some ⟨xb,xo,none⟩)] w (iY w g v (bs++jY x)):=by
 have hgl:=hst.lt;have HST:=ae hst;have HF:=ae hf;have c0:w.cell? ⟨xb,xo,none⟩=some (I x.at_):=hr 0 _ rfl;have c1:w.cell? ⟨xb,xo+1,none⟩=some (I x.off):=hr 1 _ rfl;have HB0:Hid (Below g w w):=ae (Below.refl _ _);have tN:=ae hst;have vP:Hid (iL g v w v w):=ae (iL.refl _ _ _);clear hr hf hst;have hc0:w.drew.cell? ⟨xb,xo,none⟩=some (I x.at_):=(HB0.out.cell (p:=⟨xb,xo,none⟩) hxg).trans c0;have hlen0:(bs).length<=900000100:=by
  try simp only [bF,aC]
  omega
 have FD:=ae (dC w.drew g ⟨xb,xo,none⟩ v (bs) x.at_ 8 (by have:=HF.out;unfold zF lI at this;omega) (by have:=HF.out;unfold zF lI at this;omega) (by omega) (by omega) tN.out.drew.lt tN.out.drew hc0);clear hc0;go_enter Tryz.func85,Tryz.ntmps85;go_wp2_with fail;go_still_tail 7,(by kernel_rfl);go_wp2_with fail;refine FD.out.mono ?_;rintro e w1 ⟨rfl,v1,hs1,hk1⟩;have HB1:=ae (HB0.out.trans (df tN.out (aQ hk1)));have lg:=ae hs1;have jP:=ae (vP.out.trans (aQ hk1));clear hs1 hk1 FD HB0 tN vP hlen0;have hc1:w1.drew.cell? ⟨xb,xo+1,none⟩=some (I x.off):=(HB1.out.cell (p:=⟨xb,xo+1,none⟩) hxg).trans c1;have hlen1:(bs++le (x.at_) 8).length<=900000100:=by
  try simp only [bF,aC]
  omega
 have mG:=ae (uH w1.drew g ⟨xb,xo+1,none⟩ v1 (bs++le (x.at_) 8) x.off (by have:=HF.out;unfold zF lI at this;omega) (by have:=HF.out;unfold zF lI at this;omega) (by omega) lg.out.drew hc1);clear hc1;go_wp2_with fail;go_still_tail 7,(by kernel_rfl);go_wp2_with fail;refine mG.out.mono ?_;rintro e w2 ⟨rfl,v2,hs2,hk2⟩;have HB2:=ae (HB1.out.trans (df lg.out (aQ hk2)));have HS2:=ae hs2;have jA:=ae (jP.out.trans (aQ hk2));clear hs2 hk2 mG HB1 lg jP hlen1;go_wp2_with fail
 go_end0
 exact ⟨rfl,v2,by unfold jY;have h:=HS2.out;simpa [List.append_assoc] using h,jA.out⟩
theorem Q7 (w:World) (g xb xo:Nat) (v:Value) (bs:List UInt8) (x:Yr) (hr:w.rangeAt xb xo x.cells) (hxg:xb<g) (hf:qI x) (hl:bs.length<=900000000) (hst:ig w g v bs):
  Calls Tryz.prog 87 #[.iface 91 (pt g), .pointer (some ⟨xb,xo,none⟩)] w (iY w g v (bs++lZ x)):=by
 have hgl:=hst.lt;have HST:=ae hst;have HF:=ae hf;have c0:w.cell? ⟨xb,xo,none⟩=some (I x.month):=hr 0 _ rfl;have c1:w.cell? ⟨xb,xo+1,none⟩=some (I x.cZ):=hr 1 _ rfl;have c2:w.cell? ⟨xb,xo+2,none⟩=some (I x.dh):=hr 2 _ rfl;have c3:w.cell? ⟨xb,xo+3,none⟩=some (I x.minute):=hr 3 _ rfl;have c4:w.cell? ⟨xb,xo+4,none⟩=some (I x.off):=hr 4 _ rfl;have HB0:Hid (Below g w w):=ae (Below.refl _ _);have tN:=ae hst;have vP:Hid (iL g v w v w):=ae (iL.refl _ _ _);clear hr hf hst;have hc0:w.drew.cell? ⟨xb,xo,none⟩=some (I x.month):=(HB0.out.cell (p:=⟨xb,xo,none⟩) hxg).trans c0;have hlen0:(bs).length<=900000100:=by
  try simp only [bF,aC]
  omega
 have FD:=ae (dC w.drew g ⟨xb,xo,none⟩ v (bs) x.month 1 (by have:=HF.out;unfold qI lI at this;omega) (by have:=HF.out;unfold qI lI at this;omega) (by omega) (by omega) tN.out.drew.lt tN.out.drew hc0);clear hc0;go_enter Tryz.func87,Tryz.ntmps87;go_wp2_with fail;go_still_tail 7,(by kernel_rfl);go_wp2_with fail;refine FD.out.mono ?_;rintro e w1 ⟨rfl,v1,hs1,hk1⟩;have HB1:=ae (HB0.out.trans (df tN.out (aQ hk1)));have lg:=ae hs1;have jP:=ae (vP.out.trans (aQ hk1));clear hs1 hk1 FD HB0 tN vP hlen0;have hc1:w1.drew.cell? ⟨xb,xo+1,none⟩=some (I x.cZ):=(HB1.out.cell (p:=⟨xb,xo+1,none⟩) hxg).trans c1;have hlen1:(bs++le (x.month) 1).length<=900000100:=by
  try simp only [bF,aC]
  omega
 have mG:=ae (dC w1.drew g ⟨xb,xo+1,none⟩ v1 (bs++le (x.month) 1) x.cZ 1 (by have:=HF.out;unfold qI lI at this;omega) (by have:=HF.out;unfold qI lI at this;omega) (by omega) (by omega) lg.out.drew.lt lg.out.drew hc1);clear hc1;go_wp2_with fail;go_still_tail 7,(by kernel_rfl);go_wp2_with fail;refine mG.out.mono ?_;rintro e w2 ⟨rfl,v2,hs2,hk2⟩;have HB2:=ae (HB1.out.trans (df lg.out (aQ hk2)));have HS2:=ae hs2;have jA:=ae (jP.out.trans (aQ hk2));clear hs2 hk2 mG HB1 lg jP hlen1;have hc2:w2.drew.cell? ⟨xb,xo+2,none⟩=some (I x.dh):=(HB2.out.cell (p:=⟨xb,xo+2,none⟩) hxg).trans c2;have hlen2:(bs++le (x.month) 1++le (x.cZ) 1).length<=900000100:=by
  try simp only [bF,aC]
  omega
 have HC2:=ae (dC w2.drew g ⟨xb,xo+2,none⟩ v2 (bs++le (x.month) 1++le (x.cZ) 1) x.dh 1 (by have:=HF.out;unfold qI lI at this;omega) (by have:=HF.out;unfold qI lI at this;omega) (by omega) (by omega) HS2.out.drew.lt HS2.out.drew hc2);clear hc2;go_wp2_with fail;go_still_tail 7,(by kernel_rfl);go_wp2_with fail;refine HC2.out.mono ?_;rintro e w3 ⟨rfl,v3,hs3,hk3⟩;have HB3:=ae (HB2.out.trans (df HS2.out (aQ hk3)));have oz:=ae hs3;have nC:=ae (jA.out.trans (aQ hk3));clear hs3 hk3 HC2 HB2 HS2 jA hlen2;have hc3:w3.drew.cell? ⟨xb,xo+3,none⟩=some (I x.minute):=(HB3.out.cell (p:=⟨xb,xo+3,none⟩) hxg).trans c3;have hlen3:(bs++le (x.month) 1++le (x.cZ) 1++le (x.dh) 1).length<=900000100:=by
  try simp only [bF,aC]
  omega
 have xX:=ae (dC w3.drew g ⟨xb,xo+3,none⟩ v3 (bs++le (x.month) 1++le (x.cZ) 1++le (x.dh) 1) x.minute 2 (by have:=HF.out;unfold qI lI at this;omega) (by have:=HF.out;unfold qI lI at this;omega) (by omega) (by omega) oz.out.drew.lt oz.out.drew hc3);clear hc3;go_wp2_with fail;go_still_tail 7,(by kernel_rfl);go_wp2_with fail;refine xX.out.mono ?_;rintro e w4 ⟨rfl,v4,hs4,hk4⟩;have HB4:=ae (HB3.out.trans (df oz.out (aQ hk4)));have DT:=ae hs4;have NZ:=ae (nC.out.trans (aQ hk4));clear hs4 hk4 xX HB3 oz nC hlen3;have hc4:w4.drew.cell? ⟨xb,xo+4,none⟩=some (I x.off):=(HB4.out.cell (p:=⟨xb,xo+4,none⟩) hxg).trans c4;have hlen4:(bs++le (x.month) 1++le (x.cZ) 1++le (x.dh) 1++le (x.minute) 2).length<=900000100:=by
  try simp only [bF,aC]
  omega
 have xZ:=ae (uH w4.drew g ⟨xb,xo+4,none⟩ v4 (bs++le (x.month) 1++le (x.cZ) 1++le (x.dh) 1++le (x.minute) 2) x.off (by have:=HF.out;unfold qI lI at this;omega) (by have:=HF.out;unfold qI lI at this;omega) (by omega) DT.out.drew hc4);clear hc4;go_wp2_with fail;go_still_tail 7,(by kernel_rfl);go_wp2_with fail;refine xZ.out.mono ?_;rintro e w5 ⟨rfl,v5,hs5,hk5⟩;have qU:=ae (HB4.out.trans (df DT.out (aQ hk5)));have ED:=ae hs5;have yX:=ae (NZ.out.trans (aQ hk5));clear hs5 hk5 xZ HB4 DT NZ hlen4;go_wp2_with fail
 go_end0
 exact ⟨rfl,v5,by unfold lZ;have h:=ED.out;simpa [List.append_assoc] using h,yX.out⟩
def He (w:World) (g:Nat) (v:Value) (bs:List UInt8) (n:Nat) (xs:List Lr) (i:Value) (wr:World):Prop:=
 ∃k:Nat,k<=n/\i= .int .i64 k/\∃v',ig wr g v' (bs++(le n 1++(xs.take k).flatMap lS))/\iL g v w v' wr
theorem Eo (w:World) (g lb lo:Nat) (A:Option Addr) (n c:Nat) (xs:List Lr) (v:Value) (bs:List UInt8) (hn:xs.length=n) (hn2:n<=100000) (hp:w.cell? ⟨lb,lo,none⟩=some (.slice A n c)) (TW:lb<g) (hA:aA w g A (xs.flatMap Lr.cells)) (hfit:∀z∈xs,zn z)
  (hl:bs.length<=100000000) (hst:ig w g v bs):
  Calls Tryz.prog 105 #[.iface 91 (pt g), .pointer (some ⟨lb,lo,none⟩),I 1, .func (.func 106) #[] #[]] w (iY w g v (bs++(le n 1++xs.flatMap lS))):=by
 have HC:=ae (jL w.drew g v bs n 1 (by omega) (by omega) (by omega) (by omega) hst.drew);have HST:=ae hst;have HN:=ae hn;have HF:=ae hfit;have HA:=ae hA;have HP:=ae hp;have hgl:=hst.lt;clear hst hn hfit hA;go_enter Tryz.func105,Tryz.ntmps105;go_wp2_with fail;go_still_tail 9,(by kernel_rfl);go_wp2_with fail;refine HC.out.mono ?_;rintro e w1 ⟨rfl,v1,hs1,hk1⟩;have lg:=ae hs1;have jP:=ae (aQ hk1);clear hs1 hk1 HC hp;go_wp2_with fail
 go_loopw [22] (fun i wr=>He w g v bs n xs i wr) (fun i _=>n - (intOf i).toNat)
 case atStart=>exact ⟨0,Nat.zero_le _,rfl,v1,by simpa using lg.out,jP.out⟩
 case round=>
  obtain ⟨k,hk,rfl,v2,hs2,hk2⟩:=hrel;have hb2:=df HST.out hk2;have HB2:=ae hb2;have HS2:=ae hs2;have jA:=ae hk2;have hp2:wr.cell? ⟨lb,lo,none⟩=some (.slice A n c):=(hb2.cell (p:=⟨lb,lo,none⟩) TW).trans HP.out;clear hs2 hk2 hb2 lg jP;by_cases hlt:k<n
  ·have hkz:k<xs.length:=by rw [HN.out];exact hlt
   obtain ⟨b,off,rfl,hbg,hc0⟩:=HA.out.there (by rw [bZ (s:=3) Lr.cells _ fun _ _=>rfl];omega);obtain ⟨x,hx⟩:∃x,xs[k]? =some x:=⟨_,bK hkz⟩;have hcz:wr.rangeAt b (off+k*3) x.cells:=aS (aA.elem (s:=3) (f:=Lr.cells) (fun _ _=>rfl) hc0 k x hx) HB2.out hbg;have hlen:(bs++(le (n:Int) 1++(xs.take k).flatMap lS)).length<=900000000:=by
    rw [bF,bF,aC,wL lS 5 zl,List.length_take];omega
   have HM:=ae (Q5 wr g b (off+k*3) v2 _ x hcz hbg (HF.out x (gZ hx)) hlen HS2.out);have HX:=ae hx;have i0:(0:Int)<=(k:Int):=by omega
   have i1:(k:Int)<(n:Int):=by omega
   have i2:((k:Int)==(n:Int))=false:=by simp;omega
   clear hkz hc0 hx hlen hcz;go_wp2_with fail;refine HM.out.mono ?_;rintro e w3 ⟨rfl,v3,hs3,hk3⟩;have oz:=ae hs3;have nC:=ae (jA.out.trans hk3);clear hs3 hk3 hp2;go_wp2_with fail;go_roundw
   case rel=>exact ⟨k+1,by omega,by go_num,v3,by rw [jX xs k x HX.out,List.flatMap_append,List.flatMap_cons,List.flatMap_nil,List.append_nil,<-List.append_assoc (le _ _),<-List.append_assoc];exact oz.out,nC.out⟩
   case measure=>simp [intOf];omega
  ·have hkn:k=n:=by omega
   have oC:=ae hkn;clear hkn;go_wp2_with fail
   go_end0
   exact ⟨rfl,v2,by have h:=HS2.out;rwa [oC.out,List.take_of_length_le (by rw [HN.out];exact Nat.le_refl _)] at h,jA.out⟩
def Ep (w:World) (g:Nat) (v:Value) (bs:List UInt8) (n:Nat) (xs:List Tr) (i:Value) (wr:World):Prop:=
 ∃k:Nat,k<=n/\i= .int .i64 k/\∃v',ig wr g v' (bs++(le n 2++(xs.take k).flatMap jY))/\iL g v w v' wr
theorem Di (w:World) (g lb lo:Nat) (A:Option Addr) (n c:Nat) (xs:List Tr) (v:Value) (bs:List UInt8) (hn:xs.length=n) (hn2:n<=100000) (hp:w.cell? ⟨lb,lo,none⟩=some (.slice A n c)) (TW:lb<g) (hA:aA w g A (xs.flatMap Tr.cells)) (hfit:∀z∈xs,zF z)
  (hl:bs.length<=100000000) (hst:ig w g v bs):
  Calls Tryz.prog 84 #[.iface 91 (pt g), .pointer (some ⟨lb,lo,none⟩),I 2, .func (.func 85) #[] #[]] w (iY w g v (bs++(le n 2++xs.flatMap jY))):=by
 have HC:=ae (jL w.drew g v bs n 2 (by omega) (by omega) (by omega) (by omega) hst.drew);have HST:=ae hst;have HN:=ae hn;have HF:=ae hfit;have HA:=ae hA;have HP:=ae hp;have hgl:=hst.lt;clear hst hn hfit hA;go_enter Tryz.func84,Tryz.ntmps84;go_wp2_with fail;go_still_tail 9,(by kernel_rfl);go_wp2_with fail;refine HC.out.mono ?_;rintro e w1 ⟨rfl,v1,hs1,hk1⟩;have lg:=ae hs1;have jP:=ae (aQ hk1);clear hs1 hk1 HC hp;go_wp2_with fail
 go_loopw [22] (fun i wr=>Ep w g v bs n xs i wr) (fun i _=>n - (intOf i).toNat)
 case atStart=>exact ⟨0,Nat.zero_le _,rfl,v1,by simpa using lg.out,jP.out⟩
 case round=>
  obtain ⟨k,hk,rfl,v2,hs2,hk2⟩:=hrel;have hb2:=df HST.out hk2;have HB2:=ae hb2;have HS2:=ae hs2;have jA:=ae hk2;have hp2:wr.cell? ⟨lb,lo,none⟩=some (.slice A n c):=(hb2.cell (p:=⟨lb,lo,none⟩) TW).trans HP.out;clear hs2 hk2 hb2 lg jP;by_cases hlt:k<n
  ·have hkz:k<xs.length:=by rw [HN.out];exact hlt
   obtain ⟨b,off,rfl,hbg,hc0⟩:=HA.out.there (by rw [bZ (s:=2) Tr.cells _ fun _ _=>rfl];omega);obtain ⟨x,hx⟩:∃x,xs[k]? =some x:=⟨_,bK hkz⟩;have hcz:wr.rangeAt b (off+k*2) x.cells:=aS (aA.elem (s:=2) (f:=Tr.cells) (fun _ _=>rfl) hc0 k x hx) HB2.out hbg;have hlen:(bs++(le (n:Int) 2++(xs.take k).flatMap jY)).length<=900000000:=by
    rw [bF,bF,aC,wL jY 10 uI,List.length_take];omega
   have HM:=ae (NR wr g b (off+k*2) v2 _ x hcz hbg (HF.out x (gZ hx)) hlen HS2.out);have HX:=ae hx;have i0:(0:Int)<=(k:Int):=by omega
   have i1:(k:Int)<(n:Int):=by omega
   have i2:((k:Int)==(n:Int))=false:=by simp;omega
   clear hkz hc0 hx hlen hcz;go_wp2_with fail;refine HM.out.mono ?_;rintro e w3 ⟨rfl,v3,hs3,hk3⟩;have oz:=ae hs3;have nC:=ae (jA.out.trans hk3);clear hs3 hk3 hp2;go_wp2_with fail;go_roundw
   case rel=>exact ⟨k+1,by omega,by go_num,v3,by rw [jX xs k x HX.out,List.flatMap_append,List.flatMap_cons,List.flatMap_nil,List.append_nil,<-List.append_assoc (le _ _),<-List.append_assoc];exact oz.out,nC.out⟩
   case measure=>simp [intOf];omega
  ·have hkn:k=n:=by omega
   have oC:=ae hkn;clear hkn;go_wp2_with fail
   go_end0
   exact ⟨rfl,v2,by have h:=HS2.out;rwa [oC.out,List.take_of_length_le (by rw [HN.out];exact Nat.le_refl _)] at h,jA.out⟩
def Hf (w:World) (g:Nat) (v:Value) (bs:List UInt8) (n:Nat) (xs:List Yr) (i:Value) (wr:World):Prop:=
 ∃k:Nat,k<=n/\i= .int .i64 k/\∃v',ig wr g v' (bs++(le n 1++(xs.take k).flatMap lZ))/\iL g v w v' wr
theorem Es (w:World) (g lb lo:Nat) (A:Option Addr) (n c:Nat) (xs:List Yr) (v:Value) (bs:List UInt8) (hn:xs.length=n) (hn2:n<=100000) (hp:w.cell? ⟨lb,lo,none⟩=some (.slice A n c)) (TW:lb<g) (hA:aA w g A (xs.flatMap Yr.cells)) (hfit:∀z∈xs,qI z)
  (hl:bs.length<=100000000) (hst:ig w g v bs):
  Calls Tryz.prog 86 #[.iface 91 (pt g), .pointer (some ⟨lb,lo,none⟩),I 1, .func (.func 87) #[] #[]] w (iY w g v (bs++(le n 1++xs.flatMap lZ))):=by
 have HC:=ae (jL w.drew g v bs n 1 (by omega) (by omega) (by omega) (by omega) hst.drew);have HST:=ae hst;have HN:=ae hn;have HF:=ae hfit;have HA:=ae hA;have HP:=ae hp;have hgl:=hst.lt;clear hst hn hfit hA;go_enter Tryz.func86,Tryz.ntmps86;go_wp2_with fail;go_still_tail 9,(by kernel_rfl);go_wp2_with fail;refine HC.out.mono ?_;rintro e w1 ⟨rfl,v1,hs1,hk1⟩;have lg:=ae hs1;have jP:=ae (aQ hk1);clear hs1 hk1 HC hp;go_wp2_with fail
 go_loopw [22] (fun i wr=>Hf w g v bs n xs i wr) (fun i _=>n - (intOf i).toNat)
 case atStart=>exact ⟨0,Nat.zero_le _,rfl,v1,by simpa using lg.out,jP.out⟩
 case round=>
  obtain ⟨k,hk,rfl,v2,hs2,hk2⟩:=hrel;have hb2:=df HST.out hk2;have HB2:=ae hb2;have HS2:=ae hs2;have jA:=ae hk2;have hp2:wr.cell? ⟨lb,lo,none⟩=some (.slice A n c):=(hb2.cell (p:=⟨lb,lo,none⟩) TW).trans HP.out;clear hs2 hk2 hb2 lg jP;by_cases hlt:k<n
  ·have hkz:k<xs.length:=by rw [HN.out];exact hlt
   obtain ⟨b,off,rfl,hbg,hc0⟩:=HA.out.there (by rw [bZ (s:=5) Yr.cells _ fun _ _=>rfl];omega);obtain ⟨x,hx⟩:∃x,xs[k]? =some x:=⟨_,bK hkz⟩;have hcz:wr.rangeAt b (off+k*5) x.cells:=aS (aA.elem (s:=5) (f:=Yr.cells) (fun _ _=>rfl) hc0 k x hx) HB2.out hbg;have hlen:(bs++(le (n:Int) 1++(xs.take k).flatMap lZ)).length<=900000000:=by
    rw [bF,bF,aC,wL lZ 7 zO,List.length_take];omega
   have HM:=ae (Q7 wr g b (off+k*5) v2 _ x hcz hbg (HF.out x (gZ hx)) hlen HS2.out);have HX:=ae hx;have i0:(0:Int)<=(k:Int):=by omega
   have i1:(k:Int)<(n:Int):=by omega
   have i2:((k:Int)==(n:Int))=false:=by simp;omega
   clear hkz hc0 hx hlen hcz;go_wp2_with fail;refine HM.out.mono ?_;rintro e w3 ⟨rfl,v3,hs3,hk3⟩;have oz:=ae hs3;have nC:=ae (jA.out.trans hk3);clear hs3 hk3 hp2;go_wp2_with fail;go_roundw
   case rel=>exact ⟨k+1,by omega,by go_num,v3,by rw [jX xs k x HX.out,List.flatMap_append,List.flatMap_cons,List.flatMap_nil,List.append_nil,<-List.append_assoc (le _ _),<-List.append_assoc];exact oz.out,nC.out⟩
   case measure=>simp [intOf];omega
  ·have hkn:k=n:=by omega
   have oC:=ae hkn;clear hkn;go_wp2_with fail
   go_end0
   exact ⟨rfl,v2,by have h:=HS2.out;rwa [oC.out,List.take_of_length_le (by rw [HN.out];exact Nat.le_refl _)] at h,jA.out⟩
end Go.Proofs.YtbaehbbonkljpaaGreatDoor
namespace Go.Proofs.YtbaehbbonkljpaaGreatDoor
open Go Go.RowKit
attribute [local go_sem] kQ kU kR kV pq pG kN kS kP kT
def Gf (c:Cal):List UInt8:=le c.bn 4++((le c.au.length 1++gV c.au)++(le (c.dA+1) 1++(le c.rules.length 1++c.rules.flatMap lS)))
def znB (z:Zn):List UInt8:=Gf z.cal++(le z.start 2++((le z.trans.length 2++z.trans.flatMap jY)++(le z.hor 8++(le z.aH.length 1++z.aH.flatMap lZ))))
def Wy (e:Ze):List UInt8:=(le e.name.size 1++e.name.data.toList)++znB e.z
end Go.Proofs.YtbaehbbonkljpaaGreatDoor
namespace Go.Proofs.YtbaehbbonkljpaaGreatDoor
open Go Go.RowKit
attribute [local go_sem] kQ kU kR kV pq pG kN kS kP kT
theorem Jo:∀(rs:List Lr) (y:Nat),(jU rs y).isSome=true->∀r∈rs,(1<=r.every/\r.every<=400)/\0<=r.rest/\r.rest<r.every
 | [],_,_,_,h=>nomatch h
 |r::rs,y,hs,x,hx=>by
  unfold jU at hs;split at hs
  ·cases hs
  ·rename_i hb;split at hs
   ·cases hs
   ·rcases List.mem_cons.1 hx with rfl|hx
    ·omega
    ·exact Jo rs _ hs x hx
theorem EN {c:Cal} (h:fJ c):(Gf c).length<=110:=by
 unfold Gf;simp only [bF,aC,mV,wL lS 5 zl];have:=h.ml;have:=h.rl;omega
theorem qw.len {z:Zn} (h:qw z):z.aH.length<=2:=by
 rcases h with e|⟨r0,r1,e,_⟩<;>rw [e]<;>simp
theorem qw.mem {z:Zn} (h:qw z):∀y∈z.aH,ui z.cal.au.length y:=by
 intro y hy;rcases h with e|⟨r0,r1,e,h0,h1⟩
 ·rw [e] at hy;cases hy
 ·rw [e] at hy;rcases List.mem_cons.1 hy with rfl|hy
  ·exact h0
  ·rw [List.mem_singleton.1 hy];exact h1
theorem Ag.trs {z:Zn} (h:Ag z):∀x∈z.trans,(-1080<=x.off/\x.off<=1080)/\ -2251799813685248<=x.at_/\x.at_<=2251799813685248:=by
 intro x hx;obtain ⟨i,hi⟩:=List.getElem?_of_mem hx;have hl:=(gQ.1 hi).1;obtain ⟨h1,h2,_⟩:=h.tr i hl;have e1:jI z.trans i=x.off:=by unfold jI;rw [hi];rfl
 have e2:gU z.trans i=x.at_:=by unfold gU;rw [hi];rfl
 rw [e1] at h1;rw [e2] at h2;exact ⟨h1,h2⟩
theorem VG {e:Ze} (h:Ag e.z) (hs:e.name.size<=32):(Wy e).length<=5400:=by
 have h1:=EN h.cal;have h2:=h.QS;have h3:=h.yr.len;have h4:e.name.data.toList.length=e.name.size:=by rw [Array.length_toList];rfl
 unfold Wy znB;simp only [bF,aC,wL jY 10 uI,wL lZ 7 zO,h4];omega
theorem J8 (w:World) (g cb co:Nat) (c:Cal) (A:Option Addr) (a:Nat) (B:Option Addr) (b:Nat) (v:Value) (bs:List UInt8) (hc:fJ c) (hr:w.rangeAt cb co (aI c A a B b).toList) (hfz:w.frozen? ⟨cb,co+2,none⟩=false) (hcb:cb<g) (hA:ku w g A c.au) (hB:aA w g B (c.rules.flatMap Lr.cells))
  (hl:bs.length<=10000000) (hst:ig w g v bs):
  Calls Tryz.prog 83 #[.iface 91 (pt g), .pointer (some ⟨cb,co,none⟩)] w (iY w g v (bs++Gf c)):=by
 have hgl:=hst.lt;have c0:w.cell? ⟨cb,co,none⟩=some (I c.bn):=hr 0 _ rfl;have c1:w.cell? ⟨cb,co+1,none⟩=some (.slice A c.au.length a):=hr 1 _ rfl;have c2:w.cell? ⟨cb,co+2,none⟩=some (I c.dA):=hr 2 _ rfl;have c3:w.cell? ⟨cb,co+3,none⟩=some (.slice B c.rules.length b):=hr 3 _ rfl;obtain ⟨lp,hlp⟩:∃l,c.dA=l:=⟨_,rfl⟩;obtain ⟨n1,hn1⟩:∃n,c.rules.length=n:=⟨_,rfl⟩;rw [hlp] at c2;rw [hn1] at c3;have hlb:=hc.lp;rw [hlp] at hlb;have hlb2:lp<=15:=by have:=hc.ml;omega
 have hrb:=hc.rl;rw [hn1] at hrb;have Ky:=ae hlp;have HN1:=ae hn1;have Hz:=ae hB;have HRF:Hid (∀z∈c.rules,zn z):=ae (fun z hz=>by have:=Jo _ _ hc.per z hz;unfold zn lI;omega);clear hB hlp hn1;obtain ⟨n,hn⟩:∃n,c.au.length=n:=⟨_,rfl⟩;rw [hn] at c1;have hn2:n<=16:=by have:=hc.ml;omega
 have hN1:(bs++le c.bn 4).length<=10000004:=by rw [bF,aC];omega
 have HE:=ae hc.ep;have HN:=ae hn;have HM:Hid (∀z∈c.au,fits z):=ae fun z hz=>by have:=hc.mo z hz;unfold fits;omega
 have mG:=ae (dC w.drew g ⟨cb,co,none⟩ v bs c.bn 4 (by have:=hc.ep;omega) (by have:=hc.ep;omega) (by omega) (by omega) hst.lt hst.drew c0);have HST:=ae hst;have HA:=ae hA;clear hc hr hst hA hn;go_enter Tryz.func83,Tryz.ntmps83;go_wp2_with fail;go_still_tail 7,(by kernel_rfl);go_wp2_with fail;refine mG.out.mono ?_;rintro e w1 ⟨rfl,v1,hs1,hk1⟩;have hb1:=df HST.out (aQ hk1);have HB1:=ae hb1;have lg:=ae hs1;have jP:=ae (aQ hk1);have d1:w1.cell? ⟨cb,co+1,none⟩=some (.slice A n a):=(hb1.cell (p:=⟨cb,co+1,none⟩) hcb).trans c1;have hcb1:cb<w1.heap.size:=by have:=hs1.lt;omega
 have HL:=ae (Ha w1 g cb (co+1) A n a c.au v1 _ HN.out (by omega) d1 hcb (HA.out.keep hb1) HM.out (by omega) hs1);have Wl:(bs++le c.bn 4++(le (n:Int) 1++gV c.au)).length<=10000040:=by
  simp only [bF,aC,mV,HN.out];omega
 clear hs1 hk1 hb1 mG c0 d1;go_wp2_with fail;refine HL.out.mono ?_;rintro e w2 ⟨rfl,v2,hs2,hk2⟩;have hb2:=HB1.out.trans (df lg.out hk2);have HB2:=ae hb2;have HS2:=ae hs2;have jA:=ae (jP.out.trans hk2);have d2:w2.cell? ⟨cb,co+2,none⟩=some (I lp):=(hb2.cell (p:=⟨cb,co+2,none⟩) hcb).trans c2;obtain ⟨h1,h2⟩:=hs2.grow (ag w2 (.cells #[I (lp+1)] 3));have Zx:=ae h1;have HG2:=ae h2;have Hy:=ae hs2.new_ne;have Rl:=ae (heap_alloc_last w2 (.cells #[I (lp+1)] 3));have HC2:=ae (dC (w2.alloc (.cells #[I (lp+1)] 3)) g ⟨w2.heap.size,0,none⟩ v2 _ (lp+1) 1 (by omega) (by omega) (by omega) (by omega) h1.lt h1 ((Row.new w2 #[I (lp+1)] 3).2 0));clear hs2 hk2 hb2 HL h1 h2;go_wp2_with fail;refine HC2.out.mono ?_;rintro e w3 ⟨rfl,v3,hs3,hk3⟩;have hb3:=df Zx.out hk3;have d3:w3.cell? ⟨w2.heap.size,0,none⟩=some (I (lp+1)):=cell_of_row w3 _ 0 _ _ _ ((Zx.out.far hk3 w2.heap.size (by simp) Hy.out.1 Hy.out.2).trans Rl.out);have Qk:Below g w w3:=(HB2.out.trans ((ag w2 (.cells #[I (lp+1)] 3)).mono (by have:=HS2.out.lt;omega))).trans hb3;have HB3:=ae Qk;have e3:w3.cell? ⟨cb,co+2,none⟩=some (I lp):=(Qk.cell (p:=⟨cb,co+2,none⟩) hcb).trans c2;have f3:w3.frozen? ⟨cb,co+2,none⟩=false:=(Qk.frozen (p:=⟨cb,co+2,none⟩) hcb).trans hfz;have e4:w3.cell? ⟨cb,co+3,none⟩=some (.slice B n1 b):=(Qk.cell (p:=⟨cb,co+3,none⟩) hcb).trans c3;have hsame:=xJ e3;have oz:=ae hs3;have nC:=ae ((jA.out.trans HG2.out).trans hk3);have hN3:(bs++le c.bn 4++(le (n:Int) 1++gV c.au)++le (lp+1) 1).length<=10000041:=by rw [bF];simp only [aC];omega
 have HLL:=ae (Eo w3 g cb (co+3) B n1 b c.rules v3 _ HN1.out (by omega) e4 hcb (Hz.out.keep Qk) HRF.out (by omega) hs3);clear hs3 hk3 hb3 Qk HC2 d2 Rl;go_wp2_with fail;refine HLL.out.mono ?_;rintro e w4 ⟨rfl,v4,hs4,hk4⟩;have DT:=ae hs4;have NZ:=ae (nC.out.trans hk4);clear hs4 hk4 HLL hsame d3 e3 f3 e4;go_wp2_with fail
 go_end0
 exact ⟨rfl,v4,by unfold Gf;rw [HN.out,HN1.out,Ky.out];have h:=DT.out;simpa only [List.append_assoc] using h,NZ.out⟩
theorem Vq (w:World) (g eb eo:Nat) (x:dw) (v:Value) (bs:List UInt8) (h:Ag x.e.z) (hs:x.e.name.size<=32) (hr:w.rangeAt eb eo x.cells.toList) (hfz:w.frozen? ⟨eb,eo+1+2,none⟩=false) (heb:eb<g) (hA:iP w g x.s x.e.z)
  (hl:bs.length<=9000000) (hst:ig w g v bs):
  Calls Tryz.prog 65 #[.iface 91 (pt g), .pointer (some ⟨eb,eo,none⟩)] w (iY w g v (bs++Wy x.e)):=by
 have hgl:=hst.lt;have c0:w.cell? ⟨eb,eo,none⟩=some (.string x.e.name):=hr 0 _ rfl;have yc:Hid (w.rangeAt eb (eo+1) (aI x.e.z.cal x.s.A x.s.a x.s.B x.s.b).toList):=ae fun j u hu=>by
  have hj:j<4:=(gQ.1 hu).1;rw [show eo+1+j=eo+(j+1) by omega];refine hr (j+1) u ?_
  match j,hj with
  |0,_=>exact hu
  |1,_=>exact hu
  |2,_=>exact hu
  |3,_=>exact hu
 have c5:w.cell? ⟨eb,eo+1+4,none⟩=some (I x.e.z.start):=hr 5 _ rfl;have c6:w.cell? ⟨eb,eo+1+5,none⟩=some (.slice x.s.C x.e.z.trans.length x.s.c):=hr 6 _ rfl;have c7:w.cell? ⟨eb,eo+1+6,none⟩=some (I x.e.z.hor):=hr 7 _ rfl;have c8:w.cell? ⟨eb,eo+1+7,none⟩=some (.slice x.s.D x.e.z.aH.length x.s.d):=hr 8 _ rfl;have hnl:x.e.name.data.toList.length=x.e.name.size:=by rw [Array.length_toList];rfl
 have hcl:=EN h.cal;have htl:=h.QS;have hyl:=h.yr.len;have xY:=ae htl;have qo:=ae hyl;have Sr:Hid (∀z∈x.e.z.trans,zF z):=ae (fun z hz=>by have:=h.trs z hz;unfold zF lI;omega);have HYF:Hid (∀z∈x.e.z.aH,qI z):=ae (fun z hz=>by
  have hz2:=h.yr.mem z hz;have hml:=h.cal.ml;have a:=hz2.mo;have b:=hz2.wk;have c:=hz2.wd;have d:=hz2.mi;have e:=hz2.of;unfold qI lI;omega)
 clear htl hyl;have mG:=ae (QT w.drew g ⟨eb,eo,none⟩ v bs x.e.name (by omega) (by omega) hst.drew c0 (by show eb≠g;omega) (eG hst.2 eb (by omega)) (by show eb<w.heap.size;omega));have HST:=ae hst;have HF:=ae h;have HA:=ae hA;have VT:Hid (∀j u,Below g w u->u.cell? ⟨eb,j,none⟩=w.cell? ⟨eb,j,none⟩):=ae fun j u hb=>hb.cell (p:=⟨eb,j,none⟩) heb;have HL:Hid (x.e.name.data.toList.length=x.e.name.size/\(Gf x.e.z.cal).length<=110/\x.e.name.size<=32/\bs.length<=9000000):=ae ⟨hnl,hcl,hs,hl⟩;clear h hr hst hA hnl hcl hs hl;go_enter Tryz.func65,Tryz.ntmps65;go_wp2_with fail;go_still_tail 7,(by kernel_rfl);go_wp2_with fail;refine mG.out.mono ?_;rintro e w1 ⟨rfl,v1,hs1,hk1⟩;obtain ⟨B1,hB1⟩:∃B,bs++(le x.e.name.size 1++x.e.name.data.toList)=B:=⟨_,rfl⟩;have hl1:B1.length<=9000040:=by rw [<-hB1];have:=HL.out;simp only [bF,aC];omega
 rw [hB1] at hs1;have hb1:=df HST.out (aQ hk1);have HB1:=ae hb1;have lg:=ae hs1;have jP:=ae (aQ hk1);have kD:=ae hB1;have HC2:=ae (J8 w1 g eb (eo+1) x.e.z.cal x.s.A x.s.a x.s.B x.s.b v1 B1 HF.out.cal (fun j u hu=>(hb1.cell (p:=⟨eb,eo+1+j,none⟩) heb).trans (yc.out j u hu)) ((hb1.frozen (p:=⟨eb,eo+1+2,none⟩) heb).trans hfz) heb (HA.out.au.ints.keep hb1) (HA.out.rules.keep hb1) (by omega) hs1);clear hs1 hk1 hb1 mG hB1 c0;go_wp2_with fail;refine HC2.out.mono ?_;rintro e w2 ⟨rfl,v2,hs2,hk2⟩;obtain ⟨B2,hB2⟩:∃B,B1++Gf x.e.z.cal=B:=⟨_,rfl⟩;have hl2:B2.length<=9000160:=by rw [<-hB2];have:=HL.out;simp only [bF];omega
 rw [hB2] at hs2;have hb2:=HB1.out.trans (df lg.out hk2);have HB2:=ae hb2;have HS2:=ae hs2;have jA:=ae (jP.out.trans hk2);have jr:=ae hB2;have hst0:=HF.out.st;have xX:=ae (uH w2.drew g ⟨eb,eo+1+4,none⟩ v2 B2 x.e.z.start (by omega) (by omega) (by omega) hs2.drew ((VT.out _ _ hb2).trans c5));clear hs2 hk2 hb2 HC2 hB2 c5 hst0;go_wp2_with fail;go_still_tail 7,(by kernel_rfl);go_wp2_with fail;refine xX.out.mono ?_;rintro e w3 ⟨rfl,v3,hs3,hk3⟩;obtain ⟨B3,hB3⟩:∃B,B2++le x.e.z.start 2=B:=⟨_,rfl⟩;have hl3:B3.length<=9000170:=by rw [<-hB3];simp only [bF,aC];omega
 rw [hB3] at hs3;have hb3:=HB2.out.trans (df HS2.out (aQ hk3));have HB3:=ae hb3;have oz:=ae hs3;have nC:=ae (jA.out.trans (aQ hk3));have yY:=ae hB3;have xZ:=ae (Di w3 g eb (eo+1+5) x.s.C x.e.z.trans.length x.s.c x.e.z.trans v3 B3 rfl (by have:=xY.out;omega) ((VT.out _ _ hb3).trans c6) heb (HA.out.trans.keep hb3) Sr.out (by omega) hs3);clear hs3 hk3 hb3 xX hB3 c6;go_wp2_with fail;refine xZ.out.mono ?_;rintro e w4 ⟨rfl,v4,hs4,hk4⟩;obtain ⟨B4,hB4⟩:∃B,B3++(le x.e.z.trans.length 2++x.e.z.trans.flatMap jY)=B:=⟨_,rfl⟩;have hl4:B4.length<=9006000:=by rw [<-hB4];simp only [bF,aC,wL jY 10 uI];have:=xY.out;omega
 rw [hB4] at hs4;have hb4:=HB3.out.trans (df oz.out hk4);have HB4:=ae hb4;have DT:=ae hs4;have NZ:=ae (nC.out.trans hk4);have PR:=ae hB4;have hh0:=HF.out.ho;have PK:=ae (dC w4.drew g ⟨eb,eo+1+6,none⟩ v4 B4 x.e.z.hor 8 (by omega) (by omega) (by omega) (by omega) hs4.lt hs4.drew ((VT.out _ _ hb4).trans c7));clear hs4 hk4 hb4 xZ hB4 c7 hh0;go_wp2_with fail;go_still_tail 7,(by kernel_rfl);go_wp2_with fail;refine PK.out.mono ?_;rintro e w5 ⟨rfl,v5,hs5,hk5⟩;obtain ⟨B5,Wj⟩:∃B,B4++le x.e.z.hor 8=B:=⟨_,rfl⟩;have hl5:B5.length<=9006100:=by rw [<-Wj];simp only [bF,aC];omega
 rw [Wj] at hs5;have hb5:=HB4.out.trans (df DT.out (aQ hk5));have ED:=ae hs5;have yX:=ae (NZ.out.trans (aQ hk5));have ZF:=ae Wj;have xe:=ae (Es w5 g eb (eo+1+7) x.s.D x.e.z.aH.length x.s.d x.e.z.aH v5 B5 rfl (by have:=qo.out;omega) ((VT.out _ _ hb5).trans c8) heb (HA.out.aH.keep hb5) HYF.out (by omega) hs5);clear hs5 hk5 hb5 PK Wj c8;go_wp2_with fail;refine xe.out.mono ?_;rintro e w6 ⟨rfl,v6,hs6,hk6⟩;have Xc:=ae hs6;have Zy:=ae (yX.out.trans hk6);clear hs6 hk6 xe;go_wp2_with fail
 go_end0
 refine ⟨rfl,v6,?_,Zy.out⟩;have h:=Xc.out;rw [<-ZF.out,<-PR.out,<-yY.out,<-jr.out,<-kD.out] at h;unfold Wy znB;simpa only [List.append_assoc] using h
end Go.Proofs.YtbaehbbonkljpaaGreatDoor
namespace Go.Proofs.YtbaehbbonkljpaaGreatDoor
open Go Go.RowKit
attribute [local go_sem] kQ kU kR kV pq pG kN kS kP kT
theorem Hg (w:World) (g lb lo:Nat) (A:Option Addr) (c:Nat) (v:Value) (bs:List UInt8) (hp:w.cell? ⟨lb,lo,none⟩=some (.slice A 0 c)) (hl:bs.length<=100000000) (hst:ig w g v bs):
  Calls Tryz.prog 64 #[.iface 91 (pt g), .pointer (some ⟨lb,lo,none⟩),I 1, .func (.func 65) #[] #[]] w (iY w g v (bs++le 0 1)):=by
 have HC:=ae (jL w.drew g v bs 0 1 (by omega) (by omega) (by omega) (by omega) hst.drew);clear hst;go_enter Tryz.func64,Tryz.ntmps64;go_wp2_with fail;go_still_tail 9,(by kernel_rfl);go_wp2_with fail;refine HC.out.mono ?_;rintro e w1 ⟨rfl,v1,hs1,hk1⟩;have lg:=ae hs1;have jP:=ae (aQ hk1);clear hs1 hk1 HC hp;go_wp2_with fail
 go_loop [22] (fun i=>i= .int .i64 0) (fun _=>0)
 case atStart=>rfl
 case round=>
  subst hrel;go_wp2_with fail
  go_end0
  exact ⟨rfl,v1,lg.out,jP.out⟩
structure Bv (g:Nat) (w:World) (A:Option Addr) (zs:List dw):Prop where
 row:zs.length=0\/∃zg,A=some ⟨zg,0,none⟩/\zg<g/\(∀j u,(aU zs)[j]? =some u->w.cell? ⟨zg,j,none⟩=some u)/\∀j,w.frozen? ⟨zg,j,none⟩=false
 au:∀x∈zs,ku w g x.s.A x.e.z.cal.au
theorem Bv.keep {g:Nat} {w w':World} {A:Option Addr} {zs:List dw} (h:Bv g w A zs) (hb:Below g w w'):Bv g w' A zs:=
 ⟨h.row.elim .inl fun ⟨zg,h1,h2,h3,h4⟩=> .inr ⟨zg,h1,h2,fun j u hu=>(hb.cell (p:=⟨zg,j,none⟩) h2).trans (h3 j u hu),fun j=>(hb.frozen (p:=⟨zg,j,none⟩) h2).trans (h4 j)⟩,fun x hx=>(h.au x hx).keep hb⟩
theorem Bv.more {g g':Nat} {w:World} {A:Option Addr} {zs:List dw} (h:Bv g w A zs) (hg:g<=g'):Bv g' w A zs:=
 ⟨h.row.elim .inl fun ⟨zg,h1,h2,h3⟩=> .inr ⟨zg,h1,by omega,h3⟩,fun x hx=>(h.au x hx).more hg⟩
theorem kG.low {lo n c:Nat} {w:World} {A:Option Addr} {zs:List dw} (h:kG lo w (.slice A n c) zs):Bv w.heap.size w A zs:=by
 refine ⟨?_,fun x hx=>(h.au x hx).ints⟩;rcases h.form with ⟨h1,_⟩|⟨_,g,c',h2,_,h4⟩
 ·exact .inl (by rw [h1];rfl)
 ·injection h2 with e1 e2 e3;subst e1 e2;exact .inr ⟨g,rfl,h4,fun j u hu=>pJ h.row j u hu,Cf h.row⟩
attribute [local go_sem] ja jb jc bC
end Go.Proofs.YtbaehbbonkljpaaGreatDoor
namespace Go.Proofs.YtbaehbbonkljpaaGreatDoor
open Go Go.RowKit
def SQ (w:World) (bs:List UInt8) (e:Ending) (w':World):Prop:=
 (∃g c,e= .returned (.tuple #[.slice (some ⟨g,0,none⟩) bs.length c,I 0])/\w'.ownsRow w.heap.size 5 1 (.slice (some ⟨g,0,none⟩) bs.length c) bs.length (bs.map Extern.Stop.cell))/\Below w.heap.size w w'
end Go.Proofs.YtbaehbbonkljpaaGreatDoor
