/- The texts Ob, Sa, TrC, in this order. -/
import Derived.Test.YtdibbemgpikgjaaGreatW00
import Derived.Test.YtdibbemgpikgjaaGreatW04
import Derived.Test.YtdibbemgpikgjaaGreatW05
set_option maxRecDepth 10000
set_option maxHeartbeats 8000000
namespace Go.Proofs.YtdibbemgpikgjaaGreat
open Go Go.RowKit
attribute [local go_sem] jX kC jY kD nK nM jV ku jW kz Ur Uz
def uo (b:Bool):Int:=if b=true then 1 else 0
def jP (x:Lr):List UInt8:=le x.every 2++(le x.rest 2++le (uo x.yes) 1)
def iQ (x:Tr):List UInt8:=le x.at_ 8++le x.off 2
def jQ (x:Yr):List UInt8:=le x.month 1++(le x.di 1++(le x.dm 1++(le x.minute 2++le x.off 2)))
def lT (z:Int):Prop:= -9223372036854775808≤z∧z≤9223372036854775807
def zD (x:Lr):Prop:=lT x.every∧lT x.rest
def zO (x:Tr):Prop:=lT x.at_∧lT x.off
def qp (x:Yr):Prop:=lT x.month∧lT x.di∧lT x.dm∧lT x.minute∧lT x.off
theorem uq (x:Lr):(jP x).length=5:=by simp [jP,aA]
theorem qj (x:Tr):(iQ x).length=10:=by simp [iQ,aA]
theorem uI (x:Yr):(jQ x).length=7:=by simp [jQ,aA]
theorem qC {α:Type} (f:α→List UInt8) (L:Nat) (h:∀x,(f x).length=L) (xs:List α):(xs.flatMap f).length=xs.length*L:=by
 induction xs with
 |nil=>simp
 |cons x xs ih=>rw [List.flatMap_cons,bF,ih,h,List.length_cons,Nat.succ_mul,Nat.add_comm]
theorem QA (w:World) (g:Nat) (p:Addr) (v:Value) (bs:List UInt8) (b:Bool) (hl:bs.length≤1000000000) (hst:fG w g v bs) (hp:w.cell? p=some (.bool b)):
  Calls Tryz.prog 158 #[pt g, .pointer (some p)] w (fJ w g v (bs++le (uo b) 1)):=by
 obtain ⟨h1,h2⟩:=hst.grow (ag w (.cells #[I (uo b)] 3));have HG2:=ae h2;have hp1:(w.alloc (.cells #[I 0] 3)).cell? p=some (.bool b):=(World.cell?_alloc_some w p _ (by rw [hp];rfl)).trans hp;have HC:=ae (cu (w.alloc (.cells #[I (uo b)] 3)) g ⟨w.heap.size,0,none⟩ v bs (uo b) 1 (by unfold uo;split<;>omega) (by unfold uo;split<;>omega) (by omega) (by omega) h1.lt h1 ((Row.new w #[I (uo b)] 3).2 0));clear hst h1 h2;cases b with
 |false=>
  rw [show uo false=0 from rfl] at HC HG2 ⊢;go_enter Tryz.func158,Tryz.ntmps158;go_wp2_with fail;refine HC.out.mono ?_;rintro e w1 ⟨rfl,v1,hs1,hk1⟩;have kS:=ae hs1;have gK:=ae (HG2.out.trans hk1);clear hs1 hk1 HC HG2;go_wp2_with fail
  go_end0
  exact ⟨rfl,v1,kS.out,gK.out⟩
 |true=>
  rw [show uo true=1 from rfl] at HC HG2 ⊢;go_enter Tryz.func158,Tryz.ntmps158;go_wp2_with fail;refine HC.out.mono ?_;rintro e w1 ⟨rfl,v1,hs1,hk1⟩;have kS:=ae hs1;have gK:=ae (HG2.out.trans hk1);clear hs1 hk1 HC HG2;go_wp2_with fail
  go_end0
  exact ⟨rfl,v1,kS.out,gK.out⟩
theorem QM (w:World) (g xb xo:Nat) (v:Value) (bs:List UInt8) (x:Lr) (hr:w.rangeAt xb xo x.cells) (hxg:xb<g) (hf:zD x) (hl:bs.length≤900000000) (hst:fG w g v bs):
  Calls Tryz.prog 88 #[.iface 71 (pt g), .pointer (some ⟨xb,xo,none⟩)] w (fJ w g v (bs++jP x)):=by
 have hgl:=hst.lt;have HST:=ae hst;have HF:=ae hf;have c0:w.cell? ⟨xb,xo,none⟩=some (I x.every):=hr 0 _ rfl;have c1:w.cell? ⟨xb,xo+1,none⟩=some (I x.rest):=hr 1 _ rfl;have c2:w.cell? ⟨xb,xo+2,none⟩=some (.bool x.yes):=hr 2 _ rfl;have HB0:Hid (Below g w w):=ae (Below.refl _ _);have rE:=ae hst;have yE:Hid (iy g v w v w):=ae (iy.refl _ _ _);clear hr hf hst;have hc0:w.drew.cell? ⟨xb,xo,none⟩=some (I x.every):=(HB0.out.cell (p:=⟨xb,xo,none⟩) hxg).trans c0;have hlen0:(bs).length≤900000100:=by
  try simp only [bF,aA]
  omega
 have IL:=ae (cu w.drew g ⟨xb,xo,none⟩ v (bs) x.every 2 (by have:=HF.out;unfold zD lT at this;omega) (by have:=HF.out;unfold zD lT at this;omega) (by omega) (by omega) rE.out.drew.lt rE.out.drew hc0);clear hc0;go_enter Tryz.func88,Tryz.ntmps88;go_wp2_with fail;go_still_tail 7,(by kernel_rfl);go_wp2_with fail;refine IL.out.mono ?_;rintro e w1 ⟨rfl,v1,hs1,hk1⟩;have HB1:=ae (HB0.out.trans (bI rE.out (aJ hk1)));have kS:=ae hs1;have gK:=ae (yE.out.trans (aJ hk1));clear hs1 hk1 IL HB0 rE yE hlen0;have hc1:w1.drew.cell? ⟨xb,xo+1,none⟩=some (I x.rest):=(HB1.out.cell (p:=⟨xb,xo+1,none⟩) hxg).trans c1;have hlen1:(bs++le (x.every) 2).length≤900000100:=by
  try simp only [bF,aA]
  omega
 have jO:=ae (cu w1.drew g ⟨xb,xo+1,none⟩ v1 (bs++le (x.every) 2) x.rest 2 (by have:=HF.out;unfold zD lT at this;omega) (by have:=HF.out;unfold zD lT at this;omega) (by omega) (by omega) kS.out.drew.lt kS.out.drew hc1);clear hc1;go_wp2_with fail;go_still_tail 7,(by kernel_rfl);go_wp2_with fail;refine jO.out.mono ?_;rintro e w2 ⟨rfl,v2,hs2,hk2⟩;have HB2:=ae (HB1.out.trans (bI kS.out (aJ hk2)));have HS2:=ae hs2;have ja:=ae (gK.out.trans (aJ hk2));clear hs2 hk2 jO HB1 kS gK hlen1;have hc2:w2.drew.cell? ⟨xb,xo+2,none⟩=some (.bool x.yes):=(HB2.out.cell (p:=⟨xb,xo+2,none⟩) hxg).trans c2;have hlen2:(bs++le (x.every) 2++le (x.rest) 2).length≤900000100:=by
  try simp only [bF,aA]
  omega
 have HC2:=ae (QA w2.drew g ⟨xb,xo+2,none⟩ v2 (bs++le (x.every) 2++le (x.rest) 2) x.yes (by omega) HS2.out.drew hc2);clear hc2;go_wp2_with fail;go_still_tail 7,(by kernel_rfl);go_wp2_with fail;refine HC2.out.mono ?_;rintro e w3 ⟨rfl,v3,hs3,hk3⟩;have HB3:=ae (HB2.out.trans (bI HS2.out (aJ hk3)));have nS:=ae hs3;have kX:=ae (ja.out.trans (aJ hk3));clear hs3 hk3 HC2 HB2 HS2 ja hlen2;go_wp2_with fail
 go_end0
 exact ⟨rfl,v3,by unfold jP;have h:=nS.out;simpa [List.append_assoc] using h,kX.out⟩
theorem NK (w:World) (g xb xo:Nat) (v:Value) (bs:List UInt8) (x:Tr) (hr:w.rangeAt xb xo x.cells) (hxg:xb<g) (hf:zO x) (hl:bs.length≤900000000) (hst:fG w g v bs):
  Calls Tryz.prog 63 #[.iface 71 (pt g), .pointer (some ⟨xb,xo,none⟩)] w (fJ w g v (bs++iQ x)):=by
 have hgl:=hst.lt;have HST:=ae hst;have HF:=ae hf;have c0:w.cell? ⟨xb,xo,none⟩=some (I x.at_):=hr 0 _ rfl;have c1:w.cell? ⟨xb,xo+1,none⟩=some (I x.off):=hr 1 _ rfl;have HB0:Hid (Below g w w):=ae (Below.refl _ _);have rE:=ae hst;have yE:Hid (iy g v w v w):=ae (iy.refl _ _ _);clear hr hf hst;have hc0:w.drew.cell? ⟨xb,xo,none⟩=some (I x.at_):=(HB0.out.cell (p:=⟨xb,xo,none⟩) hxg).trans c0;have hlen0:(bs).length≤900000100:=by
  try simp only [bF,aA]
  omega
 have IL:=ae (cu w.drew g ⟨xb,xo,none⟩ v (bs) x.at_ 8 (by have:=HF.out;unfold zO lT at this;omega) (by have:=HF.out;unfold zO lT at this;omega) (by omega) (by omega) rE.out.drew.lt rE.out.drew hc0);clear hc0;go_enter Tryz.func63,Tryz.ntmps63;go_wp2_with fail;go_still_tail 7,(by kernel_rfl);go_wp2_with fail;refine IL.out.mono ?_;rintro e w1 ⟨rfl,v1,hs1,hk1⟩;have HB1:=ae (HB0.out.trans (bI rE.out (aJ hk1)));have kS:=ae hs1;have gK:=ae (yE.out.trans (aJ hk1));clear hs1 hk1 IL HB0 rE yE hlen0;have hc1:w1.drew.cell? ⟨xb,xo+1,none⟩=some (I x.off):=(HB1.out.cell (p:=⟨xb,xo+1,none⟩) hxg).trans c1;have hlen1:(bs++le (x.at_) 8).length≤900000100:=by
  try simp only [bF,aA]
  omega
 have jO:=ae (qi w1.drew g ⟨xb,xo+1,none⟩ v1 (bs++le (x.at_) 8) x.off (by have:=HF.out;unfold zO lT at this;omega) (by have:=HF.out;unfold zO lT at this;omega) (by omega) kS.out.drew hc1);clear hc1;go_wp2_with fail;go_still_tail 7,(by kernel_rfl);go_wp2_with fail;refine jO.out.mono ?_;rintro e w2 ⟨rfl,v2,hs2,hk2⟩;have HB2:=ae (HB1.out.trans (bI kS.out (aJ hk2)));have HS2:=ae hs2;have ja:=ae (gK.out.trans (aJ hk2));clear hs2 hk2 jO HB1 kS gK hlen1;go_wp2_with fail
 go_end0
 exact ⟨rfl,v2,by unfold iQ;have h:=HS2.out;simpa [List.append_assoc] using h,ja.out⟩
theorem QN (w:World) (g xb xo:Nat) (v:Value) (bs:List UInt8) (x:Yr) (hr:w.rangeAt xb xo x.cells) (hxg:xb<g) (hf:qp x) (hl:bs.length≤900000000) (hst:fG w g v bs):
  Calls Tryz.prog 65 #[.iface 71 (pt g), .pointer (some ⟨xb,xo,none⟩)] w (fJ w g v (bs++jQ x)):=by
 have hgl:=hst.lt;have HST:=ae hst;have HF:=ae hf;have c0:w.cell? ⟨xb,xo,none⟩=some (I x.month):=hr 0 _ rfl;have c1:w.cell? ⟨xb,xo+1,none⟩=some (I x.di):=hr 1 _ rfl;have c2:w.cell? ⟨xb,xo+2,none⟩=some (I x.dm):=hr 2 _ rfl;have c3:w.cell? ⟨xb,xo+3,none⟩=some (I x.minute):=hr 3 _ rfl;have c4:w.cell? ⟨xb,xo+4,none⟩=some (I x.off):=hr 4 _ rfl;have HB0:Hid (Below g w w):=ae (Below.refl _ _);have rE:=ae hst;have yE:Hid (iy g v w v w):=ae (iy.refl _ _ _);clear hr hf hst;have hc0:w.drew.cell? ⟨xb,xo,none⟩=some (I x.month):=(HB0.out.cell (p:=⟨xb,xo,none⟩) hxg).trans c0;have hlen0:(bs).length≤900000100:=by
  try simp only [bF,aA]
  omega
 have IL:=ae (cu w.drew g ⟨xb,xo,none⟩ v (bs) x.month 1 (by have:=HF.out;unfold qp lT at this;omega) (by have:=HF.out;unfold qp lT at this;omega) (by omega) (by omega) rE.out.drew.lt rE.out.drew hc0);clear hc0;go_enter Tryz.func65,Tryz.ntmps65;go_wp2_with fail;go_still_tail 7,(by kernel_rfl);go_wp2_with fail;refine IL.out.mono ?_;rintro e w1 ⟨rfl,v1,hs1,hk1⟩;have HB1:=ae (HB0.out.trans (bI rE.out (aJ hk1)));have kS:=ae hs1;have gK:=ae (yE.out.trans (aJ hk1));clear hs1 hk1 IL HB0 rE yE hlen0;have hc1:w1.drew.cell? ⟨xb,xo+1,none⟩=some (I x.di):=(HB1.out.cell (p:=⟨xb,xo+1,none⟩) hxg).trans c1;have hlen1:(bs++le (x.month) 1).length≤900000100:=by
  try simp only [bF,aA]
  omega
 have jO:=ae (cu w1.drew g ⟨xb,xo+1,none⟩ v1 (bs++le (x.month) 1) x.di 1 (by have:=HF.out;unfold qp lT at this;omega) (by have:=HF.out;unfold qp lT at this;omega) (by omega) (by omega) kS.out.drew.lt kS.out.drew hc1);clear hc1;go_wp2_with fail;go_still_tail 7,(by kernel_rfl);go_wp2_with fail;refine jO.out.mono ?_;rintro e w2 ⟨rfl,v2,hs2,hk2⟩;have HB2:=ae (HB1.out.trans (bI kS.out (aJ hk2)));have HS2:=ae hs2;have ja:=ae (gK.out.trans (aJ hk2));clear hs2 hk2 jO HB1 kS gK hlen1;have hc2:w2.drew.cell? ⟨xb,xo+2,none⟩=some (I x.dm):=(HB2.out.cell (p:=⟨xb,xo+2,none⟩) hxg).trans c2;have hlen2:(bs++le (x.month) 1++le (x.di) 1).length≤900000100:=by
  try simp only [bF,aA]
  omega
 have HC2:=ae (cu w2.drew g ⟨xb,xo+2,none⟩ v2 (bs++le (x.month) 1++le (x.di) 1) x.dm 1 (by have:=HF.out;unfold qp lT at this;omega) (by have:=HF.out;unfold qp lT at this;omega) (by omega) (by omega) HS2.out.drew.lt HS2.out.drew hc2);clear hc2;go_wp2_with fail;go_still_tail 7,(by kernel_rfl);go_wp2_with fail;refine HC2.out.mono ?_;rintro e w3 ⟨rfl,v3,hs3,hk3⟩;have HB3:=ae (HB2.out.trans (bI HS2.out (aJ hk3)));have nS:=ae hs3;have kX:=ae (ja.out.trans (aJ hk3));clear hs3 hk3 HC2 HB2 HS2 ja hlen2;have hc3:w3.drew.cell? ⟨xb,xo+3,none⟩=some (I x.minute):=(HB3.out.cell (p:=⟨xb,xo+3,none⟩) hxg).trans c3;have hlen3:(bs++le (x.month) 1++le (x.di) 1++le (x.dm) 1).length≤900000100:=by
  try simp only [bF,aA]
  omega
 have qy:=ae (cu w3.drew g ⟨xb,xo+3,none⟩ v3 (bs++le (x.month) 1++le (x.di) 1++le (x.dm) 1) x.minute 2 (by have:=HF.out;unfold qp lT at this;omega) (by have:=HF.out;unfold qp lT at this;omega) (by omega) (by omega) nS.out.drew.lt nS.out.drew hc3);clear hc3;go_wp2_with fail;go_still_tail 7,(by kernel_rfl);go_wp2_with fail;refine qy.out.mono ?_;rintro e w4 ⟨rfl,v4,hs4,hk4⟩;have HB4:=ae (HB3.out.trans (bI nS.out (aJ hk4)));have yu:=ae hs4;have KL:=ae (kX.out.trans (aJ hk4));clear hs4 hk4 qy HB3 nS kX hlen3;have hc4:w4.drew.cell? ⟨xb,xo+4,none⟩=some (I x.off):=(HB4.out.cell (p:=⟨xb,xo+4,none⟩) hxg).trans c4;have hlen4:(bs++le (x.month) 1++le (x.di) 1++le (x.dm) 1++le (x.minute) 2).length≤900000100:=by
  try simp only [bF,aA]
  omega
 have qH:=ae (qi w4.drew g ⟨xb,xo+4,none⟩ v4 (bs++le (x.month) 1++le (x.di) 1++le (x.dm) 1++le (x.minute) 2) x.off (by have:=HF.out;unfold qp lT at this;omega) (by have:=HF.out;unfold qp lT at this;omega) (by omega) yu.out.drew hc4);clear hc4;go_wp2_with fail;go_still_tail 7,(by kernel_rfl);go_wp2_with fail;refine qH.out.mono ?_;rintro e w5 ⟨rfl,v5,hs5,hk5⟩;have oN:=ae (HB4.out.trans (bI yu.out (aJ hk5)));have vV:=ae hs5;have zq:=ae (KL.out.trans (aJ hk5));clear hs5 hk5 qH HB4 yu KL hlen4;go_wp2_with fail
 go_end0
 exact ⟨rfl,v5,by unfold jQ;have h:=vV.out;simpa [List.append_assoc] using h,zq.out⟩
def Ib (w:World) (g:Nat) (v:Value) (bs:List UInt8) (n:Nat) (xs:List Lr) (i:Value) (wr:World):Prop:=
 ∃k:Nat,k≤n∧i= .int .i64 k∧∃v',fG wr g v' (bs++(le n 1++(xs.take k).flatMap jP))∧iy g v w v' wr
theorem EN (w:World) (g lb lo:Nat) (A:Option Addr) (n c:Nat) (xs:List Lr) (v:Value) (bs:List UInt8) (hn:xs.length=n) (hn2:n≤100000) (hp:w.cell? ⟨lb,lo,none⟩=some (.slice A n c)) (MC:lb<g) (hA:aB w g A (xs.flatMap Lr.cells)) (hfit:∀z∈xs,zD z)
  (hl:bs.length≤100000000) (hst:fG w g v bs):
  Calls Tryz.prog 87 #[.iface 71 (pt g), .pointer (some ⟨lb,lo,none⟩),I 1, .func (.func 88) #[] #[]] w (fJ w g v (bs++(le n 1++xs.flatMap jP))):=by
 have HC:=ae (fP w.drew g v bs n 1 (by omega) (by omega) (by omega) (by omega) hst.drew);have HST:=ae hst;have HN:=ae hn;have HF:=ae hfit;have HA:=ae hA;have HP:=ae hp;have hgl:=hst.lt;clear hst hn hfit hA;go_enter Tryz.func87,Tryz.ntmps87;go_wp2_with fail;go_still_tail 9,(by kernel_rfl);go_wp2_with fail;refine HC.out.mono ?_;rintro e w1 ⟨rfl,v1,hs1,hk1⟩;have kS:=ae hs1;have gK:=ae (aJ hk1);clear hs1 hk1 HC hp;go_wp2_with fail
 go_loopw [22] (fun i wr=>Ib w g v bs n xs i wr) (fun i _=>n - (intOf i).toNat)
 case atStart=>exact ⟨0,Nat.zero_le _,rfl,v1,by simpa using kS.out,gK.out⟩
 case round=>
  obtain ⟨k,hk,rfl,v2,hs2,hk2⟩:=hrel;have hb2:=bI HST.out hk2;have HB2:=ae hb2;have HS2:=ae hs2;have ja:=ae hk2;have hp2:wr.cell? ⟨lb,lo,none⟩=some (.slice A n c):=(hb2.cell (p:=⟨lb,lo,none⟩) MC).trans HP.out;clear hs2 hk2 hb2 kS gK;by_cases hlt:k<n
  ·have hkz:k<xs.length:=by rw [HN.out];exact hlt
   obtain ⟨b,off,rfl,hbg,hc0⟩:=HA.out.there (by rw [dP (s:=3) Lr.cells _ fun _ _=>rfl];omega);obtain ⟨x,hx⟩:∃x,xs[k]? =some x:=⟨_,dK hkz⟩;have hcz:wr.rangeAt b (off+k*3) x.cells:=aW (aB.elem (s:=3) (f:=Lr.cells) (fun _ _=>rfl) hc0 k x hx) HB2.out hbg;have hlen:(bs++(le (n:Int) 1++(xs.take k).flatMap jP)).length≤900000000:=by
    rw [bF,bF,aA,qC jP 5 uq,List.length_take];omega
   have HM:=ae (QM wr g b (off+k*3) v2 _ x hcz hbg (HF.out x (gz hx)) hlen HS2.out);have HX:=ae hx;have i0:(0:Int)≤(k:Int):=by omega
   have i1:(k:Int)<(n:Int):=by omega
   have i2:((k:Int)==(n:Int))=false:=by simp;omega
   clear hkz hc0 hx hlen hcz;go_wp2_with fail;refine HM.out.mono ?_;rintro e w3 ⟨rfl,v3,hs3,hk3⟩;have nS:=ae hs3;have kX:=ae (ja.out.trans hk3);clear hs3 hk3 hp2;go_wp2_with fail;go_roundw
   case rel=>exact ⟨k+1,by omega,by go_num,v3,by rw [jJ xs k x HX.out,List.flatMap_append,List.flatMap_cons,List.flatMap_nil,List.append_nil,←List.append_assoc (le _ _),←List.append_assoc];exact nS.out,kX.out⟩
   case measure=>simp [intOf];omega
  ·have hkn:k=n:=by omega
   have kY:=ae hkn;clear hkn;go_wp2_with fail
   go_end0
   exact ⟨rfl,v2,by have h:=HS2.out;rwa [kY.out,List.take_of_length_le (by rw [HN.out];exact Nat.le_refl _)] at h,ja.out⟩
def EO (w:World) (g:Nat) (v:Value) (bs:List UInt8) (n:Nat) (xs:List Tr) (i:Value) (wr:World):Prop:=
 ∃k:Nat,k≤n∧i= .int .i64 k∧∃v',fG wr g v' (bs++(le n 2++(xs.take k).flatMap iQ))∧iy g v w v' wr
theorem DT (w:World) (g lb lo:Nat) (A:Option Addr) (n c:Nat) (xs:List Tr) (v:Value) (bs:List UInt8) (hn:xs.length=n) (hn2:n≤100000) (hp:w.cell? ⟨lb,lo,none⟩=some (.slice A n c)) (MC:lb<g) (hA:aB w g A (xs.flatMap Tr.cells)) (hfit:∀z∈xs,zO z)
  (hl:bs.length≤100000000) (hst:fG w g v bs):
  Calls Tryz.prog 62 #[.iface 71 (pt g), .pointer (some ⟨lb,lo,none⟩),I 2, .func (.func 63) #[] #[]] w (fJ w g v (bs++(le n 2++xs.flatMap iQ))):=by
 have HC:=ae (fP w.drew g v bs n 2 (by omega) (by omega) (by omega) (by omega) hst.drew);have HST:=ae hst;have HN:=ae hn;have HF:=ae hfit;have HA:=ae hA;have HP:=ae hp;have hgl:=hst.lt;clear hst hn hfit hA;go_enter Tryz.func62,Tryz.ntmps62;go_wp2_with fail;go_still_tail 9,(by kernel_rfl);go_wp2_with fail;refine HC.out.mono ?_;rintro e w1 ⟨rfl,v1,hs1,hk1⟩;have kS:=ae hs1;have gK:=ae (aJ hk1);clear hs1 hk1 HC hp;go_wp2_with fail
 go_loopw [22] (fun i wr=>EO w g v bs n xs i wr) (fun i _=>n - (intOf i).toNat)
 case atStart=>exact ⟨0,Nat.zero_le _,rfl,v1,by simpa using kS.out,gK.out⟩
 case round=>
  obtain ⟨k,hk,rfl,v2,hs2,hk2⟩:=hrel;have hb2:=bI HST.out hk2;have HB2:=ae hb2;have HS2:=ae hs2;have ja:=ae hk2;have hp2:wr.cell? ⟨lb,lo,none⟩=some (.slice A n c):=(hb2.cell (p:=⟨lb,lo,none⟩) MC).trans HP.out;clear hs2 hk2 hb2 kS gK;by_cases hlt:k<n
  ·have hkz:k<xs.length:=by rw [HN.out];exact hlt
   obtain ⟨b,off,rfl,hbg,hc0⟩:=HA.out.there (by rw [dP (s:=2) Tr.cells _ fun _ _=>rfl];omega);obtain ⟨x,hx⟩:∃x,xs[k]? =some x:=⟨_,dK hkz⟩;have hcz:wr.rangeAt b (off+k*2) x.cells:=aW (aB.elem (s:=2) (f:=Tr.cells) (fun _ _=>rfl) hc0 k x hx) HB2.out hbg;have hlen:(bs++(le (n:Int) 2++(xs.take k).flatMap iQ)).length≤900000000:=by
    rw [bF,bF,aA,qC iQ 10 qj,List.length_take];omega
   have HM:=ae (NK wr g b (off+k*2) v2 _ x hcz hbg (HF.out x (gz hx)) hlen HS2.out);have HX:=ae hx;have i0:(0:Int)≤(k:Int):=by omega
   have i1:(k:Int)<(n:Int):=by omega
   have i2:((k:Int)==(n:Int))=false:=by simp;omega
   clear hkz hc0 hx hlen hcz;go_wp2_with fail;refine HM.out.mono ?_;rintro e w3 ⟨rfl,v3,hs3,hk3⟩;have nS:=ae hs3;have kX:=ae (ja.out.trans hk3);clear hs3 hk3 hp2;go_wp2_with fail;go_roundw
   case rel=>exact ⟨k+1,by omega,by go_num,v3,by rw [jJ xs k x HX.out,List.flatMap_append,List.flatMap_cons,List.flatMap_nil,List.append_nil,←List.append_assoc (le _ _),←List.append_assoc];exact nS.out,kX.out⟩
   case measure=>simp [intOf];omega
  ·have hkn:k=n:=by omega
   have kY:=ae hkn;clear hkn;go_wp2_with fail
   go_end0
   exact ⟨rfl,v2,by have h:=HS2.out;rwa [kY.out,List.take_of_length_le (by rw [HN.out];exact Nat.le_refl _)] at h,ja.out⟩
def Ic (w:World) (g:Nat) (v:Value) (bs:List UInt8) (n:Nat) (xs:List Yr) (i:Value) (wr:World):Prop:=
 ∃k:Nat,k≤n∧i= .int .i64 k∧∃v',fG wr g v' (bs++(le n 1++(xs.take k).flatMap jQ))∧iy g v w v' wr
theorem EP (w:World) (g lb lo:Nat) (A:Option Addr) (n c:Nat) (xs:List Yr) (v:Value) (bs:List UInt8) (hn:xs.length=n) (hn2:n≤100000) (hp:w.cell? ⟨lb,lo,none⟩=some (.slice A n c)) (MC:lb<g) (hA:aB w g A (xs.flatMap Yr.cells)) (hfit:∀z∈xs,qp z)
  (hl:bs.length≤100000000) (hst:fG w g v bs):
  Calls Tryz.prog 64 #[.iface 71 (pt g), .pointer (some ⟨lb,lo,none⟩),I 1, .func (.func 65) #[] #[]] w (fJ w g v (bs++(le n 1++xs.flatMap jQ))):=by
 have HC:=ae (fP w.drew g v bs n 1 (by omega) (by omega) (by omega) (by omega) hst.drew);have HST:=ae hst;have HN:=ae hn;have HF:=ae hfit;have HA:=ae hA;have HP:=ae hp;have hgl:=hst.lt;clear hst hn hfit hA;go_enter Tryz.func64,Tryz.ntmps64;go_wp2_with fail;go_still_tail 9,(by kernel_rfl);go_wp2_with fail;refine HC.out.mono ?_;rintro e w1 ⟨rfl,v1,hs1,hk1⟩;have kS:=ae hs1;have gK:=ae (aJ hk1);clear hs1 hk1 HC hp;go_wp2_with fail
 go_loopw [22] (fun i wr=>Ic w g v bs n xs i wr) (fun i _=>n - (intOf i).toNat)
 case atStart=>exact ⟨0,Nat.zero_le _,rfl,v1,by simpa using kS.out,gK.out⟩
 case round=>
  obtain ⟨k,hk,rfl,v2,hs2,hk2⟩:=hrel;have hb2:=bI HST.out hk2;have HB2:=ae hb2;have HS2:=ae hs2;have ja:=ae hk2;have hp2:wr.cell? ⟨lb,lo,none⟩=some (.slice A n c):=(hb2.cell (p:=⟨lb,lo,none⟩) MC).trans HP.out;clear hs2 hk2 hb2 kS gK;by_cases hlt:k<n
  ·have hkz:k<xs.length:=by rw [HN.out];exact hlt
   obtain ⟨b,off,rfl,hbg,hc0⟩:=HA.out.there (by rw [dP (s:=5) Yr.cells _ fun _ _=>rfl];omega);obtain ⟨x,hx⟩:∃x,xs[k]? =some x:=⟨_,dK hkz⟩;have hcz:wr.rangeAt b (off+k*5) x.cells:=aW (aB.elem (s:=5) (f:=Yr.cells) (fun _ _=>rfl) hc0 k x hx) HB2.out hbg;have hlen:(bs++(le (n:Int) 1++(xs.take k).flatMap jQ)).length≤900000000:=by
    rw [bF,bF,aA,qC jQ 7 uI,List.length_take];omega
   have HM:=ae (QN wr g b (off+k*5) v2 _ x hcz hbg (HF.out x (gz hx)) hlen HS2.out);have HX:=ae hx;have i0:(0:Int)≤(k:Int):=by omega
   have i1:(k:Int)<(n:Int):=by omega
   have i2:((k:Int)==(n:Int))=false:=by simp;omega
   clear hkz hc0 hx hlen hcz;go_wp2_with fail;refine HM.out.mono ?_;rintro e w3 ⟨rfl,v3,hs3,hk3⟩;have nS:=ae hs3;have kX:=ae (ja.out.trans hk3);clear hs3 hk3 hp2;go_wp2_with fail;go_roundw
   case rel=>exact ⟨k+1,by omega,by go_num,v3,by rw [jJ xs k x HX.out,List.flatMap_append,List.flatMap_cons,List.flatMap_nil,List.append_nil,←List.append_assoc (le _ _),←List.append_assoc];exact nS.out,kX.out⟩
   case measure=>simp [intOf];omega
  ·have hkn:k=n:=by omega
   have kY:=ae hkn;clear hkn;go_wp2_with fail
   go_end0
   exact ⟨rfl,v2,by have h:=HS2.out;rwa [kY.out,List.take_of_length_le (by rw [HN.out];exact Nat.le_refl _)] at h,ja.out⟩
end Go.Proofs.YtdibbemgpikgjaaGreat
namespace Go.Proofs.YtdibbemgpikgjaaGreat
open Go Go.RowKit
attribute [local go_sem] dD dH dE dI ed eu dB dF dC dG jA jB
def iW (cs:Array Value) (o:Nat):List Value→Array Value
 | []=>cs
 |v::vs=>iW (cs.setIfInBounds o v) (o+1) vs
def TItR (M:Nat) (w:World) (rb pb po:Nat) (t:TypeId) (cs:Array Value) (vs:List Value) (R:List UInt8) (e:Ending) (w':World):Prop:=
 e= .returned (.tuple #[])∧fQ M w' rb R∧bD w rb pb t (iW cs po vs) w'
def lrSm (x:Lr):Prop:=(0≤x.every∧x.every<65536)∧(0≤x.rest∧x.rest<65536)
def trSm (x:Tr):Prop:=(0≤x.at_∧x.at_<1000000000)∧(-32768≤x.off∧x.off≤32767)
def Yl (x:Yr):Prop:=(0≤x.month∧x.month<256)∧(0≤x.di∧x.di<256)∧(0≤x.dm∧x.dm<256)∧(0≤x.minute∧x.minute<65536)∧(-32768≤x.off∧x.off≤32767)
theorem Dq (x:Int) (h0:0≤x) (h1:x<65536) (R:List UInt8):AA (le x 2++R) false 2=x:=by
 rw [O5];omega
def TSetR (M:Nat) (w:World) (rb pb po:Nat) (t:TypeId) (cs:Array Value) (v:Value) (R:List UInt8) (e:Ending) (w':World):Prop:=
 e= .returned (.tuple #[])∧fQ M w' rb R∧bD w rb pb t (cs.setIfInBounds po v) w'
end Go.Proofs.YtdibbemgpikgjaaGreat
namespace Go.Proofs.YtdibbemgpikgjaaGreat
open Go Go.RowKit
attribute [local go_sem] dD dH dE dI ed eu dB dF dC dG
def LG (M:Nat) (w:World) (rb:Nat) (R:List UInt8) (e:Ending) (w':World):Prop:=e= .returned (.tuple #[])∧fQ M w' rb R∧iT rb w w'
theorem wI {rb:Nat} {w w':World} (h:iT rb w.drew w'):iT rb w w':=⟨h.os,h.tape,h.output,h.size,h.block⟩
theorem AL (M:Nat) (w:World) (rb lb lo:Nat) (A:Option Addr) (c:Nat) (R:List UInt8) (hp:w.cell? ⟨lb,lo,none⟩=some (.slice A 0 c)) (hr:fQ M w rb (le 0 1++R)):
  Calls Tryz.prog 87 #[.iface 109 (pt rb), .pointer (some ⟨lb,lo,none⟩),I 1, .func (.func 88) #[] #[]] w (LG M w rb R):=by
 have HC:=ae (kH M w.drew rb 1 0 0 0 R hr.drew (by omega) (iG 0 (by omega) (by omega) R));clear hr;go_enter Tryz.func87,Tryz.ntmps87;go_wp2_with fail;go_still_tail 9,(by kernel_rfl);go_wp2_with fail;refine HC.out.mono ?_;rintro e w1 ⟨rfl,hr1,hk1⟩;have HR1:=ae hr1;have gK:=ae (wI hk1);clear hr1 hk1 HC hp;go_wp2_with fail
 go_loop [22] (fun i=>i= .int .i64 0) (fun _=>0)
 case atStart=>rfl
 case round=>
  subst hrel;go_wp2_with fail
  go_end0
  exact ⟨rfl,HR1.out,gK.out⟩
theorem qX (M:Nat) (w:World) (rb lb lo:Nat) (A:Option Addr) (c:Nat) (R:List UInt8) (hp:w.cell? ⟨lb,lo,none⟩=some (.slice A 0 c)) (hr:fQ M w rb (le 0 2++R)):
  Calls Tryz.prog 62 #[.iface 109 (pt rb), .pointer (some ⟨lb,lo,none⟩),I 2, .func (.func 63) #[] #[]] w (LG M w rb R):=by
 have HC:=ae (kH M w.drew rb 2 0 0 0 R hr.drew (by omega) ((O5 0 R).trans (by decide)));clear hr;go_enter Tryz.func62,Tryz.ntmps62;go_wp2_with fail;go_still_tail 9,(by kernel_rfl);go_wp2_with fail;refine HC.out.mono ?_;rintro e w1 ⟨rfl,hr1,hk1⟩;have HR1:=ae hr1;have gK:=ae (wI hk1);clear hr1 hk1 HC hp;go_wp2_with fail
 go_loop [22] (fun i=>i= .int .i64 0) (fun _=>0)
 case atStart=>rfl
 case round=>
  subst hrel;go_wp2_with fail
  go_end0
  exact ⟨rfl,HR1.out,gK.out⟩
theorem AO (M:Nat) (w:World) (rb lb lo:Nat) (A:Option Addr) (c:Nat) (R:List UInt8) (hp:w.cell? ⟨lb,lo,none⟩=some (.slice A 0 c)) (hr:fQ M w rb (le 0 1++R)):
  Calls Tryz.prog 64 #[.iface 109 (pt rb), .pointer (some ⟨lb,lo,none⟩),I 1, .func (.func 65) #[] #[]] w (LG M w rb R):=by
 have HC:=ae (kH M w.drew rb 1 0 0 0 R hr.drew (by omega) (iG 0 (by omega) (by omega) R));clear hr;go_enter Tryz.func64,Tryz.ntmps64;go_wp2_with fail;go_still_tail 9,(by kernel_rfl);go_wp2_with fail;refine HC.out.mono ?_;rintro e w1 ⟨rfl,hr1,hk1⟩;have HR1:=ae hr1;have gK:=ae (wI hk1);clear hr1 hk1 HC hp;go_wp2_with fail
 go_loop [22] (fun i=>i= .int .i64 0) (fun _=>0)
 case atStart=>rfl
 case round=>
  subst hrel;go_wp2_with fail
  go_end0
  exact ⟨rfl,HR1.out,gK.out⟩
def Y5 (M:Nat) (w:World) (rb cb co:Nat) (t:TypeId) (cs:Array Value) (c:Cal) (R:List UInt8) (e:Ending) (w':World):Prop:=
 e= .returned (.tuple #[])∧∃A a,fQ M w' rb R∧bD w rb cb t (((cs.setIfInBounds co (I c.aI)).setIfInBounds (co+1) (.slice A c.aj.length a)).setIfInBounds (co+2) (I (-1))) w'∧w'.ownsRow w.heap.size 3 1 (.slice A c.aj.length a) c.aj.length (c.aj.map I)
theorem sO (M:Nat) (w:World) (rb cb co:Nat) (t:TypeId) (cs:Array Value) (c:Cal) (R:List UInt8) (hc:AY c) (hr:fQ M w rb (jw c++R)) (hp:w.heap[cb]? =some (.cells cs t (0,0))) (h0:co<cs.size) (h1:cs[co+1]? =some (.slice none 0 0)) (h2:cs[co+2]? =some (I 0)) (h3:cs[co+3]? =some (.slice none 0 0))
  (hM:M≤cb) (hne:cb≠rb):
  Calls Tryz.prog 61 #[.iface 109 (pt rb), .pointer (some ⟨cb,co,none⟩)] w (Y5 M w rb cb co t cs c R):=by
 have hcl:cb<w.heap.size:=(bY.1 hp).1;have hlo:=hr.lo;have hrw:=hr.lt;have e1:co+1<cs.size:=(bY.1 h1).1;have e2:co+2<cs.size:=(bY.1 h2).1;have e3:co+3<cs.size:=(bY.1 h3).1;obtain ⟨n,hn⟩:∃n,c.aj.length=n:=⟨_,rfl⟩;have hn2:n≤16:=by have:=hc.mo.2;omega
 have hr':fQ M w.drew rb (le c.aI 4++((le n 1++dJ c.aj)++(le 0 1++(le 0 1++R)))):=by
  have h:=hr.drew;unfold jw at h;rw [hn] at h;simpa only [List.append_assoc] using h
 have jO:=ae (iY M w.drew rb cb co 4 t cs c.aI c.aI _ hr' (by omega) (Zr _ hc.ep.1 (by have:=hc.ep.2;omega) _) hp h0 hM hne);have HN:=ae hn;have HM:Hid (∀z∈c.aj,0≤z∧z<256):=ae fun z hz=>by have:=hc.all z hz;omega
 have HX:Hid (cs[co+1]? =some (.slice none 0 0)∧cs[co+2]? =some (I 0)∧cs[co+3]? =some (.slice none 0 0)):=ae ⟨h1,h2,h3⟩;clear hc hr hr' hp hn h1 h2 h3;unfold Y5;go_enter Tryz.func61,Tryz.ntmps61;go_wp2_with fail;go_still_tail 7,(by kernel_rfl);go_wp2_with fail;refine jO.out.mono ?_;rintro e w1 ⟨rfl,hr1,hp1⟩;have lU:=ae hp1.bz;have HL:=ae (QE M w1 rb cb (co+1) n t (cs.setIfInBounds co (I c.aI)) c.aj _ HN.out (by omega) HM.out hr1 hp1.tgt (by rw [Array.getElem?_setIfInBounds_ne (by omega)];exact HX.out.1) hM hne);clear hr1 hp1 jO;go_wp2_with fail;refine HL.out.mono ?_;rintro e w2 ⟨rfl,A,a,hr2,hp2,ho2⟩;obtain ⟨C2,hC2⟩:∃C,(cs.setIfInBounds co (I c.aI)).setIfInBounds (co+1) (.slice A n a)=C:=⟨_,rfl⟩;rw [hC2] at hp2;have g2:C2[co+2]? =some (I 0):=by rw [←hC2,Array.getElem?_setIfInBounds_ne (by omega),Array.getElem?_setIfInBounds_ne (by omega)];exact HX.out.2.1
 have g3:C2[co+3]? =some (.slice none 0 0):=by rw [←hC2,Array.getElem?_setIfInBounds_ne (by omega),Array.getElem?_setIfInBounds_ne (by omega)];exact HX.out.2.2
 have HP2:=ae (lU.out.trans hp2);have mJ:=ae (aX ho2 lU.out.size);have jr:=ae hC2;have d2:w2.cell? ⟨cb,co+2,none⟩=some (I 0):=(hp2.cell (co+2)).trans g2;have hs2:=hp2.size;have hs1:=lU.out.size;have hb2:=ag w2 (.cells #[I 1] 3);have HB2:=ae hb2;have hrl:=hr2.lt;have HC2:=ae (iY M (w2.alloc (.cells #[I 1] 3)) rb w2.heap.size 0 1 3 #[I 1] 0 0 _ (hr2.below hb2 hrl) (by omega) (iG 0 (by omega) (by omega) _) (heap_alloc_last w2 _) (by decide) (by omega) (by omega));clear hr2 hp2 ho2 hC2 HL hb2;go_wp2_with fail;refine HC2.out.mono ?_;rintro e w3 ⟨rfl,hr3,hp3⟩;have d3:w3.cell? ⟨w2.heap.size,0,none⟩=some (I 0):=hp3.cell 0;have hs3:=hp3.size;rw [World.size_alloc] at hs3;have hk3:iT rb w2 w3:=⟨hp3.os,hp3.tape,hp3.output,by omega,fun b hb hbr=>(hp3.block b (by simp;omega) (by omega) hbr).trans (HB2.out.block b hb)⟩;have xy:bD w rb cb t C2 w3:=HP2.out.jZ hk3 (by omega) hne;have e3':w3.cell? ⟨cb,co+2,none⟩=some (I 0):=(xy.cell (co+2)).trans g2;have f3:=xy.gG (co+2);have pV:=ae (xy.put (co+2) (I (-1)));have HR4:=ae (hr3.put (o:=co+2) hM hne (I (-1)));have ho3:w3.ownsRow w.heap.size 3 1 (.slice A n a) n (c.aj.map I):=jI mJ.out hk3 hrw;have uZ:=ae (dn (u:=I (-1)) (p:=⟨cb,co+2,none⟩) ho3 (eG ho3 cb hcl));clear hr3 hp3 hk3 xy HC2 ho3 d2;go_wp2_with fail;obtain ⟨w4,hw4⟩:∃W,w3.setCell ⟨cb,co+2,none⟩ (I (-1))=W:=⟨_,rfl⟩;rw [hw4] at pV HR4 uZ ⊢;refine (AL M w4 rb cb (co+3) none 0 R ((pV.out.cell (co+3)).trans (by rw [Array.getElem?_setIfInBounds_ne (by omega)];exact g3)) HR4.out).mono ?_;rintro e w5 ⟨rfl,tq,hk5⟩;have qJ:=ae tq;have EU:=ae (pV.out.jZ hk5 (dS hcl pV.out.size) hne);have sH:=ae (jI uZ.out hk5 hrw);clear tq hk5 hw4 d3 e3' f3 g2 g3;go_wp2_with fail
 go_end0
 refine ⟨rfl,A,a,qJ.out,?_,?_⟩
 ·have h:=EU.out;rw [←jr.out] at h;rw [HN.out];exact h
 ·rw [HN.out];exact sH.out
def um (cs:Array Value) (eo:Nat) (e:Ze) (A:Option Addr) (a:Nat):Array Value:=
 (((((cs.setIfInBounds eo (.string e.name)).setIfInBounds (eo+1) (I e.z.cal.aI)).setIfInBounds (eo+1+1) (.slice A e.z.cal.aj.length a)).setIfInBounds (eo+1+2) (I (-1))).setIfInBounds (eo+1+4) (I e.z.start)).setIfInBounds (eo+1+6) (I e.z.hor)
def Y6 (M:Nat) (w:World) (rb eb eo:Nat) (t:TypeId) (cs:Array Value) (x:Ze) (R:List UInt8) (e:Ending) (w':World):Prop:=
 e= .returned (.tuple #[])∧∃A a,fQ M w' rb R∧bD w rb eb t (um cs eo x A a) w'∧w'.ownsRow w.heap.size 3 1 (.slice A x.z.cal.aj.length a) x.z.cal.aj.length (x.z.cal.aj.map I)
theorem Ht (M:Nat) (w:World) (rb eb eo:Nat) (t:TypeId) (cs:Array Value) (x:Ze) (R:List UInt8) (hf:ig x.z) (hs:x.name.size≤32) (hr:fQ M w rb (oJ x++R)) (hp:w.heap[eb]? =some (.cells cs t (0,0))) (hz:∀j,j<9→cs[eo+j]? =fZ[j]?) (hM:M≤eb) (hne:eb≠rb):
  Calls Tryz.prog 43 #[.iface 109 (pt rb), .pointer (some ⟨eb,eo,none⟩)] w (Y6 M w rb eb eo t cs x R):=by
 have hel:eb<w.heap.size:=(bY.1 hp).1;have hrw:=hr.lt;have hz0:cs[eo]? =some (.string ⟨#[]⟩):=hz 0 (by decide);have hz8:eo+8<cs.size:=(bY.1 ((hz 8 (by decide)).trans (rfl:fZ[8]? =some (.slice none 0 0)))).1;have hr':fQ M w.drew rb ((le x.name.size 1++x.name.data.toList)++(jw x.z.cal++(le x.z.start 2++(le 0 2++(le x.z.hor 8++(le 0 1++R)))))):=by
  have h:=hr.drew;unfold oJ at h;simpa only [List.append_assoc] using h
 have jO:=ae (F6 M w.drew rb eb eo t cs ⟨#[]⟩ x.name _ hr' (by omega) hp hz0 hM hne);have HZ:Hid (∀j,1≤j→j<9→cs[eo+j]? =fZ[j]?):=ae fun j _ hj=>hz j hj;have HF:=ae hf;have Uj:=hf.start;have hho0:=hf.hor;clear hf hs hr hr' hp hz hz0;unfold Y6;go_enter Tryz.func43,Tryz.ntmps43;go_wp2_with fail;go_still_tail 7,(by kernel_rfl);go_wp2_with fail;refine jO.out.mono ?_;rintro e w1 ⟨rfl,hr1,hp1⟩;obtain ⟨C1,IC⟩:∃C,cs.setIfInBounds eo (.string x.name)=C:=⟨_,rfl⟩;rw [IC] at hp1;have k1:∀j,1≤j→j<9→C1[eo+j]? =fZ[j]? :=fun j h1 h2=>by rw [←IC,Array.getElem?_setIfInBounds_ne (by omega)];exact HZ.out j h1 h2
 have l1:C1.size=cs.size:=by rw [←IC,Array.size_setIfInBounds]
 have lU:=ae hp1.bz;have jS:=ae IC;have HC2:=ae (sO M w1 rb eb (eo+1) t C1 x.z.cal _ HF.out.cal hr1 hp1.tgt (by omega) (k1 2 (by decide) (by decide)) (k1 3 (by decide) (by decide)) (k1 4 (by decide) (by decide)) hM hne);have gK:=ae k1;clear hr1 hp1 jO IC k1;go_wp2_with fail;refine HC2.out.mono ?_;rintro e w2 ⟨rfl,A,a,hr2,hp2,ho2⟩;obtain ⟨C2,hC2⟩:∃C,((C1.setIfInBounds (eo+1) (I x.z.cal.aI)).setIfInBounds (eo+1+1) (.slice A x.z.cal.aj.length a)).setIfInBounds (eo+1+2) (I (-1))=C:=⟨_,rfl⟩;rw [hC2] at hp2;have k2:∀j,4≤j→j<9→C2[eo+j]? =fZ[j]? :=fun j h1 h2=>by rw [←hC2,Array.getElem?_setIfInBounds_ne (by omega),Array.getElem?_setIfInBounds_ne (by omega),Array.getElem?_setIfInBounds_ne (by omega)];exact gK.out j (by omega) h2
 have l2:C2.size=cs.size:=by rw [←hC2,Array.size_setIfInBounds,Array.size_setIfInBounds,Array.size_setIfInBounds];exact l1
 have HP2:=ae (lU.out.trans hp2);have mJ:=ae (aX ho2 lU.out.size);have jr:=ae hC2;have qy:=ae (zS M w2.drew rb eb (eo+1+4) t C2 x.z.start _ hr2.drew (by omega) (by omega) hp2.tgt (by omega) hM hne);have ja:=ae k2;clear hr2 hp2 ho2 HC2 hC2 k2;go_wp2_with fail;go_still_tail 7,(by kernel_rfl);go_wp2_with fail;refine qy.out.mono ?_;rintro e w3 ⟨rfl,hr3,hp3⟩;obtain ⟨C3,IE⟩:∃C,C2.setIfInBounds (eo+1+4) (I x.z.start)=C:=⟨_,rfl⟩;rw [IE] at hp3;have k3:∀j,6≤j→j<9→C3[eo+j]? =fZ[j]? :=fun j h1 h2=>by rw [←IE,Array.getElem?_setIfInBounds_ne (by omega)];exact ja.out j (by omega) h2
 have l3:C3.size=cs.size:=by rw [←IE,Array.size_setIfInBounds];exact l2
 have hk3:∀b,w.heap.size≤b→b<w2.heap.size→w3.heap[b]? =w2.heap[b]? :=fun b h1 h2=>hp3.block b h2 (by omega) (by omega);have mV:=ae (bf mJ.out hk3);have dV:=ae (HP2.out.trans hp3.bz);have xg:=ae IE;have qH:=ae (qX M w3 rb eb (eo+1+5) none 0 _ ((hp3.cell _).trans (k3 6 (by decide) (by decide))) hr3);have kX:=ae k3;clear hr3 hp3 qy IE k3 hk3;go_wp2_with fail;refine qH.out.mono ?_;rintro e w4 ⟨rfl,hr4,hk4⟩;have pV:=ae (dV.out.jZ hk4 (dS hel dV.out.size) hne);have uZ:=ae (jI mV.out hk4 hrw);have yt:=ae (iY M w4.drew rb eb (eo+1+6) 8 t C3 x.z.hor x.z.hor _ hr4.drew (by omega) (O6 _ (by unfold fits;omega) _) pV.out.tgt (by omega) hM hne);clear hr4 hk4 qH;go_wp2_with fail;go_still_tail 7,(by kernel_rfl);go_wp2_with fail;refine yt.out.mono ?_;rintro e w5 ⟨rfl,tq,xA⟩;have hk5:∀b,w.heap.size≤b→b<w4.heap.size→w5.heap[b]? =w4.heap[b]? :=fun b h1 h2=>xA.block b h2 (by omega) (by omega);have sH:=ae (bf uZ.out hk5);have EU:=ae (pV.out.trans xA.bz);have rq:=ae (AO M w5 rb eb (eo+1+7) none 0 R ((xA.cell _).trans (by rw [Array.getElem?_setIfInBounds_ne (by omega)];exact kX.out 8 (by decide) (by decide))) tq);clear tq xA yt hk5;go_wp2_with fail;refine rq.out.mono ?_;rintro e w6 ⟨rfl,Ar,hk6⟩;have yH:=ae Ar;have RQ:=ae (EU.out.jZ hk6 (dS hel EU.out.size) hne);have yG:=ae (jI sH.out hk6 hrw);clear Ar hk6 rq;go_wp2_with fail
 go_end0
 refine ⟨rfl,A,a,yH.out,?_,yG.out⟩;have h:=RQ.out;rw [←xg.out,←jr.out,←jS.out] at h;exact h
end Go.Proofs.YtdibbemgpikgjaaGreat
