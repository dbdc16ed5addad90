/- The texts DgM, TrT, Oe, Kn, Qk, Qh, DgU, in this order. -/
import Derived.Test.YtdibbemgpikgjaaGreatDoorV00
import Derived.Test.YtdibbemgpikgjaaGreatDoorProg
import Derived.Defers
import Derived.Laws.AppendOwnNone
import Derived.Laws.BitsAllLaws
import Derived.Laws.BytesArg
import Derived.Laws.Cover3
import Derived.Lib.AppendStr
import Derived.Lib.ByteType
import Derived.MapKept
import Derived.Recover
import Derived.Test.YtdibbemgpikgjaaGreatDoorV01
import Derived.Test.YtdibbemgpikgjaaGreatDoorV05
import Derived.Test.YtdibbemgpikgjaaGreatDoorV06
import Derived.Test.YtdibbemgpikgjaaGreatDoorV10
import Derived.Test.YtdibbemgpikgjaaGreatDoorV14
import Derived.Test.YtdibbemgpikgjaaGreatDoorV24
import Derived.Test.YtdibbemgpikgjaaGreatDoorV26
import Derived.Test.YtdibbemgpikgjaaGreatDoorV29
import Derived.Test.YtdibbemgpikgjaaGreatDoorV30
namespace Go.Proofs.YtdibbemgpikgjaaGreatDoor
open Go Go.RowKit
def xb (m:Int) (x:UInt8):UInt8:=byteOf (bits BinOp.xor IntKind.u8 x.toNat m)
def jK (m:Int) (bs:List UInt8):Nat→List UInt8
 |0=>bs
 |k+1=>(jK m bs k).set k (xb m (bs[k]?.getD 0))
theorem nD (m:Int) (bs:List UInt8) (k:Nat):(jK m bs k).length=bs.length:=by
 induction k with
 |zero=>rfl
 |succ k ih=>simp [jK,ih]
theorem Dz (m:Int) (bs:List UInt8) (k:Nat):∀j,k≤j→(jK m bs k)[j]? =bs[j]? :=by
 induction k with
 |zero=>exact fun _ _=>rfl
 |succ k ih=>
  intro j hj
  show ((jK m bs k).set k _)[j]? =_
  rw [List.getElem?_set_ne (by omega),ih j (by omega)]
def fJ (key:List UInt8):List UInt8:=key++List.replicate 32 0
def tY (KR:List Int) (key bs:List UInt8):List UInt8:=lI KR (jK 92 (fJ key) 64++lI KR (jK 54 (fJ key) 64++bs))
theorem mg (KR:List Int) (key bs:List UInt8):(tY KR key bs).length=32:=jf _ _
theorem u8_xor (x:UInt8) (m:Int):0≤bits BinOp.xor IntKind.u8 x.toNat m∧bits BinOp.xor IntKind.u8 x.toNat m<256:=by
 unfold bits
 simp only [IntKind.wrap,IntKind.bits,IntKind.signed]
 constructor
 ·exact Int.emod_nonneg _ (by decide)
 ·exact Int.emod_lt_of_pos _ (by decide)
theorem LW (m:Int) (x:UInt8):Extern.Stop.cell (xb m x)= .int .u8 (bits BinOp.xor IntKind.u8 x.toNat m):=by
 obtain ⟨h1,h2⟩:=u8_xor x m
 unfold xb
 rw [iF]
 congr 1
 omega
theorem E5:(Tryz.prog.info? 82).map (fun i=>(i.zero,i.size))=some (some (.agg (cellsB (List.replicate 64 0))),(cellsB (List.replicate 64 0)).size):=by kernel_rfl
structure yU (w:World) (key xs ys:List UInt8) (W:World):Prop where
 kv:AV w.heap.size 23 (cellsB key) W
 res:AV (w.heap.size+1) 23 (cellsB z32) W
 a:AV (w.heap.size+2) 82 (cellsB xs) W
 b:AV (w.heap.size+3) 82 (cellsB ys) W
 lo:Below w.heap.size w W
theorem yU.below {w W W':World} {key xs ys:List UInt8} (h:yU w key xs ys W) (hb:Below W.heap.size W W'):yU w key xs ys W':=⟨h.kv.below hb,h.res.below hb,h.a.below hb,h.b.below hb,ah h.lo hb⟩
theorem yU.lt {w W:World} {key xs ys:List UInt8} (h:yU w key xs ys W):w.heap.size+3<W.heap.size:=h.b.lt
theorem AV.jJ {b c:Nat} {t:TypeId} {cs ds:Array Value} {W:World} (h:AV b t cs W) (hn:b≠c):AV b t cs (W.setRow c ds):=⟨(setRow_other _ _ b _ hn).trans h.var⟩
theorem AV.LG {b:Nat} {t:TypeId} {cs ds:Array Value} {W:World} (h:AV b t cs W):AV b t ds (W.setRow b ds):=⟨setRow_heap _ _ _ _ _ _ h.var⟩
theorem yU.setA {w W:World} {key xs ys:List UInt8} (h:yU w key xs ys W) (zs:List UInt8):yU w key zs ys (W.setRow (w.heap.size+2) (cellsB zs)):=
 ⟨h.kv.jJ (by omega),h.res.jJ (by omega),h.a.LG,h.b.jJ (by omega),aF h.lo (by omega) _⟩
theorem yU.setB {w W:World} {key xs ys:List UInt8} (h:yU w key xs ys W) (zs:List UInt8):yU w key xs zs (W.setRow (w.heap.size+3) (cellsB zs)):=
 ⟨h.kv.jJ (by omega),h.res.jJ (by omega),h.a.jJ (by omega),h.b.LG,aF h.lo (by omega) _⟩
theorem yU.drew {w W:World} {key xs ys:List UInt8} (h:yU w key xs ys W):yU w key xs ys W.drew:=⟨h.kv.drew,h.res.drew,h.a.drew,h.b.drew,h.lo.drew⟩
theorem yU.putA {w W:World} {key xs ys:List UInt8} (h:yU w key xs ys W) (o:Nat) (x:UInt8):yU w key (xs.set o x) ys (W.setCell ⟨w.heap.size+2,o,none⟩ (Extern.Stop.cell x)):=
 ⟨h.kv.far (by omega) _ _,h.res.far (by omega) _ _,by have:=h.a.put o (Extern.Stop.cell x);rwa [qo] at this,h.b.far (by omega) _ _,h.lo.setCell (p:=⟨w.heap.size+2,o,none⟩) (by show w.heap.size≤w.heap.size+2;omega) _⟩
theorem yU.GN {w W:World} {key xs ys:List UInt8} (h:yU w key xs ys W) (o:Nat) (x:UInt8):yU w key xs (ys.set o x) (W.setCell ⟨w.heap.size+3,o,none⟩ (Extern.Stop.cell x)):=
 ⟨h.kv.far (by omega) _ _,h.res.far (by omega) _ _,h.a.far (by omega) _ _,by have:=h.b.put o (Extern.Stop.cell x);rwa [qo] at this,h.lo.setCell (p:=⟨w.heap.size+3,o,none⟩) (by show w.heap.size≤w.heap.size+3;omega) _⟩
theorem Nl (w:World) (key:List UInt8):yU w key (List.replicate 64 0) (List.replicate 64 0) ((((w.alloc (.cells (cellsB key) 23)).alloc (.cells (cellsB z32) 23)).alloc (.cells (cellsB (List.replicate 64 0)) 82)).alloc (.cells (cellsB (List.replicate 64 0)) 82)):=by
 obtain ⟨W1,h1⟩:∃W,w.alloc (.cells (cellsB key) 23)=W:=⟨_,rfl⟩
 have a1:=AV.new w (cellsB key) 23
 have b1:=ag w (.cells (cellsB key) 23)
 have s1:W1.heap.size=w.heap.size+1:=by rw [←h1];simp
 rw [h1] at a1 b1 ⊢
 obtain ⟨W2,h2⟩:∃W,W1.alloc (.cells (cellsB z32) 23)=W:=⟨_,rfl⟩
 have a2:=AV.new W1 (cellsB z32) 23
 have b2:=ag W1 (.cells (cellsB z32) 23)
 have s2:W2.heap.size=w.heap.size+2:=by rw [←h2];simp [s1]
 rw [h2] at a2 b2 ⊢
 rw [s1] at a2
 obtain ⟨W3,h3⟩:∃W,W2.alloc (.cells (cellsB (List.replicate 64 0)) 82)=W:=⟨_,rfl⟩
 have a3:=AV.new W2 (cellsB (List.replicate 64 0)) 82
 have b3:=ag W2 (.cells (cellsB (List.replicate 64 0)) 82)
 have s3:W3.heap.size=w.heap.size+3:=by rw [←h3];simp [s2]
 rw [h3] at a3 b3 ⊢
 rw [s2] at a3
 have a4:=AV.new W3 (cellsB (List.replicate 64 0)) 82
 have b4:=ag W3 (.cells (cellsB (List.replicate 64 0)) 82)
 rw [s3] at a4
 exact ⟨((a1.below b2).below b3).below b4,(a2.below b3).below b4,a3.below b4,a4,ah (ah (ah b1 b2) b3) b4⟩
theorem JO (key:List UInt8) (h:key.length=32):cellsB (fJ key)=(splice (cellsB (List.replicate 64 0)).toList 0 (aj key)).toArray:=by
 unfold splice cellsB fJ
 simp [aj,h]
set_option maxRecDepth 10000 in
set_option maxHeartbeats 2000000 in
theorem Ac (KR:List Int) (hK:KR.length=64) (w:World) (hG:fA w 0 (aA KR)) (key bs:List UInt8) (hk:key.length=32) (hb0:0<bs.length) (hlen:bs.length≤900000000) (ab off c:Nat) (hla:ab<w.heap.size) (hby:∀j,j<bs.length→w.cell? ⟨ab,off+j,none⟩=some (Extern.Stop.cell (bs[j]?.getD 0))):
  Calls Tryz.prog 10 #[.agg (cellsB key), .slice (some ⟨ab,off,none⟩) bs.length c] w (Gives (.agg (cellsB (tY KR key bs))) w):=by
 have qJ:=ae (Nl w key)
 have HK:=ae hK
 have HG:=ae hG
 have Bi:=ae hk
 have BC:=ae hby
 obtain ⟨N,hN⟩:∃N,bs.length=N:=⟨_,rfl⟩
 rw [hN] at hb0 hlen ⊢
 have HN:=ae hN
 clear hK hG hk hby hN
 go_enter Tryz.func10,Tryz.ntmps10
 go_wp2_with (first
  |(refine aJ rfl _ rfl (cellsB z32) gB ?_)
  |(refine aJ rfl _ rfl (cellsB (List.replicate 64 0)) E5 ?_))
 simp only [World.size_alloc,Nat.add_assoc,Nat.reduceAdd]
 generalize (((w.alloc (.cells (cellsB key) 23)).alloc (.cells (cellsB z32) 23)).alloc (.cells (cellsB (List.replicate 64 0)) 82)).alloc (.cells (cellsB (List.replicate 64 0)) 82)=W0 at qJ ⊢
 have hl0:=qJ.out.lt
 have nH:Hid (∀j u,(aj key)[j]? =some u→W0.drew.cell? ((⟨w.heap.size,0,none⟩:Addr).add j)=some u):=ae fun j u hu=>by
  rw [addr_add]
  exact (qJ.out.kv.cell j).trans (by simpa [cellsB] using hu)
 have HC2:Hid ((aj key).length=32):=ae (by simp [aj,Bi.out])
 have rD:Hid ((cellsB (List.replicate 64 0)).size=64):=ae (by rw [bD];rfl)
 have qX:=ae (JO key Bi.out)
 go_region_law (refine uz (by rfl) _ _ _ _ (by rfl) 5 Tryz.underlying32 (by kernel_rfl) (w.heap.size+2) 0 64 64 ⟨w.heap.size,0,none⟩ 32 32 (by rfl) (by rfl) (cellsB (List.replicate 64 0)) 82 qJ.out.a.drew.var (aj key) (by rw [HC2.out];rfl) nH.out (by rw [HC2.out,rD.out];decide) (GX key) (cellsB (fJ key)) qX.out ?_)
 have iR:=ae (qJ.out.drew.setA (fJ key))
 generalize W0.drew.setRow (w.heap.size+2) (cellsB (fJ key))=W1 at iR ⊢
 have hl1:=iR.out.lt
 have OO:Hid ((fJ key).length=64):=ae (by simp [fJ,Bi.out])
 have Z9:Hid (∀zs:List UInt8,zs.length=64→(Tryz.prog.info? 82).map (·.size)=some (cellsB zs).size):=ae fun zs hz=>by rw [bD,hz];kernel_rfl
 have OT:Hid (fA W1 (w.heap.size+2) (cellsB (fJ key))):=ae ⟨by omega,iR.out.a.cell⟩
 have qK:Hid ((cellsB (List.replicate 64 0)).size=(cellsB (fJ key)).size):=ae (by rw [bD,bD,OO.out];rfl)
 have HS2:=ae (iR.out.setB (fJ key))
 clear nH HC2 rD qX hl0
 go_wp2_with (first
  |(with_reducible refine dG 82 ?_;refine aX rfl _ _ rfl (w.heap.size+2) rfl (cellsB (fJ key)) OT.out _ Tryz.underlying82 rfl (Z9.out _ OO.out) ?_)
  |(with_reducible refine bH 82 ?_;refine wpList_store_row rfl _ _ _ rfl (w.heap.size+3) (cellsB (fJ key)) rfl rfl 82 (cellsB (List.replicate 64 0)) iR.out.b.var (Z9.out _ OO.out) qK.out (gJ _) ?_))
 go_loopw [13] (fun i wr=>∃k:Nat,k≤64∧i= .int .i64 (k:Int)∧yU w key (jK 54 (fJ key) k) (jK 92 (fJ key) k) wr) (fun i _=>64 - (intOf i).toNat)
 case atStart=>exact ⟨0,Nat.zero_le _,rfl,HS2.out⟩
 case round=>
  obtain ⟨k,hk,rfl,hs⟩:=hrel
  have HS:=ae hs
  have hl:=hs.lt
  clear hs iR HS2 hl1 OT qK
  by_cases hlt:k<64
  ·have i0:(0:Int)≤(k:Int):=by omega
   have i1:(k:Int)<64:=by omega
   obtain ⟨x,hx⟩:∃x,(fJ key)[k]?.getD 0=x:=⟨_,rfl⟩
   have hxa:(jK 54 (fJ key) k)[k]?.getD 0=x:=by rw [Dz _ _ _ _ (Nat.le_refl _),hx]
   have hxb:(jK 92 (fJ key) k)[k]?.getD 0=x:=by rw [Dz _ _ _ _ (Nat.le_refl _),hx]
   have ca:wr.cell? ⟨w.heap.size+2,k,none⟩=some (Extern.Stop.cell x):=(HS.out.a.cell k).trans (by rw [jV _ _ (by rw [nD,OO.out];exact hlt),hxa])
   have cb:wr.cell? ⟨w.heap.size+3,k,none⟩=some (Extern.Stop.cell x):=(HS.out.b.cell k).trans (by rw [jV _ _ (by rw [nD,OO.out];exact hlt),hxb])
   have fa:=HS.out.a.dK k
   have fb:=HS.out.b.dK k
   have HN3:Hid (yU w key (jK 54 (fJ key) (k+1)) (jK 92 (fJ key) (k+1)) ((wr.setCell ⟨w.heap.size+2,k,none⟩ (Extern.Stop.cell (xb 54 x))).setCell ⟨w.heap.size+3,k,none⟩ (Extern.Stop.cell (xb 92 x)))):=ae (by
    have h:=(HS.out.putA k (xb 54 x)).GN k (xb 92 x)
    have e1:jK 54 (fJ key) (k+1)=(jK 54 (fJ key) k).set k (xb 54 x):=by show (jK 54 (fJ key) k).set k (xb 54 ((fJ key)[k]?.getD 0))=_;rw [hx]
    have e2:jK 92 (fJ key) (k+1)=(jK 92 (fJ key) k).set k (xb 92 x):=by show (jK 92 (fJ key) k).set k (xb 92 ((fJ key)[k]?.getD 0))=_;rw [hx]
    rw [e1,e2]
    exact h)
   rw [LW 54 x,LW 92 x] at HN3
   simp only [Extern.Stop.cell] at ca cb
   clear hx hxa hxb
   go_wp2_with fail
   go_roundw
   case rel=>exact ⟨k+1,by omega,by go_num,HN3.out⟩
   case measure=>simp [intOf];omega
  ·have hk64:k=64:=by omega
   have i1:¬(k:Int)<64:=by omega
   obtain ⟨A,hA⟩:∃A,jK 54 (fJ key) 64=A:=⟨_,rfl⟩
   obtain ⟨B,hB⟩:∃B,jK 92 (fJ key) 64=B:=⟨_,rfl⟩
   have hAl:A.length=64:=by rw [←hA,nD,OO.out]
   have hBl:B.length=64:=by rw [←hB,nD,OO.out]
   have hS:=HS.out
   rw [hk64,hA,hB] at hS
   have rM:=ae hS
   have HAB:Hid (tY KR key bs=lI KR (B++lI KR (A++bs))):=ae (by unfold tY;rw [hA,hB])
   have hlo:=hS.lo
   obtain ⟨W2,hW2⟩:∃W,wr.alloc (.cells #[.slice (some ⟨w.heap.size+2,0,none⟩) 64 64, .slice (some ⟨ab,off,none⟩) N c] 32)=W:=⟨_,rfl⟩
   have hb2:Below wr.heap.size wr W2:=by rw [←hW2];exact ag wr _
   have hr2:W2.heap[wr.heap.size]? =some (.cells #[.slice (some ⟨w.heap.size+2,0,none⟩) 64 64, .slice (some ⟨ab,off,none⟩) N c] 32 (0,0)):=by rw [←hW2];exact heap_alloc_last wr _
   have hsz2:W2.heap.size=wr.heap.size+1:=by rw [←hW2];simp
   have hlow2:Below w.heap.size w W2:=ah hlo hb2
   have hG2:fA W2 0 (aA KR):=⟨Nat.lt_of_lt_of_le HG.out.1 hlow2.size,fun i=>(hlow2.cell (p:=⟨0,i,none⟩) HG.out.1).trans (HG.out.2 i)⟩
   have HC:Hid (Calls Tryz.prog 31 #[.slice (some ⟨wr.heap.size,0,none⟩) 2 2] W2 fun e w'=>e= .returned (.agg (cellsB (lI KR (A++bs))))∧Below W2.heap.size W2 w'):=
    ae (Dh KR HK.out W2 hG2 A bs (A++bs) rfl (by omega) (by rw [HN.out];exact hb0) (by rw [List.length_append,hAl,HN.out];omega) wr.heap.size (w.heap.size+2) 0 64 ab off c
     ((cell_of_row W2 _ 0 _ _ _ hr2).trans (by rw [hAl];rfl)) ((cell_of_row W2 _ 1 _ _ _ hr2).trans (by rw [HN.out];rfl)) (by omega) (by omega) (by omega)
     (fun j hj=>(hb2.cell (p:=⟨w.heap.size+2,0+j,none⟩) (by show w.heap.size+2<wr.heap.size;omega)).trans ((hS.a.cell (0+j)).trans (by rw [Nat.zero_add,jV _ _ hj])))
     (fun j hj=>(hlow2.cell (p:=⟨ab,off+j,none⟩) hla).trans (BC.out j hj)))
   have HS2:=ae (hS.below hb2)
   have HW2:=ae hW2
   have Ih:=ae hAl
   have xy:=ae hBl
   have yw:=ae hsz2
   clear hb2 hr2 hsz2 hlow2 hG2 hS hlo hW2 hA hB hAl hBl hk64 hlt
   go_wp2_with fail
   rw [HW2.out]
   refine HC.out.mono ?_
   rintro e W3 ⟨rfl,hb3⟩
   have jy:=ae (HS2.out.below hb3)
   obtain ⟨D1,hD1⟩:∃D,lI KR (A++bs)=D:=⟨_,rfl⟩
   have hDl:D1.length=32:=by rw [←hD1];exact jf _ _
   rw [hD1]
   have HD1:=ae hD1
   have U0:=ae hDl
   have Wu:Hid (∀zs:List UInt8,zs.length=32→(Tryz.prog.info? 23).map (·.size)=some (cellsB zs).size):=ae fun zs hz=>by rw [bD,hz];kernel_rfl
   have aab:Hid (∀zs:List UInt8,zs.length=32→(cellsB z32).size=(cellsB zs).size):=ae fun zs hz=>by rw [bD,bD,hz];rfl
   have HA3:=ae (heap_alloc_last W3 (.cells (cellsB z32) 23))
   have Y3:=ae (ag W3 (.cells (cellsB z32) 23))
   have hl3:=jy.out.lt
   clear hb3 hD1 hDl HC HW2
   go_wp2_with (first
    |(refine aJ rfl _ rfl (cellsB z32) gB ?_)
    |(with_reducible refine bH 23 ?_;refine wpList_store_row rfl _ _ _ rfl W3.heap.size (cellsB D1) rfl rfl 23 (cellsB z32) HA3.out (Wu.out _ U0.out) (aab.out _ U0.out) (gJ _) ?_))
   have hS4:yU w key A B ((W3.alloc (.cells (cellsB z32) 23)).setRow W3.heap.size (cellsB D1)):=by
    have h:=jy.out.below Y3.out
    exact ⟨h.kv.jJ (by omega),h.res.jJ (by omega),h.a.jJ (by omega),h.b.jJ (by omega),aF h.lo (by omega) _⟩
   have hd4:AV W3.heap.size 23 (cellsB D1) ((W3.alloc (.cells (cellsB z32) 23)).setRow W3.heap.size (cellsB D1)):=⟨setRow_heap _ _ _ _ _ _ HA3.out⟩
   have hz4:((W3.alloc (.cells (cellsB z32) 23)).setRow W3.heap.size (cellsB D1)).heap.size=W3.heap.size+1:=by simp [World.setRow]
   generalize (W3.alloc (.cells (cellsB z32) 23)).setRow W3.heap.size (cellsB D1)=W4 at hS4 hd4 hz4 ⊢
   obtain ⟨W5,hW5⟩:∃W,(W4.alloc (.cells #[.slice (some ⟨w.heap.size+3,0,none⟩) 64 64, .slice (some ⟨W3.heap.size,0,none⟩) 32 32] 32)).drew=W:=⟨_,rfl⟩
   have hb5:Below W4.heap.size W4 W5:=by rw [←hW5];exact (ag W4 _).drew
   have tq:W5.heap[W4.heap.size]? =some (.cells #[.slice (some ⟨w.heap.size+3,0,none⟩) 64 64, .slice (some ⟨W3.heap.size,0,none⟩) 32 32] 32 (0,0)):=by rw [←hW5];exact heap_alloc_last W4 _
   have hsz5:W5.heap.size=W4.heap.size+1:=by rw [←hW5];simp
   have hS5:=hS4.below hb5
   have hd5:=hd4.below hb5
   have hG5:fA W5 0 (aA KR):=⟨Nat.lt_of_lt_of_le HG.out.1 hS5.lo.size,fun i=>(hS5.lo.cell (p:=⟨0,i,none⟩) HG.out.1).trans (HG.out.2 i)⟩
   have xA:Hid (Calls Tryz.prog 31 #[.slice (some ⟨W4.heap.size,0,none⟩) 2 2] W5 fun e w'=>e= .returned (.agg (cellsB (lI KR (B++D1))))∧Below W5.heap.size W5 w'):=
    ae (Dh KR HK.out W5 hG5 B D1 (B++D1) rfl (by rw [xy.out];decide) (by rw [U0.out];decide) (by rw [List.length_append,xy.out,U0.out];decide) W4.heap.size (w.heap.size+3) 0 64 W3.heap.size 0 32
     ((cell_of_row W5 _ 0 _ _ _ tq).trans (by rw [xy.out];rfl)) ((cell_of_row W5 _ 1 _ _ _ tq).trans (by rw [U0.out];rfl)) (by omega) (by omega) (by omega)
     (fun j hj=>(hS5.b.cell (0+j)).trans (by rw [Nat.zero_add,jV _ _ hj]))
     (fun j hj=>(hd5.cell (0+j)).trans (by rw [Nat.zero_add,jV _ _ hj])))
   have uh:=ae hS5
   have HW5:=ae hW5
   clear hb5 tq hsz5 hG5 hS5 hd5 hW5 hS4 hd4 HA3 Y3 hz4
   go_still_tail 2,(by kernel_rfl)
   go_wp2_with fail
   rw [HW5.out]
   refine xA.out.mono ?_
   rintro e W6 ⟨rfl,hb6⟩
   have IJ:=ae (uh.out.below hb6)
   have hE:lI KR (B++D1)=tY KR key bs:=by rw [HAB.out,HD1.out]
   rw [hE]
   have Sm:=ae (mg KR key bs)
   clear hb6 hE
   go_wp2_with (with_reducible refine bH 23 ?_;refine wpList_store_row rfl _ _ _ rfl (w.heap.size+1) (cellsB (tY KR key bs)) rfl rfl 23 (cellsB z32) IJ.out.res.var (Wu.out _ Sm.out) (aab.out _ Sm.out) (gJ _) ?_)
   refine bodyPost_ret (v:= .agg (cellsB (tY KR key bs))) (results_cell_row rfl _ _ (w.heap.size+1) _ (cellsB (tY KR key bs)) (0,0) _ rfl (setRow_heap _ _ _ _ _ _ IJ.out.res.var) Tryz.underlying23 rfl (Wu.out _ Sm.out)) rfl ?_
   exact ⟨rfl,aF IJ.out.lo (Nat.le_succ _) _⟩
end Go.Proofs.YtdibbemgpikgjaaGreatDoor
namespace Go.Proofs.YtdibbemgpikgjaaGreatDoor
open Go Go.RowKit
def GN (cs:Array Value) (o:Nat):List Value→Array Value
 | []=>cs
 |v::r=>GN (cs.setIfInBounds o v) (o+1) r
theorem Dt:∀(vs pre old:List Value),old.length=vs.length→GN (pre++old).toArray pre.length vs=(pre++vs).toArray
 | [],pre,old,h=>by
  have:old= []:=List.eq_nil_of_length_eq_zero h
  simp [GN,this]
 |v::r,pre,old,h=>by
  obtain ⟨x,old',rfl⟩:∃x old',old=x::old':=by
   cases old with
   |nil=>simp at h
   |cons x o=>exact ⟨x,o,rfl⟩
  have h2:=Dt r (pre++ [v]) old' (by simpa using h)
  have e:(pre++x::old').toArray.setIfInBounds pre.length v=((pre++ [v])++old').toArray:=by simp
  unfold GN
  rw [e]
  simpa using h2
theorem uw:∀(vs:List Value) (w:World) (b o:Nat) (cs:Array Value) (t:TypeId),w.heap[b]? =some (.cells cs t (0,0))→(w.setCells b o vs).heap[b]? =some (.cells (GN cs o vs) t (0,0))
 | [],_,_,_,_,_,h=>h
 |v::r,w,b,o,_,t,h=>uw r _ b (o+1) _ t (heap_setCell_same w b o _ _ v h)
theorem qO:∀(vs:List Value) (w:World) (b o k:Nat),k≠b→(w.setCells b o vs).heap[k]? =w.heap[k]?
 | [],_,_,_,_,_=>rfl
 |v::r,w,b,o,k,h=>(qO r _ b (o+1) k h).trans (heap_setCell_other w _ k v h)
theorem sJ:∀(vs:List Value) (w:World) (b o:Nat),(w.setCells b o vs).heap.size=w.heap.size
 | [],_,_,_=>rfl
 |v::r,w,b,o=>(sJ r _ b (o+1)).trans (by simp [World.setCell])
theorem qL {B b:Nat} {w0:World} (h:B≤b):∀(vs:List Value) (w:World) (o:Nat),Below B w0 w→Below B w0 (w.setCells b o vs)
 | [],_,_,hb=>hb
 |v::r,_,o,hb=>qL h r _ (o+1) (hb.setCell (p:=⟨b,o,none⟩) h v)
theorem QN (t:Tb) (v:Value):ji t v=([I t.aW,I t.version,I t.aI,v]++aj t.prev)++aj t.bG:=by simp [ji]
theorem NP (t:Tb) (v:Value) (m:List UInt8) (hp:t.prev.length=32) (h1:t.bG.length=32) (h2:m.length=32):GN (ai t v) 36 (aj m)=ai {t with bG:=m} v:=by
 have h:=Dt (aj m) ([I t.aW,I t.version,I t.aI,v]++aj t.prev) (aj t.bG) (by simp [aj,h1,h2])
 have hl:([I t.aW,I t.version,I t.aI,v]++aj t.prev).length=36:=by simp [aj,hp]
 rw [hl] at h
 unfold ai
 rw [QN,QN]
 exact h
theorem fA.via {w w':World} {b B:Nat} {cs:Array Value} (h:fA w b cs) (hb:Below B w w') (hB:b<B):fA w' b cs:=
 ⟨Nat.lt_of_lt_of_le h.1 hb.size,fun i=>(hb.cell (p:=⟨b,i,none⟩) hB).trans (h.2 i)⟩
theorem gq (m:List UInt8) (h:m.length=32):(Tryz.prog.info? 23).map (·.size)=some (cellsB m).size:=by rw [bD,h];kernel_rfl
theorem Ew {lo:Nat} {w:World} {g n c:Nat} {bs:List UInt8} (h:w.ownsRow lo 5 1 (.slice (some ⟨g,0,none⟩) n c) n (bs.map Extern.Stop.cell)):g<w.heap.size∧lo≤g:=by
 obtain ⟨_,⟨h1,_⟩|⟨g',cap,cur,hv,hg,hb,h1,h2,h3,h4⟩⟩:=h
 ·cases h1
 injection hv with hv _ hc
 injection hv with hv
 injection hv with hv
 subst hv
 exact ⟨(Array.getElem?_eq_some_iff.1 hb).1,hg⟩
end Go.Proofs.YtdibbemgpikgjaaGreatDoor
namespace Go.Proofs.YtdibbemgpikgjaaGreatDoor
open Go Go.RowKit
def Vg (w:World) (t:Tb) (bG:List UInt8) (n:Nat) (e:Ending) (w':World):Prop:=
 ∃A c ys,e= .returned (.tuple #[.agg (ai {t with bG:=bG} (.slice A n c)),I 0])∧rW w.heap.size w' A ys∧ys.map (·.e)=t.aS∧Below w.heap.size w w'
set_option maxRecDepth 10000 in
set_option maxHeartbeats 1000000 in
theorem NH (KR:List Int) (hK:KR.length=64) (w:World) (hG:fA w 0 (aA KR)) (hw0:0<w.heap.size) (key:List UInt8) (hk:key.length=32) (t:Tb) (A:Option Addr) (n c:Nat) (zs:List cZ) (h:Rz t) (hzz:t.aS=zs.map (·.e)) (hn:zs.length=n) (hA:kU w w.heap.size A zs) (hup:fV zs):
  Calls Tryz.prog 17 #[.agg (cellsB key), .agg (ai t (.slice A n c))] w (Vg w t (tY KR key (oD t)) n):=by
 have HF:=ae h
 have eX:Hid (∀v,(Tryz.prog.info? 37).map (·.size)=some (ai t v).size):=ae fun v=>bV t v h.prev h.bG
 have qK:Hid (∀u v,(ai t u).size=(ai t v).size):=ae fun u v=>by rw [bn _ _ h.prev h.bG,bn _ _ h.prev h.bG]
 have MM:=ae hzz
 have HN:=ae hn
 have DR:=ae hup
 have HK:=ae hK
 have ZG:=ae hk
 obtain ⟨W,hW⟩:∃W,((w.alloc (.cells (cellsB key) 23)).alloc (.cells (ai t (.slice A n c)) 37)).alloc (.cells (ai bJ (.slice none 0 0)) 37)=W:=⟨_,rfl⟩
 have hB:Below w.heap.size w W:=by rw [←hW];exact (((Below.refl _ w).alloc (Nat.le_refl _) _).alloc (by simp) _).alloc (by simp;omega) _
 have hs:W.heap.size=w.heap.size+3:=by rw [←hW];simp
 have hb0:W.heap[w.heap.size]? =some (.cells (cellsB key) 23 (0,0)):=by rw [←hW];exact (Below.heap_alloc _ _ _ (by simp;omega)).trans (heap_alloc2_old w _ _)
 have hb1:W.heap[w.heap.size+1]? =some (.cells (ai t (.slice A n c)) 37 (0,0)):=by rw [←hW];exact (Below.heap_alloc _ _ _ (by simp)).trans (heap_alloc2_new w _ _)
 have hb2:W.heap[w.heap.size+2]? =some (.cells (ai bJ (.slice none 0 0)) 37 (0,0)):=by
  rw [←hW]
  have:=heap_alloc_last ((w.alloc (.cells (cellsB key) 23)).alloc (.cells (ai t (.slice A n c)) 37)) (.cells (ai bJ (.slice none 0 0)) 37)
  simpa using this
 have HB:=ae hB
 have HS:=ae hs
 have H0:=ae hb0
 have H1:=ae hb1
 have H2:=ae hb2
 have HR1:=ae (Row.iq hb1)
 have HO:=ae (hA.grow hB)
 have HG:=ae (hG)
 clear h hzz hn hA hup hK hk hb0 hb1 hb2 hB hs hG
 obtain ⟨m,hm⟩:∃m,tY KR key (oD t)=m:=⟨_,rfl⟩
 have Ej:m.length=32:=by rw [←hm];exact mg _ _ _
 rw [hm]
 have jw:=ae hm
 clear hm
 go_enter Tryz.func17,Tryz.ntmps17
 go_wp2_with (with_reducible refine dG 37 ?_;refine aU rfl _ _ rfl (w.heap.size+1) rfl (ai t (.slice A n c)) (by rw [kL,hW];exact HR1.out) _ Tryz.underlying37 rfl (eX.out _) ?_)
 rw [kL,hW]
 clear hW
 refine (jQ t A n c zs W HF.out MM.out HN.out HO.out DR.out).mono ?_
 rintro e w2 ⟨⟨g2,c2,rfl,ho2⟩,hb2⟩
 have hs0:=HS.out
 have hl2:=hb2.size
 have HB2:=ae (ah HB.out hb2)
 have H02:Hid (w2.heap[w.heap.size]? =some (.cells (cellsB key) 23 (0,0))):=ae ((hb2.block _ (by omega)).trans H0.out)
 have H12:Hid (w2.heap[w.heap.size+1]? =some (.cells (ai t (.slice A n c)) 37 (0,0))):=ae ((hb2.block _ (by omega)).trans H1.out)
 have H22:Hid (w2.heap[w.heap.size+2]? =some (.cells (ai bJ (.slice none 0 0)) 37 (0,0))):=ae ((hb2.block _ (by omega)).trans H2.out)
 have HR2:=ae (Row.iq H12.out)
 have ZU:=ae (HO.out.grow hb2)
 have OC:=ae ho2
 clear ho2 hb2 HO HR1 H0 H1 H2 HB HS
 have jE:Hid (Calls Tryz.prog 29 #[.agg (ai t (.slice A n c))] w2 (Yl w2 ⟨t,A,c,zs⟩)):=ae (by
  have h2:zs.length≤128:=by have:=HF.out.num;rw [MM.out,List.length_map] at this;exact this
  have hn2:=HN.out
  exact qw ⟨t,A,c,zs⟩ n w2 hn2 (by omega) (fun y hy=>(HF.out.good _ (by rw [MM.out];exact List.mem_map_of_mem hy)).1.len) ⟨MM.out,HF.out.prev,HF.out.bG,ZU.out⟩)
 go_wp2_with (with_reducible refine dG 37 ?_;refine aU rfl _ _ rfl (w.heap.size+1) rfl (ai t (.slice A n c)) HR2.out _ Tryz.underlying37 rfl (eX.out _) ?_)
 refine (jE.out).mono ?_
 rintro e w3 ⟨⟨t3,A3,c3,ys⟩,ht3,he3,rfl,hO3,hb3⟩
 have ht4:t=t3:=ht3.symm
 subst ht4
 have he3:ys.map (·.e)=zs.map (·.e):=he3
 have hz3:rW w2.heap.size w3 A3 ys:=hO3.aS
 have hy3:ys.length=n:=by have:=congrArg List.length he3;simpa [HN.out] using this
 dsimp only
 rw [hy3]
 have HE3:Hid (ys.map (·.e)=t.aS):=ae (he3.trans MM.out.symm)
 have hl3:=hb3.size
 obtain ⟨W4,lW⟩:∃W4,w3.setRow (w.heap.size+1) (ai t (.slice A3 n c3))=W4:=⟨_,rfl⟩
 have h13:w3.heap[w.heap.size+1]? =some (.cells (ai t (.slice A n c)) 37 (0,0)):=(hb3.block _ (by omega)).trans H12.out
 have H13:=ae h13
 have H14:Hid (W4.heap[w.heap.size+1]? =some (.cells (ai t (.slice A3 n c3)) 37 (0,0))):=ae (by rw [←lW];exact setRow_heap _ _ _ _ _ _ h13)
 have hk4:∀k,k≠w.heap.size+1→W4.heap[k]? =w3.heap[k]? :=fun k hk=>by rw [←lW];exact setRow_other _ _ k _ hk
 have hL4:W4.heap.size=w3.heap.size:=by rw [←lW];simp [World.setRow]
 have hB4:Below w.heap.size w W4:=by rw [←lW];exact aF (ah HB2.out hb3) (Nat.le_succ _) _
 have H04:Hid (W4.heap[w.heap.size]? =some (.cells (cellsB key) 23 (0,0))):=ae ((hk4 _ (by omega)).trans ((hb3.block _ (by omega)).trans H02.out))
 have H24:Hid (W4.heap[w.heap.size+2]? =some (.cells (ai bJ (.slice none 0 0)) 37 (0,0))):=ae ((hk4 _ (by omega)).trans ((hb3.block _ (by omega)).trans H22.out))
 have HR4:=ae (Row.iq H04.out)
 have KN:Hid (rW w2.heap.size W4 A3 ys):=ae (hz3.aP (Nat.le_of_eq hL4.symm) fun k h1 _=>hk4 k (by omega))
 have hg2:g2<w2.heap.size∧W.heap.size≤g2:=Ew OC.out
 have hby4:∀j,j<(oD t).length→W4.cell? ⟨g2,0+j,none⟩=some (Extern.Stop.cell ((oD t)[j]?.getD 0)):=fun j hj=>by
  have h:=OC.out.cells (g:=g2) rfl j (Extern.Stop.cell ((oD t)[j]?.getD 0)) (by rw [List.getElem?_map,List.getElem?_eq_getElem hj];rfl)
  rw [addr_add] at h
  rw [Nat.zero_add]
  exact (World.cell?_of_block (a:=⟨g2,j,none⟩) ((hk4 _ (by show g2≠w.heap.size+1;omega)).trans (hb3.block _ hg2.1))).trans h
 have Rl:=ae (Ac KR HK.out W4 (HG.out.via hB4 hw0) key (oD t) ZG.out (by have:=(qF t HF.out).1;omega) (by have:=(qF t HF.out).2;omega) g2 0 c2 (by omega) hby4)
 have HW4:=ae lW
 have HB4:=ae hB4
 clear hz3 he3 hb3 h13 hk4 hB4 hby4 lW jE ZU OC HR2 H12 H02 H22 HB2
 go_wp2_with (first
  |(with_reducible refine bH 37 ?_;refine wpList_store_row rfl _ _ _ rfl (w.heap.size+1) (ai t (.slice A3 n c3)) rfl rfl 37 (ai t (.slice A n c)) H13.out (eX.out _) (qK.out _ _) (bf _ _ _ _) ?_;rw [HW4.out])
  |(with_reducible refine dG 23 ?_;refine aU rfl _ _ rfl w.heap.size rfl (cellsB key) HR4.out _ Tryz.underlying23 rfl (gq _ ZG.out) ?_))
 refine Rl.out.mono ?_
 rintro e w5 ⟨rfl,hb5⟩
 rw [jw.out]
 have h15:w5.heap[w.heap.size+1]? =some (.cells (ai t (.slice A3 n c3)) 37 (0,0)):=(hb5.block _ (by omega)).trans H14.out
 obtain ⟨W6,YG⟩:∃W6,w5.setCells (w.heap.size+1) 36 (cellsB m).toList=W6:=⟨_,rfl⟩
 have H16:Hid (W6.heap[w.heap.size+1]? =some (.cells (ai {t with bG:=m} (.slice A3 n c3)) 37 (0,0))):=ae (by
  rw [←YG]
  have h:=uw (cellsB m).toList w5 (w.heap.size+1) 36 _ _ h15
  rw [show (cellsB m).toList=aj m from rfl,NP t _ m HF.out.prev HF.out.bG Ej] at h
  exact h)
 have hB6:Below w.heap.size w W6:=by rw [←YG];exact qL (Nat.le_succ _) _ _ _ (ah HB4.out hb5)
 have hk6:∀k,k≠w.heap.size+1→W6.heap[k]? =w5.heap[k]? :=fun k hk=>by rw [←YG];exact qO _ _ _ _ k hk
 have hL6:W6.heap.size=w5.heap.size:=by rw [←YG];exact sJ _ _ _ _
 have hl5:=hb5.size
 have H26:Hid (W6.heap[w.heap.size+2]? =some (.cells (ai bJ (.slice none 0 0)) 37 (0,0))):=ae ((hk6 _ (by omega)).trans ((hb5.block _ (by omega)).trans H24.out))
 have MK:Hid (rW w2.heap.size W6 A3 ys):=ae (KN.out.aP (by omega) fun k h1 h2=>(hk6 k (by omega)).trans (hb5.block k h2))
 have Om:Hid (w5.there (w.heap.size+1) 36 (cellsB m).size):=ae fun j hj=>⟨by rw [cell_of_row _ (w.heap.size+1) _ _ _ _ h15];have hs:=bn t (.slice A3 n c3) HF.out.prev HF.out.bG;rw [bD,Ej] at hj;rw [Array.getElem?_eq_getElem (by omega)];rfl,frozen_of_row _ _ _ _ _ h15⟩
 have mM:=ae (Row.iq H16.out)
 have HW6:=ae YG
 have Ii:=ae hB6
 have HSM:Hid (∀v,(Tryz.prog.info? 37).map (·.size)=some (ai {t with bG:=m} v).size):=ae fun v=>bV _ v HF.out.prev Ej
 have rM:Hid (∀v,(ai bJ (.slice none 0 0)).size=(ai {t with bG:=m} v).size):=ae fun v=>(bn bJ _ rfl rfl).trans (bn {t with bG:=m} v HF.out.prev Ej).symm
 have Sl:=ae (gq m Ej)
 clear h15 YG hB6 hk6 hb5 Rl H14 H24 KN HR4 H04 HB4
 go_wp2_with (first
  |(with_reducible refine bH 23 ?_;refine wpList_store_mid rfl _ _ _ rfl (w.heap.size+1) 36 (cellsB m) rfl rfl Om.out Sl.out (gJ _) ?_;rw [HW6.out])
  |(with_reducible refine dG 37 ?_;refine aU rfl _ _ rfl (w.heap.size+1) rfl (ai {t with bG:=m} (.slice A3 n c3)) mM.out _ Tryz.underlying37 rfl (HSM.out _) ?_)
  |(with_reducible refine bH 37 ?_;refine wpList_store_row rfl _ _ _ rfl (w.heap.size+2) (ai {t with bG:=m} (.slice A3 n c3)) rfl rfl 37 (ai bJ (.slice none 0 0)) H26.out (HSM.out _) (rM.out _) (bf _ _ _ _) ?_))
 refine bodyPost_ret (v:= .tuple #[.agg (ai {t with bG:=m} (.slice A3 n c3)),I 0]) (bK rfl _ _ (w.heap.size+2) _ (ai {t with bG:=m} (.slice A3 n c3)) (0,0) _ rfl (setRow_heap _ _ _ _ _ _ H26.out) Tryz.underlying37 rfl (HSM.out _) _ rfl) rfl ?_
 refine ⟨A3,c3,ys,rfl,(MK.out.aP ?_ fun k h1 h2=>setRow_other _ _ k _ (by omega)).lower (by omega),HE3.out,aF Ii.out (Nat.le_succ_of_le (Nat.le_succ _)) _⟩
 simp [World.setRow]
end Go.Proofs.YtdibbemgpikgjaaGreatDoor
namespace Go.Proofs.YtdibbemgpikgjaaGreatDoor
open Go Go.RowKit
def uY (lo:Nat) (w:World) (A:Option Addr) (n c:Nat) (bs:List UInt8):Prop:=w.ownsRow lo 5 1 (.slice A n c) n (bs.map Extern.Stop.cell)
structure xE (v:Value) (w:World) (v':Value) (w':World):Prop where
 os:w'.os=w.os
 tape:w'.tape=w.tape
 output:w'.output=w.output
 size:w.heap.size≤w'.heap.size
 block:∀k,k<w.heap.size→some k≠v.ownBlock→w'.heap[k]? =w.heap[k]?
 own:v'.ownBlock=v.ownBlock∨∃b,v'.ownBlock=some b∧w.heap.size≤b
theorem xE.refl (v:Value) (w:World):xE v w v w:=⟨rfl,rfl,rfl,Nat.le_refl _,fun _ _ _=>rfl, .inl rfl⟩
theorem xE.trans {v v1 v2:Value} {w w1 w2:World} (h:xE v w v1 w1) (k:xE v1 w1 v2 w2):xE v w v2 w2:=by
 refine ⟨k.os.trans h.os,k.tape.trans h.tape,k.output.trans h.output,Nat.le_trans h.size k.size,fun b hb hv=>?_,?_⟩
 ·refine (k.block b (Nat.lt_of_lt_of_le hb h.size) ?_).trans (h.block b hb hv)
  rcases h.own with e|⟨b1,e,hb1⟩
  ·rw [e];exact hv
  ·rw [e];intro h';injection h' with h';omega
 ·rcases k.own with e|⟨b,e,hb⟩
  ·rcases h.own with e1|⟨b1,e1,hb1⟩
   ·exact .inl (e.trans e1)
   ·exact .inr ⟨b1,e.trans e1,hb1⟩
  ·exact .inr ⟨b,e,Nat.le_trans h.size hb⟩
theorem xE.below {v v':Value} {w w' w2:World} (h:xE v w v' w') (hb:Below w'.heap.size w' w2):xE v w v' w2:=
 ⟨hb.os.trans h.os,hb.tape.trans h.tape,hb.output.trans h.output,Nat.le_trans h.size hb.size,fun k hk hv=>(hb.block k (Nat.lt_of_lt_of_le hk h.size)).trans (h.block k hk hv),h.own⟩
theorem xE.app {w w3:World} {v v':Value} {o:Obj} (hg:(w.alloc o).grownBy w3 v.ownBlock) (hat:v'.ownBlock=v.ownBlock∨v'.ownBlock=some (w.alloc o).heap.size):xE v w v' w3:=
 ⟨hg.os,hg.tape,hg.output,Nat.le_trans (by simp) hg.size,fun k hk hv=>(hg.block k (by simp;omega) hv).trans (Below.heap_alloc w o k hk),hat.elim .inl fun e=> .inr ⟨_,e,by simp⟩⟩
theorem xE.yC {lo:Nat} {v v':Value} {w w':World} (h:xE v w v' w') (hv:∀g,v.ownBlock=some g→lo≤g) (hlo:lo≤w.heap.size):Below lo w w':=
 ⟨h.os,h.tape,h.output,h.size,fun k hk=>h.block k (by omega) (fun e=>by have:=hv k e.symm;omega)⟩
theorem uY.base {lo n c:Nat} {w:World} {A:Option Addr} {bs:List UInt8} (h:uY lo w A n c bs):∀g,(Value.slice A n c).ownBlock=some g→lo≤g:=fun g hg=>(World.ownsRow.lt h g hg).1
theorem uY.below {lo n c:Nat} {w w':World} {A:Option Addr} {bs:List UInt8} (h:uY lo w A n c bs) (hb:Below w.heap.size w w'):uY lo w' A n c bs:=
 World.ownsRow.kept (row:=none) h ⟨hb.os,hb.tape,hb.output,hb.size,fun k hk _=>hb.block k hk⟩ (by cases (Value.slice A n c).ownBlock<;>simp)
theorem uY.lower {lo lo' n c:Nat} {w:World} {A:Option Addr} {bs:List UInt8} (h:uY lo w A n c bs) (hl:lo'≤lo):uY lo' w A n c bs:=by
 rcases h.2 with h2|⟨g,cap,cur,h1,h2,h3⟩
 ·exact ⟨h.1, .inl h2⟩
 ·exact ⟨h.1, .inr ⟨g,cap,cur,h1,Nat.le_trans hl h2,h3⟩⟩
end Go.Proofs.YtdibbemgpikgjaaGreatDoor
namespace Go.Proofs.YtdibbemgpikgjaaGreatDoor
open Go Go.RowKit
theorem xE.app0 {w w3:World} {v v':Value} (hg:w.grownBy w3 v.ownBlock) (hat:v'.ownBlock=v.ownBlock∨v'.ownBlock=some w.heap.size):xE v w v' w3:=
 ⟨hg.os,hg.tape,hg.output,hg.size,fun k hk hv=>hg.block k hk hv,hat.imp id fun e=>⟨_,e,Nat.le_refl _⟩⟩
end Go.Proofs.YtdibbemgpikgjaaGreatDoor
namespace Go.Proofs.YtdibbemgpikgjaaGreatDoor
open Go Go.RowKit
theorem pF {ops:Array Oper} {rest:List Oper} {o:Oper} {a:Act} {Q:Exit→Act→World→Prop} {w:World} (hgd:o.guard=none) (sl x:Operand)
  (ho:o.op= .call {callee:= .builtin .append,args:= #[sl,x],argTypes:= #[32,32]}) (lo n c:Nat) (A:Option Addr) (bs:List UInt8) (hs:a.eval sl= .slice A n c) (hown:uY lo w A n c bs)
  (B:Nat) (A2:Option Addr) (m c2:Nat) (ds:List UInt8) (hx:a.eval x= .slice A2 m c2) (hl:ds.length=m) (hm:0<m) (hc:az w B A2 (ds.map Extern.Stop.cell)) (hlen:n+m≤1000000000) (hbase:lo≤w.heap.size)
  (h:∀A' c' w',uY lo w' A' (n+m) c' (bs++ds)→xE (.slice A n c) w (.slice A' (n+m) c') w'→wpList Tryz.prog ops Q rest (a.put o.dst (.slice A' (n+m) c')) w'):wpList Tryz.prog ops Q (o::rest) a w:=by
 obtain ⟨i0,hi,hz0,hz1,hz2⟩:=info_parts qB
 obtain ⟨b,off,rfl,_,hcl⟩:=hc.there (by rw [List.length_map];omega)
 refine wpList_append_own_at _ hgd sl x 32 ho lo 5 i0 (.int .u8 0) 1 1 Tryz.underlying32 hi hz0 hz1 hz2 rfl (by decide) _ n (bs.map Extern.Stop.cell) hs hown ⟨b,off,none⟩ m c2 (ds.map Extern.Stop.cell) hx (by rw [List.length_map];omega) (fun j u hu=>by rw [show (⟨b,off,none⟩:Addr).add j=⟨b,off+j,none⟩ by unfold Addr.add;split<;>simp_all];exact hcl j u hu)
  (fun u hu=>by obtain ⟨y,_,rfl⟩:=List.mem_map.1 hu;rfl) (by unfold maxLen;omega) (by omega) hbase ?_
 intro v' w' hown' hg _ hat
 obtain ⟨A',c',rfl⟩:=nJ hown'
 exact h A' c' w' (by unfold uY;rw [List.map_append];exact hown') (xE.app0 hg hat)
structure V2 (w:World) (t:TypeId) (cs:Array Value) (t2:TypeId) (ds:Array Value) (W:World):Prop where
 s:AV w.heap.size t cs W
 r:AV (w.heap.size+1) t2 ds W
 lo:Below w.heap.size w W
theorem V2.start (w:World) (t:TypeId) (cs:Array Value) (t2:TypeId) (ds:Array Value):V2 w t cs t2 ds ((w.alloc (.cells cs t)).alloc (.cells ds t2)):=
 ⟨⟨heap_alloc2_old w _ _⟩,⟨heap_alloc2_new w _ _⟩,ah (ag w _) (ag _ _)⟩
theorem V2.Vq {w W W':World} {t t2:TypeId} {cs ds:Array Value} {L:Nat} (h:V2 w t cs t2 ds W) (hb:Below L W W') (hL:w.heap.size+1<L):V2 w t cs t2 ds W':=
 ⟨⟨(hb.block _ (by omega)).trans h.s.var⟩,⟨(hb.block _ (by omega)).trans h.r.var⟩,h.lo.trans (hb.mono (by omega))⟩
theorem V2.grow {w W W':World} {t t2:TypeId} {cs ds:Array Value} (h:V2 w t cs t2 ds W) (hb:Below W.heap.size W W'):V2 w t cs t2 ds W':=h.Vq hb h.r.lt
end Go.Proofs.YtdibbemgpikgjaaGreatDoor
namespace Go.Proofs.YtdibbemgpikgjaaGreatDoor
open Go Go.RowKit
set_option maxRecDepth 10000 in
set_option maxHeartbeats 1000000 in
theorem G9 (KR:List Int) (hK:KR.length=64) (w:World) (hG:fA w 0 (aA KR)) (bs:List UInt8) (hb0:0<bs.length) (hlen:bs.length≤1000000000) (ab off c:Nat) (hla:ab<w.heap.size) (hby:∀j,j<bs.length→w.cell? ⟨ab,off+j,none⟩=some (Extern.Stop.cell (bs[j]?.getD 0))):
  Calls Tryz.prog 12 #[.slice (some ⟨ab,off,none⟩) bs.length c] w (Gives (.agg (cellsB (lI KR bs))) w):=by
 obtain ⟨W1,hW1⟩:∃W,(w.alloc (.cells (cellsB z32) 23)).alloc (.cells #[.slice (some ⟨ab,off,none⟩) bs.length c] 32)=W:=⟨_,rfl⟩
 have hs1:W1.heap.size=w.heap.size+2:=by rw [←hW1];simp
 have hb1:Below w.heap.size w W1:=by rw [←hW1];exact ((Below.refl _ w).alloc (Nat.le_refl _) _).alloc (by simp) _
 have hr1:W1.heap[w.heap.size]? =some (.cells (cellsB z32) 23 (0,0)):=by rw [←hW1];exact heap_alloc2_old w _ _
 have hp1:W1.heap[w.heap.size+1]? =some (.cells #[.slice (some ⟨ab,off,none⟩) bs.length c] 32 (0,0)):=by rw [←hW1];exact heap_alloc2_new w _ _
 have HC:Hid (Calls Tryz.prog 31 #[.slice (some ⟨w.heap.size+1,0,none⟩) 1 1] W1 fun e w'=>e= .returned (.agg (cellsB (lI KR bs)))∧Below W1.heap.size W1 w'):=
  ae (PZ KR hK W1 ⟨Nat.lt_of_lt_of_le hG.1 hb1.size,fun i=>(hb1.cell (p:=⟨0,i,none⟩) hG.1).trans (hG.2 i)⟩ bs hb0 hlen (w.heap.size+1) ab off c (cell_of_row _ _ 0 _ _ _ hp1) (by omega) (by omega) fun j hj=>(hb1.cell (p:=⟨ab,off+j,none⟩) hla).trans (hby j hj))
 have HW1:=ae hW1
 have HB1:=ae hb1
 have HR1:=ae hr1
 have eX:Hid ((Tryz.prog.info? 23).map (·.size)=some (cellsB (lI KR bs)).size):=ae (by rw [bD,jf];kernel_rfl)
 have qK:Hid ((cellsB z32).size=(cellsB (lI KR bs)).size):=ae (by rw [bD,bD,jf];rfl)
 obtain ⟨N,hN⟩:∃N,bs.length=N:=⟨_,rfl⟩
 rw [hN] at HW1 ⊢
 clear hs1 hb1 hr1 hp1 hW1 hby hG hK hN
 go_enter Tryz.func12,Tryz.ntmps12
 go_wp2_with (first
  |(refine aJ rfl _ rfl (cellsB z32) gB ?_)
  |(go_at_call 31;rw [HW1.out];refine HC.out.mono ?_;rintro e w2 ⟨rfl,hb2⟩;have HB2:=ae hb2;have HR2:Hid (w2.heap[w.heap.size]? =some (.cells (cellsB z32) 23 (0,0))):=ae ((hb2.block _ (Array.getElem?_eq_some_iff.1 HR1.out).1).trans HR1.out);clear hb2)
  |(with_reducible refine g_st 23 ?_;refine wpList_store_row rfl _ _ _ rfl w.heap.size (cellsB (lI KR bs)) rfl rfl 23 (cellsB z32) HR2.out eX.out qK.out (gJ _) ?_))
 refine bodyPost_ret (v:= .agg (cellsB (lI KR bs))) (results_cell_row rfl _ _ w.heap.size _ (cellsB (lI KR bs)) (0,0) _ rfl (setRow_heap _ _ _ _ _ _ HR2.out) Tryz.underlying23 rfl eX.out) rfl ?_
 exact ⟨rfl,below_setRow (HB1.out.trans (HB2.out.mono HB1.out.size)) (Nat.le_refl _) _⟩
end Go.Proofs.YtdibbemgpikgjaaGreatDoor
