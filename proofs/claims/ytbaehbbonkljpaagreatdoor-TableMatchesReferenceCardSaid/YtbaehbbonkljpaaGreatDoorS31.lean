/- The texts DgM, Ea, Eb, in this order. -/
import Derived.Test.YtbaehbbonkljpaaGreatDoorS00
import Derived.Test.YtbaehbbonkljpaaGreatDoorProg
import Derived.Defers
import Derived.Laws.AppendOwnNone
import Derived.Laws.BitsAllLaws
import Derived.Laws.BytesArg
import Derived.Laws.Cover3
import Derived.Lib.AppendStr
import Derived.Lib.ByteType
import Derived.MapKept
import Derived.Recover
import Derived.Test.YtbaehbbonkljpaaGreatDoorS01
import Derived.Test.YtbaehbbonkljpaaGreatDoorS03
import Derived.Test.YtbaehbbonkljpaaGreatDoorS27
import Derived.Test.YtbaehbbonkljpaaGreatDoorS29
import Derived.Test.YtbaehbbonkljpaaGreatDoorS30
set_option maxRecDepth 10000
set_option maxHeartbeats 8000000
namespace Go.Proofs.YtbaehbbonkljpaaGreatDoor
open Go Go.RowKit
def xb (m:Int) (x:UInt8):UInt8:=byteOf (bits BinOp.xor IntKind.u8 x.toNat m)
def jk (m:Int) (bs:List UInt8):Nat->List UInt8
 |0=>bs
 |k+1=>(jk m bs k).set k (xb m (bs[k]?.getD 0))
theorem oJ (m:Int) (bs:List UInt8) (k:Nat):(jk m bs k).length=bs.length:=by
 induction k with
 |zero=>rfl
 |succ k ih=>simp [jk,ih]
theorem Fv (m:Int) (bs:List UInt8) (k:Nat):∀j,k<=j->(jk m bs k)[j]? =bs[j]? :=by
 induction k with
 |zero=>exact fun _ _=>rfl
 |succ k ih=>
  intro j hj;show ((jk m bs k).set k _)[j]? =_;rw [List.getElem?_set_ne (by omega),ih j (by omega)]
def gq (key:List UInt8):List UInt8:=key++List.replicate 32 0
def oh (KR:List Int) (key bs:List UInt8):List UInt8:=qN KR (jk 92 (gq key) 64++qN KR (jk 54 (gq key) 64++bs))
theorem nN (KR:List Int) (key bs:List UInt8):(oh KR key bs).length=32:=nM _ _
theorem u8_xor (x:UInt8) (m:Int):0<=bits BinOp.xor IntKind.u8 x.toNat m/\bits BinOp.xor IntKind.u8 x.toNat m<256:=by
 unfold bits;simp only [IntKind.wrap,IntKind.bits,IntKind.signed];constructor
 ·exact Int.emod_nonneg _ (by decide)
 ·exact Int.emod_lt_of_pos _ (by decide)
theorem Pg (m:Int) (x:UInt8):Extern.Stop.cell (xb m x)= .int .u8 (bits BinOp.xor IntKind.u8 x.toNat m):=by
 obtain ⟨h1,h2⟩:=u8_xor x m;unfold xb;rw [fF];congr 1;omega
theorem Ht:(Tryz.prog.info? 145).map (fun i=>(i.zero,i.size))=some (some (.agg (cellsB (List.replicate 64 0))),(cellsB (List.replicate 64 0)).size):=by kernel_rfl
structure Af (w:World) (key xs ys:List UInt8) (W:World):Prop where
 kv:AV w.heap.size 24 (cellsB key) W
 res:AV (w.heap.size+1) 24 (cellsB z32) W
 a:AV (w.heap.size+2) 145 (cellsB xs) W
 b:AV (w.heap.size+3) 145 (cellsB ys) W
 lo:Below w.heap.size w W
theorem Af.below {w W W':World} {key xs ys:List UInt8} (h:Af w key xs ys W) (hb:Below W.heap.size W W'):Af w key xs ys W':=⟨h.kv.below hb,h.res.below hb,h.a.below hb,h.b.below hb,ah h.lo hb⟩
theorem Af.lt {w W:World} {key xs ys:List UInt8} (h:Af w key xs ys W):w.heap.size+3<W.heap.size:=h.b.lt
theorem AV.kH {b c:Nat} {t:TypeId} {cs ds:Array Value} {W:World} (h:AV b t cs W) (hn:b≠c):AV b t cs (W.setRow c ds):=⟨(setRow_other _ _ b _ hn).trans h.var⟩
theorem AV.O3 {b:Nat} {t:TypeId} {cs ds:Array Value} {W:World} (h:AV b t cs W):AV b t ds (W.setRow b ds):=⟨setRow_heap _ _ _ _ _ _ h.var⟩
theorem Af.setA {w W:World} {key xs ys:List UInt8} (h:Af w key xs ys W) (zs:List UInt8):Af w key zs ys (W.setRow (w.heap.size+2) (cellsB zs)):=
 ⟨h.kv.kH (by omega),h.res.kH (by omega),h.a.O3,h.b.kH (by omega),aB h.lo (by omega) _⟩
theorem Af.setB {w W:World} {key xs ys:List UInt8} (h:Af w key xs ys W) (zs:List UInt8):Af w key xs zs (W.setRow (w.heap.size+3) (cellsB zs)):=
 ⟨h.kv.kH (by omega),h.res.kH (by omega),h.a.kH (by omega),h.b.O3,aB h.lo (by omega) _⟩
theorem Af.drew {w W:World} {key xs ys:List UInt8} (h:Af w key xs ys W):Af w key xs ys W.drew:=⟨h.kv.drew,h.res.drew,h.a.drew,h.b.drew,h.lo.drew⟩
theorem Af.putA {w W:World} {key xs ys:List UInt8} (h:Af w key xs ys W) (o:Nat) (x:UInt8):Af w key (xs.set o x) ys (W.setCell ⟨w.heap.size+2,o,none⟩ (Extern.Stop.cell x)):=
 ⟨h.kv.far (by omega) _ _,h.res.far (by omega) _ _,by have:=h.a.put o (Extern.Stop.cell x);rwa [wI] at this,h.b.far (by omega) _ _,h.lo.setCell (p:=⟨w.heap.size+2,o,none⟩) (by show w.heap.size<=w.heap.size+2;omega) _⟩
theorem Af.Jq {w W:World} {key xs ys:List UInt8} (h:Af w key xs ys W) (o:Nat) (x:UInt8):Af w key xs (ys.set o x) (W.setCell ⟨w.heap.size+3,o,none⟩ (Extern.Stop.cell x)):=
 ⟨h.kv.far (by omega) _ _,h.res.far (by omega) _ _,h.a.far (by omega) _ _,by have:=h.b.put o (Extern.Stop.cell x);rwa [wI] at this,h.lo.setCell (p:=⟨w.heap.size+3,o,none⟩) (by show w.heap.size<=w.heap.size+3;omega) _⟩
theorem Qq (w:World) (key:List UInt8):Af w key (List.replicate 64 0) (List.replicate 64 0) ((((w.alloc (.cells (cellsB key) 24)).alloc (.cells (cellsB z32) 24)).alloc (.cells (cellsB (List.replicate 64 0)) 145)).alloc (.cells (cellsB (List.replicate 64 0)) 145)):=by
 obtain ⟨W1,h1⟩:∃W,w.alloc (.cells (cellsB key) 24)=W:=⟨_,rfl⟩;have a1:=AV.new w (cellsB key) 24;have b1:=ag w (.cells (cellsB key) 24);have s1:W1.heap.size=w.heap.size+1:=by rw [<-h1];simp
 rw [h1] at a1 b1 ⊢;obtain ⟨W2,h2⟩:∃W,W1.alloc (.cells (cellsB z32) 24)=W:=⟨_,rfl⟩;have a2:=AV.new W1 (cellsB z32) 24;have b2:=ag W1 (.cells (cellsB z32) 24);have s2:W2.heap.size=w.heap.size+2:=by rw [<-h2];simp [s1]
 rw [h2] at a2 b2 ⊢;rw [s1] at a2;obtain ⟨W3,h3⟩:∃W,W2.alloc (.cells (cellsB (List.replicate 64 0)) 145)=W:=⟨_,rfl⟩;have a3:=AV.new W2 (cellsB (List.replicate 64 0)) 145;have b3:=ag W2 (.cells (cellsB (List.replicate 64 0)) 145);have s3:W3.heap.size=w.heap.size+3:=by rw [<-h3];simp [s2]
 rw [h3] at a3 b3 ⊢;rw [s2] at a3;have a4:=AV.new W3 (cellsB (List.replicate 64 0)) 145;have b4:=ag W3 (.cells (cellsB (List.replicate 64 0)) 145);rw [s3] at a4;exact ⟨((a1.below b2).below b3).below b4,(a2.below b3).below b4,a3.below b4,a4,ah (ah (ah b1 b2) b3) b4⟩
theorem Np (key:List UInt8) (h:key.length=32):cellsB (gq key)=(splice (cellsB (List.replicate 64 0)).toList 0 (ax key)).toArray:=by
 unfold splice cellsB gq;simp [ax,h]
theorem MS (KR:List Int) (hK:KR.length=64) (w:World) (hG:gK w 0 (aj KR)) (key bs:List UInt8) (hk:key.length=32) (hb0:0<bs.length) (hlen:bs.length<=900000000) (ab off c:Nat) (hla:ab<w.heap.size) (hby:∀j,j<bs.length->w.cell? ⟨ab,off+j,none⟩=some (Extern.Stop.cell (bs[j]?.getD 0))):
  Calls Tryz.prog 54 #[.agg (cellsB key), .slice (some ⟨ab,off,none⟩) bs.length c] w (Gives (.agg (cellsB (oh KR key bs))) w):=by
 have tN:=ae (Qq w key);have HK:=ae hK;have HG:=ae hG;have nX:=ae hk;have vk:=ae hby;obtain ⟨N,hN⟩:∃N,bs.length=N:=⟨_,rfl⟩;rw [hN] at hb0 hlen ⊢;have HN:=ae hN;clear hK hG hk hby hN;go_enter Tryz.func54,Tryz.ntmps54;go_wp2_with (first
  |(refine aG rfl _ rfl (cellsB z32) qJ ?_)
  |(refine aG rfl _ rfl (cellsB (List.replicate 64 0)) Ht ?_))
 simp only [World.size_alloc,Nat.add_assoc,Nat.reduceAdd];generalize (((w.alloc (.cells (cellsB key) 24)).alloc (.cells (cellsB z32) 24)).alloc (.cells (cellsB (List.replicate 64 0)) 145)).alloc (.cells (cellsB (List.replicate 64 0)) 145)=W0 at tN ⊢;have hl0:=tN.out.lt;have mG:Hid (∀j u,(ax key)[j]? =some u->W0.drew.cell? ((⟨w.heap.size,0,none⟩:Addr).add j)=some u):=ae fun j u hu=>by
  rw [addr_add];exact (tN.out.kv.cell j).trans (by simpa [cellsB] using hu)
 have HC2:Hid ((ax key).length=32):=ae (by simp [ax,nX.out]);have xX:Hid ((cellsB (List.replicate 64 0)).size=64):=ae (by rw [fG];rfl);have xZ:=ae (Np key nX.out)
 go_region_law (refine wu (by rfl) _ _ _ _ (by rfl) 5 Tryz.underlying55 (by kernel_rfl) (w.heap.size+2) 0 64 64 ⟨w.heap.size,0,none⟩ 32 32 (by rfl) (by rfl) (cellsB (List.replicate 64 0)) 145 tN.out.a.drew.var (ax key) (by rw [HC2.out];rfl) mG.out (by rw [HC2.out,xX.out];decide) (Jv key) (cellsB (gq key)) xZ.out ?_)
 have lg:=ae (tN.out.drew.setA (gq key));generalize W0.drew.setRow (w.heap.size+2) (cellsB (gq key))=W1 at lg ⊢;have hl1:=lg.out.lt;have Ez:Hid ((gq key).length=64):=ae (by simp [gq,nX.out]);have HS64:Hid (∀zs:List UInt8,zs.length=64->(Tryz.prog.info? 145).map (·.size)=some (cellsB zs).size):=ae fun zs hz=>by rw [fG,hz];kernel_rfl
 have KU:Hid (gK W1 (w.heap.size+2) (cellsB (gq key))):=ae ⟨by omega,lg.out.a.cell⟩;have EE:Hid ((cellsB (List.replicate 64 0)).size=(cellsB (gq key)).size):=ae (by rw [fG,fG,Ez.out];rfl);have HS2:=ae (lg.out.setB (gq key));clear mG HC2 xX xZ hl0;go_wp2_with (first
  |(with_reducible refine dY 145 ?_;refine aP rfl _ _ rfl (w.heap.size+2) rfl (cellsB (gq key)) KU.out _ Tryz.underlying145 rfl (HS64.out _ Ez.out) ?_)
  |(with_reducible refine bY 145 ?_;refine wpList_store_row rfl _ _ _ rfl (w.heap.size+3) (cellsB (gq key)) rfl rfl 145 (cellsB (List.replicate 64 0)) lg.out.b.var (HS64.out _ Ez.out) EE.out (oW _) ?_))
 go_loopw [13] (fun i wr=>∃k:Nat,k<=64/\i= .int .i64 (k:Int)/\Af w key (jk 54 (gq key) k) (jk 92 (gq key) k) wr) (fun i _=>64 - (intOf i).toNat)
 case atStart=>exact ⟨0,Nat.zero_le _,rfl,HS2.out⟩
 case round=>
  obtain ⟨k,hk,rfl,hs⟩:=hrel;have HS:=ae hs;have hl:=hs.lt;clear hs lg HS2 hl1 KU EE;by_cases hlt:k<64
  ·have i0:(0:Int)<=(k:Int):=by omega
   have i1:(k:Int)<64:=by omega
   obtain ⟨x,hx⟩:∃x,(gq key)[k]?.getD 0=x:=⟨_,rfl⟩;have hxa:(jk 54 (gq key) k)[k]?.getD 0=x:=by rw [Fv _ _ _ _ (Nat.le_refl _),hx]
   have hxb:(jk 92 (gq key) k)[k]?.getD 0=x:=by rw [Fv _ _ _ _ (Nat.le_refl _),hx]
   have ca:wr.cell? ⟨w.heap.size+2,k,none⟩=some (Extern.Stop.cell x):=(HS.out.a.cell k).trans (by rw [mW _ _ (by rw [oJ,Ez.out];exact hlt),hxa]);have cb:wr.cell? ⟨w.heap.size+3,k,none⟩=some (Extern.Stop.cell x):=(HS.out.b.cell k).trans (by rw [mW _ _ (by rw [oJ,Ez.out];exact hlt),hxb]);have fa:=HS.out.a.fZ k;have fb:=HS.out.b.fZ k;have HN3:Hid (Af w key (jk 54 (gq key) (k+1)) (jk 92 (gq key) (k+1)) ((wr.setCell ⟨w.heap.size+2,k,none⟩ (Extern.Stop.cell (xb 54 x))).setCell ⟨w.heap.size+3,k,none⟩ (Extern.Stop.cell (xb 92 x)))):=ae (by
    have h:=(HS.out.putA k (xb 54 x)).Jq k (xb 92 x);have e1:jk 54 (gq key) (k+1)=(jk 54 (gq key) k).set k (xb 54 x):=by show (jk 54 (gq key) k).set k (xb 54 ((gq key)[k]?.getD 0))=_;rw [hx]
    have e2:jk 92 (gq key) (k+1)=(jk 92 (gq key) k).set k (xb 92 x):=by show (jk 92 (gq key) k).set k (xb 92 ((gq key)[k]?.getD 0))=_;rw [hx]
    rw [e1,e2];exact h)
   rw [Pg 54 x,Pg 92 x] at HN3;simp only [Extern.Stop.cell] at ca cb;clear hx hxa hxb;go_wp2_with fail;go_roundw
   case rel=>exact ⟨k+1,by omega,by go_num,HN3.out⟩
   case measure=>simp [intOf];omega
  ·have MH:k=64:=by omega
   have i1:¬(k:Int)<64:=by omega
   obtain ⟨A,hA⟩:∃A,jk 54 (gq key) 64=A:=⟨_,rfl⟩;obtain ⟨B,hB⟩:∃B,jk 92 (gq key) 64=B:=⟨_,rfl⟩;have hAl:A.length=64:=by rw [<-hA,oJ,Ez.out]
   have hBl:B.length=64:=by rw [<-hB,oJ,Ez.out]
   have hS:=HS.out;rw [MH,hA,hB] at hS;have oD:=ae hS;have HAB:Hid (oh KR key bs=qN KR (B++qN KR (A++bs))):=ae (by unfold oh;rw [hA,hB]);have hlo:=hS.lo;obtain ⟨W2,hW2⟩:∃W,wr.alloc (.cells #[.slice (some ⟨w.heap.size+2,0,none⟩) 64 64, .slice (some ⟨ab,off,none⟩) N c] 55)=W:=⟨_,rfl⟩;have hb2:Below wr.heap.size wr W2:=by rw [<-hW2];exact ag wr _
   have hr2:W2.heap[wr.heap.size]? =some (.cells #[.slice (some ⟨w.heap.size+2,0,none⟩) 64 64, .slice (some ⟨ab,off,none⟩) N c] 55 (0,0)):=by rw [<-hW2];exact heap_alloc_last wr _
   have hsz2:W2.heap.size=wr.heap.size+1:=by rw [<-hW2];simp
   have hlow2:Below w.heap.size w W2:=ah hlo hb2;have hG2:gK W2 0 (aj KR):=⟨dP HG.out.1 hlow2.size,fun i=>(hlow2.cell (p:=⟨0,i,none⟩) HG.out.1).trans (HG.out.2 i)⟩;have HC:Hid (Calls Tryz.prog 73 #[.slice (some ⟨wr.heap.size,0,none⟩) 2 2] W2 fun e w'=>e= .returned (.agg (cellsB (qN KR (A++bs))))/\Below W2.heap.size W2 w'):=
    ae (EU KR HK.out W2 hG2 A bs (A++bs) rfl (by omega) (by rw [HN.out];exact hb0) (by rw [bF,hAl,HN.out];omega) wr.heap.size (w.heap.size+2) 0 64 ab off c
     ((cell_of_row W2 _ 0 _ _ _ hr2).trans (by rw [hAl];rfl)) ((cell_of_row W2 _ 1 _ _ _ hr2).trans (by rw [HN.out];rfl)) (by omega) (by omega) (by omega)
     (fun j hj=>(hb2.cell (p:=⟨w.heap.size+2,0+j,none⟩) (by show w.heap.size+2<wr.heap.size;omega)).trans ((hS.a.cell (0+j)).trans (by rw [Nat.zero_add,mW _ _ hj])))
     (fun j hj=>(hlow2.cell (p:=⟨ab,off+j,none⟩) hla).trans (vk.out j hj)))
   have HS2:=ae (hS.below hb2);have HW2:=ae hW2;have PI:=ae hAl;have Rl:=ae hBl;have qm:=ae hsz2;clear hb2 hr2 hsz2 hlow2 hG2 hS hlo hW2 hA hB hAl hBl MH hlt;go_wp2_with fail;rw [HW2.out];refine HC.out.mono ?_;rintro e W3 ⟨rfl,hb3⟩;have oz:=ae (HS2.out.below hb3);obtain ⟨D1,hD1⟩:∃D,qN KR (A++bs)=D:=⟨_,rfl⟩;have hDl:D1.length=32:=by rw [<-hD1];exact nM _ _
   rw [hD1];have HD1:=ae hD1;have VU:=ae hDl;have HSZD:Hid (∀zs:List UInt8,zs.length=32->(Tryz.prog.info? 24).map (·.size)=some (cellsB zs).size):=ae fun zs hz=>by rw [fG,hz];kernel_rfl
   have HSOD:Hid (∀zs:List UInt8,zs.length=32->(cellsB z32).size=(cellsB zs).size):=ae fun zs hz=>by rw [fG,fG,hz];rfl
   have HA3:=ae (heap_alloc_last W3 (.cells (cellsB z32) 24));have HB3a:=ae (ag W3 (.cells (cellsB z32) 24));have hl3:=oz.out.lt;clear hb3 hD1 hDl HC HW2;go_wp2_with (first
    |(refine aG rfl _ rfl (cellsB z32) qJ ?_)
    |(with_reducible refine bY 24 ?_;refine wpList_store_row rfl _ _ _ rfl W3.heap.size (cellsB D1) rfl rfl 24 (cellsB z32) HA3.out (HSZD.out _ VU.out) (HSOD.out _ VU.out) (oW _) ?_))
   have hS4:Af w key A B ((W3.alloc (.cells (cellsB z32) 24)).setRow W3.heap.size (cellsB D1)):=by
    have h:=oz.out.below HB3a.out;exact ⟨h.kv.kH (by omega),h.res.kH (by omega),h.a.kH (by omega),h.b.kH (by omega),aB h.lo (by omega) _⟩
   have hd4:AV W3.heap.size 24 (cellsB D1) ((W3.alloc (.cells (cellsB z32) 24)).setRow W3.heap.size (cellsB D1)):=⟨setRow_heap _ _ _ _ _ _ HA3.out⟩;have hz4:((W3.alloc (.cells (cellsB z32) 24)).setRow W3.heap.size (cellsB D1)).heap.size=W3.heap.size+1:=by simp [World.setRow]
   generalize (W3.alloc (.cells (cellsB z32) 24)).setRow W3.heap.size (cellsB D1)=W4 at hS4 hd4 hz4 ⊢;obtain ⟨W5,hW5⟩:∃W,(W4.alloc (.cells #[.slice (some ⟨w.heap.size+3,0,none⟩) 64 64, .slice (some ⟨W3.heap.size,0,none⟩) 32 32] 55)).drew=W:=⟨_,rfl⟩;have hb5:Below W4.heap.size W4 W5:=by rw [<-hW5];exact (ag W4 _).drew
   have xw:W5.heap[W4.heap.size]? =some (.cells #[.slice (some ⟨w.heap.size+3,0,none⟩) 64 64, .slice (some ⟨W3.heap.size,0,none⟩) 32 32] 55 (0,0)):=by rw [<-hW5];exact heap_alloc_last W4 _
   have hsz5:W5.heap.size=W4.heap.size+1:=by rw [<-hW5];simp
   have hS5:=hS4.below hb5;have hd5:=hd4.below hb5;have hG5:gK W5 0 (aj KR):=⟨dP HG.out.1 hS5.lo.size,fun i=>(hS5.lo.cell (p:=⟨0,i,none⟩) HG.out.1).trans (HG.out.2 i)⟩;have PK:Hid (Calls Tryz.prog 73 #[.slice (some ⟨W4.heap.size,0,none⟩) 2 2] W5 fun e w'=>e= .returned (.agg (cellsB (qN KR (B++D1))))/\Below W5.heap.size W5 w'):=
    ae (EU KR HK.out W5 hG5 B D1 (B++D1) rfl (by rw [Rl.out];decide) (by rw [VU.out];decide) (by rw [bF,Rl.out,VU.out];decide) W4.heap.size (w.heap.size+3) 0 64 W3.heap.size 0 32
     ((cell_of_row W5 _ 0 _ _ _ xw).trans (by rw [Rl.out];rfl)) ((cell_of_row W5 _ 1 _ _ _ xw).trans (by rw [VU.out];rfl)) (by omega) (by omega) (by omega)
     (fun j hj=>(hS5.b.cell (0+j)).trans (by rw [Nat.zero_add,mW _ _ hj]))
     (fun j hj=>(hd5.cell (0+j)).trans (by rw [Nat.zero_add,mW _ _ hj])))
   have ED:=ae hS5;have HW5:=ae hW5;clear hb5 xw hsz5 hG5 hS5 hd5 hW5 hS4 hd4 HA3 HB3a hz4;go_still_tail 2,(by kernel_rfl);go_wp2_with fail;rw [HW5.out];refine PK.out.mono ?_;rintro e W6 ⟨rfl,hb6⟩;have Xc:=ae (ED.out.below hb6);have hE:qN KR (B++D1)=oh KR key bs:=by rw [HAB.out,HD1.out]
   rw [hE];have HML:=ae (nN KR key bs);clear hb6 hE;go_wp2_with (with_reducible refine bY 24 ?_;refine wpList_store_row rfl _ _ _ rfl (w.heap.size+1) (cellsB (oh KR key bs)) rfl rfl 24 (cellsB z32) Xc.out.res.var (HSZD.out _ HML.out) (HSOD.out _ HML.out) (oW _) ?_);refine bodyPost_ret (v:= .agg (cellsB (oh KR key bs))) (results_cell_row rfl _ _ (w.heap.size+1) _ (cellsB (oh KR key bs)) (0,0) _ rfl (setRow_heap _ _ _ _ _ _ Xc.out.res.var) Tryz.underlying24 rfl (HSZD.out _ HML.out)) rfl ?_;exact ⟨rfl,aB Xc.out.lo (Nat.le_succ _) _⟩
theorem J4 (x y:Int):bits BinOp.or IntKind.u32 x y=bits BinOp.or IntKind.u32 y x:=by simp only [bits,BitVec.or_comm]
theorem kJ (x n s:Int) (h:amt (-n)=s) (hs:s=32 - n):eU x n=kX x (amt (-n)):=by
 rw [h];subst hs;unfold eU kX;rw [J4,show (32:Int) - (32 - n)=n by omega]
theorem tr7 (x:Int):eU x 7=kX x (amt (-7)):=kJ x 7 25 (by decide+kernel) (by decide)
theorem tr18 (x:Int):eU x 18=kX x (amt (-18)):=kJ x 18 14 (by decide+kernel) (by decide)
theorem tr17 (x:Int):eU x 17=kX x (amt (-17)):=kJ x 17 15 (by decide+kernel) (by decide)
theorem tr19 (x:Int):eU x 19=kX x (amt (-19)):=kJ x 19 13 (by decide+kernel) (by decide)
theorem tr6 (x:Int):eU x 6=kX x (amt (-6)):=kJ x 6 26 (by decide+kernel) (by decide)
theorem tr11 (x:Int):eU x 11=kX x (amt (-11)):=kJ x 11 21 (by decide+kernel) (by decide)
theorem tr25 (x:Int):eU x 25=kX x (amt (-25)):=kJ x 25 7 (by decide+kernel) (by decide)
theorem tr2 (x:Int):eU x 2=kX x (amt (-2)):=kJ x 2 30 (by decide+kernel) (by decide)
theorem tr13 (x:Int):eU x 13=kX x (amt (-13)):=kJ x 13 19 (by decide+kernel) (by decide)
theorem tr22 (x:Int):eU x 22=kX x (amt (-22)):=kJ x 22 10 (by decide+kernel) (by decide)
theorem Gz (a b i m:Nat) (hm:m=2 ^ i) (h:b<m):(a*m) ||| b=a*m+b:=by
 subst hm;rw [<-Nat.shiftLeft_eq,Nat.shiftLeft_add_eq_or_of_lt h]
theorem Vo (x0 x1 x2 x3:Int) (a0:0<=x0) (b0:x0<256) (a1:0<=x1) (b1:x1<256) (a2:0<=x2) (b2:x2<256) (a3:0<=x3) (b3:x3<256):
  Q3 x0 x1 x2 x3=x0*16777216+x1*65536+x2*256+x3:=by
 obtain ⟨n0,rfl⟩:=Int.eq_ofNat_of_zero_le a0;obtain ⟨n1,rfl⟩:=Int.eq_ofNat_of_zero_le a1;obtain ⟨n2,rfl⟩:=Int.eq_ofNat_of_zero_le a2;obtain ⟨n3,rfl⟩:=Int.eq_ofNat_of_zero_le a3;have w:∀n:Nat,n<4294967296->IntKind.u32.wrap (n:Int)=(n:Int):=fun n h=>by rw [IntKind.wrap_u32'];omega
 unfold Q3;rw [w n0 (by omega),w n1 (by omega),w n2 (by omega),w n3 (by omega)];rw [show (n0:Int)*16777216=((n0*16777216:Nat):Int) by omega,show (n1:Int)*65536=((n1*65536:Nat):Int) by omega,show (n2:Int)*256=((n2*256:Nat):Int) by omega];rw [w _ (by omega),w _ (by omega),w _ (by omega)];rw [u32_or_nat _ _ (by omega) (by omega),Gz n0 (n1*65536) 24 16777216 (by decide) (by omega)];rw [u32_or_nat _ _ (by omega) (by omega),show n0*16777216+n1*65536=(n0*256+n1)*65536 by omega,Gz _ (n2*256) 16 65536 (by decide) (by omega)];rw [u32_or_nat _ _ (by omega) (by omega),show (n0*256+n1)*65536+n2*256=((n0*256+n1)*256+n2)*256 by omega,Gz _ n3 8 256 (by decide) (by omega)];omega
theorem YP (e:Int) (h0:0<=e) (h1:e<4294967296):bits BinOp.xor IntKind.u32 (if IntKind.u32.signed=true then -1 else IntKind.u32.max) e=4294967295 - e:=by
 obtain ⟨n,rfl⟩:=Int.eq_ofNat_of_zero_le h0;rw [show (if IntKind.u32.signed=true then (-1:Int) else IntKind.u32.max)=((4294967295:Nat):Int) from by decide,u32_xor_nat _ _ (by decide) (by omega)];have h2:4294967295 ^^^ n=4294967295 - n:=by
  have h:=congrArg BitVec.toNat (BitVec.allOnes_xor (x:=BitVec.ofNat 32 n));rw [BitVec.toNat_xor,BitVec.toNat_not,BitVec.toNat_allOnes,BitVec.toNat_ofNat,Nat.mod_eq_of_lt (by omega)] at h;exact h
 rw [h2];omega
theorem KE.to {w W:World} {zs zs':List Int} (h:KE w zs W) (e:zs=zs'):KE w zs' W:=e▸h
theorem sch_in {xs:List UInt8} {zs:List Int} {k:Nat} {x0 x1 x2 x3:Int} (h:zs=gW xs k) (hk:k<16) (e0:((xs[4*k]?.getD 0).toNat:Int)=x0) (e1:((xs[4*k+1]?.getD 0).toNat:Int)=x1) (e2:((xs[4*k+2]?.getD 0).toNat:Int)=x2) (e3:((xs[4*k+3]?.getD 0).toNat:Int)=x3):
  zs.set k ((x0%4294967296*16777216+x1%4294967296*65536+x2%4294967296*256+x3)%4294967296)=gW xs (k+1):=by
 show _=(gW xs k).set k (if k<16 then wIn xs k else Fj (gW xs k) k);have b0:=fA (xs[4*k]?.getD 0);have b1:=fA (xs[4*k+1]?.getD 0);have b2:=fA (xs[4*k+2]?.getD 0);have b3:=fA (xs[4*k+3]?.getD 0);rw [if_pos hk,h];unfold wIn;rw [Vo _ _ _ _ (by omega) (by omega) (by omega) (by omega) (by omega) (by omega) (by omega) (by omega),e0,e1,e2,e3];congr 1;omega
theorem UW {xs:List UInt8} {zs:List Int} {k:Nat} {za zx zb zy:Int} (h:zs=gW xs k) (hk:16<=k) (e0:zs[k - 16]?.getD 0=za) (e1:zs[k - 15]?.getD 0=zx) (e2:zs[k - 7]?.getD 0=zb) (e3:zs[k - 2]?.getD 0=zy):
  zs.set k ((((za+bits BinOp.xor IntKind.u32 (bits BinOp.xor IntKind.u32 (eU zx 7) (eU zx 18)) (zx / 8))%4294967296+zb)%4294967296+bits BinOp.xor IntKind.u32 (bits BinOp.xor IntKind.u32 (eU zy 17) (eU zy 19)) (zy / 1024))%4294967296)=gW xs (k+1):=by
 show _=(gW xs k).set k (if k<16 then wIn xs k else Fj (gW xs k) k);rw [if_neg (by omega),<-h];unfold Fj Dc;rw [e0,e1,e2,e3,tr7,tr18,tr17,tr19];congr 1;generalize bits BinOp.xor IntKind.u32 (bits BinOp.xor IntKind.u32 (kX zx (amt (-7))) (kX zx (amt (-18)))) (zx / 8)=X;generalize bits BinOp.xor IntKind.u32 (bits BinOp.xor IntKind.u32 (kX zy (amt (-17))) (kX zy (amt (-19)))) (zy / 1024)=Y;omega
theorem TC (w:World) (bb off c:Nat) (xs:List UInt8) (hx:xs.length=64) (hb:bb<w.heap.size) (hA:∀j,j<64->w.cell? ⟨bb,off+j,none⟩=some (Extern.Stop.cell (xs[j]?.getD 0))):
  Calls Tryz.prog 100 #[.slice (some ⟨bb,off,none⟩) 64 c] w fun e w'=>e= .returned (.agg (aj (gW xs 64)))/\Below w.heap.size w w':=by
 have HX:=ae hx;have HA:=ae hA;clear hx hA;have hi0:=iV;obtain ⟨z64,Ea⟩:∃l:List Int,List.replicate 64 0=l:=⟨_,rfl⟩;rw [Ea] at hi0;have HI0:=ae hi0;have HZ:=ae Ea;have EF:Hid (z64.length=64):=ae (by rw [<-Ea];rfl);have dU:Hid ((Tryz.prog.info? 190).map (·.size)=some (aj z64).size):=ae (by rw [aW,EF.out];kernel_rfl);have HLIT:Hid (Value.agg (aj z64)= .agg #[.int .u32 0, .int .u32 0, .int .u32 0, .int .u32 0, .int .u32 0, .int .u32 0, .int .u32 0, .int .u32 0, .int .u32 0, .int .u32 0, .int .u32 0, .int .u32 0, .int .u32 0, .int .u32 0, .int .u32 0, .int .u32 0, .int .u32 0, .int .u32 0, .int .u32 0, .int .u32 0, .int .u32 0, .int .u32 0, .int .u32 0, .int .u32 0, .int .u32 0, .int .u32 0, .int .u32 0, .int .u32 0, .int .u32 0, .int .u32 0, .int .u32 0, .int .u32 0, .int .u32 0, .int .u32 0, .int .u32 0, .int .u32 0, .int .u32 0, .int .u32 0, .int .u32 0, .int .u32 0, .int .u32 0, .int .u32 0, .int .u32 0, .int .u32 0, .int .u32 0, .int .u32 0, .int .u32 0, .int .u32 0, .int .u32 0, .int .u32 0, .int .u32 0, .int .u32 0, .int .u32 0, .int .u32 0, .int .u32 0, .int .u32 0, .int .u32 0, .int .u32 0, .int .u32 0, .int .u32 0, .int .u32 0, .int .u32 0, .int .u32 0, .int .u32 0]):=ae (by rw [<-Ea];rfl);clear hi0 Ea;go_enter Tryz.func100,Tryz.ntmps100;go_wp2_with (first
  |(refine aG rfl _ rfl (aj z64) HI0.out ?_)
  |((with_reducible refine dW 190 ?_);go_must (refine wpList_store_row rfl _ _ _ rfl (w.alloc (.cells (aj z64) 190)).heap.size (aj z64) rfl HLIT.out.symm 190 (aj z64) (heap_alloc_last _ _) dU.out rfl (bQ _) ?_)))
 have H0:Hid (KE w z64 (((w.alloc (.cells (aj z64) 190)).alloc (.cells (aj z64) 190)).setRow (w.heap.size+1) (aj z64))):=ae ⟨⟨setRow_heap _ _ _ _ _ _ (heap_alloc2_new w _ _)⟩,⟨by rw [HZ.out];exact (setRow_other _ _ _ _ (by omega)).trans (heap_alloc2_old w _ _)⟩,below_setRow (ah (ag w _) (ag _ _)) (by omega) _⟩
 go_loopw [4] (fun i wr=>∃(k:Nat) (zs:List Int),k<=16/\i=I k/\zs.length=64/\zs=gW xs k/\KE w zs wr) (fun i _=>16 - (intOf i).toNat)
 case atStart=>exact ⟨0,z64,Nat.zero_le _,rfl,EF.out,HZ.out.symm,H0.out⟩
 case round=>
  obtain ⟨k,zs,hk,rfl,hzl,hzs,hs⟩:=hrel;have P5:=ae hzs;have HS:=ae hs;have HL:=ae hzl;clear H0 hs hzl hzs;by_cases hlt:(k:Int)<16
  ·obtain ⟨p,hp⟩:∃p:Nat,4*k=p:=⟨_,rfl⟩;obtain ⟨p1,hp1⟩:∃q:Nat,p+1=q:=⟨_,rfl⟩;obtain ⟨p2,hp2⟩:∃q:Nat,p+2=q:=⟨_,rfl⟩;obtain ⟨p3,hp3⟩:∃q:Nat,p+3=q:=⟨_,rfl⟩;have c0:wr.cell? ⟨bb,off+p,none⟩=some (Extern.Stop.cell (xs[p]?.getD 0)):=(HS.out.lo.cell (p:=⟨bb,off+p,none⟩) hb).trans (HA.out p (by omega));have c1:wr.cell? ⟨bb,off+p1,none⟩=some (Extern.Stop.cell (xs[p1]?.getD 0)):=(HS.out.lo.cell (p:=⟨bb,off+p1,none⟩) hb).trans (HA.out p1 (by omega));have c2:wr.cell? ⟨bb,off+p2,none⟩=some (Extern.Stop.cell (xs[p2]?.getD 0)):=(HS.out.lo.cell (p:=⟨bb,off+p2,none⟩) hb).trans (HA.out p2 (by omega));have c3:wr.cell? ⟨bb,off+p3,none⟩=some (Extern.Stop.cell (xs[p3]?.getD 0)):=(HS.out.lo.cell (p:=⟨bb,off+p3,none⟩) hb).trans (HA.out p3 (by omega));obtain ⟨x0,e0⟩:∃x:Int,((xs[p]?.getD 0).toNat:Int)=x:=⟨_,rfl⟩;obtain ⟨x1,e1⟩:∃x:Int,((xs[p1]?.getD 0).toNat:Int)=x:=⟨_,rfl⟩;obtain ⟨x2,e2⟩:∃x:Int,((xs[p2]?.getD 0).toNat:Int)=x:=⟨_,rfl⟩;obtain ⟨x3,e3⟩:∃x:Int,((xs[p3]?.getD 0).toNat:Int)=x:=⟨_,rfl⟩;replace c0:wr.cell? ⟨bb,off+p,none⟩=some (.int .u8 x0):=c0.trans (by rw [<-e0];rfl);replace c1:wr.cell? ⟨bb,off+p1,none⟩=some (.int .u8 x1):=c1.trans (by rw [<-e1];rfl);replace c2:wr.cell? ⟨bb,off+p2,none⟩=some (.int .u8 x2):=c2.trans (by rw [<-e2];rfl);replace c3:wr.cell? ⟨bb,off+p3,none⟩=some (.int .u8 x3):=c3.trans (by rw [<-e3];rfl);have g0:4*(k:Int)=(p:Int):=by omega
   have g1:(p:Int)+1=(p1:Int):=by omega
   have g2:(p:Int)+2=(p2:Int):=by omega
   have g3:(p:Int)+3=(p3:Int):=by omega
   have w0:IntKind.i64.wrap (p:Int)=(p:Int):=by rw [IntKind.wrap_i64];omega
   have w1:IntKind.i64.wrap (p1:Int)=(p1:Int):=by rw [IntKind.wrap_i64];omega
   have w2:IntKind.i64.wrap (p2:Int)=(p2:Int):=by rw [IntKind.wrap_i64];omega
   have w3:IntKind.i64.wrap (p3:Int)=(p3:Int):=by rw [IntKind.wrap_i64];omega
   have b0:(p:Int)<64:=by omega
   have b1:(p1:Int)<64:=by omega
   have b2:(p2:Int)<64:=by omega
   have b3:(p3:Int)<64:=by omega
   have HE:=ae (And.intro (And.intro e0 e1) (And.intro e2 e3));have HP:=ae (And.intro hp (And.intro hp1 (And.intro hp2 hp3)));clear e0 e1 e2 e3 hp hp1 hp2 hp3;obtain ⟨z0,hz0⟩:∃z,zs[k]?.getD 0=z:=⟨_,rfl⟩;have hv:wr.cell? ⟨w.heap.size+1,k,none⟩=some (.int .u32 z0):=(HS.out.var.cell k).trans (by rw [bU _ _ (by rw [HL.out];omega),hz0]);have hf:=HS.out.var.fZ k;have MH:(k:Int)<64:=by omega
   go_wp2_with fail;go_still_tail 35,(by kernel_rfl);change wpList _ _ _ _ _ wr.drew;go_wp2_with fail;go_roundw
   case rel=>exact ⟨k+1,gW xs (k+1),by omega,by go_num,nT _ _,rfl,(HS.out.drew.put k _).to (sch_in P5.out (by omega) (by rw [HP.out.1];exact HE.out.1.1) (by rw [HP.out.1,HP.out.2.1];exact HE.out.1.2) (by rw [HP.out.1,HP.out.2.2.1];exact HE.out.2.1) (by rw [HP.out.1,HP.out.2.2.2];exact HE.out.2.2))⟩
   case measure=>simp [intOf];omega
  ·have H1:Hid (∃zs:List Int,zs.length=64/\zs=gW xs 16/\KE w zs wr):=ae ⟨zs,HL.out,by rw [P5.out,show k=16 by omega],HS.out⟩;go_wp2_with fail
   go_loopw [5] (fun i wr=>∃(k:Nat) (zs:List Int),16<=k/\k<=64/\i=I k/\zs.length=64/\zs=gW xs k/\KE w zs wr) (fun i _=>64 - (intOf i).toNat)
   case atStart=>exact H1.out.elim fun zs h=>⟨16,zs,by omega,by omega,rfl,h.1,h.2.1,h.2.2⟩
   case round=>
    clear hlt HS HL P5;obtain ⟨k,zs,hk0,hk,rfl,hzl,hzs,hs⟩:=hrel;have P5:=ae hzs;have HS:=ae hs;have HL:=ae hzl;clear hs hzl hzs;by_cases hlt:(k:Int)<64
    ·obtain ⟨q16,Ue⟩:∃q:Nat,k - 16=q:=⟨_,rfl⟩;obtain ⟨Nq,Ud⟩:∃q:Nat,k - 15=q:=⟨_,rfl⟩;obtain ⟨q7,hq7⟩:∃q:Nat,k - 7=q:=⟨_,rfl⟩;obtain ⟨q2,hq2⟩:∃q:Nat,k - 2=q:=⟨_,rfl⟩;obtain ⟨za,hza⟩:∃z,zs[q16]?.getD 0=z:=⟨_,rfl⟩;obtain ⟨zx,hzx⟩:∃z,zs[Nq]?.getD 0=z:=⟨_,rfl⟩;obtain ⟨zb,hzb⟩:∃z,zs[q7]?.getD 0=z:=⟨_,rfl⟩;obtain ⟨zy,hzy⟩:∃z,zs[q2]?.getD 0=z:=⟨_,rfl⟩;have va:∀n,(wr.drewN n).cell? ⟨w.heap.size+1,q16,none⟩=some (.int .u32 za):=fun n=>(HS.out.var.cell q16).trans (by rw [bU _ _ (by rw [HL.out];omega),hza]);have vx:wr.cell? ⟨w.heap.size+1,Nq,none⟩=some (.int .u32 zx):=(HS.out.var.cell Nq).trans (by rw [bU _ _ (by rw [HL.out];omega),hzx]);have vb:∀n,(wr.drewN n).cell? ⟨w.heap.size+1,q7,none⟩=some (.int .u32 zb):=fun n=>(HS.out.var.cell q7).trans (by rw [bU _ _ (by rw [HL.out];omega),hzb]);have vy:wr.cell? ⟨w.heap.size+1,q2,none⟩=some (.int .u32 zy):=(HS.out.var.cell q2).trans (by rw [bU _ _ (by rw [HL.out];omega),hzy]);have g16:(k:Int) - 16=(q16:Int):=by omega
     have g15:(k:Int) - 15=(Nq:Int):=by omega
     have g7:(k:Int) - 7=(q7:Int):=by omega
     have g2:(k:Int) - 2=(q2:Int):=by omega
     obtain ⟨z0,hz0⟩:∃z,zs[k]?.getD 0=z:=⟨_,rfl⟩;have v0:∀n,(wr.drewN n).cell? ⟨w.heap.size+1,k,none⟩=some (.int .u32 z0):=fun n=>(HS.out.var.cell k).trans (by rw [bU _ _ (by rw [HL.out];omega),hz0]);have hf:∀n,(wr.drewN n).frozen? ⟨w.heap.size+1,k,none⟩=false:=fun n=>HS.out.var.fZ k;have HQ:=ae (show zs[k - 16]?.getD 0=za/\zs[k - 15]?.getD 0=zx/\zs[k - 7]?.getD 0=zb/\zs[k - 2]?.getD 0=zy from ⟨by rw [Ue];exact hza,by rw [Ud];exact hzx,by rw [hq7];exact hzb,by rw [hq2];exact hzy⟩);clear hza hzx hzb hzy Ue Ud hq7 hq2 hz0;have wq16:IntKind.i64.wrap (q16:Int)=(q16:Int):=by rw [IntKind.wrap_i64];omega
     have wq15:IntKind.i64.wrap (Nq:Int)=(Nq:Int):=by rw [IntKind.wrap_i64];omega
     have wq7:IntKind.i64.wrap (q7:Int)=(q7:Int):=by rw [IntKind.wrap_i64];omega
     have wq2:IntKind.i64.wrap (q2:Int)=(q2:Int):=by rw [IntKind.wrap_i64];omega
     have b16:(q16:Int)<64:=by omega
     have b15:(Nq:Int)<64:=by omega
     have b7:(q7:Int)<64:=by omega
     have b2:(q2:Int)<64:=by omega
     go_wp2_with fail;go_quiet (fail);go_wp2_with fail;have n16:(⟨w.heap.size+1,k,none⟩:Addr)≠⟨w.heap.size+1,q16,none⟩:=fun e=>by have:=congrArg Addr.off e;simp at this;omega
     have n7:(⟨w.heap.size+1,k,none⟩:Addr)≠⟨w.heap.size+1,q7,none⟩:=fun e=>by have:=congrArg Addr.off e;simp at this;omega
     go_region_held3 (fun W=>W.cell? ⟨w.heap.size+1,q16,none⟩=some (.int .u32 za)/\W.cell? ⟨w.heap.size+1,q7,none⟩=some (.int .u32 zb))
      (first|exact ⟨va 0,vb 0⟩|exact ⟨(World.cell?_setCell_other _ _ _ _ n16).trans (va 0),(World.cell?_setCell_other _ _ _ _ n7).trans (vb 0)⟩)
      (first|(go_at_call 102;refine (Ve _ _ _ (by omega) (by omega)).mono ?_;rintro e wf ⟨rfl,m,rfl⟩))
     all_goals
      go_wp2_with fail;go_roundw
      case rel=>exact ⟨k+1,gW xs (k+1),by omega,by omega,by go_num,nT _ _,rfl,((HS.out.drewN _).put k _).to (UW P5.out hk0 HQ.out.1 HQ.out.2.1 HQ.out.2.2.1 HQ.out.2.2.2)⟩
      case measure=>simp [intOf];omega
    ·have hke:k=64:=by omega
     have qm:Hid ((Tryz.prog.info? 190).map (·.size)=some (aj zs).size):=ae (by rw [aW,HL.out];kernel_rfl);have HRW:Hid (gK wr (w.heap.size+1) (aj zs)):=ae ⟨HS.out.var.lt,HS.out.var.cell⟩;have lg:Hid ((aj (List.replicate 64 0)).size=(aj zs).size):=ae (by rw [aW,aW,HL.out];simp);go_wp2_with (first
      |((with_reducible refine eF 190 ?_);go_must (refine aP rfl _ _ rfl (w.heap.size+1) rfl (aj zs) HRW.out _ Tryz.underlying190 rfl qm.out ?_))
      |((with_reducible refine dW 190 ?_);go_must (refine wpList_store_row rfl _ _ _ rfl w.heap.size (aj zs) rfl rfl 190 (aj (List.replicate 64 0)) HS.out.res.var qm.out lg.out (bQ _) ?_)))
     refine bodyPost_ret (v:= .agg (aj zs)) (results_cell_row rfl _ _ w.heap.size _ (aj zs) (0,0) _ rfl (setRow_heap _ _ _ _ _ _ HS.out.res.var) Tryz.underlying190 rfl qm.out) rfl ?_;exact ⟨by rw [P5.out,hke],aB HS.out.lo (Nat.le_refl _) _⟩
end Go.Proofs.YtbaehbbonkljpaaGreatDoor
