/- The texts TbW, TbX, TbM, TbK, TbR, TbJ, Pb, Qd, in this order. -/
import Derived.Test.YtbaehbbonkljpaaGreatDoorT01
set_option maxRecDepth 10000
set_option maxHeartbeats 8000000
namespace Go.Proofs.YtbaehbbonkljpaaGreatDoor
open Go Go.RowKit
def NJ (w:ae)(g:Nat)(v:ah)(bs:ag au):Prop:=
 w.heap[g]? =some (.cells #[v] 93 (0,0))/\w.ownsRow (g+1) 5 1 v bs.length (bs.map Extern.Stop.cell)
theorem ai1 {w w1:ae}{g:Nat}{v v':ah}{bs:ag au}{c:au}{o:Obj}(h:NJ w g v bs)(hg:g<w.heap.size)
  (hown:w1.ownsRow (g+1) 5 1 v' (bs.length+1) (bs.map Extern.Stop.cell++ [Extern.Stop.cell c]))(hgrow:(w.alloc o).grownBy w1 v.ownBlock)
  (hat:v'.ownBlock=v.ownBlock\/v'.ownBlock=some (w.heap.size+1)):
  w1.heap[g]? =some (.cells #[v] 93 (0,0))/\NJ (w1.setCell ⟨g,0,none⟩ v') g v' (bs++ [c])/\Oj g v w v' (w1.setCell ⟨g,0,none⟩ v'):=by
 have hne:some g≠v.ownBlock:=MV h.2 g (jy g);have hg1:w1.heap[g]? =some (.cells #[v] 93 (0,0)):=by
  rw[hgrow.block g (by simp;omega) hne,aV w o g hg];exact h.1
 refine⟨hg1,⟨?_,?_⟩,?_⟩
 ·rw[bJ w1 g 0 _ _ v' hg1];rfl
 ·have:=Nl (u:=v') (p:=⟨g,0,none⟩) hown (MV hown g (jy g));simpa using this
 ·refine⟨hgrow.os,hgrow.tape,hgrow.output,?_,fun k hk hkg hkv=>?_,?_⟩
  ·have:=hgrow.size;simp[World.setCell] at this⊢;omega
  ·rw[aN w1 _ k v' hkg,hgrow.block k (by simp;omega) hkv,aV w o k hk]
  ·rcases hat with e|e
   ·exact .inl e
   ·exact .inr ⟨_,e,by omega⟩
def OD (w:ae)(g:Nat)(v:ah)(bs:ag au)(e:Ending)(w':ae):Prop:=
 e=.returned (.tuple #[])/\∃v',NJ w' g v' bs/\Oj g v w v' w'
def av6 (w:ae)(g:Nat)(v:ah)(bs:ag au)(n:Int)(size:Nat)(x i:ah)(wr:ae):Prop:=
 ∃k:Nat,k<=size/\i=.int .i64 k/\x=.int .i64 (PM n k)/\∃v',NJ wr g v' (bs++le n k)/\Oj g v w v' wr
theorem Lp (w:ae)(g:Nat)(p:Addr)(v:ah)(bs:ag au)(n:Int)(size:Nat)(hn0: -9223372036854775808<=n)(hn1:n<=9223372036854775807)(hs:size<=8)(hl:bs.length<=1099511627776)(hg:g<w.heap.size)(hst:NJ w g v bs)(hp:w.cell? p=some (I n)):
  Calls Tryz.prog 177 #[pt g,.pointer (some p),I size] w (OD w g v (bs++le n size)):=by
 obtain⟨i0,hi,hz0,hz1,hz2⟩:=dN Qb;have HST:=JJ hst;clear hst;go_enter Tryz.func177,Tryz.ntmps177
 go_wp2
 go_loopw [6,11] (fun x i wr=>av6 w g v bs n size x i wr) (fun _ i _=>size - (intOf i).toNat)
 case atStart=>exact⟨0,aG _,rfl,rfl,v,by simpa[le] using HST.out,Oj.refl _ _ _⟩
 case round=>
  obtain⟨k,hk,rfl,rfl,v1,hw1,hk1⟩:=hrel;by_cases hlt:k<size
  ·obtain⟨x,hx⟩:∃x,PM n k=x:=⟨_,rfl⟩;have hbd:=age n k hn0 hn1;rw[hx] at hbd⊢;have HX:=JJ hx;obtain⟨B,hB⟩:∃B,bs++le n k=B:=⟨_,rfl⟩;have hlen:B.length<=1099511627784:=by rw[<-hB,KN,J4];omega
   rw[hB] at hw1;have HBB:=JJ hB;have hc:=aC wr g 0 _ _ _ hw1.1;have hgr:g<wr.heap.size:=LK hg hk1.size;have HW:=JJ hw1;have HK:=JJ hk1;have hown:=JJ hw1.2;clear hx hw1 hk1 hB;go_wp2_with(at_builtin;refine bK _ rfl _ _ 55 rfl (g+1) 5 i0 (.int .u8 0) 1 1 bC hi hz0 hz1 hz2 rfl (by decide) _ _ _ rfl (hown.out.alloc _) ⟨wr.heap.size,0,none⟩ 1 1 [Extern.Stop.cell (byteOf x)] rfl rfl ?c1 ?c2 ?c3 ?c4 ?c5 ?_)
   case c1=>
    rw[LH];exact jk _ _ _
   case c2=>intro u hu;simp at hu;subst hu;rfl
   case c3=>unfold maxLen;omega
   case c4=>omega
   case c5=>simp;omega
   intro v' w1 hown' hgrow _ hat;obtain⟨hg1,hst1,awI⟩:=ai1 HW.out hgr hown' hgrow hat;obtain⟨g',cap',rfl,_⟩:=LW hown' (jl _);have hc1:=aC w1 g 0 _ _ _ hg1;have hf1:=aP w1 g 0 _ _ hg1;have azl:=JJ hst1;have ay6:=JJ awI;clear hown' hgrow hat hg1 hst1 awI hc
   go_wp2
   go_roundw
   case rel=>exact⟨k+1,by omega,by go_num,by unfold PM;rw[HX.out],_,by rw[acp,<-aH,HBB.out,HX.out];exact azl.out,HK.out.trans ay6.out⟩
   case measure=>simp[intOf];omega
  ·have hke:k=size:=by omega
   have Y9:=JJ hke;have HW:=JJ hw1;have HK:=JJ hk1;clear hke hw1 hk1
   go_wp2
   go_end0
   exact⟨rfl,v1,by rw[<-Y9.out];exact HW.out,HK.out⟩
theorem NJ.lt {w:ae}{g:Nat}{v:ah}{bs:ag au}(h:NJ w g v bs):g<w.heap.size:=(KY.1 h.1).1
theorem NJ.grow {w w':ae}{g:Nat}{v:ah}{bs:ag au}(h:NJ w g v bs)(hb:ai w.heap.size w w'):NJ w' g v bs/\Oj g v w v w':=
 ⟨⟨(hb.block g h.lt).trans h.1,MK h.2 fun k _ hk=>hb.block k hk⟩,⟨hb.os,hb.tape,hb.output,hb.size,fun k hk _ _=>hb.block k hk,.inl rfl⟩⟩
theorem NJ.far {w w':ae}{g:Nat}{v v':ah}{bs:ag au}(_h:NJ w g v bs)(hk:Oj g v w v' w')(b:Nat)(hb:b<w.heap.size)(hg:b≠g)(ho:some b≠v.ownBlock):w'.heap[b]? =w.heap[b]? :=hk.block b hb hg ho
theorem NJ.new_ne {w:ae}{g:Nat}{v:ah}{bs:ag au}(h:NJ w g v bs):w.heap.size≠g/\some w.heap.size≠v.ownBlock:=
 ⟨by have:=h.lt;omega,fun e=>by have:=af2 h.2 _ e.symm;omega⟩
theorem Pv (w:ae)(g:Nat)(v:ah)(bs:ag au)(n:Int)(size:Nat)(hn0: -9223372036854775808<=n)(hn1:n<=9223372036854775807)(hs:size<=8)(hl:bs.length<=1099511627776)(hst:NJ w g v bs):
  Calls Tryz.prog 176 #[pt g,I n,I size] w fun e w'=>e=.returned (I n)/\∃v',NJ w' g v' (bs++le n size)/\Oj g v w v' w':=by
 obtain⟨h1,h2⟩:=hst.grow (JM w (.cells #[I n] 3));have hne:=hst.new_ne;have HC:=JJ (Lp (w.alloc (.cells #[I n] 3)) g ⟨w.heap.size,0,none⟩ v bs n size hn0 hn1 hs hl h1.lt h1 ((Row.new w #[I n] 3).2 0));have HB:=JJ (aF w (.cells #[I n] 3));have H1:=JJ h1;have H2:=JJ h2;have HNE:=JJ hne;clear h1 h2 hst hne;go_enter Tryz.func176,Tryz.ntmps176;go_wp2_with fail;refine HC.out.mono ?_;rintro e w1 ⟨rfl,v1,hs1,hk1⟩;have k1:w1.cell? ⟨w.heap.size,0,none⟩=some (I n):=aC w1 _ 0 _ _ _ ((H1.out.far hk1 w.heap.size (by simp) HNE.out.1 HNE.out.2).trans HB.out);have HS:=JJ hs1;have HK:=JJ (H2.out.trans hk1);clear hs1 hk1 HC;go_wp2_with fail;go_ret;exact⟨rfl,v1,HS.out,HK.out⟩
theorem aeE {w W w1:ae}{g m:Nat}{v v':ah}{bs xs:ag au}(h:NJ w g v bs)(hW:W.heap=w.heap)(h1:W.os=w.os)(h2:W.tape=w.tape)(h3:W.output=w.output)(hm:m=bs.length+xs.length)
  (hown:w1.ownsRow (g+1) 5 1 v' m (bs.map Extern.Stop.cell++xs.map Extern.Stop.cell))(hgrow:W.grownBy w1 v.ownBlock)(hat:v'.ownBlock=v.ownBlock\/v'.ownBlock=some w.heap.size):
  w1.heap[g]? =some (.cells #[v] 93 (0,0))/\NJ (w1.setCell ⟨g,0,none⟩ v') g v' (bs++xs)/\Oj g v w v' (w1.setCell ⟨g,0,none⟩ v'):=by
 subst hm;have hg:=h.lt;have hne:some g≠v.ownBlock:=MV h.2 g (jy g);have hg1:w1.heap[g]? =some (.cells #[v] 93 (0,0)):=by
  rw[hgrow.block g (by rw[hW];exact hg) hne,hW];exact h.1
 refine⟨hg1,⟨?_,?_⟩,?_⟩
 ·rw[bJ w1 g 0 _ _ _ hg1];rfl
 ·have:=Nl (u:=v') (p:=⟨g,0,none⟩) hown (MV hown g (jy g));simpa using this
 ·refine⟨hgrow.os.trans h1,hgrow.tape.trans h2,hgrow.output.trans h3,?_,fun k hk hkg hkv=>?_,?_⟩
  ·have:=hgrow.size;rw[hW] at this;simp[World.setCell];omega
  ·rw[aN w1 _ k _ hkg,hgrow.block k (by rw[hW];exact hk) hkv,hW]
  ·exact hat.elim .inl fun e=>.inr ⟨_,e,ay _⟩
theorem Vp (w:ae)(g:Nat)(p:Addr)(v:ah)(bs:ag au)(n:Int)(hn0: -9223372036854775808<=n)(hn1:n<=9223372036854775807)(hl:bs.length<=1099511627776)(hst:NJ w g v bs)(hp:w.cell? p=some (I n)):
  Calls Tryz.prog 178 #[pt g,.pointer (some p)] w (OD w g v (bs++le n 2)):=by
 have HC:=JJ (Lp w g p v bs n 2 hn0 hn1 (by omega) hl hst.lt hst hp);clear hst hp;go_enter Tryz.func178,Tryz.ntmps178;go_wp2_with fail;refine HC.out.mono ?_;rintro e w1 ⟨rfl,h⟩;have H:=JJ h;clear h HC;go_wp2_with fail
 go_end0
 exact⟨rfl,H.out⟩
theorem aez (w:ae)(g db off:Nat)(v:ah)(bs ds:ag au)(hl:bs.length<=1000000000000)(hd:w.rangeAt db off (JO ds))(h32:ds.length=32)(hst:NJ w g v bs):
  Calls Tryz.prog 174 #[pt g,.pointer (some ⟨db,off,none⟩)] w (OD w g v (bs++ds)):=by
 have hc0:w.cell? ⟨g,0,none⟩=some v:=aC w g 0 _ _ _ hst.1;have hgl:g<w.heap.size:=hst.lt;have HI:=JJ hst;obtain⟨i0,hi,hz0,hz1,hz2⟩:=dN Qb;have hnews:∀j u,(JO ds)[j]? =some u->w.drew.cell? ((⟨db,off,none⟩:Addr).add j)=some u:=fun j u hu=>by
  rw[jb];exact hd j u hu
 have hmx:bs.length+32<=maxLen:=by unfold maxLen;omega
 have hby:(bs.length+32)*1<=140737488355328:=by omega
 clear hst hd;go_enter Tryz.func174,Tryz.ntmps174;go_wp2_with fail
 go_region_law ((refine fP _ (by rfl) _ _ _ (by rfl) (g+1) 5 i0 _ 1 1 bC hi hz0 hz1 hz2 rfl (by omega) v bs.length (bs.map Extern.Stop.cell) (by rfl) (HI.out.2.drew) ⟨db,off,none⟩ 32 32 (JO ds) (by rfl) (by simp[JO,h32]) hnews (Q5 ds) (by omega) hmx hby (Nat.succ_le_of_lt hgl) w.heap.size rfl ?_;intro gg cap w1 hown1 hgrow hat hlt;have hS:=aeE (w:=w) (W:=w.drew) (xs:=ds) (m:=bs.length+32) HI.out rfl rfl rfl rfl (by rw[h32]) hown1 hgrow (hat.elim (fun e=>.inl e.symm) (fun e=>.inr (by rw[<-e];rfl)));have hc2:w1.cell? ⟨g,0,none⟩=some v:=aC w1 g 0 _ _ _ hS.1;have hf2:=aP w1 g 0 _ _ hS.1;have RX:=JJ hS;clear hS hown1 hgrow hat hlt))
 all_goals
  go_wp2
  go_end0
  exact⟨rfl,_,RX.out.2.1,RX.out.2.2⟩
theorem ai0 (w:ae)(g:Nat)(p:Addr)(v:ah)(bs:ag au)(s:ByteArray)(hs:s.size<=1000000)(hl:bs.length<=1000000000)(hst:NJ w g v bs)(hp:w.cell? p=some (.string s))(hpg:p.block≠g)(hpv:some p.block≠v.ownBlock)(hpl:p.block<w.heap.size):
  Calls Tryz.prog 179 #[pt g,.pointer (some p)] w (OD w g v (bs++(le s.size 1++s.data.toList))):=by
 have HC:=JJ (Pv w g v bs s.size 1 (by omega) (by omega) (by omega) (by omega) hst);have HST:=JJ hst;have HPK:=JJ (show p.block≠g/\some p.block≠v.ownBlock from⟨hpg,hpv⟩);clear hst hpg hpv;go_enter Tryz.func179,Tryz.ntmps179;go_wp2_with fail;refine HC.out.mono ?_;rintro e w1 ⟨rfl,v1,hw1,hk1⟩;have hlen:(bs++le (s.size:Int) 1).length<=1000000008:=by rw[KN,J4];omega
 have hpos:0<(bs++le (s.size:Int) 1).length:=by rw[KN,J4];omega
 obtain⟨B,hB⟩:∃B,bs++le (s.size:Int) 1=B:=⟨_,rfl⟩;rw[hB] at hw1 hlen hpos;have hp1:w1.cell? p=some (.string s):=(bI (hk1.block p.block hpl HPK.out.1 HPK.out.2)).trans hp;have HB:=JJ hB;have HW:=JJ hw1;have HK:=JJ hk1;have hc1:=aC w1 g 0 _ _ _ hw1.1;have hgl:g<w1.heap.size:=hw1.lt;clear hB hw1 hk1 HC hp;go_wp2_with fail
 go_region_law ((refine acE (by rfl) _ _ (by rfl) (g+1) v1 B.length (B.map Extern.Stop.cell) (by rfl) (HW.out.2.drew) s (by rfl) (by omega) (Nat.succ_le_of_lt hgl) (by omega) ?_;intro gg cap w2 hown2 hgrow hat;have hS:=aeE (w:=w1) (W:=w1.drew) (xs:=s.data.toList) (m:=B.length+s.size) HW.out rfl rfl rfl rfl (by rw[dF];rfl) hown2 hgrow hat;have hc2:w2.cell? ⟨g,0,none⟩=some v1:=aC w2 g 0 _ _ _ hS.1;have hf2:=aP w2 g 0 _ _ hS.1;have RX:=JJ hS;clear hS hown2 hgrow hat))
 all_goals
  go_wp2
  go_end0
  exact⟨rfl,_,by rw[<-aH,HB.out];exact RX.out.2.1,HK.out.trans RX.out.2.2⟩
theorem O8 (n:Nat)(a:Addr)(w:ae):(method (n+1) 91 (.pointer (some a)) "kalends/table.number").run Tryz.prog w= .ok (177, .pointer (some a)) w:=by kernel_rfl
theorem Pj (n:Nat)(a:Addr)(w:ae):(nilAhead (n+1) 91 (.pointer (some a)) "kalends/table.number").run Tryz.prog w= .ok (some false) w:=by kernel_rfl
theorem Oa (n:Nat)(a:Addr)(w:ae):(method (n+1) 134 (.pointer (some a)) "kalends/table.number").run Tryz.prog w= .ok (183, .pointer (some a)) w:=by kernel_rfl
theorem Og (n:Nat)(a:Addr)(w:ae):(nilAhead (n+1) 134 (.pointer (some a)) "kalends/table.number").run Tryz.prog w= .ok (some false) w:=by kernel_rfl
theorem O9 (n:Nat)(a:Addr)(w:ae):(method (n+1) 91 (.pointer (some a)) "kalends/table.offset").run Tryz.prog w= .ok (178, .pointer (some a)) w:=by kernel_rfl
theorem Pm (n:Nat)(a:Addr)(w:ae):(nilAhead (n+1) 91 (.pointer (some a)) "kalends/table.offset").run Tryz.prog w= .ok (some false) w:=by kernel_rfl
theorem Ob (n:Nat)(a:Addr)(w:ae):(method (n+1) 134 (.pointer (some a)) "kalends/table.offset").run Tryz.prog w= .ok (184, .pointer (some a)) w:=by kernel_rfl
theorem Oh (n:Nat)(a:Addr)(w:ae):(nilAhead (n+1) 134 (.pointer (some a)) "kalends/table.offset").run Tryz.prog w= .ok (some false) w:=by kernel_rfl
theorem QY (n:Nat)(a:Addr)(w:ae):(method (n+1) 91 (.pointer (some a)) "kalends/table.text").run Tryz.prog w= .ok (179, .pointer (some a)) w:=by kernel_rfl
theorem QZ (n:Nat)(a:Addr)(w:ae):(nilAhead (n+1) 91 (.pointer (some a)) "kalends/table.text").run Tryz.prog w= .ok (some false) w:=by kernel_rfl
theorem PX (n:Nat)(a:Addr)(w:ae):(method (n+1) 134 (.pointer (some a)) "kalends/table.text").run Tryz.prog w= .ok (185, .pointer (some a)) w:=by kernel_rfl
theorem PZ (n:Nat)(a:Addr)(w:ae):(nilAhead (n+1) 134 (.pointer (some a)) "kalends/table.text").run Tryz.prog w= .ok (some false) w:=by kernel_rfl
theorem O6 (n:Nat)(a:Addr)(w:ae):(method (n+1) 91 (.pointer (some a)) "kalends/table.digest").run Tryz.prog w= .ok (174, .pointer (some a)) w:=by kernel_rfl
theorem Pg (n:Nat)(a:Addr)(w:ae):(nilAhead (n+1) 91 (.pointer (some a)) "kalends/table.digest").run Tryz.prog w= .ok (some false) w:=by kernel_rfl
theorem N8 (n:Nat)(a:Addr)(w:ae):(method (n+1) 134 (.pointer (some a)) "kalends/table.digest").run Tryz.prog w= .ok (180, .pointer (some a)) w:=by kernel_rfl
theorem Oc (n:Nat)(a:Addr)(w:ae):(nilAhead (n+1) 134 (.pointer (some a)) "kalends/table.digest").run Tryz.prog w= .ok (some false) w:=by kernel_rfl
theorem O7 (n:Nat)(a:Addr)(w:ae):(method (n+1) 91 (.pointer (some a)) "kalends/table.length").run Tryz.prog w= .ok (176, .pointer (some a)) w:=by kernel_rfl
theorem Ph (n:Nat)(a:Addr)(w:ae):(nilAhead (n+1) 91 (.pointer (some a)) "kalends/table.length").run Tryz.prog w= .ok (some false) w:=by kernel_rfl
theorem N9 (n:Nat)(a:Addr)(w:ae):(method (n+1) 134 (.pointer (some a)) "kalends/table.length").run Tryz.prog w= .ok (182, .pointer (some a)) w:=by kernel_rfl
theorem Oe (n:Nat)(a:Addr)(w:ae):(nilAhead (n+1) 134 (.pointer (some a)) "kalends/table.length").run Tryz.prog w= .ok (some false) w:=by kernel_rfl
theorem ak9 (n:Nat)(a:Addr)(w:ae):(method (n+1) 91 (.pointer (some a)) "kalends/table.flag").run Tryz.prog w= .ok (175, .pointer (some a)) w:=by kernel_rfl
theorem alg (n:Nat)(a:Addr)(w:ae):(nilAhead (n+1) 91 (.pointer (some a)) "kalends/table.flag").run Tryz.prog w= .ok (some false) w:=by kernel_rfl
theorem adZ (n:Nat)(a:Addr)(w:ae):(method (n+1) 134 (.pointer (some a)) "kalends/table.flag").run Tryz.prog w= .ok (181, .pointer (some a)) w:=by kernel_rfl
theorem ad1 (n:Nat)(a:Addr)(w:ae):(nilAhead (n+1) 134 (.pointer (some a)) "kalends/table.flag").run Tryz.prog w= .ok (some false) w:=by kernel_rfl
theorem Xn {w:ae}{b o:Nat}{v:ah}(h:w.cell? ⟨b,o,none⟩=some v):w.setCell ⟨b,o,none⟩ v=w:=by
 have hh:(w.setCell ⟨b,o,none⟩ v).heap=w.heap:=by
  apply jG;intro k;by_cases hk:k=b
  ·subst hk;unfold World.cell? at h;simp only[World.setCell,kV];cases hb:w.heap[k]? with
   |none=>simp
   |some x=>
    cases x with
    |cells c e f=>
     rw[hb] at h;simp at h⊢;exact(by
      apply jG;intro i;rw[iZ];split
      ·rename_i e;subst e;split
       ·exact h.symm
       ·rename_i e2;rw[iI (by omega)] at h;cases h
      ·rfl)
    |_=>simp
  ·exact aN w _ k v hk
 exact(show w.setCell ⟨b,o,none⟩ v= {w with heap:=(w.setCell ⟨b,o,none⟩ v).heap} from rfl).trans (by rw[hh])
theorem KJ {w W w':ae}{base e size n:Nat}{v:ah}{ys:ag ah}(hb:ai base w W)(hown:W.ownsRow base e size v n ys)(hle:base<=W.heap.size)(hg:W.grownBy w' v.ownBlock):ai base w w':=
 ⟨hg.os.trans hb.os,hg.tape.trans hb.tape,hg.output.trans hb.output,aO hb.size hg.size,fun k hk=>(hg.block k (by omega) (MV hown k hk)).trans (hb.block k hk)⟩
theorem NI (w:ae)(e size:Nat):(w.alloc (.cells #[] e)).ownsRow w.heap.size e size (.slice (some ⟨w.heap.size,0,none⟩) 0 0) 0 []:=
 ⟨by simp,.inr ⟨w.heap.size,0,#[],rfl,ay _,aF w _,ay _,aG _,by simp,by simp⟩⟩
def KC (zs:ag L9):ag ah:=zs.flatMap fun x=>x.cells.toList
theorem MB (zs:ag L9):(KC zs).length=zs.length*9:=by
 induction zs with
 |nil=>rfl
 |cons x zs ih=>unfold KC at ih⊢;rw[dI,KN,ih,bG];show 9+zs.length*9=_;omega
theorem aay (zs:ag L9):∀u∈KC zs,u.oneCell'=true:=by
 intro u hu;unfold KC at hu;obtain⟨x,_,hx⟩:=jv.1 hu;have h:x.cells.all (·.oneCell')=true:=by kernel_rfl
 rw[dS] at h;exact h u (by simpa using hx)
theorem Tu (zs:ag L9)(k j:Nat)(x:L9)(hx:zs[k]? =some x)(hj:j<9):(KC zs)[k*9+j]? =x.cells[j]? :=by
 induction zs generalizing k with
 |nil=>cases hx
 |cons y zs ih=>
  unfold KC at ih⊢;rw[dI];have h9:y.cells.toList.length=9:=rfl;cases k with
  |zero=>
   injection hx with hx;subst hx;rw[gU,aT,dZ (by omega)];simp
  |succ k=>
   rw[bH (by omega),h9,show(k+1)*9+j - 9=k*9+j by omega];exact ih k hx
def Qr:ax ah:= #[.string ⟨#[]⟩,I 0,.slice none 0 0,I 0,.slice none 0 0,I 0,.slice none 0 0,I 0,.slice none 0 0]
theorem YV:(Tryz.prog.info? 76).map (fun i=>(i.zero,i.size,i.bytes))=some (some (.agg Qr),9,144):=by kernel_rfl
structure agX (s:Zs):Prop where
 B:s.B=none/\s.b=0
 C:s.C=none/\s.c=0
 D:s.D=none/\s.d=0
theorem RH {W:ae}{lo e size g n m cap:Nat}{xs:ag ah}(h:W.ownsRow lo e size (.slice (some ⟨g,0,none⟩) n cap) m xs):
  ∃cur,W.heap[g]? =some (.cells cur e (0,0))/\lo<=g/\m<=cap/\cap<=maxLen/\cur.size=cap*size/\cur.toList.take (m*size)=xs/\xs.length=m*size/\n=m:=by
 obtain⟨h0,⟨h1,_⟩|⟨g',cap',cur,h1,h2,h3,h4,h5,h6,h7⟩⟩:=h
 ·cases h1
 ·injection h1 with e1 e2 e3;injection e1 with e1;injection e1 with e1;subst e1 e2 e3;exact⟨cur,h3,h2,h4,h5,h6,h7,h0,rfl⟩
theorem af4 {W:ae}{lo e size g n cap:Nat}{xs:ag ah}{cur:ax ah}(h1:W.heap[g]? =some (.cells cur e (0,0)))(h2:lo<=g)(h3:n<=cap)(h4:cap<=maxLen)(h5:cur.size=cap*size)(h6:cur.toList.take (n*size)=xs)(h7:xs.length=n*size):W.ownsRow lo e size (.slice (some ⟨g,0,none⟩) n cap) n xs:=
 ⟨h7,.inr ⟨g,cap,cur,rfl,h2,h1,h3,h4,h5,h6⟩⟩
theorem Vf {W:ae}{lo e size g n m cap:Nat}{xs:ag ah}(h:W.ownsRow lo e size (.slice (some ⟨g,0,none⟩) n cap) m xs)(j:Nat)(u:ah)(hu:xs[j]? =some u):W.cell? ⟨g,j,none⟩=some u:=by
 obtain⟨cur,h1,h2,h3,h4,h5,h6,h7,_⟩:=RH h;rw[aC W g j _ _ _ h1];rw[<-h6] at hu;rw[lL] at hu;split at hu
 ·simpa using hu
 ·cases hu
theorem ZZ {W:ae}{lo e size g n m cap:Nat}{xs:ag ah}(h:W.ownsRow lo e size (.slice (some ⟨g,0,none⟩) n cap) m xs)(j:Nat):W.frozen? ⟨g,j,none⟩=false:=by
 obtain⟨cur,h1,_⟩:=RH h;exact aP W g j _ _ h1
theorem Qx {W:ae}{lo e size g n m cap:Nat}{xs:ag ah}(h:W.ownsRow lo e size (.slice (some ⟨g,0,none⟩) n cap) m xs):lo<=g/\g<W.heap.size:=by
 obtain⟨cur,h1,h2,_⟩:=RH h;exact⟨h2,(KY.1 h1).1⟩
theorem aoj {W:ae}{lo e size g n m cap:Nat}{xs:ag ah}(h:W.ownsRow lo e size (.slice (some ⟨g,0,none⟩) n cap) m xs)(o:Nat)(v:ah):(W.setCell ⟨g,o,none⟩ v).ownsRow lo e size (.slice (some ⟨g,0,none⟩) n cap) m (xs.set o v):=by
 obtain⟨cur,h1,h2,h3,h4,h5,h6,h7,rfl⟩:=RH h;refine af4 (bJ W g o cur e v h1) h2 h3 h4 (by rw[di];exact h5) ?_ (by rw[eu];exact h7);rw[jR,oC,h6]
def aiG (xs:ag ah)(o:Nat):ag ah->ag ah
 | []=>xs
 |v::r=>aiG (xs.set o v) (o+1) r
theorem ad6 {lo e size g n m cap:Nat}:∀(vs:ag ah) (o:Nat) (xs:ag ah) (W:ae),W.ownsRow lo e size (.slice (some ⟨g,0,none⟩) n cap) m xs->(W.setCells g o vs).ownsRow lo e size (.slice (some ⟨g,0,none⟩) n cap) m (aiG xs o vs)
 | [],_,_,_,h=>h
 |v::r,o,xs,_,h=>ad6 r (o+1) (xs.set o v) _ (aoj h o v)
theorem set_mid (ls bs cs:ag ah)(j:Nat)(v:ah)(hj:j<bs.length):(ls++(bs++cs)).set (ls.length+j) v=ls++(bs.set j v++cs):=by
 rw[eY _ _ (by omega),kX _ _ (by omega)];simp
theorem aea (ls cs:ag ah):∀(vs bs:ag ah) (j:Nat),j+vs.length<=bs.length->aiG (ls++(bs++cs)) (ls.length+j) vs=ls++(aiG bs j vs++cs)
 | [],_,_,_=>rfl
 |v::r,bs,j,h=>by
  rw[bG] at h;show aiG ((ls++(bs++cs)).set (ls.length+j) v) (ls.length+j+1) r=_;rw[set_mid ls bs cs j v (by omega),fE];exact aea ls cs r (bs.set j v) (j+1) (by rw[eu];omega)
theorem Vh:∀(vs:ag ah) (w:ae) (b o k:Nat),k≠b->(w.setCells b o vs).heap[k]? =w.heap[k]?
 | [],_,_,_,_,_=>rfl
 |v::r,w,b,o,k,h=>(Vh r _ b (o+1) k h).trans (aN w _ k v h)
theorem acB:∀(vs:ag ah) (w:ae) (b o:Nat),(w.setCells b o vs).heap.size=w.heap.size
 | [],_,_,_=>rfl
 |v::r,w,b,o=>(acB r _ b (o+1)).trans (by simp[World.setCell])
theorem aen {B:Nat}{w0:ae}:∀(vs:ag ah) (w:ae) (b o:Nat),ai B w0 w->B<=b->ai B w0 (w.setCells b o vs)
 | [],_,_,_,h,_=>h
 |v::r,_,b,o,h,hb=>aen r _ b (o+1) (h.setCell (p:=⟨b,o,none⟩) hb v) hb
theorem aeM (xs ys:ag L9):KC (xs++ys)=KC xs++KC ys:=by simp[KC]
theorem Yv (ys:ag L9)(x:L9)(rest:ag L9):KC (ys++x::rest)=KC ys++(x.cells.toList++KC rest):=by simp[KC]
theorem ac0 (ys:ag L9)(x:L9)(rest:ag L9)(s:Zs):aiG (KC (ys++x::rest)) (ys.length*9+1) (JV x.e.z s).toList=KC (ys++⟨x.e,s⟩::rest):=by
 rw[Yv,Yv,<-MB,aea _ _ _ _ _ (by show 1+8<=9;omega)];rfl
structure OI (lo:Nat)(w:ae)(v:ah)(zs:ag L9):Prop where
 row:w.ownsRow lo 76 9 v zs.length (KC zs)
 JQ:∀x∈zs,LI lo w x.s.A x.e.z.cal.JQ
 axf:∀x∈zs,agX x.s
 nil:zs.length=0->v=.slice none 0 0
theorem OI.Kr {lo:Nat}{w w':ae}{v:ah}{zs:ag L9}(h:OI lo w v zs)(hs:w.heap.size<=w'.heap.size)(hb:∀k,lo<=k->k<w.heap.size->w'.heap[k]? =w.heap[k]?):OI lo w' v zs:=
 ⟨MK h.row hb,fun x hx=>(h.JQ x hx).Kr hs hb,h.axf,h.nil⟩
theorem OI.below {lo:Nat}{w w':ae}{v:ah}{zs:ag L9}(h:OI lo w v zs)(hb:ai w.heap.size w w'):OI lo w' v zs:=h.Kr hb.size fun k _ hk=>hb.block k hk
theorem OI.lower {lo lo':Nat}{w:ae}{v:ah}{zs:ag L9}(h:OI lo w v zs)(hl:lo'<=lo):OI lo' w v zs:=
 ⟨KD h.row hl,fun x hx=>(h.JQ x hx).lower hl,h.axf,h.nil⟩
theorem OI.form {lo:Nat}{w:ae}{v:ah}{zs:ag L9}(h:OI lo w v zs):(zs= []/\v=.slice none 0 0)\/(0<zs.length/\∃g c,v=.slice (some ⟨g,0,none⟩) zs.length c/\lo<=g/\g<w.heap.size):=by
 by_cases h0:zs.length=0
 ·exact .inl ⟨bu h0,h.nil h0⟩
 ·obtain⟨g,c,h1,h2⟩:=LW h.row (by omega);refine .inr ⟨by omega,g,c,h1,?_,h2⟩;have hr:=h.row;rw[h1] at hr;exact(Qx hr).1
section
theorem Rf (t:Tb)(v v':ah):(JK t v).setIfInBounds 3 v'=JK t v':=by simp[JK,MW]
theorem J9 (t:Tb)(A:aj Addr)(n c:Nat):(JK t (.slice A n c)).all (·.oneCell')=true:=by
 rw[dS];intro u hu;unfold JK MW at hu;rw[List.mem_toArray,dm,dm] at hu;rcases hu with h|h|h
 ·simp at h;rcases h with rfl|rfl|rfl|rfl<;>rfl
 ·exact Q5 _ u h
 ·exact Q5 _ u h
structure ClS (w:ae)(t:Tb)(v:ah)(W:ae):Prop where
 var:W.heap[w.heap.size]? =some (.cells (JK t v) 26 (0,0))
 res:W.heap[w.heap.size+1]? =some (.cells Tryz.zeroCells26 26 (0,0))
 up:ai w.heap.size w W
theorem ClS.lt {w W:ae}{t:Tb}{v:ah}(h:ClS w t v W):w.heap.size+1<W.heap.size:=(KY.1 h.res).1
theorem ClS.grow {w W W':ae}{t:Tb}{v:ah}(h:ClS w t v W)(hb:ai W.heap.size W W'):ClS w t v W':=
 ⟨(hb.block _ (by have:=h.lt;omega)).trans h.var,(hb.block _ h.lt).trans h.res,JL h.up hb⟩
theorem ClS.store {w W:ae}{t:Tb}{v:ah}(h:ClS w t v W)(v':ah):ClS w t v' (W.setCell ⟨w.heap.size,3,none⟩ v'):=
 ⟨by rw[bJ W _ 3 _ _ _ h.var,Rf],(aN W _ _ v' (by show w.heap.size+1≠w.heap.size;omega)).trans h.res,h.up.setCell (p:=⟨w.heap.size,3,none⟩) (ay _) _⟩
theorem ClS.puts {w W:ae}{t:Tb}{v:ah}(h:ClS w t v W)(g o:Nat)(vs:ag ah)(hg:w.heap.size+2<=g):ClS w t v (W.setCells g o vs):=
 ⟨(Vh vs W g o _ (by omega)).trans h.var,(Vh vs W g o _ (by omega)).trans h.res,aen vs W g o h.up (by omega)⟩
theorem ClS.drew {w W:ae}{t:Tb}{v:ah}(h:ClS w t v W):ClS w t v W.drew:=⟨h.var,h.res,h.up.drew⟩
theorem ClS.start (w:ae)(t:Tb)(v:ah):ClS w t v ((w.alloc (.cells (JK t v) 26)).alloc (.cells Tryz.zeroCells26 26)):=
 ⟨dJ w _ _,bW w _ _,JL (JM w _) (JM _ _)⟩
theorem ClS.row {w W:ae}{t:Tb}{v:ah}(h:ClS w t v W):Row W w.heap.size (JK t v):=⟨by have:=h.lt;omega,fun i=>aC W _ i _ _ _ h.var⟩
attribute [local go_sem] NT NU OH LD
def LX (lo g:Nat)(w:ae)(A:aj Addr)(zs:ag Int):Prop:=
 ∃b off,A=some ⟨b,off,none⟩/\lo<=b/\b<w.heap.size/\b≠g/\∀j,j<zs.length->w.cell? ⟨b,off+j,none⟩=some (I (zs[j]?.getD 0))
theorem LX.Kr {lo g:Nat}{w w':ae}{A:aj Addr}{zs:ag Int}(h:LX lo g w A zs)(hs:w.heap.size<=w'.heap.size)(hb:∀k,k<w.heap.size->k≠g->w'.heap[k]? =w.heap[k]?):LX lo g w' A zs:=by
 obtain⟨b,off,h1,h2,h3,h4,h5⟩:=h;exact⟨b,off,h1,h2,LK h3 hs,h4,fun j hj=>(bI (a:=⟨b,off+j,none⟩) (hb b h3 h4)).trans (h5 j hj)⟩
theorem LX.li {lo g:Nat}{w:ae}{A:aj Addr}{zs:ag Int}(h:LX lo g w A zs):LI lo w A zs:=by
 obtain⟨b,off,h1,h2,h3,_,h5⟩:=h;exact .inr ⟨b,off,h1,h2,h3,h5⟩
theorem LX.Le {lo B g b n c:Nat}{w:ae}{zs:ag Int}(h:w.ownsRow B 3 1 (.slice (some ⟨b,0,none⟩) n c) n (zs.map I))(hl:lo<=B)(hg:g<B):LX lo g w (some ⟨b,0,none⟩) zs:=by
 have h1:=Qx h;refine⟨b,0,rfl,by omega,h1.2,by omega,fun j hj=>?_⟩;rw[aT];refine Vf h j _ ?_;rw[aJ,KL hj];rfl
end
def Tr.cells (t:Tr):ag ah:= [I t.at_,I t.off]
def Yr.cells (y:Yr):ag ah:= [I y.month,I y.La,I y.Lh,I y.minute,I y.off]
structure N7 (w:ae)(B:Nat)(s:Zs)(z:Zn):Prop where
 JQ:JS w B s.A (z.cal.JQ.map I)
 rules:JS w B s.B (z.cal.rules.flatMap Lr.cells)
 trans:JS w B s.C (z.trans.flatMap Tr.cells)
 J6:JS w B s.D (z.J6.flatMap Yr.cells)
structure O3 (w:ae)(B:Nat)(A:aj Addr)(zs:ag L9):Prop where
 row:JS w B A (KC zs)
 each:∀x∈zs,N7 w B x.s x.e.z
structure Kv where
 t:Tb
 A:aj Addr
 c:Nat
 zs:ag L9
def Kv.cells (x:Kv):ag ah:=MW x.t (.slice x.A x.zs.length x.c)
structure Ld (w:ae)(B:Nat)(x:Kv):Prop where
 names:x.t.JX=x.zs.map (·.e)
 prev:x.t.prev.length=32
 Ku:x.t.Ku.length=32
 JX:O3 w B x.A x.zs
structure LJ (w:ae)(B:Nat)(A:aj Addr)(ts:ag Kv):Prop where
 row:JS w B A (ts.flatMap Kv.cells)
 each:∀x∈ts,Ld w B x
section
variable {w w':ae}{B B':Nat}{A:aj Addr}{s:Zs}{z:Zn}{zs:ag L9}{x:Kv}{ts:ag Kv}
theorem N7.keep (h:N7 w B s z)(hb:ai B w w'):N7 w' B s z:=⟨h.JQ.keep hb,h.rules.keep hb,h.trans.keep hb,h.J6.keep hb⟩
theorem N7.more (h:N7 w B s z)(hB:B<=B'):N7 w B' s z:=⟨h.JQ.more hB,h.rules.more hB,h.trans.more hB,h.J6.more hB⟩
theorem N7.grow (h:N7 w w.heap.size s z)(hb:ai w.heap.size w w'):N7 w' w'.heap.size s z:=(h.keep hb).more hb.size
theorem O3.keep (h:O3 w B A zs)(hb:ai B w w'):O3 w' B A zs:=⟨h.row.keep hb,fun x hx=>(h.each x hx).keep hb⟩
theorem O3.more (h:O3 w B A zs)(hB:B<=B'):O3 w B' A zs:=⟨h.row.more hB,fun x hx=>(h.each x hx).more hB⟩
theorem O3.grow (h:O3 w w.heap.size A zs)(hb:ai w.heap.size w w'):O3 w' w'.heap.size A zs:=(h.keep hb).more hb.size
theorem O3.nil:O3 w B A []:=⟨.nil,fun _ hx=>nomatch hx⟩
theorem Ld.keep (h:Ld w B x)(hb:ai B w w'):Ld w' B x:=⟨h.names,h.prev,h.Ku,h.JX.keep hb⟩
theorem Ld.more (h:Ld w B x)(hB:B<=B'):Ld w B' x:=⟨h.names,h.prev,h.Ku,h.JX.more hB⟩
theorem Ld.grow (h:Ld w w.heap.size x)(hb:ai w.heap.size w w'):Ld w' w'.heap.size x:=(h.keep hb).more hb.size
theorem Ld.size (h:Ld w B x):x.cells.length=68:=by
 have:=Kq x.t (.slice x.A x.zs.length x.c) h.prev h.Ku;simpa[JK,Kv.cells] using this
theorem LJ.keep (h:LJ w B A ts)(hb:ai B w w'):LJ w' B A ts:=⟨h.row.keep hb,fun x hx=>(h.each x hx).keep hb⟩
theorem LJ.more (h:LJ w B A ts)(hB:B<=B'):LJ w B' A ts:=⟨h.row.more hB,fun x hx=>(h.each x hx).more hB⟩
theorem LJ.grow (h:LJ w w.heap.size A ts)(hb:ai w.heap.size w w'):LJ w' w'.heap.size A ts:=(h.keep hb).more hb.size
theorem LJ.nil:LJ w B A []:=⟨.nil,fun _ hx=>nomatch hx⟩
end
theorem WC (t:Tr):∀u∈t.cells,u.oneCell'=true:=by
 intro u hu;simp[Tr.cells] at hu;rcases hu with rfl|rfl<;>rfl
theorem agx (y:Yr):∀u∈y.cells,u.oneCell'=true:=by
 intro u hu;simp[Yr.cells] at hu;rcases hu with rfl|rfl|rfl|rfl|rfl<;>rfl
theorem aob (r:Lr):∀u∈r.cells,u.oneCell'=true:=by
 intro u hu;simp[Lr.cells] at hu;rcases hu with rfl|rfl|rfl<;>rfl
def ClA (w:ae)(e size n:Nat)(cs:ag ah)(en:Ending)(w':ae):Prop:=
 ∃A c,en=.returned (.slice A n c)/\w'.ownsRow w.heap.size e size (.slice A n c) n cs/\ai w.heap.size w w'
theorem LU {w:ae}{base e size n:Nat}{v:ah}{xs:ag ah}(h:w.ownsRow base e size v n xs):∃A c,v=.slice A n c:=by
 rcases h.2 with ⟨rfl,rfl⟩|⟨g,cap,cur,rfl,_⟩
 ·exact⟨_,_,rfl⟩
 ·exact⟨_,_,rfl⟩
theorem QP {w:ae}{a:Addr}{cs:ag ah}{o:Obj}(h:JS w w.heap.size (some a) cs):∀j u,cs[j]? =some u->(w.alloc o).cell? (a.add j)=some u:=by
 intro j u hu;rcases h with h|⟨b,off,h1,h2,h3⟩
 ·rw[bu h] at hu;cases hu
 ·injection h1 with h1;subst h1;rw[jb,bI (aV w _ b h2)];exact h3 j u hu
theorem akW:(Tryz.prog.info? 118).map (fun i=>(i.zero,i.size,i.bytes))=some (some (.agg #[I 0,I 0,.bool false]),3,24):=by kernel_rfl
theorem YU:(Tryz.prog.info? 108).map (fun i=>(i.zero,i.size,i.bytes))=some (some (.agg #[I 0,I 0]),2,16):=by kernel_rfl
theorem ahb:(Tryz.prog.info? 110).map (fun i=>(i.zero,i.size,i.bytes))=some (some (.agg #[I 0,I 0,I 0,I 0,I 0]),5,40):=by kernel_rfl
theorem anB (c:Nat)(w:ae):Calls Tryz.prog 67 #[.slice none 0 c] w fun e w'=>e=.returned (.slice none 0 0)/\w'=w:=by
 have heq:∀W,(binOp .eql 62 (.slice none 0 c) (.slice none 0 0)).run Tryz.prog W=.ok (.bool true) W:=fun W=>by simp[binOp,run_equal_slice_nil W 62 3 none 0 c Tryz.underlying62]
 go_enter Tryz.func67,Tryz.ntmps67
 go_wp2
 go_ret;exact⟨rfl,rfl⟩
theorem anA (A:aj Addr)(c n:Nat)(cs:ag ah)(w:ae)(hA:JS w w.heap.size A cs)(hl:cs.length=n*1)(h1:∀u∈cs,u.oneCell'=true)(hn:n<=10000):
  Calls Tryz.prog 67 #[.slice A n c] w (ClA w 3 1 n cs):=by
 cases A with
 |none=>
  have hc:cs= []:=by
   rcases hA with h|⟨b,off,h,_⟩
   ·exact bu h
   ·cases h
  subst hc;have hn0:n=0:=by simp at hl;omega
  subst hn0;exact(anB c w).mono fun e w' ⟨he,hw⟩=>⟨none,0,he,dD _ _ _ _,by rw[hw];exact aW _ _⟩
 |some a=>
  have HNW:=JJ (QP (o:=.cells #[] 3) hA);have HO:=JJ (NI w 3 1);have HL:=JJ hl;have H1:=JJ h1;have HB:=JJ (JM w (.cells #[] 3));obtain⟨i0,hi,hz0,hz1,hz2⟩:=dN Xh;have HI:=JJ hi;have HZ0:=JJ hz0;have HZ1:=JJ hz1;have HZ2:=JJ hz2;have heq:∀W,(binOp .eql 62 (.slice (some a) n c) (.slice none 0 0)).run Tryz.prog W=.ok (.bool false) W:=fun W=>by simp[binOp,run_equal_slice_nil W 62 3 (some a) n c Tryz.underlying62]
  clear hA hl h1 hi hz0 hz1 hz2;go_enter Tryz.func67,Tryz.ntmps67;go_wp2_with(at_builtin;refine bK _ rfl _ _ 62 rfl w.heap.size 3 i0 (.int .i64 0) 1 8 iW HI.out HZ0.out HZ1.out HZ2.out rfl (by decide) _ 0 [] rfl HO.out a n c cs rfl HL.out HNW.out H1.out (by unfold maxLen;omega) (by omega) (by simp) ?_);intro v' w' hown hg _ _;have HB2:=JJ (KJ HB.out HO.out (by simp) hg);obtain⟨A',c',rfl⟩:=LU hown;have HOW:=JJ hown;clear hown hg;go_wp2_with fail;go_ret;exact⟨A',c',by first|rfl|(rw[aT]),by have h:=HOW.out;simpa using h,HB2.out⟩
theorem anD (c:Nat)(w:ae):Calls Tryz.prog 68 #[.slice none 0 c] w fun e w'=>e=.returned (.slice none 0 0)/\w'=w:=by
 have heq:∀W,(binOp .eql 63 (.slice none 0 c) (.slice none 0 0)).run Tryz.prog W=.ok (.bool true) W:=fun W=>by simp[binOp,run_equal_slice_nil W 63 118 none 0 c Tryz.underlying63]
 go_enter Tryz.func68,Tryz.ntmps68
 go_wp2
 go_ret;exact⟨rfl,rfl⟩
theorem anC (A:aj Addr)(c n:Nat)(cs:ag ah)(w:ae)(hA:JS w w.heap.size A cs)(hl:cs.length=n*3)(h1:∀u∈cs,u.oneCell'=true)(hn:n<=10000):
  Calls Tryz.prog 68 #[.slice A n c] w (ClA w 118 3 n cs):=by
 cases A with
 |none=>
  have hc:cs= []:=by
   rcases hA with h|⟨b,off,h,_⟩
   ·exact bu h
   ·cases h
  subst hc;have hn0:n=0:=by simp at hl;omega
  subst hn0;exact(anD c w).mono fun e w' ⟨he,hw⟩=>⟨none,0,he,dD _ _ _ _,by rw[hw];exact aW _ _⟩
 |some a=>
  have HNW:=JJ (QP (o:=.cells #[] 118) hA);have HO:=JJ (NI w 118 3);have HL:=JJ hl;have H1:=JJ h1;have HB:=JJ (JM w (.cells #[] 118));obtain⟨i0,hi,hz0,hz1,hz2⟩:=dN akW;have HI:=JJ hi;have HZ0:=JJ hz0;have HZ1:=JJ hz1;have HZ2:=JJ hz2;have heq:∀W,(binOp .eql 63 (.slice (some a) n c) (.slice none 0 0)).run Tryz.prog W=.ok (.bool false) W:=fun W=>by simp[binOp,run_equal_slice_nil W 63 118 (some a) n c Tryz.underlying63]
  clear hA hl h1 hi hz0 hz1 hz2;go_enter Tryz.func68,Tryz.ntmps68;go_wp2_with(at_builtin;refine bK _ rfl _ _ 63 rfl w.heap.size 118 i0 (.agg #[I 0,I 0,.bool false]) 3 24 kK HI.out HZ0.out HZ1.out HZ2.out rfl (by decide) _ 0 [] rfl HO.out a n c cs rfl HL.out HNW.out H1.out (by unfold maxLen;omega) (by omega) (by simp) ?_);intro v' w' hown hg _ _;have HB2:=JJ (KJ HB.out HO.out (by simp) hg);obtain⟨A',c',rfl⟩:=LU hown;have HOW:=JJ hown;clear hown hg;go_wp2_with fail;go_ret;exact⟨A',c',by first|rfl|(rw[aT]),by have h:=HOW.out;simpa using h,HB2.out⟩
theorem anF (c:Nat)(w:ae):Calls Tryz.prog 69 #[.slice none 0 c] w fun e w'=>e=.returned (.slice none 0 0)/\w'=w:=by
 have heq:∀W,(binOp .eql 66 (.slice none 0 c) (.slice none 0 0)).run Tryz.prog W=.ok (.bool true) W:=fun W=>by simp[binOp,run_equal_slice_nil W 66 108 none 0 c Tryz.underlying66]
 go_enter Tryz.func69,Tryz.ntmps69
 go_wp2
 go_ret;exact⟨rfl,rfl⟩
theorem anE (A:aj Addr)(c n:Nat)(cs:ag ah)(w:ae)(hA:JS w w.heap.size A cs)(hl:cs.length=n*2)(h1:∀u∈cs,u.oneCell'=true)(hn:n<=10000):
  Calls Tryz.prog 69 #[.slice A n c] w (ClA w 108 2 n cs):=by
 cases A with
 |none=>
  have hc:cs= []:=by
   rcases hA with h|⟨b,off,h,_⟩
   ·exact bu h
   ·cases h
  subst hc;have hn0:n=0:=by simp at hl;omega
  subst hn0;exact(anF c w).mono fun e w' ⟨he,hw⟩=>⟨none,0,he,dD _ _ _ _,by rw[hw];exact aW _ _⟩
 |some a=>
  have HNW:=JJ (QP (o:=.cells #[] 108) hA);have HO:=JJ (NI w 108 2);have HL:=JJ hl;have H1:=JJ h1;have HB:=JJ (JM w (.cells #[] 108));obtain⟨i0,hi,hz0,hz1,hz2⟩:=dN YU;have HI:=JJ hi;have HZ0:=JJ hz0;have HZ1:=JJ hz1;have HZ2:=JJ hz2;have heq:∀W,(binOp .eql 66 (.slice (some a) n c) (.slice none 0 0)).run Tryz.prog W=.ok (.bool false) W:=fun W=>by simp[binOp,run_equal_slice_nil W 66 108 (some a) n c Tryz.underlying66]
  clear hA hl h1 hi hz0 hz1 hz2;go_enter Tryz.func69,Tryz.ntmps69;go_wp2_with(at_builtin;refine bK _ rfl _ _ 66 rfl w.heap.size 108 i0 (.agg #[I 0,I 0]) 2 16 fQ HI.out HZ0.out HZ1.out HZ2.out rfl (by decide) _ 0 [] rfl HO.out a n c cs rfl HL.out HNW.out H1.out (by unfold maxLen;omega) (by omega) (by simp) ?_);intro v' w' hown hg _ _;have HB2:=JJ (KJ HB.out HO.out (by simp) hg);obtain⟨A',c',rfl⟩:=LU hown;have HOW:=JJ hown;clear hown hg;go_wp2_with fail;go_ret;exact⟨A',c',by first|rfl|(rw[aT]),by have h:=HOW.out;simpa using h,HB2.out⟩
theorem anH (c:Nat)(w:ae):Calls Tryz.prog 70 #[.slice none 0 c] w fun e w'=>e=.returned (.slice none 0 0)/\w'=w:=by
 have heq:∀W,(binOp .eql 67 (.slice none 0 c) (.slice none 0 0)).run Tryz.prog W=.ok (.bool true) W:=fun W=>by simp[binOp,run_equal_slice_nil W 67 110 none 0 c Tryz.underlying67]
 go_enter Tryz.func70,Tryz.ntmps70
 go_wp2
 go_ret;exact⟨rfl,rfl⟩
theorem anG (A:aj Addr)(c n:Nat)(cs:ag ah)(w:ae)(hA:JS w w.heap.size A cs)(hl:cs.length=n*5)(h1:∀u∈cs,u.oneCell'=true)(hn:n<=10000):
  Calls Tryz.prog 70 #[.slice A n c] w (ClA w 110 5 n cs):=by
 cases A with
 |none=>
  have hc:cs= []:=by
   rcases hA with h|⟨b,off,h,_⟩
   ·exact bu h
   ·cases h
  subst hc;have hn0:n=0:=by simp at hl;omega
  subst hn0;exact(anH c w).mono fun e w' ⟨he,hw⟩=>⟨none,0,he,dD _ _ _ _,by rw[hw];exact aW _ _⟩
 |some a=>
  have HNW:=JJ (QP (o:=.cells #[] 110) hA);have HO:=JJ (NI w 110 5);have HL:=JJ hl;have H1:=JJ h1;have HB:=JJ (JM w (.cells #[] 110));obtain⟨i0,hi,hz0,hz1,hz2⟩:=dN ahb;have HI:=JJ hi;have HZ0:=JJ hz0;have HZ1:=JJ hz1;have HZ2:=JJ hz2;have heq:∀W,(binOp .eql 67 (.slice (some a) n c) (.slice none 0 0)).run Tryz.prog W=.ok (.bool false) W:=fun W=>by simp[binOp,run_equal_slice_nil W 67 110 (some a) n c Tryz.underlying67]
  clear hA hl h1 hi hz0 hz1 hz2;go_enter Tryz.func70,Tryz.ntmps70;go_wp2_with(at_builtin;refine bK _ rfl _ _ 67 rfl w.heap.size 110 i0 (.agg #[I 0,I 0,I 0,I 0,I 0]) 5 40 jm HI.out HZ0.out HZ1.out HZ2.out rfl (by decide) _ 0 [] rfl HO.out a n c cs rfl HL.out HNW.out H1.out (by unfold maxLen;omega) (by omega) (by simp) ?_);intro v' w' hown hg _ _;have HB2:=JJ (KJ HB.out HO.out (by simp) hg);obtain⟨A',c',rfl⟩:=LU hown;have HOW:=JJ hown;clear hown hg;go_wp2_with fail;go_ret;exact⟨A',c',by first|rfl|(rw[aT]),by have h:=HOW.out;simpa using h,HB2.out⟩
theorem anI (c:Nat)(w:ae):Calls Tryz.prog 59 #[.slice none 0 c] w fun e w'=>e=.returned (.slice none 0 0)/\w'=w:=by
 have heq:∀W,(binOp .eql 22 (.slice none 0 c) (.slice none 0 0)).run Tryz.prog W=.ok (.bool true) W:=fun W=>by simp[binOp,run_equal_slice_nil W 22 76 none 0 c Tryz.underlying22]
 go_enter Tryz.func59,Tryz.ntmps59
 go_wp2
 go_ret;exact⟨rfl,rfl⟩
theorem agZ (A:aj Addr)(c n:Nat)(cs:ag ah)(w:ae)(hA:JS w w.heap.size A cs)(hl:cs.length=n*9)(h1:∀u∈cs,u.oneCell'=true)(hn:n<=10000):
  Calls Tryz.prog 59 #[.slice A n c] w (ClA w 76 9 n cs):=by
 cases A with
 |none=>
  have hc:cs= []:=by
   rcases hA with h|⟨b,off,h,_⟩
   ·exact bu h
   ·cases h
  subst hc;have hn0:n=0:=by simp at hl;omega
  subst hn0;exact(anI c w).mono fun e w' ⟨he,hw⟩=>⟨none,0,he,dD _ _ _ _,by rw[hw];exact aW _ _⟩
 |some a=>
  have HNW:=JJ (QP (o:=.cells #[] 76) hA);have HO:=JJ (NI w 76 9);have HL:=JJ hl;have H1:=JJ h1;have HB:=JJ (JM w (.cells #[] 76));obtain⟨i0,hi,hz0,hz1,hz2⟩:=dN YV;have HI:=JJ hi;have HZ0:=JJ hz0;have HZ1:=JJ hz1;have HZ2:=JJ hz2;have heq:∀W,(binOp .eql 22 (.slice (some a) n c) (.slice none 0 0)).run Tryz.prog W=.ok (.bool false) W:=fun W=>by simp[binOp,run_equal_slice_nil W 22 76 (some a) n c Tryz.underlying22]
  clear hA hl h1 hi hz0 hz1 hz2;go_enter Tryz.func59,Tryz.ntmps59;go_wp2_with(at_builtin;refine bK _ rfl _ _ 22 rfl w.heap.size 76 i0 (.agg Qr) 9 144 iY HI.out HZ0.out HZ1.out HZ2.out rfl (by decide) _ 0 [] rfl HO.out a n c cs rfl HL.out HNW.out H1.out (by unfold maxLen;omega) (by omega) (by simp) ?_);intro v' w' hown hg _ _;have HB2:=JJ (KJ HB.out HO.out (by simp) hg);obtain⟨A',c',rfl⟩:=LU hown;have HOW:=JJ hown;clear hown hg;go_wp2_with fail;go_ret;exact⟨A',c',by first|rfl|(rw[aT]),by have h:=HOW.out;simpa using h,HB2.out⟩
section
variable {P:Program}{ops:ax Oper}{rest:ag Oper}{o:Oper}{a:Act}{w:ae}{Q:Exit->Act->ae->Prop}
theorem Nh {ob:Obj}(hgd:o.guard=none)(ty:TypeId)(x y:Operand)(ho:o.op=.store ty x y)(cells:ax ah)(hx:a.eval x=.pointer (some ⟨w.heap.size,0,none⟩))(hy:a.eval y=.agg cells)(t:TypeId)(old:ax ah)(hob:ob=.cells old t (0,0))(hi:(P.info? ty).map (·.size)=some cells.size)(hold:old.size=cells.size)(h1:cells.all (·.oneCell')=true)
  (h:∀W,ai w.heap.size w W->w.heap.size<W.heap.size->Row W w.heap.size cells->wpList P ops Q rest (a.put o.dst undef) W):wpList P ops Q (o::rest) a (w.alloc ob):=by
 subst hob;refine aB hgd ty x y ho w.heap.size cells hx hy t old (aF w _) hi hold h1 (h _ (eH (JM w _) (ay _) _) (by simp[World.setRow]) (Row.Nk (aQ _ _ _ _ _ _ (aF w _))))
end
end Go.Proofs.YtbaehbbonkljpaaGreatDoor
