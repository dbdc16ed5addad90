/- The texts TbX, TbM, TbK, TbR, TbY, TrI, Pa, TbJ, in this order. -/
import Derived.Test.YtbaehbbonkljpaaGreatR00
import Derived.Test.YtbaehbbonkljpaaGreatR01
import Derived.Test.YtbaehbbonkljpaaGreatR02
set_option maxRecDepth 10000
set_option maxHeartbeats 8000000
namespace Go.Proofs.YtbaehbbonkljpaaGreat
open Go Go.RowKit
theorem gQ.lt {w:World} {g:Nat} {v:Value} {bs:List UInt8} (h:gQ w g v bs):g<w.heap.size:=(bK.1 h.1).1
theorem gQ.grow {w w':World} {g:Nat} {v:Value} {bs:List UInt8} (h:gQ w g v bs) (hb:Below w.heap.size w w'):gQ w' g v bs∧iE g v w v w':=
 ⟨⟨(hb.block g h.lt).trans h.1,aN h.2 fun k _ hk=>hb.block k hk⟩,⟨hb.os,hb.tape,hb.output,hb.size,fun k hk _ _=>hb.block k hk, .inl rfl⟩⟩
theorem gQ.far {w w':World} {g:Nat} {v v':Value} {bs:List UInt8} (_h:gQ w g v bs) (hk:iE g v w v' w') (b:Nat) (hb:b<w.heap.size) (hg:b≠g) (ho:some b≠v.ownBlock):w'.heap[b]? =w.heap[b]? :=hk.block b hb hg ho
theorem gQ.new_ne {w:World} {g:Nat} {v:Value} {bs:List UInt8} (h:gQ w g v bs):w.heap.size≠g∧some w.heap.size≠v.ownBlock:=
 ⟨by have:=h.lt;omega,fun e=>by have:=own_lt h.2 _ e.symm;omega⟩
theorem jG (w:World) (g:Nat) (v:Value) (bs:List UInt8) (n:Int) (size:Nat) (hn0: -9223372036854775808≤n) (hn1:n≤9223372036854775807) (hs:size≤8) (hl:bs.length≤1099511627776) (hst:gQ w g v bs):
  Calls Tryz.prog 158 #[pt g,I n,I size] w fun e w'=>e= .returned (I n)∧∃v',gQ w' g v' (bs++le n size)∧iE g v w v' w':=by
 obtain ⟨h1,h2⟩:=hst.grow (ag w (.cells #[I n] 3));have hne:=hst.new_ne;have HC:=ae (dC (w.alloc (.cells #[I n] 3)) g ⟨w.heap.size,0,none⟩ v bs n size hn0 hn1 hs hl h1.lt h1 ((Row.new w #[I n] 3).2 0));have HB:=ae (heap_alloc_last w (.cells #[I n] 3));have H1:=ae h1;have H2:=ae h2;have zn:=ae hne;clear h1 h2 hst hne;go_enter Tryz.func158,Tryz.ntmps158;go_wp2_with fail;refine HC.out.mono ?_;rintro e w1 ⟨rfl,v1,hs1,hk1⟩;have k1:w1.cell? ⟨w.heap.size,0,none⟩=some (I n):=cell_of_row w1 _ 0 _ _ _ ((H1.out.far hk1 w.heap.size (by simp) zn.out.1 zn.out.2).trans HB.out);have HS:=ae hs1;have HK:=ae (H2.out.trans hk1);clear hs1 hk1 HC;go_wp2_with fail;go_ret;exact ⟨rfl,v1,HS.out,HK.out⟩
theorem Jr {w W w1:World} {g m:Nat} {v v':Value} {bs xs:List UInt8} (h:gQ w g v bs) (hW:W.heap=w.heap) (h1:W.os=w.os) (h2:W.tape=w.tape) (h3:W.output=w.output) (hm:m=bs.length+xs.length)
  (hown:w1.ownsRow (g+1) 5 1 v' m (bs.map Extern.Stop.cell++xs.map Extern.Stop.cell)) (hgrow:W.grownBy w1 v.ownBlock) (hat:v'.ownBlock=v.ownBlock∨v'.ownBlock=some w.heap.size):
  w1.heap[g]? =some (.cells #[v] 75 (0,0))∧gQ (w1.setCell ⟨g,0,none⟩ v') g v' (bs++xs)∧iE g v w v' (w1.setCell ⟨g,0,none⟩ v'):=by
 subst hm;have hg:=h.lt;have hne:some g≠v.ownBlock:=dZ h.2 g (Nat.lt_succ_self g);have hg1:w1.heap[g]? =some (.cells #[v] 75 (0,0)):=by
  rw [hgrow.block g (by rw [hW];exact hg) hne,hW];exact h.1
 refine ⟨hg1,⟨?_,?_⟩,?_⟩
 ·rw [heap_setCell_same w1 g 0 _ _ _ hg1];rfl
 ·have:=bY (u:=v') (p:=⟨g,0,none⟩) hown (dZ hown g (Nat.lt_succ_self g));simpa using this
 ·refine ⟨hgrow.os.trans h1,hgrow.tape.trans h2,hgrow.output.trans h3,?_,fun k hk hkg hkv=>?_,?_⟩
  ·have:=hgrow.size;rw [hW] at this;simp [World.setCell];omega
  ·rw [heap_setCell_other w1 _ k _ hkg,hgrow.block k (by rw [hW];exact hk) hkv,hW]
  ·exact hat.elim .inl fun e=> .inr ⟨_,e,Nat.le_refl _⟩
theorem tC (w:World) (g:Nat) (p:Addr) (v:Value) (bs:List UInt8) (n:Int) (hn0: -9223372036854775808≤n) (hn1:n≤9223372036854775807) (hl:bs.length≤1099511627776) (hst:gQ w g v bs) (hp:w.cell? p=some (I n)):
  Calls Tryz.prog 160 #[pt g, .pointer (some p)] w (iQ w g v (bs++le n 2)):=by
 have HC:=ae (dC w g p v bs n 2 hn0 hn1 (by omega) hl hst.lt hst hp);clear hst hp;go_enter Tryz.func160,Tryz.ntmps160;go_wp2_with fail;refine HC.out.mono ?_;rintro e w1 ⟨rfl,h⟩;have H:=ae h;clear h HC;go_wp2_with fail
 go_end0
 exact ⟨rfl,H.out⟩
theorem Jh (w:World) (g db off:Nat) (v:Value) (bs ds:List UInt8) (hl:bs.length≤1000000000000) (hd:w.rangeAt db off (ay ds)) (h32:ds.length=32) (hst:gQ w g v bs):
  Calls Tryz.prog 156 #[pt g, .pointer (some ⟨db,off,none⟩)] w (iQ w g v (bs++ds)):=by
 have hc0:w.cell? ⟨g,0,none⟩=some v:=cell_of_row w g 0 _ _ _ hst.1;have hgl:g<w.heap.size:=hst.lt;have HI:=ae hst;obtain ⟨i0,hi,hz0,hz1,hz2⟩:=info_parts lh;have hnews:∀j u,(ay ds)[j]? =some u→w.drew.cell? ((⟨db,off,none⟩:Addr).add j)=some u:=fun j u hu=>by
  rw [Addr.add_mid];exact hd j u hu
 have hmx:bs.length+32≤maxLen:=by unfold maxLen;omega
 have hby:(bs.length+32)*1≤140737488355328:=by omega
 clear hst hd;go_enter Tryz.func156,Tryz.ntmps156;go_wp2_with fail
 go_region_law ((refine step_append_lies _ (by rfl) _ _ _ (by rfl) (g+1) 5 i0 _ 1 1 Tryz.underlying22 hi hz0 hz1 hz2 rfl (by omega) v bs.length (bs.map Extern.Stop.cell) (by rfl) (HI.out.2.drew) ⟨db,off,none⟩ 32 32 (ay ds) (by rfl) (by simp [ay,h32]) hnews (wL ds) (by omega) hmx hby (Nat.succ_le_of_lt hgl) w.heap.size rfl ?_;intro gg cap w1 hown1 hgrow hat hlt;have hS:=Jr (w:=w) (W:=w.drew) (xs:=ds) (m:=bs.length+32) HI.out rfl rfl rfl rfl (by rw [h32]) hown1 hgrow (hat.elim (fun e=> .inl e.symm) (fun e=> .inr (by rw [←e];rfl)));have hc2:w1.cell? ⟨g,0,none⟩=some v:=cell_of_row w1 g 0 _ _ _ hS.1;have hf2:=frozen_of_row w1 g 0 _ _ hS.1;have uV:=ae hS;clear hS hown1 hgrow hat hlt))
 all_goals
  go_wp2
  go_end0
  exact ⟨rfl,_,uV.out.2.1,uV.out.2.2⟩
theorem Qa (w:World) (g:Nat) (p:Addr) (v:Value) (bs:List UInt8) (s:ByteArray) (hs:s.size≤1000000) (hl:bs.length≤1000000000) (hst:gQ w g v bs) (hp:w.cell? p=some (.string s)) (hpg:p.block≠g) (hpv:some p.block≠v.ownBlock) (hpl:p.block<w.heap.size):
  Calls Tryz.prog 161 #[pt g, .pointer (some p)] w (iQ w g v (bs++(le s.size 1++s.data.toList))):=by
 have HC:=ae (jG w g v bs s.size 1 (by omega) (by omega) (by omega) (by omega) hst);have HST:=ae hst;have HPK:=ae (show p.block≠g∧some p.block≠v.ownBlock from ⟨hpg,hpv⟩);clear hst hpg hpv;go_enter Tryz.func161,Tryz.ntmps161;go_wp2_with fail;refine HC.out.mono ?_;rintro e w1 ⟨rfl,v1,hw1,hk1⟩;have hlen:(bs++le (s.size:Int) 1).length≤1000000008:=by rw [bH,aC];omega
 have hpos:0<(bs++le (s.size:Int) 1).length:=by rw [bH,aC];omega
 obtain ⟨B,hB⟩:∃B,bs++le (s.size:Int) 1=B:=⟨_,rfl⟩;rw [hB] at hw1 hlen hpos;have hp1:w1.cell? p=some (.string s):=(World.cell?_of_block (hk1.block p.block hpl HPK.out.1 HPK.out.2)).trans hp;have HB:=ae hB;have HW:=ae hw1;have HK:=ae hk1;have hc1:=cell_of_row w1 g 0 _ _ _ hw1.1;have hgl:g<w1.heap.size:=hw1.lt;clear hB hw1 hk1 HC hp;go_wp2_with fail
 go_region_law ((refine FP (by rfl) _ _ (by rfl) (g+1) v1 B.length (B.map Extern.Stop.cell) (by rfl) (HW.out.2.drew) s (by rfl) (by omega) (Nat.succ_le_of_lt hgl) (by omega) ?_;intro gg cap w2 hown2 hgrow hat;have hS:=Jr (w:=w1) (W:=w1.drew) (xs:=s.data.toList) (m:=B.length+s.size) HW.out rfl rfl rfl rfl (by rw [Array.length_toList];rfl) hown2 hgrow hat;have hc2:w2.cell? ⟨g,0,none⟩=some v1:=cell_of_row w2 g 0 _ _ _ hS.1;have hf2:=frozen_of_row w2 g 0 _ _ hS.1;have uV:=ae hS;clear hS hown2 hgrow hat))
 all_goals
  go_wp2
  go_end0
  exact ⟨rfl,_,by rw [←List.append_assoc,HB.out];exact uV.out.2.1,HK.out.trans uV.out.2.2⟩
theorem kL (n:Nat) (a:Addr) (w:World):(method (n+1) 73 (.pointer (some a)) "kalends/table.number").run Tryz.prog w= .ok (159, .pointer (some a)) w:=by kernel_rfl
theorem kQ (n:Nat) (a:Addr) (w:World):(nilAhead (n+1) 73 (.pointer (some a)) "kalends/table.number").run Tryz.prog w= .ok (some false) w:=by kernel_rfl
theorem dI (n:Nat) (a:Addr) (w:World):(method (n+1) 121 (.pointer (some a)) "kalends/table.number").run Tryz.prog w= .ok (165, .pointer (some a)) w:=by kernel_rfl
theorem dM (n:Nat) (a:Addr) (w:World):(nilAhead (n+1) 121 (.pointer (some a)) "kalends/table.number").run Tryz.prog w= .ok (some false) w:=by kernel_rfl
theorem kM (n:Nat) (a:Addr) (w:World):(method (n+1) 73 (.pointer (some a)) "kalends/table.offset").run Tryz.prog w= .ok (160, .pointer (some a)) w:=by kernel_rfl
theorem kR (n:Nat) (a:Addr) (w:World):(nilAhead (n+1) 73 (.pointer (some a)) "kalends/table.offset").run Tryz.prog w= .ok (some false) w:=by kernel_rfl
theorem dJ (n:Nat) (a:Addr) (w:World):(method (n+1) 121 (.pointer (some a)) "kalends/table.offset").run Tryz.prog w= .ok (166, .pointer (some a)) w:=by kernel_rfl
theorem dN (n:Nat) (a:Addr) (w:World):(nilAhead (n+1) 121 (.pointer (some a)) "kalends/table.offset").run Tryz.prog w= .ok (some false) w:=by kernel_rfl
theorem nZ (n:Nat) (a:Addr) (w:World):(method (n+1) 73 (.pointer (some a)) "kalends/table.text").run Tryz.prog w= .ok (161, .pointer (some a)) w:=by kernel_rfl
theorem og (n:Nat) (a:Addr) (w:World):(nilAhead (n+1) 73 (.pointer (some a)) "kalends/table.text").run Tryz.prog w= .ok (some false) w:=by kernel_rfl
theorem fJ (n:Nat) (a:Addr) (w:World):(method (n+1) 121 (.pointer (some a)) "kalends/table.text").run Tryz.prog w= .ok (167, .pointer (some a)) w:=by kernel_rfl
theorem fK (n:Nat) (a:Addr) (w:World):(nilAhead (n+1) 121 (.pointer (some a)) "kalends/table.text").run Tryz.prog w= .ok (some false) w:=by kernel_rfl
theorem kJ (n:Nat) (a:Addr) (w:World):(method (n+1) 73 (.pointer (some a)) "kalends/table.digest").run Tryz.prog w= .ok (156, .pointer (some a)) w:=by kernel_rfl
theorem kN (n:Nat) (a:Addr) (w:World):(nilAhead (n+1) 73 (.pointer (some a)) "kalends/table.digest").run Tryz.prog w= .ok (some false) w:=by kernel_rfl
theorem dG (n:Nat) (a:Addr) (w:World):(method (n+1) 121 (.pointer (some a)) "kalends/table.digest").run Tryz.prog w= .ok (162, .pointer (some a)) w:=by kernel_rfl
theorem dK (n:Nat) (a:Addr) (w:World):(nilAhead (n+1) 121 (.pointer (some a)) "kalends/table.digest").run Tryz.prog w= .ok (some false) w:=by kernel_rfl
theorem kK (n:Nat) (a:Addr) (w:World):(method (n+1) 73 (.pointer (some a)) "kalends/table.length").run Tryz.prog w= .ok (158, .pointer (some a)) w:=by kernel_rfl
theorem kP (n:Nat) (a:Addr) (w:World):(nilAhead (n+1) 73 (.pointer (some a)) "kalends/table.length").run Tryz.prog w= .ok (some false) w:=by kernel_rfl
theorem dH (n:Nat) (a:Addr) (w:World):(method (n+1) 121 (.pointer (some a)) "kalends/table.length").run Tryz.prog w= .ok (164, .pointer (some a)) w:=by kernel_rfl
theorem dL (n:Nat) (a:Addr) (w:World):(nilAhead (n+1) 121 (.pointer (some a)) "kalends/table.length").run Tryz.prog w= .ok (some false) w:=by kernel_rfl
theorem TB (n:Nat) (a:Addr) (w:World):(method (n+1) 73 (.pointer (some a)) "kalends/table.flag").run Tryz.prog w= .ok (157, .pointer (some a)) w:=by kernel_rfl
theorem TK (n:Nat) (a:Addr) (w:World):(nilAhead (n+1) 73 (.pointer (some a)) "kalends/table.flag").run Tryz.prog w= .ok (some false) w:=by kernel_rfl
theorem jc (n:Nat) (a:Addr) (w:World):(method (n+1) 121 (.pointer (some a)) "kalends/table.flag").run Tryz.prog w= .ok (163, .pointer (some a)) w:=by kernel_rfl
theorem jd (n:Nat) (a:Addr) (w:World):(nilAhead (n+1) 121 (.pointer (some a)) "kalends/table.flag").run Tryz.prog w= .ok (some false) w:=by kernel_rfl
theorem wM {w:World} {b o:Nat} {v:Value} (h:w.cell? ⟨b,o,none⟩=some v):w.setCell ⟨b,o,none⟩ v=w:=by
 have hh:(w.setCell ⟨b,o,none⟩ v).heap=w.heap:=by
  apply Array.ext_getElem?;intro k;by_cases hk:k=b
  ·subst hk;unfold World.cell? at h;simp only [World.setCell,Array.getElem?_modify];cases hb:w.heap[k]? with
   |none=>simp
   |some x=>
    cases x with
    |cells c e f=>
     rw [hb] at h;simp at h ⊢;exact (by
      apply Array.ext_getElem?;intro i;rw [Array.getElem?_setIfInBounds];split
      ·rename_i e;subst e;split
       ·exact h.symm
       ·rename_i e2;rw [Array.getElem?_eq_none (by omega)] at h;cases h
      ·rfl)
    |_=>simp
  ·exact heap_setCell_other w _ k v hk
 exact (show w.setCell ⟨b,o,none⟩ v= {w with heap:=(w.setCell ⟨b,o,none⟩ v).heap} from rfl).trans (by rw [hh])
theorem dm {w W w':World} {base e size n:Nat} {v:Value} {ys:List Value} (hb:Below base w W) (hown:W.ownsRow base e size v n ys) (hle:base≤W.heap.size) (hg:W.grownBy w' v.ownBlock):Below base w w':=
 ⟨hg.os.trans hb.os,hg.tape.trans hb.tape,hg.output.trans hb.output,Nat.le_trans hb.size hg.size,fun k hk=>(hg.block k (by omega) (dZ hown k hk)).trans (hb.block k hk)⟩
theorem iU (w:World) (e size:Nat):(w.alloc (.cells #[] e)).ownsRow w.heap.size e size (.slice (some ⟨w.heap.size,0,none⟩) 0 0) 0 []:=
 ⟨by simp, .inr ⟨w.heap.size,0,#[],rfl,Nat.le_refl _,heap_alloc_last w _,Nat.le_refl _,Nat.zero_le _,by simp,by simp⟩⟩
def aV (zs:List dB):List Value:=zs.flatMap fun x=>x.cells.toList
theorem fF (zs:List dB):(aV zs).length=zs.length*9:=by
 induction zs with
 |nil=>rfl
 |cons x zs ih=>unfold aV at ih ⊢;rw [List.flatMap_cons,bH,ih,List.length_cons];show 9+zs.length*9=_;omega
theorem BV (zs:List dB):∀u∈aV zs,u.oneCell'=true:=by
 intro u hu;unfold aV at hu;obtain ⟨x,_,hx⟩:=List.mem_flatMap.1 hu;have h:x.cells.all (·.oneCell')=true:=by kernel_rfl
 rw [Array.all_eq_true_iff_forall_mem] at h;exact h u (by simpa using hx)
theorem oZ (zs:List dB) (k j:Nat) (x:dB) (hx:zs[k]? =some x) (hj:j<9):(aV zs)[k*9+j]? =x.cells[j]? :=by
 induction zs generalizing k with
 |nil=>cases hx
 |cons y zs ih=>
  unfold aV at ih ⊢;rw [List.flatMap_cons];have h9:y.cells.toList.length=9:=rfl;cases k with
  |zero=>
   injection hx with hx;subst hx;rw [Nat.zero_mul,Nat.zero_add,List.getElem?_append_left (by omega)];simp
  |succ k=>
   rw [List.getElem?_append_right (by omega),h9,show (k+1)*9+j - 9=k*9+j by omega];exact ih k hx
def nM:Array Value:= #[.string ⟨#[]⟩,I 0, .slice none 0 0,I 0, .slice none 0 0,I 0, .slice none 0 0,I 0, .slice none 0 0]
theorem zC:(Tryz.prog.info? 70).map (fun i=>(i.zero,i.size,i.bytes))=some (some (.agg nM),9,144):=by kernel_rfl
structure ZsNil (s:Zs):Prop where
 B:s.B=none∧s.b=0
 C:s.C=none∧s.c=0
 D:s.D=none∧s.d=0
theorem kF {W:World} {lo e size g n m cap:Nat} {xs:List Value} (h:W.ownsRow lo e size (.slice (some ⟨g,0,none⟩) n cap) m xs):
  ∃cur,W.heap[g]? =some (.cells cur e (0,0))∧lo≤g∧m≤cap∧cap≤maxLen∧cur.size=cap*size∧cur.toList.take (m*size)=xs∧xs.length=m*size∧n=m:=by
 obtain ⟨h0,⟨h1,_⟩|⟨g',cap',cur,h1,h2,h3,h4,h5,h6,h7⟩⟩:=h
 ·cases h1
 ·injection h1 with e1 e2 e3;injection e1 with e1;injection e1 with e1;subst e1 e2 e3;exact ⟨cur,h3,h2,h4,h5,h6,h7,h0,rfl⟩
theorem LH {W:World} {lo e size g n cap:Nat} {xs:List Value} {cur:Array Value} (h1:W.heap[g]? =some (.cells cur e (0,0))) (h2:lo≤g) (h3:n≤cap) (h4:cap≤maxLen) (h5:cur.size=cap*size) (h6:cur.toList.take (n*size)=xs) (h7:xs.length=n*size):W.ownsRow lo e size (.slice (some ⟨g,0,none⟩) n cap) n xs:=
 ⟨h7, .inr ⟨g,cap,cur,rfl,h2,h1,h3,h4,h5,h6⟩⟩
theorem oq {W:World} {lo e size g n m cap:Nat} {xs:List Value} (h:W.ownsRow lo e size (.slice (some ⟨g,0,none⟩) n cap) m xs) (j:Nat) (u:Value) (hu:xs[j]? =some u):W.cell? ⟨g,j,none⟩=some u:=by
 obtain ⟨cur,h1,h2,h3,h4,h5,h6,h7,_⟩:=kF h;rw [cell_of_row W g j _ _ _ h1];rw [←h6] at hu;rw [List.getElem?_take] at hu;split at hu
 ·simpa using hu
 ·cases hu
theorem Bg {W:World} {lo e size g n m cap:Nat} {xs:List Value} (h:W.ownsRow lo e size (.slice (some ⟨g,0,none⟩) n cap) m xs) (j:Nat):W.frozen? ⟨g,j,none⟩=false:=by
 obtain ⟨cur,h1,_⟩:=kF h;exact frozen_of_row W g j _ _ h1
theorem iV {W:World} {lo e size g n m cap:Nat} {xs:List Value} (h:W.ownsRow lo e size (.slice (some ⟨g,0,none⟩) n cap) m xs):lo≤g∧g<W.heap.size:=by
 obtain ⟨cur,h1,h2,_⟩:=kF h;exact ⟨h2,(bK.1 h1).1⟩
theorem XB {W:World} {lo e size g n m cap:Nat} {xs:List Value} (h:W.ownsRow lo e size (.slice (some ⟨g,0,none⟩) n cap) m xs) (o:Nat) (v:Value):(W.setCell ⟨g,o,none⟩ v).ownsRow lo e size (.slice (some ⟨g,0,none⟩) n cap) m (xs.set o v):=by
 obtain ⟨cur,h1,h2,h3,h4,h5,h6,h7,rfl⟩:=kF h;refine LH (heap_setCell_same W g o cur e v h1) h2 h3 h4 (by rw [Array.size_setIfInBounds];exact h5) ?_ (by rw [List.length_set];exact h7);rw [Array.toList_setIfInBounds,List.take_set,h6]
def PN (xs:List Value) (o:Nat):List Value→List Value
 | []=>xs
 |v::r=>PN (xs.set o v) (o+1) r
theorem IJ {lo e size g n m cap:Nat}:∀(vs:List Value) (o:Nat) (xs:List Value) (W:World),W.ownsRow lo e size (.slice (some ⟨g,0,none⟩) n cap) m xs→(W.setCells g o vs).ownsRow lo e size (.slice (some ⟨g,0,none⟩) n cap) m (PN xs o vs)
 | [],_,_,_,h=>h
 |v::r,o,xs,_,h=>IJ r (o+1) (xs.set o v) _ (XB h o v)
theorem set_mid (ls bs cs:List Value) (j:Nat) (v:Value) (hj:j<bs.length):(ls++(bs++cs)).set (ls.length+j) v=ls++(bs.set j v++cs):=by
 rw [List.set_append_right _ _ (by omega),List.set_append_left _ _ (by omega)];simp
theorem IQ (ls cs:List Value):∀(vs bs:List Value) (j:Nat),j+vs.length≤bs.length→PN (ls++(bs++cs)) (ls.length+j) vs=ls++(PN bs j vs++cs)
 | [],_,_,_=>rfl
 |v::r,bs,j,h=>by
  rw [List.length_cons] at h;show PN ((ls++(bs++cs)).set (ls.length+j) v) (ls.length+j+1) r=_;rw [set_mid ls bs cs j v (by omega),Nat.add_assoc];exact IQ ls cs r (bs.set j v) (j+1) (by rw [List.length_set];omega)
theorem sV:∀(vs:List Value) (w:World) (b o k:Nat),k≠b→(w.setCells b o vs).heap[k]? =w.heap[k]?
 | [],_,_,_,_,_=>rfl
 |v::r,w,b,o,k,h=>(sV r _ b (o+1) k h).trans (heap_setCell_other w _ k v h)
theorem FN:∀(vs:List Value) (w:World) (b o:Nat),(w.setCells b o vs).heap.size=w.heap.size
 | [],_,_,_=>rfl
 |v::r,w,b,o=>(FN r _ b (o+1)).trans (by simp [World.setCell])
theorem I7 {B:Nat} {w0:World}:∀(vs:List Value) (w:World) (b o:Nat),Below B w0 w→B≤b→Below B w0 (w.setCells b o vs)
 | [],_,_,_,h,_=>h
 |v::r,_,b,o,h,hb=>I7 r _ b (o+1) (h.setCell (p:=⟨b,o,none⟩) hb v) hb
theorem yL (xs ys:List dB):aV (xs++ys)=aV xs++aV ys:=by simp [aV]
theorem yM (ys:List dB) (x:dB) (rest:List dB):aV (ys++x::rest)=aV ys++(x.cells.toList++aV rest):=by simp [aV]
theorem Gs (ys:List dB) (x:dB) (rest:List dB) (s:Zs):PN (aV (ys++x::rest)) (ys.length*9+1) (au x.e.z s).toList=aV (ys++⟨x.e,s⟩::rest):=by
 rw [yM,yM,←fF,IQ _ _ _ _ _ (by show 1+8≤9;omega)];rfl
structure ku (lo:Nat) (w:World) (v:Value) (zs:List dB):Prop where
 row:w.ownsRow lo 70 9 v zs.length (aV zs)
 aj:∀x∈zs,LI lo w x.s.A x.e.z.cal.aj
 nils:∀x∈zs,ZsNil x.s
 nil:zs.length=0→v= .slice none 0 0
theorem ku.aQ {lo:Nat} {w w':World} {v:Value} {zs:List dB} (h:ku lo w v zs) (hs:w.heap.size≤w'.heap.size) (hb:∀k,lo≤k→k<w.heap.size→w'.heap[k]? =w.heap[k]?):ku lo w' v zs:=
 ⟨aN h.row hb,fun x hx=>(h.aj x hx).aQ hs hb,h.nils,h.nil⟩
theorem ku.below {lo:Nat} {w w':World} {v:Value} {zs:List dB} (h:ku lo w v zs) (hb:Below w.heap.size w w'):ku lo w' v zs:=h.aQ hb.size fun k _ hk=>hb.block k hk
theorem ku.lower {lo lo':Nat} {w:World} {v:Value} {zs:List dB} (h:ku lo w v zs) (hl:lo'≤lo):ku lo' w v zs:=
 ⟨aK h.row hl,fun x hx=>(h.aj x hx).lower hl,h.nils,h.nil⟩
theorem ku.form {lo:Nat} {w:World} {v:Value} {zs:List dB} (h:ku lo w v zs):(zs= []∧v= .slice none 0 0)∨(0<zs.length∧∃g c,v= .slice (some ⟨g,0,none⟩) zs.length c∧lo≤g∧g<w.heap.size):=by
 by_cases h0:zs.length=0
 ·exact .inl ⟨List.eq_nil_of_length_eq_zero h0,h.nil h0⟩
 ·obtain ⟨g,c,h1,h2⟩:=fM h.row (by omega);refine .inr ⟨by omega,g,c,h1,?_,h2⟩;have hr:=h.row;rw [h1] at hr;exact (iV hr).1
theorem ku.zes {lo:Nat} {w:World} {A:Option Addr} {n c:Nat} {zs:List dB} (h:ku lo w (.slice A n c) zs):xW w w.heap.size A zs:=by
 rcases h.form with ⟨h1,_⟩|⟨_,g,c',h1,h2,h3⟩
 ·exact .inl (by rw [h1];rfl)
 ·injection h1 with e1 e2 e3;subst e1;have hr:=h.row;refine .inr ⟨g,rfl,h3,fun k x hx=>⟨fun j u hu=>?_,(h.aj x (gU hx)).ints⟩⟩;have hj:j<9:=(iT.1 hu).1;exact oq hr _ u (by rw [oZ zs k j x hx hj];simpa using hu)
attribute [local go_sem] kL kQ kM kR nZ og kJ kN kK kP
theorem gQ.drew {w:World} {g:Nat} {v:Value} {bs:List UInt8} (h:gQ w g v bs):gQ w.drew g v bs:=⟨h.1,h.2.drew⟩
theorem aT {g:Nat} {v v':Value} {w w':World} (h:iE g v w.drew v' w'):iE g v w v' w':=⟨h.os,h.tape,h.output,h.size,h.block,h.own⟩
theorem di {w w':World} {g:Nat} {v v':Value} {bs:List UInt8} (h:gQ w g v bs) (hk:iE g v w v' w'):Below g w w':=
 ⟨hk.os,hk.tape,hk.output,hk.size,fun k hb=>hk.block k (by have:=h.lt;omega) (by omega) (dZ h.2 k (by omega))⟩
theorem MO (w:World) (g:Nat) (p:Addr) (v:Value) (bs:List UInt8) (n:Int) (hf:fits n) (hl:bs.length≤1000000000) (hst:gQ w g v bs) (hp:w.cell? p=some (I n)):
  Calls Tryz.prog 86 #[.iface 73 (pt g), .pointer (some p)] w (iQ w g v (bs++le n 1)):=by
 have HC:=ae (dC w g p v bs n 1 hf.1 hf.2 (by omega) (by omega) hst.lt hst hp);clear hst hp;go_enter Tryz.func86,Tryz.ntmps86;go_wp2_with fail;refine HC.out.mono ?_;rintro e w1 ⟨rfl,h⟩;have H:=ae h;clear h HC;go_wp2_with fail
 go_end0
 exact ⟨rfl,H.out⟩
def WlRel (w:World) (g:Nat) (v:Value) (bs:List UInt8) (n:Nat) (zs:List Int) (i:Value) (wr:World):Prop:=
 ∃k:Nat,k≤n∧i= .int .i64 k∧∃v',gQ wr g v' (bs++(le n 1++fZ (zs.take k)))∧iE g v w v' wr
theorem Gg (w:World) (g lb lo:Nat) (A:Option Addr) (n c:Nat) (zs:List Int) (v:Value) (bs:List UInt8) (hn:zs.length=n) (hn2:n≤100000) (hp:w.cell? ⟨lb,lo,none⟩=some (.slice A n c)) (SL:lb<g) (hA:jU w g A zs) (hfit:∀z∈zs,fits z)
  (hl:bs.length≤100000000) (hst:gQ w g v bs):
  Calls Tryz.prog 85 #[.iface 73 (pt g), .pointer (some ⟨lb,lo,none⟩),I 1, .func (.func 86) #[] #[]] w (iQ w g v (bs++(le n 1++fZ zs))):=by
 have HC:=ae (jG w.drew g v bs n 1 (by omega) (by omega) (by omega) (by omega) hst.drew);have HST:=ae hst;have HN:=ae hn;have HF:=ae hfit;have HA:=ae hA;have HP:=ae hp;have hgl:=hst.lt;clear hst hn hfit hA;go_enter Tryz.func85,Tryz.ntmps85;go_wp2_with fail;go_still_tail 9,(by kernel_rfl);go_wp2_with fail;refine HC.out.mono ?_;rintro e w1 ⟨rfl,v1,hs1,hk1⟩;have mr:=ae hs1;have jX:=ae (aT hk1);clear hs1 hk1 HC hp;go_wp2_with fail
 go_loopw [22] (fun i wr=>WlRel w g v bs n zs i wr) (fun i _=>n - (intOf i).toNat)
 case atStart=>exact ⟨0,Nat.zero_le _,rfl,v1,by simpa [fZ] using mr.out,jX.out⟩
 case round=>
  obtain ⟨k,hk,rfl,v2,hs2,hk2⟩:=hrel;have hb2:=di HST.out hk2;have HB2:=ae hb2;have HS2:=ae hs2;have jI:=ae hk2;have hp2:wr.cell? ⟨lb,lo,none⟩=some (.slice A n c):=(hb2.cell (p:=⟨lb,lo,none⟩) SL).trans HP.out;clear hs2 hk2 hb2 mr jX;by_cases hlt:k<n
  ·have hkz:k<zs.length:=by rw [HN.out];exact hlt
   obtain ⟨b,off,rfl,hbg,hc0⟩:∃b off,A=some ⟨b,off,none⟩∧b<g∧∀j,j<zs.length→w.cell? ⟨b,off+j,none⟩=some (I (zs[j]?.getD 0)):=by
    rcases HA.out with h|h
    ·omega
    ·exact h
   obtain ⟨z,hz⟩:∃z,zs[k]? =some z:=⟨_,bZ hkz⟩;have hcz:wr.cell? ⟨b,off+k,none⟩=some (I z):=(HB2.out.cell (p:=⟨b,off+k,none⟩) hbg).trans (by rw [hc0 k hkz,hz];rfl);have hlen:(bs++(le (n:Int) 1++fZ (zs.take k))).length≤1000000000:=by
    rw [bH,bH,aC,lQ,List.length_take];omega
   have HM:=ae (MO wr g ⟨b,off+k,none⟩ v2 _ z (HF.out z (gU hz)) hlen HS2.out hcz);have HZ:=ae hz;have i0:(0:Int)≤(k:Int):=by omega
   have i1:(k:Int)<(n:Int):=by omega
   have i2:((k:Int)==(n:Int))=false:=by simp;omega
   clear hkz hc0 hz hlen hcz;go_wp2_with fail;refine HM.out.mono ?_;rintro e w3 ⟨rfl,v3,hs3,hk3⟩;have qx:=ae hs3;have nG:=ae (jI.out.trans hk3);clear hs3 hk3 hp2;go_wp2_with fail;go_roundw
   case rel=>exact ⟨k+1,by omega,by go_num,v3,by rw [jR zs k z HZ.out,Ak,←List.append_assoc (le _ _),←List.append_assoc];exact qx.out,nG.out⟩
   case measure=>simp [intOf];omega
  ·have hkn:k=n:=by omega
   have nH:=ae hkn;clear hkn;go_wp2_with fail
   go_end0
   exact ⟨rfl,v2,by have h:=HS2.out;rwa [nH.out,List.take_of_length_le (by rw [HN.out];exact Nat.le_refl _)] at h,jI.out⟩
end Go.Proofs.YtbaehbbonkljpaaGreat
namespace Go.Proofs.YtbaehbbonkljpaaGreat
open Go Go.RowKit
attribute [local go_sem] dI dM dJ dN fJ fK dG dK dH dL
theorem TQ {W W':World} {lo e size g n m cap rb o:Nat} {xs:List Value} {v:Value} {cur:Array Value} (h:W.ownsRow lo e size (.slice (some ⟨g,0,none⟩) n cap) m xs) (hg:W.heap[g]? =some (.cells cur e (0,0))) (hp:bI W rb g e (cur.setIfInBounds o v) W'):
  W'.ownsRow lo e size (.slice (some ⟨g,0,none⟩) n cap) m (xs.set o v):=by
 obtain ⟨cur',h1,h2,h3,h4,h5,h6,h7,rfl⟩:=kF h;rw [hg] at h1;injection h1 with h1;injection h1 with h1;subst h1;exact LH hp.tgt h2 h3 h4 (by rw [Array.size_setIfInBounds];exact h5) (by rw [Array.toList_setIfInBounds,List.take_set,h6]) (by rw [List.length_set];exact h7)
theorem ints_set (zs:List Int) (z:Int):((zs.map I)++ [I 0]).set zs.length (I z)=(zs++ [z]).map I:=by
 rw [List.set_append_right _ _ (by simp)];simp
end Go.Proofs.YtbaehbbonkljpaaGreat
namespace Go.Proofs.YtbaehbbonkljpaaGreat
open Go Go.RowKit
def az (w:World) (B:Nat) (A:Option Addr) (cs:List Value):Prop:=
 cs.length=0∨∃b off,A=some ⟨b,off,none⟩∧b<B∧∀j u,cs[j]? =some u→w.cell? ⟨b,off+j,none⟩=some u
section
variable {w w':World} {B B':Nat} {A:Option Addr} {cs:List Value}
theorem az.keep (h:az w B A cs) (hb:Below B w w'):az w' B A cs:=by
 rcases h with h|⟨b,off,h1,h2,h3⟩
 ·exact .inl h
 ·exact .inr ⟨b,off,h1,h2,fun j u hu=>(hb.cell (p:=⟨b,off+j,none⟩) h2).trans (h3 j u hu)⟩
theorem az.more (h:az w B A cs) (hB:B≤B'):az w B' A cs:=by
 rcases h with h|⟨b,off,h1,h2,h3⟩
 ·exact .inl h
 ·exact .inr ⟨b,off,h1,by omega,h3⟩
theorem az.grow (h:az w w.heap.size A cs) (hb:Below w.heap.size w w'):az w' w'.heap.size A cs:=(h.keep hb).more hb.size
theorem az.nil:az w B A []:= .inl rfl
theorem az.drew (h:az w B A cs):az w.drew B A cs:=h
theorem az.there (h:az w B A cs) (h0:0<cs.length):∃b off,A=some ⟨b,off,none⟩∧b<B∧∀j u,cs[j]? =some u→w.cell? ⟨b,off+j,none⟩=some u:=by
 rcases h with h|h
 ·omega
 ·exact h
theorem az.dO {lo e size n c:Nat} (h:w.ownsRow lo e size (.slice A n c) n cs):az w w.heap.size A cs:=by
 rcases h.2 with ⟨hv,hn⟩|⟨g,cap,cur,hv,_,hh,_⟩
 ·refine .inl ?_;rw [h.1,hn,Nat.zero_mul]
 ·injection hv with h1 _ _;subst h1;exact .inr ⟨g,0,rfl,(bK.1 hh).1,fun j u hu=>by rw [Nat.zero_add,←addr_add];exact h.cells (g:=g) rfl j u hu⟩
theorem az.ints {zs:List Int} (h:az w B A (zs.map I)):jU w B A zs:=by
 rcases h with h|⟨b,off,h1,h2,h3⟩
 ·exact .inl (by simpa using h)
 ·refine .inr ⟨b,off,h1,h2,fun j hj=>?_⟩;rw [h3 j (I zs[j]) (by rw [List.getElem?_map,bZ hj];rfl),bZ hj];rfl
theorem az.bytes {bs:List UInt8} (h:az w B A (bs.map Extern.Stop.cell)):BytesAt w B A bs:=by
 rcases h with h|⟨b,off,h1,h2,h3⟩
 ·exact .inl (by simpa using h)
 ·refine .inr ⟨b,off,h1,h2,fun j hj=>?_⟩;rw [h3 j (Extern.Stop.cell bs[j]) (by rw [List.getElem?_map,bZ hj];rfl),bZ hj];rfl
end
theorem flat_get {α:Type} {s:Nat} (f:α→List Value) (xs:List α) (hs:∀x∈xs,(f x).length=s) (k j:Nat) (x:α) (hx:xs[k]? =some x) (hj:j<s):(xs.flatMap f)[k*s+j]? =(f x)[j]? :=by
 induction xs generalizing k with
 |nil=>cases hx
 |cons y xs ih=>
  rw [List.flatMap_cons];have hy:=hs y (List.mem_cons_self ..);cases k with
  |zero=>
   injection hx with hx;subst hx;rw [Nat.zero_mul,Nat.zero_add,List.getElem?_append_left (by rw [hy];exact hj)]
  |succ k=>
   rw [List.getElem?_append_right (by rw [hy,Nat.succ_mul];omega),hy,show (k+1)*s+j - s=k*s+j by rw [Nat.succ_mul];omega];exact ih (fun x hx=>hs x (List.mem_cons_of_mem _ hx)) k hx
theorem cu {α:Type} {s:Nat} (f:α→List Value) (xs:List α) (hs:∀x∈xs,(f x).length=s):(xs.flatMap f).length=xs.length*s:=by
 induction xs with
 |nil=>simp
 |cons y xs ih=>rw [List.flatMap_cons,bH,ih (fun x hx=>hs x (List.mem_cons_of_mem _ hx)),hs y (List.mem_cons_self ..),List.length_cons,Nat.succ_mul];omega
theorem EZ {α:Type} (f:α→List Value) (xs:List α) (h1:∀x∈xs,∀u∈f x,u.oneCell'=true):∀u∈xs.flatMap f,u.oneCell'=true:=by
 intro u hu;obtain ⟨x,hm,hx⟩:=List.mem_flatMap.1 hu;exact h1 x hm u hx
theorem az.elem {α:Type} {w:World} {s b off:Nat} {f:α→List Value} {xs:List α} (hs:∀x∈xs,(f x).length=s) (h:∀j u,(xs.flatMap f)[j]? =some u→w.cell? ⟨b,off+j,none⟩=some u) (k:Nat) (x:α) (hx:xs[k]? =some x):w.rangeAt b (off+k*s) (f x):=by
 intro j u hu;have hj:j<s:=by rw [←hs x (gU hx)];exact (iT.1 hu).1
 rw [Nat.add_assoc];exact h _ u (by rw [flat_get f xs hs k j x hx hj];exact hu)
theorem oQ (t:Tb) (v v':Value):(ah t v).setIfInBounds 3 v'=ah t v':=by simp [ah,iW]
theorem aW (t:Tb) (A:Option Addr) (n c:Nat):(ah t (.slice A n c)).all (·.oneCell')=true:=by
 rw [Array.all_eq_true_iff_forall_mem];intro u hu;unfold ah iW at hu;rw [List.mem_toArray,List.mem_append,List.mem_append] at hu;rcases hu with h|h|h
 ·simp at h;rcases h with rfl|rfl|rfl|rfl<;>rfl
 ·exact wL _ u h
 ·exact wL _ u h
structure Cc (w:World) (t:Tb) (v:Value) (W:World):Prop where
 var:W.heap[w.heap.size]? =some (.cells (ah t v) 39 (0,0))
 res:W.heap[w.heap.size+1]? =some (.cells Tryz.zeroCells39 39 (0,0))
 up:Below w.heap.size w W
theorem Cc.lt {w W:World} {t:Tb} {v:Value} (h:Cc w t v W):w.heap.size+1<W.heap.size:=(bK.1 h.res).1
theorem Cc.grow {w W W':World} {t:Tb} {v:Value} (h:Cc w t v W) (hb:Below W.heap.size W W'):Cc w t v W':=
 ⟨(hb.block _ (by have:=h.lt;omega)).trans h.var,(hb.block _ h.lt).trans h.res,ai h.up hb⟩
theorem Cc.store {w W:World} {t:Tb} {v:Value} (h:Cc w t v W) (v':Value):Cc w t v' (W.setCell ⟨w.heap.size,3,none⟩ v'):=
 ⟨by rw [heap_setCell_same W _ 3 _ _ _ h.var,oQ],(heap_setCell_other W _ _ v' (by show w.heap.size+1≠w.heap.size;omega)).trans h.res,h.up.setCell (p:=⟨w.heap.size,3,none⟩) (Nat.le_refl _) _⟩
theorem Cc.puts {w W:World} {t:Tb} {v:Value} (h:Cc w t v W) (g o:Nat) (vs:List Value) (hg:w.heap.size+2≤g):Cc w t v (W.setCells g o vs):=
 ⟨(sV vs W g o _ (by omega)).trans h.var,(sV vs W g o _ (by omega)).trans h.res,I7 vs W g o h.up (by omega)⟩
theorem Cc.drew {w W:World} {t:Tb} {v:Value} (h:Cc w t v W):Cc w t v W.drew:=⟨h.var,h.res,h.up.drew⟩
theorem Cc.start (w:World) (t:Tb) (v:Value):Cc w t v ((w.alloc (.cells (ah t v) 39)).alloc (.cells Tryz.zeroCells39 39)):=
 ⟨heap_alloc2_old w _ _,heap_alloc2_new w _ _,ai (ag w _) (ag _ _)⟩
theorem Cc.row {w W:World} {t:Tb} {v:Value} (h:Cc w t v W):Row W w.heap.size (ah t v):=⟨by have:=h.lt;omega,fun i=>cell_of_row W _ i _ _ _ h.var⟩
attribute [local go_sem] iY iZ ja bC
def LX (lo g:Nat) (w:World) (A:Option Addr) (zs:List Int):Prop:=
 ∃b off,A=some ⟨b,off,none⟩∧lo≤b∧b<w.heap.size∧b≠g∧∀j,j<zs.length→w.cell? ⟨b,off+j,none⟩=some (I (zs[j]?.getD 0))
theorem LX.aQ {lo g:Nat} {w w':World} {A:Option Addr} {zs:List Int} (h:LX lo g w A zs) (hs:w.heap.size≤w'.heap.size) (hb:∀k,k<w.heap.size→k≠g→w'.heap[k]? =w.heap[k]?):LX lo g w' A zs:=by
 obtain ⟨b,off,h1,h2,h3,h4,h5⟩:=h;exact ⟨b,off,h1,h2,dW h3 hs,h4,fun j hj=>(World.cell?_of_block (a:=⟨b,off+j,none⟩) (hb b h3 h4)).trans (h5 j hj)⟩
theorem LX.dO {lo B g b n c:Nat} {w:World} {zs:List Int} (h:w.ownsRow B 3 1 (.slice (some ⟨b,0,none⟩) n c) n (zs.map I)) (hl:lo≤B) (hg:g<B):LX lo g w (some ⟨b,0,none⟩) zs:=by
 have h1:=iV h;refine ⟨b,0,rfl,by omega,h1.2,by omega,fun j hj=>?_⟩;rw [Nat.zero_add];refine oq h j _ ?_;rw [List.getElem?_map,bZ hj];rfl
end Go.Proofs.YtbaehbbonkljpaaGreat
