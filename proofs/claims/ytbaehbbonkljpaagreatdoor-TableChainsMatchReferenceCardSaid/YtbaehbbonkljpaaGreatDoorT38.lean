/- The texts DgU, Wk, Of, TrU, Og, TrV, Qi, Qj, Oh, Wl, in this order. -/
import Derived.Test.YtbaehbbonkljpaaGreatDoorT37
set_option maxRecDepth 10000
set_option maxHeartbeats 8000000
namespace Go.Proofs.YtbaehbbonkljpaaGreatDoor
open Go Go.RowKit
theorem alM (KR:ag Int)(hK:KR.length=64)(w:ae)(hG:MS w 0 (JP KR))(bs:ag au)(hb0:0<bs.length)(hlen:bs.length<=1000000000)(ab off c:Nat)(hla:ab<w.heap.size)(hby:∀j,j<bs.length->w.cell? ⟨ab,off+j,none⟩=some (Extern.Stop.cell (bs[j]?.getD 0))):
  Calls Tryz.prog 79 #[.slice (some ⟨ab,off,none⟩) bs.length c] w (Gives (.agg (cellsB (OE KR bs))) w):=by
 obtain⟨W1,hW1⟩:∃W,(w.alloc (.cells (cellsB z32) 24)).alloc (.cells #[.slice (some ⟨ab,off,none⟩) bs.length c] 55)=W:=⟨_,rfl⟩;have hs1:W1.heap.size=w.heap.size+2:=by rw[<-hW1];simp
 have hb1:ai w.heap.size w W1:=by rw[<-hW1];exact((aW _ w).alloc (ay _) _).alloc (by simp) _
 have hr1:W1.heap[w.heap.size]? =some (.cells (cellsB z32) 24 (0,0)):=by rw[<-hW1];exact dJ w _ _
 have hp1:W1.heap[w.heap.size+1]? =some (.cells #[.slice (some ⟨ab,off,none⟩) bs.length c] 55 (0,0)):=by rw[<-hW1];exact bW w _ _
 have HC:Hid (Calls Tryz.prog 73 #[.slice (some ⟨w.heap.size+1,0,none⟩) 1 1] W1 fun e w'=>e=.returned (.agg (cellsB (OE KR bs)))/\ai W1.heap.size W1 w'):=
  JJ (akG KR hK W1 ⟨LK hG.1 hb1.size,fun i=>(hb1.cell (p:=⟨0,i,none⟩) hG.1).trans (hG.2 i)⟩ bs hb0 hlen (w.heap.size+1) ab off c (aC _ _ 0 _ _ _ hp1) (by omega) (by omega) fun j hj=>(hb1.cell (p:=⟨ab,off+j,none⟩) hla).trans (hby j hj))
 have HW1:=JJ hW1;have HB1:=JJ hb1;have HR1:=JJ hr1;have L6:Hid ((Tryz.prog.info? 24).map (·.size)=some (cellsB (OE KR bs)).size):=JJ (by rw[KU,Nj];kernel_rfl);have HSO:Hid ((cellsB z32).size=(cellsB (OE KR bs)).size):=JJ (by rw[KU,KU,Nj];rfl);obtain⟨N,hN⟩:∃N,bs.length=N:=⟨_,rfl⟩;rw[hN] at HW1⊢;clear hs1 hb1 hr1 hp1 hW1 hby hG hK hN;go_enter Tryz.func79,Tryz.ntmps79;go_wp2_with(first
  |(refine JW rfl _ rfl (cellsB z32) NW ?_)
  |(go_at_call 73;rw[HW1.out];refine HC.out.mono ?_;rintro e w2 ⟨rfl,hb2⟩;have HB2:=JJ hb2;have HR2:Hid (w2.heap[w.heap.size]? =some (.cells (cellsB z32) 24 (0,0))):=JJ ((hb2.block _ (KY.1 HR1.out).1).trans HR1.out);clear hb2)
  |(with_reducible refine awj 24 ?_;refine aB rfl _ _ _ rfl w.heap.size (cellsB (OE KR bs)) rfl rfl 24 (cellsB z32) HR2.out L6.out HSO.out (O5 _) ?_))
 refine aX (v:=.agg (cellsB (OE KR bs))) (dH rfl _ _ w.heap.size _ (cellsB (OE KR bs)) (0,0) _ rfl (aQ _ _ _ _ _ _ HR2.out) aK rfl L6.out) rfl ?_;exact⟨rfl,eH (HB1.out.trans (HB2.out.mono HB1.out.size)) (ay _) _⟩
theorem ad5 {lo:Nat}{w:ae}{g n c:Nat}{bs:ag au}(h:w.ownsRow lo 5 1 (.slice (some ⟨g,0,none⟩) n c) n (bs.map Extern.Stop.cell))(j:Nat)(hj:j<bs.length):w.cell? ⟨g,0+j,none⟩=some (Extern.Stop.cell (bs[j]?.getD 0)):=by
 have h2:=h.cells (g:=g) rfl j (Extern.Stop.cell (bs[j]?.getD 0)) (by rw[aJ,KL hj];rfl);rw[addr_add] at h2;rw[aT];exact h2
theorem aie (x:Kv)(w:ae)(hx:Ld w w.heap.size x):Calls Tryz.prog 22 #[.agg (JK x.t (.slice x.A x.zs.length x.c))] w fun e w'=>
  ∃A1 c1,e=.returned (.tuple #[.slice A1 (O4 x.t).length c1,I (O0 x.t)])/\Rh w.heap.size w' A1 (O4 x.t).length c1 (O4 x.t)/\ai w.heap.size w w':=by
 refine(aag x.t x.A x.zs.length x.c x.zs w hx.prev hx.Ku hx.names rfl hx.JX).mono fun e w' h=>?_;rcases h with ⟨h0,⟨g,c,he,ho⟩,hb⟩|⟨h0,he,hb⟩
 ·have e1:O4 x.t=PN x.t:=bD h0;rw[e1,h0];exact⟨some ⟨g,0,none⟩,c,he,ho,hb⟩
 ·have e1:O4 x.t= []:=bP h0;rw[e1];exact⟨none,0,he,dD _ _ _ _,hb⟩
theorem asr (KR:ag Int)(hK:KR.length=64)(w:ae)(hG:MS w 0 (JP KR))(hw1:0<w.heap.size)(x:Kv)(hx:Ld w w.heap.size x)(hL:(O4 x.t).length<=90000):
  Calls Tryz.prog 58 #[.agg (JK x.t (.slice x.A x.zs.length x.c))] w (Gives (.tuple #[.agg (cellsB (OE KR (O4 x.t++x.t.Ku))),.bool (O0 x.t==0)]) w):=by
 have SY:=JJ fun (W:ae) (hb:ai w.heap.size w W)=>aie x W ((hx.keep hb).more hb.size);have HF:Hid (x.t.prev.length=32/\x.t.Ku.length=32):=JJ ⟨hx.prev,hx.Ku⟩;obtain⟨t,A,c,zs⟩:=x;simp only at*;obtain⟨n,hn⟩:∃n,zs.length=n:=⟨_,rfl⟩;obtain⟨rv,U1⟩:∃v,O0 t=v:=⟨_,rfl⟩;obtain⟨LB,hLB⟩:∃l,O4 t=l:=⟨_,rfl⟩;obtain⟨qv,hqv⟩:∃q,(rv==0)=q:=⟨_,rfl⟩;rw[hn,U1,hLB] at SY;rw[hLB] at hL;rw[hn,U1,hLB,hqv];have HK:=JJ hK;have HG:=JJ hG;have L6:Hid (∀v,(Tryz.prog.info? 26).map (·.size)=some (JK t v).size):=JJ fun v=>Ky t v HF.out.1 HF.out.2;have H0:=JJ (V2.start w 26 (JK t (.slice A n c)) 24 (cellsB z32));obtain⟨D,hD⟩:∃D,OE KR (LB++t.Ku)=D:=⟨_,rfl⟩;have hd32:D.length=32:=by rw[<-hD];exact Nj _ _
 rw[hD];have HD:=JJ hD;have auy:=JJ hd32;have HDE:Hid ((cellsB z32).size=(cellsB D).size):=JJ (by rw[KU,KU,hd32];rfl);obtain⟨N,hN⟩:∃N,LB.length=N:=⟨_,rfl⟩;have HN:=JJ hN;rw[hN] at hL SY;clear hx hn U1 hLB hK hG hD hd32 hN;go_enter Tryz.func58,Tryz.ntmps58;go_upto_region 1 with (first
  |((with_reducible refine Kz 24 ?_);refine JW rfl _ rfl (cellsB z32) NW ?_))
 generalize (w.alloc (.cells (JK t (.slice A n c)) 26)).alloc (.cells (cellsB z32) 24)=W0 at H0⊢;go_wp2_with((with_reducible refine KO 26 ?_);refine J3 rfl _ _ rfl w.heap.size rfl (JK t (.slice A n c)) H0.out.s.Nc _ az rfl (L6.out _) ?_);refine(SY.out W0 H0.out.lo).mono ?_;rintro e w1 ⟨A1,c1,rfl,o1,b1⟩;have h1:=H0.out.grow b1;have H1:=JJ h1;have hw0:=H0.out.r.lt;have hs1:W0.heap.size<=w1.heap.size:=b1.size;have VS:Hid (Rh W0.heap.size w1 A1 N c1 LB):=JJ o1;have Xx:Hid (JS w1 w1.heap.size (some ⟨w.heap.size,36,none⟩) (t.Ku.map Extern.Stop.cell)):=JJ (.inr ⟨w.heap.size,36,rfl,by have:=h1.r.lt;omega,Vo t (.slice A n c) (Row.Nk h1.s.var) HF.out.1⟩);clear o1 b1 h1 H0 SY;go_wp2_with(at_builtin;refine OO rfl _ _ rfl W0.heap.size N c1 A1 LB rfl VS.out _ (some ⟨w.heap.size,36,none⟩) 32 32 t.Ku rfl HF.out.2 (by omega) Xx.out (by omega) hs1 ?_);intro A3 c3 w3 o3 k3;have h3:=H1.out.abx (k3.VL VS.out.base hs1) hw0;have H3:=JJ h3;obtain⟨g3,c4,hv3,hg3⟩:=LW (show w3.ownsRow _ _ 1 (.slice A3 (N+32) c3) (N+32) _ from o3) (by omega);injection hv3 with e1 _ e3;subst e1 e3;have HS:Hid (Calls Tryz.prog 79 #[.slice (some ⟨g3,0,none⟩) (N+32) c3] w3 (Gives (.agg (cellsB D)) w3)):=JJ (by
  have hl:(LB++t.Ku).length=N+32:=by rw[KN,HN.out,HF.out.2]
  have:=alM KR HK.out w3 (HG.out.via h3.lo hw1) (LB++t.Ku) (by omega) (by omega) g3 0 c3 hg3 (ad5 o3);rw[hl,HD.out] at this;exact this)
 clear o3 k3 h3 H1 VS Xx;go_wp2_with fail;refine HS.out.mono ?_;rintro e w4 ⟨rfl,hb4⟩;have H4:=JJ (H3.out.grow hb4);clear H3 HS hb4 hg3;go_wp2_with((with_reducible refine KZ 24 ?_);refine aB rfl _ _ _ rfl (w.heap.size+1) (cellsB D) rfl rfl 24 (cellsB z32) H4.out.r.var (Na D auy.out) HDE.out (O5 _) ?_);refine aX (v:=.tuple #[.agg (cellsB D),.bool qv]) (Ko rfl _ _ (w.heap.size+1) _ (cellsB D) (0,0) _ rfl (aQ _ _ _ _ _ _ H4.out.r.var) aK rfl (Na D auy.out) _ rfl) rfl ?_;exact⟨rfl,JR H4.out.lo (bV _) _⟩
theorem af1 {lo:Nat}{w:ae}{g n c:Nat}{bs:ag au}(h:w.ownsRow lo 5 1 (.slice (some ⟨g,0,none⟩) n c) n (bs.map Extern.Stop.cell))(j:Nat)(hj:j<bs.length):w.cell? ⟨g,0+j,none⟩=some (Extern.Stop.cell (bs[j]?.getD 0)):=by
 have h2:=h.cells (g:=g) rfl j (Extern.Stop.cell (bs[j]?.getD 0)) (by rw[aJ,KL hj];rfl);rw[addr_add] at h2;rw[aT];exact h2
theorem YY (w:ae)(r r':ag au)(h:r.length=32)(h':r'.length=32):
  (binOp .neq 24 (.agg (JO r).toArray) (.agg (JO r').toArray)).run Tryz.prog w=.ok (.bool (!(r==r'))) w:=by
 unfold JO;rw[nM,kQ w 9998 24 5 32 aK gW (fun w=>Y0 w) r r' h h'];rfl
def Uk (KR:ag Int)(key:ag au)(ts:ag Kv)(t:Tb):Int:=
 if (!(t.Ku==QR KR key (PN t)))=true then 8 else if¬t.version=(ts.length:Int)+1 then 9 else
  match ts[ts.length - 1]? with
  |none=>0
  |some x=>if (!(OE KR (PN x.t++x.t.Ku)==t.prev))=true then 9 else if¬x.t.J5=t.J5 then 9 else 0
def RV (x:Kv):Prop:=TbG x.t/\OV x.zs
theorem Xi:(Tryz.prog.info? 26).map (fun i=>(i.zero,i.size,i.bytes))=some (some (.agg (JK J8 (.slice none 0 0))),68,112):=by kernel_rfl
section
variable {ops:ax Oper}{rest:ag Oper}{o:Oper}{a:Act}{Q:Exit->Act->ae->Prop}{w:ae}
theorem Ou (hgd:o.guard=none)(x:Operand)(ho:o.op=.buildSlice 32 1 #[(0,x)])(cs:ax ah)(hcs:cs.size=68)
  (hx:a.eval x=.agg cs)(h:wpList Tryz.prog ops Q rest (a.put o.dst (.slice (some ⟨w.heap.size,0,none⟩) 1 1)) (w.alloc (.cells cs 26))):wpList Tryz.prog ops Q (o::rest) a w:=by
 obtain⟨i0,hi,hz0,hz1,hz2⟩:=dN Xi;refine kS hgd 32 26 1 _ ho cs i0 (.agg (JK J8 (.slice none 0 0))) dM hi hz0 (by rw[hz1];decide) (by rw[hz1];decide) ?_ h;rw[hz1];simp only[jw,fF,iR,hx];have h:=ku (s:=68) (by omega) [.agg cs] ((Array.range (1*68)).map ((Value.agg (JK J8 (.slice none 0 0))).cells[· %(Value.agg (JK J8 (.slice none 0 0))).cells.size]!)) (fun v hv=>by simp at hv;subst hv;exact hcs) (by simp);have e:([Value.agg cs].flatMap fun v=>v.cells.toList).toArray=cs:=by simp[Value.cells]
 rw[e] at h;exact h
theorem TR {P:Program}(ty:TypeId){n:Nat}{x:ax (Nat×Operand)}{d:aj Tmp}{t:TypeId}{pos:String}{af:ax Edge}{g:aj (Nat×Bool)}(h:wpList P ops Q (⟨d,.buildSlice ty n x,t,pos,af,g⟩::rest) a w):wpList P ops Q (⟨d,.buildSlice ty n x,t,pos,af,g⟩::rest) a w:=h
end
def LV (lo:Nat)(v:ah)(W:ae)(A:aj Addr)(cs:ag ah):Prop:=
 cs.length=0\/∃b off,A=some ⟨b,off,none⟩/\lo<=b/\b<W.heap.size/\some b≠v.ownBlock/\∀j u,cs[j]? =some u->W.cell? ⟨b,off+j,none⟩=some u
theorem LV.keep {lo:Nat}{v v':ah}{W W':ae}{A:aj Addr}{cs:ag ah}(h:LV lo v W A cs)(hs:W.heap.size<=W'.heap.size)(hb:∀b,lo<=b->b<W.heap.size->some b≠v.ownBlock->W'.heap[b]? =W.heap[b]? /\some b≠v'.ownBlock):LV lo v' W' A cs:=by
 rcases h with h|⟨b,off,h1,h2,h3,h4,h5⟩
 ·exact .inl h
 ·exact .inr ⟨b,off,h1,h2,by omega,(hb b h2 h3 h4).2,fun j u hu=>(bI (a:=⟨b,off+j,none⟩) (hb b h2 h3 h4).1).trans (h5 j u hu)⟩
theorem LV.at {lo:Nat}{v:ah}{W:ae}{A:aj Addr}{cs:ag ah}(h:LV lo v W A cs):JS W W.heap.size A cs:=by
 rcases h with h|⟨b,off,h1,h2,h3,h4,h5⟩
 ·exact .inl h
 ·exact .inr ⟨b,off,h1,h3,h5⟩
def NF (lo:Nat)(v:ah)(W:ae)(s:Zs)(z:Zn):Prop:=LV lo v W s.A (z.cal.JQ.map I)/\LV lo v W s.B (z.cal.rules.flatMap Lr.cells)/\LV lo v W s.C (z.trans.flatMap Tr.cells)/\LV lo v W s.D (z.J6.flatMap Yr.cells)
theorem NF.keep {lo:Nat}{v v':ah}{W W':ae}{s:Zs}{z:Zn}(h:NF lo v W s z)(hs:W.heap.size<=W'.heap.size)(hb:∀b,lo<=b->b<W.heap.size->some b≠v.ownBlock->W'.heap[b]? =W.heap[b]? /\some b≠v'.ownBlock):NF lo v' W' s z:=
 ⟨h.1.keep hs hb,h.2.1.keep hs hb,h.2.2.1.keep hs hb,h.2.2.2.keep hs hb⟩
theorem NF.at {lo:Nat}{v:ah}{W:ae}{s:Zs}{z:Zn}(h:NF lo v W s z):N7 W W.heap.size s z:=⟨h.1.at,h.2.1.at,h.2.2.1.at,h.2.2.2.at⟩
def MX (lo:Nat)(v:ah)(W:ae)(y:Kv):Prop:=LV lo v W y.A (KC y.zs)/\∀z∈y.zs,NF lo v W z.s z.e.z
theorem MX.keep {lo:Nat}{v v':ah}{W W':ae}{y:Kv}(h:MX lo v W y)(hs:W.heap.size<=W'.heap.size)(hb:∀b,lo<=b->b<W.heap.size->some b≠v.ownBlock->W'.heap[b]? =W.heap[b]? /\some b≠v'.ownBlock):MX lo v' W' y:=
 ⟨h.1.keep hs hb,fun z hz=>(h.2 z hz).keep hs hb⟩
theorem QW (y:Kv):∀u∈y.cells,u.oneCell'=true:=by
 have h:=J9 y.t y.A y.zs.length y.c;rw[dS] at h;intro u hu;exact h u (by simpa[JK,Kv.cells] using hu)
theorem aoF:(Tryz.prog.info? 26).map (fun i=>(i.zero,i.size))=some (some (.agg (JK J8 (.slice none 0 0))),(JK J8 (.slice none 0 0)).size):=by kernel_rfl
theorem LV.ofO {lo lo':Nat}{v:ah}{W:ae}{A:aj Addr}{cs:ag ah}(h:CO lo' W A cs)(hl:lo<=lo')(hv:∀b,lo'<=b->b<W.heap.size->some b≠v.ownBlock):LV lo v W A cs:=
 h.imp id fun ⟨b,off,h1,h2,h3,h5⟩=>⟨b,off,h1,by omega,h3,hv b h2 h3,h5⟩
theorem MX.ofO {lo lo':Nat}{v:ah}{W:ae}{y:Kv}(h:TbO lo' W y)(hl:lo<=lo')(hv:∀b,lo'<=b->b<W.heap.size->some b≠v.ownBlock):MX lo v W y:=
 ⟨.ofO h.JX.row hl hv,fun z hz=>⟨.ofO (h.JX.each z hz).JQ hl hv,.ofO (h.JX.each z hz).rules hl hv,.ofO (h.JX.each z hz).trans hl hv,.ofO (h.JX.each z hz).J6 hl hv⟩⟩
def Pq (y:Kv):Tb×ag Ze:=(y.t,y.zs.map (·.e))
structure TbW (y:Kv):Prop where
 names:y.t.JX=y.zs.map (·.e)
 prev:y.t.prev.length=32
 Ku:y.t.Ku.length=32
theorem TbW.size {y:Kv}(h:TbW y):y.cells.length=68:=by
 have:=Kq y.t (.slice y.A y.zs.length y.c) h.prev h.Ku;simpa[JK,Kv.cells] using this
structure ApW (w:ae)(tc:ax ah)(k c:Nat)(A:aj Addr)(ts:ag Kv)(W:ae):Prop where
 bx:AV (w.heap.size+1) 26 tc W
 lo:ai w.heap.size w W
 own:W.ownsRow (w.heap.size+2) 26 68 (.slice A k c) k (ts.flatMap Kv.cells)
 mem:∀y∈ts,MX (w.heap.size+2) (.slice A k c) W y
 each:∀y∈ts,TbW y
section
variable {w W W':ae}{tc:ax ah}{k c:Nat}{A:aj Addr}{ts:ag Kv}
theorem ApW.grow (h:ApW w tc k c A ts W)(hB:ai W.heap.size W W'):ApW w tc k c A ts W':=
 ⟨h.bx.below hB,JL h.lo hB,own_below h.own hB,fun y hy=>(h.mem y hy).keep hB.size fun b _ h2 h3=>⟨hB.block b h2,h3⟩,h.each⟩
theorem ApW.lt (h:ApW w tc k c A ts W):w.heap.size+1<W.heap.size:=h.bx.lt
theorem ApW.chain (h:ApW w tc k c A ts W):LJ W W.heap.size A ts:=⟨JS.Le h.own,fun y hy=>⟨(h.each y hy).names,(h.each y hy).prev,(h.each y hy).Ku,⟨(h.mem y hy).1.at,fun z hz=>((h.mem y hy).2 z hz).at⟩⟩⟩
theorem ApW.Tc (h:ApW w tc k c A ts W):∀b,W.heap.size<=b->some b≠(Value.slice A k c).ownBlock:=fun b hb e=>by
 have:=dU h.own b e.symm;omega
theorem ApW.add {Wb w6:ae}{gg cap:Nat}{y:Kv}(h:ApW w tc k c A ts W)(hy:MX (w.heap.size+2) (.slice A k c) W y)(hf:TbW y)(Xg:Wb=W.alloc (.cells y.cells.toArray 26))
  (hown:w6.ownsRow (w.heap.size+2) 26 68 (.slice (some ⟨gg,0,none⟩) (k+1) cap) (k+1) (ts.flatMap Kv.cells++y.cells))(hg:Wb.grownBy w6 (Value.slice A k c).ownBlock)(hat:(Value.slice A k c).ownBlock=some gg\/gg=Wb.heap.size):
  ApW w tc (k+1) cap (some ⟨gg,0,none⟩) (ts++ [y]) w6:=by
 have hsb:Wb.heap.size=W.heap.size+1:=by rw[Xg];simp
 have hlt:=h.lt;have hs6:W.heap.size<=w6.heap.size:=by have:=hg.size;omega
 have hbl:∀b,b<W.heap.size->some b≠(Value.slice A k c).ownBlock->w6.heap[b]? =W.heap[b]? :=fun b hb hn=>
  (hg.block b (by omega) hn).trans (by rw[Xg];exact aV W _ b hb)
 have hlow:∀b,b<w.heap.size+2->some b≠(Value.slice A k c).ownBlock:=MV h.own;have hmm:∀b,w.heap.size+2<=b->b<W.heap.size->some b≠(Value.slice A k c).ownBlock->w6.heap[b]? =W.heap[b]? /\some b≠(Value.slice (some ⟨gg,0,none⟩) (k+1) cap).ownBlock:=fun b h1 h2 h3=>by
  refine⟨hbl b h2 h3,fun e=>?_⟩;have e2:b=gg:=by simpa[Value.ownBlock] using e
  rcases hat with e3|e3
  ·exact h3 (by rw[e2];exact e3.symm)
  ·omega
 have h1:ai w.heap.size w Wb:=by rw[Xg];exact JL h.lo (JM W _)
 have hob:Wb.ownsRow (w.heap.size+2) 26 68 (.slice A k c) k (ts.flatMap Kv.cells):=by rw[Xg];exact own_below h.own (JM W _)
 refine⟨⟨(hbl _ (by omega) (hlow _ (by omega))).trans h.bx.var⟩,KJ h1 (KD hob (by omega)) (by omega) hg,by simpa using hown,fun y' hy'=>?_,fun y' hy'=>?_⟩
 ·rcases dm.1 hy' with h1|h1
  ·exact(h.mem y' h1).keep hs6 hmm
  ·obtain rfl:=aY.1 h1;exact hy.keep hs6 hmm
 ·rcases dm.1 hy' with h1|h1
  ·exact h.each y' h1
  ·obtain rfl:=aY.1 h1;exact hf
end
theorem afV (m base:Nat)(hm:m<=1000)(W:ae)(hb:base<=W.heap.size):∃w',(Instr.makeSlice 32 (.int .i64 0) (.int .i64 ((m:Int)+1))).run Tryz.prog W=.ok (.slice (some ⟨W.heap.size,0,none⟩) 0 (m+1)) w'/\w'.ownsRow base 26 68 (.slice (some ⟨W.heap.size,0,none⟩) 0 (m+1)) 0 []/\ai W.heap.size W w':=by
 obtain⟨i,hi,hz,hs,hby⟩:=dN Xi;obtain⟨w',h1,h2,h3⟩:=run_make_own (P:=Tryz.prog) W base 32 26 i (.agg (JK J8 (.slice none 0 0))) 68 dM hi hz hs .i64 .i64 (m+1) (by rw[hby];omega) (by unfold maxLen;omega) hb;exact⟨w',by rw[show((m:Int)+1)=((m+1:Nat):Int) by omega];exact h1,h2,⟨h3.os,h3.tape,h3.output,h3.size,fun k hk=>h3.block k hk (by simp)⟩⟩
def aqv (w:ae)(n:Nat)(xs:ag Kv)(e:Ending)(w':ae):Prop:=
 ∃A c ys,e=.returned (.tuple #[.slice A n c,I 0])/\n<=c/\ys.map Pq=xs.map Pq/\LJ w' w'.heap.size A ys/\ai w.heap.size w w'
theorem S9 {lo e size n c k:Nat}{w:ae}{A:aj Addr}{cs:ag ah}(h:w.ownsRow lo e size (.slice A n c) k cs):n<=c:=by
 rcases h.2 with ⟨hv,hn⟩|⟨g,cap,cur,hv,_,_,h1,_⟩
 ·injection hv with _ e1 e2;omega
 ·injection hv with _ e1 e2;omega
def atM (w:ae)(tc:ax ah)(m:Nat)(ts:ag Kv)(o i:ah)(wr:ae):Prop:=
 ∃(k:Nat) (A:aj Addr) (c:Nat) (ys:ag Kv),k<=m/\o=.slice A k c/\i=I k/\ys.map Pq=(ts.take k).map Pq/\ApW w tc k c A ys wr
def aaT (KR:ag Int)(key bs:ag au)(ts:ag Kv)(t:Tb):Int:=
 if (!(t.Ku==QR KR key bs))=true then 8 else if¬t.version=(ts.length:Int)+1 then 9 else
  match ts[ts.length - 1]? with
  |none=>0
  |some x=>if (O0 x.t==0)=false then 9 else if (!(OE KR (O4 x.t++x.t.Ku)==t.prev))=true then 9 else if¬x.t.J5=t.J5 then 9 else 0
def Rk (KR:ag Int)(key:ag au)(ts:ag Kv)(t:Tb):Int:=if O0 t≠0 then 3 else aaT KR key (O4 t) ts t
theorem U6 {KR:ag Int}{key:ag au}{ts:ag Kv}{t:Tb}(h:O0 t=0):Rk KR key ts t=aaT KR key (PN t) ts t:=by
 unfold Rk;rw[bP (by simpa using h),show O4 t=PN t from bD h]
theorem ah8 (KR:ag Int)(hK:KR.length=64)(w:ae)(hG:MS w 0 (JP KR))(hw1:0<w.heap.size)(key:ag au)(hk:key.length=32)(t:Tb)(A:aj Addr)(n c:Nat)(zs:ag L9)(hp:t.prev.length=32)(hmc:t.Ku.length=32)(hzz:t.JX=zs.map (·.e))(hn:zs.length=n)(hA:O3 w w.heap.size A zs)(hv0:O0 t=0)(hl9:(PN t).length<=90000)
  (C:aj Addr)(m cc:Nat)(ts:ag Kv)(hm:ts.length=m)(hm1:m<64)(hC:LJ w w.heap.size C ts)(hT:∀x∈ts,(O4 x.t).length<=90000)(r:Int)(hr:Rk KR key ts t=r):
  Calls Tryz.prog 35 #[.slice C m cc,.agg (cellsB key),.agg (JK t (.slice A n c))] w (Gives (I r) w):=by
 have HF:Hid (t.prev.length=32/\t.Ku.length=32):=JJ ⟨hp,hmc⟩;have XE:=JJ hv0;have HK:=JJ hK;have HG:=JJ hG;have HKY:=JJ hk;have Qc:=JJ hm;have L6:Hid (∀v,(Tryz.prog.info? 26).map (·.size)=some (JK t v).size):=JJ fun v=>Ky t v HF.out.1 HF.out.2;have SY:Hid (∀W,ai w.heap.size w W->Calls Tryz.prog 22 #[.agg (JK t (.slice A n c))] W (afs W (PN t))):=JJ fun W hb=>QB t A n c zs W (aan hv0 hp hmc) hzz hn (hA.grow hb) hv0;have HLK:Hid (∀x,x∈ts->∀W,ai w.heap.size w W->Calls Tryz.prog 58 #[.agg x.cells.toArray] W (Gives (.tuple #[.agg (cellsB (OE KR (O4 x.t++x.t.Ku))),.bool (O0 x.t==0)]) W)):=JJ fun x hx W hb=>
  asr KR hK W (hG.via hb hw1) (LK hw1 hb.size) x (((hC.each x hx).keep hb).more hb.size) (hT x hx)
 have H0:=JJ (V2.start w 24 (cellsB key) 26 (JK t (.slice A n c)));obtain⟨M,hM⟩:∃M,QR KR key (PN t)=M:=⟨_,rfl⟩;have QX:M.length=32:=by rw[<-hM];exact Ql _ _ _
 have HM:=JJ hM;have UN:=JJ QX;obtain⟨b,hb⟩:∃b,(!(t.Ku==M))=b:=⟨_,rfl⟩;have HB0:=JJ hb;have HQ:Hid (∀W,(binOp .neq 24 (.agg (JO t.Ku).toArray) (.agg (JO M).toArray)).run Tryz.prog W=.ok (.bool b) W):=JJ fun W=>by rw[YY W _ _ HF.out.2 QX,hb]
 have HBL:=JJ hl9;have HR:=JJ hr;have HC:=JJ hC;obtain⟨N,hN⟩:∃N,(PN t).length=N:=⟨_,rfl⟩;have HN:=JJ hN;have HKC:Hid (∀W lo g c2,ai w.heap.size w W->W.ownsRow lo 5 1 (.slice (some ⟨g,0,none⟩) N c2) N ((PN t).map Extern.Stop.cell)->Calls Tryz.prog 54 #[.agg (JO key).toArray,.slice (some ⟨g,0,none⟩) N c2] W (Gives (.agg (JO M).toArray) W)):=JJ fun W lo g c2 hb ho=>by
  have hl:=(aew t (aan hv0 hp hmc)).1;have h1:=afT KR hK W (hG.via hb hw1) key (PN t) hk (by omega) (by omega) g 0 c2 (ahi ho).1 (af1 ho);rw[hM,hN] at h1;exact h1
 have i0:¬(64:Int)<=(m:Int):=by omega
 clear hp hmc hzz hn hA hv0 hl9 hK hG hk hm hC hT hr hM QX hb hN;go_enter Tryz.func35,Tryz.ntmps35;go_upto_region 1 with fail;generalize (w.alloc (.cells (cellsB key) 24)).alloc (.cells (JK t (.slice A n c)) 26)=W0 at H0⊢;go_wp2_with((with_reducible refine KO 26 ?_);refine J3 rfl _ _ rfl (w.heap.size+1) rfl (JK t (.slice A n c)) H0.out.r.Nc _ az rfl (L6.out _) ?_);refine(SY.out W0 H0.out.lo).mono ?_;rintro e w1 ⟨⟨g1,c1,rfl,o1⟩,b1⟩;have h1:=H0.out.grow b1;have hw0:=H0.out.r.lt;have hs1:W0.heap.size<=w1.heap.size:=b1.size;rw[HN.out] at o1⊢;have hg1:=ahi o1;have HCC:=JJ (HKC.out w1.drew W0.heap.size g1 c1 h1.lo.drew o1);have hS1:w1.rangeAt (w.heap.size+1) 36 (JO t.Ku)/\w1.rangeAt w.heap.size 0 (JO key):=⟨Vo t _ (Row.Nk h1.r.var) HF.out.1,fun j v hv=>by rw[aT,(Row.Nk h1.s.var).2 j];simpa[cellsB] using hv⟩;have PT:Hid (w1.drew.rangeAt (w.heap.size+1) 36 (JO t.Ku)/\w1.drew.rangeAt w.heap.size 0 (JO key)):=JJ hS1;have H1:=JJ h1;have HUD:Hid (Tryz.prog.underlying 24=some (.array 32 5)):=JJ aK;have HI1:Hid ((Tryz.prog.info? 24).map (·.size)=some (JO t.Ku).length):=JJ (by have:=Na t.Ku HF.out.2;rw[this];simp[cellsB]);have HI2:Hid ((Tryz.prog.info? 24).map (·.size)=some (JO key).length):=JJ (by have:=Na key HKY.out;rw[this];simp[cellsB]);clear hS1 h1 o1 b1 H0 SY HKC;go_wp2_with fail;have hud:=HUD.out;have hi1:=HI1.out;have hi2:=HI2.out;have hq:=HQ.out;have hl1:(JO t.Ku).length=32:=by simp[JO,HF.out.2]
 have aAo:(JO key).length=32:=by simp[JO,HKY.out]
 refine dG (S:=fun w'=>w'.rangeAt (w.heap.size+1) 36 (JO t.Ku)/\w'.rangeAt w.heap.size 0 (JO key)) (by kernel_rfl) PT.out (fun hH=>?_);refine aoH 0 (.pointer (some ⟨w.heap.size+1,36,none⟩)) 25 rfl rfl hH (fun W hW=>by go_simp) ?_;refine KG ?_;refine LG 1 _ 26 rfl rfl hH (bF (by rfl) _ _ rfl (w.heap.size+1) 36 rfl (JO t.Ku) _ (fun _ hW=>hW.1) hud rfl hi1) ?_;refine LG 2 _ 27 rfl rfl hH (bF (by rfl) _ _ rfl w.heap.size 0 rfl (JO key) _ (fun _ hW=>hW.2) hud rfl hi2) ?_;refine aoH 3 (.slice (some ⟨g1,0,none⟩) N c1) 28 rfl rfl hH (fun W hW=>by go_simp) ?_;refine KG ?_;clear hH;refine KX 4 (fun K hK=>?_);go_simp;go_at_call 54;refine HCC.out.mono ?_;rintro e w3 ⟨rfl,hb3⟩;have H3:Hid (V2 w 24 (cellsB key) 26 (JK t (.slice A n c)) w3):=JJ (H1.out.grow (lg ((aW _ w1).drew) hb3));have Qi:Hid (w3.rangeAt (w.heap.size+1) 36 (JO t.Ku)/\w3.rangeAt w.heap.size 0 (JO key)):=JJ ⟨JY PT.out.1 hb3 H1.out.r.lt,JY PT.out.2 hb3 (Nat.lt_of_succ_lt H1.out.r.lt)⟩;clear hb3;refine hK.out _ _ Qi.out (fun hH=>?_);clear hK K;refine aoH 5 (.bool b) 30 rfl rfl hH (fun W hW=>by go_simp) ?_;refine KG ?_;refine aoH 6 (.bool b) 24 rfl rfl hH (fun W hW=>by go_simp) ?_;refine KG ?_;clear hH;refine dC (by kernel_rfl) ?_ _;clear Qi PT H1 HCC hud hi1 hi2 hq hl1 aAo HQ;have cv:w3.cell? ⟨w.heap.size+1,1,none⟩=some (I t.version):=((Row.Nk H3.out.r.var).2 1).trans (NU _ _);cases b with
 |true=>
  have hr2:r=8:=by rw[<-HR.out];rw[U6 XE.out];unfold aaT;rw[HM.out,HB0.out];rfl
  subst hr2;go_wp2_with fail;go_ret;exact⟨rfl,H3.out.lo⟩
 |false=>
  by_cases hv:t.version=(m:Int)+1
  ·have HV:=JJ hv;rw[hv] at cv;clear hv;by_cases h0:m=0
   ·have hr2:r=0:=by rw[<-HR.out];rw[U6 XE.out];unfold aaT;rw[HM.out,HB0.out,Qc.out,HV.out,h0,bu (Qc.out.trans h0)];rfl
    subst hr2;go_upto_region 11 with fail;have hz:(m:Int)=0:=by omega
    go_wp2_with fail;go_ret;exact⟨rfl,H3.out.lo⟩
   ·obtain⟨k,hk⟩:∃k,m=k+1:=⟨m - 1,by omega⟩;have hkl:k<ts.length:=by rw[Qc.out];omega
    obtain⟨x,hx⟩:∃x,ts[k]? =some x:=⟨_,KL hkl⟩;have hxm:=LQ hx;obtain⟨cb,co,rfl,hcb,hTA⟩:∃b off,C=some ⟨b,off,none⟩/\b<w.heap.size/\OC w b off ts:=by
     rcases OG HC.out with h1|h1
     ·omega
     ·exact h1
    have he:Hid ((m:Int) - 1=(k:Int)):=JJ (by omega);have i3:((m:Int)==0)=false:=by simp;omega
    have i4:(m==0)=false:=by simp;omega
    have i5:¬(m:Int)=0:=by omega
    have Uj:Hid (∀W,ai w.heap.size w W->W.rangeAt cb (co+k*68) x.cells):=JJ fun W hb=>JY (hTA k x hx).1 hb hcb;have Ud:Hid ((Tryz.prog.info? 26).map (·.size)=some x.cells.length):=JJ (by rw[(hTA k x hx).2];kernel_rfl);have HX:=JJ (HLK.out x hxm);obtain⟨P,hP⟩:∃P,OE KR (O4 x.t++x.t.Ku)=P:=⟨_,rfl⟩;have Oy:P.length=32:=by rw[<-hP];exact Nj _ _
    have TE:=JJ Oy;obtain⟨q,hq⟩:∃q,(!(P==t.prev))=q:=⟨_,rfl⟩;obtain⟨o,ho⟩:∃o,(O0 x.t==0)=o:=⟨_,rfl⟩;have HRR:Hid (r=if o=false then 9 else if q=true then 9 else if¬x.t.J5=t.J5 then 9 else 0):=JJ (by rw[<-HR.out];rw[U6 XE.out];unfold aaT;rw[HM.out,HB0.out,Qc.out,HV.out,show m - 1=k by omega,hx];simp[hP,<-hq,<-ho]);have PR:Hid (∀W,(binOp .neq 24 (.agg (JO P).toArray) (.agg (JO t.prev).toArray)).run Tryz.prog W=.ok (.bool q) W):=JJ fun W=>by rw[YY W _ _ Oy HF.out.1,hq]
    rw[hP,ho] at HX;have HDE:Hid ((cellsB z32).size=(cellsB P).size):=JJ (by rw[KU,KU,Oy];rfl);clear hkl hx hxm hTA hP Oy hq hk ho;go_upto_region 13 with fail;have he:=he.out;have i1:(0:Int)<=(k:Int):=by omega
    have i2:(k:Int)<(m:Int):=by omega
    clear i3 i4 i5 h0;go_wp2_with((with_reducible refine KO 26 ?_);refine Kt rfl _ _ rfl cb (co+k*68) rfl x.cells (Uj.out _ H3.out.lo) _ az rfl Ud.out ?_);refine(HX.out w3 H3.out.lo).mono ?_;rintro e w4 ⟨rfl,hb4⟩;have h4:=H3.out.grow hb4;have H4:=JJ h4;have HA4:=JJ (aF w4 (.cells (cellsB z32) 24));clear hb4 H3 cv HX;go_wp2_with(first
     |((with_reducible refine Kz 24 ?_);refine JW rfl _ rfl (cellsB z32) NW ?_)
     |((with_reducible refine KZ 24 ?_);refine aB rfl _ _ _ rfl w4.heap.size (cellsB P) rfl rfl 24 (cellsB z32) HA4.out (Na P TE.out) HDE.out (O5 _) ?_))
    have hb5:ai w4.heap.size w4 ((w4.alloc (.cells (cellsB z32) 24)).setRow w4.heap.size (cellsB P)):=JR (JM w4 _) (ay _) _;have h5:((w4.alloc (.cells (cellsB z32) 24)).setRow w4.heap.size (cellsB P)).heap[w4.heap.size]? =some (.cells (cellsB P) 24 (0,0)):=aQ _ _ _ _ _ _ HA4.out;have UO:Hid (((w4.alloc (.cells (cellsB z32) 24)).setRow w4.heap.size (cellsB P)).drew.rangeAt w4.heap.size 0 (JO P)/\((w4.alloc (.cells (cellsB z32) 24)).setRow w4.heap.size (cellsB P)).drew.rangeAt (w.heap.size+1) 4 (JO t.prev)/\
      ((w4.alloc (.cells (cellsB z32) 24)).setRow w4.heap.size (cellsB P)).drew.cell? ⟨cb,co+k*68,none⟩=some (I x.t.J5)/\((w4.alloc (.cells (cellsB z32) 24)).setRow w4.heap.size (cellsB P)).drew.cell? ⟨w.heap.size+1,0,none⟩=some (I t.J5)):=JJ (by
     have h6:=H4.out.grow hb5;have h7:=Uj.out _ h6.lo 0 (I x.t.J5) rfl;exact⟨fun j v hv=>by rw[aT];exact((Row.Nk h5).2 j).trans (by simpa[cellsB] using hv),Tj t _ (Row.Nk h6.r.var),h7,((Row.Nk h6.r.var).2 0).trans (NT _ _)⟩)
    have Rx:=JJ (H4.out.grow hb5).lo;clear hb5 h5 h4;have hud:=HUD.out;have hq:=PR.out;have hi3:(Tryz.prog.info? 24).map (·.size)=some (JO P).length:=by have:=Na P TE.out;rw[this];simp[cellsB]
    have hi4:(Tryz.prog.info? 24).map (·.size)=some (JO t.prev).length:=by have:=Na t.prev HF.out.1;rw[this];simp[cellsB]
    have hwk:IntKind.i64.wrap (k:Int)=(k:Int):=by rw[aA];omega
    have hl1:(JO P).length=32:=by simp[JO,TE.out]
    have hl2:(JO t.prev).length=32:=by simp[JO,HF.out.1]
    generalize (w4.alloc (.cells (cellsB z32) 24)).setRow w4.heap.size (cellsB P)=w5 at UO Rx⊢;refine dG (S:=fun w'=>w'.rangeAt w4.heap.size 0 (JO P)/\w'.rangeAt (w.heap.size+1) 4 (JO t.prev)/\w'.cell? ⟨cb,co+k*68,none⟩=some (I x.t.J5)/\w'.cell? ⟨w.heap.size+1,0,none⟩=some (I t.J5)) (by kernel_rfl) UO.out (fun hH=>?_);cases o with
    |false=>
     have hr2:r=9:=HRR.out;subst hr2;clear HRR;refine JZ 0 (.bool false) 49 hH ?_;refine JZ 1 (.bool true) 50 hH ?_;refine JZ 2 (.bool true) 51 hH ?_;refine LG 3 undef 52 rfl rfl hH (Or.inr ⟨by rfl,rfl⟩) ?_;refine LG 4 undef 53 rfl rfl hH (Or.inr ⟨by rfl,rfl⟩) ?_;refine LG 5 undef 54 rfl rfl hH (Or.inr ⟨by rfl,rfl⟩) ?_;refine LG 6 undef 55 rfl rfl hH (Or.inr ⟨by rfl,rfl⟩) ?_;refine JZ 7 (.bool true) 56 hH ?_;refine JZ 8 (.bool true) 57 hH ?_;refine LG 9 undef 58 rfl rfl hH (Or.inr ⟨by rfl,rfl⟩) ?_;refine LG 10 undef 59 rfl rfl hH (Or.inr ⟨by rfl,rfl⟩) ?_;refine LG 11 undef 60 rfl rfl hH (Or.inr ⟨by rfl,rfl⟩) ?_;refine LG 12 undef 61 rfl rfl hH (Or.inr ⟨by rfl,rfl⟩) ?_;refine LG 13 undef 62 rfl rfl hH (Or.inr ⟨by rfl,rfl⟩) ?_;refine LG 14 undef 63 rfl rfl hH (Or.inr ⟨by rfl,rfl⟩) ?_;refine LG 15 undef 64 rfl rfl hH (Or.inr ⟨by rfl,rfl⟩) ?_;refine LG 16 undef 65 rfl rfl hH (Or.inr ⟨by rfl,rfl⟩) ?_;refine LG 17 undef 66 rfl rfl hH (Or.inr ⟨by rfl,rfl⟩) ?_;refine JZ 18 (.bool true) 67 hH ?_;clear hH;refine dC (by kernel_rfl) ?_ _;clear hud hi3 hi4 hq hl1 hl2;go_wp2_with fail;go_ret;exact⟨rfl,Rx.out.drew⟩
    |true=>
    cases q with
    |true=>
     have hr2:r=9:=HRR.out;subst hr2;clear HRR;refine JZ 0 (.bool true) 49 hH ?_;refine JZ 1 (.bool false) 50 hH ?_;refine JZ 2 (.bool false) 51 hH ?_;refine LG 3 _ 52 rfl rfl hH (bF (by rfl) _ _ rfl w4.heap.size 0 rfl (JO P) _ (fun _ hW=>hW.1) hud rfl hi3) ?_;refine JZ 4 (.pointer (some ⟨w.heap.size+1,4,none⟩)) 53 hH ?_;refine LG 5 _ 54 rfl rfl hH (bF (by rfl) _ _ rfl (w.heap.size+1) 4 rfl (JO t.prev) _ (fun _ hW=>hW.2.1) hud rfl hi4) ?_;refine JZ 6 (.bool true) 55 hH ?_;refine JZ 7 (.bool true) 56 hH ?_;refine JZ 8 (.bool true) 57 hH ?_;refine LG 9 undef 58 rfl rfl hH (Or.inr ⟨by rfl,rfl⟩) ?_;refine LG 10 undef 59 rfl rfl hH (Or.inr ⟨by rfl,rfl⟩) ?_;refine LG 11 undef 60 rfl rfl hH (Or.inr ⟨by rfl,rfl⟩) ?_;refine LG 12 undef 61 rfl rfl hH (Or.inr ⟨by rfl,rfl⟩) ?_;refine LG 13 undef 62 rfl rfl hH (Or.inr ⟨by rfl,rfl⟩) ?_;refine LG 14 undef 63 rfl rfl hH (Or.inr ⟨by rfl,rfl⟩) ?_;refine LG 15 undef 64 rfl rfl hH (Or.inr ⟨by rfl,rfl⟩) ?_;refine LG 16 undef 65 rfl rfl hH (Or.inr ⟨by rfl,rfl⟩) ?_;refine LG 17 undef 66 rfl rfl hH (Or.inr ⟨by rfl,rfl⟩) ?_;refine JZ 18 (.bool true) 67 hH ?_;clear hH;refine dC (by kernel_rfl) ?_ _;clear hud hi3 hi4 hq hl1 hl2;go_wp2_with fail;go_ret;exact⟨rfl,Rx.out.drew⟩
    |false=>
     by_cases hs:x.t.J5=t.J5
     ·have hr2:r=0:=HRR.out.trans (by simp[hs]);subst hr2;clear HRR;refine JZ 0 (.bool true) 49 hH ?_;refine JZ 1 (.bool false) 50 hH ?_;refine JZ 2 (.bool false) 51 hH ?_;refine LG 3 _ 52 rfl rfl hH (bF (by rfl) _ _ rfl w4.heap.size 0 rfl (JO P) _ (fun _ hW=>hW.1) hud rfl hi3) ?_;refine JZ 4 (.pointer (some ⟨w.heap.size+1,4,none⟩)) 53 hH ?_;refine LG 5 _ 54 rfl rfl hH (bF (by rfl) _ _ rfl (w.heap.size+1) 4 rfl (JO t.prev) _ (fun _ hW=>hW.2.1) hud rfl hi4) ?_;refine JZ 6 (.bool false) 55 hH ?_;refine JZ 7 (.bool false) 56 hH ?_;refine JZ 8 (.bool false) 57 hH ?_;refine JZ 9 (.slice (some ⟨cb,co,none⟩) m cc) 58 hH ?_;refine JZ 10 (I m) 59 hH ?_;refine JZ 11 (I k) 60 hH ?_;refine JZ 12 (.pointer (some ⟨cb,co+k*68,none⟩)) 61 hH ?_;refine JZ 13 (.pointer (some ⟨cb,co+k*68,none⟩)) 62 hH ?_;refine JZ 14 (I x.t.J5) 63 hH ?_;refine JZ 15 (.pointer (some ⟨w.heap.size+1,0,none⟩)) 64 hH ?_;refine JZ 16 (I t.J5) 65 hH ?_;refine JZ 17 (.bool false) 66 hH ?_;refine JZ 18 (.bool false) 67 hH ?_;clear hH;refine dC (by kernel_rfl) ?_ _;clear hud hi3 hi4 hq hl1 hl2;go_wp2_with fail;go_ret;exact⟨rfl,Rx.out.drew⟩
     ·have hr2:r=9:=HRR.out.trans (by simp[hs]);subst hr2;clear HRR;refine JZ 0 (.bool true) 49 hH ?_;refine JZ 1 (.bool false) 50 hH ?_;refine JZ 2 (.bool false) 51 hH ?_;refine LG 3 _ 52 rfl rfl hH (bF (by rfl) _ _ rfl w4.heap.size 0 rfl (JO P) _ (fun _ hW=>hW.1) hud rfl hi3) ?_;refine JZ 4 (.pointer (some ⟨w.heap.size+1,4,none⟩)) 53 hH ?_;refine LG 5 _ 54 rfl rfl hH (bF (by rfl) _ _ rfl (w.heap.size+1) 4 rfl (JO t.prev) _ (fun _ hW=>hW.2.1) hud rfl hi4) ?_;refine JZ 6 (.bool false) 55 hH ?_;refine JZ 7 (.bool false) 56 hH ?_;refine JZ 8 (.bool false) 57 hH ?_;refine JZ 9 (.slice (some ⟨cb,co,none⟩) m cc) 58 hH ?_;refine JZ 10 (I m) 59 hH ?_;refine JZ 11 (I k) 60 hH ?_;refine JZ 12 (.pointer (some ⟨cb,co+k*68,none⟩)) 61 hH ?_;refine JZ 13 (.pointer (some ⟨cb,co+k*68,none⟩)) 62 hH ?_;refine JZ 14 (I x.t.J5) 63 hH ?_;refine JZ 15 (.pointer (some ⟨w.heap.size+1,0,none⟩)) 64 hH ?_;refine JZ 16 (I t.J5) 65 hH ?_;refine JZ 17 (.bool true) 66 hH ?_;refine JZ 18 (.bool true) 67 hH ?_;clear hH;refine dC (by kernel_rfl) ?_ _;clear hud hi3 hi4 hq hl1 hl2;go_wp2_with fail;go_ret;exact⟨rfl,Rx.out.drew⟩
  ·have hr2:r=9:=by rw[<-HR.out];rw[U6 XE.out];unfold aaT;rw[HM.out,HB0.out,Qc.out,bP (by decide),bD hv]
   subst hr2;obtain⟨V,hV⟩:∃V,t.version=V:=⟨_,rfl⟩;rw[hV] at cv hv;have e1:(V !=(m:Int)+1)=true:=by simp;exact hv
   clear hV;go_wp2_with fail;go_ret;exact⟨rfl,H3.out.lo⟩
theorem akb (w:ae)(key:ag au)(x:Kv)(hx:Ld w w.heap.size x)(hv:O0 x.t≠0)(C:aj Addr)(m cc:Nat)(hm1:m<64):
  Calls Tryz.prog 35 #[.slice C m cc,.agg (cellsB key),.agg (JK x.t (.slice x.A x.zs.length x.c))] w (Gives (I 3) w):=by
 have SY:Hid (∀W,ai w.heap.size w W->Calls Tryz.prog 22 #[.agg (JK x.t (.slice x.A x.zs.length x.c))] W (Gives (.tuple #[.slice none 0 0,I (O0 x.t)]) W)):=JJ fun W hb=>
  V8 x.t x.A x.zs.length x.c x.zs W hx.prev hx.Ku hx.names rfl ((hx.keep hb).more hb.size).JX hv
 have L6:Hid (∀v,(Tryz.prog.info? 26).map (·.size)=some (JK x.t v).size):=JJ fun v=>Ky x.t v hx.prev hx.Ku;obtain⟨n,hn⟩:∃n,x.zs.length=n:=⟨_,rfl⟩;obtain⟨t,ht⟩:∃t,x.t=t:=⟨_,rfl⟩;obtain⟨rv,U1⟩:∃r,O0 t=r:=⟨_,rfl⟩;rw[ht] at SY L6 hv⊢;rw[hn,U1] at SY;rw[hn];rw[U1] at hv;have H0:=JJ (V2.start w 24 (cellsB key) 26 (JK t (.slice x.A n x.c)));have i0:¬(64:Int)<=(m:Int):=by omega
 have i1:(rv==0)=false:=by simpa using hv
 have i2:(rv !=0)=true:=by simpa using hv
 clear hx hn ht U1;go_enter Tryz.func35,Tryz.ntmps35;go_upto_region 1 with fail;generalize (w.alloc (.cells (cellsB key) 24)).alloc (.cells (JK t (.slice x.A n x.c)) 26)=W0 at H0⊢;go_wp2_with((with_reducible refine KO 26 ?_);refine J3 rfl _ _ rfl (w.heap.size+1) rfl (JK t (.slice x.A n x.c)) H0.out.r.Nc _ az rfl (L6.out _) ?_);refine(SY.out W0 H0.out.lo).mono ?_;rintro e w1 ⟨rfl,b1⟩;have H1:=JJ (H0.out.grow b1);clear b1 H0 SY;go_wp2_with fail;go_ret;exact⟨rfl,H1.out.lo⟩
theorem ab6 (KR:ag Int)(hK:KR.length=64)(w:ae)(hG:MS w 0 (JP KR))(hw1:0<w.heap.size)(key:ag au)(hk:key.length=32)(x:Kv)(hx:Ld w w.heap.size x)(hl9:(O4 x.t).length<=90000)
  (C:aj Addr)(m cc:Nat)(ts:ag Kv)(hm:ts.length=m)(hm1:m<64)(hC:LJ w w.heap.size C ts)(hT:∀x∈ts,(O4 x.t).length<=90000):
  Calls Tryz.prog 35 #[.slice C m cc,.agg (cellsB key),.agg (JK x.t (.slice x.A x.zs.length x.c))] w (Gives (I (Rk KR key ts x.t)) w):=by
 by_cases hv:O0 x.t=0
 ·rw[show O4 x.t=PN x.t from bD hv] at hl9;exact ah8 KR hK w hG hw1 key hk x.t x.A x.zs.length x.c x.zs hx.prev hx.Ku hx.names rfl hx.JX hv hl9 C m cc ts hm hm1 hC hT _ rfl
 ·rw[show Rk KR key ts x.t=3 from bD hv];exact akb w key x hx hv C m cc hm1
end Go.Proofs.YtbaehbbonkljpaaGreatDoor
