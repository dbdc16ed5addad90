/- The texts Oe, Og, Oh, Oi, Oj, Ei, Lo, Lp, Wc, in this order. -/
import Derived.Test.YtbaehbbonkljpaaGreatDoorS00
import Derived.Defers
import Derived.Laws.AppendOwnNone
import Derived.Laws.BitsAllLaws
import Derived.Laws.BytesArg
import Derived.Laws.Cover3
import Derived.Lib.AppendStr
import Derived.Lib.ByteType
import Derived.MapKept
import Derived.Recover
import Derived.Test.YtbaehbbonkljpaaGreatDoorS04
import Derived.Test.YtbaehbbonkljpaaGreatDoorS19
import Derived.Test.YtbaehbbonkljpaaGreatDoorS27
import Derived.Test.YtbaehbbonkljpaaGreatDoorS30
import Derived.Test.YtbaehbbonkljpaaGreatDoorS35
import Derived.Test.YtbaehbbonkljpaaGreatDoorS39
import Derived.Test.YtbaehbbonkljpaaGreatDoorS41
import Derived.Test.YtbaehbbonkljpaaGreatDoorS43
import Derived.Test.YtbaehbbonkljpaaGreatDoorS44
import Derived.Test.YtbaehbbonkljpaaGreatDoorS47
set_option maxRecDepth 10000
set_option maxHeartbeats 8000000
namespace Go.Proofs.YtbaehbbonkljpaaGreatDoor
open Go Go.RowKit
def Bz (KR:List Int) (key:List UInt8) (ts:List dF) (t:Tb):Int:=
 if (!(t.bP==oh KR key (lJ t)))=true then 8 else if¬t.version=(ts.length:Int)+1 then 9 else
  match ts[ts.length - 1]? with
  |none=>0
  |some x=>if (!(qN KR (lJ x.t++x.t.bP)==t.prev))=true then 9 else if¬x.t.bG=t.bG then 9 else 0
def Zi (x:dF):Prop:=TbG x.t/\FW x.zs
structure TbW (y:dF):Prop where
 names:y.t.aF=y.zs.map (·.e)
 prev:y.t.prev.length=32
 bP:y.t.bP.length=32
theorem TbW.size {y:dF} (h:TbW y):y.cells.length=68:=by
 have:=bf y.t (.slice y.A y.zs.length y.c) h.prev h.bP;simpa [ai,dF.cells] using this
structure Ri (w:World) (tc:Array Value) (k c:Nat) (A:Option Addr) (ts:List dF) (W:World):Prop where
 bx:AV (w.heap.size+1) 26 tc W
 lo:Below w.heap.size w W
 own:W.ownsRow (w.heap.size+2) 26 68 (.slice A k c) k (ts.flatMap dF.cells)
 mem:∀y∈ts,iK (w.heap.size+2) (.slice A k c) W y
 each:∀y∈ts,TbW y
section
variable {w W W':World} {tc:Array Value} {k c:Nat} {A:Option Addr} {ts:List dF}
theorem Ri.grow (h:Ri w tc k c A ts W) (hB:Below W.heap.size W W'):Ri w tc k c A ts W':=
 ⟨h.bx.below hB,ah h.lo hB,own_below h.own hB,fun y hy=>(h.mem y hy).keep hB.size fun b _ h2 h3=>⟨hB.block b h2,h3⟩,h.each⟩
theorem Ri.lt (h:Ri w tc k c A ts W):w.heap.size+1<W.heap.size:=h.bx.lt
theorem Ri.chain (h:Ri w tc k c A ts W):jq W W.heap.size A ts:=⟨aA.dR h.own,fun y hy=>⟨(h.each y hy).names,(h.each y hy).prev,(h.each y hy).bP,⟨(h.mem y hy).1.at,fun z hz=>((h.mem y hy).2 z hz).at⟩⟩⟩
theorem Ri.qA (h:Ri w tc k c A ts W):∀b,W.heap.size<=b->some b≠(Value.slice A k c).ownBlock:=fun b hb e=>by
 have:=World.ownsRow.lt h.own b e.symm;omega
theorem Ri.add {Wb w6:World} {gg cap:Nat} {y:dF} (h:Ri w tc k c A ts W) (hy:iK (w.heap.size+2) (.slice A k c) W y) (hf:TbW y) (Ai:Wb=W.alloc (.cells y.cells.toArray 26))
  (hown:w6.ownsRow (w.heap.size+2) 26 68 (.slice (some ⟨gg,0,none⟩) (k+1) cap) (k+1) (ts.flatMap dF.cells++y.cells)) (hg:Wb.grownBy w6 (Value.slice A k c).ownBlock) (hat:(Value.slice A k c).ownBlock=some gg\/gg=Wb.heap.size):
  Ri w tc (k+1) cap (some ⟨gg,0,none⟩) (ts++ [y]) w6:=by
 have hsb:Wb.heap.size=W.heap.size+1:=by rw [Ai];simp
 have hlt:=h.lt;have hs6:W.heap.size<=w6.heap.size:=by have:=hg.size;omega
 have hbl:∀b,b<W.heap.size->some b≠(Value.slice A k c).ownBlock->w6.heap[b]? =W.heap[b]? :=fun b hb hn=>
  (hg.block b (by omega) hn).trans (by rw [Ai];exact Below.heap_alloc W _ b hb)
 have hlow:∀b,b<w.heap.size+2->some b≠(Value.slice A k c).ownBlock:=eG h.own;have hmm:∀b,w.heap.size+2<=b->b<W.heap.size->some b≠(Value.slice A k c).ownBlock->w6.heap[b]? =W.heap[b]? /\some b≠(Value.slice (some ⟨gg,0,none⟩) (k+1) cap).ownBlock:=fun b h1 h2 h3=>by
  refine ⟨hbl b h2 h3,fun e=>?_⟩;have e2:b=gg:=by simpa [Value.ownBlock] using e
  rcases hat with e3|e3
  ·exact h3 (by rw [e2];exact e3.symm)
  ·omega
 have h1:Below w.heap.size w Wb:=by rw [Ai];exact ah h.lo (ag W _)
 have hob:Wb.ownsRow (w.heap.size+2) 26 68 (.slice A k c) k (ts.flatMap dF.cells):=by rw [Ai];exact own_below h.own (ag W _)
 refine ⟨⟨(hbl _ (by omega) (hlow _ (by omega))).trans h.bx.var⟩,di h1 (aX hob (by omega)) (by omega) hg,by simpa using hown,fun y' hy'=>?_,fun y' hy'=>?_⟩
 ·rcases List.mem_append.1 hy' with h1|h1
  ·exact (h.mem y' h1).keep hs6 hmm
  ·obtain rfl:=List.mem_singleton.1 h1;exact hy.keep hs6 hmm
 ·rcases List.mem_append.1 hy' with h1|h1
  ·exact h.each y' h1
  ·obtain rfl:=List.mem_singleton.1 h1;exact hf
end
theorem Yj {lo e size n c k:Nat} {w:World} {A:Option Addr} {cs:List Value} (h:w.ownsRow lo e size (.slice A n c) k cs):n<=c:=by
 rcases h.2 with ⟨hv,hn⟩|⟨g,cap,cur,hv,_,_,h1,_⟩
 ·injection hv with _ e1 e2;omega
 ·injection hv with _ e1 e2;omega
theorem aA.pre {w:World} {B:Nat} {A:Option Addr} {cs ds:List Value} (h:aA w B A (cs++ds)):aA w B A cs:=by
 rcases h with h|⟨b,off,h1,h2,h3⟩
 ·exact .inl (by rw [bF] at h;omega)
 ·exact .inr ⟨b,off,h1,h2,fun j u hu=>h3 j u (by rw [List.getElem?_append_left (gQ.1 hu).1];exact hu)⟩
theorem jq.take {w:World} {B:Nat} {A:Option Addr} {ts:List dF} (h:jq w B A ts) (k:Nat):jq w B A (ts.take k):=by
 refine ⟨aA.pre (ds:=(ts.drop k).flatMap dF.cells) ?_,fun x hx=>h.each x (List.mem_of_mem_take hx)⟩;rw [<-List.flatMap_append,List.take_append_drop];exact h.row
structure CkW (w:World) (key:List UInt8) (W:World):Prop where
 bx:AV w.heap.size 24 (cellsB key) W
 lo:Below w.heap.size w W
theorem CkW.grow {w W W':World} {key:List UInt8} (h:CkW w key W) (hb:Below W.heap.size W W'):CkW w key W':=⟨h.bx.below hb,ah h.lo hb⟩
def qK (KR:List Int) (key:List UInt8) (ts:List dF):Prop:=∀k x,ts[k]? =some x->Bz KR key (ts.take k) x.t=0
theorem qK.nil {KR:List Int} {key:List UInt8}:qK KR key []:=fun _ _ h=>nomatch h
theorem qK.snoc {KR:List Int} {key:List UInt8} {ts:List dF} {u:dF} (h:qK KR key ts) (hu:Bz KR key ts u.t=0):qK KR key (ts++ [u]):=by
 intro k x hx;by_cases hk:k<ts.length
 ·rw [List.getElem?_append_left hk] at hx;rw [List.take_append_of_le_length (by omega)];exact h k x hx
 ·have hk2:=(gQ.1 hx).1;rw [bF,List.length_singleton] at hk2;obtain rfl:k=ts.length:=by omega
  rw [List.getElem?_append_right (Nat.le_refl _),Nat.sub_self] at hx;injection hx with hx;subst hx;rw [List.take_append_of_le_length (Nat.le_refl _),List.take_length];exact hu
theorem qK.take {KR:List Int} {key:List UInt8} {ts:List dF} (h:qK KR key ts) (n:Nat):qK KR key (ts.take n):=by
 intro k x hx;have hk:k<n:=by
  have h1:=(gQ.1 hx).1;rw [List.length_take] at h1;omega
 rw [List.getElem?_take_of_lt hk] at hx;rw [List.take_take,Nat.min_eq_left (by omega)];exact h k x hx
theorem IM {KR:List Int} {key:List UInt8} {ts:List dF} {t:Tb} (h1:t.bP=oh KR key (lJ t)) (h2:t.version=(ts.length:Int)+1) (h3:∀x,ts[ts.length - 1]? =some x->qN KR (lJ x.t++x.t.bP)=t.prev/\x.t.bG=t.bG):Bz KR key ts t=0:=by
 unfold Bz;rw [<-h1,if_neg (by simp),if_neg (by simp [h2])];cases hx:ts[ts.length - 1]? with
 |none=>rfl
 |some x=>simp [(h3 x hx).1,(h3 x hx).2]
structure Rj (r:lK) (ts:List dF):Prop where
 adm:qK qx r.key ts
 good:∀x∈ts,Zi x
 made:∀x∈ts,FY x.t
 DK:∀x∈ts,x.t.bG=(r.DK.toNat:Int)%16
 shape:∀x∈ts,TbS x
theorem Rj.nil {r:lK}:Rj r []:=⟨qK.nil,(fun _ h=>nomatch h),(fun _ h=>nomatch h),(fun _ h=>nomatch h),fun _ h=>nomatch h⟩
theorem Rj.snoc {r:lK} {ts:List dF} {k:Nat} {y:dF} {W:World} {B:Nat} (h:Rj r ts) (hk:ts.length=k) (hM:FY y.t) (hy:fV W B y) (hi:y.t.bG=(r.DK.toNat:Int)%16) (hv:y.t.version=(k:Int)+1) (hl:(∀z,ts[k - 1]? =some z->qN qx (lJ z.t++z.t.bP)=y.t.prev)/\TbS y)
  {d:List UInt8} (hd:d.length=32) (hq:oh qx r.key (lJ y.t)=d):Rj r (ts++ [⟨{y.t with bP:=d},y.A,y.c,y.zs⟩]):=by
 have hg:Zi ⟨{y.t with bP:=d},y.A,y.c,y.zs⟩:=⟨(hM.Ny d).good hy.prev hd,hM.up hy.names⟩;have he:lJ {y.t with bP:=d}=lJ y.t:=by
  unfold lJ;rfl
 have ha:Bz qx r.key ts {y.t with bP:=d}=0:=by
  refine IM ?_ ?_ fun z hz=>?_
  ·rw [he,hq]
  ·rw [hk];exact hv
  ·rw [hk] at hz;exact ⟨hl.1 z hz,(h.DK z (gZ hz)).trans hi.symm⟩
 refine ⟨h.adm.snoc ha,fun x hx=>?_,fun x hx=>?_,fun x hx=>?_,fun x hx=>?_⟩
 ·rcases List.mem_append.1 hx with h1|h1
  ·exact h.good x h1
  ·obtain rfl:=List.mem_singleton.1 h1;exact hg
 ·rcases List.mem_append.1 hx with h1|h1
  ·exact h.made x h1
  ·obtain rfl:=List.mem_singleton.1 h1;exact hM.Ny d
 ·rcases List.mem_append.1 hx with h1|h1
  ·exact h.DK x h1
  ·obtain rfl:=List.mem_singleton.1 h1;exact hi
 ·rcases List.mem_append.1 hx with h1|h1
  ·exact h.shape x h1
  ·obtain rfl:=List.mem_singleton.1 h1;exact hl.2
theorem wG.cap {w W:World} {rc:Array Value} {k c:Nat} {A:Option Addr} {ts:List dF} (h:wG w rc k c A ts W):k<=c:=Yj h.own
theorem wG.form {w W:World} {rc:Array Value} {k c:Nat} {A:Option Addr} {ts:List dF} (h:wG w rc k c A ts W):(A=none/\k=0/\c=0)\/∃b off,A=some ⟨b,off,none⟩:=by
 rcases h.own.2 with ⟨hv,_⟩|⟨g,cap,cur,hv,_⟩
 ·injection hv with e0 e1 e2;exact .inl ⟨e0,e1,e2⟩
 ·injection hv with e0 _ _;exact .inr ⟨g,0,e0⟩
def SE (w:World) (r:lK) (e:Ending) (w':World):Prop:=
 ∃A n c ts,e= .returned (.slice A n c)/\ts.length=n/\n<=5/\n<=c/\jq w' w'.heap.size A ts/\Rj r ts/\(Zd w.heap.size A ts/\((A=none/\n=0/\c=0)\/∃b off,A=some ⟨b,off,none⟩))/\Below w.heap.size w w'
theorem Us (r:lK) (w:World) (hr:vS w w.heap.size r):
  Calls Tryz.prog 7 #[.agg r.cells.toArray] w (SE w r):=by
 have nX:=ae hr.key;have hnl:=hr.len;obtain ⟨n,hn⟩:∃n,r.its.length=n:=⟨_,rfl⟩;rw [hn] at hnl;have Bd:=ae hn;have HRR:=ae hr;have H0:Hid (wG w r.cells.toArray 0 0 none [] (w.alloc (.cells r.cells.toArray 29))):=ae ⟨AV.new w _ _,ag w _,World.ownsRow_nil _ _ _ _,(fun _ h=>nomatch h),(fun _ h=>nomatch h)⟩;clear hr hn;go_enter Tryz.func7,Tryz.ntmps7;go_wp2_with fail;generalize w.alloc (.cells r.cells.toArray 29)=W0 at H0 ⊢
 go_loopw [3,4] (fun o i wr=>∃(k c:Nat) (A:Option Addr) (ts:List dF),k<=5/\k<=n/\o= .slice A k c/\i=I (k:Nat)/\ts.length=k/\Rj r ts/\wG w r.cells.toArray k c A ts wr) (fun _ i _=>5 - (intOf i).toNat)
 case atStart=>exact ⟨0,0,none,[],by omega,by omega,rfl,rfl,rfl,Rj.nil,H0.out⟩
 case round=>
  clear H0;obtain ⟨k,c,A,ts,hk5,hkn,rfl,rfl,htl,hcx,hw⟩:=hrel;have yf:=ae hcx;clear hcx;have HX0:=ae hw;have xY:=ae htl;clear hw htl;have c33:wr.cell? ⟨w.heap.size,33,none⟩=some (.slice r.A n r.c):=(HX0.out.it.cell 33).trans (by rw [OY r nX.out,Bd.out]);by_cases hlt:k<n/\k<5
  ·obtain ⟨hln,hl5⟩:=hlt;have i1:(k:Int)<(n:Int):=by omega
   have i2:(k:Int)<5:=by omega
   obtain ⟨x,hx⟩:∃x,r.its[k]? =some x:=⟨_,bK (by rw [Bd.out];exact hln)⟩;obtain ⟨ib,io,hA,hib,hcl⟩:=HRR.out.row.there (by rw [bZ (fun x:IE=>x.cells.toList) r.its (show∀x∈r.its,x.cells.toList.length=2 from fun _ _=>rfl),Bd.out];omega);have KU:=ae hA;have HR:Hid (w.rangeAt ib (io+k*2) x.cells.toList):=ae (aA.elem (s:=2) (f:=fun x:IE=>x.cells.toList) (fun _ _=>rfl) hcl k x hx);have HIT:=ae (HRR.out.each x (gZ hx));rw [hA] at c33;have AL:Hid (∀W,wG w r.cells.toArray k c A ts W->Calls Tryz.prog 13 #[.slice A k c, .int .u8 (r.DK.toNat:Int), .agg x.cells] W (ZT W k r.DK x ts)):=ae (fun W h=>next_x x r.DK A c k ts W ((HIT.out.keep h.lo).more h.lo.size) xY.out (by omega) h.chain (fun y hy=>(h.each y hy).made));clear hx hcl hA;go_upto_block 1 with fail
   go_cut [3,4] (fun o p wx=>p=I (k:Nat)/\∃A2 c2 y,o= .slice A2 (k+1) c2/\Rj r (ts++ [y])/\wG w r.cells.toArray (k+1) c2 A2 (ts++ [y]) wx)
   case first=>
    go_upto_region 5 with fail;obtain ⟨V0,hV0⟩:∃V,wr.drew=V:=⟨_,rfl⟩
    go_cut [5] (fun p wx=>∃vb y,p= .pointer (some ⟨vb,0,none⟩)/\Rj r (ts++ [y])/\Xp w r V0 k c A ts vb y wx)
    case first=>
     clear c33;have hS0:yx w r ib io n k x wr.drew:=yx.of nX.out Bd.out KU.out HX0.out.drew.it HX0.out.drew.lo HR.out hib;refine wp_region_held_drew (S:=yx w r ib io n k x) (by kernel_rfl) hS0 (fun _=>?_);have sW:=ae HX0.out.drew;have HB0:Hid (Below wr.drew.heap.size wr.drew wr.drew):=ae (Below.refl _ _);rw [hV0] at sW hS0 HB0 ⊢;refine aN 0 (.pointer (some ⟨w.heap.size,1,none⟩)) 19 hS0 (fun w' hSw=>?_) ?_
     ·obtain ⟨s0,s1,_⟩:=hSw;go_simp
     refine az ?_;refine aN 2 (.slice A k c) 21 hS0 (fun w' hSw=>?_) ?_
     ·obtain ⟨s0,s1,_⟩:=hSw;go_simp
     refine az ?_;refine aN 3 (.pointer (some ⟨w.heap.size,0,none⟩)) 22 hS0 (fun w' hSw=>?_) ?_
     ·obtain ⟨s0,s1,_⟩:=hSw;go_simp
     refine az ?_;refine aN 5 (.pointer (some ⟨w.heap.size,33,none⟩)) 24 hS0 (fun w' hSw=>?_) ?_
     ·obtain ⟨s0,s1,_⟩:=hSw;go_simp
     refine az ?_;refine aN 7 (I (k:Int)) 26 hS0 (fun w' hSw=>?_) ?_
     ·obtain ⟨s0,s1,_⟩:=hSw;go_simp
     refine az ?_;refine kY 1 ( .agg (cD r.key)) 20 rfl rfl hS0 (yieldsIf_load_mid rfl 24 _ rfl w.heap.size (1) rfl (ax r.key) _ (fun _ h=>h.2.2.1) Tryz.underlying24 rfl (by simp only [ax,List.length_map,nX.out];kernel_rfl)) ?_;refine az ?_;refine aN 4 (.int .u8 (r.DK.toNat:Int)) 23 hS0 (fun w' hSw=>?_) ?_
     ·obtain ⟨s0,s1,_⟩:=hSw;go_simp
     refine az ?_;refine aN 6 (.slice (some ⟨ib,io,none⟩) n r.c) 25 hS0 (fun w' hSw=>?_) ?_
     ·obtain ⟨s0,s1,_⟩:=hSw;go_simp
     refine az ?_;refine aN 8 (.pointer (some ⟨ib,io+k*2,none⟩)) 27 hS0 (fun w' hSw=>?_) ?_
     ·obtain ⟨s0,s1,_⟩:=hSw;go_simp
     refine az ?_;refine kY 9 ( .agg x.cells) 28 rfl rfl hS0 (yieldsIf_load_mid rfl 48 _ rfl ib (io+k*2) rfl x.cells.toList _ (fun _ h=>h.2.2.2) Tryz.underlying48 rfl (by kernel_rfl)) ?_;refine az ?_;refine kW 10 15 (fun K hK=>?_) (fun K hK=>?_)
     ·go_simp;refine (AL.out V0 sW.out).mono ?_;rintro e W1 ⟨y,rfl,hy1,hm1,hm2,hm3,hm4,hm5,hl1,hb1,hkx⟩;have HM:=ae (JL (by omega) hm1 hm2 hm3 hm4 hm5);have HCS:Hid (∀d:List UInt8,d.length=32->oh qx r.key (lJ y.t)=d->Rj r (ts++ [⟨{y.t with bP:=d},y.A,y.c,y.zs⟩])):=ae (fun d hd hq=>yf.out.snoc xY.out HM.out hy1 hm1 hm2 hkx hd hq);clear hkx;have Xi:=ae hy1;have qo:=ae (show vT V0.heap.size y from hl1.mono HB0.out.size);clear hm1 hm2 hm3 hm4 hm5 hy1 hl1;have HB1:Hid (Below V0.heap.size V0 W1):=ae (ah HB0.out hb1);have Be:=ae (sW.out.grow HB1.out);have hS1:yx w r ib io n k x W1:=yx.of nX.out Bd.out KU.out Be.out.it Be.out.lo HR.out hib;clear hb1;refine hK.out _ _ hS1 (fun _=>?_);clear hK K;refine az ?_;refine kW 11 15 (fun K hK=>?_) (fun K hK=>?_)
      ·go_simp;refine (CJ r.key nX.out y W1 Xi.out HM.out).mono ?_;rintro e W2 ⟨d,hd,XV,rfl,hb2⟩;have qX:=ae (HCS.out d hd XV);clear XV;have HD:=ae hd;have HYT2:=ae (Xi.out.grow hb2);clear hd;have HB2:Hid (Below V0.heap.size V0 W2):=ae (ah HB1.out hb2);have zV:=ae (sW.out.grow HB2.out);have hS2:yx w r ib io n k x W2:=yx.of nX.out Bd.out KU.out zV.out.it zV.out.lo HR.out hib;clear hb2;refine hK.out _ _ hS2 (fun _=>?_);clear hK K;refine az ?_;refine aN 12 (.tuple #[.agg (ai {y.t with bP:=d} (.slice y.A y.zs.length y.c)), .int .i64 0]) 18 hS2 (fun w' hSw=>?_) ?_
       ·obtain ⟨s0,s1,_⟩:=hSw;go_simp
       refine az ?_;refine aN 13 (.agg (ai {y.t with bP:=d} (.slice y.A y.zs.length y.c))) 31 hS2 (fun w' hSw=>?_) ?_
       ·obtain ⟨s0,s1,_⟩:=hSw;go_simp
       refine az ?_;refine aN 14 (.int .i64 0) 32 hS2 (fun w' hSw=>?_) ?_
       ·obtain ⟨s0,s1,_⟩:=hSw;go_simp
       refine az ?_;refine aY 15 (fun K hK=>?_);refine jh (o:=⟨some 5, .alloc 26,_,_,_,none⟩) rfl 26 rfl (ai bu (.slice none 0 0)) ed ?_;have HB3:Hid (Below V0.heap.size V0 (W2.alloc (.cells (ai bu (.slice none 0 0)) 26))):=ae (ah HB2.out (ag W2 _));have Bg:=ae (sW.out.grow HB3.out);have hS3:yx w r ib io n k x (W2.alloc (.cells (ai bu (.slice none 0 0)) 26)):=yx.of nX.out Bd.out KU.out Bg.out.it Bg.out.lo HR.out hib;have tY:Hid (AV W2.heap.size 26 (ai bu (.slice none 0 0)) (W2.alloc (.cells (ai bu (.slice none 0 0)) 26))):=ae (AV.new W2 _ _);obtain ⟨vb3,hve3,hvb3⟩:∃b,W2.heap.size=b/\V0.heap.size<=b:=⟨_,rfl,HB2.out.size⟩;have HYV3:Hid (iK V0.heap.size (.slice (some ⟨W2.heap.size,0,none⟩) 1 1) (W2.alloc (.cells (ai bu (.slice none 0 0)) 26)) y):=ae (iK.of (HYT2.out.keep (ag W2 _)) (ag W2 (.cells (ai bu (.slice none 0 0)) 26)).size qo.out (Nat.le_refl _) (OJ W2.heap.size));have Xj:=ae (HYT2.out.grow (ag W2 (.cells (ai bu (.slice none 0 0)) 26)));refine hK.out _ _ hS3 (fun _=>?_);clear hK K;refine az ?_;generalize (W2.alloc (.cells (ai bu (.slice none 0 0)) 26))=W3 at HB3 Bg hS3 tY HYV3 Xj ⊢;rw [hve3] at tY HYV3 ⊢;clear hve3;have RZ:Hid ((Tryz.prog.info? 26).map (·.size)=some (ai {y.t with bP:=d} (.slice y.A y.zs.length y.c)).size):=ae (bD {y.t with bP:=d} _ Xj.out.prev HD.out);have HDE:Hid ((ai bu (.slice none 0 0)).size=(ai {y.t with bP:=d} (.slice y.A y.zs.length y.c)).size):=ae ((bf bu _ rfl rfl).trans (bf {y.t with bP:=d} _ Xj.out.prev HD.out).symm);refine aY 16 (fun K hK=>?_);refine ji (o:=⟨none, .store 26 (.tmp 5) (.tmp 31),_,_,_,none⟩) rfl 26 _ _ rfl vb3 (ai {y.t with bP:=d} (.slice y.A y.zs.length y.c)) rfl rfl 26 (ai bu (.slice none 0 0)) tY.out.var RZ.out HDE.out (aT _ _ _ _) ?_;have Zq:Hid (Below V0.heap.size V0 (W3.setRow vb3 (ai {y.t with bP:=d} (.slice y.A y.zs.length y.c)))):=ae (aB HB3.out hvb3 _);have ZM:=ae (sW.out.grow Zq.out);have RF:yx w r ib io n k x (W3.setRow vb3 (ai {y.t with bP:=d} (.slice y.A y.zs.length y.c))):=yx.of nX.out Bd.out KU.out ZM.out.it ZM.out.lo HR.out hib;refine hK.out _ _ RF (fun _=>?_);clear hK K;try simp only [Act.put]
       refine aN 17 (.int .i64 0) 6 RF (fun w' hSw=>?_) ?_
       ·obtain ⟨s0,s1,_⟩:=hSw;go_simp
       try simp only [Act.put]
       refine wpAnyH_done (by kernel_rfl) ?_ _;have RX:Hid (Xp w r V0 k c A ts vb3 ⟨{y.t with bP:=d},y.A,y.c,y.zs⟩ (W3.setRow vb3 (ai {y.t with bP:=d} (.slice y.A y.zs.length y.c)))):=ae (Xp.of sW.out Zq.out (tY.out.qy _) HYV3.out Xj.out HM.out HD.out);go_wp2_with fail;go_meet;exact ⟨_,_,rfl,qX.out,RX.out⟩
      ·refine jh (o:=⟨some 5, .alloc 26,_,_,_,none⟩) rfl 26 rfl (ai bu (.slice none 0 0)) ed ?_;have HB4:Hid (Below V0.heap.size V0 (W1.alloc (.cells (ai bu (.slice none 0 0)) 26))):=ae (ah HB1.out (ag W1 _));have V8:=ae (sW.out.grow HB4.out);have hS4:yx w r ib io n k x (W1.alloc (.cells (ai bu (.slice none 0 0)) 26)):=yx.of nX.out Bd.out KU.out V8.out.it V8.out.lo HR.out hib;have DV:Hid (AV W1.heap.size 26 (ai bu (.slice none 0 0)) (W1.alloc (.cells (ai bu (.slice none 0 0)) 26))):=ae (AV.new W1 _ _);obtain ⟨vb4,hve4,hvb4⟩:∃b,W1.heap.size=b/\V0.heap.size<=b:=⟨_,rfl,HB1.out.size⟩;have HYV4:Hid (iK V0.heap.size (.slice (some ⟨W1.heap.size,0,none⟩) 1 1) (W1.alloc (.cells (ai bu (.slice none 0 0)) 26)) y):=ae (iK.of (Xi.out.keep (ag W1 _)) (ag W1 (.cells (ai bu (.slice none 0 0)) 26)).size qo.out (Nat.le_refl _) (OJ W1.heap.size));have HYT4:=ae (Xi.out.grow (ag W1 (.cells (ai bu (.slice none 0 0)) 26)));refine hK.out _ _ hS4 (fun _=>?_);clear hK K;refine az ?_;generalize (W1.alloc (.cells (ai bu (.slice none 0 0)) 26))=W4 at HB4 V8 hS4 DV HYV4 HYT4 ⊢;rw [hve4] at DV HYV4 ⊢;clear hve4;refine aY 11 (fun K hK=>?_);go_simp;refine (CJ r.key nX.out y W4 HYT4.out HM.out).mono ?_;rintro e W5 ⟨d,hd,XV,rfl,hb5⟩;have qX:=ae (HCS.out d hd XV);clear XV;have HD:=ae hd;have HYT5:=ae (HYT4.out.grow hb5);have HYV5:=ae (HYV4.out.grow hb5);clear hd;have qU:Hid (Below V0.heap.size V0 W5):=ae (ah HB4.out hb5);have yu:=ae (sW.out.grow qU.out);have hS5:yx w r ib io n k x W5:=yx.of nX.out Bd.out KU.out yu.out.it yu.out.lo HR.out hib;have HV5:=ae (DV.out.below hb5);clear hb5;refine hK.out _ _ hS5 (fun _=>?_);clear hK K;refine az ?_;refine aN 12 (.tuple #[.agg (ai {y.t with bP:=d} (.slice y.A y.zs.length y.c)), .int .i64 0]) 18 hS5 (fun w' hSw=>?_) ?_
       ·obtain ⟨s0,s1,_⟩:=hSw;go_simp
       refine az ?_;refine aN 13 (.agg (ai {y.t with bP:=d} (.slice y.A y.zs.length y.c))) 31 hS5 (fun w' hSw=>?_) ?_
       ·obtain ⟨s0,s1,_⟩:=hSw;go_simp
       refine az ?_;refine aN 14 (.int .i64 0) 32 hS5 (fun w' hSw=>?_) ?_
       ·obtain ⟨s0,s1,_⟩:=hSw;go_simp
       refine az ?_;have RZ:Hid ((Tryz.prog.info? 26).map (·.size)=some (ai {y.t with bP:=d} (.slice y.A y.zs.length y.c)).size):=ae (bD {y.t with bP:=d} _ HYT5.out.prev HD.out);have HDE:Hid ((ai bu (.slice none 0 0)).size=(ai {y.t with bP:=d} (.slice y.A y.zs.length y.c)).size):=ae ((bf bu _ rfl rfl).trans (bf {y.t with bP:=d} _ HYT5.out.prev HD.out).symm);refine aY 16 (fun K hK=>?_);refine ji (o:=⟨none, .store 26 (.tmp 5) (.tmp 31),_,_,_,none⟩) rfl 26 _ _ rfl vb4 (ai {y.t with bP:=d} (.slice y.A y.zs.length y.c)) rfl rfl 26 (ai bu (.slice none 0 0)) HV5.out.var RZ.out HDE.out (aT _ _ _ _) ?_;have Zq:Hid (Below V0.heap.size V0 (W5.setRow vb4 (ai {y.t with bP:=d} (.slice y.A y.zs.length y.c)))):=ae (aB qU.out hvb4 _);have ZM:=ae (sW.out.grow Zq.out);have RF:yx w r ib io n k x (W5.setRow vb4 (ai {y.t with bP:=d} (.slice y.A y.zs.length y.c))):=yx.of nX.out Bd.out KU.out ZM.out.it ZM.out.lo HR.out hib;refine hK.out _ _ RF (fun _=>?_);clear hK K;try simp only [Act.put]
       refine aN 17 (.int .i64 0) 6 RF (fun w' hSw=>?_) ?_
       ·obtain ⟨s0,s1,_⟩:=hSw;go_simp
       try simp only [Act.put]
       refine wpAnyH_done (by kernel_rfl) ?_ _;have RX:Hid (Xp w r V0 k c A ts vb4 ⟨{y.t with bP:=d},y.A,y.c,y.zs⟩ (W5.setRow vb4 (ai {y.t with bP:=d} (.slice y.A y.zs.length y.c)))):=ae (Xp.of sW.out Zq.out (HV5.out.qy _) HYV5.out HYT5.out HM.out HD.out);go_wp2_with fail;go_meet;exact ⟨_,_,rfl,qX.out,RX.out⟩
     ·refine jh (o:=⟨some 5, .alloc 26,_,_,_,none⟩) rfl 26 rfl (ai bu (.slice none 0 0)) ed ?_;have zS:Hid (Below V0.heap.size V0 (V0.alloc (.cells (ai bu (.slice none 0 0)) 26))):=ae (ah HB0.out (ag V0 _));have qL:=ae (sW.out.grow zS.out);have hS6:yx w r ib io n k x (V0.alloc (.cells (ai bu (.slice none 0 0)) 26)):=yx.of nX.out Bd.out KU.out qL.out.it qL.out.lo HR.out hib;have V7:Hid (AV V0.heap.size 26 (ai bu (.slice none 0 0)) (V0.alloc (.cells (ai bu (.slice none 0 0)) 26))):=ae (AV.new V0 _ _);obtain ⟨vb6,hve6,hvb6⟩:∃b,V0.heap.size=b/\V0.heap.size<=b:=⟨_,rfl,HB0.out.size⟩;refine hK.out _ _ hS6 (fun _=>?_);clear hK K;refine az ?_;generalize (V0.alloc (.cells (ai bu (.slice none 0 0)) 26))=W6 at zS qL hS6 V7 ⊢;rw [hve6] at V7 ⊢;clear hve6;refine aY 10 (fun K hK=>?_);go_simp;refine (AL.out W6 qL.out).mono ?_;rintro e W7 ⟨y,rfl,hy7,hm1,hm2,hm3,hm4,hm5,hl7,hb7,hkx⟩;have HM:=ae (JL (by omega) hm1 hm2 hm3 hm4 hm5);have HCS:Hid (∀d:List UInt8,d.length=32->oh qx r.key (lJ y.t)=d->Rj r (ts++ [⟨{y.t with bP:=d},y.A,y.c,y.zs⟩])):=ae (fun d hd hq=>yf.out.snoc xY.out HM.out hy7 hm1 hm2 hkx hd hq);clear hkx;have HYT7:=ae hy7;have qo:=ae (show vT V0.heap.size y from hl7.mono zS.out.size);have HYV7:Hid (iK V0.heap.size (.slice (some ⟨vb6,0,none⟩) 1 1) W7 y):=ae (iK.of hy7 (Nat.le_refl _) hl7 zS.out.size (Yf V7.out.lt));clear hm1 hm2 hm3 hm4 hm5 hy7 hl7;have rE:Hid (Below V0.heap.size V0 W7):=ae (ah zS.out hb7);have jm:=ae (sW.out.grow rE.out);have hS7:yx w r ib io n k x W7:=yx.of nX.out Bd.out KU.out jm.out.it jm.out.lo HR.out hib;have HV7:=ae (V7.out.below hb7);clear hb7;refine hK.out _ _ hS7 (fun _=>?_);clear hK K;refine az ?_;refine aY 11 (fun K hK=>?_);go_simp;refine (CJ r.key nX.out y W7 HYT7.out HM.out).mono ?_;rintro e W8 ⟨d,hd,XV,rfl,hb8⟩;have qX:=ae (HCS.out d hd XV);clear XV;have HD:=ae hd;have HYT8:=ae (HYT7.out.grow hb8);have HYV8:=ae (HYV7.out.grow hb8);clear hd;have Rk:Hid (Below V0.heap.size V0 W8):=ae (ah rE.out hb8);have Ll:=ae (sW.out.grow Rk.out);have hS8:yx w r ib io n k x W8:=yx.of nX.out Bd.out KU.out Ll.out.it Ll.out.lo HR.out hib;have HV8:=ae (HV7.out.below hb8);clear hb8;refine hK.out _ _ hS8 (fun _=>?_);clear hK K;refine az ?_;refine aN 12 (.tuple #[.agg (ai {y.t with bP:=d} (.slice y.A y.zs.length y.c)), .int .i64 0]) 18 hS8 (fun w' hSw=>?_) ?_
      ·obtain ⟨s0,s1,_⟩:=hSw;go_simp
      refine az ?_;refine aN 13 (.agg (ai {y.t with bP:=d} (.slice y.A y.zs.length y.c))) 31 hS8 (fun w' hSw=>?_) ?_
      ·obtain ⟨s0,s1,_⟩:=hSw;go_simp
      refine az ?_;refine aN 14 (.int .i64 0) 32 hS8 (fun w' hSw=>?_) ?_
      ·obtain ⟨s0,s1,_⟩:=hSw;go_simp
      refine az ?_;have RZ:Hid ((Tryz.prog.info? 26).map (·.size)=some (ai {y.t with bP:=d} (.slice y.A y.zs.length y.c)).size):=ae (bD {y.t with bP:=d} _ HYT8.out.prev HD.out);have HDE:Hid ((ai bu (.slice none 0 0)).size=(ai {y.t with bP:=d} (.slice y.A y.zs.length y.c)).size):=ae ((bf bu _ rfl rfl).trans (bf {y.t with bP:=d} _ HYT8.out.prev HD.out).symm);refine aY 16 (fun K hK=>?_);refine ji (o:=⟨none, .store 26 (.tmp 5) (.tmp 31),_,_,_,none⟩) rfl 26 _ _ rfl vb6 (ai {y.t with bP:=d} (.slice y.A y.zs.length y.c)) rfl rfl 26 (ai bu (.slice none 0 0)) HV8.out.var RZ.out HDE.out (aT _ _ _ _) ?_;have Zq:Hid (Below V0.heap.size V0 (W8.setRow vb6 (ai {y.t with bP:=d} (.slice y.A y.zs.length y.c)))):=ae (aB Rk.out hvb6 _);have ZM:=ae (sW.out.grow Zq.out);have RF:yx w r ib io n k x (W8.setRow vb6 (ai {y.t with bP:=d} (.slice y.A y.zs.length y.c))):=yx.of nX.out Bd.out KU.out ZM.out.it ZM.out.lo HR.out hib;refine hK.out _ _ RF (fun _=>?_);clear hK K;try simp only [Act.put]
      refine aN 17 (.int .i64 0) 6 RF (fun w' hSw=>?_) ?_
      ·obtain ⟨s0,s1,_⟩:=hSw;go_simp
      try simp only [Act.put]
      refine wpAnyH_done (by kernel_rfl) ?_ _;have RX:Hid (Xp w r V0 k c A ts vb6 ⟨{y.t with bP:=d},y.A,y.c,y.zs⟩ (W8.setRow vb6 (ai {y.t with bP:=d} (.slice y.A y.zs.length y.c)))):=ae (Xp.of sW.out Zq.out (HV8.out.qy _) HYV8.out HYT8.out HM.out HD.out);go_wp2_with fail;go_meet;exact ⟨_,_,rfl,qX.out,RX.out⟩
    case rest=>
     obtain ⟨vb,y,rfl,hcy,ht⟩:=hcut;have qX:=ae hcy;clear hcy;have HT:=ae ht;have dU:Hid ((Tryz.prog.info? 26).map (·.size)=some (ai y.t (.slice y.A y.zs.length y.c)).size):=ae (bD y.t _ ht.each.prev ht.each.bP);have H68:Hid ((ai y.t (.slice y.A y.zs.length y.c)).size=68):=ae (bf y.t _ ht.each.prev ht.each.bP);have hlt:=ht.md.lt;obtain ⟨i0,hi,hq0,hq1,hq2⟩:=info_parts rO;have HI:=ae hi;have sU:=ae hq0;have kD:=ae hq1;have jr:=ae hq2;have HY68:=ae ht.each.size;clear ht hi hq0 hq1 hq2 HX0 c33 hV0;go_wp2_with (first
      |((with_reducible refine eF 26 ?_);go_must (refine aP rfl _ _ rfl vb rfl (ai y.t (.slice y.A y.zs.length y.c)) HT.out.var.jw _ Tryz.underlying26 rfl dU.out ?_))
      |((with_reducible refine rJ 32 ?_);go_must (refine wW rfl _ rfl (ai y.t (.slice y.A y.zs.length y.c)) H68.out rfl ?_))
      |(at_builtin;go_must (refine wpList_append_lies _ rfl _ _ 32 rfl (w.heap.size+1) 26 i0 (.agg (ai bu (.slice none 0 0))) 68 112 Tryz.underlying32 HI.out sU.out kD.out jr.out rfl (by decide) (.slice A k c) k (ts.flatMap dF.cells) rfl (own_below HT.out.md.own (ag wc _)) ⟨wc.heap.size,0,none⟩ 1 1 y.cells rfl HY68.out (dB _ _ _ _ rfl) (YI y) (by omega) (by unfold maxLen;omega) (by omega) (by simp;omega) _ rfl ?_;intro gg cap w6 hown6 hgrow6 gu _;have HN:Hid (wG w r.cells.toArray (k+1) cap (some ⟨gg,0,none⟩) (ts++ [y]) w6):=ae (HT.out.md.add HT.out.mem HT.out.each rfl hown6 hgrow6 gu);clear hown6 hgrow6 gu)))
     go_meet;exact ⟨rfl,some ⟨gg,0,none⟩,cap,y,rfl,qX.out,HN.out⟩
   case rest=>
    obtain ⟨rfl,A2,c2,y,rfl,hcy,hw2⟩:=hcut;have qX:=ae hcy;clear hcy;have HW2:=ae hw2;clear hw2 HX0;go_wp2_with fail;go_roundw
    case rel=>exact ⟨k+1,c2,A2,_,by omega,by omega,rfl,by go_num,by rw [bF,xY.out];rfl,qX.out,HW2.out⟩
    case measure=>simp [intOf];omega
  ·have hex:¬(k:Int)<(n:Int)\/((k:Int)<(n:Int)/\¬(k:Int)<5):=by omega
   rcases hex with h1|⟨h1,h2⟩
   all_goals
    go_wp2_with fail;go_ret;exact ⟨A,k,c,ts,rfl,xY.out,hk5,HX0.out.cap,HX0.out.chain,yf.out,⟨HX0.out.fin,HX0.out.form⟩,HX0.out.lo⟩
theorem VD:jB z0:=⟨by decide,by decide,by decide,by decide⟩
theorem ver_t1 {n wd:Int} {ys:List dw} (h:ys.map (·.e)=(vt n wd true).aF):∃s,ys= [⟨FB,s⟩]:=by
 have h2:ys.map (·.e)= [FB]:=h;cases ys with
 |nil=>cases h2
 |cons x r=>
  rw [List.map_cons] at h2;injection h2 with h3 h4;have hr:r= []:=List.map_eq_nil_iff.1 h4;subst hr;exact ⟨x.s,by rw [<-h3]⟩
theorem ver_f0 {n wd:Int} {ys:List dw} (h:ys.map (·.e)=(vt n wd false).aF):ys= []:=by
 match ys,h with
 | [],_=>rfl
def yT (n wd:Int) (A:Option Addr) (c:Nat) (s:Zs):dF:=⟨vt n wd true,A,c,[⟨FB,s⟩]⟩
def gX (n wd:Int) (A:Option Addr) (c:Nat):dF:=⟨vt n wd false,A,c,[]⟩
theorem QY (n wd:Int) (w:World):Calls Tryz.prog 23 #[I n,I wd, .bool true] w fun e w'=>∃A c s,e= .returned (.agg (yT n wd A c s).cells.toArray)/\fV w' w'.heap.size (yT n wd A c s)/\Below w.heap.size w w':=
 (Fh n wd w).mono (fun e w' ⟨A,c,ys,h1,h2,h3,h4⟩=>by
  obtain ⟨s,rfl⟩:=ver_t1 h3;exact ⟨A,c,s,h1,G7 h2 h3,h4⟩)
theorem Vk (n wd:Int) (w:World):Calls Tryz.prog 23 #[I n,I wd, .bool false] w fun e w'=>∃A c,e= .returned (.agg (gX n wd A c).cells.toArray)/\fV w' w'.heap.size (gX n wd A c)/\Below w.heap.size w w':=
 (QZ n wd w).mono (fun e w' ⟨A,c,ys,h1,h2,h3,h4⟩=>by
  obtain rfl:=ver_f0 h3;exact ⟨A,c,h1,G7 h2 h3,h4⟩)
theorem yR (n wd:Int) (A:Option Addr) (c:Nat) (s:Zs):(yT n wd A c s).zs.length<=1000/\∀y∈(yT n wd A c s).zs,jB y.e.z:=⟨Nat.le_of_ble_eq_true rfl,fun y hy=>by rw [List.mem_singleton.1 hy];exact VD⟩
theorem Dk (n wd:Int) (A:Option Addr) (c:Nat):(gX n wd A c).zs.length<=1000/\∀y∈(gX n wd A c).zs,jB y.e.z:=⟨Nat.zero_le _,fun _ h=>nomatch h⟩
def lF (ys:List dF):Array Value:=(ys.flatMap dF.cells).toArray
section
variable {ops:Array Oper} {rest:List Oper} {o:Oper} {a:Act} {Q:Exit->Act->World->Prop} {w:World}
theorem xQ (hgd:o.guard=none) (x0 x1 x2 x3:Operand) (ho:o.op= .buildSlice 32 4 #[(0,x0),(1,x1),(2,x2),(3,x3)]) (y0 y1 y2 y3:dF) (h0:y0.cells.length=68) (h1:y1.cells.length=68) (h2:y2.cells.length=68) (h3:y3.cells.length=68)
  (e0:a.eval x0= .agg y0.cells.toArray) (e1:a.eval x1= .agg y1.cells.toArray) (e2:a.eval x2= .agg y2.cells.toArray) (e3:a.eval x3= .agg y3.cells.toArray)
  (h:wpList Tryz.prog ops Q rest (a.put o.dst (.slice (some ⟨w.heap.size,0,none⟩) 4 4)) (w.alloc (.cells (lF [y0,y1,y2,y3]) 26))):wpList Tryz.prog ops Q (o::rest) a w:=by
 obtain ⟨i0,hi,hz0,hz1,hz2⟩:=info_parts rO;refine wpList_buildSlice hgd 32 26 4 _ ho ([y0,y1,y2,y3].flatMap dF.cells).toArray i0 (.agg (ai bu (.slice none 0 0))) Tryz.underlying32 hi hz0 (by rw [hz1];decide) (by rw [hz1];decide) ?_ h;rw [hz1];simp only [List.map_toArray,List.map_cons,List.map_nil,e0,e1,e2,e3];have h:=Go.Great.fill_whole (s:=68) (by omega) [.agg y0.cells.toArray, .agg y1.cells.toArray, .agg y2.cells.toArray, .agg y3.cells.toArray] ((Array.range (4*68)).map ((Value.agg (ai bu (.slice none 0 0))).cells[· %(Value.agg (ai bu (.slice none 0 0))).cells.size]!)) (fun v hv=>by
  simp at hv;rcases hv with rfl|rfl|rfl|rfl<;>simp [Value.cells,h0,h1,h2,h3]) (by simp)
 have e:([Value.agg y0.cells.toArray, .agg y1.cells.toArray, .agg y2.cells.toArray, .agg y3.cells.toArray].flatMap fun v=>v.cells.toList).toArray=([y0,y1,y2,y3].flatMap dF.cells).toArray:=by simp [Value.cells]
 rw [e] at h;exact h
theorem Hm (hgd:o.guard=none) (x0 x1:Operand) (ho:o.op= .buildSlice 32 2 #[(0,x0),(1,x1)]) (y0 y1:dF) (h0:y0.cells.length=68) (h1:y1.cells.length=68)
  (e0:a.eval x0= .agg y0.cells.toArray) (e1:a.eval x1= .agg y1.cells.toArray)
  (h:wpList Tryz.prog ops Q rest (a.put o.dst (.slice (some ⟨w.heap.size,0,none⟩) 2 2)) (w.alloc (.cells (lF [y0,y1]) 26))):wpList Tryz.prog ops Q (o::rest) a w:=by
 obtain ⟨i0,hi,hz0,hz1,hz2⟩:=info_parts rO;refine wpList_buildSlice hgd 32 26 2 _ ho ([y0,y1].flatMap dF.cells).toArray i0 (.agg (ai bu (.slice none 0 0))) Tryz.underlying32 hi hz0 (by rw [hz1];decide) (by rw [hz1];decide) ?_ h;rw [hz1];simp only [List.map_toArray,List.map_cons,List.map_nil,e0,e1];have h:=Go.Great.fill_whole (s:=68) (by omega) [.agg y0.cells.toArray, .agg y1.cells.toArray] ((Array.range (2*68)).map ((Value.agg (ai bu (.slice none 0 0))).cells[· %(Value.agg (ai bu (.slice none 0 0))).cells.size]!)) (fun v hv=>by
  simp at hv;rcases hv with rfl|rfl<;>simp [Value.cells,h0,h1]) (by simp)
 have e:([Value.agg y0.cells.toArray, .agg y1.cells.toArray].flatMap fun v=>v.cells.toList).toArray=([y0,y1].flatMap dF.cells).toArray:=by simp [Value.cells]
 rw [e] at h;exact h
end
theorem yD (ys:List dF) (W:World) (h:∀y∈ys,fV W W.heap.size y):jq (W.alloc (.cells (lF ys) 26)) (W.alloc (.cells (lF ys) 26)).heap.size (some ⟨W.heap.size,0,none⟩) ys:=by
 refine ⟨.inr ⟨W.heap.size,0,rfl,by simp,fun j u hu=>?_⟩,fun y hy=>(h y hy).grow (ag W _)⟩;rw [Nat.zero_add,cell_of_row _ _ j _ _ _ (heap_alloc_last W _)];unfold lF;simpa using hu
theorem jq.takeL {w:World} {B:Nat} {A:Option Addr} {ts:List dF} (h:jq w B A ts) (k:Nat):jq w B A (ts.take k):=by
 refine ⟨?_,fun y hy=>h.each y (List.mem_of_mem_take hy)⟩;rcases h.row with h|⟨b,off,h1,h2,h3⟩
 ·refine .inl (List.eq_nil_iff_length_eq_zero.1 ?_);have e:=List.eq_nil_of_length_eq_zero h;rw [List.flatMap_eq_nil_iff] at e ⊢;exact fun x hx=>e x (List.mem_of_mem_take hx)
 ·refine .inr ⟨b,off,h1,h2,fun j u hu=>h3 j u ?_⟩;have e:ts.flatMap dF.cells=(ts.take k).flatMap dF.cells++(ts.drop k).flatMap dF.cells:=by rw [<-List.flatMap_append,List.take_append_drop]
  rw [e,List.getElem?_append_left (gQ.1 hu).1];exact hu
theorem jq.tail {w:World} {B b off:Nat} {y:dF} {ts:List dF} (h:jq w B (some ⟨b,off,none⟩) (y::ts)) (hy:y.cells.length=68):jq w B (some ⟨b,off+68,none⟩) ts:=by
 refine ⟨?_,fun z hz=>h.each z (List.mem_cons_of_mem _ hz)⟩;rcases h.row with h|⟨b2,xG,h1,h2,h3⟩
 ·rw [List.flatMap_cons,bF,hy] at h;omega
 ·injection h1 with h1;injection h1 with h1 h4;subst h1 h4;refine .inr ⟨b,off+68,rfl,h2,fun j u hu=>?_⟩;rw [Nat.add_assoc];exact h3 (68+j) u (by rw [List.flatMap_cons,List.getElem?_append_right (by omega),hy,show 68+j - 68=j by omega];exact hu)
theorem Y2:mP [FB] ⟨#[97]⟩=some z0:=by
 have e:yI FB.name ⟨#[97]⟩=true:=by decide+kernel
 unfold mP;rw [List.find?_cons,e];rfl
theorem Y3:mP [FB] ⟨#[98]⟩=none:=by
 have e:yI FB.name ⟨#[98]⟩=false:=by decide+kernel
 unfold mP;rw [List.find?_cons,e];rfl
section
variable (A1 A2 A3 A4 B1 B2:Option Addr) (c1 c2 c3 c4 d1 d2:Nat) (s1 s2 s4:Zs)
theorem TE:o9 [yT 1 0 A1 c1 s1,yT 2 0 A2 c2 s2,gX 3 2 A3 c3]=1:=by rfl
theorem TF:o9 [yT 1 0 A1 c1 s1,yT 2 0 A2 c2 s2,gX 3 2 A3 c3,gX 4 3 A4 c4]=2:=by rfl
theorem TI:o9 [yT 1 0 A1 c1 s1,yT 2 0 A2 c2 s2,gX 3 2 A3 c3,yT 4 0 A4 c4 s4]=4:=by rfl
theorem TJ:o9 [gX 1 0 B1 d1,gX 2 1 B2 d2]= -4:=by rfl
theorem TK:o9 [yT 2 0 A2 c2 s2,gX 3 2 A3 c3,gX 4 3 A4 c4]= -1:=by rfl
theorem XL:o9 []= -4:=by rfl
theorem pick_l:pick [yT 1 0 A1 c1 s1,yT 2 0 A2 c2 s2,gX 3 2 A3 c3,gX 4 3 A4 c4] ⟨#[97]⟩=some z0:=by
 have e:wK [yT 1 0 A1 c1 s1,yT 2 0 A2 c2 s2,gX 3 2 A3 c3,gX 4 3 A4 c4]=(1,true):=rfl;unfold pick;rw [e];exact Y2
theorem pick_n:pick [gX 1 0 B1 d1,gX 2 1 B2 d2] ⟨#[97]⟩=none:=by rfl
end
theorem prefA {w w':World} {e:Ending} {A A':Option Addr} {c c':Nat} {LS NS:List dF} {nm:ByteArray} (hL:pick LS nm=some z0) (hN:pick NS nm=none) (h:SG w [⟨A,c,LS⟩,⟨A',c',NS⟩] [1,0] nm e w'):
  Below w.heap.size w w'/\∃s,e= .returned (.tuple #[.agg (ay z0 s),I 0,I 0]):=by
 have p1:pk [⟨A,c,LS⟩,⟨A',c',NS⟩] nm 1=none:=hN;have p0:pk [⟨A,c,LS⟩,⟨A',c',NS⟩] nm 0=some z0:=hL;obtain ⟨hb,⟨⟨k,hk,hn⟩,_⟩|⟨_,⟨hall,_⟩|⟨j,k,z,s,hj,hp,_,he,_⟩⟩⟩:=h
 ·exfalso;apply hn;simp only [List.mem_cons,List.not_mem_nil,or_false] at hk;rcases hk with rfl|rfl
  ·exact ⟨by decide,by show (1:Int)<2;decide⟩
  ·exact ⟨by decide,by show (0:Int)<2;decide⟩
 ·have:=hall 0 (by simp);rw [p0] at this;cases this
 ·have hjl:j<2:=(gQ.1 hj).1;rcases Nat.lt_succ_iff_lt_or_eq.1 hjl with h0|rfl
  ·have e0:j=0:=by omega
   subst e0;injection hj with hj;subst hj;rw [p1] at hp;cases hp
  ·injection hj with hj;subst hj;rw [p0] at hp;injection hp with hp;subst hp;exact ⟨hb,s,he⟩
theorem prefB {w w':World} {e:Ending} {A A':Option Addr} {c c':Nat} {LS NS:List dF} {nm:ByteArray} (h:SG w [⟨A,c,LS⟩,⟨A',c',NS⟩] [2] nm e w'):
  Below w.heap.size w w'/\e= .returned (.tuple #[.agg iH,I 0,I 1]):=by
 obtain ⟨hb,⟨_,he⟩|⟨hall,_⟩⟩:=h
 ·exact ⟨hb,he⟩
 ·have:=hall 2 (by simp);exact absurd this.2 (by show¬((2:Int)<2);decide)
theorem Tv (W:World) (cs:List Aw) (vs:Array Value) (t:TypeId) (h:vs.toList=cs.map Aw.cell) (he:∀x∈cs,jq W W.heap.size x.A x.ts):AA (W.alloc (.cells vs t)) (W.alloc (.cells vs t)).heap.size (some ⟨W.heap.size,0,none⟩) cs:=by
 refine ⟨.inr ⟨W.heap.size,0,rfl,by simp,fun j u hu=>?_⟩,fun x hx=>(he x hx).grow (ag W _)⟩;rw [Nat.zero_add,cell_of_row _ _ j _ _ _ (heap_alloc_last W _),<-Array.getElem?_toList,h];exact hu
theorem Jh (W:World) (zs:List Int) (vs:Array Value) (t:TypeId) (h:vs.toList=zs.map I):ku (W.alloc (.cells vs t)) (W.alloc (.cells vs t)).heap.size (some ⟨W.heap.size,0,none⟩) zs:=by
 refine aA.ints (.inr ⟨W.heap.size,0,rfl,by simp,fun j u hu=>?_⟩);rw [Nat.zero_add,cell_of_row _ _ j _ _ _ (heap_alloc_last W _),<-Array.getElem?_toList,h];exact hu
theorem zoneB {w w':World} {e:Ending} (h:Z4 w [FB] ⟨#[98]⟩ e w'):Below w.heap.size w w'/\e= .returned (.tuple #[.agg iH,I 4]):=by
 obtain ⟨hb,⟨_,he⟩|⟨z,s,hz,_⟩⟩:=h
 ·exact ⟨hb,he⟩
 ·rw [Y3] at hz;cases hz
theorem Rf (n wd:Int) (A:Option Addr) (c:Nat) (s:Zs) (W:World) (h:fV W W.heap.size (yT n wd A c s)):Calls Tryz.prog 28 #[.agg (yT n wd A c s).cells.toArray, .string ⟨#[98]⟩] W fun e w'=>Below W.heap.size W w'/\e= .returned (.tuple #[.agg iH,I 4]):=
 (Dy (yT n wd A c s) 1 ⟨#[98]⟩ W rfl (by omega) (yR n wd A c s).2 h).mono (fun e w' h=>zoneB h)
theorem jq.head {w:World} {B b off:Nat} {y:dF} {ts:List dF} (h:jq w B (some ⟨b,off,none⟩) (y::ts)) (hy:y.cells.length=68):w.rangeAt b off y.cells/\b<B:=by
 rcases h.row with h|⟨b2,xG,h1,h2,h3⟩
 ·rw [List.flatMap_cons,bF,hy] at h;omega
 ·injection h1 with h1;injection h1 with h1 h4;subst h1 h4;exact ⟨fun j u hu=>h3 j u (by rw [List.flatMap_cons,List.getElem?_append_left (gQ.1 hu).1];exact hu),h2⟩
theorem YU (n wd:Int) (A:Option Addr) (c:Nat) (s:Zs) (W:World) (hn:n<1):Calls Tryz.prog 29 #[.agg (yT n wd A c s).cells.toArray] W (Gives (.int .i64 1) W):=
 Vj (vt n wd true) A 1 c W ⟨by show (0:Int)<=2;decide,by show (2:Int)<16;decide⟩ (by show n<1;exact hn)
theorem YZ {z:Zn} (hy:z.aH= []):tJ z= []:=by
 unfold tJ uy;rw [hy];simp only [List.mergeSort_nil]
theorem z0_ok:vg z0=0:=by
 have e:tJ z0= []:=YZ rfl;unfold vg Cb;rw [e];decide+kernel
theorem Vl:mg (vt 1 0 true)=0:=by
 unfold mg;rw [if_neg (by decide+kernel),if_neg (by decide+kernel),if_neg (by decide+kernel)];show eu ⟨#[]⟩ [FB]=0;rw [oZ,if_neg (by decide+kernel),if_pos (show vg FB.z=0 from z0_ok)];rfl
def nV:List UInt8:=([2,1,0]++List.replicate 32 0)++ [1,1,97,0,0,0,0,1,3,0,0,60,0,0,0]++List.replicate 9 0
theorem zG:lJ (vt 1 0 true)=nV:=by decide+kernel
theorem J6:Ii nV=some (vt 1 0 true,[]):=by kernel_rfl
theorem J7:Ii (nV.take 58)=none:=by kernel_rfl
theorem Q4:yz nV=some (vt 1 0 true):=IL J6 Vl zG
theorem Vp:yz (nV.take 58)=none:=EK fun t h=>by rw [J7] at h;cases h
end Go.Proofs.YtbaehbbonkljpaaGreatDoor
