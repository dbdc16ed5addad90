/- The texts Vr, in this order. -/
import Derived.Test.YtbaehbbonkljpaaGreatR00
import Derived.Test.YtbaehbbonkljpaaGreatR18
import Derived.Test.YtbaehbbonkljpaaGreatR35
import Derived.Test.YtbaehbbonkljpaaGreatR37
set_option maxRecDepth 10000
set_option maxHeartbeats 8000000
namespace Go.Proofs.YtbaehbbonkljpaaGreat
open Go Go.RowKit
theorem PR {M:Nat} {w:World} {A:Option Addr} {L:List UInt8} (h:BytesAt w M A L) (c:Nat):(convert 22 9 (.slice A L.length c)).run Tryz.prog w= .ok (.string ⟨L.toArray⟩) w:=by
 by_cases h0:L.length=0
 ·have e:L= []:=List.eq_nil_of_length_eq_zero h0;subst e;cases A with
  |none=>rw [run_convert_bytes_string w _ _ _ none _ _ Tryz.underlying22 Tryz.underlying5 Tryz.underlying9];rfl
  |some a=>
   rw [run_convert_bytes_string w _ _ _ (some a) _ _ Tryz.underlying22 Tryz.underlying5 Tryz.underlying9,run_bytesToString w a _ _ [] rfl];rfl
 ·obtain ⟨b,off,rfl,_,hc⟩:∃b off,A=some ⟨b,off,none⟩∧b<M∧∀j,j<L.length→w.cell? ⟨b,off+j,none⟩=some (Extern.Stop.cell (L[j]?.getD 0)):=by
   rcases h with h|h
   ·exact absurd h h0
   ·exact h
  have hs:(⟨L.toArray⟩:ByteArray).size=L.length:=by show L.toArray.size=_;simp
  have h1:=yj w b off c ⟨L.toArray⟩ (fun j hj=>by rw [hs] at hj;exact hc j hj)
  rwa [hs] at h1
theorem XJ (nm:ByteArray) (z:Zn) (s:Zs):uK #[.string nm,I 0, .slice none 0 0,I 0, .slice none 0 0,I 0, .slice none 0 0,I 0, .slice none 0 0] 1 (au z s).toList= #[.string nm,I z.cal.aJ, .slice s.A z.cal.aj.length s.a,I z.cal.aY, .slice s.B z.cal.rules.length s.b,I z.start, .slice s.C z.trans.length s.c,I z.hor, .slice s.D z.ax.length s.d]:=by
 simp [au,uK]
theorem tb_ver (T:Tb) (v:Value) (x:Int):(ah T v).setIfInBounds 1 (I x)=ah {T with version:=x} v:=by simp [ah,iW]
theorem tb_wd (T:Tb) (v:Value) (x:Int):(ah T v).setIfInBounds 2 (I x)=ah {T with aO:=x} v:=by simp [ah,iW]
theorem tb_zs (T:Tb) (v u:Value):(ah T v).setIfInBounds 3 u=ah T u:=by simp [ah,iW]
theorem tb_pv (T:Tb) (v:Value) (i:Nat) (x:UInt8) (hi:i<T.prev.length):(ah T v).setIfInBounds (4+i) (Extern.Stop.cell x)=ah {T with prev:=T.prev.set i x} v:=by
 have e:(ay T.prev).length=T.prev.length:=by simp [ay]
 simp only [ah,iW,List.setIfInBounds_toArray];congr 1;rw [List.set_append_right _ _ (by simp)];congr 1;simp only [List.length_cons,List.length_nil,Nat.add_sub_cancel_left,Nat.zero_add,Nat.reduceAdd];rw [List.set_append_left _ _ (by rw [e];exact hi)];congr 1;simp only [ay,List.map_set]
def mG (P:List UInt8) (i:Nat):List UInt8:=P.take i++bU.drop i
theorem PM (P:List UInt8) (i:Nat) (h:P.length=32) (hi:i≤32):(mG P i).length=32:=by
 simp only [mG,bH,List.length_take,List.length_drop,h,show bU.length=32 from rfl];omega
theorem LW (P:List UInt8) (i:Nat) (h:P.length=32) (hi:i<32):(mG P i).set i (P[i]?.getD 0)=mG P (i+1):=by
 have e:P.take (i+1)=P.take i++ [P[i]?.getD 0]:=by rw [List.take_add_one,bZ (by omega)];rfl
 have e2:bU.drop i=0::bU.drop (i+1):=by
  have hz:bU.length=32:=rfl;rw [List.drop_eq_getElem_cons (by omega)];congr 1;exact List.getElem_replicate _
 unfold mG;rw [e2,e,List.append_assoc,List.set_append_right _ _ (by rw [List.length_take];omega),show i - (P.take i).length=0 by rw [List.length_take];omega];rfl
theorem CO.Vz {lo lo' g:Nat} {w w':World} {A:Option Addr} {cs:List Value} (h:CO lo' w A cs) (hl:lo≤lo') (hs:w.heap.size≤w'.heap.size) (hb:∀k,lo'≤k→k<w.heap.size→w'.heap[k]? =w.heap[k]? ∧k≠g):JU lo g w' A cs:=by
 rcases h with h|⟨b,off,h1,h2,h3,h5⟩
 ·exact .inl h
 ·obtain ⟨e1,e2⟩:=hb b h2 h3;exact .inr ⟨b,off,h1,⟨by omega,by omega,e2⟩,fun j u hu=>(World.cell?_of_block (a:=⟨b,off+j,none⟩) e1).trans (h5 j u hu)⟩
theorem JP.zx {lo lo' g:Nat} {w w':World} {y:dB} (h:JP lo' w y.s y.e.z) (hl:lo≤lo') (hs:w.heap.size≤w'.heap.size) (hb:∀k,lo'≤k→k<w.heap.size→w'.heap[k]? =w.heap[k]? ∧k≠g):ZX lo g w' y:=
 ⟨h.aj.Vz hl hs hb,h.rules.Vz hl hs hb,h.trans.Vz hl hs hb,h.ax.Vz hl hs hb⟩
theorem Pj {lo e size n k c c2 g2:Nat} {W W':World} {A:Option Addr} {xs:List Value} {x:Obj} (ho:W.ownsRow lo e size (.slice A k c) k xs) (hnl:k=0→A=none∧c=0) (hg:(W.alloc x).grownBy W' (Value.slice A k c).ownBlock)
  (hat:(Value.slice (some ⟨g2,0,none⟩) n c2).ownBlock=(Value.slice A k c).ownBlock∨(Value.slice (some ⟨g2,0,none⟩) n c2).ownBlock=some (W.heap.size+1)):
  ∀b,b<W.heap.size→(∀g,A=some ⟨g,0,none⟩→b≠g)→W'.heap[b]? =W.heap[b]? ∧b≠g2:=by
 intro b hb hne;have h1:some b≠(Value.slice A k c).ownBlock:=by
  by_cases hk:k=0
  ·rw [(hnl hk).1];simp [Value.ownBlock]
  ·obtain ⟨g,cap,h2,_⟩:=fM ho (by omega);injection h2 with h2 _ _;rw [h2];have:=hne g h2;simp [Value.ownBlock,this]
 refine ⟨(hg.block b (by simp;omega) h1).trans (Below.heap_alloc W x b hb),fun e=>?_⟩;subst e;rcases hat with h|h
 ·exact h1 (by rw [←h];rfl)
 ·have h:some b=some (W.heap.size+1):=h;injection h with h;omega
structure sD (w:World) (o:eQ) (tb:Nat) (cs:Array Value) (W:World):Prop where
 rd:RR w.heap.size W (w.heap.size+1) o
 res:W.heap[w.heap.size]? =some (.cells (ah bz (.slice none 0 0)) 39 (0,0))
 var:W.heap[tb]? =some (.cells cs 39 (0,0))
 lo:w.heap.size+1<tb
 keep:Below w.heap.size w W
section
variable {w W W':World} {o o':eQ} {tb:Nat} {cs:Array Value}
theorem sD.lt (h:sD w o tb cs W):tb<W.heap.size:=(bK.1 h.var).1
theorem sD.cell (h:sD w o tb cs W):∀i,W.cell? ⟨tb,i,none⟩=cs[i]? :=fun i=>cell_of_row W tb i _ _ _ h.var
theorem sD.eY (h:sD w o tb cs W):∀i,W.frozen? ⟨tb,i,none⟩=false:=fun i=>frozen_of_row W tb i _ _ h.var
theorem sD.row (h:sD w o tb cs W):Row W tb cs:=⟨h.lt,h.cell⟩
theorem sD.step (h:sD w o tb cs W) (hr:RR w.heap.size W' (w.heap.size+1) o') (hk:dA (w.heap.size+1) W W'):sD w o' tb cs W':=
 have h1:=h.lo;have h2:=h.lt;have h3:=h.keep.size
 ⟨hr,(hk.block _ (by omega) (by omega)).trans h.res,(hk.block tb h2 (by omega)).trans h.var,h.lo,⟨hk.os.trans h.keep.os,hk.tape.trans h.keep.tape,hk.output.trans h.keep.output,Nat.le_trans h.keep.size hk.size,fun k hk2=>(hk.block k (by omega) (by omega)).trans (h.keep.block k hk2)⟩⟩
theorem sD.num {v:Int} {e:Ending} (h:sD w o tb cs W) (hn:OX w.heap.size W (w.heap.size+1) v o' e W'):sD w o' tb cs W':=h.step hn.2.1 hn.2.2
theorem sD.low (h:sD w o tb cs W) (hb:Below (tb+1) W W'):sD w o tb cs W':=
 have h1:=h.lo;have h2:=h.lt;have h3:=h.keep.size
 ⟨h.rd.below hb (by omega),(hb.block _ (by omega)).trans h.res,(hb.block tb (by omega)).trans h.var,h.lo,⟨hb.os.trans h.keep.os,hb.tape.trans h.keep.tape,hb.output.trans h.keep.output,Nat.le_trans h.keep.size hb.size,fun k hk2=>(hb.block k (by omega)).trans (h.keep.block k hk2)⟩⟩
theorem sD.more (h:sD w o tb cs W) (x:Obj):sD w o tb cs (W.alloc x):=
 have h4:=h.lt
 h.low ⟨rfl,rfl,rfl,(ag W x).size,fun k hk=>(ag W x).block k (by omega)⟩
theorem sD.store (h:sD w o tb cs W) (i:Nat) (v:Value):sD w o tb (cs.setIfInBounds i v) (W.setCell ⟨tb,i,none⟩ v):=by
 have h1:=h.lo;have h2:=h.lt;have h3:=h.keep.size;have hb:Below tb W (W.setCell ⟨tb,i,none⟩ v):=(Below.refl tb W).setCell (p:=⟨tb,i,none⟩) (Nat.le_refl _) _;exact ⟨h.rd.below hb (by omega),(hb.block _ (by omega)).trans h.res,heap_setCell_same W tb i _ _ _ h.var,h.lo,⟨hb.os.trans h.keep.os,hb.tape.trans h.keep.tape,hb.output.trans h.keep.output,Nat.le_trans h.keep.size hb.size,fun k hk2=>(hb.block k (by omega)).trans (h.keep.block k hk2)⟩⟩
theorem sD.grown {base e size n:Nat} {v:Value} {ys:List Value} {x:Obj} (h:sD w o tb cs W) (hown:W.ownsRow base e size v n ys) (hb:tb<base) (hg:(W.alloc x).grownBy W' v.ownBlock):sD w o tb cs W':=by
 have h4:=h.lt;exact h.low ⟨hg.os,hg.tape,hg.output,by have:=hg.size;simp at this;omega,fun k hk=>by rw [hg.block k (by simp;omega) (dZ hown k (by omega)),Below.heap_alloc W x k (by omega)]⟩
end
theorem Ug (w W:World) (B:List UInt8) (A:Option Addr) (N c:Nat) (hN:B.length=N) (hc1:N≤c) (hc2:c≤9223372036854775807) (hA:BytesAt w w.heap.size A B) (hb:Below w.heap.size w W) (hs:W.heap.size=w.heap.size+1):
  RR w.heap.size (W.alloc (.cells (#[.slice A N c, .bool false]) 91)) (w.heap.size+1) (some B):=by
 refine ⟨Nat.le_succ _,A,N,c,?_,hc1,hc2,fun D hD=>?_⟩
 ·rw [←hs];exact heap_alloc_last W _
 ·injection hD with hD;subst hD;exact ⟨hN,(hA.blocks fun k hk=>((ag W _).block k (by omega)).trans (hb.block k hk))⟩
theorem IX {M:Nat} {w:World} {rb n:Nat} {o o':eQ} {L:List UInt8} (h:tX n o=(L,o')) (hr:RR M w rb o) (hn:n≤1000000):Calls Tryz.prog 38 #[pt rb,I n] w fun e w'=>∃A c,e= .returned (.slice A L.length c)∧BytesAt w' M A L∧RR M w' rb o'∧dA rb w w':=by
 have h1:=Et M w rb n o hr hn;unfold VL at h1
 rwa [h] at h1
theorem Un {M:Nat} {w:World} {rb:Nat} {o o':eQ} {z:Zn} (h:ZC o=(z,o')) (hr:RR M w rb o):Calls Tryz.prog 39 #[pt rb] w (ZonR M w rb z o'):=by
 have h1:=XT M w rb o hr
 rwa [h] at h1
theorem tD_tX (o:eQ):tD o=(if (tX 32 o).1.length=32 then (tX 32 o).1 else bU,(tX 32 o).2):=by
 cases o with
 |none=>rfl
 |some B=>
  by_cases h:32≤B.length
  ·rw [FQ h];show (if 32≤B.length then _ else _)=_;rw [if_pos h,if_pos (by rw [List.length_take];omega)]
  ·rw [Ol h];show (if 32≤B.length then _ else _)=_;rw [if_neg h];rfl
theorem Ux (o:eQ):(tX 32 o).1.length=32∨(tX 32 o).1= []:=by
 cases o with
 |none=>exact .inr rfl
 |some B=>
  by_cases h:32≤B.length
  ·rw [FQ h];exact .inl (by rw [List.length_take];omega)
  ·rw [Ol h];exact .inr rfl
theorem tK_tX (n:Nat) (o:eQ):tK n o=(⟨(tX n o).1.toArray⟩,(tX n o).2):=by
 cases o with
 |none=>rfl
 |some B=>
  by_cases h:n≤B.length
  ·rw [FQ h];show (if n≤B.length then _ else _)=_;rw [if_pos h]
  ·rw [Ol h];show (if n≤B.length then _ else _)=_;rw [if_neg h]
end Go.Proofs.YtbaehbbonkljpaaGreat
