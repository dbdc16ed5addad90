/- The texts Kn, Qk, Qh, DgU, Of, TrU, Og, Qi, Qj, Oh, in this order. -/
import Derived.Test.YtdibbemgpikgjaaGreatDoorY00
import Derived.Defers
import Derived.Laws.AppendOwnNone
import Derived.Laws.BitsAllLaws
import Derived.Laws.BytesArg
import Derived.Laws.Cover3
import Derived.Lib.AppendStr
import Derived.Lib.ByteType
import Derived.MapKept
import Derived.Recover
import Derived.Test.YtdibbemgpikgjaaGreatDoorY06
import Derived.Test.YtdibbemgpikgjaaGreatDoorY07
import Derived.Test.YtdibbemgpikgjaaGreatDoorY09
import Derived.Test.YtdibbemgpikgjaaGreatDoorY13
import Derived.Test.YtdibbemgpikgjaaGreatDoorY23
import Derived.Test.YtdibbemgpikgjaaGreatDoorY28
import Derived.Test.YtdibbemgpikgjaaGreatDoorY29
set_option maxRecDepth 10000
set_option maxHeartbeats 8000000
namespace Go.Proofs.YtdibbemgpikgjaaGreatDoor
open Go Go.RowKit
def nH (lo:Nat) (w:World) (A:Option Addr) (n c:Nat) (bs:List UInt8):Prop:=w.ownsRow lo 5 1 (.slice A n c) n (bs.map Extern.Stop.cell)
structure uD (v:Value) (w:World) (v':Value) (w':World):Prop where
 os:w'.os=w.os
 tape:w'.tape=w.tape
 output:w'.output=w.output
 size:w.heap.size≤w'.heap.size
 block:∀k,k<w.heap.size→some k≠v.ownBlock→w'.heap[k]? =w.heap[k]?
 own:v'.ownBlock=v.ownBlock∨∃b,v'.ownBlock=some b∧w.heap.size≤b
theorem uD.refl (v:Value) (w:World):uD v w v w:=⟨rfl,rfl,rfl,Nat.le_refl _,fun _ _ _=>rfl, .inl rfl⟩
theorem uD.trans {v v1 v2:Value} {w w1 w2:World} (h:uD v w v1 w1) (k:uD v1 w1 v2 w2):uD v w v2 w2:=by
 refine ⟨k.os.trans h.os,k.tape.trans h.tape,k.output.trans h.output,Nat.le_trans h.size k.size,fun b hb hv=>?_,?_⟩
 ·refine (k.block b (dP hb h.size) ?_).trans (h.block b hb hv);rcases h.own with e|⟨b1,e,hb1⟩
  ·rw [e];exact hv
  ·rw [e];intro h';injection h' with h';omega
 ·rcases k.own with e|⟨b,e,hb⟩
  ·rcases h.own with e1|⟨b1,e1,hb1⟩
   ·exact .inl (e.trans e1)
   ·exact .inr ⟨b1,e.trans e1,hb1⟩
  ·exact .inr ⟨b,e,Nat.le_trans h.size hb⟩
theorem uD.below {v v':Value} {w w' w2:World} (h:uD v w v' w') (hb:Below w'.heap.size w' w2):uD v w v' w2:=
 ⟨hb.os.trans h.os,hb.tape.trans h.tape,hb.output.trans h.output,Nat.le_trans h.size hb.size,fun k hk hv=>(hb.block k (dP hk h.size)).trans (h.block k hk hv),h.own⟩
theorem uD.app {w w3:World} {v v':Value} {o:Obj} (hg:(w.alloc o).grownBy w3 v.ownBlock) (hat:v'.ownBlock=v.ownBlock∨v'.ownBlock=some (w.alloc o).heap.size):uD v w v' w3:=
 ⟨hg.os,hg.tape,hg.output,Nat.le_trans (by simp) hg.size,fun k hk hv=>(hg.block k (by simp;omega) hv).trans (Below.heap_alloc w o k hk),hat.elim .inl fun e=> .inr ⟨_,e,by simp⟩⟩
theorem uD.uX {lo:Nat} {v v':Value} {w w':World} (h:uD v w v' w') (hv:∀g,v.ownBlock=some g→lo≤g) (hlo:lo≤w.heap.size):Below lo w w':=
 ⟨h.os,h.tape,h.output,h.size,fun k hk=>h.block k (by omega) (fun e=>by have:=hv k e.symm;omega)⟩
def XQ (lo:Nat) (v:Value) (w:World) (bs:List UInt8) (e:Ending) (w':World):Prop:=∃A n c,bs.length=n∧e= .returned (.slice A n c)∧nH lo w' A n c bs∧uD v w (.slice A n c) w'
theorem nH.base {lo n c:Nat} {w:World} {A:Option Addr} {bs:List UInt8} (h:nH lo w A n c bs):∀g,(Value.slice A n c).ownBlock=some g→lo≤g:=fun g hg=>(World.ownsRow.lt h g hg).1
theorem nH.below {lo n c:Nat} {w w':World} {A:Option Addr} {bs:List UInt8} (h:nH lo w A n c bs) (hb:Below w.heap.size w w'):nH lo w' A n c bs:=
 World.ownsRow.kept (row:=none) h ⟨hb.os,hb.tape,hb.output,hb.size,fun k hk _=>hb.block k hk⟩ (by cases (Value.slice A n c).ownBlock<;>simp)
theorem nH.lower {lo lo' n c:Nat} {w:World} {A:Option Addr} {bs:List UInt8} (h:nH lo w A n c bs) (hl:lo'≤lo):nH lo' w A n c bs:=by
 rcases h.2 with h2|⟨g,cap,cur,h1,h2,h3⟩
 ·exact ⟨h.1, .inl h2⟩
 ·exact ⟨h.1, .inr ⟨g,cap,cur,h1,Nat.le_trans hl h2,h3⟩⟩
theorem PG (z:Int) (j:Nat) (hj:j<8):Value.int .u8 (IntKind.u64.wrap z / 2 ^ (8*j)%256)=Extern.Stop.cell (byteOf (jP z j)):=by
 rw [dF];have h:j=0∨j=1∨j=2∨j=3∨j=4∨j=5∨j=6∨j=7:=by omega
 congr 1;rw [show IntKind.u64.wrap z=z%18446744073709551616 by simp [IntKind.wrap,IntKind.bits,IntKind.signed]];rcases h with rfl|rfl|rfl|rfl|rfl|rfl|rfl|rfl<;>simp only [jP]
 ·show z%18446744073709551616 / 1%256=_;omega
 ·show z%18446744073709551616 / 256%256=_;omega
 ·show z%18446744073709551616 / 65536%256=_;omega
 ·show z%18446744073709551616 / 16777216%256=_;omega
 ·show z%18446744073709551616 / 4294967296%256=_;omega
 ·show z%18446744073709551616 / 1099511627776%256=_;omega
 ·show z%18446744073709551616 / 281474976710656%256=_;omega
 ·show z%18446744073709551616 / 72057594037927936%256=_;omega
theorem wF (x:Int):∀u∈ [Value.int .u8 x],u.oneCell'=true:=fun u hu=>by rw [List.mem_singleton.1 hu];rfl
def Oh (b:Bool):Int:=if b=true then 1 else 0
def NRel (lo:Nat) (v:Value) (w:World) (bs:List UInt8) (z:Int) (s:Nat) (b i:Value) (wr:World):Prop:=
 ∃(k n c:Nat) (A:Option Addr),k≤s∧b= .slice A n c∧i= .int .i64 k∧(bs++le z k).length=n∧nH lo wr A n c (bs++le z k)∧uD v w (.slice A n c) wr
theorem dQ (lo n c s:Nat) (A:Option Addr) (bs:List UInt8) (z:Int) (w:World) (hl:bs.length=n) (hn:n≤1000000) (hs:s≤8) (hz:fits z) (hlo:lo≤w.heap.size) (hO:nH lo w A n c bs):
  Calls Tryz.prog 65 #[.slice A n c,I z,I s] w (XQ lo (.slice A n c) w (bs++le z s)):=by
 obtain ⟨i0,hi,hz0,hz1,hz2⟩:=info_parts kF;have HI:=ae hi;have HZ0:=ae hz0;have HZ1:=ae hz1;have HZ2:=ae hz2;have HO:=ae hO;have HL:=ae hl;have HFZ:=ae hz;clear hi hz0 hz1 hz2 hO hl hz;go_enter Tryz.func65,Tryz.ntmps65;go_wp2_with fail
 go_loopw [0,8] (fun b i wr=>NRel lo (.slice A n c) w bs z s b i wr) (fun _ i _=>s - (intOf i).toNat)
 case atStart=>exact ⟨0,n,c,A,Nat.zero_le _,rfl,by go_num,by simpa [le] using HL.out,by simpa [le] using HO.out,uD.refl _ _⟩
 case round=>
  obtain ⟨k,n2,c2,A2,hk,rfl,rfl,hl2,ho2,hb2⟩:=hrel;have HB2:=ae hb2;have hsz:lo≤wr.heap.size:=Nat.le_trans hlo hb2.size;have hn2:n2≤1000008:=by rw [←hl2,aZ,aF,HL.out];omega
  by_cases hlt:(k:Int)<(s:Int)
  ·have uZ:=ae (PG z k (by omega));have NP:=ae (World.ownsRow.alloc ho2 (.cells #[Value.int .u8 (IntKind.u64.wrap z / 2 ^ (8*k)%256)] 5));have HL2:=ae hl2;obtain ⟨b2,hbb2⟩:∃b,bs++le z k=b:=⟨_,rfl⟩;rw [hbb2] at NP HL2;have O3:=ae hbb2;clear hb2 ho2 hl2 hbb2;go_wp2_with (at_builtin;go_must (refine wpList_append_own_at _ rfl _ _ 32 rfl lo 5 i0 (.int .u8 0) 1 1 Tryz.underlying32 HI.out HZ0.out HZ1.out HZ2.out rfl (by decide) _ n2 (b2.map Extern.Stop.cell) rfl NP.out _ 1 1 [Value.int .u8 (IntKind.u64.wrap z / 2 ^ (8*k)%256)] rfl rfl (cell_one_new _ _ _) (wF _) (by unfold maxLen;omega) (by omega) (by simp;omega) ?_));intro v' w3 hown hg _ hat;have HW3:=ae (HB2.out.trans (uD.app hg (hat.imp id fun e=>e.trans (by simp))));obtain ⟨A',c',rfl⟩:=dG hown;have HOW:Hid (nH lo w3 A' (n2+1) c' (bs++le z (k+1))):=ae (by
    unfold nH;rw [Gl,←List.append_assoc,O3.out,List.map_append];show World.ownsRow _ _ _ _ _ _ (_++ [Extern.Stop.cell _]);rw [←uZ.out];exact hown)
   clear hown hg hat;go_wp2_with fail;go_roundw
   case rel=>exact ⟨k+1,n2+1,c',A',by omega,rfl,by go_num,by have:=HL2.out;rw [←O3.out] at this;rw [Gl,←List.append_assoc,aZ,this];rfl,HOW.out,HW3.out⟩
   case measure=>simp [intOf];omega
  ·have HKS:Hid (k=s):=ae (by omega);have pI:=ae ho2;have HL2:=ae hl2;clear ho2 hl2 hb2;go_wp2_with fail;go_ret;exact ⟨_,n2,_,by rw [←HKS.out];exact HL2.out,rfl,by rw [←HKS.out];exact pI.out,HB2.out⟩
theorem flag_r (b:Bool) (w:World):Calls Tryz.prog 112 #[.bool b] w fun e w'=>e= .returned (I (Oh b))∧w'=w:=by
 cases b
 all_goals
  go_enter Tryz.func112,Tryz.ntmps112;go_wp2_with fail;go_ret;exact ⟨rfl,rfl⟩
theorem uD.app0 {w w3:World} {v v':Value} (hg:w.grownBy w3 v.ownBlock) (hat:v'.ownBlock=v.ownBlock∨v'.ownBlock=some w.heap.size):uD v w v' w3:=
 ⟨hg.os,hg.tape,hg.output,hg.size,fun k hk hv=>hg.block k hk hv,hat.imp id fun e=>⟨_,e,Nat.le_refl _⟩⟩
theorem uD.jc {w w':World} {v:Value} (h:uD (.slice none 0 0) w v w'):Below w.heap.size w w':=h.uX (fun g hg=>by cases hg) (Nat.le_refl _)
theorem jk {ops:Array Oper} {rest:List Oper} {o:Oper} {a:Act} {Q:Exit→Act→World→Prop} {w:World} (hgd:o.guard=none) (sl x:Operand)
  (ho:o.op= .call {callee:= .builtin .append,args:= #[sl,x],argTypes:= #[32,32]}) (lo n c:Nat) (A:Option Addr) (bs:List UInt8) (hs:a.eval sl= .slice A n c) (hown:nH lo w A n c bs)
  (B:Nat) (A2:Option Addr) (m c2:Nat) (ds:List UInt8) (hx:a.eval x= .slice A2 m c2) (hl:ds.length=m) (hm:0<m) (hc:aA w B A2 (ds.map Extern.Stop.cell)) (hlen:n+m≤1000000000) (hbase:lo≤w.heap.size)
  (h:∀A' c' w',nH lo w' A' (n+m) c' (bs++ds)→uD (.slice A n c) w (.slice A' (n+m) c') w'→wpList Tryz.prog ops Q rest (a.put o.dst (.slice A' (n+m) c')) w'):wpList Tryz.prog ops Q (o::rest) a w:=by
 obtain ⟨i0,hi,hz0,hz1,hz2⟩:=info_parts kF;obtain ⟨b,off,rfl,_,hcl⟩:=hc.there (by rw [List.length_map];omega);refine wpList_append_own_at _ hgd sl x 32 ho lo 5 i0 (.int .u8 0) 1 1 Tryz.underlying32 hi hz0 hz1 hz2 rfl (by decide) _ n (bs.map Extern.Stop.cell) hs hown ⟨b,off,none⟩ m c2 (ds.map Extern.Stop.cell) hx (by rw [List.length_map];omega) (fun j u hu=>by rw [show (⟨b,off,none⟩:Addr).add j=⟨b,off+j,none⟩ by unfold Addr.add;split<;>simp_all];exact hcl j u hu)
  (fun u hu=>by obtain ⟨y,_,rfl⟩:=List.mem_map.1 hu;rfl) (by unfold maxLen;omega) (by omega) hbase ?_
 intro v' w' hown' hg _ hat;obtain ⟨A',c',rfl⟩:=dG hown';exact h A' c' w' (by unfold nH;rw [List.map_append];exact hown') (uD.app0 hg hat)
structure V2 (w:World) (t:TypeId) (cs:Array Value) (t2:TypeId) (ds:Array Value) (W:World):Prop where
 s:AV w.heap.size t cs W
 r:AV (w.heap.size+1) t2 ds W
 lo:Below w.heap.size w W
theorem V2.start (w:World) (t:TypeId) (cs:Array Value) (t2:TypeId) (ds:Array Value):V2 w t cs t2 ds ((w.alloc (.cells cs t)).alloc (.cells ds t2)):=
 ⟨⟨heap_alloc2_old w _ _⟩,⟨heap_alloc2_new w _ _⟩,ah (ag w _) (ag _ _)⟩
theorem V2.IU {w W W':World} {t t2:TypeId} {cs ds:Array Value} {L:Nat} (h:V2 w t cs t2 ds W) (hb:Below L W W') (hL:w.heap.size+1<L):V2 w t cs t2 ds W':=
 ⟨⟨(hb.block _ (by omega)).trans h.s.var⟩,⟨(hb.block _ (by omega)).trans h.r.var⟩,h.lo.trans (hb.mono (by omega))⟩
theorem V2.grow {w W W':World} {t t2:TypeId} {cs ds:Array Value} (h:V2 w t cs t2 ds W) (hb:Below W.heap.size W W'):V2 w t cs t2 ds W':=h.IU hb h.r.lt
theorem Jo (KR:List Int) (hK:KR.length=64) (w:World) (hG:fD w 0 (au KR)) (bs:List UInt8) (hb0:0<bs.length) (hlen:bs.length≤1000000000) (ab off c:Nat) (hla:ab<w.heap.size) (hby:∀j,j<bs.length→w.cell? ⟨ab,off+j,none⟩=some (Extern.Stop.cell (bs[j]?.getD 0))):
  Calls Tryz.prog 12 #[.slice (some ⟨ab,off,none⟩) bs.length c] w (Gives (.agg (cellsB (fH KR bs))) w):=by
 obtain ⟨W1,hW1⟩:∃W,(w.alloc (.cells (cellsB z32) 23)).alloc (.cells #[.slice (some ⟨ab,off,none⟩) bs.length c] 32)=W:=⟨_,rfl⟩;have hs1:W1.heap.size=w.heap.size+2:=by rw [←hW1];simp
 have hb1:Below w.heap.size w W1:=by rw [←hW1];exact ((Below.refl _ w).alloc (Nat.le_refl _) _).alloc (by simp) _
 have hr1:W1.heap[w.heap.size]? =some (.cells (cellsB z32) 23 (0,0)):=by rw [←hW1];exact heap_alloc2_old w _ _
 have hp1:W1.heap[w.heap.size+1]? =some (.cells #[.slice (some ⟨ab,off,none⟩) bs.length c] 32 (0,0)):=by rw [←hW1];exact heap_alloc2_new w _ _
 have HC:Hid (Calls Tryz.prog 31 #[.slice (some ⟨w.heap.size+1,0,none⟩) 1 1] W1 fun e w'=>e= .returned (.agg (cellsB (fH KR bs)))∧Below W1.heap.size W1 w'):=
  ae (Tc KR hK W1 ⟨dP hG.1 hb1.size,fun i=>(hb1.cell (p:=⟨0,i,none⟩) hG.1).trans (hG.2 i)⟩ bs hb0 hlen (w.heap.size+1) ab off c (cell_of_row _ _ 0 _ _ _ hp1) (by omega) (by omega) fun j hj=>(hb1.cell (p:=⟨ab,off+j,none⟩) hla).trans (hby j hj))
 have HW1:=ae hW1;have HB1:=ae hb1;have HR1:=ae hr1;have dR:Hid ((Tryz.prog.info? 23).map (·.size)=some (cellsB (fH KR bs)).size):=ae (by rw [cu,dV];kernel_rfl);have Af:Hid ((cellsB z32).size=(cellsB (fH KR bs)).size):=ae (by rw [cu,cu,dV];rfl);obtain ⟨N,hN⟩:∃N,bs.length=N:=⟨_,rfl⟩;rw [hN] at HW1 ⊢;clear hs1 hb1 hr1 hp1 hW1 hby hG hK hN;go_enter Tryz.func12,Tryz.ntmps12;go_wp2_with (first
  |(refine aH rfl _ rfl (cellsB z32) ik ?_)
  |(go_at_call 31;rw [HW1.out];refine HC.out.mono ?_;rintro e w2 ⟨rfl,hb2⟩;have HB2:=ae hb2;have HR2:Hid (w2.heap[w.heap.size]? =some (.cells (cellsB z32) 23 (0,0))):=ae ((hb2.block _ (bT.1 HR1.out).1).trans HR1.out);clear hb2)
  |(with_reducible refine g_st 23 ?_;refine wpList_store_row rfl _ _ _ rfl w.heap.size (cellsB (fH KR bs)) rfl rfl 23 (cellsB z32) HR2.out dR.out Af.out (jH _) ?_))
 refine bodyPost_ret (v:= .agg (cellsB (fH KR bs))) (results_cell_row rfl _ _ w.heap.size _ (cellsB (fH KR bs)) (0,0) _ rfl (setRow_heap _ _ _ _ _ _ HR2.out) Tryz.underlying23 rfl dR.out) rfl ?_;exact ⟨rfl,below_setRow (HB1.out.trans (HB2.out.mono HB1.out.size)) (Nat.le_refl _) _⟩
theorem wB {lo:Nat} {w:World} {g n c:Nat} {bs:List UInt8} (h:w.ownsRow lo 5 1 (.slice (some ⟨g,0,none⟩) n c) n (bs.map Extern.Stop.cell)) (j:Nat) (hj:j<bs.length):w.cell? ⟨g,0+j,none⟩=some (Extern.Stop.cell (bs[j]?.getD 0)):=by
 have h2:=h.cells (g:=g) rfl j (Extern.Stop.cell (bs[j]?.getD 0)) (by rw [List.getElem?_map,bZ hj];rfl);rw [addr_add] at h2;rw [Nat.zero_add];exact h2
theorem PV (KR:List Int) (hK:KR.length=64) (w:World) (hG:fD w 0 (au KR)) (hw1:0<w.heap.size) (t:Tb) (A:Option Addr) (n c:Nat) (zs:List dB) (h:VH t) (hzz:t.aK=zs.map (·.e)) (hn:zs.length=n) (hA:lW w w.heap.size A zs) (hup:jv zs):
  Calls Tryz.prog 46 #[.agg (ai t (.slice A n c))] w (Gives (.tuple #[.agg (cellsB (fH KR (mQ t++t.bn))), .bool true]) w):=by
 have HF:=ae h;have HK:=ae hK;have HG:=ae hG;have dR:Hid (∀v,(Tryz.prog.info? 37).map (·.size)=some (ai t v).size):=ae fun v=>bU t v h.prev h.bn;have uZ:Hid (∀W,Below w.heap.size w W→Calls Tryz.prog 9 #[.agg (ai t (.slice A n c))] W (Bj W (mQ t))):=ae fun W hb=>nS t A n c zs W h hzz hn (hA.grow hb) hup;have H0:=ae (V2.start w 37 (ai t (.slice A n c)) 23 (cellsB z32));obtain ⟨D,hD⟩:∃D,fH KR (mQ t++t.bn)=D:=⟨_,rfl⟩;have hd32:D.length=32:=by rw [←hD];exact dV _ _
 rw [hD];have HD:=ae hD;have HD32:=ae hd32;have Q4:Hid ((cellsB z32).size=(cellsB D).size):=ae (by rw [cu,cu,hd32];rfl);have yR:=ae (uK t h);obtain ⟨N,hN⟩:∃N,(mQ t).length=N:=⟨_,rfl⟩;have HN:=ae hN;clear h hzz hn hA hup hK hG hD hd32 hN;go_enter Tryz.func46,Tryz.ntmps46;go_upto_region 1 with (first
  |((with_reducible refine bC 23 ?_);go_must (refine aH rfl _ rfl (cellsB z32) ik ?_)))
 generalize (w.alloc (.cells (ai t (.slice A n c)) 37)).alloc (.cells (cellsB z32) 23)=W0 at H0 ⊢;go_wp2_with ((with_reducible refine fU 37 ?_);go_must (refine aT rfl _ _ rfl w.heap.size rfl (ai t (.slice A n c)) H0.out.s.iY _ Tryz.underlying37 rfl (dR.out _) ?_));refine (uZ.out W0 H0.out.lo).mono ?_;rintro e w1 ⟨⟨g1,c1,rfl,o1⟩,b1⟩;have h1:=H0.out.grow b1;have H1:=ae h1;have hw0:=H0.out.r.lt;have hs1:W0.heap.size≤w1.heap.size:=b1.size;rw [HN.out] at o1 ⊢;have Aa:Hid (nH W0.heap.size w1 (some ⟨g1,0,none⟩) N c1 (mQ t)):=ae o1;have hn1:N≤18000:=by rw [←HN.out];exact yR.out.2
 have wL:Hid (aA w1 w1.heap.size (some ⟨w.heap.size,36,none⟩) (t.bn.map Extern.Stop.cell)):=ae (.inr ⟨w.heap.size,36,rfl,by have:=h1.r.lt;omega,yD t (.slice A n c) (Row.jm h1.s.var) HF.out.prev⟩);clear o1 b1 h1 H0 uZ;go_wp2_with (at_builtin;go_must (refine jk rfl _ _ rfl W0.heap.size N c1 (some ⟨g1,0,none⟩) (mQ t) rfl Aa.out _ (some ⟨w.heap.size,36,none⟩) 32 32 t.bn rfl HF.out.bn (by omega) wL.out (by omega) hs1 ?_));intro A3 c3 w3 o3 k3;have h3:=H1.out.IU (k3.uX Aa.out.base hs1) hw0;have H3:=ae h3;obtain ⟨g3,c4,hv3,hg3⟩:=dE (show w3.ownsRow _ _ 1 (.slice A3 (N+32) c3) (N+32) _ from o3) (by omega);injection hv3 with e1 _ e3;subst e1 e3;have HS:Hid (Calls Tryz.prog 12 #[.slice (some ⟨g3,0,none⟩) (N+32) c3] w3 (Gives (.agg (cellsB D)) w3)):=ae (by
  have hl:(mQ t++t.bn).length=N+32:=by rw [aZ,HN.out,HF.out.bn]
  have:=Jo KR HK.out w3 (HG.out.via h3.lo hw1) (mQ t++t.bn) (by omega) (by omega) g3 0 c3 hg3 (wB o3);rw [hl,HD.out] at this;exact this)
 clear o3 k3 h3 H1 Aa wL;go_wp2_with fail;refine HS.out.mono ?_;rintro e w4 ⟨rfl,hb4⟩;have H4:=ae (H3.out.grow hb4);clear H3 HS hb4 hg3;go_wp2_with ((with_reducible refine eF 23 ?_);go_must (refine wpList_store_row rfl _ _ _ rfl (w.heap.size+1) (cellsB D) rfl rfl 23 (cellsB z32) H4.out.r.var (lG D HD32.out) Q4.out (jH _) ?_));refine bodyPost_ret (v:= .tuple #[.agg (cellsB D), .bool true]) (bK rfl _ _ (w.heap.size+1) _ (cellsB D) (0,0) _ rfl (setRow_heap _ _ _ _ _ _ H4.out.r.var) Tryz.underlying23 rfl (lG D HD32.out) _ rfl) rfl ?_;exact ⟨rfl,aB H4.out.lo (Nat.le_succ _) _⟩
theorem Ap (w:World) (r r':List UInt8) (h:r.length=32) (h':r'.length=32):
  (binOp .neq 23 (.agg (aj r).toArray) (.agg (aj r').toArray)).run Tryz.prog w= .ok (.bool (!(r==r'))) w:=by
 unfold aj;rw [run_neq_struct,run_equalIn_bytes w 9998 23 5 32 Tryz.underlying23 Tryz.underlying5 (fun w=>Aq w) r r' h h'];rfl
def kK (KR:List Int) (key:List UInt8) (ts:List bI) (t:Tb):Int:=
 if (!(t.bn==sN KR key (mQ t)))=true then 8 else if¬t.version=(ts.length:Int)+1 then 9 else
  match ts[ts.length - 1]? with
  |none=>0
  |some x=>if (!(fH KR (mQ x.t++x.t.bn)==t.prev))=true then 9 else if¬x.t.aP=t.aP then 9 else 0
def jr (x:bI):Prop:=VH x.t∧jv x.zs
theorem Bv (KR:List Int) (hK:KR.length=64) (w:World) (hG:fD w 0 (au KR)) (hw1:0<w.heap.size) (key:List UInt8) (hk:key.length=32) (t:Tb) (A:Option Addr) (n c:Nat) (zs:List dB) (h:VH t) (hzz:t.aK=zs.map (·.e)) (hn:zs.length=n) (hA:lW w w.heap.size A zs) (hup:jv zs)
  (C:Option Addr) (m cc:Nat) (ts:List bI) (hm:ts.length=m) (hm1:m<64) (hC:gq w w.heap.size C ts) (hT:∀x∈ts,jr x) (r:Int) (hr:kK KR key ts t=r):
  Calls Tryz.prog 28 #[.slice C m cc, .agg (cellsB key), .agg (ai t (.slice A n c))] w (Gives (I r) w):=by
 have HF:=ae h;have HK:=ae hK;have HG:=ae hG;have HKY:=ae hk;have kH:=ae hm;have dR:Hid (∀v,(Tryz.prog.info? 37).map (·.size)=some (ai t v).size):=ae fun v=>bU t v h.prev h.bn;have uZ:Hid (∀W,Below w.heap.size w W→Calls Tryz.prog 9 #[.agg (ai t (.slice A n c))] W (Bj W (mQ t))):=ae fun W hb=>nS t A n c zs W h hzz hn (hA.grow hb) hup;have HLK:Hid (∀x,x∈ts→∀W,Below w.heap.size w W→Calls Tryz.prog 46 #[.agg x.cells.toArray] W (Gives (.tuple #[.agg (cellsB (fH KR (mQ x.t++x.t.bn))), .bool true]) W)):=ae fun x hx W hb=>
  PV KR hK W (hG.via hb hw1) (dP hw1 hb.size) x.t x.A x.zs.length x.c x.zs (hT x hx).1 (hC.each x hx).names rfl ((hC.each x hx).aK.grow hb) (hT x hx).2
 have H0:=ae (V2.start w 23 (cellsB key) 37 (ai t (.slice A n c)));obtain ⟨M,hM⟩:∃M,sN KR key (mQ t)=M:=⟨_,rfl⟩;have yx:M.length=32:=by rw [←hM];exact ug _ _ _
 have HM:=ae hM;have xX:=ae yx;obtain ⟨b,hb⟩:∃b,(!(t.bn==M))=b:=⟨_,rfl⟩;have HB0:=ae hb;have HQ:Hid (∀W,(binOp .neq 23 (.agg (aj t.bn).toArray) (.agg (aj M).toArray)).run Tryz.prog W= .ok (.bool b) W):=ae fun W=>by rw [Ap W _ _ h.bn yx,hb]
 have yR:=ae (uK t h);have HR:=ae hr;have HC:=ae hC;obtain ⟨N,hN⟩:∃N,(mQ t).length=N:=⟨_,rfl⟩;have HN:=ae hN;have HKC:Hid (∀W lo g c2,Below w.heap.size w W→W.ownsRow lo 5 1 (.slice (some ⟨g,0,none⟩) N c2) N ((mQ t).map Extern.Stop.cell)→Calls Tryz.prog 10 #[.agg (aj key).toArray, .slice (some ⟨g,0,none⟩) N c2] W (Gives (.agg (aj M).toArray) W)):=ae fun W lo g c2 hb ho=>by
  have hl:=uK t h;have h1:=LU KR hK W (hG.via hb hw1) key (mQ t) hk (by omega) (by omega) g 0 c2 (Gs ho).1 (wB ho);rw [hM,hN] at h1;exact h1
 have i0:¬(64:Int)≤(m:Int):=by omega
 clear h hzz hn hA hup hK hG hk hm hC hT hr hM yx hb hN;go_enter Tryz.func28,Tryz.ntmps28;go_upto_region 1 with fail;generalize (w.alloc (.cells (cellsB key) 23)).alloc (.cells (ai t (.slice A n c)) 37)=W0 at H0 ⊢;go_wp2_with ((with_reducible refine fU 37 ?_);go_must (refine aT rfl _ _ rfl (w.heap.size+1) rfl (ai t (.slice A n c)) H0.out.r.iY _ Tryz.underlying37 rfl (dR.out _) ?_));refine (uZ.out W0 H0.out.lo).mono ?_;rintro e w1 ⟨⟨g1,c1,rfl,o1⟩,b1⟩;have h1:=H0.out.grow b1;have hw0:=H0.out.r.lt;have hs1:W0.heap.size≤w1.heap.size:=b1.size;rw [HN.out] at o1 ⊢;have hg1:=Gs o1;have zZ:=ae (HKC.out w1.drew W0.heap.size g1 c1 h1.lo.drew o1);have hS1:w1.rangeAt (w.heap.size+1) 36 (aj t.bn)∧w1.rangeAt w.heap.size 0 (aj key):=⟨yD t _ (Row.jm h1.r.var) HF.out.prev,fun j v hv=>by rw [Nat.zero_add,(Row.jm h1.s.var).2 j];simpa [cellsB] using hv⟩;have iq:Hid (w1.drew.rangeAt (w.heap.size+1) 36 (aj t.bn)∧w1.drew.rangeAt w.heap.size 0 (aj key)):=ae hS1;have H1:=ae h1;have HUD:Hid (Tryz.prog.underlying 23=some (.array 32 5)):=ae Tryz.underlying23;have HI1:Hid ((Tryz.prog.info? 23).map (·.size)=some (aj t.bn).length):=ae (by have:=lG t.bn HF.out.bn;rw [this];simp [cellsB]);have HI2:Hid ((Tryz.prog.info? 23).map (·.size)=some (aj key).length):=ae (by have:=lG key HKY.out;rw [this];simp [cellsB]);clear hS1 h1 o1 b1 H0 uZ HKC;go_wp2_with fail;have hud:=HUD.out;have hi1:=HI1.out;have hi2:=HI2.out;have hq:=HQ.out;have hl1:(aj t.bn).length=32:=by simp [aj,HF.out.bn]
 have hl2':(aj key).length=32:=by simp [aj,HKY.out]
 refine wp_region_held_drew (S:=fun w'=>w'.rangeAt (w.heap.size+1) 36 (aj t.bn)∧w'.rangeAt w.heap.size 0 (aj key)) (by kernel_rfl) iq.out (fun hH=>?_);refine fC 0 (.pointer (some ⟨w.heap.size+1,36,none⟩)) 25 rfl rfl hH (fun W hW=>by go_simp) ?_;refine ax ?_;refine gI 1 _ 26 rfl rfl hH (yieldsIf_load_mid (by rfl) _ _ rfl (w.heap.size+1) 36 rfl (aj t.bn) _ (fun _ hW=>hW.1) hud rfl hi1) ?_;refine ax ?_;refine gI 2 _ 27 rfl rfl hH (yieldsIf_load_mid (by rfl) _ _ rfl w.heap.size 0 rfl (aj key) _ (fun _ hW=>hW.2) hud rfl hi2) ?_;refine ax ?_;refine fC 3 (.slice (some ⟨g1,0,none⟩) N c1) 28 rfl rfl hH (fun W hW=>by go_simp) ?_;refine ax ?_;clear hH;refine aW 4 (fun K hK=>?_);go_simp;go_at_call 10;refine zZ.out.mono ?_;rintro e w3 ⟨rfl,hb3⟩;have H3:Hid (V2 w 23 (cellsB key) 37 (ai t (.slice A n c)) w3):=ae (H1.out.grow (Below.trans ((Below.refl _ w1).drew) hb3));have jU:Hid (w3.rangeAt (w.heap.size+1) 36 (aj t.bn)∧w3.rangeAt w.heap.size 0 (aj key)):=ae ⟨aQ iq.out.1 hb3 H1.out.r.lt,aQ iq.out.2 hb3 (Nat.lt_of_succ_lt H1.out.r.lt)⟩;clear hb3;refine hK.out _ _ jU.out (fun hH=>?_);clear hK K;refine fC 5 (.bool b) 30 rfl rfl hH (fun W hW=>by go_simp) ?_;refine ax ?_;refine fC 6 (.bool b) 24 rfl rfl hH (fun W hW=>by go_simp) ?_;refine ax ?_;clear hH;refine wpAnyH_done (by kernel_rfl) ?_ _;clear jU iq H1 zZ hud hi1 hi2 hq hl1 hl2' HQ;have cv:w3.cell? ⟨w.heap.size+1,1,none⟩=some (I t.version):=((Row.jm H3.out.r.var).2 1).trans (jA _ _);cases b with
 |true=>
  have hr2:r=8:=by rw [←HR.out];unfold kK;rw [HM.out,HB0.out];rfl
  subst hr2;go_wp2_with fail;go_ret;exact ⟨rfl,H3.out.lo⟩
 |false=>
  by_cases hv:t.version=(m:Int)+1
  ·have HV:=ae hv;rw [hv] at cv;clear hv;by_cases h0:m=0
   ·have hr2:r=0:=by rw [←HR.out];unfold kK;rw [HM.out,HB0.out,kH.out,HV.out,h0,List.eq_nil_of_length_eq_zero (kH.out.trans h0)];rfl
    subst hr2;go_upto_region 11 with fail;have hz:(m:Int)=0:=by omega
    go_wp2_with fail;go_ret;exact ⟨rfl,H3.out.lo⟩
   ·obtain ⟨k,hk⟩:∃k,m=k+1:=⟨m - 1,by omega⟩;have hkl:k<ts.length:=by rw [kH.out];omega
    obtain ⟨x,hx⟩:∃x,ts[k]? =some x:=⟨_,bZ hkl⟩;have hxm:=dS hx;obtain ⟨cb,co,rfl,hcb,hTA⟩:∃b off,C=some ⟨b,off,none⟩∧b<w.heap.size∧mf w b off ts:=by
     rcases oz HC.out with h1|h1
     ·omega
     ·exact h1
    have he:Hid ((m:Int) - 1=(k:Int)):=ae (by omega);have i3:((m:Int)==0)=false:=by simp;omega
    have i4:(m==0)=false:=by simp;omega
    have i5:¬(m:Int)=0:=by omega
    have UZ:Hid (∀W,Below w.heap.size w W→W.rangeAt cb (co+k*68) x.cells):=ae fun W hb=>aQ (hTA k x hx).1 hb hcb;have xZ:Hid ((Tryz.prog.info? 37).map (·.size)=some x.cells.length):=ae (by rw [(hTA k x hx).2];kernel_rfl);have HX:=ae (HLK.out x hxm);obtain ⟨P,hP⟩:∃P,fH KR (mQ x.t++x.t.bn)=P:=⟨_,rfl⟩;have qy:P.length=32:=by rw [←hP];exact dV _ _
    have wZ:=ae qy;obtain ⟨q,hq⟩:∃q,(!(P==t.prev))=q:=⟨_,rfl⟩;have HRR:Hid (r=if q=true then 9 else if¬x.t.aP=t.aP then 9 else 0):=ae (by rw [←HR.out];unfold kK;rw [HM.out,HB0.out,kH.out,HV.out,show m - 1=k by omega,hx];simp [hP,←hq]);have lC:Hid (∀W,(binOp .neq 23 (.agg (aj P).toArray) (.agg (aj t.prev).toArray)).run Tryz.prog W= .ok (.bool q) W):=ae fun W=>by rw [Ap W _ _ qy HF.out.prev,hq]
    rw [hP] at HX;have Q4:Hid ((cellsB z32).size=(cellsB P).size):=ae (by rw [cu,cu,qy];rfl);clear hkl hx hxm hTA hP qy hq hk;go_upto_region 13 with fail;have he:=he.out;have i1:(0:Int)≤(k:Int):=by omega
    have i2:(k:Int)<(m:Int):=by omega
    clear i3 i4 i5 h0;go_wp2_with ((with_reducible refine fU 37 ?_);go_must (refine bP rfl _ _ rfl cb (co+k*68) rfl x.cells (UZ.out _ H3.out.lo) _ Tryz.underlying37 rfl xZ.out ?_));refine (HX.out w3 H3.out.lo).mono ?_;rintro e w4 ⟨rfl,hb4⟩;have h4:=H3.out.grow hb4;have H4:=ae h4;have HA4:=ae (heap_alloc_last w4 (.cells (cellsB z32) 23));clear hb4 H3 cv HX;go_wp2_with (first
     |((with_reducible refine bC 23 ?_);go_must (refine aH rfl _ rfl (cellsB z32) ik ?_))
     |((with_reducible refine eF 23 ?_);go_must (refine wpList_store_row rfl _ _ _ rfl w4.heap.size (cellsB P) rfl rfl 23 (cellsB z32) HA4.out (lG P wZ.out) Q4.out (jH _) ?_)))
    have hb5:Below w4.heap.size w4 ((w4.alloc (.cells (cellsB z32) 23)).setRow w4.heap.size (cellsB P)):=aB (ag w4 _) (Nat.le_refl _) _;have h5:((w4.alloc (.cells (cellsB z32) 23)).setRow w4.heap.size (cellsB P)).heap[w4.heap.size]? =some (.cells (cellsB P) 23 (0,0)):=setRow_heap _ _ _ _ _ _ HA4.out;have sS:Hid (((w4.alloc (.cells (cellsB z32) 23)).setRow w4.heap.size (cellsB P)).drew.rangeAt w4.heap.size 0 (aj P)∧((w4.alloc (.cells (cellsB z32) 23)).setRow w4.heap.size (cellsB P)).drew.rangeAt (w.heap.size+1) 4 (aj t.prev)∧
      ((w4.alloc (.cells (cellsB z32) 23)).setRow w4.heap.size (cellsB P)).drew.cell? ⟨cb,co+k*68,none⟩=some (I x.t.aP)∧((w4.alloc (.cells (cellsB z32) 23)).setRow w4.heap.size (cellsB P)).drew.cell? ⟨w.heap.size+1,0,none⟩=some (I t.aP)):=ae (by
     have h6:=H4.out.grow hb5;have h7:=UZ.out _ h6.lo 0 (I x.t.aP) rfl;exact ⟨fun j v hv=>by rw [Nat.zero_add];exact ((Row.jm h5).2 j).trans (by simpa [cellsB] using hv),mY t _ (Row.jm h6.r.var),h7,((Row.jm h6.r.var).2 0).trans (jy _ _)⟩)
    have pG:=ae (H4.out.grow hb5).lo;clear hb5 h5 h4;have hud:=HUD.out;have hq:=lC.out;have hi3:(Tryz.prog.info? 23).map (·.size)=some (aj P).length:=by have:=lG P wZ.out;rw [this];simp [cellsB]
    have hi4:(Tryz.prog.info? 23).map (·.size)=some (aj t.prev).length:=by have:=lG t.prev HF.out.prev;rw [this];simp [cellsB]
    have hwk:IntKind.i64.wrap (k:Int)=(k:Int):=by rw [IntKind.wrap_i64];omega
    have hl1:(aj P).length=32:=by simp [aj,wZ.out]
    have hl2:(aj t.prev).length=32:=by simp [aj,HF.out.prev]
    generalize (w4.alloc (.cells (cellsB z32) 23)).setRow w4.heap.size (cellsB P)=w5 at sS pG ⊢;refine wp_region_held_drew (S:=fun w'=>w'.rangeAt w4.heap.size 0 (aj P)∧w'.rangeAt (w.heap.size+1) 4 (aj t.prev)∧w'.cell? ⟨cb,co+k*68,none⟩=some (I x.t.aP)∧w'.cell? ⟨w.heap.size+1,0,none⟩=some (I t.aP)) (by kernel_rfl) sS.out (fun hH=>?_);cases q with
    |true=>
     have hr2:r=9:=HRR.out;subst hr2;clear HRR;refine fC 0 ( .bool true) 49 rfl rfl hH (fun W hW=>by obtain ⟨_,_,hW3,oP⟩:=hW;go_simp) ?_;refine ax ?_;refine fC 1 ( .bool false) 50 rfl rfl hH (fun W hW=>by obtain ⟨_,_,hW3,oP⟩:=hW;go_simp) ?_;refine ax ?_;refine fC 2 ( .bool false) 51 rfl rfl hH (fun W hW=>by obtain ⟨_,_,hW3,oP⟩:=hW;go_simp) ?_;refine ax ?_;refine gI 3 _ 52 rfl rfl hH (yieldsIf_load_mid (by rfl) _ _ rfl w4.heap.size 0 rfl (aj P) _ (fun _ hW=>hW.1) hud rfl hi3) ?_;refine ax ?_;refine fC 4 ( .pointer (some ⟨w.heap.size+1,4,none⟩)) 53 rfl rfl hH (fun W hW=>by obtain ⟨_,_,hW3,oP⟩:=hW;go_simp) ?_;refine ax ?_;refine gI 5 _ 54 rfl rfl hH (yieldsIf_load_mid (by rfl) _ _ rfl (w.heap.size+1) 4 rfl (aj t.prev) _ (fun _ hW=>hW.2.1) hud rfl hi4) ?_;refine ax ?_;refine fC 6 ( .bool true) 55 rfl rfl hH (fun W hW=>by obtain ⟨_,_,hW3,oP⟩:=hW;go_simp) ?_;refine ax ?_;refine fC 7 ( .bool true) 56 rfl rfl hH (fun W hW=>by obtain ⟨_,_,hW3,oP⟩:=hW;go_simp) ?_;refine ax ?_;refine fC 8 ( .bool true) 57 rfl rfl hH (fun W hW=>by obtain ⟨_,_,hW3,oP⟩:=hW;go_simp) ?_;refine ax ?_;refine gI 9 undef 58 rfl rfl hH (Or.inr ⟨by rfl,rfl⟩) ?_;refine ax ?_;refine gI 10 undef 59 rfl rfl hH (Or.inr ⟨by rfl,rfl⟩) ?_;refine ax ?_;refine gI 11 undef 60 rfl rfl hH (Or.inr ⟨by rfl,rfl⟩) ?_;refine ax ?_;refine gI 12 undef 61 rfl rfl hH (Or.inr ⟨by rfl,rfl⟩) ?_;refine ax ?_;refine gI 13 undef 62 rfl rfl hH (Or.inr ⟨by rfl,rfl⟩) ?_;refine ax ?_;refine gI 14 undef 63 rfl rfl hH (Or.inr ⟨by rfl,rfl⟩) ?_;refine ax ?_;refine gI 15 undef 64 rfl rfl hH (Or.inr ⟨by rfl,rfl⟩) ?_;refine ax ?_;refine gI 16 undef 65 rfl rfl hH (Or.inr ⟨by rfl,rfl⟩) ?_;refine ax ?_;refine gI 17 undef 66 rfl rfl hH (Or.inr ⟨by rfl,rfl⟩) ?_;refine ax ?_;refine fC 18 ( .bool true) 67 rfl rfl hH (fun W hW=>by obtain ⟨_,_,hW3,oP⟩:=hW;go_simp) ?_;refine ax ?_;clear hH;refine wpAnyH_done (by kernel_rfl) ?_ _;clear hud hi3 hi4 hq hl1 hl2;go_wp2_with fail;go_ret;exact ⟨rfl,pG.out.drew⟩
    |false=>
     by_cases hs:x.t.aP=t.aP
     ·have hr2:r=0:=HRR.out.trans (by simp [hs]);subst hr2;clear HRR;refine fC 0 ( .bool true) 49 rfl rfl hH (fun W hW=>by obtain ⟨_,_,hW3,oP⟩:=hW;go_simp) ?_;refine ax ?_;refine fC 1 ( .bool false) 50 rfl rfl hH (fun W hW=>by obtain ⟨_,_,hW3,oP⟩:=hW;go_simp) ?_;refine ax ?_;refine fC 2 ( .bool false) 51 rfl rfl hH (fun W hW=>by obtain ⟨_,_,hW3,oP⟩:=hW;go_simp) ?_;refine ax ?_;refine gI 3 _ 52 rfl rfl hH (yieldsIf_load_mid (by rfl) _ _ rfl w4.heap.size 0 rfl (aj P) _ (fun _ hW=>hW.1) hud rfl hi3) ?_;refine ax ?_;refine fC 4 ( .pointer (some ⟨w.heap.size+1,4,none⟩)) 53 rfl rfl hH (fun W hW=>by obtain ⟨_,_,hW3,oP⟩:=hW;go_simp) ?_;refine ax ?_;refine gI 5 _ 54 rfl rfl hH (yieldsIf_load_mid (by rfl) _ _ rfl (w.heap.size+1) 4 rfl (aj t.prev) _ (fun _ hW=>hW.2.1) hud rfl hi4) ?_;refine ax ?_;refine fC 6 ( .bool false) 55 rfl rfl hH (fun W hW=>by obtain ⟨_,_,hW3,oP⟩:=hW;go_simp) ?_;refine ax ?_;refine fC 7 ( .bool false) 56 rfl rfl hH (fun W hW=>by obtain ⟨_,_,hW3,oP⟩:=hW;go_simp) ?_;refine ax ?_;refine fC 8 ( .bool false) 57 rfl rfl hH (fun W hW=>by obtain ⟨_,_,hW3,oP⟩:=hW;go_simp) ?_;refine ax ?_;refine fC 9 ( .slice (some ⟨cb,co,none⟩) m cc) 58 rfl rfl hH (fun W hW=>by obtain ⟨_,_,hW3,oP⟩:=hW;go_simp) ?_;refine ax ?_;refine fC 10 (I m) 59 rfl rfl hH (fun W hW=>by obtain ⟨_,_,hW3,oP⟩:=hW;go_simp) ?_;refine ax ?_;refine fC 11 (I k) 60 rfl rfl hH (fun W hW=>by obtain ⟨_,_,hW3,oP⟩:=hW;go_simp) ?_;refine ax ?_;refine fC 12 ( .pointer (some ⟨cb,co+k*68,none⟩)) 61 rfl rfl hH (fun W hW=>by obtain ⟨_,_,hW3,oP⟩:=hW;go_simp) ?_;refine ax ?_;refine fC 13 ( .pointer (some ⟨cb,co+k*68,none⟩)) 62 rfl rfl hH (fun W hW=>by obtain ⟨_,_,hW3,oP⟩:=hW;go_simp) ?_;refine ax ?_;refine fC 14 (I x.t.aP) 63 rfl rfl hH (fun W hW=>by obtain ⟨_,_,hW3,oP⟩:=hW;go_simp) ?_;refine ax ?_;refine fC 15 ( .pointer (some ⟨w.heap.size+1,0,none⟩)) 64 rfl rfl hH (fun W hW=>by obtain ⟨_,_,hW3,oP⟩:=hW;go_simp) ?_;refine ax ?_;refine fC 16 (I t.aP) 65 rfl rfl hH (fun W hW=>by obtain ⟨_,_,hW3,oP⟩:=hW;go_simp) ?_;refine ax ?_;refine fC 17 ( .bool false) 66 rfl rfl hH (fun W hW=>by obtain ⟨_,_,hW3,oP⟩:=hW;go_simp) ?_;refine ax ?_;refine fC 18 ( .bool false) 67 rfl rfl hH (fun W hW=>by obtain ⟨_,_,hW3,oP⟩:=hW;go_simp) ?_;refine ax ?_;clear hH;refine wpAnyH_done (by kernel_rfl) ?_ _;clear hud hi3 hi4 hq hl1 hl2;go_wp2_with fail;go_ret;exact ⟨rfl,pG.out.drew⟩
     ·have hr2:r=9:=HRR.out.trans (by simp [hs]);subst hr2;clear HRR;refine fC 0 ( .bool true) 49 rfl rfl hH (fun W hW=>by obtain ⟨_,_,hW3,oP⟩:=hW;go_simp) ?_;refine ax ?_;refine fC 1 ( .bool false) 50 rfl rfl hH (fun W hW=>by obtain ⟨_,_,hW3,oP⟩:=hW;go_simp) ?_;refine ax ?_;refine fC 2 ( .bool false) 51 rfl rfl hH (fun W hW=>by obtain ⟨_,_,hW3,oP⟩:=hW;go_simp) ?_;refine ax ?_;refine gI 3 _ 52 rfl rfl hH (yieldsIf_load_mid (by rfl) _ _ rfl w4.heap.size 0 rfl (aj P) _ (fun _ hW=>hW.1) hud rfl hi3) ?_;refine ax ?_;refine fC 4 ( .pointer (some ⟨w.heap.size+1,4,none⟩)) 53 rfl rfl hH (fun W hW=>by obtain ⟨_,_,hW3,oP⟩:=hW;go_simp) ?_;refine ax ?_;refine gI 5 _ 54 rfl rfl hH (yieldsIf_load_mid (by rfl) _ _ rfl (w.heap.size+1) 4 rfl (aj t.prev) _ (fun _ hW=>hW.2.1) hud rfl hi4) ?_;refine ax ?_;refine fC 6 ( .bool false) 55 rfl rfl hH (fun W hW=>by obtain ⟨_,_,hW3,oP⟩:=hW;go_simp) ?_;refine ax ?_;refine fC 7 ( .bool false) 56 rfl rfl hH (fun W hW=>by obtain ⟨_,_,hW3,oP⟩:=hW;go_simp) ?_;refine ax ?_;refine fC 8 ( .bool false) 57 rfl rfl hH (fun W hW=>by obtain ⟨_,_,hW3,oP⟩:=hW;go_simp) ?_;refine ax ?_;refine fC 9 ( .slice (some ⟨cb,co,none⟩) m cc) 58 rfl rfl hH (fun W hW=>by obtain ⟨_,_,hW3,oP⟩:=hW;go_simp) ?_;refine ax ?_;refine fC 10 (I m) 59 rfl rfl hH (fun W hW=>by obtain ⟨_,_,hW3,oP⟩:=hW;go_simp) ?_;refine ax ?_;refine fC 11 (I k) 60 rfl rfl hH (fun W hW=>by obtain ⟨_,_,hW3,oP⟩:=hW;go_simp) ?_;refine ax ?_;refine fC 12 ( .pointer (some ⟨cb,co+k*68,none⟩)) 61 rfl rfl hH (fun W hW=>by obtain ⟨_,_,hW3,oP⟩:=hW;go_simp) ?_;refine ax ?_;refine fC 13 ( .pointer (some ⟨cb,co+k*68,none⟩)) 62 rfl rfl hH (fun W hW=>by obtain ⟨_,_,hW3,oP⟩:=hW;go_simp) ?_;refine ax ?_;refine fC 14 (I x.t.aP) 63 rfl rfl hH (fun W hW=>by obtain ⟨_,_,hW3,oP⟩:=hW;go_simp) ?_;refine ax ?_;refine fC 15 ( .pointer (some ⟨w.heap.size+1,0,none⟩)) 64 rfl rfl hH (fun W hW=>by obtain ⟨_,_,hW3,oP⟩:=hW;go_simp) ?_;refine ax ?_;refine fC 16 (I t.aP) 65 rfl rfl hH (fun W hW=>by obtain ⟨_,_,hW3,oP⟩:=hW;go_simp) ?_;refine ax ?_;refine fC 17 ( .bool true) 66 rfl rfl hH (fun W hW=>by obtain ⟨_,_,hW3,oP⟩:=hW;go_simp) ?_;refine ax ?_;refine fC 18 ( .bool true) 67 rfl rfl hH (fun W hW=>by obtain ⟨_,_,hW3,oP⟩:=hW;go_simp) ?_;refine ax ?_;clear hH;refine wpAnyH_done (by kernel_rfl) ?_ _;clear hud hi3 hi4 hq hl1 hl2;go_wp2_with fail;go_ret;exact ⟨rfl,pG.out.drew⟩
  ·have hr2:r=9:=by rw [←HR.out];unfold kK;rw [HM.out,HB0.out,kH.out,if_neg (by decide),if_pos hv]
   subst hr2;obtain ⟨V,hV⟩:∃V,t.version=V:=⟨_,rfl⟩;rw [hV] at cv hv;have e1:(V !=(m:Int)+1)=true:=by simp;exact hv
   clear hV;go_wp2_with fail;go_ret;exact ⟨rfl,H3.out.lo⟩
def LV (lo:Nat) (v:Value) (W:World) (A:Option Addr) (cs:List Value):Prop:=
 cs.length=0∨∃b off,A=some ⟨b,off,none⟩∧lo≤b∧b<W.heap.size∧some b≠v.ownBlock∧∀j u,cs[j]? =some u→W.cell? ⟨b,off+j,none⟩=some u
theorem LV.keep {lo:Nat} {v v':Value} {W W':World} {A:Option Addr} {cs:List Value} (h:LV lo v W A cs) (hs:W.heap.size≤W'.heap.size) (hb:∀b,lo≤b→b<W.heap.size→some b≠v.ownBlock→W'.heap[b]? =W.heap[b]? ∧some b≠v'.ownBlock):LV lo v' W' A cs:=by
 rcases h with h|⟨b,off,h1,h2,h3,h4,h5⟩
 ·exact .inl h
 ·exact .inr ⟨b,off,h1,h2,by omega,(hb b h2 h3 h4).2,fun j u hu=>(World.cell?_of_block (a:=⟨b,off+j,none⟩) (hb b h2 h3 h4).1).trans (h5 j u hu)⟩
theorem LV.at {lo:Nat} {v:Value} {W:World} {A:Option Addr} {cs:List Value} (h:LV lo v W A cs):aA W W.heap.size A cs:=by
 rcases h with h|⟨b,off,h1,h2,h3,h4,h5⟩
 ·exact .inl h
 ·exact .inr ⟨b,off,h1,h3,h5⟩
def gG (lo:Nat) (v:Value) (W:World) (s:Zs) (z:Zn):Prop:=LV lo v W s.A (z.cal.az.map I)∧LV lo v W s.B (z.cal.rules.flatMap Lr.cells)∧LV lo v W s.C (z.trans.flatMap Tr.cells)∧LV lo v W s.D (z.aN.flatMap Yr.cells)
theorem gG.keep {lo:Nat} {v v':Value} {W W':World} {s:Zs} {z:Zn} (h:gG lo v W s z) (hs:W.heap.size≤W'.heap.size) (hb:∀b,lo≤b→b<W.heap.size→some b≠v.ownBlock→W'.heap[b]? =W.heap[b]? ∧some b≠v'.ownBlock):gG lo v' W' s z:=
 ⟨h.1.keep hs hb,h.2.1.keep hs hb,h.2.2.1.keep hs hb,h.2.2.2.keep hs hb⟩
theorem gG.at {lo:Nat} {v:Value} {W:World} {s:Zs} {z:Zn} (h:gG lo v W s z):jG W W.heap.size s z:=⟨h.1.at,h.2.1.at,h.2.2.1.at,h.2.2.2.at⟩
def iQ (lo:Nat) (v:Value) (W:World) (y:bI):Prop:=LV lo v W y.A (aO y.zs)∧∀z∈y.zs,gG lo v W z.s z.e.z
theorem iQ.keep {lo:Nat} {v v':Value} {W W':World} {y:bI} (h:iQ lo v W y) (hs:W.heap.size≤W'.heap.size) (hb:∀b,lo≤b→b<W.heap.size→some b≠v.ownBlock→W'.heap[b]? =W.heap[b]? ∧some b≠v'.ownBlock):iQ lo v' W' y:=
 ⟨h.1.keep hs hb,fun z hz=>(h.2 z hz).keep hs hb⟩
theorem Ar (y:bI):∀u∈y.cells,u.oneCell'=true:=by
 have h:=bz y.t y.A y.zs.length y.c;rw [Array.all_eq_true_iff_forall_mem] at h;intro u hu;exact h u (by simpa [ai,bI.cells] using hu)
theorem tabZ:(Tryz.prog.info? 37).map (fun i=>(i.zero,i.size))=some (some (.agg (ai bQ (.slice none 0 0))),(ai bQ (.slice none 0 0)).size):=by kernel_rfl
theorem WX {lo e size n c k:Nat} {w:World} {A:Option Addr} {cs:List Value} (h:w.ownsRow lo e size (.slice A n c) k cs):n≤c:=by
 rcases h.2 with ⟨hv,hn⟩|⟨g,cap,cur,hv,_,_,h1,_⟩
 ·injection hv with _ e1 e2;omega
 ·injection hv with _ e1 e2;omega
end Go.Proofs.YtdibbemgpikgjaaGreatDoor
