/- The texts Ll, Lm, Fg, Lo, Lp, in this order. -/
import Derived.Test.YtdibbemgpikgjaaGreatDoorY00
import Derived.Lib.AppendZerosOnto
import Derived.Test.YtdibbemgpikgjaaGreatDoorY40
import Derived.Test.YtdibbemgpikgjaaGreatDoorY41
set_option maxRecDepth 10000
set_option maxHeartbeats 8000000
namespace Go.Proofs.YtdibbemgpikgjaaGreatDoor
open Go Go.RowKit
attribute [local go_sem] jy jA jQ bD
theorem rU (k:Nat):Builtin.zeroCells (Value.cells (.int .u8 0)) k=(List.replicate k (Value.int .u8 0)).toArray:=by
 apply Array.ext
 ·simp [Builtin.zeroCells,Value.cells]
 ·intro i h1 h2;have e:i%1=0:=Nat.mod_one i;simp [Builtin.zeroCells,Value.cells,e]
theorem D8 (w:World) (ty:TypeId) (lo n c k:Nat) (A:Option Addr) (bs:List UInt8) (hown:nH lo w A n c bs) (h0:0<n) (hk:0<k) (hn:n+k≤1000000) (hbase:lo≤w.heap.size):
  ∃A' c' w',(Builtin.append_ #[32,3] ty #[.slice A n c, .int .i64 (k:Int)]).run Tryz.prog w= .ok (.slice A' (n+k) c') w'∧nH lo w' A' (n+k) c' (bs++List.replicate k 0)∧uD (.slice A n c) w (.slice A' (n+k) c') w':=by
 obtain ⟨i0,hi,hz0,hz1,hz2⟩:=info_parts kF;have hl:bs.length=n:=by have:=hown.1;rw [List.length_map] at this;omega
 rcases hown.2 with ⟨_,h⟩|⟨g,cap,cur,hv,hg,hh,hnc,hcm,hcs,htk⟩
 ·omega
 injection hv with hA _ hC;subst hA hC;have hcsz:cur.size=c:=by rw [hcs,Nat.mul_one]
 have hnews:(List.replicate k (Value.int .u8 0)).length=k:=List.length_replicate;have hcell:(List.replicate k (0:UInt8)).map Extern.Stop.cell=List.replicate k (Value.int .u8 0):=by rw [List.map_replicate];rfl
 by_cases hroom:n+k≤c
 ·have hst:=run_storeCells_at Tryz.prog g (n*i0.size) 5 (List.replicate k (Value.int .u8 0)) 0 cur w hh (by rw [hz1,hnews,hcsz];omega) (fun u hu=>by rw [(List.mem_replicate.1 hu).2];rfl);simp only [Nat.add_zero] at hst;have hw:IntKind.i64.wrap (k:Int)=k:=by rw [IntKind.wrap_i64];omega
  have hneg:¬((k:Int)<0):=by omega
  have hkz:¬(k*i0.size=0):=by rw [hz1];omega
  have h48:¬(281474976710656<(k:Int)*(i0.bytes:Int)):=by rw [hz2];omega
  have hrun:(Builtin.append_ #[32,3] ty #[.slice (some ⟨g,0,none⟩) n c, .int .i64 (k:Int)]).run Tryz.prog w= .ok (.slice (some ⟨g,0,none⟩) (n+k) c) (w.setRow g (cur.toList.take (n*i0.size)++List.replicate k (Value.int .u8 0)++cur.toList.drop (n*i0.size+(List.replicate k (Value.int .u8 0)).length)).toArray):=by
   simp [Builtin.append_,run_underlying Tryz.underlying32,run_underlying Tryz.underlying3,sizeOf,typeInfo,zeroValue,hi,hz0,asInt,asIntOf,hw,hneg,hkz,h48,hroom,rU,Addr.add_lit,hst]
  rw [hz1,Nat.mul_one,hnews] at hrun;rw [Nat.mul_one] at htk;refine ⟨_,_,_,hrun,⟨by rw [List.length_map,aZ,List.length_replicate,hl,Nat.mul_one], .inr ⟨g,c,_,rfl,hg,setRow_heap w g cur _ _ _ hh,hroom,hcm,?_,?_⟩⟩,⟨rfl,rfl,rfl,by simp [World.setRow],fun b _ hb=>setRow_other w g b _ (fun e=>hb (by rw [e];rfl)), .inl rfl⟩⟩
  ·simp only [List.size_toArray,aZ,List.length_take,List.length_drop,List.length_replicate,Array.length_toList];omega
  ·rw [htk,Nat.mul_one,List.map_append,hcell,List.append_assoc,←List.append_assoc];exact List.take_left' (by rw [aZ,List.length_map,List.length_replicate,hl])
 ·have holds:∀j u,(bs.map Extern.Stop.cell)[j]? =some u→w.drew.cell? ((⟨g,0,none⟩:Addr).add j)=some u:=World.ownsRow.cells hown (g:=g) rfl;have hf:=run_firstCells_some (P:=Tryz.prog) w.drew i0.size n ⟨g,0,none⟩ n c (bs.map Extern.Stop.cell) (by rw [List.length_map,hl,hz1,Nat.mul_one]) holds;have hrun:=Lib.run_append_grow_zeros (P:=Tryz.prog) w 32 3 ty 5 i0 (.int .u8 0) .i64 .i64 Tryz.underlying32 Tryz.underlying3 hi hz0 (some ⟨g,0,none⟩) n c (bs.map Extern.Stop.cell) hf k hk (by rw [hz1];omega) (by omega) (by omega) (by rw [hz2];omega) (growslice_fits (by omega) (by rw [hz2];omega));have hge:=grownCap_ge w (n+k) c 5;have hcm2:=grownCap_le_maxLen w (n+k) c 5 (by unfold maxLen;omega);refine ⟨_,_,_,hrun,⟨by rw [List.length_map,aZ,List.length_replicate,hl,Nat.mul_one], .inr ⟨w.heap.size,_,_,rfl,hbase,heap_alloc_new w.drew _,hge,hcm2,?_,?_⟩⟩,⟨rfl,rfl,rfl,by simp,fun b hb _=>heap_alloc_old w.drew _ hb, .inr ⟨w.heap.size,rfl,Nat.le_refl _⟩⟩⟩
  ·simp only [rU,Array.size_append,List.size_toArray,List.length_map,List.length_replicate,hl];omega
  ·rw [rU,rU];simp only [Array.toList_append,List.map_append,hcell];exact List.take_left' (by rw [aZ,List.length_map,List.length_replicate,hl,Nat.mul_one])
theorem qZ {ops:Array Oper} {rest:List Oper} {o:Oper} {a:Act} {Q:Exit→Act→World→Prop} {w:World} (hgd:o.guard=none) (sl x:Operand)
  (ho:o.op= .call {callee:= .builtin .append,args:= #[sl,x],argTypes:= #[32,3]}) (lo n c k:Nat) (A:Option Addr) (bs:List UInt8) (hs:a.eval sl= .slice A n c) (hx:a.eval x= .int .i64 (k:Int)) (hown:nH lo w A n c bs)
  (h0:0<n) (hk:0<k) (hn:n+k≤1000000) (hbase:lo≤w.heap.size)
  (h:∀A' c' w',nH lo w' A' (n+k) c' (bs++List.replicate k 0)→uD (.slice A n c) w (.slice A' (n+k) c') w'→wpList Tryz.prog ops Q rest (a.put o.dst (.slice A' (n+k) c')) w'):wpList Tryz.prog ops Q (o::rest) a w:=by
 obtain ⟨A',c',w',hr,h1,h2⟩:=D8 w o.type lo n c k A bs hown h0 hk hn hbase;exact Lib.wpList_append_run w hgd sl x _ _ ho _ _ hs hx _ _ hr (h A' c' w' h1 h2)
theorem Ea (A A2:Option Addr) (n c c2:Nat) (bs:List UInt8) (w:World) (hl:bs.length=n) (hn:n≤1000000) (h1:aA w w.heap.size A (bs.map Extern.Stop.cell)) (h2:aA w w.heap.size A2 (bs.map Extern.Stop.cell)):
  Calls Tryz.prog 14 #[.slice A n c, .slice A2 n c2] w (Gives (.bool true) w):=by
 have H1:=ae h1;have H2:=ae h2;have HL:=ae hl;clear h1 h2 hl;go_enter Tryz.func14,Tryz.ntmps14;go_wp2_with fail
 go_loopw [5] (fun i wr=>∃k:Nat,k≤n∧i=I k∧∃m,wr=w.drewN m) (fun i _=>n - (intOf i).toNat)
 case atStart=>exact ⟨0,Nat.zero_le _,rfl,0,rfl⟩
 case round=>
  obtain ⟨k,hk,rfl,m,rfl⟩:=hrel;by_cases hlt:(k:Int)<(n:Int)
  ·have hk2:k<n:=by omega
   obtain ⟨b,off,rfl,hb,hc⟩:=H1.out.there (by rw [List.length_map,HL.out];omega);obtain ⟨b2,xq,rfl,hb2,hc2⟩:=H2.out.there (by rw [List.length_map,HL.out];omega);obtain ⟨x,hx⟩:∃x,bs[k]? =some x:=⟨_,bZ (by rw [HL.out];exact hk2)⟩;have e1:w.cell? ⟨b,off+k,none⟩=some (.int .u8 (x.toNat:Int)):=hc k _ (by rw [List.getElem?_map,hx];rfl);have e2:w.cell? ⟨b2,xq+k,none⟩=some (.int .u8 (x.toNat:Int)):=hc2 k _ (by rw [List.getElem?_map,hx];rfl);clear hc hc2 hx;go_wp2_with fail;go_quiet (fail);go_wp2_with fail;go_roundw
   case rel=>exact ⟨k+1,by omega,by go_num,_,rfl⟩
   case measure=>simp [intOf];omega
  ·go_wp2_with fail;go_ret;exact ⟨rfl,rfl,rfl,rfl,Nat.le_refl _,fun _ _=>rfl⟩
theorem Nc (A:Option Addr) (n c:Nat) (w:World) (hn:n≤4):Calls Tryz.prog 25 #[.slice A n c,I 5] w (Gives (.tuple #[.agg (ai bQ (.slice none 0 0)), .int .i64 4]) w):=by
 have HW0:=ae (AV.new w (ai bQ (.slice none 0 0)) 37);have HB0:=ae (ag w (.cells (ai bQ (.slice none 0 0)) 37));have HZI:Hid ((Tryz.prog.info? 37).map (·.size)=some (ai bQ (.slice none 0 0)).size):=ae (bU bQ _ rfl rfl);have i1:(n:Int)<5:=by omega
 go_enter Tryz.func25,Tryz.ntmps25;go_wp2_with (first
  |((with_reducible refine bC 37 ?_);go_must (refine aH rfl _ rfl (ai bQ (.slice none 0 0)) fO ?_))
  |((with_reducible refine iJ 37 ?_);go_must (refine di rfl _ rfl (ai bQ (.slice none 0 0)) (by kernel_rfl) ?_))
  |((with_reducible refine eF 37 ?_);go_must (refine wpList_store_row rfl _ _ _ rfl w.heap.size (ai bQ (.slice none 0 0)) rfl rfl 37 (ai bQ (.slice none 0 0)) HW0.out.var HZI.out rfl (bz _ _ _ _) ?_)))
 refine bodyPost_ret (v:= .tuple #[.agg (ai bQ (.slice none 0 0)),I 4]) (bK rfl _ _ w.heap.size _ (ai bQ (.slice none 0 0)) (0,0) _ rfl (setRow_heap _ _ _ _ _ _ HW0.out.var) Tryz.underlying37 rfl HZI.out _ rfl) rfl ?_;exact ⟨rfl,aB HB0.out (Nat.le_refl _) _⟩
theorem UA (t:Tb) (A:Option Addr) (n c:Nat) (w:World) (hi:0≤t.aP∧t.aP<16) (hv:t.version<1):Calls Tryz.prog 26 #[.agg (ai t (.slice A n c))] w (Gives (.int .i64 1) w):=by
 obtain ⟨is,his⟩:∃i,t.aP=i:=⟨_,rfl⟩;obtain ⟨ve,hve⟩:∃i,t.version=i:=⟨_,rfl⟩;have HA:=ae (AV.new w (ai t (.slice A n c)) 37);have c0:(w.alloc (.cells (ai t (.slice A n c)) 37)).cell? ⟨w.heap.size,0,none⟩=some (I is):=(HA.out.cell 0).trans (by rw [←his];rfl);have c1:(w.alloc (.cells (ai t (.slice A n c)) 37)).cell? ⟨w.heap.size,1,none⟩=some (I ve):=(HA.out.cell 1).trans (by rw [←hve];rfl);rw [his] at hi;rw [hve] at hv;obtain ⟨i0,i1⟩:=hi;have i2:¬is<0:=by omega
 have i3:¬(16:Int)≤is:=by omega
 have HB:=ae (ag w (.cells (ai t (.slice A n c)) 37));clear his hve;go_enter Tryz.func26,Tryz.ntmps26;go_wp2_with fail;go_ret;exact ⟨rfl,HB.out⟩
def oN (ts:List bI):Int:=if (vW ts).2=false then -1 else if (vW ts).1<0 then -4 else ((ts[(vW ts).1.toNat]?).map (·.t.version)).getD 0
theorem uG (A:Option Addr) (c n:Nat) (ts:List bI) (w:World) (hn:ts.length=n) (hn1:n≤1000) (hl:yQ ts) (h:gq w w.heap.size A ts) (hp:∀x∈ts,x.t.prev.length=32∧x.t.bn.length=32):
  Calls Tryz.prog 22 #[.slice A n c] w (Gives (.int .i64 (oN ts)) w):=by
 have HC:=ae (L9 A c n ts w hn hn1 hl h);have NR:=ae hp;obtain ⟨F,hF⟩:∃F,oN ts=F:=⟨_,rfl⟩;rw [hF];have HF:=ae hF;clear hn hl h hp hF;go_enter Tryz.func22,Tryz.ntmps22;go_wp2_with fail;refine HC.out.mono ?_;rintro e w2 ⟨hb2,p,b,hpb,⟨rfl,rfl⟩|⟨rfl,hp0,rfl⟩|⟨rfl,i,x,y,rfl,hx,hy,_,rfl,hO⟩⟩
 ·have HE:Hid (F= -1):=ae (by rw [←HF.out];unfold oN;rw [hpb];rfl);clear hpb;have nJ:=ae (AV.new w2 (ai bQ (.slice none 0 0)) 37);have HB2:=ae (ah hb2 (ag w2 (.cells (ai bQ (.slice none 0 0)) 37)));have HW:=ae hb2.size;clear hb2;rw [oI];go_wp2_with (first
   |((with_reducible refine bC 37 ?_);go_must (refine aH rfl _ rfl (ai bQ (.slice none 0 0)) fO ?_))
   |((with_reducible refine eF 37 ?_);go_must (refine wpList_store_row rfl _ _ _ rfl w2.heap.size (ai bQ (.slice none 0 0)) rfl rfl 37 (ai bQ (.slice none 0 0)) nJ.out.var (bU bQ _ rfl rfl) rfl (bz _ _ _ _) ?_)))
  go_ret;exact ⟨by rw [HE.out];rfl,aB HB2.out HW.out _⟩
 ·have HE:Hid (F= -4):=ae (by rw [←HF.out];unfold oN;rw [hpb];simp [hp0]);clear hpb hp0;have nJ:=ae (AV.new w2 (ai bQ (.slice none 0 0)) 37);have HB2:=ae (ah hb2 (ag w2 (.cells (ai bQ (.slice none 0 0)) 37)));have HW:=ae hb2.size;clear hb2;rw [oI];go_wp2_with (first
   |((with_reducible refine bC 37 ?_);go_must (refine aH rfl _ rfl (ai bQ (.slice none 0 0)) fO ?_))
   |((with_reducible refine eF 37 ?_);go_must (refine wpList_store_row rfl _ _ _ rfl w2.heap.size (ai bQ (.slice none 0 0)) rfl rfl 37 (ai bQ (.slice none 0 0)) nJ.out.var (bU bQ _ rfl rfl) rfl (bz _ _ _ _) ?_)))
  go_ret;exact ⟨by rw [HE.out];rfl,aB HB2.out HW.out _⟩
 ·have HE:Hid (F=x.t.version):=ae (by rw [←HF.out];unfold oN;rw [hpb];simp [hx];intro h;omega);have hq:=NR.out x (dS hx);obtain ⟨T,hT⟩:∃T,y.t=T:=⟨_,rfl⟩;have hTx:T=x.t:=hT.symm.trans hy;rw [hT];have dR:Hid ((Tryz.prog.info? 37).map (·.size)=some (ai T (.slice y.A y.zs.length y.c)).size):=ae (bU T _ (by rw [hTx];exact hq.1) (by rw [hTx];exact hq.2));have Ae:Hid ((ai bQ (.slice none 0 0)).size=(ai T (.slice y.A y.zs.length y.c)).size):=ae ((bF bQ _ rfl rfl).trans (bF T _ (by rw [hTx];exact hq.1) (by rw [hTx];exact hq.2)).symm);obtain ⟨ve,hve⟩:∃v,T.version=v:=⟨_,rfl⟩;have HVE:Hid (F=ve):=ae (by rw [HE.out,←hve,hTx]);have nJ:=ae ((AV.new w2 (ai bQ (.slice none 0 0)) 37));have HB2:=ae (aB (ah hb2 (ag w2 (.cells (ai bQ (.slice none 0 0)) 37))) hb2.size (ai T (.slice y.A y.zs.length y.c)));have wQ:=ae (nJ.out.oZ (ai T (.slice y.A y.zs.length y.c)));have c1:((w2.alloc (.cells (ai bQ (.slice none 0 0)) 37)).setRow w2.heap.size (ai T (.slice y.A y.zs.length y.c))).cell? ⟨w2.heap.size,1,none⟩=some (I ve):=(wQ.out.cell 1).trans (by rw [←hve];rfl);clear hb2 hpb hx hy hO hq hT hTx hve;go_wp2_with (first
   |((with_reducible refine bC 37 ?_);go_must (refine aH rfl _ rfl (ai bQ (.slice none 0 0)) fO ?_))
   |((with_reducible refine eF 37 ?_);go_must (refine wpList_store_row rfl _ _ _ rfl w2.heap.size (ai T (.slice y.A y.zs.length y.c)) rfl rfl 37 (ai bQ (.slice none 0 0)) nJ.out.var dR.out Ae.out (bz _ _ _ _) ?_)))
  go_ret;exact ⟨by rw [HVE.out];rfl,HB2.out⟩
end Go.Proofs.YtdibbemgpikgjaaGreatDoor
namespace Go.Proofs.YtdibbemgpikgjaaGreatDoor
open Go Go.RowKit
attribute [local go_sem] jy jA jQ bD
section
variable {P:Program} {ops:Array Oper} {a:Act} {w:World} {rest:List Oper} {o:Oper}
theorem pz {Q:Act→Prop} (hw:Region.wanted o (yielded ops a.tmps)=true) (ty:TypeId) (x:Operand) (ho:o.op= .load ty x) (g off:Nat) (hx:a.eval x= .pointer (some ⟨g,off,none⟩)) (cs:List Value) (hr:w.rangeAt g off cs)
  (d:TypeDesc) (hu:P.underlying ty=some d) (hd:d.isRow=true) (hi:(P.info? ty).map (·.size)=some cs.length)
  (h:wpStill P ops w Q rest (a.put o.dst (.agg cs.toArray))):wpStill P ops w Q (o::rest) a:=by
 refine wpStill_step fun K hK=>?_;rw [if_pos hw];unfold Oper.still execOp;simp only [ho,hx,Instr.loadAt,Instr.sureAddr,Sem.run_bind,Sem.run_pure,Result.andThen_ok,run_loadVar_mid w g off ty cs d hr hu hd hi];exact ⟨rfl,hK _ h⟩
end
theorem EU (r:List UInt8) (h:r.length=32) (W:World):(binOp .neq 23 (.agg (aj r).toArray) (.agg (aj r).toArray)).run Tryz.prog W= .ok (.bool false) W:=by
 unfold aj;rw [run_neq_struct,Go.Proofs.YtdibbemgpikgjaaGreatDoor.nU W r h];simp [Result.andThen]
theorem OX (x:dB):∀j u,(ay x.e.z x.s).toList[j]? =some u→x.cells.toList[1+j]? =some u:=fun j u hu=>by
 rw [Nat.add_comm];exact hu
theorem Jf (t:Tb) (A1 A2:Option Addr) (c1 c2 n:Nat) (ys1 ys2:List dB) (zs:List Ze) (w:World) (hp:t.prev.length=32) (hm:t.bn.length=32) (h1:ys1.map (·.e)=zs) (h2:ys2.map (·.e)=zs) (hn:zs.length=n) (hn1:n≤1000) (hl:∀e∈zs,pU e.z) (m1:lW w w.heap.size A1 ys1) (m2:lW w w.heap.size A2 ys2):
  Calls Tryz.prog 21 #[.agg (ai t (.slice A1 n c1)), .agg (ai t (.slice A2 n c2))] w (Gives (.bool true) w):=by
 have HV:=ae (pM.start w 37 (ai t (.slice A1 n c1)) (ai t (.slice A2 n c2)));have l1:ys1.length=n:=by rw [←hn,←h1,List.length_map]
 have l2:ys2.length=n:=by rw [←hn,←h2,List.length_map]
 obtain ⟨W0,hW0⟩:∃W0,(w.alloc (.cells (ai t (.slice A1 n c1)) 37)).alloc (.cells (ai t (.slice A2 n c2)) 37)=W0:=⟨_,rfl⟩;rw [hW0] at HV;have HW0:=ae hW0;have xW:=ae l1;have HL2:=ae l2;have FB:=ae h1;have HE2:=ae h2;have wL:=ae m1;have UR:=ae m2;have Q9:=ae hl;have nq1:=EU t.prev hp;have nq2:=EU t.bn hm;have wY:=ae (mY t _ HV.out.a);have HP2:=ae (mY t _ HV.out.b);have nY:=ae (yD t _ HV.out.a hp);have lC:=ae (yD t _ HV.out.b hp);have QE:Hid ((Tryz.prog.info? 23).map (·.size)=some (aj t.prev).length):=ae (by simp only [aj,List.length_map,hp];kernel_rfl);have H33:Hid ((Tryz.prog.info? 23).map (·.size)=some (aj t.bn).length):=ae (by simp only [aj,List.length_map,hm];kernel_rfl);have p0:=HV.out.a.2;have p1:=HV.out.b.2;clear hn h1 h2 m1 m2 hl hp hm l1 l2 hW0;go_enter Tryz.func21,Tryz.ntmps21;go_upto_region 1 with fail;rw [HW0.out];go_wp2_with (first
  |((with_reducible refine dN 23 ?_);go_must (first
    |(refine bP rfl _ _ rfl w.heap.size 4 rfl (aj t.prev) wY.out _ Tryz.underlying23 rfl QE.out ?_)
    |(refine bP rfl _ _ rfl (w.heap.size+1) 4 rfl (aj t.prev) HP2.out _ Tryz.underlying23 rfl QE.out ?_)
    |(refine bP rfl _ _ rfl w.heap.size 36 rfl (aj t.bn) nY.out _ Tryz.underlying23 rfl H33.out ?_)
    |(refine bP rfl _ _ rfl (w.heap.size+1) 36 rfl (aj t.bn) lC.out _ Tryz.underlying23 rfl H33.out ?_))))
 go_loopw [5] (fun i wr=>Bl w 37 (ai t (.slice A1 n c1)) (ai t (.slice A2 n c2)) n i wr) (fun i _=>n - (intOf i).toNat)
 case atStart=>exact ⟨0,Nat.zero_le _,rfl,HV.out⟩
 case round=>
  clear p0 p1 nq1 nq2;obtain ⟨k,hk,rfl,hv⟩:=hrel;have Yh:=ae hv;have p3:wr.cell? ⟨w.heap.size,3,none⟩=some (.slice A1 n c1):=(hv.a.2 3).trans (bD _ _);have q3:wr.cell? ⟨w.heap.size+1,3,none⟩=some (.slice A2 n c2):=(hv.b.2 3).trans (bD _ _);clear hv;by_cases hlt:(k:Int)<(n:Int)
  ·have hk2:k<n:=by omega
   obtain ⟨x1,hx1⟩:∃x,ys1[k]? =some x:=⟨_,bZ (by rw [xW.out];exact hk2)⟩;obtain ⟨x2,hx2⟩:∃x,ys2[k]? =some x:=⟨_,bZ (by rw [HL2.out];exact hk2)⟩;have he:x1.e=x2.e:=by
    have a1:zs[k]? =some x1.e:=by rw [←FB.out,List.getElem?_map,hx1];rfl
    have a2:zs[k]? =some x2.e:=by rw [←HE2.out,List.getElem?_map,hx2];rfl
    rw [a1] at a2;injection a2
   have hel:pU x1.e.z:=Q9.out _ (by rw [←FB.out];exact List.mem_map_of_mem (dS hx1));have z1:=wL.out.each x1 (dS hx1);have z2:=UR.out.each x2 (dS hx2);obtain ⟨b,off,rfl,hb,hc⟩:=wL.out.row.there (by rw [dL,xW.out];omega);obtain ⟨b2,xq,rfl,hb2,hc2⟩:=UR.out.row.there (by rw [dL,HL2.out];omega);have r1:wr.rangeAt b (off+k*9) x1.cells.toList:=aQ (aA.elem (s:=9) (f:=fun x:dB=>x.cells.toList) (fun _ _=>rfl) hc k x1 hx1) Yh.out.up hb;have r2:wr.rangeAt b2 (xq+k*9) x2.cells.toList:=aQ (aA.elem (s:=9) (f:=fun x:dB=>x.cells.toList) (fun _ _=>rfl) hc2 k x2 hx2) Yh.out.up hb2;obtain ⟨nm,hnm⟩:∃s,x1.e.name=s:=⟨_,rfl⟩;have e1:wr.cell? ⟨b,off+k*9,none⟩=some (.string nm):=by rw [←hnm];exact r1 0 _ rfl
   have e2:wr.cell? ⟨b2,xq+k*9,none⟩=some (.string nm):=by rw [←hnm,he];exact r2 0 _ rfl
   have R1:Hid (wr.drew.rangeAt b (off+k*9+1) (ay x1.e.z x1.s).toList):=ae (fun j u hu=>by rw [Nat.add_assoc];exact r1 (1+j) u (OX x1 j u hu));have R2:Hid (wr.drew.rangeAt b2 (xq+k*9+1) (ay x1.e.z x2.s).toList):=ae (fun j u hu=>by rw [he] at hu;rw [Nat.add_assoc];exact r2 (1+j) u (OX x2 j u hu));have ZI:Hid (∀s,(Tryz.prog.info? 67).map (·.size)=some (ay x1.e.z s).toList.length):=ae (fun s=>by kernel_rfl);have HS:Hid (Calls Tryz.prog 37 #[.agg (ay x1.e.z x1.s), .agg (ay x1.e.z x2.s)] wr.drew (Gives (.bool true) wr.drew)):=ae (Eb x1.e.z x1.s x2.s _ _ wr.drew hel rfl rfl ((z1.keep (Yh.out.drew 1).up).more (Yh.out.drew 1).up.size) (by rw [he];exact (z2.keep (Yh.out.drew 1).up).more (Yh.out.drew 1).up.size));clear hx1 hx2 he hel z1 z2 hc hc2 r1 r2 hnm;go_wp2_with fail;refine wp_region_still_tail 26 (by kernel_rfl) (by kernel_rfl) ?_;simp only [List.take_succ_cons,List.take_zero,List.drop_succ_cons,List.drop_zero]
   iterate 19 still_step
   refine pz rfl _ _ rfl b (off+k*9+1) rfl (ay x1.e.z x1.s).toList R1.out _ Tryz.underlying67 rfl (ZI.out _) ?_
   iterate 5 still_step
   refine pz rfl _ _ rfl b2 (xq+k*9+1) rfl (ay x1.e.z x2.s).toList R2.out _ Tryz.underlying67 rfl (ZI.out _) ?_;refine wpStill_nil ?_;change wpList _ _ _ _ _ wr.drew;go_wp2_with fail;refine HS.out.mono ?_;rintro e w3 ⟨rfl,hb3⟩;have wQ:Hid (pM w 37 (ai t (.slice (some ⟨b,off,none⟩) n c1)) (ai t (.slice (some ⟨b2,xq,none⟩) n c2)) w3):=ae ((Yh.out.drew 1).below hb3);clear hb3 e1 e2 p3 q3;go_wp2_with fail;go_roundw
   case rel=>exact ⟨k+1,by omega,by go_num,wQ.out⟩
   case measure=>simp [intOf];omega
  ·go_wp2_with fail;go_ret;exact ⟨rfl,Yh.out.up⟩
end Go.Proofs.YtdibbemgpikgjaaGreatDoor
namespace Go.Proofs.YtdibbemgpikgjaaGreatDoor
open Go Go.RowKit
theorem Jg (A A2:Option Addr) (n c c2:Nat) (ts:List bI) (w:World) (hl:ts.length=n) (hC:gq w w.heap.size A ts) (hC2:gq w w.heap.size A2 ts) (hg:∀x∈ts,jr x) (YB:n≤5):
  Calls Tryz.prog 15 #[.slice A n c, .slice A2 n c2] w (Gives (.bool true) w):=by
 have HSM:Hid (∀x∈ts,∀W,Below w.heap.size w W→Calls Tryz.prog 21 #[.agg x.cells.toArray, .agg x.cells.toArray] W (Gives (.bool true) W)):=ae fun x hx W hb=>by
  have h1:=hC.each x hx;have h2:=(hg x hx).1;exact Jf x.t x.A x.A x.c x.c x.zs.length x.zs x.zs x.t.aK W h2.prev h2.bn h1.names.symm h1.names.symm (by rw [h1.names,List.length_map]) (by have:=h2.num;rw [h1.names,List.length_map] at this;omega) (fun e he=>(h2.good e he).1.len) (h1.aK.grow hb) (h1.aK.grow hb)
 have HL:=ae hl;have Vy:=ae (oz hC);have O8:=ae (oz hC2);clear hC hC2 hg hl;go_enter Tryz.func15,Tryz.ntmps15;go_wp2_with fail
 go_loopw [5] (fun i wr=>∃k:Nat,k≤n∧i=I k∧Below w.heap.size w wr) (fun i _=>n - (intOf i).toNat)
 case atStart=>exact ⟨0,Nat.zero_le _,rfl,Below.refl _ _⟩
 case round=>
  obtain ⟨k,hk,rfl,hb⟩:=hrel;have HB:=ae hb;clear hb;by_cases hlt:k<n
  ·have hkl:k<ts.length:=by rw [HL.out];exact hlt
   obtain ⟨x,hx⟩:∃x,ts[k]? =some x:=⟨_,bZ hkl⟩;have HX:=ae (HSM.out x (dS hx));obtain ⟨cb,co,rfl,hcb,hTA⟩:∃b off,A=some ⟨b,off,none⟩∧b<w.heap.size∧mf w b off ts:=by
    rcases Vy.out with h1|h1
    ·omega
    ·exact h1
   obtain ⟨db,BN,rfl,hdb,hTB⟩:∃b off,A2=some ⟨b,off,none⟩∧b<w.heap.size∧mf w b off ts:=by
    rcases O8.out with h1|h1
    ·omega
    ·exact h1
   have HS:Hid (∀W,Below w.heap.size w W→W.rangeAt cb (co+k*68) x.cells∧W.rangeAt db (BN+k*68) x.cells):=ae fun W hb=>⟨aQ (hTA k x hx).1 hb hcb,aQ (hTB k x hx).1 hb hdb⟩;have xZ:Hid ((Tryz.prog.info? 37).map (·.size)=some x.cells.length):=ae (by rw [(hTA k x hx).2];kernel_rfl);have i0:(0:Int)≤(k:Int):=by omega
   have i1:(k:Int)<(n:Int):=by omega
   clear hkl hx hTA hTB hcb hdb;go_upto_region 6 with fail;have hi3:=xZ.out;refine wp_region_held_drew (S:=fun w'=>w'.rangeAt cb (co+k*68) x.cells∧w'.rangeAt db (BN+k*68) x.cells) (by kernel_rfl) (HS.out _ HB.out.drew) (fun hH=>?_);refine aJ 0 (.slice (some ⟨cb,co,none⟩) n c) 17 hH (fun W hW=>?_) ?_
   ·go_simp
   refine ax ?_;refine aJ 1 (I k) 18 hH (fun W hW=>?_) ?_
   ·go_simp
   refine ax ?_;refine aJ 2 (.pointer (some ⟨cb,co+k*68,none⟩)) 19 hH (fun W hW=>?_) ?_
   ·go_simp
   refine ax ?_;refine gI 3 (.agg x.cells.toArray) 20 rfl rfl hH (yieldsIf_load_mid (by rfl) _ _ rfl cb (co+k*68) rfl (x.cells) _ (fun _ hW=>hW.1) Tryz.underlying37 rfl hi3) ?_;refine ax ?_;refine aJ 4 (.slice (some ⟨db,BN,none⟩) n c2) 21 hH (fun W hW=>?_) ?_
   ·go_simp
   refine ax ?_;refine aJ 5 (I k) 22 hH (fun W hW=>?_) ?_
   ·go_simp
   refine ax ?_;refine aJ 6 (.pointer (some ⟨db,BN+k*68,none⟩)) 23 hH (fun W hW=>?_) ?_
   ·go_simp
   refine ax ?_;refine gI 7 (.agg x.cells.toArray) 24 rfl rfl hH (yieldsIf_load_mid (by rfl) _ _ rfl db (BN+k*68) rfl (x.cells) _ (fun _ hW=>hW.2) Tryz.underlying37 rfl hi3) ?_;refine ax ?_;clear hH;refine aW 8 (fun K hK=>?_);go_simp;go_at_call 21;refine (HX.out _ HB.out.drew).mono ?_;rintro e w3 ⟨rfl,hb3⟩;have HB3:Hid (Below w.heap.size w w3):=ae (ah HB.out.drew hb3);clear hb3;refine hK.out _ _ (HS.out _ HB3.out) (fun hH=>?_);clear hK K;refine aJ 9 (.bool false) 26 hH (fun W hW=>?_) ?_
   ·go_simp
   refine ax ?_;clear hH;refine wpAnyH_done (by kernel_rfl) ?_ _;clear hi3;go_wp2_with fail;go_roundw
   case rel=>exact ⟨k+1,by omega,by go_num,HB3.out⟩
   case measure=>simp [intOf];omega
  ·have i1:¬(k:Int)<(n:Int):=by omega
   go_wp2_with fail;go_ret;exact ⟨rfl,HB.out⟩
theorem UG:pU z0:=⟨by decide,by decide,by decide,by decide⟩
theorem ver_t1 {n wd:Int} {ys:List dB} (h:ys.map (·.e)=(vt n wd true).aK):∃s,ys= [⟨zW,s⟩]:=by
 have h2:ys.map (·.e)= [zW]:=h;cases ys with
 |nil=>cases h2
 |cons x r=>
  rw [List.map_cons] at h2;injection h2 with h3 h4;have hr:r= []:=List.map_eq_nil_iff.1 h4;subst hr;exact ⟨x.s,by rw [←h3]⟩
theorem ver_f0 {n wd:Int} {ys:List dB} (h:ys.map (·.e)=(vt n wd false).aK):ys= []:=by
 match ys,h with
 | [],_=>rfl
def yT (n wd:Int) (A:Option Addr) (c:Nat) (s:Zs):bI:=⟨vt n wd true,A,c,[⟨zW,s⟩]⟩
def gB (n wd:Int) (A:Option Addr) (c:Nat):bI:=⟨vt n wd false,A,c,[]⟩
theorem Qu (n wd:Int) (w:World):Calls Tryz.prog 19 #[I n,I wd, .bool true] w fun e w'=>∃A c s,e= .returned (.agg (yT n wd A c s).cells.toArray)∧jE w' w'.heap.size (yT n wd A c s)∧Below w.heap.size w w':=
 (Fe n wd w).mono (fun e w' ⟨A,c,ys,h1,h2,h3,h4⟩=>by
  obtain ⟨s,rfl⟩:=ver_t1 h3;exact ⟨A,c,s,h1,GN h2 h3,h4⟩)
theorem UB (n wd:Int) (w:World):Calls Tryz.prog 19 #[I n,I wd, .bool false] w fun e w'=>∃A c,e= .returned (.agg (gB n wd A c).cells.toArray)∧jE w' w'.heap.size (gB n wd A c)∧Below w.heap.size w w':=
 (Qv n wd w).mono (fun e w' ⟨A,c,ys,h1,h2,h3,h4⟩=>by
  obtain rfl:=ver_f0 h3;exact ⟨A,c,h1,GN h2 h3,h4⟩)
theorem yO (n wd:Int) (A:Option Addr) (c:Nat) (s:Zs):(yT n wd A c s).zs.length≤1000∧∀y∈(yT n wd A c s).zs,pU y.e.z:=⟨Nat.le_of_ble_eq_true rfl,fun y hy=>by rw [List.mem_singleton.1 hy];exact UG⟩
theorem Dj (n wd:Int) (A:Option Addr) (c:Nat):(gB n wd A c).zs.length≤1000∧∀y∈(gB n wd A c).zs,pU y.e.z:=⟨Nat.zero_le _,fun _ h=>nomatch h⟩
def lg (ys:List bI):Array Value:=(ys.flatMap bI.cells).toArray
section
variable {ops:Array Oper} {rest:List Oper} {o:Oper} {a:Act} {Q:Exit→Act→World→Prop} {w:World}
theorem xM (hgd:o.guard=none) (x0 x1 x2 x3:Operand) (ho:o.op= .buildSlice 28 4 #[(0,x0),(1,x1),(2,x2),(3,x3)]) (y0 y1 y2 y3:bI) (h0:y0.cells.length=68) (h1:y1.cells.length=68) (h2:y2.cells.length=68) (h3:y3.cells.length=68)
  (e0:a.eval x0= .agg y0.cells.toArray) (e1:a.eval x1= .agg y1.cells.toArray) (e2:a.eval x2= .agg y2.cells.toArray) (e3:a.eval x3= .agg y3.cells.toArray)
  (h:wpList Tryz.prog ops Q rest (a.put o.dst (.slice (some ⟨w.heap.size,0,none⟩) 4 4)) (w.alloc (.cells (lg [y0,y1,y2,y3]) 37))):wpList Tryz.prog ops Q (o::rest) a w:=by
 obtain ⟨i0,hi,hz0,hz1,hz2⟩:=info_parts oQ;refine wpList_buildSlice hgd 28 37 4 _ ho ([y0,y1,y2,y3].flatMap bI.cells).toArray i0 (.agg (ai bQ (.slice none 0 0))) Tryz.underlying28 hi hz0 (by rw [hz1];decide) (by rw [hz1];decide) ?_ h;rw [hz1];simp only [List.map_toArray,List.map_cons,List.map_nil,e0,e1,e2,e3];have h:=Go.Great.fill_whole (s:=68) (by omega) [.agg y0.cells.toArray, .agg y1.cells.toArray, .agg y2.cells.toArray, .agg y3.cells.toArray] ((Array.range (4*68)).map ((Value.agg (ai bQ (.slice none 0 0))).cells[· %(Value.agg (ai bQ (.slice none 0 0))).cells.size]!)) (fun v hv=>by
  simp at hv;rcases hv with rfl|rfl|rfl|rfl<;>simp [Value.cells,h0,h1,h2,h3]) (by simp)
 have e:([Value.agg y0.cells.toArray, .agg y1.cells.toArray, .agg y2.cells.toArray, .agg y3.cells.toArray].flatMap fun v=>v.cells.toList).toArray=([y0,y1,y2,y3].flatMap bI.cells).toArray:=by simp [Value.cells]
 rw [e] at h;exact h
theorem GZ (hgd:o.guard=none) (x0 x1:Operand) (ho:o.op= .buildSlice 28 2 #[(0,x0),(1,x1)]) (y0 y1:bI) (h0:y0.cells.length=68) (h1:y1.cells.length=68)
  (e0:a.eval x0= .agg y0.cells.toArray) (e1:a.eval x1= .agg y1.cells.toArray)
  (h:wpList Tryz.prog ops Q rest (a.put o.dst (.slice (some ⟨w.heap.size,0,none⟩) 2 2)) (w.alloc (.cells (lg [y0,y1]) 37))):wpList Tryz.prog ops Q (o::rest) a w:=by
 obtain ⟨i0,hi,hz0,hz1,hz2⟩:=info_parts oQ;refine wpList_buildSlice hgd 28 37 2 _ ho ([y0,y1].flatMap bI.cells).toArray i0 (.agg (ai bQ (.slice none 0 0))) Tryz.underlying28 hi hz0 (by rw [hz1];decide) (by rw [hz1];decide) ?_ h;rw [hz1];simp only [List.map_toArray,List.map_cons,List.map_nil,e0,e1];have h:=Go.Great.fill_whole (s:=68) (by omega) [.agg y0.cells.toArray, .agg y1.cells.toArray] ((Array.range (2*68)).map ((Value.agg (ai bQ (.slice none 0 0))).cells[· %(Value.agg (ai bQ (.slice none 0 0))).cells.size]!)) (fun v hv=>by
  simp at hv;rcases hv with rfl|rfl<;>simp [Value.cells,h0,h1]) (by simp)
 have e:([Value.agg y0.cells.toArray, .agg y1.cells.toArray].flatMap fun v=>v.cells.toList).toArray=([y0,y1].flatMap bI.cells).toArray:=by simp [Value.cells]
 rw [e] at h;exact h
end
theorem yu (ys:List bI) (W:World) (h:∀y∈ys,jE W W.heap.size y):gq (W.alloc (.cells (lg ys) 37)) (W.alloc (.cells (lg ys) 37)).heap.size (some ⟨W.heap.size,0,none⟩) ys:=by
 refine ⟨.inr ⟨W.heap.size,0,rfl,by simp,fun j u hu=>?_⟩,fun y hy=>(h y hy).grow (ag W _)⟩;rw [Nat.zero_add,cell_of_row _ _ j _ _ _ (heap_alloc_last W _)];unfold lg;simpa using hu
theorem gq.takeL {w:World} {B:Nat} {A:Option Addr} {ts:List bI} (h:gq w B A ts) (k:Nat):gq w B A (ts.take k):=by
 refine ⟨?_,fun y hy=>h.each y (List.mem_of_mem_take hy)⟩;rcases h.row with h|⟨b,off,h1,h2,h3⟩
 ·refine .inl (List.eq_nil_iff_length_eq_zero.1 ?_);have e:=List.eq_nil_of_length_eq_zero h;rw [List.flatMap_eq_nil_iff] at e ⊢;exact fun x hx=>e x (List.mem_of_mem_take hx)
 ·refine .inr ⟨b,off,h1,h2,fun j u hu=>h3 j u ?_⟩;have e:ts.flatMap bI.cells=(ts.take k).flatMap bI.cells++(ts.drop k).flatMap bI.cells:=by rw [←List.flatMap_append,List.take_append_drop]
  rw [e,List.getElem?_append_left (eG.1 hu).1];exact hu
theorem gq.tail {w:World} {B b off:Nat} {y:bI} {ts:List bI} (h:gq w B (some ⟨b,off,none⟩) (y::ts)) (hy:y.cells.length=68):gq w B (some ⟨b,off+68,none⟩) ts:=by
 refine ⟨?_,fun z hz=>h.each z (List.mem_cons_of_mem _ hz)⟩;rcases h.row with h|⟨b2,xq,h1,h2,h3⟩
 ·rw [List.flatMap_cons,aZ,hy] at h;omega
 ·injection h1 with h1;injection h1 with h1 h4;subst h1 h4;refine .inr ⟨b,off+68,rfl,h2,fun j u hu=>?_⟩;rw [Nat.add_assoc];exact h3 (68+j) u (by rw [List.flatMap_cons,List.getElem?_append_right (by omega),hy,show 68+j - 68=j by omega];exact hu)
theorem XH:sD [zW] ⟨#[97]⟩=some z0:=by
 have e:BZ zW.name ⟨#[97]⟩=true:=by decide+kernel
 unfold sD;rw [List.find?_cons,e];rfl
theorem XI:sD [zW] ⟨#[98]⟩=none:=by
 have e:BZ zW.name ⟨#[98]⟩=false:=by decide+kernel
 unfold sD;rw [List.find?_cons,e];rfl
section
variable (A1 A2 A3 A4 B1 B2:Option Addr) (c1 c2 c3 c4 d1 d2:Nat) (s1 s2 s4:Zs)
theorem SG:oN [yT 1 0 A1 c1 s1,yT 2 0 A2 c2 s2,gB 3 2 A3 c3]=1:=by rfl
theorem SH:oN [yT 1 0 A1 c1 s1,yT 2 0 A2 c2 s2,gB 3 2 A3 c3,gB 4 3 A4 c4]=2:=by rfl
theorem SI:oN [yT 1 0 A1 c1 s1,yT 2 0 A2 c2 s2,gB 3 2 A3 c3,yT 4 0 A4 c4 s4]=4:=by rfl
theorem SK:oN [gB 1 0 B1 d1,gB 2 1 B2 d2]= -4:=by rfl
theorem SL:oN [yT 2 0 A2 c2 s2,gB 3 2 A3 c3,gB 4 3 A4 c4]= -1:=by rfl
theorem VZ:oN []= -4:=by rfl
theorem pick_l:pick [yT 1 0 A1 c1 s1,yT 2 0 A2 c2 s2,gB 3 2 A3 c3,gB 4 3 A4 c4] ⟨#[97]⟩=some z0:=by
 have e:vW [yT 1 0 A1 c1 s1,yT 2 0 A2 c2 s2,gB 3 2 A3 c3,gB 4 3 A4 c4]=(1,true):=rfl;unfold pick;rw [e];exact XH
theorem pick_n:pick [gB 1 0 B1 d1,gB 2 1 B2 d2] ⟨#[97]⟩=none:=by rfl
end
theorem prefA {w w':World} {e:Ending} {A A':Option Addr} {c c':Nat} {LS NS:List bI} {nm:ByteArray} (hL:pick LS nm=some z0) (hN:pick NS nm=none) (h:RF w [⟨A,c,LS⟩,⟨A',c',NS⟩] [1,0] nm e w'):
  Below w.heap.size w w'∧∃s,e= .returned (.tuple #[.agg (ay z0 s),I 0,I 0]):=by
 have p1:pk [⟨A,c,LS⟩,⟨A',c',NS⟩] nm 1=none:=hN;have p0:pk [⟨A,c,LS⟩,⟨A',c',NS⟩] nm 0=some z0:=hL;obtain ⟨hb,⟨⟨k,hk,hn⟩,_⟩|⟨_,⟨hall,_⟩|⟨j,k,z,s,hj,hp,_,he,_⟩⟩⟩:=h
 ·exfalso;apply hn;simp only [List.mem_cons,List.not_mem_nil,or_false] at hk;rcases hk with rfl|rfl
  ·exact ⟨by decide,by show (1:Int)<2;decide⟩
  ·exact ⟨by decide,by show (0:Int)<2;decide⟩
 ·have:=hall 0 (by simp);rw [p0] at this;cases this
 ·have hjl:j<2:=(eG.1 hj).1;rcases Nat.lt_succ_iff_lt_or_eq.1 hjl with h0|rfl
  ·have e0:j=0:=by omega
   subst e0;injection hj with hj;subst hj;rw [p1] at hp;cases hp
  ·injection hj with hj;subst hj;rw [p0] at hp;injection hp with hp;subst hp;exact ⟨hb,s,he⟩
theorem prefB {w w':World} {e:Ending} {A A':Option Addr} {c c':Nat} {LS NS:List bI} {nm:ByteArray} (h:RF w [⟨A,c,LS⟩,⟨A',c',NS⟩] [2] nm e w'):
  Below w.heap.size w w'∧e= .returned (.tuple #[.agg jq,I 0,I 1]):=by
 obtain ⟨hb,⟨_,he⟩|⟨hall,_⟩⟩:=h
 ·exact ⟨hb,he⟩
 ·have:=hall 2 (by simp);exact absurd this.2 (by show¬((2:Int)<2);decide)
theorem Sr (W:World) (cs:List AO) (vs:Array Value) (t:TypeId) (h:vs.toList=cs.map AO.cell) (he:∀x∈cs,gq W W.heap.size x.A x.ts):AP (W.alloc (.cells vs t)) (W.alloc (.cells vs t)).heap.size (some ⟨W.heap.size,0,none⟩) cs:=by
 refine ⟨.inr ⟨W.heap.size,0,rfl,by simp,fun j u hu=>?_⟩,fun x hx=>(he x hx).grow (ag W _)⟩;rw [Nat.zero_add,cell_of_row _ _ j _ _ _ (heap_alloc_last W _),←Array.getElem?_toList,h];exact hu
theorem IX (W:World) (zs:List Int) (vs:Array Value) (t:TypeId) (h:vs.toList=zs.map I):fJ (W.alloc (.cells vs t)) (W.alloc (.cells vs t)).heap.size (some ⟨W.heap.size,0,none⟩) zs:=by
 refine aA.ints (.inr ⟨W.heap.size,0,rfl,by simp,fun j u hu=>?_⟩);rw [Nat.zero_add,cell_of_row _ _ j _ _ _ (heap_alloc_last W _),←Array.getElem?_toList,h];exact hu
theorem zoneB {w w':World} {e:Ending} (h:Yt w [zW] ⟨#[98]⟩ e w'):Below w.heap.size w w'∧e= .returned (.tuple #[.agg jq,I 4]):=by
 obtain ⟨hb,⟨_,he⟩|⟨z,s,hz,_⟩⟩:=h
 ·exact ⟨hb,he⟩
 ·rw [XI] at hz;cases hz
theorem QB (n wd:Int) (A:Option Addr) (c:Nat) (s:Zs) (W:World) (h:jE W W.heap.size (yT n wd A c s)):Calls Tryz.prog 24 #[.agg (yT n wd A c s).cells.toArray, .string ⟨#[98]⟩] W fun e w'=>Below W.heap.size W w'∧e= .returned (.tuple #[.agg jq,I 4]):=
 (JR (yT n wd A c s) 1 ⟨#[98]⟩ W rfl (by omega) (yO n wd A c s).2 h).mono (fun e w' h=>zoneB h)
theorem gq.head {w:World} {B b off:Nat} {y:bI} {ts:List bI} (h:gq w B (some ⟨b,off,none⟩) (y::ts)) (hy:y.cells.length=68):w.rangeAt b off y.cells∧b<B:=by
 rcases h.row with h|⟨b2,xq,h1,h2,h3⟩
 ·rw [List.flatMap_cons,aZ,hy] at h;omega
 ·injection h1 with h1;injection h1 with h1 h4;subst h1 h4;exact ⟨fun j u hu=>h3 j u (by rw [List.flatMap_cons,List.getElem?_append_left (eG.1 hu).1];exact hu),h2⟩
theorem XA (n wd:Int) (A:Option Addr) (c:Nat) (s:Zs) (W:World) (hn:n<1):Calls Tryz.prog 26 #[.agg (yT n wd A c s).cells.toArray] W (Gives (.int .i64 1) W):=
 UA (vt n wd true) A 1 c W ⟨by show (0:Int)≤2;decide,by show (2:Int)<16;decide⟩ (by show n<1;exact hn)
end Go.Proofs.YtdibbemgpikgjaaGreatDoor
