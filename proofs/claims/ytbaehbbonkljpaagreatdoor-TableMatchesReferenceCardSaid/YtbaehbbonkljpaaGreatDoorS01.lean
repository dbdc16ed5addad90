/- The texts Aid, Data, Qa, Pl, SvE, SvF, Pm, Pa, TbD, TbZ, TbE, in this order. -/
import Derived.Test.YtbaehbbonkljpaaGreatDoorS00
import Derived.Test.YtbaehbbonkljpaaGreatDoorProg
import Derived.Defers
import Derived.Laws.BitsAllLaws
import Derived.Laws.BytesArg
import Derived.Laws.Cover3
import Derived.Lib.AppendStr
import Derived.Lib.ByteType
import Derived.MapKept
import Derived.Recover
set_option maxRecDepth 10000
set_option maxHeartbeats 8000000
namespace Go.Proofs.YtbaehbbonkljpaaGreatDoor
open Go Go.RowKit
section
variable {P:Program} {ops:Array Oper} {Q:Exit->Act->World->Prop} {a:Act} {w:World} {rest:List Oper} {o o2:Oper}
theorem bz {t:TypeId} (hg:o.guard=none) (parts:Array (Nat×Operand)) (ho:o.op= .build t parts) (cells:Array Value)
  (hb:P.built t (parts.map fun (i,x)=>(i,a.eval x)).toList=some cells)
  (h:wpList P ops Q rest (a.put o.dst (.agg cells)) w):wpList P ops Q (o::rest) a w:=
 wpList_plain hg fun _ hK=>wp_build t parts ho (by rw [hb];rfl) (by rw [hb];exact hK _ _ h)
theorem iJ (w:World) (t:TypeId) (z:Value) (n:Nat) (hz:(P.info? t).map (fun i=>(i.zero,i.size))=some (some z,n)):
  (Instr.alloc t true (.tuple #[])).run P w= .ok (.pointer (some ⟨w.heap.size,0,none⟩)) (w.alloc (.cells z.cells t)):=by
 have h0:=(zero_of_info hz).1 w;simp [Instr.alloc,newVar,newRow,h0]
theorem jM (hg:o.guard=none) (hg2:o2.guard=none) (t:TypeId) (d:Tmp) (y:Operand) (ho:o.op= .alloc t) (hd:o.dst=some d) (ho2:o2.op= .store t (.tmp d) y) (hd2:o2.dst=none)
  (z:Value) (cells:Array Value) (hz:(P.info? t).map (fun i=>(i.zero,i.size))=some (some z,cells.size)) (hzs:z.cells.size=cells.size)
  (hy:(a.put (some d) (.pointer (some ⟨w.heap.size,0,none⟩))).eval y= .agg cells) (hdl:Nat.ble (d+1) a.tmps.size=true) (h1:cells.all (·.oneCell')=true)
  (h:wpList P ops Q rest (a.put (some d) (.pointer (some ⟨w.heap.size,0,none⟩))) (w.alloc (.cells cells t))):wpList P ops Q (o::o2::rest) a w:=by
 refine wpList_plain hg fun K hK=>?_;unfold Oper.wp execOp;simp only [ho,Sem.run_bind,iJ w t z _ hz,Result.andThen_ok];refine hK _ _ ?_;rw [hd];refine wpList_plain hg2 fun K2 hK2=>?_;unfold Oper.wp execOp;have hx:(a.put (some d) (.pointer (some ⟨w.heap.size,0,none⟩))).eval (.tmp d)= .pointer (some ⟨w.heap.size,0,none⟩):=by
  have hlt:d<a.tmps.size:=Nat.le_of_ble_eq_true hdl;simp [Act.eval,Act.put,hlt]
 simp only [ho2,hx,hy,Sem.run_bind,run_storeAt_new w t z.cells cells (zero_of_info hz).2 hzs h1,Result.andThen_ok];refine hK2 _ _ ?_;rw [hd2];exact h
end
structure Mv where
 day:Int
 drop:Bool
 toDay:Int
 minute:Int
 length:Int
structure Nd where
 kind:Int
 cal:Int
 l:Int
 r:Int
 n:Int
 m:Int
 list:List Int
 name:ByteArray
structure Ser where
 rule:List Nd
 minute:Int
 length:Int
 zone:ByteArray
 gap:Int
 fold:Int
 moves:List Mv
structure Lt where
 kind:Int
 src:Int
 dst:Int
 meeting:Int
 edition:Int
 bG:Int
 version:Int
 person:Int
 other:Int
 resource:Int
 scope:Int
 day:Int
 move:Mv
 series:Ser
 deadline:Int
 state:Int
 grain:Int
 wfrom:Int
 wto:Int
 cells:List Int
 ref:List UInt8
abbrev I (n:Int):Value:= .int .i64 n
def ax (r:List UInt8):List Value:=r.map Extern.Stop.cell
def Gives (v:Value) (w:World) (e:Ending) (w':World):Prop:=e= .returned v/\Below w.heap.size w w'
def ku (w:World) (B:Nat) (A:Option Addr) (zs:List Int):Prop:=
 zs.length=0\/∃b off,A=some ⟨b,off,none⟩/\b<B/\∀j,j<zs.length->w.cell? ⟨b,off+j,none⟩=some (I (zs[j]?.getD 0))
theorem ku.keep {w w':World} {B:Nat} {A:Option Addr} {zs:List Int} (h:ku w B A zs) (hb:Below B w w'):ku w' B A zs:=by
 rcases h with h|⟨b,off,hA,hbB,hc⟩
 ·exact .inl h
 ·exact .inr ⟨b,off,hA,hbB,fun j hj=>(hb.cell (p:=⟨b,off+j,none⟩) hbB).trans (hc j hj)⟩
theorem ku.more {w:World} {B B':Nat} {A:Option Addr} {zs:List Int} (h:ku w B A zs) (hB:B<=B'):ku w B' A zs:=by
 rcases h with h|⟨b,off,hA,hbB,hc⟩
 ·exact .inl h
 ·exact .inr ⟨b,off,hA,by omega,hc⟩
theorem xC (a b:Int):(a !=b)=decide (a≠b):=by
 rw [Bool.eq_iff_iff];simp
def BytesAt (w:World) (B:Nat) (A:Option Addr) (bs:List UInt8):Prop:=
 bs.length=0\/∃b off,A=some ⟨b,off,none⟩/\b<B/\∀j,j<bs.length->w.cell? ⟨b,off+j,none⟩=some (Extern.Stop.cell (bs[j]?.getD 0))
theorem BytesAt.keep {w w':World} {B:Nat} {A:Option Addr} {bs:List UInt8} (h:BytesAt w B A bs) (hb:Below B w w'):BytesAt w' B A bs:=by
 rcases h with h|⟨b,off,hA,hbB,hc⟩
 ·exact .inl h
 ·exact .inr ⟨b,off,hA,hbB,fun j hj=>(hb.cell (p:=⟨b,off+j,none⟩) hbB).trans (hc j hj)⟩
theorem BytesAt.more {w:World} {B B':Nat} {A:Option Addr} {bs:List UInt8} (h:BytesAt w B A bs) (hB:B<=B'):BytesAt w B' A bs:=by
 rcases h with h|⟨b,off,hA,hbB,hc⟩
 ·exact .inl h
 ·exact .inr ⟨b,off,hA,by omega,hc⟩
theorem Tn {x y:UInt8} (h:x≠y):((x.toNat:Int) !=(y.toNat:Int))=true:=by
 rw [xC];exact decide_eq_true (fun e=>h (UInt8.toNat_inj.1 (by omega)))
theorem LW (x:UInt8):((x.toNat:Int) !=(x.toNat:Int))=false:=by
 rw [xC];exact decide_eq_false (by omega)
theorem below_drewN' (w:World) (k:Nat):Below w.heap.size w (w.drewN k):=below_drewN (Below.refl _ _) k
def Row (w:World) (b:Nat) (cs:Array Value):Prop:=b<w.heap.size/\∀i,w.cell? ⟨b,i,none⟩=cs[i]?
theorem Row.keep {w w':World} {b:Nat} {cs:Array Value} (h:Row w b cs) (hb:Below w.heap.size w w'):Row w' b cs:=
 ⟨dP h.1 hb.size,fun i=>(hb.cell (p:=⟨b,i,none⟩) h.1).trans (h.2 i)⟩
theorem Row.new (w:World) (cs:Array Value) (t:TypeId):Row (w.alloc (.cells cs t)) w.heap.size cs:=
 ⟨by simp,fun i=>by rw [World.cell?_alloc_at _ _ _ _ rfl]⟩
theorem ah {w w1 w2:World} (h:Below w.heap.size w w1) (h2:Below w1.heap.size w1 w2):Below w.heap.size w w2:=h.trans (h2.mono h.size)
def byteOf (n:Int):UInt8:=UInt8.ofNat (n%256).toNat
theorem fF (n:Int):Extern.Stop.cell (byteOf n)= .int .u8 (n%256):=by
 have h0:0<=n%256:=Int.emod_nonneg _ (by omega);have h1:n%256<256:=Int.emod_lt_of_pos _ (by omega);have h2:(n%256).toNat<256:=by omega
 have h3:(UInt8.ofNat (n%256).toNat).toNat=(n%256).toNat:=by rw [UInt8.toNat_ofNat'];exact Nat.mod_eq_of_lt h2
 show Value.int .u8 (((UInt8.ofNat (n%256).toNat).toNat:Nat):Int)=_;rw [h3,Int.toNat_of_nonneg h0]
def le:Int->Nat->List UInt8
 |_,0=> []
 |n,s+1=>byteOf n::le (n / 256) s
def jW:Int->Nat->Int
 |n,0=>n
 |n,k+1=>jW n k / 256
theorem JE (n:Int) (k:Nat):jW (n / 256) k=jW n (k+1):=by
 induction k with
 |zero=>rfl
 |succ k ih=>show jW (n / 256) k / 256=_;rw [ih];rfl
theorem Gw (n:Int) (k:Nat):le n (k+1)=le n k++ [byteOf (jW n k)]:=by
 induction k generalizing n with
 |zero=>rfl
 |succ k ih=>rw [le,ih,JE];rfl
theorem aC (n:Int) (k:Nat):(le n k).length=k:=by
 induction k generalizing n with
 |zero=>rfl
 |succ k ih=>simp [le,ih]
theorem Nz (n:Int) (k:Nat) (h0: -9223372036854775808<=n) (h1:n<=9223372036854775807): -9223372036854775808<=jW n k/\jW n k<=9223372036854775807:=by
 induction k with
 |zero=>exact ⟨h0,h1⟩
 |succ k ih=>unfold jW;omega
structure iL (g:Nat) (v:Value) (w:World) (v':Value) (w':World):Prop where
 os:w'.os=w.os
 tape:w'.tape=w.tape
 output:w'.output=w.output
 size:w.heap.size<=w'.heap.size
 block:∀k,k<w.heap.size->k≠g->some k≠v.ownBlock->w'.heap[k]? =w.heap[k]?
 own:v'.ownBlock=v.ownBlock\/∃b,v'.ownBlock=some b/\w.heap.size<=b
theorem iL.refl (g:Nat) (v:Value) (w:World):iL g v w v w:=⟨rfl,rfl,rfl,Nat.le_refl _,fun _ _ _ _=>rfl, .inl rfl⟩
theorem iL.trans {g:Nat} {v v1 v2:Value} {w w1 w2:World} (h:iL g v w v1 w1) (k:iL g v1 w1 v2 w2):iL g v w v2 w2:=by
 refine ⟨k.os.trans h.os,k.tape.trans h.tape,k.output.trans h.output,Nat.le_trans h.size k.size,fun b hb hg hv=>?_,?_⟩
 ·refine (k.block b (dP hb h.size) hg ?_).trans (h.block b hb hg hv);rcases h.own with e|⟨b1,e,hb1⟩
  ·rw [e];exact hv
  ·rw [e];intro h';injection h' with h';omega
 ·rcases k.own with e|⟨b,e,hb⟩
  ·rcases h.own with e1|⟨b1,e1,hb1⟩
   ·exact .inl (e.trans e1)
   ·exact .inr ⟨b1,e.trans e1,hb1⟩
  ·exact .inr ⟨b,e,Nat.le_trans h.size hb⟩
theorem eP {w:World} {base e size n:Nat} {v u:Value} {xs:List Value} {p:Addr} (h:w.ownsRow base e size v n xs) (hp:some p.block≠v.ownBlock):(w.setCell p u).ownsRow base e size v n xs:=by
 refine ⟨h.1,?_⟩;rcases h.2 with h|⟨g,cap,cur,rfl,hg,hh,h1,h2,h3,h4⟩
 ·exact .inl h
 ·refine .inr ⟨g,cap,cur,rfl,hg,?_,h1,h2,h3,h4⟩;rw [heap_setCell_other w p g u (fun e=>hp (by rw [<-e];rfl))];exact hh
theorem eG {w:World} {base e size n:Nat} {v:Value} {xs:List Value} (h:w.ownsRow base e size v n xs) (b:Nat) (hb:b<base):some b≠v.ownBlock:=by
 rcases h.2 with ⟨rfl,_⟩|⟨g,cap,cur,rfl,hg,_⟩
 ·simp [Value.ownBlock]
 ·intro e;have:b=g:=by simpa [Value.ownBlock] using e
  omega
theorem gG {w:World} {base e size n:Nat} {v:Value} {xs:List Value} (h:w.ownsRow base e size v n xs) (hn:0<n):∃g cap,v= .slice (some ⟨g,0,none⟩) n cap/\g<w.heap.size:=by
 rcases h.2 with ⟨_,h0⟩|⟨g,cap,cur,rfl,_,hh,_⟩
 ·omega
 ·exact ⟨g,cap,rfl,(bV.1 hh).1⟩
theorem UD {w:World} {base e size n:Nat} {v:Value} {xs:List Value} (h:w.ownsRow base e size v n xs):∀b,v.ownBlock=some b->b<w.heap.size:=by
 intro b hb;rcases h.2 with ⟨rfl,_⟩|⟨g,cap,cur,rfl,_,hh,_⟩
 ·simp [Value.ownBlock] at hb
 ·have:g=b:=by simpa [Value.ownBlock] using hb
  subst this;exact (bV.1 hh).1
theorem lN:(Tryz.prog.info? 5).map (fun i=>(i.zero,i.size,i.bytes))=some (some (.int .u8 0),1,1):=by kernel_rfl
abbrev pt (b:Nat):Value:= .pointer (some ⟨b,0,none⟩)
def fits (n:Int):Prop:= -9223372036854775808<=n/\n<=9223372036854775807
def fU:List UInt8:=List.replicate 32 0
theorem xW:(ax fU).toArray= #[Value.int .u8 0,Value.int .u8 0,Value.int .u8 0,Value.int .u8 0,Value.int .u8 0,Value.int .u8 0,Value.int .u8 0,Value.int .u8 0,Value.int .u8 0,Value.int .u8 0,Value.int .u8 0,Value.int .u8 0,Value.int .u8 0,Value.int .u8 0,Value.int .u8 0,Value.int .u8 0,Value.int .u8 0,Value.int .u8 0,Value.int .u8 0,Value.int .u8 0,Value.int .u8 0,Value.int .u8 0,Value.int .u8 0,Value.int .u8 0,Value.int .u8 0,Value.int .u8 0,Value.int .u8 0,Value.int .u8 0,Value.int .u8 0,Value.int .u8 0,Value.int .u8 0,Value.int .u8 0]:=rfl
theorem GN (w:World):(sizeOf 5).run Tryz.prog w= .ok 1 w:=by kernel_rfl
theorem pV (r:List UInt8):∀v∈ax r,v.oneCell'=true:=by
 intro v hv;simp only [ax,List.mem_map] at hv;obtain ⟨x,_,rfl⟩:=hv;rfl
theorem ag (w:World) (o:Obj):Below w.heap.size w (w.alloc o):=(Below.refl _ _).alloc (Nat.le_refl _) _
section
variable {P:Program} {ops:Array Oper} {Q:Exit->Act->World->Prop} {a:Act} {w:World} {rest:List Oper} {o:Oper}
theorem aJ (hw:Region.wanted o (yielded ops a.tmps)=true) (ty:TypeId) (x:Operand) (ho:o.op= .load ty x) (g:Nat) (hx:a.eval x= .pointer (some ⟨g,0,none⟩)) (cs:Array Value) (hr:Row w g cs)
  (d:TypeDesc) (hu:P.underlying ty=some d) (hd:d.isRow=true) (hi:(P.info? ty).map (·.size)=some cs.size)
  (h:wpList P ops Q rest (a.put o.dst (.agg cs)) w):wpList P ops Q (o::rest) a w:=by
 unfold wpList;rw [if_pos hw];have hc:w.rangeAt g 0 cs.toList:=fun j v hv=>by rw [Nat.zero_add,hr.2 j];simpa using hv
 refine .inl (wp_load_mid ty x ho g 0 hx cs.toList d hc hu hd (by rw [hi];simp) ?_);simpa using h
end
def gV (zs:List Int):List UInt8:=zs.flatMap fun z=>le z 1
theorem BI (zs:List Int) (z:Int):gV (zs++ [z])=gV zs++le z 1:=by simp [gV]
theorem mV (zs:List Int):(gV zs).length=zs.length:=by
 induction zs with
 |nil=>rfl
 |cons z zs ih=>simp only [gV,List.flatMap_cons,bF,aC] at ih ⊢;rw [ih];simp;omega
section
variable {P:Program} {ops:Array Oper} {Q:Exit->Act->World->Prop} {a:Act} {w:World} {rest:List Oper} {d:Option Tmp} {t:TypeId} {pos:String} {af:Array Edge} {g:Option (Nat×Bool)}
theorem aZ (ty:TypeId) (h:wpList P ops Q (⟨d, .alloc ty,t,pos,af,g⟩::rest) a w):wpList P ops Q (⟨d, .alloc ty,t,pos,af,g⟩::rest) a w:=h
end
theorem lu {w:World} {b:Nat} {o:Obj} (h:w.heap[b]? =some o):b<w.heap.size:=(bV.1 h).1
theorem Row.jH {w:World} {b:Nat} {cs:Array Value} {t:TypeId} {fr:Nat×Nat} (h:w.heap[b]? =some (.cells cs t fr)):Row w b cs:=
 ⟨lu h,fun i=>cell_of_row w b i cs t fr h⟩
section
variable {P:Program} {ops:Array Oper} {Q:Exit->Act->World->Prop} {a:Act} {w:World} {rest:List Oper} {o:Oper}
theorem dm (hg:o.guard=none) (t:TypeId) (ho:o.op= .alloc t) (cells:Array Value) (hz:(P.info? t).map (fun i=>(i.zero,i.size))=some (some (.agg cells),cells.size))
  (h:wpList P ops Q rest (a.put o.dst (.pointer (some ⟨w.heap.size,0,none⟩))) (w.alloc (.cells cells t))):wpList P ops Q (o::rest) a w:=by
 refine wpList_plain hg fun K hK=>?_;unfold Oper.wp execOp;simp only [ho,Sem.run_bind,iJ w t (.agg cells) _ hz,Result.andThen_ok];exact hK _ _ h
end
theorem wu {P:Program} {ops:Array Oper} {o:Oper} {a:Act} {w:World} {K:Act->World->Prop} {Q:Exit->Act->World->Prop} {E:Prop} (hgd:o.guard=none) (d s:Operand) (dT sT:TypeId)
  (ho:o.op= .call {callee:= .builtin .copy,args:= #[d,s],argTypes:= #[dT,sT]}) (elem:TypeId) (hu:P.underlying dT=some (.slice elem)) (hsz:(P.info? elem).map (·.size)=some 1)
  (g off dLen dCap:Nat) (ad:Addr) (sLen sCap:Nat) (hd:a.eval d= .slice (some ⟨g,off,none⟩) dLen dCap) (hs:a.eval s= .slice (some ad) sLen sCap)
  (cur:Array Value) (t:TypeId) (hg:w.heap[g]? =some (.cells cur t (0,0))) (cs:List Value) (hn:cs.length=Nat.min sLen dLen)
  (hsrc:∀j v,cs[j]? =some v->w.cell? (ad.add j)=some v) (hfit:off+cs.length<=cur.size) (h1:∀v∈cs,v.oneCell'=true)
  (new:Array Value) (hnew:new=(splice cur.toList off cs).toArray) (h:K (a.put o.dst (goInt cs.length)) (w.setRow g new)):
  if Region.wanted o (yielded ops a.tmps)=true then Oper.wp P o a w K Q else E:=by
 have hw:Region.wanted o (yielded ops a.tmps)=true:=by simp [Region.wanted,hgd]
 rw [if_pos hw];have hrun:=run_copy_row (P:=P) w dT sT o.type elem g off dLen dCap ad sLen sCap cur t cs hu hsz hg hn hsrc hfit h1;have e:(cur.toList.take off++cs++cur.toList.drop (off+cs.length)).toArray=new:=by rw [hnew];simp [splice]
 rw [e] at hrun;unfold Oper.wp;simp [execOp,ho,resolve,invoke,builtin,hd,hs,hrun,Result.andThen];exact h
theorem Jv (xs:List UInt8):∀v∈ax xs,v.oneCell'=true:=pV xs
theorem aV {P:Program} {fn:Func} {p u:Tmp} {ty:TypeId} (h:fn.results= #[.cell p ty, .tmp u]) (tmps:Array Value) (w:World) (g:Nat) (t:TypeId) (cs:Array Value) (fr:Nat×Nat) (d:TypeDesc)
  (hp:tmps.getD p undef= .pointer (some ⟨g,0,none⟩)) (hg:w.heap[g]? =some (.cells cs t fr))
  (hu:P.underlying ty=some d) (hd:(match d with| .struct _| .array _ _=>true|_=>false)=true) (hi:(P.info? ty).map (·.size)=some cs.size) (v:Value) (hv:tmps.getD u undef=v):
  (results fn tmps).run P w= .ok (.tuple #[.agg cs,v]) w:=by
 rw [results_cell_tmp h,hp,hv];simp [asAddr,Result.andThen,run_loadVar_row w g t ty cs fr d hg hu hd hi]
theorem IW {w:World} {B:Nat} {v:Value} {bs:List UInt8} (h:w.ownsRow B 5 1 v bs.length (bs.map Extern.Stop.cell)):
  ∃A c,v= .slice A bs.length c/\bs.length<=c/\c<=maxLen/\(A=none->c=0)/\BytesAt w w.heap.size A bs:=by
 obtain ⟨h0,⟨rfl,h⟩|⟨g,cap,cur,rfl,hg,hb,h1,h2,h3,h4⟩⟩:=h
 ·exact ⟨none,0,by rw [h],by omega,Nat.zero_le _,fun _=>rfl, .inl h⟩
 ·refine ⟨some ⟨g,0,none⟩,cap,rfl,h1,h2,(fun e=>nomatch e), .inr ⟨g,0,rfl,lu hb,fun j hj=>?_⟩⟩;have h5:(cur.toList.take (bs.length*1))[j]? =(bs.map Extern.Stop.cell)[j]? :=by rw [h4]
  rw [Nat.mul_one,List.getElem?_take_of_lt hj,List.getElem?_map] at h5;rw [Nat.zero_add,cell_of_row w g j _ _ _ hb];simp only [Array.getElem?_toList] at h5;rw [h5];simp [hj]
theorem aS {w w':World} {B b o:Nat} {cs:List Value} (h:w.rangeAt b o cs) (hb:Below B w w') (hB:b<B):w'.rangeAt b o cs:=fun j v hv=>(World.cell?_of_block (a:=⟨b,o+j,none⟩) (hb.block b hB)).trans (h j v hv)
def LI (lo:Nat) (w:World) (A:Option Addr) (zs:List Int):Prop:=
 zs.length=0\/∃b off,A=some ⟨b,off,none⟩/\lo<=b/\b<w.heap.size/\∀j,j<zs.length->w.cell? ⟨b,off+j,none⟩=some (I (zs[j]?.getD 0))
theorem LI.aK {lo:Nat} {w w':World} {A:Option Addr} {zs:List Int} (h:LI lo w A zs) (hs:w.heap.size<=w'.heap.size) (hb:∀k,lo<=k->k<w.heap.size->w'.heap[k]? =w.heap[k]?):LI lo w' A zs:=by
 rcases h with h|⟨b,off,hA,h1,h2,hc⟩
 ·exact .inl h
 ·exact .inr ⟨b,off,hA,h1,dP h2 hs,fun j hj=>(World.cell?_of_block (a:=⟨b,off+j,none⟩) (hb b h1 h2)).trans (hc j hj)⟩
theorem LI.lower {lo lo':Nat} {w:World} {A:Option Addr} {zs:List Int} (h:LI lo w A zs) (hl:lo'<=lo):LI lo' w A zs:=by
 rcases h with h|⟨b,off,hA,h1,h2,hc⟩
 ·exact .inl h
 ·exact .inr ⟨b,off,hA,Nat.le_trans hl h1,h2,hc⟩
theorem LI.ints {lo:Nat} {w:World} {A:Option Addr} {zs:List Int} (h:LI lo w A zs):ku w w.heap.size A zs:=by
 rcases h with h|⟨b,off,hA,h1,h2,hc⟩
 ·exact .inl h
 ·exact .inr ⟨b,off,hA,h2,hc⟩
theorem bI {lo e size n:Nat} {w w':World} {v:Value} {xs:List Value} (h:w.ownsRow lo e size v n xs) (hb:∀k,lo<=k->k<w.heap.size->w'.heap[k]? =w.heap[k]?):w'.ownsRow lo e size v n xs:=by
 refine ⟨h.1,?_⟩;rcases h.2 with h|⟨g,cap,cur,rfl,hg,hh,hr⟩
 ·exact .inl h
 ·exact .inr ⟨g,cap,cur,rfl,hg,(hb g hg (bV.1 hh).1).trans hh,hr⟩
section
variable {P:Program} {ops:Array Oper} {Q:Exit->Act->World->Prop} {a:Act} {w:World} {rest:List Oper} {d:Option Tmp} {t:TypeId} {pos:String} {af:Array Edge} {g:Option (Nat×Bool)}
theorem dY (ty:TypeId) {x:Operand} (h:wpList P ops Q (⟨d, .load ty x,t,pos,af,g⟩::rest) a w):wpList P ops Q (⟨d, .load ty x,t,pos,af,g⟩::rest) a w:=h
theorem bY (ty:TypeId) {x y:Operand} (h:wpList P ops Q (⟨d, .store ty x y,t,pos,af,g⟩::rest) a w):wpList P ops Q (⟨d, .store ty x y,t,pos,af,g⟩::rest) a w:=h
end
theorem vW (a:Nat) (ha:a<=1000000) (w:World):Calls Tryz.prog 146 #[I a] w fun e w'=>e= .returned (.int .u64 a)/\w'=w:=by
 have h0:¬(a:Int)<0:=by omega
 have hw:IntKind.u64.wrap (a:Int)=a:=by rw [IntKind.wrap_u64];omega
 go_enter Tryz.func146,Tryz.ntmps146
 go_wp2
 go_ret;exact ⟨rfl,rfl⟩
def UA:Value->Nat
 | .int _ n=>n.toNat
 |_=>0
theorem XO (a b:Nat) (ha:a<=1000000) (hb:b<=1000000) (w:World):Calls Tryz.prog 133 #[I a,I b] w fun e w'=>e= .returned (I (Nat.gcd a b))/\∃m,w'=w.drewN m:=by
 go_enter Tryz.func133,Tryz.ntmps133;go_wp2_with fail;refine (vW a ha _).mono ?_;rintro e w1 ⟨rfl,rfl⟩;go_wp2_with fail;refine (vW b hb _).mono ?_;rintro e w2 ⟨rfl,rfl⟩;go_wp2_with fail
 go_loopw [5,6] (fun u v wr=>∃x y:Nat,u= .int .u64 x/\v= .int .u64 y/\x<=1000000/\y<=1000000/\Nat.gcd x y=Nat.gcd a b/\∃m,wr=w2.drewN m) (fun _ v _=>UA v)
 case atStart=>exact ⟨a,b,rfl,rfl,ha,hb,rfl,0,rfl⟩
 case round=>
  obtain ⟨x,y,rfl,rfl,hx,hy,hg,mq,rfl⟩:=hrel;have HG:=ae hg;clear hg;by_cases hy0:y=0
  ·subst hy0;have hq:¬(9223372036854775807:Int)<(x:Int):=by omega
   have hw:IntKind.i64.wrap (x:Int)=x:=by rw [IntKind.wrap_i64];omega
   go_wp2_with fail;go_ret;refine ⟨?_,mq,rfl⟩;have:=HG.out;rw [Nat.gcd_zero_right] at this;rw [this];rfl
  ·have hy1:¬(y:Int)=0:=by omega
   have hy2:((y:Int) !=0)=true:=by simp [hy0]
   have hlt:x%y<y:=Nat.mod_lt _ (by omega);obtain ⟨z,hz⟩:∃z,x%y=z:=⟨_,rfl⟩;have hm:(x:Int)%(y:Int)=(z:Int):=by omega
   have hm2:Int.tmod (x:Int) (y:Int)=(z:Int):=by rw [Int.tmod_eq_emod_of_nonneg (by omega)];exact hm
   rw [hz] at hlt;have HZ:=ae hz;have hw:IntKind.u64.wrap (z:Int)=(z:Int):=by rw [IntKind.wrap_u64];omega
   clear hz;go_wp2_with fail;go_quiet (fail);go_wp2_with fail;go_roundw
   case rel=>exact ⟨y,z,rfl,by first|rfl|go_num,hy,by omega,by rw [<-HG.out,Nat.gcd_comm x y,Nat.gcd_rec y x,Nat.gcd_comm,HZ.out],_,World.drewN_drewN _ _ _⟩
   case measure=>simp [UA];omega
theorem X5 (a b:Nat) (ha:1<=a) (ha2:a<=100000) (hb:1<=b) (hb2:b<=100000) (w:World):Calls Tryz.prog 123 #[I a,I b] w fun e w'=>e= .returned (.tuple #[I (Nat.lcm a b),I 0])/\∃m,w'=w.drewN m:=by
 have HG:=ae (XO a b (by omega) (by omega) w);have h1:¬(a:Int)<1:=by omega
 have h2:¬(b:Int)<1:=by omega
 have Ig:0<Nat.gcd a b:=Nat.gcd_pos_of_pos_left _ ha;have hl:a / Nat.gcd a b*b=Nat.lcm a b:=by
  have e:=Nat.lcm_eq_mul_div a b;rw [e,Nat.div_mul_right_comm (Nat.gcd_dvd_left a b)]
 obtain ⟨g,hg⟩:∃g,Nat.gcd a b=g:=⟨_,rfl⟩;rw [hg] at HG Ig hl;obtain ⟨r,hr⟩:∃r,a / g=r:=⟨_,rfl⟩;have hr4:r<=100000:=by rw [<-hr];exact Nat.le_trans (Nat.div_le_self _ _) ha2
 have hq:Int.tdiv (a:Int) (g:Int)=(r:Int):=by rw [<-hr];rfl
 have hq':(a:Int) / (g:Int)=(r:Int):=by rw [<-hr];rfl
 obtain ⟨t,ht⟩:∃t,1099511627776 / b=t:=⟨_,rfl⟩;have ht4:100000<=t:=by rw [<-ht,Nat.le_div_iff_mul_le (by omega)];omega
 have hq2:Int.tdiv 1099511627776 (b:Int)=(t:Int):=by rw [<-ht];rfl
 have hq2':(1099511627776:Int) / (b:Int)=(t:Int):=by rw [<-ht];rfl
 have hbig:¬(t:Int)<(r:Int):=by omega
 have hwr:IntKind.i64.wrap (r:Int)=r:=by rw [IntKind.wrap_i64];omega
 have ht5:t<=1099511627776:=by rw [<-ht];exact Nat.div_le_self _ _
 have hwt:IntKind.i64.wrap (t:Int)=t:=by rw [IntKind.wrap_i64];omega
 rw [hr] at hl;have hp:(r:Int)*(b:Int)=((Nat.lcm a b:Nat):Int):=by rw [<-hl];exact (Int.natCast_mul r b).symm
 have hlb:Nat.lcm a b<=10000000000:=by rw [<-hl];exact Nat.mul_le_mul hr4 hb2
 obtain ⟨m,hm⟩:∃m,Nat.lcm a b=m:=⟨_,rfl⟩;rw [hm] at hp hlb ⊢;have hwm:IntKind.i64.wrap (m:Int)=m:=by rw [IntKind.wrap_i64];omega
 have hg0:¬(g:Int)=0:=by omega
 have hb0:¬(b:Int)=0:=by omega
 clear hr ht hl hm hg;go_enter Tryz.func123,Tryz.ntmps123;go_wp2_with fail;refine HG.out.mono ?_;rintro e w1 ⟨rfl,mq,rfl⟩;go_wp2_with fail;go_ret2;exact ⟨rfl,mq,rfl⟩
structure Lr where
 every:Int
 rest:Int
 yes:Bool
theorem X6 (a b:Nat) (ha:1<=a) (ha2:a<=400) (hb:1<=b) (hb2:b<=400) (w:World):Calls Tryz.prog 123 #[I a,I b] w fun e w'=>e= .returned (.tuple #[I (Nat.lcm a b),I 0])/\Below w.heap.size w w':=
 (X5 a b ha (by omega) hb (by omega) w).mono fun _ _ ⟨h1,m,h2⟩=>⟨h1,by rw [h2];exact below_drewN' _ _⟩
def Lr.cells (r:Lr):List Value:= [I r.every,I r.rest, .bool r.yes]
def EG (w:World) (B:Nat) (A:Option Addr) (rs:List Lr):Prop:=
 rs.length=0\/∃b,A=some ⟨b,0,none⟩/\b<B/\∀k x,rs[k]? =some x->w.rangeAt b (k*3) x.cells
theorem EG.keep {w w':World} {B:Nat} {A:Option Addr} {rs:List Lr} (h:EG w B A rs) (hb:Below B w w'):EG w' B A rs:=by
 rcases h with h|⟨b,h1,h2,h3⟩
 ·exact .inl h
 ·exact .inr ⟨b,h1,h2,fun k x hx=>aS (h3 k x hx) hb h2⟩
theorem EG.more {w:World} {B B':Nat} {A:Option Addr} {rs:List Lr} (h:EG w B A rs) (hB:B<=B'):EG w B' A rs:=by
 rcases h with h|⟨b,h1,h2,h3⟩
 ·exact .inl h
 ·exact .inr ⟨b,h1,by omega,h3⟩
structure Cal where
 bn:Int
 au:List Int
 dA:Int
 rules:List Lr
def aI (c:Cal) (A:Option Addr) (ca:Nat) (B:Option Addr) (cb:Nat):Array Value:= #[I c.bn, .slice A c.au.length ca,I c.dA, .slice B c.rules.length cb]
attribute [local go_sem] aI
end Go.Proofs.YtbaehbbonkljpaaGreatDoor
namespace Go.Proofs.YtbaehbbonkljpaaGreatDoor
open Go Go.RowKit
structure gB (mb:Nat) (w w':World):Prop where
 os:w'.os=w.os
 tape:w'.tape=w.tape
 output:w'.output=w.output
 size:w.heap.size<=w'.heap.size
 block:∀k,k<w.heap.size->k≠mb->w'.heap[k]? =w.heap[k]?
theorem gB.refl (mb:Nat) (w:World):gB mb w w:=⟨rfl,rfl,rfl,Nat.le_refl _,fun _ _ _=>rfl⟩
theorem gB.trans {mb:Nat} {w w1 w2:World} (h:gB mb w w1) (k:gB mb w1 w2):gB mb w w2:=
 ⟨k.os.trans h.os,k.tape.trans h.tape,k.output.trans h.output,Nat.le_trans h.size k.size,fun b hb hn=>(k.block b (dP hb h.size) hn).trans (h.block b hb hn)⟩
theorem gB.of_below {mb:Nat} {w w':World} (h:Below w.heap.size w w'):gB mb w w':=⟨h.os,h.tape,h.output,h.size,fun k hk _=>h.block k hk⟩
theorem gB.below {mb B:Nat} {w w':World} (h:gB mb w w') (hB:B<=mb) (hs:B<=w.heap.size):Below B w w':=⟨h.os,h.tape,h.output,h.size,fun k hk=>h.block k (by omega) (by omega)⟩
theorem gB.set {mb:Nat} {w w1:World} (h:gB mb w w1) (o:Nat) (u:Value):gB mb w (w1.setCell ⟨mb,o,none⟩ u):=
 ⟨h.os,h.tape,h.output,by simpa [World.setCell] using h.size,fun b hb hn=>(heap_setCell_other w1 _ b u hn).trans (h.block b hb hn)⟩
theorem aX {w:World} {base base' e size n:Nat} {v:Value} {xs:List Value} (h:w.ownsRow base e size v n xs) (hb:base'<=base):w.ownsRow base' e size v n xs:=by
 refine ⟨h.1,?_⟩;rcases h.2 with h|⟨g,cap,cur,rfl,hg,hh⟩
 ·exact .inl h
 ·exact .inr ⟨g,cap,cur,rfl,Nat.le_trans hb hg,hh⟩
theorem addr_add (g j:Nat):(⟨g,0,none⟩:Addr).add j=⟨g,j,none⟩:=by unfold Addr.add;split<;>simp_all
theorem xx:(Tryz.prog.info? 3).map (fun i=>(i.zero,i.size,i.bytes))=some (some (.int .i64 0),1,8):=by kernel_rfl
theorem Eb {mb base e size n:Nat} {w w':World} {v:Value} {xs:List Value} (h:w.ownsRow base e size v n xs) (hk:gB mb w w') (hb:mb<base):w'.ownsRow base e size v n xs:=by
 refine ⟨h.1,?_⟩;rcases h.2 with h|⟨g,cap,cur,rfl,hg,hh,hr⟩
 ·exact .inl h
 ·exact .inr ⟨g,cap,cur,rfl,hg,(hk.block g (bV.1 hh).1 (by omega)).trans hh,hr⟩
theorem jX {α:Type} (xs:List α) (k:Nat) (x:α) (h:xs[k]? =some x):xs.take (k+1)=xs.take k++ [x]:=by rw [List.take_add_one,h];rfl
def aA (w:World) (B:Nat) (A:Option Addr) (cs:List Value):Prop:=
 cs.length=0\/∃b off,A=some ⟨b,off,none⟩/\b<B/\∀j u,cs[j]? =some u->w.cell? ⟨b,off+j,none⟩=some u
section
variable {w w':World} {B B':Nat} {A:Option Addr} {cs:List Value}
theorem aA.keep (h:aA w B A cs) (hb:Below B w w'):aA w' B A cs:=by
 rcases h with h|⟨b,off,h1,h2,h3⟩
 ·exact .inl h
 ·exact .inr ⟨b,off,h1,h2,fun j u hu=>(hb.cell (p:=⟨b,off+j,none⟩) h2).trans (h3 j u hu)⟩
theorem aA.more (h:aA w B A cs) (hB:B<=B'):aA w B' A cs:=by
 rcases h with h|⟨b,off,h1,h2,h3⟩
 ·exact .inl h
 ·exact .inr ⟨b,off,h1,by omega,h3⟩
theorem aA.grow (h:aA w w.heap.size A cs) (hb:Below w.heap.size w w'):aA w' w'.heap.size A cs:=(h.keep hb).more hb.size
theorem aA.nil:aA w B A []:= .inl rfl
theorem aA.drew (h:aA w B A cs):aA w.drew B A cs:=h
theorem aA.there (h:aA w B A cs) (h0:0<cs.length):∃b off,A=some ⟨b,off,none⟩/\b<B/\∀j u,cs[j]? =some u->w.cell? ⟨b,off+j,none⟩=some u:=by
 rcases h with h|h
 ·omega
 ·exact h
theorem aA.dR {lo e size n c:Nat} (h:w.ownsRow lo e size (.slice A n c) n cs):aA w w.heap.size A cs:=by
 rcases h.2 with ⟨hv,hn⟩|⟨g,cap,cur,hv,_,hh,_⟩
 ·refine .inl ?_;rw [h.1,hn,Nat.zero_mul]
 ·injection hv with h1 _ _;subst h1;exact .inr ⟨g,0,rfl,(bV.1 hh).1,fun j u hu=>by rw [Nat.zero_add,<-addr_add];exact h.cells (g:=g) rfl j u hu⟩
theorem aA.ints {zs:List Int} (h:aA w B A (zs.map I)):ku w B A zs:=by
 rcases h with h|⟨b,off,h1,h2,h3⟩
 ·exact .inl (by simpa using h)
 ·refine .inr ⟨b,off,h1,h2,fun j hj=>?_⟩;rw [h3 j (I zs[j]) (by rw [List.getElem?_map,bK hj];rfl),bK hj];rfl
theorem aA.bytes {bs:List UInt8} (h:aA w B A (bs.map Extern.Stop.cell)):BytesAt w B A bs:=by
 rcases h with h|⟨b,off,h1,h2,h3⟩
 ·exact .inl (by simpa using h)
 ·refine .inr ⟨b,off,h1,h2,fun j hj=>?_⟩;rw [h3 j (Extern.Stop.cell bs[j]) (by rw [List.getElem?_map,bK hj];rfl),bK hj];rfl
end
theorem flat_get {α:Type} {s:Nat} (f:α->List Value) (xs:List α) (hs:∀x∈xs,(f x).length=s) (k j:Nat) (x:α) (hx:xs[k]? =some x) (hj:j<s):(xs.flatMap f)[k*s+j]? =(f x)[j]? :=by
 induction xs generalizing k with
 |nil=>cases hx
 |cons y xs ih=>
  rw [List.flatMap_cons];have hy:=hs y (List.mem_cons_self ..);cases k with
  |zero=>
   injection hx with hx;subst hx;rw [Nat.zero_mul,Nat.zero_add,List.getElem?_append_left (by rw [hy];exact hj)]
  |succ k=>
   rw [List.getElem?_append_right (by rw [hy,Nat.succ_mul];omega),hy,show (k+1)*s+j - s=k*s+j by rw [Nat.succ_mul];omega];exact ih (fun x hx=>hs x (List.mem_cons_of_mem _ hx)) k hx
theorem bZ {α:Type} {s:Nat} (f:α->List Value) (xs:List α) (hs:∀x∈xs,(f x).length=s):(xs.flatMap f).length=xs.length*s:=by
 induction xs with
 |nil=>simp
 |cons y xs ih=>rw [List.flatMap_cons,bF,ih (fun x hx=>hs x (List.mem_cons_of_mem _ hx)),hs y (List.mem_cons_self ..),List.length_cons,Nat.succ_mul];omega
theorem Gj {α:Type} (f:α->List Value) (xs:List α) (h1:∀x∈xs,∀u∈f x,u.oneCell'=true):∀u∈xs.flatMap f,u.oneCell'=true:=by
 intro u hu;obtain ⟨x,hm,hx⟩:=List.mem_flatMap.1 hu;exact h1 x hm u hx
theorem aA.elem {α:Type} {w:World} {s b off:Nat} {f:α->List Value} {xs:List α} (hs:∀x∈xs,(f x).length=s) (h:∀j u,(xs.flatMap f)[j]? =some u->w.cell? ⟨b,off+j,none⟩=some u) (k:Nat) (x:α) (hx:xs[k]? =some x):w.rangeAt b (off+k*s) (f x):=by
 intro j u hu;have hj:j<s:=by rw [<-hs x (gZ hx)];exact (gQ.1 hu).1
 rw [Nat.add_assoc];exact h _ u (by rw [flat_get f xs hs k j x hx hj];exact hu)
structure Tr where
 at_:Int
 off:Int
structure Yr where
 month:Int
 cZ:Int
 dh:Int
 minute:Int
 off:Int
structure Zn where
 cal:Cal
 start:Int
 trans:List Tr
 hor:Int
 aH:List Yr
structure Zs where
 A:Option Addr
 a:Nat
 B:Option Addr
 b:Nat
 C:Option Addr
 c:Nat
 D:Option Addr
 d:Nat
def ay (z:Zn) (s:Zs):Array Value:= #[I z.cal.bn, .slice s.A z.cal.au.length s.a,I z.cal.dA, .slice s.B z.cal.rules.length s.b,I z.start, .slice s.C z.trans.length s.c,I z.hor, .slice s.D z.aH.length s.d]
theorem Kt (n l:Int) (w:World) (hl:0<=l/\l<=4503599627370496):Calls Tryz.prog 89 #[I n,I l] w fun e w'=>e= .returned (.bool (decide (-l<=n)&&decide (n<=l)))/\w'=w:=by
 have hw:IntKind.i64.wrap (-l)= -l:=by rw [IntKind.wrap_i64];omega
 by_cases h1: -l<=n
 ·by_cases h2:n<=l
  ·have e:(decide (-l<=n)&&decide (n<=l))=true:=by rw [decide_eq_true h1,decide_eq_true h2];rfl
   rw [e];go_enter Tryz.func89,Tryz.ntmps89
   go_wp2
   go_ret;exact ⟨rfl,rfl⟩
  ·have e:(decide (-l<=n)&&decide (n<=l))=false:=by rw [decide_eq_false h2];simp
   rw [e];go_enter Tryz.func89,Tryz.ntmps89
   go_wp2
   go_ret;exact ⟨rfl,rfl⟩
 ·have e:(decide (-l<=n)&&decide (n<=l))=false:=by rw [decide_eq_false h1];simp
  rw [e];go_enter Tryz.func89,Tryz.ntmps89
  go_wp2
  go_ret;exact ⟨rfl,rfl⟩
theorem l9 (z:Zn) (s:Zs):(Tryz.prog.info? 69).map (·.size)=some (ay z s).size:=by kernel_rfl
theorem Dv (z:Zn) (s:Zs):(ay z s).all (·.oneCell')=true:=by kernel_rfl
theorem fH {P:Program} {fn:Func} {p q:Tmp} {t1 t2:TypeId} (h:fn.results= #[.cell p t1, .cell q t2]) (tmps:Array Value) (w:World) (a b:Addr) (u v:Value)
  (hp:tmps.getD p undef= .pointer (some a)) (hu:(loadVar t1 a).run P w= .ok u w) (hq:tmps.getD q undef= .pointer (some b)) (hv:(loadVar t2 b).run P w= .ok v w):
  (results fn tmps).run P w= .ok (.tuple #[u,v]) w:=by
 have hp':tmps[p]?.getD undef= .pointer (some a):=by simpa using hp
 have hq':tmps[q]?.getD undef= .pointer (some b):=by simpa using hq
 simp [results,h,hp',hq',asAddr,hu,hv]
theorem wM (W:World) (a:Addr) (b:Nat) (h:W.cell? a=some (pt b)):(loadVar 140 a).run Tryz.prog W= .ok (pt b) W:=by
 simp [go_sem,h]
theorem mY (W:World) (a:Addr) (b:Bool) (h:W.cell? a=some (.bool b)):(loadVar 4 a).run Tryz.prog W= .ok (.bool b) W:=by
 simp [go_sem,h]
structure ZO (w:World) (cs:Array Value) (W:World):Prop where
 row:Row W w.heap.size cs
 r1:W.heap[w.heap.size+1]? =some (.cells #[.pointer none] 140 (0,0))
 r2:W.heap[w.heap.size+2]? =some (.cells #[.bool false] 4 (0,0))
 up:Below w.heap.size w W
theorem ZO.below {w W W':World} {cs:Array Value} (h:ZO w cs W) (hb:Below W.heap.size W W'):ZO w cs W':=
 ⟨h.row.keep hb,(hb.block _ (bV.1 h.r1).1).trans h.r1,(hb.block _ (bV.1 h.r2).1).trans h.r2,ah h.up hb⟩
theorem VK (w:World) (cs:Array Value):ZO w cs (((w.alloc (.cells cs 69)).alloc (.cells #[.pointer none] 140)).alloc (.cells #[.bool false] 4)):=by
 have b0:=ag w (.cells cs 69);have r0:=Row.new w cs 69;obtain ⟨W1,hW1⟩:∃W,w.alloc (.cells cs 69)=W:=⟨_,rfl⟩;have hs1:W1.heap.size=w.heap.size+1:=by rw [<-hW1];simp
 rw [hW1] at b0 r0 ⊢;have b1:=ag W1 (.cells #[.pointer none] 140);have h1:=heap_alloc_last W1 (.cells #[.pointer none] 140);obtain ⟨W2,hW2⟩:∃W,W1.alloc (.cells #[.pointer none] 140)=W:=⟨_,rfl⟩;have hs2:W2.heap.size=w.heap.size+2:=by rw [<-hW2];simp [hs1]
 rw [hW2] at b1 h1 ⊢;rw [hs1] at h1;have b2:=ag W2 (.cells #[.bool false] 4);have h2:=heap_alloc_last W2 (.cells #[.bool false] 4);rw [hs2] at h2;exact ⟨(r0.keep b1).keep b2,(b2.block _ (by omega)).trans h1,h2,ah (ah b0 b1) b2⟩
structure Ze where
 name:ByteArray
 z:Zn
structure dw where
 e:Ze
 s:Zs
def dw.cells (x:dw):Array Value:= #[.string x.e.name,I x.e.z.cal.bn, .slice x.s.A x.e.z.cal.au.length x.s.a,I x.e.z.cal.dA, .slice x.s.B x.e.z.cal.rules.length x.s.b,I x.e.z.start, .slice x.s.C x.e.z.trans.length x.s.c,I x.e.z.hor, .slice x.s.D x.e.z.aH.length x.s.d]
structure Tb where
 bG:Int
 version:Int
 aO:Int
 prev:List UInt8
 bP:List UInt8
 aF:List Ze
def jy (t:Tb) (vz:Value):List Value:= [I t.bG,I t.version,I t.aO,vz]++(ax t.prev++ax t.bP)
def ai (t:Tb) (vz:Value):Array Value:=(jy t vz).toArray
section
variable (t:Tb) (vz:Value)
theorem ja:(ai t vz)[0]? =some (I t.bG):=rfl
theorem jb:(ai t vz)[1]? =some (I t.version):=rfl
theorem jc:(ai t vz)[2]? =some (I t.aO):=rfl
theorem bC:(ai t vz)[3]? =some vz:=rfl
theorem bf (h:t.prev.length=32) (h2:t.bP.length=32):(ai t vz).size=68:=by simp [ai,jy,ax,h,h2]
theorem bD (h:t.prev.length=32) (h2:t.bP.length=32):(Tryz.prog.info? 26).map (·.size)=some (ai t vz).size:=by rw [bf t vz h h2];kernel_rfl
theorem uU {W:World} {b:Nat} (hr:Row W b (ai t vz)):W.rangeAt b 4 (ax t.prev):=fun j v hv=>by
 rw [hr.2 (4+j)];unfold ai jy;rw [List.getElem?_toArray,List.getElem?_append_right (by simp)];have hj:=(gQ.1 hv).1;rw [show 4+j - [I t.bG,I t.version,I t.aO,vz].length=j by simp,List.getElem?_append_left hj];exact hv
theorem NH {W:World} {b:Nat} (hr:Row W b (ai t vz)) (hp:t.prev.length=32):W.rangeAt b 36 (ax t.bP):=fun j v hv=>by
 rw [hr.2 (36+j)];unfold ai jy;have hl:(ax t.prev).length=32:=by simp [ax,hp]
 rw [List.getElem?_toArray,List.getElem?_append_right (by simp;omega),List.getElem?_append_right (by simp [hl];omega)];rw [show 36+j - [I t.bG,I t.version,I t.aO,vz].length - (ax t.prev).length=j by simp [hl];omega];exact hv
end
def y7 (w:World) (B:Nat) (A:Option Addr) (zs:List dw):Prop:=
 zs.length=0\/∃b,A=some ⟨b,0,none⟩/\b<B/\∀k x,zs[k]? =some x->w.rangeAt b (k*9) x.cells.toList/\ku w B x.s.A x.e.z.cal.au
theorem y7.keep {w w':World} {B:Nat} {A:Option Addr} {zs:List dw} (h:y7 w B A zs) (hb:Below B w w'):y7 w' B A zs:=by
 rcases h with h|⟨b,h1,h2,h3⟩
 ·exact .inl h
 ·exact .inr ⟨b,h1,h2,fun k x hx=>⟨aS (h3 k x hx).1 hb h2,(h3 k x hx).2.keep hb⟩⟩
theorem y7.more {w:World} {B B':Nat} {A:Option Addr} {zs:List dw} (h:y7 w B A zs) (hB:B<=B'):y7 w B' A zs:=by
 rcases h with h|⟨b,h1,h2,h3⟩
 ·exact .inl h
 ·exact .inr ⟨b,h1,by omega,fun k x hx=>⟨(h3 k x hx).1,(h3 k x hx).2.more hB⟩⟩
section
variable {P:Program} {ops:Array Oper} {Q:Exit->Act->World->Prop} {a:Act} {w:World} {rest:List Oper} {o:Oper}
theorem dn (hw:Region.wanted o (yielded ops a.tmps)=true) (ty:TypeId) (x:Operand) (ho:o.op= .load ty x) (g off:Nat) (hx:a.eval x= .pointer (some ⟨g,off,none⟩)) (cs:List Value) (hr:w.rangeAt g off cs)
  (d:TypeDesc) (hu:P.underlying ty=some d) (hd:d.isRow=true) (hi:(P.info? ty).map (·.size)=some cs.length)
  (h:wpList P ops Q rest (a.put o.dst (.agg cs.toArray)) w):wpList P ops Q (o::rest) a w:=by
 unfold wpList;rw [if_pos hw];exact .inl (wp_load_mid ty x ho g off hx cs d hr hu hd hi h)
end
end Go.Proofs.YtbaehbbonkljpaaGreatDoor
