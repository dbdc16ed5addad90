/- The texts Aid, Data, Qa, Pl, Pm, TrA, Back, Qb, RsP, in this order. -/
import Derived.Test.YtbaehbbonkljpaaGreatR00
import Derived.Test.YtbaehbbonkljpaaGreatProg
import Derived.Defers
import Derived.Laws.BitsAllLaws
import Derived.Laws.BytesArg
import Derived.Laws.Cover3
import Derived.Lib.AppendStr
import Derived.Lib.ByteType
import Derived.MapKept
import Derived.Recover
set_option maxRecDepth 10000
set_option maxHeartbeats 8000000
namespace Go.Proofs.YtbaehbbonkljpaaGreat
open Go Go.RowKit
section
variable {P:Program} {ops:Array Oper} {Q:Exit→Act→World→Prop} {a:Act} {w:World} {rest:List Oper} {o o2:Oper}
theorem bn {t:TypeId} (hg:o.guard=none) (parts:Array (Nat×Operand)) (ho:o.op= .build t parts) (cells:Array Value)
  (hb:P.built t (parts.map fun (i,x)=>(i,a.eval x)).toList=some cells)
  (h:wpList P ops Q rest (a.put o.dst (.agg cells)) w):wpList P ops Q (o::rest) a w:=
 wpList_plain hg fun _ hK=>wp_build t parts ho (by rw [hb];rfl) (by rw [hb];exact hK _ _ h)
theorem kC (w:World) (t:TypeId) (z:Value) (n:Nat) (hz:(P.info? t).map (fun i=>(i.zero,i.size))=some (some z,n)):
  (Instr.alloc t true (.tuple #[])).run P w= .ok (.pointer (some ⟨w.heap.size,0,none⟩)) (w.alloc (.cells z.cells t)):=by
 have h0:=(zero_of_info hz).1 w;simp [Instr.alloc,newVar,newRow,h0]
theorem fA (hg:o.guard=none) (hg2:o2.guard=none) (t:TypeId) (d:Tmp) (y:Operand) (ho:o.op= .alloc t) (hd:o.dst=some d) (ho2:o2.op= .store t (.tmp d) y) (hd2:o2.dst=none)
  (z:Value) (cells:Array Value) (hz:(P.info? t).map (fun i=>(i.zero,i.size))=some (some z,cells.size)) (hzs:z.cells.size=cells.size)
  (hy:(a.put (some d) (.pointer (some ⟨w.heap.size,0,none⟩))).eval y= .agg cells) (hdl:Nat.ble (d+1) a.tmps.size=true) (h1:cells.all (·.oneCell')=true)
  (h:wpList P ops Q rest (a.put (some d) (.pointer (some ⟨w.heap.size,0,none⟩))) (w.alloc (.cells cells t))):wpList P ops Q (o::o2::rest) a w:=by
 refine wpList_plain hg fun K hK=>?_;unfold Oper.wp execOp;simp only [ho,Sem.run_bind,kC w t z _ hz,Result.andThen_ok];refine hK _ _ ?_;rw [hd];refine wpList_plain hg2 fun K2 hK2=>?_;unfold Oper.wp execOp;have hx:(a.put (some d) (.pointer (some ⟨w.heap.size,0,none⟩))).eval (.tmp d)= .pointer (some ⟨w.heap.size,0,none⟩):=by
  have hlt:d<a.tmps.size:=Nat.le_of_ble_eq_true hdl;simp [Act.eval,Act.put,hlt]
 simp only [ho2,hx,hy,Sem.run_bind,run_storeAt_new w t z.cells cells (zero_of_info hz).2 hzs h1,Result.andThen_ok];refine hK2 _ _ ?_;rw [hd2];exact h
end
structure Mv where
 day:Int
 drop:Bool
 toDay:Int
 minute:Int
 length:Int
structure Nd where
 kind:Int
 cal:Int
 l:Int
 r:Int
 n:Int
 m:Int
 list:List Int
 name:ByteArray
structure Ser where
 rule:List Nd
 minute:Int
 length:Int
 zone:ByteArray
 gap:Int
 fold:Int
 moves:List Mv
structure Lt where
 kind:Int
 src:Int
 dst:Int
 meeting:Int
 edition:Int
 bV:Int
 version:Int
 person:Int
 other:Int
 resource:Int
 scope:Int
 day:Int
 move:Mv
 series:Ser
 deadline:Int
 state:Int
 grain:Int
 wfrom:Int
 wto:Int
 cells:List Int
 ref:List UInt8
abbrev I (n:Int):Value:= .int .i64 n
def ay (r:List UInt8):List Value:=r.map Extern.Stop.cell
def Gives (v:Value) (w:World) (e:Ending) (w':World):Prop:=e= .returned v∧Below w.heap.size w w'
def jU (w:World) (B:Nat) (A:Option Addr) (zs:List Int):Prop:=
 zs.length=0∨∃b off,A=some ⟨b,off,none⟩∧b<B∧∀j,j<zs.length→w.cell? ⟨b,off+j,none⟩=some (I (zs[j]?.getD 0))
theorem jU.keep {w w':World} {B:Nat} {A:Option Addr} {zs:List Int} (h:jU w B A zs) (hb:Below B w w'):jU w' B A zs:=by
 rcases h with h|⟨b,off,hA,hbB,hc⟩
 ·exact .inl h
 ·exact .inr ⟨b,off,hA,hbB,fun j hj=>(hb.cell (p:=⟨b,off+j,none⟩) hbB).trans (hc j hj)⟩
theorem jU.more {w:World} {B B':Nat} {A:Option Addr} {zs:List Int} (h:jU w B A zs) (hB:B≤B'):jU w B' A zs:=by
 rcases h with h|⟨b,off,hA,hbB,hc⟩
 ·exact .inl h
 ·exact .inr ⟨b,off,hA,by omega,hc⟩
theorem FC (a b:Int):(a !=b)=decide (a≠b):=by
 rw [Bool.eq_iff_iff];simp
def BytesAt (w:World) (B:Nat) (A:Option Addr) (bs:List UInt8):Prop:=
 bs.length=0∨∃b off,A=some ⟨b,off,none⟩∧b<B∧∀j,j<bs.length→w.cell? ⟨b,off+j,none⟩=some (Extern.Stop.cell (bs[j]?.getD 0))
theorem BytesAt.keep {w w':World} {B:Nat} {A:Option Addr} {bs:List UInt8} (h:BytesAt w B A bs) (hb:Below B w w'):BytesAt w' B A bs:=by
 rcases h with h|⟨b,off,hA,hbB,hc⟩
 ·exact .inl h
 ·exact .inr ⟨b,off,hA,hbB,fun j hj=>(hb.cell (p:=⟨b,off+j,none⟩) hbB).trans (hc j hj)⟩
theorem BytesAt.more {w:World} {B B':Nat} {A:Option Addr} {bs:List UInt8} (h:BytesAt w B A bs) (hB:B≤B'):BytesAt w B' A bs:=by
 rcases h with h|⟨b,off,hA,hbB,hc⟩
 ·exact .inl h
 ·exact .inr ⟨b,off,hA,by omega,hc⟩
theorem RN {x y:UInt8} (h:x≠y):((x.toNat:Int) !=(y.toNat:Int))=true:=by
 rw [FC];exact decide_eq_true (fun e=>h (UInt8.toNat_inj.1 (by omega)))
theorem KF (x:UInt8):((x.toNat:Int) !=(x.toNat:Int))=false:=by
 rw [FC];exact decide_eq_false (by omega)
theorem below_drewN' (w:World) (k:Nat):Below w.heap.size w (w.drewN k):=below_drewN (Below.refl _ _) k
def Row (w:World) (b:Nat) (cs:Array Value):Prop:=b<w.heap.size∧∀i,w.cell? ⟨b,i,none⟩=cs[i]?
theorem Row.keep {w w':World} {b:Nat} {cs:Array Value} (h:Row w b cs) (hb:Below w.heap.size w w'):Row w' b cs:=
 ⟨dW h.1 hb.size,fun i=>(hb.cell (p:=⟨b,i,none⟩) h.1).trans (h.2 i)⟩
theorem Row.new (w:World) (cs:Array Value) (t:TypeId):Row (w.alloc (.cells cs t)) w.heap.size cs:=
 ⟨by simp,fun i=>by rw [World.cell?_alloc_at _ _ _ _ rfl]⟩
theorem ai {w w1 w2:World} (h:Below w.heap.size w w1) (h2:Below w1.heap.size w1 w2):Below w.heap.size w w2:=h.trans (h2.mono h.size)
def byteOf (n:Int):UInt8:=UInt8.ofNat (n%256).toNat
theorem fQ (n:Int):Extern.Stop.cell (byteOf n)= .int .u8 (n%256):=by
 have h0:0≤n%256:=Int.emod_nonneg _ (by omega);have h1:n%256<256:=Int.emod_lt_of_pos _ (by omega);have h2:(n%256).toNat<256:=by omega
 have h3:(UInt8.ofNat (n%256).toNat).toNat=(n%256).toNat:=by rw [UInt8.toNat_ofNat'];exact Nat.mod_eq_of_lt h2
 show Value.int .u8 (((UInt8.ofNat (n%256).toNat).toNat:Nat):Int)=_;rw [h3,Int.toNat_of_nonneg h0]
def le:Int→Nat→List UInt8
 |_,0=> []
 |n,s+1=>byteOf n::le (n / 256) s
def jQ:Int→Nat→Int
 |n,0=>n
 |n,k+1=>jQ n k / 256
theorem I8 (n:Int) (k:Nat):jQ (n / 256) k=jQ n (k+1):=by
 induction k with
 |zero=>rfl
 |succ k ih=>show jQ (n / 256) k / 256=_;rw [ih];rfl
theorem FB (n:Int) (k:Nat):le n (k+1)=le n k++ [byteOf (jQ n k)]:=by
 induction k generalizing n with
 |zero=>rfl
 |succ k ih=>rw [le,ih,I8];rfl
theorem aC (n:Int) (k:Nat):(le n k).length=k:=by
 induction k generalizing n with
 |zero=>rfl
 |succ k ih=>simp [le,ih]
theorem Mc (n:Int) (k:Nat) (h0: -9223372036854775808≤n) (h1:n≤9223372036854775807): -9223372036854775808≤jQ n k∧jQ n k≤9223372036854775807:=by
 induction k with
 |zero=>exact ⟨h0,h1⟩
 |succ k ih=>unfold jQ;omega
structure iE (g:Nat) (v:Value) (w:World) (v':Value) (w':World):Prop where
 os:w'.os=w.os
 tape:w'.tape=w.tape
 output:w'.output=w.output
 size:w.heap.size≤w'.heap.size
 block:∀k,k<w.heap.size→k≠g→some k≠v.ownBlock→w'.heap[k]? =w.heap[k]?
 own:v'.ownBlock=v.ownBlock∨∃b,v'.ownBlock=some b∧w.heap.size≤b
theorem iE.refl (g:Nat) (v:Value) (w:World):iE g v w v w:=⟨rfl,rfl,rfl,Nat.le_refl _,fun _ _ _ _=>rfl, .inl rfl⟩
theorem iE.trans {g:Nat} {v v1 v2:Value} {w w1 w2:World} (h:iE g v w v1 w1) (k:iE g v1 w1 v2 w2):iE g v w v2 w2:=by
 refine ⟨k.os.trans h.os,k.tape.trans h.tape,k.output.trans h.output,Nat.le_trans h.size k.size,fun b hb hg hv=>?_,?_⟩
 ·refine (k.block b (dW hb h.size) hg ?_).trans (h.block b hb hg hv);rcases h.own with e|⟨b1,e,hb1⟩
  ·rw [e];exact hv
  ·rw [e];intro h';injection h' with h';omega
 ·rcases k.own with e|⟨b,e,hb⟩
  ·rcases h.own with e1|⟨b1,e1,hb1⟩
   ·exact .inl (e.trans e1)
   ·exact .inr ⟨b1,e.trans e1,hb1⟩
  ·exact .inr ⟨b,e,Nat.le_trans h.size hb⟩
theorem bY {w:World} {base e size n:Nat} {v u:Value} {xs:List Value} {p:Addr} (h:w.ownsRow base e size v n xs) (hp:some p.block≠v.ownBlock):(w.setCell p u).ownsRow base e size v n xs:=by
 refine ⟨h.1,?_⟩;rcases h.2 with h|⟨g,cap,cur,rfl,hg,hh,h1,h2,h3,h4⟩
 ·exact .inl h
 ·refine .inr ⟨g,cap,cur,rfl,hg,?_,h1,h2,h3,h4⟩;rw [heap_setCell_other w p g u (fun e=>hp (by rw [←e];rfl))];exact hh
theorem dZ {w:World} {base e size n:Nat} {v:Value} {xs:List Value} (h:w.ownsRow base e size v n xs) (b:Nat) (hb:b<base):some b≠v.ownBlock:=by
 rcases h.2 with ⟨rfl,_⟩|⟨g,cap,cur,rfl,hg,_⟩
 ·simp [Value.ownBlock]
 ·intro e;have:b=g:=by simpa [Value.ownBlock] using e
  omega
theorem fM {w:World} {base e size n:Nat} {v:Value} {xs:List Value} (h:w.ownsRow base e size v n xs) (hn:0<n):∃g cap,v= .slice (some ⟨g,0,none⟩) n cap∧g<w.heap.size:=by
 rcases h.2 with ⟨_,h0⟩|⟨g,cap,cur,rfl,_,hh,_⟩
 ·omega
 ·exact ⟨g,cap,rfl,(bK.1 hh).1⟩
theorem own_lt {w:World} {base e size n:Nat} {v:Value} {xs:List Value} (h:w.ownsRow base e size v n xs):∀b,v.ownBlock=some b→b<w.heap.size:=by
 intro b hb;rcases h.2 with ⟨rfl,_⟩|⟨g,cap,cur,rfl,_,hh,_⟩
 ·simp [Value.ownBlock] at hb
 ·have:g=b:=by simpa [Value.ownBlock] using hb
  subst this;exact (bK.1 hh).1
theorem lh:(Tryz.prog.info? 5).map (fun i=>(i.zero,i.size,i.bytes))=some (some (.int .u8 0),1,1):=by kernel_rfl
abbrev pt (b:Nat):Value:= .pointer (some ⟨b,0,none⟩)
def fits (n:Int):Prop:= -9223372036854775808≤n∧n≤9223372036854775807
def bU:List UInt8:=List.replicate 32 0
theorem wY:(ay bU).toArray= #[Value.int .u8 0,Value.int .u8 0,Value.int .u8 0,Value.int .u8 0,Value.int .u8 0,Value.int .u8 0,Value.int .u8 0,Value.int .u8 0,Value.int .u8 0,Value.int .u8 0,Value.int .u8 0,Value.int .u8 0,Value.int .u8 0,Value.int .u8 0,Value.int .u8 0,Value.int .u8 0,Value.int .u8 0,Value.int .u8 0,Value.int .u8 0,Value.int .u8 0,Value.int .u8 0,Value.int .u8 0,Value.int .u8 0,Value.int .u8 0,Value.int .u8 0,Value.int .u8 0,Value.int .u8 0,Value.int .u8 0,Value.int .u8 0,Value.int .u8 0,Value.int .u8 0,Value.int .u8 0]:=rfl
theorem FO (w:World):(sizeOf 5).run Tryz.prog w= .ok 1 w:=by kernel_rfl
theorem wL (r:List UInt8):∀v∈ay r,v.oneCell'=true:=by
 intro v hv;simp only [ay,List.mem_map] at hv;obtain ⟨x,_,rfl⟩:=hv;rfl
theorem ag (w:World) (o:Obj):Below w.heap.size w (w.alloc o):=(Below.refl _ _).alloc (Nat.le_refl _) _
section
variable {P:Program} {ops:Array Oper} {Q:Exit→Act→World→Prop} {a:Act} {w:World} {rest:List Oper} {o:Oper}
theorem aX (hw:Region.wanted o (yielded ops a.tmps)=true) (ty:TypeId) (x:Operand) (ho:o.op= .load ty x) (g:Nat) (hx:a.eval x= .pointer (some ⟨g,0,none⟩)) (cs:Array Value) (hr:Row w g cs)
  (d:TypeDesc) (hu:P.underlying ty=some d) (hd:d.isRow=true) (hi:(P.info? ty).map (·.size)=some cs.size)
  (h:wpList P ops Q rest (a.put o.dst (.agg cs)) w):wpList P ops Q (o::rest) a w:=by
 unfold wpList;rw [if_pos hw];have hc:w.rangeAt g 0 cs.toList:=fun j v hv=>by rw [Nat.zero_add,hr.2 j];simpa using hv
 refine .inl (wp_load_mid ty x ho g 0 hx cs.toList d hc hu hd (by rw [hi];simp) ?_);simpa using h
end
def fZ (zs:List Int):List UInt8:=zs.flatMap fun z=>le z 1
theorem Ak (zs:List Int) (z:Int):fZ (zs++ [z])=fZ zs++le z 1:=by simp [fZ]
theorem lQ (zs:List Int):(fZ zs).length=zs.length:=by
 induction zs with
 |nil=>rfl
 |cons z zs ih=>simp only [fZ,List.flatMap_cons,bH,aC] at ih ⊢;rw [ih];simp;omega
section
variable {P:Program} {ops:Array Oper} {Q:Exit→Act→World→Prop} {a:Act} {w:World} {rest:List Oper} {d:Option Tmp} {t:TypeId} {pos:String} {af:Array Edge} {g:Option (Nat×Bool)}
theorem bf (ty:TypeId) (h:wpList P ops Q (⟨d, .alloc ty,t,pos,af,g⟩::rest) a w):wpList P ops Q (⟨d, .alloc ty,t,pos,af,g⟩::rest) a w:=h
end
theorem kU {w:World} {b:Nat} {o:Obj} (h:w.heap[b]? =some o):b<w.heap.size:=(bK.1 h).1
theorem Row.lU {w:World} {b:Nat} {cs:Array Value} {t:TypeId} {fr:Nat×Nat} (h:w.heap[b]? =some (.cells cs t fr)):Row w b cs:=
 ⟨kU h,fun i=>cell_of_row w b i cs t fr h⟩
section
variable {P:Program} {ops:Array Oper} {Q:Exit→Act→World→Prop} {a:Act} {w:World} {rest:List Oper} {o:Oper}
theorem dn (hg:o.guard=none) (t:TypeId) (ho:o.op= .alloc t) (cells:Array Value) (hz:(P.info? t).map (fun i=>(i.zero,i.size))=some (some (.agg cells),cells.size))
  (h:wpList P ops Q rest (a.put o.dst (.pointer (some ⟨w.heap.size,0,none⟩))) (w.alloc (.cells cells t))):wpList P ops Q (o::rest) a w:=by
 refine wpList_plain hg fun K hK=>?_;unfold Oper.wp execOp;simp only [ho,Sem.run_bind,kC w t (.agg cells) _ hz,Result.andThen_ok];exact hK _ _ h
end
theorem Dl {P:Program} {ops:Array Oper} {o:Oper} {a:Act} {w:World} {K:Act→World→Prop} {Q:Exit→Act→World→Prop} {E:Prop} (hgd:o.guard=none) (d s:Operand) (dT sT:TypeId)
  (ho:o.op= .call {callee:= .builtin .copy,args:= #[d,s],argTypes:= #[dT,sT]}) (elem:TypeId) (hu:P.underlying dT=some (.slice elem)) (hsz:(P.info? elem).map (·.size)=some 1)
  (g off dLen dCap:Nat) (ad:Addr) (sLen sCap:Nat) (hd:a.eval d= .slice (some ⟨g,off,none⟩) dLen dCap) (hs:a.eval s= .slice (some ad) sLen sCap)
  (cur:Array Value) (t:TypeId) (hg:w.heap[g]? =some (.cells cur t (0,0))) (cs:List Value) (hn:cs.length=Nat.min sLen dLen)
  (hsrc:∀j v,cs[j]? =some v→w.cell? (ad.add j)=some v) (hfit:off+cs.length≤cur.size) (h1:∀v∈cs,v.oneCell'=true)
  (new:Array Value) (hnew:new=(splice cur.toList off cs).toArray) (h:K (a.put o.dst (goInt cs.length)) (w.setRow g new)):
  if Region.wanted o (yielded ops a.tmps)=true then Oper.wp P o a w K Q else E:=by
 have hw:Region.wanted o (yielded ops a.tmps)=true:=by simp [Region.wanted,hgd]
 rw [if_pos hw];have hrun:=run_copy_row (P:=P) w dT sT o.type elem g off dLen dCap ad sLen sCap cur t cs hu hsz hg hn hsrc hfit h1;have e:(cur.toList.take off++cs++cur.toList.drop (off+cs.length)).toArray=new:=by rw [hnew];simp [splice]
 rw [e] at hrun;unfold Oper.wp;simp [execOp,ho,resolve,invoke,builtin,hd,hs,hrun,Result.andThen];exact h
theorem Uh (xs:List UInt8):∀v∈ay xs,v.oneCell'=true:=wL xs
theorem aZ {P:Program} {fn:Func} {p u:Tmp} {ty:TypeId} (h:fn.results= #[.cell p ty, .tmp u]) (tmps:Array Value) (w:World) (g:Nat) (t:TypeId) (cs:Array Value) (fr:Nat×Nat) (d:TypeDesc)
  (hp:tmps.getD p undef= .pointer (some ⟨g,0,none⟩)) (hg:w.heap[g]? =some (.cells cs t fr))
  (hu:P.underlying ty=some d) (hd:(match d with| .struct _| .array _ _=>true|_=>false)=true) (hi:(P.info? ty).map (·.size)=some cs.size) (v:Value) (hv:tmps.getD u undef=v):
  (results fn tmps).run P w= .ok (.tuple #[.agg cs,v]) w:=by
 rw [results_cell_tmp h,hp,hv];simp [asAddr,Result.andThen,run_loadVar_row w g t ty cs fr d hg hu hd hi]
theorem xY {w:World} {B:Nat} {v:Value} {bs:List UInt8} (h:w.ownsRow B 5 1 v bs.length (bs.map Extern.Stop.cell)):
  ∃A c,v= .slice A bs.length c∧bs.length≤c∧c≤maxLen∧(A=none→c=0)∧BytesAt w w.heap.size A bs:=by
 obtain ⟨h0,⟨rfl,h⟩|⟨g,cap,cur,rfl,hg,hb,h1,h2,h3,h4⟩⟩:=h
 ·exact ⟨none,0,by rw [h],by omega,Nat.zero_le _,fun _=>rfl, .inl h⟩
 ·refine ⟨some ⟨g,0,none⟩,cap,rfl,h1,h2,(fun e=>nomatch e), .inr ⟨g,0,rfl,kU hb,fun j hj=>?_⟩⟩;have h5:(cur.toList.take (bs.length*1))[j]? =(bs.map Extern.Stop.cell)[j]? :=by rw [h4]
  rw [Nat.mul_one,List.getElem?_take_of_lt hj,List.getElem?_map] at h5;rw [Nat.zero_add,cell_of_row w g j _ _ _ hb];simp only [Array.getElem?_toList] at h5;rw [h5];simp [hj]
theorem aU {w w':World} {B b o:Nat} {cs:List Value} (h:w.rangeAt b o cs) (hb:Below B w w') (hB:b<B):w'.rangeAt b o cs:=fun j v hv=>(World.cell?_of_block (a:=⟨b,o+j,none⟩) (hb.block b hB)).trans (h j v hv)
def LI (lo:Nat) (w:World) (A:Option Addr) (zs:List Int):Prop:=
 zs.length=0∨∃b off,A=some ⟨b,off,none⟩∧lo≤b∧b<w.heap.size∧∀j,j<zs.length→w.cell? ⟨b,off+j,none⟩=some (I (zs[j]?.getD 0))
theorem LI.aQ {lo:Nat} {w w':World} {A:Option Addr} {zs:List Int} (h:LI lo w A zs) (hs:w.heap.size≤w'.heap.size) (hb:∀k,lo≤k→k<w.heap.size→w'.heap[k]? =w.heap[k]?):LI lo w' A zs:=by
 rcases h with h|⟨b,off,hA,h1,h2,hc⟩
 ·exact .inl h
 ·exact .inr ⟨b,off,hA,h1,dW h2 hs,fun j hj=>(World.cell?_of_block (a:=⟨b,off+j,none⟩) (hb b h1 h2)).trans (hc j hj)⟩
theorem LI.lower {lo lo':Nat} {w:World} {A:Option Addr} {zs:List Int} (h:LI lo w A zs) (hl:lo'≤lo):LI lo' w A zs:=by
 rcases h with h|⟨b,off,hA,h1,h2,hc⟩
 ·exact .inl h
 ·exact .inr ⟨b,off,hA,Nat.le_trans hl h1,h2,hc⟩
theorem LI.ints {lo:Nat} {w:World} {A:Option Addr} {zs:List Int} (h:LI lo w A zs):jU w w.heap.size A zs:=by
 rcases h with h|⟨b,off,hA,h1,h2,hc⟩
 ·exact .inl h
 ·exact .inr ⟨b,off,hA,h2,hc⟩
theorem aN {lo e size n:Nat} {w w':World} {v:Value} {xs:List Value} (h:w.ownsRow lo e size v n xs) (hb:∀k,lo≤k→k<w.heap.size→w'.heap[k]? =w.heap[k]?):w'.ownsRow lo e size v n xs:=by
 refine ⟨h.1,?_⟩;rcases h.2 with h|⟨g,cap,cur,rfl,hg,hh,hr⟩
 ·exact .inl h
 ·exact .inr ⟨g,cap,cur,rfl,hg,(hb g hg (bK.1 hh).1).trans hh,hr⟩
section
variable {P:Program} {ops:Array Oper} {Q:Exit→Act→World→Prop} {a:Act} {w:World} {rest:List Oper} {d:Option Tmp} {t:TypeId} {pos:String} {af:Array Edge} {g:Option (Nat×Bool)}
theorem fU (ty:TypeId) {x:Operand} (h:wpList P ops Q (⟨d, .load ty x,t,pos,af,g⟩::rest) a w):wpList P ops Q (⟨d, .load ty x,t,pos,af,g⟩::rest) a w:=h
theorem dF (ty:TypeId) {x y:Operand} (h:wpList P ops Q (⟨d, .store ty x y,t,pos,af,g⟩::rest) a w):wpList P ops Q (⟨d, .store ty x y,t,pos,af,g⟩::rest) a w:=h
end
structure dA (mb:Nat) (w w':World):Prop where
 os:w'.os=w.os
 tape:w'.tape=w.tape
 output:w'.output=w.output
 size:w.heap.size≤w'.heap.size
 block:∀k,k<w.heap.size→k≠mb→w'.heap[k]? =w.heap[k]?
theorem dA.refl (mb:Nat) (w:World):dA mb w w:=⟨rfl,rfl,rfl,Nat.le_refl _,fun _ _ _=>rfl⟩
theorem dA.trans {mb:Nat} {w w1 w2:World} (h:dA mb w w1) (k:dA mb w1 w2):dA mb w w2:=
 ⟨k.os.trans h.os,k.tape.trans h.tape,k.output.trans h.output,Nat.le_trans h.size k.size,fun b hb hn=>(k.block b (dW hb h.size) hn).trans (h.block b hb hn)⟩
theorem dA.of_below {mb:Nat} {w w':World} (h:Below w.heap.size w w'):dA mb w w':=⟨h.os,h.tape,h.output,h.size,fun k hk _=>h.block k hk⟩
theorem dA.below {mb B:Nat} {w w':World} (h:dA mb w w') (hB:B≤mb) (hs:B≤w.heap.size):Below B w w':=⟨h.os,h.tape,h.output,h.size,fun k hk=>h.block k (by omega) (by omega)⟩
theorem dA.set {mb:Nat} {w w1:World} (h:dA mb w w1) (o:Nat) (u:Value):dA mb w (w1.setCell ⟨mb,o,none⟩ u):=
 ⟨h.os,h.tape,h.output,by simpa [World.setCell] using h.size,fun b hb hn=>(heap_setCell_other w1 _ b u hn).trans (h.block b hb hn)⟩
theorem dA.draw {mb:Nat} {w w1:World} (h:dA mb w w1):dA mb w w1.drew:=⟨h.os,h.tape,h.output,h.size,h.block⟩
theorem aK {w:World} {base base' e size n:Nat} {v:Value} {xs:List Value} (h:w.ownsRow base e size v n xs) (hb:base'≤base):w.ownsRow base' e size v n xs:=by
 refine ⟨h.1,?_⟩;rcases h.2 with h|⟨g,cap,cur,rfl,hg,hh⟩
 ·exact .inl h
 ·exact .inr ⟨g,cap,cur,rfl,Nat.le_trans hb hg,hh⟩
theorem addr_add (g j:Nat):(⟨g,0,none⟩:Addr).add j=⟨g,j,none⟩:=by unfold Addr.add;split<;>simp_all
theorem sN:(Tryz.prog.info? 3).map (fun i=>(i.zero,i.size,i.bytes))=some (some (.int .i64 0),1,8):=by kernel_rfl
theorem bJ {mb base e size n:Nat} {w w':World} {v:Value} {xs:List Value} (h:w.ownsRow base e size v n xs) (hk:dA mb w w') (hb:mb<base):w'.ownsRow base e size v n xs:=by
 refine ⟨h.1,?_⟩;rcases h.2 with h|⟨g,cap,cur,rfl,hg,hh,hr⟩
 ·exact .inl h
 ·exact .inr ⟨g,cap,cur,rfl,hg,(hk.block g (bK.1 hh).1 (by omega)).trans hh,hr⟩
theorem jR {α:Type} (xs:List α) (k:Nat) (x:α) (h:xs[k]? =some x):xs.take (k+1)=xs.take k++ [x]:=by rw [List.take_add_one,h];rfl
structure jH (M:Nat) (w:World) (rb:Nat) (rest:List UInt8):Prop where
 at_:∃bb off c,w.heap[rb]? =some (.cells #[.slice (some ⟨bb,off,none⟩) rest.length c] 122 (0,0))∧rest.length≤c∧c≤9223372036854775807∧bb<M∧∀j,j<rest.length→w.cell? ⟨bb,off+j,none⟩=some (Extern.Stop.cell (rest[j]?.getD 0))
 lo:M≤rb
theorem jH.lt {M:Nat} {w:World} {rb:Nat} {rest:List UInt8} (h:jH M w rb rest):rb<w.heap.size:=by
 obtain ⟨bb,off,c,h1,_⟩:=h.at_;exact (bK.1 h1).1
theorem jH.of {M:Nat} {w w':World} {rb:Nat} {rest:List UInt8} (h:jH M w rb rest) (h1:w'.heap[rb]? =w.heap[rb]?) (h2:∀k,k<M→w'.heap[k]? =w.heap[k]?):jH M w' rb rest:=by
 obtain ⟨bb,off,c,g1,g2,g3,g4,g5⟩:=h.at_;exact ⟨⟨bb,off,c,h1.trans g1,g2,g3,g4,fun j hj=>(World.cell?_of_block (a:=⟨bb,off+j,none⟩) (h2 bb g4)).trans (g5 j hj)⟩,h.lo⟩
theorem jH.below {M B:Nat} {w w':World} {rb:Nat} {rest:List UInt8} (h:jH M w rb rest) (hb:Below B w w') (hM:rb<B):jH M w' rb rest:=
 h.of (hb.block rb hM) fun k hk=>hb.block k (by have:=h.lo;omega)
theorem jH.drew {M:Nat} {w:World} {rb:Nat} {rest:List UInt8} (h:jH M w rb rest):jH M w.drew rb rest:=h.of rfl fun _ _=>rfl
def GotT (M:Nat) (w:World) (rb n:Nat) (rest:List UInt8) (e:Ending) (w':World):Prop:=
 ∃bb off c,e= .returned (.slice (some ⟨bb,off,none⟩) n c)∧n≤c∧c≤9223372036854775807∧bb<M∧(∀j,j<n→w'.cell? ⟨bb,off+j,none⟩=some (Extern.Stop.cell ((rest.take n)[j]?.getD 0)))∧jH M w' rb (rest.drop n)∧dA rb w w'
theorem Oo {M:Nat} {w:World} {rb bb off' c' n:Nat} {rest:List UInt8} {v:Value} (hM:M≤rb) (h1:w.heap[rb]? =some (.cells #[v] 122 (0,0))) (h2:rest.length - n≤c') (h3:c'≤9223372036854775807) (h4:bb<M)
  (h5:∀j,j<(rest.drop n).length→w.cell? ⟨bb,off'+j,none⟩=some (Extern.Stop.cell ((rest.drop n)[j]?.getD 0))):
  jH M (w.setCell ⟨rb,0,none⟩ (.slice (some ⟨bb,off',none⟩) (rest.length - n) c')) rb (rest.drop n)∧dA rb w (w.setCell ⟨rb,0,none⟩ (.slice (some ⟨bb,off',none⟩) (rest.length - n) c')):=by
 have hd:(rest.drop n).length=rest.length - n:=List.length_drop;refine ⟨⟨⟨bb,off',c',?_,by omega,h3,h4,fun j hj=>?_⟩,hM⟩,⟨rfl,rfl,rfl,by simp [World.setCell],fun k _ hk=>heap_setCell_other w ⟨rb,0,none⟩ k _ hk⟩⟩
 ·rw [heap_setCell_same w rb 0 _ _ _ h1,hd];rfl
 ·exact (World.cell?_of_block (a:=⟨bb,off'+j,none⟩) (heap_setCell_other w ⟨rb,0,none⟩ bb _ (by show bb≠rb;omega))).trans (h5 j hj)
theorem vI (M:Nat) (w:World) (rb n:Nat) (rest:List UInt8) (hr:jH M w rb rest) (hn:n≤rest.length):
  Calls Tryz.prog 168 #[.pointer (some ⟨rb,0,none⟩),I n] w (GotT M w rb n rest):=by
 obtain ⟨⟨bb,off,c,h1,h2,h3,h4,h5⟩,hM⟩:=hr;have hc0:w.cell? ⟨rb,0,none⟩=some (.slice (some ⟨bb,off,none⟩) rest.length c):=cell_of_row w rb 0 _ _ _ h1;have hf0:=frozen_of_row w rb 0 _ _ h1;obtain ⟨m,hm⟩:∃m,rest.length=m:=⟨_,rfl⟩;have HM:=ae hm;have HT:Hid (∀j,j<n→w.cell? ⟨bb,off+j,none⟩=some (Extern.Stop.cell ((rest.take n)[j]?.getD 0))):=ae (fun j hj=>by rw [h5 j (by omega),List.getElem?_take_of_lt (by omega)]);have H5:=ae h5;have H1:=ae h1;rw [hm] at hc0 hn h2;clear h1 h5 hm;have n1:¬(m:Int)<(n:Int):=by omega
 have n2:(0:Int)≤(n:Int):=by omega
 by_cases hcn:c=n
 ·have hmn:m=n:=by omega
  subst hmn;subst hcn;have hS:=Oo (off':=off) (c':=0) (n:=c) (v:= .slice (some ⟨bb,off,none⟩) rest.length c) hM H1.out (by rw [HM.out];omega) (by omega) h4 (fun j hj=>by rw [List.length_drop,HM.out] at hj;omega);rw [HM.out,Nat.sub_self] at hS;have uV:=ae hS;have HT2:Hid (∀j,j<c→(w.setCell ⟨rb,0,none⟩ (.slice (some ⟨bb,off,none⟩) 0 0)).cell? ⟨bb,off+j,none⟩=some (Extern.Stop.cell ((rest.take c)[j]?.getD 0))):=ae fun j hj=>(World.cell?_of_block (a:=⟨bb,off+j,none⟩) (heap_setCell_other w _ bb _ (by show bb≠rb;omega))).trans (HT.out j hj);clear hS;go_enter Tryz.func168,Tryz.ntmps168
  go_wp2
  go_ret;exact ⟨_,_,_,rfl,Nat.le_refl _,h3,h4,HT2.out,uV.out.1,uV.out.2⟩
 ·have hcn2:¬n=c:=fun h=>hcn h.symm;have hS:=Oo (off':=off+n) (c':=c - n) (n:=n) (v:= .slice (some ⟨bb,off,none⟩) rest.length c) hM H1.out (by rw [HM.out];omega) (by omega) h4 (fun j hj=>by
   rw [List.length_drop,HM.out] at hj;rw [Nat.add_assoc,H5.out (n+j) (by rw [HM.out];omega),List.getElem?_drop])
  rw [HM.out] at hS;have uV:=ae hS;have HT2:Hid (∀j,j<n→(w.setCell ⟨rb,0,none⟩ (.slice (some ⟨bb,off+n,none⟩) (m - n) (c - n))).cell? ⟨bb,off+j,none⟩=some (Extern.Stop.cell ((rest.take n)[j]?.getD 0))):=ae fun j hj=>(World.cell?_of_block (a:=⟨bb,off+j,none⟩) (heap_setCell_other w _ bb _ (by show bb≠rb;omega))).trans (HT.out j hj);clear hS;go_enter Tryz.func168,Tryz.ntmps168
  go_wp2
  go_ret;exact ⟨_,_,_,rfl,by omega,h3,h4,HT2.out,uV.out.1,uV.out.2⟩
end Go.Proofs.YtbaehbbonkljpaaGreat
namespace Go.Proofs.YtbaehbbonkljpaaGreat
open Go Go.RowKit Go.Shelf
attribute [local go_sem] Oper.semAt_some
def upto {α:Type} (f:Nat→α) (k:Nat):List α:=(List.range k).map f
theorem upto_succ {α:Type} (f:Nat→α) (k:Nat):upto f (k+1)=upto f k++ [f k]:=by simp [upto,List.range_succ]
theorem upto_length {α:Type} (f:Nat→α) (k:Nat):(upto f k).length=k:=by simp [upto]
def bk (bs:List UInt8) (k:Nat):Nat×UInt8:=(bs.length - 1 - k,bs[bs.length - 1 - k]?.getD 0)
structure BK (n₀ Bs:Nat) (A B:World):Prop where
 lo:Below n₀ A B
 box:B.cell? ⟨Bs,0,none⟩=A.cell? ⟨Bs,0,none⟩
theorem BK.refl (n₀ Bs:Nat) (A:World):BK n₀ Bs A A:=⟨Below.refl _ _,rfl⟩
theorem BK.trans {n₀ Bs:Nat} {A B C:World} (h:BK n₀ Bs A B) (k:BK n₀ Bs B C):BK n₀ Bs A C:=⟨h.lo.trans k.lo,k.box.trans h.box⟩
theorem bk_b {n₀ Bs:Nat} {w:World} (hn:n₀≤w.heap.size) (hB:Bs<w.heap.size) (W:World) (l:Nat) (o o':Obj) (hl:w.heap.size≤l) (h:W.heap[l]? =some o) (hc:o.isCells=false) (hk:o.isWalk=false):BK n₀ Bs W (W.putObj l o'):=
 ⟨belowK_b hn W l o o' hl h hc hk,(belowK_b (n₀:=Bs+1) hB W l o o' hl h hc hk).cell (p:=⟨Bs,0,none⟩) (Nat.lt_succ_self _)⟩
theorem Rx (F:Fence) (n:Nat) (h7:F.fn 170) (hro:F.round=none) (hn:1≤n) (l Bs n₀ b off cap:Nat) (bs:List UInt8) (hreach:bs.length≤140737488351232) (hb:b<n₀) (J Jx:List (Nat×UInt8)→World→Prop)
  (hY:∀pre x W,J pre W→pre.length<bs.length→YieldAt F (n - 1) Tryz.prog l #[.int .i64 (x.1:Int),Extern.Stop.cell x.2] W fun e W'=>
   (e= .returned (.bool true)∧J (pre++ [x]) W'∧BK n₀ Bs W W')∨(e= .returned (.bool false)∧Jx (pre++ [x]) W'))
  (W:World) (hBs:W.cell? ⟨Bs,0,none⟩=some (.slice (some ⟨b,off,none⟩) bs.length cap)) (hc:∀j,j<bs.length→W.cell? ⟨b,off+j,none⟩=some (Extern.Stop.cell (bs[j]?.getD 0))) (h0:J [] W):
  CallsIn F n Tryz.prog 170 #[.func (.yield l) #[] #[], .pointer (some ⟨Bs,0,none⟩)] W fun e W'=>(∃v,e= .returned v)∧
   ((∃ys,ys=upto (bk bs) bs.length∧J ys W')∨(∃pre,(∃k,k≤bs.length∧pre=upto (bk bs) k)∧Jx pre W')):=by
 refine callsIn_of_wp Tryz.func170 rfl h7 ?_ hro;simp only [Tryz.ntmps170,List.size_toArray,List.length_cons,List.length_nil,Nat.reduceAdd,Nat.reduceSub,Array.replicate_succ,Array.replicate_zero,List.push_toArray,List.append_toArray,List.nil_append,List.cons_append]
 gi_wp2
 gi_loopw [3] (fun i wr=>∃k:Nat,k≤bs.length∧i= .int .i64 ((bs.length:Int) - 1 - k)∧J (upto (bk bs) k) wr∧BK n₀ Bs W wr)
  (fun i _=>((intOf i)+1).toNat)
 case atStart=>exact ⟨0,Nat.zero_le _,by go_num,h0,BK.refl _ _ _⟩
 case round=>
  obtain ⟨k,hk,rfl,hJs,hnx⟩:=hrel;by_cases hlt:k<bs.length
  ·obtain ⟨m,hm⟩:∃m:Nat,m=bs.length - 1 - k:=⟨_,rfl⟩;have SQ:(bs.length:Int) - 1 - k=(m:Int):=by omega
   have hml:m<bs.length:=by omega
   have hx:bk bs k=(m,bs[m]?.getD 0):=by unfold bk;rw [←hm]
   obtain ⟨x,hxx⟩:∃x,bs[m]?.getD 0=x:=⟨_,rfl⟩;rw [hxx] at hx;have hcx:wr.cell? ⟨b,off+m,none⟩=some (Extern.Stop.cell x):=by rw [←hxx];exact (hnx.lo.cell (p:=⟨b,off+m,none⟩) hb).trans (hc m hml)
   have hbx:wr.cell? ⟨Bs,0,none⟩=some (.slice (some ⟨b,off,none⟩) bs.length cap):=hnx.box.trans hBs;obtain ⟨fn,tmps,assign,body,hy,hR⟩:=hY _ (m,x) wr hJs (by rw [upto_length];exact hlt);dsimp only at hy;rw [SQ];have HM:=ae hm;have VY:=ae SQ;have HX:=ae hx;clear hm SQ hx hxx
   gi_wp2
   refine hR.mono ?_;rintro e W3 (⟨rfl,hJ3,hk3⟩|⟨rfl,hJx3⟩)
   ·gi_wp2
    go_roundw
    case rel=>exact ⟨k+1,by omega,by have:=VY.out;congr 1;omega,by rw [upto_succ,HX.out];exact hJ3,hnx.trans hk3⟩
    case measure=>simp [intOf]
   ·gi_wp2
    refine bodyPost_ret (results_none rfl _ _ _) rfl ?_;exact ⟨⟨_,rfl⟩, .inr ⟨_,⟨k+1,by omega,by rw [upto_succ,HX.out]⟩,hJx3⟩⟩
  ·have hke:k=bs.length:=by omega
   have VX:=ae hke;clear hke
   gi_wp2
   go_end0
   exact ⟨⟨_,rfl⟩, .inl ⟨_,by rw [VX.out],hJs⟩⟩
theorem ER (F:Fence) (n:Nat) (h7:F.fn 170) (hro:F.round=none) (l Bs:Nat) (A:Option Addr) (c:Nat) (J:List (Nat×UInt8)→World→Prop) (W:World) (hBs:W.cell? ⟨Bs,0,none⟩=some (.slice A 0 c)) (h0:J [] W):
  CallsIn F n Tryz.prog 170 #[.func (.yield l) #[] #[], .pointer (some ⟨Bs,0,none⟩)] W fun e W'=>(∃v,e= .returned v)∧J [] W':=by
 refine callsIn_of_wp Tryz.func170 rfl h7 ?_ hro;simp only [Tryz.ntmps170,List.size_toArray,List.length_cons,List.length_nil,Nat.reduceAdd,Nat.reduceSub,Array.replicate_succ,Array.replicate_zero,List.push_toArray,List.append_toArray,List.nil_append,List.cons_append]
 gi_wp2
 gi_loopw [3] (fun i wr=>i= .int .i64 (-1)∧J [] wr) (fun _ _=>0)
 case atStart=>exact ⟨rfl,h0⟩
 case round=>
  obtain ⟨rfl,hJs⟩:=hrel
  gi_wp2
  go_end0
  exact ⟨⟨_,rfl⟩,hJs⟩
theorem WC (F:Fence) (n:Nat) (h5:F.fn 169) (hro:F.round=none) (a:Option Addr) (len cap:Nat) (w:World):
  CallsIn F n Tryz.prog 169 #[.slice a len cap] w fun e w'=>e= .returned (.func (.func 170) #[] #[.pointer (some ⟨w.heap.size,0,none⟩)])∧w'=w.alloc (.cells #[.slice a len cap] 22):=by
 refine callsIn_of_wp Tryz.func169 rfl h5 ?_ hro;simp only [Tryz.ntmps169,List.size_toArray,List.length_cons,List.length_nil,Nat.reduceAdd,Nat.reduceSub,Array.replicate_succ,Array.replicate_zero,List.push_toArray,List.append_toArray,List.nil_append,List.cons_append]
 gi_wp2
 go_ret;exact ⟨rfl,rfl⟩
theorem Kw (F:Fence) (n:Nat) (h7:F.fn 170) (hro:F.round=none) (hn:1≤n) (Bs n₀:Nat) (A:Option Addr) (cap:Nat) (bs:List UInt8) (hreach:bs.length≤140737488351232) (w:World) (hBs:Bs<w.heap.size) (hn₀:n₀≤w.heap.size)
  (hc:w.cell? ⟨Bs,0,none⟩=some (.slice A bs.length cap)) (hI:BytesAt w n₀ A bs):
  SeqStopsK F n Tryz.prog 170 #[.pointer (some ⟨Bs,0,none⟩)] (fun x:Nat×UInt8=> #[Value.int .i64 (x.1:Int),Extern.Stop.cell x.2]) (BK n₀ Bs) (fun ys=>ys=upto (bk bs) bs.length)
   (fun pre=>∃k,k≤bs.length∧pre=upto (bk bs) k) bs.length w:=fun l J Jx W hW _ _ hY h0=>by
 have hc':=(hW.cell (p:=⟨Bs,0,none⟩) hBs).trans hc;rcases hI.keep (hW.mono hn₀) with h|⟨b,off,rfl,hb,hcs⟩
 ·rw [h] at hc';exact (ER F n h7 hro l Bs A cap J W hc' h0).mono fun e W' ⟨he,hj⟩=>⟨he, .inl ⟨_,by rw [h];rfl,hj⟩⟩
 ·exact Rx F n h7 hro hn l Bs n₀ b off cap bs hreach hb J Jx hY W hc' hcs h0
end Go.Proofs.YtbaehbbonkljpaaGreat
namespace Go.Proofs.YtbaehbbonkljpaaGreat
open Go Go.RowKit
def yt (s:Int) (c:UInt8):Int:=bits BinOp.or IntKind.i64 (wrap64 (s*256)) c.toNat
def vK (l:List (Nat×UInt8)):Int:=l.foldl (fun s x=>yt s x.2) 0
theorem Qc (pre:List (Nat×UInt8)) (x:Nat×UInt8):vK (pre++ [x])=yt (vK pre) x.2:=by simp [vK]
def tkB (rest:List UInt8) (bad:Bool) (size:Nat):Bool:=bad||decide (rest.length<size)
def tk (rest:List UInt8) (bad:Bool) (size:Nat):List UInt8:=if tkB rest bad size=true then [] else rest.take size
def tkR (rest:List UInt8) (bad:Bool) (size:Nat):List UInt8:=if tkB rest bad size=true then rest else rest.drop size
def Cj (rest:List UInt8) (bad:Bool) (size:Nat):Int:=vK (upto (bk (tk rest bad size)) (tk rest bad size).length)
def UI (s:Int) (c:UInt8):Int:=bits BinOp.or IntKind.u64 (IntKind.u64.wrap (s*256)) c.toNat
def hvs (s:Int) (l:List (Nat×UInt8)):Int:=l.foldl (fun s x=>s*256+(x.2.toNat:Int)) s
theorem or_mul (a b:Nat) (h:a<256):(b*256) ||| a=b*256+a:=by
 rw [show b*256=b <<< 8 from by rw [Nat.shiftLeft_eq],Nat.shiftLeft_add_eq_or_of_lt (by omega)]
theorem Qe (s:Int) (c:UInt8):UI s c=(s*256+(c.toNat:Int))%18446744073709551616:=by
 unfold UI;have hc:=c.toNat_lt;obtain ⟨b,hb⟩:∃b:Nat,IntKind.u64.wrap (s*256)=((b*256:Nat):Int):=by
  rw [show IntKind.u64.wrap (s*256)=(s*256)%18446744073709551616 by simp [IntKind.wrap,IntKind.bits,IntKind.signed]];exact ⟨((s*256)%18446744073709551616 / 256).toNat,by omega⟩
 have hw:((b*256:Nat):Int)=(s*256)%18446744073709551616:=by rw [←hb];simp [IntKind.wrap,IntKind.bits,IntKind.signed]
 rw [hb,u64_or_nat _ _ (by omega) (by omega),or_mul _ _ (by omega)];omega
theorem L8 (s:Int) (c:UInt8):yt s c=wrap64 (s*256+(c.toNat:Int)):=by
 have hc:=c.toNat_lt;have h1:=Qe s c;unfold UI at h1;have key:∀x y:Int,bits BinOp.or IntKind.i64 (wrap64 x) y=wrap64 (bits BinOp.or IntKind.u64 (IntKind.u64.wrap x) y):=by
  intro x y;have e:BitVec.ofInt 64 (wrap64 x)=BitVec.ofInt 64 (IntKind.u64.wrap x):=by
   apply BitVec.eq_of_toInt_eq;rw [BitVec.toInt_ofInt,BitVec.toInt_ofInt,show IntKind.u64.wrap x=x%18446744073709551616 by simp [IntKind.wrap,IntKind.bits,IntKind.signed]];unfold wrap64;simp only [Int.bmod];omega
  show IntKind.i64.wrap ((BitVec.ofInt 64 (wrap64 x) ||| BitVec.ofInt 64 y).toNat:Int)=wrap64 (IntKind.u64.wrap ((BitVec.ofInt 64 (IntKind.u64.wrap x) ||| BitVec.ofInt 64 y).toNat:Int));rw [e];have hb:=(BitVec.ofInt 64 (IntKind.u64.wrap x) ||| BitVec.ofInt 64 y).isLt;obtain ⟨n,hn⟩:∃n,(BitVec.ofInt 64 (IntKind.u64.wrap x) ||| BitVec.ofInt 64 y).toNat=n:=⟨_,rfl⟩;rw [hn] at hb ⊢;rw [IntKind.wrap_i64,show IntKind.u64.wrap (n:Int)=(n:Int)%18446744073709551616 by simp [IntKind.wrap,IntKind.bits,IntKind.signed]];unfold wrap64;omega
 unfold yt;rw [key,h1];unfold wrap64;omega
theorem NJ (l:List (Nat×UInt8)):∀s t:Int,s=wrap64 t→l.foldl (fun s x=>yt s x.2) s=wrap64 (hvs t l):=by
 induction l with
 |nil=>intro s t h;exact h
 |cons x l ih=>
  intro s t h;rw [List.foldl_cons];refine ih _ (t*256+(x.2.toNat:Int)) ?_;rw [L8];unfold wrap64 at*;omega
theorem iq (n:Int):((byteOf n).toNat:Int)=n%256:=by
 have h:=fQ n;unfold Extern.Stop.cell at h;injection h
theorem hvs8 (x:Int) (hx:fits x):wrap64 (hvs 0 (upto (bk (le x 8)) 8))=x:=by
 have e:hvs 0 (upto (bk (le x 8)) 8)=(((((((((0*256+((byteOf (x / 256 / 256 / 256 / 256 / 256 / 256 / 256)).toNat:Int))*256+((byteOf (x / 256 / 256 / 256 / 256 / 256 / 256)).toNat:Int))*256+((byteOf (x / 256 / 256 / 256 / 256 / 256)).toNat:Int))*256+((byteOf (x / 256 / 256 / 256 / 256)).toNat:Int))*256+((byteOf (x / 256 / 256 / 256)).toNat:Int))*256+((byteOf (x / 256 / 256)).toNat:Int))*256+((byteOf (x / 256)).toNat:Int))*256+((byteOf x).toNat:Int))):=rfl;rw [e];simp only [iq];unfold fits at hx;unfold wrap64;omega
theorem hvs4 (x:Int) (h0:0≤x) (h1:x<4294967296):wrap64 (hvs 0 (upto (bk (le x 4)) 4))=x:=by
 have e:hvs 0 (upto (bk (le x 4)) 4)=((((0*256+((byteOf (x / 256 / 256 / 256)).toNat:Int))*256+((byteOf (x / 256 / 256)).toNat:Int))*256+((byteOf (x / 256)).toNat:Int))*256+((byteOf x).toNat:Int)):=rfl;rw [e];simp only [iq];unfold wrap64;omega
theorem hvs1 (x:Int) (h0:0≤x) (h1:x<256):wrap64 (hvs 0 (upto (bk (le x 1)) 1))=x:=by
 have e:hvs 0 (upto (bk (le x 1)) 1)=0*256+((byteOf x).toNat:Int):=rfl;rw [e];simp only [iq];unfold wrap64;omega
theorem XZ (x:Int) (n:Nat) (R:List UInt8):(le x n++R).take n=le x n:=by
 rw [List.take_append_of_le_length (by rw [aC];exact Nat.le_refl n),List.take_of_length_le (by rw [aC];exact Nat.le_refl n)]
theorem EY (x:Int) (n:Nat) (R:List UInt8):(le x n++R).drop n=R:=by
 rw [List.drop_append_of_le_length (by rw [aC];exact Nat.le_refl n),List.drop_of_length_le (by rw [aC];exact Nat.le_refl n)];rfl
theorem FV (x:Int) (n:Nat) (R:List UInt8):tk (le x n++R) false n=le x n∧tkR (le x n++R) false n=R∧tkB (le x n++R) false n=false:=by
 have e:tkB (le x n++R) false n=false:=by
  unfold tkB;rw [Bool.false_or];exact decide_eq_false (by rw [bH,aC];omega)
 unfold tk tkR;rw [e];exact ⟨XZ x n R,EY x n R,rfl⟩
theorem Uf (x:Int) (hx:fits x) (R:List UInt8):Cj (le x 8++R) false 8=x:=by
 unfold Cj vK;rw [(FV x 8 R).1,aC,NJ _ 0 0 (by unfold wrap64;omega)];exact hvs8 x hx
theorem Zy (x:Int) (h0:0≤x) (h1:x<4294967296) (R:List UInt8):Cj (le x 4++R) false 4=x:=by
 unfold Cj vK;rw [(FV x 4 R).1,aC,NJ _ 0 0 (by unfold wrap64;omega)];exact hvs4 x h0 h1
theorem nC (x:Int) (h0:0≤x) (h1:x<256) (R:List UInt8):Cj (le x 1++R) false 1=x:=by
 unfold Cj vK;rw [(FV x 1 R).1,aC,NJ _ 0 0 (by unfold wrap64;omega)];exact hvs1 x h0 h1
end Go.Proofs.YtbaehbbonkljpaaGreat
