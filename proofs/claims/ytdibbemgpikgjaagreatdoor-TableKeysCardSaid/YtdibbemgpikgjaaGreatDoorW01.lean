/- The texts Aid, Data, Qa, Pl, SvE, SvF, Pm, Pa, TbC, TbD, TbZ, in this order. -/
import Derived.Test.YtdibbemgpikgjaaGreatDoorW00
import Derived.Test.YtdibbemgpikgjaaGreatDoorProg
import Derived.Defers
import Derived.Laws.BitsAllLaws
import Derived.Laws.BytesArg
import Derived.Laws.Cover3
import Derived.Lib.AppendStr
import Derived.Lib.ByteType
import Derived.MapKept
import Derived.Recover
set_option maxRecDepth 10000
set_option maxHeartbeats 8000000
namespace Go.Proofs.YtdibbemgpikgjaaGreatDoor
open Go Go.RowKit
section
variable {P:Program} {ops:Array Oper} {Q:Exit→Act→World→Prop} {a:Act} {w:World} {rest:List Oper} {o o2:Oper}
theorem di {t:TypeId} (hg:o.guard=none) (parts:Array (Nat×Operand)) (ho:o.op= .build t parts) (cells:Array Value)
  (hb:P.built t (parts.map fun (i,x)=>(i,a.eval x)).toList=some cells)
  (h:wpList P ops Q rest (a.put o.dst (.agg cells)) w):wpList P ops Q (o::rest) a w:=
 wpList_plain hg fun _ hK=>wp_build t parts ho (by rw [hb];rfl) (by rw [hb];exact hK _ _ h)
theorem jm (w:World) (t:TypeId) (z:Value) (n:Nat) (hz:(P.info? t).map (fun i=>(i.zero,i.size))=some (some z,n)):
  (Instr.alloc t true (.tuple #[])).run P w= .ok (.pointer (some ⟨w.heap.size,0,none⟩)) (w.alloc (.cells z.cells t)):=by
 have h0:=(zero_of_info hz).1 w;simp [Instr.alloc,newVar,newRow,h0]
end
structure Mv where
 day:Int
 drop:Bool
 toDay:Int
 minute:Int
 length:Int
structure Nd where
 kind:Int
 cal:Int
 l:Int
 r:Int
 n:Int
 m:Int
 list:List Int
 name:ByteArray
structure Ser where
 rule:List Nd
 minute:Int
 length:Int
 zone:ByteArray
 gap:Int
 fold:Int
 moves:List Mv
structure Lt where
 kind:Int
 src:Int
 dst:Int
 meeting:Int
 edition:Int
 aT:Int
 version:Int
 person:Int
 other:Int
 resource:Int
 scope:Int
 day:Int
 move:Mv
 series:Ser
 deadline:Int
 state:Int
 grain:Int
 wfrom:Int
 wto:Int
 cells:List Int
 ref:List UInt8
abbrev I (n:Int):Value:= .int .i64 n
def aj (r:List UInt8):List Value:=r.map Extern.Stop.cell
def Gives (v:Value) (w:World) (e:Ending) (w':World):Prop:=e= .returned v∧Below w.heap.size w w'
def fG (w:World) (B:Nat) (A:Option Addr) (zs:List Int):Prop:=
 zs.length=0∨∃b off,A=some ⟨b,off,none⟩∧b<B∧∀j,j<zs.length→w.cell? ⟨b,off+j,none⟩=some (I (zs[j]?.getD 0))
theorem fG.keep {w w':World} {B:Nat} {A:Option Addr} {zs:List Int} (h:fG w B A zs) (hb:Below B w w'):fG w' B A zs:=by
 rcases h with h|⟨b,off,hA,hbB,hc⟩
 ·exact .inl h
 ·exact .inr ⟨b,off,hA,hbB,fun j hj=>(hb.cell (p:=⟨b,off+j,none⟩) hbB).trans (hc j hj)⟩
theorem fG.more {w:World} {B B':Nat} {A:Option Addr} {zs:List Int} (h:fG w B A zs) (hB:B≤B'):fG w B' A zs:=by
 rcases h with h|⟨b,off,hA,hbB,hc⟩
 ·exact .inl h
 ·exact .inr ⟨b,off,hA,by omega,hc⟩
theorem Ah (a b:Int):(a !=b)=decide (a≠b):=by
 rw [Bool.eq_iff_iff];simp
def BytesAt (w:World) (B:Nat) (A:Option Addr) (bs:List UInt8):Prop:=
 bs.length=0∨∃b off,A=some ⟨b,off,none⟩∧b<B∧∀j,j<bs.length→w.cell? ⟨b,off+j,none⟩=some (Extern.Stop.cell (bs[j]?.getD 0))
theorem BytesAt.keep {w w':World} {B:Nat} {A:Option Addr} {bs:List UInt8} (h:BytesAt w B A bs) (hb:Below B w w'):BytesAt w' B A bs:=by
 rcases h with h|⟨b,off,hA,hbB,hc⟩
 ·exact .inl h
 ·exact .inr ⟨b,off,hA,hbB,fun j hj=>(hb.cell (p:=⟨b,off+j,none⟩) hbB).trans (hc j hj)⟩
theorem below_drewN' (w:World) (k:Nat):Below w.heap.size w (w.drewN k):=below_drewN (Below.refl _ _) k
def Row (w:World) (b:Nat) (cs:Array Value):Prop:=b<w.heap.size∧∀i,w.cell? ⟨b,i,none⟩=cs[i]?
theorem Row.keep {w w':World} {b:Nat} {cs:Array Value} (h:Row w b cs) (hb:Below w.heap.size w w'):Row w' b cs:=
 ⟨dQ h.1 hb.size,fun i=>(hb.cell (p:=⟨b,i,none⟩) h.1).trans (h.2 i)⟩
theorem Row.new (w:World) (cs:Array Value) (t:TypeId):Row (w.alloc (.cells cs t)) w.heap.size cs:=
 ⟨by simp,fun i=>by rw [World.cell?_alloc_at _ _ _ _ rfl]⟩
theorem ah {w w1 w2:World} (h:Below w.heap.size w w1) (h2:Below w1.heap.size w1 w2):Below w.heap.size w w2:=h.trans (h2.mono h.size)
def byteOf (n:Int):UInt8:=UInt8.ofNat (n%256).toNat
theorem dK (n:Int):Extern.Stop.cell (byteOf n)= .int .u8 (n%256):=by
 have h0:0≤n%256:=Int.emod_nonneg _ (by omega);have h1:n%256<256:=Int.emod_lt_of_pos _ (by omega);have h2:(n%256).toNat<256:=by omega
 have h3:(UInt8.ofNat (n%256).toNat).toNat=(n%256).toNat:=by rw [UInt8.toNat_ofNat'];exact Nat.mod_eq_of_lt h2
 show Value.int .u8 (((UInt8.ofNat (n%256).toNat).toNat:Nat):Int)=_;rw [h3,Int.toNat_of_nonneg h0]
def le:Int→Nat→List UInt8
 |_,0=> []
 |n,s+1=>byteOf n::le (n / 256) s
def jP:Int→Nat→Int
 |n,0=>n
 |n,k+1=>jP n k / 256
theorem I9 (n:Int) (k:Nat):jP (n / 256) k=jP n (k+1):=by
 induction k with
 |zero=>rfl
 |succ k ih=>show jP (n / 256) k / 256=_;rw [ih];rfl
theorem FY (n:Int) (k:Nat):le n (k+1)=le n k++ [byteOf (jP n k)]:=by
 induction k generalizing n with
 |zero=>rfl
 |succ k ih=>rw [le,ih,I9];rfl
theorem aC (n:Int) (k:Nat):(le n k).length=k:=by
 induction k generalizing n with
 |zero=>rfl
 |succ k ih=>simp [le,ih]
theorem MB (n:Int) (k:Nat) (h0: -9223372036854775808≤n) (h1:n≤9223372036854775807): -9223372036854775808≤jP n k∧jP n k≤9223372036854775807:=by
 induction k with
 |zero=>exact ⟨h0,h1⟩
 |succ k ih=>unfold jP;omega
structure gX (g:Nat) (v:Value) (w:World) (v':Value) (w':World):Prop where
 os:w'.os=w.os
 tape:w'.tape=w.tape
 output:w'.output=w.output
 size:w.heap.size≤w'.heap.size
 block:∀k,k<w.heap.size→k≠g→some k≠v.ownBlock→w'.heap[k]? =w.heap[k]?
 own:v'.ownBlock=v.ownBlock∨∃b,v'.ownBlock=some b∧w.heap.size≤b
theorem gX.refl (g:Nat) (v:Value) (w:World):gX g v w v w:=⟨rfl,rfl,rfl,Nat.le_refl _,fun _ _ _ _=>rfl, .inl rfl⟩
theorem gX.trans {g:Nat} {v v1 v2:Value} {w w1 w2:World} (h:gX g v w v1 w1) (k:gX g v1 w1 v2 w2):gX g v w v2 w2:=by
 refine ⟨k.os.trans h.os,k.tape.trans h.tape,k.output.trans h.output,Nat.le_trans h.size k.size,fun b hb hg hv=>?_,?_⟩
 ·refine (k.block b (dQ hb h.size) hg ?_).trans (h.block b hb hg hv);rcases h.own with e|⟨b1,e,hb1⟩
  ·rw [e];exact hv
  ·rw [e];intro h';injection h' with h';omega
 ·rcases k.own with e|⟨b,e,hb⟩
  ·rcases h.own with e1|⟨b1,e1,hb1⟩
   ·exact .inl (e.trans e1)
   ·exact .inr ⟨b1,e.trans e1,hb1⟩
  ·exact .inr ⟨b,e,Nat.le_trans h.size hb⟩
theorem dW {w:World} {base e size n:Nat} {v u:Value} {xs:List Value} {p:Addr} (h:w.ownsRow base e size v n xs) (hp:some p.block≠v.ownBlock):(w.setCell p u).ownsRow base e size v n xs:=by
 refine ⟨h.1,?_⟩;rcases h.2 with h|⟨g,cap,cur,rfl,hg,hh,h1,h2,h3,h4⟩
 ·exact .inl h
 ·refine .inr ⟨g,cap,cur,rfl,hg,?_,h1,h2,h3,h4⟩;rw [heap_setCell_other w p g u (fun e=>hp (by rw [←e];rfl))];exact hh
theorem eQ {w:World} {base e size n:Nat} {v:Value} {xs:List Value} (h:w.ownsRow base e size v n xs) (b:Nat) (hb:b<base):some b≠v.ownBlock:=by
 rcases h.2 with ⟨rfl,_⟩|⟨g,cap,cur,rfl,hg,_⟩
 ·simp [Value.ownBlock]
 ·intro e;have:b=g:=by simpa [Value.ownBlock] using e
  omega
theorem dE {w:World} {base e size n:Nat} {v:Value} {xs:List Value} (h:w.ownsRow base e size v n xs) (hn:0<n):∃g cap,v= .slice (some ⟨g,0,none⟩) n cap∧g<w.heap.size:=by
 rcases h.2 with ⟨_,h0⟩|⟨g,cap,cur,rfl,_,hh,_⟩
 ·omega
 ·exact ⟨g,cap,rfl,(bT.1 hh).1⟩
theorem LQ {w:World} {base e size n:Nat} {v:Value} {xs:List Value} (h:w.ownsRow base e size v n xs):∀b,v.ownBlock=some b→b<w.heap.size:=by
 intro b hb;rcases h.2 with ⟨rfl,_⟩|⟨g,cap,cur,rfl,_,hh,_⟩
 ·simp [Value.ownBlock] at hb
 ·have:g=b:=by simpa [Value.ownBlock] using hb
  subst this;exact (bT.1 hh).1
theorem kG:(Tryz.prog.info? 5).map (fun i=>(i.zero,i.size,i.bytes))=some (some (.int .u8 0),1,1):=by kernel_rfl
abbrev pt (b:Nat):Value:= .pointer (some ⟨b,0,none⟩)
def fits (n:Int):Prop:= -9223372036854775808≤n∧n≤9223372036854775807
def aX:List UInt8:=List.replicate 32 0
theorem rY:(aj aX).toArray= #[Value.int .u8 0,Value.int .u8 0,Value.int .u8 0,Value.int .u8 0,Value.int .u8 0,Value.int .u8 0,Value.int .u8 0,Value.int .u8 0,Value.int .u8 0,Value.int .u8 0,Value.int .u8 0,Value.int .u8 0,Value.int .u8 0,Value.int .u8 0,Value.int .u8 0,Value.int .u8 0,Value.int .u8 0,Value.int .u8 0,Value.int .u8 0,Value.int .u8 0,Value.int .u8 0,Value.int .u8 0,Value.int .u8 0,Value.int .u8 0,Value.int .u8 0,Value.int .u8 0,Value.int .u8 0,Value.int .u8 0,Value.int .u8 0,Value.int .u8 0,Value.int .u8 0,Value.int .u8 0]:=rfl
theorem Ai (w:World):(sizeOf 5).run Tryz.prog w= .ok 1 w:=by kernel_rfl
theorem nC (r:List UInt8):∀v∈aj r,v.oneCell'=true:=by
 intro v hv;simp only [aj,List.mem_map] at hv;obtain ⟨x,_,rfl⟩:=hv;rfl
theorem ag (w:World) (o:Obj):Below w.heap.size w (w.alloc o):=(Below.refl _ _).alloc (Nat.le_refl _) _
section
variable {P:Program} {ops:Array Oper} {Q:Exit→Act→World→Prop} {a:Act} {w:World} {rest:List Oper} {o:Oper}
theorem aV (hw:Region.wanted o (yielded ops a.tmps)=true) (ty:TypeId) (x:Operand) (ho:o.op= .load ty x) (g:Nat) (hx:a.eval x= .pointer (some ⟨g,0,none⟩)) (cs:Array Value) (hr:Row w g cs)
  (d:TypeDesc) (hu:P.underlying ty=some d) (hd:d.isRow=true) (hi:(P.info? ty).map (·.size)=some cs.size)
  (h:wpList P ops Q rest (a.put o.dst (.agg cs)) w):wpList P ops Q (o::rest) a w:=by
 unfold wpList;rw [if_pos hw];have hc:w.rangeAt g 0 cs.toList:=fun j v hv=>by rw [Nat.zero_add,hr.2 j];simpa using hv
 refine .inl (wp_load_mid ty x ho g 0 hx cs.toList d hc hu hd (by rw [hi];simp) ?_);simpa using h
end
def dA (zs:List Int):List UInt8:=zs.flatMap fun z=>le z 1
theorem Bz (zs:List Int) (z:Int):dA (zs++ [z])=dA zs++le z 1:=by simp [dA]
theorem iI (zs:List Int):(dA zs).length=zs.length:=by
 induction zs with
 |nil=>rfl
 |cons z zs ih=>simp only [dA,List.flatMap_cons,aZ,aC] at ih ⊢;rw [ih];simp;omega
section
variable {P:Program} {ops:Array Oper} {Q:Exit→Act→World→Prop} {a:Act} {w:World} {rest:List Oper} {d:Option Tmp} {t:TypeId} {pos:String} {af:Array Edge} {g:Option (Nat×Bool)}
theorem bn (ty:TypeId) (h:wpList P ops Q (⟨d, .alloc ty,t,pos,af,g⟩::rest) a w):wpList P ops Q (⟨d, .alloc ty,t,pos,af,g⟩::rest) a w:=h
end
theorem iK {w:World} {b:Nat} {o:Obj} (h:w.heap[b]? =some o):b<w.heap.size:=(bT.1 h).1
theorem Row.jF {w:World} {b:Nat} {cs:Array Value} {t:TypeId} {fr:Nat×Nat} (h:w.heap[b]? =some (.cells cs t fr)):Row w b cs:=
 ⟨iK h,fun i=>cell_of_row w b i cs t fr h⟩
section
variable {P:Program} {ops:Array Oper} {Q:Exit→Act→World→Prop} {a:Act} {w:World} {rest:List Oper} {o:Oper}
theorem dh (hg:o.guard=none) (t:TypeId) (ho:o.op= .alloc t) (cells:Array Value) (hz:(P.info? t).map (fun i=>(i.zero,i.size))=some (some (.agg cells),cells.size))
  (h:wpList P ops Q rest (a.put o.dst (.pointer (some ⟨w.heap.size,0,none⟩))) (w.alloc (.cells cells t))):wpList P ops Q (o::rest) a w:=by
 refine wpList_plain hg fun K hK=>?_;unfold Oper.wp execOp;simp only [ho,Sem.run_bind,jm w t (.agg cells) _ hz,Result.andThen_ok];exact hK _ _ h
end
theorem vS {P:Program} {ops:Array Oper} {o:Oper} {a:Act} {w:World} {K:Act→World→Prop} {Q:Exit→Act→World→Prop} {E:Prop} (hgd:o.guard=none) (d s:Operand) (dT sT:TypeId)
  (ho:o.op= .call {callee:= .builtin .copy,args:= #[d,s],argTypes:= #[dT,sT]}) (elem:TypeId) (hu:P.underlying dT=some (.slice elem)) (hsz:(P.info? elem).map (·.size)=some 1)
  (g off dLen dCap:Nat) (ad:Addr) (sLen sCap:Nat) (hd:a.eval d= .slice (some ⟨g,off,none⟩) dLen dCap) (hs:a.eval s= .slice (some ad) sLen sCap)
  (cur:Array Value) (t:TypeId) (hg:w.heap[g]? =some (.cells cur t (0,0))) (cs:List Value) (hn:cs.length=Nat.min sLen dLen)
  (hsrc:∀j v,cs[j]? =some v→w.cell? (ad.add j)=some v) (hfit:off+cs.length≤cur.size) (h1:∀v∈cs,v.oneCell'=true)
  (new:Array Value) (hnew:new=(splice cur.toList off cs).toArray) (h:K (a.put o.dst (goInt cs.length)) (w.setRow g new)):
  if Region.wanted o (yielded ops a.tmps)=true then Oper.wp P o a w K Q else E:=by
 have hw:Region.wanted o (yielded ops a.tmps)=true:=by simp [Region.wanted,hgd]
 rw [if_pos hw];have hrun:=run_copy_row (P:=P) w dT sT o.type elem g off dLen dCap ad sLen sCap cur t cs hu hsz hg hn hsrc hfit h1;have e:(cur.toList.take off++cs++cur.toList.drop (off+cs.length)).toArray=new:=by rw [hnew];simp [splice]
 rw [e] at hrun;unfold Oper.wp;simp [execOp,ho,resolve,invoke,builtin,hd,hs,hrun,Result.andThen];exact h
theorem IZ (xs:List UInt8):∀v∈aj xs,v.oneCell'=true:=nC xs
theorem bI {P:Program} {fn:Func} {p u:Tmp} {ty:TypeId} (h:fn.results= #[.cell p ty, .tmp u]) (tmps:Array Value) (w:World) (g:Nat) (t:TypeId) (cs:Array Value) (fr:Nat×Nat) (d:TypeDesc)
  (hp:tmps.getD p undef= .pointer (some ⟨g,0,none⟩)) (hg:w.heap[g]? =some (.cells cs t fr))
  (hu:P.underlying ty=some d) (hd:(match d with| .struct _| .array _ _=>true|_=>false)=true) (hi:(P.info? ty).map (·.size)=some cs.size) (v:Value) (hv:tmps.getD u undef=v):
  (results fn tmps).run P w= .ok (.tuple #[.agg cs,v]) w:=by
 rw [results_cell_tmp h,hp,hv];simp [asAddr,Result.andThen,run_loadVar_row w g t ty cs fr d hg hu hd hi]
theorem Ie {w:World} {B:Nat} {v:Value} {bs:List UInt8} (h:w.ownsRow B 5 1 v bs.length (bs.map Extern.Stop.cell)):
  ∃A c,v= .slice A bs.length c∧bs.length≤c∧c≤maxLen∧(A=none→c=0)∧BytesAt w w.heap.size A bs:=by
 obtain ⟨h0,⟨rfl,h⟩|⟨g,cap,cur,rfl,hg,hb,h1,h2,h3,h4⟩⟩:=h
 ·exact ⟨none,0,by rw [h],by omega,Nat.zero_le _,fun _=>rfl, .inl h⟩
 ·refine ⟨some ⟨g,0,none⟩,cap,rfl,h1,h2,(fun e=>nomatch e), .inr ⟨g,0,rfl,iK hb,fun j hj=>?_⟩⟩;have h5:(cur.toList.take (bs.length*1))[j]? =(bs.map Extern.Stop.cell)[j]? :=by rw [h4]
  rw [Nat.mul_one,List.getElem?_take_of_lt hj,List.getElem?_map] at h5;rw [Nat.zero_add,cell_of_row w g j _ _ _ hb];simp only [Array.getElem?_toList] at h5;rw [h5];simp [hj]
theorem aN {w w':World} {B b o:Nat} {cs:List Value} (h:w.rangeAt b o cs) (hb:Below B w w') (hB:b<B):w'.rangeAt b o cs:=fun j v hv=>(World.cell?_of_block (a:=⟨b,o+j,none⟩) (hb.block b hB)).trans (h j v hv)
def LI (lo:Nat) (w:World) (A:Option Addr) (zs:List Int):Prop:=
 zs.length=0∨∃b off,A=some ⟨b,off,none⟩∧lo≤b∧b<w.heap.size∧∀j,j<zs.length→w.cell? ⟨b,off+j,none⟩=some (I (zs[j]?.getD 0))
theorem LI.aP {lo:Nat} {w w':World} {A:Option Addr} {zs:List Int} (h:LI lo w A zs) (hs:w.heap.size≤w'.heap.size) (hb:∀k,lo≤k→k<w.heap.size→w'.heap[k]? =w.heap[k]?):LI lo w' A zs:=by
 rcases h with h|⟨b,off,hA,h1,h2,hc⟩
 ·exact .inl h
 ·exact .inr ⟨b,off,hA,h1,dQ h2 hs,fun j hj=>(World.cell?_of_block (a:=⟨b,off+j,none⟩) (hb b h1 h2)).trans (hc j hj)⟩
theorem LI.lower {lo lo':Nat} {w:World} {A:Option Addr} {zs:List Int} (h:LI lo w A zs) (hl:lo'≤lo):LI lo' w A zs:=by
 rcases h with h|⟨b,off,hA,h1,h2,hc⟩
 ·exact .inl h
 ·exact .inr ⟨b,off,hA,Nat.le_trans hl h1,h2,hc⟩
theorem LI.ints {lo:Nat} {w:World} {A:Option Addr} {zs:List Int} (h:LI lo w A zs):fG w w.heap.size A zs:=by
 rcases h with h|⟨b,off,hA,h1,h2,hc⟩
 ·exact .inl h
 ·exact .inr ⟨b,off,hA,h2,hc⟩
theorem dF {lo e size n:Nat} {w w':World} {v:Value} {xs:List Value} (h:w.ownsRow lo e size v n xs) (hb:∀k,lo≤k→k<w.heap.size→w'.heap[k]? =w.heap[k]?):w'.ownsRow lo e size v n xs:=by
 refine ⟨h.1,?_⟩;rcases h.2 with h|⟨g,cap,cur,rfl,hg,hh,hr⟩
 ·exact .inl h
 ·exact .inr ⟨g,cap,cur,rfl,hg,(hb g hg (bT.1 hh).1).trans hh,hr⟩
section
variable {P:Program} {ops:Array Oper} {Q:Exit→Act→World→Prop} {a:Act} {w:World} {rest:List Oper} {d:Option Tmp} {t:TypeId} {pos:String} {af:Array Edge} {g:Option (Nat×Bool)}
theorem dY (ty:TypeId) {x:Operand} (h:wpList P ops Q (⟨d, .load ty x,t,pos,af,g⟩::rest) a w):wpList P ops Q (⟨d, .load ty x,t,pos,af,g⟩::rest) a w:=h
theorem bW (ty:TypeId) {x y:Operand} (h:wpList P ops Q (⟨d, .store ty x y,t,pos,af,g⟩::rest) a w):wpList P ops Q (⟨d, .store ty x y,t,pos,af,g⟩::rest) a w:=h
end
theorem vK (a:Nat) (ha:a≤1000000) (w:World):Calls Tryz.prog 139 #[I a] w fun e w'=>e= .returned (.int .u64 a)∧w'=w:=by
 have h0:¬(a:Int)<0:=by omega
 have hw:IntKind.u64.wrap (a:Int)=a:=by rw [IntKind.wrap_u64];omega
 go_enter Tryz.func139,Tryz.ntmps139
 go_wp2
 go_ret;exact ⟨rfl,rfl⟩
def Tj:Value→Nat
 | .int _ n=>n.toNat
 |_=>0
theorem VE (a b:Nat) (ha:a≤1000000) (hb:b≤1000000) (w:World):Calls Tryz.prog 126 #[I a,I b] w fun e w'=>e= .returned (I (Nat.gcd a b))∧Below w.heap.size w w':=by
 go_enter Tryz.func126,Tryz.ntmps126;go_wp2_with fail;refine (vK a ha _).mono ?_;rintro e w1 ⟨rfl,rfl⟩;go_wp2_with fail;refine (vK b hb _).mono ?_;rintro e w2 ⟨rfl,rfl⟩;go_wp2_with fail
 go_loopw [5,6] (fun u v wr=>∃x y:Nat,u= .int .u64 x∧v= .int .u64 y∧x≤1000000∧y≤1000000∧Nat.gcd x y=Nat.gcd a b∧Below w2.heap.size w2 wr) (fun _ v _=>Tj v)
 case atStart=>exact ⟨a,b,rfl,rfl,ha,hb,rfl,Below.refl _ _⟩
 case round=>
  obtain ⟨x,y,rfl,rfl,hx,hy,hg,hbe⟩:=hrel;have HG:=ae hg;have Ur:=ae hbe;clear hg hbe;by_cases hy0:y=0
  ·subst hy0;have hq:¬(9223372036854775807:Int)<(x:Int):=by omega
   have hw:IntKind.i64.wrap (x:Int)=x:=by rw [IntKind.wrap_i64];omega
   go_wp2_with fail;go_ret;refine ⟨?_,Ur.out⟩;have:=HG.out;rw [Nat.gcd_zero_right] at this;rw [this];rfl
  ·have hy1:¬(y:Int)=0:=by omega
   have hy2:((y:Int) !=0)=true:=by simp [hy0]
   have hlt:x%y<y:=Nat.mod_lt _ (by omega);obtain ⟨z,hz⟩:∃z,x%y=z:=⟨_,rfl⟩;have hm:(x:Int)%(y:Int)=(z:Int):=by omega
   have hm2:Int.tmod (x:Int) (y:Int)=(z:Int):=by rw [Int.tmod_eq_emod_of_nonneg (by omega)];exact hm
   rw [hz] at hlt;have HZ:=ae hz;have hw:IntKind.u64.wrap (z:Int)=(z:Int):=by rw [IntKind.wrap_u64];omega
   clear hz;go_wp2_with fail;go_quiet (fail);go_wp2_with fail;go_roundw
   case rel=>exact ⟨y,z,rfl,by first|rfl|go_num,hy,by omega,by rw [←HG.out,Nat.gcd_comm x y,Nat.gcd_rec y x,Nat.gcd_comm,HZ.out],ah Ur.out (below_drewN' _ _)⟩
   case measure=>simp [Tj];omega
theorem N9 (a b:Nat) (ha:1≤a) (ha2:a≤400) (hb:1≤b) (hb2:b≤400) (w:World):Calls Tryz.prog 116 #[I a,I b] w fun e w'=>e= .returned (.tuple #[I (Nat.lcm a b),I 0])∧Below w.heap.size w w':=by
 have HG:=ae (VE a b (by omega) (by omega) w);have h1:¬(a:Int)<1:=by omega
 have h2:¬(b:Int)<1:=by omega
 have yz:0<Nat.gcd a b:=Nat.gcd_pos_of_pos_left _ ha;have hl:a / Nat.gcd a b*b=Nat.lcm a b:=by
  have e:=Nat.lcm_eq_mul_div a b;rw [e,Nat.div_mul_right_comm (Nat.gcd_dvd_left a b)]
 obtain ⟨g,hg⟩:∃g,Nat.gcd a b=g:=⟨_,rfl⟩;rw [hg] at HG yz hl;obtain ⟨r,hr⟩:∃r,a / g=r:=⟨_,rfl⟩;have hr4:r≤400:=by rw [←hr];exact Nat.le_trans (Nat.div_le_self _ _) ha2
 have hq:Int.tdiv (a:Int) (g:Int)=(r:Int):=by rw [←hr];rfl
 have hq':(a:Int) / (g:Int)=(r:Int):=by rw [←hr];rfl
 obtain ⟨t,ht⟩:∃t,1099511627776 / b=t:=⟨_,rfl⟩;have ht4:400≤t:=by rw [←ht,Nat.le_div_iff_mul_le (by omega)];omega
 have hq2:Int.tdiv 1099511627776 (b:Int)=(t:Int):=by rw [←ht];rfl
 have hq2':(1099511627776:Int) / (b:Int)=(t:Int):=by rw [←ht];rfl
 have hbig:¬(t:Int)<(r:Int):=by omega
 have hwr:IntKind.i64.wrap (r:Int)=r:=by rw [IntKind.wrap_i64];omega
 have ht5:t≤1099511627776:=by rw [←ht];exact Nat.div_le_self _ _
 have hwt:IntKind.i64.wrap (t:Int)=t:=by rw [IntKind.wrap_i64];omega
 rw [hr] at hl;have hp:(r:Int)*(b:Int)=((Nat.lcm a b:Nat):Int):=by rw [←hl];exact (Int.natCast_mul r b).symm
 have hlb:Nat.lcm a b≤160000:=by rw [←hl];exact Nat.mul_le_mul hr4 hb2
 obtain ⟨m,hm⟩:∃m,Nat.lcm a b=m:=⟨_,rfl⟩;rw [hm] at hp hlb ⊢;have hwm:IntKind.i64.wrap (m:Int)=m:=by rw [IntKind.wrap_i64];omega
 have hg0:¬(g:Int)=0:=by omega
 have hb0:¬(b:Int)=0:=by omega
 clear hr ht hl hm hg;go_enter Tryz.func116,Tryz.ntmps116;go_wp2_with fail;refine HG.out.mono ?_;rintro e w1 ⟨rfl,hb1⟩;have HB1:=ae hb1;clear hb1;go_wp2_with fail;go_ret2;exact ⟨rfl,HB1.out⟩
structure Lr where
 every:Int
 rest:Int
 yes:Bool
def Lr.cells (r:Lr):List Value:= [I r.every,I r.rest, .bool r.yes]
def NG (w:World) (B:Nat) (A:Option Addr) (rs:List Lr):Prop:=
 rs.length=0∨∃b,A=some ⟨b,0,none⟩∧b<B∧∀k x,rs[k]? =some x→w.rangeAt b (k*3) x.cells
theorem NG.keep {w w':World} {B:Nat} {A:Option Addr} {rs:List Lr} (h:NG w B A rs) (hb:Below B w w'):NG w' B A rs:=by
 rcases h with h|⟨b,h1,h2,h3⟩
 ·exact .inl h
 ·exact .inr ⟨b,h1,h2,fun k x hx=>aN (h3 k x hx) hb h2⟩
def QT:Nat→List Lr→Prop
 |_,[]=>True
 |y,r::rs=>∃e:Nat,r.every=e∧1≤e∧e≤400∧0≤r.rest∧r.rest<e∧1≤Nat.lcm y e∧Nat.lcm y e≤400∧QT (Nat.lcm y e) rs
theorem LY (A:Option Addr) (n c:Nat) (rs:List Lr) (w:World) (hA:NG w w.heap.size A rs) (hl:rs.length=n) (hn:n≤1000) (hp:QT 1 rs):
  Calls Tryz.prog 102 #[.slice A n c] w fun e w'=>(∃y,e= .returned (.tuple #[I y, .bool true]))∧Below w.heap.size w w':=by
 have HA:=ae hA;have HL:=ae hl;have HP:=ae hp;clear hA hl hp;go_enter Tryz.func102,Tryz.ntmps102;go_wp2_with fail
 go_loopw [4,11] (fun u i wr=>∃k y:Nat,k≤n∧i=I k∧u=I y∧1≤y∧y≤400∧QT y (rs.drop k)∧Below w.heap.size w wr) (fun _ i _=>n - (intOf i).toNat)
 case atStart=>exact ⟨0,1,Nat.zero_le _,rfl,rfl,by omega,by omega,by simpa using HP.out,Below.refl _ _⟩
 case round=>
  obtain ⟨k,y,hk,rfl,rfl,hy1,hy2,aab,hbe⟩:=hrel;have Ur:=ae hbe;by_cases hlt:k<n
  ·have i0:(0:Int)≤(k:Int):=by omega
   have i1:(k:Int)<(n:Int):=by omega
   have hkl:k<rs.length:=by rw [HL.out];exact hlt
   rw [List.drop_eq_getElem_cons hkl] at aab;obtain ⟨e,he,h1,h2,h3,h4,h5,h6,h7⟩:=aab;have hx:rs[k]? =some rs[k]:=dw hkl;rcases (HA.out.keep hbe) with h|⟨b,rfl,hb,hc⟩
   ·omega
   have hr:=hc k _ hx;have hbl:b<wr.heap.size:=dQ hb hbe.size;generalize rs[k]=rk at he h3 h4 hr;obtain ⟨ev,re,ye⟩:=rk;simp only at he h3 h4;subst he;have f0:wr.cell? ⟨b,k*3,none⟩=some (I e):=hr 0 _ rfl;have f1:wr.cell? ⟨b,k*3+1,none⟩=some (I re):=hr 1 _ rfl;have f2:wr.cell? ⟨b,k*3+2,none⟩=some (.bool ye):=hr 2 _ rfl;have hne:¬b=wr.heap.size:=by omega
   have q1:¬(e:Int)<1:=by omega
   have q2:¬(400:Int)<(e:Int):=by omega
   have q3:¬re<0:=by omega
   have q4:¬(e:Int)≤re:=by omega
   have H7:=ae h7;have HB2:=ae (ag wr (.cells #[I e,I re, .bool ye] 125));clear hr hc hx hbe h7;go_wp2_with fail;refine (N9 y e hy1 hy2 h1 h2 _).mono ?_;rintro x w5 ⟨rfl,hb5⟩;have oO:=ae (ah HB2.out hb5);obtain ⟨m,hm⟩:∃m,Nat.lcm y e=m:=⟨_,rfl⟩;rw [hm] at h5 h6 H7 ⊢;have q5:¬(400:Int)<(m:Int):=by omega
   clear hb5 hm;go_wp2_with fail;go_roundw
   case rel=>exact ⟨k+1,m,by omega,by go_num,rfl,h5,h6,H7.out,ah Ur.out oO.out⟩
   case measure=>simp [intOf];omega
  ·clear aab hbe;go_wp2_with fail;go_ret2;exact ⟨⟨_,rfl⟩,Ur.out⟩
structure Cal where
 aY:Int
 az:List Int
 dP:Int
 rules:List Lr
def aF (c:Cal) (A:Option Addr) (ca:Nat) (B:Option Addr) (cb:Nat):Array Value:= #[I c.aY, .slice A c.az.length ca,I c.dP, .slice B c.rules.length cb]
attribute [local go_sem] aF
end Go.Proofs.YtdibbemgpikgjaaGreatDoor
namespace Go.Proofs.YtdibbemgpikgjaaGreatDoor
open Go Go.RowKit
structure l7 (mb:Nat) (w w':World):Prop where
 os:w'.os=w.os
 tape:w'.tape=w.tape
 output:w'.output=w.output
 size:w.heap.size≤w'.heap.size
 block:∀k,k<w.heap.size→k≠mb→w'.heap[k]? =w.heap[k]?
theorem l7.of_below {mb:Nat} {w w':World} (h:Below w.heap.size w w'):l7 mb w w':=⟨h.os,h.tape,h.output,h.size,fun k hk _=>h.block k hk⟩
theorem bD {w:World} {base base' e size n:Nat} {v:Value} {xs:List Value} (h:w.ownsRow base e size v n xs) (hb:base'≤base):w.ownsRow base' e size v n xs:=by
 refine ⟨h.1,?_⟩;rcases h.2 with h|⟨g,cap,cur,rfl,hg,hh⟩
 ·exact .inl h
 ·exact .inr ⟨g,cap,cur,rfl,Nat.le_trans hb hg,hh⟩
theorem addr_add (g j:Nat):(⟨g,0,none⟩:Addr).add j=⟨g,j,none⟩:=by unfold Addr.add;split<;>simp_all
theorem uu:(Tryz.prog.info? 3).map (fun i=>(i.zero,i.size,i.bytes))=some (some (.int .i64 0),1,8):=by kernel_rfl
theorem kz {mb base e size n:Nat} {w w':World} {v:Value} {xs:List Value} (h:w.ownsRow base e size v n xs) (hk:l7 mb w w') (hb:mb<base):w'.ownsRow base e size v n xs:=by
 refine ⟨h.1,?_⟩;rcases h.2 with h|⟨g,cap,cur,rfl,hg,hh,hr⟩
 ·exact .inl h
 ·exact .inr ⟨g,cap,cur,rfl,hg,(hk.block g (bT.1 hh).1 (by omega)).trans hh,hr⟩
theorem lC {α:Type} (xs:List α) (k:Nat) (x:α) (h:xs[k]? =some x):xs.take (k+1)=xs.take k++ [x]:=by rw [List.take_add_one,h];rfl
def aA (w:World) (B:Nat) (A:Option Addr) (cs:List Value):Prop:=
 cs.length=0∨∃b off,A=some ⟨b,off,none⟩∧b<B∧∀j u,cs[j]? =some u→w.cell? ⟨b,off+j,none⟩=some u
section
variable {w w':World} {B B':Nat} {A:Option Addr} {cs:List Value}
theorem aA.keep (h:aA w B A cs) (hb:Below B w w'):aA w' B A cs:=by
 rcases h with h|⟨b,off,h1,h2,h3⟩
 ·exact .inl h
 ·exact .inr ⟨b,off,h1,h2,fun j u hu=>(hb.cell (p:=⟨b,off+j,none⟩) h2).trans (h3 j u hu)⟩
theorem aA.more (h:aA w B A cs) (hB:B≤B'):aA w B' A cs:=by
 rcases h with h|⟨b,off,h1,h2,h3⟩
 ·exact .inl h
 ·exact .inr ⟨b,off,h1,by omega,h3⟩
theorem aA.grow (h:aA w w.heap.size A cs) (hb:Below w.heap.size w w'):aA w' w'.heap.size A cs:=(h.keep hb).more hb.size
theorem aA.nil:aA w B A []:= .inl rfl
theorem aA.there (h:aA w B A cs) (h0:0<cs.length):∃b off,A=some ⟨b,off,none⟩∧b<B∧∀j u,cs[j]? =some u→w.cell? ⟨b,off+j,none⟩=some u:=by
 rcases h with h|h
 ·omega
 ·exact h
theorem aA.dS {lo e size n c:Nat} (h:w.ownsRow lo e size (.slice A n c) n cs):aA w w.heap.size A cs:=by
 rcases h.2 with ⟨hv,hn⟩|⟨g,cap,cur,hv,_,hh,_⟩
 ·refine .inl ?_;rw [h.1,hn,Nat.zero_mul]
 ·injection hv with h1 _ _;subst h1;exact .inr ⟨g,0,rfl,(bT.1 hh).1,fun j u hu=>by rw [Nat.zero_add,←addr_add];exact h.cells (g:=g) rfl j u hu⟩
theorem aA.ints {zs:List Int} (h:aA w B A (zs.map I)):fG w B A zs:=by
 rcases h with h|⟨b,off,h1,h2,h3⟩
 ·exact .inl (by simpa using h)
 ·refine .inr ⟨b,off,h1,h2,fun j hj=>?_⟩;rw [h3 j (I zs[j]) (by rw [List.getElem?_map,dw hj];rfl),dw hj];rfl
end
theorem flat_get {α:Type} {s:Nat} (f:α→List Value) (xs:List α) (hs:∀x∈xs,(f x).length=s) (k j:Nat) (x:α) (hx:xs[k]? =some x) (hj:j<s):(xs.flatMap f)[k*s+j]? =(f x)[j]? :=by
 induction xs generalizing k with
 |nil=>cases hx
 |cons y xs ih=>
  rw [List.flatMap_cons];have hy:=hs y (List.mem_cons_self ..);cases k with
  |zero=>
   injection hx with hx;subst hx;rw [Nat.zero_mul,Nat.zero_add,List.getElem?_append_left (by rw [hy];exact hj)]
  |succ k=>
   rw [List.getElem?_append_right (by rw [hy,Nat.succ_mul];omega),hy,show (k+1)*s+j - s=k*s+j by rw [Nat.succ_mul];omega];exact ih (fun x hx=>hs x (List.mem_cons_of_mem _ hx)) k hx
theorem dN {α:Type} {s:Nat} (f:α→List Value) (xs:List α) (hs:∀x∈xs,(f x).length=s):(xs.flatMap f).length=xs.length*s:=by
 induction xs with
 |nil=>simp
 |cons y xs ih=>rw [List.flatMap_cons,aZ,ih (fun x hx=>hs x (List.mem_cons_of_mem _ hx)),hs y (List.mem_cons_self ..),List.length_cons,Nat.succ_mul];omega
theorem FK {α:Type} (f:α→List Value) (xs:List α) (h1:∀x∈xs,∀u∈f x,u.oneCell'=true):∀u∈xs.flatMap f,u.oneCell'=true:=by
 intro u hu;obtain ⟨x,hm,hx⟩:=List.mem_flatMap.1 hu;exact h1 x hm u hx
theorem aA.elem {α:Type} {w:World} {s b off:Nat} {f:α→List Value} {xs:List α} (hs:∀x∈xs,(f x).length=s) (h:∀j u,(xs.flatMap f)[j]? =some u→w.cell? ⟨b,off+j,none⟩=some u) (k:Nat) (x:α) (hx:xs[k]? =some x):w.rangeAt b (off+k*s) (f x):=by
 intro j u hu;have hj:j<s:=by rw [←hs x (fZ hx)];exact (gu.1 hu).1
 rw [Nat.add_assoc];exact h _ u (by rw [flat_get f xs hs k j x hx hj];exact hu)
structure zW (c:Cal):Prop where
 ep:0≤c.aY∧c.aY≤1048576
 mo:1≤c.az.length∧c.az.length≤16
 le:c.dP= -1
 ru:c.rules= []
 all:∀m∈c.az,1≤m∧m≤40
attribute [local go_sem] aF
theorem zF (c:Cal) (A:Option Addr) (ca:Nat) (B:Option Addr) (cb:Nat) (w:World) (hA:fG w w.heap.size A c.az) (h:zW c):
  Calls Tryz.prog 84 #[.agg (aF c A ca B cb)] w (Gives (.bool true) w):=by
 have HB0:=ae (ag w (.cells (aF c A ca B cb) 63));have HRW:=ae (Row.new w (aF c A ca B cb) 63);obtain ⟨ep,mo,le,ru⟩:=c;obtain ⟨⟨e1,e2⟩,⟨m1,m2⟩,l1,r1,hall⟩:=h;simp only at e1 e2 m1 m2 l1 r1 hall hA;subst l1 r1;have He:=ae (fun (w':World) (_:Below w.heap.size w w')=>LY B 0 cb [] w' (.inl rfl) rfl (by decide) trivial);obtain ⟨b,off,rfl,hb,hc⟩:∃b off,A=some ⟨b,off,none⟩∧b<w.heap.size∧∀j,j<mo.length→w.cell? ⟨b,off+j,none⟩=some (I (mo[j]?.getD 0)):=by
  rcases hA with h|h
  ·omega
  ·exact h
 have HC:=ae hc;have lF:=ae (fun k (hk:k<mo.length)=>hall _ (List.getElem_mem hk));have q1:¬ep<0:=by omega
 have q2:¬(1048576:Int)<ep:=by omega
 obtain ⟨n,hn⟩:∃n,mo.length=n:=⟨_,rfl⟩;have q3:¬(n:Int)<1:=by omega
 have q4:¬(16:Int)<(n:Int):=by omega
 have q6:¬(n:Int)≤ -1:=by omega
 have hne:¬b=w.heap.size:=by omega
 have HN:=ae hn;have e0:(aF ⟨ep,mo, -1,[]⟩ (some ⟨b,off,none⟩) ca B cb)= #[I ep, .slice (some ⟨b,off,none⟩) n ca,I (-1), .slice B 0 cb]:=by rw [←hn];rfl
 rw [e0] at HB0 HRW ⊢;clear hc hall hA e0 hn;go_enter Tryz.func84,Tryz.ntmps84;go_wp2_with fail
 go_loopw [52] (fun i wr=>∃k:Nat,k≤n∧i=I k∧wr=w.alloc (.cells #[I ep, .slice (some ⟨b,off,none⟩) n ca,I (-1), .slice B 0 cb] 63)) (fun i _=>n - (intOf i).toNat)
 case atStart=>exact ⟨0,Nat.zero_le _,rfl,rfl⟩
 case round=>
  obtain ⟨k,hk,rfl,rfl⟩:=hrel;by_cases hlt:k<n
  ·have i0:(0:Int)≤(k:Int):=by omega
   have i1:(k:Int)<(n:Int):=by omega
   have Z4:k<mo.length:=by rw [HN.out];exact hlt
   have c1:=HC.out k Z4;have hz:=lF.out k Z4;rw [dw Z4] at c1;generalize mo[k]=z at c1 hz;have c2:w.cell? ⟨b,off+k,none⟩=some (I z):=c1;have q9:¬z<1:=by omega
   have q10:¬(40:Int)<z:=by omega
   clear c1 hz;go_wp2_with fail;go_roundw
   case rel=>exact ⟨k+1,by omega,by go_num,by first|trivial|rfl⟩
   case measure=>simp [intOf];omega
  ·go_wp2_with fail;refine (He.out _ HB0.out).mono ?_;rintro x w5 ⟨⟨y,rfl⟩,hb5⟩;have oO:=ae (ah HB0.out hb5);clear hb5;go_wp2_with fail;go_ret;exact ⟨rfl,oO.out⟩
end Go.Proofs.YtdibbemgpikgjaaGreatDoor
namespace Go.Proofs.YtdibbemgpikgjaaGreatDoor
open Go Go.RowKit
structure Tr where
 at_:Int
 off:Int
structure Yr where
 month:Int
 cZ:Int
 df:Int
 minute:Int
 off:Int
structure Zn where
 cal:Cal
 start:Int
 trans:List Tr
 hor:Int
 aK:List Yr
structure Zs where
 A:Option Addr
 a:Nat
 B:Option Addr
 b:Nat
 C:Option Addr
 c:Nat
 D:Option Addr
 d:Nat
def ay (z:Zn) (s:Zs):Array Value:= #[I z.cal.aY, .slice s.A z.cal.az.length s.a,I z.cal.dP, .slice s.B z.cal.rules.length s.b,I z.start, .slice s.C z.trans.length s.c,I z.hor, .slice s.D z.aK.length s.d]
structure gU (z:Zn):Prop where
 cal:zW z.cal
 start: -1080≤z.start∧z.start≤1080
 trans:z.trans= []
 hor: -2251799813685248≤z.hor∧z.hor≤2251799813685248
 aK:z.aK= []
theorem JF (n l:Int) (w:World) (hl:0≤l∧l≤4503599627370496):Calls Tryz.prog 85 #[I n,I l] w fun e w'=>e= .returned (.bool (decide (-l≤n)&&decide (n≤l)))∧w'=w:=by
 have hw:IntKind.i64.wrap (-l)= -l:=by rw [IntKind.wrap_i64];omega
 by_cases h1: -l≤n
 ·by_cases h2:n≤l
  ·have e:(decide (-l≤n)&&decide (n≤l))=true:=by rw [decide_eq_true h1,decide_eq_true h2];rfl
   rw [e];go_enter Tryz.func85,Tryz.ntmps85
   go_wp2
   go_ret;exact ⟨rfl,rfl⟩
  ·have e:(decide (-l≤n)&&decide (n≤l))=false:=by rw [decide_eq_false h2];simp
   rw [e];go_enter Tryz.func85,Tryz.ntmps85
   go_wp2
   go_ret;exact ⟨rfl,rfl⟩
 ·have e:(decide (-l≤n)&&decide (n≤l))=false:=by rw [decide_eq_false h1];simp
  rw [e];go_enter Tryz.func85,Tryz.ntmps85
  go_wp2
  go_ret;exact ⟨rfl,rfl⟩
theorem lV (z:Zn) (s:Zs):(Tryz.prog.info? 67).map (·.size)=some (ay z s).size:=by kernel_rfl
theorem Dk (z:Zn) (s:Zs):(ay z s).all (·.oneCell')=true:=by kernel_rfl
theorem PU (z:Zn) (s:Zs) (w:World) (h:gU z):Calls Tryz.prog 86 #[.agg (ay z s)] w fun e w'=>(∃b:Nat,e= .returned (.tuple #[pt b, .bool true]))∧Below w.heap.size w w':=by
 have hy:z.aK.length=0:=by rw [h.aK];rfl
 have e0:ay z s= #[I z.cal.aY, .slice s.A z.cal.az.length s.a,I z.cal.dP, .slice s.B z.cal.rules.length s.b,I z.start, .slice s.C z.trans.length s.c,I z.hor, .slice s.D 0 s.d]:=by rw [←hy];rfl
 rw [e0];clear h hy e0;go_enter Tryz.func86,Tryz.ntmps86;go_wp2_with fail;go_ret2;exact ⟨⟨_,rfl⟩,ah (ag _ _) (ag _ _)⟩
theorem jL (n l:Int) (w:World) (hl:0≤l∧l≤4503599627370496) (h1: -l≤n) (h2:n≤l):Calls Tryz.prog 85 #[I n,I l] w fun e w'=>e= .returned (.bool true)∧w'=w:=by
 have h:=JF n l w hl;have e:(decide (-l≤n)&&decide (n≤l))=true:=by rw [decide_eq_true h1,decide_eq_true h2];rfl
 rw [e] at h;exact h
theorem jH {P:Program} {fn:Func} {p q:Tmp} {t1 t2:TypeId} (h:fn.results= #[.cell p t1, .cell q t2]) (tmps:Array Value) (w:World) (a b:Addr) (u v:Value)
  (hp:tmps.getD p undef= .pointer (some a)) (hu:(loadVar t1 a).run P w= .ok u w) (hq:tmps.getD q undef= .pointer (some b)) (hv:(loadVar t2 b).run P w= .ok v w):
  (results fn tmps).run P w= .ok (.tuple #[u,v]) w:=by
 have hp':tmps[p]?.getD undef= .pointer (some a):=by simpa using hp
 have hq':tmps[q]?.getD undef= .pointer (some b):=by simpa using hq
 simp [results,h,hp',hq',asAddr,hu,hv]
theorem kQ (W:World) (a:Addr) (b:Nat) (h:W.cell? a=some (pt b)):(loadVar 145 a).run Tryz.prog W= .ok (pt b) W:=by
 simp [go_sem,h]
theorem iZ (W:World) (a:Addr) (b:Bool) (h:W.cell? a=some (.bool b)):(loadVar 4 a).run Tryz.prog W= .ok (.bool b) W:=by
 simp [go_sem,h]
structure ZO (w:World) (cs:Array Value) (W:World):Prop where
 row:Row W w.heap.size cs
 r1:W.heap[w.heap.size+1]? =some (.cells #[.pointer none] 145 (0,0))
 r2:W.heap[w.heap.size+2]? =some (.cells #[.bool false] 4 (0,0))
 up:Below w.heap.size w W
theorem ZO.below {w W W':World} {cs:Array Value} (h:ZO w cs W) (hb:Below W.heap.size W W'):ZO w cs W':=
 ⟨h.row.keep hb,(hb.block _ (bT.1 h.r1).1).trans h.r1,(hb.block _ (bT.1 h.r2).1).trans h.r2,ah h.up hb⟩
theorem JD (w:World) (cs:Array Value):ZO w cs (((w.alloc (.cells cs 67)).alloc (.cells #[.pointer none] 145)).alloc (.cells #[.bool false] 4)):=by
 have b0:=ag w (.cells cs 67);have r0:=Row.new w cs 67;obtain ⟨W1,hW1⟩:∃W,w.alloc (.cells cs 67)=W:=⟨_,rfl⟩;have hs1:W1.heap.size=w.heap.size+1:=by rw [←hW1];simp
 rw [hW1] at b0 r0 ⊢;have b1:=ag W1 (.cells #[.pointer none] 145);have h1:=heap_alloc_last W1 (.cells #[.pointer none] 145);obtain ⟨W2,hW2⟩:∃W,W1.alloc (.cells #[.pointer none] 145)=W:=⟨_,rfl⟩;have hs2:W2.heap.size=w.heap.size+2:=by rw [←hW2];simp [hs1]
 rw [hW2] at b1 h1 ⊢;rw [hs1] at h1;have b2:=ag W2 (.cells #[.bool false] 4);have h2:=heap_alloc_last W2 (.cells #[.bool false] 4);rw [hs2] at h2;exact ⟨(r0.keep b1).keep b2,(b2.block _ (by omega)).trans h1,h2,ah (ah b0 b1) b2⟩
theorem Nl (z:Zn) (s:Zs) (w:World) (h:gU z) (hA:fG w w.heap.size s.A z.cal.az):Calls Tryz.prog 63 #[.agg (ay z s)] w fun e w'=>(∃b:Nat,e= .returned (.tuple #[pt b, .bool true]))∧Below w.heap.size w w':=by
 have hT:z.trans.length=0:=by rw [h.trans];rfl
 have hy:z.aK.length=0:=by rw [h.aK];rfl
 have hr:z.cal.rules.length=0:=by rw [h.cal.ru];rfl
 have e0:ay z s= #[I z.cal.aY, .slice s.A z.cal.az.length s.a,I z.cal.dP, .slice s.B 0 s.b,I z.start, .slice s.C 0 s.c,I z.hor, .slice s.D 0 s.d]:=by unfold ay;rw [hy,hT,hr]
 have HV:Hid (∀w',Below w.heap.size w w'→Calls Tryz.prog 84 #[.agg #[I z.cal.aY, .slice s.A z.cal.az.length s.a,I z.cal.dP, .slice s.B 0 s.b]] w' (Gives (.bool true) w')):=ae fun w' hb=>by
  have h1:=zF z.cal s.A s.a s.B s.b w' ((hA.keep hb).more hb.size) h.cal;have e1:aF z.cal s.A s.a s.B s.b= #[I z.cal.aY, .slice s.A z.cal.az.length s.a,I z.cal.dP, .slice s.B 0 s.b]:=by unfold aF;rw [hr]
  rwa [e1] at h1
 have HK:Hid (∀w',Calls Tryz.prog 86 #[.agg #[I z.cal.aY, .slice s.A z.cal.az.length s.a,I z.cal.dP, .slice s.B 0 s.b,I z.start, .slice s.C 0 s.c,I z.hor, .slice s.D 0 s.d]] w' fun e w2=>(∃b:Nat,e= .returned (.tuple #[pt b, .bool true]))∧Below w'.heap.size w' w2):=ae fun w'=>by
  have:=PU z s w' h
  rwa [e0] at this
 have HW1:Hid (∀w,Calls Tryz.prog 85 #[I z.start,I 1080] w fun e w'=>e= .returned (.bool true)∧w'=w):=ae fun w=>jL z.start 1080 w (by omega) h.start.1 h.start.2;have HW2:Hid (∀w,Calls Tryz.prog 85 #[I z.hor,I 2251799813685248] w fun e w'=>e= .returned (.bool true)∧w'=w):=ae fun w=>jL z.hor 2251799813685248 w (by omega) h.hor.1 h.hor.2;have HZ0:=ae (JD w #[I z.cal.aY, .slice s.A z.cal.az.length s.a,I z.cal.dP, .slice s.B 0 s.b,I z.start, .slice s.C 0 s.c,I z.hor, .slice s.D 0 s.d]);rw [e0];clear h hy hT hr e0 hA;go_enter Tryz.func63,Tryz.ntmps63;go_wp2_with fail;refine (HV.out _ HZ0.out.up).mono ?_;rintro e w1 ⟨rfl,hb1⟩;have HZ1:=ae (HZ0.out.below hb1);have k1:=HZ1.out.row.2;clear hb1 HZ0 HV;go_wp2_with fail;refine (HW1.out _).mono ?_;rintro e w2 ⟨rfl,rfl⟩;go_wp2_with fail;refine (HW2.out _).mono ?_;rintro e w3 ⟨rfl,rfl⟩;go_wp2_with fail
 go_loopw [37] (fun i wr=>i=I 0∧wr=w3) (fun _ _=>0)
 case atStart=>exact ⟨rfl,rfl⟩
 case round=>
  obtain ⟨rfl,rfl⟩:=hrel;go_wp2_with fail
  go_loopw [90] (fun i wr2=>i=I 0∧wr2=wr) (fun _ _=>0)
  case atStart=>exact ⟨rfl,rfl⟩
  case round=>
   obtain ⟨rfl,rfl⟩:=hrel;go_wp2_with fail;refine (HK.out _).mono ?_;rintro e w5 ⟨⟨b,rfl⟩,hb5⟩;have OU:=ae (HZ1.out.below hb5);have k5:=OU.out.row.2;have hlt5:w.heap.size+1+1<w5.heap.size:=(bT.1 OU.out.r2).1;have hlt3:w.heap.size<w5.heap.size:=by omega
   have hlt4:w.heap.size+1<w5.heap.size:=by omega
   have c1:w5.cell? ⟨w.heap.size+1,0,none⟩=some (.pointer none):=cell_of_row w5 _ 0 _ _ _ OU.out.r1;have c2:w5.cell? ⟨w.heap.size+1+1,0,none⟩=some (.bool false):=cell_of_row w5 _ 0 _ _ _ OU.out.r2;have f1:w5.frozen? ⟨w.heap.size+1,0,none⟩=false:=frozen_of_row w5 _ 0 _ _ OU.out.r1;have f2:w5.frozen? ⟨w.heap.size+1+1,0,none⟩=false:=frozen_of_row w5 _ 0 _ _ OU.out.r2;clear hb5 HZ1 k1 HK;go_wp2_with fail;refine bodyPost_ret (v:= .tuple #[pt b, .bool true]) (jH rfl _ _ ⟨w.heap.size+1,0,none⟩ ⟨w.heap.size+1+1,0,none⟩ (pt b) (.bool true) rfl (kQ _ _ _ ?_) rfl (iZ _ _ _ ?_)) rfl ⟨⟨b,rfl⟩,?_⟩
   ·go_simp
   ·go_simp
   ·exact ah ((OU.out.up.setCell (p:=⟨w.heap.size+1,0,none⟩) (Nat.le_succ _) _).setCell (p:=⟨w.heap.size+1+1,0,none⟩) (by show w.heap.size≤w.heap.size+1+1;omega) _) (ah (ag _ _) (ag _ _))
theorem uH (z:Zn) (s:Zs) (w:World) (h:gU z) (hA:fG w w.heap.size s.A z.cal.az):Calls Tryz.prog 43 #[.agg (ay z s)] w (Gives (I 0) w):=by
 have hT:z.trans.length=0:=by rw [h.trans];rfl
 have HO:Hid (∀w',Below w.heap.size w w'→Calls Tryz.prog 63 #[.agg (ay z s)] w' fun e w2=>(∃b:Nat,e= .returned (.tuple #[pt b, .bool true]))∧Below w'.heap.size w' w2):=ae fun w' hb=>Nl z s w' h ((hA.keep hb).more hb.size);have HR0:=ae (Row.new w (ay z s) 67);have HB0:=ae (ag w (.cells (ay z s) 67));have e0:ay z s= #[I z.cal.aY, .slice s.A z.cal.az.length s.a,I z.cal.dP, .slice s.B z.cal.rules.length s.b,I z.start, .slice s.C 0 s.c,I z.hor, .slice s.D z.aK.length s.d]:=by unfold ay;rw [hT]
 rw [e0] at HO HR0 HB0 ⊢;clear h hT e0 hA;go_enter Tryz.func43,Tryz.ntmps43;go_wp2_with fail;refine (HO.out _ HB0.out).mono ?_;rintro e w1 ⟨⟨b,rfl⟩,hb1⟩;have HB1:=ae (ah HB0.out hb1);clear hb1;go_wp2_with fail;go_ret;exact ⟨rfl,HB1.out⟩
end Go.Proofs.YtdibbemgpikgjaaGreatDoor
