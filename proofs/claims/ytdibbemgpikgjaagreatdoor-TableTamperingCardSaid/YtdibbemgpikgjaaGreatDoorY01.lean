/- The texts Aid, Data, Qa, Pl, Pm, Ps, SvE, SvF, TbC, TbD, in this order. -/
import Derived.Test.YtdibbemgpikgjaaGreatDoorY00
import Derived.Test.YtdibbemgpikgjaaGreatDoorProg
import Derived.Defers
import Derived.Laws.BitsAllLaws
import Derived.Laws.BytesArg
import Derived.Laws.Cover3
import Derived.Lib.AppendStr
import Derived.Lib.ByteType
import Derived.MapKept
import Derived.Recover
set_option maxRecDepth 10000
set_option maxHeartbeats 8000000
namespace Go.Proofs.YtdibbemgpikgjaaGreatDoor
open Go Go.RowKit
section
variable {P:Program} {ops:Array Oper} {Q:Exit→Act→World→Prop} {a:Act} {w:World} {rest:List Oper} {o o2:Oper}
theorem di {t:TypeId} (hg:o.guard=none) (parts:Array (Nat×Operand)) (ho:o.op= .build t parts) (cells:Array Value)
  (hb:P.built t (parts.map fun (i,x)=>(i,a.eval x)).toList=some cells)
  (h:wpList P ops Q rest (a.put o.dst (.agg cells)) w):wpList P ops Q (o::rest) a w:=
 wpList_plain hg fun _ hK=>wp_build t parts ho (by rw [hb];rfl) (by rw [hb];exact hK _ _ h)
theorem ji (w:World) (t:TypeId) (z:Value) (n:Nat) (hz:(P.info? t).map (fun i=>(i.zero,i.size))=some (some z,n)):
  (Instr.alloc t true (.tuple #[])).run P w= .ok (.pointer (some ⟨w.heap.size,0,none⟩)) (w.alloc (.cells z.cells t)):=by
 have h0:=(zero_of_info hz).1 w;simp [Instr.alloc,newVar,newRow,h0]
end
structure Mv where
 day:Int
 drop:Bool
 toDay:Int
 minute:Int
 length:Int
structure Nd where
 kind:Int
 cal:Int
 l:Int
 r:Int
 n:Int
 m:Int
 list:List Int
 name:ByteArray
structure Ser where
 rule:List Nd
 minute:Int
 length:Int
 zone:ByteArray
 gap:Int
 fold:Int
 moves:List Mv
structure Lt where
 kind:Int
 src:Int
 dst:Int
 meeting:Int
 edition:Int
 aP:Int
 version:Int
 person:Int
 other:Int
 resource:Int
 scope:Int
 day:Int
 move:Mv
 series:Ser
 deadline:Int
 state:Int
 grain:Int
 wfrom:Int
 wto:Int
 cells:List Int
 ref:List UInt8
abbrev I (n:Int):Value:= .int .i64 n
def aj (r:List UInt8):List Value:=r.map Extern.Stop.cell
def Gives (v:Value) (w:World) (e:Ending) (w':World):Prop:=e= .returned v∧Below w.heap.size w w'
def fJ (w:World) (B:Nat) (A:Option Addr) (zs:List Int):Prop:=
 zs.length=0∨∃b off,A=some ⟨b,off,none⟩∧b<B∧∀j,j<zs.length→w.cell? ⟨b,off+j,none⟩=some (I (zs[j]?.getD 0))
theorem fJ.keep {w w':World} {B:Nat} {A:Option Addr} {zs:List Int} (h:fJ w B A zs) (hb:Below B w w'):fJ w' B A zs:=by
 rcases h with h|⟨b,off,hA,hbB,hc⟩
 ·exact .inl h
 ·exact .inr ⟨b,off,hA,hbB,fun j hj=>(hb.cell (p:=⟨b,off+j,none⟩) hbB).trans (hc j hj)⟩
theorem fJ.more {w:World} {B B':Nat} {A:Option Addr} {zs:List Int} (h:fJ w B A zs) (hB:B≤B'):fJ w B' A zs:=by
 rcases h with h|⟨b,off,hA,hbB,hc⟩
 ·exact .inl h
 ·exact .inr ⟨b,off,hA,by omega,hc⟩
theorem oq (a b:Int):(a !=b)=decide (a≠b):=by
 rw [Bool.eq_iff_iff];simp
def BytesAt (w:World) (B:Nat) (A:Option Addr) (bs:List UInt8):Prop:=
 bs.length=0∨∃b off,A=some ⟨b,off,none⟩∧b<B∧∀j,j<bs.length→w.cell? ⟨b,off+j,none⟩=some (Extern.Stop.cell (bs[j]?.getD 0))
theorem BytesAt.keep {w w':World} {B:Nat} {A:Option Addr} {bs:List UInt8} (h:BytesAt w B A bs) (hb:Below B w w'):BytesAt w' B A bs:=by
 rcases h with h|⟨b,off,hA,hbB,hc⟩
 ·exact .inl h
 ·exact .inr ⟨b,off,hA,hbB,fun j hj=>(hb.cell (p:=⟨b,off+j,none⟩) hbB).trans (hc j hj)⟩
theorem RZ {x y:UInt8} (h:x≠y):((x.toNat:Int) !=(y.toNat:Int))=true:=by
 rw [oq];exact decide_eq_true (fun e=>h (UInt8.toNat_inj.1 (by omega)))
theorem KX (x:UInt8):((x.toNat:Int) !=(x.toNat:Int))=false:=by
 rw [oq];exact decide_eq_false (by omega)
theorem below_drewN' (w:World) (k:Nat):Below w.heap.size w (w.drewN k):=below_drewN (Below.refl _ _) k
def Row (w:World) (b:Nat) (cs:Array Value):Prop:=b<w.heap.size∧∀i,w.cell? ⟨b,i,none⟩=cs[i]?
theorem Row.keep {w w':World} {b:Nat} {cs:Array Value} (h:Row w b cs) (hb:Below w.heap.size w w'):Row w' b cs:=
 ⟨dP h.1 hb.size,fun i=>(hb.cell (p:=⟨b,i,none⟩) h.1).trans (h.2 i)⟩
theorem Row.new (w:World) (cs:Array Value) (t:TypeId):Row (w.alloc (.cells cs t)) w.heap.size cs:=
 ⟨by simp,fun i=>by rw [World.cell?_alloc_at _ _ _ _ rfl]⟩
theorem ah {w w1 w2:World} (h:Below w.heap.size w w1) (h2:Below w1.heap.size w1 w2):Below w.heap.size w w2:=h.trans (h2.mono h.size)
def byteOf (n:Int):UInt8:=UInt8.ofNat (n%256).toNat
theorem dF (n:Int):Extern.Stop.cell (byteOf n)= .int .u8 (n%256):=by
 have h0:0≤n%256:=Int.emod_nonneg _ (by omega);have h1:n%256<256:=Int.emod_lt_of_pos _ (by omega);have h2:(n%256).toNat<256:=by omega
 have h3:(UInt8.ofNat (n%256).toNat).toNat=(n%256).toNat:=by rw [UInt8.toNat_ofNat'];exact Nat.mod_eq_of_lt h2
 show Value.int .u8 (((UInt8.ofNat (n%256).toNat).toNat:Nat):Int)=_;rw [h3,Int.toNat_of_nonneg h0]
def le:Int→Nat→List UInt8
 |_,0=> []
 |n,s+1=>byteOf n::le (n / 256) s
def jP:Int→Nat→Int
 |n,0=>n
 |n,k+1=>jP n k / 256
theorem Jk (n:Int) (k:Nat):jP (n / 256) k=jP n (k+1):=by
 induction k with
 |zero=>rfl
 |succ k ih=>show jP (n / 256) k / 256=_;rw [ih];rfl
theorem Gl (n:Int) (k:Nat):le n (k+1)=le n k++ [byteOf (jP n k)]:=by
 induction k generalizing n with
 |zero=>rfl
 |succ k ih=>rw [le,ih,Jk];rfl
theorem aF (n:Int) (k:Nat):(le n k).length=k:=by
 induction k generalizing n with
 |zero=>rfl
 |succ k ih=>simp [le,ih]
theorem MN (n:Int) (k:Nat) (h0: -9223372036854775808≤n) (h1:n≤9223372036854775807): -9223372036854775808≤jP n k∧jP n k≤9223372036854775807:=by
 induction k with
 |zero=>exact ⟨h0,h1⟩
 |succ k ih=>unfold jP;omega
structure gX (g:Nat) (v:Value) (w:World) (v':Value) (w':World):Prop where
 os:w'.os=w.os
 tape:w'.tape=w.tape
 output:w'.output=w.output
 size:w.heap.size≤w'.heap.size
 block:∀k,k<w.heap.size→k≠g→some k≠v.ownBlock→w'.heap[k]? =w.heap[k]?
 own:v'.ownBlock=v.ownBlock∨∃b,v'.ownBlock=some b∧w.heap.size≤b
theorem gX.refl (g:Nat) (v:Value) (w:World):gX g v w v w:=⟨rfl,rfl,rfl,Nat.le_refl _,fun _ _ _ _=>rfl, .inl rfl⟩
theorem gX.trans {g:Nat} {v v1 v2:Value} {w w1 w2:World} (h:gX g v w v1 w1) (k:gX g v1 w1 v2 w2):gX g v w v2 w2:=by
 refine ⟨k.os.trans h.os,k.tape.trans h.tape,k.output.trans h.output,Nat.le_trans h.size k.size,fun b hb hg hv=>?_,?_⟩
 ·refine (k.block b (dP hb h.size) hg ?_).trans (h.block b hb hg hv);rcases h.own with e|⟨b1,e,hb1⟩
  ·rw [e];exact hv
  ·rw [e];intro h';injection h' with h';omega
 ·rcases k.own with e|⟨b,e,hb⟩
  ·rcases h.own with e1|⟨b1,e1,hb1⟩
   ·exact .inl (e.trans e1)
   ·exact .inr ⟨b1,e.trans e1,hb1⟩
  ·exact .inr ⟨b,e,Nat.le_trans h.size hb⟩
theorem dW {w:World} {base e size n:Nat} {v u:Value} {xs:List Value} {p:Addr} (h:w.ownsRow base e size v n xs) (hp:some p.block≠v.ownBlock):(w.setCell p u).ownsRow base e size v n xs:=by
 refine ⟨h.1,?_⟩;rcases h.2 with h|⟨g,cap,cur,rfl,hg,hh,h1,h2,h3,h4⟩
 ·exact .inl h
 ·refine .inr ⟨g,cap,cur,rfl,hg,?_,h1,h2,h3,h4⟩;rw [heap_setCell_other w p g u (fun e=>hp (by rw [←e];rfl))];exact hh
theorem eU {w:World} {base e size n:Nat} {v:Value} {xs:List Value} (h:w.ownsRow base e size v n xs) (b:Nat) (hb:b<base):some b≠v.ownBlock:=by
 rcases h.2 with ⟨rfl,_⟩|⟨g,cap,cur,rfl,hg,_⟩
 ·simp [Value.ownBlock]
 ·intro e;have:b=g:=by simpa [Value.ownBlock] using e
  omega
theorem dE {w:World} {base e size n:Nat} {v:Value} {xs:List Value} (h:w.ownsRow base e size v n xs) (hn:0<n):∃g cap,v= .slice (some ⟨g,0,none⟩) n cap∧g<w.heap.size:=by
 rcases h.2 with ⟨_,h0⟩|⟨g,cap,cur,rfl,_,hh,_⟩
 ·omega
 ·exact ⟨g,cap,rfl,(bT.1 hh).1⟩
theorem MB {w:World} {base e size n:Nat} {v:Value} {xs:List Value} (h:w.ownsRow base e size v n xs):∀b,v.ownBlock=some b→b<w.heap.size:=by
 intro b hb;rcases h.2 with ⟨rfl,_⟩|⟨g,cap,cur,rfl,_,hh,_⟩
 ·simp [Value.ownBlock] at hb
 ·have:g=b:=by simpa [Value.ownBlock] using hb
  subst this;exact (bT.1 hh).1
theorem kF:(Tryz.prog.info? 5).map (fun i=>(i.zero,i.size,i.bytes))=some (some (.int .u8 0),1,1):=by kernel_rfl
abbrev pt (b:Nat):Value:= .pointer (some ⟨b,0,none⟩)
def fits (n:Int):Prop:= -9223372036854775808≤n∧n≤9223372036854775807
def aU:List UInt8:=List.replicate 32 0
theorem oG:(aj aU).toArray= #[Value.int .u8 0,Value.int .u8 0,Value.int .u8 0,Value.int .u8 0,Value.int .u8 0,Value.int .u8 0,Value.int .u8 0,Value.int .u8 0,Value.int .u8 0,Value.int .u8 0,Value.int .u8 0,Value.int .u8 0,Value.int .u8 0,Value.int .u8 0,Value.int .u8 0,Value.int .u8 0,Value.int .u8 0,Value.int .u8 0,Value.int .u8 0,Value.int .u8 0,Value.int .u8 0,Value.int .u8 0,Value.int .u8 0,Value.int .u8 0,Value.int .u8 0,Value.int .u8 0,Value.int .u8 0,Value.int .u8 0,Value.int .u8 0,Value.int .u8 0,Value.int .u8 0,Value.int .u8 0]:=rfl
theorem Aq (w:World):(sizeOf 5).run Tryz.prog w= .ok 1 w:=by kernel_rfl
theorem ni (r:List UInt8):∀v∈aj r,v.oneCell'=true:=by
 intro v hv;simp only [aj,List.mem_map] at hv;obtain ⟨x,_,rfl⟩:=hv;rfl
theorem ag (w:World) (o:Obj):Below w.heap.size w (w.alloc o):=(Below.refl _ _).alloc (Nat.le_refl _) _
section
variable {P:Program} {ops:Array Oper} {Q:Exit→Act→World→Prop} {a:Act} {w:World} {rest:List Oper} {o:Oper}
theorem aY (hw:Region.wanted o (yielded ops a.tmps)=true) (ty:TypeId) (x:Operand) (ho:o.op= .load ty x) (g:Nat) (hx:a.eval x= .pointer (some ⟨g,0,none⟩)) (cs:Array Value) (hr:Row w g cs)
  (d:TypeDesc) (hu:P.underlying ty=some d) (hd:d.isRow=true) (hi:(P.info? ty).map (·.size)=some cs.size)
  (h:wpList P ops Q rest (a.put o.dst (.agg cs)) w):wpList P ops Q (o::rest) a w:=by
 unfold wpList;rw [if_pos hw];have hc:w.rangeAt g 0 cs.toList:=fun j v hv=>by rw [Nat.zero_add,hr.2 j];simpa using hv
 refine .inl (wp_load_mid ty x ho g 0 hx cs.toList d hc hu hd (by rw [hi];simp) ?_);simpa using h
end
def dm (zs:List Int):List UInt8:=zs.flatMap fun z=>le z 1
theorem BG (zs:List Int) (z:Int):dm (zs++ [z])=dm zs++le z 1:=by simp [dm]
theorem iG (zs:List Int):(dm zs).length=zs.length:=by
 induction zs with
 |nil=>rfl
 |cons z zs ih=>simp only [dm,List.flatMap_cons,aZ,aF] at ih ⊢;rw [ih];simp;omega
section
variable {P:Program} {ops:Array Oper} {Q:Exit→Act→World→Prop} {a:Act} {w:World} {rest:List Oper} {d:Option Tmp} {t:TypeId} {pos:String} {af:Array Edge} {g:Option (Nat×Bool)}
theorem bC (ty:TypeId) (h:wpList P ops Q (⟨d, .alloc ty,t,pos,af,g⟩::rest) a w):wpList P ops Q (⟨d, .alloc ty,t,pos,af,g⟩::rest) a w:=h
end
theorem iI {w:World} {b:Nat} {o:Obj} (h:w.heap[b]? =some o):b<w.heap.size:=(bT.1 h).1
theorem Row.jm {w:World} {b:Nat} {cs:Array Value} {t:TypeId} {fr:Nat×Nat} (h:w.heap[b]? =some (.cells cs t fr)):Row w b cs:=
 ⟨iI h,fun i=>cell_of_row w b i cs t fr h⟩
section
variable {P:Program} {ops:Array Oper} {Q:Exit→Act→World→Prop} {a:Act} {w:World} {rest:List Oper} {o:Oper}
theorem dw (hg:o.guard=none) (t:TypeId) (ho:o.op= .alloc t) (cells:Array Value) (hz:(P.info? t).map (fun i=>(i.zero,i.size))=some (some (.agg cells),cells.size))
  (h:wpList P ops Q rest (a.put o.dst (.pointer (some ⟨w.heap.size,0,none⟩))) (w.alloc (.cells cells t))):wpList P ops Q (o::rest) a w:=by
 refine wpList_plain hg fun K hK=>?_;unfold Oper.wp execOp;simp only [ho,Sem.run_bind,ji w t (.agg cells) _ hz,Result.andThen_ok];exact hK _ _ h
end
theorem vM {P:Program} {ops:Array Oper} {o:Oper} {a:Act} {w:World} {K:Act→World→Prop} {Q:Exit→Act→World→Prop} {E:Prop} (hgd:o.guard=none) (d s:Operand) (dT sT:TypeId)
  (ho:o.op= .call {callee:= .builtin .copy,args:= #[d,s],argTypes:= #[dT,sT]}) (elem:TypeId) (hu:P.underlying dT=some (.slice elem)) (hsz:(P.info? elem).map (·.size)=some 1)
  (g off dLen dCap:Nat) (ad:Addr) (sLen sCap:Nat) (hd:a.eval d= .slice (some ⟨g,off,none⟩) dLen dCap) (hs:a.eval s= .slice (some ad) sLen sCap)
  (cur:Array Value) (t:TypeId) (hg:w.heap[g]? =some (.cells cur t (0,0))) (cs:List Value) (hn:cs.length=Nat.min sLen dLen)
  (hsrc:∀j v,cs[j]? =some v→w.cell? (ad.add j)=some v) (hfit:off+cs.length≤cur.size) (h1:∀v∈cs,v.oneCell'=true)
  (new:Array Value) (hnew:new=(splice cur.toList off cs).toArray) (h:K (a.put o.dst (goInt cs.length)) (w.setRow g new)):
  if Region.wanted o (yielded ops a.tmps)=true then Oper.wp P o a w K Q else E:=by
 have hw:Region.wanted o (yielded ops a.tmps)=true:=by simp [Region.wanted,hgd]
 rw [if_pos hw];have hrun:=run_copy_row (P:=P) w dT sT o.type elem g off dLen dCap ad sLen sCap cur t cs hu hsz hg hn hsrc hfit h1;have e:(cur.toList.take off++cs++cur.toList.drop (off+cs.length)).toArray=new:=by rw [hnew];simp [splice]
 rw [e] at hrun;unfold Oper.wp;simp [execOp,ho,resolve,invoke,builtin,hd,hs,hrun,Result.andThen];exact h
theorem Jd (xs:List UInt8):∀v∈aj xs,v.oneCell'=true:=ni xs
theorem bK {P:Program} {fn:Func} {p u:Tmp} {ty:TypeId} (h:fn.results= #[.cell p ty, .tmp u]) (tmps:Array Value) (w:World) (g:Nat) (t:TypeId) (cs:Array Value) (fr:Nat×Nat) (d:TypeDesc)
  (hp:tmps.getD p undef= .pointer (some ⟨g,0,none⟩)) (hg:w.heap[g]? =some (.cells cs t fr))
  (hu:P.underlying ty=some d) (hd:(match d with| .struct _| .array _ _=>true|_=>false)=true) (hi:(P.info? ty).map (·.size)=some cs.size) (v:Value) (hv:tmps.getD u undef=v):
  (results fn tmps).run P w= .ok (.tuple #[.agg cs,v]) w:=by
 rw [results_cell_tmp h,hp,hv];simp [asAddr,Result.andThen,run_loadVar_row w g t ty cs fr d hg hu hd hi]
theorem Iy {w:World} {B:Nat} {v:Value} {bs:List UInt8} (h:w.ownsRow B 5 1 v bs.length (bs.map Extern.Stop.cell)):
  ∃A c,v= .slice A bs.length c∧bs.length≤c∧c≤maxLen∧(A=none→c=0)∧BytesAt w w.heap.size A bs:=by
 obtain ⟨h0,⟨rfl,h⟩|⟨g,cap,cur,rfl,hg,hb,h1,h2,h3,h4⟩⟩:=h
 ·exact ⟨none,0,by rw [h],by omega,Nat.zero_le _,fun _=>rfl, .inl h⟩
 ·refine ⟨some ⟨g,0,none⟩,cap,rfl,h1,h2,(fun e=>nomatch e), .inr ⟨g,0,rfl,iI hb,fun j hj=>?_⟩⟩;have h5:(cur.toList.take (bs.length*1))[j]? =(bs.map Extern.Stop.cell)[j]? :=by rw [h4]
  rw [Nat.mul_one,List.getElem?_take_of_lt hj,List.getElem?_map] at h5;rw [Nat.zero_add,cell_of_row w g j _ _ _ hb];simp only [Array.getElem?_toList] at h5;rw [h5];simp [hj]
theorem aQ {w w':World} {B b o:Nat} {cs:List Value} (h:w.rangeAt b o cs) (hb:Below B w w') (hB:b<B):w'.rangeAt b o cs:=fun j v hv=>(World.cell?_of_block (a:=⟨b,o+j,none⟩) (hb.block b hB)).trans (h j v hv)
def LI (lo:Nat) (w:World) (A:Option Addr) (zs:List Int):Prop:=
 zs.length=0∨∃b off,A=some ⟨b,off,none⟩∧lo≤b∧b<w.heap.size∧∀j,j<zs.length→w.cell? ⟨b,off+j,none⟩=some (I (zs[j]?.getD 0))
theorem LI.aS {lo:Nat} {w w':World} {A:Option Addr} {zs:List Int} (h:LI lo w A zs) (hs:w.heap.size≤w'.heap.size) (hb:∀k,lo≤k→k<w.heap.size→w'.heap[k]? =w.heap[k]?):LI lo w' A zs:=by
 rcases h with h|⟨b,off,hA,h1,h2,hc⟩
 ·exact .inl h
 ·exact .inr ⟨b,off,hA,h1,dP h2 hs,fun j hj=>(World.cell?_of_block (a:=⟨b,off+j,none⟩) (hb b h1 h2)).trans (hc j hj)⟩
theorem LI.lower {lo lo':Nat} {w:World} {A:Option Addr} {zs:List Int} (h:LI lo w A zs) (hl:lo'≤lo):LI lo' w A zs:=by
 rcases h with h|⟨b,off,hA,h1,h2,hc⟩
 ·exact .inl h
 ·exact .inr ⟨b,off,hA,Nat.le_trans hl h1,h2,hc⟩
theorem LI.ints {lo:Nat} {w:World} {A:Option Addr} {zs:List Int} (h:LI lo w A zs):fJ w w.heap.size A zs:=by
 rcases h with h|⟨b,off,hA,h1,h2,hc⟩
 ·exact .inl h
 ·exact .inr ⟨b,off,hA,h2,hc⟩
theorem dH {lo e size n:Nat} {w w':World} {v:Value} {xs:List Value} (h:w.ownsRow lo e size v n xs) (hb:∀k,lo≤k→k<w.heap.size→w'.heap[k]? =w.heap[k]?):w'.ownsRow lo e size v n xs:=by
 refine ⟨h.1,?_⟩;rcases h.2 with h|⟨g,cap,cur,rfl,hg,hh,hr⟩
 ·exact .inl h
 ·exact .inr ⟨g,cap,cur,rfl,hg,(hb g hg (bT.1 hh).1).trans hh,hr⟩
section
variable {P:Program} {ops:Array Oper} {Q:Exit→Act→World→Prop} {a:Act} {w:World} {rest:List Oper} {d:Option Tmp} {t:TypeId} {pos:String} {af:Array Edge} {g:Option (Nat×Bool)}
theorem dN (ty:TypeId) {x:Operand} (h:wpList P ops Q (⟨d, .load ty x,t,pos,af,g⟩::rest) a w):wpList P ops Q (⟨d, .load ty x,t,pos,af,g⟩::rest) a w:=h
theorem cZ (ty:TypeId) {x y:Operand} (h:wpList P ops Q (⟨d, .store ty x y,t,pos,af,g⟩::rest) a w):wpList P ops Q (⟨d, .store ty x y,t,pos,af,g⟩::rest) a w:=h
end
structure l7 (mb:Nat) (w w':World):Prop where
 os:w'.os=w.os
 tape:w'.tape=w.tape
 output:w'.output=w.output
 size:w.heap.size≤w'.heap.size
 block:∀k,k<w.heap.size→k≠mb→w'.heap[k]? =w.heap[k]?
theorem l7.of_below {mb:Nat} {w w':World} (h:Below w.heap.size w w'):l7 mb w w':=⟨h.os,h.tape,h.output,h.size,fun k hk _=>h.block k hk⟩
theorem bf {w:World} {base base' e size n:Nat} {v:Value} {xs:List Value} (h:w.ownsRow base e size v n xs) (hb:base'≤base):w.ownsRow base' e size v n xs:=by
 refine ⟨h.1,?_⟩;rcases h.2 with h|⟨g,cap,cur,rfl,hg,hh⟩
 ·exact .inl h
 ·exact .inr ⟨g,cap,cur,rfl,Nat.le_trans hb hg,hh⟩
theorem addr_add (g j:Nat):(⟨g,0,none⟩:Addr).add j=⟨g,j,none⟩:=by unfold Addr.add;split<;>simp_all
theorem tZ:(Tryz.prog.info? 3).map (fun i=>(i.zero,i.size,i.bytes))=some (some (.int .i64 0),1,8):=by kernel_rfl
theorem kz {mb base e size n:Nat} {w w':World} {v:Value} {xs:List Value} (h:w.ownsRow base e size v n xs) (hk:l7 mb w w') (hb:mb<base):w'.ownsRow base e size v n xs:=by
 refine ⟨h.1,?_⟩;rcases h.2 with h|⟨g,cap,cur,rfl,hg,hh,hr⟩
 ·exact .inl h
 ·exact .inr ⟨g,cap,cur,rfl,hg,(hk.block g (bT.1 hh).1 (by omega)).trans hh,hr⟩
theorem lh {α:Type} (xs:List α) (k:Nat) (x:α) (h:xs[k]? =some x):xs.take (k+1)=xs.take k++ [x]:=by rw [List.take_add_one,h];rfl
theorem zh (w:World) (base:Nat) (ty:TypeId) (v:Value) (n:Nat) (xs:List Value) (hown:w.ownsRow base 5 1 v n xs) (s:ByteArray) (hlen:n+s.size≤1000000000000) (hbase:base≤w.heap.size):
  ∃v' w',(Builtin.append_ #[32,9] ty #[v, .string s]).run Tryz.prog w= .ok v' w'∧w'.ownsRow base 5 1 v' (n+s.size) (xs++Lib.strCells s)∧w.grownBy w' v.ownBlock∧(v'.ownBlock=v.ownBlock∨v'.ownBlock=some w.heap.size):=by
 obtain ⟨i0,hi,hz0,hz1,hz2⟩:=info_parts kF;obtain ⟨v',w',hr,h2,h3,h4⟩:=Lib.run_append_own_string (P:=Tryz.prog) w base 32 9 ty 5 i0 Tryz.underlying32 Tryz.underlying9 hi hz0 hz1 hz2 v n xs hown s (by unfold maxLen;omega) (by omega) hbase;refine ⟨v',w',hr,h2,h3,?_⟩;have hxl:xs.length=n:=by simpa using hown.1
 rcases hown.2 with ⟨rfl,rfl⟩|⟨g,cap,cur,rfl,hbg,hg,hnc,hcm,hcs,htake⟩
 ·by_cases h0:s.size=0
  ·left;rw [h4.2 ⟨rfl,h0⟩]
  ·right;have hr':=run_append_nil_string (P:=Tryz.prog) w 32 9 ty 5 i0 (.int .u8 0) Tryz.underlying32 Tryz.underlying9 hi hz0 s (by omega) (by omega) (by rw [hz2];omega);rw [hr] at hr';injection hr' with hv _;rw [hv];rfl
 ·by_cases hroom:n+s.size≤cap
  ·left;have hr':=Lib.run_append_room_string (P:=Tryz.prog) w 32 9 ty 5 i0 Tryz.underlying32 Tryz.underlying9 hi hz1 g n cap cur hg s hroom (by omega);rw [hr] at hr';injection hr' with hv _;rw [hv];rfl
  ·right;have holds:∀j u,xs[j]? =some u→w.cell? ((⟨g,0,none⟩:Addr).add j)=some u:=hown.cells (g:=g) rfl;have hr':=Lib.run_append_grow_string (P:=Tryz.prog) w 32 9 ty 5 i0 (.int .u8 0) Tryz.underlying32 Tryz.underlying9 hi hz0 ⟨g,0,none⟩ n cap xs (by rw [hz1];omega) holds s (by omega) (by omega) (by rw [hz2];exact growslice_fits (by omega) (by omega));rw [hr] at hr';injection hr' with hv _;rw [hv];rfl
theorem Di {ops:Array Oper} {rest:List Oper} {o:Oper} {a:Act} {Q:Exit→Act→World→Prop} {w:World} (hgd:o.guard=none) (sl x:Operand)
  (ho:o.op= .call {callee:= .builtin .append,args:= #[sl,x],argTypes:= #[32,9]}) (base:Nat) (v:Value) (n:Nat) (xs:List Value) (hs:a.eval sl=v) (hown:w.ownsRow base 5 1 v n xs) (s:ByteArray) (hx:a.eval x= .string s)
  (hlen:n+s.size≤1000000000000) (hbase:base≤w.heap.size)
  (h:∀v' w',w'.ownsRow base 5 1 v' (n+s.size) (xs++Lib.strCells s)→w.grownBy w' v.ownBlock→(v'.ownBlock=v.ownBlock∨v'.ownBlock=some w.heap.size)→wpList Tryz.prog ops Q rest (a.put o.dst v') w'):wpList Tryz.prog ops Q (o::rest) a w:=by
 refine wpList_plain hgd fun K hK=>?_;obtain ⟨v',w',hr,h2,h3,h4⟩:=zh w base o.type v n xs hown s hlen hbase;unfold Oper.wp execOp;simp only [ho,resolve,invoke,builtin,Sem.run_bind,Sem.run_pure,Result.andThen_ok,List.map_toArray,List.map_cons,List.map_nil,hs,hx,hr];exact hK _ _ (h v' w' h2 h3 h4)
theorem Gx {ops:Array Oper} {o:Oper} {a:Act} {Q:Exit→Act→World→Prop} {K:Act→World→Prop} {E:Prop} {w:World} (hgd:o.guard=none) (sl x:Operand)
  (ho:o.op= .call {callee:= .builtin .append,args:= #[sl,x],argTypes:= #[32,9]}) (base:Nat) (v:Value) (n:Nat) (xs:List Value) (hs:a.eval sl=v) (hown:w.ownsRow base 5 1 v n xs) (s:ByteArray) (hx:a.eval x= .string s)
  (hlen:n+s.size≤1000000000000) (hbase:base≤w.heap.size) (hpos:0<n+s.size)
  (h:∀g' cap' w',w'.ownsRow base 5 1 (.slice (some ⟨g',0,none⟩) (n+s.size) cap') (n+s.size) (xs++Lib.strCells s)→w.grownBy w' v.ownBlock→((Value.slice (some ⟨g',0,none⟩) (n+s.size) cap').ownBlock=v.ownBlock∨(Value.slice (some ⟨g',0,none⟩) (n+s.size) cap').ownBlock=some w.heap.size)→K (a.put o.dst (.slice (some ⟨g',0,none⟩) (n+s.size) cap')) w'):if Region.wanted o (yielded ops a.tmps)=true then Oper.wp Tryz.prog o a w K Q else E:=by
 have hw:Region.wanted o (yielded ops a.tmps)=true:=by simp [Region.wanted,hgd]
 rw [if_pos hw];obtain ⟨v',w',hr,h2,h3,h4⟩:=zh w base o.type v n xs hown s hlen hbase;obtain ⟨g',cap',rfl,_⟩:=dE h2 hpos;unfold Oper.wp execOp;simp only [ho,resolve,invoke,builtin,Sem.run_bind,Sem.run_pure,Result.andThen_ok,List.map_toArray,List.map_cons,List.map_nil,hs,hx,hr];exact h _ _ _ h2 h3 h4
theorem Jc (w:World) (bb off c:Nat) (s:ByteArray) (h:∀j,j<s.size→w.cell? ⟨bb,off+j,none⟩=some (Extern.Stop.cell (s.data.toList[j]?.getD 0))):
  (convert 32 9 (.slice (some ⟨bb,off,none⟩) s.size c)).run Tryz.prog w= .ok (.string s) w:=by
 have e:strOfNums (s.data.toList.map fun (b:UInt8)=>((b.toNat:Nat):Int))=s:=by
  unfold strOfNums;rw [List.map_map];have:((fun n:Int=>UInt8.ofNat n.toNat) ∘ fun (b:UInt8)=>((b.toNat:Nat):Int))=id:=by
   funext b;simp
  rw [this,List.map_id]
 have hl:s.data.toList.length=s.size:=Array.length_toList;have hr:=run_convert_bytes_arg (P:=Tryz.prog) w 32 5 Tryz.underlying32 Tryz.underlying5 bb off s.size c (s.data.toList.map fun (b:UInt8)=>((b.toNat:Nat):Int)) (by rw [List.length_map,hl]) (fun i hi=>by
  rw [h i hi];have hx:s.data.toList[i]? =some s.data.toList[i]:=bZ (by omega);rw [hx,List.getD_eq_getElem?_getD,List.getElem?_map,hx];rfl) 9 Tryz.underlying9
 rw [e] at hr;exact hr
theorem vG (a:Nat) (ha:a≤1000000) (w:World):Calls Tryz.prog 139 #[I a] w fun e w'=>e= .returned (.int .u64 a)∧w'=w:=by
 have h0:¬(a:Int)<0:=by omega
 have hw:IntKind.u64.wrap (a:Int)=a:=by rw [IntKind.wrap_u64];omega
 go_enter Tryz.func139,Tryz.ntmps139
 go_wp2
 go_ret;exact ⟨rfl,rfl⟩
def TU:Value→Nat
 | .int _ n=>n.toNat
 |_=>0
theorem V7 (a b:Nat) (ha:a≤1000000) (hb:b≤1000000) (w:World):Calls Tryz.prog 126 #[I a,I b] w fun e w'=>e= .returned (I (Nat.gcd a b))∧Below w.heap.size w w':=by
 go_enter Tryz.func126,Tryz.ntmps126;go_wp2_with fail;refine (vG a ha _).mono ?_;rintro e w1 ⟨rfl,rfl⟩;go_wp2_with fail;refine (vG b hb _).mono ?_;rintro e w2 ⟨rfl,rfl⟩;go_wp2_with fail
 go_loopw [5,6] (fun u v wr=>∃x y:Nat,u= .int .u64 x∧v= .int .u64 y∧x≤1000000∧y≤1000000∧Nat.gcd x y=Nat.gcd a b∧Below w2.heap.size w2 wr) (fun _ v _=>TU v)
 case atStart=>exact ⟨a,b,rfl,rfl,ha,hb,rfl,Below.refl _ _⟩
 case round=>
  obtain ⟨x,y,rfl,rfl,hx,hy,hg,hbe⟩:=hrel;have HG:=ae hg;have O3:=ae hbe;clear hg hbe;by_cases hy0:y=0
  ·subst hy0;have hq:¬(9223372036854775807:Int)<(x:Int):=by omega
   have hw:IntKind.i64.wrap (x:Int)=x:=by rw [IntKind.wrap_i64];omega
   go_wp2_with fail;go_ret;refine ⟨?_,O3.out⟩;have:=HG.out;rw [Nat.gcd_zero_right] at this;rw [this];rfl
  ·have hy1:¬(y:Int)=0:=by omega
   have hy2:((y:Int) !=0)=true:=by simp [hy0]
   have hlt:x%y<y:=Nat.mod_lt _ (by omega);obtain ⟨z,hz⟩:∃z,x%y=z:=⟨_,rfl⟩;have hm:(x:Int)%(y:Int)=(z:Int):=by omega
   have hm2:Int.tmod (x:Int) (y:Int)=(z:Int):=by rw [Int.tmod_eq_emod_of_nonneg (by omega)];exact hm
   rw [hz] at hlt;have HZ:=ae hz;have hw:IntKind.u64.wrap (z:Int)=(z:Int):=by rw [IntKind.wrap_u64];omega
   clear hz;go_wp2_with fail;go_quiet (fail);go_wp2_with fail;go_roundw
   case rel=>exact ⟨y,z,rfl,by first|rfl|go_num,hy,by omega,by rw [←HG.out,Nat.gcd_comm x y,Nat.gcd_rec y x,Nat.gcd_comm,HZ.out],ah O3.out (below_drewN' _ _)⟩
   case measure=>simp [TU];omega
theorem Oq (a b:Nat) (ha:1≤a) (ha2:a≤400) (hb:1≤b) (hb2:b≤400) (w:World):Calls Tryz.prog 116 #[I a,I b] w fun e w'=>e= .returned (.tuple #[I (Nat.lcm a b),I 0])∧Below w.heap.size w w':=by
 have HG:=ae (V7 a b (by omega) (by omega) w);have h1:¬(a:Int)<1:=by omega
 have h2:¬(b:Int)<1:=by omega
 have yw:0<Nat.gcd a b:=Nat.gcd_pos_of_pos_left _ ha;have hl:a / Nat.gcd a b*b=Nat.lcm a b:=by
  have e:=Nat.lcm_eq_mul_div a b;rw [e,Nat.div_mul_right_comm (Nat.gcd_dvd_left a b)]
 obtain ⟨g,hg⟩:∃g,Nat.gcd a b=g:=⟨_,rfl⟩;rw [hg] at HG yw hl;obtain ⟨r,hr⟩:∃r,a / g=r:=⟨_,rfl⟩;have hr4:r≤400:=by rw [←hr];exact Nat.le_trans (Nat.div_le_self _ _) ha2
 have hq:Int.tdiv (a:Int) (g:Int)=(r:Int):=by rw [←hr];rfl
 have hq':(a:Int) / (g:Int)=(r:Int):=by rw [←hr];rfl
 obtain ⟨t,ht⟩:∃t,1099511627776 / b=t:=⟨_,rfl⟩;have ht4:400≤t:=by rw [←ht,Nat.le_div_iff_mul_le (by omega)];omega
 have hq2:Int.tdiv 1099511627776 (b:Int)=(t:Int):=by rw [←ht];rfl
 have hq2':(1099511627776:Int) / (b:Int)=(t:Int):=by rw [←ht];rfl
 have hbig:¬(t:Int)<(r:Int):=by omega
 have hwr:IntKind.i64.wrap (r:Int)=r:=by rw [IntKind.wrap_i64];omega
 have ht5:t≤1099511627776:=by rw [←ht];exact Nat.div_le_self _ _
 have hwt:IntKind.i64.wrap (t:Int)=t:=by rw [IntKind.wrap_i64];omega
 rw [hr] at hl;have hp:(r:Int)*(b:Int)=((Nat.lcm a b:Nat):Int):=by rw [←hl];exact (Int.natCast_mul r b).symm
 have hlb:Nat.lcm a b≤160000:=by rw [←hl];exact Nat.mul_le_mul hr4 hb2
 obtain ⟨m,hm⟩:∃m,Nat.lcm a b=m:=⟨_,rfl⟩;rw [hm] at hp hlb ⊢;have hwm:IntKind.i64.wrap (m:Int)=m:=by rw [IntKind.wrap_i64];omega
 have hg0:¬(g:Int)=0:=by omega
 have hb0:¬(b:Int)=0:=by omega
 clear hr ht hl hm hg;go_enter Tryz.func116,Tryz.ntmps116;go_wp2_with fail;refine HG.out.mono ?_;rintro e w1 ⟨rfl,hb1⟩;have HB1:=ae hb1;clear hb1;go_wp2_with fail;go_ret2;exact ⟨rfl,HB1.out⟩
structure Lr where
 every:Int
 rest:Int
 yes:Bool
def Lr.cells (r:Lr):List Value:= [I r.every,I r.rest, .bool r.yes]
def NW (w:World) (B:Nat) (A:Option Addr) (rs:List Lr):Prop:=
 rs.length=0∨∃b,A=some ⟨b,0,none⟩∧b<B∧∀k x,rs[k]? =some x→w.rangeAt b (k*3) x.cells
theorem NW.keep {w w':World} {B:Nat} {A:Option Addr} {rs:List Lr} (h:NW w B A rs) (hb:Below B w w'):NW w' B A rs:=by
 rcases h with h|⟨b,h1,h2,h3⟩
 ·exact .inl h
 ·exact .inr ⟨b,h1,h2,fun k x hx=>aQ (h3 k x hx) hb h2⟩
def RD:Nat→List Lr→Prop
 |_,[]=>True
 |y,r::rs=>∃e:Nat,r.every=e∧1≤e∧e≤400∧0≤r.rest∧r.rest<e∧1≤Nat.lcm y e∧Nat.lcm y e≤400∧RD (Nat.lcm y e) rs
theorem MG (A:Option Addr) (n c:Nat) (rs:List Lr) (w:World) (hA:NW w w.heap.size A rs) (hl:rs.length=n) (hn:n≤1000) (hp:RD 1 rs):
  Calls Tryz.prog 102 #[.slice A n c] w fun e w'=>(∃y,e= .returned (.tuple #[I y, .bool true]))∧Below w.heap.size w w':=by
 have HA:=ae hA;have HL:=ae hl;have HP:=ae hp;clear hA hl hp;go_enter Tryz.func102,Tryz.ntmps102;go_wp2_with fail
 go_loopw [4,11] (fun u i wr=>∃k y:Nat,k≤n∧i=I k∧u=I y∧1≤y∧y≤400∧RD y (rs.drop k)∧Below w.heap.size w wr) (fun _ i _=>n - (intOf i).toNat)
 case atStart=>exact ⟨0,1,Nat.zero_le _,rfl,rfl,by omega,by omega,by simpa using HP.out,Below.refl _ _⟩
 case round=>
  obtain ⟨k,y,hk,rfl,rfl,hy1,hy2,hper,hbe⟩:=hrel;have O3:=ae hbe;by_cases hlt:k<n
  ·have i0:(0:Int)≤(k:Int):=by omega
   have i1:(k:Int)<(n:Int):=by omega
   have hkl:k<rs.length:=by rw [HL.out];exact hlt
   rw [List.drop_eq_getElem_cons hkl] at hper;obtain ⟨e,he,h1,h2,h3,h4,h5,h6,h7⟩:=hper;have hx:rs[k]? =some rs[k]:=bZ hkl;rcases (HA.out.keep hbe) with h|⟨b,rfl,hb,hc⟩
   ·omega
   have hr:=hc k _ hx;have hbl:b<wr.heap.size:=dP hb hbe.size;generalize rs[k]=rk at he h3 h4 hr;obtain ⟨ev,re,ye⟩:=rk;simp only at he h3 h4;subst he;have f0:wr.cell? ⟨b,k*3,none⟩=some (I e):=hr 0 _ rfl;have f1:wr.cell? ⟨b,k*3+1,none⟩=some (I re):=hr 1 _ rfl;have f2:wr.cell? ⟨b,k*3+2,none⟩=some (.bool ye):=hr 2 _ rfl;have hne:¬b=wr.heap.size:=by omega
   have q1:¬(e:Int)<1:=by omega
   have q2:¬(400:Int)<(e:Int):=by omega
   have q3:¬re<0:=by omega
   have q4:¬(e:Int)≤re:=by omega
   have H7:=ae h7;have HB2:=ae (ag wr (.cells #[I e,I re, .bool ye] 125));clear hr hc hx hbe h7;go_wp2_with fail;refine (Oq y e hy1 hy2 h1 h2 _).mono ?_;rintro x w5 ⟨rfl,hb5⟩;have pO:=ae (ah HB2.out hb5);obtain ⟨m,hm⟩:∃m,Nat.lcm y e=m:=⟨_,rfl⟩;rw [hm] at h5 h6 H7 ⊢;have q5:¬(400:Int)<(m:Int):=by omega
   clear hb5 hm;go_wp2_with fail;go_roundw
   case rel=>exact ⟨k+1,m,by omega,by go_num,rfl,h5,h6,H7.out,ah O3.out pO.out⟩
   case measure=>simp [intOf];omega
  ·clear hper hbe;go_wp2_with fail;go_ret2;exact ⟨⟨_,rfl⟩,O3.out⟩
structure Cal where
 aX:Int
 az:List Int
 dM:Int
 rules:List Lr
def aG (c:Cal) (A:Option Addr) (ca:Nat) (B:Option Addr) (cb:Nat):Array Value:= #[I c.aX, .slice A c.az.length ca,I c.dM, .slice B c.rules.length cb]
attribute [local go_sem] aG
end Go.Proofs.YtdibbemgpikgjaaGreatDoor
namespace Go.Proofs.YtdibbemgpikgjaaGreatDoor
open Go Go.RowKit
structure zX (c:Cal):Prop where
 ep:0≤c.aX∧c.aX≤1048576
 mo:1≤c.az.length∧c.az.length≤16
 le:c.dM= -1
 ru:c.rules= []
 all:∀m∈c.az,1≤m∧m≤40
attribute [local go_sem] aG
theorem zG (c:Cal) (A:Option Addr) (ca:Nat) (B:Option Addr) (cb:Nat) (w:World) (hA:fJ w w.heap.size A c.az) (h:zX c):
  Calls Tryz.prog 84 #[.agg (aG c A ca B cb)] w (Gives (.bool true) w):=by
 have HB0:=ae (ag w (.cells (aG c A ca B cb) 63));have HRW:=ae (Row.new w (aG c A ca B cb) 63);obtain ⟨ep,mo,le,ru⟩:=c;obtain ⟨⟨e1,e2⟩,⟨m1,m2⟩,l1,r1,hall⟩:=h;simp only at e1 e2 m1 m2 l1 r1 hall hA;subst l1 r1;have Hw:=ae (fun (w':World) (_:Below w.heap.size w w')=>MG B 0 cb [] w' (.inl rfl) rfl (by decide) trivial);obtain ⟨b,off,rfl,hb,hc⟩:∃b off,A=some ⟨b,off,none⟩∧b<w.heap.size∧∀j,j<mo.length→w.cell? ⟨b,off+j,none⟩=some (I (mo[j]?.getD 0)):=by
  rcases hA with h|h
  ·omega
  ·exact h
 have HC:=ae hc;have jX:=ae (fun k (hk:k<mo.length)=>hall _ (List.getElem_mem hk));have q1:¬ep<0:=by omega
 have q2:¬(1048576:Int)<ep:=by omega
 obtain ⟨n,hn⟩:∃n,mo.length=n:=⟨_,rfl⟩;have q3:¬(n:Int)<1:=by omega
 have q4:¬(16:Int)<(n:Int):=by omega
 have q6:¬(n:Int)≤ -1:=by omega
 have hne:¬b=w.heap.size:=by omega
 have HN:=ae hn;have e0:(aG ⟨ep,mo, -1,[]⟩ (some ⟨b,off,none⟩) ca B cb)= #[I ep, .slice (some ⟨b,off,none⟩) n ca,I (-1), .slice B 0 cb]:=by rw [←hn];rfl
 rw [e0] at HB0 HRW ⊢;clear hc hall hA e0 hn;go_enter Tryz.func84,Tryz.ntmps84;go_wp2_with fail
 go_loopw [52] (fun i wr=>∃k:Nat,k≤n∧i=I k∧wr=w.alloc (.cells #[I ep, .slice (some ⟨b,off,none⟩) n ca,I (-1), .slice B 0 cb] 63)) (fun i _=>n - (intOf i).toNat)
 case atStart=>exact ⟨0,Nat.zero_le _,rfl,rfl⟩
 case round=>
  obtain ⟨k,hk,rfl,rfl⟩:=hrel;by_cases hlt:k<n
  ·have i0:(0:Int)≤(k:Int):=by omega
   have i1:(k:Int)<(n:Int):=by omega
   have Wu:k<mo.length:=by rw [HN.out];exact hlt
   have c1:=HC.out k Wu;have hz:=jX.out k Wu;rw [bZ Wu] at c1;generalize mo[k]=z at c1 hz;have c2:w.cell? ⟨b,off+k,none⟩=some (I z):=c1;have q9:¬z<1:=by omega
   have q10:¬(40:Int)<z:=by omega
   clear c1 hz;go_wp2_with fail;go_roundw
   case rel=>exact ⟨k+1,by omega,by go_num,by first|trivial|rfl⟩
   case measure=>simp [intOf];omega
  ·go_wp2_with fail;refine (Hw.out _ HB0.out).mono ?_;rintro x w5 ⟨⟨y,rfl⟩,hb5⟩;have pO:=ae (ah HB0.out hb5);clear hb5;go_wp2_with fail;go_ret;exact ⟨rfl,pO.out⟩
end Go.Proofs.YtdibbemgpikgjaaGreatDoor
namespace Go.Proofs.YtdibbemgpikgjaaGreatDoor
open Go Go.RowKit
structure Tr where
 at_:Int
 off:Int
structure Yr where
 month:Int
 df:Int
 dh:Int
 minute:Int
 off:Int
structure Zn where
 cal:Cal
 start:Int
 trans:List Tr
 hor:Int
 aN:List Yr
structure Zs where
 A:Option Addr
 a:Nat
 B:Option Addr
 b:Nat
 C:Option Addr
 c:Nat
 D:Option Addr
 d:Nat
def ay (z:Zn) (s:Zs):Array Value:= #[I z.cal.aX, .slice s.A z.cal.az.length s.a,I z.cal.dM, .slice s.B z.cal.rules.length s.b,I z.start, .slice s.C z.trans.length s.c,I z.hor, .slice s.D z.aN.length s.d]
structure gU (z:Zn):Prop where
 cal:zX z.cal
 start: -1080≤z.start∧z.start≤1080
 trans:z.trans= []
 hor: -2251799813685248≤z.hor∧z.hor≤2251799813685248
 aN:z.aN= []
theorem JS (n l:Int) (w:World) (hl:0≤l∧l≤4503599627370496):Calls Tryz.prog 85 #[I n,I l] w fun e w'=>e= .returned (.bool (decide (-l≤n)&&decide (n≤l)))∧w'=w:=by
 have hw:IntKind.i64.wrap (-l)= -l:=by rw [IntKind.wrap_i64];omega
 by_cases h1: -l≤n
 ·by_cases h2:n≤l
  ·have e:(decide (-l≤n)&&decide (n≤l))=true:=by rw [decide_eq_true h1,decide_eq_true h2];rfl
   rw [e];go_enter Tryz.func85,Tryz.ntmps85
   go_wp2
   go_ret;exact ⟨rfl,rfl⟩
  ·have e:(decide (-l≤n)&&decide (n≤l))=false:=by rw [decide_eq_false h2];simp
   rw [e];go_enter Tryz.func85,Tryz.ntmps85
   go_wp2
   go_ret;exact ⟨rfl,rfl⟩
 ·have e:(decide (-l≤n)&&decide (n≤l))=false:=by rw [decide_eq_false h1];simp
  rw [e];go_enter Tryz.func85,Tryz.ntmps85
  go_wp2
  go_ret;exact ⟨rfl,rfl⟩
theorem lT (z:Zn) (s:Zs):(Tryz.prog.info? 67).map (·.size)=some (ay z s).size:=by kernel_rfl
theorem Dt (z:Zn) (s:Zs):(ay z s).all (·.oneCell')=true:=by kernel_rfl
end Go.Proofs.YtdibbemgpikgjaaGreatDoor
