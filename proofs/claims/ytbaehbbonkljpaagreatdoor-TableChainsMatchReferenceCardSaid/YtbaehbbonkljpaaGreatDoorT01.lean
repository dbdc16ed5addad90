/- The texts Aid, Data, Qa, Pl, SvE, SvF, Pm, Pa, TbC, TbD, TbZ, TbE, Ps, in this order. -/
import Derived.Test.YtbaehbbonkljpaaGreatDoorT00
import Derived.Test.YtbaehbbonkljpaaGreatDoorProg
import Derived.Defers
import Derived.Laws.BitsAllLaws
import Derived.Laws.BytesArg
import Derived.Laws.Cover3
import Derived.Lib.AppendStr
import Derived.Lib.ByteType
import Derived.MapKept
import Derived.Recover
set_option maxRecDepth 10000
set_option maxHeartbeats 8000000
namespace Go.Proofs.YtbaehbbonkljpaaGreatDoor
open Go Go.RowKit
section
variable {P:Program}{ops:ax Oper}{Q:Exit->Act->ae->Prop}{a:Act}{w:ae}{rest:ag Oper}{o o2:Oper}
theorem KE {t:TypeId}(hg:o.guard=none)(parts:ax (Nat×Operand))(ho:o.op=.build t parts)(cells:ax ah)
  (hb:P.built t (parts.map fun (i,x)=>(i,a.eval x)).toList=some cells)
  (h:wpList P ops Q rest (a.put o.dst (.agg cells)) w):wpList P ops Q (o::rest) a w:=
 kH hg fun _ hK=>wp_build t parts ho (by rw[hb];rfl) (by rw[hb];exact hK _ _ h)
theorem Oi (w:ae)(t:TypeId)(z:ah)(n:Nat)(hz:(P.info? t).map (fun i=>(i.zero,i.size))=some (some z,n)):
  (Instr.alloc t true (.tuple #[])).run P w=.ok (.pointer (some ⟨w.heap.size,0,none⟩)) (w.alloc (.cells z.cells t)):=by
 have h0:=(zero_of_info hz).1 w;simp[Instr.alloc,newVar,newRow,h0]
theorem Py (hg:o.guard=none)(hg2:o2.guard=none)(t:TypeId)(d:Tmp)(y:Operand)(ho:o.op=.alloc t)(hd:o.dst=some d)(ho2:o2.op=.store t (.tmp d) y)(hd2:o2.dst=none)
  (z:ah)(cells:ax ah)(hz:(P.info? t).map (fun i=>(i.zero,i.size))=some (some z,cells.size))(hzs:z.cells.size=cells.size)
  (hy:(a.put (some d) (.pointer (some ⟨w.heap.size,0,none⟩))).eval y=.agg cells)(hdl:Nat.ble (d+1) a.tmps.size=true)(h1:cells.all (·.oneCell')=true)
  (h:wpList P ops Q rest (a.put (some d) (.pointer (some ⟨w.heap.size,0,none⟩))) (w.alloc (.cells cells t))):wpList P ops Q (o::o2::rest) a w:=by
 refine kH hg fun K hK=>?_;unfold Oper.wp execOp;simp only[ho,fH,Oi w t z _ hz,dX];refine hK _ _ ?_;rw[hd];refine kH hg2 fun K2 hK2=>?_;unfold Oper.wp execOp;have hx:(a.put (some d) (.pointer (some ⟨w.heap.size,0,none⟩))).eval (.tmp d)=.pointer (some ⟨w.heap.size,0,none⟩):=by
  have hlt:d<a.tmps.size:=jg hdl;simp[Act.eval,Act.put,hlt]
 simp only[ho2,hx,hy,fH,run_storeAt_new w t z.cells cells (zero_of_info hz).2 hzs h1,dX];refine hK2 _ _ ?_;rw[hd2];exact h
end
structure Mv where
 day:Int
 drop:Bool
 aCE:Int
 minute:Int
 length:Int
structure Nd where
 kind:Int
 cal:Int
 l:Int
 r:Int
 n:Int
 m:Int
 list:ag Int
 name:ByteArray
structure Ser where
 rule:ag Nd
 minute:Int
 length:Int
 axG:ByteArray
 gap:Int
 fold:Int
 moves:ag Mv
structure Lt where
 kind:Int
 src:Int
 dst:Int
 meeting:Int
 ayg:Int
 J5:Int
 version:Int
 person:Int
 other:Int
 resource:Int
 scope:Int
 day:Int
 move:Mv
 aAV:Ser
 deadline:Int
 state:Int
 grain:Int
 aCJ:Int
 wto:Int
 cells:ag Int
 ref:ag au
abbrev I (n:Int):ah:=.int .i64 n
def JO (r:ag au):ag ah:=r.map Extern.Stop.cell
def Gives (v:ah)(w:ae)(e:Ending)(w':ae):Prop:=e=.returned v/\ai w.heap.size w w'
def OT (w:ae)(B:Nat)(A:aj Addr)(zs:ag Int):Prop:=
 zs.length=0\/∃b off,A=some ⟨b,off,none⟩/\b<B/\∀j,j<zs.length->w.cell? ⟨b,off+j,none⟩=some (I (zs[j]?.getD 0))
theorem OT.keep {w w':ae}{B:Nat}{A:aj Addr}{zs:ag Int}(h:OT w B A zs)(hb:ai B w w'):OT w' B A zs:=by
 rcases h with h|⟨b,off,hA,hbB,hc⟩
 ·exact .inl h
 ·exact .inr ⟨b,off,hA,hbB,fun j hj=>(hb.cell (p:=⟨b,off+j,none⟩) hbB).trans (hc j hj)⟩
theorem OT.more {w:ae}{B B':Nat}{A:aj Addr}{zs:ag Int}(h:OT w B A zs)(hB:B<=B'):OT w B' A zs:=by
 rcases h with h|⟨b,off,hA,hbB,hc⟩
 ·exact .inl h
 ·exact .inr ⟨b,off,hA,by omega,hc⟩
theorem YX (a b:Int):(a !=b)=decide (a≠b):=by
 rw[Bool.eq_iff_iff];simp
def BytesAt (w:ae)(B:Nat)(A:aj Addr)(bs:ag au):Prop:=
 bs.length=0\/∃b off,A=some ⟨b,off,none⟩/\b<B/\∀j,j<bs.length->w.cell? ⟨b,off+j,none⟩=some (Extern.Stop.cell (bs[j]?.getD 0))
theorem BytesAt.keep {w w':ae}{B:Nat}{A:aj Addr}{bs:ag au}(h:BytesAt w B A bs)(hb:ai B w w'):BytesAt w' B A bs:=by
 rcases h with h|⟨b,off,hA,hbB,hc⟩
 ·exact .inl h
 ·exact .inr ⟨b,off,hA,hbB,fun j hj=>(hb.cell (p:=⟨b,off+j,none⟩) hbB).trans (hc j hj)⟩
theorem BytesAt.more {w:ae}{B B':Nat}{A:aj Addr}{bs:ag au}(h:BytesAt w B A bs)(hB:B<=B'):BytesAt w B' A bs:=by
 rcases h with h|⟨b,off,hA,hbB,hc⟩
 ·exact .inl h
 ·exact .inr ⟨b,off,hA,by omega,hc⟩
theorem below_drewN' (w:ae)(k:Nat):ai w.heap.size w (w.drewN k):=jQ (aW _ _) k
def Row (w:ae)(b:Nat)(cs:ax ah):Prop:=b<w.heap.size/\∀i,w.cell? ⟨b,i,none⟩=cs[i]?
theorem Row.keep {w w':ae}{b:Nat}{cs:ax ah}(h:Row w b cs)(hb:ai w.heap.size w w'):Row w' b cs:=
 ⟨LK h.1 hb.size,fun i=>(hb.cell (p:=⟨b,i,none⟩) h.1).trans (h.2 i)⟩
theorem Row.new (w:ae)(cs:ax ah)(t:TypeId):Row (w.alloc (.cells cs t)) w.heap.size cs:=
 ⟨by simp,fun i=>by rw[World.cell?_alloc_at _ _ _ _ rfl]⟩
theorem JL {w w1 w2:ae}(h:ai w.heap.size w w1)(h2:ai w1.heap.size w1 w2):ai w.heap.size w w2:=h.trans (h2.mono h.size)
def byteOf (n:Int):au:=UInt8.ofNat (n%256).toNat
theorem LH (n:Int):Extern.Stop.cell (byteOf n)=.int .u8 (n%256):=by
 have h0:0<=n%256:=iL _ (by omega);have h1:n%256<256:=gG _ (by omega);have h2:(n%256).toNat<256:=by omega
 have h3:(UInt8.ofNat (n%256).toNat).toNat=(n%256).toNat:=by rw[UInt8.toNat_ofNat'];exact Nat.mod_eq_of_lt h2
 show Value.int .u8 (((UInt8.ofNat (n%256).toNat).toNat:Nat):Int)=_;rw[h3,nX h0]
def le:Int->Nat->ag au
 |_,0=> []
 |n,s+1=>byteOf n::le (n / 256) s
def PM:Int->Nat->Int
 |n,0=>n
 |n,k+1=>PM n k / 256
theorem aep (n:Int)(k:Nat):PM (n / 256) k=PM n (k+1):=by
 induction k with
 |zero=>rfl
 |succ k ih=>show PM (n / 256) k / 256=_;rw[ih];rfl
theorem acp (n:Int)(k:Nat):le n (k+1)=le n k++ [byteOf (PM n k)]:=by
 induction k generalizing n with
 |zero=>rfl
 |succ k ih=>rw[le,ih,aep];rfl
theorem J4 (n:Int)(k:Nat):(le n k).length=k:=by
 induction k generalizing n with
 |zero=>rfl
 |succ k ih=>simp[le,ih]
theorem age (n:Int)(k:Nat)(h0: -9223372036854775808<=n)(h1:n<=9223372036854775807): -9223372036854775808<=PM n k/\PM n k<=9223372036854775807:=by
 induction k with
 |zero=>exact⟨h0,h1⟩
 |succ k ih=>unfold PM;omega
structure Oj (g:Nat)(v:ah)(w:ae)(v':ah)(w':ae):Prop where
 os:w'.os=w.os
 tape:w'.tape=w.tape
 output:w'.output=w.output
 size:w.heap.size<=w'.heap.size
 block:∀k,k<w.heap.size->k≠g->some k≠v.ownBlock->w'.heap[k]? =w.heap[k]?
 own:v'.ownBlock=v.ownBlock\/∃b,v'.ownBlock=some b/\w.heap.size<=b
theorem Oj.refl (g:Nat)(v:ah)(w:ae):Oj g v w v w:=⟨rfl,rfl,rfl,ay _,fun _ _ _ _=>rfl,.inl rfl⟩
theorem Oj.trans {g:Nat}{v v1 v2:ah}{w w1 w2:ae}(h:Oj g v w v1 w1)(k:Oj g v1 w1 v2 w2):Oj g v w v2 w2:=by
 refine⟨k.os.trans h.os,k.tape.trans h.tape,k.output.trans h.output,aO h.size k.size,fun b hb hg hv=>?_,?_⟩
 ·refine(k.block b (LK hb h.size) hg ?_).trans (h.block b hb hg hv);rcases h.own with e|⟨b1,e,hb1⟩
  ·rw[e];exact hv
  ·rw[e];intro h';injection h' with h';omega
 ·rcases k.own with e|⟨b,e,hb⟩
  ·rcases h.own with e1|⟨b1,e1,hb1⟩
   ·exact .inl (e.trans e1)
   ·exact .inr ⟨b1,e.trans e1,hb1⟩
  ·exact .inr ⟨b,e,aO h.size hb⟩
theorem Nl {w:ae}{base e size n:Nat}{v u:ah}{xs:ag ah}{p:Addr}(h:w.ownsRow base e size v n xs)(hp:some p.block≠v.ownBlock):(w.setCell p u).ownsRow base e size v n xs:=by
 refine⟨h.1,?_⟩;rcases h.2 with h|⟨g,cap,cur,rfl,hg,hh,h1,h2,h3,h4⟩
 ·exact .inl h
 ·refine .inr ⟨g,cap,cur,rfl,hg,?_,h1,h2,h3,h4⟩;rw[aN w p g u (fun e=>hp (by rw[<-e];rfl))];exact hh
theorem MV {w:ae}{base e size n:Nat}{v:ah}{xs:ag ah}(h:w.ownsRow base e size v n xs)(b:Nat)(hb:b<base):some b≠v.ownBlock:=by
 rcases h.2 with ⟨rfl,_⟩|⟨g,cap,cur,rfl,hg,_⟩
 ·simp[Value.ownBlock]
 ·intro e;have:b=g:=by simpa[Value.ownBlock] using e
  omega
theorem LW {w:ae}{base e size n:Nat}{v:ah}{xs:ag ah}(h:w.ownsRow base e size v n xs)(hn:0<n):∃g cap,v=.slice (some ⟨g,0,none⟩) n cap/\g<w.heap.size:=by
 rcases h.2 with ⟨_,h0⟩|⟨g,cap,cur,rfl,_,hh,_⟩
 ·omega
 ·exact⟨g,cap,rfl,(KY.1 hh).1⟩
theorem af2 {w:ae}{base e size n:Nat}{v:ah}{xs:ag ah}(h:w.ownsRow base e size v n xs):∀b,v.ownBlock=some b->b<w.heap.size:=by
 intro b hb;rcases h.2 with ⟨rfl,_⟩|⟨g,cap,cur,rfl,_,hh,_⟩
 ·simp[Value.ownBlock] at hb
 ·have:g=b:=by simpa[Value.ownBlock] using hb
  subst this;exact(KY.1 hh).1
theorem Qb:(Tryz.prog.info? 5).map (fun i=>(i.zero,i.size,i.bytes))=some (some (.int .u8 0),1,1):=by kernel_rfl
abbrev pt (b:Nat):ah:=.pointer (some ⟨b,0,none⟩)
def fits (n:Int):Prop:= -9223372036854775808<=n/\n<=9223372036854775807
def KA:ag au:=List.replicate 32 0
theorem Xw:(JO KA).toArray= #[Value.int .u8 0,Value.int .u8 0,Value.int .u8 0,Value.int .u8 0,Value.int .u8 0,Value.int .u8 0,Value.int .u8 0,Value.int .u8 0,Value.int .u8 0,Value.int .u8 0,Value.int .u8 0,Value.int .u8 0,Value.int .u8 0,Value.int .u8 0,Value.int .u8 0,Value.int .u8 0,Value.int .u8 0,Value.int .u8 0,Value.int .u8 0,Value.int .u8 0,Value.int .u8 0,Value.int .u8 0,Value.int .u8 0,Value.int .u8 0,Value.int .u8 0,Value.int .u8 0,Value.int .u8 0,Value.int .u8 0,Value.int .u8 0,Value.int .u8 0,Value.int .u8 0,Value.int .u8 0]:=rfl
theorem Y0 (w:ae):(sizeOf 5).run Tryz.prog w=.ok 1 w:=by kernel_rfl
theorem Q5 (r:ag au):∀v∈JO r,v.oneCell'=true:=by
 intro v hv;simp only[JO,fJ] at hv;obtain⟨x,_,rfl⟩:=hv;rfl
theorem JM (w:ae)(o:Obj):ai w.heap.size w (w.alloc o):=(aW _ _).alloc (ay _) _
section
variable {P:Program}{ops:ax Oper}{Q:Exit->Act->ae->Prop}{a:Act}{w:ae}{rest:ag Oper}{o:Oper}
theorem KF (hw:Region.wanted o (yielded ops a.tmps)=true)(ty:TypeId)(x:Operand)(ho:o.op=.load ty x)(g:Nat)(hx:a.eval x=.pointer (some ⟨g,0,none⟩))(cs:ax ah)(hr:Row w g cs)
  (d:TypeDesc)(hu:P.underlying ty=some d)(hd:d.isRow=true)(hi:(P.info? ty).map (·.size)=some cs.size)
  (h:wpList P ops Q rest (a.put o.dst (.agg cs)) w):wpList P ops Q (o::rest) a w:=by
 unfold wpList;rw[bD hw];have hc:w.rangeAt g 0 cs.toList:=fun j v hv=>by rw[aT,hr.2 j];simpa using hv
 refine .inl (nG ty x ho g 0 hx cs.toList d hc hu hd (by rw[hi];simp) ?_);simpa using h
end
def Ls (zs:ag Int):ag au:=zs.flatMap fun z=>le z 1
theorem ZA (zs:ag Int)(z:Int):Ls (zs++ [z])=Ls zs++le z 1:=by simp[Ls]
theorem QO (zs:ag Int):(Ls zs).length=zs.length:=by
 induction zs with
 |nil=>rfl
 |cons z zs ih=>simp only[Ls,dI,KN,J4] at ih⊢;rw[ih];simp;omega
section
variable {P:Program}{ops:ax Oper}{Q:Exit->Act->ae->Prop}{a:Act}{w:ae}{rest:ag Oper}{d:aj Tmp}{t:TypeId}{pos:String}{af:ax Edge}{g:aj (Nat×Bool)}
theorem Kz (ty:TypeId)(h:wpList P ops Q (⟨d,.alloc ty,t,pos,af,g⟩::rest) a w):wpList P ops Q (⟨d,.alloc ty,t,pos,af,g⟩::rest) a w:=h
end
theorem Qk {w:ae}{b:Nat}{o:Obj}(h:w.heap[b]? =some o):b<w.heap.size:=(KY.1 h).1
theorem Row.Nk {w:ae}{b:Nat}{cs:ax ah}{t:TypeId}{fr:Nat×Nat}(h:w.heap[b]? =some (.cells cs t fr)):Row w b cs:=
 ⟨Qk h,fun i=>aC w b i cs t fr h⟩
section
variable {P:Program}{ops:ax Oper}{Q:Exit->Act->ae->Prop}{a:Act}{w:ae}{rest:ag Oper}{o:Oper}
theorem Ll (hg:o.guard=none)(t:TypeId)(ho:o.op=.alloc t)(cells:ax ah)(hz:(P.info? t).map (fun i=>(i.zero,i.size))=some (some (.agg cells),cells.size))
  (h:wpList P ops Q rest (a.put o.dst (.pointer (some ⟨w.heap.size,0,none⟩))) (w.alloc (.cells cells t))):wpList P ops Q (o::rest) a w:=by
 refine kH hg fun K hK=>?_;unfold Oper.wp execOp;simp only[ho,fH,Oi w t (.agg cells) _ hz,dX];exact hK _ _ h
end
theorem V7 {P:Program}{ops:ax Oper}{o:Oper}{a:Act}{w:ae}{K:Act->ae->Prop}{Q:Exit->Act->ae->Prop}{E:Prop}(hgd:o.guard=none)(d s:Operand)(dT sT:TypeId)
  (ho:o.op=.call {callee:=.builtin .copy,args:= #[d,s],argTypes:= #[dT,sT]})(elem:TypeId)(hu:P.underlying dT=some (.slice elem))(hsz:(P.info? elem).map (·.size)=some 1)
  (g off dLen dCap:Nat)(ad:Addr)(sLen sCap:Nat)(hd:a.eval d=.slice (some ⟨g,off,none⟩) dLen dCap)(hs:a.eval s=.slice (some ad) sLen sCap)
  (cur:ax ah)(t:TypeId)(hg:w.heap[g]? =some (.cells cur t (0,0)))(cs:ag ah)(hn:cs.length=Nat.min sLen dLen)
  (hsrc:∀j v,cs[j]? =some v->w.cell? (ad.add j)=some v)(hfit:off+cs.length<=cur.size)(h1:∀v∈cs,v.oneCell'=true)
  (new:ax ah)(hnew:new=(splice cur.toList off cs).toArray)(h:K (a.put o.dst (goInt cs.length)) (w.setRow g new)):
  if Region.wanted o (yielded ops a.tmps)=true then Oper.wp P o a w K Q else E:=by
 have hw:Region.wanted o (yielded ops a.tmps)=true:=by simp[Region.wanted,hgd]
 rw[bD hw];have hrun:=run_copy_row (P:=P) w dT sT o.type elem g off dLen dCap ad sLen sCap cur t cs hu hsz hg hn hsrc hfit h1;have e:(cur.toList.take off++cs++cur.toList.drop (off+cs.length)).toArray=new:=by rw[hnew];simp[splice]
 rw[e] at hrun;unfold Oper.wp;simp[execOp,ho,resolve,invoke,builtin,hd,hs,hrun,Result.andThen];exact h
theorem aeg (xs:ag au):∀v∈JO xs,v.oneCell'=true:=Q5 xs
theorem Ko {P:Program}{fn:Func}{p u:Tmp}{ty:TypeId}(h:fn.results= #[.cell p ty,.tmp u])(tmps:ax ah)(w:ae)(g:Nat)(t:TypeId)(cs:ax ah)(fr:Nat×Nat)(d:TypeDesc)
  (hp:tmps.getD p undef=.pointer (some ⟨g,0,none⟩))(hg:w.heap[g]? =some (.cells cs t fr))
  (hu:P.underlying ty=some d)(hd:(match d with| .struct _| .array _ _=>true|_=>false)=true)(hi:(P.info? ty).map (·.size)=some cs.size)(v:ah)(hv:tmps.getD u undef=v):
  (results fn tmps).run P w=.ok (.tuple #[.agg cs,v]) w:=by
 rw[results_cell_tmp h,hp,hv];simp[asAddr,Result.andThen,run_loadVar_row w g t ty cs fr d hg hu hd hi]
theorem adJ {w:ae}{B:Nat}{v:ah}{bs:ag au}(h:w.ownsRow B 5 1 v bs.length (bs.map Extern.Stop.cell)):
  ∃A c,v=.slice A bs.length c/\bs.length<=c/\c<=maxLen/\(A=none->c=0)/\BytesAt w w.heap.size A bs:=by
 obtain⟨h0,⟨rfl,h⟩|⟨g,cap,cur,rfl,hg,hb,h1,h2,h3,h4⟩⟩:=h
 ·exact⟨none,0,by rw[h],by omega,aG _,fun _=>rfl,.inl h⟩
 ·refine⟨some ⟨g,0,none⟩,cap,rfl,h1,h2,(fun e=>nomatch e),.inr ⟨g,0,rfl,Qk hb,fun j hj=>?_⟩⟩;have h5:(cur.toList.take (bs.length*1))[j]? =(bs.map Extern.Stop.cell)[j]? :=by rw[h4]
  rw[fA,dK hj,aJ] at h5;rw[aT,aC w g j _ _ _ hb];simp only[eQ] at h5;rw[h5];simp[hj]
theorem JY {w w':ae}{B b o:Nat}{cs:ag ah}(h:w.rangeAt b o cs)(hb:ai B w w')(hB:b<B):w'.rangeAt b o cs:=fun j v hv=>(bI (a:=⟨b,o+j,none⟩) (hb.block b hB)).trans (h j v hv)
def LI (lo:Nat)(w:ae)(A:aj Addr)(zs:ag Int):Prop:=
 zs.length=0\/∃b off,A=some ⟨b,off,none⟩/\lo<=b/\b<w.heap.size/\∀j,j<zs.length->w.cell? ⟨b,off+j,none⟩=some (I (zs[j]?.getD 0))
theorem LI.Kr {lo:Nat}{w w':ae}{A:aj Addr}{zs:ag Int}(h:LI lo w A zs)(hs:w.heap.size<=w'.heap.size)(hb:∀k,lo<=k->k<w.heap.size->w'.heap[k]? =w.heap[k]?):LI lo w' A zs:=by
 rcases h with h|⟨b,off,hA,h1,h2,hc⟩
 ·exact .inl h
 ·exact .inr ⟨b,off,hA,h1,LK h2 hs,fun j hj=>(bI (a:=⟨b,off+j,none⟩) (hb b h1 h2)).trans (hc j hj)⟩
theorem LI.lower {lo lo':Nat}{w:ae}{A:aj Addr}{zs:ag Int}(h:LI lo w A zs)(hl:lo'<=lo):LI lo' w A zs:=by
 rcases h with h|⟨b,off,hA,h1,h2,hc⟩
 ·exact .inl h
 ·exact .inr ⟨b,off,hA,aO hl h1,h2,hc⟩
theorem LI.ints {lo:Nat}{w:ae}{A:aj Addr}{zs:ag Int}(h:LI lo w A zs):OT w w.heap.size A zs:=by
 rcases h with h|⟨b,off,hA,h1,h2,hc⟩
 ·exact .inl h
 ·exact .inr ⟨b,off,hA,h2,hc⟩
theorem MK {lo e size n:Nat}{w w':ae}{v:ah}{xs:ag ah}(h:w.ownsRow lo e size v n xs)(hb:∀k,lo<=k->k<w.heap.size->w'.heap[k]? =w.heap[k]?):w'.ownsRow lo e size v n xs:=by
 refine⟨h.1,?_⟩;rcases h.2 with h|⟨g,cap,cur,rfl,hg,hh,hr⟩
 ·exact .inl h
 ·exact .inr ⟨g,cap,cur,rfl,hg,(hb g hg (KY.1 hh).1).trans hh,hr⟩
section
variable {P:Program}{ops:ax Oper}{Q:Exit->Act->ae->Prop}{a:Act}{w:ae}{rest:ag Oper}{d:aj Tmp}{t:TypeId}{pos:String}{af:ax Edge}{g:aj (Nat×Bool)}
theorem Nb (ty:TypeId){x:Operand}(h:wpList P ops Q (⟨d,.load ty x,t,pos,af,g⟩::rest) a w):wpList P ops Q (⟨d,.load ty x,t,pos,af,g⟩::rest) a w:=h
theorem Lj (ty:TypeId){x y:Operand}(h:wpList P ops Q (⟨d,.store ty x y,t,pos,af,g⟩::rest) a w):wpList P ops Q (⟨d,.store ty x y,t,pos,af,g⟩::rest) a w:=h
end
theorem VY (a:Nat)(ha:a<=1000000)(w:ae):Calls Tryz.prog 146 #[I a] w fun e w'=>e=.returned (.int .u64 a)/\w'=w:=by
 have h0:¬(a:Int)<0:=by omega
 have hw:IntKind.u64.wrap (a:Int)=a:=by rw[l7];omega
 go_enter Tryz.func146,Tryz.ntmps146
 go_wp2
 go_ret;exact⟨rfl,rfl⟩
def alh:ah->Nat
 | .int _ n=>n.toNat
 |_=>0
theorem anP (a b:Nat)(ha:a<=1000000)(hb:b<=1000000)(w:ae):Calls Tryz.prog 133 #[I a,I b] w fun e w'=>e=.returned (I (Nat.gcd a b))/\∃m,w'=w.drewN m:=by
 go_enter Tryz.func133,Tryz.ntmps133;go_wp2_with fail;refine(VY a ha _).mono ?_;rintro e w1 ⟨rfl,rfl⟩;go_wp2_with fail;refine(VY b hb _).mono ?_;rintro e w2 ⟨rfl,rfl⟩;go_wp2_with fail
 go_loopw [5,6] (fun u v wr=>∃x y:Nat,u=.int .u64 x/\v=.int .u64 y/\x<=1000000/\y<=1000000/\Nat.gcd x y=Nat.gcd a b/\∃m,wr=w2.drewN m) (fun _ v _=>alh v)
 case atStart=>exact⟨a,b,rfl,rfl,ha,hb,rfl,0,rfl⟩
 case round=>
  obtain⟨x,y,rfl,rfl,hx,hy,hg,mq,rfl⟩:=hrel;have HG:=JJ hg;clear hg;by_cases hy0:y=0
  ·subst hy0;have hq:¬(9223372036854775807:Int)<(x:Int):=by omega
   have hw:IntKind.i64.wrap (x:Int)=x:=by rw[aA];omega
   go_wp2_with fail;go_ret;refine⟨?_,mq,rfl⟩;have:=HG.out;rw[oH] at this;rw[this];rfl
  ·have hy1:¬(y:Int)=0:=by omega
   have hy2:((y:Int) !=0)=true:=by simp[hy0]
   have hlt:x%y<y:=jE _ (by omega);obtain⟨z,hz⟩:∃z,x%y=z:=⟨_,rfl⟩;have hm:(x:Int)%(y:Int)=(z:Int):=by omega
   have hm2:Int.tmod (x:Int) (y:Int)=(z:Int):=by rw[aS (by omega)];exact hm
   rw[hz] at hlt;have HZ:=JJ hz;have hw:IntKind.u64.wrap (z:Int)=(z:Int):=by rw[l7];omega
   clear hz;go_wp2_with fail;go_quiet (fail);go_wp2_with fail;go_roundw
   case rel=>exact⟨y,z,rfl,by first|rfl|go_num,hy,by omega,by rw[<-HG.out,mM x y,Nat.gcd_rec y x,mM,HZ.out],_,World.drewN_drewN _ _ _⟩
   case measure=>simp[alh];omega
theorem an5 (a b:Nat)(ha:1<=a)(ha2:a<=100000)(hb:1<=b)(hb2:b<=100000)(w:ae):Calls Tryz.prog 123 #[I a,I b] w fun e w'=>e=.returned (.tuple #[I (Nat.lcm a b),I 0])/\∃m,w'=w.drewN m:=by
 have HG:=JJ (anP a b (by omega) (by omega) w);have h1:¬(a:Int)<1:=by omega
 have h2:¬(b:Int)<1:=by omega
 have hgp:0<Nat.gcd a b:=kF _ ha;have hl:a / Nat.gcd a b*b=Nat.lcm a b:=by
  have e:=Nat.lcm_eq_mul_div a b;rw[e,mO (Nat.gcd_dvd_left a b)]
 obtain⟨g,hg⟩:∃g,Nat.gcd a b=g:=⟨_,rfl⟩;rw[hg] at HG hgp hl;obtain⟨r,hr⟩:∃r,a / g=r:=⟨_,rfl⟩;have hr4:r<=100000:=by rw[<-hr];exact aO (lq _ _) ha2
 have hq:Int.tdiv (a:Int) (g:Int)=(r:Int):=by rw[<-hr];rfl
 have hq':(a:Int) / (g:Int)=(r:Int):=by rw[<-hr];rfl
 obtain⟨t,ht⟩:∃t,1099511627776 / b=t:=⟨_,rfl⟩;have ht4:100000<=t:=by rw[<-ht,Nat.le_div_iff_mul_le (by omega)];omega
 have hq2:Int.tdiv 1099511627776 (b:Int)=(t:Int):=by rw[<-ht];rfl
 have aEs:(1099511627776:Int) / (b:Int)=(t:Int):=by rw[<-ht];rfl
 have hbig:¬(t:Int)<(r:Int):=by omega
 have hwr:IntKind.i64.wrap (r:Int)=r:=by rw[aA];omega
 have ht5:t<=1099511627776:=by rw[<-ht];exact lq _ _
 have hwt:IntKind.i64.wrap (t:Int)=t:=by rw[aA];omega
 rw[hr] at hl;have hp:(r:Int)*(b:Int)=((Nat.lcm a b:Nat):Int):=by rw[<-hl];exact(Int.natCast_mul r b).symm
 have hlb:Nat.lcm a b<=10000000000:=by rw[<-hl];exact Nat.mul_le_mul hr4 hb2
 obtain⟨m,hm⟩:∃m,Nat.lcm a b=m:=⟨_,rfl⟩;rw[hm] at hp hlb⊢;have hwm:IntKind.i64.wrap (m:Int)=m:=by rw[aA];omega
 have hg0:¬(g:Int)=0:=by omega
 have hb0:¬(b:Int)=0:=by omega
 clear hr ht hl hm hg;go_enter Tryz.func123,Tryz.ntmps123;go_wp2_with fail;refine HG.out.mono ?_;rintro e w1 ⟨rfl,mq,rfl⟩;go_wp2_with fail;go_ret2;exact⟨rfl,mq,rfl⟩
structure Lr where
 every:Int
 rest:Int
 yes:Bool
theorem an6 (a b:Nat)(ha:1<=a)(ha2:a<=400)(hb:1<=b)(hb2:b<=400)(w:ae):Calls Tryz.prog 123 #[I a,I b] w fun e w'=>e=.returned (.tuple #[I (Nat.lcm a b),I 0])/\ai w.heap.size w w':=
 (an5 a b ha (by omega) hb (by omega) w).mono fun _ _ ⟨h1,m,h2⟩=>⟨h1,by rw[h2];exact below_drewN' _ _⟩
def Lr.cells (r:Lr):ag ah:= [I r.every,I r.rest,.bool r.yes]
def abk (w:ae)(B:Nat)(A:aj Addr)(rs:ag Lr):Prop:=
 rs.length=0\/∃b,A=some ⟨b,0,none⟩/\b<B/\∀k x,rs[k]? =some x->w.rangeAt b (k*3) x.cells
theorem abk.keep {w w':ae}{B:Nat}{A:aj Addr}{rs:ag Lr}(h:abk w B A rs)(hb:ai B w w'):abk w' B A rs:=by
 rcases h with h|⟨b,h1,h2,h3⟩
 ·exact .inl h
 ·exact .inr ⟨b,h1,h2,fun k x hx=>JY (h3 k x hx) hb h2⟩
theorem abk.more {w:ae}{B B':Nat}{A:aj Addr}{rs:ag Lr}(h:abk w B A rs)(hB:B<=B'):abk w B' A rs:=by
 rcases h with h|⟨b,h1,h2,h3⟩
 ·exact .inl h
 ·exact .inr ⟨b,h1,by omega,h3⟩
section
structure Cal where
 KI:Int
 JQ:ag Int
 Lm:Int
 rules:ag Lr
def J7 (c:Cal)(A:aj Addr)(ca:Nat)(B:aj Addr)(cb:Nat):ax ah:= #[I c.KI,.slice A c.JQ.length ca,I c.Lm,.slice B c.rules.length cb]
attribute [local go_sem] J7
end
structure NL (mb:Nat)(w w':ae):Prop where
 os:w'.os=w.os
 tape:w'.tape=w.tape
 output:w'.output=w.output
 size:w.heap.size<=w'.heap.size
 block:∀k,k<w.heap.size->k≠mb->w'.heap[k]? =w.heap[k]?
theorem NL.refl (mb:Nat)(w:ae):NL mb w w:=⟨rfl,rfl,rfl,ay _,fun _ _ _=>rfl⟩
theorem NL.trans {mb:Nat}{w w1 w2:ae}(h:NL mb w w1)(k:NL mb w1 w2):NL mb w w2:=
 ⟨k.os.trans h.os,k.tape.trans h.tape,k.output.trans h.output,aO h.size k.size,fun b hb hn=>(k.block b (LK hb h.size) hn).trans (h.block b hb hn)⟩
theorem NL.of_below {mb:Nat}{w w':ae}(h:ai w.heap.size w w'):NL mb w w':=⟨h.os,h.tape,h.output,h.size,fun k hk _=>h.block k hk⟩
theorem NL.below {mb B:Nat}{w w':ae}(h:NL mb w w')(hB:B<=mb)(hs:B<=w.heap.size):ai B w w':=⟨h.os,h.tape,h.output,h.size,fun k hk=>h.block k (by omega) (by omega)⟩
theorem NL.set {mb:Nat}{w w1:ae}(h:NL mb w w1)(o:Nat)(u:ah):NL mb w (w1.setCell ⟨mb,o,none⟩ u):=
 ⟨h.os,h.tape,h.output,by simpa[World.setCell] using h.size,fun b hb hn=>(aN w1 _ b u hn).trans (h.block b hb hn)⟩
theorem KD {w:ae}{base base' e size n:Nat}{v:ah}{xs:ag ah}(h:w.ownsRow base e size v n xs)(hb:base'<=base):w.ownsRow base' e size v n xs:=by
 refine⟨h.1,?_⟩;rcases h.2 with h|⟨g,cap,cur,rfl,hg,hh⟩
 ·exact .inl h
 ·exact .inr ⟨g,cap,cur,rfl,aO hb hg,hh⟩
theorem addr_add (g j:Nat):(⟨g,0,none⟩:Addr).add j=⟨g,j,none⟩:=by unfold Addr.add;split<;>simp_all
theorem Xh:(Tryz.prog.info? 3).map (fun i=>(i.zero,i.size,i.bytes))=some (some (.int .i64 0),1,8):=by kernel_rfl
theorem P7 {mb base e size n:Nat}{w w':ae}{v:ah}{xs:ag ah}(h:w.ownsRow base e size v n xs)(hk:NL mb w w')(hb:mb<base):w'.ownsRow base e size v n xs:=by
 refine⟨h.1,?_⟩;rcases h.2 with h|⟨g,cap,cur,rfl,hg,hh,hr⟩
 ·exact .inl h
 ·exact .inr ⟨g,cap,cur,rfl,hg,(hk.block g (KY.1 hh).1 (by omega)).trans hh,hr⟩
theorem Oq {α:Type}(xs:ag α)(k:Nat)(x:α)(h:xs[k]? =some x):xs.take (k+1)=xs.take k++ [x]:=by rw[ji,h];rfl
def JS (w:ae)(B:Nat)(A:aj Addr)(cs:ag ah):Prop:=
 cs.length=0\/∃b off,A=some ⟨b,off,none⟩/\b<B/\∀j u,cs[j]? =some u->w.cell? ⟨b,off+j,none⟩=some u
section
variable {w w':ae}{B B':Nat}{A:aj Addr}{cs:ag ah}
theorem JS.keep (h:JS w B A cs)(hb:ai B w w'):JS w' B A cs:=by
 rcases h with h|⟨b,off,h1,h2,h3⟩
 ·exact .inl h
 ·exact .inr ⟨b,off,h1,h2,fun j u hu=>(hb.cell (p:=⟨b,off+j,none⟩) h2).trans (h3 j u hu)⟩
theorem JS.more (h:JS w B A cs)(hB:B<=B'):JS w B' A cs:=by
 rcases h with h|⟨b,off,h1,h2,h3⟩
 ·exact .inl h
 ·exact .inr ⟨b,off,h1,by omega,h3⟩
theorem JS.grow (h:JS w w.heap.size A cs)(hb:ai w.heap.size w w'):JS w' w'.heap.size A cs:=(h.keep hb).more hb.size
theorem JS.nil:JS w B A []:=.inl rfl
theorem JS.drew (h:JS w B A cs):JS w.drew B A cs:=h
theorem JS.there (h:JS w B A cs)(h0:0<cs.length):∃b off,A=some ⟨b,off,none⟩/\b<B/\∀j u,cs[j]? =some u->w.cell? ⟨b,off+j,none⟩=some u:=by
 rcases h with h|h
 ·omega
 ·exact h
theorem JS.Le {lo e size n c:Nat}(h:w.ownsRow lo e size (.slice A n c) n cs):JS w w.heap.size A cs:=by
 rcases h.2 with ⟨hv,hn⟩|⟨g,cap,cur,hv,_,hh,_⟩
 ·refine .inl ?_;rw[h.1,hn,gU]
 ·injection hv with h1 _ _;subst h1;exact .inr ⟨g,0,rfl,(KY.1 hh).1,fun j u hu=>by rw[aT,<-addr_add];exact h.cells (g:=g) rfl j u hu⟩
theorem JS.ints {zs:ag Int}(h:JS w B A (zs.map I)):OT w B A zs:=by
 rcases h with h|⟨b,off,h1,h2,h3⟩
 ·exact .inl (by simpa using h)
 ·refine .inr ⟨b,off,h1,h2,fun j hj=>?_⟩;rw[h3 j (I zs[j]) (by rw[aJ,KL hj];rfl),KL hj];rfl
theorem JS.bytes {bs:ag au}(h:JS w B A (bs.map Extern.Stop.cell)):BytesAt w B A bs:=by
 rcases h with h|⟨b,off,h1,h2,h3⟩
 ·exact .inl (by simpa using h)
 ·refine .inr ⟨b,off,h1,h2,fun j hj=>?_⟩;rw[h3 j (Extern.Stop.cell bs[j]) (by rw[aJ,KL hj];rfl),KL hj];rfl
end
theorem flat_get {α:Type}{s:Nat}(f:α->ag ah)(xs:ag α)(hs:∀x∈xs,(f x).length=s)(k j:Nat)(x:α)(hx:xs[k]? =some x)(hj:j<s):(xs.flatMap f)[k*s+j]? =(f x)[j]? :=by
 induction xs generalizing k with
 |nil=>cases hx
 |cons y xs ih=>
  rw[dI];have hy:=hs y (gI ..);cases k with
  |zero=>
   injection hx with hx;subst hx;rw[gU,aT,dZ (by rw[hy];exact hj)]
  |succ k=>
   rw[bH (by rw[hy,kJ];omega),hy,show(k+1)*s+j - s=k*s+j by rw[kJ];omega];exact ih (fun x hx=>hs x (iE _ hx)) k hx
theorem KW {α:Type}{s:Nat}(f:α->ag ah)(xs:ag α)(hs:∀x∈xs,(f x).length=s):(xs.flatMap f).length=xs.length*s:=by
 induction xs with
 |nil=>simp
 |cons y xs ih=>rw[dI,KN,ih (fun x hx=>hs x (iE _ hx)),hs y (gI ..),bG,kJ];omega
theorem ach {α:Type}(f:α->ag ah)(xs:ag α)(h1:∀x∈xs,∀u∈f x,u.oneCell'=true):∀u∈xs.flatMap f,u.oneCell'=true:=by
 intro u hu;obtain⟨x,hm,hx⟩:=jv.1 hu;exact h1 x hm u hx
theorem JS.elem {α:Type}{w:ae}{s b off:Nat}{f:α->ag ah}{xs:ag α}(hs:∀x∈xs,(f x).length=s)(h:∀j u,(xs.flatMap f)[j]? =some u->w.cell? ⟨b,off+j,none⟩=some u)(k:Nat)(x:α)(hx:xs[k]? =some x):w.rangeAt b (off+k*s) (f x):=by
 intro j u hu;have hj:j<s:=by rw[<-hs x (LQ hx)];exact(MF.1 hu).1
 rw[fE];exact h _ u (by rw[flat_get f xs hs k j x hx hj];exact hu)
section
structure agF (c:Cal):Prop where
 ep:0<=c.KI/\c.KI<=1048576
 mo:1<=c.JQ.length/\c.JQ.length<=16
 le:c.Lm= -1
 ru:c.rules= []
 all:∀m∈c.JQ,1<=m/\m<=40
attribute [local go_sem] J7
end
structure Tr where
 at_:Int
 off:Int
structure Yr where
 month:Int
 La:Int
 Lh:Int
 minute:Int
 off:Int
structure Zn where
 cal:Cal
 start:Int
 trans:ag Tr
 hor:Int
 J6:ag Yr
structure Zs where
 A:aj Addr
 a:Nat
 B:aj Addr
 b:Nat
 C:aj Addr
 c:Nat
 D:aj Addr
 d:Nat
def JV (z:Zn)(s:Zs):ax ah:= #[I z.cal.KI,.slice s.A z.cal.JQ.length s.a,I z.cal.Lm,.slice s.B z.cal.rules.length s.b,I z.start,.slice s.C z.trans.length s.c,I z.hor,.slice s.D z.J6.length s.d]
structure Tz (z:Zn):Prop where
 cal:agF z.cal
 start: -1080<=z.start/\z.start<=1080
 trans:z.trans= []
 hor: -2251799813685248<=z.hor/\z.hor<=2251799813685248
 J6:z.J6= []
theorem aeO (n l:Int)(w:ae)(hl:0<=l/\l<=4503599627370496):Calls Tryz.prog 89 #[I n,I l] w fun e w'=>e=.returned (.bool (decide (-l<=n)&&decide (n<=l)))/\w'=w:=by
 have hw:IntKind.i64.wrap (-l)= -l:=by rw[aA];omega
 by_cases h1: -l<=n
 ·by_cases h2:n<=l
  ·have e:(decide (-l<=n)&&decide (n<=l))=true:=by rw[aZ h1,aZ h2];rfl
   rw[e];go_enter Tryz.func89,Tryz.ntmps89
   go_wp2
   go_ret;exact⟨rfl,rfl⟩
  ·have e:(decide (-l<=n)&&decide (n<=l))=false:=by rw[bT h2];simp
   rw[e];go_enter Tryz.func89,Tryz.ntmps89
   go_wp2
   go_ret;exact⟨rfl,rfl⟩
 ·have e:(decide (-l<=n)&&decide (n<=l))=false:=by rw[bT h1];simp
  rw[e];go_enter Tryz.func89,Tryz.ntmps89
  go_wp2
  go_ret;exact⟨rfl,rfl⟩
theorem QF (z:Zn)(s:Zs):(Tryz.prog.info? 69).map (·.size)=some (JV z s).size:=by kernel_rfl
theorem aaA (z:Zn)(s:Zs):(JV z s).all (·.oneCell')=true:=by kernel_rfl
theorem MO {P:Program}{fn:Func}{p q:Tmp}{t1 t2:TypeId}(h:fn.results= #[.cell p t1,.cell q t2])(tmps:ax ah)(w:ae)(a b:Addr)(u v:ah)
  (hp:tmps.getD p undef=.pointer (some a))(hu:(loadVar t1 a).run P w=.ok u w)(hq:tmps.getD q undef=.pointer (some b))(hv:(loadVar t2 b).run P w=.ok v w):
  (results fn tmps).run P w=.ok (.tuple #[u,v]) w:=by
 have hp':tmps[p]?.getD undef=.pointer (some a):=by simpa using hp
 have hq':tmps[q]?.getD undef=.pointer (some b):=by simpa using hq
 simp[results,h,hp',hq',asAddr,hu,hv]
theorem Wp (W:ae)(a:Addr)(b:Nat)(h:W.cell? a=some (pt b)):(loadVar 140 a).run Tryz.prog W=.ok (pt b) W:=by
 simp[go_sem,h]
theorem Sm (W:ae)(a:Addr)(b:Bool)(h:W.cell? a=some (.bool b)):(loadVar 4 a).run Tryz.prog W=.ok (.bool b) W:=by
 simp[go_sem,h]
structure ZO (w:ae)(cs:ax ah)(W:ae):Prop where
 row:Row W w.heap.size cs
 r1:W.heap[w.heap.size+1]? =some (.cells #[.pointer none] 140 (0,0))
 r2:W.heap[w.heap.size+2]? =some (.cells #[.bool false] 4 (0,0))
 up:ai w.heap.size w W
theorem ZO.below {w W W':ae}{cs:ax ah}(h:ZO w cs W)(hb:ai W.heap.size W W'):ZO w cs W':=
 ⟨h.row.keep hb,(hb.block _ (KY.1 h.r1).1).trans h.r1,(hb.block _ (KY.1 h.r2).1).trans h.r2,JL h.up hb⟩
theorem amo (w:ae)(cs:ax ah):ZO w cs (((w.alloc (.cells cs 69)).alloc (.cells #[.pointer none] 140)).alloc (.cells #[.bool false] 4)):=by
 have b0:=JM w (.cells cs 69);have r0:=Row.new w cs 69;obtain⟨W1,hW1⟩:∃W,w.alloc (.cells cs 69)=W:=⟨_,rfl⟩;have hs1:W1.heap.size=w.heap.size+1:=by rw[<-hW1];simp
 rw[hW1] at b0 r0⊢;have b1:=JM W1 (.cells #[.pointer none] 140);have h1:=aF W1 (.cells #[.pointer none] 140);obtain⟨W2,hW2⟩:∃W,W1.alloc (.cells #[.pointer none] 140)=W:=⟨_,rfl⟩;have hs2:W2.heap.size=w.heap.size+2:=by rw[<-hW2];simp[hs1]
 rw[hW2] at b1 h1⊢;rw[hs1] at h1;have b2:=JM W2 (.cells #[.bool false] 4);have h2:=aF W2 (.cells #[.bool false] 4);rw[hs2] at h2;exact⟨(r0.keep b1).keep b2,(b2.block _ (by omega)).trans h1,h2,JL (JL b0 b1) b2⟩
structure Ze where
 name:ByteArray
 z:Zn
structure L9 where
 e:Ze
 s:Zs
def L9.cells (x:L9):ax ah:= #[.string x.e.name,I x.e.z.cal.KI,.slice x.s.A x.e.z.cal.JQ.length x.s.a,I x.e.z.cal.Lm,.slice x.s.B x.e.z.cal.rules.length x.s.b,I x.e.z.start,.slice x.s.C x.e.z.trans.length x.s.c,I x.e.z.hor,.slice x.s.D x.e.z.J6.length x.s.d]
structure Tb where
 J5:Int
 version:Int
 JU:Int
 prev:ag au
 Ku:ag au
 JX:ag Ze
def MW (t:Tb)(vz:ah):ag ah:= [I t.J5,I t.version,I t.JU,vz]++(JO t.prev++JO t.Ku)
def JK (t:Tb)(vz:ah):ax ah:=(MW t vz).toArray
section
variable (t:Tb)(vz:ah)
theorem NT:(JK t vz)[0]? =some (I t.J5):=rfl
theorem NU:(JK t vz)[1]? =some (I t.version):=rfl
theorem OH:(JK t vz)[2]? =some (I t.JU):=rfl
theorem LD:(JK t vz)[3]? =some vz:=rfl
theorem Kq (h:t.prev.length=32)(h2:t.Ku.length=32):(JK t vz).size=68:=by simp[JK,MW,JO,h,h2]
theorem Ky (h:t.prev.length=32)(h2:t.Ku.length=32):(Tryz.prog.info? 26).map (·.size)=some (JK t vz).size:=by rw[Kq t vz h h2];kernel_rfl
theorem Tj {W:ae}{b:Nat}(hr:Row W b (JK t vz)):W.rangeAt b 4 (JO t.prev):=fun j v hv=>by
 rw[hr.2 (4+j)];unfold JK MW;rw[eU,bH (by simp)];have hj:=(MF.1 hv).1;rw[show 4+j - [I t.J5,I t.version,I t.JU,vz].length=j by simp,dZ hj];exact hv
theorem Vo {W:ae}{b:Nat}(hr:Row W b (JK t vz))(hp:t.prev.length=32):W.rangeAt b 36 (JO t.Ku):=fun j v hv=>by
 rw[hr.2 (36+j)];unfold JK MW;have hl:(JO t.prev).length=32:=by simp[JO,hp]
 rw[eU,bH (by simp;omega),bH (by simp[hl];omega)];rw[show 36+j - [I t.J5,I t.version,I t.JU,vz].length - (JO t.prev).length=j by simp[hl];omega];exact hv
end
def Zp (w:ae)(B:Nat)(A:aj Addr)(zs:ag L9):Prop:=
 zs.length=0\/∃b,A=some ⟨b,0,none⟩/\b<B/\∀k x,zs[k]? =some x->w.rangeAt b (k*9) x.cells.toList/\OT w B x.s.A x.e.z.cal.JQ
theorem Zp.keep {w w':ae}{B:Nat}{A:aj Addr}{zs:ag L9}(h:Zp w B A zs)(hb:ai B w w'):Zp w' B A zs:=by
 rcases h with h|⟨b,h1,h2,h3⟩
 ·exact .inl h
 ·exact .inr ⟨b,h1,h2,fun k x hx=>⟨JY (h3 k x hx).1 hb h2,(h3 k x hx).2.keep hb⟩⟩
theorem Zp.more {w:ae}{B B':Nat}{A:aj Addr}{zs:ag L9}(h:Zp w B A zs)(hB:B<=B'):Zp w B' A zs:=by
 rcases h with h|⟨b,h1,h2,h3⟩
 ·exact .inl h
 ·exact .inr ⟨b,h1,by omega,fun k x hx=>⟨(h3 k x hx).1,(h3 k x hx).2.more hB⟩⟩
section
variable {P:Program}{ops:ax Oper}{Q:Exit->Act->ae->Prop}{a:Act}{w:ae}{rest:ag Oper}{o:Oper}
theorem Kt (hw:Region.wanted o (yielded ops a.tmps)=true)(ty:TypeId)(x:Operand)(ho:o.op=.load ty x)(g off:Nat)(hx:a.eval x=.pointer (some ⟨g,off,none⟩))(cs:ag ah)(hr:w.rangeAt g off cs)
  (d:TypeDesc)(hu:P.underlying ty=some d)(hd:d.isRow=true)(hi:(P.info? ty).map (·.size)=some cs.length)
  (h:wpList P ops Q rest (a.put o.dst (.agg cs.toArray)) w):wpList P ops Q (o::rest) a w:=by
 unfold wpList;rw[bD hw];exact .inl (nG ty x ho g off hx cs d hr hu hd hi h)
end
structure RY (t:Tb):Prop where
 J5:0<=t.J5/\t.J5<16
 version:1<=t.version/\t.version<=64
 JU:0<=t.JU/\t.JU<t.version
 prev:t.prev.length=32
 Ku:t.Ku.length=32
 first:t.version=1->t.prev=KA
 num:t.JX.length<=128
 flat:∀e∈t.JX,Tz e.z
 short:∀e∈t.JX,e.name.size<=32
theorem Yf (w:ae)(base:Nat)(ty:TypeId)(v:ah)(n:Nat)(xs:ag ah)(hown:w.ownsRow base 5 1 v n xs)(s:ByteArray)(hlen:n+s.size<=1000000000000)(hbase:base<=w.heap.size):
  ∃v' w',(Builtin.append_ #[55,9] ty #[v,.string s]).run Tryz.prog w=.ok v' w'/\w'.ownsRow base 5 1 v' (n+s.size) (xs++Lib.strCells s)/\w.grownBy w' v.ownBlock/\(v'.ownBlock=v.ownBlock\/v'.ownBlock=some w.heap.size):=by
 obtain⟨i0,hi,hz0,hz1,hz2⟩:=dN Qb;obtain⟨v',w',hr,h2,h3,h4⟩:=Lib.run_append_own_string (P:=Tryz.prog) w base 55 9 ty 5 i0 bC gV hi hz0 hz1 hz2 v n xs hown s (by unfold maxLen;omega) (by omega) hbase;refine⟨v',w',hr,h2,h3,?_⟩;have hxl:xs.length=n:=by simpa using hown.1
 rcases hown.2 with ⟨rfl,rfl⟩|⟨g,cap,cur,rfl,hbg,hg,hnc,hcm,hcs,htake⟩
 ·by_cases h0:s.size=0
  ·left;rw[h4.2 ⟨rfl,h0⟩]
  ·right;have hr':=run_append_nil_string (P:=Tryz.prog) w 55 9 ty 5 i0 (.int .u8 0) bC gV hi hz0 s (by omega) (by omega) (by rw[hz2];omega);rw[hr] at hr';injection hr' with hv _;rw[hv];rfl
 ·by_cases hroom:n+s.size<=cap
  ·left;have hr':=Lib.run_append_room_string (P:=Tryz.prog) w 55 9 ty 5 i0 bC gV hi hz1 g n cap cur hg s hroom (by omega);rw[hr] at hr';injection hr' with hv _;rw[hv];rfl
  ·right;have holds:∀j u,xs[j]? =some u->w.cell? ((⟨g,0,none⟩:Addr).add j)=some u:=hown.cells (g:=g) rfl;have hr':=Lib.run_append_grow_string (P:=Tryz.prog) w 55 9 ty 5 i0 (.int .u8 0) bC gV hi hz0 ⟨g,0,none⟩ n cap xs (by rw[hz1];omega) holds s (by omega) (by omega) (by rw[hz2];exact growslice_fits (by omega) (by omega));rw[hr] at hr';injection hr' with hv _;rw[hv];rfl
theorem aau {ops:ax Oper}{rest:ag Oper}{o:Oper}{a:Act}{Q:Exit->Act->ae->Prop}{w:ae}(hgd:o.guard=none)(sl x:Operand)
  (ho:o.op=.call {callee:=.builtin .append,args:= #[sl,x],argTypes:= #[55,9]})(base:Nat)(v:ah)(n:Nat)(xs:ag ah)(hs:a.eval sl=v)(hown:w.ownsRow base 5 1 v n xs)(s:ByteArray)(hx:a.eval x=.string s)
  (hlen:n+s.size<=1000000000000)(hbase:base<=w.heap.size)
  (h:∀v' w',w'.ownsRow base 5 1 v' (n+s.size) (xs++Lib.strCells s)->w.grownBy w' v.ownBlock->(v'.ownBlock=v.ownBlock\/v'.ownBlock=some w.heap.size)->wpList Tryz.prog ops Q rest (a.put o.dst v') w'):wpList Tryz.prog ops Q (o::rest) a w:=by
 refine kH hgd fun K hK=>?_;obtain⟨v',w',hr,h2,h3,h4⟩:=Yf w base o.type v n xs hown s hlen hbase;unfold Oper.wp execOp;simp only[ho,resolve,invoke,builtin,fH,jF,dX,jw,fF,iR,hs,hx,hr];exact hK _ _ (h v' w' h2 h3 h4)
theorem acE {ops:ax Oper}{o:Oper}{a:Act}{Q:Exit->Act->ae->Prop}{K:Act->ae->Prop}{E:Prop}{w:ae}(hgd:o.guard=none)(sl x:Operand)
  (ho:o.op=.call {callee:=.builtin .append,args:= #[sl,x],argTypes:= #[55,9]})(base:Nat)(v:ah)(n:Nat)(xs:ag ah)(hs:a.eval sl=v)(hown:w.ownsRow base 5 1 v n xs)(s:ByteArray)(hx:a.eval x=.string s)
  (hlen:n+s.size<=1000000000000)(hbase:base<=w.heap.size)(hpos:0<n+s.size)
  (h:∀g' cap' w',w'.ownsRow base 5 1 (.slice (some ⟨g',0,none⟩) (n+s.size) cap') (n+s.size) (xs++Lib.strCells s)->w.grownBy w' v.ownBlock->((Value.slice (some ⟨g',0,none⟩) (n+s.size) cap').ownBlock=v.ownBlock\/(Value.slice (some ⟨g',0,none⟩) (n+s.size) cap').ownBlock=some w.heap.size)->K (a.put o.dst (.slice (some ⟨g',0,none⟩) (n+s.size) cap')) w'):if Region.wanted o (yielded ops a.tmps)=true then Oper.wp Tryz.prog o a w K Q else E:=by
 have hw:Region.wanted o (yielded ops a.tmps)=true:=by simp[Region.wanted,hgd]
 rw[bD hw];obtain⟨v',w',hr,h2,h3,h4⟩:=Yf w base o.type v n xs hown s hlen hbase;obtain⟨g',cap',rfl,_⟩:=LW h2 hpos;unfold Oper.wp execOp;simp only[ho,resolve,invoke,builtin,fH,jF,dX,jw,fF,iR,hs,hx,hr];exact h _ _ _ h2 h3 h4
theorem aef (w:ae)(bb off c:Nat)(s:ByteArray)(h:∀j,j<s.size->w.cell? ⟨bb,off+j,none⟩=some (Extern.Stop.cell (s.data.toList[j]?.getD 0))):
  (convert 55 9 (.slice (some ⟨bb,off,none⟩) s.size c)).run Tryz.prog w=.ok (.string s) w:=by
 have e:strOfNums (s.data.toList.map fun (b:au)=>((b.toNat:Nat):Int))=s:=by
  unfold strOfNums;rw[List.map_map];have:((fun n:Int=>UInt8.ofNat n.toNat) ∘ fun (b:au)=>((b.toNat:Nat):Int))=id:=by
   funext b;simp
  rw[this,List.map_id]
 have hl:s.data.toList.length=s.size:=dF;have hr:=kU (P:=Tryz.prog) w 55 5 bC gW bb off s.size c (s.data.toList.map fun (b:au)=>((b.toNat:Nat):Int)) (by rw[aI,hl]) (fun i hi=>by
  rw[h i hi];have hx:s.data.toList[i]? =some s.data.toList[i]:=KL (by omega);rw[hx,List.getD_eq_getElem?_getD,aJ,hx];rfl) 9 gV
 rw[e] at hr;exact hr
end Go.Proofs.YtbaehbbonkljpaaGreatDoor
