/- The texts DgA, DgL, DgB, in this order. -/
import Derived.Test.YtbaehbbonkljpaaGreatDoorS00
import Derived.Test.YtbaehbbonkljpaaGreatDoorProg
import Derived.Defers
import Derived.Laws.AppendOwnNone
import Derived.Laws.BitsAllLaws
import Derived.Laws.BytesArg
import Derived.Laws.Cover3
import Derived.Lib.AppendStr
import Derived.Lib.ByteType
import Derived.MapKept
import Derived.Recover
import Derived.Test.YtbaehbbonkljpaaGreatDoorS01
import Derived.Test.YtbaehbbonkljpaaGreatDoorS03
import Derived.Test.YtbaehbbonkljpaaGreatDoorS28
set_option maxRecDepth 10000
set_option maxHeartbeats 8000000
namespace Go.Proofs.YtbaehbbonkljpaaGreatDoor
open Go Go.RowKit
structure SI (b:Nat) (w w':World):Prop where
 os:w'.os=w.os
 tape:w'.tape=w.tape
 output:w'.output=w.output
 size:w.heap.size<=w'.heap.size
 block:∀k,k<w.heap.size->k≠b->w'.heap[k]? =w.heap[k]?
theorem lV {P:Program} {ops:Array Oper} {Q:Exit->Act->World->Prop} {md:Region.Mode} {S:World->Prop} {i:Nat} {oi:Oper} {v:Value} {d:Tmp} {fuel:Nat} {listed:Array Bool} {a:Act} {w:World} (hi:ops[i]? =some oi) (hd:oi.dst=some d)
  (hs:Region.noSelect ops=true) (hf:Region.free md ops listed i=true) (hr:(Region.ready md ops listed).contains i=true)
  (hQ:∀c a w,Q (.panic c) (a.put oi.dst v) w->Q (.panic c) a w) (hy:YieldsIf P ops S oi v a) (hS:S w)
  (h:wpAnyH P md ops Q S fuel (listed.setIfInBounds i true) (a.put (some d) v) w):wpAnyH P md ops Q S (fuel+1) listed a w:=
 wpAnyH_take hi hs hf hr hQ hy hS (by rw [hd];exact h)
theorem yS {P:Program} {ops:Array Oper} {S:World->Prop} {op:Oper} {a:Act} (hw:Region.wanted op (yielded ops a.tmps)=true) (ty:TypeId) (x:Operand) (ho:op.op= .load ty x)
  (b:Nat) (hx:a.eval x= .pointer (some ⟨b,0,none⟩)) (cs:Array Value) (d:TypeDesc) (hS:∀w,S w->gK w b cs)
  (hu:P.underlying ty=some d) (hd:d.isRow=true) (hi:(P.info? ty).map (·.size)=some cs.size):YieldsIf P ops S op (.agg cs) a:=by
 have:=yieldsIf_load_mid (P:=P) (S:=S) hw ty x ho b 0 hx cs.toList d (fun w h=>fun j v hv=>by rw [Nat.zero_add,(hS w h).2 j];simpa using hv) hu hd (by rw [hi];simp);simpa using this
section
variable {P:Program} {ops:Array Oper} {o:Oper} {a:Act} {w:World} {K:Act->World->Prop} {Q:Exit->Act->World->Prop} {E:Prop}
theorem eX (hgd:o.guard=none) (t:TypeId) (ho:o.op= .alloc t) (cells:Array Value) (hz:(P.info? t).map (fun i=>(i.zero,i.size))=some (some (.agg cells),cells.size))
  (h:K (a.put o.dst (.pointer (some ⟨w.heap.size,0,none⟩))) (w.alloc (.cells cells t))):if Region.wanted o (yielded ops a.tmps)=true then Oper.wp P o a w K Q else E:=by
 have hw:Region.wanted o (yielded ops a.tmps)=true:=by simp [Region.wanted,hgd]
 rw [if_pos hw];unfold Oper.wp execOp;simp only [ho,Sem.run_bind,iJ w t (.agg cells) _ hz,Result.andThen_ok];exact h
theorem dQ (hgd:o.guard=none) (ty:TypeId) (x y:Operand) (ho:o.op= .store ty x y) (g:Nat) (cells:Array Value) (hx:a.eval x= .pointer (some ⟨g,0,none⟩)) (hy:a.eval y= .agg cells)
  (t:TypeId) (old:Array Value) (hg:w.heap[g]? =some (.cells old t (0,0))) (hi:(P.info? ty).map (·.size)=some cells.size) (hold:old.size=cells.size) (h1:cells.all (·.oneCell')=true)
  (h:K (a.put o.dst undef) (w.setRow g cells)):if Region.wanted o (yielded ops a.tmps)=true then Oper.wp P o a w K Q else E:=by
 have hw:Region.wanted o (yielded ops a.tmps)=true:=by simp [Region.wanted,hgd]
 rw [if_pos hw];exact wp_store_row ty x y ho g cells hx hy t old hg hi hold h1 h
end
theorem nz:(Tryz.prog.info? 180).map (fun i=>(i.zero,i.size))=some (some (.agg (aj (List.replicate 8 0))),(aj (List.replicate 8 0)).size):=by kernel_rfl
structure AX (w:World) (o4 o5:Option Nat) (W:World):Prop where
 lo:Below w.heap.size w W
 v4:∀b,o4=some b->AV b 190 (aj (List.replicate 64 0)) W/\w.heap.size<=b
 v5:∀b,o5=some b->AV b 180 (aj (List.replicate 8 0)) W/\w.heap.size<=b
 ne:∀b c,o4=some b->o5=some c->b≠c
structure AY (w:World) (cs:Array Value) (b c:Nat) (W:World):Prop where
 lo:Below w.heap.size w W
 v4:AV b 190 cs W/\w.heap.size<=b
 v5:AV c 180 (aj (List.replicate 8 0)) W/\w.heap.size<=c
 ne:b≠c
structure AZ (w:World) (cs ds:Array Value) (b c:Nat) (W:World):Prop where
 lo:Below w.heap.size w W
 w4:AV b 190 cs W
 w5:AV c 180 ds W
 l4:w.heap.size<=b
 l5:w.heap.size<=c
 ne:b≠c
section
variable {w W W':World} {o4 o5:Option Nat} {b c sb:Nat} {cs ds ss:Array Value} {t:TypeId}
theorem GI (lo:Below w.heap.size w W) (hs:AV sb t ss w):gK W sb ss:=⟨dP hs.lt lo.size,fun i=>(lo.cell (p:=⟨sb,i,none⟩) hs.lt).trans (hs.cell i)⟩
theorem AV.lows (hs:AV sb t ss w) (lo:Below w.heap.size w W):AV sb t ss W:=⟨(lo.block _ hs.lt).trans hs.var⟩
theorem AX.row (h:AX w o4 o5 W) (hs:AV sb t ss w):gK W sb ss:=GI h.lo hs
theorem AY.row (h:AY w cs b c W) (hs:AV sb t ss w):gK W sb ss:=GI h.lo hs
theorem AZ.row (h:AZ w cs ds b c W) (hs:AV sb t ss w):gK W sb ss:=GI h.lo hs
theorem AX.call (h:AX w o4 o5 W) (hb:Below W.heap.size W W'):AX w o4 o5 W':=
 ⟨h.lo.trans (hb.mono h.lo.size),fun b e=>⟨(h.v4 b e).1.below hb,(h.v4 b e).2⟩,fun b e=>⟨(h.v5 b e).1.below hb,(h.v5 b e).2⟩,h.ne⟩
theorem AX.a4 (h:AX w none o5 W):AX w (some W.heap.size) o5 (W.alloc (.cells (aj (List.replicate 64 0)) 190)):=
 ⟨h.lo.trans ((ag W _).mono h.lo.size),fun b e=>by injection e with e;subst e;exact ⟨AV.new W _ _,h.lo.size⟩,fun b e=>⟨(h.v5 b e).1.below (ag W _),(h.v5 b e).2⟩,fun b c e e'=>by
  injection e with e;subst e;have:=(h.v5 c e').1.lt;omega⟩
theorem AX.a5 (h:AX w o4 none W):AX w o4 (some W.heap.size) (W.alloc (.cells (aj (List.replicate 8 0)) 180)):=
 ⟨h.lo.trans ((ag W _).mono h.lo.size),fun b e=>⟨(h.v4 b e).1.below (ag W _),(h.v4 b e).2⟩,fun b e=>by injection e with e;subst e;exact ⟨AV.new W _ _,h.lo.size⟩,fun b c e e'=>by
  injection e' with e';subst e';have:=(h.v4 b e).1.lt;omega⟩
theorem AV.row (h:AV b t cs W) (ds:Array Value):AV b t ds (W.setRow b ds):=⟨setRow_heap _ _ _ _ _ _ h.var⟩
theorem AV.Nu (h:AV b t cs W) (hn:b≠c) (ds:Array Value):AV b t cs (W.setRow c ds):=⟨(setRow_other _ _ b _ hn).trans h.var⟩
theorem AX.s4 (h:AX w (some b) (some c) W) (cs:Array Value):AY w cs b c (W.setRow b cs):=
 ⟨aB h.lo (h.v4 b rfl).2 _,⟨(h.v4 b rfl).1.row _,(h.v4 b rfl).2⟩,⟨(h.v5 c rfl).1.Nu (fun e=>h.ne b c rfl rfl e.symm) _,(h.v5 c rfl).2⟩,h.ne b c rfl rfl⟩
theorem AY.s5 (h:AY w cs b c W) (ds:Array Value):AZ w cs ds b c (W.setRow c ds):=
 ⟨aB h.lo h.v5.2 _,h.v4.1.Nu h.ne _,h.v5.1.row _,h.v4.2,h.v5.2,h.ne⟩
theorem AX.start (w:World):AX w none none w.drew:=⟨(Below.refl _ w).drew,(fun _ e=>nomatch e),(fun _ e=>nomatch e),(fun _ _ e=>nomatch e)⟩
end
def KL (w:World) (ws st:List Int) (p q:Value) (wx:World):Prop:=
 ∃wb tb:Nat,p= .pointer (some ⟨wb,0,none⟩)/\q= .pointer (some ⟨tb,0,none⟩)/\wb≠tb/\w.heap.size<=wb/\w.heap.size<=tb/\AV wb 190 (aj ws) wx/\AV tb 180 (aj st) wx/\Below w.heap.size w wx
theorem Gt (zs:List Int) (hz:zs.length=64) (k:Nat) (hk:k<64) (w:World):(Instr.index 190 (.agg (aj zs)) (.int .i64 (k:Int))).run Tryz.prog w= .ok (.int .u32 (zs[k]?.getD 0)) w:=by
 have h1:(0:Int)<=(k:Int):=by omega
 have h3:=bU zs k (by omega);simp [Instr.index,run_underlying Tryz.underlying190,asIntOf,h1,go_sem];simp [go_sem,h3];intro h;omega
structure AW (w:World) (wb tb:Nat) (ws t:List Int) (W:World):Prop where
 v4:AV wb 190 (aj ws) W
 v5:AV tb 180 (aj t) W
 lo:Below w.heap.size w W
theorem AW.drew {w W:World} {wb tb:Nat} {ws t:List Int} (h:AW w wb tb ws t W):AW w wb tb ws t W.drew:=⟨h.v4.drew,h.v5.drew,h.lo.drew⟩
def xF (e f g h k wi:Int):Int:=
 IntKind.u32.wrap (IntKind.u32.wrap (IntKind.u32.wrap (IntKind.u32.wrap (h+bits BinOp.xor IntKind.u32 (bits BinOp.xor IntKind.u32 (kX e (amt (-6))) (kX e (amt (-11)))) (kX e (amt (-25))))+bits BinOp.xor IntKind.u32 (bits BinOp.and IntKind.u32 e f) (bits BinOp.and IntKind.u32 (bits BinOp.xor IntKind.u32 (if IntKind.u32.signed=true then -1 else IntKind.u32.max) e) g))+k)+wi)
def yF (a b c:Int):Int:=
 IntKind.u32.wrap (bits BinOp.xor IntKind.u32 (bits BinOp.xor IntKind.u32 (kX a (amt (-2))) (kX a (amt (-13)))) (kX a (amt (-22)))+bits BinOp.xor IntKind.u32 (bits BinOp.xor IntKind.u32 (bits BinOp.and IntKind.u32 a b) (bits BinOp.and IntKind.u32 a c)) (bits BinOp.and IntKind.u32 b c))
section
variable {P:Program} {ops:Array Oper} {Q:Exit->Act->World->Prop} {a:Act} {w:World} {rest:List Oper} {d:Option Tmp} {t:TypeId} {pos:String} {af:Array Edge} {g:Option (Nat×Bool)}
theorem g_st (ty:TypeId) {x y:Operand} (h:wpList P ops Q (⟨d, .store ty x y,t,pos,af,g⟩::rest) a w):wpList P ops Q (⟨d, .store ty x y,t,pos,af,g⟩::rest) a w:=h
end
def CE (k wi:Int) (t:List Int):List Int:=
 match t with
 | [a,b,c,d,e,f,g,h]=> [(xF e f g h k wi+yF a b c)%4294967296,a,b,c,(d+xF e f g h k wi)%4294967296,e,f,g]
 |l=>l
theorem Ec (k wi:Int) (t:List Int) (h:t.length=8):(CE k wi t).length=8:=by
 match t,h with
 | [a,b,c,d,e,f,g,i],_=>rfl
def rT (KR ws st:List Int):Nat->List Int
 |0=>st
 |i+1=>CE (KR[i]?.getD 0) (ws[i]?.getD 0) (rT KR ws st i)
theorem yJ (KR ws st:List Int) (h:st.length=8) (i:Nat):(rT KR ws st i).length=8:=by
 induction i with
 |zero=>exact h
 |succ i ih=>exact Ec _ _ _ ih
def sumT (st t:List Int):Nat->List Int
 |0=>st
 |i+1=>(sumT st t i).set i (((st[i]?.getD 0)+(t[i]?.getD 0))%4294967296)
theorem uF (st t:List Int) (i:Nat):(sumT st t i).length=st.length:=by
 induction i with
 |zero=>rfl
 |succ i ih=>simp [sumT,ih]
theorem JI (st t:List Int) (i:Nat):∀j,i<=j->(sumT st t i)[j]? =st[j]? :=by
 induction i with
 |zero=>exact fun _ _=>rfl
 |succ i ih=>intro j hj;unfold sumT;rw [List.getElem?_set_ne (by omega)];exact ih j (by omega)
def DZ (KR st:List Int) (xs:List UInt8):List Int:=sumT st (rT KR (gW xs 64) st 64) 8
theorem eight {t:List Int} (h:t.length=8):∃a b c d e f g i,t= [a,b,c,d,e,f,g,i]:=by
 match t,h with
 | [a,b,c,d,e,f,g,i],_=>exact ⟨a,b,c,d,e,f,g,i,rfl⟩
theorem add_any (KR:List Int) (hK:KR.length=64) (w:World) (hG:gK w 0 (aj KR)) (sb bb off c:Nat) (st:List Int) (xs:List UInt8) (hst:st.length=8) (hs:AV sb 180 (aj st) w) (hx:xs.length=64) (hb:bb<w.heap.size) (hA:∀j,j<64->w.cell? ⟨bb,off+j,none⟩=some (Extern.Stop.cell (xs[j]?.getD 0))):
  Calls Tryz.prog 94 #[.pointer (some ⟨sb,0,none⟩), .slice (some ⟨bb,off,none⟩) 64 c] w fun e w'=>e= .returned (.tuple #[])/\AV sb 180 (aj (DZ KR st xs)) w'/\SI sb w w':=by
 have Xd:Hid (∀W,Below w.heap.size w W->Calls Tryz.prog 118 #[.slice (some ⟨bb,off,none⟩) 64 c] W fun e w'=>e= .returned (.agg (aj (gW xs 64)))/\Below W.heap.size W w'):=
  ae fun W h=>GM W bb off c xs hx (dP hb h.size) fun j hj=>(h.cell (p:=⟨bb,off+j,none⟩) hb).trans (hA j hj)
 have hwl:=nT xs 64;obtain ⟨ws,hws⟩:∃ws,gW xs 64=ws:=⟨_,rfl⟩;rw [hws] at Xd hwl;have HG:=ae hG;have nX:=ae hK;clear hG hK;have oO:=ae hs;have HST:=ae hst;have HI4:Hid ((Tryz.prog.info? 190).map (·.size)=some (aj ws).size):=ae (by rw [aW,hwl];kernel_rfl);have PL:Hid ((Tryz.prog.info? 180).map (·.size)=some (aj st).size):=ae (by rw [aW,hst];kernel_rfl);have Bh:Hid ((aj (List.replicate 64 0)).size=(aj ws).size):=ae (by rw [aW,aW,hwl];simp);have Bi:Hid ((aj (List.replicate 8 0)).size=(aj st).size):=ae (by rw [aW,aW,hst];simp);have HWL:=ae hwl;have HWS:=ae hws;clear hs hst hx hA hwl hws;go_enter Tryz.func94,Tryz.ntmps94;go_upto_region 0 with fail
 go_cut [4,5] (fun p q wx=>KL w ws st p q wx)
 case first=>
  have hX0:=AX.start w;refine wp_region_held_drew (S:=fun W=>gK W sb (aj st)) (by kernel_rfl) (hX0.row oO.out) (fun hH0=>?_);refine lV (i:=0) (v:= ?v0a) (d:=11) rfl rfl (by kernel_rfl) (by kernel_rfl) (by kernel_rfl) (fun _ _ _ h=>h) (Or.inl ⟨by rfl, ?hy0a⟩) (by assumption) ?r0a
  case hy0a=>intro w' hSw;clear hSw;first|(go_simp;done)|(go_simp;with_reducible rfl)
  refine az ?_;refine lV (i:=2) (v:= ?v2a) (d:=13) rfl rfl (by kernel_rfl) (by kernel_rfl) (by kernel_rfl) (fun _ _ _ h=>h) (Or.inl ⟨by rfl, ?hy2a⟩) (by assumption) ?r2a
  case hy2a=>intro w' hSw;clear hSw;first|(go_simp;done)|(go_simp;with_reducible rfl)
  refine az ?_;refine lV (i:=3) (v:= ?v3a) (d:=14) rfl rfl (by kernel_rfl) (by kernel_rfl) (by kernel_rfl) (fun _ _ _ h=>h) (Or.inl ⟨by rfl, ?hy3a⟩) (by assumption) ?r3a
  case hy3a=>intro w' hSw;clear hSw;first|(go_simp;done)|(go_simp;with_reducible rfl)
  refine az ?_;refine lV (i:=4) (v:= .agg (aj st)) (d:=15) rfl rfl (by kernel_rfl) (by kernel_rfl) (by kernel_rfl) (fun _ _ _ h=>h) (yS rfl _ _ rfl sb rfl (aj st) _ (fun _ h=>h) Tryz.underlying180 rfl PL.out) (by assumption) ?r4a;refine az ?_;refine wpAnyH_ready (rs:= [1,5,6]) (by kernel_rfl) (by simp) ?_;refine AllReadyH.cons rfl (fun K hK=>?_) (AllReadyH.cons rfl (fun K hK=>?_) (AllReadyH.cons rfl (fun K hK=>?_) AllReadyH.nil))
  ·go_simp;refine (Xd.out _ hX0.lo).mono ?_;rintro e w1 ⟨rfl,hb1⟩;have hX1:=hX0.call hb1;refine hK.out _ _ (hX1.row oO.out) (fun hHeld=>?_);clear hHeld hK K;refine az ?_;refine kW 5 6 (fun K hK=>?_) (fun K hK=>?_)
   ·refine eX (o:=⟨some 4, .alloc 190,_,_,_,none⟩) rfl 190 rfl (aj (List.replicate 64 0)) iV ?_;have hX2:=hX1.a4;refine hK.out _ _ (hX2.row oO.out) (fun hHeld=>?_);clear hHeld hK K;refine az ?_;refine aY 6 (fun K hK=>?_);refine eX (o:=⟨some 5, .alloc 180,_,_,_,none⟩) rfl 180 rfl (aj (List.replicate 8 0)) nz ?_;have hX3:=hX2.a5;refine hK.out _ _ (hX3.row oO.out) (fun hHeld=>?_);clear hHeld hK K;refine az ?_;refine aY 7 (fun K hK=>?_);refine dQ (o:=⟨none, .store 190 (.tmp 4) (.tmp 12),_,_,_,none⟩) rfl 190 _ _ rfl (w1.heap.size) (aj ws) rfl rfl 190 (aj (List.replicate 64 0)) (hX3.v4 _ rfl).1.var HI4.out Bh.out (bQ _) ?_;have hY:=hX3.s4 (aj ws);refine hK.out _ _ (hY.row oO.out) (fun hHeld=>?_);clear hHeld hK K;try simp only [Act.put]
    refine aY 8 (fun K hK=>?_);refine dQ (o:=⟨none, .store 180 (.tmp 5) (.tmp 15),_,_,_,none⟩) rfl 180 _ _ rfl ((w1.alloc (.cells (aj (List.replicate 64 0)) 190)).heap.size) (aj st) rfl rfl 180 (aj (List.replicate 8 0)) hY.v5.1.var PL.out Bi.out (bQ _) ?_;have hV:=hY.s5 (aj st);refine hK.out _ _ (hV.row oO.out) (fun hHeld=>?_);clear hHeld hK K;try simp only [Act.put]
    refine wpAnyH_done (by kernel_rfl) ?_ _;clear hH0;have hcut:KL w ws st _ _ _:=⟨w1.heap.size,(w1.alloc (.cells (aj (List.replicate 64 0)) 190)).heap.size,rfl,rfl,hV.ne,hV.l4,hV.l5,hV.w4,hV.w5,hV.lo⟩;go_wp2_with fail;go_meet;exact hcut
   ·refine eX (o:=⟨some 5, .alloc 180,_,_,_,none⟩) rfl 180 rfl (aj (List.replicate 8 0)) nz ?_;have hX4:=hX1.a5;refine hK.out _ _ (hX4.row oO.out) (fun hHeld=>?_);clear hHeld hK K;refine az ?_;refine aY 5 (fun K hK=>?_);refine eX (o:=⟨some 4, .alloc 190,_,_,_,none⟩) rfl 190 rfl (aj (List.replicate 64 0)) iV ?_;have hX5:=hX4.a4;refine hK.out _ _ (hX5.row oO.out) (fun hHeld=>?_);clear hHeld hK K;refine az ?_;refine aY 7 (fun K hK=>?_);refine dQ (o:=⟨none, .store 190 (.tmp 4) (.tmp 12),_,_,_,none⟩) rfl 190 _ _ rfl ((w1.alloc (.cells (aj (List.replicate 8 0)) 180)).heap.size) (aj ws) rfl rfl 190 (aj (List.replicate 64 0)) (hX5.v4 _ rfl).1.var HI4.out Bh.out (bQ _) ?_;have hY:=hX5.s4 (aj ws);refine hK.out _ _ (hY.row oO.out) (fun hHeld=>?_);clear hHeld hK K;try simp only [Act.put]
    refine aY 8 (fun K hK=>?_);refine dQ (o:=⟨none, .store 180 (.tmp 5) (.tmp 15),_,_,_,none⟩) rfl 180 _ _ rfl (w1.heap.size) (aj st) rfl rfl 180 (aj (List.replicate 8 0)) hY.v5.1.var PL.out Bi.out (bQ _) ?_;have hV:=hY.s5 (aj st);refine hK.out _ _ (hV.row oO.out) (fun hHeld=>?_);clear hHeld hK K;try simp only [Act.put]
    refine wpAnyH_done (by kernel_rfl) ?_ _;clear hH0;have hcut:KL w ws st _ _ _:=⟨(w1.alloc (.cells (aj (List.replicate 8 0)) 180)).heap.size,w1.heap.size,rfl,rfl,hV.ne,hV.l4,hV.l5,hV.w4,hV.w5,hV.lo⟩;go_wp2_with fail;go_meet;exact hcut
  ·refine eX (o:=⟨some 4, .alloc 190,_,_,_,none⟩) rfl 190 rfl (aj (List.replicate 64 0)) iV ?_;have hX6:=hX0.a4;refine hK.out _ _ (hX6.row oO.out) (fun hHeld=>?_);clear hHeld hK K;refine az ?_;refine kW 1 6 (fun K hK=>?_) (fun K hK=>?_)
   ·go_simp;refine (Xd.out _ hX6.lo).mono ?_;rintro e w7 ⟨rfl,hb7⟩;have hX7:=hX6.call hb7;refine hK.out _ _ (hX7.row oO.out) (fun hHeld=>?_);clear hHeld hK K;refine az ?_;refine aY 6 (fun K hK=>?_);refine eX (o:=⟨some 5, .alloc 180,_,_,_,none⟩) rfl 180 rfl (aj (List.replicate 8 0)) nz ?_;have hX8:=hX7.a5;refine hK.out _ _ (hX8.row oO.out) (fun hHeld=>?_);clear hHeld hK K;refine az ?_;refine aY 7 (fun K hK=>?_);refine dQ (o:=⟨none, .store 190 (.tmp 4) (.tmp 12),_,_,_,none⟩) rfl 190 _ _ rfl (w.drew.heap.size) (aj ws) rfl rfl 190 (aj (List.replicate 64 0)) (hX8.v4 _ rfl).1.var HI4.out Bh.out (bQ _) ?_;have hY:=hX8.s4 (aj ws);refine hK.out _ _ (hY.row oO.out) (fun hHeld=>?_);clear hHeld hK K;try simp only [Act.put]
    refine aY 8 (fun K hK=>?_);refine dQ (o:=⟨none, .store 180 (.tmp 5) (.tmp 15),_,_,_,none⟩) rfl 180 _ _ rfl (w7.heap.size) (aj st) rfl rfl 180 (aj (List.replicate 8 0)) hY.v5.1.var PL.out Bi.out (bQ _) ?_;have hV:=hY.s5 (aj st);refine hK.out _ _ (hV.row oO.out) (fun hHeld=>?_);clear hHeld hK K;try simp only [Act.put]
    refine wpAnyH_done (by kernel_rfl) ?_ _;clear hH0;have hcut:KL w ws st _ _ _:=⟨w.drew.heap.size,w7.heap.size,rfl,rfl,hV.ne,hV.l4,hV.l5,hV.w4,hV.w5,hV.lo⟩;go_wp2_with fail;go_meet;exact hcut
   ·refine eX (o:=⟨some 5, .alloc 180,_,_,_,none⟩) rfl 180 rfl (aj (List.replicate 8 0)) nz ?_;have hX9:=hX6.a5;refine hK.out _ _ (hX9.row oO.out) (fun hHeld=>?_);clear hHeld hK K;refine az ?_;refine aY 1 (fun K hK=>?_);go_simp;refine (Xd.out _ hX9.lo).mono ?_;rintro e w10 ⟨rfl,XT⟩;have hX10:AX w (some w.heap.size) (some (w.heap.size+1)) w10:=by have h:=hX9.call XT;rw [show (World.alloc w.drew _).heap.size=w.heap.size+1 by simp] at h;exact h
    refine hK.out _ _ (hX10.row oO.out) (fun hHeld=>?_);clear hHeld hK K;refine az ?_;refine aY 7 (fun K hK=>?_);refine dQ (o:=⟨none, .store 190 (.tmp 4) (.tmp 12),_,_,_,none⟩) rfl 190 _ _ rfl (w.heap.size) (aj ws) rfl rfl 190 (aj (List.replicate 64 0)) (hX10.v4 _ rfl).1.var HI4.out Bh.out (bQ _) ?_;have hY:=hX10.s4 (aj ws);refine hK.out _ _ (hY.row oO.out) (fun hHeld=>?_);clear hHeld hK K;try simp only [Act.put]
    refine aY 8 (fun K hK=>?_);refine dQ (o:=⟨none, .store 180 (.tmp 5) (.tmp 15),_,_,_,none⟩) rfl 180 _ _ rfl ((w.heap.size+1)) (aj st) rfl rfl 180 (aj (List.replicate 8 0)) hY.v5.1.var PL.out Bi.out (bQ _) ?_;have hV:=hY.s5 (aj st);refine hK.out _ _ (hV.row oO.out) (fun hHeld=>?_);clear hHeld hK K;try simp only [Act.put]
    refine wpAnyH_done (by kernel_rfl) ?_ _;clear hH0;have hcut:KL w ws st _ _ _:=⟨w.heap.size,(w.heap.size+1),rfl,rfl,hV.ne,hV.l4,hV.l5,hV.w4,hV.w5,hV.lo⟩;go_wp2_with fail;go_meet;exact hcut
  ·refine eX (o:=⟨some 5, .alloc 180,_,_,_,none⟩) rfl 180 rfl (aj (List.replicate 8 0)) nz ?_;have XR:=hX0.a5;refine hK.out _ _ (XR.row oO.out) (fun hHeld=>?_);clear hHeld hK K;refine az ?_;refine kW 1 5 (fun K hK=>?_) (fun K hK=>?_)
   ·go_simp;refine (Xd.out _ XR.lo).mono ?_;rintro e w12 ⟨rfl,Qj⟩;have hX12:=XR.call Qj;refine hK.out _ _ (hX12.row oO.out) (fun hHeld=>?_);clear hHeld hK K;refine az ?_;refine aY 5 (fun K hK=>?_);refine eX (o:=⟨some 4, .alloc 190,_,_,_,none⟩) rfl 190 rfl (aj (List.replicate 64 0)) iV ?_;have hX13:=hX12.a4;refine hK.out _ _ (hX13.row oO.out) (fun hHeld=>?_);clear hHeld hK K;refine az ?_;refine aY 7 (fun K hK=>?_);refine dQ (o:=⟨none, .store 190 (.tmp 4) (.tmp 12),_,_,_,none⟩) rfl 190 _ _ rfl (w12.heap.size) (aj ws) rfl rfl 190 (aj (List.replicate 64 0)) (hX13.v4 _ rfl).1.var HI4.out Bh.out (bQ _) ?_;have hY:=hX13.s4 (aj ws);refine hK.out _ _ (hY.row oO.out) (fun hHeld=>?_);clear hHeld hK K;try simp only [Act.put]
    refine aY 8 (fun K hK=>?_);refine dQ (o:=⟨none, .store 180 (.tmp 5) (.tmp 15),_,_,_,none⟩) rfl 180 _ _ rfl (w.drew.heap.size) (aj st) rfl rfl 180 (aj (List.replicate 8 0)) hY.v5.1.var PL.out Bi.out (bQ _) ?_;have hV:=hY.s5 (aj st);refine hK.out _ _ (hV.row oO.out) (fun hHeld=>?_);clear hHeld hK K;try simp only [Act.put]
    refine wpAnyH_done (by kernel_rfl) ?_ _;clear hH0;have hcut:KL w ws st _ _ _:=⟨w12.heap.size,w.drew.heap.size,rfl,rfl,hV.ne,hV.l4,hV.l5,hV.w4,hV.w5,hV.lo⟩;go_wp2_with fail;go_meet;exact hcut
   ·refine eX (o:=⟨some 4, .alloc 190,_,_,_,none⟩) rfl 190 rfl (aj (List.replicate 64 0)) iV ?_;have hX14:=XR.a4;refine hK.out _ _ (hX14.row oO.out) (fun hHeld=>?_);clear hHeld hK K;refine az ?_;refine aY 1 (fun K hK=>?_);go_simp;refine (Xd.out _ hX14.lo).mono ?_;rintro e w15 ⟨rfl,hb15⟩;have hX15:AX w (some (w.heap.size+1)) (some w.heap.size) w15:=by have h:=hX14.call hb15;rw [show (World.alloc w.drew _).heap.size=w.heap.size+1 by simp] at h;exact h
    refine hK.out _ _ (hX15.row oO.out) (fun hHeld=>?_);clear hHeld hK K;refine az ?_;refine aY 7 (fun K hK=>?_);refine dQ (o:=⟨none, .store 190 (.tmp 4) (.tmp 12),_,_,_,none⟩) rfl 190 _ _ rfl ((w.heap.size+1)) (aj ws) rfl rfl 190 (aj (List.replicate 64 0)) (hX15.v4 _ rfl).1.var HI4.out Bh.out (bQ _) ?_;have hY:=hX15.s4 (aj ws);refine hK.out _ _ (hY.row oO.out) (fun hHeld=>?_);clear hHeld hK K;try simp only [Act.put]
    refine aY 8 (fun K hK=>?_);refine dQ (o:=⟨none, .store 180 (.tmp 5) (.tmp 15),_,_,_,none⟩) rfl 180 _ _ rfl (w.heap.size) (aj st) rfl rfl 180 (aj (List.replicate 8 0)) hY.v5.1.var PL.out Bi.out (bQ _) ?_;have hV:=hY.s5 (aj st);refine hK.out _ _ (hV.row oO.out) (fun hHeld=>?_);clear hHeld hK K;try simp only [Act.put]
    refine wpAnyH_done (by kernel_rfl) ?_ _;clear hH0;have hcut:KL w ws st _ _ _:=⟨(w.heap.size+1),w.heap.size,rfl,rfl,hV.ne,hV.l4,hV.l5,hV.w4,hV.w5,hV.lo⟩;go_wp2_with fail;go_meet;exact hcut
 case rest=>
  obtain ⟨wb,tb,rfl,rfl,hne,hl4,hl5,hv4,hv5,hlo⟩:=hcut;have N7:=ae hlo;have DV:=ae hv4;have HV5:=ae hv5;have VW:Hid (gK wc 0 (aj KR)):=ae ⟨dP HG.out.1 hlo.size,fun i=>(hlo.cell (p:=⟨0,i,none⟩) HG.out.1).trans (HG.out.2 i)⟩;have HIK:Hid ((Tryz.prog.info? 190).map (·.size)=some (aj KR).size):=ae (by rw [aW,nX.out];kernel_rfl);clear hv4 hv5 hlo Xd HI4 Bh Bi;go_wp2_with (refine aP rfl _ _ rfl 0 rfl (aj KR) VW.out _ Tryz.underlying190 rfl HIK.out ?_)
  go_loopw [17] (fun i wr=>∃k:Nat,k<=64/\i=I k/\AV wb 190 (aj ws) wr/\AV tb 180 (aj (rT KR ws st k)) wr/\Below w.heap.size w wr) (fun i _=>64 - (intOf i).toNat)
  case atStart=>exact ⟨0,Nat.zero_le _,rfl,DV.out,HV5.out,N7.out⟩
  case round=>
   obtain ⟨k,hk,rfl,hw,ht,hlo⟩:=hrel;have HW:=ae hw;have HT:=ae ht;have HL:=ae hlo;have hlen:=yJ KR ws st HST.out k;clear hw ht hlo DV HV5 N7;by_cases hlt:k<64
   ·have i1:(k:Int)<64:=by omega
    obtain ⟨t0,t1,t2,t3,t4,t5,t6,t7,he⟩:=eight hlen;have HE:=ae he;have hct:=HT.out.cell;rw [he] at hct;have c0:wr.cell? ⟨tb,0,none⟩=some (.int .u32 t0):=hct 0;have c1:wr.cell? ⟨tb,1,none⟩=some (.int .u32 t1):=hct 1;have c2:wr.cell? ⟨tb,2,none⟩=some (.int .u32 t2):=hct 2;have c3:wr.cell? ⟨tb,3,none⟩=some (.int .u32 t3):=hct 3;have c4:wr.cell? ⟨tb,4,none⟩=some (.int .u32 t4):=hct 4;have c5:wr.cell? ⟨tb,5,none⟩=some (.int .u32 t5):=hct 5;have c6:wr.cell? ⟨tb,6,none⟩=some (.int .u32 t6):=hct 6;have c7:wr.cell? ⟨tb,7,none⟩=some (.int .u32 t7):=hct 7;obtain ⟨kk,hkk⟩:∃z,KR[k]?.getD 0=z:=⟨_,rfl⟩;obtain ⟨wi,hwi⟩:∃z,ws[k]?.getD 0=z:=⟨_,rfl⟩;have hix:∀W,(Instr.index 190 (.agg (aj KR)) (.int .i64 (k:Int))).run Tryz.prog W= .ok (.int .u32 kk) W:=fun W=>by rw [Gt KR nX.out k hlt W,hkk]
    have hcw:wr.cell? ⟨wb,k,none⟩=some (.int .u32 wi):=(HW.out.cell k).trans (by rw [bU _ _ (by rw [HWL.out];exact hlt),hwi]);have HKK:=ae (And.intro hkk hwi);have VR:Hid (AW w wb tb ws [t0,t1,t2,t3,t4,t5,t6,t7] wr):=ae ⟨HW.out,by rw [<-he];exact HT.out,HL.out⟩;clear hct hkk hwi hlen he;go_upto_region 4 with fail
    go_cut [8] (fun p wx=>p= .int .u32 (xF t4 t5 t6 t7 kk wi)/\AW w wb tb ws [t0,t1,t2,t3,t4,t5,t6,t7] wx)
    case first=>
     refine wp_region_still_lit (by kernel_rfl) (by kernel_rfl) ?_;repeat (first|still_step|still_call (Ns _ _ _ (by kernel_rfl)))
     refine wpStill_nil ?_;rename_i J K1 hJ hmet;refine hmet _ _ (Met.intro (hJ _ _ ?_));repeat apply Exists.intro
     refine ⟨?rel,rfl⟩
     case rel=>exact ⟨rfl,VR.out.drew⟩
    case rest=>
     obtain ⟨rfl,haw⟩:=hcut;obtain ⟨X,hX⟩:∃z,xF t4 t5 t6 t7 kk wi=z:=⟨_,rfl⟩;rw [hX];have HXX:=ae hX;clear hX c0 c1 c2 c3 c4 c5 c6 c7 hix hcw VR;have VR:=ae haw;have c0:wc.cell? ⟨tb,0,none⟩=some (.int .u32 t0):=haw.v5.cell 0;have c1:wc.cell? ⟨tb,1,none⟩=some (.int .u32 t1):=haw.v5.cell 1;have c2:wc.cell? ⟨tb,2,none⟩=some (.int .u32 t2):=haw.v5.cell 2;have c3:wc.cell? ⟨tb,3,none⟩=some (.int .u32 t3):=haw.v5.cell 3;have c4:wc.cell? ⟨tb,4,none⟩=some (.int .u32 t4):=haw.v5.cell 4;have c5:wc.cell? ⟨tb,5,none⟩=some (.int .u32 t5):=haw.v5.cell 5;have c6:wc.cell? ⟨tb,6,none⟩=some (.int .u32 t6):=haw.v5.cell 6;have c7:wc.cell? ⟨tb,7,none⟩=some (.int .u32 t7):=haw.v5.cell 7;clear haw;go_upto_region 5 with fail
     go_cut [9] (fun p wx=>p= .int .u32 (yF t0 t1 t2)/\AW w wb tb ws [t0,t1,t2,t3,t4,t5,t6,t7] wx)
     case first=>
      refine wp_region_still_lit (by kernel_rfl) (by kernel_rfl) ?_;repeat (first|still_step|still_call (Ns _ _ _ (by kernel_rfl)))
      refine wpStill_nil ?_;rename_i J K1 hJ hmet;refine hmet _ _ (Met.intro (hJ _ _ ?_));repeat apply Exists.intro
      refine ⟨?rel,rfl⟩
      case rel=>exact ⟨rfl,VR.out.drew⟩
     case rest=>
      clear c0 c1 c2 c3 c4 c5 c6 c7 VR;obtain ⟨rfl,haw⟩:=hcut;obtain ⟨Y,hY⟩:∃z,yF t0 t1 t2=z:=⟨_,rfl⟩;rw [hY];have HYY:=ae hY;clear hY;have VR:=ae haw;have c0:wc.cell? ⟨tb,0,none⟩=some (.int .u32 t0):=haw.v5.cell 0;have c1:wc.cell? ⟨tb,1,none⟩=some (.int .u32 t1):=haw.v5.cell 1;have c2:wc.cell? ⟨tb,2,none⟩=some (.int .u32 t2):=haw.v5.cell 2;have c3:wc.cell? ⟨tb,3,none⟩=some (.int .u32 t3):=haw.v5.cell 3;have c4:wc.cell? ⟨tb,4,none⟩=some (.int .u32 t4):=haw.v5.cell 4;have c5:wc.cell? ⟨tb,5,none⟩=some (.int .u32 t5):=haw.v5.cell 5;have c6:wc.cell? ⟨tb,6,none⟩=some (.int .u32 t6):=haw.v5.cell 6;have c7:wc.cell? ⟨tb,7,none⟩=some (.int .u32 t7):=haw.v5.cell 7;clear haw;have HI9:Hid ((Tryz.prog.info? 180).map (·.size)=some (aj [(X+Y)%4294967296,t0,t1,t2,(t3+X)%4294967296,t4,t5,t6]).size):=ae (by kernel_rfl);go_wp2_with (with_reducible refine g_st 180 ?_;refine wpList_store_row rfl _ _ _ rfl tb (aj [(X+Y)%4294967296,t0,t1,t2,(t3+X)%4294967296,t4,t5,t6]) rfl rfl 180 (aj [t0,t1,t2,t3,t4,t5,t6,t7]) VR.out.v5.var HI9.out rfl (bQ _) ?_);go_roundw
      case rel=>exact ⟨k+1,by omega,by go_num,(VR.out.v4.Nu hne _),by
       have h:=VR.out.v5.row (aj [(X+Y)%4294967296,t0,t1,t2,(t3+X)%4294967296,t4,t5,t6]);have e:rT KR ws st (k+1)= [(X+Y)%4294967296,t0,t1,t2,(t3+X)%4294967296,t4,t5,t6]:=by
        unfold rT;rw [HE.out,HKK.out.1,HKK.out.2,<-HXX.out,<-HYY.out];rfl
       rw [e];exact h,aB VR.out.lo hl5 _⟩
      case measure=>simp [intOf];omega
   ·have Hw:Hid (k=64):=ae (by omega);obtain ⟨T,hT⟩:∃T,rT KR ws st k=T:=⟨_,rfl⟩;rw [hT] at HT hlen;have HTT:=ae hT;have xY:=ae hlen;have tN:Hid (AV sb 180 (aj (sumT st T 0)) wr):=ae (oO.out.lows HL.out);have hsbl:=oO.out.lt;have i1:¬(k:Int)<64:=by omega
    have i2:((k:Int)<64)=False:=by simp;omega
    clear hT hlen hlt;go_wp2_with fail
    go_loopw [104] (fun i wx=>∃j:Nat,j<=8/\i=I j/\AV sb 180 (aj (sumT st T j)) wx/\AV tb 180 (aj T) wx/\SI sb w wx) (fun i _=>8 - (intOf i).toNat)
    case atStart=>exact ⟨0,Nat.zero_le _,rfl,tN.out,HT.out,⟨HL.out.os,HL.out.tape,HL.out.output,HL.out.size,fun q h1 _=>HL.out.block q h1⟩⟩
    case round=>
     obtain ⟨j,hj,rfl,hsv,DJ,hkp⟩:=hrel;have HSV:=ae hsv;have HTV:=ae DJ;have ZA:=ae hkp;have V6:=ae (uF st T j);clear tN hsv DJ hkp;by_cases hlt2:j<8
     ·have j1:(j:Int)<8:=by omega
      have j0:(0:Int)<=(j:Int):=by omega
      obtain ⟨sj,hsj⟩:∃z,st[j]?.getD 0=z:=⟨_,rfl⟩;obtain ⟨tj,htj⟩:∃z,T[j]?.getD 0=z:=⟨_,rfl⟩;have cs:wr.cell? ⟨sb,j,none⟩=some (.int .u32 sj):=(HSV.out.cell j).trans (by rw [bU _ _ (by rw [V6.out,HST.out];exact hlt2),JI st T j j (Nat.le_refl _),hsj]);have ct:wr.cell? ⟨tb,j,none⟩=some (.int .u32 tj):=(HTV.out.cell j).trans (by rw [bU _ _ (by rw [xY.out];exact hlt2),htj]);have cf:=HSV.out.fZ j;have AL:Hid (AV sb 180 (aj (sumT st T (j+1))) (wr.drew.setCell ⟨sb,j,none⟩ (.int .u32 ((sj+tj)%4294967296)))):=ae (by
       have h:=HSV.out.drew.put j (.int .u32 ((sj+tj)%4294967296));rw [rH] at h;unfold sumT;rw [hsj,htj];exact h)
      clear hsj htj;go_wp2_with fail;go_still_tail 11,(by kernel_rfl);change wpList _ _ _ _ _ wr.drew;go_wp2_with fail;go_roundw
      case rel=>exact ⟨j+1,by omega,by go_num,AL.out,(HTV.out.drew.far (by omega) _ _),⟨ZA.out.os,ZA.out.tape,ZA.out.output,by have:=ZA.out.size;simpa [World.setCell] using this,fun q h1 h2=>(heap_setCell_other wr.drew ⟨sb,j,none⟩ q _ h2).trans (ZA.out.block q h1 h2)⟩⟩
      case measure=>simp [intOf];omega
     ·have HJE:Hid (j=8):=ae (by omega);have j1:¬(j:Int)<8:=by omega
      have j2:((j:Int)<8)=False:=by simp;omega
      clear hlt2;go_wp2_with fail
      go_end0
      refine ⟨rfl,?_,ZA.out⟩;have h:=HSV.out;rw [HJE.out,<-HTT.out,Hw.out,<-HWS.out] at h;exact h
structure FT (B:Nat) (W W':World):Prop where
 size:W.heap.size<=W'.heap.size
 block:∀k,B<=k->k<W.heap.size->W'.heap[k]? =W.heap[k]?
def Bl {α:Type} (F:Fence) (n:Nat) (P:Program) (g:Nat) (lb:Array Value) (encs:α->Array Value) (R:α->World->Prop) (S:List α->Prop) (W:World):Prop:=
 ∀(l:Nat) (J:List α->World->Prop),l<W.heap.size->(∀xs A B,J xs A->Below W.heap.size A B->J xs B)->
  (∀pre x A,J pre A->W.heap.size<=A.heap.size->R x A->YieldAt F (n - 1) P l (encs x) A fun e B=>e= .returned (.bool true)/\J (pre++ [x]) B/\FT W.heap.size A B)->
  J [] W->CallsIn F n P g (#[.func (.yield l) #[] #[]]++lb) W fun e W'=>(∃v,e= .returned v)/\∃xs,S xs/\J xs W'
theorem uP {B l:Nat} {W:World} {o:Obj} (h:B<=l):Below B W (W.putObj l o):=
 ⟨rfl,rfl,rfl,by simp [World.putObj],fun k hk=>World.putObj_heap_other (by omega)⟩
section
variable {F:Fence} {n:Nat} {P:Program}
theorem yP {α:Type} {g:Operand} {ps:Array Tmp} {assign body:Code} {Q:Exit->Act->World->Prop} {a:Act} {w:World}
  (hro:F.round=none) (h1:1<=n) {gf:Nat} {lb:Array Value} (hg:a.eval g= .func (.func gf) #[] lb) (hFg:F.fn gf) (eg:∀args w,(callFunc gf args).run P w= .ok (.enter gf args) w)
  {encs:α->Array Value} {R:α->World->Prop} {S:List α->Prop} (hseq:∀W,Below w.heap.size w W->Bl F (n - 1) P gf lb encs R S W) (hps:∀x,(encs x).size=ps.size)
  (I:List α->World->Prop) (hI:∀xs A B,I xs A->Below w.heap.size A B->I xs B) (h0:I [] w) (a₁:α->Act)
  (hR:∀x A l o o',R x A->A.heap[l]? =some o->o.isCells=false->R x (A.putObj l o'))
  (hassign:∀(l:Nat) (x:α) (W:World) (K:Act->World->Prop),K (a₁ x) W->
   assign.wpIn (F.inRound l) (n - 1 - 1) P (Exit.then K (fun _ _ _=>False)) {tmps:=(ps.zip (encs x)).foldl (fun t (p,v)=>t.setIfInBounds p v) a.tmps,defers:= []} W)
  (hbody:∀(l:Nat) (pre:List α) (x:α) (W:World),I pre W->w.heap.size<=W.heap.size->R x W->body.wpIn (F.inRound l) (n - 1 - 1) P (fun e _ W'=>e= .normal/\I (pre++ [x]) W'/\FT w.heap.size W W') (a₁ x) W)
  (hdone:∀(D:Nat) (xs:List α) (W:World),w.heap.size<=D->S xs->I xs W->W.heap[D]? =some (.deferred (some []))->Q .normal {a with defers:= {target:= .collected D,args:= #[]}::a.defers} W):
  (Code.rangeFunc g ps assign body).wpIn F n P Q a w:=by
 refine wpIn_rangeFunc ?_;intro fn hfn;rw [hro];obtain ⟨rec,hrec⟩:∃rec:LoopState->Option Code->Loop,rec=fun st pe=> {state:=st,pending:=pe,fn,tmps:=a.tmps,params:=ps,assign,body,defers:=w.heap.size}:=⟨_,rfl⟩;obtain ⟨W1,hW1⟩:∃W1,(w.alloc (.deferred (some []))).alloc (.loop (rec .ready none))=W1:=⟨_,rfl⟩;have hL1:W1.heap[w.heap.size+1]? =some (.loop (rec .ready none)):=by rw [<-hW1];exact heap_alloc2_new w _ _
 have hK1:W1.heap[w.heap.size]? =some (.deferred (some [])):=by rw [<-hW1];exact heap_alloc2_old w _ _
 have hs1:W1.heap.size=w.heap.size+2:=by rw [<-hW1];simp
 have hb1:Below w.heap.size w W1:=by rw [<-hW1];exact ((Below.refl _ w).alloc (Nat.le_refl _) _).alloc (by simp) _
 refine ⟨w.heap.size+1,[{target:= .collected w.heap.size,args:= #[]}],W1,{target:= .fn (.func gf) lb,args:= #[.func (.yield (w.heap.size+1)) #[] #[]]},W1,gf,#[.func (.yield (w.heap.size+1)) #[] #[]]++lb,W1,?_,?_,?_,?_,fun _=>h1,?_⟩
 ·rw [<-hW1,hrec];exact run_enterLoop_outer _ _ _ _ _
 ·simp only [resolve,hg];simp [go_sem]
 ·intro f' hf';simp [Target.leads] at hf';subst hf';exact hFg
 ·simp [invoke,go_sem,eg]
 ·refine (hseq W1 hb1 (w.heap.size+1) (fun pre W=>I pre W/\w.heap.size+2<=W.heap.size/\W.heap[w.heap.size+1]? =some (.loop (rec .ready none))/\W.heap[w.heap.size]? =some (.deferred (some []))) (by omega) ?_ ?_ ⟨hI _ _ _ h0 hb1,by omega,hL1,hK1⟩).mono ?_
  ·rintro xs A B ⟨hi,hs,hl,hk⟩ hb;exact ⟨hI _ _ _ hi (hb.mono (by omega)),Nat.le_trans hs hb.size,(hb.block _ (by omega)).trans hl,(hb.block _ (by omega)).trans hk⟩
  ·rintro pre x A ⟨hi,hs,hl,hk⟩ _ hrx;have hlt:w.heap.size+1<A.heap.size:=(bV.1 hl).1;have hy:=run_yield (P:=P) (args:=encs x) hl (by rw [hrec];exact hps x);rw [hrec] at hy;refine ⟨fn,_,assign,body,hy,roundIn_of_wpIn hfn (hassign _ x A _ ⟨_,run_beginRound hl (by rw [hrec]),?_⟩)⟩;obtain ⟨A2,hA2⟩:∃A2,A.putObj (w.heap.size+1) (.loop {rec .ready none with state:= .busy})=A2:=⟨_,rfl⟩;have hs2:A2.heap.size=A.heap.size:=by rw [<-hA2];simp [World.putObj]
   have hl2:A2.heap[w.heap.size+1]? =some (.loop {rec .ready none with state:= .busy}):=by rw [<-hA2];exact World.putObj_heap_same hlt
   have hk2:A2.heap[w.heap.size]? =some (.deferred (some [])):=by rw [<-hA2];exact (World.putObj_heap_other (by omega)).trans hk
   have hi2:I pre A2:=by rw [<-hA2];exact hI _ _ _ hi (uP (by omega))
   have hr2:R x A2:=by rw [<-hA2];exact hR _ _ _ _ _ hrx hl rfl
   have hu2:∀k,w.heap.size+2<=k->A2.heap[k]? =A.heap[k]? :=fun k h=>by rw [<-hA2];exact World.putObj_heap_other (by omega)
   rw [hA2];refine wpIn_mono (hbody _ pre x A2 hi2 (by omega) hr2) ?_;rintro e a3 A3 ⟨rfl,hi3,hk3⟩;have hl3:A3.heap[w.heap.size+1]? =some (.loop {rec .ready none with state:= .busy}):=(hk3.block _ (by omega) (by omega)).trans hl2;have hk4:A3.heap[w.heap.size]? =some (.deferred (some [])):=(hk3.block _ (Nat.le_refl _) (by omega)).trans hk2;have hlt3:w.heap.size+1<A3.heap.size:=(bV.1 hl3).1;have hr:=run_endRound (P:=P) none hl3;refine ⟨_,_,hr,rfl,⟨hI _ _ _ hi3 (uP (by omega)),by have:=hk3.size;simp [World.putObj];omega,?_,(World.putObj_heap_other (by omega)).trans hk4⟩,⟨by have:=hk3.size;simp [World.putObj];omega,fun k h2 h3=>?_⟩⟩
   ·rw [World.putObj_heap_same hlt3,hrec];rfl
   ·rw [World.putObj_heap_other (by omega),hk3.block k (by omega) (by omega)];exact hu2 k (by omega)
  ·rintro e W2 ⟨⟨v,rfl⟩,xs,hS,hi,hs,hl,hk⟩;exact ⟨none,_,by have:=run_endLoop (P:=P) hl (by rw [hrec];simp);rw [hrec] at this;exact this,hdone _ xs _ (Nat.le_refl _) hS (hI _ _ _ hi (uP (by omega))) ((World.putObj_heap_other (by omega)).trans hk)⟩
end
end Go.Proofs.YtbaehbbonkljpaaGreatDoor
namespace Go.Proofs.YtbaehbbonkljpaaGreatDoor
open Go Go.RowKit Go.Shelf
attribute [local go_sem] Oper.semAt_some
def O7 (s:Int):List UInt8:=upto (fun j=>byteOf (s / 2 ^ (56 - 8*j))) 8
def uN (n:Nat):Nat:=(119 - n%64)%64
def mO (bs:List UInt8) (z:Nat):List UInt8:=bs++ [128]++List.replicate z 0
theorem rU (bs:List UInt8) (z:Nat):(mO bs z).length=bs.length+1+z:=by simp [mO];omega
theorem Nl (bs:List UInt8) (z:Nat):mO bs (z+1)=mO bs z++ [0]:=by simp [mO,List.replicate_succ']
theorem Y5 (n:Nat):uN n<=63:=by unfold uN;omega
theorem PE (n:Nat):((n+1+uN n:Nat):Int)%64=56:=by unfold uN;omega
theorem Y6 {n z:Nat} (h:z<uN n):¬((n+1+z:Nat):Int)%64=56:=by unfold uN at h;omega
def tC (bs:List UInt8):List UInt8:=mO bs (uN bs.length)++O7 (8*(bs.length:Int))
def chunk (bs:List UInt8) (i:Nat):List UInt8:=(bs.drop (64*i)).take 64
structure WB where
 b:Nat
 off:Nat
 cap:Nat
 bs:List UInt8
structure KO (x:WB) (W:World):Prop where
 lt:x.b<W.heap.size
 len:x.bs.length=64
 at_:∀j,j<64->W.cell? ⟨x.b,x.off+j,none⟩=some (Extern.Stop.cell (x.bs[j]?.getD 0))
def Ot (x:WB):Array Value:= #[.slice (some ⟨x.b,x.off,none⟩) 64 x.cap]
structure wH (B:Nat) (W0:World) (ms:List UInt8) (v:Value) (wr:World):Prop where
 own:wr.ownsRow B 5 1 v ms.length (ms.map Extern.Stop.cell)
 lo:Below B W0 wr
theorem wH.app {B n:Nat} {W0 wr w1:World} {ms xs:List UInt8} {v v':Value} {o:Obj} {ys:List Value} (h:wH B W0 ms v wr) (hB:B<=W0.heap.size) (hn:n=(ms++xs).length) (hys:ys=(ms++xs).map Extern.Stop.cell) (hown:w1.ownsRow B 5 1 v' n ys) (hg:(wr.alloc o).grownBy w1 v.ownBlock):wH B W0 (ms++xs) v' w1:=by
 subst hn hys;have hs:=h.lo.size;have hz:=hg.size;rw [World.size_alloc] at hz;exact ⟨hown,⟨hg.os.trans h.lo.os,hg.tape.trans h.lo.tape,hg.output.trans h.lo.output,by omega,fun k hk=>by
  rw [hg.block k (by rw [World.size_alloc];omega) (eG h.own k hk),Below.heap_alloc wr o k (by omega)];exact h.lo.block k hk⟩⟩
structure PG (W:World) (g r:Nat) (ms:List UInt8) (wx:World):Prop where
 lt:g<wx.heap.size
 new:W.heap.size<=g
 ge:W.heap.size<=wx.heap.size
 cells:∀i,i<r->wx.cell? ⟨g,i,none⟩=some (Extern.Stop.cell (ms[i]?.getD 0))
theorem Tt (ms:List UInt8) (i j:Nat) (hj:j<64):(chunk ms i)[j]? =ms[64*i+j]? :=by
 unfold chunk;rw [List.getElem?_take_of_lt hj,List.getElem?_drop]
theorem PG.el {W wx:World} {g r:Nat} {ms:List UInt8} (h:PG W g r ms wx) (i o cc:Nat) (bs:List UInt8) (ho:o=64*i) (hi:64*i+64<=r) (hbs:bs=chunk ms i) (hl:ms.length=r):KO ⟨g,o,cc,bs⟩ wx:=by
 subst ho hbs;refine ⟨h.lt,?_,fun j hj=>?_⟩
 ·unfold chunk;simp;omega
 ·rw [Tt ms i j hj];exact h.cells (64*i+j) (by omega)
theorem PG.keep {W wx w2:World} {g r:Nat} {ms:List UInt8} (h:PG W g r ms wx) (hk:FT W.heap.size wx w2):PG W g r ms w2:=
 ⟨dP h.lt hk.size,h.new,Nat.le_trans h.ge hk.size,fun i hi=>(World.cell?_of_block (a:=⟨g,i,none⟩) (hk.block g h.new h.lt)).trans (h.cells i hi)⟩
theorem BG {w:World} {t:TypeId} (x:UInt8) (v:Value) (hv:v=Extern.Stop.cell x):∀j u,[Extern.Stop.cell x][j]? =some u->(w.alloc (.cells #[v] t)).cell? ((⟨w.heap.size,0,none⟩:Addr).add j)=some u:=by
 subst hv;intro j u hu;rw [addr_add,(Row.new w _ t).2 j];simpa using hu
theorem yB (x:UInt8):∀u∈ [Extern.Stop.cell x],u.oneCell'=true:=fun u hu=>by rw [List.mem_singleton.1 hu];rfl
end Go.Proofs.YtbaehbbonkljpaaGreatDoor
