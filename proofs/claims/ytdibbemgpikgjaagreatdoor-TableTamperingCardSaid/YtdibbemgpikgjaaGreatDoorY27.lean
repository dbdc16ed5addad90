/- The texts DgA, in this order. -/
import Derived.Test.YtdibbemgpikgjaaGreatDoorY00
import Derived.Test.YtdibbemgpikgjaaGreatDoorY26
set_option maxRecDepth 10000
set_option maxHeartbeats 8000000
namespace Go.Proofs.YtdibbemgpikgjaaGreatDoor
open Go Go.RowKit
structure N7 (b:Nat) (w w':World):Prop where
 os:w'.os=w.os
 tape:w'.tape=w.tape
 output:w'.output=w.output
 size:w.heap.size≤w'.heap.size
 block:∀k,k<w.heap.size→k≠b→w'.heap[k]? =w.heap[k]?
theorem lM {P:Program} {ops:Array Oper} {Q:Exit→Act→World→Prop} {md:Region.Mode} {S:World→Prop} {i:Nat} {oi:Oper} {v:Value} {d:Tmp} {fuel:Nat} {listed:Array Bool} {a:Act} {w:World} (hi:ops[i]? =some oi) (hd:oi.dst=some d)
  (hs:Region.noSelect ops=true) (hf:Region.free md ops listed i=true) (hr:(Region.ready md ops listed).contains i=true)
  (hQ:∀c a w,Q (.panic c) (a.put oi.dst v) w→Q (.panic c) a w) (hy:YieldsIf P ops S oi v a) (hS:S w)
  (h:wpAnyH P md ops Q S fuel (listed.setIfInBounds i true) (a.put (some d) v) w):wpAnyH P md ops Q S (fuel+1) listed a w:=
 wpAnyH_take hi hs hf hr hQ hy hS (by rw [hd];exact h)
theorem yP {P:Program} {ops:Array Oper} {S:World→Prop} {op:Oper} {a:Act} (hw:Region.wanted op (yielded ops a.tmps)=true) (ty:TypeId) (x:Operand) (ho:op.op= .load ty x)
  (b:Nat) (hx:a.eval x= .pointer (some ⟨b,0,none⟩)) (cs:Array Value) (d:TypeDesc) (hS:∀w,S w→fD w b cs)
  (hu:P.underlying ty=some d) (hd:d.isRow=true) (hi:(P.info? ty).map (·.size)=some cs.size):YieldsIf P ops S op (.agg cs) a:=by
 have:=yieldsIf_load_mid (P:=P) (S:=S) hw ty x ho b 0 hx cs.toList d (fun w h=>fun j v hv=>by rw [Nat.zero_add,(hS w h).2 j];simpa using hv) hu hd (by rw [hi];simp);simpa using this
section
variable {P:Program} {ops:Array Oper} {o:Oper} {a:Act} {w:World} {K:Act→World→Prop} {Q:Exit→Act→World→Prop} {E:Prop}
theorem ed (hgd:o.guard=none) (t:TypeId) (ho:o.op= .alloc t) (cells:Array Value) (hz:(P.info? t).map (fun i=>(i.zero,i.size))=some (some (.agg cells),cells.size))
  (h:K (a.put o.dst (.pointer (some ⟨w.heap.size,0,none⟩))) (w.alloc (.cells cells t))):if Region.wanted o (yielded ops a.tmps)=true then Oper.wp P o a w K Q else E:=by
 have hw:Region.wanted o (yielded ops a.tmps)=true:=by simp [Region.wanted,hgd]
 rw [if_pos hw];unfold Oper.wp execOp;simp only [ho,Sem.run_bind,ji w t (.agg cells) _ hz,Result.andThen_ok];exact h
theorem dJ (hgd:o.guard=none) (ty:TypeId) (x y:Operand) (ho:o.op= .store ty x y) (g:Nat) (cells:Array Value) (hx:a.eval x= .pointer (some ⟨g,0,none⟩)) (hy:a.eval y= .agg cells)
  (t:TypeId) (old:Array Value) (hg:w.heap[g]? =some (.cells old t (0,0))) (hi:(P.info? ty).map (·.size)=some cells.size) (hold:old.size=cells.size) (h1:cells.all (·.oneCell')=true)
  (h:K (a.put o.dst undef) (w.setRow g cells)):if Region.wanted o (yielded ops a.tmps)=true then Oper.wp P o a w K Q else E:=by
 have hw:Region.wanted o (yielded ops a.tmps)=true:=by simp [Region.wanted,hgd]
 rw [if_pos hw];exact wp_store_row ty x y ho g cells hx hy t old hg hi hold h1 h
end
theorem kZ:(Tryz.prog.info? 118).map (fun i=>(i.zero,i.size))=some (some (.agg (au (List.replicate 8 0))),(au (List.replicate 8 0)).size):=by kernel_rfl
structure AX (w:World) (o4 o5:Option Nat) (W:World):Prop where
 lo:Below w.heap.size w W
 v4:∀b,o4=some b→AV b 170 (au (List.replicate 64 0)) W∧w.heap.size≤b
 v5:∀b,o5=some b→AV b 118 (au (List.replicate 8 0)) W∧w.heap.size≤b
 ne:∀b c,o4=some b→o5=some c→b≠c
structure AY (w:World) (cs:Array Value) (b c:Nat) (W:World):Prop where
 lo:Below w.heap.size w W
 v4:AV b 170 cs W∧w.heap.size≤b
 v5:AV c 118 (au (List.replicate 8 0)) W∧w.heap.size≤c
 ne:b≠c
structure AZ (w:World) (cs ds:Array Value) (b c:Nat) (W:World):Prop where
 lo:Below w.heap.size w W
 w4:AV b 170 cs W
 w5:AV c 118 ds W
 l4:w.heap.size≤b
 l5:w.heap.size≤c
 ne:b≠c
section
variable {w W W':World} {o4 o5:Option Nat} {b c sb:Nat} {cs ds ss:Array Value} {t:TypeId}
theorem Gu (lo:Below w.heap.size w W) (hs:AV sb t ss w):fD W sb ss:=⟨dP hs.lt lo.size,fun i=>(lo.cell (p:=⟨sb,i,none⟩) hs.lt).trans (hs.cell i)⟩
theorem AV.lows (hs:AV sb t ss w) (lo:Below w.heap.size w W):AV sb t ss W:=⟨(lo.block _ hs.lt).trans hs.var⟩
theorem AX.row (h:AX w o4 o5 W) (hs:AV sb t ss w):fD W sb ss:=Gu h.lo hs
theorem AY.row (h:AY w cs b c W) (hs:AV sb t ss w):fD W sb ss:=Gu h.lo hs
theorem AZ.row (h:AZ w cs ds b c W) (hs:AV sb t ss w):fD W sb ss:=Gu h.lo hs
theorem AX.call (h:AX w o4 o5 W) (hb:Below W.heap.size W W'):AX w o4 o5 W':=
 ⟨h.lo.trans (hb.mono h.lo.size),fun b e=>⟨(h.v4 b e).1.below hb,(h.v4 b e).2⟩,fun b e=>⟨(h.v5 b e).1.below hb,(h.v5 b e).2⟩,h.ne⟩
theorem AX.a4 (h:AX w none o5 W):AX w (some W.heap.size) o5 (W.alloc (.cells (au (List.replicate 64 0)) 170)):=
 ⟨h.lo.trans ((ag W _).mono h.lo.size),fun b e=>by injection e with e;subst e;exact ⟨AV.new W _ _,h.lo.size⟩,fun b e=>⟨(h.v5 b e).1.below (ag W _),(h.v5 b e).2⟩,fun b c e e'=>by
  injection e with e;subst e;have:=(h.v5 c e').1.lt;omega⟩
theorem AX.a5 (h:AX w o4 none W):AX w o4 (some W.heap.size) (W.alloc (.cells (au (List.replicate 8 0)) 118)):=
 ⟨h.lo.trans ((ag W _).mono h.lo.size),fun b e=>⟨(h.v4 b e).1.below (ag W _),(h.v4 b e).2⟩,fun b e=>by injection e with e;subst e;exact ⟨AV.new W _ _,h.lo.size⟩,fun b c e e'=>by
  injection e' with e';subst e';have:=(h.v4 b e).1.lt;omega⟩
theorem AV.row (h:AV b t cs W) (ds:Array Value):AV b t ds (W.setRow b ds):=⟨setRow_heap _ _ _ _ _ _ h.var⟩
theorem AV.MJ (h:AV b t cs W) (hn:b≠c) (ds:Array Value):AV b t cs (W.setRow c ds):=⟨(setRow_other _ _ b _ hn).trans h.var⟩
theorem AX.s4 (h:AX w (some b) (some c) W) (cs:Array Value):AY w cs b c (W.setRow b cs):=
 ⟨aB h.lo (h.v4 b rfl).2 _,⟨(h.v4 b rfl).1.row _,(h.v4 b rfl).2⟩,⟨(h.v5 c rfl).1.MJ (fun e=>h.ne b c rfl rfl e.symm) _,(h.v5 c rfl).2⟩,h.ne b c rfl rfl⟩
theorem AY.s5 (h:AY w cs b c W) (ds:Array Value):AZ w cs ds b c (W.setRow c ds):=
 ⟨aB h.lo h.v5.2 _,h.v4.1.MJ h.ne _,h.v5.1.row _,h.v4.2,h.v5.2,h.ne⟩
theorem AX.start (w:World):AX w none none w.drew:=⟨(Below.refl _ w).drew,(fun _ e=>nomatch e),(fun _ e=>nomatch e),(fun _ _ e=>nomatch e)⟩
end
def J8 (w:World) (ws st:List Int) (p q:Value) (wx:World):Prop:=
 ∃wb tb:Nat,p= .pointer (some ⟨wb,0,none⟩)∧q= .pointer (some ⟨tb,0,none⟩)∧wb≠tb∧w.heap.size≤wb∧w.heap.size≤tb∧AV wb 170 (au ws) wx∧AV tb 118 (au st) wx∧Below w.heap.size w wx
theorem Gj (zs:List Int) (hz:zs.length=64) (k:Nat) (hk:k<64) (w:World):(Instr.index 170 (.agg (au zs)) (.int .i64 (k:Int))).run Tryz.prog w= .ok (.int .u32 (zs[k]?.getD 0)) w:=by
 have h1:(0:Int)≤(k:Int):=by omega
 have h3:=bY zs k (by omega);simp [Instr.index,run_underlying Tryz.underlying170,asIntOf,h1,go_sem];simp [go_sem,h3];intro h;omega
structure AW (w:World) (wb tb:Nat) (ws t:List Int) (W:World):Prop where
 v4:AV wb 170 (au ws) W
 v5:AV tb 118 (au t) W
 lo:Below w.heap.size w W
theorem AW.drew {w W:World} {wb tb:Nat} {ws t:List Int} (h:AW w wb tb ws t W):AW w wb tb ws t W.drew:=⟨h.v4.drew,h.v5.drew,h.lo.drew⟩
def xF (e f g h k wi:Int):Int:=
 IntKind.u32.wrap (IntKind.u32.wrap (IntKind.u32.wrap (IntKind.u32.wrap (h+bits BinOp.xor IntKind.u32 (bits BinOp.xor IntKind.u32 (kX e (amt (-6))) (kX e (amt (-11)))) (kX e (amt (-25))))+bits BinOp.xor IntKind.u32 (bits BinOp.and IntKind.u32 e f) (bits BinOp.and IntKind.u32 (bits BinOp.xor IntKind.u32 (if IntKind.u32.signed=true then -1 else IntKind.u32.max) e) g))+k)+wi)
def yF (a b c:Int):Int:=
 IntKind.u32.wrap (bits BinOp.xor IntKind.u32 (bits BinOp.xor IntKind.u32 (kX a (amt (-2))) (kX a (amt (-13)))) (kX a (amt (-22)))+bits BinOp.xor IntKind.u32 (bits BinOp.xor IntKind.u32 (bits BinOp.and IntKind.u32 a b) (bits BinOp.and IntKind.u32 a c)) (bits BinOp.and IntKind.u32 b c))
section
variable {P:Program} {ops:Array Oper} {Q:Exit→Act→World→Prop} {a:Act} {w:World} {rest:List Oper} {d:Option Tmp} {t:TypeId} {pos:String} {af:Array Edge} {g:Option (Nat×Bool)}
theorem g_st (ty:TypeId) {x y:Operand} (h:wpList P ops Q (⟨d, .store ty x y,t,pos,af,g⟩::rest) a w):wpList P ops Q (⟨d, .store ty x y,t,pos,af,g⟩::rest) a w:=h
end
def Cj (k wi:Int) (t:List Int):List Int:=
 match t with
 | [a,b,c,d,e,f,g,h]=> [(xF e f g h k wi+yF a b c)%4294967296,a,b,c,(d+xF e f g h k wi)%4294967296,e,f,g]
 |l=>l
theorem D7 (k wi:Int) (t:List Int) (h:t.length=8):(Cj k wi t).length=8:=by
 match t,h with
 | [a,b,c,d,e,f,g,i],_=>rfl
def rT (KR ws st:List Int):Nat→List Int
 |0=>st
 |i+1=>Cj (KR[i]?.getD 0) (ws[i]?.getD 0) (rT KR ws st i)
theorem yA (KR ws st:List Int) (h:st.length=8) (i:Nat):(rT KR ws st i).length=8:=by
 induction i with
 |zero=>exact h
 |succ i ih=>exact D7 _ _ _ ih
def sumT (st t:List Int):Nat→List Int
 |0=>st
 |i+1=>(sumT st t i).set i (((st[i]?.getD 0)+(t[i]?.getD 0))%4294967296)
theorem uq (st t:List Int) (i:Nat):(sumT st t i).length=st.length:=by
 induction i with
 |zero=>rfl
 |succ i ih=>simp [sumT,ih]
theorem Jn (st t:List Int) (i:Nat):∀j,i≤j→(sumT st t i)[j]? =st[j]? :=by
 induction i with
 |zero=>exact fun _ _=>rfl
 |succ i ih=>intro j hj;unfold sumT;rw [List.getElem?_set_ne (by omega)];exact ih j (by omega)
def Bq (KR st:List Int) (xs:List UInt8):List Int:=sumT st (rT KR (gz xs 64) st 64) 8
theorem eight {t:List Int} (h:t.length=8):∃a b c d e f g i,t= [a,b,c,d,e,f,g,i]:=by
 match t,h with
 | [a,b,c,d,e,f,g,i],_=>exact ⟨a,b,c,d,e,f,g,i,rfl⟩
theorem add_any (KR:List Int) (hK:KR.length=64) (w:World) (hG:fD w 0 (au KR)) (sb bb off c:Nat) (st:List Int) (xs:List UInt8) (hst:st.length=8) (hs:AV sb 118 (au st) w) (hx:xs.length=64) (hb:bb<w.heap.size) (hA:∀j,j<64→w.cell? ⟨bb,off+j,none⟩=some (Extern.Stop.cell (xs[j]?.getD 0))):
  Calls Tryz.prog 51 #[.pointer (some ⟨sb,0,none⟩), .slice (some ⟨bb,off,none⟩) 64 c] w fun e w'=>e= .returned (.tuple #[])∧AV sb 118 (au (Bq KR st xs)) w'∧N7 sb w w':=by
 have Vx:Hid (∀W,Below w.heap.size w W→Calls Tryz.prog 74 #[.slice (some ⟨bb,off,none⟩) 64 c] W fun e w'=>e= .returned (.agg (au (gz xs 64)))∧Below W.heap.size W w'):=
  ae fun W h=>Gw W bb off c xs hx (dP hb h.size) fun j hj=>(h.cell (p:=⟨bb,off+j,none⟩) hb).trans (hA j hj)
 have hwl:=nz xs 64;obtain ⟨ws,hws⟩:∃ws,gz xs 64=ws:=⟨_,rfl⟩;rw [hws] at Vx hwl;have HG:=ae hG;have oJ:=ae hK;clear hG hK;have sZ:=ae hs;have HST:=ae hst;have HI4:Hid ((Tryz.prog.info? 170).map (·.size)=some (au ws).size):=ae (by rw [aV,hwl];kernel_rfl);have O5:Hid ((Tryz.prog.info? 118).map (·.size)=some (au st).size):=ae (by rw [aV,hst];kernel_rfl);have KH:Hid ((au (List.replicate 64 0)).size=(au ws).size):=ae (by rw [aV,aV,hwl];simp);have vk:Hid ((au (List.replicate 8 0)).size=(au st).size):=ae (by rw [aV,aV,hst];simp);have HWL:=ae hwl;have HWS:=ae hws;clear hs hst hx hA hwl hws;go_enter Tryz.func51,Tryz.ntmps51;go_upto_region 0 with fail
 go_cut [4,5] (fun p q wx=>J8 w ws st p q wx)
 case first=>
  have hX0:=AX.start w;refine wp_region_held_drew (S:=fun W=>fD W sb (au st)) (by kernel_rfl) (hX0.row sZ.out) (fun hH0=>?_);refine lM (i:=0) (v:= ?v0a) (d:=11) rfl rfl (by kernel_rfl) (by kernel_rfl) (by kernel_rfl) (fun _ _ _ h=>h) (Or.inl ⟨by rfl, ?hy0a⟩) (by assumption) ?r0a
  case hy0a=>intro w' hSw;clear hSw;first|(go_simp;done)|(go_simp;with_reducible rfl)
  refine ax ?_;refine lM (i:=2) (v:= ?v2a) (d:=13) rfl rfl (by kernel_rfl) (by kernel_rfl) (by kernel_rfl) (fun _ _ _ h=>h) (Or.inl ⟨by rfl, ?hy2a⟩) (by assumption) ?r2a
  case hy2a=>intro w' hSw;clear hSw;first|(go_simp;done)|(go_simp;with_reducible rfl)
  refine ax ?_;refine lM (i:=3) (v:= ?v3a) (d:=14) rfl rfl (by kernel_rfl) (by kernel_rfl) (by kernel_rfl) (fun _ _ _ h=>h) (Or.inl ⟨by rfl, ?hy3a⟩) (by assumption) ?r3a
  case hy3a=>intro w' hSw;clear hSw;first|(go_simp;done)|(go_simp;with_reducible rfl)
  refine ax ?_;refine lM (i:=4) (v:= .agg (au st)) (d:=15) rfl rfl (by kernel_rfl) (by kernel_rfl) (by kernel_rfl) (fun _ _ _ h=>h) (yP rfl _ _ rfl sb rfl (au st) _ (fun _ h=>h) Tryz.underlying118 rfl O5.out) (by assumption) ?r4a;refine ax ?_;refine wpAnyH_ready (rs:= [1,5,6]) (by kernel_rfl) (by simp) ?_;refine AllReadyH.cons rfl (fun K hK=>?_) (AllReadyH.cons rfl (fun K hK=>?_) (AllReadyH.cons rfl (fun K hK=>?_) AllReadyH.nil))
  ·go_simp;refine (Vx.out _ hX0.lo).mono ?_;rintro e w1 ⟨rfl,hb1⟩;have hX1:=hX0.call hb1;refine hK.out _ _ (hX1.row sZ.out) (fun hHeld=>?_);clear hHeld hK K;refine ax ?_;refine kW 5 6 (fun K hK=>?_) (fun K hK=>?_)
   ·refine ed (o:=⟨some 4, .alloc 170,_,_,_,none⟩) rfl 170 rfl (au (List.replicate 64 0)) iR ?_;have hX2:=hX1.a4;refine hK.out _ _ (hX2.row sZ.out) (fun hHeld=>?_);clear hHeld hK K;refine ax ?_;refine aW 6 (fun K hK=>?_);refine ed (o:=⟨some 5, .alloc 118,_,_,_,none⟩) rfl 118 rfl (au (List.replicate 8 0)) kZ ?_;have hX3:=hX2.a5;refine hK.out _ _ (hX3.row sZ.out) (fun hHeld=>?_);clear hHeld hK K;refine ax ?_;refine aW 7 (fun K hK=>?_);refine dJ (o:=⟨none, .store 170 (.tmp 4) (.tmp 12),_,_,_,none⟩) rfl 170 _ _ rfl (w1.heap.size) (au ws) rfl rfl 170 (au (List.replicate 64 0)) (hX3.v4 _ rfl).1.var HI4.out KH.out (bJ _) ?_;have hY:=hX3.s4 (au ws);refine hK.out _ _ (hY.row sZ.out) (fun hHeld=>?_);clear hHeld hK K;try simp only [Act.put]
    refine aW 8 (fun K hK=>?_);refine dJ (o:=⟨none, .store 118 (.tmp 5) (.tmp 15),_,_,_,none⟩) rfl 118 _ _ rfl ((w1.alloc (.cells (au (List.replicate 64 0)) 170)).heap.size) (au st) rfl rfl 118 (au (List.replicate 8 0)) hY.v5.1.var O5.out vk.out (bJ _) ?_;have hV:=hY.s5 (au st);refine hK.out _ _ (hV.row sZ.out) (fun hHeld=>?_);clear hHeld hK K;try simp only [Act.put]
    refine wpAnyH_done (by kernel_rfl) ?_ _;clear hH0;have hcut:J8 w ws st _ _ _:=⟨w1.heap.size,(w1.alloc (.cells (au (List.replicate 64 0)) 170)).heap.size,rfl,rfl,hV.ne,hV.l4,hV.l5,hV.w4,hV.w5,hV.lo⟩;go_wp2_with fail;go_meet;exact hcut
   ·refine ed (o:=⟨some 5, .alloc 118,_,_,_,none⟩) rfl 118 rfl (au (List.replicate 8 0)) kZ ?_;have hX4:=hX1.a5;refine hK.out _ _ (hX4.row sZ.out) (fun hHeld=>?_);clear hHeld hK K;refine ax ?_;refine aW 5 (fun K hK=>?_);refine ed (o:=⟨some 4, .alloc 170,_,_,_,none⟩) rfl 170 rfl (au (List.replicate 64 0)) iR ?_;have hX5:=hX4.a4;refine hK.out _ _ (hX5.row sZ.out) (fun hHeld=>?_);clear hHeld hK K;refine ax ?_;refine aW 7 (fun K hK=>?_);refine dJ (o:=⟨none, .store 170 (.tmp 4) (.tmp 12),_,_,_,none⟩) rfl 170 _ _ rfl ((w1.alloc (.cells (au (List.replicate 8 0)) 118)).heap.size) (au ws) rfl rfl 170 (au (List.replicate 64 0)) (hX5.v4 _ rfl).1.var HI4.out KH.out (bJ _) ?_;have hY:=hX5.s4 (au ws);refine hK.out _ _ (hY.row sZ.out) (fun hHeld=>?_);clear hHeld hK K;try simp only [Act.put]
    refine aW 8 (fun K hK=>?_);refine dJ (o:=⟨none, .store 118 (.tmp 5) (.tmp 15),_,_,_,none⟩) rfl 118 _ _ rfl (w1.heap.size) (au st) rfl rfl 118 (au (List.replicate 8 0)) hY.v5.1.var O5.out vk.out (bJ _) ?_;have hV:=hY.s5 (au st);refine hK.out _ _ (hV.row sZ.out) (fun hHeld=>?_);clear hHeld hK K;try simp only [Act.put]
    refine wpAnyH_done (by kernel_rfl) ?_ _;clear hH0;have hcut:J8 w ws st _ _ _:=⟨(w1.alloc (.cells (au (List.replicate 8 0)) 118)).heap.size,w1.heap.size,rfl,rfl,hV.ne,hV.l4,hV.l5,hV.w4,hV.w5,hV.lo⟩;go_wp2_with fail;go_meet;exact hcut
  ·refine ed (o:=⟨some 4, .alloc 170,_,_,_,none⟩) rfl 170 rfl (au (List.replicate 64 0)) iR ?_;have hX6:=hX0.a4;refine hK.out _ _ (hX6.row sZ.out) (fun hHeld=>?_);clear hHeld hK K;refine ax ?_;refine kW 1 6 (fun K hK=>?_) (fun K hK=>?_)
   ·go_simp;refine (Vx.out _ hX6.lo).mono ?_;rintro e w7 ⟨rfl,hb7⟩;have hX7:=hX6.call hb7;refine hK.out _ _ (hX7.row sZ.out) (fun hHeld=>?_);clear hHeld hK K;refine ax ?_;refine aW 6 (fun K hK=>?_);refine ed (o:=⟨some 5, .alloc 118,_,_,_,none⟩) rfl 118 rfl (au (List.replicate 8 0)) kZ ?_;have hX8:=hX7.a5;refine hK.out _ _ (hX8.row sZ.out) (fun hHeld=>?_);clear hHeld hK K;refine ax ?_;refine aW 7 (fun K hK=>?_);refine dJ (o:=⟨none, .store 170 (.tmp 4) (.tmp 12),_,_,_,none⟩) rfl 170 _ _ rfl (w.drew.heap.size) (au ws) rfl rfl 170 (au (List.replicate 64 0)) (hX8.v4 _ rfl).1.var HI4.out KH.out (bJ _) ?_;have hY:=hX8.s4 (au ws);refine hK.out _ _ (hY.row sZ.out) (fun hHeld=>?_);clear hHeld hK K;try simp only [Act.put]
    refine aW 8 (fun K hK=>?_);refine dJ (o:=⟨none, .store 118 (.tmp 5) (.tmp 15),_,_,_,none⟩) rfl 118 _ _ rfl (w7.heap.size) (au st) rfl rfl 118 (au (List.replicate 8 0)) hY.v5.1.var O5.out vk.out (bJ _) ?_;have hV:=hY.s5 (au st);refine hK.out _ _ (hV.row sZ.out) (fun hHeld=>?_);clear hHeld hK K;try simp only [Act.put]
    refine wpAnyH_done (by kernel_rfl) ?_ _;clear hH0;have hcut:J8 w ws st _ _ _:=⟨w.drew.heap.size,w7.heap.size,rfl,rfl,hV.ne,hV.l4,hV.l5,hV.w4,hV.w5,hV.lo⟩;go_wp2_with fail;go_meet;exact hcut
   ·refine ed (o:=⟨some 5, .alloc 118,_,_,_,none⟩) rfl 118 rfl (au (List.replicate 8 0)) kZ ?_;have hX9:=hX6.a5;refine hK.out _ _ (hX9.row sZ.out) (fun hHeld=>?_);clear hHeld hK K;refine ax ?_;refine aW 1 (fun K hK=>?_);go_simp;refine (Vx.out _ hX9.lo).mono ?_;rintro e w10 ⟨rfl,Wj⟩;have hX10:AX w (some w.heap.size) (some (w.heap.size+1)) w10:=by have h:=hX9.call Wj;rw [show (World.alloc w.drew _).heap.size=w.heap.size+1 by simp] at h;exact h
    refine hK.out _ _ (hX10.row sZ.out) (fun hHeld=>?_);clear hHeld hK K;refine ax ?_;refine aW 7 (fun K hK=>?_);refine dJ (o:=⟨none, .store 170 (.tmp 4) (.tmp 12),_,_,_,none⟩) rfl 170 _ _ rfl (w.heap.size) (au ws) rfl rfl 170 (au (List.replicate 64 0)) (hX10.v4 _ rfl).1.var HI4.out KH.out (bJ _) ?_;have hY:=hX10.s4 (au ws);refine hK.out _ _ (hY.row sZ.out) (fun hHeld=>?_);clear hHeld hK K;try simp only [Act.put]
    refine aW 8 (fun K hK=>?_);refine dJ (o:=⟨none, .store 118 (.tmp 5) (.tmp 15),_,_,_,none⟩) rfl 118 _ _ rfl ((w.heap.size+1)) (au st) rfl rfl 118 (au (List.replicate 8 0)) hY.v5.1.var O5.out vk.out (bJ _) ?_;have hV:=hY.s5 (au st);refine hK.out _ _ (hV.row sZ.out) (fun hHeld=>?_);clear hHeld hK K;try simp only [Act.put]
    refine wpAnyH_done (by kernel_rfl) ?_ _;clear hH0;have hcut:J8 w ws st _ _ _:=⟨w.heap.size,(w.heap.size+1),rfl,rfl,hV.ne,hV.l4,hV.l5,hV.w4,hV.w5,hV.lo⟩;go_wp2_with fail;go_meet;exact hcut
  ·refine ed (o:=⟨some 5, .alloc 118,_,_,_,none⟩) rfl 118 rfl (au (List.replicate 8 0)) kZ ?_;have Wi:=hX0.a5;refine hK.out _ _ (Wi.row sZ.out) (fun hHeld=>?_);clear hHeld hK K;refine ax ?_;refine kW 1 5 (fun K hK=>?_) (fun K hK=>?_)
   ·go_simp;refine (Vx.out _ Wi.lo).mono ?_;rintro e w12 ⟨rfl,PO⟩;have hX12:=Wi.call PO;refine hK.out _ _ (hX12.row sZ.out) (fun hHeld=>?_);clear hHeld hK K;refine ax ?_;refine aW 5 (fun K hK=>?_);refine ed (o:=⟨some 4, .alloc 170,_,_,_,none⟩) rfl 170 rfl (au (List.replicate 64 0)) iR ?_;have hX13:=hX12.a4;refine hK.out _ _ (hX13.row sZ.out) (fun hHeld=>?_);clear hHeld hK K;refine ax ?_;refine aW 7 (fun K hK=>?_);refine dJ (o:=⟨none, .store 170 (.tmp 4) (.tmp 12),_,_,_,none⟩) rfl 170 _ _ rfl (w12.heap.size) (au ws) rfl rfl 170 (au (List.replicate 64 0)) (hX13.v4 _ rfl).1.var HI4.out KH.out (bJ _) ?_;have hY:=hX13.s4 (au ws);refine hK.out _ _ (hY.row sZ.out) (fun hHeld=>?_);clear hHeld hK K;try simp only [Act.put]
    refine aW 8 (fun K hK=>?_);refine dJ (o:=⟨none, .store 118 (.tmp 5) (.tmp 15),_,_,_,none⟩) rfl 118 _ _ rfl (w.drew.heap.size) (au st) rfl rfl 118 (au (List.replicate 8 0)) hY.v5.1.var O5.out vk.out (bJ _) ?_;have hV:=hY.s5 (au st);refine hK.out _ _ (hV.row sZ.out) (fun hHeld=>?_);clear hHeld hK K;try simp only [Act.put]
    refine wpAnyH_done (by kernel_rfl) ?_ _;clear hH0;have hcut:J8 w ws st _ _ _:=⟨w12.heap.size,w.drew.heap.size,rfl,rfl,hV.ne,hV.l4,hV.l5,hV.w4,hV.w5,hV.lo⟩;go_wp2_with fail;go_meet;exact hcut
   ·refine ed (o:=⟨some 4, .alloc 170,_,_,_,none⟩) rfl 170 rfl (au (List.replicate 64 0)) iR ?_;have hX14:=Wi.a4;refine hK.out _ _ (hX14.row sZ.out) (fun hHeld=>?_);clear hHeld hK K;refine ax ?_;refine aW 1 (fun K hK=>?_);go_simp;refine (Vx.out _ hX14.lo).mono ?_;rintro e w15 ⟨rfl,hb15⟩;have hX15:AX w (some (w.heap.size+1)) (some w.heap.size) w15:=by have h:=hX14.call hb15;rw [show (World.alloc w.drew _).heap.size=w.heap.size+1 by simp] at h;exact h
    refine hK.out _ _ (hX15.row sZ.out) (fun hHeld=>?_);clear hHeld hK K;refine ax ?_;refine aW 7 (fun K hK=>?_);refine dJ (o:=⟨none, .store 170 (.tmp 4) (.tmp 12),_,_,_,none⟩) rfl 170 _ _ rfl ((w.heap.size+1)) (au ws) rfl rfl 170 (au (List.replicate 64 0)) (hX15.v4 _ rfl).1.var HI4.out KH.out (bJ _) ?_;have hY:=hX15.s4 (au ws);refine hK.out _ _ (hY.row sZ.out) (fun hHeld=>?_);clear hHeld hK K;try simp only [Act.put]
    refine aW 8 (fun K hK=>?_);refine dJ (o:=⟨none, .store 118 (.tmp 5) (.tmp 15),_,_,_,none⟩) rfl 118 _ _ rfl (w.heap.size) (au st) rfl rfl 118 (au (List.replicate 8 0)) hY.v5.1.var O5.out vk.out (bJ _) ?_;have hV:=hY.s5 (au st);refine hK.out _ _ (hV.row sZ.out) (fun hHeld=>?_);clear hHeld hK K;try simp only [Act.put]
    refine wpAnyH_done (by kernel_rfl) ?_ _;clear hH0;have hcut:J8 w ws st _ _ _:=⟨(w.heap.size+1),w.heap.size,rfl,rfl,hV.ne,hV.l4,hV.l5,hV.w4,hV.w5,hV.lo⟩;go_wp2_with fail;go_meet;exact hcut
 case rest=>
  obtain ⟨wb,tb,rfl,rfl,hne,hl4,hl5,hv4,hv5,hlo⟩:=hcut;have HLO:=ae hlo;have O9:=ae hv4;have HV5:=ae hv5;have HGC:Hid (fD wc 0 (au KR)):=ae ⟨dP HG.out.1 hlo.size,fun i=>(hlo.cell (p:=⟨0,i,none⟩) HG.out.1).trans (HG.out.2 i)⟩;have HIK:Hid ((Tryz.prog.info? 170).map (·.size)=some (au KR).size):=ae (by rw [aV,oJ.out];kernel_rfl);clear hv4 hv5 hlo Vx HI4 KH vk;go_wp2_with (refine aT rfl _ _ rfl 0 rfl (au KR) HGC.out _ Tryz.underlying170 rfl HIK.out ?_)
  go_loopw [17] (fun i wr=>∃k:Nat,k≤64∧i=I k∧AV wb 170 (au ws) wr∧AV tb 118 (au (rT KR ws st k)) wr∧Below w.heap.size w wr) (fun i _=>64 - (intOf i).toNat)
  case atStart=>exact ⟨0,Nat.zero_le _,rfl,O9.out,HV5.out,HLO.out⟩
  case round=>
   obtain ⟨k,hk,rfl,hw,ht,hlo⟩:=hrel;have HW:=ae hw;have HT:=ae ht;have HL:=ae hlo;have hlen:=yA KR ws st HST.out k;clear hw ht hlo O9 HV5 HLO;by_cases hlt:k<64
   ·have i1:(k:Int)<64:=by omega
    obtain ⟨t0,t1,t2,t3,t4,t5,t6,t7,he⟩:=eight hlen;have HE:=ae he;have hct:=HT.out.cell;rw [he] at hct;have c0:wr.cell? ⟨tb,0,none⟩=some (.int .u32 t0):=hct 0;have c1:wr.cell? ⟨tb,1,none⟩=some (.int .u32 t1):=hct 1;have c2:wr.cell? ⟨tb,2,none⟩=some (.int .u32 t2):=hct 2;have c3:wr.cell? ⟨tb,3,none⟩=some (.int .u32 t3):=hct 3;have c4:wr.cell? ⟨tb,4,none⟩=some (.int .u32 t4):=hct 4;have c5:wr.cell? ⟨tb,5,none⟩=some (.int .u32 t5):=hct 5;have c6:wr.cell? ⟨tb,6,none⟩=some (.int .u32 t6):=hct 6;have c7:wr.cell? ⟨tb,7,none⟩=some (.int .u32 t7):=hct 7;obtain ⟨kk,hkk⟩:∃z,KR[k]?.getD 0=z:=⟨_,rfl⟩;obtain ⟨wi,hwi⟩:∃z,ws[k]?.getD 0=z:=⟨_,rfl⟩;have hix:∀W,(Instr.index 170 (.agg (au KR)) (.int .i64 (k:Int))).run Tryz.prog W= .ok (.int .u32 kk) W:=fun W=>by rw [Gj KR oJ.out k hlt W,hkk]
    have hcw:wr.cell? ⟨wb,k,none⟩=some (.int .u32 wi):=(HW.out.cell k).trans (by rw [bY _ _ (by rw [HWL.out];exact hlt),hwi]);have HKK:=ae (And.intro hkk hwi);have UM:Hid (AW w wb tb ws [t0,t1,t2,t3,t4,t5,t6,t7] wr):=ae ⟨HW.out,by rw [←he];exact HT.out,HL.out⟩;clear hct hkk hwi hlen he;go_upto_region 4 with fail
    go_cut [8] (fun p wx=>p= .int .u32 (xF t4 t5 t6 t7 kk wi)∧AW w wb tb ws [t0,t1,t2,t3,t4,t5,t6,t7] wx)
    case first=>
     refine wp_region_still_lit (by kernel_rfl) (by kernel_rfl) ?_;repeat (first|still_step|still_call (MI _ _ _ (by kernel_rfl)))
     refine wpStill_nil ?_;rename_i J K1 hJ hmet;refine hmet _ _ (Met.intro (hJ _ _ ?_));repeat apply Exists.intro
     refine ⟨?rel,rfl⟩
     case rel=>exact ⟨rfl,UM.out.drew⟩
    case rest=>
     obtain ⟨rfl,haw⟩:=hcut;obtain ⟨X,hX⟩:∃z,xF t4 t5 t6 t7 kk wi=z:=⟨_,rfl⟩;rw [hX];have HXX:=ae hX;clear hX c0 c1 c2 c3 c4 c5 c6 c7 hix hcw UM;have UM:=ae haw;have c0:wc.cell? ⟨tb,0,none⟩=some (.int .u32 t0):=haw.v5.cell 0;have c1:wc.cell? ⟨tb,1,none⟩=some (.int .u32 t1):=haw.v5.cell 1;have c2:wc.cell? ⟨tb,2,none⟩=some (.int .u32 t2):=haw.v5.cell 2;have c3:wc.cell? ⟨tb,3,none⟩=some (.int .u32 t3):=haw.v5.cell 3;have c4:wc.cell? ⟨tb,4,none⟩=some (.int .u32 t4):=haw.v5.cell 4;have c5:wc.cell? ⟨tb,5,none⟩=some (.int .u32 t5):=haw.v5.cell 5;have c6:wc.cell? ⟨tb,6,none⟩=some (.int .u32 t6):=haw.v5.cell 6;have c7:wc.cell? ⟨tb,7,none⟩=some (.int .u32 t7):=haw.v5.cell 7;clear haw;go_upto_region 5 with fail
     go_cut [9] (fun p wx=>p= .int .u32 (yF t0 t1 t2)∧AW w wb tb ws [t0,t1,t2,t3,t4,t5,t6,t7] wx)
     case first=>
      refine wp_region_still_lit (by kernel_rfl) (by kernel_rfl) ?_;repeat (first|still_step|still_call (MI _ _ _ (by kernel_rfl)))
      refine wpStill_nil ?_;rename_i J K1 hJ hmet;refine hmet _ _ (Met.intro (hJ _ _ ?_));repeat apply Exists.intro
      refine ⟨?rel,rfl⟩
      case rel=>exact ⟨rfl,UM.out.drew⟩
     case rest=>
      clear c0 c1 c2 c3 c4 c5 c6 c7 UM;obtain ⟨rfl,haw⟩:=hcut;obtain ⟨Y,hY⟩:∃z,yF t0 t1 t2=z:=⟨_,rfl⟩;rw [hY];have Yk:=ae hY;clear hY;have UM:=ae haw;have c0:wc.cell? ⟨tb,0,none⟩=some (.int .u32 t0):=haw.v5.cell 0;have c1:wc.cell? ⟨tb,1,none⟩=some (.int .u32 t1):=haw.v5.cell 1;have c2:wc.cell? ⟨tb,2,none⟩=some (.int .u32 t2):=haw.v5.cell 2;have c3:wc.cell? ⟨tb,3,none⟩=some (.int .u32 t3):=haw.v5.cell 3;have c4:wc.cell? ⟨tb,4,none⟩=some (.int .u32 t4):=haw.v5.cell 4;have c5:wc.cell? ⟨tb,5,none⟩=some (.int .u32 t5):=haw.v5.cell 5;have c6:wc.cell? ⟨tb,6,none⟩=some (.int .u32 t6):=haw.v5.cell 6;have c7:wc.cell? ⟨tb,7,none⟩=some (.int .u32 t7):=haw.v5.cell 7;clear haw;have HI9:Hid ((Tryz.prog.info? 118).map (·.size)=some (au [(X+Y)%4294967296,t0,t1,t2,(t3+X)%4294967296,t4,t5,t6]).size):=ae (by kernel_rfl);go_wp2_with (with_reducible refine g_st 118 ?_;refine wpList_store_row rfl _ _ _ rfl tb (au [(X+Y)%4294967296,t0,t1,t2,(t3+X)%4294967296,t4,t5,t6]) rfl rfl 118 (au [t0,t1,t2,t3,t4,t5,t6,t7]) UM.out.v5.var HI9.out rfl (bJ _) ?_);go_roundw
      case rel=>exact ⟨k+1,by omega,by go_num,(UM.out.v4.MJ hne _),by
       have h:=UM.out.v5.row (au [(X+Y)%4294967296,t0,t1,t2,(t3+X)%4294967296,t4,t5,t6]);have e:rT KR ws st (k+1)= [(X+Y)%4294967296,t0,t1,t2,(t3+X)%4294967296,t4,t5,t6]:=by
        unfold rT;rw [HE.out,HKK.out.1,HKK.out.2,←HXX.out,←Yk.out];rfl
       rw [e];exact h,aB UM.out.lo hl5 _⟩
      case measure=>simp [intOf];omega
   ·have AU:Hid (k=64):=ae (by omega);obtain ⟨T,hT⟩:∃T,rT KR ws st k=T:=⟨_,rfl⟩;rw [hT] at HT hlen;have Zz:=ae hT;have wP:=ae hlen;have uP:Hid (AV sb 118 (au (sumT st T 0)) wr):=ae (sZ.out.lows HL.out);have hsbl:=sZ.out.lt;have i1:¬(k:Int)<64:=by omega
    have i2:((k:Int)<64)=False:=by simp;omega
    clear hT hlen hlt;go_wp2_with fail
    go_loopw [104] (fun i wx=>∃j:Nat,j≤8∧i=I j∧AV sb 118 (au (sumT st T j)) wx∧AV tb 118 (au T) wx∧N7 sb w wx) (fun i _=>8 - (intOf i).toNat)
    case atStart=>exact ⟨0,Nat.zero_le _,rfl,uP.out,HT.out,⟨HL.out.os,HL.out.tape,HL.out.output,HL.out.size,fun q h1 _=>HL.out.block q h1⟩⟩
    case round=>
     obtain ⟨j,hj,rfl,hsv,zK,hkp⟩:=hrel;have Zu:=ae hsv;have HTV:=ae zK;have X8:=ae hkp;have UW:=ae (uq st T j);clear uP hsv zK hkp;by_cases hlt2:j<8
     ·have j1:(j:Int)<8:=by omega
      have j0:(0:Int)≤(j:Int):=by omega
      obtain ⟨sj,hsj⟩:∃z,st[j]?.getD 0=z:=⟨_,rfl⟩;obtain ⟨tj,htj⟩:∃z,T[j]?.getD 0=z:=⟨_,rfl⟩;have cs:wr.cell? ⟨sb,j,none⟩=some (.int .u32 sj):=(Zu.out.cell j).trans (by rw [bY _ _ (by rw [UW.out,HST.out];exact hlt2),Jn st T j j (Nat.le_refl _),hsj]);have ct:wr.cell? ⟨tb,j,none⟩=some (.int .u32 tj):=(HTV.out.cell j).trans (by rw [bY _ _ (by rw [wP.out];exact hlt2),htj]);have cf:=Zu.out.dZ j;have NM:Hid (AV sb 118 (au (sumT st T (j+1))) (wr.drew.setCell ⟨sb,j,none⟩ (.int .u32 ((sj+tj)%4294967296)))):=ae (by
       have h:=Zu.out.drew.put j (.int .u32 ((sj+tj)%4294967296));rw [rF] at h;unfold sumT;rw [hsj,htj];exact h)
      clear hsj htj;go_wp2_with fail;go_still_tail 11,(by kernel_rfl);change wpList _ _ _ _ _ wr.drew;go_wp2_with fail;go_roundw
      case rel=>exact ⟨j+1,by omega,by go_num,NM.out,(HTV.out.drew.far (by omega) _ _),⟨X8.out.os,X8.out.tape,X8.out.output,by have:=X8.out.size;simpa [World.setCell] using this,fun q h1 h2=>(heap_setCell_other wr.drew ⟨sb,j,none⟩ q _ h2).trans (X8.out.block q h1 h2)⟩⟩
      case measure=>simp [intOf];omega
     ·have HJE:Hid (j=8):=ae (by omega);have j1:¬(j:Int)<8:=by omega
      have j2:((j:Int)<8)=False:=by simp;omega
      clear hlt2;go_wp2_with fail
      go_end0
      refine ⟨rfl,?_,X8.out⟩;have h:=Zu.out;rw [HJE.out,←Zz.out,AU.out,←HWS.out] at h;exact h
end Go.Proofs.YtdibbemgpikgjaaGreatDoor
