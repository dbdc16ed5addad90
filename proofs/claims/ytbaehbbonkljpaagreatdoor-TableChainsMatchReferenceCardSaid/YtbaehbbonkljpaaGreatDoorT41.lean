/- The texts Lg, in this order. -/
import Derived.Test.YtbaehbbonkljpaaGreatDoorT24
import Derived.Test.YtbaehbbonkljpaaGreatDoorT40
set_option maxRecDepth 10000
set_option maxHeartbeats 8000000
namespace Go.Proofs.YtbaehbbonkljpaaGreatDoor
open Go Go.RowKit
def ajy (lo:Nat)(A:aj Addr)(ts:ag Kv):Prop:=UQ lo A (ts.flatMap Kv.cells)/\∀y∈ts,VV lo y
theorem Wi.fin {w W:ae}{rc:ax ah}{k c:Nat}{A:aj Addr}{ts:ag Kv}(h:Wi w rc k c A ts W):ajy w.heap.size A ts:=by
 refine⟨?_,fun y hy=>(h.mem y hy).low (bV _)⟩;rcases h.own.2 with ⟨hv,hn⟩|⟨g,cap,cur,hv,hg,_⟩
 ·refine .inl ?_;rw[h.own.1,hn,gU]
 ·injection hv with h1 _ _;exact .inr ⟨g,0,h1,by omega⟩
theorem VV.mono {lo lo':Nat}{y:Kv}(h:VV lo y)(hl:lo'<=lo):VV lo' y:=
 have f:∀ {A cs},UQ lo A cs->UQ lo' A cs:=fun h=>h.imp id fun ⟨b,off,e,h1⟩=>⟨b,off,e,aO hl h1⟩
 ⟨f h.1,fun z hz=>⟨f (h.2 z hz).1,f (h.2 z hz).2.1,f (h.2 z hz).2.2.1,f (h.2 z hz).2.2.2⟩⟩
theorem MX.grow {lo:Nat}{v:ah}{W W':ae}{y:Kv}(h:MX lo v W y)(hb:ai W.heap.size W W'):MX lo v W' y:=h.keep hb.size fun b _ h2 h3=>⟨hb.block b h2,h3⟩
theorem aof {vb B B':Nat}(h:vb<B):∀b,B<=b->b<B'->some b≠(Value.slice (some ⟨vb,0,none⟩) 1 1).ownBlock:=fun b h1 _ e=>by
 have e2:b=vb:=by simpa[Value.ownBlock] using e
 omega
theorem ahh {lo:Nat}(B:Nat):∀b,lo<=b->b<B->some b≠(Value.slice (some ⟨B,0,none⟩) 1 1).ownBlock:=fun b _ h1 e=>by
 have e2:b=B:=by simpa[Value.ownBlock] using e
 omega
structure MdT (w:ae)(r:OB)(V:ae)(k c:Nat)(A:aj Addr)(ts:ag Kv)(vb:Nat)(y:Kv)(W:ae):Prop where
 md:Wi w r.cells.toArray k c A ts W
 var:AV vb 26 (JK y.t (.slice y.A y.zs.length y.c)) W
 mem:MX (w.heap.size+1) (.slice A k c) W y
 each:TbF y
theorem MdT.of {w V W:ae}{r:OB}{k c vb:Nat}{A:aj Addr}{ts:ag Kv}{y:Kv}{d:ag au}(h:Wi w r.cells.toArray k c A ts V){cs:ax ah}(hb:ai V.heap.size V (W.setRow vb cs))(hv:AV vb 26 (JK {y.t with Ku:=d} (.slice y.A y.zs.length y.c)) (W.setRow vb cs))
  (hm:MX V.heap.size (.slice (some ⟨vb,0,none⟩) 1 1) W y)(ht:Ld W W.heap.size y)(hM:YP y.t)(hd:d.length=32):MdT w r V k c A ts vb ⟨{y.t with Ku:=d},y.A,y.c,y.zs⟩ (W.setRow vb cs):=by
 have hs:(W.setRow vb cs).heap.size=W.heap.size:=by simp[World.setRow]
 have hlt:=h.lt;have hm2:MX V.heap.size (.slice (some ⟨vb,0,none⟩) 1 1) (W.setRow vb cs) y:=hm.keep (by omega) fun b _ _ h3=>⟨cZ _ _ b _ (fun e=>h3 (by rw[e];rfl)),h3⟩;have hm3:MX (w.heap.size+1) (.slice A k c) (W.setRow vb cs) y:=hm2.vary (by omega) fun b h1 _=>h.Tc b h1;exact⟨h.grow hb,hv,hm3,⟨hM.acD d,ht.names,ht.prev,hd⟩⟩
end Go.Proofs.YtbaehbbonkljpaaGreatDoor
