/- The texts Lg, in this order. -/
import Derived.Test.YtbaehbbonkljpaaGreatDoorS00
import Derived.Test.YtbaehbbonkljpaaGreatDoorS08
import Derived.Test.YtbaehbbonkljpaaGreatDoorS41
import Derived.Test.YtbaehbbonkljpaaGreatDoorS42
set_option maxRecDepth 10000
set_option maxHeartbeats 8000000
namespace Go.Proofs.YtbaehbbonkljpaaGreatDoor
open Go Go.RowKit
def Zd (lo:Nat) (A:Option Addr) (ts:List dF):Prop:=sZ lo A (ts.flatMap dF.cells)/\∀y∈ts,vT lo y
theorem wG.fin {w W:World} {rc:Array Value} {k c:Nat} {A:Option Addr} {ts:List dF} (h:wG w rc k c A ts W):Zd w.heap.size A ts:=by
 refine ⟨?_,fun y hy=>(h.mem y hy).low (Nat.le_succ _)⟩;rcases h.own.2 with ⟨hv,hn⟩|⟨g,cap,cur,hv,hg,_⟩
 ·refine .inl ?_;rw [h.own.1,hn,Nat.zero_mul]
 ·injection hv with h1 _ _;exact .inr ⟨g,0,h1,by omega⟩
theorem vT.mono {lo lo':Nat} {y:dF} (h:vT lo y) (hl:lo'<=lo):vT lo' y:=
 have f:∀ {A cs},sZ lo A cs->sZ lo' A cs:=fun h=>h.imp id fun ⟨b,off,e,h1⟩=>⟨b,off,e,Nat.le_trans hl h1⟩
 ⟨f h.1,fun z hz=>⟨f (h.2 z hz).1,f (h.2 z hz).2.1,f (h.2 z hz).2.2.1,f (h.2 z hz).2.2.2⟩⟩
theorem iK.grow {lo:Nat} {v:Value} {W W':World} {y:dF} (h:iK lo v W y) (hb:Below W.heap.size W W'):iK lo v W' y:=h.keep hb.size fun b _ h2 h3=>⟨hb.block b h2,h3⟩
theorem Yf {vb B B':Nat} (h:vb<B):∀b,B<=b->b<B'->some b≠(Value.slice (some ⟨vb,0,none⟩) 1 1).ownBlock:=fun b h1 _ e=>by
 have e2:b=vb:=by simpa [Value.ownBlock] using e
 omega
theorem OJ {lo:Nat} (B:Nat):∀b,lo<=b->b<B->some b≠(Value.slice (some ⟨B,0,none⟩) 1 1).ownBlock:=fun b _ h1 e=>by
 have e2:b=B:=by simpa [Value.ownBlock] using e
 omega
structure Xp (w:World) (r:lK) (V:World) (k c:Nat) (A:Option Addr) (ts:List dF) (vb:Nat) (y:dF) (W:World):Prop where
 md:wG w r.cells.toArray k c A ts W
 var:AV vb 26 (ai y.t (.slice y.A y.zs.length y.c)) W
 mem:iK (w.heap.size+1) (.slice A k c) W y
 each:TbF y
theorem Xp.of {w V W:World} {r:lK} {k c vb:Nat} {A:Option Addr} {ts:List dF} {y:dF} {d:List UInt8} (h:wG w r.cells.toArray k c A ts V) {cs:Array Value} (hb:Below V.heap.size V (W.setRow vb cs)) (hv:AV vb 26 (ai {y.t with bP:=d} (.slice y.A y.zs.length y.c)) (W.setRow vb cs))
  (hm:iK V.heap.size (.slice (some ⟨vb,0,none⟩) 1 1) W y) (ht:fV W W.heap.size y) (hM:FY y.t) (hd:d.length=32):Xp w r V k c A ts vb ⟨{y.t with bP:=d},y.A,y.c,y.zs⟩ (W.setRow vb cs):=by
 have hs:(W.setRow vb cs).heap.size=W.heap.size:=by simp [World.setRow]
 have hlt:=h.lt;have hm2:iK V.heap.size (.slice (some ⟨vb,0,none⟩) 1 1) (W.setRow vb cs) y:=hm.keep (by omega) fun b _ _ h3=>⟨setRow_other _ _ b _ (fun e=>h3 (by rw [e];rfl)),h3⟩;have hm3:iK (w.heap.size+1) (.slice A k c) (W.setRow vb cs) y:=hm2.vary (by omega) fun b h1 _=>h.qA b h1;exact ⟨h.grow hb,hv,hm3,⟨hM.Ny d,ht.names,ht.prev,hd⟩⟩
end Go.Proofs.YtbaehbbonkljpaaGreatDoor
