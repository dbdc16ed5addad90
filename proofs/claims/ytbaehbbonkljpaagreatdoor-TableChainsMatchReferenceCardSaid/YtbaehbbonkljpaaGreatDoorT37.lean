/- The texts Wf, in this order. -/
import Derived.Test.YtbaehbbonkljpaaGreatDoorT36
set_option maxRecDepth 10000
set_option maxHeartbeats 8000000
namespace Go.Proofs.YtbaehbbonkljpaaGreatDoor
open Go Go.RowKit
def SlB (w:ae)(T:Tb)(n:Nat)(r:Int)(e:Ending)(w':ae):Prop:=
 ∃A c ys,e=.returned (.tuple #[.agg (JK T (.slice A n c)),I r])/\O3 w' w'.heap.size A ys/\ys.map (·.e)=T.JX/\ai w.heap.size w w'
def O4 (t:Tb):ag au:=if O0 t=0 then PN t else []
def VR (key:ag au)(t:Tb):Tb:=if O0 t=0 then {t with Ku:=QR Qm key (PN t)} else J8
theorem aeo (key:ag au)(x:Kv){w:ae}(hx:Ld w w.heap.size x):(VR key x.t).prev.length=32/\(VR key x.t).Ku.length=32:=by
 obtain⟨m,hm⟩:∃m,QR Qm key (PN x.t)=m:=⟨_,rfl⟩;have hl:m.length=32:=by rw[<-hm];exact Ql _ _ _
 unfold VR;rw[hm];by_cases h0:O0 x.t=0
 ·rw[bD h0];exact⟨hx.prev,hl⟩
 ·rw[bP h0];exact⟨rfl,rfl⟩
theorem ahu (key:ag au)(hk:key.length=32)(x:Kv)(w:ae)(hx:Ld w w.heap.size x)(hL:(O4 x.t).length<=90000):
  Calls Tryz.prog 12 #[.agg (cellsB key),.agg (JK x.t (.slice x.A x.zs.length x.c))] w (SlB w (VR key x.t) (VR key x.t).JX.length (O0 x.t)):=by
 by_cases h0:O0 x.t=0
 ·have e1:O4 x.t=PN x.t:=bD h0;have e2:VR key x.t= {x.t with Ku:=QR Qm key (PN x.t)}:=bD h0;rw[e1,<-VB] at hL;refine(alG key hk x w hx h0 hL).mono fun e w' h=>?_;obtain⟨d,_,hd,he,hb⟩:=h;rw[e2,h0];refine⟨x.A,x.c,x.zs,?_,hx.JX.grow hb,hx.names.symm,hb⟩;rw[he,<-hd];simp only[hx.names,aI]
 ·have e2:VR key x.t=J8:=bP h0;refine(aiQ key x w hx h0).mono fun e w' h=>?_;rw[e2];exact⟨none,0,[],h.1,.nil,rfl,h.2⟩
end Go.Proofs.YtbaehbbonkljpaaGreatDoor
