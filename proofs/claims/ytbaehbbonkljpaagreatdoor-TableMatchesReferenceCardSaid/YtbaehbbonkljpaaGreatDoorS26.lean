/- The texts Eh0, in this order. -/
import Derived.Test.YtbaehbbonkljpaaGreatDoorS00
import Derived.Test.YtbaehbbonkljpaaGreatDoorS19
import Derived.Test.YtbaehbbonkljpaaGreatDoorS25
set_option maxRecDepth 10000
set_option maxHeartbeats 8000000
namespace Go.Proofs.YtbaehbbonkljpaaGreatDoor
open Go Go.RowKit
theorem xM (t:Tb):qQ t=lJ t:=by
 have h1:∀l:List Lr,l.flatMap Uo=l.flatMap lS:=fun _=>rfl;have h2:∀l:List Tr,l.flatMap U7=l.flatMap jY:=fun _=>rfl;have h3:∀l:List Yr,l.flatMap Wu=l.flatMap lZ:=fun _=>rfl;have hc:∀c:Cal,sH c=Gf c:=fun c=>by
  unfold sH Gf gV;rw [h1];simp only [List.append_assoc]
 have hz:∀z:Zn,Hu z=znB z:=fun z=>by
  unfold Hu znB;rw [h2,h3,hc];simp only [List.append_assoc]
 have he:∀e:Ze,tK e=Wy e:=fun e=>by
  unfold tK Wy;rw [hz];simp only [List.append_assoc]
 have hl:∀l:List Ze,l.flatMap tK=l.flatMap Wy:=fun l=>by
  rw [show tK=Wy from funext he]
 unfold qQ lJ Rh;rw [hl];rfl
end Go.Proofs.YtbaehbbonkljpaaGreatDoor
