/- The texts Eh0, in this order. -/
import Derived.Test.YtbaehbbonkljpaaGreatR00
import Derived.Test.YtbaehbbonkljpaaGreatR18
import Derived.Test.YtbaehbbonkljpaaGreatR27
set_option maxRecDepth 10000
set_option maxHeartbeats 8000000
namespace Go.Proofs.YtbaehbbonkljpaaGreat
open Go Go.RowKit
theorem zI (t:Tb):pJ t=xe t:=by
 have h1:∀l:List Lr,l.flatMap TA=l.flatMap jr:=fun _=>rfl;have h2:∀l:List Tr,l.flatMap Uz=l.flatMap iI:=fun _=>rfl;have h3:∀l:List Yr,l.flatMap VG=l.flatMap jv:=fun _=>rfl;have hc:∀c:Cal,rq c=Ai c:=fun c=>by
  unfold rq Ai fZ;rw [h1];simp only [List.append_assoc]
 have hz:∀z:Zn,Gt z=znB z:=fun z=>by
  unfold Gt znB;rw [h2,h3,hc];simp only [List.append_assoc]
 have he:∀e:Ze,rQ e=Qo e:=fun e=>by
  unfold rQ Qo;rw [hz];simp only [List.append_assoc]
 have hl:∀l:List Ze,l.flatMap rQ=l.flatMap Qo:=fun l=>by
  rw [show rQ=Qo from funext he]
 unfold pJ xe JS;rw [hl];rfl
end Go.Proofs.YtbaehbbonkljpaaGreat
