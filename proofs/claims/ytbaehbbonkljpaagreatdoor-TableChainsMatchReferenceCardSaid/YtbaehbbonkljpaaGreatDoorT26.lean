/- The texts Eh0, in this order. -/
import Derived.Test.YtbaehbbonkljpaaGreatDoorT25
set_option maxRecDepth 10000
set_option maxHeartbeats 8000000
namespace Go.Proofs.YtbaehbbonkljpaaGreatDoor
open Go Go.RowKit
theorem VB (t:Tb):Rq t=PN t:=by
 have h1:∀l:ag Lr,l.flatMap lrB=l.flatMap Qw:=fun _=>rfl;have h2:∀l:ag Tr,l.flatMap trE=l.flatMap PO:=fun _=>rfl;have h3:∀l:ag Yr,l.flatMap yrE=l.flatMap QD:=fun _=>rfl;have hc:∀c:Cal,UH c=acd c:=fun c=>by
  unfold UH acd Ls;rw[h1];simp only[aH]
 have hz:∀z:Zn,ac2 z=znB z:=fun z=>by
  unfold ac2 znB;rw[h2,h3,hc];simp only[aH]
 have he:∀e:Ze,UX e=zeB e:=fun e=>by
  unfold UX zeB;rw[hz];simp only[aH]
 have hl:∀l:ag Ze,l.flatMap UX=l.flatMap zeB:=fun l=>by
  rw[show UX=zeB from funext he]
 unfold Rq PN zsB;rw[hl];rfl
end Go.Proofs.YtbaehbbonkljpaaGreatDoor
