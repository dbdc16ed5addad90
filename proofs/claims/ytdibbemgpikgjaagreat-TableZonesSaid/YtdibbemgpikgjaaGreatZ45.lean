/- The texts Oka, in this order. -/
import Derived.Test.YtdibbemgpikgjaaGreatZ00
import Derived.Test.YtdibbemgpikgjaaGreatZ27
import Derived.Test.YtdibbemgpikgjaaGreatZ35
set_option maxRecDepth 10000
set_option maxHeartbeats 8000000
namespace Go.Proofs.YtdibbemgpikgjaaGreat
open Go Go.RowKit
theorem Ey.good {t:Tb} (h:Ey t) (hp:t.prev.length=32) (hm:t.bK.length=32):P8 t where
 bz:=⟨h.bz.1,by have:=h.bz.2;omega⟩
 version:=h.version
 aJ:=h.aJ
 prev:=hp
 bK:=hm
 first:=h.first
 num:=by have:=h.num;omega
 good:=fun e he=>⟨(h.aS e he).made,(h.aS e he).ok⟩
 short:=fun e he=>by
  obtain ⟨k,hk⟩:=List.getElem?_of_mem he;rw [h.names k e hk,qP];omega
theorem Ey.up {t:Tb} (h:Ey t) {zs:List dm} (hz:t.aS=zs.map (·.e)):oO zs:=by
 intro k x hx;have hk:=(iU.1 hx).1;have hn:=h.num;rw [hz,List.length_map] at hn;have h1:∀j y,zs[j]? =some y→y.e.name=aT j:=fun j y hy=>h.names j y.e (by rw [hz,List.getElem?_map,hy];rfl);have hl:gK zs k=wG k:=by
  cases k with
  |zero=>rfl
  |succ k=>
   show (zs[k]?.map (·.e.name)).getD ⟨#[]⟩=aT k;rw [dE (by omega)];exact h1 k _ (dE (by omega))
 rw [h1 k x hx,hl];exact IP k (by omega)
end Go.Proofs.YtdibbemgpikgjaaGreat
