/- The texts Vm, in this order. -/
import Derived.Test.YtbaehbbonkljpaaGreatDoorS00
import Derived.Test.YtbaehbbonkljpaaGreatDoorS25
import Derived.Test.YtbaehbbonkljpaaGreatDoorS33
set_option maxRecDepth 10000
set_option maxHeartbeats 8000000
namespace Go.Proofs.YtbaehbbonkljpaaGreatDoor
open Go Go.RowKit
theorem QN (t:Tb) (hp:t.prev.length=32) (hL:(qQ t).length<=90000):0<(qQ t).length/\(qQ t).length<=90000:=
 ⟨by unfold qQ;simp only [bF,List.length_cons];omega,hL⟩
theorem UY (key:List UInt8) (hk:key.length=32) (x:dF) (w:World) (hx:fV w w.heap.size x) (h:mg x.t=0) (hL:(qQ x.t).length<=90000):
  Calls Tryz.prog 12 #[.agg (cD key), .agg (ai x.t (.slice x.A x.zs.length x.c))] w (ZW w key x.t (.slice x.A x.zs.length x.c)):=by
 obtain ⟨t,A,c,zs⟩:=x;simp only at h hL ⊢;have qP:t.prev.length=32:=hx.prev;have pg:t.bP.length=32:=hx.bP;obtain ⟨n,hn⟩:∃n,zs.length=n:=⟨_,rfl⟩;rw [hn];have nX:=ae hk;have yh:=ae qP;have xY:=ae (QN t qP hL);have HTE:Hid (qQ t=lJ t):=ae (xM t);have vk:Hid (∀W,Below w.heap.size w W->Calls Tryz.prog 30 #[.agg (ai t (.slice A n c))] W (PH W t)):=ae (fun W hb=>by rw [<-hn];exact rV ⟨t,A,c,zs⟩ W ((hx.keep hb).more hb.size) h);have dU:Hid (∀v,(Tryz.prog.info? 26).map (·.size)=some (ai t v).size):=ae fun v=>bD t v qP pg;have H0:=ae (SK.start w (cD key) (ai t (.slice A n c)));have ZJ:Hid ((ai t (.slice A n c)).size=68):=ae (bf t _ qP pg);have HPUT:Hid (∀d:List UInt8,d.length=32->vM (ai t (.slice A n c)) 36 (ax d)=ai {t with bP:=d} (.slice A n c)):=ae (fun d hd=>CQ t _ d qP pg hd);clear hx h hL hk qP pg hn;go_enter Tryz.func12,Tryz.ntmps12;go_upto_region 1 with (first
  |((with_reducible refine aZ 26 ?_);go_must (refine aG rfl _ rfl (ai bu (.slice none 0 0)) ed ?_)))
 rw [show w.heap.size+1+1=w.heap.size+2 from rfl];generalize ((w.alloc (.cells (cD key) 24)).alloc (.cells (ai t (.slice A n c)) 26)).alloc (.cells (ai bu (.slice none 0 0)) 26)=W0 at H0 ⊢;go_wp2_with ((with_reducible refine eF 26 ?_);go_must (refine aP rfl _ _ rfl (w.heap.size+1) rfl (ai t (.slice A n c)) H0.out.t.jw _ Tryz.underlying26 rfl (dU.out _) ?_));refine (vk.out W0 H0.out.lo).mono ?_;rintro e w1 ⟨A1,n1,c1,l1,rfl,o1,b1⟩;have H1:=ae (H0.out.grow b1);have DD:=ae l1;have mG:=ae (aA.dR o1);have hn0:0<n1:=by rw [<-l1];exact xY.out.1
 have hn1:n1<=90000:=by rw [<-l1];exact xY.out.2
 clear l1 o1 b1 H0 vk;go_wp2_with ((with_reducible refine eF 24 ?_);go_must (refine aP rfl _ _ rfl w.heap.size rfl (cD key) H1.out.k.jw _ Tryz.underlying24 rfl (lh _ nX.out) ?_));refine (OG key nX.out n1 c1 A1 (qQ t) w1 DD.out hn0 (by omega) mG.out).mono ?_;rintro e w2 ⟨rfl,hb2⟩;rw [HTE.out];obtain ⟨d,hdd⟩:∃d,oh qx key (lJ t)=d:=⟨_,rfl⟩;rw [hdd];have hd:d.length=32:=by rw [<-hdd];exact nN _ _ _
 have RY:=ae hdd;clear hdd;have H2:=ae (H1.out.grow hb2);have HD:=ae hd;have RZ:=ae (lh d hd);have HTH:Hid (w2.there (w.heap.size+1) 36 (cD d).size):=ae (H2.out.t.there 36 _ (by rw [kL,hd,ZJ.out];omega));have H3:Hid (SK w (cD key) (ai {t with bP:=d} (.slice A n c)) (w2.setCells (w.heap.size+1) 36 (cD d).toList)):=ae (by
  have h:=H2.out.t.setQ 36 (cD d).toList;rw [show vM _ 36 (cD d).toList=_ from HPUT.out d hd] at h;exact ⟨H2.out.k.Qh (by omega) _ _,h,H2.out.r.Qh (by omega) _ _,kK (Nat.le_succ _) _ _ _ H2.out.lo⟩)
 have oz:Hid ((Tryz.prog.info? 26).map (·.size)=some (ai {t with bP:=d} (.slice A n c)).size):=ae (bD {t with bP:=d} _ yh.out hd);have HE3:Hid ((ai bu (.slice none 0 0)).size=(ai {t with bP:=d} (.slice A n c)).size):=ae ((bf bu _ rfl rfl).trans (bf {t with bP:=d} _ yh.out hd).symm);clear hb2 hd H1 mG;obtain ⟨W3,hW3⟩:∃W,w2.setCells (w.heap.size+1) 36 (cD d).toList=W:=⟨_,rfl⟩;rw [hW3] at H3;have HW3:=ae hW3;clear hW3;go_wp2_with (first
  |((with_reducible refine dW 24 ?_);go_must ((refine wpList_store_mid rfl _ _ _ rfl (w.heap.size+1) 36 (cD d) rfl rfl HTH.out RZ.out (uk _) ?_);rw [HW3.out]))
  |((with_reducible refine eF 26 ?_);go_must (refine aP rfl _ _ rfl (w.heap.size+1) rfl (ai {t with bP:=d} (.slice A n c)) H3.out.t.jw _ Tryz.underlying26 rfl oz.out ?_))
  |((with_reducible refine dW 26 ?_);go_must (refine wpList_store_row rfl _ _ _ rfl (w.heap.size+2) (ai {t with bP:=d} (.slice A n c)) rfl rfl 26 (ai bu (.slice none 0 0)) H3.out.r.var oz.out HE3.out (aT _ _ _ _) ?_)))
 refine bodyPost_ret (v:= .tuple #[.agg (ai {t with bP:=d} (.slice A n c)),I 0]) (aV rfl _ _ (w.heap.size+2) _ (ai {t with bP:=d} (.slice A n c)) (0,0) _ rfl (setRow_heap _ _ _ _ _ _ H3.out.r.var) Tryz.underlying26 rfl oz.out _ rfl) rfl ?_;exact ⟨d,HD.out,RY.out,rfl,aB H3.out.lo (Nat.le_succ_of_le (Nat.le_succ _)) _⟩
end Go.Proofs.YtbaehbbonkljpaaGreatDoor
