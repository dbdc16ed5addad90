/- The texts Wf, in this order. -/
import Derived.Test.YtbaehbbonkljpaaGreatDoorS00
import Derived.Test.YtbaehbbonkljpaaGreatDoorS06
import Derived.Test.YtbaehbbonkljpaaGreatDoorS35
import Derived.Test.YtbaehbbonkljpaaGreatDoorS39
set_option maxRecDepth 10000
set_option maxHeartbeats 8000000
namespace Go.Proofs.YtbaehbbonkljpaaGreatDoor
open Go Go.RowKit
def zZnV:Zn:=⟨⟨0,[],0,[]⟩,0,[],0,[]⟩
def zZsV:Zs:=⟨none,0,none,0,none,0,none,0⟩
theorem Po (w:World) (B:Nat):iP w B zZsV zZnV:=⟨.inl rfl, .inl rfl, .inl rfl, .inl rfl⟩
theorem VE:jB zZnV:=by constructor<;>exact Nat.zero_le _
def BtB (w:World) (L:List UInt8) (n:Nat) (r:Int) (e:Ending) (w':World):Prop:=
 ∃A c,e= .returned (.tuple #[.slice A n c,I r])/\aA w' w'.heap.size A (L.map Extern.Stop.cell)/\Below w.heap.size w w'
def ZnB (w:World) (z:Zn) (r:Int) (e:Ending) (w':World):Prop:=
 ∃s,e= .returned (.tuple #[.agg (ay z s),I r])/\iP w' w'.heap.size s z/\Below w.heap.size w w'
def SlB (w:World) (T:Tb) (n:Nat) (r:Int) (e:Ending) (w':World):Prop:=
 ∃A c ys,e= .returned (.tuple #[.agg (ai T (.slice A n c)),I r])/\kz w' w'.heap.size A ys/\ys.map (·.e)=T.aF/\Below w.heap.size w w'
def tu (t:Tb):List UInt8:=if mg t=0 then lJ t else []
def vO (key:List UInt8) (t:Tb):Tb:=if mg t=0 then {t with bP:=oh qx key (lJ t)} else bu
def Dx (zs:List Ze) (name:ByteArray):Zn×Int:=match mP zs name with|none=>(zZnV,4)|some z=>(z,0)
theorem Xx (x:dF) (w:World) (hx:fV w w.heap.size x):Calls Tryz.prog 22 #[.agg (ai x.t (.slice x.A x.zs.length x.c))] w (BtB w (tu x.t) (tu x.t).length (mg x.t)):=by
 refine (uG x.t x.A x.zs.length x.c x.zs w hx.prev hx.bP hx.names rfl hx.aF).mono fun e w' h=>?_;rcases h with ⟨h0,⟨g,c,he,ho⟩,hb⟩|⟨h0,he,hb⟩
 ·have e1:tu x.t=lJ x.t:=if_pos h0;rw [e1,h0];exact ⟨some ⟨g,0,none⟩,c,he,aA.dR ho,hb⟩
 ·have e1:tu x.t= []:=if_neg h0;rw [e1];exact ⟨none,0,he, .inl rfl,hb⟩
theorem UN (x:dF) (w:World) (hx:fV w w.heap.size x):Calls Tryz.prog 30 #[.agg (ai x.t (.slice x.A x.zs.length x.c))] w (BtB w (tu x.t) (tu x.t).length (mg x.t)):=by
 refine (Nr x w hx).mono fun e w' h=>?_;rcases h with ⟨h0,A,n,c,hl,he,ho,hb⟩|⟨h0,he,hb⟩
 ·have e1:tu x.t=lJ x.t:=if_pos h0;rw [xM] at hl ho;subst hl;rw [e1,h0];exact ⟨A,c,he,aA.dR ho,hb⟩
 ·have e1:tu x.t= []:=if_neg h0;rw [e1];exact ⟨none,0,he, .inl rfl,hb⟩
theorem UX (key:List UInt8) (x:dF) {w:World} (hx:fV w w.heap.size x):(vO key x.t).prev.length=32/\(vO key x.t).bP.length=32:=by
 obtain ⟨m,hm⟩:∃m,oh qx key (lJ x.t)=m:=⟨_,rfl⟩;have hl:m.length=32:=by rw [<-hm];exact nN _ _ _
 unfold vO;rw [hm];by_cases h0:mg x.t=0
 ·rw [if_pos h0];exact ⟨hx.prev,hl⟩
 ·rw [if_neg h0];exact ⟨rfl,rfl⟩
theorem seal_b (hK:qx.length=64) (key:List UInt8) (hk:key.length=32) (x:dF) (w:World) (hG:gK w 0 (aj qx)) (hw0:0<w.heap.size) (hx:fV w w.heap.size x) (hL:(tu x.t).length<=90000):
  Calls Tryz.prog 31 #[.agg (cellsB key), .agg (ai x.t (.slice x.A x.zs.length x.c))] w (SlB w (vO key x.t) (vO key x.t).aF.length (mg x.t)):=by
 by_cases h0:mg x.t=0
 ·have e1:tu x.t=lJ x.t:=if_pos h0;have e2:vO key x.t= {x.t with bP:=oh qx key (lJ x.t)}:=if_pos h0;rw [e1] at hL;refine (seal_g qx hK w hG hw0 key hk x.t x.A x.zs.length x.c x.zs hx.prev hx.bP h0 hL hx.names rfl hx.aF).mono fun e w' h=>?_;obtain ⟨A,c,ys,he,hz,hy,hb⟩:=h;rw [e2,h0];refine ⟨A,c,ys,?_,hz.at,hy,hb⟩;rw [he];simp only [hx.names,List.length_map]
 ·have e2:vO key x.t=bu:=if_neg h0;refine (YD w key x.t x.A x.zs.length x.c x.zs hx.prev hx.bP h0 hx.names rfl hx.aF).mono fun e w' h=>?_;rw [e2];exact ⟨none,0,[],h.1, .nil,rfl,h.2⟩
theorem Yz (key:List UInt8) (hk:key.length=32) (x:dF) (w:World) (hx:fV w w.heap.size x) (hL:(tu x.t).length<=90000):
  Calls Tryz.prog 12 #[.agg (cellsB key), .agg (ai x.t (.slice x.A x.zs.length x.c))] w (SlB w (vO key x.t) (vO key x.t).aF.length (mg x.t)):=by
 by_cases h0:mg x.t=0
 ·have e1:tu x.t=lJ x.t:=if_pos h0;have e2:vO key x.t= {x.t with bP:=oh qx key (lJ x.t)}:=if_pos h0;rw [e1,<-xM] at hL;refine (UY key hk x w hx h0 hL).mono fun e w' h=>?_;obtain ⟨d,_,hd,he,hb⟩:=h;rw [e2,h0];refine ⟨x.A,x.c,x.zs,?_,hx.aF.grow hb,hx.names.symm,hb⟩;rw [he,<-hd];simp only [hx.names,List.length_map]
 ·have e2:vO key x.t=bu:=if_neg h0;refine (QG key x w hx h0).mono fun e w' h=>?_;rw [e2];exact ⟨none,0,[],h.1, .nil,rfl,h.2⟩
theorem zone_b (x:dF) (name:ByteArray) (w:World) (hn:x.zs.length<=1000) (hl:∀y∈x.zs,jB y.e.z) (hx:fV w w.heap.size x):
  Calls Tryz.prog 28 #[.agg (ai x.t (.slice x.A x.zs.length x.c)), .string name] w (ZnB w (Dx x.t.aF name).1 (Dx x.t.aF name).2):=by
 refine (Dy x x.zs.length name w rfl hn hl hx).mono fun e w' h=>?_;obtain ⟨hb,⟨hf,he⟩|⟨z,s,hf,he,hz,_⟩⟩:=h
 ·unfold Dx;rw [hf];exact ⟨zZsV,he,Po _ _,hb⟩
 ·unfold Dx;rw [hf];exact ⟨s,he,hz.at,hb⟩
theorem YA (x:dF) (name:ByteArray) (w:World) (hn:x.zs.length<=1000) (hx:fV w w.heap.size x):
  Calls Tryz.prog 32 #[.agg (ai x.t (.slice x.A x.zs.length x.c)), .string name] w (ZnB w (Dx x.t.aF name).1 (Dx x.t.aF name).2):=by
 refine (JB x x.zs.length name w rfl (by omega) hx).mono fun e w' h=>?_;obtain ⟨hb,⟨hf,he⟩|⟨z,s,hf,he,hz,_⟩⟩:=h
 ·unfold Dx;rw [hf];exact ⟨zZsV,he,Po _ _,hb⟩
 ·unfold Dx;rw [hf];exact ⟨s,he,hz.grow hb,hb⟩
theorem VL (x:dF) (name:ByteArray) {w:World} (hl:∀y∈x.zs,jB y.e.z) (hx:fV w w.heap.size x):jB (Dx x.t.aF name).1:=by
 unfold Dx;cases h:mP x.t.aF name with
 |none=>exact VE
 |some z=>
  unfold mP at h;rw [Option.map_eq_some_iff] at h;obtain ⟨e,h1,rfl⟩:=h;have h2:=List.mem_of_find?_eq_some h1;rw [hx.names,List.mem_map] at h2;obtain ⟨y,hy,rfl⟩:=h2;exact hl y hy
end Go.Proofs.YtbaehbbonkljpaaGreatDoor
