/- The texts Lp, in this order. -/
import Derived.Test.YtdibbemgpikgjaaGreatDoorV00
import Derived.Test.YtdibbemgpikgjaaGreatDoorV40
namespace Go.Proofs.YtdibbemgpikgjaaGreatDoor
open Go Go.RowKit
theorem prefA {w w':World} {e:Ending} {A A':Option Addr} {c c':Nat} {LS NS:List di} {nm:ByteArray} (hL:pick LS nm=some z0) (hN:pick NS nm=none) (h:O6 w [⟨A,c,LS⟩,⟨A',c',NS⟩] [1,0] nm e w'):
  Below w.heap.size w w'∧∃s,e= .returned (.tuple #[.agg (ay z0 s),I 0,I 0]):=by
 have p1:pk [⟨A,c,LS⟩,⟨A',c',NS⟩] nm 1=none:=hN
 have p0:pk [⟨A,c,LS⟩,⟨A',c',NS⟩] nm 0=some z0:=hL
 obtain ⟨hb,⟨⟨k,hk,hn⟩,_⟩|⟨_,⟨hall,_⟩|⟨j,k,z,s,hj,hp,_,he,_⟩⟩⟩:=h
 ·exfalso
  apply hn
  simp only [List.mem_cons,List.not_mem_nil,or_false] at hk
  rcases hk with rfl|rfl
  ·exact ⟨by decide,by show (1:Int)<2;decide⟩
  ·exact ⟨by decide,by show (0:Int)<2;decide⟩
 ·have:=hall 0 (by simp)
  rw [p0] at this
  cases this
 ·have hjl:j<2:=(List.getElem?_eq_some_iff.1 hj).1
  rcases Nat.lt_succ_iff_lt_or_eq.1 hjl with h0|rfl
  ·have e0:j=0:=by omega
   subst e0
   injection hj with hj
   subst hj
   rw [p1] at hp
   cases hp
  ·injection hj with hj
   subst hj
   rw [p0] at hp
   injection hp with hp
   subst hp
   exact ⟨hb,s,he⟩
theorem prefB {w w':World} {e:Ending} {A A':Option Addr} {c c':Nat} {LS NS:List di} {nm:ByteArray} (h:O6 w [⟨A,c,LS⟩,⟨A',c',NS⟩] [2] nm e w'):
  Below w.heap.size w w'∧e= .returned (.tuple #[.agg iE,I 0,I 1]):=by
 obtain ⟨hb,⟨_,he⟩|⟨hall,_⟩⟩:=h
 ·exact ⟨hb,he⟩
 ·have:=hall 2 (by simp)
  exact absurd this.2 (by show¬((2:Int)<2);decide)
theorem PE (W:World) (cs:List zk) (vs:Array Value) (t:TypeId) (h:vs.toList=cs.map zk.cell) (he:∀x∈cs,gW W W.heap.size x.A x.ts):zl (W.alloc (.cells vs t)) (W.alloc (.cells vs t)).heap.size (some ⟨W.heap.size,0,none⟩) cs:=by
 refine ⟨.inr ⟨W.heap.size,0,rfl,by simp,fun j u hu=>?_⟩,fun x hx=>(he x hx).grow (ag W _)⟩
 rw [Nat.zero_add,cell_of_row _ _ j _ _ _ (heap_alloc_last W _),←Array.getElem?_toList,h]
 exact hu
theorem GG (W:World) (zs:List Int) (vs:Array Value) (t:TypeId) (h:vs.toList=zs.map I):dY (W.alloc (.cells vs t)) (W.alloc (.cells vs t)).heap.size (some ⟨W.heap.size,0,none⟩) zs:=by
 refine az.ints (.inr ⟨W.heap.size,0,rfl,by simp,fun j u hu=>?_⟩)
 rw [Nat.zero_add,cell_of_row _ _ j _ _ _ (heap_alloc_last W _),←Array.getElem?_toList,h]
 exact hu
theorem zoneB {w w':World} {e:Ending} (h:Vm w [yO] ⟨#[98]⟩ e w'):Below w.heap.size w w'∧e= .returned (.tuple #[.agg iE,I 4]):=by
 obtain ⟨hb,⟨_,he⟩|⟨z,s,hz,_⟩⟩:=h
 ·exact ⟨hb,he⟩
 ·rw [UG] at hz
  cases hz
theorem Og (n wd:Int) (A:Option Addr) (c:Nat) (s:Zs) (W:World) (h:jF W W.heap.size (yT n wd A c s)):Calls Tryz.prog 24 #[.agg (yT n wd A c s).cells.toArray, .string ⟨#[98]⟩] W fun e w'=>Below W.heap.size W w'∧e= .returned (.tuple #[.agg iE,I 4]):=
 (Ic (yT n wd A c s) 1 ⟨#[98]⟩ W rfl (by omega) (xu n wd A c s).2 h).mono (fun e w' h=>zoneB h)
theorem gW.head {w:World} {B b off:Nat} {y:di} {ts:List di} (h:gW w B (some ⟨b,off,none⟩) (y::ts)) (hy:y.cells.length=68):w.rangeAt b off y.cells∧b<B:=by
 rcases h.row with h|⟨b2,yD,h1,h2,h3⟩
 ·rw [List.flatMap_cons,List.length_append,hy] at h
  omega
 ·injection h1 with h1
  injection h1 with h1 h4
  subst h1 h4
  exact ⟨fun j u hu=>h3 j u (by rw [List.flatMap_cons,List.getElem?_append_left (List.getElem?_eq_some_iff.1 hu).1];exact hu),h2⟩
theorem Uy (n wd:Int) (A:Option Addr) (c:Nat) (s:Zs) (W:World) (hn:n<1):Calls Tryz.prog 26 #[.agg (yT n wd A c s).cells.toArray] W (Gives (.int .i64 1) W):=
 QY (vt n wd true) A 1 c W ⟨by show (0:Int)≤2;decide,by show (2:Int)<16;decide⟩ (by show n<1;exact hn)
end Go.Proofs.YtdibbemgpikgjaaGreatDoor
