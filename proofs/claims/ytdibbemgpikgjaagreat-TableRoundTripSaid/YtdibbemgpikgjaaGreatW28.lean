/- The texts Sb, in this order. -/
import Derived.Test.YtdibbemgpikgjaaGreatW00
import Derived.Test.YtdibbemgpikgjaaGreatW06
import Derived.Test.YtdibbemgpikgjaaGreatW07
set_option maxRecDepth 10000
set_option maxHeartbeats 8000000
namespace Go.Proofs.YtdibbemgpikgjaaGreat
open Go Go.RowKit
attribute [local go_sem] dD dH dE dI ed eu dB dF dC dG jA jB
def lC (xs:List Value) (o:Nat):List Value→List Value
 | []=>xs
 |v::vs=>lC (xs.set o v) (o+1) vs
theorem zL:∀(vs:List Value) (cs:Array Value) (o m:Nat),(iW cs o vs).toList.take m=lC (cs.toList.take m) o vs
 | [],_,_,_=>rfl
 |v::vs,cs,o,m=>by
  unfold iW lC;rw [zL vs,Array.toList_setIfInBounds,List.take_set]
theorem uA:∀(vs:List Value) (cs:Array Value) (o:Nat),(iW cs o vs).size=cs.size
 | [],_,_=>rfl
 |v::vs,cs,o=>by
  unfold iW;rw [uA vs,Array.size_setIfInBounds]
theorem zK:∀(vs xs:List Value) (o:Nat),(lC xs o vs).length=xs.length
 | [],_,_=>rfl
 |v::vs,xs,o=>by
  unfold lC;rw [zK vs,List.length_set]
theorem qc (vs ls z:List Value) (h:z.length=vs.length):lC (ls++z) ls.length vs=ls++vs:=by
 induction vs generalizing ls z with
 |nil=>
  rw [List.eq_nil_of_length_eq_zero h];rfl
 |cons v vs ih=>
  obtain ⟨u,z',rfl⟩:∃u z',z=u::z':=by
   cases z with
   |nil=>simp at h
   |cons u z'=>exact ⟨u,z',rfl⟩
  unfold lC;have h2:=ih (ls++ [v]) z' (by simpa using h);rw [bF,List.length_singleton] at h2;rw [List.set_append_right _ _ (Nat.le_refl _),Nat.sub_self,List.set_cons_zero];simpa using h2
theorem Be {W W':World} {lo e size g n m cap rb o:Nat} {xs vs:List Value} {cur:Array Value} (h:W.ownsRow lo e size (.slice (some ⟨g,0,none⟩) n cap) m xs) (hg:W.heap[g]? =some (.cells cur e (0,0))) (hp:bD W rb g e (iW cur o vs) W'):
  W'.ownsRow lo e size (.slice (some ⟨g,0,none⟩) n cap) m (lC xs o vs):=by
 obtain ⟨cur',h1,h2,h3,h4,h5,h6,h7,rfl⟩:=ji h;rw [hg] at h1;injection h1 with h1;injection h1 with h1;subst h1;exact G8 hp.tgt h2 h3 h4 (by rw [uA];exact h5) (by rw [zL,h6]) (by rw [zK];exact h7)
def Ws (M:Nat) (w:World) (rb pb po:Nat) (t:TypeId) (cs:Array Value) (E s:Nat) (ls:List Value) (n:Nat) (R:List UInt8) (e:Ending) (w':World):Prop:=
 e= .returned (.tuple #[])∧∃A c,fQ M w' rb R∧bD w rb pb t (cs.setIfInBounds po (.slice A n c)) w'∧w'.ownsRow w.heap.size E s (.slice A n c) n ls∧(n=0→A=none∧c=0)
end Go.Proofs.YtdibbemgpikgjaaGreat
