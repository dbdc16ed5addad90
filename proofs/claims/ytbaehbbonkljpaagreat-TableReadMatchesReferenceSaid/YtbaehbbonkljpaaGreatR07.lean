/- The texts Sb, in this order. -/
import Derived.Test.YtbaehbbonkljpaaGreatR00
import Derived.Test.YtbaehbbonkljpaaGreatR03
import Derived.Test.YtbaehbbonkljpaaGreatR04
set_option maxRecDepth 10000
set_option maxHeartbeats 8000000
namespace Go.Proofs.YtbaehbbonkljpaaGreat
open Go Go.RowKit
attribute [local go_sem] dI dM dJ dN fJ fK dG dK dH dL jc jd
def kG (xs:List Value) (o:Nat):List Value→List Value
 | []=>xs
 |v::vs=>kG (xs.set o v) (o+1) vs
theorem yx:∀(vs:List Value) (cs:Array Value) (o m:Nat),(iJ cs o vs).toList.take m=kG (cs.toList.take m) o vs
 | [],_,_,_=>rfl
 |v::vs,cs,o,m=>by
  unfold iJ kG;rw [yx vs,Array.toList_setIfInBounds,List.take_set]
theorem sW:∀(vs:List Value) (cs:Array Value) (o:Nat),(iJ cs o vs).size=cs.size
 | [],_,_=>rfl
 |v::vs,cs,o=>by
  unfold iJ;rw [sW vs,Array.size_setIfInBounds]
theorem yw:∀(vs xs:List Value) (o:Nat),(kG xs o vs).length=xs.length
 | [],_,_=>rfl
 |v::vs,xs,o=>by
  unfold kG;rw [yw vs,List.length_set]
theorem oP (vs ls z:List Value) (h:z.length=vs.length):kG (ls++z) ls.length vs=ls++vs:=by
 induction vs generalizing ls z with
 |nil=>
  rw [List.eq_nil_of_length_eq_zero h];rfl
 |cons v vs ih=>
  obtain ⟨u,z',rfl⟩:∃u z',z=u::z':=by
   cases z with
   |nil=>simp at h
   |cons u z'=>exact ⟨u,z',rfl⟩
  unfold kG;have h2:=ih (ls++ [v]) z' (by simpa using h);rw [bH,List.length_singleton] at h2;rw [List.set_append_right _ _ (Nat.le_refl _),Nat.sub_self,List.set_cons_zero];simpa using h2
theorem zF {W W':World} {lo e size g n m cap rb o:Nat} {xs vs:List Value} {cur:Array Value} (h:W.ownsRow lo e size (.slice (some ⟨g,0,none⟩) n cap) m xs) (hg:W.heap[g]? =some (.cells cur e (0,0))) (hp:bI W rb g e (iJ cur o vs) W'):
  W'.ownsRow lo e size (.slice (some ⟨g,0,none⟩) n cap) m (kG xs o vs):=by
 obtain ⟨cur',h1,h2,h3,h4,h5,h6,h7,rfl⟩:=kF h;rw [hg] at h1;injection h1 with h1;injection h1 with h1;subst h1;exact LH hp.tgt h2 h3 h4 (by rw [sW];exact h5) (by rw [yx,h6]) (by rw [yw];exact h7)
def Wy (M:Nat) (w:World) (rb pb po:Nat) (t:TypeId) (cs:Array Value) (E s:Nat) (ls:List Value) (n:Nat) (R:List UInt8) (e:Ending) (w':World):Prop:=
 e= .returned (.tuple #[])∧∃A c,jH M w' rb R∧bI w rb pb t (cs.setIfInBounds po (.slice A n c)) w'∧w'.ownsRow w.heap.size E s (.slice A n c) n ls∧(n=0→A=none∧c=0)
end Go.Proofs.YtbaehbbonkljpaaGreat
