/- Two more short forms. -/
import Derived.Test.YtdibbemgpikgjaaGreatDoorV00
namespace Go.Proofs.YtdibbemgpikgjaaGreatDoor
open Go Go.RowKit
section
variable {P:Program} {ops:Array Oper} {Q:Exit→Act→World→Prop} {md:Region.Mode} {S:World→Prop} {fuel:Nat} {listed:Array Bool} {a:Act} {w:World}
theorem aag (i:Nat) (v:Value) (d:Tmp) {oi:Oper} (hi:ops[i]? =some oi) (hd:oi.dst=some d) (hS:S w) (hy:YieldsIf P ops S oi v a) (h:wpAnyH P md ops Q S fuel (listed.setIfInBounds i true) (a.put (some d) v) w)
  (hs:Region.noSelect ops=true:=by kernel_rfl) (hf:Region.free md ops listed i=true:=by kernel_rfl) (hr:(Region.ready md ops listed).contains i=true:=by kernel_rfl)
  (hQ:∀c a w,Q (.panic c) (a.put oi.dst v) w→Q (.panic c) a w:=by exact fun _ _ _ h=>h):wpAnyH P md ops Q S (fuel+1) listed a w:=
 wpAnyH_take hi hs hf hr hQ hy hS (by rw [hd];exact h)
theorem aaf (i:Nat) (v:Value) (d:Tmp) {oi:Oper} (hi:ops[i]? =some oi) (hd:oi.dst=some d) (hS:S w) (hy:∀w,S w→(execOp a.eval oi).run P w= .ok (.value v) w) (h:wpAnyH P md ops Q S fuel (listed.setIfInBounds i true) (a.put (some d) v) w)
  (hs:Region.noSelect ops=true:=by kernel_rfl) (hf:Region.free md ops listed i=true:=by kernel_rfl) (hr:(Region.ready md ops listed).contains i=true:=by kernel_rfl)
  (hw:Region.wanted oi (yielded ops a.tmps)=true:=by rfl) (hQ:∀c a w,Q (.panic c) (a.put oi.dst v) w→Q (.panic c) a w:=by exact fun _ _ _ h=>h):wpAnyH P md ops Q S (fuel+1) listed a w:=
 wpAnyH_take hi hs hf hr hQ (.inl ⟨hw,hy⟩) hS (by rw [hd];exact h)
end
end Go.Proofs.YtdibbemgpikgjaaGreatDoor
