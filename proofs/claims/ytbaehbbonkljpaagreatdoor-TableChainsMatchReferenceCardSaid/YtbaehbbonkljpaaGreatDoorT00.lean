/- The library modules that the texts share, and a few short forms of the kit's laws. -/
import Derived.Deep.WholeRow
import Derived.Laws.Rows
import Derived.Laws.Tables
import Derived.Lib.Hide
import Derived.Outline
import Derived.WalkKit
import Derived.WalkLawsBesides
import Derived.WalkSpells
import Derived.Stop.BytesEq
import Derived.BigQuiet
import Derived.Deep.QuietTactic
import Derived.StillTailTactics
import Derived.Deep.AppendLies
import Derived.Deep.CutBlock
import Derived.Deep.DeepCutAuto
import Derived.Deep.DrawnRows
import Derived.Deep.MidRow
import Derived.Deep.RegionHeld3
import Derived.Deep.RegionLaw
import Derived.Great.BuildSlice
import Derived.Laws.BytesString
import Derived.Laws.CopyOwn
import Derived.Laws.EntriesVeiled
import Derived.Laws.MakeOwn
import Derived.Laws.ResultCell
import Derived.LoopIn
import Derived.LoopNIn
import Derived.Maps.AppendAt
import Derived.OwnWalkIn
import Derived.RangeFuncBound
import Derived.RangeFuncBox
import Derived.RangeFuncCalls
import Derived.RangeFuncLeaves
import Derived.RangeFuncNested
import Derived.Shelf.Abstract
import Derived.Shelf.Bytes.SlSmallAll
import Derived.Shelf.RegionOpen
import Derived.TacticsInMore
import Derived.Handy
import Derived.Below
import Derived.Test.YtbaehbbonkljpaaGreatDoorChecked
namespace Go.Proofs.YtbaehbbonkljpaaGreatDoor
theorem KY {α:Type _} {xs:Array α} {i:Nat} {b:α}:xs[i]? =some b↔∃h:i<xs.size,xs[i]=b:=Array.getElem?_eq_some_iff
theorem MF {α:Type _} {l:List α} {i:Nat} {a:α}:l[i]? =some a↔∃h:i<l.length,l[i]=a:=List.getElem?_eq_some_iff
theorem KN {α:Type _} {xs ys:List α}:(xs++ys).length=xs.length+ys.length:=List.length_append
theorem KL {α:Type _} {l:List α} {i:Nat} (h:i<l.length):l[i]? =some l[i]:=List.getElem?_eq_getElem h
theorem LQ {α:Type _} {l:List α} {i:Nat} {a:α} (h:l[i]? =some a):a∈l:=List.mem_of_getElem? h
theorem LK {n m k:Nat} (h1:n<m) (h2:m≤k):n<k:=Nat.lt_of_lt_of_le h1 h2
end Go.Proofs.YtbaehbbonkljpaaGreatDoor
namespace Go.Proofs.YtbaehbbonkljpaaGreatDoor
open Go Go.RowKit
theorem JJ {p:Prop} (h:p):Hid p:=Lib.hid h
theorem KG {p q:Prop} (h:p) (e:q=p:=by first|(simp only [Act.put,List.setIfInBounds_toArray,List.set_cons_zero,List.set_cons_succ];done)|(simp only [Act.put,List.setIfInBounds_toArray,List.set_cons_zero,List.set_cons_succ];rfl)|rfl):q:=Eq.mpr e h
section
variable {P:Program} {ops:Array Oper} {Q:Exit→Act→World→Prop} {md:Region.Mode} {S:World→Prop} {fuel:Nat} {listed:Array Bool} {a:Act} {w:World}
theorem aAY (i:Nat) (v:Value) (d:Tmp) {oi:Oper} (hS:S w) (hy:YieldsIf P ops S oi v a) (h:wpAnyH P md ops Q S fuel (listed.setIfInBounds i true) (a.put (some d) v) w)
  (hi:ops[i]? =some oi:=by exact rfl) (hd:oi.dst=some d:=by exact rfl) (hs:Region.noSelect ops=true:=by kernel_rfl) (hf:Region.free md ops listed i=true:=by kernel_rfl) (hr:(Region.ready md ops listed).contains i=true:=by kernel_rfl)
  (hQ:∀c a w,Q (.panic c) (a.put oi.dst v) w→Q (.panic c) a w:=by exact fun _ _ _ h=>h):wpAnyH P md ops Q S (fuel+1) listed a w:=
 wpAnyH_take hi hs hf hr hQ hy hS (by rw [hd];exact h)
theorem agj (i:Nat) (v:Value) (d:Tmp) {oi:Oper} (hS:S w) (hy:∀w,S w→(execOp a.eval oi).run P w= .ok (.value v) w) (h:wpAnyH P md ops Q S fuel (listed.setIfInBounds i true) (a.put (some d) v) w)
  (hi:ops[i]? =some oi:=by exact rfl) (hd:oi.dst=some d:=by exact rfl) (hs:Region.noSelect ops=true:=by kernel_rfl) (hf:Region.free md ops listed i=true:=by kernel_rfl) (hr:(Region.ready md ops listed).contains i=true:=by kernel_rfl)
  (hw:Region.wanted oi (yielded ops a.tmps)=true:=by rfl) (hQ:∀c a w,Q (.panic c) (a.put oi.dst v) w→Q (.panic c) a w:=by exact fun _ _ _ h=>h):wpAnyH P md ops Q S (fuel+1) listed a w:=
 wpAnyH_take hi hs hf hr hQ (.inl ⟨hw,hy⟩) hS (by rw [hd];exact h)
theorem WB (i:Nat) (v:Value) (d:Tmp) {oi:Oper} (hS:S w) (h:wpAnyH P md ops Q S fuel (listed.setIfInBounds i true) (a.put (some d) v) w)
  (hi:ops[i]? =some oi:=by exact rfl) (hd:oi.dst=some d:=by exact rfl) (hy:∀w,S w→(execOp a.eval oi).run P w= .ok (.value v) w:=by first|(intro w hS;clear hS;first|(go_simp;done)|(go_simp;with_reducible rfl))|(intro w hS;repeat (obtain ⟨_,hS⟩:=hS);first|(go_simp;done)|(go_simp;with_reducible rfl)))
  (hs:Region.noSelect ops=true:=by kernel_rfl) (hf:Region.free md ops listed i=true:=by kernel_rfl) (hr:(Region.ready md ops listed).contains i=true:=by kernel_rfl)
  (hw:Region.wanted oi (yielded ops a.tmps)=true:=by rfl) (hQ:∀c a w,Q (.panic c) (a.put oi.dst v) w→Q (.panic c) a w:=by exact fun _ _ _ h=>h):wpAnyH P md ops Q S (fuel+1) listed a w:=
 wpAnyH_take hi hs hf hr hQ (.inl ⟨hw,hy⟩) hS (by rw [hd];exact h)
theorem JZ (i:Nat) (v:Value) (d:Tmp) {oi:Oper} {p:Prop} (hS:S w) (h:p)
  (hi:ops[i]? =some oi:=by exact rfl) (hd:oi.dst=some d:=by exact rfl) (hy:∀w,S w→(execOp a.eval oi).run P w= .ok (.value v) w:=by first|(intro w hS;clear hS;first|(go_simp;done)|(go_simp;with_reducible rfl))|(intro w hS;repeat (obtain ⟨_,hS⟩:=hS);first|(go_simp;done)|(go_simp;with_reducible rfl)))
  (e:wpAnyH P md ops Q S fuel (listed.setIfInBounds i true) (a.put (some d) v) w=p:=by first|(simp only [Act.put,List.setIfInBounds_toArray,List.set_cons_zero,List.set_cons_succ];done)|(simp only [Act.put,List.setIfInBounds_toArray,List.set_cons_zero,List.set_cons_succ];rfl)|rfl) (hs:Region.noSelect ops=true:=by kernel_rfl) (hf:Region.free md ops listed i=true:=by kernel_rfl) (hr:(Region.ready md ops listed).contains i=true:=by kernel_rfl)
  (hw:Region.wanted oi (yielded ops a.tmps)=true:=by rfl) (hQ:∀c a w,Q (.panic c) (a.put oi.dst v) w→Q (.panic c) a w:=by exact fun _ _ _ h=>h):wpAnyH P md ops Q S (fuel+1) listed a w:=
 wpAnyH_take hi hs hf hr hQ (.inl ⟨hw,hy⟩) hS (by rw [hd];exact Eq.mpr e h)
theorem LG (i:Nat) (v:Value) (d:Tmp) {oi:Oper} {p:Prop} (hi:ops[i]? =some oi) (hd:oi.dst=some d) (hS:S w) (hy:YieldsIf P ops S oi v a) (h:p)
  (e:wpAnyH P md ops Q S fuel (listed.setIfInBounds i true) (a.put (some d) v) w=p:=by first|(simp only [Act.put,List.setIfInBounds_toArray,List.set_cons_zero,List.set_cons_succ];done)|(simp only [Act.put,List.setIfInBounds_toArray,List.set_cons_zero,List.set_cons_succ];rfl)|rfl) (hs:Region.noSelect ops=true:=by kernel_rfl) (hf:Region.free md ops listed i=true:=by kernel_rfl) (hr:(Region.ready md ops listed).contains i=true:=by kernel_rfl)
  (hQ:∀c a w,Q (.panic c) (a.put oi.dst v) w→Q (.panic c) a w:=by exact fun _ _ _ h=>h):wpAnyH P md ops Q S (fuel+1) listed a w:=
 wpAnyH_take hi hs hf hr hQ hy hS (by rw [hd];exact Eq.mpr e h)
theorem KX (i:Nat) {o:Oper} (h:∀K':Act→World→Prop,Shut (∀a w,S w→(S w→wpAnyH P md ops Q S fuel (listed.setIfInBounds i true) a w)→K' a w)→if Region.wanted o (yielded ops a.tmps)=true then Oper.wp P o a w K' Q else K' (a.put o.dst undef) w)
  (ho:ops[i]? =some o:=by exact rfl) (hr:Region.ready md ops listed= [i]:=by kernel_rfl):wpAnyH P md ops Q S (fuel+1) listed a w:=
 wpAnyH_ready hr (by simp) (AllReadyH.cons ho h AllReadyH.nil)
theorem Qz (i j:Nat) {o u:Oper} (h:∀K':Act→World→Prop,Shut (∀a w,S w→(S w→wpAnyH P md ops Q S fuel (listed.setIfInBounds i true) a w)→K' a w)→if Region.wanted o (yielded ops a.tmps)=true then Oper.wp P o a w K' Q else K' (a.put o.dst undef) w)
  (h2:∀K':Act→World→Prop,Shut (∀a w,S w→(S w→wpAnyH P md ops Q S fuel (listed.setIfInBounds j true) a w)→K' a w)→if Region.wanted u (yielded ops a.tmps)=true then Oper.wp P u a w K' Q else K' (a.put u.dst undef) w)
  (ho:ops[i]? =some o:=by exact rfl) (hu:ops[j]? =some u:=by exact rfl) (hr:Region.ready md ops listed= [i,j]:=by kernel_rfl):wpAnyH P md ops Q S (fuel+1) listed a w:=
 wpAnyH_ready hr (by simp) (AllReadyH.cons ho h (AllReadyH.cons hu h2 AllReadyH.nil))
end
end Go.Proofs.YtbaehbbonkljpaaGreatDoor
namespace Go.Proofs.YtbaehbbonkljpaaGreatDoor
open Go Go.RowKit
section
variable {P:Program} {ops:Array Oper} {Q:Exit→Act→World→Prop} {md:Region.Mode} {S:World→Prop} {fuel:Nat} {listed:Array Bool} {a:Act} {w:World}
theorem aEP (i:Nat) (v:Value) (d:Tmp) {oi:Oper} (hi:ops[i]? =some oi) (hd:oi.dst=some d) (hS:S w) (hy:YieldsIf P ops S oi v a) (h:wpAnyH P md ops Q S fuel (listed.setIfInBounds i true) (a.put (some d) v) w)
  (hs:Region.noSelect ops=true:=by kernel_rfl) (hf:Region.free md ops listed i=true:=by kernel_rfl) (hr:(Region.ready md ops listed).contains i=true:=by kernel_rfl)
  (hQ:∀c a w,Q (.panic c) (a.put oi.dst v) w→Q (.panic c) a w:=by exact fun _ _ _ h=>h):wpAnyH P md ops Q S (fuel+1) listed a w:=
 wpAnyH_take hi hs hf hr hQ hy hS (by rw [hd];exact h)
theorem aoH (i:Nat) (v:Value) (d:Tmp) {oi:Oper} (hi:ops[i]? =some oi) (hd:oi.dst=some d) (hS:S w) (hy:∀w,S w→(execOp a.eval oi).run P w= .ok (.value v) w) (h:wpAnyH P md ops Q S fuel (listed.setIfInBounds i true) (a.put (some d) v) w)
  (hs:Region.noSelect ops=true:=by kernel_rfl) (hf:Region.free md ops listed i=true:=by kernel_rfl) (hr:(Region.ready md ops listed).contains i=true:=by kernel_rfl)
  (hw:Region.wanted oi (yielded ops a.tmps)=true:=by rfl) (hQ:∀c a w,Q (.panic c) (a.put oi.dst v) w→Q (.panic c) a w:=by exact fun _ _ _ h=>h):wpAnyH P md ops Q S (fuel+1) listed a w:=
 wpAnyH_take hi hs hf hr hQ (.inl ⟨hw,hy⟩) hS (by rw [hd];exact h)
end
end Go.Proofs.YtbaehbbonkljpaaGreatDoor
namespace Go.Proofs.YtbaehbbonkljpaaGreatDoor
abbrev ae:=Go.World
abbrev ag:=@List
abbrev ah:=Go.Value
abbrev ai:=@Go.RowKit.Below
abbrev aj:=@Option
abbrev au:=UInt8
abbrev ax:=@Array
abbrev ay:=@Nat.le_refl
abbrev az:=@Go.Proofs.Tryz.underlying26
abbrev aA:=@Go.IntKind.wrap_i64
abbrev aB:=@Go.wpList_store_row
abbrev aC:=@Go.cell_of_row
abbrev aF:=@Go.heap_alloc_last
abbrev aG:=@Nat.zero_le
abbrev aH:=@List.append_assoc
abbrev aI:=@List.length_map
abbrev aJ:=@List.getElem?_map
abbrev aK:=@Go.Proofs.Tryz.underlying24
abbrev aN:=@Go.heap_setCell_other
abbrev aO:=@Nat.le_trans
abbrev aP:=@Go.frozen_of_row
abbrev aQ:=@Go.setRow_heap
abbrev aS:=@Int.tmod_eq_emod_of_nonneg
abbrev aT:=@Nat.zero_add
abbrev aU:=@List.take_of_length_le
abbrev aV:=@Go.RowKit.Below.heap_alloc
abbrev aW:=@Go.RowKit.Below.refl
abbrev aX:=@Go.bodyPost_ret
abbrev aY:=@List.mem_singleton
abbrev aZ:=@decide_eq_true
abbrev bf:=@Array.getElem?_setIfInBounds_ne
abbrev bn:=@List.length_take
abbrev bu:=@List.eq_nil_of_length_eq_zero
abbrev bC:=@Go.Proofs.Tryz.underlying55
abbrev bD:=@if_pos
abbrev bF:=@Go.yieldsIf_load_mid
abbrev bG:=@List.length_cons
abbrev bH:=@List.getElem?_append_right
abbrev bI:=@Go.World.cell?_of_block
abbrev bJ:=@Go.heap_setCell_same
abbrev bK:=@Go.wpList_append_own_at
abbrev bP:=@if_neg
abbrev bQ:=@Go.World.putObj_heap_other
abbrev bT:=@decide_eq_false
abbrev bU:=@List.nil_append
abbrev bV:=@Nat.le_succ
abbrev bW:=@Go.heap_alloc2_new
abbrev bY:=@List.map_append
abbrev bZ:=@List.size_toArray
abbrev cu:=@Go.Proofs.Tryz.underlying69
abbrev cZ:=@Go.setRow_other
abbrev df:=@Array.replicate_succ
abbrev dh:=@Array.replicate_zero
abbrev di:=@Array.size_setIfInBounds
abbrev dm:=@List.mem_append
abbrev dn:=@List.cons_append
abbrev dw:=@List.append_toArray
abbrev dA:=@congrArg
abbrev dB:=@List.setIfInBounds_toArray
abbrev dC:=@Go.wpAnyH_done
abbrev dD:=@Go.World.ownsRow_nil
abbrev dE:=@List.length_nil
abbrev dF:=@Array.length_toList
abbrev dG:=@Go.wp_region_held_drew
abbrev dH:=@Go.results_cell_row
abbrev dI:=@List.flatMap_cons
abbrev dJ:=@Go.heap_alloc2_old
abbrev dK:=@List.getElem?_take_of_lt
abbrev dL:=@List.push_toArray
abbrev dM:=@Go.Proofs.Tryz.underlying32
abbrev dN:=@Go.info_parts
abbrev dO:=@Go.World.size_alloc
abbrev dP:=@List.mem_of_mem_take
abbrev dQ:=@List.mem_cons
abbrev dR:=@List.take_append_drop
abbrev dS:=@Array.all_eq_true_iff_forall_mem
abbrev dU:=@Go.World.ownsRow.lt
abbrev dV:=@Go.AllReadyH.cons
abbrev dW:=@List.drop_of_length_le
abbrev dX:=@Go.Result.andThen_ok
abbrev dY:=@Go.Calls.quiet_of_same
abbrev dZ:=@List.getElem?_append_left
abbrev ed:=@List.not_mem_nil
abbrev eu:=@List.length_set
abbrev eF:=@List.drop_eq_getElem_cons
abbrev eG:=@List.flatMap_append
abbrev eH:=@Go.below_setRow
abbrev eP:=@decide_eq_true_eq
abbrev eQ:=@Array.getElem?_toList
abbrev eU:=@List.getElem?_toArray
abbrev eX:=@Bool.and_eq_true
abbrev eY:=@List.set_append_right
abbrev fA:=@Nat.mul_one
abbrev fC:=@Array.getElem?_eq_getElem
abbrev fD:=@Nat.not_lt_zero
abbrev fE:=@Nat.add_assoc
abbrev fF:=@List.map_cons
abbrev fG:=@Nat.lt_succ_iff_lt_or_eq
abbrev fH:=@Go.Sem.run_bind
abbrev fJ:=@List.mem_map
abbrev fK:=@Go.run_equal_slice_nil
abbrev fM:=@List.mem_map_of_mem
abbrev fO:=@Go.World.ownsRow.alloc
abbrev fP:=@Go.step_append_lies
abbrev fQ:=@Go.Proofs.Tryz.underlying66
abbrev fU:=@List.getElem?_of_mem
abbrev fV:=@List.take_append_of_le_length
abbrev fZ:=@Classical.byContradiction
abbrev gm:=@List.cons.injEq
abbrev gq:=@Array.setIfInBounds_setIfInBounds
abbrev gu:=@Go.KeepsOthers.setCell
abbrev gy:=@Go.wpListIn_append_own
abbrev gz:=@List.length_replicate
abbrev gB:=@Go.DataW.trod_struct
abbrev gG:=@Int.emod_lt_of_pos
abbrev gI:=@List.mem_cons_self
abbrev gJ:=@Go.Proofs.Tryz.underlying220
abbrev gK:=@Int.tdiv_eq_ediv_of_nonneg
abbrev gQ:=@List.getElem?_set_ne
abbrev gU:=@Nat.zero_mul
abbrev gV:=@Go.Proofs.Tryz.underlying9
abbrev gW:=@Go.Proofs.Tryz.underlying5
abbrev gX:=@Go.callsIn_wide
abbrev gY:=@Nat.le_add_right
abbrev gZ:=@of_decide_eq_true
abbrev ig:=@Go.rounds_succ
abbrev ik:=@Go.callsIn_of_wp
abbrev iq:=@List.append_nil
abbrev iy:=@List.set_cons_zero
abbrev iC:=@Nat.add_sub_cancel
abbrev iD:=@Go.Proofs.Tryz.underlying190
abbrev iE:=@List.mem_cons_of_mem
abbrev iF:=@List.all_eq_true
abbrev iG:=@Int.eq_ofNat_of_zero_le
abbrev iH:=@List.length_drop
abbrev iI:=@Array.getElem?_eq_none
abbrev iJ:=@List.getElem?_set_self
abbrev iK:=@Go.callsIn_of_wp_marks
abbrev iL:=@Int.emod_nonneg
abbrev iM:=@Go.Oper.semAt_some
abbrev iO:=@Option.some.inj
abbrev iP:=@Go.World.cell?_setCell_other
abbrev iQ:=@List.set_cons_succ
abbrev iR:=@List.map_nil
abbrev iT:=@Nat.le_of_eq
abbrev iU:=@List.mem_range
abbrev iV:=@or_false
abbrev iW:=@Go.Proofs.Tryz.underlying62
abbrev iY:=@Go.Proofs.Tryz.underlying22
abbrev iZ:=@Array.getElem?_setIfInBounds
abbrev ja:=@List.map_eq_nil_iff
abbrev jb:=@Go.Addr.add_mid
abbrev jc:=@Option.getD_some
abbrev jd:=@Go.run_takeDeferred
abbrev je:=@Go.Proofs.Tryz.underlying4
abbrev jf:=@Go.wpList_append_lies
abbrev jg:=@Nat.le_of_ble_eq_true
abbrev jh:=@List.pairwise_iff_getElem
abbrev ji:=@List.take_add_one
abbrev jk:=@Go.cell_one_new
abbrev jl:=@Nat.succ_pos
abbrev jm:=@Go.Proofs.Tryz.underlying67
abbrev jo:=@Int.toNat_natCast
abbrev jq:=@Go.AllReadyH.nil
abbrev jr:=@List.take_succ_cons
abbrev jv:=@List.mem_flatMap
abbrev jw:=@List.map_toArray
abbrev jy:=@Nat.lt_succ_self
abbrev jA:=@Go.Oper.semAt_plain
abbrev jB:=@List.take_length
abbrev jC:=@Go.Proofs.Tryz.underlying3
abbrev jD:=@List.drop_append_of_le_length
abbrev jE:=@Nat.mod_lt
abbrev jF:=@Go.Sem.run_pure
abbrev jG:=@Array.ext_getElem?
abbrev jH:=@Go.wpAnyH_ready
abbrev jI:=@Go.World.putObj_heap_same
abbrev jJ:=@Nat.eq_zero_or_pos
abbrev jK:=@Go.Proofs.Tryz.underlying108
abbrev jL:=@List.getElem?_drop
abbrev jM:=@Go.wpList_load_mid
abbrev jO:=@List.find?_cons
abbrev jP:=@List.getElem?_eq_none
abbrev jQ:=@Go.below_drewN
abbrev jR:=@Array.toList_setIfInBounds
abbrev jS:=@Go.wpListIn_plain
abbrev jT:=@List.mem_iff_getElem
abbrev jU:=@Go.wp_loop_rounds
abbrev jV:=@List.getElem_mem
abbrev jW:=@List.map_set
abbrev jX:=@Nat.add_zero
abbrev jY:=@List.mem_or_eq_of_mem_set
abbrev jZ:=@List.drop_succ_cons
abbrev ku:=@Go.Great.fill_whole
abbrev kz:=@and_true
abbrev kC:=@Bool.false_eq_true
abbrev kD:=@Go.Proofs.Tryz.underlying155
abbrev kF:=@Nat.gcd_pos_of_pos_left
abbrev kG:=@List.getElem?_cons_succ
abbrev kH:=@Go.wpList_plain
abbrev kJ:=@Nat.succ_mul
abbrev kK:=@Go.Proofs.Tryz.underlying63
abbrev kL:=@List.take_succ_eq_append_getElem
abbrev kM:=@Int.add_zero
abbrev kN:=@Nat.sub_self
abbrev kP:=@Nat.add_comm
abbrev kQ:=@Go.run_equalIn_bytes
abbrev kR:=@List.drop_zero
abbrev kS:=@Go.wpList_buildSlice
abbrev kT:=@List.drop_drop
abbrev kU:=@Go.run_convert_bytes_arg
abbrev kV:=@Array.getElem?_modify
abbrev kW:=@Go.RowKit.ownsRow_setCell_below
abbrev kX:=@List.set_append_left
abbrev kY:=@List.mem_of_mem_drop
abbrev kZ:=@Nat.shiftLeft_add_eq_or_of_lt
abbrev lg:=@Go.RowKit.Below.trans
abbrev lh:=@Array.toArray_toList
abbrev lq:=@Nat.div_le_self
abbrev lu:=@Go.run_loadVar_mid
abbrev lC:=@List.foldl_cons
abbrev lD:=@Nat.min_eq_left
abbrev lF:=@Go.IntKind.wrap_u8
abbrev lG:=@Go.results_none
abbrev lH:=@getElem!_pos
abbrev lI:=@Int.zero_mul
abbrev lJ:=@Nat.lt_or_ge
abbrev lK:=@Go.Proofs.enters_of
abbrev lL:=@List.getElem?_take
abbrev lM:=@Go.World.ownsRow.kept
abbrev lN:=@Array.getElem?_append_left
abbrev lQ:=@Nat.lt_of_lt_of_eq
abbrev lS:=@List.take_zero
abbrev lT:=@Go.Proofs.Tryz.underlying76
abbrev lU:=@List.ext_getElem?
abbrev lV:=@Go.IntKind.wrap_u32'
abbrev lW:=@Nat.le_succ_of_le
abbrev lX:=@Go.Proofs.Tryz.underlying29
abbrev lY:=@Bool.false_or
abbrev lZ:=@List.map_take
abbrev l7:=@Go.IntKind.wrap_u64
abbrev l9:=@Go.belowK_b
abbrev mf:=@List.flatMap_nil
abbrev mg:=@List.getElem?_replicate
abbrev mr:=@Nat.mul_div_cancel_left
abbrev mD:=@Go.IntKind.wrap_u8'
abbrev mF:=@Go.wpList_store_mid
abbrev mG:=@List.append_cancel_left
abbrev mJ:=@Go.DataW.trod_array
abbrev mM:=@Nat.gcd_comm
abbrev mO:=@Nat.div_mul_right_comm
abbrev mP:=@Go.Proofs.Tryz.ntmps64
abbrev mQ:=@Go.Proofs.Tryz.func117
abbrev mV:=@Option.map_eq_some_iff
abbrev mW:=@Go.Proofs.Tryz.ntmps16
abbrev mX:=@Go.run_loadVar_row
abbrev mY:=@Go.Proofs.Tryz.zeroValue3
abbrev mZ:=@Option.map_some
abbrev ng:=@Go.grownBy_putObj'
abbrev ni:=@Go.trodAll_cons_mk
abbrev nz:=@List.mem_iff_getElem?
abbrev nC:=@List.length_singleton
abbrev nG:=@Go.wp_load_mid
abbrev nI:=@Nat.lcm_pos
abbrev nJ:=@Nat.mul_le_mul_right
abbrev nM:=@Go.run_neq_struct
abbrev nN:=@Go.Proofs.Tryz.func64
abbrev nO:=@Go.run_underlying
abbrev nP:=@Go.wpStill_nil
abbrev nR:=@List.replicate_succ'
abbrev nU:=@Go.Proofs.Tryz.func16
abbrev nV:=@Go.DataW.trod_int
abbrev nX:=@Int.toNat_of_nonneg
abbrev ou:=@beq_eq_false_iff_ne
abbrev oz:=@List.map_eq_flatMap
abbrev oC:=@List.take_set
abbrev oG:=@Go.DataW.trod_lt
abbrev oH:=@Nat.gcd_zero_right
abbrev oJ:=@List.find?_eq_none
abbrev oK:=@cond_false
abbrev oM:=@Array.extract_size
abbrev oN:=@of_decide_eq_false
abbrev oO:=@List.mergeSort_nil
abbrev oP:=@BitVec.toInt_ofInt
abbrev oQ:=@List.map_replicate
abbrev pg:=@Go.wp_store_row
abbrev qw:=@Go.Boxed.new
abbrev qC:=@Go.wpIn_wide
abbrev qK:=@Nat.mod_one
abbrev qO:=@Int.le_refl
abbrev sG:=@if_false
end Go.Proofs.YtbaehbbonkljpaaGreatDoor
