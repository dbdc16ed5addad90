/- append of a string to a row of bytes of one's own. -/
import Derived.Test.YtbdkalpljhpnmaaGreatPm
import Derived.BigQuiet
import Derived.Deep.AppendLies
import Derived.Deep.CutBlock
import Derived.Deep.DeepCutAuto
import Derived.Deep.DrawnRows
import Derived.Deep.MidRow
import Derived.Deep.QuietTactic
import Derived.Deep.RegionHeld3
import Derived.Deep.RegionLaw
import Derived.Deep.WholeRow
import Derived.Great.BuildSlice
import Derived.Laws.BytesString
import Derived.Laws.CopyOwn
import Derived.Laws.EntriesVeiled
import Derived.Laws.MakeOwn
import Derived.Laws.ResultCell
import Derived.Laws.Rows
import Derived.Laws.Tables
import Derived.Lib.AppendStr
import Derived.Lib.Hide
import Derived.LoopIn
import Derived.LoopNIn
import Derived.Maps.AppendAt
import Derived.Outline
import Derived.OwnWalkIn
import Derived.RangeFuncBound
import Derived.RangeFuncBox
import Derived.RangeFuncCalls
import Derived.RangeFuncLeaves
import Derived.RangeFuncNested
import Derived.Shelf.Abstract
import Derived.Shelf.Bytes.SlSmallAll
import Derived.Shelf.RegionOpen
import Derived.StillTailTactics
import Derived.Stop.BytesEq
import Derived.TacticsInMore
import Derived.WalkKit
import Derived.WalkLawsBesides
import Derived.WalkSpells
namespace Go.Proofs.YtbdkalpljhpnmaaGreat
open Go Go.RowKit

set_option maxRecDepth 10000 in
theorem run_app_str (w : World) (base : Nat) (ty : TypeId) (v : Value) (n : Nat) (xs : List Value) (hown : w.ownsRow base 5 1 v n xs) (s : ByteArray) (hlen : n + s.size ≤ 1000000000000) (hbase : base ≤ w.heap.size) :
    ∃ v' w', (Builtin.append_ #[23, 9] ty #[v, .string s]).run Tryz.prog w = .ok v' w' ∧ w'.ownsRow base 5 1 v' (n + s.size) (xs ++ Lib.strCells s) ∧ w.grownBy w' v.ownBlock ∧ (v'.ownBlock = v.ownBlock ∨ v'.ownBlock = some w.heap.size) := by
  obtain ⟨i0, hi, hz0, hz1, hz2⟩ := info_parts info_u8
  obtain ⟨v', w', hr, h2, h3, h4⟩ := Lib.run_append_own_string (P := Tryz.prog) w base 23 9 ty 5 i0 Tryz.underlying23 Tryz.underlying9 hi hz0 hz1 hz2 v n xs hown s (by unfold maxLen; omega) (by omega) hbase
  refine ⟨v', w', hr, h2, h3, ?_⟩
  have hxl : xs.length = n := by simpa using hown.1
  rcases hown.2 with ⟨rfl, rfl⟩ | ⟨g, cap, cur, rfl, hbg, hg, hnc, hcm, hcs, htake⟩
  · by_cases h0 : s.size = 0
    · left; rw [h4.2 ⟨rfl, h0⟩]
    · right
      have hr' := run_append_nil_string (P := Tryz.prog) w 23 9 ty 5 i0 (.int .u8 0) Tryz.underlying23 Tryz.underlying9 hi hz0 s (by omega) (by omega) (by rw [hz2]; omega)
      rw [hr] at hr'
      injection hr' with hv _
      rw [hv]; rfl
  · by_cases hroom : n + s.size ≤ cap
    · left
      have hr' := Lib.run_append_room_string (P := Tryz.prog) w 23 9 ty 5 i0 Tryz.underlying23 Tryz.underlying9 hi hz1 g n cap cur hg s hroom (by omega)
      rw [hr] at hr'
      injection hr' with hv _
      rw [hv]; rfl
    · right
      have holds : ∀ j u, xs[j]? = some u → w.cell? ((⟨g, 0, none⟩ : Addr).add j) = some u := hown.cells (g := g) rfl
      have hr' := Lib.run_append_grow_string (P := Tryz.prog) w 23 9 ty 5 i0 (.int .u8 0) Tryz.underlying23 Tryz.underlying9 hi hz0 ⟨g, 0, none⟩ n cap xs (by rw [hz1]; omega) holds s (by omega) (by omega) (by rw [hz2]; exact growslice_fits (by omega) (by omega))
      rw [hr] at hr'
      injection hr' with hv _
      rw [hv]; rfl
set_option maxRecDepth 10000 in
theorem wpList_app_str {ops : Array Oper} {rest : List Oper} {o : Oper} {a : Act} {Q : Exit → Act → World → Prop} {w : World} (hgd : o.guard = none) (sl x : Operand)
    (ho : o.op = .call { callee := .builtin .append, args := #[sl, x], argTypes := #[23, 9] }) (base : Nat) (v : Value) (n : Nat) (xs : List Value) (hs : a.eval sl = v) (hown : w.ownsRow base 5 1 v n xs) (s : ByteArray) (hx : a.eval x = .string s)
    (hlen : n + s.size ≤ 1000000000000) (hbase : base ≤ w.heap.size)
    (h : ∀ v' w', w'.ownsRow base 5 1 v' (n + s.size) (xs ++ Lib.strCells s) → w.grownBy w' v.ownBlock → (v'.ownBlock = v.ownBlock ∨ v'.ownBlock = some w.heap.size) → wpList Tryz.prog ops Q rest (a.put o.dst v') w') : wpList Tryz.prog ops Q (o :: rest) a w := by
  refine wpList_plain hgd fun K hK => ?_
  obtain ⟨v', w', hr, h2, h3, h4⟩ := run_app_str w base o.type v n xs hown s hlen hbase
  unfold Oper.wp execOp
  simp only [ho, resolve, invoke, builtin, Sem.run_bind, Sem.run_pure, Result.andThen_ok, List.map_toArray, List.map_cons, List.map_nil, hs, hx, hr]
  exact hK _ _ (h v' w' h2 h3 h4)
theorem step_app_str {ops : Array Oper} {o : Oper} {a : Act} {Q : Exit → Act → World → Prop} {K : Act → World → Prop} {E : Prop} {w : World} (hgd : o.guard = none) (sl x : Operand)
    (ho : o.op = .call { callee := .builtin .append, args := #[sl, x], argTypes := #[23, 9] }) (base : Nat) (v : Value) (n : Nat) (xs : List Value) (hs : a.eval sl = v) (hown : w.ownsRow base 5 1 v n xs) (s : ByteArray) (hx : a.eval x = .string s)
    (hlen : n + s.size ≤ 1000000000000) (hbase : base ≤ w.heap.size) (hpos : 0 < n + s.size)
    (h : ∀ g' cap' w', w'.ownsRow base 5 1 (.slice (some ⟨g', 0, none⟩) (n + s.size) cap') (n + s.size) (xs ++ Lib.strCells s) → w.grownBy w' v.ownBlock → ((Value.slice (some ⟨g', 0, none⟩) (n + s.size) cap').ownBlock = v.ownBlock ∨ (Value.slice (some ⟨g', 0, none⟩) (n + s.size) cap').ownBlock = some w.heap.size) → K (a.put o.dst (.slice (some ⟨g', 0, none⟩) (n + s.size) cap')) w') : if Region.wanted o (yielded ops a.tmps) = true then Oper.wp Tryz.prog o a w K Q else E := by
  have hw : Region.wanted o (yielded ops a.tmps) = true := by simp [Region.wanted, hgd]
  rw [if_pos hw]
  obtain ⟨v', w', hr, h2, h3, h4⟩ := run_app_str w base o.type v n xs hown s hlen hbase
  obtain ⟨g', cap', rfl, _⟩ := own_form h2 hpos
  unfold Oper.wp execOp
  simp only [ho, resolve, invoke, builtin, Sem.run_bind, Sem.run_pure, Result.andThen_ok, List.map_toArray, List.map_cons, List.map_nil, hs, hx, hr]
  exact h _ _ _ h2 h3 h4
theorem rconv_bytes (w : World) (bb off c : Nat) (s : ByteArray) (h : ∀ j, j < s.size → w.cell? ⟨bb, off + j, none⟩ = some (Extern.Stop.cell (s.data.toList[j]?.getD 0))) :
    (convert 23 9 (.slice (some ⟨bb, off, none⟩) s.size c)).run Tryz.prog w = .ok (.string s) w := by
  have e : strOfNums (s.data.toList.map fun (b : UInt8) => ((b.toNat : Nat) : Int)) = s := by
    unfold strOfNums
    rw [List.map_map]
    have : ((fun n : Int => UInt8.ofNat n.toNat) ∘ fun (b : UInt8) => ((b.toNat : Nat) : Int)) = id := by
      funext b
      simp
    rw [this, List.map_id]
  have hl : s.data.toList.length = s.size := Array.length_toList
  have hr := run_convert_bytes_arg (P := Tryz.prog) w 23 5 Tryz.underlying23 Tryz.underlying5 bb off s.size c (s.data.toList.map fun (b : UInt8) => ((b.toNat : Nat) : Int)) (by rw [List.length_map, hl]) (fun i hi => by
    rw [h i hi]
    have hx : s.data.toList[i]? = some s.data.toList[i] := List.getElem?_eq_getElem (by omega)
    rw [hx, List.getD_eq_getElem?_getD, List.getElem?_map, hx]
    rfl) 9 Tryz.underlying9
  rw [e] at hr
  exact hr
end Go.Proofs.YtbdkalpljhpnmaaGreat
