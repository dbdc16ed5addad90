/- The table's two ports: which method an interface call finds (406: the seat's number of types and the model's depth). -/
import Derived.Test.YtbdkalpljhpnmaaGreatTbX
import Derived.BigQuiet
import Derived.Deep.AppendLies
import Derived.Deep.CutBlock
import Derived.Deep.DeepCutAuto
import Derived.Deep.DrawnRows
import Derived.Deep.MidRow
import Derived.Deep.QuietTactic
import Derived.Deep.RegionHeld3
import Derived.Deep.RegionLaw
import Derived.Deep.WholeRow
import Derived.Great.BuildSlice
import Derived.Laws.BytesString
import Derived.Laws.CopyOwn
import Derived.Laws.EntriesVeiled
import Derived.Laws.MakeOwn
import Derived.Laws.ResultCell
import Derived.Laws.Rows
import Derived.Laws.Tables
import Derived.Lib.Hide
import Derived.LoopIn
import Derived.LoopNIn
import Derived.Maps.AppendAt
import Derived.Outline
import Derived.OwnWalkIn
import Derived.RangeFuncBound
import Derived.RangeFuncBox
import Derived.RangeFuncCalls
import Derived.RangeFuncLeaves
import Derived.RangeFuncNested
import Derived.Shelf.Abstract
import Derived.Shelf.Bytes.SlSmallAll
import Derived.Shelf.RegionOpen
import Derived.StillTailTactics
import Derived.Stop.BytesEq
import Derived.TacticsInMore
import Derived.WalkKit
import Derived.WalkLawsBesides
import Derived.WalkSpells
namespace Go.Proofs.YtbdkalpljhpnmaaGreat
open Go Go.RowKit

theorem m_w_number (n : Nat) (a : Addr) (w : World) : (method (n + 1) 81 (.pointer (some a)) "kalends/table.number").run Tryz.prog w = .ok (152, .pointer (some a)) w := by kernel_rfl
theorem n_w_number (n : Nat) (a : Addr) (w : World) : (nilAhead (n + 1) 81 (.pointer (some a)) "kalends/table.number").run Tryz.prog w = .ok (some false) w := by kernel_rfl
theorem m_r_number (n : Nat) (a : Addr) (w : World) : (method (n + 1) 120 (.pointer (some a)) "kalends/table.number").run Tryz.prog w = .ok (158, .pointer (some a)) w := by kernel_rfl
theorem n_r_number (n : Nat) (a : Addr) (w : World) : (nilAhead (n + 1) 120 (.pointer (some a)) "kalends/table.number").run Tryz.prog w = .ok (some false) w := by kernel_rfl
theorem m_w_offset (n : Nat) (a : Addr) (w : World) : (method (n + 1) 81 (.pointer (some a)) "kalends/table.offset").run Tryz.prog w = .ok (153, .pointer (some a)) w := by kernel_rfl
theorem n_w_offset (n : Nat) (a : Addr) (w : World) : (nilAhead (n + 1) 81 (.pointer (some a)) "kalends/table.offset").run Tryz.prog w = .ok (some false) w := by kernel_rfl
theorem m_r_offset (n : Nat) (a : Addr) (w : World) : (method (n + 1) 120 (.pointer (some a)) "kalends/table.offset").run Tryz.prog w = .ok (159, .pointer (some a)) w := by kernel_rfl
theorem n_r_offset (n : Nat) (a : Addr) (w : World) : (nilAhead (n + 1) 120 (.pointer (some a)) "kalends/table.offset").run Tryz.prog w = .ok (some false) w := by kernel_rfl
theorem m_w_text (n : Nat) (a : Addr) (w : World) : (method (n + 1) 81 (.pointer (some a)) "kalends/table.text").run Tryz.prog w = .ok (154, .pointer (some a)) w := by kernel_rfl
theorem n_w_text (n : Nat) (a : Addr) (w : World) : (nilAhead (n + 1) 81 (.pointer (some a)) "kalends/table.text").run Tryz.prog w = .ok (some false) w := by kernel_rfl
theorem m_r_text (n : Nat) (a : Addr) (w : World) : (method (n + 1) 120 (.pointer (some a)) "kalends/table.text").run Tryz.prog w = .ok (160, .pointer (some a)) w := by kernel_rfl
theorem n_r_text (n : Nat) (a : Addr) (w : World) : (nilAhead (n + 1) 120 (.pointer (some a)) "kalends/table.text").run Tryz.prog w = .ok (some false) w := by kernel_rfl
theorem m_w_digest (n : Nat) (a : Addr) (w : World) : (method (n + 1) 81 (.pointer (some a)) "kalends/table.digest").run Tryz.prog w = .ok (149, .pointer (some a)) w := by kernel_rfl
theorem n_w_digest (n : Nat) (a : Addr) (w : World) : (nilAhead (n + 1) 81 (.pointer (some a)) "kalends/table.digest").run Tryz.prog w = .ok (some false) w := by kernel_rfl
theorem m_r_digest (n : Nat) (a : Addr) (w : World) : (method (n + 1) 120 (.pointer (some a)) "kalends/table.digest").run Tryz.prog w = .ok (155, .pointer (some a)) w := by kernel_rfl
theorem n_r_digest (n : Nat) (a : Addr) (w : World) : (nilAhead (n + 1) 120 (.pointer (some a)) "kalends/table.digest").run Tryz.prog w = .ok (some false) w := by kernel_rfl
theorem m_w_length (n : Nat) (a : Addr) (w : World) : (method (n + 1) 81 (.pointer (some a)) "kalends/table.length").run Tryz.prog w = .ok (151, .pointer (some a)) w := by kernel_rfl
theorem n_w_length (n : Nat) (a : Addr) (w : World) : (nilAhead (n + 1) 81 (.pointer (some a)) "kalends/table.length").run Tryz.prog w = .ok (some false) w := by kernel_rfl
theorem m_r_length (n : Nat) (a : Addr) (w : World) : (method (n + 1) 120 (.pointer (some a)) "kalends/table.length").run Tryz.prog w = .ok (157, .pointer (some a)) w := by kernel_rfl
theorem n_r_length (n : Nat) (a : Addr) (w : World) : (nilAhead (n + 1) 120 (.pointer (some a)) "kalends/table.length").run Tryz.prog w = .ok (some false) w := by kernel_rfl
theorem m_w_flag (n : Nat) (a : Addr) (w : World) : (method (n + 1) 81 (.pointer (some a)) "kalends/table.flag").run Tryz.prog w = .ok (150, .pointer (some a)) w := by kernel_rfl
theorem n_w_flag (n : Nat) (a : Addr) (w : World) : (nilAhead (n + 1) 81 (.pointer (some a)) "kalends/table.flag").run Tryz.prog w = .ok (some false) w := by kernel_rfl
theorem m_r_flag (n : Nat) (a : Addr) (w : World) : (method (n + 1) 120 (.pointer (some a)) "kalends/table.flag").run Tryz.prog w = .ok (156, .pointer (some a)) w := by kernel_rfl
theorem n_r_flag (n : Nat) (a : Addr) (w : World) : (nilAhead (n + 1) 120 (.pointer (some a)) "kalends/table.flag").run Tryz.prog w = .ok (some false) w := by kernel_rfl
/-- A cell that is stored again as it was. -/
theorem setCell_same {w : World} {b o : Nat} {v : Value} (h : w.cell? ⟨b, o, none⟩ = some v) : w.setCell ⟨b, o, none⟩ v = w := by
  have hh : (w.setCell ⟨b, o, none⟩ v).heap = w.heap := by
    apply Array.ext_getElem?
    intro k
    by_cases hk : k = b
    · subst hk
      unfold World.cell? at h
      simp only [World.setCell, Array.getElem?_modify]
      cases hb : w.heap[k]? with
      | none => simp
      | some x =>
        cases x with
        | cells c e f =>
          rw [hb] at h
          simp at h ⊢
          exact (by
            apply Array.ext_getElem?
            intro i
            rw [Array.getElem?_setIfInBounds]
            split
            · rename_i e; subst e
              split
              · exact h.symm
              · rename_i e2; rw [Array.getElem?_eq_none (by omega)] at h; cases h
            · rfl)
        | _ => simp
    · exact heap_setCell_other w _ k v hk
  exact (show w.setCell ⟨b, o, none⟩ v = { w with heap := (w.setCell ⟨b, o, none⟩ v).heap } from rfl).trans (by rw [hh])
end Go.Proofs.YtbdkalpljhpnmaaGreat
