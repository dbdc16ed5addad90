/- letter.Name returns the name of a kind; no condition. -/
import Derived.Test.YthhbbebabmemfaaGreatProg
import Derived.Test.YthhbbebabmemfaaGreatAid
import Derived.Deep.WholeRow
import Derived.Laws.Rows
import Derived.Laws.Tables
import Derived.Lib.Hide
import Derived.Outline
import Derived.WalkKit
import Derived.WalkLawsBesides
import Derived.WalkSpells
namespace Go.Proofs.YthhbbebabmemfaaGreat
open Go Go.RowKit

def kindNames : List (List UInt8) := [[], [105, 110, 118, 105, 116, 101], [97, 99, 99, 101, 112, 116], [100, 101, 99, 108, 105, 110, 101], [99, 111, 117, 110, 116, 101, 114], [100, 101, 108, 101, 103, 97, 116, 101], [99, 104, 97, 110, 103, 101], [119, 105, 116, 104, 100, 114, 97, 119], [104, 111, 108, 100], [103, 114, 97, 110, 116], [114, 101, 102, 117, 115, 101], [99, 111, 109, 109, 105, 116], [97, 98, 111, 114, 116], [105, 110, 113, 117, 105, 114, 101], [115, 116, 97, 116, 101], [97, 115, 107], [97, 110, 115, 119, 101, 114], [116, 97, 98, 108, 101], [97, 99, 107]]
def nameOf (k : Int) : ByteArray := ⟨((kindNames[k.toNat]?).getD []).toArray⟩
def nameCells : Array Value := (kindNames.map fun l => Value.string ⟨l.toArray⟩).toArray
theorem nameCells_at (k : Int) (h0 : 0 ≤ k) (h : k < 19) : nameCells[k.toNat]? = some (.string (nameOf k)) := by
  obtain ⟨n, rfl⟩ := Int.eq_ofNat_of_zero_le h0
  have hn : n < 19 := by omega
  have : n < kindNames.length := hn
  simp [nameCells, nameOf, this]
theorem nameCells_size : nameCells.size = 19 := rfl
theorem nameCells_one : nameCells.all (·.oneCell') = true := by decide +kernel

def Named (k : Int) (w : World) (e : Ending) (w' : World) : Prop := e = .returned (.string (if 0 ≤ k ∧ k < 19 then nameOf k else ⟨#[]⟩)) ∧ w' = w.alloc (.cells nameCells 83)

theorem name_info : (Tryz.prog.info? 83).map (fun i => (i.zero, i.size)) = some (some (.agg (Array.replicate 19 (.string ⟨#[]⟩))), nameCells.size) := by kernel_rfl

set_option maxRecDepth 10000 in
set_option maxHeartbeats 400000 in
theorem name_any (k : Int) (w : World) : Calls Tryz.prog 13 #[.int .i64 k] w (Named k w) := by
  by_cases h1 : k < 0
  · go_enter Tryz.func13, Tryz.ntmps13
    go_wp2_with (first | (refine wpList_build_as rfl _ rfl nameCells (by kernel_rfl) ?_) | (refine wpList_var_row rfl rfl _ _ _ rfl rfl rfl rfl _ nameCells name_info rfl rfl rfl nameCells_one ?_))
    go_ret
    exact ⟨by rw [if_neg (by omega)]; rfl, rfl⟩
  by_cases h2 : 19 ≤ k
  · go_enter Tryz.func13, Tryz.ntmps13
    go_wp2_with (first | (refine wpList_build_as rfl _ rfl nameCells (by kernel_rfl) ?_) | (refine wpList_var_row rfl rfl _ _ _ rfl rfl rfl rfl _ nameCells name_info rfl rfl rfl nameCells_one ?_))
    go_ret
    exact ⟨by rw [if_neg (by omega)]; rfl, rfl⟩
  have h3 := nameCells_at k (by omega) (by omega)
  go_enter Tryz.func13, Tryz.ntmps13
  go_wp2_with (first | (refine wpList_build_as rfl _ rfl nameCells (by kernel_rfl) ?_) | (refine wpList_var_row rfl rfl _ _ _ rfl rfl rfl rfl _ nameCells name_info rfl rfl rfl nameCells_one ?_))
  go_ret
  exact ⟨by rw [if_pos (by omega)]; rfl, rfl⟩
end Go.Proofs.YthhbbebabmemfaaGreat
