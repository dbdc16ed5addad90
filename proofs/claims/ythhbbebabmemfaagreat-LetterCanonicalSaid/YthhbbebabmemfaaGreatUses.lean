/- letter.uses: whether a kind uses a field. -/
import Derived.Test.YthhbbebabmemfaaGreatProg
import Derived.Test.YthhbbebabmemfaaGreatAid
import Derived.Test.YthhbbebabmemfaaGreatData
import Derived.Deep.WholeRow
import Derived.Laws.Rows
import Derived.Laws.Tables
import Derived.Lib.Hide
import Derived.Outline
import Derived.Stop.BytesEq
import Derived.WalkKit
import Derived.WalkLawsBesides
import Derived.WalkSpells
namespace Go.Proofs.YthhbbebabmemfaaGreat
open Go Go.RowKit

def usesTab : List Nat := [0, 1043, 19, 19, 531, 51, 1923, 3, 40049, 100417, 102465, 102401, 102401, 32769, 102401, 24624, 122928, 98316, 65537]
def usesB (k f : Int) : Bool := decide (0 < k ∧ k ≤ 18) && ((usesTab[k.toNat]?).getD 0).testBit f.toNat
def usesCells : Array Value := (usesTab.map fun (n : Nat) => I (n : Int)).toArray
def usesAt (k : Int) : Int := (usesTab[k.toNat]?).getD 0
theorem usesCells_at (k : Int) (h0 : 0 ≤ k) (h : k < 19) : usesCells[k.toNat]? = some (I (usesAt k)) := by
  obtain ⟨n, rfl⟩ := Int.eq_ofNat_of_zero_le h0
  have hn : n < 19 := by omega
  have : n < usesTab.length := hn
  simp [usesCells, usesAt, this]
theorem usesCells_one : usesCells.all (·.oneCell') = true := by decide +kernel
theorem uses_info : (Tryz.prog.info? 94).map (fun i => (i.zero, i.size)) = some (some (.agg (Array.replicate 19 (I 0))), usesCells.size) := by kernel_rfl

theorem uses_bits (k f : Int) (h0 : 0 < k) (h1 : k ≤ 18) (hf0 : 0 ≤ f) (hf1 : f ≤ 16) : (bits BinOp.and IntKind.i64 (usesAt k / 2 ^ f.toNat) 1 == 1) = usesB k f := by
  obtain ⟨n, rfl⟩ := Int.eq_ofNat_of_zero_le (Int.le_of_lt h0)
  obtain ⟨m, rfl⟩ := Int.eq_ofNat_of_zero_le hf0
  have h : ∀ n : Nat, n < 19 → ∀ m : Nat, m < 17 → 0 < n → (bits BinOp.and IntKind.i64 (usesAt (n : Int) / 2 ^ (m : Int).toNat) 1 == 1) = usesB (n : Int) (m : Int) := by decide +kernel
  exact h n (by omega) m (by omega) (by omega)
theorem below_var (w : World) (o : Obj) : Below w.heap.size w (w.alloc o) := (Below.refl _ _).alloc (Nat.le_refl _) _

set_option maxRecDepth 10000 in
set_option maxHeartbeats 400000 in
theorem uses_any (k f : Int) (w : World) (hf0 : 0 ≤ f) (hf1 : f ≤ 16) :
    Calls Tryz.prog 22 #[I k, I f] w (Gives (.bool (usesB k f)) w) := by
  by_cases h0 : k ≤ 0
  · go_enter Tryz.func22, Tryz.ntmps22
    go_wp2_with (first | (refine wpList_build_as rfl _ rfl usesCells (by kernel_rfl) ?_) | (refine wpList_var_row rfl rfl _ _ _ rfl rfl rfl rfl _ usesCells uses_info rfl rfl rfl usesCells_one ?_))
    go_ret
    exact ⟨by rw [usesB, decide_eq_false (by omega)]; rfl, below_var _ _⟩
  by_cases h1 : 19 ≤ k
  · go_enter Tryz.func22, Tryz.ntmps22
    go_wp2_with (first | (refine wpList_build_as rfl _ rfl usesCells (by kernel_rfl) ?_) | (refine wpList_var_row rfl rfl _ _ _ rfl rfl rfl rfl _ usesCells uses_info rfl rfl rfl usesCells_one ?_))
    go_ret
    exact ⟨by rw [usesB, decide_eq_false (by omega)]; rfl, below_var _ _⟩
  have h3 := usesCells_at k (by omega) (by omega)
  have h4 := Lib.hid (uses_bits k f (by omega) (by omega) hf0 hf1)
  go_enter Tryz.func22, Tryz.ntmps22
  go_wp2_with (first | (refine wpList_build_as rfl _ rfl usesCells (by kernel_rfl) ?_) | (refine wpList_var_row rfl rfl _ _ _ rfl rfl rfl rfl _ usesCells uses_info rfl rfl rfl usesCells_one ?_))
  go_ret
  exact ⟨by rw [← h4.out]; rfl, below_var _ _⟩
end Go.Proofs.YthhbbebabmemfaaGreat
