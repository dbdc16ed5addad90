/- letter.limits: the range of a field that is a number. -/
import Derived.Test.YthhbbebabmemfaaGreatUses
import Derived.BigQuiet
import Derived.Deep.QuietTactic
import Derived.Deep.WholeRow
import Derived.Laws.Rows
import Derived.Laws.Tables
import Derived.Lib.Hide
import Derived.Outline
import Derived.Stop.BytesEq
import Derived.WalkKit
import Derived.WalkLawsBesides
import Derived.WalkSpells
namespace Go.Proofs.YthhbbebabmemfaaGreat
open Go Go.RowKit

def intCells (L : List Int) : Array Value := (L.map I).toArray
theorem intCells_set (L : List Int) (i : Nat) (n : Int) : (intCells L).setIfInBounds i (.int .i64 n) = intCells (L.set i n) := by
  simp [intCells, List.map_set]
theorem intCells_get (L : List Int) (i : Nat) : (intCells L)[i]? = (L[i]?).map I := by simp [intCells]
theorem intCells_size (L : List Int) : (intCells L).size = L.length := by simp [intCells]
theorem intCells_one (L : List Int) : (intCells L).all (·.oneCell') = true := by
  simp [intCells, Value.oneCell']

def limBase : List Int := [1, 1099511627776, 1, 1099511627776, 0, 15, 1, 64, 0, 511, 0, 511, 0, 255, 1, 3, 0, 1099511627776, 0, 0, 0, 0, 0, 2251799813685248, 0, 18, 1, 4, 0, 0, 0, 0, 0, 0]
def limList (k : Int) : List Int :=
  if k = 1 then limBase.set 3 1 else if k = 6 ∨ k = 7 then limBase.set 2 2 else if k = 8 then ((limBase.set 11 63).set 24 1).set 25 512 else if k = 14 then limBase.set 25 5 else limBase
def limLow (k f : Int) : Int := ((limList k)[f.toNat * 2]?).getD 0
def limHigh (k f : Int) : Int := ((limList k)[f.toNat * 2 + 1]?).getD 0
theorem limList_length (k : Int) : (limList k).length = 34 := by unfold limList; repeat' split
                                                                 all_goals rfl
theorem lim_at0 (k f : Int) (h0 : 0 ≤ f) (h1 : f ≤ 16) : (intCells (limList k))[f.toNat * 2]? = some (I (limLow k f)) := by
  have : f.toNat * 2 < (limList k).length := by rw [limList_length]; omega
  rw [intCells_get, limLow, List.getElem?_eq_getElem this]; rfl
theorem lim_at1 (k f : Int) (h0 : 0 ≤ f) (h1 : f ≤ 16) : (intCells (limList k))[f.toNat * 2 + 1]? = some (I (limHigh k f)) := by
  have : f.toNat * 2 + 1 < (limList k).length := by rw [limList_length]; omega
  rw [intCells_get, limHigh, List.getElem?_eq_getElem this]; rfl
theorem lim_info : (Tryz.prog.info? 132).map (fun i => (i.zero, i.size)) = some (some (.agg (Array.replicate 34 (I 0))), (intCells limBase).size) := by kernel_rfl

theorem below_var_drewN (w : World) (o : Obj) (n : Nat) : Below w.heap.size w ((w.alloc o).drewN n) := below_drewN (below_var w o) n

attribute [local go_sem] intCells_set
set_option maxRecDepth 10000 in
set_option maxHeartbeats 400000 in
theorem limits_1 (f : Int) (w : World) (hf0 : 0 ≤ f) (hf1 : f ≤ 16) :
    Calls Tryz.prog 55 #[I 1, I f] w (Gives (.tuple #[I (limLow 1 f), I (limHigh 1 f)]) w) := by
  have h0 := lim_at0 1 f hf0 hf1
  have h1 := lim_at1 1 f hf0 hf1
  rw [show limList 1 = limBase.set 3 1 from rfl] at h0 h1
  have b2 : (intCells limBase)[2]? = some (I 1) := rfl
  have b3 : (intCells limBase)[3]? = some (I 1099511627776) := rfl
  have b11 : (intCells limBase)[11]? = some (I 511) := rfl
  have b24 : (intCells (limBase.set 11 63))[24]? = some (I 0) := rfl
  have b25 : (intCells ((limBase.set 11 63).set 24 1))[25]? = some (I 18) := rfl
  have b25' : (intCells limBase)[25]? = some (I 18) := rfl
  go_enter Tryz.func55, Tryz.ntmps55
  go_wp2_with (first | (refine wpList_build_as (t := 132) rfl _ rfl (intCells limBase) (by kernel_rfl) ?_) | (refine wpList_var_row rfl rfl _ _ _ rfl rfl rfl rfl _ (intCells limBase) lim_info rfl rfl rfl (intCells_one _) ?_))
  go_quiet (fail)
  go_wp2
  go_ret2
  exact ⟨rfl, below_var_drewN _ _ _⟩
set_option maxRecDepth 10000 in
set_option maxHeartbeats 400000 in
theorem limits_6 (f : Int) (w : World) (hf0 : 0 ≤ f) (hf1 : f ≤ 16) :
    Calls Tryz.prog 55 #[I 6, I f] w (Gives (.tuple #[I (limLow 6 f), I (limHigh 6 f)]) w) := by
  have h0 := lim_at0 6 f hf0 hf1
  have h1 := lim_at1 6 f hf0 hf1
  rw [show limList 6 = limBase.set 2 2 from rfl] at h0 h1
  have b2 : (intCells limBase)[2]? = some (I 1) := rfl
  have b3 : (intCells limBase)[3]? = some (I 1099511627776) := rfl
  have b11 : (intCells limBase)[11]? = some (I 511) := rfl
  have b24 : (intCells (limBase.set 11 63))[24]? = some (I 0) := rfl
  have b25 : (intCells ((limBase.set 11 63).set 24 1))[25]? = some (I 18) := rfl
  have b25' : (intCells limBase)[25]? = some (I 18) := rfl
  go_enter Tryz.func55, Tryz.ntmps55
  go_wp2_with (first | (refine wpList_build_as (t := 132) rfl _ rfl (intCells limBase) (by kernel_rfl) ?_) | (refine wpList_var_row rfl rfl _ _ _ rfl rfl rfl rfl _ (intCells limBase) lim_info rfl rfl rfl (intCells_one _) ?_))
  go_quiet (fail)
  go_wp2
  go_ret2
  exact ⟨rfl, below_var_drewN _ _ _⟩
set_option maxRecDepth 10000 in
set_option maxHeartbeats 400000 in
theorem limits_7 (f : Int) (w : World) (hf0 : 0 ≤ f) (hf1 : f ≤ 16) :
    Calls Tryz.prog 55 #[I 7, I f] w (Gives (.tuple #[I (limLow 7 f), I (limHigh 7 f)]) w) := by
  have h0 := lim_at0 7 f hf0 hf1
  have h1 := lim_at1 7 f hf0 hf1
  rw [show limList 7 = limBase.set 2 2 from rfl] at h0 h1
  have b2 : (intCells limBase)[2]? = some (I 1) := rfl
  have b3 : (intCells limBase)[3]? = some (I 1099511627776) := rfl
  have b11 : (intCells limBase)[11]? = some (I 511) := rfl
  have b24 : (intCells (limBase.set 11 63))[24]? = some (I 0) := rfl
  have b25 : (intCells ((limBase.set 11 63).set 24 1))[25]? = some (I 18) := rfl
  have b25' : (intCells limBase)[25]? = some (I 18) := rfl
  go_enter Tryz.func55, Tryz.ntmps55
  go_wp2_with (first | (refine wpList_build_as (t := 132) rfl _ rfl (intCells limBase) (by kernel_rfl) ?_) | (refine wpList_var_row rfl rfl _ _ _ rfl rfl rfl rfl _ (intCells limBase) lim_info rfl rfl rfl (intCells_one _) ?_))
  go_quiet (fail)
  go_wp2
  go_ret2
  exact ⟨rfl, below_var_drewN _ _ _⟩
set_option maxRecDepth 10000 in
set_option maxHeartbeats 400000 in
theorem limits_8 (f : Int) (w : World) (hf0 : 0 ≤ f) (hf1 : f ≤ 16) :
    Calls Tryz.prog 55 #[I 8, I f] w (Gives (.tuple #[I (limLow 8 f), I (limHigh 8 f)]) w) := by
  have h0 := lim_at0 8 f hf0 hf1
  have h1 := lim_at1 8 f hf0 hf1
  rw [show limList 8 = ((limBase.set 11 63).set 24 1).set 25 512 from rfl] at h0 h1
  have b2 : (intCells limBase)[2]? = some (I 1) := rfl
  have b3 : (intCells limBase)[3]? = some (I 1099511627776) := rfl
  have b11 : (intCells limBase)[11]? = some (I 511) := rfl
  have b24 : (intCells (limBase.set 11 63))[24]? = some (I 0) := rfl
  have b25 : (intCells ((limBase.set 11 63).set 24 1))[25]? = some (I 18) := rfl
  have b25' : (intCells limBase)[25]? = some (I 18) := rfl
  go_enter Tryz.func55, Tryz.ntmps55
  go_wp2_with (first | (refine wpList_build_as (t := 132) rfl _ rfl (intCells limBase) (by kernel_rfl) ?_) | (refine wpList_var_row rfl rfl _ _ _ rfl rfl rfl rfl _ (intCells limBase) lim_info rfl rfl rfl (intCells_one _) ?_))
  go_quiet (fail)
  go_wp2
  go_ret2
  exact ⟨rfl, below_var_drewN _ _ _⟩
set_option maxRecDepth 10000 in
set_option maxHeartbeats 400000 in
theorem limits_14 (f : Int) (w : World) (hf0 : 0 ≤ f) (hf1 : f ≤ 16) :
    Calls Tryz.prog 55 #[I 14, I f] w (Gives (.tuple #[I (limLow 14 f), I (limHigh 14 f)]) w) := by
  have h0 := lim_at0 14 f hf0 hf1
  have h1 := lim_at1 14 f hf0 hf1
  rw [show limList 14 = limBase.set 25 5 from rfl] at h0 h1
  have b2 : (intCells limBase)[2]? = some (I 1) := rfl
  have b3 : (intCells limBase)[3]? = some (I 1099511627776) := rfl
  have b11 : (intCells limBase)[11]? = some (I 511) := rfl
  have b24 : (intCells (limBase.set 11 63))[24]? = some (I 0) := rfl
  have b25 : (intCells ((limBase.set 11 63).set 24 1))[25]? = some (I 18) := rfl
  have b25' : (intCells limBase)[25]? = some (I 18) := rfl
  go_enter Tryz.func55, Tryz.ntmps55
  go_wp2_with (first | (refine wpList_build_as (t := 132) rfl _ rfl (intCells limBase) (by kernel_rfl) ?_) | (refine wpList_var_row rfl rfl _ _ _ rfl rfl rfl rfl _ (intCells limBase) lim_info rfl rfl rfl (intCells_one _) ?_))
  go_quiet (fail)
  go_wp2
  go_ret2
  exact ⟨rfl, below_var_drewN _ _ _⟩
set_option maxRecDepth 10000 in
set_option maxHeartbeats 400000 in
theorem limits_else (k : Int) (c1 : k ≠ 1) (c6 : k ≠ 6) (c7 : k ≠ 7) (c8 : k ≠ 8) (c14 : k ≠ 14) (f : Int) (w : World) (hf0 : 0 ≤ f) (hf1 : f ≤ 16) :
    Calls Tryz.prog 55 #[I k, I f] w (Gives (.tuple #[I (limLow k f), I (limHigh k f)]) w) := by
  have h0 := lim_at0 k f hf0 hf1
  have h1 := lim_at1 k f hf0 hf1
  rw [show limList k = limBase from by unfold limList; rw [if_neg (by omega), if_neg (by omega), if_neg (by omega), if_neg (by omega)]] at h0 h1
  have b2 : (intCells limBase)[2]? = some (I 1) := rfl
  have b3 : (intCells limBase)[3]? = some (I 1099511627776) := rfl
  have b11 : (intCells limBase)[11]? = some (I 511) := rfl
  have b24 : (intCells (limBase.set 11 63))[24]? = some (I 0) := rfl
  have b25 : (intCells ((limBase.set 11 63).set 24 1))[25]? = some (I 18) := rfl
  have b25' : (intCells limBase)[25]? = some (I 18) := rfl
  have k1 : (k == 1) = false := beq_eq_false_iff_ne.2 (by omega)
  have k6 : (k == 6) = false := beq_eq_false_iff_ne.2 (by omega)
  have k7 : (k == 7) = false := beq_eq_false_iff_ne.2 (by omega)
  have k8 : (k == 8) = false := beq_eq_false_iff_ne.2 (by omega)
  have k14 : (k == 14) = false := beq_eq_false_iff_ne.2 (by omega)
  go_enter Tryz.func55, Tryz.ntmps55
  go_wp2_with (first | (refine wpList_build_as (t := 132) rfl _ rfl (intCells limBase) (by kernel_rfl) ?_) | (refine wpList_var_row rfl rfl _ _ _ rfl rfl rfl rfl _ (intCells limBase) lim_info rfl rfl rfl (intCells_one _) ?_))
  go_quiet (fail)
  go_wp2
  go_ret2
  exact ⟨rfl, below_var_drewN _ _ _⟩
theorem limits_any (k f : Int) (w : World) (hf0 : 0 ≤ f) (hf1 : f ≤ 16) :
    Calls Tryz.prog 55 #[I k, I f] w (Gives (.tuple #[I (limLow k f), I (limHigh k f)]) w) := by
  by_cases c1 : k = 1
  · subst c1; exact limits_1 f w hf0 hf1
  by_cases c6 : k = 6
  · subst c6; exact limits_6 f w hf0 hf1
  by_cases c7 : k = 7
  · subst c7; exact limits_7 f w hf0 hf1
  by_cases c8 : k = 8
  · subst c8; exact limits_8 f w hf0 hf1
  by_cases c14 : k = 14
  · subst c14; exact limits_14 f w hf0 hf1
  exact limits_else k c1 c6 c7 c8 c14 f w hf0 hf1
end Go.Proofs.YthhbbebabmemfaaGreat
