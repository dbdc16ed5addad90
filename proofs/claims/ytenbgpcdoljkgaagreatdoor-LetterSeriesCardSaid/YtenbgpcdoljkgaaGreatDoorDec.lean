/- kalendsref07.decimal at a digit. -/
import Derived.Test.YtenbgpcdoljkgaaGreatDoorRise
import Derived.Test.YtenbgpcdoljkgaaGreatDoorBytesEq
namespace Go.Proofs.YtenbgpcdoljkgaaGreatDoor
open Go Go.RowKit

def digit (n : Int) : ByteArray := ⟨#[UInt8.ofNat (48 + n).toNat]⟩
theorem conv_one (n : Int) (w : World) : (convert 38 9 (.slice (some ⟨w.heap.size, 0, none⟩) 1 1)).run Tryz.prog (w.alloc (.cells #[.int .u8 (48 + n)] 5)) = .ok (.string (digit n)) (w.alloc (.cells #[.int .u8 (48 + n)] 5)) := by
  have e : digit n = strOfNums [48 + n] := by unfold digit strOfNums; rfl
  rw [e]
  refine run_convert_bytes_arg _ _ _ Tryz.underlying38 Tryz.underlying5 w.heap.size 0 1 1 [48 + n] rfl (fun i hi => ?_) _ Tryz.underlying9
  have : i = 0 := by omega
  subst this
  exact (cell_one_new w _ _) 0 _ rfl
set_option maxRecDepth 10000 in
set_option maxHeartbeats 400000 in
theorem decimal_any (n : Int) (h0 : 0 ≤ n) (h1 : n < 10) (w : World) : Calls Tryz.prog 108 #[I n] w (Gives (.string (digit n)) w) := by
  have hcv := conv_one n w
  have ht : n.tmod 10 = n := by rw [Int.tmod_eq_emod_of_nonneg h0]; exact Int.emod_eq_of_lt h0 h1
  have hd : n.tdiv 10 = 0 := Int.tdiv_eq_zero_of_lt h0 h1
  go_enter Tryz.func108, Tryz.ntmps108
  go_wp2
  go_loopw [0, 3] (fun x s wr => x = I 0 ∧ s = .string (digit n) ∧ wr = w.alloc (.cells #[.int .u8 (48 + n)] 5)) (fun _ _ _ => 0)
  case atStart => exact ⟨rfl, rfl, rfl⟩
  case round =>
    obtain ⟨rfl, rfl, rfl⟩ := hrel
    go_wp2
    go_ret
    exact ⟨rfl, below_var w _⟩
end Go.Proofs.YtenbgpcdoljkgaaGreatDoor
