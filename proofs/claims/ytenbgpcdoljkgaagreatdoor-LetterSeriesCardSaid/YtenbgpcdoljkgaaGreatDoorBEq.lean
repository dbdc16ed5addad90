/- bytes.Equal. -/
import Derived.Test.YtenbgpcdoljkgaaGreatDoorBytesW
import Derived.Shelf.Bytes.SlSmallAll
namespace Go.Proofs.YtenbgpcdoljkgaaGreatDoor
open Go Go.RowKit

def strB (bs : List UInt8) : ByteArray := ⟨bs.toArray⟩
theorem strB_toList (xs : List UInt8) : (strB xs).toList = xs := by rw [Lib.toList_data]; rfl
theorem conv_bytes (A : Option Addr) (bs : List UInt8) (c : Nat) (w : World) (B : Nat) (h : BytesAt w B A bs) :
    (convert 38 9 (.slice A bs.length c)).run Tryz.prog w = .ok (.string (strB bs)) w := by
  have e : strB bs = strOfNums (bs.map fun x => (x.toNat : Int)) := by
    unfold strB strOfNums
    congr 1
    rw [List.map_map]
    congr 1
    rw [show ((fun n : Int => UInt8.ofNat n.toNat) ∘ fun x : UInt8 => (x.toNat : Int)) = id from by funext x; simp]
    simp
  rcases h with h | ⟨b, off, rfl, _, hc⟩
  · obtain rfl := List.eq_nil_of_length_eq_zero h
    exact run_convert_bytes_zero w _ _ Tryz.underlying38 Tryz.underlying5 A c _ Tryz.underlying9
  · rw [e]
    refine run_convert_bytes_arg w _ _ Tryz.underlying38 Tryz.underlying5 b off bs.length c _ (by simp) (fun i hi => ?_) _ Tryz.underlying9
    rw [hc i hi]
    simp [List.getD, hi, Extern.Stop.cell]
set_option maxRecDepth 10000 in
set_option maxHeartbeats 1000000 in
theorem bytesEqual_any (w : World) (A A' : Option Addr) (xs ys : List UInt8) (c d B B' : Nat) (h1 : BytesAt w B A xs) (h2 : BytesAt w B' A' ys) :
    Calls Tryz.prog 61 #[.slice A xs.length c, .slice A' ys.length d] w fun e w' => e = .returned (.bool (xs == ys)) ∧ w' = w := by
  have e1 := conv_bytes A xs c w B h1
  have e2 := conv_bytes A' ys d w B' h2
  clear h1 h2
  go_enter Tryz.func61, Tryz.ntmps61
  go_wp2
  go_ret
  exact ⟨by show Ending.returned (.bool ((strB xs).toList == (strB ys).toList)) = _; rw [strB_toList, strB_toList], rfl⟩
end Go.Proofs.YtenbgpcdoljkgaaGreatDoor
