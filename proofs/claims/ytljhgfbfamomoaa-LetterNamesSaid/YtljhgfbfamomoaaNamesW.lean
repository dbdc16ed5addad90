/- kalendslaw20.LetterNames, walked. -/
import Derived.Test.YtljhgfbfamomoaaSan
namespace Go.Proofs.Ytljhgfbfamomoaa
open Go Go.RowKit

def nm (k : Int) : ByteArray := if 0 ≤ k ∧ k < 19 then nameOf k else ⟨#[]⟩
def lower (l : List UInt8) : Bool := l.all fun c => decide (97 ≤ c.toNat) && decide (c.toNat ≤ 122)
theorem nm_in (k : Int) : k < 1 ∨ 18 < k ∨ ∃ n : Nat, n < 18 ∧ k = (n : Int) + 1 := by
  by_cases h : k < 1
  · exact .inl h
  · by_cases h2 : 18 < k
    · exact .inr (.inl h2)
    · exact .inr (.inr ⟨(k - 1).toNat, by omega, by omega⟩)
theorem nm_out (k : Int) (h : k < 1 ∨ 18 < k) : nm k = ⟨#[]⟩ := by
  unfold nm
  split
  · have : k = 0 := by omega
    subst this; rfl
  · rfl
theorem nm_nat (n : Nat) (h : n < 18) : nm ((n : Int) + 1) = ⟨((kindNames[n + 1]?).getD []).toArray⟩ := by
  unfold nm nameOf
  rw [if_pos (by omega)]
  rfl
theorem low18 : ∀ n, n < 18 → (lower ((kindNames[n + 1]?).getD []) = true ∧ 0 < ((kindNames[n + 1]?).getD []).length) := by decide +kernel
theorem diff18 : ∀ n, n < 18 → ∀ m, m < 18 → ((kindNames[n + 1]?).getD [] = (kindNames[m + 1]?).getD [] → n = m) := by decide +kernel
theorem lower_at {l : List UInt8} (h : lower l = true) (i : Nat) (hi : i < (ByteArray.mk l.toArray).size) : 97 ≤ ((ByteArray.mk l.toArray)[i]'hi).toNat ∧ ((ByteArray.mk l.toArray)[i]'hi).toNat ≤ 122 := by
  have hi' : i < l.length := hi
  unfold lower at h
  rw [List.all_eq_true] at h
  have := h l[i] (List.getElem_mem _)
  rw [Bool.and_eq_true] at this
  exact ⟨of_decide_eq_true this.1, of_decide_eq_true this.2⟩
theorem nm_lower (k : Int) : ∀ (i : Nat) (hi : i < (nm k).size), 97 ≤ ((nm k)[i]'hi).toNat ∧ ((nm k)[i]'hi).toNat ≤ 122 := by
  rcases nm_in k with h | h | ⟨n, hn, rfl⟩
  · rw [nm_out k (.inl h)]; intro i hi; exact absurd hi (Nat.not_lt_zero _)
  · rw [nm_out k (.inr h)]; intro i hi; exact absurd hi (Nat.not_lt_zero _)
  · rw [nm_nat n hn]; exact lower_at (low18 n hn).1
theorem nm_pos (k : Int) : decide (0 < (nm k).size) = (decide (1 ≤ k) && decide (k ≤ 18)) := by
  rcases nm_in k with h | h | ⟨n, hn, rfl⟩
  · rw [nm_out k (.inl h), decide_eq_false (show ¬ (1 ≤ k) by omega)]; rfl
  · rw [nm_out k (.inr h), decide_eq_false (show ¬ (k ≤ 18) by omega), Bool.and_false]; rfl
  · rw [nm_nat n hn]
    have h1 : 0 < (ByteArray.mk ((kindNames[n + 1]?).getD []).toArray).size := (low18 n hn).2
    rw [decide_eq_true h1, decide_eq_true (show (1 : Int) ≤ (n : Int) + 1 by omega), decide_eq_true (show ((n : Int) + 1) ≤ 18 by omega)]
    rfl
theorem nm_same (a b : Int) (h : 1 ≤ a ∧ a ≤ 18) : ((nm a).toList == (nm b).toList) = (a == b) := by
  obtain ⟨n, hn, rfl⟩ : ∃ n : Nat, n < 18 ∧ a = (n : Int) + 1 := ⟨(a - 1).toNat, by omega, by omega⟩
  have h1 := (low18 n hn).2
  rw [nm_nat n hn, Lib.toList_data, Lib.toList_data]
  rcases nm_in b with h | h | ⟨m, hm, rfl⟩
  · rw [nm_out b (.inl h)]
    have e : ((n : Int) + 1 == b) = false := by rw [beq_dec]; exact decide_eq_false (by omega)
    rw [e, Bool.eq_false_iff]; intro h'
    have := eq_of_beq h'
    have this : (kindNames[n + 1]?).getD [] = [] := this
    rw [this] at h1; exact absurd h1 (Nat.not_lt_zero _)
  · rw [nm_out b (.inr h)]
    have e : ((n : Int) + 1 == b) = false := by rw [beq_dec]; exact decide_eq_false (by omega)
    rw [e, Bool.eq_false_iff]; intro h'
    have := eq_of_beq h'
    have this : (kindNames[n + 1]?).getD [] = [] := this
    rw [this] at h1; exact absurd h1 (Nat.not_lt_zero _)
  · rw [nm_nat m hm]
    by_cases e : n = m
    · subst e; rw [beq_self_eq_true, beq_self_eq_true]
    · have e1 : ((n : Int) + 1 == (m : Int) + 1) = false := by rw [beq_dec]; exact decide_eq_false (by omega)
      rw [e1, Bool.eq_false_iff]; intro h'
      have := eq_of_beq h'
      have this : (kindNames[n + 1]?).getD [] = (kindNames[m + 1]?).getD [] := this
      exact e (diff18 n hn m hm this)
theorem len18 : ∀ n, n < 18 → ((kindNames[n + 1]?).getD []).length ≤ 8 := by decide +kernel
theorem nm_size (k : Int) : (nm k).size ≤ 8 := by
  rcases nm_in k with h | h | ⟨n, hn, rfl⟩
  · rw [nm_out k (.inl h)]; decide
  · rw [nm_out k (.inr h)]; decide
  · rw [nm_nat n hn]; exact len18 n hn
theorem below_name {n₀ : Nat} {w w' : World} (h : Below n₀ w w') (hs : n₀ ≤ w'.heap.size) : Below n₀ w (w'.alloc (.cells nameCells 49)) := h.alloc hs _
set_option maxRecDepth 10000 in
set_option maxHeartbeats 1000000 in
theorem letterNames_any (a b : Int) (w : World) : Calls Try.prog 3 #[.int .i64 a, .int .i64 b] w (Gives (.bool true) w) := by
  have hlow := nm_lower a
  have hpos := nm_pos a
  have hlen := nm_size a
  have HS := Lib.hid (nm_same a b)
  have HNA := fun W => name_any a W
  have HNB := fun W => name_any b W
  unfold Named at HNA HNB
  rw [show (if 0 ≤ a ∧ a < 19 then nameOf a else ⟨#[]⟩) = nm a from rfl] at HNA
  rw [show (if 0 ≤ b ∧ b < 19 then nameOf b else ⟨#[]⟩) = nm b from rfl] at HNB
  obtain ⟨x, hx⟩ : ∃ x, nm a = x := ⟨_, rfl⟩
  obtain ⟨y, hy⟩ : ∃ y, nm b = y := ⟨_, rfl⟩
  rw [hx] at hlow hpos hlen HS HNA
  rw [hy] at HNB HS
  have HLOW := Lib.hid hlow
  have HPOS := Lib.hid hpos
  have HA := Lib.hid HNA
  have HB := Lib.hid HNB
  clear hlow hpos HNA HNB hx hy
  go_enter Try.func3, Try.ntmps3
  go_wp2_with fail
  refine (sanity_any _).mono ?_
  rintro e w1 ⟨rfl, hb1⟩
  go_wp2_with fail
  refine (HA.out _).mono ?_
  rintro e w2 ⟨rfl, rfl⟩
  go_wp2_with fail
  refine (HB.out _).mono ?_
  rintro e w3 ⟨rfl, rfl⟩
  have HL := Lib.hid (below_trans (below_trans hb1 (below_var w1 (.cells nameCells 49))) (below_var _ (.cells nameCells 49)))
  obtain ⟨W, hW⟩ : ∃ W, (w1.alloc (.cells nameCells 49)).alloc (.cells nameCells 49) = W := ⟨_, rfl⟩
  rw [hW] at HL ⊢
  clear hW hb1
  by_cases hk : 1 ≤ a ∧ a ≤ 18
  · obtain ⟨hk1, hk2⟩ := hk
    have hxs : 0 < x.size := by have := HPOS.out; rw [decide_eq_true hk1, decide_eq_true hk2] at this; exact of_decide_eq_true this
    have hxI : (0 : Int) < (x.size : Int) := by omega
    have hxy := HS.out ⟨hk1, hk2⟩
    clear HPOS HS
    go_wp2_with fail
    go_loopw [9] (fun i wr => ∃ k : Nat, k ≤ x.size ∧ i = I k ∧ wr = W) (fun i _ => x.size - (intOf i).toNat)
    case atStart => exact ⟨0, by omega, rfl, rfl⟩
    case round =>
      obtain ⟨k, hk, rfl, rfl⟩ := hrel
      by_cases hlt : k < x.size
      · have hltI : (k : Int) < (x.size : Int) := by omega
        have h0I : (0 : Int) ≤ (k : Int) := by omega
        have h8 : k < 8 := by omega
        have d1 : decide (((x[k]'hlt).toNat : Int) < 97) = false := decide_eq_false (by have := (HLOW.out k hlt).1; omega)
        have d2 : decide (122 < ((x[k]'hlt).toNat : Int)) = false := decide_eq_false (by have := (HLOW.out k hlt).2; omega)
        clear hxy hxI hxs
        go_wp2
        go_roundw
        case rel => exact ⟨k + 1, by omega, by go_num, trivial⟩
        case measure => simp [intOf]; omega
      · cases hab : (a == b)
        · rw [hab] at hxy
          go_wp2
          go_ret
          exact ⟨rfl, HL.out⟩
        · rw [hab] at hxy
          go_wp2
          go_ret
          exact ⟨rfl, HL.out⟩
  · have hxs : x.size = 0 := by
      have := HPOS.out
      rw [show (decide (1 ≤ a) && decide (a ≤ 18)) = false from by rw [← Bool.decide_and]; exact decide_eq_false hk] at this
      have := of_decide_eq_false this
      omega
    have hkc : a < 1 ∨ 18 < a := by omega
    clear HPOS HS HLOW hk
    rcases hkc with hk | hk
    all_goals
      go_wp2_with fail
      go_loopw [9] (fun i wr => i = I 0 ∧ wr = W) (fun i _ => 0)
      case atStart => exact ⟨rfl, rfl⟩
      case round =>
        obtain ⟨rfl, rfl⟩ := hrel
        go_wp2
        go_ret
        exact ⟨rfl, HL.out⟩
end Go.Proofs.Ytljhgfbfamomoaa
