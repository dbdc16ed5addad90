/- Memory that is only read: the cells of a slice, of a zone, of a table, of a chain. -/
import Derived.Test.YtbdkalpljhpnmaaGreatQa
import Derived.Test.YtbdkalpljhpnmaaGreatPl
import Derived.Test.YtbdkalpljhpnmaaGreatSvF
import Derived.Test.YtbdkalpljhpnmaaGreatPm
import Derived.Lib.Hide
import Derived.Maps.AppendAt
import Derived.Laws.Rows
namespace Go.Proofs.YtbdkalpljhpnmaaGreat
open Go Go.RowKit

/-- The cells of a slice, in memory older than block B. -/
def CellsAt (w : World) (B : Nat) (A : Option Addr) (cs : List Value) : Prop :=
  cs.length = 0 ∨ ∃ b off, A = some ⟨b, off, none⟩ ∧ b < B ∧ ∀ j u, cs[j]? = some u → w.cell? ⟨b, off + j, none⟩ = some u
section
variable {w w' : World} {B B' : Nat} {A : Option Addr} {cs : List Value}
theorem CellsAt.keep (h : CellsAt w B A cs) (hb : Below B w w') : CellsAt w' B A cs := by
  rcases h with h | ⟨b, off, h1, h2, h3⟩
  · exact .inl h
  · exact .inr ⟨b, off, h1, h2, fun j u hu => (hb.cell (p := ⟨b, off + j, none⟩) h2).trans (h3 j u hu)⟩
theorem CellsAt.more (h : CellsAt w B A cs) (hB : B ≤ B') : CellsAt w B' A cs := by
  rcases h with h | ⟨b, off, h1, h2, h3⟩
  · exact .inl h
  · exact .inr ⟨b, off, h1, by omega, h3⟩
theorem CellsAt.grow (h : CellsAt w w.heap.size A cs) (hb : Below w.heap.size w w') : CellsAt w' w'.heap.size A cs := (h.keep hb).more hb.size
theorem CellsAt.nil : CellsAt w B A [] := .inl rfl
theorem CellsAt.drew (h : CellsAt w B A cs) : CellsAt w.drew B A cs := h
theorem CellsAt.there (h : CellsAt w B A cs) (h0 : 0 < cs.length) : ∃ b off, A = some ⟨b, off, none⟩ ∧ b < B ∧ ∀ j u, cs[j]? = some u → w.cell? ⟨b, off + j, none⟩ = some u := by
  rcases h with h | h
  · omega
  · exact h
theorem CellsAt.of_own {lo e size n c : Nat} (h : w.ownsRow lo e size (.slice A n c) n cs) : CellsAt w w.heap.size A cs := by
  rcases h.2 with ⟨hv, hn⟩ | ⟨g, cap, cur, hv, _, hh, _⟩
  · refine .inl ?_
    rw [h.1, hn, Nat.zero_mul]
  · injection hv with h1 _ _
    subst h1
    exact .inr ⟨g, 0, rfl, (Array.getElem?_eq_some_iff.1 hh).1, fun j u hu => by rw [Nat.zero_add, ← addr_add]; exact h.cells (g := g) rfl j u hu⟩
theorem CellsAt.ints {zs : List Int} (h : CellsAt w B A (zs.map I)) : IntsAt w B A zs := by
  rcases h with h | ⟨b, off, h1, h2, h3⟩
  · exact .inl (by simpa using h)
  · refine .inr ⟨b, off, h1, h2, fun j hj => ?_⟩
    rw [h3 j (I zs[j]) (by rw [List.getElem?_map, List.getElem?_eq_getElem hj]; rfl), List.getElem?_eq_getElem hj]
    rfl
theorem CellsAt.bytes {bs : List UInt8} (h : CellsAt w B A (bs.map Extern.Stop.cell)) : BytesAt w B A bs := by
  rcases h with h | ⟨b, off, h1, h2, h3⟩
  · exact .inl (by simpa using h)
  · refine .inr ⟨b, off, h1, h2, fun j hj => ?_⟩
    rw [h3 j (Extern.Stop.cell bs[j]) (by rw [List.getElem?_map, List.getElem?_eq_getElem hj]; rfl), List.getElem?_eq_getElem hj]
    rfl
end
/-- Cells of equal size, one behind the other. -/
theorem flat_get {α : Type} {s : Nat} (f : α → List Value) (xs : List α) (hs : ∀ x ∈ xs, (f x).length = s) (k j : Nat) (x : α) (hx : xs[k]? = some x) (hj : j < s) : (xs.flatMap f)[k * s + j]? = (f x)[j]? := by
  induction xs generalizing k with
  | nil => cases hx
  | cons y xs ih =>
    rw [List.flatMap_cons]
    have hy := hs y (List.mem_cons_self ..)
    cases k with
    | zero =>
      injection hx with hx
      subst hx
      rw [Nat.zero_mul, Nat.zero_add, List.getElem?_append_left (by rw [hy]; exact hj)]
    | succ k =>
      rw [List.getElem?_append_right (by rw [hy, Nat.succ_mul]; omega), hy, show (k + 1) * s + j - s = k * s + j by rw [Nat.succ_mul]; omega]
      exact ih (fun x hx => hs x (List.mem_cons_of_mem _ hx)) k hx
theorem flat_len {α : Type} {s : Nat} (f : α → List Value) (xs : List α) (hs : ∀ x ∈ xs, (f x).length = s) : (xs.flatMap f).length = xs.length * s := by
  induction xs with
  | nil => simp
  | cons y xs ih => rw [List.flatMap_cons, List.length_append, ih (fun x hx => hs x (List.mem_cons_of_mem _ hx)), hs y (List.mem_cons_self ..), List.length_cons, Nat.succ_mul]; omega
theorem flat_ok {α : Type} (f : α → List Value) (xs : List α) (h1 : ∀ x ∈ xs, ∀ u ∈ f x, u.oneCell' = true) : ∀ u ∈ xs.flatMap f, u.oneCell' = true := by
  intro u hu
  obtain ⟨x, hm, hx⟩ := List.mem_flatMap.1 hu
  exact h1 x hm u hx
/-- An element's cells. -/
theorem CellsAt.elem {α : Type} {w : World} {s b off : Nat} {f : α → List Value} {xs : List α} (hs : ∀ x ∈ xs, (f x).length = s) (h : ∀ j u, (xs.flatMap f)[j]? = some u → w.cell? ⟨b, off + j, none⟩ = some u) (k : Nat) (x : α) (hx : xs[k]? = some x) : w.rangeAt b (off + k * s) (f x) := by
  intro j u hu
  have hj : j < s := by rw [← hs x (List.mem_of_getElem? hx)]; exact (List.getElem?_eq_some_iff.1 hu).1
  rw [Nat.add_assoc]
  exact h _ u (by rw [flat_get f xs hs k j x hx hj]; exact hu)
end Go.Proofs.YtbdkalpljhpnmaaGreat
