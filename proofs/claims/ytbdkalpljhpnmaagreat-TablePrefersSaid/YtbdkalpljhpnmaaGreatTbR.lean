/- Rows of one's own in which cells are stored in place; the cells of zones. -/
import Derived.Test.YtbdkalpljhpnmaaGreatTbK
import Derived.BigQuiet
import Derived.Deep.AppendLies
import Derived.Deep.CutBlock
import Derived.Deep.DeepCutAuto
import Derived.Deep.DrawnRows
import Derived.Deep.MidRow
import Derived.Deep.QuietTactic
import Derived.Deep.RegionHeld3
import Derived.Deep.RegionLaw
import Derived.Deep.WholeRow
import Derived.Great.BuildSlice
import Derived.Laws.BytesString
import Derived.Laws.CopyOwn
import Derived.Laws.EntriesVeiled
import Derived.Laws.MakeOwn
import Derived.Laws.ResultCell
import Derived.Laws.Rows
import Derived.Laws.Tables
import Derived.Lib.Hide
import Derived.LoopIn
import Derived.LoopNIn
import Derived.Maps.AppendAt
import Derived.Outline
import Derived.OwnWalkIn
import Derived.RangeFuncBound
import Derived.RangeFuncBox
import Derived.RangeFuncCalls
import Derived.RangeFuncLeaves
import Derived.RangeFuncNested
import Derived.Shelf.Abstract
import Derived.Shelf.Bytes.SlSmallAll
import Derived.Shelf.RegionOpen
import Derived.StillTailTactics
import Derived.Stop.BytesEq
import Derived.TacticsInMore
import Derived.WalkKit
import Derived.WalkLawsBesides
import Derived.WalkSpells
namespace Go.Proofs.YtbdkalpljhpnmaaGreat
open Go Go.RowKit

theorem own_inv {W : World} {lo e size g n m cap : Nat} {xs : List Value} (h : W.ownsRow lo e size (.slice (some ⟨g, 0, none⟩) n cap) m xs) :
    ∃ cur, W.heap[g]? = some (.cells cur e (0, 0)) ∧ lo ≤ g ∧ m ≤ cap ∧ cap ≤ maxLen ∧ cur.size = cap * size ∧ cur.toList.take (m * size) = xs ∧ xs.length = m * size ∧ n = m := by
  obtain ⟨h0, ⟨h1, _⟩ | ⟨g', cap', cur, h1, h2, h3, h4, h5, h6, h7⟩⟩ := h
  · cases h1
  · injection h1 with e1 e2 e3
    injection e1 with e1
    injection e1 with e1
    subst e1 e2 e3
    exact ⟨cur, h3, h2, h4, h5, h6, h7, h0, rfl⟩
theorem own_mk {W : World} {lo e size g n cap : Nat} {xs : List Value} {cur : Array Value} (h1 : W.heap[g]? = some (.cells cur e (0, 0))) (h2 : lo ≤ g) (h3 : n ≤ cap) (h4 : cap ≤ maxLen) (h5 : cur.size = cap * size) (h6 : cur.toList.take (n * size) = xs) (h7 : xs.length = n * size) : W.ownsRow lo e size (.slice (some ⟨g, 0, none⟩) n cap) n xs :=
  ⟨h7, .inr ⟨g, cap, cur, rfl, h2, h1, h3, h4, h5, h6⟩⟩
theorem own_cell {W : World} {lo e size g n m cap : Nat} {xs : List Value} (h : W.ownsRow lo e size (.slice (some ⟨g, 0, none⟩) n cap) m xs) (j : Nat) (u : Value) (hu : xs[j]? = some u) : W.cell? ⟨g, j, none⟩ = some u := by
  obtain ⟨cur, h1, h2, h3, h4, h5, h6, h7, _⟩ := own_inv h
  rw [cell_of_row W g j _ _ _ h1]
  rw [← h6] at hu
  rw [List.getElem?_take] at hu
  split at hu
  · simpa using hu
  · cases hu
theorem own_free {W : World} {lo e size g n m cap : Nat} {xs : List Value} (h : W.ownsRow lo e size (.slice (some ⟨g, 0, none⟩) n cap) m xs) (j : Nat) : W.frozen? ⟨g, j, none⟩ = false := by
  obtain ⟨cur, h1, _⟩ := own_inv h
  exact frozen_of_row W g j _ _ h1
theorem own_low {W : World} {lo e size g n m cap : Nat} {xs : List Value} (h : W.ownsRow lo e size (.slice (some ⟨g, 0, none⟩) n cap) m xs) : lo ≤ g ∧ g < W.heap.size := by
  obtain ⟨cur, h1, h2, _⟩ := own_inv h
  exact ⟨h2, (Array.getElem?_eq_some_iff.1 h1).1⟩
/-- One cell stored in place. -/
theorem own_put {W : World} {lo e size g n m cap : Nat} {xs : List Value} (h : W.ownsRow lo e size (.slice (some ⟨g, 0, none⟩) n cap) m xs) (o : Nat) (v : Value) : (W.setCell ⟨g, o, none⟩ v).ownsRow lo e size (.slice (some ⟨g, 0, none⟩) n cap) m (xs.set o v) := by
  obtain ⟨cur, h1, h2, h3, h4, h5, h6, h7, rfl⟩ := own_inv h
  refine own_mk (heap_setCell_same W g o cur e v h1) h2 h3 h4 (by rw [Array.size_setIfInBounds]; exact h5) ?_ (by rw [List.length_set]; exact h7)
  rw [Array.toList_setIfInBounds, List.take_set, h6]
def putL (xs : List Value) (o : Nat) : List Value → List Value
  | [] => xs
  | v :: r => putL (xs.set o v) (o + 1) r
theorem own_puts {lo e size g n m cap : Nat} : ∀ (vs : List Value) (o : Nat) (xs : List Value) (W : World), W.ownsRow lo e size (.slice (some ⟨g, 0, none⟩) n cap) m xs → (W.setCells g o vs).ownsRow lo e size (.slice (some ⟨g, 0, none⟩) n cap) m (putL xs o vs)
  | [], _, _, _, h => h
  | v :: r, o, xs, _, h => own_puts r (o + 1) (xs.set o v) _ (own_put h o v)
theorem set_mid (ls bs cs : List Value) (j : Nat) (v : Value) (hj : j < bs.length) : (ls ++ (bs ++ cs)).set (ls.length + j) v = ls ++ (bs.set j v ++ cs) := by
  rw [List.set_append_right _ _ (by omega), List.set_append_left _ _ (by omega)]
  simp
theorem putL_length (vs : List Value) : ∀ (o : Nat) (xs : List Value), (putL xs o vs).length = xs.length := by
  induction vs with
  | nil => exact fun _ _ => rfl
  | cons v r ih => intro o xs; show (putL (xs.set o v) (o + 1) r).length = _; rw [ih, List.length_set]
theorem putL_mid (ls cs : List Value) : ∀ (vs bs : List Value) (j : Nat), j + vs.length ≤ bs.length → putL (ls ++ (bs ++ cs)) (ls.length + j) vs = ls ++ (putL bs j vs ++ cs)
  | [], _, _, _ => rfl
  | v :: r, bs, j, h => by
    rw [List.length_cons] at h
    show putL ((ls ++ (bs ++ cs)).set (ls.length + j) v) (ls.length + j + 1) r = _
    rw [set_mid ls bs cs j v (by omega), Nat.add_assoc]
    exact putL_mid ls cs r (bs.set j v) (j + 1) (by rw [List.length_set]; omega)
theorem sc_other : ∀ (vs : List Value) (w : World) (b o k : Nat), k ≠ b → (w.setCells b o vs).heap[k]? = w.heap[k]?
  | [], _, _, _, _, _ => rfl
  | v :: r, w, b, o, k, h => (sc_other r _ b (o + 1) k h).trans (heap_setCell_other w _ k v h)
theorem sc_size : ∀ (vs : List Value) (w : World) (b o : Nat), (w.setCells b o vs).heap.size = w.heap.size
  | [], _, _, _ => rfl
  | v :: r, w, b, o => (sc_size r _ b (o + 1)).trans (by simp [World.setCell])
theorem sc_below {B : Nat} {w0 : World} : ∀ (vs : List Value) (w : World) (b o : Nat), Below B w0 w → B ≤ b → Below B w0 (w.setCells b o vs)
  | [], _, _, _, h, _ => h
  | v :: r, _, b, o, h, hb => sc_below r _ b (o + 1) (h.setCell (p := ⟨b, o, none⟩) hb v) hb
theorem zecells_app (xs ys : List ZeV) : zecells (xs ++ ys) = zecells xs ++ zecells ys := by simp [zecells]
theorem zecells_mid (ys : List ZeV) (x : ZeV) (rest : List ZeV) : zecells (ys ++ x :: rest) = zecells ys ++ (x.cells.toList ++ zecells rest) := by simp [zecells]
/-- A zone stored behind a name. -/
theorem zecells_zone (ys : List ZeV) (x : ZeV) (rest : List ZeV) (s : Zs) : putL (zecells (ys ++ x :: rest)) (ys.length * 9 + 1) (znCells x.e.z s).toList = zecells (ys ++ ⟨x.e, s⟩ :: rest) := by
  rw [zecells_mid, zecells_mid, ← zecells_len, putL_mid _ _ _ _ _ (by show 1 + 8 ≤ 9; omega)]
  rfl
/-- Zones in a row of one's own, their months as well. -/
structure ZsOwn (lo : Nat) (w : World) (v : Value) (zs : List ZeV) : Prop where
  row : w.ownsRow lo 73 9 v zs.length (zecells zs)
  months : ∀ x ∈ zs, LI lo w x.s.A x.e.z.cal.months
  nils : ∀ x ∈ zs, ZsNil x.s
  nil : zs.length = 0 → v = .slice none 0 0
theorem ZsOwn.of_blocks {lo : Nat} {w w' : World} {v : Value} {zs : List ZeV} (h : ZsOwn lo w v zs) (hs : w.heap.size ≤ w'.heap.size) (hb : ∀ k, lo ≤ k → k < w.heap.size → w'.heap[k]? = w.heap[k]?) : ZsOwn lo w' v zs :=
  ⟨ownsRow_blocks h.row hb, fun x hx => (h.months x hx).of_blocks hs hb, h.nils, h.nil⟩
theorem ZsOwn.below {lo : Nat} {w w' : World} {v : Value} {zs : List ZeV} (h : ZsOwn lo w v zs) (hb : Below w.heap.size w w') : ZsOwn lo w' v zs := h.of_blocks hb.size fun k _ hk => hb.block k hk
theorem ZsOwn.lower {lo lo' : Nat} {w : World} {v : Value} {zs : List ZeV} (h : ZsOwn lo w v zs) (hl : lo' ≤ lo) : ZsOwn lo' w v zs :=
  ⟨ownsRow_base' h.row hl, fun x hx => (h.months x hx).lower hl, h.nils, h.nil⟩
theorem ZsOwn.form {lo : Nat} {w : World} {v : Value} {zs : List ZeV} (h : ZsOwn lo w v zs) : (zs = [] ∧ v = .slice none 0 0) ∨ (0 < zs.length ∧ ∃ g c, v = .slice (some ⟨g, 0, none⟩) zs.length c ∧ lo ≤ g ∧ g < w.heap.size) := by
  by_cases h0 : zs.length = 0
  · exact .inl ⟨List.eq_nil_of_length_eq_zero h0, h.nil h0⟩
  · obtain ⟨g, c, h1, h2⟩ := own_form h.row (by omega)
    refine .inr ⟨by omega, g, c, h1, ?_, h2⟩
    have hr := h.row
    rw [h1] at hr
    exact (own_low hr).1
theorem ZsOwn.zes {lo : Nat} {w : World} {A : Option Addr} {n c : Nat} {zs : List ZeV} (h : ZsOwn lo w (.slice A n c) zs) : ZesAt w w.heap.size A zs := by
  rcases h.form with ⟨h1, _⟩ | ⟨_, g, c', h1, h2, h3⟩
  · exact .inl (by rw [h1]; rfl)
  · injection h1 with e1 e2 e3
    subst e1
    have hr := h.row
    refine .inr ⟨g, rfl, h3, fun k x hx => ⟨fun j u hu => ?_, (h.months x (List.mem_of_getElem? hx)).ints⟩⟩
    have hj : j < 9 := (List.getElem?_eq_some_iff.1 hu).1
    exact own_cell hr _ u (by rw [zecells_get zs k j x hx hj]; simpa using hu)
end Go.Proofs.YtbdkalpljhpnmaaGreat
