/- (*kalendsref07.Maker).Rule: what it makes, and a node under way. -/
import Derived.Test.YtdakcbddlempfaaGreatBoth
namespace Go.Proofs.YtdakcbddlempfaaGreat
open Go Go.RowKit

def OneOK (cals : Int) (d : Nd) : Prop :=
  d.r = 0 ∧ d.name = ⟨#[]⟩ ∧
  ((d.kind = 11 ∧ d.cal = 0 ∧ -7 ≤ d.n ∧ d.n ≤ 7 ∧ d.m = 0 ∧ d.list = []) ∨
   ((d.kind = 12 ∨ d.kind = 13) ∧ d.cal = 0 ∧ 0 ≤ d.n ∧ d.n < 60 ∧ d.m = 0 ∧ d.list = []) ∨
   ((d.kind = 14 ∨ d.kind = 15) ∧ d.cal = 0 ∧ d.n = 0 ∧ d.m = 0 ∧ Rising 0 60 d.list) ∨
   (d.kind = 16 ∧ 0 ≤ d.cal ∧ d.cal < cals ∧ d.n = 0 ∧ 0 ≤ d.m ∧ d.m < 2 ∧ Rising (-3) 3 d.list))
def TwoOK (d : Nd) : Prop := d.cal = 0 ∧ d.m = 0 ∧ d.list = [] ∧ d.name = ⟨#[]⟩ ∧ (((d.kind = 8 ∨ d.kind = 9 ∨ d.kind = 10) ∧ d.n = 0) ∨ (d.kind = 17 ∧ 1 ≤ d.n ∧ d.n ≤ 3))
/-- The rules that a maker makes. -/
inductive MRule (cals : Int) : List NdV → Prop
  | leaf (x : NdV) (h : LeafOK cals x.d) : MRule cals [x]
  | one (ns : List NdV) (x : NdV) (hn : MRule cals ns) (h : OneOK cals x.d) : MRule cals (overN ns x)
  | two (ns ms : List NdV) (x : NdV) (hn : MRule cals ns) (hm : MRule cals ms) (h : TwoOK x.d) : MRule cals (bothN ns ms x)
def Within (B : Int) (ns : List NdV) : Prop := ∀ x ∈ ns, 0 ≤ x.d.l ∧ x.d.l ≤ B ∧ 0 ≤ x.d.r ∧ x.d.r ≤ B
theorem Within.small {B : Int} {ns : List NdV} (h : Within B ns) (hB : B ≤ 100000) : Small ns := fun x hx => by have := h x hx; omega
theorem Within.more {B B' : Int} {ns : List NdV} (h : Within B ns) (hB : B ≤ B') : Within B' ns := fun x hx => by have := h x hx; omega
theorem Within.over {B B' : Int} {ns : List NdV} {x : NdV} (h : Within B ns) (hB : B ≤ B') (hn : 0 < ns.length) (hl : (ns.length : Int) ≤ B') (hr : x.d.r = 0) : Within B' (overN ns x) := by
  intro y hy
  rcases List.mem_append.1 hy with hy | hy
  · exact h.more hB y hy
  · rw [List.mem_singleton.1 hy]
    exact ⟨by show 0 ≤ (ns.length : Int) - 1; omega, by show (ns.length : Int) - 1 ≤ B'; omega, by show 0 ≤ x.d.r; omega, by show x.d.r ≤ B'; omega⟩
theorem Within.both {B B' : Int} {ns ms : List NdV} {x : NdV} (h : Within B ns) (hm : Within B ms) (hB : B + ns.length ≤ B') (hn : 0 < ns.length) (hl : (ns.length : Int) + ms.length ≤ B') : Within B' (bothN ns ms x) := by
  intro y hy
  rcases List.mem_append.1 hy with hy | hy
  · rcases List.mem_append.1 hy with hy | hy
    · exact h.more (by omega) y hy
    · obtain ⟨z, hz, rfl⟩ := List.mem_map.1 hy
      have := hm z hz
      refine ⟨?_, ?_, ?_, ?_⟩ <;> (show _ ≤ _; unfold mvd; dsimp only; split <;> omega)
  · rw [List.mem_singleton.1 hy]
    exact ⟨by show 0 ≤ (ns.length : Int) - 1; omega, by show (ns.length : Int) - 1 ≤ B'; omega, by show 0 ≤ (ns.length : Int) + ms.length - 1; omega, by show (ns.length : Int) + ms.length - 1 ≤ B'; omega⟩
def Ruled (deep : Nat) (lo : Nat) (w : World) (mb : Nat) (xs : List Int) (at_ nodes : Nat) (cals : Int) (e : Ending) (w' : World) : Prop :=
  ∃ ns v a' n', e = .returned v ∧ 0 < ns.length ∧ ns.length ≤ 4 ^ deep ∧ MRule cals ns ∧ Within (1000 * deep + 2) ns ∧ RuleIs lo w' v ns ∧ MkSt w' mb xs a' n' ∧ a' ≤ at_ + 20 * 4 ^ deep ∧ n' ≤ nodes + 4 ^ deep ∧ MKeep mb w w'
/-- A node's variable at block b, the maker at mb. -/
structure NS (w0 : World) (lo mb : Nat) (xs : List Int) (a nd b : Nat) (cs : Array Value) (W : World) : Prop where
  hm : mb < lo
  lo : lo ≤ w0.heap.size
  mkr : MkSt W mb xs a nd
  keep : MKeep mb w0 W
  b0 : w0.heap.size ≤ b
  var : W.heap[b]? = some (.cells cs 87 (0, 0))
section
variable {w0 W W' : World} {lo mb a a' nd nd' b : Nat} {xs : List Int} {cs : Array Value}
theorem NS.lt (h : NS w0 lo mb xs a nd b cs W) : b < W.heap.size := (Array.getElem?_eq_some_iff.1 h.var).1
theorem NS.cell (h : NS w0 lo mb xs a nd b cs W) : ∀ i, W.cell? ⟨b, i, none⟩ = cs[i]? := fun i => cell_of_row W b i _ _ _ h.var
theorem NS.froz (h : NS w0 lo mb xs a nd b cs W) : ∀ i, W.frozen? ⟨b, i, none⟩ = false := fun i => frozen_of_row W b i _ _ h.var
theorem NS.row (h : NS w0 lo mb xs a nd b cs W) : Row W b cs := ⟨h.lt, h.cell⟩
theorem NS.step (h : NS w0 lo mb xs a nd b cs W) (hm : MkSt W' mb xs a' nd') (hk : MKeep mb W W') : NS w0 lo mb xs a' nd' b cs W' :=
  have h1 := h.hm
  have h2 := h.lo
  have h3 := h.b0
  ⟨h.hm, h.lo, hm, h.keep.trans hk, h.b0, (hk.block b h.lt (by omega)).trans h.var⟩
theorem NS.pick (h : NS w0 lo mb xs a nd b cs W) (hx : XsOK xs) (n : Int) (ha : a ≤ 1000000000) (hn : 0 < n) (hn2 : n ≤ 1000000000000000000) :
    Calls Tryz.prog 19 #[pt mb, I n] W fun e W' => ∃ r, e = .returned (I r) ∧ 0 ≤ r ∧ r < n ∧ MKeep mb W W' ∧ NS w0 lo mb xs (a + 1) nd b cs W' :=
  (pick_any W mb xs a nd n h.mkr hx ha hn hn2).mono fun _ _ ⟨r, h1, h2, h3, h4, h5⟩ => ⟨r, h1, h2, h3, h5, h.step h4 h5⟩
theorem NS.rise (h : NS w0 lo mb xs a nd b cs W) (hx : XsOK xs) (low high : Int) (ha : a ≤ 100000000) (h1 : -1000 ≤ low) (h2 : low ≤ high) (h3 : high ≤ 1000) (h4 : 0 < high) :
    Calls Tryz.prog 94 #[pt mb, I low, I high] W fun e W' => ∃ zs A c a', e = .returned (.slice A zs.length c) ∧ Rising low high zs ∧ LI W.heap.size W' A zs ∧ a' ≤ a + 6 ∧ MKeep mb W W' ∧ NS w0 lo mb xs a' nd b cs W' :=
  (rising_any W mb xs a nd low high h.mkr hx ha h1 h2 h3 h4).mono fun _ _ ⟨zs, v, a', e1, e2, e3, e4, e5, e6⟩ => by
    obtain ⟨A, c, rfl, hli⟩ := LI.of_owns e3
    exact ⟨zs, A, c, a', e1, e2, hli, e5, e6, h.step e4 e6⟩
theorem NS.store (h : NS w0 lo mb xs a nd b cs W) (o : Nat) (v : Value) : NS w0 lo mb xs a nd b (cs.setIfInBounds o v) (W.setCell ⟨b, o, none⟩ v) := by
  have h1 := h.hm
  have h2 := h.lo
  have h3 := h.b0
  have hb : Below b W (W.setCell ⟨b, o, none⟩ v) := (Below.refl b W).setCell (p := ⟨b, o, none⟩) (Nat.le_refl _) _
  refine ⟨h.hm, h.lo, h.mkr.far _ _ (by show mb < b; omega), ?_, h.b0, heap_setCell_same W b o _ _ _ h.var⟩
  exact ⟨hb.os.trans h.keep.os, hb.tape.trans h.keep.tape, hb.output.trans h.keep.output, Nat.le_trans h.keep.size hb.size, fun k hk hn => (hb.block k (by omega)).trans (h.keep.block k hk hn)⟩
end
/-- A rule that lies beside the node's variable outlives a store into it. -/
theorem RuleIs.beside {lo : Nat} {W : World} {v : Value} {ns : List NdV} (h : RuleIs lo W v ns) {b o : Nat} {u : Value} (hb : ∀ g n c, v = .slice (some ⟨g, 0, none⟩) n c → g ≠ b) (hl : ∀ x ∈ ns, ∀ g off, x.A = some ⟨g, off, none⟩ → x.d.list.length ≠ 0 → g ≠ b) : RuleIs lo (W.setCell ⟨b, o, none⟩ u) v ns := by
  refine ⟨?_, fun x hx => ?_⟩
  · obtain ⟨h0, h1 | ⟨g, cap, cur, rfl, hg, hh, hr⟩⟩ := h.row
    · exact ⟨h0, .inl h1⟩
    · exact ⟨h0, .inr ⟨g, cap, cur, rfl, hg, (heap_setCell_other W _ g u (hb g _ _ rfl)).trans hh, hr⟩⟩
  · rcases h.lists x hx with h1 | ⟨g, off, hA, h1, h2, hc⟩
    · exact .inl h1
    · by_cases hz : x.d.list.length = 0
      · exact .inl hz
      · exact .inr ⟨g, off, hA, h1, by simpa [World.setCell] using h2, fun j hj => (World.cell?_of_block (a := ⟨g, off + j, none⟩) (heap_setCell_other W _ g u (hl x hx g off hA hz))).trans (hc j hj)⟩
theorem rule_one {lo : Nat} {W : World} {x : NdV} (hlo : lo ≤ W.heap.size) (hl : LI lo W x.A x.d.list) : RuleIs lo (W.alloc (.cells (ndCells x.d x.A x.c) 87)) (.slice (some ⟨W.heap.size, 0, none⟩) 1 1) [x] := by
  refine ⟨⟨rfl, .inr ⟨W.heap.size, 1, ndCells x.d x.A x.c, rfl, hlo, heap_alloc_last W _, Nat.le_refl _, by unfold maxLen; omega, rfl, by rw [rcells_one]; rfl⟩⟩, fun y hy => ?_⟩
  rw [List.mem_singleton.1 hy]
  exact hl.of_blocks (below_var W _).size fun k _ h2 => (below_var W _).block k h2
end Go.Proofs.YtdakcbddlempfaaGreat
