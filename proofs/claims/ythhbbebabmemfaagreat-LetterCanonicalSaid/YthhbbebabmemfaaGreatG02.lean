/- The texts Over, Moved, Both, RuleS, Rule, in this order. -/
import Derived.Test.YthhbbebabmemfaaGreatPm
import Derived.Test.YthhbbebabmemfaaGreatG01
import Derived.BigQuiet
import Derived.Deep.AppendLies
import Derived.Deep.CutBlock
import Derived.Deep.DeepCutAuto
import Derived.Deep.DrawnRows
import Derived.Deep.MidRow
import Derived.Deep.QuietTactic
import Derived.Deep.RegionHeld3
import Derived.Deep.RegionLaw
import Derived.Deep.WholeRow
import Derived.Great.BuildSlice
import Derived.Laws.BytesString
import Derived.Laws.CopyOwn
import Derived.Laws.EntriesVeiled
import Derived.Laws.MakeOwn
import Derived.Laws.ResultCell
import Derived.Laws.Rows
import Derived.Laws.Tables
import Derived.Lib.Hide
import Derived.LoopIn
import Derived.LoopNIn
import Derived.Maps.AppendAt
import Derived.Outline
import Derived.OwnWalkIn
import Derived.RangeFuncBound
import Derived.RangeFuncBox
import Derived.RangeFuncCalls
import Derived.RangeFuncLeaves
import Derived.RangeFuncNested
import Derived.Shelf.Abstract
import Derived.Shelf.Bytes.SlSmallAll
import Derived.Shelf.RegionOpen
import Derived.StillTailTactics
import Derived.Stop.BytesEq
import Derived.TacticsInMore
import Derived.WalkKit
import Derived.WalkLawsBesides
import Derived.WalkSpells
/- kalendsref07.over. -/
namespace Go.Proofs.YthhbbebabmemfaaGreat
open Go Go.RowKit

theorem grown_mk {lo : Nat} {w w1 : World} {v : Value} (h : w.grownBy w1 v.ownBlock) {e size n : Nat} {xs : List Value} {w0 : World} (hw : Below w0.heap.size w0 w) (hown : w.ownsRow w0.heap.size e size v n xs) : Below w0.heap.size w0 w1 :=
  have _ := lo
  ⟨h.os.trans hw.os, h.tape.trans hw.tape, h.output.trans hw.output, Nat.le_trans hw.size h.size, fun k hk => (h.block k (Nat.lt_of_lt_of_le hk hw.size) (own_ge hown k hk)).trans (hw.block k hk)⟩
theorem cells_new {w : World} {x : NdV} {t : TypeId} : ∀ j u, (rcells [x])[j]? = some u → (w.alloc (.cells (ndCells x.d x.A x.c) t)).cell? ((⟨w.heap.size, 0, none⟩ : Addr).add j) = some u := by
  intro j u hu
  have hadd : (⟨w.heap.size, 0, none⟩ : Addr).add j = ⟨w.heap.size, j, none⟩ := by unfold Addr.add; split <;> simp_all
  rw [hadd, (Row.new w _ t).2 j]
  rw [rcells_one] at hu
  simpa [NdV.cells] using hu
/-- The new rule: old nodes, then one that uses the last of them. -/
def RuleGot (lo : Nat) (w : World) (ns : List NdV) (e : Ending) (w' : World) : Prop := ∃ v, e = .returned v ∧ RuleIs lo w' v ns ∧ Below w.heap.size w w'
def overN (ns : List NdV) (x : NdV) : List NdV := ns ++ [⟨{ x.d with l := (ns.length : Int) - 1 }, x.A, x.c⟩]
theorem nd_get0 (d : Nd) (A : Option Addr) (c : Nat) : (ndCells d A c)[0]? = some (I d.kind) := rfl
theorem nd_get2 (d : Nd) (A : Option Addr) (c : Nat) : (ndCells d A c)[2]? = some (I d.l) := rfl
theorem nd_get3 (d : Nd) (A : Option Addr) (c : Nat) : (ndCells d A c)[3]? = some (I d.r) := rfl
attribute [local go_sem] nd_get0 nd_get2 nd_get3
set_option maxRecDepth 10000 in
set_option maxHeartbeats 1000000 in
theorem over_any (lo : Nat) (w : World) (v : Value) (ns : List NdV) (x : NdV) (hr : RuleIs lo w v ns) (hne : ns ≠ []) (hl : LI lo w x.A x.d.list) (hn : ns.length ≤ 1000) (hlo : lo ≤ w.heap.size) :
    Calls Tryz.prog 89 #[v, .agg (ndCells x.d x.A x.c)] w (RuleGot lo w (overN ns x)) := by
  obtain ⟨g, cap, rfl, hg1, hg2, hcells⟩ := hr.form hne
  have hpos : 0 < ns.length := by cases ns; exact absurd rfl hne; simp
  have HR := Lib.hid hr
  have HL := Lib.hid hl
  have HC := Lib.hid hcells
  clear hr hl hcells
  go_enter Tryz.func89, Tryz.ntmps89
  obtain ⟨y, hy⟩ : ∃ y : NdV, (⟨{ x.d with l := (ns.length : Int) - 1 }, x.A, x.c⟩ : NdV) = y := ⟨_, rfl⟩
  have hyc : (ndCells x.d x.A x.c).setIfInBounds 2 (.int .i64 ((ns.length : Int) - 1)) = ndCells y.d y.A y.c := by rw [← hy]; rfl
  have HOV : Hid (overN ns x = ns ++ [y]) := Lib.hid (by rw [← hy]; rfl)
  have HLY : Hid (LI lo w y.A y.d.list) := Lib.hid (by rw [← hy]; exact HL.out)
  have HBa := Lib.hid (below_trans (below_var w (.cells (ndCells y.d y.A y.c) 75)) (below_var _ (.cells #[] 75)))
  have HOE : Hid (((w.alloc (.cells (ndCells y.d y.A y.c) 75)).alloc (.cells #[] 75)).ownsRow w.heap.size 75 8 (.slice (some ⟨w.heap.size + 1, 0, none⟩) 0 0) ([] : List NdV).length (rcells [])) := Lib.hid (by have := own_empty (w.alloc (.cells (ndCells y.d y.A y.c) 75)) w.heap.size (by simp); rwa [World.size_alloc] at this)
  have HNEW : Hid (∀ j u, (rcells ns)[j]? = some u → ((w.alloc (.cells (ndCells y.d y.A y.c) 75)).alloc (.cells #[] 75)).cell? ((⟨g, 0, none⟩ : Addr).add j) = some u) := Lib.hid (fun j u hu => by rw [addr_add]; exact (HBa.out.cell (p := ⟨g, j, none⟩) hg2).trans (HC.out j u hu))
  go_upto_region 2 with fail
  try rw [hyc]
  clear hyc hy
  go_wp2_with (at_builtin; refine wpList_app_nodes rfl _ _ rfl w.heap.size _ [] rfl HOE.out ⟨g, 0, none⟩ cap ns rfl HNEW.out (by simp; omega) (by simp; omega) ?_)
  intro v1 w1 hown1 hgrow1
  have HB1 := Lib.hid (grown_mk (lo := lo) hgrow1 HBa.out HOE.out)
  have hnb : w1.heap[w.heap.size]? = some (.cells (ndCells y.d y.A y.c) 75 (0, 0)) := (hgrow1.block w.heap.size (by simp; omega) (by simp [Value.ownBlock])).trans (heap_alloc2_old w _ _)
  have HRW : Hid (Row w1 w.heap.size (ndCells y.d y.A y.c)) := Lib.hid ⟨(Array.getElem?_eq_some_iff.1 hnb).1, fun i => cell_of_row w1 _ i _ _ _ hnb⟩
  have HO1 := Lib.hid hown1
  clear hown1 hgrow1 hnb HBa HOE HNEW
  go_wp2_with (first
    | (with_reducible refine g_load 75 ?_; refine wpList_load_Row rfl _ _ rfl w.heap.size rfl (ndCells y.d y.A y.c) HRW.out _ Tryz.underlying75 rfl (nd_size _ _ _) ?_)
    | (with_reducible refine g_bslice 28 ?_; refine wpList_node_slice rfl _ rfl y.d y.A y.c rfl ?_)
    | (at_builtin; refine wpList_app_nodes rfl _ _ rfl w.heap.size _ ([] ++ ns) rfl (HO1.out.alloc _) ⟨w1.heap.size, 0, none⟩ 1 [y] rfl cells_new (by simp; omega) (by have := HB1.out.size; simp; omega) ?_))
  intro v2 w2 hown2 hgrow2
  have HB2 := Lib.hid (grown_mk (lo := lo) hgrow2 (below_trans HB1.out (below_var w1 _)) (HO1.out.alloc _))
  have HO2 := Lib.hid hown2
  clear hown2 hgrow2
  go_wp2_with fail
  go_ret
  refine ⟨v2, rfl, ⟨?_, ?_⟩, HB2.out⟩
  · rw [HOV.out, List.length_append]
    exact ownsRow_base' HO2.out hlo
  · rw [HOV.out]
    intro z hz
    rcases List.mem_append.1 hz with hz | hz
    · exact ((HR.out.lists z hz).of_blocks HB2.out.size fun k _ h2 => HB2.out.block k h2)
    · rw [List.mem_singleton.1 hz]
      exact HLY.out.of_blocks HB2.out.size fun k _ h2 => HB2.out.block k h2
end Go.Proofs.YthhbbebabmemfaaGreat

/- kalendsref07.Moved. -/
namespace Go.Proofs.YthhbbebabmemfaaGreat
open Go Go.RowKit

theorem rcells_cons (x : NdV) (ns : List NdV) : rcells (x :: ns) = x.cells ++ rcells ns := by simp [rcells]
theorem rcells_mid (pre : List NdV) (x : NdV) (post : List NdV) (f : Nat) (hf : f < 8) : (rcells (pre ++ x :: post))[pre.length * 8 + f]? = x.cells[f]? := by
  rw [rcells_app, rcells_cons, List.getElem?_append_right (by rw [rcells_len]; omega), rcells_len, Nat.add_sub_cancel_left, List.getElem?_append_left (by rw [x.len]; exact hf)]
theorem rcells_set (pre : List NdV) (x y : NdV) (post : List NdV) (f : Nat) (hf : f < 8) (u : Value) (hy : x.cells.set f u = y.cells) : (rcells (pre ++ x :: post)).set (pre.length * 8 + f) u = rcells (pre ++ y :: post) := by
  rw [rcells_app, rcells_cons, List.set_append_right _ _ (by rw [rcells_len]; omega), rcells_len, Nat.add_sub_cancel_left, List.set_append_left _ _ (by rw [x.len]; exact hf), hy, rcells_app, rcells_cons]
theorem ownsRow_put {w : World} {base e size n : Nat} {g cap : Nat} {xs : List Value} (h : w.ownsRow base e size (.slice (some ⟨g, 0, none⟩) n cap) n xs) (j : Nat) (u : Value) (hj : j < xs.length) : (w.setCell ⟨g, j, none⟩ u).ownsRow base e size (.slice (some ⟨g, 0, none⟩) n cap) n (xs.set j u) := by
  obtain ⟨h0, ⟨h1, _⟩ | ⟨g', cap', cur, h1, hg, hh, h2, h3, h4, h5⟩⟩ := h
  · cases h1
  · injection h1 with h1 h1' h1''
    injection h1 with h1
    injection h1 with h1
    subst h1 h1''
    refine ⟨by rw [List.length_set]; exact h0, .inr ⟨g, cap, cur.setIfInBounds j u, rfl, hg, heap_setCell_same w g j _ _ _ hh, h2, h3, by simpa using h4, ?_⟩⟩
    have hlt : j < n * size := by rw [← h0]; exact hj
    rw [Array.toList_setIfInBounds, List.take_set, h5]
theorem own_cell {w : World} {base e size n : Nat} {g cap : Nat} {xs : List Value} (h : w.ownsRow base e size (.slice (some ⟨g, 0, none⟩) n cap) n xs) (j : Nat) (u : Value) (hu : xs[j]? = some u) : w.cell? ⟨g, j, none⟩ = some u ∧ w.frozen? ⟨g, j, none⟩ = false := by
  obtain ⟨h0, ⟨h1, _⟩ | ⟨g', cap', cur, h1, hg, hh, h2, h3, h4, h5⟩⟩ := h
  · cases h1
  · injection h1 with h1 h1' h1''
    injection h1 with h1
    injection h1 with h1
    subst h1 h1''
    refine ⟨?_, frozen_of_row w g j _ _ hh⟩
    rw [cell_of_row w g j _ _ _ hh]
    rw [← h5, List.getElem?_take] at hu
    split at hu
    · simpa using hu
    · cases hu
theorem own_blk {w : World} {base e size n : Nat} {g cap : Nat} {xs : List Value} (h : w.ownsRow base e size (.slice (some ⟨g, 0, none⟩) n cap) n xs) : base ≤ g := by
  obtain ⟨h0, ⟨h1, _⟩ | ⟨g', cap', cur, h1, hg, _⟩⟩ := h
  · cases h1
  · injection h1 with h1
    injection h1 with h1
    injection h1 with h1
    omega
def opB (k : Int) : Bool := decide (8 ≤ k) && decide (k ≤ 17)
def mvd (b : Int) (x : NdV) : NdV := ⟨{ x.d with l := if opB x.d.kind then x.d.l + b else x.d.l, r := if twoB x.d.kind then x.d.r + b else x.d.r }, x.A, x.c⟩
def movedN (b : Int) (ns : List NdV) : List NdV := ns.map (mvd b)
def MvRel (w : World) (v : Value) (ns : List NdV) (b : Int) (i : Value) (wr : World) : Prop :=
  ∃ pre rest, ns = pre ++ rest ∧ i = I pre.length ∧ wr.ownsRow w.heap.size 75 8 v ns.length (rcells (movedN b pre ++ rest)) ∧ Below w.heap.size w wr
/-- Numbers small enough that adding the offset does not wrap. -/
def Small (ns : List NdV) : Prop := ∀ x ∈ ns, -1000 ≤ x.d.l ∧ x.d.l ≤ 100000 ∧ -1000 ≤ x.d.r ∧ x.d.r ≤ 100000
attribute [local go_sem] nd_get0 nd_get2 nd_get3
set_option maxRecDepth 10000 in
set_option maxHeartbeats 1000000 in
theorem moved_any (lo : Nat) (w : World) (v : Value) (ns : List NdV) (b : Int) (hr : RuleIs lo w v ns) (hne : ns ≠ []) (hn : ns.length ≤ 1000) (hlo : lo ≤ w.heap.size) (hs : Small ns) (hb1 : 0 ≤ b) (hb2 : b ≤ 1000) :
    Calls Tryz.prog 101 #[v, I b] w (RuleGot lo w (movedN b ns)) := by
  obtain ⟨g, cap, rfl, hg1, hg2, hcells⟩ := hr.form hne
  have HR := Lib.hid hr
  have HC := Lib.hid hcells
  have HS := Lib.hid hs
  clear hr hcells hs
  go_enter Tryz.func101, Tryz.ntmps101
  have HBa := Lib.hid (below_var w (.cells #[] 75))
  have HOE := Lib.hid (own_empty w w.heap.size (Nat.le_refl _))
  have HNEW : Hid (∀ j u, (rcells ns)[j]? = some u → (w.alloc (.cells #[] 75)).cell? ((⟨g, 0, none⟩ : Addr).add j) = some u) := Lib.hid (fun j u hu => by rw [addr_add]; exact (HBa.out.cell (p := ⟨g, j, none⟩) hg2).trans (HC.out j u hu))
  go_wp2_with (at_builtin; refine wpList_app_nodes rfl _ _ rfl w.heap.size _ [] rfl HOE.out ⟨g, 0, none⟩ cap ns rfl HNEW.out (by simp; omega) (by simp) ?_)
  intro v1 w1 hown1 hgrow1
  have hpos : 0 < ns.length := by cases ns; exact absurd rfl hne; simp
  obtain ⟨g1, cap1, rfl, _⟩ := own_form hown1 (by simpa using hpos)
  have HB1 := Lib.hid (grown_mk (lo := lo) hgrow1 HBa.out HOE.out)
  have HO1 : Hid (w1.ownsRow w.heap.size 75 8 (.slice (some ⟨g1, 0, none⟩) ns.length cap1) ns.length (rcells ns)) := Lib.hid hown1
  clear hown1 hgrow1 HBa HOE HNEW
  go_wp2_with fail
  go_loopw [6] (fun i wr => MvRel w (.slice (some ⟨g1, 0, none⟩) ns.length cap1) ns b i wr) (fun i _ => ns.length - (intOf i).toNat)
  case atStart => exact ⟨[], ns, rfl, rfl, HO1.out, HB1.out⟩
  case round =>
    obtain ⟨pre, rest, hns, rfl, hown, hb⟩ := hrel
    have HB := Lib.hid hb
    clear hb HO1 HB1
    cases rest with
    | nil =>
      rw [List.append_nil] at hns hown
      have hlen : ns.length = pre.length := by rw [hns]
      have HN := Lib.hid hns
      have HO := Lib.hid hown
      clear hns hown
      go_wp2_with fail
      go_ret
      refine ⟨_, rfl, ⟨?_, ?_⟩, HB.out⟩
      · rw [HN.out]
        have := HO.out
        rw [HN.out] at this
        unfold movedN at this ⊢
        rw [List.length_map]
        exact ownsRow_base' this hlo
      · intro z hz
        unfold movedN at hz
        obtain ⟨y, hy, rfl⟩ := List.mem_map.1 hz
        exact (HR.out.lists y hy).of_blocks HB.out.size fun k _ h2 => HB.out.block k h2
    | cons x post =>
      have hk : pre.length < ns.length := by rw [hns]; simp
      have hltI : (pre.length : Int) < (ns.length : Int) := by omega
      have hxs := HS.out x (by rw [hns]; simp)
      obtain ⟨hx1, hx2, hx3, hx4⟩ := hxs
      have hpl : (movedN b pre).length = pre.length := by unfold movedN; simp
      obtain ⟨P, hP⟩ : ∃ P, movedN b pre = P := ⟨_, rfl⟩
      rw [hP] at hown hpl
      have HP := Lib.hid hP
      have HNS := Lib.hid hns
      have hj : ∀ f, f < 8 → (rcells (P ++ x :: post))[pre.length * 8 + f]? = x.cells[f]? := fun f hf => by rw [← hpl]; exact rcells_mid P x post f hf
      have c0 := own_cell hown (pre.length * 8) (I x.d.kind) (hj 0 (by omega))
      have c2 := own_cell hown (pre.length * 8 + 2) (I x.d.l) (hj 2 (by omega))
      have c3 := own_cell hown (pre.length * 8 + 3) (I x.d.r) (hj 3 (by omega))
      have HO := Lib.hid hown
      clear hown hj hP hns
      have hcase : (x.d.kind < 8 ∨ 17 < x.d.kind) ∨ (8 ≤ x.d.kind ∧ x.d.kind ≤ 17) := by omega
      rcases hcase with hkk | ⟨hk1, hk2⟩
      · have ht : twoB x.d.kind = false := by unfold twoB; simp only [beq_dec]; rw [decide_eq_false (by omega), decide_eq_false (by omega), decide_eq_false (by omega), decide_eq_false (by omega)]; rfl
        have ho : opB x.d.kind = false := by unfold opB; rcases hkk with h | h; rw [decide_eq_false (by omega)]; rfl; rw [decide_eq_false (p := x.d.kind ≤ 17) (by omega), Bool.and_false]
        have HT := Lib.hid ht
        have HX : Hid (mvd b x = x) := Lib.hid (by unfold mvd; rw [ht, ho]; rfl)
        clear ht ho
        rcases hkk with hkk | hkk
        all_goals
          go_wp2_with (go_at_call 86; refine (two_any _ _).mono ?_; rintro e w5 ⟨rfl, rfl⟩; rw [HT.out])
          go_roundw
          case rel => exact ⟨pre ++ [x], post, by rw [List.append_assoc]; exact HNS.out, by rw [List.length_append]; go_num, by unfold movedN at HP ⊢; rw [List.map_append, HP.out, List.map_singleton, HX.out, List.append_assoc]; exact HO.out, HB.out⟩
          case measure => simp [intOf]; omega
      · have ho : opB x.d.kind = true := by unfold opB; rw [decide_eq_true hk1, decide_eq_true hk2]; rfl
        have HB2 : Hid (Below w.heap.size w (wr.setCell ⟨g1, pre.length * 8 + 2, none⟩ (I (x.d.l + b)))) := Lib.hid (HB.out.setCell (p := ⟨g1, pre.length * 8 + 2, none⟩) (own_blk HO.out) _)
        have hsz : pre.length * 8 + 3 < (rcells (P ++ x :: post)).length := by rw [rcells_len, List.length_append, List.length_cons, hpl]; omega
        obtain ⟨y, hy⟩ : ∃ y : NdV, (⟨{ x.d with l := x.d.l + b }, x.A, x.c⟩ : NdV) = y := ⟨_, rfl⟩
        have ey : y.d.kind = x.d.kind := by rw [← hy]
        have er : y.d.r = x.d.r := by rw [← hy]
        have HO2 : Hid ((wr.setCell ⟨g1, pre.length * 8 + 2, none⟩ (I (x.d.l + b))).ownsRow w.heap.size 75 8 (.slice (some ⟨g1, 0, none⟩) ns.length cap1) ns.length (rcells (P ++ y :: post))) := Lib.hid (by
          have := ownsRow_put HO.out (pre.length * 8 + 2) (I (x.d.l + b)) (by omega)
          rw [← hpl, rcells_set P x y post 2 (by omega) _ (by rw [← hy]; rfl), hpl] at this
          exact this)
        have hj2 : ∀ f, f < 8 → (rcells (P ++ y :: post))[pre.length * 8 + f]? = y.cells[f]? := fun f hf => by rw [← hpl]; exact rcells_mid P y post f hf
        have d0 := own_cell HO2.out (pre.length * 8) (I x.d.kind) ((hj2 0 (by omega)).trans (by rw [← ey]; rfl))
        have d3 := own_cell HO2.out (pre.length * 8 + 3) (I x.d.r) ((hj2 3 (by omega)).trans (by rw [← er]; rfl))
        clear c3 hj2
        cases ht : twoB x.d.kind
        · have HT := Lib.hid ht
          have HX : Hid (mvd b x = y) := Lib.hid (by unfold mvd; rw [ht, ho, ← hy]; rfl)
          clear ht ho hy ey er
          go_wp2_with (go_at_call 86; refine (two_any _ _).mono ?_; rintro e w5 ⟨rfl, rfl⟩; rw [HT.out])
          go_roundw
          case rel => exact ⟨pre ++ [x], post, by rw [List.append_assoc]; exact HNS.out, by rw [List.length_append]; go_num, by unfold movedN at HP ⊢; rw [List.map_append, HP.out, List.map_singleton, HX.out, List.append_assoc]; exact HO2.out, HB2.out⟩
          case measure => simp [intOf]; omega
        · have HT := Lib.hid ht
          obtain ⟨z, hz⟩ : ∃ z : NdV, (⟨{ y.d with r := x.d.r + b }, y.A, y.c⟩ : NdV) = z := ⟨_, rfl⟩
          have HX : Hid (mvd b x = z) := Lib.hid (by unfold mvd; rw [ht, ho, ← hz, ← hy]; rfl)
          have HB3 : Hid (Below w.heap.size w ((wr.setCell ⟨g1, pre.length * 8 + 2, none⟩ (I (x.d.l + b))).setCell ⟨g1, pre.length * 8 + 3, none⟩ (I (x.d.r + b)))) := Lib.hid (HB2.out.setCell (p := ⟨g1, pre.length * 8 + 3, none⟩) (own_blk HO2.out) _)
          have HO3 : Hid (((wr.setCell ⟨g1, pre.length * 8 + 2, none⟩ (I (x.d.l + b))).setCell ⟨g1, pre.length * 8 + 3, none⟩ (I (x.d.r + b))).ownsRow w.heap.size 75 8 (.slice (some ⟨g1, 0, none⟩) ns.length cap1) ns.length (rcells (P ++ z :: post))) := Lib.hid (by
            have := ownsRow_put HO2.out (pre.length * 8 + 3) (I (x.d.r + b)) (by rw [rcells_len, List.length_append, List.length_cons, hpl]; omega)
            rw [← hpl, rcells_set P y z post 3 (by omega) _ (by rw [← hz]; rfl), hpl] at this
            exact this)
          clear ht ho hy hz ey er
          go_wp2_with (go_at_call 86; refine (two_any _ _).mono ?_; rintro e w5 ⟨rfl, rfl⟩; rw [HT.out])
          go_roundw
          case rel => exact ⟨pre ++ [x], post, by rw [List.append_assoc]; exact HNS.out, by rw [List.length_append]; go_num, by unfold movedN at HP ⊢; rw [List.map_append, HP.out, List.map_singleton, HX.out, List.append_assoc]; exact HO3.out, HB3.out⟩
          case measure => simp [intOf]; omega
end Go.Proofs.YthhbbebabmemfaaGreat

/- kalendsref07.Both. -/
namespace Go.Proofs.YthhbbebabmemfaaGreat
open Go Go.RowKit

def bothN (ns ms : List NdV) (x : NdV) : List NdV := ns ++ movedN ns.length ms ++ [⟨{ x.d with l := (ns.length : Int) - 1, r := (ns.length : Int) + ms.length - 1 }, x.A, x.c⟩]
theorem own_below {lo e size n : Nat} {w w' : World} {v : Value} {xs : List Value} (h : w.ownsRow lo e size v n xs) (hb : Below w.heap.size w w') : w'.ownsRow lo e size v n xs := ownsRow_blocks h fun k _ h2 => hb.block k h2
attribute [local go_sem] nd_get0 nd_get2 nd_get3
set_option maxRecDepth 10000 in
set_option maxHeartbeats 1000000 in
theorem both_any (lo : Nat) (w : World) (v u : Value) (ns ms : List NdV) (x : NdV) (hr : RuleIs lo w v ns) (hne : ns ≠ []) (hm : RuleIs lo w u ms) (hme : ms ≠ []) (hsm : Small ms) (hl : LI lo w x.A x.d.list) (hn : ns.length ≤ 400) (hn2 : ms.length ≤ 400) (hlo : lo ≤ w.heap.size) :
    Calls Tryz.prog 87 #[v, u, .agg (ndCells x.d x.A x.c)] w (RuleGot lo w (bothN ns ms x)) := by
  obtain ⟨g, cap, rfl, hg1, hg2, hcells⟩ := hr.form hne
  obtain ⟨g', cap', rfl, _, _, _⟩ := hm.form hme
  have hpos : 0 < ns.length := by cases ns; exact absurd rfl hne; simp
  have HR := Lib.hid hr
  have HM := Lib.hid hm
  have HSM := Lib.hid hsm
  have HL := Lib.hid hl
  have HC := Lib.hid hcells
  clear hr hl hcells hm hsm
  go_enter Tryz.func87, Tryz.ntmps87
  obtain ⟨y, hy⟩ : ∃ y : NdV, (⟨{ x.d with l := (ns.length : Int) - 1, r := (ns.length : Int) + ms.length - 1 }, x.A, x.c⟩ : NdV) = y := ⟨_, rfl⟩
  have hyc : ((ndCells x.d x.A x.c).setIfInBounds 2 (.int .i64 ((ns.length : Int) - 1))).setIfInBounds 3 (.int .i64 ((ns.length : Int) + (ms.length : Int) - 1)) = ndCells y.d y.A y.c := by rw [← hy]; rfl
  have HOV : Hid (bothN ns ms x = ns ++ movedN ns.length ms ++ [y]) := Lib.hid (by rw [← hy]; rfl)
  have HLY : Hid (LI lo w y.A y.d.list) := Lib.hid (by rw [← hy]; exact HL.out)
  have HBa := Lib.hid (below_trans (below_var w (.cells (ndCells y.d y.A y.c) 75)) (below_var _ (.cells #[] 75)))
  have HOE : Hid (((w.alloc (.cells (ndCells y.d y.A y.c) 75)).alloc (.cells #[] 75)).ownsRow (w.heap.size + 1) 75 8 (.slice (some ⟨w.heap.size + 1, 0, none⟩) 0 0) ([] : List NdV).length (rcells [])) := Lib.hid (by have := own_empty (w.alloc (.cells (ndCells y.d y.A y.c) 75)) (w.heap.size + 1) (by simp); rwa [World.size_alloc] at this)
  have HNEW : Hid (∀ j u, (rcells ns)[j]? = some u → ((w.alloc (.cells (ndCells y.d y.A y.c) 75)).alloc (.cells #[] 75)).cell? ((⟨g, 0, none⟩ : Addr).add j) = some u) := Lib.hid (fun j u hu => by rw [addr_add]; exact (HBa.out.cell (p := ⟨g, j, none⟩) hg2).trans (HC.out j u hu))
  have g3 : ((ndCells x.d x.A x.c).setIfInBounds 2 (.int .i64 ((ns.length : Int) - 1)))[3]? = some (I x.d.r) := rfl
  go_upto_region 3 with fail
  try rw [hyc]
  clear hyc hy g3
  go_wp2_with (at_builtin; refine wpList_app_nodes rfl _ _ rfl (w.heap.size + 1) _ [] rfl HOE.out ⟨g, 0, none⟩ cap ns rfl HNEW.out (by simp; omega) (by simp) ?_)
  intro v1 w1 hown1 hgrow1
  have HB1 := Lib.hid (grown_mk (lo := lo) hgrow1 HBa.out (ownsRow_base' HOE.out (Nat.le_succ _)))
  have hnb : w1.heap[w.heap.size]? = some (.cells (ndCells y.d y.A y.c) 75 (0, 0)) := (hgrow1.block w.heap.size (by simp; omega) (by simp [Value.ownBlock])).trans (heap_alloc2_old w _ _)
  have HRW : Hid (Row w1 w.heap.size (ndCells y.d y.A y.c)) := Lib.hid ⟨(Array.getElem?_eq_some_iff.1 hnb).1, fun i => cell_of_row w1 _ i _ _ _ hnb⟩
  have HO1 : Hid (w1.ownsRow (w.heap.size + 1) 75 8 v1 ns.length (rcells ns)) := Lib.hid hown1
  clear hown1 hgrow1 hnb HBa HOE HNEW
  go_wp2_with fail
  refine (moved_any lo w1 _ ms ns.length (HM.out.below HB1.out) hme (by omega) (Nat.le_trans hlo HB1.out.size) HSM.out (by omega) (by omega)).mono ?_
  rintro e w2 ⟨u2, rfl, hm2, hb2⟩
  have hmn : movedN ns.length ms ≠ [] := by unfold movedN; intro e; exact hme (List.map_eq_nil_iff.1 e)
  have hml : (movedN ns.length ms).length = ms.length := by unfold movedN; simp
  obtain ⟨g2, cap2, rfl, _, _, hc2⟩ := hm2.form hmn
  have HB2 := Lib.hid (below_trans HB1.out hb2)
  have HRW2 := Lib.hid (HRW.out.keep hb2)
  have HO2 := Lib.hid (own_below HO1.out hb2)
  have HN2 : Hid (∀ j u, (rcells (movedN ns.length ms))[j]? = some u → w2.cell? ((⟨g2, 0, none⟩ : Addr).add j) = some u) := Lib.hid (fun j u hu => by rw [addr_add]; exact hc2 j u hu)
  have HM2 := Lib.hid hm2
  clear hb2 hc2 hm2 HRW HO1
  obtain ⟨M, hM⟩ : ∃ M, movedN ns.length ms = M := ⟨_, rfl⟩
  rw [hM] at hml HN2 HM2 HOV ⊢
  have HML := Lib.hid hml
  have HMD := Lib.hid hM
  clear hM hmn hml
  go_wp2_with (at_builtin; refine wpList_app_nodes rfl _ _ rfl (w.heap.size + 1) _ ns rfl HO2.out ⟨g2, 0, none⟩ cap2 M rfl HN2.out (by have := HML.out; omega) HRW2.out.1 ?_)
  intro v3 w3 hown3 hgrow3
  have hln3 : (ns ++ M).length ≤ 800 := by have := HML.out; rw [List.length_append]; omega
  obtain ⟨N3, hN3⟩ : ∃ N, ns ++ M = N := ⟨_, rfl⟩
  have e3 : ns.length + M.length = N3.length := by rw [← hN3, List.length_append]
  rw [hN3] at hown3 hln3
  rw [e3] at hown3
  clear e3
  have HN3 := Lib.hid hN3
  clear hN3
  have HB3 := Lib.hid (grown_mk (lo := lo) hgrow3 HB2.out (ownsRow_base' HO2.out (Nat.le_succ _)))
  have hne2 : some w.heap.size ≠ v1.ownBlock := own_ge HO2.out _ (Nat.lt_succ_self _)
  have HRW3 : Hid (Row w3 w.heap.size (ndCells y.d y.A y.c)) := Lib.hid ⟨Nat.lt_of_lt_of_le HRW2.out.1 hgrow3.size, fun i => (World.cell?_of_block (a := ⟨w.heap.size, i, none⟩) (hgrow3.block _ HRW2.out.1 hne2)).trans (HRW2.out.2 i)⟩
  have HO3 := Lib.hid hown3
  clear hown3 hgrow3 hne2
  go_wp2_with (first
    | (with_reducible refine g_load 75 ?_; refine wpList_load_Row rfl _ _ rfl w.heap.size rfl (ndCells y.d y.A y.c) HRW3.out _ Tryz.underlying75 rfl (nd_size _ _ _) ?_)
    | (with_reducible refine g_bslice 28 ?_; refine wpList_node_slice rfl _ rfl y.d y.A y.c rfl ?_)
    | (at_builtin; refine wpList_app_nodes rfl _ _ rfl (w.heap.size + 1) _ N3 rfl (HO3.out.alloc _) ⟨w3.heap.size, 0, none⟩ 1 [y] rfl cells_new (by simp; omega) (by have := HRW3.out.1; simp; omega) ?_))
  intro v4 w4 hown4 hgrow4
  have HB4 := Lib.hid (grown_mk (lo := lo) hgrow4 (below_trans HB3.out (below_var w3 _)) (ownsRow_base' (HO3.out.alloc _) (Nat.le_succ _)))
  have HO4 := Lib.hid hown4
  clear hown4 hgrow4
  go_wp2_with fail
  go_ret
  refine ⟨v4, rfl, ⟨?_, ?_⟩, HB4.out⟩
  · rw [HOV.out, HN3.out, List.length_append]
    exact ownsRow_base' HO4.out (by omega)
  · rw [HOV.out]
    intro z hz
    rcases List.mem_append.1 hz with hz | hz
    · rcases List.mem_append.1 hz with hz | hz
      · exact ((HR.out.lists z hz).of_blocks HB4.out.size fun k _ h2 => HB4.out.block k h2)
      · rw [← HMD.out] at hz
        obtain ⟨t, ht, rfl⟩ := List.mem_map.1 hz
        exact ((HM.out.lists t ht).of_blocks HB4.out.size fun k _ h2 => HB4.out.block k h2)
    · rw [List.mem_singleton.1 hz]
      exact HLY.out.of_blocks HB4.out.size fun k _ h2 => HB4.out.block k h2
end Go.Proofs.YthhbbebabmemfaaGreat

/- (*kalendsref07.Maker).Rule: what it makes, and a node under way. -/
namespace Go.Proofs.YthhbbebabmemfaaGreat
open Go Go.RowKit

def OneOK (cals : Int) (d : Nd) : Prop :=
  d.r = 0 ∧ d.name = ⟨#[]⟩ ∧
  ((d.kind = 11 ∧ d.cal = 0 ∧ -7 ≤ d.n ∧ d.n ≤ 7 ∧ d.m = 0 ∧ d.list = []) ∨
   ((d.kind = 12 ∨ d.kind = 13) ∧ d.cal = 0 ∧ 0 ≤ d.n ∧ d.n < 60 ∧ d.m = 0 ∧ d.list = []) ∨
   ((d.kind = 14 ∨ d.kind = 15) ∧ d.cal = 0 ∧ d.n = 0 ∧ d.m = 0 ∧ Rising 0 60 d.list) ∨
   (d.kind = 16 ∧ 0 ≤ d.cal ∧ d.cal < cals ∧ d.n = 0 ∧ 0 ≤ d.m ∧ d.m < 2 ∧ Rising (-3) 3 d.list))
def TwoOK (d : Nd) : Prop := d.cal = 0 ∧ d.m = 0 ∧ d.list = [] ∧ d.name = ⟨#[]⟩ ∧ (((d.kind = 8 ∨ d.kind = 9 ∨ d.kind = 10) ∧ d.n = 0) ∨ (d.kind = 17 ∧ 1 ≤ d.n ∧ d.n ≤ 3))
/-- The rules that a maker makes. -/
inductive MRule (cals : Int) : List NdV → Prop
  | leaf (x : NdV) (h : LeafOK cals x.d) : MRule cals [x]
  | one (ns : List NdV) (x : NdV) (hn : MRule cals ns) (h : OneOK cals x.d) : MRule cals (overN ns x)
  | two (ns ms : List NdV) (x : NdV) (hn : MRule cals ns) (hm : MRule cals ms) (h : TwoOK x.d) : MRule cals (bothN ns ms x)
def Within (B : Int) (ns : List NdV) : Prop := ∀ x ∈ ns, 0 ≤ x.d.l ∧ x.d.l ≤ B ∧ 0 ≤ x.d.r ∧ x.d.r ≤ B
theorem Within.small {B : Int} {ns : List NdV} (h : Within B ns) (hB : B ≤ 100000) : Small ns := fun x hx => by have := h x hx; omega
theorem Within.more {B B' : Int} {ns : List NdV} (h : Within B ns) (hB : B ≤ B') : Within B' ns := fun x hx => by have := h x hx; omega
theorem Within.over {B B' : Int} {ns : List NdV} {x : NdV} (h : Within B ns) (hB : B ≤ B') (hn : 0 < ns.length) (hl : (ns.length : Int) ≤ B') (hr : x.d.r = 0) : Within B' (overN ns x) := by
  intro y hy
  rcases List.mem_append.1 hy with hy | hy
  · exact h.more hB y hy
  · rw [List.mem_singleton.1 hy]
    exact ⟨by show 0 ≤ (ns.length : Int) - 1; omega, by show (ns.length : Int) - 1 ≤ B'; omega, by show 0 ≤ x.d.r; omega, by show x.d.r ≤ B'; omega⟩
theorem Within.both {B B' : Int} {ns ms : List NdV} {x : NdV} (h : Within B ns) (hm : Within B ms) (hB : B + ns.length ≤ B') (hn : 0 < ns.length) (hl : (ns.length : Int) + ms.length ≤ B') : Within B' (bothN ns ms x) := by
  intro y hy
  rcases List.mem_append.1 hy with hy | hy
  · rcases List.mem_append.1 hy with hy | hy
    · exact h.more (by omega) y hy
    · obtain ⟨z, hz, rfl⟩ := List.mem_map.1 hy
      have := hm z hz
      refine ⟨?_, ?_, ?_, ?_⟩ <;> (show _ ≤ _; unfold mvd; dsimp only; split <;> omega)
  · rw [List.mem_singleton.1 hy]
    exact ⟨by show 0 ≤ (ns.length : Int) - 1; omega, by show (ns.length : Int) - 1 ≤ B'; omega, by show 0 ≤ (ns.length : Int) + ms.length - 1; omega, by show (ns.length : Int) + ms.length - 1 ≤ B'; omega⟩
def Ruled (deep : Nat) (lo : Nat) (w : World) (mb : Nat) (xs : List Int) (at_ nodes : Nat) (cals : Int) (e : Ending) (w' : World) : Prop :=
  ∃ ns v a' n', e = .returned v ∧ 0 < ns.length ∧ ns.length ≤ 4 ^ deep ∧ MRule cals ns ∧ Within (1000 * deep + 2) ns ∧ RuleIs lo w' v ns ∧ MkSt w' mb xs a' n' ∧ a' ≤ at_ + 20 * 4 ^ deep ∧ n' ≤ nodes + 4 ^ deep ∧ MKeep mb w w'
/-- A node's variable at block b, the maker at mb. -/
structure NS (w0 : World) (lo mb : Nat) (xs : List Int) (a nd b : Nat) (cs : Array Value) (W : World) : Prop where
  hm : mb < lo
  lo : lo ≤ w0.heap.size
  mkr : MkSt W mb xs a nd
  keep : MKeep mb w0 W
  b0 : w0.heap.size ≤ b
  var : W.heap[b]? = some (.cells cs 75 (0, 0))
section
variable {w0 W W' : World} {lo mb a a' nd nd' b : Nat} {xs : List Int} {cs : Array Value}
theorem NS.lt (h : NS w0 lo mb xs a nd b cs W) : b < W.heap.size := (Array.getElem?_eq_some_iff.1 h.var).1
theorem NS.cell (h : NS w0 lo mb xs a nd b cs W) : ∀ i, W.cell? ⟨b, i, none⟩ = cs[i]? := fun i => cell_of_row W b i _ _ _ h.var
theorem NS.froz (h : NS w0 lo mb xs a nd b cs W) : ∀ i, W.frozen? ⟨b, i, none⟩ = false := fun i => frozen_of_row W b i _ _ h.var
theorem NS.row (h : NS w0 lo mb xs a nd b cs W) : Row W b cs := ⟨h.lt, h.cell⟩
theorem NS.step (h : NS w0 lo mb xs a nd b cs W) (hm : MkSt W' mb xs a' nd') (hk : MKeep mb W W') : NS w0 lo mb xs a' nd' b cs W' :=
  have h1 := h.hm
  have h2 := h.lo
  have h3 := h.b0
  ⟨h.hm, h.lo, hm, h.keep.trans hk, h.b0, (hk.block b h.lt (by omega)).trans h.var⟩
theorem NS.pick (h : NS w0 lo mb xs a nd b cs W) (hx : XsOK xs) (n : Int) (ha : a ≤ 1000000000) (hn : 0 < n) (hn2 : n ≤ 1000000000000000000) :
    Calls Tryz.prog 30 #[pt mb, I n] W fun e W' => ∃ r, e = .returned (I r) ∧ 0 ≤ r ∧ r < n ∧ MKeep mb W W' ∧ NS w0 lo mb xs (a + 1) nd b cs W' :=
  (pick_any W mb xs a nd n h.mkr hx ha hn hn2).mono fun _ _ ⟨r, h1, h2, h3, h4, h5⟩ => ⟨r, h1, h2, h3, h5, h.step h4 h5⟩
theorem NS.rise (h : NS w0 lo mb xs a nd b cs W) (hx : XsOK xs) (low high : Int) (ha : a ≤ 100000000) (h1 : -1000 ≤ low) (h2 : low ≤ high) (h3 : high ≤ 1000) (h4 : 0 < high) :
    Calls Tryz.prog 88 #[pt mb, I low, I high] W fun e W' => ∃ zs A c a', e = .returned (.slice A zs.length c) ∧ Rising low high zs ∧ LI W.heap.size W' A zs ∧ a' ≤ a + 6 ∧ MKeep mb W W' ∧ NS w0 lo mb xs a' nd b cs W' :=
  (rising_any W mb xs a nd low high h.mkr hx ha h1 h2 h3 h4).mono fun _ _ ⟨zs, v, a', e1, e2, e3, e4, e5, e6⟩ => by
    obtain ⟨A, c, rfl, hli⟩ := LI.of_owns e3
    exact ⟨zs, A, c, a', e1, e2, hli, e5, e6, h.step e4 e6⟩
theorem NS.store (h : NS w0 lo mb xs a nd b cs W) (o : Nat) (v : Value) : NS w0 lo mb xs a nd b (cs.setIfInBounds o v) (W.setCell ⟨b, o, none⟩ v) := by
  have h1 := h.hm
  have h2 := h.lo
  have h3 := h.b0
  have hb : Below b W (W.setCell ⟨b, o, none⟩ v) := (Below.refl b W).setCell (p := ⟨b, o, none⟩) (Nat.le_refl _) _
  refine ⟨h.hm, h.lo, h.mkr.far _ _ (by show mb < b; omega), ?_, h.b0, heap_setCell_same W b o _ _ _ h.var⟩
  exact ⟨hb.os.trans h.keep.os, hb.tape.trans h.keep.tape, hb.output.trans h.keep.output, Nat.le_trans h.keep.size hb.size, fun k hk hn => (hb.block k (by omega)).trans (h.keep.block k hk hn)⟩
end
/-- A rule that lies beside the node's variable outlives a store into it. -/
theorem RuleIs.beside {lo : Nat} {W : World} {v : Value} {ns : List NdV} (h : RuleIs lo W v ns) {b o : Nat} {u : Value} (hb : ∀ g n c, v = .slice (some ⟨g, 0, none⟩) n c → g ≠ b) (hl : ∀ x ∈ ns, ∀ g off, x.A = some ⟨g, off, none⟩ → x.d.list.length ≠ 0 → g ≠ b) : RuleIs lo (W.setCell ⟨b, o, none⟩ u) v ns := by
  refine ⟨?_, fun x hx => ?_⟩
  · obtain ⟨h0, h1 | ⟨g, cap, cur, rfl, hg, hh, hr⟩⟩ := h.row
    · exact ⟨h0, .inl h1⟩
    · exact ⟨h0, .inr ⟨g, cap, cur, rfl, hg, (heap_setCell_other W _ g u (hb g _ _ rfl)).trans hh, hr⟩⟩
  · rcases h.lists x hx with h1 | ⟨g, off, hA, h1, h2, hc⟩
    · exact .inl h1
    · by_cases hz : x.d.list.length = 0
      · exact .inl hz
      · exact .inr ⟨g, off, hA, h1, by simpa [World.setCell] using h2, fun j hj => (World.cell?_of_block (a := ⟨g, off + j, none⟩) (heap_setCell_other W _ g u (hl x hx g off hA hz))).trans (hc j hj)⟩
theorem rule_one {lo : Nat} {W : World} {x : NdV} (hlo : lo ≤ W.heap.size) (hl : LI lo W x.A x.d.list) : RuleIs lo (W.alloc (.cells (ndCells x.d x.A x.c) 75)) (.slice (some ⟨W.heap.size, 0, none⟩) 1 1) [x] := by
  refine ⟨⟨rfl, .inr ⟨W.heap.size, 1, ndCells x.d x.A x.c, rfl, hlo, heap_alloc_last W _, Nat.le_refl _, by unfold maxLen; omega, rfl, by rw [rcells_one]; rfl⟩⟩, fun y hy => ?_⟩
  rw [List.mem_singleton.1 hy]
  exact hl.of_blocks (below_var W _).size fun k _ h2 => (below_var W _).block k h2
end Go.Proofs.YthhbbebabmemfaaGreat

/- (*kalendsref07.Maker).Rule, walked. -/
namespace Go.Proofs.YthhbbebabmemfaaGreat
open Go Go.RowKit

theorem RuleIs.lower {lo lo' : Nat} {w : World} {v : Value} {ns : List NdV} (h : RuleIs lo w v ns) (hl : lo' ≤ lo) : RuleIs lo' w v ns := ⟨ownsRow_base' h.row hl, fun x hx => (h.lists x hx).lower hl⟩
theorem RuleIs.put {lo : Nat} {w : World} {v : Value} {ns : List NdV} (h : RuleIs lo w v ns) (b o : Nat) (u : Value) (hb : b < lo) : RuleIs lo (w.setCell ⟨b, o, none⟩ u) v ns :=
  h.of_blocks (by simp [World.setCell]) fun k h1 _ => heap_setCell_other w _ k u (by show k ≠ b; omega)
theorem LI.put {lo : Nat} {w : World} {A : Option Addr} {zs : List Int} (h : LI lo w A zs) (b o : Nat) (u : Value) (hb : b < lo) : LI lo (w.setCell ⟨b, o, none⟩ u) A zs :=
  h.of_blocks (by simp [World.setCell]) fun k h1 _ => heap_setCell_other w _ k u (by show k ≠ b; omega)
theorem leaf_lr {cals : Int} {d : Nd} (h : LeafOK cals d) : 0 ≤ d.l ∧ d.l ≤ 2 ∧ 0 ≤ d.r ∧ d.r ≤ 2 := by
  obtain ⟨hr, h⟩ := h
  refine ⟨?_, ?_, by omega, by omega⟩ <;> (rcases h with h | h | h | h | h | h | h | h <;> omega)
theorem mk_cells {w : World} {mb : Nat} {xs : List Int} {a n : Nat} (h : MkSt w mb xs a n) : ∃ A c, w.cell? ⟨mb, 0, none⟩ = some (.slice A xs.length c) ∧ w.cell? ⟨mb, 1, none⟩ = some (I a) ∧ w.cell? ⟨mb, 3, none⟩ = some (I n) ∧ w.frozen? ⟨mb, 3, none⟩ = false := by
  obtain ⟨A, c, h1, _⟩ := h
  exact ⟨A, c, cell_of_row w mb 0 _ _ _ h1, cell_of_row w mb 1 _ _ _ h1, cell_of_row w mb 3 _ _ _ h1, frozen_of_row w mb 3 _ _ h1⟩
theorem pow_pos4 (n : Nat) : 0 < 4 ^ n := Nat.pow_pos (by decide)
theorem ruled_leaf {deep : Nat} {w w1 w2 : World} {mb at_ nodes a' : Nat} {xs : List Int} {cals : Int} {d : Nd} {A : Option Addr} {c q : Nat} (hk1 : MKeep mb w w1) (hl : Leafed (w1.drewN q) mb xs (at_ + 1) (nodes + 1) (LeafOK cals) (.returned (.agg (ndCells d A c))) w2) (hml : mb < w.heap.size)
    (hP : LeafOK cals d) (hli : LI (w1.drewN q).heap.size w2 A d.list) (hm2 : MkSt w2 mb xs a' (nodes + 1)) (ha : a' ≤ at_ + 1 + 12) (hk2 : MKeep mb (w1.drewN q) w2) :
    Ruled deep w.heap.size w mb xs at_ nodes cals (.returned (.slice (some ⟨w2.heap.size, 0, none⟩) 1 1)) (w2.alloc (.cells (ndCells d A c) 75)) := by
  have _ := hl
  have _ := hml
  have hs : w.heap.size ≤ w1.heap.size := hk1.size
  have h4 := pow_pos4 deep
  refine ⟨[⟨d, A, c⟩], _, a', nodes + 1, rfl, by simp, by simp; omega, MRule.leaf ⟨d, A, c⟩ hP, ?_, rule_one (x := ⟨d, A, c⟩) (Nat.le_trans hs hk2.size) (hli.lower hs), hm2.grow (below_var w2 _), by omega, by omega, ((hk1.draws q).trans hk2).trans (MKeep.of_below (below_var w2 _))⟩
  intro x hx
  rw [List.mem_singleton.1 hx]
  have := leaf_lr hP
  have h0 : (0 : Int) ≤ 1000 * (deep : Int) := by omega
  exact ⟨this.1, by show d.l ≤ _; omega, this.2.2.1, by show d.r ≤ _; omega⟩
theorem pow_le64 {deep : Nat} (h : deep ≤ 3) : 4 ^ deep ≤ 64 := Nat.pow_le_pow_right (by decide : 0 < 4) h
theorem ruled_two {deep lo1 : Nat} {w w5 : World} {mb at_ nodes a' n' : Nat} {xs : List Int} {cals : Int} {ns ms : List NdV} {x : NdV} {v : Value} (hdp : deep ≤ 3) (hn1 : 0 < ns.length) (hn2 : ns.length ≤ 4 ^ deep) (hm2 : ms.length ≤ 4 ^ deep)
    (rn : MRule cals ns) (rm : MRule cals ms) (hx : TwoOK x.d) (wn : Within (1000 * deep + 2) ns) (wm : Within (1000 * deep + 2) ms) (hr : RuleIs lo1 w5 v (bothN ns ms x)) (hlo : w.heap.size ≤ lo1) (hm : MkSt w5 mb xs a' n')
    (ha : a' ≤ at_ + 2 + 2 * (20 * 4 ^ deep)) (hn : n' ≤ nodes + 1 + 2 * 4 ^ deep) (hk : MKeep mb w w5) : Ruled (deep + 1) w.heap.size w mb xs at_ nodes cals (.returned v) w5 := by
  have h4 := pow_pos4 deep
  have h64 := pow_le64 hdp
  have hp : 4 ^ (deep + 1) = 4 * 4 ^ deep := by rw [Nat.pow_succ]; omega
  have hlen : (bothN ns ms x).length = ns.length + ms.length + 1 := by unfold bothN movedN; simp; omega
  refine ⟨bothN ns ms x, v, a', n', rfl, by omega, by omega, MRule.two ns ms x rn rm hx, wn.both wm (by rw [Int.natCast_add]; omega) hn1 (by rw [Int.natCast_add]; omega), hr.lower hlo, hm, by omega, by omega, hk⟩
theorem ruled_over {deep lo1 : Nat} {w w5 : World} {mb at_ nodes a' n' : Nat} {xs : List Int} {cals : Int} {ns : List NdV} {x : NdV} {v : Value} (hdp : deep ≤ 3) (hn1 : 0 < ns.length) (hn2 : ns.length ≤ 4 ^ deep)
    (rn : MRule cals ns) (hx : OneOK cals x.d) (wn : Within (1000 * deep + 2) ns) (hr : RuleIs lo1 w5 v (overN ns x)) (hlo : w.heap.size ≤ lo1) (hm : MkSt w5 mb xs a' n')
    (ha : a' ≤ at_ + 1 + 20 * 4 ^ deep + 8) (hn : n' ≤ nodes + 1 + 4 ^ deep) (hk : MKeep mb w w5) : Ruled (deep + 1) w.heap.size w mb xs at_ nodes cals (.returned v) w5 := by
  have h4 := pow_pos4 deep
  have h64 := pow_le64 hdp
  have hp : 4 ^ (deep + 1) = 4 * 4 ^ deep := by rw [Nat.pow_succ]; omega
  have hlen : (overN ns x).length = ns.length + 1 := by unfold overN; simp
  refine ⟨overN ns x, v, a', n', rfl, by omega, by omega, MRule.one ns x rn hx, wn.over (by rw [Int.natCast_add]; omega) hn1 (by rw [Int.natCast_add]; omega) hx.1, hr.lower hlo, hm, by omega, by omega, hk⟩
theorem NS.begin {w w2 : World} {mb a nd : Nat} {xs : List Int} {cs : Array Value} (hm : MkSt w2 mb xs a nd) (hml : mb < w.heap.size) (hk : MKeep mb w w2) : NS w w.heap.size mb xs a nd w2.heap.size cs (w2.alloc (.cells cs 75)) :=
  ⟨hml, Nat.le_refl _, hm.grow (below_var w2 _), hk.trans (MKeep.of_below (below_var w2 _)), hk.size, heap_alloc_last w2 _⟩
set_option maxRecDepth 10000 in
set_option maxHeartbeats 1000000 in
theorem rule_zero (xs : List Int) (hx : XsOK xs) (cals : Int) (hc1 : 0 < cals) (hc2 : cals ≤ 1000) (w : World) (mb at_ nodes : Nat) (h : MkSt w mb xs at_ nodes) (hat : at_ ≤ 1000000) (hnd : nodes ≤ 1000000) :
    Calls Tryz.prog 73 #[pt mb, I 0, I cals] w (Ruled 0 w.heap.size w mb xs at_ nodes cals) := by
  have hml := h.lt
  have HM0 : Hid (MkSt (w.setCell ⟨mb, 3, none⟩ (I ((nodes + 1 : Nat) : Int))) mb xs at_ (nodes + 1)) := Lib.hid (h.setNodes (nodes + 1))
  have HK0 := Lib.hid ((MKeep.refl mb w).set 3 (I ((nodes + 1 : Nat) : Int)))
  obtain ⟨A0, c0, e0, e1, e3, f3⟩ := mk_cells h
  clear h
  go_enter Tryz.func73, Tryz.ntmps73
  go_wp2_with fail
  clear e0 e1 e3 f3
  refine (pick_any (w.setCell ⟨mb, 3, none⟩ (I ((nodes + 1 : Nat) : Int))) mb xs at_ (nodes + 1) 14 HM0.out hx (by omega) (by omega) (by omega)).mono ?_
  rintro e w1 ⟨k, rfl, hk1, hk2, hm1, hkp1⟩
  have HM1 := Lib.hid hm1
  have HK1 := Lib.hid (HK0.out.trans hkp1)
  obtain ⟨A1, c1, d0, d1, d3, -⟩ := mk_cells hm1
  clear hm1 hkp1 HM0 HK0
  go_wp2_with fail
  go_quiet (fail)
  go_wp2_with fail
  refine (leaf_any _ mb xs (at_ + 1) (nodes + 1) cals (HM1.out.draws nq) hx (by omega) hc1 hc2).mono ?_
  rintro e w2 ⟨d, A, c, a', rfl, hP, hli, hm2, ha2, hk3⟩
  have HF : Hid (Ruled 0 w.heap.size w mb xs at_ nodes cals (.returned (.slice (some ⟨w2.heap.size, 0, none⟩) 1 1)) (w2.alloc (.cells (ndCells d A c) 75))) := Lib.hid (ruled_leaf HK1.out ⟨d, A, c, a', rfl, hP, hli, hm2, ha2, hk3⟩ hml hP hli hm2 ha2 hk3)
  clear hP hli hm2 ha2 hk3 d0 d1 d3
  go_wp2_with (with_reducible refine g_bslice 28 ?_; refine wpList_node_slice rfl _ rfl d A c rfl ?_)
  go_ret
  exact HF.out
set_option maxRecDepth 10000 in
set_option maxHeartbeats 4000000 in
theorem rule_step (xs : List Int) (hx : XsOK xs) (cals : Int) (hc1 : 0 < cals) (hc2 : cals ≤ 1000) (deep : Nat) (hdp : deep ≤ 3) (M : Nat) (hM : M ≤ 1000000) (IH : ∀ (w : World) (mb at_ nodes : Nat), MkSt w mb xs at_ nodes → at_ ≤ M → nodes ≤ M → Calls Tryz.prog 73 #[pt mb, I (deep : Int), I cals] w (Ruled deep w.heap.size w mb xs at_ nodes cals))
    (w : World) (mb at_ nodes : Nat) (h : MkSt w mb xs at_ nodes) (hat : at_ + 10000 ≤ M) (hnd : nodes + 10000 ≤ M) :
    Calls Tryz.prog 73 #[pt mb, I ((deep : Int) + 1), I cals] w (Ruled (deep + 1) w.heap.size w mb xs at_ nodes cals) := by
  have hml := h.lt
  have HM0 : Hid (MkSt (w.setCell ⟨mb, 3, none⟩ (I ((nodes + 1 : Nat) : Int))) mb xs at_ (nodes + 1)) := Lib.hid (h.setNodes (nodes + 1))
  have HK0 := Lib.hid ((MKeep.refl mb w).set 3 (I ((nodes + 1 : Nat) : Int)))
  obtain ⟨A0, c0, e0, e1, e3, f3⟩ := mk_cells h
  clear h
  go_enter Tryz.func73, Tryz.ntmps73
  go_wp2_with fail
  clear e0 e1 e3 f3
  refine (pick_any (w.setCell ⟨mb, 3, none⟩ (I ((nodes + 1 : Nat) : Int))) mb xs at_ (nodes + 1) 14 HM0.out hx (by omega) (by omega) (by omega)).mono ?_
  rintro e w1 ⟨k, rfl, hk1, hk2, hm1, hkp1⟩
  have HM1 := Lib.hid hm1
  have HK1 := Lib.hid (HK0.out.trans hkp1)
  obtain ⟨A1, c1, d0, d1, d3, -⟩ := mk_cells hm1
  clear hm1 hkp1 HM0 HK0
  have hd0 : ¬ ((deep : Int) + 1 ≤ 0) := by omega
  have dd0 : decide ((deep : Int) + 1 ≤ 0) = false := decide_eq_false hd0
  by_cases q1 : (xs.length : Int) < (at_ : Int) + 1
  · have dq1 : decide ((xs.length : Int) < (at_ : Int) + 1) = true := decide_eq_true q1
    go_wp2_with fail
    go_quiet (fail)
    go_wp2_with fail
    refine (leaf_any _ mb xs (at_ + 1) (nodes + 1) cals (HM1.out.draws nq) hx (by omega) hc1 hc2).mono ?_
    rintro e w2 ⟨d, A, c, a', rfl, hP, hli, hm2, ha2, hk3⟩
    have HF : Hid (Ruled (deep + 1) w.heap.size w mb xs at_ nodes cals (.returned (.slice (some ⟨w2.heap.size, 0, none⟩) 1 1)) (w2.alloc (.cells (ndCells d A c) 75))) := Lib.hid (ruled_leaf HK1.out ⟨d, A, c, a', rfl, hP, hli, hm2, ha2, hk3⟩ hml hP hli hm2 ha2 hk3)
    clear hP hli hm2 ha2 hk3 d0 d1 d3
    go_wp2_with (with_reducible refine g_bslice 28 ?_; refine wpList_node_slice rfl _ rfl d A c rfl ?_)
    go_ret
    exact HF.out
  · have dq1 : decide ((xs.length : Int) < (at_ : Int) + 1) = false := decide_eq_false q1
    by_cases q2 : (30 : Int) < (nodes : Int) + 1
    · have dq2 : decide ((30 : Int) < (nodes : Int) + 1) = true := decide_eq_true q2
      go_wp2_with fail
      go_quiet (fail)
      go_wp2_with fail
      refine (leaf_any _ mb xs (at_ + 1) (nodes + 1) cals (HM1.out.draws nq) hx (by omega) hc1 hc2).mono ?_
      rintro e w2 ⟨d, A, c, a', rfl, hP, hli, hm2, ha2, hk3⟩
      have HF : Hid (Ruled (deep + 1) w.heap.size w mb xs at_ nodes cals (.returned (.slice (some ⟨w2.heap.size, 0, none⟩) 1 1)) (w2.alloc (.cells (ndCells d A c) 75))) := Lib.hid (ruled_leaf HK1.out ⟨d, A, c, a', rfl, hP, hli, hm2, ha2, hk3⟩ hml hP hli hm2 ha2 hk3)
      clear hP hli hm2 ha2 hk3 d0 d1 d3
      go_wp2_with (with_reducible refine g_bslice 28 ?_; refine wpList_node_slice rfl _ rfl d A c rfl ?_)
      go_ret
      exact HF.out
    · have dq2 : decide ((30 : Int) < (nodes : Int) + 1) = false := decide_eq_false q2
      by_cases q3 : (10 : Int) ≤ k
      · have dq3 : decide ((10 : Int) ≤ k) = true := decide_eq_true q3
        go_wp2_with fail
        go_quiet (fail)
        go_wp2_with fail
        refine (leaf_any _ mb xs (at_ + 1) (nodes + 1) cals (HM1.out.draws nq) hx (by omega) hc1 hc2).mono ?_
        rintro e w2 ⟨d, A, c, a', rfl, hP, hli, hm2, ha2, hk3⟩
        have HF : Hid (Ruled (deep + 1) w.heap.size w mb xs at_ nodes cals (.returned (.slice (some ⟨w2.heap.size, 0, none⟩) 1 1)) (w2.alloc (.cells (ndCells d A c) 75))) := Lib.hid (ruled_leaf HK1.out ⟨d, A, c, a', rfl, hP, hli, hm2, ha2, hk3⟩ hml hP hli hm2 ha2 hk3)
        clear hP hli hm2 ha2 hk3 d0 d1 d3
        go_wp2_with (with_reducible refine g_bslice 28 ?_; refine wpList_node_slice rfl _ rfl d A c rfl ?_)
        go_ret
        exact HF.out
      · have dq3 : decide ((10 : Int) ≤ k) = false := decide_eq_false q3
        go_wp2_with fail
        go_quiet (fail)
        clear d0 d1 d3 dd0 dq1 dq2 dq3 q1 q2 hd0
        have HM2 := Lib.hid (HM1.out.draws nq)
        have HK2 := Lib.hid (HK1.out.draws nq)
        obtain ⟨w2, hw2⟩ : ∃ W, w1.drewN nq = W := ⟨_, rfl⟩
        rw [hw2] at HM2 HK2 ⊢
        clear hw2 HM1 HK1
        have hm2lt : mb < w2.heap.size := Nat.lt_of_lt_of_le hml HK2.out.size
        have hkc : k = 0 ∨ k = 1 ∨ k = 2 ∨ k = 3 ∨ k = 4 ∨ k = 5 ∨ k = 6 ∨ k = 7 ∨ k = 8 ∨ k = 9 := by omega
        clear hk1 hk2 q3
        rcases hkc with rfl | rfl | rfl | rfl | rfl | rfl | rfl | rfl | rfl | rfl
        · have n0 : Hid (NS w w.heap.size mb xs (at_ + 1) (nodes + 1) w2.heap.size #[I 8, I 0, I 0, I 0, I 0, I 0, .slice none 0 0, .string ⟨#[]⟩] (w2.alloc (.cells #[I 8, I 0, I 0, I 0, I 0, I 0, .slice none 0 0, .string ⟨#[]⟩] 75))) := Lib.hid (NS.begin HM2.out hml HK2.out)
          go_wp2_with fail
          refine (IH _ mb (at_ + 1) (nodes + 1) n0.out.mkr (by omega) (by omega)).mono ?_
          rintro e w3 ⟨ns, va, a3, m3, rfl, hl1, hl2, hmr, hwi, hru, hm3, ha3, hn3, hk3⟩
          rw [World.size_alloc] at hru
          have N1 := Lib.hid (n0.out.step hm3 hk3)
          have n1c := N1.out.cell
          have n1f := N1.out.froz
          have HRU := Lib.hid hru
          have HMR := Lib.hid hmr
          have HWI := Lib.hid hwi
          have h64 := pow_le64 hdp
          have ha3' : a3 + 10 ≤ M := by omega
          have hn3' : m3 + 10 ≤ M := by omega
          have HA3 := Lib.hid ha3
          have HN3 := Lib.hid hn3
          have hne : ns ≠ [] := by intro e; rw [e] at hl1; exact absurd hl1 (Nat.lt_irrefl _)
          have hl400 : ns.length ≤ 400 := by omega
          have HL2 := Lib.hid hl2
          clear hru hmr hwi hm3 hk3 ha3 hn3 hl2 h64
          go_wp2_with (go_at_call 86; refine (two_any _ _).mono ?_; rintro e w4 ⟨rfl, rfl⟩; rw [show twoB 8 = true from rfl])
          clear n1c n1f
          refine (IH _ mb a3 m3 N1.out.mkr (by omega) (by omega)).mono ?_
          rintro e w5 ⟨ms, vb, a5, m5, rfl, hb1, hb2, hmb, hwb, hrb, hm5, ha5, hn5, hk5⟩
          have N5 := Lib.hid (N1.out.step hm5 hk5)
          have HRU := Lib.hid (HRU.out.mkeep hk5 (by omega))
          have HRB := Lib.hid (hrb.lower (lo' := w2.heap.size + 1) N1.out.lt)
          have hme : ms ≠ [] := by intro e; rw [e] at hb1; exact absurd hb1 (Nat.lt_irrefl _)
          have h64 := pow_le64 hdp
          have hb400 : ms.length ≤ 400 := by omega
          have HMB := Lib.hid hmb
          have HWB := Lib.hid hwb
          have HB2 := Lib.hid hb2
          have HA5 := Lib.hid ha5
          have HN5 := Lib.hid hn5
          clear hmb hwb hrb hm5 ha5 hn5 hk5 hb2 h64
          have ND : Hid (NS w w.heap.size mb xs a5 m5 w2.heap.size (ndCells ⟨8, 0, 0, 0, 0, 0, [], ⟨#[]⟩⟩ none 0) w5) := Lib.hid N5.out
          go_wp2_with (with_reducible refine g_load 75 ?_; refine wpList_load_Row rfl _ _ rfl w2.heap.size rfl (ndCells ⟨8, 0, 0, 0, 0, 0, [], ⟨#[]⟩⟩ none 0) ND.out.row _ Tryz.underlying75 rfl (nd_size _ _ _) ?_)
          refine (both_any (w2.heap.size + 1) w5 va vb ns ms ⟨⟨8, 0, 0, 0, 0, 0, [], ⟨#[]⟩⟩, none, 0⟩ HRU.out hne HRB.out hme (HWB.out.small (by omega)) (.inl rfl) (by omega) (by omega) ND.out.lt).mono ?_
          rintro e w8 ⟨v8, rfl, hr8, hb8⟩
          have HF := Lib.hid (ruled_two (at_ := at_) (nodes := nodes) hdp hl1 HL2.out HB2.out HMR.out HMB.out (x := ⟨⟨8, 0, 0, 0, 0, 0, [], ⟨#[]⟩⟩, none, 0⟩) (⟨rfl, rfl, rfl, rfl, .inl ⟨.inl rfl, rfl⟩⟩) HWI.out HWB.out hr8 (Nat.le_succ_of_le ND.out.b0) (ND.out.mkr.grow hb8) (by have := HA3.out; have := HA5.out; omega) (by have := HN3.out; have := HN5.out; omega) (ND.out.keep.trans (MKeep.of_below hb8)))
          clear hr8 hb8
          go_wp2_with fail
          go_ret
          exact HF.out
        · have n0 : Hid (NS w w.heap.size mb xs (at_ + 1) (nodes + 1) w2.heap.size #[I 9, I 0, I 0, I 0, I 0, I 0, .slice none 0 0, .string ⟨#[]⟩] (w2.alloc (.cells #[I 9, I 0, I 0, I 0, I 0, I 0, .slice none 0 0, .string ⟨#[]⟩] 75))) := Lib.hid (NS.begin HM2.out hml HK2.out)
          go_wp2_with fail
          refine (IH _ mb (at_ + 1) (nodes + 1) n0.out.mkr (by omega) (by omega)).mono ?_
          rintro e w3 ⟨ns, va, a3, m3, rfl, hl1, hl2, hmr, hwi, hru, hm3, ha3, hn3, hk3⟩
          rw [World.size_alloc] at hru
          have N1 := Lib.hid (n0.out.step hm3 hk3)
          have n1c := N1.out.cell
          have n1f := N1.out.froz
          have HRU := Lib.hid hru
          have HMR := Lib.hid hmr
          have HWI := Lib.hid hwi
          have h64 := pow_le64 hdp
          have ha3' : a3 + 10 ≤ M := by omega
          have hn3' : m3 + 10 ≤ M := by omega
          have HA3 := Lib.hid ha3
          have HN3 := Lib.hid hn3
          have hne : ns ≠ [] := by intro e; rw [e] at hl1; exact absurd hl1 (Nat.lt_irrefl _)
          have hl400 : ns.length ≤ 400 := by omega
          have HL2 := Lib.hid hl2
          clear hru hmr hwi hm3 hk3 ha3 hn3 hl2 h64
          go_wp2_with (go_at_call 86; refine (two_any _ _).mono ?_; rintro e w4 ⟨rfl, rfl⟩; rw [show twoB 9 = true from rfl])
          clear n1c n1f
          refine (IH _ mb a3 m3 N1.out.mkr (by omega) (by omega)).mono ?_
          rintro e w5 ⟨ms, vb, a5, m5, rfl, hb1, hb2, hmb, hwb, hrb, hm5, ha5, hn5, hk5⟩
          have N5 := Lib.hid (N1.out.step hm5 hk5)
          have HRU := Lib.hid (HRU.out.mkeep hk5 (by omega))
          have HRB := Lib.hid (hrb.lower (lo' := w2.heap.size + 1) N1.out.lt)
          have hme : ms ≠ [] := by intro e; rw [e] at hb1; exact absurd hb1 (Nat.lt_irrefl _)
          have h64 := pow_le64 hdp
          have hb400 : ms.length ≤ 400 := by omega
          have HMB := Lib.hid hmb
          have HWB := Lib.hid hwb
          have HB2 := Lib.hid hb2
          have HA5 := Lib.hid ha5
          have HN5 := Lib.hid hn5
          clear hmb hwb hrb hm5 ha5 hn5 hk5 hb2 h64
          have ND : Hid (NS w w.heap.size mb xs a5 m5 w2.heap.size (ndCells ⟨9, 0, 0, 0, 0, 0, [], ⟨#[]⟩⟩ none 0) w5) := Lib.hid N5.out
          go_wp2_with (with_reducible refine g_load 75 ?_; refine wpList_load_Row rfl _ _ rfl w2.heap.size rfl (ndCells ⟨9, 0, 0, 0, 0, 0, [], ⟨#[]⟩⟩ none 0) ND.out.row _ Tryz.underlying75 rfl (nd_size _ _ _) ?_)
          refine (both_any (w2.heap.size + 1) w5 va vb ns ms ⟨⟨9, 0, 0, 0, 0, 0, [], ⟨#[]⟩⟩, none, 0⟩ HRU.out hne HRB.out hme (HWB.out.small (by omega)) (.inl rfl) (by omega) (by omega) ND.out.lt).mono ?_
          rintro e w8 ⟨v8, rfl, hr8, hb8⟩
          have HF := Lib.hid (ruled_two (at_ := at_) (nodes := nodes) hdp hl1 HL2.out HB2.out HMR.out HMB.out (x := ⟨⟨9, 0, 0, 0, 0, 0, [], ⟨#[]⟩⟩, none, 0⟩) (⟨rfl, rfl, rfl, rfl, .inl ⟨.inr (.inl rfl), rfl⟩⟩) HWI.out HWB.out hr8 (Nat.le_succ_of_le ND.out.b0) (ND.out.mkr.grow hb8) (by have := HA3.out; have := HA5.out; omega) (by have := HN3.out; have := HN5.out; omega) (ND.out.keep.trans (MKeep.of_below hb8)))
          clear hr8 hb8
          go_wp2_with fail
          go_ret
          exact HF.out
        · have n0 : Hid (NS w w.heap.size mb xs (at_ + 1) (nodes + 1) w2.heap.size #[I 10, I 0, I 0, I 0, I 0, I 0, .slice none 0 0, .string ⟨#[]⟩] (w2.alloc (.cells #[I 10, I 0, I 0, I 0, I 0, I 0, .slice none 0 0, .string ⟨#[]⟩] 75))) := Lib.hid (NS.begin HM2.out hml HK2.out)
          go_wp2_with fail
          refine (IH _ mb (at_ + 1) (nodes + 1) n0.out.mkr (by omega) (by omega)).mono ?_
          rintro e w3 ⟨ns, va, a3, m3, rfl, hl1, hl2, hmr, hwi, hru, hm3, ha3, hn3, hk3⟩
          rw [World.size_alloc] at hru
          have N1 := Lib.hid (n0.out.step hm3 hk3)
          have n1c := N1.out.cell
          have n1f := N1.out.froz
          have HRU := Lib.hid hru
          have HMR := Lib.hid hmr
          have HWI := Lib.hid hwi
          have h64 := pow_le64 hdp
          have ha3' : a3 + 10 ≤ M := by omega
          have hn3' : m3 + 10 ≤ M := by omega
          have HA3 := Lib.hid ha3
          have HN3 := Lib.hid hn3
          have hne : ns ≠ [] := by intro e; rw [e] at hl1; exact absurd hl1 (Nat.lt_irrefl _)
          have hl400 : ns.length ≤ 400 := by omega
          have HL2 := Lib.hid hl2
          clear hru hmr hwi hm3 hk3 ha3 hn3 hl2 h64
          go_wp2_with (go_at_call 86; refine (two_any _ _).mono ?_; rintro e w4 ⟨rfl, rfl⟩; rw [show twoB 10 = true from rfl])
          clear n1c n1f
          refine (IH _ mb a3 m3 N1.out.mkr (by omega) (by omega)).mono ?_
          rintro e w5 ⟨ms, vb, a5, m5, rfl, hb1, hb2, hmb, hwb, hrb, hm5, ha5, hn5, hk5⟩
          have N5 := Lib.hid (N1.out.step hm5 hk5)
          have HRU := Lib.hid (HRU.out.mkeep hk5 (by omega))
          have HRB := Lib.hid (hrb.lower (lo' := w2.heap.size + 1) N1.out.lt)
          have hme : ms ≠ [] := by intro e; rw [e] at hb1; exact absurd hb1 (Nat.lt_irrefl _)
          have h64 := pow_le64 hdp
          have hb400 : ms.length ≤ 400 := by omega
          have HMB := Lib.hid hmb
          have HWB := Lib.hid hwb
          have HB2 := Lib.hid hb2
          have HA5 := Lib.hid ha5
          have HN5 := Lib.hid hn5
          clear hmb hwb hrb hm5 ha5 hn5 hk5 hb2 h64
          have ND : Hid (NS w w.heap.size mb xs a5 m5 w2.heap.size (ndCells ⟨10, 0, 0, 0, 0, 0, [], ⟨#[]⟩⟩ none 0) w5) := Lib.hid N5.out
          go_wp2_with (with_reducible refine g_load 75 ?_; refine wpList_load_Row rfl _ _ rfl w2.heap.size rfl (ndCells ⟨10, 0, 0, 0, 0, 0, [], ⟨#[]⟩⟩ none 0) ND.out.row _ Tryz.underlying75 rfl (nd_size _ _ _) ?_)
          refine (both_any (w2.heap.size + 1) w5 va vb ns ms ⟨⟨10, 0, 0, 0, 0, 0, [], ⟨#[]⟩⟩, none, 0⟩ HRU.out hne HRB.out hme (HWB.out.small (by omega)) (.inl rfl) (by omega) (by omega) ND.out.lt).mono ?_
          rintro e w8 ⟨v8, rfl, hr8, hb8⟩
          have HF := Lib.hid (ruled_two (at_ := at_) (nodes := nodes) hdp hl1 HL2.out HB2.out HMR.out HMB.out (x := ⟨⟨10, 0, 0, 0, 0, 0, [], ⟨#[]⟩⟩, none, 0⟩) (⟨rfl, rfl, rfl, rfl, .inl ⟨.inr (.inr rfl), rfl⟩⟩) HWI.out HWB.out hr8 (Nat.le_succ_of_le ND.out.b0) (ND.out.mkr.grow hb8) (by have := HA3.out; have := HA5.out; omega) (by have := HN3.out; have := HN5.out; omega) (ND.out.keep.trans (MKeep.of_below hb8)))
          clear hr8 hb8
          go_wp2_with fail
          go_ret
          exact HF.out
        · have n0 : Hid (NS w w.heap.size mb xs (at_ + 1) (nodes + 1) w2.heap.size #[I 11, I 0, I 0, I 0, I 0, I 0, .slice none 0 0, .string ⟨#[]⟩] (w2.alloc (.cells #[I 11, I 0, I 0, I 0, I 0, I 0, .slice none 0 0, .string ⟨#[]⟩] 75))) := Lib.hid (NS.begin HM2.out hml HK2.out)
          go_wp2_with fail
          refine (IH _ mb (at_ + 1) (nodes + 1) n0.out.mkr (by omega) (by omega)).mono ?_
          rintro e w3 ⟨ns, va, a3, m3, rfl, hl1, hl2, hmr, hwi, hru, hm3, ha3, hn3, hk3⟩
          rw [World.size_alloc] at hru
          have N1 := Lib.hid (n0.out.step hm3 hk3)
          have n1c := N1.out.cell
          have n1f := N1.out.froz
          have HRU := Lib.hid hru
          have HMR := Lib.hid hmr
          have HWI := Lib.hid hwi
          have h64 := pow_le64 hdp
          have ha3' : a3 + 10 ≤ M := by omega
          have hn3' : m3 + 10 ≤ M := by omega
          have HA3 := Lib.hid ha3
          have HN3 := Lib.hid hn3
          have hne : ns ≠ [] := by intro e; rw [e] at hl1; exact absurd hl1 (Nat.lt_irrefl _)
          have hl400 : ns.length ≤ 400 := by omega
          have HL2 := Lib.hid hl2
          clear hru hmr hwi hm3 hk3 ha3 hn3 hl2 h64
          go_wp2_with (go_at_call 86; refine (two_any _ _).mono ?_; rintro e w4 ⟨rfl, rfl⟩; rw [show twoB 11 = false from rfl])
          clear n1c n1f
          refine (N1.out.pick hx 15 (by omega) (by omega) (by omega)).mono ?_
          rintro e w6 ⟨n, rfl, n1, n2, N2k, N2s⟩
          have N2c := N2s.cell
          have N2f := N2s.froz
          have N2 := Lib.hid (N2s.store 4 (I (n - 7)))
          have HRU := Lib.hid ((HRU.out.mkeep N2k (by omega)).put w2.heap.size 4 (I (n - 7)) (Nat.lt_succ_self _))
          clear N2k N2s
          have ND : Hid (NS w w.heap.size mb xs _ m3 w2.heap.size (ndCells ⟨11, 0, 0, 0, n - 7, 0, [], ⟨#[]⟩⟩ none 0) _) := Lib.hid N2.out
          go_wp2_with (with_reducible refine g_load 75 ?_; refine wpList_load_Row rfl _ _ rfl w2.heap.size rfl (ndCells ⟨11, 0, 0, 0, n - 7, 0, [], ⟨#[]⟩⟩ none 0) ND.out.row _ Tryz.underlying75 rfl (nd_size _ _ _) ?_)
          refine (over_any (w2.heap.size + 1) _ va ns ⟨⟨11, 0, 0, 0, n - 7, 0, [], ⟨#[]⟩⟩, none, 0⟩ HRU.out hne (.inl rfl) (by omega) ND.out.lt).mono ?_
          rintro e w8 ⟨v8, rfl, hr8, hb8⟩
          have HF := Lib.hid (ruled_over (at_ := at_) (nodes := nodes) hdp hl1 HL2.out HMR.out (x := ⟨⟨11, 0, 0, 0, n - 7, 0, [], ⟨#[]⟩⟩, none, 0⟩) (⟨rfl, rfl, .inl ⟨rfl, rfl, by show -7 ≤ n - 7; omega, by show n - 7 ≤ 7; omega, rfl, rfl⟩⟩) HWI.out hr8 (Nat.le_succ_of_le ND.out.b0) (ND.out.mkr.grow hb8) (by have := HA3.out; omega) (by have := HN3.out; omega) (ND.out.keep.trans (MKeep.of_below hb8)))
          clear hr8 hb8
          go_wp2_with fail
          go_ret
          exact HF.out
        · have n0 : Hid (NS w w.heap.size mb xs (at_ + 1) (nodes + 1) w2.heap.size #[I 12, I 0, I 0, I 0, I 0, I 0, .slice none 0 0, .string ⟨#[]⟩] (w2.alloc (.cells #[I 12, I 0, I 0, I 0, I 0, I 0, .slice none 0 0, .string ⟨#[]⟩] 75))) := Lib.hid (NS.begin HM2.out hml HK2.out)
          go_wp2_with fail
          refine (IH _ mb (at_ + 1) (nodes + 1) n0.out.mkr (by omega) (by omega)).mono ?_
          rintro e w3 ⟨ns, va, a3, m3, rfl, hl1, hl2, hmr, hwi, hru, hm3, ha3, hn3, hk3⟩
          rw [World.size_alloc] at hru
          have N1 := Lib.hid (n0.out.step hm3 hk3)
          have n1c := N1.out.cell
          have n1f := N1.out.froz
          have HRU := Lib.hid hru
          have HMR := Lib.hid hmr
          have HWI := Lib.hid hwi
          have h64 := pow_le64 hdp
          have ha3' : a3 + 10 ≤ M := by omega
          have hn3' : m3 + 10 ≤ M := by omega
          have HA3 := Lib.hid ha3
          have HN3 := Lib.hid hn3
          have hne : ns ≠ [] := by intro e; rw [e] at hl1; exact absurd hl1 (Nat.lt_irrefl _)
          have hl400 : ns.length ≤ 400 := by omega
          have HL2 := Lib.hid hl2
          clear hru hmr hwi hm3 hk3 ha3 hn3 hl2 h64
          go_wp2_with (go_at_call 86; refine (two_any _ _).mono ?_; rintro e w4 ⟨rfl, rfl⟩; rw [show twoB 12 = false from rfl])
          clear n1c n1f
          refine (N1.out.pick hx 60 (by omega) (by omega) (by omega)).mono ?_
          rintro e w6 ⟨n, rfl, n1, n2, N2k, N2s⟩
          have N2c := N2s.cell
          have N2f := N2s.froz
          have N2 := Lib.hid (N2s.store 4 (I n))
          have HRU := Lib.hid ((HRU.out.mkeep N2k (by omega)).put w2.heap.size 4 (I n) (Nat.lt_succ_self _))
          clear N2k N2s
          have ND : Hid (NS w w.heap.size mb xs _ m3 w2.heap.size (ndCells ⟨12, 0, 0, 0, n, 0, [], ⟨#[]⟩⟩ none 0) _) := Lib.hid N2.out
          go_wp2_with (with_reducible refine g_load 75 ?_; refine wpList_load_Row rfl _ _ rfl w2.heap.size rfl (ndCells ⟨12, 0, 0, 0, n, 0, [], ⟨#[]⟩⟩ none 0) ND.out.row _ Tryz.underlying75 rfl (nd_size _ _ _) ?_)
          refine (over_any (w2.heap.size + 1) _ va ns ⟨⟨12, 0, 0, 0, n, 0, [], ⟨#[]⟩⟩, none, 0⟩ HRU.out hne (.inl rfl) (by omega) ND.out.lt).mono ?_
          rintro e w8 ⟨v8, rfl, hr8, hb8⟩
          have HF := Lib.hid (ruled_over (at_ := at_) (nodes := nodes) hdp hl1 HL2.out HMR.out (x := ⟨⟨12, 0, 0, 0, n, 0, [], ⟨#[]⟩⟩, none, 0⟩) (⟨rfl, rfl, .inr (.inl ⟨.inl rfl, rfl, n1, n2, rfl, rfl⟩)⟩) HWI.out hr8 (Nat.le_succ_of_le ND.out.b0) (ND.out.mkr.grow hb8) (by have := HA3.out; omega) (by have := HN3.out; omega) (ND.out.keep.trans (MKeep.of_below hb8)))
          clear hr8 hb8
          go_wp2_with fail
          go_ret
          exact HF.out
        · have n0 : Hid (NS w w.heap.size mb xs (at_ + 1) (nodes + 1) w2.heap.size #[I 13, I 0, I 0, I 0, I 0, I 0, .slice none 0 0, .string ⟨#[]⟩] (w2.alloc (.cells #[I 13, I 0, I 0, I 0, I 0, I 0, .slice none 0 0, .string ⟨#[]⟩] 75))) := Lib.hid (NS.begin HM2.out hml HK2.out)
          go_wp2_with fail
          refine (IH _ mb (at_ + 1) (nodes + 1) n0.out.mkr (by omega) (by omega)).mono ?_
          rintro e w3 ⟨ns, va, a3, m3, rfl, hl1, hl2, hmr, hwi, hru, hm3, ha3, hn3, hk3⟩
          rw [World.size_alloc] at hru
          have N1 := Lib.hid (n0.out.step hm3 hk3)
          have n1c := N1.out.cell
          have n1f := N1.out.froz
          have HRU := Lib.hid hru
          have HMR := Lib.hid hmr
          have HWI := Lib.hid hwi
          have h64 := pow_le64 hdp
          have ha3' : a3 + 10 ≤ M := by omega
          have hn3' : m3 + 10 ≤ M := by omega
          have HA3 := Lib.hid ha3
          have HN3 := Lib.hid hn3
          have hne : ns ≠ [] := by intro e; rw [e] at hl1; exact absurd hl1 (Nat.lt_irrefl _)
          have hl400 : ns.length ≤ 400 := by omega
          have HL2 := Lib.hid hl2
          clear hru hmr hwi hm3 hk3 ha3 hn3 hl2 h64
          go_wp2_with (go_at_call 86; refine (two_any _ _).mono ?_; rintro e w4 ⟨rfl, rfl⟩; rw [show twoB 13 = false from rfl])
          clear n1c n1f
          refine (N1.out.pick hx 60 (by omega) (by omega) (by omega)).mono ?_
          rintro e w6 ⟨n, rfl, n1, n2, N2k, N2s⟩
          have N2c := N2s.cell
          have N2f := N2s.froz
          have N2 := Lib.hid (N2s.store 4 (I n))
          have HRU := Lib.hid ((HRU.out.mkeep N2k (by omega)).put w2.heap.size 4 (I n) (Nat.lt_succ_self _))
          clear N2k N2s
          have ND : Hid (NS w w.heap.size mb xs _ m3 w2.heap.size (ndCells ⟨13, 0, 0, 0, n, 0, [], ⟨#[]⟩⟩ none 0) _) := Lib.hid N2.out
          go_wp2_with (with_reducible refine g_load 75 ?_; refine wpList_load_Row rfl _ _ rfl w2.heap.size rfl (ndCells ⟨13, 0, 0, 0, n, 0, [], ⟨#[]⟩⟩ none 0) ND.out.row _ Tryz.underlying75 rfl (nd_size _ _ _) ?_)
          refine (over_any (w2.heap.size + 1) _ va ns ⟨⟨13, 0, 0, 0, n, 0, [], ⟨#[]⟩⟩, none, 0⟩ HRU.out hne (.inl rfl) (by omega) ND.out.lt).mono ?_
          rintro e w8 ⟨v8, rfl, hr8, hb8⟩
          have HF := Lib.hid (ruled_over (at_ := at_) (nodes := nodes) hdp hl1 HL2.out HMR.out (x := ⟨⟨13, 0, 0, 0, n, 0, [], ⟨#[]⟩⟩, none, 0⟩) (⟨rfl, rfl, .inr (.inl ⟨.inr rfl, rfl, n1, n2, rfl, rfl⟩)⟩) HWI.out hr8 (Nat.le_succ_of_le ND.out.b0) (ND.out.mkr.grow hb8) (by have := HA3.out; omega) (by have := HN3.out; omega) (ND.out.keep.trans (MKeep.of_below hb8)))
          clear hr8 hb8
          go_wp2_with fail
          go_ret
          exact HF.out
        · have n0 : Hid (NS w w.heap.size mb xs (at_ + 1) (nodes + 1) w2.heap.size #[I 14, I 0, I 0, I 0, I 0, I 0, .slice none 0 0, .string ⟨#[]⟩] (w2.alloc (.cells #[I 14, I 0, I 0, I 0, I 0, I 0, .slice none 0 0, .string ⟨#[]⟩] 75))) := Lib.hid (NS.begin HM2.out hml HK2.out)
          go_wp2_with fail
          refine (IH _ mb (at_ + 1) (nodes + 1) n0.out.mkr (by omega) (by omega)).mono ?_
          rintro e w3 ⟨ns, va, a3, m3, rfl, hl1, hl2, hmr, hwi, hru, hm3, ha3, hn3, hk3⟩
          rw [World.size_alloc] at hru
          have N1 := Lib.hid (n0.out.step hm3 hk3)
          have n1c := N1.out.cell
          have n1f := N1.out.froz
          have HRU := Lib.hid hru
          have HMR := Lib.hid hmr
          have HWI := Lib.hid hwi
          have h64 := pow_le64 hdp
          have ha3' : a3 + 10 ≤ M := by omega
          have hn3' : m3 + 10 ≤ M := by omega
          have HA3 := Lib.hid ha3
          have HN3 := Lib.hid hn3
          have hne : ns ≠ [] := by intro e; rw [e] at hl1; exact absurd hl1 (Nat.lt_irrefl _)
          have hl400 : ns.length ≤ 400 := by omega
          have HL2 := Lib.hid hl2
          clear hru hmr hwi hm3 hk3 ha3 hn3 hl2 h64
          go_wp2_with (go_at_call 86; refine (two_any _ _).mono ?_; rintro e w4 ⟨rfl, rfl⟩; rw [show twoB 14 = false from rfl])
          clear n1c n1f
          refine (N1.out.rise hx (0) 60 (by omega) (by omega) (by omega) (by omega) (by omega)).mono ?_
          rintro e w6 ⟨zs, A, c, a9, rfl, hz, hli, ha9, N2k, N2s⟩
          have N2c := N2s.cell
          have N2f := N2s.froz
          have HLI := Lib.hid ((hli.lower (lo' := w2.heap.size + 1) N1.out.lt).put w2.heap.size 6 (.slice A zs.length c) (Nat.lt_succ_self _))
          have N2 := Lib.hid (N2s.store 6 (.slice A zs.length c))
          have HRU := Lib.hid ((HRU.out.mkeep N2k (by omega)).put w2.heap.size 6 (.slice A zs.length c) (Nat.lt_succ_self _))
          have HZ := Lib.hid hz
          clear N2k N2s hli hz
          have ND : Hid (NS w w.heap.size mb xs _ m3 w2.heap.size (ndCells ⟨14, 0, 0, 0, 0, 0, zs, ⟨#[]⟩⟩ A c) _) := Lib.hid N2.out
          go_wp2_with (with_reducible refine g_load 75 ?_; refine wpList_load_Row rfl _ _ rfl w2.heap.size rfl (ndCells ⟨14, 0, 0, 0, 0, 0, zs, ⟨#[]⟩⟩ A c) ND.out.row _ Tryz.underlying75 rfl (nd_size _ _ _) ?_)
          refine (over_any (w2.heap.size + 1) _ va ns ⟨⟨14, 0, 0, 0, 0, 0, zs, ⟨#[]⟩⟩, A, c⟩ HRU.out hne (HLI.out) (by omega) ND.out.lt).mono ?_
          rintro e w8 ⟨v8, rfl, hr8, hb8⟩
          have HF := Lib.hid (ruled_over (at_ := at_) (nodes := nodes) hdp hl1 HL2.out HMR.out (x := ⟨⟨14, 0, 0, 0, 0, 0, zs, ⟨#[]⟩⟩, A, c⟩) (⟨rfl, rfl, .inr (.inr (.inl ⟨.inl rfl, rfl, rfl, rfl, HZ.out⟩))⟩) HWI.out hr8 (Nat.le_succ_of_le ND.out.b0) (ND.out.mkr.grow hb8) (by have := HA3.out; omega) (by have := HN3.out; omega) (ND.out.keep.trans (MKeep.of_below hb8)))
          clear hr8 hb8
          go_wp2_with fail
          go_ret
          exact HF.out
        · have n0 : Hid (NS w w.heap.size mb xs (at_ + 1) (nodes + 1) w2.heap.size #[I 15, I 0, I 0, I 0, I 0, I 0, .slice none 0 0, .string ⟨#[]⟩] (w2.alloc (.cells #[I 15, I 0, I 0, I 0, I 0, I 0, .slice none 0 0, .string ⟨#[]⟩] 75))) := Lib.hid (NS.begin HM2.out hml HK2.out)
          go_wp2_with fail
          refine (IH _ mb (at_ + 1) (nodes + 1) n0.out.mkr (by omega) (by omega)).mono ?_
          rintro e w3 ⟨ns, va, a3, m3, rfl, hl1, hl2, hmr, hwi, hru, hm3, ha3, hn3, hk3⟩
          rw [World.size_alloc] at hru
          have N1 := Lib.hid (n0.out.step hm3 hk3)
          have n1c := N1.out.cell
          have n1f := N1.out.froz
          have HRU := Lib.hid hru
          have HMR := Lib.hid hmr
          have HWI := Lib.hid hwi
          have h64 := pow_le64 hdp
          have ha3' : a3 + 10 ≤ M := by omega
          have hn3' : m3 + 10 ≤ M := by omega
          have HA3 := Lib.hid ha3
          have HN3 := Lib.hid hn3
          have hne : ns ≠ [] := by intro e; rw [e] at hl1; exact absurd hl1 (Nat.lt_irrefl _)
          have hl400 : ns.length ≤ 400 := by omega
          have HL2 := Lib.hid hl2
          clear hru hmr hwi hm3 hk3 ha3 hn3 hl2 h64
          go_wp2_with (go_at_call 86; refine (two_any _ _).mono ?_; rintro e w4 ⟨rfl, rfl⟩; rw [show twoB 15 = false from rfl])
          clear n1c n1f
          refine (N1.out.rise hx (0) 60 (by omega) (by omega) (by omega) (by omega) (by omega)).mono ?_
          rintro e w6 ⟨zs, A, c, a9, rfl, hz, hli, ha9, N2k, N2s⟩
          have N2c := N2s.cell
          have N2f := N2s.froz
          have HLI := Lib.hid ((hli.lower (lo' := w2.heap.size + 1) N1.out.lt).put w2.heap.size 6 (.slice A zs.length c) (Nat.lt_succ_self _))
          have N2 := Lib.hid (N2s.store 6 (.slice A zs.length c))
          have HRU := Lib.hid ((HRU.out.mkeep N2k (by omega)).put w2.heap.size 6 (.slice A zs.length c) (Nat.lt_succ_self _))
          have HZ := Lib.hid hz
          clear N2k N2s hli hz
          have ND : Hid (NS w w.heap.size mb xs _ m3 w2.heap.size (ndCells ⟨15, 0, 0, 0, 0, 0, zs, ⟨#[]⟩⟩ A c) _) := Lib.hid N2.out
          go_wp2_with (with_reducible refine g_load 75 ?_; refine wpList_load_Row rfl _ _ rfl w2.heap.size rfl (ndCells ⟨15, 0, 0, 0, 0, 0, zs, ⟨#[]⟩⟩ A c) ND.out.row _ Tryz.underlying75 rfl (nd_size _ _ _) ?_)
          refine (over_any (w2.heap.size + 1) _ va ns ⟨⟨15, 0, 0, 0, 0, 0, zs, ⟨#[]⟩⟩, A, c⟩ HRU.out hne (HLI.out) (by omega) ND.out.lt).mono ?_
          rintro e w8 ⟨v8, rfl, hr8, hb8⟩
          have HF := Lib.hid (ruled_over (at_ := at_) (nodes := nodes) hdp hl1 HL2.out HMR.out (x := ⟨⟨15, 0, 0, 0, 0, 0, zs, ⟨#[]⟩⟩, A, c⟩) (⟨rfl, rfl, .inr (.inr (.inl ⟨.inr rfl, rfl, rfl, rfl, HZ.out⟩))⟩) HWI.out hr8 (Nat.le_succ_of_le ND.out.b0) (ND.out.mkr.grow hb8) (by have := HA3.out; omega) (by have := HN3.out; omega) (ND.out.keep.trans (MKeep.of_below hb8)))
          clear hr8 hb8
          go_wp2_with fail
          go_ret
          exact HF.out
        · have n0 : Hid (NS w w.heap.size mb xs (at_ + 1) (nodes + 1) w2.heap.size #[I 16, I 0, I 0, I 0, I 0, I 0, .slice none 0 0, .string ⟨#[]⟩] (w2.alloc (.cells #[I 16, I 0, I 0, I 0, I 0, I 0, .slice none 0 0, .string ⟨#[]⟩] 75))) := Lib.hid (NS.begin HM2.out hml HK2.out)
          go_wp2_with fail
          refine (IH _ mb (at_ + 1) (nodes + 1) n0.out.mkr (by omega) (by omega)).mono ?_
          rintro e w3 ⟨ns, va, a3, m3, rfl, hl1, hl2, hmr, hwi, hru, hm3, ha3, hn3, hk3⟩
          rw [World.size_alloc] at hru
          have N1 := Lib.hid (n0.out.step hm3 hk3)
          have n1c := N1.out.cell
          have n1f := N1.out.froz
          have HRU := Lib.hid hru
          have HMR := Lib.hid hmr
          have HWI := Lib.hid hwi
          have h64 := pow_le64 hdp
          have ha3' : a3 + 10 ≤ M := by omega
          have hn3' : m3 + 10 ≤ M := by omega
          have HA3 := Lib.hid ha3
          have HN3 := Lib.hid hn3
          have hne : ns ≠ [] := by intro e; rw [e] at hl1; exact absurd hl1 (Nat.lt_irrefl _)
          have hl400 : ns.length ≤ 400 := by omega
          have HL2 := Lib.hid hl2
          clear hru hmr hwi hm3 hk3 ha3 hn3 hl2 h64
          go_wp2_with (go_at_call 86; refine (two_any _ _).mono ?_; rintro e w4 ⟨rfl, rfl⟩; rw [show twoB 16 = false from rfl])
          clear n1c n1f
          refine (N1.out.pick hx cals (by omega) (by omega) (by omega)).mono ?_
          rintro e w6 ⟨q, rfl, q1, q2, N2k, N2s⟩
          have N2c := N2s.cell
          have N2f := N2s.froz
          have N2 := Lib.hid (N2s.store 1 (I q))
          have HRU := Lib.hid ((HRU.out.mkeep N2k (by omega)).put w2.heap.size 1 (I q) (Nat.lt_succ_self _))
          clear N2k N2s
          go_wp2_with fail
          clear N2c N2f
          refine (N2.out.pick hx 2 (by omega) (by omega) (by omega)).mono ?_
          rintro e w7 ⟨m, rfl, m1, m2, N3k, N3s⟩
          have N3c := N3s.cell
          have N3f := N3s.froz
          have N3 := Lib.hid (N3s.store 5 (I m))
          have HRU := Lib.hid ((HRU.out.mkeep N3k (by omega)).put w2.heap.size 5 (I m) (Nat.lt_succ_self _))
          clear N3k N3s
          go_wp2_with fail
          clear N3c N3f
          refine (N3.out.rise hx (-3) 3 (by omega) (by omega) (by omega) (by omega) (by omega)).mono ?_
          rintro e w9 ⟨zs, A, c, a9, rfl, hz, hli, ha9, N4k, N4s⟩
          have N4c := N4s.cell
          have N4f := N4s.froz
          have HLI := Lib.hid ((hli.lower (lo' := w2.heap.size + 1) N3.out.lt).put w2.heap.size 6 (.slice A zs.length c) (Nat.lt_succ_self _))
          have N4 := Lib.hid (N4s.store 6 (.slice A zs.length c))
          have HRU := Lib.hid ((HRU.out.mkeep N4k (by omega)).put w2.heap.size 6 (.slice A zs.length c) (Nat.lt_succ_self _))
          have HZ := Lib.hid hz
          clear N4k N4s hli hz
          have ND : Hid (NS w w.heap.size mb xs _ m3 w2.heap.size (ndCells ⟨16, q, 0, 0, 0, m, zs, ⟨#[]⟩⟩ A c) _) := Lib.hid N4.out
          go_wp2_with (with_reducible refine g_load 75 ?_; refine wpList_load_Row rfl _ _ rfl w2.heap.size rfl (ndCells ⟨16, q, 0, 0, 0, m, zs, ⟨#[]⟩⟩ A c) ND.out.row _ Tryz.underlying75 rfl (nd_size _ _ _) ?_)
          refine (over_any (w2.heap.size + 1) _ va ns ⟨⟨16, q, 0, 0, 0, m, zs, ⟨#[]⟩⟩, A, c⟩ HRU.out hne (HLI.out) (by omega) ND.out.lt).mono ?_
          rintro e w8 ⟨v8, rfl, hr8, hb8⟩
          have HF := Lib.hid (ruled_over (at_ := at_) (nodes := nodes) hdp hl1 HL2.out HMR.out (x := ⟨⟨16, q, 0, 0, 0, m, zs, ⟨#[]⟩⟩, A, c⟩) (⟨rfl, rfl, .inr (.inr (.inr ⟨rfl, q1, q2, rfl, m1, m2, HZ.out⟩))⟩) HWI.out hr8 (Nat.le_succ_of_le ND.out.b0) (ND.out.mkr.grow hb8) (by have := HA3.out; omega) (by have := HN3.out; omega) (ND.out.keep.trans (MKeep.of_below hb8)))
          clear hr8 hb8
          go_wp2_with fail
          go_ret
          exact HF.out
        · have n0 : Hid (NS w w.heap.size mb xs (at_ + 1) (nodes + 1) w2.heap.size #[I 17, I 0, I 0, I 0, I 0, I 0, .slice none 0 0, .string ⟨#[]⟩] (w2.alloc (.cells #[I 17, I 0, I 0, I 0, I 0, I 0, .slice none 0 0, .string ⟨#[]⟩] 75))) := Lib.hid (NS.begin HM2.out hml HK2.out)
          go_wp2_with fail
          refine (IH _ mb (at_ + 1) (nodes + 1) n0.out.mkr (by omega) (by omega)).mono ?_
          rintro e w3 ⟨ns, va, a3, m3, rfl, hl1, hl2, hmr, hwi, hru, hm3, ha3, hn3, hk3⟩
          rw [World.size_alloc] at hru
          have N1 := Lib.hid (n0.out.step hm3 hk3)
          have n1c := N1.out.cell
          have n1f := N1.out.froz
          have HRU := Lib.hid hru
          have HMR := Lib.hid hmr
          have HWI := Lib.hid hwi
          have h64 := pow_le64 hdp
          have ha3' : a3 + 10 ≤ M := by omega
          have hn3' : m3 + 10 ≤ M := by omega
          have HA3 := Lib.hid ha3
          have HN3 := Lib.hid hn3
          have hne : ns ≠ [] := by intro e; rw [e] at hl1; exact absurd hl1 (Nat.lt_irrefl _)
          have hl400 : ns.length ≤ 400 := by omega
          have HL2 := Lib.hid hl2
          clear hru hmr hwi hm3 hk3 ha3 hn3 hl2 h64
          go_wp2_with (go_at_call 86; refine (two_any _ _).mono ?_; rintro e w4 ⟨rfl, rfl⟩; rw [show twoB 17 = true from rfl])
          clear n1c n1f
          refine (N1.out.pick hx 3 (by omega) (by omega) (by omega)).mono ?_
          rintro e w6 ⟨n, rfl, n1, n2, N2k, N2s⟩
          have N2c := N2s.cell
          have N2f := N2s.froz
          have N2 := Lib.hid (N2s.store 4 (I (1 + n)))
          have HRU := Lib.hid ((HRU.out.mkeep N2k (by omega)).put w2.heap.size 4 (I (1 + n)) (Nat.lt_succ_self _))
          clear N2k N2s
          go_wp2_with fail
          clear N2c N2f
          refine (IH _ mb (a3 + 1) m3 N2.out.mkr (by omega) (by omega)).mono ?_
          rintro e w5 ⟨ms, vb, a5, m5, rfl, hb1, hb2, hmb, hwb, hrb, hm5, ha5, hn5, hk5⟩
          have N5 := Lib.hid (N2.out.step hm5 hk5)
          have HRU := Lib.hid (HRU.out.mkeep hk5 (by omega))
          have HRB := Lib.hid (hrb.lower (lo' := w2.heap.size + 1) N2.out.lt)
          have hme : ms ≠ [] := by intro e; rw [e] at hb1; exact absurd hb1 (Nat.lt_irrefl _)
          have h64 := pow_le64 hdp
          have hb400 : ms.length ≤ 400 := by omega
          have HMB := Lib.hid hmb
          have HWB := Lib.hid hwb
          have HB2 := Lib.hid hb2
          have HA5 := Lib.hid ha5
          have HN5 := Lib.hid hn5
          clear hmb hwb hrb hm5 ha5 hn5 hk5 hb2 h64
          have ND : Hid (NS w w.heap.size mb xs a5 m5 w2.heap.size (ndCells ⟨17, 0, 0, 0, 1 + n, 0, [], ⟨#[]⟩⟩ none 0) w5) := Lib.hid N5.out
          go_wp2_with (with_reducible refine g_load 75 ?_; refine wpList_load_Row rfl _ _ rfl w2.heap.size rfl (ndCells ⟨17, 0, 0, 0, 1 + n, 0, [], ⟨#[]⟩⟩ none 0) ND.out.row _ Tryz.underlying75 rfl (nd_size _ _ _) ?_)
          refine (both_any (w2.heap.size + 1) w5 va vb ns ms ⟨⟨17, 0, 0, 0, 1 + n, 0, [], ⟨#[]⟩⟩, none, 0⟩ HRU.out hne HRB.out hme (HWB.out.small (by omega)) (.inl rfl) (by omega) (by omega) ND.out.lt).mono ?_
          rintro e w8 ⟨v8, rfl, hr8, hb8⟩
          have HF := Lib.hid (ruled_two (at_ := at_) (nodes := nodes) hdp hl1 HL2.out HB2.out HMR.out HMB.out (x := ⟨⟨17, 0, 0, 0, 1 + n, 0, [], ⟨#[]⟩⟩, none, 0⟩) (⟨rfl, rfl, rfl, rfl, .inr ⟨rfl, by show 1 ≤ 1 + n; omega, by show 1 + n ≤ 3; omega⟩⟩) HWI.out HWB.out hr8 (Nat.le_succ_of_le ND.out.b0) (ND.out.mkr.grow hb8) (by have := HA3.out; have := HA5.out; omega) (by have := HN3.out; have := HN5.out; omega) (ND.out.keep.trans (MKeep.of_below hb8)))
          clear hr8 hb8
          go_wp2_with fail
          go_ret
          exact HF.out
/-- Rule, for at most three levels of operators. -/
theorem rule_any (xs : List Int) (hx : XsOK xs) (cals : Int) (hc1 : 0 < cals) (hc2 : cals ≤ 1000) : ∀ (deep : Nat), deep ≤ 3 → ∀ (w : World) (mb at_ nodes : Nat), MkSt w mb xs at_ nodes → at_ ≤ 1000000 - 10000 * deep → nodes ≤ 1000000 - 10000 * deep → Calls Tryz.prog 73 #[pt mb, I (deep : Int), I cals] w (Ruled deep w.heap.size w mb xs at_ nodes cals)
  | 0, _, w, mb, at_, nodes, h, h1, h2 => rule_zero xs hx cals hc1 hc2 w mb at_ nodes h (by omega) (by omega)
  | deep + 1, hd, w, mb, at_, nodes, h, h1, h2 => rule_step xs hx cals hc1 hc2 deep (by omega) (1000000 - 10000 * deep) (by omega) (fun w mb at_ nodes h h1 h2 => rule_any xs hx cals hc1 hc2 deep (by omega) w mb at_ nodes h h1 h2) w mb at_ nodes h (by omega) (by omega)
end Go.Proofs.YthhbbebabmemfaaGreat
