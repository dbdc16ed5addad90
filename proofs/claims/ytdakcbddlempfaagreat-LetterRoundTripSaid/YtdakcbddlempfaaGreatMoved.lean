/- kalendsref07.Moved. -/
import Derived.Test.YtdakcbddlempfaaGreatOver
namespace Go.Proofs.YtdakcbddlempfaaGreat
open Go Go.RowKit

theorem rcells_cons (x : NdV) (ns : List NdV) : rcells (x :: ns) = x.cells ++ rcells ns := by simp [rcells]
theorem rcells_mid (pre : List NdV) (x : NdV) (post : List NdV) (f : Nat) (hf : f < 8) : (rcells (pre ++ x :: post))[pre.length * 8 + f]? = x.cells[f]? := by
  rw [rcells_app, rcells_cons, List.getElem?_append_right (by rw [rcells_len]; omega), rcells_len, Nat.add_sub_cancel_left, List.getElem?_append_left (by rw [x.len]; exact hf)]
theorem rcells_set (pre : List NdV) (x y : NdV) (post : List NdV) (f : Nat) (hf : f < 8) (u : Value) (hy : x.cells.set f u = y.cells) : (rcells (pre ++ x :: post)).set (pre.length * 8 + f) u = rcells (pre ++ y :: post) := by
  rw [rcells_app, rcells_cons, List.set_append_right _ _ (by rw [rcells_len]; omega), rcells_len, Nat.add_sub_cancel_left, List.set_append_left _ _ (by rw [x.len]; exact hf), hy, rcells_app, rcells_cons]
theorem ownsRow_put {w : World} {base e size n : Nat} {g cap : Nat} {xs : List Value} (h : w.ownsRow base e size (.slice (some ⟨g, 0, none⟩) n cap) n xs) (j : Nat) (u : Value) (hj : j < xs.length) : (w.setCell ⟨g, j, none⟩ u).ownsRow base e size (.slice (some ⟨g, 0, none⟩) n cap) n (xs.set j u) := by
  obtain ⟨h0, ⟨h1, _⟩ | ⟨g', cap', cur, h1, hg, hh, h2, h3, h4, h5⟩⟩ := h
  · cases h1
  · injection h1 with h1 h1' h1''
    injection h1 with h1
    injection h1 with h1
    subst h1 h1''
    refine ⟨by rw [List.length_set]; exact h0, .inr ⟨g, cap, cur.setIfInBounds j u, rfl, hg, heap_setCell_same w g j _ _ _ hh, h2, h3, by simpa using h4, ?_⟩⟩
    have hlt : j < n * size := by rw [← h0]; exact hj
    rw [Array.toList_setIfInBounds, List.take_set, h5]
theorem own_cell {w : World} {base e size n : Nat} {g cap : Nat} {xs : List Value} (h : w.ownsRow base e size (.slice (some ⟨g, 0, none⟩) n cap) n xs) (j : Nat) (u : Value) (hu : xs[j]? = some u) : w.cell? ⟨g, j, none⟩ = some u ∧ w.frozen? ⟨g, j, none⟩ = false := by
  obtain ⟨h0, ⟨h1, _⟩ | ⟨g', cap', cur, h1, hg, hh, h2, h3, h4, h5⟩⟩ := h
  · cases h1
  · injection h1 with h1 h1' h1''
    injection h1 with h1
    injection h1 with h1
    subst h1 h1''
    refine ⟨?_, frozen_of_row w g j _ _ hh⟩
    rw [cell_of_row w g j _ _ _ hh]
    rw [← h5, List.getElem?_take] at hu
    split at hu
    · simpa using hu
    · cases hu
theorem own_blk {w : World} {base e size n : Nat} {g cap : Nat} {xs : List Value} (h : w.ownsRow base e size (.slice (some ⟨g, 0, none⟩) n cap) n xs) : base ≤ g := by
  obtain ⟨h0, ⟨h1, _⟩ | ⟨g', cap', cur, h1, hg, _⟩⟩ := h
  · cases h1
  · injection h1 with h1
    injection h1 with h1
    injection h1 with h1
    omega
def opB (k : Int) : Bool := decide (8 ≤ k) && decide (k ≤ 17)
def mvd (b : Int) (x : NdV) : NdV := ⟨{ x.d with l := if opB x.d.kind then x.d.l + b else x.d.l, r := if twoB x.d.kind then x.d.r + b else x.d.r }, x.A, x.c⟩
def movedN (b : Int) (ns : List NdV) : List NdV := ns.map (mvd b)
def MvRel (w : World) (v : Value) (ns : List NdV) (b : Int) (i : Value) (wr : World) : Prop :=
  ∃ pre rest, ns = pre ++ rest ∧ i = I pre.length ∧ wr.ownsRow w.heap.size 87 8 v ns.length (rcells (movedN b pre ++ rest)) ∧ Below w.heap.size w wr
/-- Numbers small enough that adding the offset does not wrap. -/
def Small (ns : List NdV) : Prop := ∀ x ∈ ns, -1000 ≤ x.d.l ∧ x.d.l ≤ 100000 ∧ -1000 ≤ x.d.r ∧ x.d.r ≤ 100000
attribute [local go_sem] nd_get0 nd_get2 nd_get3
set_option maxRecDepth 10000 in
set_option maxHeartbeats 1000000 in
theorem moved_any (lo : Nat) (w : World) (v : Value) (ns : List NdV) (b : Int) (hr : RuleIs lo w v ns) (hne : ns ≠ []) (hn : ns.length ≤ 1000) (hlo : lo ≤ w.heap.size) (hs : Small ns) (hb1 : 0 ≤ b) (hb2 : b ≤ 1000) :
    Calls Tryz.prog 109 #[v, I b] w (RuleGot lo w (movedN b ns)) := by
  obtain ⟨g, cap, rfl, hg1, hg2, hcells⟩ := hr.form hne
  have HR := Lib.hid hr
  have HC := Lib.hid hcells
  have HS := Lib.hid hs
  clear hr hcells hs
  go_enter Tryz.func109, Tryz.ntmps109
  have HBa := Lib.hid (below_var w (.cells #[] 87))
  have HOE := Lib.hid (own_empty w w.heap.size (Nat.le_refl _))
  have HNEW : Hid (∀ j u, (rcells ns)[j]? = some u → (w.alloc (.cells #[] 87)).cell? ((⟨g, 0, none⟩ : Addr).add j) = some u) := Lib.hid (fun j u hu => by rw [addr_add]; exact (HBa.out.cell (p := ⟨g, j, none⟩) hg2).trans (HC.out j u hu))
  go_wp2_with (at_builtin; refine wpList_app_nodes rfl _ _ rfl w.heap.size _ [] rfl HOE.out ⟨g, 0, none⟩ cap ns rfl HNEW.out (by simp; omega) (by simp) ?_)
  intro v1 w1 hown1 hgrow1
  have hpos : 0 < ns.length := by cases ns; exact absurd rfl hne; simp
  obtain ⟨g1, cap1, rfl, _⟩ := own_form hown1 (by simpa using hpos)
  have HB1 := Lib.hid (grown_mk (lo := lo) hgrow1 HBa.out HOE.out)
  have HO1 : Hid (w1.ownsRow w.heap.size 87 8 (.slice (some ⟨g1, 0, none⟩) ns.length cap1) ns.length (rcells ns)) := Lib.hid hown1
  clear hown1 hgrow1 HBa HOE HNEW
  go_wp2_with fail
  go_loopw [6] (fun i wr => MvRel w (.slice (some ⟨g1, 0, none⟩) ns.length cap1) ns b i wr) (fun i _ => ns.length - (intOf i).toNat)
  case atStart => exact ⟨[], ns, rfl, rfl, HO1.out, HB1.out⟩
  case round =>
    obtain ⟨pre, rest, hns, rfl, hown, hb⟩ := hrel
    have HB := Lib.hid hb
    clear hb HO1 HB1
    cases rest with
    | nil =>
      rw [List.append_nil] at hns hown
      have hlen : ns.length = pre.length := by rw [hns]
      have HN := Lib.hid hns
      have HO := Lib.hid hown
      clear hns hown
      go_wp2_with fail
      go_ret
      refine ⟨_, rfl, ⟨?_, ?_⟩, HB.out⟩
      · rw [HN.out]
        have := HO.out
        rw [HN.out] at this
        unfold movedN at this ⊢
        rw [List.length_map]
        exact ownsRow_base' this hlo
      · intro z hz
        unfold movedN at hz
        obtain ⟨y, hy, rfl⟩ := List.mem_map.1 hz
        exact (HR.out.lists y hy).of_blocks HB.out.size fun k _ h2 => HB.out.block k h2
    | cons x post =>
      have hk : pre.length < ns.length := by rw [hns]; simp
      have hltI : (pre.length : Int) < (ns.length : Int) := by omega
      have hxs := HS.out x (by rw [hns]; simp)
      obtain ⟨hx1, hx2, hx3, hx4⟩ := hxs
      have hpl : (movedN b pre).length = pre.length := by unfold movedN; simp
      obtain ⟨P, hP⟩ : ∃ P, movedN b pre = P := ⟨_, rfl⟩
      rw [hP] at hown hpl
      have HP := Lib.hid hP
      have HNS := Lib.hid hns
      have hj : ∀ f, f < 8 → (rcells (P ++ x :: post))[pre.length * 8 + f]? = x.cells[f]? := fun f hf => by rw [← hpl]; exact rcells_mid P x post f hf
      have c0 := own_cell hown (pre.length * 8) (I x.d.kind) (hj 0 (by omega))
      have c2 := own_cell hown (pre.length * 8 + 2) (I x.d.l) (hj 2 (by omega))
      have c3 := own_cell hown (pre.length * 8 + 3) (I x.d.r) (hj 3 (by omega))
      have HO := Lib.hid hown
      clear hown hj hP hns
      have hcase : (x.d.kind < 8 ∨ 17 < x.d.kind) ∨ (8 ≤ x.d.kind ∧ x.d.kind ≤ 17) := by omega
      rcases hcase with hkk | ⟨hk1, hk2⟩
      · have ht : twoB x.d.kind = false := by unfold twoB; simp only [beq_dec]; rw [decide_eq_false (by omega), decide_eq_false (by omega), decide_eq_false (by omega), decide_eq_false (by omega)]; rfl
        have ho : opB x.d.kind = false := by unfold opB; rcases hkk with h | h; rw [decide_eq_false (by omega)]; rfl; rw [decide_eq_false (p := x.d.kind ≤ 17) (by omega), Bool.and_false]
        have HT := Lib.hid ht
        have HX : Hid (mvd b x = x) := Lib.hid (by unfold mvd; rw [ht, ho]; rfl)
        clear ht ho
        rcases hkk with hkk | hkk
        all_goals
          go_wp2_with (go_at_call 92; refine (two_any _ _).mono ?_; rintro e w5 ⟨rfl, rfl⟩; rw [HT.out])
          go_roundw
          case rel => exact ⟨pre ++ [x], post, by rw [List.append_assoc]; exact HNS.out, by rw [List.length_append]; go_num, by unfold movedN at HP ⊢; rw [List.map_append, HP.out, List.map_singleton, HX.out, List.append_assoc]; exact HO.out, HB.out⟩
          case measure => simp [intOf]; omega
      · have ho : opB x.d.kind = true := by unfold opB; rw [decide_eq_true hk1, decide_eq_true hk2]; rfl
        have HB2 : Hid (Below w.heap.size w (wr.setCell ⟨g1, pre.length * 8 + 2, none⟩ (I (x.d.l + b)))) := Lib.hid (HB.out.setCell (p := ⟨g1, pre.length * 8 + 2, none⟩) (own_blk HO.out) _)
        have hsz : pre.length * 8 + 3 < (rcells (P ++ x :: post)).length := by rw [rcells_len, List.length_append, List.length_cons, hpl]; omega
        obtain ⟨y, hy⟩ : ∃ y : NdV, (⟨{ x.d with l := x.d.l + b }, x.A, x.c⟩ : NdV) = y := ⟨_, rfl⟩
        have ey : y.d.kind = x.d.kind := by rw [← hy]
        have er : y.d.r = x.d.r := by rw [← hy]
        have HO2 : Hid ((wr.setCell ⟨g1, pre.length * 8 + 2, none⟩ (I (x.d.l + b))).ownsRow w.heap.size 87 8 (.slice (some ⟨g1, 0, none⟩) ns.length cap1) ns.length (rcells (P ++ y :: post))) := Lib.hid (by
          have := ownsRow_put HO.out (pre.length * 8 + 2) (I (x.d.l + b)) (by omega)
          rw [← hpl, rcells_set P x y post 2 (by omega) _ (by rw [← hy]; rfl), hpl] at this
          exact this)
        have hj2 : ∀ f, f < 8 → (rcells (P ++ y :: post))[pre.length * 8 + f]? = y.cells[f]? := fun f hf => by rw [← hpl]; exact rcells_mid P y post f hf
        have d0 := own_cell HO2.out (pre.length * 8) (I x.d.kind) ((hj2 0 (by omega)).trans (by rw [← ey]; rfl))
        have d3 := own_cell HO2.out (pre.length * 8 + 3) (I x.d.r) ((hj2 3 (by omega)).trans (by rw [← er]; rfl))
        clear c3 hj2
        cases ht : twoB x.d.kind
        · have HT := Lib.hid ht
          have HX : Hid (mvd b x = y) := Lib.hid (by unfold mvd; rw [ht, ho, ← hy]; rfl)
          clear ht ho hy ey er
          go_wp2_with (go_at_call 92; refine (two_any _ _).mono ?_; rintro e w5 ⟨rfl, rfl⟩; rw [HT.out])
          go_roundw
          case rel => exact ⟨pre ++ [x], post, by rw [List.append_assoc]; exact HNS.out, by rw [List.length_append]; go_num, by unfold movedN at HP ⊢; rw [List.map_append, HP.out, List.map_singleton, HX.out, List.append_assoc]; exact HO2.out, HB2.out⟩
          case measure => simp [intOf]; omega
        · have HT := Lib.hid ht
          obtain ⟨z, hz⟩ : ∃ z : NdV, (⟨{ y.d with r := x.d.r + b }, y.A, y.c⟩ : NdV) = z := ⟨_, rfl⟩
          have HX : Hid (mvd b x = z) := Lib.hid (by unfold mvd; rw [ht, ho, ← hz, ← hy]; rfl)
          have HB3 : Hid (Below w.heap.size w ((wr.setCell ⟨g1, pre.length * 8 + 2, none⟩ (I (x.d.l + b))).setCell ⟨g1, pre.length * 8 + 3, none⟩ (I (x.d.r + b)))) := Lib.hid (HB2.out.setCell (p := ⟨g1, pre.length * 8 + 3, none⟩) (own_blk HO2.out) _)
          have HO3 : Hid (((wr.setCell ⟨g1, pre.length * 8 + 2, none⟩ (I (x.d.l + b))).setCell ⟨g1, pre.length * 8 + 3, none⟩ (I (x.d.r + b))).ownsRow w.heap.size 87 8 (.slice (some ⟨g1, 0, none⟩) ns.length cap1) ns.length (rcells (P ++ z :: post))) := Lib.hid (by
            have := ownsRow_put HO2.out (pre.length * 8 + 3) (I (x.d.r + b)) (by rw [rcells_len, List.length_append, List.length_cons, hpl]; omega)
            rw [← hpl, rcells_set P y z post 3 (by omega) _ (by rw [← hz]; rfl), hpl] at this
            exact this)
          clear ht ho hy hz ey er
          go_wp2_with (go_at_call 92; refine (two_any _ _).mono ?_; rintro e w5 ⟨rfl, rfl⟩; rw [HT.out])
          go_roundw
          case rel => exact ⟨pre ++ [x], post, by rw [List.append_assoc]; exact HNS.out, by rw [List.length_append]; go_num, by unfold movedN at HP ⊢; rw [List.map_append, HP.out, List.map_singleton, HX.out, List.append_assoc]; exact HO3.out, HB3.out⟩
          case measure => simp [intOf]; omega
end Go.Proofs.YtdakcbddlempfaaGreat
