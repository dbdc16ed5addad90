/- The texts RlEq, MvEq, UnP, SvA, SvB, SvC, SvD, in this order. -/
import Derived.Test.YtdakcbddlempfaaGreatG02
import Derived.Deep.RegionLaw
import Derived.Laws.MakeOwn
/- Equality of rules and of moves, where the contents are the same. -/
namespace Go.Proofs.YtdakcbddlempfaaGreat
open Go Go.RowKit

theorem rcells_get (ns : List NdV) (k i : Nat) (hi : i < 8) : (rcells ns)[k * 8 + i]? = (ns[k]?).bind fun x => x.cells[i]? := by
  induction ns generalizing k with
  | nil => simp [rcells]
  | cons x r ih =>
    rw [show rcells (x :: r) = x.cells ++ rcells r by simp [rcells]]
    cases k with
    | zero => rw [List.getElem?_append_left (by rw [x.len]; omega)]; simp
    | succ k => rw [List.getElem?_append_right (by rw [x.len]; omega), x.len, show (k + 1) * 8 + i - 8 = k * 8 + i by omega, ih k]; simp
theorem mvs_get (ms : List Mv) (k i : Nat) (hi : i < 5) : (mvsCells ms)[k * 5 + i]? = (ms[k]?).bind fun x => (mvCells x).toList[i]? := by
  induction ms generalizing k with
  | nil => simp [mvsCells]
  | cons x r ih =>
    have hl : (mvCells x).toList.length = 5 := rfl
    rw [show mvsCells (x :: r) = (mvCells x).toList ++ mvsCells r by simp [mvsCells]]
    cases k with
    | zero => rw [List.getElem?_append_left (by rw [hl]; omega)]; simp
    | succ k => rw [List.getElem?_append_right (by rw [hl]; omega), hl, show (k + 1) * 5 + i - 5 = k * 5 + i by omega, ih k]; simp
/-- A rule as it may be read. -/
def RulesAt (w : World) (B : Nat) (A : Option Addr) (ns : List NdV) : Prop :=
  ns.length = 0 ∨ ∃ b, A = some ⟨b, 0, none⟩ ∧ b < B ∧ ∀ k x, ns[k]? = some x → w.rangeAt b (k * 8) x.cells ∧ IntsAt w B x.A x.d.list ∧ x.d.list.length ≤ 140737488355328
def MovesAt (w : World) (B : Nat) (A : Option Addr) (ms : List Mv) : Prop :=
  ms.length = 0 ∨ ∃ b, A = some ⟨b, 0, none⟩ ∧ b < B ∧ ∀ k x, ms[k]? = some x → w.rangeAt b (k * 5) (mvCells x).toList
theorem rangeAt_keep {w w' : World} {B b o : Nat} {cs : List Value} (h : w.rangeAt b o cs) (hb : Below B w w') (hB : b < B) : w'.rangeAt b o cs := fun j v hv => (World.cell?_of_block (a := ⟨b, o + j, none⟩) (hb.block b hB)).trans (h j v hv)
theorem RulesAt.keep {w w' : World} {B : Nat} {A : Option Addr} {ns : List NdV} (h : RulesAt w B A ns) (hb : Below B w w') : RulesAt w' B A ns := by
  rcases h with h | ⟨b, h1, h2, h3⟩
  · exact .inl h
  · exact .inr ⟨b, h1, h2, fun k x hx => ⟨rangeAt_keep (h3 k x hx).1 hb h2, (h3 k x hx).2.1.keep hb, (h3 k x hx).2.2⟩⟩
theorem RulesAt.more {w : World} {B B' : Nat} {A : Option Addr} {ns : List NdV} (h : RulesAt w B A ns) (hB : B ≤ B') : RulesAt w B' A ns := by
  rcases h with h | ⟨b, h1, h2, h3⟩
  · exact .inl h
  · exact .inr ⟨b, h1, by omega, fun k x hx => ⟨(h3 k x hx).1, (h3 k x hx).2.1.more hB, (h3 k x hx).2.2⟩⟩
theorem MovesAt.keep {w w' : World} {B : Nat} {A : Option Addr} {ns : List Mv} (h : MovesAt w B A ns) (hb : Below B w w') : MovesAt w' B A ns := by
  rcases h with h | ⟨b, h1, h2, h3⟩
  · exact .inl h
  · exact .inr ⟨b, h1, h2, fun k x hx => rangeAt_keep (h3 k x hx) hb h2⟩
theorem MovesAt.more {w : World} {B B' : Nat} {A : Option Addr} {ns : List Mv} (h : MovesAt w B A ns) (hB : B ≤ B') : MovesAt w B' A ns := by
  rcases h with h | ⟨b, h1, h2, h3⟩
  · exact .inl h
  · exact .inr ⟨b, h1, by omega, h3⟩
theorem below_drew' {w w' : World} (h : Below w.drew.heap.size w.drew w') : Below w.heap.size w w' := ⟨h.os, h.tape, h.output, h.size, h.block⟩
/-- The k-th nodes of two rules with the same contents, as they lie. -/
structure TwoNd (wr : World) (b1 b2 k : Nat) (d : Nd) (A B : Option Addr) (c e : Nat) : Prop where
  ra : wr.rangeAt b1 (k * 8) (ndCells d A c).toList
  rb : wr.rangeAt b2 (k * 8) (ndCells d B e).toList
  ia : IntsAt wr wr.heap.size A d.list
  ib : IntsAt wr wr.heap.size B d.list
  len : d.list.length ≤ 140737488355328
  la : b1 < wr.heap.size
  lb : b2 < wr.heap.size
theorem two_nd {w wr : World} {A B : Option Addr} {ns ms : List NdV} {n k : Nat} (hd : ns.map (·.d) = ms.map (·.d)) (hA : RulesAt w w.heap.size A ns) (hB : RulesAt w w.heap.size B ms) (hl : ns.length = n) (hm : ms.length = n) (hb : Below w.heap.size w wr) (hk : k < n) :
    ∃ b1 b2 d A' B' c e, A = some ⟨b1, 0, none⟩ ∧ B = some ⟨b2, 0, none⟩ ∧ TwoNd wr b1 b2 k d A' B' c e := by
  rcases (hA.keep hb) with h | ⟨b1, h1, h2, h3⟩
  · omega
  rcases (hB.keep hb) with h | ⟨b2, g1, g2, g3⟩
  · omega
  have hx : ns[k]? = some ns[k] := List.getElem?_eq_getElem (by omega)
  have hy : ms[k]? = some ms[k] := List.getElem?_eq_getElem (by omega)
  have hxy : (ns[k]).d = (ms[k]).d := by
    have := congrArg (fun l => l[k]?) hd
    simp only [List.getElem?_map, hx, hy, Option.map_some] at this
    exact Option.some.inj this
  obtain ⟨p1, p2, p3⟩ := h3 k _ hx
  obtain ⟨q1, q2, q3⟩ := g3 k _ hy
  refine ⟨b1, b2, (ns[k]).d, (ns[k]).A, (ms[k]).A, (ns[k]).c, (ms[k]).c, h1, g1, ⟨p1, ?_, p2.more hb.size, ?_, p3, Nat.lt_of_lt_of_le h2 hb.size, Nat.lt_of_lt_of_le g2 hb.size⟩⟩
  · rw [hxy]; exact q1
  · rw [hxy]; exact q2.more hb.size
set_option maxRecDepth 10000 in
set_option maxHeartbeats 2000000 in
theorem refRule_eq (A B : Option Addr) (c e : Nat) (ns ms : List NdV) (w : World) (hd : ns.map (·.d) = ms.map (·.d)) (hA : RulesAt w w.heap.size A ns) (hB : RulesAt w w.heap.size B ms) (hn : ns.length ≤ 1000000) (n : Nat) (hl : ns.length = n) :
    Calls Tryz.prog 68 #[.slice A n c, .slice B n e] w (Gives (.bool true) w) := by
  have hm : ms.length = n := by rw [← hl]; have := congrArg List.length hd; simpa using this.symm
  have h8 := ints_same n
  have HD := Lib.hid hd
  have HA := Lib.hid hA
  have HB := Lib.hid hB
  have HL := Lib.hid hl
  have HM := Lib.hid hm
  rw [hl] at hn
  clear hd hA hB hl hm
  go_enter Tryz.func68, Tryz.ntmps68
  go_wp2_with fail
  go_loopw [5] (fun i wr => ∃ k : Nat, k ≤ n ∧ i = I k ∧ Below w.heap.size w wr) (fun i _ => n - (intOf i).toNat)
  case atStart => exact ⟨0, Nat.zero_le _, rfl, Below.refl _ _⟩
  case round =>
    obtain ⟨k, hk, rfl, hbe⟩ := hrel
    have HBE := Lib.hid hbe
    clear hbe
    by_cases hlt : k < n
    · have i0 : (0 : Int) ≤ (k : Int) := by omega
      have i1 : (k : Int) < (n : Int) := by omega
      obtain ⟨b1, b2, d, A', B', c', e', rfl, rfl, htw⟩ := two_nd HD.out HA.out HB.out HL.out HM.out HBE.out hlt
      have HTW := Lib.hid htw
      have f0 : wr.cell? ⟨b1, k * 8, none⟩ = some (I d.kind) := htw.ra 0 _ rfl
      have g0 : wr.cell? ⟨b2, k * 8, none⟩ = some (I d.kind) := htw.rb 0 _ rfl
      have f1 : wr.cell? ⟨b1, k * 8 + 1, none⟩ = some (I d.cal) := htw.ra 1 _ rfl
      have g1 : wr.cell? ⟨b2, k * 8 + 1, none⟩ = some (I d.cal) := htw.rb 1 _ rfl
      have f2 : wr.cell? ⟨b1, k * 8 + 2, none⟩ = some (I d.l) := htw.ra 2 _ rfl
      have g2 : wr.cell? ⟨b2, k * 8 + 2, none⟩ = some (I d.l) := htw.rb 2 _ rfl
      have f3 : wr.cell? ⟨b1, k * 8 + 3, none⟩ = some (I d.r) := htw.ra 3 _ rfl
      have g3 : wr.cell? ⟨b2, k * 8 + 3, none⟩ = some (I d.r) := htw.rb 3 _ rfl
      have f4 : wr.cell? ⟨b1, k * 8 + 4, none⟩ = some (I d.n) := htw.ra 4 _ rfl
      have g4 : wr.cell? ⟨b2, k * 8 + 4, none⟩ = some (I d.n) := htw.rb 4 _ rfl
      have f5 : wr.cell? ⟨b1, k * 8 + 5, none⟩ = some (I d.m) := htw.ra 5 _ rfl
      have g5 : wr.cell? ⟨b2, k * 8 + 5, none⟩ = some (I d.m) := htw.rb 5 _ rfl
      have f6 : wr.cell? ⟨b1, k * 8 + 6, none⟩ = some (.slice A' d.list.length c') := htw.ra 6 _ rfl
      have g6 : wr.cell? ⟨b2, k * 8 + 6, none⟩ = some (.slice B' d.list.length e') := htw.rb 6 _ rfl
      have f7 : wr.cell? ⟨b1, k * 8 + 7, none⟩ = some (.string d.name) := htw.ra 7 _ rfl
      have g7 : wr.cell? ⟨b2, k * 8 + 7, none⟩ = some (.string d.name) := htw.rb 7 _ rfl
      clear htw
      have HC : Hid (Calls Tryz.prog 90 #[.agg (ndCells d A' c'), .agg (ndCells d B' e')] wr.drew (Gives (.bool true) wr.drew)) := Lib.hid (refNode_eq d A' B' c' e' wr.drew HTW.out.ia HTW.out.ib HTW.out.len)
      go_wp2_with fail
      go_region_law (go_simp; go_at_call 90; refine HC.out.mono ?_; rintro v w5 ⟨rfl, hb5⟩; have HB5 : Hid (Below wr.heap.size wr w5) := Lib.hid (below_drew' hb5); clear hb5)
      all_goals
        go_wp2_with fail
        go_roundw
        case rel => exact ⟨k + 1, by omega, by go_num, below_trans HBE.out HB5.out⟩
        case measure => simp [intOf]; omega
    · go_wp2_with fail
      go_ret
      exact ⟨rfl, HBE.out⟩
set_option maxRecDepth 10000 in
set_option maxHeartbeats 2000000 in
theorem eqRule_eq (A B : Option Addr) (c e : Nat) (ns ms : List NdV) (w : World) (hd : ns.map (·.d) = ms.map (·.d)) (hA : RulesAt w w.heap.size A ns) (hB : RulesAt w w.heap.size B ms) (hn : ns.length ≤ 1000000) (n : Nat) (hl : ns.length = n) :
    Calls Tryz.prog 51 #[.slice A n c, .slice B n e, .func (.func 52) #[] #[]] w (Gives (.bool true) w) := by
  have hm : ms.length = n := by rw [← hl]; have := congrArg List.length hd; simpa using this.symm
  have h8 := ints_same n
  have HD := Lib.hid hd
  have HA := Lib.hid hA
  have HB := Lib.hid hB
  have HL := Lib.hid hl
  have HM := Lib.hid hm
  rw [hl] at hn
  clear hd hA hB hl hm
  go_enter Tryz.func51, Tryz.ntmps51
  go_wp2_with fail
  go_loopw [17] (fun i wr => ∃ k : Nat, k ≤ n ∧ i = I k ∧ Below w.heap.size w wr) (fun i _ => n - (intOf i).toNat)
  case atStart => exact ⟨0, Nat.zero_le _, rfl, Below.refl _ _⟩
  case round =>
    obtain ⟨k, hk, rfl, hbe⟩ := hrel
    have HBE := Lib.hid hbe
    clear hbe
    by_cases hlt : k < n
    · have i0 : (0 : Int) ≤ (k : Int) := by omega
      have i1 : (k : Int) < (n : Int) := by omega
      obtain ⟨b1, b2, d, A', B', c', e', rfl, rfl, htw⟩ := two_nd HD.out HA.out HB.out HL.out HM.out HBE.out hlt
      have HTW := Lib.hid htw
      have f0 : wr.cell? ⟨b1, k * 8, none⟩ = some (I d.kind) := htw.ra 0 _ rfl
      have g0 : wr.cell? ⟨b2, k * 8, none⟩ = some (I d.kind) := htw.rb 0 _ rfl
      have f1 : wr.cell? ⟨b1, k * 8 + 1, none⟩ = some (I d.cal) := htw.ra 1 _ rfl
      have g1 : wr.cell? ⟨b2, k * 8 + 1, none⟩ = some (I d.cal) := htw.rb 1 _ rfl
      have f2 : wr.cell? ⟨b1, k * 8 + 2, none⟩ = some (I d.l) := htw.ra 2 _ rfl
      have g2 : wr.cell? ⟨b2, k * 8 + 2, none⟩ = some (I d.l) := htw.rb 2 _ rfl
      have f3 : wr.cell? ⟨b1, k * 8 + 3, none⟩ = some (I d.r) := htw.ra 3 _ rfl
      have g3 : wr.cell? ⟨b2, k * 8 + 3, none⟩ = some (I d.r) := htw.rb 3 _ rfl
      have f4 : wr.cell? ⟨b1, k * 8 + 4, none⟩ = some (I d.n) := htw.ra 4 _ rfl
      have g4 : wr.cell? ⟨b2, k * 8 + 4, none⟩ = some (I d.n) := htw.rb 4 _ rfl
      have f5 : wr.cell? ⟨b1, k * 8 + 5, none⟩ = some (I d.m) := htw.ra 5 _ rfl
      have g5 : wr.cell? ⟨b2, k * 8 + 5, none⟩ = some (I d.m) := htw.rb 5 _ rfl
      have f6 : wr.cell? ⟨b1, k * 8 + 6, none⟩ = some (.slice A' d.list.length c') := htw.ra 6 _ rfl
      have g6 : wr.cell? ⟨b2, k * 8 + 6, none⟩ = some (.slice B' d.list.length e') := htw.rb 6 _ rfl
      have f7 : wr.cell? ⟨b1, k * 8 + 7, none⟩ = some (.string d.name) := htw.ra 7 _ rfl
      have g7 : wr.cell? ⟨b2, k * 8 + 7, none⟩ = some (.string d.name) := htw.rb 7 _ rfl
      have hl1 := htw.la
      have hl2 := htw.lb
      have hne1 : ¬ b1 = wr.heap.size := by omega
      have hne2 : ¬ b2 = wr.heap.size := by omega
      clear htw
      have HB2 := Lib.hid (below_trans (below_var wr (.cells (ndCells d A' c') 87)) (below_var _ (.cells (ndCells d B' e') 87)))
      go_wp2_with fail
      refine (sameNode_eq d A' B' c' e' _ ((HTW.out.ia.keep HB2.out).more HB2.out.size) ((HTW.out.ib.keep HB2.out).more HB2.out.size) HTW.out.len).mono ?_
      rintro v w5 ⟨rfl, hb5⟩
      have HB5 := Lib.hid (below_trans HB2.out hb5)
      clear hb5
      go_wp2_with fail
      go_roundw
      case rel => exact ⟨k + 1, by omega, by go_num, below_trans HBE.out HB5.out⟩
      case measure => simp [intOf]; omega
    · go_wp2_with fail
      go_ret
      exact ⟨rfl, HBE.out⟩
end Go.Proofs.YtdakcbddlempfaaGreat

/- Equality of lists of moves and of series, where the contents are the same. -/
namespace Go.Proofs.YtdakcbddlempfaaGreat
open Go Go.RowKit

theorem mv_at {w wr : World} {A B : Option Addr} {ms : List Mv} {n k : Nat} (hA : MovesAt w w.heap.size A ms) (hB : MovesAt w w.heap.size B ms) (hl : ms.length = n) (hb : Below w.heap.size w wr) (hk : k < n) :
    ∃ b1 b2 m, A = some ⟨b1, 0, none⟩ ∧ B = some ⟨b2, 0, none⟩ ∧ b1 < wr.heap.size ∧ b2 < wr.heap.size ∧ wr.rangeAt b1 (k * 5) (mvCells m).toList ∧ wr.rangeAt b2 (k * 5) (mvCells m).toList := by
  rcases (hA.keep hb) with h | ⟨b1, h1, h2, h3⟩
  · omega
  rcases (hB.keep hb) with h | ⟨b2, g1, g2, g3⟩
  · omega
  have hx : ms[k]? = some ms[k] := List.getElem?_eq_getElem (by omega)
  exact ⟨b1, b2, ms[k], h1, g1, Nat.lt_of_lt_of_le h2 hb.size, Nat.lt_of_lt_of_le g2 hb.size, h3 k _ hx, g3 k _ hx⟩
theorem neq_mv_same (m : Mv) (W : World) : (binOp .neq 26 (.agg #[I m.day, .bool m.drop, I m.toDay, I m.minute, I m.length]) (.agg #[I m.day, .bool m.drop, I m.toDay, I m.minute, I m.length])).run Tryz.prog W = .ok (.bool false) W := by
  simp [go_sem]
attribute [local go_sem] neq_mv_same seC
set_option maxRecDepth 10000 in
set_option maxHeartbeats 2000000 in
theorem eqMoves_eq (A B : Option Addr) (c e : Nat) (ms : List Mv) (w : World) (hA : MovesAt w w.heap.size A ms) (hB : MovesAt w w.heap.size B ms) (hn : ms.length ≤ 1000000) (n : Nat) (hl : ms.length = n) :
    Calls Tryz.prog 50 #[.slice A n c, .slice B n e] w (Gives (.bool true) w) := by
  have h8 := ints_same n
  have HA := Lib.hid hA
  have HB := Lib.hid hB
  have HL := Lib.hid hl
  rw [hl] at hn
  clear hA hB hl
  go_enter Tryz.func50, Tryz.ntmps50
  go_wp2_with fail
  go_loopw [13] (fun i wr => ∃ k : Nat, k ≤ n ∧ i = I k ∧ Below w.heap.size w wr) (fun i _ => n - (intOf i).toNat)
  case atStart => exact ⟨0, Nat.zero_le _, rfl, Below.refl _ _⟩
  case round =>
    obtain ⟨k, hk, rfl, hbe⟩ := hrel
    have HBE := Lib.hid hbe
    by_cases hlt : k < n
    · have i0 : (0 : Int) ≤ (k : Int) := by omega
      have i1 : (k : Int) < (n : Int) := by omega
      obtain ⟨b1, b2, m, rfl, rfl, hl1, hl2, hr1, hr2⟩ := mv_at HA.out HB.out HL.out hbe hlt
      have f0 : wr.cell? ⟨b1, k * 5, none⟩ = some (I m.day) := hr1 0 _ rfl
      have g0 : wr.cell? ⟨b2, k * 5, none⟩ = some (I m.day) := hr2 0 _ rfl
      have f1 : wr.cell? ⟨b1, k * 5 + 1, none⟩ = some (.bool m.drop) := hr1 1 _ rfl
      have g1 : wr.cell? ⟨b2, k * 5 + 1, none⟩ = some (.bool m.drop) := hr2 1 _ rfl
      have f2 : wr.cell? ⟨b1, k * 5 + 2, none⟩ = some (I m.toDay) := hr1 2 _ rfl
      have g2 : wr.cell? ⟨b2, k * 5 + 2, none⟩ = some (I m.toDay) := hr2 2 _ rfl
      have f3 : wr.cell? ⟨b1, k * 5 + 3, none⟩ = some (I m.minute) := hr1 3 _ rfl
      have g3 : wr.cell? ⟨b2, k * 5 + 3, none⟩ = some (I m.minute) := hr2 3 _ rfl
      have f4 : wr.cell? ⟨b1, k * 5 + 4, none⟩ = some (I m.length) := hr1 4 _ rfl
      have g4 : wr.cell? ⟨b2, k * 5 + 4, none⟩ = some (I m.length) := hr2 4 _ rfl
      clear hr1 hr2 hbe
      go_wp2_with fail
      go_quiet (fail)
      go_wp2_with fail
      go_roundw
      case rel => exact ⟨k + 1, by omega, by go_num, below_trans HBE.out (below_drewN' _ _)⟩
      case measure => simp [intOf]; omega
    · go_wp2_with fail
      go_ret
      exact ⟨rfl, HBE.out⟩
set_option maxRecDepth 10000 in
set_option maxHeartbeats 2000000 in
theorem refSeries_eq (s : Ser) (A A' B B' : Option Addr) (c c' e e' : Nat) (ns ns' : List NdV) (w : World) (hs : s.rule = ns.map (·.d)) (hs' : s.rule = ns'.map (·.d)) (hA : RulesAt w w.heap.size A ns) (hA' : RulesAt w w.heap.size A' ns') (hB : MovesAt w w.heap.size B s.moves) (hB' : MovesAt w w.heap.size B' s.moves) (hn : s.rule.length ≤ 1000000) (hm : s.moves.length ≤ 1000000) :
    Calls Tryz.prog 47 #[.agg (seC s A B c e), .agg (seC s A' B' c' e')] w (Gives (.bool true) w) := by
  have h8 := ints_same s.moves.length
  have h1 := ints_same s.minute
  have h2 := ints_same s.length
  have h3 := ints_same s.gap
  have h4 := ints_same s.fold
  have HR := Lib.hid (fun w' (hb : Below w.heap.size w w') => refRule_eq A A' c c' ns ns' w' (hs.symm.trans hs') ((hA.keep hb).more hb.size) ((hA'.keep hb).more hb.size) (by rw [hs, List.length_map] at hn; exact hn) s.rule.length (by rw [hs, List.length_map]))
  have HB1 := Lib.hid hB
  have HB2 := Lib.hid hB'
  have HB0 := Lib.hid (below_trans (below_var w (.cells (seC s A B c e) 31)) (below_var _ (.cells (seC s A' B' c' e') 31)))
  clear hs hs' hA hA' hB hB' hn
  go_enter Tryz.func47, Tryz.ntmps47
  go_wp2_with fail
  refine (HR.out _ HB0.out).mono ?_
  rintro v w1 ⟨rfl, hb1⟩
  have HRA : Hid (Row w1 w.heap.size (seC s A B c e)) := Lib.hid (((Row.new w (seC s A B c e) 31).keep (below_var _ (.cells (seC s A' B' c' e') 31))).keep hb1)
  have HRB : Hid (Row w1 (w.heap.size + 1) (seC s A' B' c' e')) := Lib.hid (by have := (Row.new (w.alloc (.cells (seC s A B c e) 31)) (seC s A' B' c' e') 31).keep hb1; rwa [World.size_alloc] at this)
  have HBW := Lib.hid (below_trans HB0.out hb1)
  clear hb1 HR HB0
  go_wp2_with fail
  go_loopw [5] (fun i wr => ∃ k : Nat, k ≤ s.moves.length ∧ i = I k ∧ ∃ q, wr = w1.drewN q) (fun i _ => s.moves.length - (intOf i).toNat)
  case atStart => exact ⟨0, Nat.zero_le _, rfl, 0, rfl⟩
  case round =>
    obtain ⟨k, hk, rfl, q, rfl⟩ := hrel
    have hc1 : w1.cell? ⟨w.heap.size, 6, none⟩ = some (.slice B s.moves.length e) := HRA.out.2 6
    have hc2 : w1.cell? ⟨w.heap.size + 1, 6, none⟩ = some (.slice B' s.moves.length e') := HRB.out.2 6
    by_cases hlt : k < s.moves.length
    · have i0 : (0 : Int) ≤ (k : Int) := by omega
      have i1 : (k : Int) < (s.moves.length : Int) := by omega
      obtain ⟨b1, b2, mv, rfl, rfl, hl1, hl2, hr1, hr2⟩ := mv_at HB1.out HB2.out rfl HBW.out hlt
      have f0 : w1.cell? ⟨b1, k * 5, none⟩ = some (I mv.day) := hr1 0 _ rfl
      have g0 : w1.cell? ⟨b2, k * 5, none⟩ = some (I mv.day) := hr2 0 _ rfl
      have f1 : w1.cell? ⟨b1, k * 5 + 1, none⟩ = some (.bool mv.drop) := hr1 1 _ rfl
      have g1 : w1.cell? ⟨b2, k * 5 + 1, none⟩ = some (.bool mv.drop) := hr2 1 _ rfl
      have f2 : w1.cell? ⟨b1, k * 5 + 2, none⟩ = some (I mv.toDay) := hr1 2 _ rfl
      have g2 : w1.cell? ⟨b2, k * 5 + 2, none⟩ = some (I mv.toDay) := hr2 2 _ rfl
      have f3 : w1.cell? ⟨b1, k * 5 + 3, none⟩ = some (I mv.minute) := hr1 3 _ rfl
      have g3 : w1.cell? ⟨b2, k * 5 + 3, none⟩ = some (I mv.minute) := hr2 3 _ rfl
      have f4 : w1.cell? ⟨b1, k * 5 + 4, none⟩ = some (I mv.length) := hr1 4 _ rfl
      have g4 : w1.cell? ⟨b2, k * 5 + 4, none⟩ = some (I mv.length) := hr2 4 _ rfl
      clear hr1 hr2
      go_wp2_with fail
      go_quiet (fail)
      go_wp2_with fail
      go_roundw
      case rel => exact ⟨k + 1, by omega, by go_num, _, rfl⟩
      case measure => simp [intOf]; omega
    · go_wp2_with fail
      go_ret
      exact ⟨rfl, below_trans HBW.out (below_drewN' _ _)⟩
end Go.Proofs.YtdakcbddlempfaaGreat

/- What a letter that was made is, in plain words: its head, its lengths, the numbers that its kind does not use. -/
namespace Go.Proofs.YtdakcbddlempfaaGreat
open Go Go.RowKit

theorem MRule.lists {cals : Int} {ns : List NdV} (h : MRule cals ns) : ∀ x ∈ ns, x.d.list.length ≤ 4 := by
  induction h with
  | leaf x h =>
    intro y hy
    rw [List.mem_singleton.1 hy]
    obtain ⟨_, h⟩ := h
    rcases h with h | h | h | h | h | h | h | h
    · rw [h.2.2.2.2.2.2.2.1]; simp
    · rw [h.2.2.2.2.2.2.2.2.1]; simp
    · exact h.2.2.2.2.2.2.1.2.1
    · exact h.2.2.2.2.2.2.1.2.1
    · exact h.2.2.2.2.2.1.2.1
    · exact h.2.2.2.2.2.2.1.2.1
    · rw [h.2.2.2.2.2.2.2.2.1]; simp
    · rw [h.2.2.2.2.2.1]; simp
  | one ns x _ h ih =>
    intro y hy
    rcases List.mem_append.1 hy with hy | hy
    · exact ih y hy
    · rw [List.mem_singleton.1 hy]
      show x.d.list.length ≤ 4
      rcases h.2.2 with h | h | h | h
      · rw [h.2.2.2.2.2]; simp
      · rw [h.2.2.2.2.2]; simp
      · exact h.2.2.2.2.2.1
      · exact h.2.2.2.2.2.2.2.1
  | two ns ms x _ _ h ih1 ih2 =>
    intro y hy
    rcases List.mem_append.1 hy with hy | hy
    · rcases List.mem_append.1 hy with hy | hy
      · exact ih1 y hy
      · obtain ⟨z, hz, rfl⟩ := List.mem_map.1 hy
        exact ih2 z hz
    · rw [List.mem_singleton.1 hy]
      show x.d.list.length ≤ 4
      rw [h.2.2.1]; simp
theorem numF_ne (l : Lt) (x : Int) (f k : Nat) (hk : k < 17) (h : f ≠ k) : numF (setNum l f x) k = numF l k :=
  all17 (p := fun k => f ≠ k → numF (setNum l f x) k = numF l k) (by
    refine ⟨?_, ?_, ?_, ?_, ?_, ?_, ?_, ?_, ?_, ?_, ?_, ?_, ?_, ?_, ?_, ?_, ?_⟩ <;> (intro h; unfold setNum; split <;> first | rfl | exact absurd rfl h)) k hk h
theorem numF_same (l : Lt) (x : Int) (k : Nat) (hk : k < 17) (h : (numOff k).isSome = true) : numF (setNum l k x) k = x :=
  all17 (p := fun k => (numOff k).isSome = true → numF (setNum l k x) k = x) (by
    refine ⟨?_, ?_, ?_, ?_, ?_, ?_, ?_, ?_, ?_, ?_, ?_, ?_, ?_, ?_, ?_, ?_, ?_⟩ <;> (intro h; first | rfl | cases h)) k hk h
theorem setNum_none (l : Lt) (x : Int) (k : Nat) (hk : k < 17) (h : numOff k = none) : setNum l k x = l :=
  all17 (p := fun k => numOff k = none → setNum l k x = l) (by
    refine ⟨?_, ?_, ?_, ?_, ?_, ?_, ?_, ?_, ?_, ?_, ?_, ?_, ?_, ?_, ?_, ?_, ?_⟩ <;> (intro h; first | rfl | cases h)) k hk h
theorem setNum_src (l : Lt) (k : Nat) (x : Int) : (setNum l k x).src = l.src := by unfold setNum; split <;> rfl
theorem setNum_dst (l : Lt) (k : Nat) (x : Int) : (setNum l k x).dst = l.dst := by unfold setNum; split <;> rfl
theorem setNum_move (l : Lt) (k : Nat) (x : Int) : (setNum l k x).move = l.move := by unfold setNum; split <;> rfl
theorem setNum_wfrom (l : Lt) (k : Nat) (x : Int) : (setNum l k x).wfrom = l.wfrom := by unfold setNum; split <;> rfl
theorem setNum_wto (l : Lt) (k : Nat) (x : Int) : (setNum l k x).wto = l.wto := by unfold setNum; split <;> rfl
theorem MadeF.numF {l l' : Lt} {ns ns' : List NdV} {f : Nat} (h : MadeF l ns f l' ns') (k : Nat) (hk : k < 17) (hf : f ≠ k) : numF l' k = numF l k := by
  rcases h with ⟨_, x, _, _, _, rfl, _⟩ | ⟨_, _, ⟨_, m, rfl, _⟩ | ⟨_, _, rfl⟩⟩ | ⟨_, ⟨_, se, rfl, _⟩ | ⟨_, _, rfl, _⟩⟩ | ⟨_, _, a, b, _, _, _, rfl⟩ | ⟨_, _, zs, rfl, _⟩ | ⟨_, _, r, _, rfl⟩
  · exact numF_ne l x f k hk hf
  all_goals rfl
theorem MadeTo.unused {bare : Bool} {l0 l : Lt} {j : Nat} {ns : List NdV} (h : MadeTo bare l0 j l ns) (k : Nat) (hk : k < 17) (hu : usesB l0.kind k = false) : numF l k = numF l0 k := by
  induction h with
  | zero => rfl
  | skip _ _ ih => exact ih
  | @step j l l' ns ns' _ hs hf ih =>
    refine (hf.numF k hk ?_).trans ih
    rintro rfl
    unfold skipB at hs
    rw [hu] at hs
    cases hs
theorem start_numF (k f t : Int) (i : Nat) (hi : i < 17) : numF (startLt k f t) i = 0 :=
  all17 (p := fun i => numF (startLt k f t) i = 0) (by refine ⟨?_, ?_, ?_, ?_, ?_, ?_, ?_, ?_, ?_, ?_, ?_, ?_, ?_, ?_, ?_, ?_, ?_⟩ <;> rfl) i hi
theorem adjust_unused (l : Lt) (k : Nat) (hk : k < 17) (hu : usesB l.kind k = false) : numF (adjust l) k = numF l k := by
  unfold adjust
  split
  · rename_i h
    rw [h.1] at hu
    have : k ≠ 8 := by rintro rfl; revert hu; decide
    exact numF_ne l 0 8 k hk (fun e => this e.symm)
  · split
    · rename_i h
      rw [h.1] at hu
      have : k ≠ 5 := by rintro rfl; revert hu; decide
      exact numF_ne l (l.other + 1) 5 k hk (fun e => this e.symm)
    · rfl
theorem adjust_kind (l : Lt) : (adjust l).kind = l.kind := by unfold adjust; split <;> (try split) <;> rfl
theorem adjust_src (l : Lt) : (adjust l).src = l.src := by unfold adjust; split <;> (try split) <;> rfl
theorem adjust_dst (l : Lt) : (adjust l).dst = l.dst := by unfold adjust; split <;> (try split) <;> rfl
theorem adjust_series (l : Lt) : (adjust l).series = l.series := by unfold adjust; split <;> (try split) <;> rfl
theorem adjust_cells (l : Lt) : (adjust l).cells = l.cells := by unfold adjust; split <;> (try split) <;> rfl
/-- What every letter under way keeps. -/
structure Inv (l0 l : Lt) (ns : List NdV) : Prop where
  kind : l.kind = l0.kind
  src : l.src = l0.src
  dst : l.dst = l0.dst
  ser : (l.series = zSer ∧ ns = []) ∨ SerOK ns l.series
  cells : l.cells = [] ∨ CellsOK l.cells
theorem MadeF.inv {l0 l l' : Lt} {ns ns' : List NdV} {f : Nat} (h : MadeF l ns f l' ns') (i : Inv l0 l ns) : Inv l0 l' ns' := by
  rcases h with ⟨_, x, _, _, _, rfl, rfl⟩ | ⟨_, rfl, ⟨_, m, rfl, _⟩ | ⟨_, _, rfl⟩⟩ | ⟨_, ⟨_, se, rfl, h⟩ | ⟨_, _, rfl, rfl⟩⟩ | ⟨_, rfl, a, b, _, _, _, rfl⟩ | ⟨_, rfl, zs, rfl, h⟩ | ⟨_, rfl, r, _, rfl⟩
  · exact ⟨by rw [setNum_kind]; exact i.kind, by rw [setNum_src]; exact i.src, by rw [setNum_dst]; exact i.dst, by rw [setNum_series]; exact i.ser, by rw [setNum_cellsL]; exact i.cells⟩
  · exact ⟨i.kind, i.src, i.dst, i.ser, i.cells⟩
  · exact i
  · exact ⟨i.kind, i.src, i.dst, .inr h, i.cells⟩
  · exact i
  · exact ⟨i.kind, i.src, i.dst, i.ser, i.cells⟩
  · exact ⟨i.kind, i.src, i.dst, i.ser, .inr h⟩
  · exact ⟨i.kind, i.src, i.dst, i.ser, i.cells⟩
theorem MadeTo.inv {bare : Bool} {l0 l : Lt} {j : Nat} {ns : List NdV} (h : MadeTo bare l0 j l ns) (h0 : Inv l0 l0 []) : Inv l0 l ns := by
  induction h with
  | zero => exact h0
  | skip _ _ ih => exact ih
  | step _ _ hf ih => exact hf.inv ih
theorem MadeLt.inv {l : Lt} {ns : List NdV} (h : MadeLt l ns) : ∃ k f t, 1 ≤ k ∧ k ≤ 18 ∧ 0 ≤ f ∧ f ≤ 15 ∧ 0 ≤ t ∧ t ≤ 15 ∧ f ≠ t ∧ Inv (startLt k f t) l ns ∧ ∀ i : Nat, i < 17 → usesB k i = false → numF l i = 0 := by
  obtain ⟨bare, k, f, t, l1, h1, h2, h3, h4, h5, h6, h7, _, hm, rfl⟩ := h.made
  have i := hm.inv ⟨rfl, rfl, rfl, .inl ⟨rfl, rfl⟩, .inl rfl⟩
  refine ⟨k, f, t, h1, h2, h3, h4, h5, h6, h7, ⟨by rw [adjust_kind]; exact i.kind, by rw [adjust_src]; exact i.src, by rw [adjust_dst]; exact i.dst, by rw [adjust_series]; exact i.ser, by rw [adjust_cells]; exact i.cells⟩, fun j hj hu => ?_⟩
  have hk : l1.kind = k := i.kind
  rw [adjust_unused l1 j hj (by rw [hk]; exact hu), hm.unused j hj hu, start_numF k f t j hj]
theorem MadeLt.unused {l : Lt} {ns : List NdV} (h : MadeLt l ns) (i : Nat) (hi : i < 17) (hu : usesB l.kind i = false) : numF l i = 0 := by
  obtain ⟨k, f, t, _, _, _, _, _, _, _, hv, hz⟩ := h.inv
  exact hz i hi (by rw [hv.kind] at hu; exact hu)
theorem MadeLt.kinds {l : Lt} {ns : List NdV} (h : MadeLt l ns) : 1 ≤ l.kind ∧ l.kind ≤ 18 := by
  obtain ⟨k, f, t, h1, h2, _, _, _, _, _, hv, _⟩ := h.inv
  have : l.kind = k := hv.kind
  omega
theorem MadeLt.head {l : Lt} {ns : List NdV} (h : MadeLt l ns) : headOK l = true := by
  obtain ⟨k, f, t, h1, h2, h3, h4, h5, h6, h7, hv, _⟩ := h.inv
  have e1 : l.kind = k := hv.kind
  have e2 : l.src = f := hv.src
  have e3 : l.dst = t := hv.dst
  unfold headOK srvIn
  rw [e1, e2, e3]
  simp only [Bool.and_eq_true, decide_eq_true_eq]
  omega
theorem MadeLt.ok {l : Lt} {ns : List NdV} (h : MadeLt l ns) : LtOK l := by
  obtain ⟨k, f, t, _, _, _, _, _, _, _, hv, _⟩ := h.inv
  have hc : l.cells.length ≤ 140737488355328 := by
    rcases hv.cells with h | h
    · rw [h]; simp
    · have := h.len; omega
  rcases hv.ser with ⟨hs, _⟩ | hs
  · exact ⟨by rw [hs]; simp [zSer], by rw [hs]; simp [zSer], by rw [hs]; simp [zSer], h.ref, hc⟩
  · refine ⟨?_, ?_, ?_, h.ref, hc⟩
    · rw [hs.names, List.length_map]; have := hs.len; omega
    · have := hs.mlen; omega
    · rcases hs.zone with h | h | h | h <;> rw [h] <;> decide
theorem MadeLt.lens {l : Lt} {ns : List NdV} (h : MadeLt l ns) : l.series.rule.length ≤ 16 ∧ l.series.moves.length ≤ 2 ∧ l.cells.length ≤ 5 ∧ ∀ x ∈ ns, x.d.list.length ≤ 4 := by
  obtain ⟨k, f, t, _, _, _, _, _, _, _, hv, _⟩ := h.inv
  have hc : l.cells.length ≤ 5 := by
    rcases hv.cells with h | h
    · rw [h]; simp
    · exact h.len
  rcases hv.ser with ⟨hs, hn⟩ | hs
  · exact ⟨by rw [hs]; simp [zSer], by rw [hs]; simp [zSer], hc, by rw [hn]; simp⟩
  · exact ⟨by rw [hs.names, List.length_map]; exact hs.len, hs.mlen, hc, hs.made.lists⟩
theorem LtOK.num {l : Lt} (h : LtOK l) (k : Nat) (x : Int) : LtOK (setNum l k x) := ⟨by rw [setNum_series]; exact h.rule, by rw [setNum_series]; exact h.moves, by rw [setNum_series]; exact h.zone, by rw [setNum_ref]; exact h.ref, by rw [setNum_cellsL]; exact h.cells⟩
theorem head_num (l : Lt) (k : Nat) (x : Int) : headOK (setNum l k x) = headOK l := by unfold headOK; rw [setNum_kind, setNum_src, setNum_dst]
/-- A number that the kind does not use is not zero: the letter is not valid. -/
theorem unused_bad {l : Lt} (k : Nat) (hk : k < 17) (hu : usesB l.kind k = false) (x : Int) (hx : x ≠ 0) (ho : (numOff k).isSome = true) : bodyOK (setNum l k x) = false := by
  unfold bodyOK
  rw [vNums_no hk, Bool.false_and]
  unfold numOK numLow numHigh
  rw [setNum_kind, hu, numF_same l x k hk ho]
  obtain ⟨o, ho⟩ := Option.isSome_iff_exists.1 ho
  rw [ho]
  simp
  omega
theorem numsEq_num (l : Lt) (k : Nat) (hk : k < 17) (x : Int) : numsEq l (setNum l k x) = ((numOff k).isNone || (numF l k == x)) := by
  cases h : (numOff k).isNone || (numF l k == x) with
  | true =>
    apply numsEq_yes
    intro j hj
    by_cases e : j = k
    · subst e
      cases h2 : numOff j with
      | none => rfl
      | some o =>
        rw [h2] at h
        rw [numF_same l x j hj (by rw [h2]; rfl)]
        exact h
    · rw [numF_ne l x k j hj (fun h => e h.symm)]
      simp
  | false =>
    rw [Bool.or_eq_false_iff] at h
    obtain ⟨o, ho⟩ : ∃ o, numOff k = some o := by
      cases h2 : numOff k with
      | none => rw [h2] at h; cases h.1
      | some o => exact ⟨o, rfl⟩
    exact numsEq_no hk ho (by rw [numF_same l x k hk (by rw [ho]; rfl)]; exact h.2)
theorem headEq_num (l : Lt) (k : Nat) (x : Int) : headEq l (setNum l k x) = true := by
  unfold headEq moveEq
  rw [setNum_kind, setNum_src, setNum_dst, setNum_move, setNum_wfrom, setNum_wto, setNum_ref]
  simp
theorem serEq_same (s : Ser) : serEq s s = true := by unfold serEq; simp
/-- The lists, as the laws of equality ask for them. -/
theorem LtMem.rules {lo : Nat} {w : World} {l : Lt} {s : Sl} {ns : List NdV} (h : LtMem lo w l s ns) (hl : ∀ x ∈ ns, x.d.list.length ≤ 4) : RulesAt w w.heap.size s.A ns := by
  by_cases hn : ns = []
  · exact .inl (by rw [hn]; rfl)
  obtain ⟨g, cap, h1, h2, h3, h4⟩ := h.rule.form hn
  injection h1 with h1 _ _
  refine .inr ⟨g, h1, h3, fun k x hx => ⟨fun j v hv => ?_, (h.rule.lists x (List.mem_of_getElem? hx)).ints, by have := hl x (List.mem_of_getElem? hx); omega⟩⟩
  have hj : j < 8 := by have := (List.getElem?_eq_some_iff.1 hv).1; rw [x.len] at this; exact this
  exact h4 _ _ (by rw [rcells_get ns k j hj, hx]; exact hv)
theorem LtMem.mvs {lo : Nat} {w : World} {l : Lt} {s : Sl} {ns : List NdV} (h : LtMem lo w l s ns) : MovesAt w w.heap.size s.B l.series.moves := by
  obtain ⟨h0, ⟨_, h1⟩ | ⟨g, cap, cur, hv, hg, hb, h1, h2, h3, h4⟩⟩ := h.moves
  · exact .inl h1
  injection hv with hv _ _
  refine .inr ⟨g, hv, (Array.getElem?_eq_some_iff.1 hb).1, fun k x hx j v hj => ?_⟩
  have h5 : j < 5 := (List.getElem?_eq_some_iff.1 hj).1
  rw [cell_of_row w g _ _ _ _ hb]
  have h6 : (mvsCells l.series.moves)[k * 5 + j]? = some v := by rw [mvs_get _ k j h5, hx]; exact hj
  rw [← h4, List.getElem?_take] at h6
  split at h6
  · simpa using h6
  · cases h6
theorem LtMem.ints {lo : Nat} {w : World} {l : Lt} {s : Sl} {ns : List NdV} (h : LtMem lo w l s ns) : IntsAt w w.heap.size s.C l.cells := by
  obtain ⟨A, c, h1, h2⟩ := LI.of_owns h.cells
  injection h1 with h1 _ _
  rw [h1]
  exact h2.ints
end Go.Proofs.YtdakcbddlempfaaGreat

/- The rule's and the series' small tests: within, numbersOK, listOK, shapes, moveOK (where they answer yes). -/
namespace Go.Proofs.YtdakcbddlempfaaGreat
open Go Go.RowKit

set_option maxRecDepth 10000 in
theorem ruWithin_yes (n lo hi : Int) (w : World) (h1 : lo ≤ n) (h2 : n ≤ hi) : Calls Tryz.prog 99 #[I n, I lo, I hi] w fun e w' => e = .returned (.bool true) ∧ w' = w := by
  go_enter Tryz.func99, Tryz.ntmps99
  go_wp2
  go_ret
  exact ⟨rfl, rfl⟩
set_option maxRecDepth 10000 in
theorem seWithin_yes (n lo hi : Int) (w : World) (h1 : lo ≤ n) (h2 : n ≤ hi) : Calls Tryz.prog 88 #[I n, I lo, I hi] w fun e w' => e = .returned (.bool true) ∧ w' = w := by
  go_enter Tryz.func88, Tryz.ntmps88
  go_wp2
  go_ret
  exact ⟨rfl, rfl⟩
/-- The numbers of a node are as its kind requires. -/
def NumsOK (d : Nd) : Prop :=
  (d.kind = 1 ∧ 1 ≤ d.n ∧ d.n ≤ 1099511627776 ∧ 0 ≤ d.m ∧ d.m ≤ 1099511627776) ∨
  (d.kind = 2 ∧ 1 ≤ d.n ∧ d.n ≤ 400 ∧ 0 ≤ d.m ∧ d.m ≤ d.n - 1) ∨
  (d.kind = 7 ∧ -60 ≤ d.n ∧ d.n ≤ 60 ∧ d.n ≠ 0 ∧ 0 ≤ d.m ∧ d.m ≤ 6 ∧ 0 ≤ d.l ∧ d.l ≤ 1) ∨
  (d.kind = 11 ∧ -1099511627776 ≤ d.n ∧ d.n ≤ 1099511627776 ∧ d.m = 0) ∨
  ((d.kind = 12 ∨ d.kind = 13) ∧ 0 ≤ d.n ∧ d.n ≤ 1099511627776 ∧ d.m = 0) ∨
  (d.kind = 16 ∧ d.n = 0 ∧ 0 ≤ d.m ∧ d.m ≤ 1) ∨
  (d.kind = 17 ∧ 1 ≤ d.n ∧ d.n ≤ 400 ∧ d.m = 0) ∨
  (d.kind ≠ 1 ∧ d.kind ≠ 2 ∧ d.kind ≠ 7 ∧ d.kind ≠ 11 ∧ d.kind ≠ 12 ∧ d.kind ≠ 13 ∧ d.kind ≠ 16 ∧ d.kind ≠ 17 ∧ d.n = 0 ∧ d.m = 0)
section
attribute [local go_sem] ndCells
set_option maxRecDepth 10000 in
set_option maxHeartbeats 4000000 in
theorem numbersOK_yes (d : Nd) (A : Option Addr) (c : Nat) (w : World) (h : NumsOK d) : Calls Tryz.prog 102 #[.agg (ndCells d A c)] w (Gives (.bool true) w) := by
  have HB := Lib.hid (below_var w (.cells (ndCells d A c) 87))
  obtain ⟨kind, cal, l, r, n, m, list, name⟩ := d
  unfold NumsOK at h
  simp only at h
  rcases h with ⟨rfl, h1, h2, h3, h4⟩ | ⟨rfl, h1, h2, h3, h4⟩ | ⟨rfl, h1, h2, h3, h4, h5, h6, h7⟩ | ⟨rfl, h1, h2, rfl⟩ | ⟨rfl | rfl, h1, h2, rfl⟩ | ⟨rfl, rfl, h1, h2⟩ | ⟨rfl, h1, h2, rfl⟩ | ⟨k1, k2, k3, k4, k5, k6, k7, k8, rfl, rfl⟩
  case' inr.inr.inl =>
    have n0 : (n != 0) = true := by simp [h3]
    have n1 : (n == 0) = false := by simp [h3]
    clear h3
  all_goals
    go_enter Tryz.func102, Tryz.ntmps102
    go_wp2_with (go_at_call 99; refine (ruWithin_yes _ _ _ _ (by omega) (by first | omega | (rw [IntKind.wrap_i64]; omega))).mono ?_; rintro e w1 ⟨rfl, rfl⟩)
    go_ret
    exact ⟨rfl, HB.out⟩
end
/-- A list within bounds, rising, without zero if the bounds have unlike signs. -/
structure UpIn (lo hi : Int) (zs : List Int) : Prop where
  ne : 0 < zs.length
  rng : ∀ z ∈ zs, lo ≤ z ∧ z ≤ hi
  up : zs.Pairwise (· < ·)
  nz : lo < 0 → ∀ z ∈ zs, z ≠ 0
theorem UpIn.at {lo hi : Int} {zs : List Int} (h : UpIn lo hi zs) (k : Nat) (hk : k < zs.length) : lo ≤ zs[k]?.getD 0 ∧ zs[k]?.getD 0 ≤ hi ∧ (0 < k → zs[k - 1]?.getD 0 < zs[k]?.getD 0) ∧ (lo < 0 → zs[k]?.getD 0 ≠ 0) := by
  have e : zs[k]? = some zs[k] := List.getElem?_eq_getElem hk
  have hm : zs[k] ∈ zs := List.getElem_mem hk
  rw [e]
  refine ⟨(h.rng _ hm).1, (h.rng _ hm).2, fun h0 => ?_, fun hl => h.nz hl _ hm⟩
  have hk1 : k - 1 < zs.length := by omega
  rw [List.getElem?_eq_getElem hk1]
  exact List.pairwise_iff_getElem.1 h.up (k - 1) k hk1 hk (by omega)
set_option maxRecDepth 10000 in
set_option maxHeartbeats 4000000 in
theorem listOK_none (A : Option Addr) (c : Nat) (w : World) : Calls Tryz.prog 101 #[.slice A 0 c, .agg #[I 0, I 0]] w (Gives (.bool true) w) := by
  have HB := Lib.hid (below_var w (.cells #[I 0, I 0] 143))
  go_enter Tryz.func101, Tryz.ntmps101
  go_wp2
  go_ret
  exact ⟨rfl, HB.out⟩
set_option maxRecDepth 10000 in
set_option maxHeartbeats 4000000 in
theorem listOK_yes (A : Option Addr) (c n : Nat) (lo hi : Int) (zs : List Int) (w : World) (hA : IntsAt w w.heap.size A zs) (h : UpIn lo hi zs) (hlh : lo ≠ 0 ∨ hi ≠ 0) (hn : zs.length = n) (hn2 : n ≤ 1000000) : Calls Tryz.prog 101 #[.slice A n c, .agg #[I lo, I hi]] w (Gives (.bool true) w) := by
  have HB := Lib.hid (below_var w (.cells #[I lo, I hi] 143))
  have h0 := h.ne
  obtain ⟨b, off, rfl, hb, hc⟩ : ∃ b off, A = some ⟨b, off, none⟩ ∧ b < w.heap.size ∧ ∀ j, j < zs.length → w.cell? ⟨b, off + j, none⟩ = some (I (zs[j]?.getD 0)) := by
    rcases hA with h | h
    · omega
    · exact h
  have HC := Lib.hid hc
  have HU := Lib.hid (fun k (hk : k < n) => h.at k (by omega))
  have hne : ¬ b = w.heap.size := by omega
  rw [hn] at h0
  have heq : ∀ W, (binOp .eql 143 (.agg #[I lo, I hi]) (.agg #[.int .i64 0, .int .i64 0])).run Tryz.prog W = .ok (.bool false) W := fun W => by
    rcases hlh with h | h <;> simp [go_sem, h]
  have HN := Lib.hid hn
  clear hc h hA hn hlh
  go_enter Tryz.func101, Tryz.ntmps101
  go_wp2
  go_loopw [15] (fun i wr => ∃ k : Nat, k ≤ n ∧ i = I k ∧ wr = w.alloc (.cells #[I lo, I hi] 143)) (fun i _ => n - (intOf i).toNat)
  case atStart => exact ⟨0, Nat.zero_le _, rfl, rfl⟩
  case round =>
    obtain ⟨k, hk, rfl, rfl⟩ := hrel
    clear heq
    by_cases hlt : k < n
    · have i0 : (0 : Int) ≤ (k : Int) := by omega
      have i1 : (k : Int) < (n : Int) := by omega
      obtain ⟨u1, u2, u3, u4⟩ := HU.out k hlt
      have c1 := HC.out k (by rw [HN.out]; exact hlt)
      have c2 := HC.out (k - 1) (by rw [HN.out]; omega)
      obtain ⟨z, hz⟩ : ∃ z, zs[k]?.getD 0 = z := ⟨_, rfl⟩
      obtain ⟨p, hp⟩ : ∃ p, zs[k - 1]?.getD 0 = p := ⟨_, rfl⟩
      rw [hz] at c1 u1 u2 u3 u4
      rw [hp] at c2 u3
      clear hz hp
      cases k with
      | zero =>
        have c4 : w.cell? ⟨b, off, none⟩ = some (I z) := c1
        clear u3 c2 c1
        by_cases hz0 : z = 0
        · have hl0 : ¬ lo < 0 := fun h => u4 h hz0
          subst hz0
          clear u4
          go_wp2_with (go_at_call 99; refine (ruWithin_yes _ _ _ _ u1 u2).mono ?_; rintro e w1 ⟨rfl, rfl⟩)
          go_roundw
          case rel => exact ⟨1, by omega, by go_num, by first | trivial | rfl⟩
          case measure => simp [intOf]; omega
        · have hz1 : (z == 0) = false := by simp [hz0]
          clear hz0 u4
          go_wp2_with (go_at_call 99; refine (ruWithin_yes _ _ _ _ u1 u2).mono ?_; rintro e w1 ⟨rfl, rfl⟩)
          go_roundw
          case rel => exact ⟨1, by omega, by go_num, by first | trivial | rfl⟩
          case measure => simp [intOf]; omega
      | succ k =>
        have u5 := u3 (Nat.succ_pos _)
        have hwr : IntKind.i64.wrap (((k + 1 : Nat) : Int) - 1) = (k : Int) := by rw [IntKind.wrap_i64]; omega
        have c3 : w.cell? ⟨b, off + k, none⟩ = some (I p) := c2
        have i2 : (0 : Int) ≤ (k : Int) := by omega
        have i3 : (k : Int) < (n : Int) := by omega
        clear u3 c2
        by_cases hz0 : z = 0
        · have hl0 : ¬ lo < 0 := fun h => u4 h hz0
          subst hz0
          clear u4
          go_wp2_with (go_at_call 99; refine (ruWithin_yes _ _ _ _ u1 u2).mono ?_; rintro e w1 ⟨rfl, rfl⟩)
          go_roundw
          case rel => exact ⟨k + 2, by omega, by go_num, by first | trivial | rfl⟩
          case measure => simp [intOf]; omega
        · have hz1 : (z == 0) = false := by simp [hz0]
          clear hz0 u4
          go_wp2_with (go_at_call 99; refine (ruWithin_yes _ _ _ _ u1 u2).mono ?_; rintro e w1 ⟨rfl, rfl⟩)
          go_roundw
          case rel => exact ⟨k + 2, by omega, by go_num, by first | trivial | rfl⟩
          case measure => simp [intOf]; omega
    · go_wp2
      go_ret
      exact ⟨rfl, HB.out⟩
end Go.Proofs.YtdakcbddlempfaaGreat

/- rule.shapes, rule.nameOK at made names, slices.ContainsFunc over numbers (where the answer is no). -/
namespace Go.Proofs.YtdakcbddlempfaaGreat
open Go Go.RowKit

def shT : List (Int × Bool × Int × Int) := [(0, false, 0, 0), (0, false, 0, 0), (0, true, 0, 0), (0, true, 1, 16), (0, true, -40, 40), (0, false, 0, 6), (0, true, 1, 54), (0, true, 0, 0), (2, false, 0, 0), (2, false, 0, 0), (2, false, 0, 0), (1, false, 0, 0), (1, false, 0, 0), (1, false, 0, 0), (1, false, 0, 1099511627776), (1, false, 0, 1099511627776), (1, true, -400, 400), (2, false, 0, 0), (0, false, 0, 0)]
def shC : Array Value := (shT.flatMap fun x => [I x.1, .bool x.2.1, I x.2.2.1, I x.2.2.2]).toArray
def zShC : Array Value := ((List.replicate 19 ()).flatMap fun _ => [I 0, .bool false, I 0, I 0]).toArray
def opn (k : Nat) : Int := (shT[k]?.getD (0, false, 0, 0)).1
def calB (k : Nat) : Bool := (shT[k]?.getD (0, false, 0, 0)).2.1
def shLo (k : Nat) : Int := (shT[k]?.getD (0, false, 0, 0)).2.2.1
def shHi (k : Nat) : Int := (shT[k]?.getD (0, false, 0, 0)).2.2.2
theorem sh_info : (Tryz.prog.info? 146).map (fun i => (i.zero, i.size)) = some (some (.agg zShC), zShC.size) := by kernel_rfl
theorem sh_size : (Tryz.prog.info? 146).map (·.size) = some shC.size := by kernel_rfl
theorem sh_info' : (Tryz.prog.info? 146).map (fun i => (i.zero, i.size)) = some (some (.agg zShC), shC.size) := by kernel_rfl
theorem sh_one : shC.all (·.oneCell') = true := by kernel_rfl
theorem shC_at : ∀ k : Nat, k < 19 → shC[k * 4]? = some (I (opn k)) ∧ shC[k * 4 + 1]? = some (.bool (calB k)) ∧ shC[k * 4 + 2]? = some (I (shLo k)) ∧ shC[k * 4 + 3]? = some (I (shHi k)) := by
  intro k hk
  have h : k = 0 ∨ k = 1 ∨ k = 2 ∨ k = 3 ∨ k = 4 ∨ k = 5 ∨ k = 6 ∨ k = 7 ∨ k = 8 ∨ k = 9 ∨ k = 10 ∨ k = 11 ∨ k = 12 ∨ k = 13 ∨ k = 14 ∨ k = 15 ∨ k = 16 ∨ k = 17 ∨ k = 18 := by omega
  rcases h with rfl | rfl | rfl | rfl | rfl | rfl | rfl | rfl | rfl | rfl | rfl | rfl | rfl | rfl | rfl | rfl | rfl | rfl | rfl <;> exact ⟨by kernel_rfl, by kernel_rfl, by kernel_rfl, by kernel_rfl⟩
set_option maxRecDepth 10000 in
set_option maxHeartbeats 4000000 in
theorem shapes_any (w : World) : Calls Tryz.prog 86 #[] w (Gives (.agg shC) w) := by
  have HB := Lib.hid (below_var w (.cells zShC 146))
  have HRES := Lib.hid (heap_alloc_last w (.cells zShC 146))
  go_enter Tryz.func86, Tryz.ntmps86
  go_wp2_with (first
    | (with_reducible refine g_alloc 146 ?_; refine wpList_alloc_as rfl _ rfl zShC sh_info ?_)
    | (with_reducible refine at_build 146 ?_; refine wpList_build_as rfl _ rfl shC (by kernel_rfl) ?_)
    | (with_reducible refine g_store 146 ?_; refine wpList_store_row rfl _ _ _ rfl w.heap.size shC rfl rfl 146 zShC HRES.out sh_size rfl sh_one ?_))
  exact bodyPost_ret (v := .agg shC) (results_cell_row rfl _ _ w.heap.size _ shC (0, 0) _ rfl (setRow_heap _ _ _ _ _ _ HRES.out) Tryz.underlying146 rfl sh_size) rfl ⟨rfl, below_setRow HB.out (Nat.le_refl _) _⟩
theorem below_iter (w : World) (s : ByteArray) (pos : Nat) : Below w.heap.size w (w.iter s pos) := below_var w (.stringIter s pos)
set_option maxRecDepth 10000 in
set_option maxHeartbeats 4000000 in
theorem nameOK_two (b : UInt8) (hb : b = 48 ∨ b = 49) (w : World) : Calls Tryz.prog 100 #[.string ⟨#[110, b]⟩] w (Gives (.bool true) w) := by
  have n0 : ∀ ty, (Instr.next (.pointer (some ⟨w.heap.size, 0, none⟩)) true ty).run Tryz.prog (w.iter ⟨#[110, b]⟩ 0) = .ok (.tuple #[.bool true, .int .i64 0, .int .i32 110]) (w.iter ⟨#[110, b]⟩ 1) := fun ty => run_next_ascii w ⟨#[110, b]⟩ 0 ty (by show 0 < 2; omega) (by show (110 : UInt8).toNat < 128; decide)
  have n1 : ∀ ty, (Instr.next (.pointer (some ⟨w.heap.size, 0, none⟩)) true ty).run Tryz.prog (w.iter ⟨#[110, b]⟩ 1) = .ok (.tuple #[.bool true, .int .i64 1, .int .i32 b.toNat]) (w.iter ⟨#[110, b]⟩ 2) := fun ty => run_next_ascii w ⟨#[110, b]⟩ 1 ty (by show 1 < 2; omega) (by show b.toNat < 128; rcases hb with rfl | rfl <;> decide)
  have n2 : ∀ ty, (Instr.next (.pointer (some ⟨w.heap.size, 0, none⟩)) true ty).run Tryz.prog (w.iter ⟨#[110, b]⟩ 2) = .ok (.tuple #[.bool false]) (w.iter ⟨#[110, b]⟩ 2) := fun ty => run_next_end w ⟨#[110, b]⟩ 2 ty (by show ¬ 2 < 2; omega)
  have hb1 : (48 : Int) ≤ b.toNat ∧ (b.toNat : Int) ≤ 57 := by rcases hb with rfl | rfl <;> decide
  obtain ⟨c, hc⟩ : ∃ c : Nat, b.toNat = c := ⟨_, rfl⟩
  rw [hc] at n1 hb1
  have HB := Lib.hid (below_iter w ⟨#[110, b]⟩ 2)
  have hsz : (⟨#[110, b]⟩ : ByteArray).size = 2 := rfl
  have hne : (⟨#[110, b]⟩ : ByteArray).toList.isEmpty = false := by rcases hb with rfl | rfl <;> kernel_rfl
  have hne2 : ¬ (⟨#[110, b]⟩ : ByteArray).toList = [] := fun h => by rw [h] at hne; cases hne
  obtain ⟨s, hs⟩ : ∃ s : ByteArray, (⟨#[110, b]⟩ : ByteArray) = s := ⟨_, rfl⟩
  rw [hs] at n0 n1 n2 HB hsz hne hne2 ⊢
  have hit : ∀ p, (w.iter s p).iterPos w.heap.size = p := fun p => by simp [World.iterPos, World.iter_heap]
  obtain ⟨h1, h2⟩ := hb1
  clear hb hc hs
  go_enter Tryz.func100, Tryz.ntmps100
  go_wp2
  go_loopw [3] (fun _ wr => ∃ p : Nat, p ≤ 2 ∧ wr = w.iter s p) (fun _ wr => 2 - wr.iterPos w.heap.size)
  case atStart => exact ⟨0, by omega, rfl⟩
  case round =>
    obtain ⟨p, hp, rfl⟩ := hrel
    have h : p = 0 ∨ p = 1 ∨ p = 2 := by omega
    clear hp
    rcases h with rfl | rfl | rfl
    · clear n1 n2
      go_wp2
      go_roundw
      case rel => exact ⟨1, by omega, rfl⟩
      case measure => rw [hit, hit]; omega
    · clear n0 n2
      go_wp2
      all_goals
        go_roundw
        case rel => exact ⟨2, by omega, rfl⟩
        case measure => rw [hit, hit]; omega
    · clear n0 n1
      go_wp2
      go_ret
      exact ⟨rfl, HB.out⟩
theorem nameOK_made (k : Int) (hk : k = 0 ∨ k = 1) (w : World) : Calls Tryz.prog 100 #[.string (⟨#[110]⟩ ++ digit k)] w (Gives (.bool true) w) := by
  rcases hk with rfl | rfl
  · exact nameOK_two 48 (.inl rfl) w
  · exact nameOK_two 49 (.inr rfl) w
end Go.Proofs.YtdakcbddlempfaaGreat

/- slices.ContainsFunc over numbers and over nodes, where no element meets the test. -/
namespace Go.Proofs.YtdakcbddlempfaaGreat
open Go Go.RowKit

set_option maxRecDepth 10000 in
theorem isOne (w : World) : Calls Tryz.prog 104 #[I 1] w fun e w' => e = .returned (.bool false) ∧ w' = w := by
  go_enter Tryz.func104, Tryz.ntmps104
  go_wp2
  go_ret
  exact ⟨rfl, rfl⟩
/-- A list of ones. -/
def Ones (w : World) (A : Option Addr) (n : Nat) : Prop := n = 0 ∨ ∃ b, A = some ⟨b, 0, none⟩ ∧ ∀ j, j < n → w.cell? ⟨b, j, none⟩ = some (I 1)
set_option maxRecDepth 10000 in
set_option maxHeartbeats 2000000 in
theorem idxOnes (A : Option Addr) (n c : Nat) (w : World) (h : Ones w A n) (hn : n ≤ 1000000) :
    Calls Tryz.prog 110 #[.slice A n c, .func (.func 104) #[] #[]] w fun e w' => e = .returned (I (-1)) ∧ w' = w := by
  have H := Lib.hid h
  clear h
  go_enter Tryz.func110, Tryz.ntmps110
  go_wp2_with fail
  go_loopw [8] (fun i wr => ∃ k : Nat, k ≤ n ∧ i = I k ∧ wr = w) (fun i _ => n - (intOf i).toNat)
  case atStart => exact ⟨0, Nat.zero_le _, rfl, rfl⟩
  case round =>
    obtain ⟨k, hk, rfl, rfl⟩ := hrel
    by_cases hlt : k < n
    · have i0 : (0 : Int) ≤ (k : Int) := by omega
      have i1 : (k : Int) < (n : Int) := by omega
      obtain ⟨b, rfl, hc⟩ : ∃ b, A = some ⟨b, 0, none⟩ ∧ ∀ j, j < n → wr.cell? ⟨b, j, none⟩ = some (I 1) := by
        rcases H.out with h | h
        · omega
        · exact h
      have c1 := hc k hlt
      clear hc
      go_wp2_with fail
      refine (isOne _).mono ?_
      rintro x w5 ⟨rfl, rfl⟩
      go_wp2_with fail
      go_roundw
      case rel => exact ⟨k + 1, by omega, by go_num, by first | trivial | rfl⟩
      case measure => simp [intOf]; omega
    · go_wp2_with fail
      go_ret
      exact ⟨rfl, rfl⟩
set_option maxRecDepth 10000 in
theorem hasOnes (A : Option Addr) (n c : Nat) (w : World) (h : Ones w A n) (hn : n ≤ 1000000) :
    Calls Tryz.prog 103 #[.slice A n c, .func (.func 104) #[] #[]] w fun e w' => e = .returned (.bool false) ∧ w' = w := by
  have H := Lib.hid (idxOnes A n c w h hn)
  clear h
  go_enter Tryz.func103, Tryz.ntmps103
  go_wp2_with fail
  refine H.out.mono ?_
  rintro x w5 ⟨rfl, rfl⟩
  go_wp2_with fail
  go_ret
  exact ⟨rfl, rfl⟩
section
attribute [local go_sem] ndCells
set_option maxRecDepth 10000 in
theorem notBig (d : Nd) (A : Option Addr) (c : Nat) (w : World) (h1 : d.list.length ≤ 64) (h2 : d.name.size ≤ 32) : Calls Tryz.prog 82 #[.agg (ndCells d A c)] w (Gives (.bool false) w) := by
  have HB := Lib.hid (below_var w (.cells (ndCells d A c) 87))
  have h3 : ¬ (64 : Int) < d.list.length := by omega
  have h4 : ¬ (32 : Int) < d.name.size := by omega
  go_enter Tryz.func82, Tryz.ntmps82
  go_wp2
  go_ret
  exact ⟨rfl, HB.out⟩
end
/-- The k-th node, as it lies. -/
structure OneNd (wr : World) (b k : Nat) (x : NdV) : Prop where
  ra : wr.rangeAt b (k * 8) (ndCells x.d x.A x.c).toList
  ia : IntsAt wr wr.heap.size x.A x.d.list
  la : b < wr.heap.size
theorem one_nd {w wr : World} {A : Option Addr} {ns : List NdV} {n k : Nat} (hA : RulesAt w w.heap.size A ns) (hl : ns.length = n) (hb : Below w.heap.size w wr) (hk : k < n) :
    ∃ b x, A = some ⟨b, 0, none⟩ ∧ ns[k]? = some x ∧ x ∈ ns ∧ OneNd wr b k x := by
  rcases (hA.keep hb) with h | ⟨b1, h1, h2, h3⟩
  · omega
  have hx : ns[k]? = some ns[k] := List.getElem?_eq_getElem (by omega)
  obtain ⟨p1, p2, _⟩ := h3 k _ hx
  exact ⟨b1, ns[k], h1, hx, List.getElem_mem (by omega), ⟨p1, p2.more hb.size, Nat.lt_of_lt_of_le h2 hb.size⟩⟩
theorem OneNd.cells {wr : World} {b k : Nat} {x : NdV} (h : OneNd wr b k x) : wr.cell? ⟨b, k * 8, none⟩ = some (I x.d.kind) ∧ wr.cell? ⟨b, k * 8 + 1, none⟩ = some (I x.d.cal) ∧ wr.cell? ⟨b, k * 8 + 2, none⟩ = some (I x.d.l) ∧ wr.cell? ⟨b, k * 8 + 3, none⟩ = some (I x.d.r) ∧ wr.cell? ⟨b, k * 8 + 4, none⟩ = some (I x.d.n) ∧ wr.cell? ⟨b, k * 8 + 5, none⟩ = some (I x.d.m) ∧ wr.cell? ⟨b, k * 8 + 6, none⟩ = some (.slice x.A x.d.list.length x.c) ∧ wr.cell? ⟨b, k * 8 + 7, none⟩ = some (.string x.d.name) :=
  ⟨h.ra 0 _ rfl, h.ra 1 _ rfl, h.ra 2 _ rfl, h.ra 3 _ rfl, h.ra 4 _ rfl, h.ra 5 _ rfl, h.ra 6 _ rfl, h.ra 7 _ rfl⟩
set_option maxRecDepth 10000 in
set_option maxHeartbeats 2000000 in
theorem idxBig (A : Option Addr) (n c : Nat) (ns : List NdV) (w : World) (hA : RulesAt w w.heap.size A ns) (hl : ns.length = n) (hn : n ≤ 1000000) (hs : ∀ x ∈ ns, x.d.list.length ≤ 64 ∧ x.d.name.size ≤ 32) :
    Calls Tryz.prog 98 #[.slice A n c, .func (.func 82) #[] #[]] w (Gives (I (-1)) w) := by
  have HA := Lib.hid hA
  have HL := Lib.hid hl
  have HS := Lib.hid hs
  clear hA hl hs
  go_enter Tryz.func98, Tryz.ntmps98
  go_wp2_with fail
  go_loopw [8] (fun i wr => ∃ k : Nat, k ≤ n ∧ i = I k ∧ Below w.heap.size w wr) (fun i _ => n - (intOf i).toNat)
  case atStart => exact ⟨0, Nat.zero_le _, rfl, Below.refl _ _⟩
  case round =>
    obtain ⟨k, hk, rfl, hbe⟩ := hrel
    have HBE := Lib.hid hbe
    clear hbe
    by_cases hlt : k < n
    · have i0 : (0 : Int) ≤ (k : Int) := by omega
      have i1 : (k : Int) < (n : Int) := by omega
      obtain ⟨b, x, rfl, hx, hm, ho⟩ := one_nd HA.out HL.out HBE.out hlt
      have HX := Lib.hid (HS.out x hm)
      obtain ⟨f0, f1, f2, f3, f4, f5, f6, f7⟩ := ho.cells
      clear ho hx hm
      go_wp2_with fail
      refine (notBig x.d x.A x.c _ HX.out.1 HX.out.2).mono ?_
      rintro v w5 ⟨rfl, hb5⟩
      have HB5 := Lib.hid hb5
      clear hb5
      go_wp2_with fail
      go_roundw
      case rel => exact ⟨k + 1, by omega, by go_num, below_trans HBE.out HB5.out⟩
      case measure => simp [intOf]; omega
    · go_wp2_with fail
      go_ret
      exact ⟨rfl, HBE.out⟩
set_option maxRecDepth 10000 in
theorem hasBig (A : Option Addr) (n c : Nat) (ns : List NdV) (w : World) (hA : RulesAt w w.heap.size A ns) (hl : ns.length = n) (hn : n ≤ 1000000) (hs : ∀ x ∈ ns, x.d.list.length ≤ 64 ∧ x.d.name.size ≤ 32) :
    Calls Tryz.prog 83 #[.slice A n c, .func (.func 82) #[] #[]] w (Gives (.bool false) w) := by
  have H := Lib.hid (idxBig A n c ns w hA hl hn hs)
  clear hA hl hs
  go_enter Tryz.func83, Tryz.ntmps83
  go_wp2_with fail
  refine H.out.mono ?_
  rintro x w5 ⟨rfl, hb5⟩
  have HB5 := Lib.hid hb5
  clear hb5
  go_wp2_with fail
  go_ret
  exact ⟨rfl, HB5.out⟩
end Go.Proofs.YtdakcbddlempfaaGreat

/- rule.wellFormed, where the rule is well-formed. -/
namespace Go.Proofs.YtdakcbddlempfaaGreat
open Go Go.RowKit

/-- A node is as its kind requires, at place i. -/
structure NodeOK (i : Nat) (k : Nat) (d : Nd) : Prop where
  kind : d.kind = k
  k1 : 1 ≤ k
  k2 : k ≤ 18
  len : d.list.length ≤ 64
  opl : (0 < opn k ∧ 0 ≤ d.l ∧ d.l < i) ∨ (opn k = 0 ∧ (d.l = 0 ∨ k = 7))
  opr : (1 < opn k ∧ 0 ≤ d.r ∧ d.r < i) ∨ (opn k ≤ 1 ∧ d.r = 0)
  cal : (calB k = true ∧ 0 ≤ d.cal ∧ d.cal ≤ 2) ∨ (calB k = false ∧ d.cal = 0)
  name : (k = 18 ∧ ∃ j : Int, (j = 0 ∨ j = 1) ∧ d.name = ⟨#[110]⟩ ++ digit j) ∨ (k ≠ 18 ∧ d.name = ⟨#[]⟩)
  list : (shLo k = 0 ∧ shHi k = 0 ∧ d.list = []) ∨ ((shLo k ≠ 0 ∨ shHi k ≠ 0) ∧ UpIn (shLo k) (shHi k) d.list)
  nums : NumsOK d
def bump (us : List Int) (j : Nat) : List Int := us.set j (us[j]?.getD 0 + 1)
def use0 (d : Nd) (us : List Int) : List Int := if 0 < opn d.kind.toNat then bump us d.l.toNat else us
def use1 (d : Nd) (us : List Int) : List Int := if 1 < opn d.kind.toNat then bump us d.r.toNat else us
def usesTo (ds : List Nd) (n : Nat) : Nat → List Int
  | 0 => List.replicate n 0
  | i + 1 => match ds[i]? with
    | some d => use1 d (use0 d (usesTo ds n i))
    | none => usesTo ds n i
/-- The table and the counts, as they lie. -/
structure WfS (w : World) (n tb ub : Nat) (us : List Int) (W : World) : Prop where
  tab : Row W tb shC
  uses : W.heap[ub]? = some (.cells (us.map I).toArray 3 (0, 0))
  ne : tb ≠ ub
  tlo : w.heap.size ≤ tb
  ulo : w.heap.size ≤ ub
  lo : Below w.heap.size w W
  len : us.length = n
section
variable {w W W' : World} {n tb ub : Nat} {us : List Int}
theorem WfS.below (h : WfS w n tb ub us W) (hb : Below W.heap.size W W') : WfS w n tb ub us W' :=
  ⟨h.tab.keep hb, (hb.block _ (Array.getElem?_eq_some_iff.1 h.uses).1).trans h.uses, h.ne, h.tlo, h.ulo, below_trans h.lo hb, h.len⟩
theorem WfS.cell (h : WfS w n tb ub us W) (j : Nat) (hj : j < n) : W.cell? ⟨ub, j, none⟩ = some (I (us[j]?.getD 0)) := by
  rw [cell_of_row W ub j _ _ _ h.uses]
  have : j < us.length := by rw [h.len]; exact hj
  simp [this]
theorem WfS.froz (h : WfS w n tb ub us W) (j : Nat) : W.frozen? ⟨ub, j, none⟩ = false := frozen_of_row W ub j _ _ h.uses
theorem WfS.put (h : WfS w n tb ub us W) (j : Nat) (v : Int) : WfS w n tb ub (us.set j v) (W.setCell ⟨ub, j, none⟩ (I v)) := by
  refine ⟨⟨by simpa [World.setCell] using h.tab.1, fun i => ?_⟩, ?_, h.ne, h.tlo, h.ulo, h.lo.setCell (p := ⟨ub, j, none⟩) h.ulo _, by rw [List.length_set]; exact h.len⟩
  · rw [World.cell?_of_block (heap_setCell_other W _ _ (I v) h.ne)]
    exact h.tab.2 i
  · rw [heap_setCell_same W ub j _ _ (I v) h.uses]
    congr 2
    apply Array.ext'
    simp [List.map_set]
theorem WfS.small (h : WfS w n tb ub us W) : ub < W.heap.size ∧ tb < W.heap.size := ⟨(Array.getElem?_eq_some_iff.1 h.uses).1, h.tab.1⟩
end
theorem make_ints (n : Nat) (hn : n ≤ 1000000) (W : World) : (Instr.makeSlice 22 (.int .i64 (n : Int)) (.int .i64 (n : Int))).run Tryz.prog W = .ok (.slice (some ⟨W.heap.size, 0, none⟩) n n) (W.alloc (.cells (Array.replicate n (I 0)) 3)) := by
  have h0 : (Tryz.prog.info? 3).map (fun i => (i.zero, i.size, i.bytes)) = some (some (I 0), 1, 8) := by kernel_rfl
  obtain ⟨i, hi, he⟩ := Option.map_eq_some_iff.1 h0
  simp only [Prod.mk.injEq] at he
  obtain ⟨hz, hs, hb⟩ := he
  have h := run_make (P := Tryz.prog) W 22 3 i (I 0) Tryz.underlying22 hi hz .i64 .i64 n n (by omega) (by omega) (by rw [hb]; omega) (by omega)
  rw [h, hs]
  have e : madeCells (I 0).cells (((n : Int).toNat) * 1) = Array.replicate n (I 0) := by
    apply Array.ext'
    simp [madeCells, Value.cells, Nat.mod_one]
    apply List.ext_getElem
    · simp
    · intro j h1 h2; simp
  rw [e]
  simp
theorem usesTo_len (ds : List Nd) (n i : Nat) : (usesTo ds n i).length = n := by
  induction i with
  | zero => simp [usesTo]
  | succ i ih =>
    unfold usesTo
    split
    · unfold use1 use0 bump
      split <;> split <;> simp [ih]
    · exact ih
theorem bump_le {us : List Int} {B : Int} (h : ∀ j : Nat, 0 ≤ us[j]?.getD 0 ∧ us[j]?.getD 0 ≤ B) (i : Nat) : ∀ j : Nat, 0 ≤ (bump us i)[j]?.getD 0 ∧ (bump us i)[j]?.getD 0 ≤ B + 1 := by
  intro j
  unfold bump
  have hj := h j
  have hi := h i
  rw [List.getElem?_set]
  split
  · split <;> simp <;> omega
  · omega
theorem use0_le {us : List Int} {B : Int} (d : Nd) (h : ∀ j : Nat, 0 ≤ us[j]?.getD 0 ∧ us[j]?.getD 0 ≤ B) : ∀ j : Nat, 0 ≤ (use0 d us)[j]?.getD 0 ∧ (use0 d us)[j]?.getD 0 ≤ B + 1 := by
  unfold use0
  split
  · exact bump_le h _
  · intro j; have := h j; omega
theorem use1_le {us : List Int} {B : Int} (d : Nd) (h : ∀ j : Nat, 0 ≤ us[j]?.getD 0 ∧ us[j]?.getD 0 ≤ B) : ∀ j : Nat, 0 ≤ (use1 d us)[j]?.getD 0 ∧ (use1 d us)[j]?.getD 0 ≤ B + 1 := by
  unfold use1
  split
  · exact bump_le h _
  · intro j; have := h j; omega
theorem usesTo_le (ds : List Nd) (n i : Nat) : ∀ j : Nat, 0 ≤ (usesTo ds n i)[j]?.getD 0 ∧ (usesTo ds n i)[j]?.getD 0 ≤ 2 * (i : Int) := by
  induction i with
  | zero =>
    intro j
    simp only [usesTo, List.getElem?_replicate]
    split <;> simp
  | succ i ih =>
    intro j
    unfold usesTo
    split
    · rename_i d _
      have := use1_le d (use0_le d ih) j; omega
    · have := ih j; omega
theorem natOf {x : Int} (h0 : 0 ≤ x) : ∃ n : Nat, x = n := ⟨x.toNat, by omega⟩
theorem rule_ints {w : World} {A : Option Addr} {ns : List NdV} {k : Nat} {x : NdV} (h : RulesAt w w.heap.size A ns) (hx : ns[k]? = some x) : IntsAt w w.heap.size x.A x.d.list := by
  rcases h with h | ⟨b, _, _, h3⟩
  · rw [List.eq_nil_of_length_eq_zero h] at hx; cases hx
  · exact (h3 k x hx).2.1
theorem usesTo_succ {ds : List Nd} {n i : Nat} {d : Nd} (h : ds[i]? = some d) : usesTo ds n (i + 1) = use1 d (use0 d (usesTo ds n i)) := by
  show (match ds[i]? with | some d => use1 d (use0 d (usesTo ds n i)) | none => usesTo ds n i) = _
  rw [h]
theorem WfS.start {w w1 : World} (n : Nat) (hb : Below w.heap.size w w1) : WfS w n w1.heap.size (w1.heap.size + 1) (List.replicate n 0) ((w1.alloc (.cells shC 146)).alloc (.cells (Array.replicate n (I 0)) 3)) := by
  have h1 := below_var w1 (.cells shC 146)
  have h2 := below_var (w1.alloc (.cells shC 146)) (.cells (Array.replicate n (I 0)) 3)
  have e : ((List.replicate n (0 : Int)).map I).toArray = Array.replicate n (I 0) := by simp
  refine ⟨(Row.new w1 shC _).keep h2, ?_, by omega, hb.size, by have := hb.size; omega, below_trans (below_trans hb h1) h2, by simp⟩
  rw [e]
  exact heap_alloc2_new w1 _ _
def usAt (d : Nd) (us : List Int) : Nat → List Int
  | 0 => us
  | 1 => use0 d us
  | _ => use1 d (use0 d us)
/-- Inside the round: the node, its shape and its operands, as they lie. -/
structure WI (w : World) (n tb ub : Nat) (us : List Int) (nb : Nat) (nc : Array Value) (sb : Nat) (sc : Array Value) (ob : Nat) (oc : Array Value) (W : World) : Prop where
  wf : WfS w n tb ub us W
  nd : Row W nb nc
  sh : Row W sb sc
  op : Row W ob oc
  n1 : nb ≠ ub
  n2 : sb ≠ ub
  n3 : ob ≠ ub
section
variable {w W W' : World} {n tb ub nb sb ob : Nat} {us : List Int} {nc sc oc : Array Value}
theorem WI.below (h : WI w n tb ub us nb nc sb sc ob oc W) (hb : Below W.heap.size W W') : WI w n tb ub us nb nc sb sc ob oc W' := ⟨h.wf.below hb, h.nd.keep hb, h.sh.keep hb, h.op.keep hb, h.n1, h.n2, h.n3⟩
theorem Row.far {cs : Array Value} {b g : Nat} (h : Row W b cs) (hn : b ≠ g) (o : Nat) (v : Value) : Row (W.setCell ⟨g, o, none⟩ v) b cs :=
  ⟨by simpa [World.setCell] using h.1, fun i => by rw [World.cell?_of_block (heap_setCell_other W _ _ v hn)]; exact h.2 i⟩
theorem WI.put (h : WI w n tb ub us nb nc sb sc ob oc W) (j : Nat) (v : Int) : WI w n tb ub (us.set j v) nb nc sb sc ob oc (W.setCell ⟨ub, j, none⟩ (I v)) := ⟨h.wf.put j v, h.nd.far h.n1 _ _, h.sh.far h.n2 _ _, h.op.far h.n3 _ _, h.n1, h.n2, h.n3⟩
end
set_option maxRecDepth 10000 in
set_option maxHeartbeats 2000000 in
theorem wellFormed_yes (A : Option Addr) (n c : Nat) (ns : List NdV) (w : World) (hA : RulesAt w w.heap.size A ns) (hl : ns.length = n) (h1 : 1 ≤ n) (h64 : n ≤ 64)
    (hok : ∀ i x, ns[i]? = some x → NodeOK i x.d.kind.toNat x.d) (ds : List Nd) (hds : ns.map (·.d) = ds) (hu : ∀ j, j + 1 < n → (usesTo ds n n)[j]? = some 1) :
    Calls Tryz.prog 84 #[.slice A n c] w (Gives (.bool true) w) := by
  have HA := Lib.hid hA
  have HL := Lib.hid hl
  have HOK := Lib.hid hok
  have HU := Lib.hid hu
  have HDS := Lib.hid hds
  have hmk := make_ints n (by omega)
  clear hA hl hok hu hds
  go_enter Tryz.func84, Tryz.ntmps84
  go_wp2_with fail
  refine (shapes_any _).mono ?_
  rintro e w1 ⟨rfl, hb1⟩
  have HB1 := Lib.hid hb1
  clear hb1
  go_wp2_with (refine wpList_var_row rfl rfl _ _ _ rfl rfl rfl rfl _ shC sh_info' rfl rfl rfl sh_one ?_)
  have HW0 := Lib.hid (WfS.start n HB1.out)
  have htb : w.heap.size ≤ w1.heap.size := HB1.out.size
  obtain ⟨tb, htb'⟩ : ∃ tb, w1.heap.size = tb := ⟨_, rfl⟩
  rw [htb'] at HW0 htb ⊢
  clear HB1 hmk
  go_loopw [26] (fun i wr => ∃ k : Nat, k ≤ n ∧ i = I k ∧ WfS w n tb (tb + 1) (usesTo ds n k) wr) (fun i _ => n - (intOf i).toNat)
  case atStart => exact ⟨0, Nat.zero_le _, rfl, by rw [← htb']; exact htb' ▸ HW0.out⟩
  case round =>
    obtain ⟨k, hk, rfl, hS⟩ := hrel
    have HS := Lib.hid hS
    obtain ⟨ub, hub⟩ : ∃ ub, tb + 1 = ub := ⟨_, rfl⟩
    rw [hub] at HS ⊢
    clear hS HW0 htb'
    by_cases hlt : k < n
    · have i0 : (0 : Int) ≤ (k : Int) := by omega
      have i1 : (k : Int) < (n : Int) := by omega
      obtain ⟨b, ⟨⟨kind, cal, l, r, nn, m, list, name⟩, A', c'⟩, rfl, hx, hm, ho⟩ := one_nd HA.out HL.out HS.out.lo hlt
      have hN := HOK.out k _ hx
      have hdk : ds[k]? = some ⟨kind, cal, l, r, nn, m, list, name⟩ := by rw [← HDS.out, List.getElem?_map, hx]; rfl
      obtain ⟨us, hus⟩ : ∃ us, usesTo ds n k = us := ⟨_, rfl⟩
      have hnx := usesTo_succ (n := n) hdk
      rw [hus] at hnx
      have HLE := Lib.hid (fun j => by have := usesTo_le ds n k j; rw [hus] at this; exact this)
      rw [hus] at HS
      obtain ⟨f0, f1, f2, f3, f4, f5, f6, f7⟩ := ho.cells
      simp only at hN f0 f1 f2 f3 f4 f5 f6 f7
      obtain ⟨kd, hkd⟩ : ∃ kd, kind.toNat = kd := ⟨_, rfl⟩
      rw [hkd] at hN
      have hkk : kind = (kd : Int) := hN.kind
      subst hkk
      have HNX := Lib.hid hnx
      have HIA : Hid (IntsAt w w.heap.size A' list) := Lib.hid (rule_ints HA.out hx)
      have HN := Lib.hid hN
      have hbl := ho.la
      have hk1 := hN.k1
      have hk2 := hN.k2
      have hl64 : ¬ (64 : Int) < (list.length : Int) := by have := hN.len; simp only at this; omega
      obtain ⟨t0, t1, t2, t3⟩ := shC_at kd (by omega)
      rw [← HS.out.tab.2] at t0 t1 t2 t3
      obtain ⟨hs1, hs2⟩ := HS.out.small
      have hne1 : ¬ b = wr.heap.size := by omega
      have hne2 : ¬ tb = wr.heap.size := by omega
      have hne3 : ¬ tb = wr.heap.size + 1 := by omega
      clear ho hx hm hdk hus hnx hN hkd
      have HW1 : Hid (WI w n tb ub us wr.heap.size #[I kd, I cal, I l, I r, I nn, I m, .slice A' list.length c', .string name] (wr.heap.size + 1) #[I (opn kd), .bool (calB kd), I (shLo kd), I (shHi kd)] (wr.heap.size + 2) #[I l, I r] (((wr.alloc (.cells #[I kd, I cal, I l, I r, I nn, I m, .slice A' list.length c', .string name] 87)).alloc (.cells #[I (opn kd), .bool (calB kd), I (shLo kd), I (shHi kd)] 145)).alloc (.cells #[I l, I r] 3))) := Lib.hid (by
        have b1 := below_var wr (.cells #[I kd, I cal, I l, I r, I nn, I m, .slice A' list.length c', .string name] 87)
        have r1 := Row.new wr #[I kd, I cal, I l, I r, I nn, I m, .slice A' list.length c', .string name] 87
        have b2 := below_var (wr.alloc (.cells #[I kd, I cal, I l, I r, I nn, I m, .slice A' list.length c', .string name] 87)) (.cells #[I (opn kd), .bool (calB kd), I (shLo kd), I (shHi kd)] 145)
        have r2 := Row.new (wr.alloc (.cells #[I kd, I cal, I l, I r, I nn, I m, .slice A' list.length c', .string name] 87)) #[I (opn kd), .bool (calB kd), I (shLo kd), I (shHi kd)] 145
        have b3 := below_var ((wr.alloc (.cells #[I kd, I cal, I l, I r, I nn, I m, .slice A' list.length c', .string name] 87)).alloc (.cells #[I (opn kd), .bool (calB kd), I (shLo kd), I (shHi kd)] 145)) (.cells #[I l, I r] 3)
        have r3 := Row.new ((wr.alloc (.cells #[I kd, I cal, I l, I r, I nn, I m, .slice A' list.length c', .string name] 87)).alloc (.cells #[I (opn kd), .bool (calB kd), I (shLo kd), I (shHi kd)] 145)) #[I l, I r] 3
        simp only [World.size_alloc] at r2 r3
        exact ⟨((HS.out.below b1).below b2).below b3, (r1.keep b2).keep b3, r2.keep b3, r3, by omega, by omega, by omega⟩)
      go_wp2_with (go_at_call 99; refine (ruWithin_yes _ _ _ _ (by omega) (by omega)).mono ?_; rintro e w9 ⟨rfl, rfl⟩)
      have HLO : Hid (∀ W', Below w.heap.size w W' → Calls Tryz.prog 101 #[.slice A' list.length c', .agg #[I (shLo kd), I (shHi kd)]] W' (Gives (.bool true) W')) := Lib.hid (fun W' hb => by
        rcases HN.out.list with ⟨e1, e2, e3⟩ | ⟨e1, e2⟩
        · have e4 : list.length = 0 := by have e5 : list = [] := e3; rw [e5]; rfl
          rw [e1, e2, e4]
          exact listOK_none A' c' W'
        · exact listOK_yes A' c' list.length _ _ list W' ((HIA.out.keep hb).more hb.size) e2 e1 rfl (by have := HN.out.len; simp only at this; omega))
      have HNU : Hid (∀ W', Calls Tryz.prog 102 #[.agg #[I kd, I cal, I l, I r, I nn, I m, .slice A' list.length c', .string name]] W' (Gives (.bool true) W')) := Lib.hid (fun W' => numbersOK_yes ⟨kd, cal, l, r, nn, m, list, name⟩ A' c' W' HN.out.nums)
      have hop0 : 0 ≤ opn kd := by rcases HN.out.opl with h | h <;> omega
      obtain ⟨WX, hWX⟩ : ∃ WX, ((wr.alloc (.cells #[I kd, I cal, I l, I r, I nn, I m, .slice A' list.length c', .string name] 87)).alloc (.cells #[I (opn kd), .bool (calB kd), I (shLo kd), I (shHi kd)] 145)).alloc (.cells #[I l, I r] 3) = WX := ⟨_, rfl⟩
      rw [hWX] at HW1 ⊢
      obtain ⟨nb, hnb⟩ : ∃ nb, wr.heap.size = nb := ⟨_, rfl⟩
      have hnbu : ub < nb := by omega
      rw [hnb] at HW1 ⊢
      have HWR := Lib.hid hnb
      clear f0 f1 f2 f3 f4 f5 f6 f7 t0 t1 t2 t3 hne1 hne2 hne3 hs1 hs2 hbl hWX HS hub hnb hl64
      go_loopw [51] (fun i wr' => ∃ q : Nat, q ≤ 2 ∧ i = I q ∧ WI w n tb ub (usAt ⟨kd, cal, l, r, nn, m, list, name⟩ us q) nb #[I kd, I cal, I l, I r, I nn, I m, .slice A' list.length c', .string name] (nb + 1) #[I (opn kd), .bool (calB kd), I (shLo kd), I (shHi kd)] (nb + 2) #[I l, I r] wr') (fun i _ => 2 - (intOf i).toNat)
      case atStart => exact ⟨0, by omega, rfl, HW1.out⟩
      case round =>
        obtain ⟨q, hq, rfl, hI⟩ := hrel
        have HWI := Lib.hid hI
        clear hI HW1
        have hq3 : q = 0 ∨ q = 1 ∨ q = 2 := by omega
        clear hq
        rcases hq3 with rfl | rfl | rfl
        · have o1 : wr.cell? ⟨nb + 2, 0, none⟩ = some (I l) := HWI.out.op.2 0
          have s1 : wr.cell? ⟨nb + 1, 0, none⟩ = some (I (opn kd)) := HWI.out.sh.2 0
          have n1 : wr.cell? ⟨nb, 0, none⟩ = some (I kd) := HWI.out.nd.2 0
          have HWI : Hid (WI w n tb ub us nb #[I kd, I cal, I l, I r, I nn, I m, .slice A' list.length c', .string name] (nb + 1) #[I (opn kd), .bool (calB kd), I (shLo kd), I (shHi kd)] (nb + 2) #[I l, I r] wr) := HWI
          rcases HN.out.opl with ⟨ho0, ho1, ho2⟩ | ⟨ho0, ho1⟩
          · simp only at ho1 ho2
            obtain ⟨on, hon⟩ := natOf ho1
            have u1 := HWI.out.wf.cell on (by omega)
            have uf := HWI.out.wf.froz on
            obtain ⟨u, hu⟩ : ∃ u, us[on]?.getD 0 = u := ⟨_, rfl⟩
            have hub2 : 0 ≤ u ∧ u ≤ 200 := by have := HLE.out on; rw [← hu]; omega
            have u1' : wr.cell? ⟨ub, on, none⟩ = some (I u) := by rw [← hu]; exact u1
            have hwu : IntKind.i64.wrap (u + 1) = u + 1 := by rw [IntKind.wrap_i64]; omega
            have hwk : IntKind.i64.wrap ((k : Int) - 1) = (k : Int) - 1 := by rw [IntKind.wrap_i64]; omega
            have i2 : (0 : Int) ≤ (on : Int) := by omega
            have i3 : (on : Int) < (n : Int) := by omega
            have HW2 := Lib.hid (HWI.out.put on (u + 1))
            have HU2 : Hid (us.set on (u + 1) = use0 ⟨kd, cal, l, r, nn, m, list, name⟩ us) := Lib.hid (by
              have e : use0 ⟨kd, cal, l, r, nn, m, list, name⟩ us = bump us on := by
                show (if 0 < opn ((kd : Int).toNat) then bump us l.toNat else us) = _
                rw [if_pos (by simpa using ho0), hon]; simp
              rw [e]; unfold bump; rw [hu])
            rw [hon] at o1 ho1 ho2
            clear hu u1 hon
            go_wp2_with (go_at_call 99; refine (ruWithin_yes _ _ _ _ (by omega) (by first | omega | (rw [IntKind.wrap_i64]; omega))).mono ?_; rintro e w9 ⟨rfl, rfl⟩)
            go_roundw
            case rel => exact ⟨1, by omega, by go_num, by have := HW2.out; rw [HU2.out] at this; exact this⟩
            case measure => simp [intOf]
          · simp only at ho1
            have HU2 : Hid (us = use0 ⟨kd, cal, l, r, nn, m, list, name⟩ us) := Lib.hid (by
              show _ = (if 0 < opn ((kd : Int).toNat) then bump us l.toNat else us)
              rw [if_neg (by simp; omega)])
            rcases ho1 with ho1 | ho1
            · rw [ho1] at o1
              rw [ho0] at s1
              go_wp2_with fail
              go_roundw
              case rel => exact ⟨1, by omega, by go_num, by have := HWI.out; rw [HU2.out] at this; exact this⟩
              case measure => simp [intOf]
            · by_cases hl0 : l = 0
              · rw [hl0] at o1
                rw [ho0] at s1
                go_wp2_with fail
                go_roundw
                case rel => exact ⟨1, by omega, by go_num, by have := HWI.out; rw [HU2.out] at this; exact this⟩
                case measure => simp [intOf]
              · have hl1 : (l != 0) = true := by simp [hl0]
                rw [ho0] at s1
                rw [ho1] at n1
                go_wp2_with fail
                go_roundw
                case rel => exact ⟨1, by omega, by go_num, by have := HWI.out; rw [HU2.out] at this; exact this⟩
                case measure => simp [intOf]
        · have o1 : wr.cell? ⟨nb + 2, 1, none⟩ = some (I r) := HWI.out.op.2 1
          have s1 : wr.cell? ⟨nb + 1, 0, none⟩ = some (I (opn kd)) := HWI.out.sh.2 0
          have n1 : wr.cell? ⟨nb, 0, none⟩ = some (I kd) := HWI.out.nd.2 0
          have HWI : Hid (WI w n tb ub (use0 ⟨kd, cal, l, r, nn, m, list, name⟩ us) nb #[I kd, I cal, I l, I r, I nn, I m, .slice A' list.length c', .string name] (nb + 1) #[I (opn kd), .bool (calB kd), I (shLo kd), I (shHi kd)] (nb + 2) #[I l, I r] wr) := HWI
          rcases HN.out.opr with ⟨ho0, ho1, ho2⟩ | ⟨ho0, ho1⟩
          · simp only at ho1 ho2
            obtain ⟨on, hon⟩ := natOf ho1
            have u1 := HWI.out.wf.cell on (by omega)
            have uf := HWI.out.wf.froz on
            obtain ⟨u, hu⟩ : ∃ u, (use0 ⟨kd, cal, l, r, nn, m, list, name⟩ us)[on]?.getD 0 = u := ⟨_, rfl⟩
            have hub2 : 0 ≤ u ∧ u ≤ 200 := by have := use0_le ⟨kd, cal, l, r, nn, m, list, name⟩ HLE.out on; rw [← hu]; omega
            have u1' : wr.cell? ⟨ub, on, none⟩ = some (I u) := by rw [← hu]; exact u1
            have hwu : IntKind.i64.wrap (u + 1) = u + 1 := by rw [IntKind.wrap_i64]; omega
            have hwk : IntKind.i64.wrap ((k : Int) - 1) = (k : Int) - 1 := by rw [IntKind.wrap_i64]; omega
            have i2 : (0 : Int) ≤ (on : Int) := by omega
            have i3 : (on : Int) < (n : Int) := by omega
            have HW2 := Lib.hid (HWI.out.put on (u + 1))
            have HU2 : Hid ((use0 ⟨kd, cal, l, r, nn, m, list, name⟩ us).set on (u + 1) = use1 ⟨kd, cal, l, r, nn, m, list, name⟩ (use0 ⟨kd, cal, l, r, nn, m, list, name⟩ us)) := Lib.hid (by
              have e : use1 ⟨kd, cal, l, r, nn, m, list, name⟩ (use0 ⟨kd, cal, l, r, nn, m, list, name⟩ us) = bump (use0 ⟨kd, cal, l, r, nn, m, list, name⟩ us) on := by
                show (if 1 < opn ((kd : Int).toNat) then bump (use0 ⟨kd, cal, l, r, nn, m, list, name⟩ us) r.toNat else (use0 ⟨kd, cal, l, r, nn, m, list, name⟩ us)) = _
                rw [if_pos (by simpa using ho0), hon]; simp
              rw [e]; unfold bump; rw [hu])
            rw [hon] at o1 ho1 ho2
            clear hu u1 hon
            go_wp2_with (go_at_call 99; refine (ruWithin_yes _ _ _ _ (by omega) (by first | omega | (rw [IntKind.wrap_i64]; omega))).mono ?_; rintro e w9 ⟨rfl, rfl⟩)
            go_roundw
            case rel => exact ⟨2, by omega, by go_num, by have := HW2.out; rw [HU2.out] at this; exact this⟩
            case measure => simp [intOf]
          · simp only at ho1
            have HU2 : Hid ((use0 ⟨kd, cal, l, r, nn, m, list, name⟩ us) = use1 ⟨kd, cal, l, r, nn, m, list, name⟩ (use0 ⟨kd, cal, l, r, nn, m, list, name⟩ us)) := Lib.hid (by
              show _ = (if 1 < opn ((kd : Int).toNat) then bump (use0 ⟨kd, cal, l, r, nn, m, list, name⟩ us) r.toNat else (use0 ⟨kd, cal, l, r, nn, m, list, name⟩ us))
              rw [if_neg (by simp; omega)])
            rw [ho1] at o1
            have ho3 : ¬ (1 : Int) < opn kd := by omega
            go_wp2_with fail
            go_roundw
            case rel => exact ⟨2, by omega, by go_num, by have := HWI.out; rw [HU2.out] at this; exact this⟩
            case measure => simp [intOf]
        · have HWI : Hid (WI w n tb ub (use1 ⟨kd, cal, l, r, nn, m, list, name⟩ (use0 ⟨kd, cal, l, r, nn, m, list, name⟩ us)) nb #[I kd, I cal, I l, I r, I nn, I m, .slice A' list.length c', .string name] (nb + 1) #[I (opn kd), .bool (calB kd), I (shLo kd), I (shHi kd)] (nb + 2) #[I l, I r] wr) := HWI
          rw [← HNX.out] at HWI
          have g0 : wr.cell? ⟨nb, 0, none⟩ = some (I kd) := HWI.out.nd.2 0
          have g1 : wr.cell? ⟨nb, 1, none⟩ = some (I cal) := HWI.out.nd.2 1
          have g6 : wr.cell? ⟨nb, 6, none⟩ = some (.slice A' list.length c') := HWI.out.nd.2 6
          have g7 : wr.cell? ⟨nb, 7, none⟩ = some (.string name) := HWI.out.nd.2 7
          have s1 : wr.cell? ⟨nb + 1, 1, none⟩ = some (.bool (calB kd)) := HWI.out.sh.2 1
          have s2 : wr.cell? ⟨nb + 1, 2, none⟩ = some (I (shLo kd)) := HWI.out.sh.2 2
          have s3 : wr.cell? ⟨nb + 1, 3, none⟩ = some (I (shHi kd)) := HWI.out.sh.2 3
          have HQ : Hid (∀ n', WI w n tb ub (usesTo ds n (k + 1)) nb #[I kd, I cal, I l, I r, I nn, I m, .slice A' list.length c', .string name] (nb + 1) #[I (opn kd), .bool (calB kd), I (shLo kd), I (shHi kd)] (nb + 2) #[I l, I r] (wr.drewN n')) := Lib.hid (fun n' => HWI.out.below (below_drewN' _ _))
          rcases HN.out.name with ⟨hk18, jj, hj, hnm⟩ | ⟨hk18, hnm⟩
          · simp only at hnm
            have hcb : calB kd = false := by rw [hk18]; rfl
            have hc0 : cal = 0 := by
              rcases HN.out.cal with ⟨h, _⟩ | ⟨_, h⟩
              · rw [hcb] at h; cases h
              · exact h
            rw [hcb] at s1
            rw [hc0] at g1
            have HNM := Lib.hid (fun W' => (nameOK_made jj hj W').mono fun e w' h => (show Gives (.bool true) W' e w' from h))
            rw [← hnm] at HNM
            have g0' : wr.cell? ⟨nb, 0, none⟩ = some (I 18) := by rw [g0, hk18]; rfl
            clear hnm hj g0 hk18 hcb hc0
            go_wp2_with fail
            go_quiet (fail)
            go_wp2_with fail
            refine (HNM.out _).mono ?_
            rintro e w4 ⟨rfl, hb4⟩
            have H4 := Lib.hid ((HQ.out _).below hb4)
            have g6' : w4.cell? ⟨nb, 6, none⟩ = some (.slice A' list.length c') := H4.out.nd.2 6
            have s2' : w4.cell? ⟨nb + 1, 2, none⟩ = some (I (shLo kd)) := H4.out.sh.2 2
            have s3' : w4.cell? ⟨nb + 1, 3, none⟩ = some (I (shHi kd)) := H4.out.sh.2 3
            clear hb4
            go_wp2_with fail
            refine (HLO.out _ H4.out.wf.lo).mono ?_
            rintro e w5 ⟨rfl, hb5⟩
            have H5 := Lib.hid (H4.out.below hb5)
            have p0 : w5.cell? ⟨nb, 0, none⟩ = some (I kd) := H5.out.nd.2 0
            have p1 : w5.cell? ⟨nb, 1, none⟩ = some (I cal) := H5.out.nd.2 1
            have p2 : w5.cell? ⟨nb, 2, none⟩ = some (I l) := H5.out.nd.2 2
            have p3 : w5.cell? ⟨nb, 3, none⟩ = some (I r) := H5.out.nd.2 3
            have p4 : w5.cell? ⟨nb, 4, none⟩ = some (I nn) := H5.out.nd.2 4
            have p5 : w5.cell? ⟨nb, 5, none⟩ = some (I m) := H5.out.nd.2 5
            have p6 : w5.cell? ⟨nb, 6, none⟩ = some (.slice A' list.length c') := H5.out.nd.2 6
            have p7 : w5.cell? ⟨nb, 7, none⟩ = some (.string name) := H5.out.nd.2 7
            clear hb5
            go_wp2_with fail
            refine (HNU.out _).mono ?_
            rintro e w6 ⟨rfl, hb6⟩
            have H6 := Lib.hid (H5.out.below hb6)
            clear hb6
            go_wp2_with fail
            go_roundw
            case rel => exact ⟨k + 1, by omega, by go_num, H6.out.wf⟩
            case measure => simp [intOf]; omega
          · simp only at hnm
            have hk18' : ¬ (kd : Int) = 18 := by omega
            rw [hnm] at g7
            clear hnm hk18
            rcases HN.out.cal with ⟨hcb, hc1, hc2⟩ | ⟨hcb, hc0⟩
            · simp only at hc1 hc2
              rw [hcb] at s1
              clear hcb
              go_wp2_with fail
              go_quiet (fail)
              go_wp2_with (go_at_call 99; refine (ruWithin_yes _ _ _ _ (by omega) (by omega)).mono ?_; rintro e w9 ⟨rfl, rfl⟩)
              refine (HLO.out _ (HQ.out _).wf.lo).mono ?_
              rintro e w5 ⟨rfl, hb5⟩
              have H5 := Lib.hid ((HQ.out _).below hb5)
              have p0 : w5.cell? ⟨nb, 0, none⟩ = some (I kd) := H5.out.nd.2 0
              have p1 : w5.cell? ⟨nb, 1, none⟩ = some (I cal) := H5.out.nd.2 1
              have p2 : w5.cell? ⟨nb, 2, none⟩ = some (I l) := H5.out.nd.2 2
              have p3 : w5.cell? ⟨nb, 3, none⟩ = some (I r) := H5.out.nd.2 3
              have p4 : w5.cell? ⟨nb, 4, none⟩ = some (I nn) := H5.out.nd.2 4
              have p5 : w5.cell? ⟨nb, 5, none⟩ = some (I m) := H5.out.nd.2 5
              have p6 : w5.cell? ⟨nb, 6, none⟩ = some (.slice A' list.length c') := H5.out.nd.2 6
              have p7 : w5.cell? ⟨nb, 7, none⟩ = some (.string name) := H5.out.nd.2 7
              clear hb5
              go_wp2_with fail
              refine (HNU.out _).mono ?_
              rintro e w6 ⟨rfl, hb6⟩
              have H6 := Lib.hid (H5.out.below hb6)
              clear hb6
              go_wp2_with fail
              go_roundw
              case rel => exact ⟨k + 1, by omega, by go_num, H6.out.wf⟩
              case measure => simp [intOf]; omega
            · simp only at hc0
              rw [hcb] at s1
              rw [hc0] at g1
              clear hcb hc0
              go_wp2_with fail
              go_quiet (fail)
              go_wp2_with fail
              refine (HLO.out _ (HQ.out _).wf.lo).mono ?_
              rintro e w5 ⟨rfl, hb5⟩
              have H5 := Lib.hid ((HQ.out _).below hb5)
              have p0 : w5.cell? ⟨nb, 0, none⟩ = some (I kd) := H5.out.nd.2 0
              have p1 : w5.cell? ⟨nb, 1, none⟩ = some (I cal) := H5.out.nd.2 1
              have p2 : w5.cell? ⟨nb, 2, none⟩ = some (I l) := H5.out.nd.2 2
              have p3 : w5.cell? ⟨nb, 3, none⟩ = some (I r) := H5.out.nd.2 3
              have p4 : w5.cell? ⟨nb, 4, none⟩ = some (I nn) := H5.out.nd.2 4
              have p5 : w5.cell? ⟨nb, 5, none⟩ = some (I m) := H5.out.nd.2 5
              have p6 : w5.cell? ⟨nb, 6, none⟩ = some (.slice A' list.length c') := H5.out.nd.2 6
              have p7 : w5.cell? ⟨nb, 7, none⟩ = some (.string name) := H5.out.nd.2 7
              clear hb5
              go_wp2_with fail
              refine (HNU.out _).mono ?_
              rintro e w6 ⟨rfl, hb6⟩
              have H6 := Lib.hid (H5.out.below hb6)
              clear hb6
              go_wp2_with fail
              go_roundw
              case rel => exact ⟨k + 1, by omega, by go_num, H6.out.wf⟩
              case measure => simp [intOf]; omega
    · have hkn : k = n := by omega
      subst hkn
      have hwn : IntKind.i64.wrap ((k : Int) - 1) = ((k - 1 : Nat) : Int) := by rw [IntKind.wrap_i64]; omega
      have i2 : (0 : Int) ≤ ((k - 1 : Nat) : Int) := by omega
      have i3 : ((k - 1 : Nat) : Int) ≤ (k : Int) := by omega
      have HON : Hid (Ones wr (some ⟨ub, 0, none⟩) (k - 1)) := Lib.hid (.inr ⟨ub, rfl, fun j hj => by
        rw [HS.out.cell j (by omega), HU.out j (by omega)]; rfl⟩)
      go_wp2_with fail
      refine (hasOnes _ (k - 1) _ _ HON.out (by omega)).mono ?_
      rintro e w5 ⟨rfl, rfl⟩
      go_wp2_with fail
      go_ret
      exact ⟨rfl, HS.out.lo⟩
end Go.Proofs.YtdakcbddlempfaaGreat
