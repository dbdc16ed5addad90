/- kalendsref13.insert. -/
import Derived.Test.YtbdkalpljhpnmaaGreatKb
import Derived.BigQuiet
import Derived.Deep.AppendLies
import Derived.Deep.CutBlock
import Derived.Deep.DeepCutAuto
import Derived.Deep.DrawnRows
import Derived.Deep.MidRow
import Derived.Deep.QuietTactic
import Derived.Deep.RegionHeld3
import Derived.Deep.RegionLaw
import Derived.Deep.WholeRow
import Derived.Great.BuildSlice
import Derived.Handy
import Derived.Laws.BytesString
import Derived.Laws.CopyOwn
import Derived.Laws.EntriesVeiled
import Derived.Laws.MakeOwn
import Derived.Laws.ResultCell
import Derived.Laws.Rows
import Derived.Laws.Tables
import Derived.Lib.Hide
import Derived.LoopIn
import Derived.LoopNIn
import Derived.Maps.AppendAt
import Derived.Outline
import Derived.OwnWalkIn
import Derived.RangeFuncBound
import Derived.RangeFuncBox
import Derived.RangeFuncCalls
import Derived.RangeFuncLeaves
import Derived.RangeFuncNested
import Derived.Shelf.Abstract
import Derived.Shelf.Bytes.SlSmallAll
import Derived.Shelf.RegionOpen
import Derived.StillTailTactics
import Derived.Stop.BytesEq
import Derived.TacticsInMore
import Derived.WalkKit
import Derived.WalkLawsBesides
import Derived.WalkSpells
namespace Go.Proofs.YtbdkalpljhpnmaaGreat
open Go Go.RowKit

def posF (ts : List Tr) (t : Tr) : Nat → Nat
  | 0 => 0
  | k + 1 => if t.at_ < (ts[k]?.map (·.at_)).getD 0 then posF ts t k else k + 1
/-- The list with one more transition, in the order of instants. -/
def insF (ts : List Tr) (t : Tr) : List Tr := ts.take (posF ts t ts.length) ++ t :: ts.drop (posF ts t ts.length)
theorem posF_le (ts : List Tr) (t : Tr) (k : Nat) : posF ts t k ≤ k := by
  induction k with
  | zero => exact Nat.le_refl _
  | succ k ih => unfold posF; split <;> omega
theorem insF_len (ts : List Tr) (t : Tr) : (insF ts t).length = ts.length + 1 := by
  have := posF_le ts t ts.length
  simp [insF]
  omega
def insC (ts : List Tr) (t : Tr) (k : Nat) : List Value := (ts.take k ++ t :: ts.drop k).flatMap Tr.cells
theorem insC_end (ts : List Tr) (t : Tr) : insC ts t ts.length = ts.flatMap Tr.cells ++ [I t.at_, I t.off] := by
  simp [insC, List.take_length, List.drop_length, Tr.cells]
theorem swap4 (P R : List Value) (q : Nat) (a0 a1 t0 t1 : Value) (h : P.length = q * 2) :
    ((((P ++ a0 :: a1 :: t0 :: t1 :: R).set ((q + 1) * 2) a0).set ((q + 1) * 2 + 1) a1).set (q * 2) t0).set (q * 2 + 1) t1 = P ++ t0 :: t1 :: a0 :: a1 :: R := by
  rw [List.set_append_right _ _ (by omega), List.set_append_right _ _ (by omega), List.set_append_right _ _ (by omega), List.set_append_right _ _ (by omega)]
  rw [h, show (q + 1) * 2 - q * 2 = 2 by omega, show (q + 1) * 2 + 1 - q * 2 = 3 by omega, show q * 2 - q * 2 = 0 by omega, show q * 2 + 1 - q * 2 = 1 by omega]
  rfl
theorem take_at (ts : List Tr) (q : Nat) (hq : q < ts.length) : ∃ x, ts[q]? = some x ∧ ts.take (q + 1) = ts.take q ++ [x] ∧ ts.drop q = x :: ts.drop (q + 1) :=
  ⟨ts[q], List.getElem?_eq_getElem hq, by rw [List.take_succ_eq_append_getElem hq], by rw [List.drop_eq_getElem_cons hq]⟩
theorem insC_step (ts : List Tr) (t x : Tr) (q : Nat) (hq : q < ts.length) (hx : ts[q]? = some x) :
    insC ts t (q + 1) = (ts.take q).flatMap Tr.cells ++ I x.at_ :: I x.off :: I t.at_ :: I t.off :: (ts.drop (q + 1)).flatMap Tr.cells ∧
    insC ts t q = (ts.take q).flatMap Tr.cells ++ I t.at_ :: I t.off :: I x.at_ :: I x.off :: (ts.drop (q + 1)).flatMap Tr.cells ∧ ((ts.take q).flatMap Tr.cells).length = q * 2 := by
  obtain ⟨x', h1, h2, h3⟩ := take_at ts q hq
  rw [hx] at h1
  injection h1 with h1
  subst h1
  refine ⟨by simp [insC, h2, Tr.cells], by simp [insC, h3, Tr.cells], ?_⟩
  rw [flat_len (s := 2) Tr.cells _ (fun _ _ => rfl), List.length_take, Nat.min_eq_left (by omega)]
/-- A list of transitions that the call owns. -/
def TrsO (lo : Nat) (w : World) (A : Option Addr) (n c : Nat) (ts : List Tr) : Prop := w.ownsRow lo 78 2 (.slice A n c) n (ts.flatMap Tr.cells)
def InsP (lo n : Nat) (w : World) (ts : List Tr) (e : Ending) (w' : World) : Prop := ∃ A c, e = .returned (.slice A n c) ∧ TrsO lo w' A n c ts ∧ Below lo w w'
theorem below_by {lo : Nat} {w w' : World} {row : Option Nat} (h : w.grownBy w' row) (hr : ∀ g, row = some g → lo ≤ g) (hlo : lo ≤ w.heap.size) : Below lo w w' :=
  ⟨h.os, h.tape, h.output, h.size, fun k hk => h.block k (by omega) (fun e => by have := hr k e.symm; omega)⟩
theorem trs_base {lo : Nat} {w : World} {A : Option Addr} {n c : Nat} {ts : List Tr} (h : TrsO lo w A n c ts) : ∀ g, (Value.slice A n c).ownBlock = some g → lo ≤ g := fun g hg => (World.ownsRow.lt h g hg).1
structure InR (lo : Nat) (W : World) (g c n : Nat) (ts : List Tr) (t : Tr) (k : Nat) (wr : World) : Prop where
  own : wr.ownsRow lo 78 2 (.slice (some ⟨g, 0, none⟩) (n + 1) c) (n + 1) (insC ts t k)
  up : Below lo W wr
theorem two_new2 (w : World) (o : Obj) (a b : Value) (t : TypeId) : ∀ j u, [a, b][j]? = some u → ((w.alloc o).alloc (.cells #[a, b] t)).cell? ((⟨w.heap.size + 1, 0, none⟩ : Addr).add j) = some u := by
  have h := cell_two_new (w.alloc o) a b t
  simpa using h
def InRel (lo : Nat) (W : World) (g c n : Nat) (ts : List Tr) (t : Tr) (i : Value) (wr : World) : Prop := ∃ k : Nat, k ≤ n ∧ i = .int .i64 k ∧ posF ts t k = posF ts t n ∧ InR lo W g c n ts t k wr
theorem InR.swap {lo g c n q : Nat} {W W2 : World} {ts : List Tr} {tat tof xat xof : Int} (h : InR lo W g c n ts ⟨tat, tof⟩ (q + 1) W2) (hlo : lo ≤ W.heap.size) (hq : q < ts.length) (hx : ts[q]? = some ⟨xat, xof⟩) (o : Obj) :
    InR lo W g c n ts ⟨tat, tof⟩ q (((((W2.setCell ⟨g, (q + 1) * 2, none⟩ (I xat)).setCell ⟨g, (q + 1) * 2 + 1, none⟩ (I xof)).setCell ⟨g, q * 2, none⟩ (I tat)).setCell ⟨g, q * 2 + 1, none⟩ (I tof)).alloc o) := by
  obtain ⟨s1, s2, s3⟩ := insC_step ts ⟨tat, tof⟩ ⟨xat, xof⟩ q hq hx
  have h1 := (((((((h.own.stored ((q + 1) * 2) (I xat)).1.stored ((q + 1) * 2 + 1) (I xof)).1).stored (q * 2) (I tat)).1).stored (q * 2 + 1) (I tof)).1).alloc o
  have hg : lo ≤ g := (World.ownsRow.lt h.own g rfl).1
  refine ⟨?_, ((((h.up.setCell (p := ⟨g, (q + 1) * 2, none⟩) hg _).setCell (p := ⟨g, (q + 1) * 2 + 1, none⟩) hg _).setCell (p := ⟨g, q * 2, none⟩) hg _).setCell (p := ⟨g, q * 2 + 1, none⟩) hg _).alloc (Nat.le_trans hlo (by have := h.up.size; simpa using this)) o⟩
  rw [s1, swap4 _ _ _ _ _ _ _ s3, ← s2] at h1
  exact h1
theorem posF_go {ts : List Tr} {t x : Tr} {q : Nat} (hx : ts[q]? = some x) (h : t.at_ < x.at_) : posF ts t (q + 1) = posF ts t q := by
  rw [posF, hx, if_pos (by simpa using h)]
theorem posF_stop {ts : List Tr} {t x : Tr} {q : Nat} (hx : ts[q]? = some x) (h : ¬ t.at_ < x.at_) : posF ts t (q + 1) = q + 1 := by
  rw [posF, hx, if_neg (by simpa using h)]
set_option maxRecDepth 10000 in
set_option maxHeartbeats 2000000 in
theorem insert_any (lo n c : Nat) (A : Option Addr) (ts : List Tr) (t : Tr) (w : World) (hn : ts.length = n) (hn1 : n ≤ 1000) (hlo : lo ≤ w.heap.size) (hO : TrsO lo w A n c ts) :
    Calls Tryz.prog 92 #[.slice A n c, .agg #[I t.at_, I t.off]] w (InsP lo (n + 1) w (insF ts t)) := by
  obtain ⟨tat, tof⟩ := t
  simp only
  have HN := Lib.hid hn
  have HO := Lib.hid (World.ownsRow.alloc (World.ownsRow.alloc hO (.cells #[I tat, I tof] 78)) (.cells #[I tat, I tof] 78))
  have HB := Lib.hid (below_trans (below_var w (.cells #[I tat, I tof] 78)) (below_var _ (.cells #[I tat, I tof] 78)))
  have HBA := Lib.hid (trs_base hO)
  obtain ⟨i0, hi, hz0, hz1, hz2⟩ := info_parts info_tr
  have HI := Lib.hid hi
  have HZ0 := Lib.hid hz0
  have HZ1 := Lib.hid hz1
  have HZ2 := Lib.hid hz2
  clear hn hO hi hz0 hz1 hz2
  go_enter Tryz.func92, Tryz.ntmps92
  go_wp2_with (at_builtin; go_must (refine wpList_append_own_at _ rfl _ _ 38 rfl lo 78 i0 (.agg #[I 0, I 0]) 2 16 Tryz.underlying38 HI.out HZ0.out HZ1.out HZ2.out rfl (by decide) _ n (ts.flatMap Tr.cells) rfl HO.out _ 1 1 [I tat, I tof] rfl rfl (two_new2 _ _ _ _ _) (tr_one ⟨tat, tof⟩) (by unfold maxLen; omega) (by omega) (by simp; omega) ?_))
  intro v' w1 hown hg _ _
  obtain ⟨g, cp, rfl⟩ := ownsRow_succ hown
  have HR : Hid (InR lo w g cp n ts ⟨tat, tof⟩ n w1) := Lib.hid ⟨by rw [← HN.out, insC_end, HN.out]; exact hown, (HB.out.mono hlo).trans (below_by hg HBA.out (by simp; omega))⟩
  clear hown hg HB HO HBA
  go_wp2_with fail
  go_loopw [6] (fun i wr => InRel lo w g cp n ts ⟨tat, tof⟩ i wr) (fun i _ => (intOf i).toNat)
  case atStart => exact ⟨n, Nat.le_refl _, by go_num, rfl, HR.out⟩
  case round =>
    obtain ⟨k, hk, rfl, hp, hr⟩ := hrel
    have HP := Lib.hid hp
    have HQ := Lib.hid hr
    clear hp hr HR
    cases k with
    | zero =>
      go_wp2_with fail
      go_quiet (fail)
      go_wp2_with fail
      go_ret
      refine ⟨_, _, rfl, ?_, HQ.out.up.trans ((below_drewN' wr nq).mono (Nat.le_trans hlo HQ.out.up.size))⟩
      have h1 := HP.out
      have h2 := HQ.out.own
      show (wr.drewN nq).ownsRow _ _ _ _ _ _
      have h3 : (insF ts ⟨tat, tof⟩).flatMap Tr.cells = insC ts ⟨tat, tof⟩ 0 := by
        unfold insF insC
        rw [HN.out, ← h1]
        rfl
      rw [h3]
      exact h2
    | succ q =>
      have hq : q < n := by omega
      obtain ⟨x, hx, -, -⟩ := take_at ts q (by rw [HN.out]; exact hq)
      obtain ⟨s1, s2, s3⟩ := insC_step ts ⟨tat, tof⟩ x q (by rw [HN.out]; exact hq) hx
      have HX := Lib.hid hx
      have HS := Lib.hid (And.intro s1 (And.intro s2 s3))
      have hcl := fun j hj => (HQ.out.own.cellAt j hj).trans (by rw [s1])
      have c0 : wr.cell? ⟨g, q * 2, none⟩ = some (I x.at_) := (hcl _ (by omega)).trans (by rw [List.getElem?_append_right (by omega), s3, Nat.sub_self]; rfl)
      have c1 : wr.cell? ⟨g, q * 2 + 1, none⟩ = some (I x.off) := (hcl _ (by omega)).trans (by rw [List.getElem?_append_right (by omega), s3, show q * 2 + 1 - q * 2 = 1 by omega]; rfl)
      have c2 : wr.cell? ⟨g, (q + 1) * 2, none⟩ = some (I tat) := (hcl _ (by omega)).trans (by rw [List.getElem?_append_right (by omega), s3, show (q + 1) * 2 - q * 2 = 2 by omega]; rfl)
      have c3 : wr.cell? ⟨g, (q + 1) * 2 + 1, none⟩ = some (I tof) := (hcl _ (by omega)).trans (by rw [List.getElem?_append_right (by omega), s3, show (q + 1) * 2 + 1 - q * 2 = 3 by omega]; rfl)
      have f0 : ∀ j, wr.frozen? ⟨g, j, none⟩ = false := fun j => HQ.out.own.frozenAt j
      clear hx s1 s2 s3 hcl
      obtain ⟨xat, xof⟩ := x
      simp only at c0 c1
      have i0 : (0 : Int) < ((q + 1 : Nat) : Int) := by omega
      have i1 : ((q + 1 : Nat) : Int) - 1 = (q : Int) := by omega
      have i2 : (q : Int) < (n : Int) + 1 := by omega
      have i3 : ((q + 1 : Nat) : Int) < (n : Int) + 1 := by omega
      by_cases hlt : tat < xat
      · go_wp2_with fail
        go_quiet (fail)
        have HQ2 : Hid (InR lo w g cp n ts ⟨tat, tof⟩ (q + 1) (wr.drewN nq)) := Lib.hid ⟨HQ.out.own, HQ.out.up.trans ((below_drewN' wr nq).mono (Nat.le_trans hlo HQ.out.up.size))⟩
        have d0 : (wr.drewN nq).cell? ⟨g, q * 2, none⟩ = some (I xat) := c0
        have d1 : (wr.drewN nq).cell? ⟨g, q * 2 + 1, none⟩ = some (I xof) := c1
        have d2 : (wr.drewN nq).cell? ⟨g, (q + 1) * 2, none⟩ = some (I tat) := c2
        have d3 : (wr.drewN nq).cell? ⟨g, (q + 1) * 2 + 1, none⟩ = some (I tof) := c3
        have g0 : ∀ j, (wr.drewN nq).frozen? ⟨g, j, none⟩ = false := f0
        have hgl : g < (wr.drewN nq).heap.size := (World.ownsRow.lt HQ.out.own g rfl).2
        clear c0 c1 c2 c3 f0
        generalize wr.drewN nq = W2 at HQ2 d0 d1 d2 d3 g0 hgl ⊢
        clear HQ
        go_wp2_with fail
        go_roundw
        case rel => exact ⟨q, by omega, by go_num, (posF_go HX.out hlt).symm.trans HP.out, HQ2.out.swap hlo (by rw [HN.out]; exact hq) HX.out _⟩
        case measure => simp [intOf]
      · go_wp2_with fail
        go_quiet (fail)
        go_wp2_with fail
        go_ret
        refine ⟨_, _, rfl, ?_, HQ.out.up.trans ((below_drewN' wr nq).mono (Nat.le_trans hlo HQ.out.up.size))⟩
        have h1 := HP.out
        rw [posF_stop HX.out (by show ¬ tat < xat; omega)] at h1
        have h2 := HQ.out.own
        show (wr.drewN nq).ownsRow _ _ _ _ _ _
        have h3 : (insF ts ⟨tat, tof⟩).flatMap Tr.cells = insC ts ⟨tat, tof⟩ (q + 1) := by
          unfold insF insC
          rw [HN.out, ← h1]
        rw [h3]
        exact h2
end Go.Proofs.YtbdkalpljhpnmaaGreat
