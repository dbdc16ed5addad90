/- Zones, tables and chains in memory; slices.Clone of their lists. -/
import Derived.Test.YtbdkalpljhpnmaaGreatPa
import Derived.Test.YtbdkalpljhpnmaaGreatTbJ
import Derived.BigQuiet
import Derived.Deep.AppendLies
import Derived.Deep.CutBlock
import Derived.Deep.DeepCutAuto
import Derived.Deep.DrawnRows
import Derived.Deep.MidRow
import Derived.Deep.QuietTactic
import Derived.Deep.RegionHeld3
import Derived.Deep.RegionLaw
import Derived.Deep.WholeRow
import Derived.Great.BuildSlice
import Derived.Laws.BytesString
import Derived.Laws.CopyOwn
import Derived.Laws.EntriesVeiled
import Derived.Laws.MakeOwn
import Derived.Laws.ResultCell
import Derived.Laws.Rows
import Derived.Laws.Tables
import Derived.Lib.Hide
import Derived.LoopIn
import Derived.LoopNIn
import Derived.Maps.AppendAt
import Derived.Outline
import Derived.OwnWalkIn
import Derived.RangeFuncBound
import Derived.RangeFuncBox
import Derived.RangeFuncCalls
import Derived.RangeFuncLeaves
import Derived.RangeFuncNested
import Derived.Shelf.Abstract
import Derived.Shelf.Bytes.SlSmallAll
import Derived.Shelf.RegionOpen
import Derived.StillTailTactics
import Derived.Stop.BytesEq
import Derived.TacticsInMore
import Derived.WalkKit
import Derived.WalkLawsBesides
import Derived.WalkSpells
namespace Go.Proofs.YtbdkalpljhpnmaaGreat
open Go Go.RowKit

def Tr.cells (t : Tr) : List Value := [I t.at_, I t.off]
def Yr.cells (y : Yr) : List Value := [I y.month, I y.week, I y.wday, I y.minute, I y.off]
/-- A zone's lists in memory older than block B. -/
structure ZnAt (w : World) (B : Nat) (s : Zs) (z : Zn) : Prop where
  months : CellsAt w B s.A (z.cal.months.map I)
  rules : CellsAt w B s.B (z.cal.rules.flatMap Lr.cells)
  trans : CellsAt w B s.C (z.trans.flatMap Tr.cells)
  yearly : CellsAt w B s.D (z.yearly.flatMap Yr.cells)
/-- The zones of a table. -/
structure ZesC (w : World) (B : Nat) (A : Option Addr) (zs : List ZeV) : Prop where
  row : CellsAt w B A (zecells zs)
  each : ∀ x ∈ zs, ZnAt w B x.s x.e.z
/-- A table as it lies. -/
structure TbV where
  t : Tb
  A : Option Addr
  c : Nat
  zs : List ZeV
def TbV.cells (x : TbV) : List Value := tbList x.t (.slice x.A x.zs.length x.c)
structure TbAt (w : World) (B : Nat) (x : TbV) : Prop where
  names : x.t.zones = x.zs.map (·.e)
  prev : x.t.prev.length = 32
  mac : x.t.mac.length = 32
  zones : ZesC w B x.A x.zs
/-- A chain. -/
structure ChAt (w : World) (B : Nat) (A : Option Addr) (ts : List TbV) : Prop where
  row : CellsAt w B A (ts.flatMap TbV.cells)
  each : ∀ x ∈ ts, TbAt w B x
section
variable {w w' : World} {B B' : Nat} {A : Option Addr} {s : Zs} {z : Zn} {zs : List ZeV} {x : TbV} {ts : List TbV}
theorem ZnAt.keep (h : ZnAt w B s z) (hb : Below B w w') : ZnAt w' B s z := ⟨h.months.keep hb, h.rules.keep hb, h.trans.keep hb, h.yearly.keep hb⟩
theorem ZnAt.more (h : ZnAt w B s z) (hB : B ≤ B') : ZnAt w B' s z := ⟨h.months.more hB, h.rules.more hB, h.trans.more hB, h.yearly.more hB⟩
theorem ZnAt.grow (h : ZnAt w w.heap.size s z) (hb : Below w.heap.size w w') : ZnAt w' w'.heap.size s z := (h.keep hb).more hb.size
theorem ZesC.keep (h : ZesC w B A zs) (hb : Below B w w') : ZesC w' B A zs := ⟨h.row.keep hb, fun x hx => (h.each x hx).keep hb⟩
theorem ZesC.more (h : ZesC w B A zs) (hB : B ≤ B') : ZesC w B' A zs := ⟨h.row.more hB, fun x hx => (h.each x hx).more hB⟩
theorem ZesC.grow (h : ZesC w w.heap.size A zs) (hb : Below w.heap.size w w') : ZesC w' w'.heap.size A zs := (h.keep hb).more hb.size
theorem ZesC.nil : ZesC w B A [] := ⟨.nil, fun _ hx => nomatch hx⟩
theorem TbAt.keep (h : TbAt w B x) (hb : Below B w w') : TbAt w' B x := ⟨h.names, h.prev, h.mac, h.zones.keep hb⟩
theorem TbAt.more (h : TbAt w B x) (hB : B ≤ B') : TbAt w B' x := ⟨h.names, h.prev, h.mac, h.zones.more hB⟩
theorem TbAt.grow (h : TbAt w w.heap.size x) (hb : Below w.heap.size w w') : TbAt w' w'.heap.size x := (h.keep hb).more hb.size
theorem TbAt.size (h : TbAt w B x) : x.cells.length = 68 := by
  have := tb_size x.t (.slice x.A x.zs.length x.c) h.prev h.mac
  simpa [tbVal, TbV.cells] using this
theorem ChAt.keep (h : ChAt w B A ts) (hb : Below B w w') : ChAt w' B A ts := ⟨h.row.keep hb, fun x hx => (h.each x hx).keep hb⟩
theorem ChAt.more (h : ChAt w B A ts) (hB : B ≤ B') : ChAt w B' A ts := ⟨h.row.more hB, fun x hx => (h.each x hx).more hB⟩
theorem ChAt.grow (h : ChAt w w.heap.size A ts) (hb : Below w.heap.size w w') : ChAt w' w'.heap.size A ts := (h.keep hb).more hb.size
theorem ChAt.nil : ChAt w B A [] := ⟨.nil, fun _ hx => nomatch hx⟩
end
theorem tr_one (t : Tr) : ∀ u ∈ t.cells, u.oneCell' = true := by
  intro u hu
  simp [Tr.cells] at hu
  rcases hu with rfl | rfl <;> rfl
theorem yr_one (y : Yr) : ∀ u ∈ y.cells, u.oneCell' = true := by
  intro u hu
  simp [Yr.cells] at hu
  rcases hu with rfl | rfl | rfl | rfl | rfl <;> rfl
theorem lrs_one (r : Lr) : ∀ u ∈ r.cells, u.oneCell' = true := by
  intro u hu
  simp [Lr.cells] at hu
  rcases hu with rfl | rfl | rfl <;> rfl
/-- What slices.Clone gives: the same cells in memory of their own. -/
def ClA (w : World) (e size n : Nat) (cs : List Value) (en : Ending) (w' : World) : Prop :=
  ∃ A c, en = .returned (.slice A n c) ∧ w'.ownsRow w.heap.size e size (.slice A n c) n cs ∧ Below w.heap.size w w'
theorem own_formB {w : World} {base e size n : Nat} {v : Value} {xs : List Value} (h : w.ownsRow base e size v n xs) : ∃ A c, v = .slice A n c := by
  rcases h.2 with ⟨rfl, rfl⟩ | ⟨g, cap, cur, rfl, _⟩
  · exact ⟨_, _, rfl⟩
  · exact ⟨_, _, rfl⟩
theorem cells_news {w : World} {a : Addr} {cs : List Value} {o : Obj} (h : CellsAt w w.heap.size (some a) cs) : ∀ j u, cs[j]? = some u → (w.alloc o).cell? (a.add j) = some u := by
  intro j u hu
  rcases h with h | ⟨b, off, h1, h2, h3⟩
  · rw [List.eq_nil_of_length_eq_zero h] at hu; cases hu
  · injection h1 with h1
    subst h1
    rw [Addr.add_mid, World.cell?_of_block (Below.heap_alloc w _ b h2)]
    exact h3 j u hu
theorem info_lrr : (Tryz.prog.info? 105).map (fun i => (i.zero, i.size, i.bytes)) = some (some (.agg #[I 0, I 0, .bool false]), 3, 24) := by kernel_rfl
theorem info_tr : (Tryz.prog.info? 78).map (fun i => (i.zero, i.size, i.bytes)) = some (some (.agg #[I 0, I 0]), 2, 16) := by kernel_rfl
theorem info_yr : (Tryz.prog.info? 80).map (fun i => (i.zero, i.size, i.bytes)) = some (some (.agg #[I 0, I 0, I 0, I 0, I 0]), 5, 40) := by kernel_rfl
set_option maxRecDepth 10000 in
theorem clI_nil (c : Nat) (w : World) : Calls Tryz.prog 37 #[.slice none 0 c] w fun e w' => e = .returned (.slice none 0 0) ∧ w' = w := by
  have heq : ∀ W, (binOp .eql 33 (.slice none 0 c) (.slice none 0 0)).run Tryz.prog W = .ok (.bool true) W := fun W => by simp [binOp, run_equal_slice_nil W 33 3 none 0 c Tryz.underlying33]
  go_enter Tryz.func37, Tryz.ntmps37
  go_wp2
  go_ret
  exact ⟨rfl, rfl⟩
set_option maxRecDepth 10000 in
set_option maxHeartbeats 2000000 in
theorem clI_any (A : Option Addr) (c n : Nat) (cs : List Value) (w : World) (hA : CellsAt w w.heap.size A cs) (hl : cs.length = n * 1) (h1 : ∀ u ∈ cs, u.oneCell' = true) (hn : n ≤ 10000) :
    Calls Tryz.prog 37 #[.slice A n c] w (ClA w 3 1 n cs) := by
  cases A with
  | none =>
    have hc : cs = [] := by
      rcases hA with h | ⟨b, off, h, _⟩
      · exact List.eq_nil_of_length_eq_zero h
      · cases h
    subst hc
    have hn0 : n = 0 := by simp at hl; omega
    subst hn0
    exact (clI_nil c w).mono fun e w' ⟨he, hw⟩ => ⟨none, 0, he, World.ownsRow_nil _ _ _ _, by rw [hw]; exact Below.refl _ _⟩
  | some a =>
    have HNW := Lib.hid (cells_news (o := .cells #[] 3) hA)
    have HO := Lib.hid (own_emptyE w 3 1)
    have HL := Lib.hid hl
    have H1 := Lib.hid h1
    have HB := Lib.hid (below_var w (.cells #[] 3))
    obtain ⟨i0, hi, hz0, hz1, hz2⟩ := info_parts info_int
    have HI := Lib.hid hi
    have HZ0 := Lib.hid hz0
    have HZ1 := Lib.hid hz1
    have HZ2 := Lib.hid hz2
    have heq : ∀ W, (binOp .eql 33 (.slice (some a) n c) (.slice none 0 0)).run Tryz.prog W = .ok (.bool false) W := fun W => by simp [binOp, run_equal_slice_nil W 33 3 (some a) n c Tryz.underlying33]
    clear hA hl h1 hi hz0 hz1 hz2
    go_enter Tryz.func37, Tryz.ntmps37
    go_wp2_with (at_builtin; refine wpList_append_own_at _ rfl _ _ 33 rfl w.heap.size 3 i0 (.int .i64 0) 1 8 Tryz.underlying33 HI.out HZ0.out HZ1.out HZ2.out rfl (by decide) _ 0 [] rfl HO.out a n c cs rfl HL.out HNW.out H1.out (by unfold maxLen; omega) (by omega) (by simp) ?_)
    intro v' w' hown hg _ _
    have HB2 := Lib.hid (below_grown' HB.out HO.out (by simp) hg)
    obtain ⟨A', c', rfl⟩ := own_formB hown
    have HOW := Lib.hid hown
    clear hown hg
    go_wp2_with fail
    go_ret
    exact ⟨A', c', by first | rfl | (rw [Nat.zero_add]), by have h := HOW.out; simpa using h, HB2.out⟩
set_option maxRecDepth 10000 in
theorem clL_nil (c : Nat) (w : World) : Calls Tryz.prog 38 #[.slice none 0 c] w fun e w' => e = .returned (.slice none 0 0) ∧ w' = w := by
  have heq : ∀ W, (binOp .eql 35 (.slice none 0 c) (.slice none 0 0)).run Tryz.prog W = .ok (.bool true) W := fun W => by simp [binOp, run_equal_slice_nil W 35 105 none 0 c Tryz.underlying35]
  go_enter Tryz.func38, Tryz.ntmps38
  go_wp2
  go_ret
  exact ⟨rfl, rfl⟩
set_option maxRecDepth 10000 in
set_option maxHeartbeats 2000000 in
theorem clL_any (A : Option Addr) (c n : Nat) (cs : List Value) (w : World) (hA : CellsAt w w.heap.size A cs) (hl : cs.length = n * 3) (h1 : ∀ u ∈ cs, u.oneCell' = true) (hn : n ≤ 10000) :
    Calls Tryz.prog 38 #[.slice A n c] w (ClA w 105 3 n cs) := by
  cases A with
  | none =>
    have hc : cs = [] := by
      rcases hA with h | ⟨b, off, h, _⟩
      · exact List.eq_nil_of_length_eq_zero h
      · cases h
    subst hc
    have hn0 : n = 0 := by simp at hl; omega
    subst hn0
    exact (clL_nil c w).mono fun e w' ⟨he, hw⟩ => ⟨none, 0, he, World.ownsRow_nil _ _ _ _, by rw [hw]; exact Below.refl _ _⟩
  | some a =>
    have HNW := Lib.hid (cells_news (o := .cells #[] 105) hA)
    have HO := Lib.hid (own_emptyE w 105 3)
    have HL := Lib.hid hl
    have H1 := Lib.hid h1
    have HB := Lib.hid (below_var w (.cells #[] 105))
    obtain ⟨i0, hi, hz0, hz1, hz2⟩ := info_parts info_lrr
    have HI := Lib.hid hi
    have HZ0 := Lib.hid hz0
    have HZ1 := Lib.hid hz1
    have HZ2 := Lib.hid hz2
    have heq : ∀ W, (binOp .eql 35 (.slice (some a) n c) (.slice none 0 0)).run Tryz.prog W = .ok (.bool false) W := fun W => by simp [binOp, run_equal_slice_nil W 35 105 (some a) n c Tryz.underlying35]
    clear hA hl h1 hi hz0 hz1 hz2
    go_enter Tryz.func38, Tryz.ntmps38
    go_wp2_with (at_builtin; refine wpList_append_own_at _ rfl _ _ 35 rfl w.heap.size 105 i0 (.agg #[I 0, I 0, .bool false]) 3 24 Tryz.underlying35 HI.out HZ0.out HZ1.out HZ2.out rfl (by decide) _ 0 [] rfl HO.out a n c cs rfl HL.out HNW.out H1.out (by unfold maxLen; omega) (by omega) (by simp) ?_)
    intro v' w' hown hg _ _
    have HB2 := Lib.hid (below_grown' HB.out HO.out (by simp) hg)
    obtain ⟨A', c', rfl⟩ := own_formB hown
    have HOW := Lib.hid hown
    clear hown hg
    go_wp2_with fail
    go_ret
    exact ⟨A', c', by first | rfl | (rw [Nat.zero_add]), by have h := HOW.out; simpa using h, HB2.out⟩
set_option maxRecDepth 10000 in
theorem clT_nil (c : Nat) (w : World) : Calls Tryz.prog 39 #[.slice none 0 c] w fun e w' => e = .returned (.slice none 0 0) ∧ w' = w := by
  have heq : ∀ W, (binOp .eql 38 (.slice none 0 c) (.slice none 0 0)).run Tryz.prog W = .ok (.bool true) W := fun W => by simp [binOp, run_equal_slice_nil W 38 78 none 0 c Tryz.underlying38]
  go_enter Tryz.func39, Tryz.ntmps39
  go_wp2
  go_ret
  exact ⟨rfl, rfl⟩
set_option maxRecDepth 10000 in
set_option maxHeartbeats 2000000 in
theorem clT_any (A : Option Addr) (c n : Nat) (cs : List Value) (w : World) (hA : CellsAt w w.heap.size A cs) (hl : cs.length = n * 2) (h1 : ∀ u ∈ cs, u.oneCell' = true) (hn : n ≤ 10000) :
    Calls Tryz.prog 39 #[.slice A n c] w (ClA w 78 2 n cs) := by
  cases A with
  | none =>
    have hc : cs = [] := by
      rcases hA with h | ⟨b, off, h, _⟩
      · exact List.eq_nil_of_length_eq_zero h
      · cases h
    subst hc
    have hn0 : n = 0 := by simp at hl; omega
    subst hn0
    exact (clT_nil c w).mono fun e w' ⟨he, hw⟩ => ⟨none, 0, he, World.ownsRow_nil _ _ _ _, by rw [hw]; exact Below.refl _ _⟩
  | some a =>
    have HNW := Lib.hid (cells_news (o := .cells #[] 78) hA)
    have HO := Lib.hid (own_emptyE w 78 2)
    have HL := Lib.hid hl
    have H1 := Lib.hid h1
    have HB := Lib.hid (below_var w (.cells #[] 78))
    obtain ⟨i0, hi, hz0, hz1, hz2⟩ := info_parts info_tr
    have HI := Lib.hid hi
    have HZ0 := Lib.hid hz0
    have HZ1 := Lib.hid hz1
    have HZ2 := Lib.hid hz2
    have heq : ∀ W, (binOp .eql 38 (.slice (some a) n c) (.slice none 0 0)).run Tryz.prog W = .ok (.bool false) W := fun W => by simp [binOp, run_equal_slice_nil W 38 78 (some a) n c Tryz.underlying38]
    clear hA hl h1 hi hz0 hz1 hz2
    go_enter Tryz.func39, Tryz.ntmps39
    go_wp2_with (at_builtin; refine wpList_append_own_at _ rfl _ _ 38 rfl w.heap.size 78 i0 (.agg #[I 0, I 0]) 2 16 Tryz.underlying38 HI.out HZ0.out HZ1.out HZ2.out rfl (by decide) _ 0 [] rfl HO.out a n c cs rfl HL.out HNW.out H1.out (by unfold maxLen; omega) (by omega) (by simp) ?_)
    intro v' w' hown hg _ _
    have HB2 := Lib.hid (below_grown' HB.out HO.out (by simp) hg)
    obtain ⟨A', c', rfl⟩ := own_formB hown
    have HOW := Lib.hid hown
    clear hown hg
    go_wp2_with fail
    go_ret
    exact ⟨A', c', by first | rfl | (rw [Nat.zero_add]), by have h := HOW.out; simpa using h, HB2.out⟩
set_option maxRecDepth 10000 in
theorem clY_nil (c : Nat) (w : World) : Calls Tryz.prog 40 #[.slice none 0 c] w fun e w' => e = .returned (.slice none 0 0) ∧ w' = w := by
  have heq : ∀ W, (binOp .eql 39 (.slice none 0 c) (.slice none 0 0)).run Tryz.prog W = .ok (.bool true) W := fun W => by simp [binOp, run_equal_slice_nil W 39 80 none 0 c Tryz.underlying39]
  go_enter Tryz.func40, Tryz.ntmps40
  go_wp2
  go_ret
  exact ⟨rfl, rfl⟩
set_option maxRecDepth 10000 in
set_option maxHeartbeats 2000000 in
theorem clY_any (A : Option Addr) (c n : Nat) (cs : List Value) (w : World) (hA : CellsAt w w.heap.size A cs) (hl : cs.length = n * 5) (h1 : ∀ u ∈ cs, u.oneCell' = true) (hn : n ≤ 10000) :
    Calls Tryz.prog 40 #[.slice A n c] w (ClA w 80 5 n cs) := by
  cases A with
  | none =>
    have hc : cs = [] := by
      rcases hA with h | ⟨b, off, h, _⟩
      · exact List.eq_nil_of_length_eq_zero h
      · cases h
    subst hc
    have hn0 : n = 0 := by simp at hl; omega
    subst hn0
    exact (clY_nil c w).mono fun e w' ⟨he, hw⟩ => ⟨none, 0, he, World.ownsRow_nil _ _ _ _, by rw [hw]; exact Below.refl _ _⟩
  | some a =>
    have HNW := Lib.hid (cells_news (o := .cells #[] 80) hA)
    have HO := Lib.hid (own_emptyE w 80 5)
    have HL := Lib.hid hl
    have H1 := Lib.hid h1
    have HB := Lib.hid (below_var w (.cells #[] 80))
    obtain ⟨i0, hi, hz0, hz1, hz2⟩ := info_parts info_yr
    have HI := Lib.hid hi
    have HZ0 := Lib.hid hz0
    have HZ1 := Lib.hid hz1
    have HZ2 := Lib.hid hz2
    have heq : ∀ W, (binOp .eql 39 (.slice (some a) n c) (.slice none 0 0)).run Tryz.prog W = .ok (.bool false) W := fun W => by simp [binOp, run_equal_slice_nil W 39 80 (some a) n c Tryz.underlying39]
    clear hA hl h1 hi hz0 hz1 hz2
    go_enter Tryz.func40, Tryz.ntmps40
    go_wp2_with (at_builtin; refine wpList_append_own_at _ rfl _ _ 39 rfl w.heap.size 80 i0 (.agg #[I 0, I 0, I 0, I 0, I 0]) 5 40 Tryz.underlying39 HI.out HZ0.out HZ1.out HZ2.out rfl (by decide) _ 0 [] rfl HO.out a n c cs rfl HL.out HNW.out H1.out (by unfold maxLen; omega) (by omega) (by simp) ?_)
    intro v' w' hown hg _ _
    have HB2 := Lib.hid (below_grown' HB.out HO.out (by simp) hg)
    obtain ⟨A', c', rfl⟩ := own_formB hown
    have HOW := Lib.hid hown
    clear hown hg
    go_wp2_with fail
    go_ret
    exact ⟨A', c', by first | rfl | (rw [Nat.zero_add]), by have h := HOW.out; simpa using h, HB2.out⟩
set_option maxRecDepth 10000 in
theorem clZ_nil (c : Nat) (w : World) : Calls Tryz.prog 36 #[.slice none 0 c] w fun e w' => e = .returned (.slice none 0 0) ∧ w' = w := by
  have heq : ∀ W, (binOp .eql 45 (.slice none 0 c) (.slice none 0 0)).run Tryz.prog W = .ok (.bool true) W := fun W => by simp [binOp, run_equal_slice_nil W 45 73 none 0 c Tryz.underlying45]
  go_enter Tryz.func36, Tryz.ntmps36
  go_wp2
  go_ret
  exact ⟨rfl, rfl⟩
set_option maxRecDepth 10000 in
set_option maxHeartbeats 2000000 in
theorem clZ_any (A : Option Addr) (c n : Nat) (cs : List Value) (w : World) (hA : CellsAt w w.heap.size A cs) (hl : cs.length = n * 9) (h1 : ∀ u ∈ cs, u.oneCell' = true) (hn : n ≤ 10000) :
    Calls Tryz.prog 36 #[.slice A n c] w (ClA w 73 9 n cs) := by
  cases A with
  | none =>
    have hc : cs = [] := by
      rcases hA with h | ⟨b, off, h, _⟩
      · exact List.eq_nil_of_length_eq_zero h
      · cases h
    subst hc
    have hn0 : n = 0 := by simp at hl; omega
    subst hn0
    exact (clZ_nil c w).mono fun e w' ⟨he, hw⟩ => ⟨none, 0, he, World.ownsRow_nil _ _ _ _, by rw [hw]; exact Below.refl _ _⟩
  | some a =>
    have HNW := Lib.hid (cells_news (o := .cells #[] 73) hA)
    have HO := Lib.hid (own_emptyE w 73 9)
    have HL := Lib.hid hl
    have H1 := Lib.hid h1
    have HB := Lib.hid (below_var w (.cells #[] 73))
    obtain ⟨i0, hi, hz0, hz1, hz2⟩ := info_parts info_ze
    have HI := Lib.hid hi
    have HZ0 := Lib.hid hz0
    have HZ1 := Lib.hid hz1
    have HZ2 := Lib.hid hz2
    have heq : ∀ W, (binOp .eql 45 (.slice (some a) n c) (.slice none 0 0)).run Tryz.prog W = .ok (.bool false) W := fun W => by simp [binOp, run_equal_slice_nil W 45 73 (some a) n c Tryz.underlying45]
    clear hA hl h1 hi hz0 hz1 hz2
    go_enter Tryz.func36, Tryz.ntmps36
    go_wp2_with (at_builtin; refine wpList_append_own_at _ rfl _ _ 45 rfl w.heap.size 73 i0 (.agg zZe) 9 144 Tryz.underlying45 HI.out HZ0.out HZ1.out HZ2.out rfl (by decide) _ 0 [] rfl HO.out a n c cs rfl HL.out HNW.out H1.out (by unfold maxLen; omega) (by omega) (by simp) ?_)
    intro v' w' hown hg _ _
    have HB2 := Lib.hid (below_grown' HB.out HO.out (by simp) hg)
    obtain ⟨A', c', rfl⟩ := own_formB hown
    have HOW := Lib.hid hown
    clear hown hg
    go_wp2_with fail
    go_ret
    exact ⟨A', c', by first | rfl | (rw [Nat.zero_add]), by have h := HOW.out; simpa using h, HB2.out⟩
end Go.Proofs.YtbdkalpljhpnmaaGreat
