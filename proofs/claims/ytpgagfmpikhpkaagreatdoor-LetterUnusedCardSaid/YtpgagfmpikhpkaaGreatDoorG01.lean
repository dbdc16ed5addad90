/- The texts Aid, Data, Uses, Limits, Small, Numbers, Cells, Nums, in this order. -/
import Derived.WalkKit
import Derived.WalkLawsBesides
import Derived.WalkSpells
import Derived.Outline
import Derived.Laws.Tables
import Derived.Laws.Rows
import Derived.Deep.WholeRow
import Derived.Lib.Hide
import Derived.Stop.BytesEq
import Derived.Test.YtpgagfmpikhpkaaGreatDoorProg
import Derived.Deep.QuietTactic
import Derived.BigQuiet
import Derived.StillTailTactics
/- Small laws over any program: whole rows built, laid in a new variable, loaded; no condition. -/
namespace Go.Proofs.YtpgagfmpikhpkaaGreatDoor
open Go Go.RowKit
section
variable {P : Program} {ops : Array Oper} {Q : Exit → Act → World → Prop} {a : Act} {w : World} {rest : List Oper} {o o2 : Oper}

/-- A composite literal, its cells under a name. -/
theorem wpList_build_as {t : TypeId} (hg : o.guard = none) (parts : Array (Nat × Operand)) (ho : o.op = .build t parts) (cells : Array Value)
    (hb : P.built t (parts.map fun (i, x) => (i, a.eval x)).toList = some cells)
    (h : wpList P ops Q rest (a.put o.dst (.agg cells)) w) : wpList P ops Q (o :: rest) a w :=
  wpList_plain hg fun _ hK => wp_build t parts ho (by rw [hb]; rfl) (by rw [hb]; exact hK _ _ h)

theorem run_alloc_var (w : World) (t : TypeId) (z : Value) (n : Nat) (hz : (P.info? t).map (fun i => (i.zero, i.size)) = some (some z, n)) :
    (Instr.alloc t true (.tuple #[])).run P w = .ok (.pointer (some ⟨w.heap.size, 0, none⟩)) (w.alloc (.cells z.cells t)) := by
  have h0 := (zero_of_info hz).1 w
  simp [Instr.alloc, newVar, newRow, h0]

/-- 'var x T = v', v a struct or an array whose cells have a name: a new variable, then the whole row stored into it. -/
theorem wpList_var_row (hg : o.guard = none) (hg2 : o2.guard = none) (t : TypeId) (d : Tmp) (y : Operand) (ho : o.op = .alloc t) (hd : o.dst = some d) (ho2 : o2.op = .store t (.tmp d) y) (hd2 : o2.dst = none)
    (z : Value) (cells : Array Value) (hz : (P.info? t).map (fun i => (i.zero, i.size)) = some (some z, cells.size)) (hzs : z.cells.size = cells.size)
    (hy : (a.put (some d) (.pointer (some ⟨w.heap.size, 0, none⟩))).eval y = .agg cells) (hdl : Nat.ble (d + 1) a.tmps.size = true) (h1 : cells.all (·.oneCell') = true)
    (h : wpList P ops Q rest (a.put (some d) (.pointer (some ⟨w.heap.size, 0, none⟩))) (w.alloc (.cells cells t))) : wpList P ops Q (o :: o2 :: rest) a w := by
  refine wpList_plain hg fun K hK => ?_
  unfold Oper.wp execOp
  simp only [ho, Sem.run_bind, run_alloc_var w t z _ hz, Result.andThen_ok]
  refine hK _ _ ?_
  rw [hd]
  refine wpList_plain hg2 fun K2 hK2 => ?_
  unfold Oper.wp execOp
  have hx : (a.put (some d) (.pointer (some ⟨w.heap.size, 0, none⟩))).eval (.tmp d) = .pointer (some ⟨w.heap.size, 0, none⟩) := by
    have hlt : d < a.tmps.size := Nat.le_of_ble_eq_true hdl
    simp [Act.eval, Act.put, hlt]
  simp only [ho2, hx, hy, Sem.run_bind, run_storeAt_new w t z.cells cells (zero_of_info hz).2 hzs h1, Result.andThen_ok]
  refine hK2 _ _ ?_
  rw [hd2]
  exact h
end
end Go.Proofs.YtpgagfmpikhpkaaGreatDoor

/- The data of letters as Lean values, and how they lie in cells; words for memory. -/
namespace Go.Proofs.YtpgagfmpikhpkaaGreatDoor
open Go Go.RowKit

structure Mv where
  day : Int
  drop : Bool
  toDay : Int
  minute : Int
  length : Int
structure Nd where
  kind : Int
  cal : Int
  l : Int
  r : Int
  n : Int
  m : Int
  list : List Int
  name : ByteArray
structure Ser where
  rule : List Nd
  minute : Int
  length : Int
  zone : ByteArray
  gap : Int
  fold : Int
  moves : List Mv
structure Lt where
  kind : Int
  src : Int
  dst : Int
  meeting : Int
  edition : Int
  issuer : Int
  version : Int
  person : Int
  other : Int
  resource : Int
  scope : Int
  day : Int
  move : Mv
  series : Ser
  deadline : Int
  state : Int
  grain : Int
  wfrom : Int
  wto : Int
  cells : List Int
  ref : List UInt8

abbrev I (n : Int) : Value := .int .i64 n
def mvCells (m : Mv) : Array Value := #[I m.day, .bool m.drop, I m.toDay, I m.minute, I m.length]
def serCells (s : Ser) (vr vm : Value) : Array Value := #[vr, I s.minute, I s.length, .string s.zone, I s.gap, I s.fold, vm]
def refCells (r : List UInt8) : List Value := r.map Extern.Stop.cell
def ltCells (l : Lt) (vr vm vc : Value) : Array Value :=
  ([I l.kind, I l.src, I l.dst, I l.meeting, I l.edition, I l.issuer, I l.version, I l.person, I l.other, I l.resource, I l.scope, I l.day,
    I l.move.day, .bool l.move.drop, I l.move.toDay, I l.move.minute, I l.move.length,
    vr, I l.series.minute, I l.series.length, .string l.series.zone, I l.series.gap, I l.series.fold, vm,
    I l.deadline, I l.state, I l.grain, I l.wfrom, I l.wto, vc] ++ refCells l.ref).toArray

section
variable (l : Lt) (vr vm vc : Value)
theorem lt_get0 : (ltCells l vr vm vc)[0]? = some (I l.kind) := rfl
theorem lt_get1 : (ltCells l vr vm vc)[1]? = some (I l.src) := rfl
theorem lt_get2 : (ltCells l vr vm vc)[2]? = some (I l.dst) := rfl
theorem lt_get3 : (ltCells l vr vm vc)[3]? = some (I l.meeting) := rfl
theorem lt_get4 : (ltCells l vr vm vc)[4]? = some (I l.edition) := rfl
theorem lt_get5 : (ltCells l vr vm vc)[5]? = some (I l.issuer) := rfl
theorem lt_get6 : (ltCells l vr vm vc)[6]? = some (I l.version) := rfl
theorem lt_get7 : (ltCells l vr vm vc)[7]? = some (I l.person) := rfl
theorem lt_get8 : (ltCells l vr vm vc)[8]? = some (I l.other) := rfl
theorem lt_get9 : (ltCells l vr vm vc)[9]? = some (I l.resource) := rfl
theorem lt_get10 : (ltCells l vr vm vc)[10]? = some (I l.scope) := rfl
theorem lt_get11 : (ltCells l vr vm vc)[11]? = some (I l.day) := rfl
theorem lt_get12 : (ltCells l vr vm vc)[12]? = some (I l.move.day) := rfl
theorem lt_get13 : (ltCells l vr vm vc)[13]? = some (.bool l.move.drop) := rfl
theorem lt_get14 : (ltCells l vr vm vc)[14]? = some (I l.move.toDay) := rfl
theorem lt_get15 : (ltCells l vr vm vc)[15]? = some (I l.move.minute) := rfl
theorem lt_get16 : (ltCells l vr vm vc)[16]? = some (I l.move.length) := rfl
theorem lt_get17 : (ltCells l vr vm vc)[17]? = some vr := rfl
theorem lt_get18 : (ltCells l vr vm vc)[18]? = some (I l.series.minute) := rfl
theorem lt_get19 : (ltCells l vr vm vc)[19]? = some (I l.series.length) := rfl
theorem lt_get20 : (ltCells l vr vm vc)[20]? = some (.string l.series.zone) := rfl
theorem lt_get21 : (ltCells l vr vm vc)[21]? = some (I l.series.gap) := rfl
theorem lt_get22 : (ltCells l vr vm vc)[22]? = some (I l.series.fold) := rfl
theorem lt_get23 : (ltCells l vr vm vc)[23]? = some vm := rfl
theorem lt_get24 : (ltCells l vr vm vc)[24]? = some (I l.deadline) := rfl
theorem lt_get25 : (ltCells l vr vm vc)[25]? = some (I l.state) := rfl
theorem lt_get26 : (ltCells l vr vm vc)[26]? = some (I l.grain) := rfl
theorem lt_get27 : (ltCells l vr vm vc)[27]? = some (I l.wfrom) := rfl
theorem lt_get28 : (ltCells l vr vm vc)[28]? = some (I l.wto) := rfl
theorem lt_get29 : (ltCells l vr vm vc)[29]? = some vc := rfl
theorem lt_getRef (j : Nat) : (ltCells l vr vm vc)[30 + j]? = (refCells l.ref)[j]? := by
  unfold ltCells; rw [List.getElem?_toArray, List.getElem?_append_right (by simp)]; simp
theorem lt_size (h : l.ref.length = 32) : (ltCells l vr vm vc).size = 62 := by simp [ltCells, refCells, h]
end

/-- It returns this, and nothing that was there has changed. -/
def Gives (v : Value) (w : World) (e : Ending) (w' : World) : Prop := e = .returned v ∧ Below w.heap.size w w'
end Go.Proofs.YtpgagfmpikhpkaaGreatDoor

/- letter.uses: whether a kind uses a field. -/
namespace Go.Proofs.YtpgagfmpikhpkaaGreatDoor
open Go Go.RowKit

def usesTab : List Nat := [0, 1043, 19, 19, 531, 51, 1923, 3, 40049, 100417, 102465, 102401, 102401, 32769, 102401, 24624, 122928, 98316, 65537]
def usesB (k f : Int) : Bool := decide (0 < k ∧ k ≤ 18) && ((usesTab[k.toNat]?).getD 0).testBit f.toNat
def usesCells : Array Value := (usesTab.map fun (n : Nat) => I (n : Int)).toArray
def usesAt (k : Int) : Int := (usesTab[k.toNat]?).getD 0
theorem usesCells_at (k : Int) (h0 : 0 ≤ k) (h : k < 19) : usesCells[k.toNat]? = some (I (usesAt k)) := by
  obtain ⟨n, rfl⟩ := Int.eq_ofNat_of_zero_le h0
  have hn : n < 19 := by omega
  have : n < usesTab.length := hn
  simp [usesCells, usesAt, this]
theorem usesCells_one : usesCells.all (·.oneCell') = true := by decide +kernel
theorem uses_info : (Tryz.prog.info? 98).map (fun i => (i.zero, i.size)) = some (some (.agg (Array.replicate 19 (I 0))), usesCells.size) := by kernel_rfl

theorem uses_bits (k f : Int) (h0 : 0 < k) (h1 : k ≤ 18) (hf0 : 0 ≤ f) (hf1 : f ≤ 16) : (bits BinOp.and IntKind.i64 (usesAt k / 2 ^ f.toNat) 1 == 1) = usesB k f := by
  obtain ⟨n, rfl⟩ := Int.eq_ofNat_of_zero_le (Int.le_of_lt h0)
  obtain ⟨m, rfl⟩ := Int.eq_ofNat_of_zero_le hf0
  have h : ∀ n : Nat, n < 19 → ∀ m : Nat, m < 17 → 0 < n → (bits BinOp.and IntKind.i64 (usesAt (n : Int) / 2 ^ (m : Int).toNat) 1 == 1) = usesB (n : Int) (m : Int) := by decide +kernel
  exact h n (by omega) m (by omega) (by omega)
theorem below_var (w : World) (o : Obj) : Below w.heap.size w (w.alloc o) := (Below.refl _ _).alloc (Nat.le_refl _) _

set_option maxRecDepth 10000 in
set_option maxHeartbeats 400000 in
theorem uses_any (k f : Int) (w : World) (hf0 : 0 ≤ f) (hf1 : f ≤ 16) :
    Calls Tryz.prog 37 #[I k, I f] w (Gives (.bool (usesB k f)) w) := by
  by_cases h0 : k ≤ 0
  · go_enter Tryz.func37, Tryz.ntmps37
    go_wp2_with (first | (refine wpList_build_as rfl _ rfl usesCells (by kernel_rfl) ?_) | (refine wpList_var_row rfl rfl _ _ _ rfl rfl rfl rfl _ usesCells uses_info rfl rfl rfl usesCells_one ?_))
    go_ret
    exact ⟨by rw [usesB, decide_eq_false (by omega)]; rfl, below_var _ _⟩
  by_cases h1 : 19 ≤ k
  · go_enter Tryz.func37, Tryz.ntmps37
    go_wp2_with (first | (refine wpList_build_as rfl _ rfl usesCells (by kernel_rfl) ?_) | (refine wpList_var_row rfl rfl _ _ _ rfl rfl rfl rfl _ usesCells uses_info rfl rfl rfl usesCells_one ?_))
    go_ret
    exact ⟨by rw [usesB, decide_eq_false (by omega)]; rfl, below_var _ _⟩
  have h3 := usesCells_at k (by omega) (by omega)
  have h4 := Lib.hid (uses_bits k f (by omega) (by omega) hf0 hf1)
  go_enter Tryz.func37, Tryz.ntmps37
  go_wp2_with (first | (refine wpList_build_as rfl _ rfl usesCells (by kernel_rfl) ?_) | (refine wpList_var_row rfl rfl _ _ _ rfl rfl rfl rfl _ usesCells uses_info rfl rfl rfl usesCells_one ?_))
  go_ret
  exact ⟨by rw [← h4.out]; rfl, below_var _ _⟩
end Go.Proofs.YtpgagfmpikhpkaaGreatDoor

/- letter.limits: the range of a field that is a number. -/
namespace Go.Proofs.YtpgagfmpikhpkaaGreatDoor
open Go Go.RowKit

def intCells (L : List Int) : Array Value := (L.map I).toArray
theorem intCells_set (L : List Int) (i : Nat) (n : Int) : (intCells L).setIfInBounds i (.int .i64 n) = intCells (L.set i n) := by
  simp [intCells, List.map_set]
theorem intCells_get (L : List Int) (i : Nat) : (intCells L)[i]? = (L[i]?).map I := by simp [intCells]
theorem intCells_size (L : List Int) : (intCells L).size = L.length := by simp [intCells]
theorem intCells_one (L : List Int) : (intCells L).all (·.oneCell') = true := by
  simp [intCells, Value.oneCell']

def limBase : List Int := [1, 1099511627776, 1, 1099511627776, 0, 15, 1, 64, 0, 511, 0, 511, 0, 255, 1, 3, 0, 1099511627776, 0, 0, 0, 0, 0, 2251799813685248, 0, 18, 1, 4, 0, 0, 0, 0, 0, 0]
def limList (k : Int) : List Int :=
  if k = 1 then limBase.set 3 1 else if k = 6 ∨ k = 7 then limBase.set 2 2 else if k = 8 then ((limBase.set 11 63).set 24 1).set 25 512 else if k = 14 then limBase.set 25 5 else limBase
def limLow (k f : Int) : Int := ((limList k)[f.toNat * 2]?).getD 0
def limHigh (k f : Int) : Int := ((limList k)[f.toNat * 2 + 1]?).getD 0
theorem limList_length (k : Int) : (limList k).length = 34 := by unfold limList; repeat' split
                                                                 all_goals rfl
theorem lim_at0 (k f : Int) (h0 : 0 ≤ f) (h1 : f ≤ 16) : (intCells (limList k))[f.toNat * 2]? = some (I (limLow k f)) := by
  have : f.toNat * 2 < (limList k).length := by rw [limList_length]; omega
  rw [intCells_get, limLow, List.getElem?_eq_getElem this]; rfl
theorem lim_at1 (k f : Int) (h0 : 0 ≤ f) (h1 : f ≤ 16) : (intCells (limList k))[f.toNat * 2 + 1]? = some (I (limHigh k f)) := by
  have : f.toNat * 2 + 1 < (limList k).length := by rw [limList_length]; omega
  rw [intCells_get, limHigh, List.getElem?_eq_getElem this]; rfl
theorem lim_info : (Tryz.prog.info? 135).map (fun i => (i.zero, i.size)) = some (some (.agg (Array.replicate 34 (I 0))), (intCells limBase).size) := by kernel_rfl

theorem below_var_drewN (w : World) (o : Obj) (n : Nat) : Below w.heap.size w ((w.alloc o).drewN n) := below_drewN (below_var w o) n

attribute [local go_sem] intCells_set
set_option maxRecDepth 10000 in
set_option maxHeartbeats 400000 in
theorem limits_1 (f : Int) (w : World) (hf0 : 0 ≤ f) (hf1 : f ≤ 16) :
    Calls Tryz.prog 59 #[I 1, I f] w (Gives (.tuple #[I (limLow 1 f), I (limHigh 1 f)]) w) := by
  have h0 := lim_at0 1 f hf0 hf1
  have h1 := lim_at1 1 f hf0 hf1
  rw [show limList 1 = limBase.set 3 1 from rfl] at h0 h1
  have b2 : (intCells limBase)[2]? = some (I 1) := rfl
  have b3 : (intCells limBase)[3]? = some (I 1099511627776) := rfl
  have b11 : (intCells limBase)[11]? = some (I 511) := rfl
  have b24 : (intCells (limBase.set 11 63))[24]? = some (I 0) := rfl
  have b25 : (intCells ((limBase.set 11 63).set 24 1))[25]? = some (I 18) := rfl
  have b25' : (intCells limBase)[25]? = some (I 18) := rfl
  go_enter Tryz.func59, Tryz.ntmps59
  go_wp2_with (first | (refine wpList_build_as (t := 135) rfl _ rfl (intCells limBase) (by kernel_rfl) ?_) | (refine wpList_var_row rfl rfl _ _ _ rfl rfl rfl rfl _ (intCells limBase) lim_info rfl rfl rfl (intCells_one _) ?_))
  go_quiet (fail)
  go_wp2
  go_ret2
  exact ⟨rfl, below_var_drewN _ _ _⟩
set_option maxRecDepth 10000 in
set_option maxHeartbeats 400000 in
theorem limits_6 (f : Int) (w : World) (hf0 : 0 ≤ f) (hf1 : f ≤ 16) :
    Calls Tryz.prog 59 #[I 6, I f] w (Gives (.tuple #[I (limLow 6 f), I (limHigh 6 f)]) w) := by
  have h0 := lim_at0 6 f hf0 hf1
  have h1 := lim_at1 6 f hf0 hf1
  rw [show limList 6 = limBase.set 2 2 from rfl] at h0 h1
  have b2 : (intCells limBase)[2]? = some (I 1) := rfl
  have b3 : (intCells limBase)[3]? = some (I 1099511627776) := rfl
  have b11 : (intCells limBase)[11]? = some (I 511) := rfl
  have b24 : (intCells (limBase.set 11 63))[24]? = some (I 0) := rfl
  have b25 : (intCells ((limBase.set 11 63).set 24 1))[25]? = some (I 18) := rfl
  have b25' : (intCells limBase)[25]? = some (I 18) := rfl
  go_enter Tryz.func59, Tryz.ntmps59
  go_wp2_with (first | (refine wpList_build_as (t := 135) rfl _ rfl (intCells limBase) (by kernel_rfl) ?_) | (refine wpList_var_row rfl rfl _ _ _ rfl rfl rfl rfl _ (intCells limBase) lim_info rfl rfl rfl (intCells_one _) ?_))
  go_quiet (fail)
  go_wp2
  go_ret2
  exact ⟨rfl, below_var_drewN _ _ _⟩
set_option maxRecDepth 10000 in
set_option maxHeartbeats 400000 in
theorem limits_7 (f : Int) (w : World) (hf0 : 0 ≤ f) (hf1 : f ≤ 16) :
    Calls Tryz.prog 59 #[I 7, I f] w (Gives (.tuple #[I (limLow 7 f), I (limHigh 7 f)]) w) := by
  have h0 := lim_at0 7 f hf0 hf1
  have h1 := lim_at1 7 f hf0 hf1
  rw [show limList 7 = limBase.set 2 2 from rfl] at h0 h1
  have b2 : (intCells limBase)[2]? = some (I 1) := rfl
  have b3 : (intCells limBase)[3]? = some (I 1099511627776) := rfl
  have b11 : (intCells limBase)[11]? = some (I 511) := rfl
  have b24 : (intCells (limBase.set 11 63))[24]? = some (I 0) := rfl
  have b25 : (intCells ((limBase.set 11 63).set 24 1))[25]? = some (I 18) := rfl
  have b25' : (intCells limBase)[25]? = some (I 18) := rfl
  go_enter Tryz.func59, Tryz.ntmps59
  go_wp2_with (first | (refine wpList_build_as (t := 135) rfl _ rfl (intCells limBase) (by kernel_rfl) ?_) | (refine wpList_var_row rfl rfl _ _ _ rfl rfl rfl rfl _ (intCells limBase) lim_info rfl rfl rfl (intCells_one _) ?_))
  go_quiet (fail)
  go_wp2
  go_ret2
  exact ⟨rfl, below_var_drewN _ _ _⟩
set_option maxRecDepth 10000 in
set_option maxHeartbeats 400000 in
theorem limits_8 (f : Int) (w : World) (hf0 : 0 ≤ f) (hf1 : f ≤ 16) :
    Calls Tryz.prog 59 #[I 8, I f] w (Gives (.tuple #[I (limLow 8 f), I (limHigh 8 f)]) w) := by
  have h0 := lim_at0 8 f hf0 hf1
  have h1 := lim_at1 8 f hf0 hf1
  rw [show limList 8 = ((limBase.set 11 63).set 24 1).set 25 512 from rfl] at h0 h1
  have b2 : (intCells limBase)[2]? = some (I 1) := rfl
  have b3 : (intCells limBase)[3]? = some (I 1099511627776) := rfl
  have b11 : (intCells limBase)[11]? = some (I 511) := rfl
  have b24 : (intCells (limBase.set 11 63))[24]? = some (I 0) := rfl
  have b25 : (intCells ((limBase.set 11 63).set 24 1))[25]? = some (I 18) := rfl
  have b25' : (intCells limBase)[25]? = some (I 18) := rfl
  go_enter Tryz.func59, Tryz.ntmps59
  go_wp2_with (first | (refine wpList_build_as (t := 135) rfl _ rfl (intCells limBase) (by kernel_rfl) ?_) | (refine wpList_var_row rfl rfl _ _ _ rfl rfl rfl rfl _ (intCells limBase) lim_info rfl rfl rfl (intCells_one _) ?_))
  go_quiet (fail)
  go_wp2
  go_ret2
  exact ⟨rfl, below_var_drewN _ _ _⟩
set_option maxRecDepth 10000 in
set_option maxHeartbeats 400000 in
theorem limits_14 (f : Int) (w : World) (hf0 : 0 ≤ f) (hf1 : f ≤ 16) :
    Calls Tryz.prog 59 #[I 14, I f] w (Gives (.tuple #[I (limLow 14 f), I (limHigh 14 f)]) w) := by
  have h0 := lim_at0 14 f hf0 hf1
  have h1 := lim_at1 14 f hf0 hf1
  rw [show limList 14 = limBase.set 25 5 from rfl] at h0 h1
  have b2 : (intCells limBase)[2]? = some (I 1) := rfl
  have b3 : (intCells limBase)[3]? = some (I 1099511627776) := rfl
  have b11 : (intCells limBase)[11]? = some (I 511) := rfl
  have b24 : (intCells (limBase.set 11 63))[24]? = some (I 0) := rfl
  have b25 : (intCells ((limBase.set 11 63).set 24 1))[25]? = some (I 18) := rfl
  have b25' : (intCells limBase)[25]? = some (I 18) := rfl
  go_enter Tryz.func59, Tryz.ntmps59
  go_wp2_with (first | (refine wpList_build_as (t := 135) rfl _ rfl (intCells limBase) (by kernel_rfl) ?_) | (refine wpList_var_row rfl rfl _ _ _ rfl rfl rfl rfl _ (intCells limBase) lim_info rfl rfl rfl (intCells_one _) ?_))
  go_quiet (fail)
  go_wp2
  go_ret2
  exact ⟨rfl, below_var_drewN _ _ _⟩
set_option maxRecDepth 10000 in
set_option maxHeartbeats 400000 in
theorem limits_else (k : Int) (c1 : k ≠ 1) (c6 : k ≠ 6) (c7 : k ≠ 7) (c8 : k ≠ 8) (c14 : k ≠ 14) (f : Int) (w : World) (hf0 : 0 ≤ f) (hf1 : f ≤ 16) :
    Calls Tryz.prog 59 #[I k, I f] w (Gives (.tuple #[I (limLow k f), I (limHigh k f)]) w) := by
  have h0 := lim_at0 k f hf0 hf1
  have h1 := lim_at1 k f hf0 hf1
  rw [show limList k = limBase from by unfold limList; rw [if_neg (by omega), if_neg (by omega), if_neg (by omega), if_neg (by omega)]] at h0 h1
  have b2 : (intCells limBase)[2]? = some (I 1) := rfl
  have b3 : (intCells limBase)[3]? = some (I 1099511627776) := rfl
  have b11 : (intCells limBase)[11]? = some (I 511) := rfl
  have b24 : (intCells (limBase.set 11 63))[24]? = some (I 0) := rfl
  have b25 : (intCells ((limBase.set 11 63).set 24 1))[25]? = some (I 18) := rfl
  have b25' : (intCells limBase)[25]? = some (I 18) := rfl
  have k1 : (k == 1) = false := beq_eq_false_iff_ne.2 (by omega)
  have k6 : (k == 6) = false := beq_eq_false_iff_ne.2 (by omega)
  have k7 : (k == 7) = false := beq_eq_false_iff_ne.2 (by omega)
  have k8 : (k == 8) = false := beq_eq_false_iff_ne.2 (by omega)
  have k14 : (k == 14) = false := beq_eq_false_iff_ne.2 (by omega)
  go_enter Tryz.func59, Tryz.ntmps59
  go_wp2_with (first | (refine wpList_build_as (t := 135) rfl _ rfl (intCells limBase) (by kernel_rfl) ?_) | (refine wpList_var_row rfl rfl _ _ _ rfl rfl rfl rfl _ (intCells limBase) lim_info rfl rfl rfl (intCells_one _) ?_))
  go_quiet (fail)
  go_wp2
  go_ret2
  exact ⟨rfl, below_var_drewN _ _ _⟩
theorem limits_any (k f : Int) (w : World) (hf0 : 0 ≤ f) (hf1 : f ≤ 16) :
    Calls Tryz.prog 59 #[I k, I f] w (Gives (.tuple #[I (limLow k f), I (limHigh k f)]) w) := by
  by_cases c1 : k = 1
  · subst c1; exact limits_1 f w hf0 hf1
  by_cases c6 : k = 6
  · subst c6; exact limits_6 f w hf0 hf1
  by_cases c7 : k = 7
  · subst c7; exact limits_7 f w hf0 hf1
  by_cases c8 : k = 8
  · subst c8; exact limits_8 f w hf0 hf1
  by_cases c14 : k = 14
  · subst c14; exact limits_14 f w hf0 hf1
  exact limits_else k c1 c6 c7 c8 c14 f w hf0 hf1
end Go.Proofs.YtpgagfmpikhpkaaGreatDoor

/- letter.noSeries, validMove and the small closures. -/
namespace Go.Proofs.YtpgagfmpikhpkaaGreatDoor
open Go Go.RowKit

theorem ret_bool {a b : Bool} (h : a = b) : Ending.returned (.bool a) = .returned (.bool b) := by rw [h]
/-- The lengths are given beside the series. -/
def noSer (n m : Nat) (s : Ser) : Bool := decide (n + m + s.zone.size = 0 ∧ s.minute = 0 ∧ s.length = 0 ∧ s.gap = 0 ∧ s.fold = 0)
theorem box_ser (s : Ser) (vr vm : Value) : serCells s vr vm = #[vr, I s.minute, I s.length, .string s.zone, I s.gap, I s.fold, vm] := rfl

set_option maxRecDepth 10000 in
set_option maxHeartbeats 400000 in
theorem noSeries_any (s : Ser) (A B : Option Addr) (n m c d : Nat) (w : World) (hn : n ≤ 140737488355328) (hm : m ≤ 140737488355328) (hz : s.zone.size ≤ 140737488355328) :
    Calls Tryz.prog 42 #[.agg (serCells s (.slice A n c) (.slice B m d))] w (Gives (.bool (noSer n m s)) w) := by
  rw [box_ser]
  go_enter Tryz.func42, Tryz.ntmps42
  go_wp2
  all_goals
    go_ret
    refine ⟨ret_bool ?_, below_var _ _⟩
    unfold noSer
    first | exact (decide_eq_false (by omega)).symm | (rw [Bool.eq_iff_iff]; simp only [beq_iff_eq, decide_eq_true_eq]; omega)

def inB (n lo hi : Int) : Bool := decide (lo ≤ n ∧ n ≤ hi)
set_option maxRecDepth 10000 in
set_option maxHeartbeats 400000 in
theorem moveIn_any (n lo hi : Int) (w : World) :
    Calls Tryz.prog 76 #[I n, I lo, I hi] w fun e w' => e = .returned (.bool (inB n lo hi)) ∧ w = w' := by
  by_cases h1 : lo ≤ n
  all_goals
    go_enter Tryz.func76, Tryz.ntmps76
    go_wp2
    go_ret
    refine ⟨ret_bool ?_, rfl⟩
    unfold inB
    first | exact (decide_eq_false (by omega)).symm | (rw [Bool.eq_iff_iff]; simp only [decide_eq_true_eq]; omega)

def vMove (m : Mv) : Bool :=
  if m.drop then decide (0 ≤ m.day ∧ m.day ≤ 1099511627776 ∧ m.toDay = 0 ∧ m.minute = 0 ∧ m.length = 0)
  else decide (0 ≤ m.day ∧ m.day ≤ 1099511627776 ∧ 0 ≤ m.toDay ∧ m.toDay ≤ 1099511627776 ∧ 0 ≤ m.minute ∧ m.minute ≤ 1439 ∧ 1 ≤ m.length ∧ m.length ≤ 10080)
theorem vMove_t (d t n l : Int) : vMove ⟨d, true, t, n, l⟩ = decide (0 ≤ d ∧ d ≤ 1099511627776 ∧ t = 0 ∧ n = 0 ∧ l = 0) := rfl
theorem vMove_f (d t n l : Int) : vMove ⟨d, false, t, n, l⟩ = decide (0 ≤ d ∧ d ≤ 1099511627776 ∧ 0 ≤ t ∧ t ≤ 1099511627776 ∧ 0 ≤ n ∧ n ≤ 1439 ∧ 1 ≤ l ∧ l ≤ 10080) := rfl
set_option maxRecDepth 10000 in
set_option maxHeartbeats 400000 in
theorem validMove_any (m : Mv) (w : World) : Calls Tryz.prog 60 #[.agg (mvCells m)] w (Gives (.bool (vMove m)) w) := by
  obtain ⟨d, b, t, n, l⟩ := m
  rw [show mvCells ⟨d, b, t, n, l⟩ = #[I d, .bool b, I t, I n, I l] from rfl]
  cases b
  all_goals
    go_enter Tryz.func60, Tryz.ntmps60
    go_wp2_with (go_at_call 76; refine (moveIn_any _ _ _ _).mono ?_; rintro e w' ⟨rfl, rfl⟩)
    all_goals
      go_ret
      refine ⟨ret_bool ?_, below_var _ _⟩
      first | rw [vMove_t] | rw [vMove_f]
      simp only [inB, decide_eq_true_eq] at *
      first | exact (decide_eq_false (by omega)).symm | exact (decide_eq_true (by omega)).symm | (rw [Bool.eq_iff_iff]; simp only [decide_eq_true_eq]; omega)
end Go.Proofs.YtpgagfmpikhpkaaGreatDoor

/- letter.numbers: the addresses of the fields that are numbers. -/
namespace Go.Proofs.YtpgagfmpikhpkaaGreatDoor
open Go Go.RowKit

def np (b i : Nat) : Value := .pointer (some ⟨b, i, none⟩)
def numPtrs (b : Nat) : Array Value := #[np b 3, np b 4, np b 5, np b 6, np b 7, np b 8, np b 9, np b 10, np b 11, .pointer none, .pointer none, np b 24, np b 25, np b 26, .pointer none, .pointer none, .pointer none]
theorem numPtrs_one (b : Nat) : (numPtrs b).all (·.oneCell') = true := by kernel_rfl

section
variable {P : Program} {ops : Array Oper} {Q : Exit → Act → World → Prop} {a : Act} {w : World} {rest : List Oper} {o : Oper}
/-- A whole row stored into the variable that was made last, a draw behind it. -/
theorem wpList_store_new_drew (hg : o.guard = none) (t : TypeId) (x y : Operand) (ho : o.op = .store t x y) (hd : o.dst = none) (old cells : Array Value)
    (hx : a.eval x = .pointer (some ⟨w.heap.size, 0, none⟩)) (hy : a.eval y = .agg cells)
    (hi : (P.info? t).map (·.size) = some cells.size) (hs : old.size = cells.size) (h1 : cells.all (·.oneCell') = true)
    (h : wpList P ops Q rest a (w.alloc (.cells cells t)).drew) : wpList P ops Q (o :: rest) a (w.alloc (.cells old t)).drew := by
  refine wpList_store_row hg t x y ho w.heap.size cells hx hy t old (heap_alloc_last w _) hi hs h1 ?_
  rw [hd]
  have e : ((w.alloc (.cells old t)).drew).setRow w.heap.size cells = (w.alloc (.cells cells t)).drew := by
    rw [← World.setRow_alloc_new w old cells t]; rfl
  rw [e]
  exact h
end

set_option maxRecDepth 10000 in
set_option maxHeartbeats 400000 in
theorem numbers_any (b : Nat) (w : World) :
    Calls Tryz.prog 26 #[.pointer (some ⟨b, 0, none⟩)] w (Gives (.agg (numPtrs b)) w) := by
  go_enter Tryz.func26, Tryz.ntmps26
  go_wp2
  go_still_tail 36, (by kernel_rfl)
  go_wp2_with (first | (refine wpList_build_as rfl _ rfl (numPtrs b) (by kernel_rfl) ?_) | (refine wpList_store_new_drew rfl _ _ _ rfl rfl _ (numPtrs b) rfl rfl (by kernel_rfl) rfl (numPtrs_one b) ?_))
  refine bodyPost_ret (v := .agg (numPtrs b)) (results_cell_row rfl _ _ w.heap.size _ (numPtrs b) (0, 0) _ rfl (heap_alloc_last w _) Tryz.underlying66 rfl (by kernel_rfl)) rfl ⟨rfl, ?_⟩
  exact (below_var w _).drew
end Go.Proofs.YtpgagfmpikhpkaaGreatDoor

/- letter.validCells. -/
namespace Go.Proofs.YtpgagfmpikhpkaaGreatDoor
open Go Go.RowKit

/-- A slice of ints with this address reads as zs, below block B. -/
def IntsAt (w : World) (B : Nat) (A : Option Addr) (zs : List Int) : Prop :=
  zs.length = 0 ∨ ∃ b off, A = some ⟨b, off, none⟩ ∧ b < B ∧ ∀ j, j < zs.length → w.cell? ⟨b, off + j, none⟩ = some (I (zs[j]?.getD 0))
theorem IntsAt.keep {w w' : World} {B : Nat} {A : Option Addr} {zs : List Int} (h : IntsAt w B A zs) (hb : Below B w w') : IntsAt w' B A zs := by
  rcases h with h | ⟨b, off, hA, hbB, hc⟩
  · exact .inl h
  · exact .inr ⟨b, off, hA, hbB, fun j hj => (hb.cell (p := ⟨b, off + j, none⟩) hbB).trans (hc j hj)⟩
theorem IntsAt.more {w : World} {B B' : Nat} {A : Option Addr} {zs : List Int} (h : IntsAt w B A zs) (hB : B ≤ B') : IntsAt w B' A zs := by
  rcases h with h | ⟨b, off, hA, hbB, hc⟩
  · exact .inl h
  · exact .inr ⟨b, off, hA, by omega, hc⟩

def cellOK (srv : Bool) (zs : List Int) (j : Nat) : Bool :=
  if srv then decide (0 ≤ zs[j]?.getD 0 ∧ zs[j]?.getD 0 ≤ 255 ∧ zs[j]?.getD 0 < 16 ∧ (j = 0 ∨ zs[j - 1]?.getD 0 < zs[j]?.getD 0)) else decide (0 ≤ zs[j]?.getD 0 ∧ zs[j]?.getD 0 ≤ 255)
theorem cellOK_t {zs : List Int} {j : Nat} {z p : Int} (hz : zs[j]?.getD 0 = z) (hp : zs[j - 1]?.getD 0 = p) : cellOK true zs j = decide (0 ≤ z ∧ z ≤ 255 ∧ z < 16 ∧ (j = 0 ∨ p < z)) := by
  subst hz hp; rfl
theorem cellOK_f {zs : List Int} {j : Nat} {z : Int} (hz : zs[j]?.getD 0 = z) : cellOK false zs j = decide (0 ≤ z ∧ z ≤ 255) := by
  subst hz; rfl
def srvB (k : Int) : Bool := decide (8 ≤ k ∧ k ≤ 14)
def vCells (k : Int) (zs : List Int) : Bool := (List.range zs.length).all (cellOK (srvB k) zs) && (decide (k ≠ 17) || decide (0 < zs.length))

theorem vCells_no {k : Int} {zs : List Int} {j : Nat} (hj : j < zs.length) (h : cellOK (srvB k) zs j = false) : vCells k zs = false := by
  unfold vCells
  have : (List.range zs.length).all (cellOK (srvB k) zs) = false := by
    rw [Bool.eq_false_iff]; intro h'; rw [List.all_eq_true] at h'
    have := h' j (List.mem_range.2 hj); rw [h] at this; cases this
  rw [this]; rfl
theorem vCells_end {k : Int} {zs : List Int} (h : ∀ j, j < zs.length → cellOK (srvB k) zs j = true) : vCells k zs = (decide (k ≠ 17) || decide (0 < zs.length)) := by
  unfold vCells
  have : (List.range zs.length).all (cellOK (srvB k) zs) = true := by
    rw [List.all_eq_true]; intro j hj; exact h j (List.mem_range.1 hj)
  rw [this]; rfl

theorem neq_dec (a b : Int) : (a != b) = decide (a ≠ b) := by
  rw [Bool.eq_iff_iff]; simp
theorem beq_dec (a b : Int) : (a == b) = decide (a = b) := by
  rw [Bool.eq_iff_iff]; simp

attribute [local go_sem] lt_get0 lt_get29
set_option maxRecDepth 10000 in
set_option maxHeartbeats 800000 in
theorem validCells_srv (l : Lt) (vr vm : Value) (b off c : Nat) (w : World) (hm : l.cells.length ≤ 140737488355328) (hb : b < w.heap.size)
    (hc : ∀ j, j < l.cells.length → w.cell? ⟨b, off + j, none⟩ = some (I (l.cells[j]?.getD 0))) (h8 : 8 ≤ l.kind) (h14 : l.kind ≤ 14) :
    Calls Tryz.prog 62 #[.agg (ltCells l vr vm (.slice (some ⟨b, off, none⟩) l.cells.length c))] w (Gives (.bool (vCells l.kind l.cells)) w) := by
  have hs : srvB l.kind = true := by unfold srvB; exact decide_eq_true (by omega)
  have HS := Lib.hid hs
  have HC := Lib.hid hc
  clear hs hc
  go_enter Tryz.func62, Tryz.ntmps62
  go_wp2
  go_loop [17] (fun i => ∃ k : Nat, k ≤ l.cells.length ∧ i = .int .i64 k ∧ Hid (∀ j, j < k → cellOK (srvB l.kind) l.cells j = true)) (fun i => l.cells.length - (intOf i).toNat)
  case atStart => exact ⟨0, Nat.zero_le _, rfl, Lib.hid (fun j hj => absurd hj (by omega))⟩
  case round =>
    obtain ⟨k, hk, rfl, HK⟩ := hrel
    by_cases hlt : k < l.cells.length
    · have h1 := HC.out k hlt
      have h2 := HC.out (k - 1) (by omega)
      obtain ⟨z, hz⟩ : ∃ z, l.cells[k]?.getD 0 = z := ⟨_, rfl⟩
      obtain ⟨p, hp⟩ : ∃ p, l.cells[k - 1]?.getD 0 = p := ⟨_, rfl⟩
      rw [hz] at h1
      rw [hp] at h2
      have HZ := Lib.hid hz
      have HP := Lib.hid hp
      clear hz hp
      go_wp2
      all_goals first
        | (go_round
           case rel => exact ⟨k + 1, by omega, by go_num, Lib.hid (fun j hj => by
               rcases Nat.lt_succ_iff_lt_or_eq.1 hj with h | h
               · exact HK.out j h
               · subst h; have hs := HS.out; rw [hs, cellOK_t HZ.out HP.out]; exact decide_eq_true (by omega))⟩
           case measure => simp [intOf]; omega)
        | (go_ret
           exact ⟨ret_bool (vCells_no hlt (by have hs := HS.out; rw [hs, cellOK_t HZ.out HP.out]; exact decide_eq_false (by omega))).symm, below_var _ _⟩)
    · have HE := Lib.hid (vCells_end (k := l.kind) (zs := l.cells) (fun j hj => HK.out j (by omega)))
      by_cases h17 : l.kind = 17
      · exact absurd h17 (by omega)
      · have b17 : (l.kind != 17) = true := by rw [neq_dec]; exact decide_eq_true (by omega)
        go_wp2
        go_ret
        exact ⟨ret_bool (by rw [HE.out, show decide (l.kind ≠ 17) = true from decide_eq_true (by omega)]; rfl), below_var _ _⟩
set_option maxRecDepth 10000 in
set_option maxHeartbeats 800000 in
theorem validCells_high (l : Lt) (vr vm : Value) (b off c : Nat) (w : World) (hm : l.cells.length ≤ 140737488355328) (hb : b < w.heap.size)
    (hc : ∀ j, j < l.cells.length → w.cell? ⟨b, off + j, none⟩ = some (I (l.cells[j]?.getD 0))) (h8 : 8 ≤ l.kind) (h14 : 15 ≤ l.kind) :
    Calls Tryz.prog 62 #[.agg (ltCells l vr vm (.slice (some ⟨b, off, none⟩) l.cells.length c))] w (Gives (.bool (vCells l.kind l.cells)) w) := by
  have hs : srvB l.kind = false := by unfold srvB; exact decide_eq_false (by omega)
  have HS := Lib.hid hs
  have HC := Lib.hid hc
  clear hs hc
  have d14 : decide (l.kind ≤ 14) = false := decide_eq_false (by omega)
  go_enter Tryz.func62, Tryz.ntmps62
  go_wp2
  go_loop [17] (fun i => ∃ k : Nat, k ≤ l.cells.length ∧ i = .int .i64 k ∧ Hid (∀ j, j < k → cellOK (srvB l.kind) l.cells j = true)) (fun i => l.cells.length - (intOf i).toNat)
  case atStart => exact ⟨0, Nat.zero_le _, rfl, Lib.hid (fun j hj => absurd hj (by omega))⟩
  case round =>
    obtain ⟨k, hk, rfl, HK⟩ := hrel
    by_cases hlt : k < l.cells.length
    · have h1 := HC.out k hlt
      have h2 := HC.out (k - 1) (by omega)
      obtain ⟨z, hz⟩ : ∃ z, l.cells[k]?.getD 0 = z := ⟨_, rfl⟩
      obtain ⟨p, hp⟩ : ∃ p, l.cells[k - 1]?.getD 0 = p := ⟨_, rfl⟩
      rw [hz] at h1
      rw [hp] at h2
      have HZ := Lib.hid hz
      have HP := Lib.hid hp
      clear hz hp
      go_wp2
      all_goals first
        | (go_round
           case rel => exact ⟨k + 1, by omega, by go_num, Lib.hid (fun j hj => by
               rcases Nat.lt_succ_iff_lt_or_eq.1 hj with h | h
               · exact HK.out j h
               · subst h; have hs := HS.out; rw [hs, cellOK_f HZ.out]; exact decide_eq_true (by omega))⟩
           case measure => simp [intOf]; omega)
        | (go_ret
           exact ⟨ret_bool (vCells_no hlt (by have hs := HS.out; rw [hs, cellOK_f HZ.out]; exact decide_eq_false (by omega))).symm, below_var _ _⟩)
    · have HE := Lib.hid (vCells_end (k := l.kind) (zs := l.cells) (fun j hj => HK.out j (by omega)))
      by_cases h17 : l.kind = 17
      · have b17 : (l.kind != 17) = false := by rw [neq_dec]; exact decide_eq_false (by omega)
        have e17 : decide (l.kind ≠ 17) = false := decide_eq_false (by omega)
        have HS17 := Lib.hid e17
        clear h17 e17
        go_wp2
        all_goals
          go_ret
          refine ⟨ret_bool ?_, below_var _ _⟩
          rw [HE.out, HS17.out, Bool.false_or]
      · have b17 : (l.kind != 17) = true := by rw [neq_dec]; exact decide_eq_true (by omega)
        go_wp2
        go_ret
        exact ⟨ret_bool (by rw [HE.out, show decide (l.kind ≠ 17) = true from decide_eq_true (by omega)]; rfl), below_var _ _⟩
set_option maxRecDepth 10000 in
set_option maxHeartbeats 800000 in
theorem validCells_low (l : Lt) (vr vm : Value) (b off c : Nat) (w : World) (hm : l.cells.length ≤ 140737488355328) (hb : b < w.heap.size)
    (hc : ∀ j, j < l.cells.length → w.cell? ⟨b, off + j, none⟩ = some (I (l.cells[j]?.getD 0))) (h8 : l.kind < 8) :
    Calls Tryz.prog 62 #[.agg (ltCells l vr vm (.slice (some ⟨b, off, none⟩) l.cells.length c))] w (Gives (.bool (vCells l.kind l.cells)) w) := by
  have hs : srvB l.kind = false := by unfold srvB; exact decide_eq_false (by omega)
  have HS := Lib.hid hs
  have HC := Lib.hid hc
  clear hs hc
  go_enter Tryz.func62, Tryz.ntmps62
  go_wp2
  go_loop [17] (fun i => ∃ k : Nat, k ≤ l.cells.length ∧ i = .int .i64 k ∧ Hid (∀ j, j < k → cellOK (srvB l.kind) l.cells j = true)) (fun i => l.cells.length - (intOf i).toNat)
  case atStart => exact ⟨0, Nat.zero_le _, rfl, Lib.hid (fun j hj => absurd hj (by omega))⟩
  case round =>
    obtain ⟨k, hk, rfl, HK⟩ := hrel
    by_cases hlt : k < l.cells.length
    · have h1 := HC.out k hlt
      have h2 := HC.out (k - 1) (by omega)
      obtain ⟨z, hz⟩ : ∃ z, l.cells[k]?.getD 0 = z := ⟨_, rfl⟩
      obtain ⟨p, hp⟩ : ∃ p, l.cells[k - 1]?.getD 0 = p := ⟨_, rfl⟩
      rw [hz] at h1
      rw [hp] at h2
      have HZ := Lib.hid hz
      have HP := Lib.hid hp
      clear hz hp
      go_wp2
      all_goals first
        | (go_round
           case rel => exact ⟨k + 1, by omega, by go_num, Lib.hid (fun j hj => by
               rcases Nat.lt_succ_iff_lt_or_eq.1 hj with h | h
               · exact HK.out j h
               · subst h; have hs := HS.out; rw [hs, cellOK_f HZ.out]; exact decide_eq_true (by omega))⟩
           case measure => simp [intOf]; omega)
        | (go_ret
           exact ⟨ret_bool (vCells_no hlt (by have hs := HS.out; rw [hs, cellOK_f HZ.out]; exact decide_eq_false (by omega))).symm, below_var _ _⟩)
    · have HE := Lib.hid (vCells_end (k := l.kind) (zs := l.cells) (fun j hj => HK.out j (by omega)))
      by_cases h17 : l.kind = 17
      · exact absurd h17 (by omega)
      · have b17 : (l.kind != 17) = true := by rw [neq_dec]; exact decide_eq_true (by omega)
        go_wp2
        go_ret
        exact ⟨ret_bool (by rw [HE.out, show decide (l.kind ≠ 17) = true from decide_eq_true (by omega)]; rfl), below_var _ _⟩
set_option maxRecDepth 10000 in
set_option maxHeartbeats 800000 in
theorem validCells_none (l : Lt) (vr vm : Value) (A : Option Addr) (c : Nat) (w : World) (hl : l.cells.length = 0) :
    Calls Tryz.prog 62 #[.agg (ltCells l vr vm (.slice A 0 c))] w (Gives (.bool (vCells l.kind l.cells)) w) := by
  have HE := Lib.hid (vCells_end (k := l.kind) (zs := l.cells) (fun j hj => absurd hj (by omega)))
  rw [hl] at HE
  clear hl
  have h8 : decide (8 ≤ l.kind) = true ∨ decide (8 ≤ l.kind) = false := by cases decide (8 ≤ l.kind) <;> simp
  have h14 : decide (l.kind ≤ 14) = true ∨ decide (l.kind ≤ 14) = false := by cases decide (l.kind ≤ 14) <;> simp
  have h17 : (l.kind != 17) = decide (l.kind ≠ 17) := neq_dec _ _
  have h17' : decide (l.kind ≠ 17) = true ∨ decide (l.kind ≠ 17) = false := by cases decide (l.kind ≠ 17) <;> simp
  rcases h8 with h8 | h8 <;> rcases h14 with h14 | h14 <;> rcases h17' with h17' | h17'
  all_goals
    rw [h17'] at h17 HE
    clear h17'
    go_enter Tryz.func62, Tryz.ntmps62
    go_wp2
    go_loop [17] (fun i => i = .int .i64 0) (fun _ => 0)
    case atStart => rfl
    case round =>
      subst hrel
      go_wp2
      go_ret
      exact ⟨ret_bool HE.out.symm, below_var _ _⟩
theorem validCells_any (l : Lt) (vr vm : Value) (A : Option Addr) (c : Nat) (w : World) (hm : l.cells.length ≤ 140737488355328) (hi : IntsAt w w.heap.size A l.cells) :
    Calls Tryz.prog 62 #[.agg (ltCells l vr vm (.slice A l.cells.length c))] w (Gives (.bool (vCells l.kind l.cells)) w) := by
  rcases hi with h | ⟨b, off, rfl, hb, hc⟩
  · have := validCells_none l vr vm A c w h
    rw [← h] at this
    exact this
  · by_cases h8 : 8 ≤ l.kind
    · by_cases h14 : l.kind ≤ 14
      · exact validCells_srv l vr vm b off c w hm hb hc h8 h14
      · exact validCells_high l vr vm b off c w hm hb hc h8 (by omega)
    · exact validCells_low l vr vm b off c w hm hb hc (by omega)
end Go.Proofs.YtpgagfmpikhpkaaGreatDoor

/- letter.validNumbers. -/
namespace Go.Proofs.YtpgagfmpikhpkaaGreatDoor
open Go Go.RowKit

def numOff (k : Nat) : Option Nat := ([some 3, some 4, some 5, some 6, some 7, some 8, some 9, some 10, some 11, none, none, some 24, some 25, some 26, none, none, none][k]?).getD none
def numF (l : Lt) (k : Nat) : Int := ([l.meeting, l.edition, l.issuer, l.version, l.person, l.other, l.resource, l.scope, l.day, 0, 0, l.deadline, l.state, l.grain, 0, 0, 0][k]?).getD 0
def ptrAt (b k : Nat) : Value := match numOff k with | some o => np b o | none => .pointer none
theorem all17 {p : Nat → Prop} (h : p 0 ∧ p 1 ∧ p 2 ∧ p 3 ∧ p 4 ∧ p 5 ∧ p 6 ∧ p 7 ∧ p 8 ∧ p 9 ∧ p 10 ∧ p 11 ∧ p 12 ∧ p 13 ∧ p 14 ∧ p 15 ∧ p 16) (k : Nat) (hk : k < 17) : p k := by
  obtain ⟨h0, h1, h2, h3, h4, h5, h6, h7, h8, h9, h10, h11, h12, h13, h14, h15, h16⟩ := h
  match k, hk with
  | 0, _ => exact h0
  | 1, _ => exact h1
  | 2, _ => exact h2
  | 3, _ => exact h3
  | 4, _ => exact h4
  | 5, _ => exact h5
  | 6, _ => exact h6
  | 7, _ => exact h7
  | 8, _ => exact h8
  | 9, _ => exact h9
  | 10, _ => exact h10
  | 11, _ => exact h11
  | 12, _ => exact h12
  | 13, _ => exact h13
  | 14, _ => exact h14
  | 15, _ => exact h15
  | 16, _ => exact h16
  | n + 17, h => exact absurd h (by omega)
theorem numPtrs_at (b k : Nat) (hk : k < 17) : (numPtrs b)[k]? = some (ptrAt b k) := by
  exact all17 (p := fun k => (numPtrs b)[k]? = some (ptrAt b k)) (by refine ⟨?_, ?_, ?_, ?_, ?_, ?_, ?_, ?_, ?_, ?_, ?_, ?_, ?_, ?_, ?_, ?_, ?_⟩ <;> rfl) k hk
theorem index_nums (b k : Nat) (hk : k < 17) (w : World) : (Instr.index 66 (.agg (numPtrs b)) (.int .i64 (k : Int))).run Tryz.prog w = .ok (ptrAt b k) w := by
  exact all17 (p := fun k => (Instr.index 66 (.agg (numPtrs b)) (.int .i64 (k : Int))).run Tryz.prog w = .ok (ptrAt b k) w) (by refine ⟨?_, ?_, ?_, ?_, ?_, ?_, ?_, ?_, ?_, ?_, ?_, ?_, ?_, ?_, ?_, ?_, ?_⟩ <;> kernel_rfl) k hk
theorem lt_num (l : Lt) (vr vm vc : Value) (k o : Nat) (hk : k < 17) (h : numOff k = some o) : (ltCells l vr vm vc)[o]? = some (I (numF l k)) := by
  exact all17 (p := fun k => ∀ o, numOff k = some o → (ltCells l vr vm vc)[o]? = some (I (numF l k))) (by refine ⟨?_, ?_, ?_, ?_, ?_, ?_, ?_, ?_, ?_, ?_, ?_, ?_, ?_, ?_, ?_, ?_, ?_⟩ <;> (intro o h; first | (cases h; done) | (cases h; rfl))) k hk o h

def specialB (k : Nat) : Bool := k == 4 || k == 5 || k == 6 || k == 12
def numLow (kind : Int) (bare : Bool) (k : Nat) : Int := if usesB kind k && !(bare && specialB k) then limLow kind k else 0
def numHigh (kind : Int) (bare : Bool) (k : Nat) : Int := if usesB kind k && !(bare && specialB k) then limHigh kind k else 0
def numOK (l : Lt) (bare : Bool) (k : Nat) : Bool := (numOff k).isNone || (decide (numLow l.kind bare k ≤ numF l k) && decide (numF l k ≤ numHigh l.kind bare k))
def vNums (l : Lt) (bare : Bool) : Bool := (List.range 17).all (numOK l bare) && (decide (l.kind ≠ 5) || decide (l.other ≠ l.person))
theorem vNums_no {l : Lt} {bare : Bool} {j : Nat} (hj : j < 17) (h : numOK l bare j = false) : vNums l bare = false := by
  unfold vNums
  have : (List.range 17).all (numOK l bare) = false := by
    rw [Bool.eq_false_iff]; intro h'; rw [List.all_eq_true] at h'
    have := h' j (List.mem_range.2 hj); rw [h] at this; cases this
  rw [this]; rfl
theorem vNums_end {l : Lt} {bare : Bool} (h : ∀ j, j < 17 → numOK l bare j = true) : vNums l bare = (decide (l.kind ≠ 5) || decide (l.other ≠ l.person)) := by
  unfold vNums
  have : (List.range 17).all (numOK l bare) = true := by
    rw [List.all_eq_true]; intro j hj; exact h j (List.mem_range.1 hj)
  rw [this]; rfl
theorem numOK_zero {l : Lt} {bare : Bool} {k o : Nat} (ho : numOff k = some o) (h : (usesB l.kind k && !(bare && specialB k)) = false) : numOK l bare k = (decide (0 ≤ numF l k) && decide (numF l k ≤ 0)) := by
  unfold numOK numLow numHigh; rw [ho, h]; rfl
theorem numOK_lim {l : Lt} {bare : Bool} {k o : Nat} (ho : numOff k = some o) (h : (usesB l.kind k && !(bare && specialB k)) = true) : numOK l bare k = (decide (limLow l.kind k ≤ numF l k) && decide (numF l k ≤ limHigh l.kind k)) := by
  unfold numOK numLow numHigh; rw [ho, h]; rfl
theorem numOK_nil {l : Lt} {bare : Bool} {k : Nat} (ho : numOff k = none) : numOK l bare k = true := by
  simp [numOK, ho]

theorem noSeries_ex (s : Ser) (A B : Option Addr) (n m c d : Nat) (w : World) (hn : n ≤ 140737488355328) (hm : m ≤ 140737488355328) (hz : s.zone.size ≤ 140737488355328) :
    Calls Tryz.prog 42 #[.agg #[.slice A n c, I s.minute, I s.length, .string s.zone, I s.gap, I s.fold, .slice B m d]] w (Gives (.bool (noSer n m s)) w) :=
  noSeries_any s A B n m c d w hn hm hz

def bareB (kind : Int) (n m : Nat) (s : Ser) : Bool := decide (kind = 8) && noSer n m s
/-- The cells of a block, all of them. -/
def Row (w : World) (b : Nat) (cs : Array Value) : Prop := b < w.heap.size ∧ ∀ i, w.cell? ⟨b, i, none⟩ = cs[i]?
theorem Row.keep {w w' : World} {b : Nat} {cs : Array Value} (h : Row w b cs) (hb : Below w.heap.size w w') : Row w' b cs :=
  ⟨Nat.lt_of_lt_of_le h.1 hb.size, fun i => (hb.cell (p := ⟨b, i, none⟩) h.1).trans (h.2 i)⟩
theorem Row.new (w : World) (cs : Array Value) (t : TypeId) : Row (w.alloc (.cells cs t)) w.heap.size cs :=
  ⟨by simp, fun i => by rw [World.cell?_alloc_at _ _ _ _ rfl]⟩
theorem below_trans {w w1 w2 : World} (h : Below w.heap.size w w1) (h2 : Below w1.heap.size w1 w2) : Below w.heap.size w w2 := h.trans (h2.mono h.size)
end Go.Proofs.YtpgagfmpikhpkaaGreatDoor
