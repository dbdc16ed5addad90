/- kalendsref13.Yearly. -/
import Derived.Test.YtbdkalpljhpnmaaGreatKc
import Derived.BigQuiet
import Derived.Deep.AppendLies
import Derived.Deep.CutBlock
import Derived.Deep.DeepCutAuto
import Derived.Deep.DrawnRows
import Derived.Deep.MidRow
import Derived.Deep.QuietTactic
import Derived.Deep.RegionHeld3
import Derived.Deep.RegionLaw
import Derived.Deep.WholeRow
import Derived.Great.BuildSlice
import Derived.Handy
import Derived.Laws.BytesString
import Derived.Laws.CopyOwn
import Derived.Laws.EntriesVeiled
import Derived.Laws.MakeOwn
import Derived.Laws.ResultCell
import Derived.Laws.Rows
import Derived.Laws.Tables
import Derived.Lib.Hide
import Derived.LoopIn
import Derived.LoopNIn
import Derived.Maps.AppendAt
import Derived.Outline
import Derived.OwnWalkIn
import Derived.RangeFuncBound
import Derived.RangeFuncBox
import Derived.RangeFuncCalls
import Derived.RangeFuncLeaves
import Derived.RangeFuncNested
import Derived.Shelf.Abstract
import Derived.Shelf.Bytes.SlSmallAll
import Derived.Shelf.RegionOpen
import Derived.StillTailTactics
import Derived.Stop.BytesEq
import Derived.TacticsInMore
import Derived.WalkKit
import Derived.WalkLawsBesides
import Derived.WalkSpells
namespace Go.Proofs.YtbdkalpljhpnmaaGreat
open Go Go.RowKit

def ytr (c : Cal) (bg y : Int) (r r' : Yr) (out : List Tr) : List Tr := if (findF c bg y r).2 = true then insF out ⟨(findF c bg y r).1 * 1440 + r.minute - r'.off, r.off⟩ else out
def yearsF (c : Cal) (r0 r1 : Yr) (stop : Int) : Nat → Int → Int → List Tr → List Tr
  | 0, _, _, out => out
  | n + 1, bg, y, out => if bg < stop then yearsF c r0 r1 stop n (bg + yearF c y) (y + 1) (ytr c bg y r1 r0 (ytr c bg y r0 r1 out)) else out
/-- The transitions of the yearly rules in one cycle. -/
def ysF (z : Zn) : List Tr := match z.yearly with
  | [r0, r1] => yearsF z.cal r0 r1 (z.cal.epoch + zcyc z) 1400 z.cal.epoch 1 []
  | _ => []
def atI (ts : List Tr) (i : Nat) : Int := (ts[i]?.map (·.at_)).getD 0
def gapAt (ts : List Tr) (size : Int) (i : Nat) : Int := (if i + 1 < ts.length then atI ts (i + 1) else atI ts 0 + size) - atI ts i
def gapsF (ts : List Tr) (size : Int) : Bool := (List.range ts.length).all fun i => decide (2160 ≤ gapAt ts size i)
/-- The yearly rules of made zones. -/
structure YrS (r : Yr) : Prop where
  mo : r.month = 1 ∨ r.month = 2
  wk : 1 ≤ r.week ∧ r.week ≤ 5
  wd : 0 ≤ r.wday ∧ r.wday ≤ 6
  mi : 0 ≤ r.minute ∧ r.minute ≤ 1439
  of : -1080 ≤ r.off ∧ r.off ≤ 1080
theorem year_ge (c : Cal) (y : Int) (hc : CalS c) : 12 ≤ yearF c y := by
  obtain ⟨ep, m0, m1, lp, rs, rfl, b1, b2, b3, b4, _⟩ := hc.form
  simp only [yearF, commonF, List.getElem?_cons_zero, List.getElem?_cons_succ, Option.getD_some]
  split <;> omega
theorem scan_bd (wd wk : Int) (n : Nat) : ∀ d cn la : Int, -1 ≤ la → la ≤ d → -1 ≤ (scanF wd wk n d cn la).1 ∧ (scanF wd wk n d cn la).1 ≤ d + n ∨ (scanF wd wk n d cn la).1 = d := by
  induction n with
  | zero => intro d cn la h1 h2; exact .inl ⟨h1, by show la ≤ _; omega⟩
  | succ n ih =>
    intro d cn la h1 h2
    unfold scanF
    split
    · split
      · exact .inr rfl
      · rcases ih (d + 1) (cn + 1) d (by omega) (by omega) with h | h
        · exact .inl ⟨h.1, by omega⟩
        · exact .inl ⟨by omega, by omega⟩
    · rcases ih (d + 1) cn la h1 (by omega) with h | h
      · exact .inl ⟨h.1, by omega⟩
      · exact .inl ⟨by omega, by omega⟩
theorem find_bd (c : Cal) (bg y : Int) (r : Yr) (hc : CalS c) (hr : YrS r) (hb : 0 ≤ bg) : -1 ≤ (findF c bg y r).1 ∧ (findF c bg y r).1 ≤ bg + 30 := by
  have h1 := month_bd c y 1 hc (.inl rfl)
  have h2 := month_bd c y r.month hc hr.mo
  have h3 : bg ≤ firstF c bg y r.month ∧ firstF c bg y r.month ≤ bg + 9 := by unfold firstF; split <;> omega
  unfold findF
  rcases scan_bd r.wday r.week (monthF c y r.month).toNat (firstF c bg y r.month) 0 (-1) (by omega) (by omega) with h | h
  · omega
  · omega
theorem insF_mem {ts : List Tr} {t x : Tr} (h : x ∈ insF ts t) : x = t ∨ x ∈ ts := by
  unfold insF at h
  rcases List.mem_append.1 h with h | h
  · exact .inr (List.mem_of_mem_take h)
  · rcases List.mem_cons.1 h with h | h
    · exact .inl h
    · exact .inr (List.mem_of_mem_drop h)
theorem TrsO.below {lo n c : Nat} {w w' : World} {A : Option Addr} {ts : List Tr} (h : TrsO lo w A n c ts) (hb : Below w.heap.size w w') : TrsO lo w' A n c ts :=
  World.ownsRow.kept (row := none) h ⟨hb.os, hb.tape, hb.output, hb.size, fun k hk _ => hb.block k hk⟩ (by cases (Value.slice A n c).ownBlock <;> simp)
/-- Yearly under way. -/
structure YS (w : World) (cs : Array Value) (W : World) (A : Option Addr) (n c : Nat) (ts : List Tr) : Prop where
  row : Row W w.heap.size cs
  own : TrsO (w.heap.size + 1) W A n c ts
  up : Below w.heap.size w W
  len : ts.length = n
theorem YS.call {w W W' : World} {cs : Array Value} {A : Option Addr} {n c : Nat} {ts : List Tr} (h : YS w cs W A n c ts) (hb : Below W.heap.size W W') : YS w cs W' A n c ts :=
  ⟨h.row.keep hb, h.own.below hb, below_trans h.up hb, h.len⟩
theorem YS.ins {w W W' : World} {cs : Array Value} {A A' : Option Addr} {n c c' : Nat} {ts ts' : List Tr} (h : YS w cs W A n c ts) (hb : Below (w.heap.size + 1) W W') (ho : TrsO (w.heap.size + 1) W' A' (n + 1) c' ts') (hl : ts'.length = n + 1) : YS w cs W' A' (n + 1) c' ts' :=
  ⟨⟨Nat.lt_of_lt_of_le h.row.1 hb.size, fun i => (hb.cell (p := ⟨w.heap.size, i, none⟩) (Nat.lt_succ_self _)).trans (h.row.2 i)⟩, ho, h.up.trans (hb.mono (Nat.le_succ _)), hl⟩
theorem YS.lo {w W : World} {cs : Array Value} {A : Option Addr} {n c : Nat} {ts : List Tr} (h : YS w cs W A n c ts) : w.heap.size + 1 ≤ W.heap.size := h.row.1
def TrB (ts : List Tr) : Prop := ∀ x ∈ ts, -10000000 ≤ x.at_ ∧ x.at_ ≤ 100000000
theorem trB_ytr {c : Cal} {bg y : Int} {r r' : Yr} {ts : List Tr} (h : TrB ts) (hc : CalS c) (hr : YrS r) (hr' : YrS r') (hb : 0 ≤ bg) (hb2 : bg ≤ 10000) : TrB (ytr c bg y r r' ts) := by
  have h1 := find_bd c bg y r hc hr hb
  have h2 := hr.mi
  have h3 := hr'.of
  unfold ytr
  split
  · intro x hx
    rcases insF_mem hx with rfl | hx
    · constructor <;> (simp only; omega)
    · exact h x hx
  · exact h
def YRel (w : World) (cs : Array Value) (c : Cal) (r0 r1 : Yr) (ep stop : Int) (res : List Tr) (o b y : Value) (wr : World) : Prop :=
  ∃ (f : Nat) (bg yy : Int) (A : Option Addr) (n cp : Nat) (ts : List Tr), o = .slice A n cp ∧ b = .int .i64 bg ∧ y = .int .i64 yy ∧ 1 ≤ yy ∧ ep + 12 * (yy - 1) ≤ bg ∧ 0 ≤ bg ∧ bg ≤ stop + 100 ∧ (n : Int) ≤ 2 * (yy - 1) ∧ (stop - bg).toNat ≤ f ∧ yearsF c r0 r1 stop f bg yy ts = res ∧ TrB ts ∧ YS w cs wr A n cp ts
/-- The cells of two yearly rules. -/
structure YC (W : World) (b off : Nat) (r0 r1 : Yr) : Prop where
  a : W.rangeAt b off r0.cells
  b : W.rangeAt b (off + 5) r1.cells
def YrlP (w : World) (ts : List Tr) (ok : Bool) (e : Ending) (w' : World) : Prop := ∃ A n c, ts.length = n ∧ e = .returned (.tuple #[.slice A n c, .bool ok]) ∧ TrsO w.heap.size w' A n c ts ∧ Below w.heap.size w w'
theorem TrsO.lower {lo lo' n c : Nat} {w : World} {A : Option Addr} {ts : List Tr} (h : TrsO lo w A n c ts) (hl : lo' ≤ lo) : TrsO lo' w A n c ts := by
  rcases h.2 with h2 | ⟨g, cap, cur, h1, h2, h3⟩
  · exact ⟨h.1, .inl h2⟩
  · exact ⟨h.1, .inr ⟨g, cap, cur, h1, Nat.le_trans hl h2, h3⟩⟩
def GRel (w : World) (cs : Array Value) (A : Option Addr) (n cp : Nat) (ts : List Tr) (size : Int) (i : Value) (wr : World) : Prop :=
  ∃ k : Nat, k ≤ n ∧ i = .int .i64 k ∧ (∀ j, j < k → 2160 ≤ gapAt ts size j) ∧ YS w cs wr A n cp ts
theorem zcyc_bd (z : Zn) (hc : CalS z.cal) : 0 ≤ zcyc z ∧ zcyc z ≤ 1400 := by
  have h1 := cycD_bd z.cal hc
  unfold zcyc cyc7
  split
  · omega
  · split <;> omega
theorem yearsF_go {c : Cal} {r0 r1 : Yr} {stop bg y : Int} {f : Nat} {ts res : List Tr} (h : yearsF c r0 r1 stop f bg y ts = res) (hb : bg < stop) (hf : (stop - bg).toNat ≤ f) (hy : 12 ≤ yearF c y) :
    ∃ f', (stop - (bg + yearF c y)).toNat ≤ f' ∧ yearsF c r0 r1 stop f' (bg + yearF c y) (y + 1) (ytr c bg y r1 r0 (ytr c bg y r0 r1 ts)) = res := by
  cases f with
  | zero => omega
  | succ f => exact ⟨f, by omega, by rw [yearsF, if_pos hb] at h; exact h⟩
theorem yearsF_end {c : Cal} {r0 r1 : Yr} {stop bg y : Int} {f : Nat} {ts res : List Tr} (h : yearsF c r0 r1 stop f bg y ts = res) (hb : ¬ bg < stop) : ts = res := by
  cases f with
  | zero => exact h
  | succ f => rw [yearsF, if_neg hb] at h; exact h
theorem atI_bd {ts : List Tr} (k : Nat) (h : TrB ts) : -10000000 ≤ atI ts k ∧ atI ts k ≤ 100000000 := by
  unfold atI
  cases e : ts[k]? with
  | none => simp
  | some x => exact h x (List.mem_of_getElem? e)
theorem trs_at {lo g n cp : Nat} {W : World} {ts : List Tr} (h : TrsO lo W (some ⟨g, 0, none⟩) n cp ts) (hl : ts.length = n) (k : Nat) (hk : k < n) : W.cell? ⟨g, k * 2, none⟩ = some (I (atI ts k)) := by
  have hx : ts[k]? = some ts[k] := List.getElem?_eq_getElem (by omega)
  rw [World.ownsRow.cellAt h (k * 2) (by omega), show k * 2 = k * 2 + 0 from rfl, flat_get (s := 2) Tr.cells ts (fun _ _ => rfl) k 0 _ hx (by omega)]
  unfold atI
  rw [hx]
  rfl
theorem gaps_yes {ts : List Tr} {n : Nat} {size : Int} (hl : ts.length = n) (h : ∀ j, j < n → 2160 ≤ gapAt ts size j) : gapsF ts size = true := by
  unfold gapsF
  rw [List.all_eq_true]
  intro j hj
  exact decide_eq_true (h j (by rw [← hl]; exact List.mem_range.1 hj))
theorem gaps_no {ts : List Tr} {n k : Nat} {size : Int} (hl : ts.length = n) (hk : k < n) (h : gapAt ts size k < 2160) : gapsF ts size = false := by
  unfold gapsF
  rw [List.all_eq_false]
  exact ⟨k, List.mem_range.2 (by omega), by simp; omega⟩
theorem gaps_step {ts : List Tr} {k : Nat} {size : Int} (h : ∀ j, j < k → 2160 ≤ gapAt ts size j) (h1 : 2160 ≤ gapAt ts size k) : ∀ j, j < k + 1 → 2160 ≤ gapAt ts size j := by
  intro j hj
  rcases Nat.lt_succ_iff_lt_or_eq.1 hj with h2 | rfl
  · exact h j h2
  · exact h1
set_option maxRecDepth 10000 in
set_option maxHeartbeats 4000000 in
theorem yearly_two (z : Zn) (s : Zs) (r0 r1 : Yr) (w : World) (hc : CalS z.cal) (h : ZnAt w w.heap.size s z) (hy : z.yearly = [r0, r1]) (hr0 : YrS r0) (hr1 : YrS r1) (hlt : z.trans.length ≤ 1000) : Calls Tryz.prog 69 #[.agg (znCells z s)] w (YrlP w (ysF z) (gapsF (ysF z) (zcyc z * 1440))) := by
  have HCY : Hid (∀ W, Below w.heap.size w W → Calls Tryz.prog 71 #[.agg (znCells z s)] W (Gives (I (zcyc z)) W)) := Lib.hid fun W hb => zcyc_yes z s W hc (h.grow hb)
  have HFI : Hid (∀ (bg y : Int) (x : Yr) W, YrS x → 0 ≤ bg → bg ≤ 100000 → 0 ≤ y → Below w.heap.size w W → Calls Tryz.prog 91 #[.agg (calCells z.cal s.A s.a s.B s.b), I bg, I y, .agg #[I x.month, I x.week, I x.wday, I x.minute, I x.off]] W (Gives (.tuple #[I (findF z.cal bg y x).1, .bool (findF z.cal bg y x).2]) W)) :=
    Lib.hid fun bg y x W hx h1 h2 h3 hb => find_yes z.cal s.A s.B s.a s.b bg y x W hc ⟨h.months.grow hb, h.rules.grow hb⟩ h1 h2 h3 hx.mo
  have HYL : Hid (∀ (y : Int) W, 0 ≤ y → Below w.heap.size w W → Calls Tryz.prog 93 #[.agg (calCells z.cal s.A s.a s.B s.b), I y] W (Gives (I (yearF z.cal y)) W)) :=
    Lib.hid fun y W h1 hb => year_yes z.cal s.A s.B s.a s.b y W hc ⟨h.months.grow hb, h.rules.grow hb⟩ h1
  have hbd := zcyc_bd z hc
  have hep := hc.ep
  have HC := Lib.hid hc
  obtain ⟨yb, yo, hD, hyb, hyc⟩ := h.yearly.there (by rw [hy]; simp [Yr.cells])
  have HY : Hid (∀ W, Below w.heap.size w W → YC W yb yo r0 r1) := Lib.hid fun W hb => by
    rw [hy] at hyc
    exact ⟨rangeAt_keep (CellsAt.elem (s := 5) (f := Yr.cells) (xs := [r0, r1]) (fun _ _ => rfl) hyc 0 r0 rfl) hb hyb, rangeAt_keep (CellsAt.elem (s := 5) (f := Yr.cells) (xs := [r0, r1]) (fun _ _ => rfl) hyc 1 r1 rfl) hb hyb⟩
  clear hyc
  obtain ⟨res, hres⟩ : ∃ res, ysF z = res := ⟨_, rfl⟩
  rw [hres]
  have hres2 : yearsF z.cal r0 r1 (z.cal.epoch + zcyc z) 1400 z.cal.epoch 1 [] = res := by rw [← hres]; unfold ysF; rw [hy]
  clear hres
  obtain ⟨q, hq⟩ : ∃ q, zcyc z = q := ⟨_, rfl⟩
  rw [hq] at HCY hbd hres2 ⊢
  have HRES := Lib.hid hres2
  have HR0 := Lib.hid hr0
  have HR1 := Lib.hid hr1
  clear hres2 hq hr0 hr1 hc h
  obtain ⟨cal, st, tr, ho, yr⟩ := z
  obtain ⟨A0, a, R0, r, C0, c0, D0, d0⟩ := s
  simp only at hy hD HCY HFI HYL hep HC HRES hlt ⊢
  subst hy hD
  obtain ⟨ep, hcep⟩ : ∃ ep, cal.epoch = ep := ⟨_, rfl⟩
  rw [hcep] at hep HRES
  obtain ⟨lp, hclp⟩ : ∃ lp, cal.leap = lp := ⟨_, rfl⟩
  obtain ⟨n0, hn0⟩ : ∃ n, cal.months.length = n := ⟨_, rfl⟩
  obtain ⟨n1, hn1⟩ : ∃ n, cal.rules.length = n := ⟨_, rfl⟩
  obtain ⟨n2, hn2⟩ : ∃ n, tr.length = n := ⟨_, rfl⟩
  unfold znCells calCells at *
  simp only [hcep, hclp, hn0, hn1, hn2, List.length_cons, List.length_nil, Nat.zero_add, Nat.reduceAdd] at HCY HFI HYL ⊢
  clear hcep hclp hn0 hn1 hn2 hlt
  have HV : Hid (YS w #[I ep, .slice A0 n0 a, I lp, .slice R0 n1 r, I st, .slice C0 n2 c0, I ho, .slice (some ⟨yb, yo, none⟩) 2 d0] ((w.alloc (.cells #[I ep, .slice A0 n0 a, I lp, .slice R0 n1 r, I st, .slice C0 n2 c0, I ho, .slice (some ⟨yb, yo, none⟩) 2 d0] 41)).alloc (.cells #[] 78)) (some ⟨w.heap.size + 1, 0, none⟩) 0 0 []) :=
    Lib.hid ⟨(Row.new w _ _).keep (below_var _ _), by have h := own_emptyE (w.alloc (.cells #[I ep, .slice A0 n0 a, I lp, .slice R0 n1 r, I st, .slice C0 n2 c0, I ho, .slice (some ⟨yb, yo, none⟩) 2 d0] 41)) 78 2; simpa [TrsO] using h, below_trans (below_var w _) (below_var _ _), rfl⟩
  go_enter Tryz.func69, Tryz.ntmps69
  go_wp2_with fail
  refine (HCY.out _ HV.out.up).mono ?_
  rintro e w1 ⟨rfl, hb1⟩
  have HW := Lib.hid (HV.out.call hb1)
  clear hb1 HV HCY
  have v0 : w1.cell? ⟨w.heap.size, 0, none⟩ = some (I ep) := HW.out.row.2 0
  go_wp2_with fail
  clear v0
  go_loopw [4, 6, 7] (fun o b y wr => YRel w #[I ep, .slice A0 n0 a, I lp, .slice R0 n1 r, I st, .slice C0 n2 c0, I ho, .slice (some ⟨yb, yo, none⟩) 2 d0] cal r0 r1 ep (ep + q) res o b y wr) (fun _ b _ _ => ((ep + q) - intOf b).toNat)
  case atStart => exact ⟨1400, ep, 1, _, 0, _, [], rfl, by go_num, by go_num, by omega, by omega, by omega, by omega, by omega, by omega, HRES.out, (fun _ h => nomatch h), HW.out⟩
  case round =>
    obtain ⟨f, bg, yy, A, n, cp, ts, rfl, rfl, rfl, hy1, hy2, hb0, hbs, hn2', hf, hyf, htb, hys⟩ := hrel
    have HF := Lib.hid hyf
    have HTB := Lib.hid htb
    have HW := Lib.hid hys
    have HFF := Lib.hid hf
    clear hyf htb hys hf
    have v0 : wr.cell? ⟨w.heap.size, 0, none⟩ = some (I ep) := HW.out.row.2 0
    by_cases hlt : bg < ep + q
    · clear v0
      have v0 : wr.cell? ⟨w.heap.size, 0, none⟩ = some (I ep) := HW.out.row.2 0
      have v1 : wr.cell? ⟨w.heap.size, 1, none⟩ = some (.slice A0 n0 a) := HW.out.row.2 1
      have v2 : wr.cell? ⟨w.heap.size, 2, none⟩ = some (I lp) := HW.out.row.2 2
      have v3 : wr.cell? ⟨w.heap.size, 3, none⟩ = some (.slice R0 n1 r) := HW.out.row.2 3
      have v7 : wr.cell? ⟨w.heap.size, 7, none⟩ = some (.slice (some ⟨yb, yo, none⟩) 2 d0) := HW.out.row.2 7
      have HYC := Lib.hid (HY.out wr HW.out.up)
      have y00 : wr.cell? ⟨yb, yo, none⟩ = some (I r0.month) := HYC.out.a 0 _ rfl
      have y01 : wr.cell? ⟨yb, yo + 1, none⟩ = some (I r0.week) := HYC.out.a 1 _ rfl
      have y02 : wr.cell? ⟨yb, yo + 2, none⟩ = some (I r0.wday) := HYC.out.a 2 _ rfl
      have y03 : wr.cell? ⟨yb, yo + 3, none⟩ = some (I r0.minute) := HYC.out.a 3 _ rfl
      have y04 : wr.cell? ⟨yb, yo + 4, none⟩ = some (I r0.off) := HYC.out.a 4 _ rfl
      have y10 : wr.cell? ⟨yb, yo + 5, none⟩ = some (I r1.month) := HYC.out.b 0 _ rfl
      have y11 : wr.cell? ⟨yb, yo + 6, none⟩ = some (I r1.week) := HYC.out.b 1 _ rfl
      have y12 : wr.cell? ⟨yb, yo + 7, none⟩ = some (I r1.wday) := HYC.out.b 2 _ rfl
      have y13 : wr.cell? ⟨yb, yo + 8, none⟩ = some (I r1.minute) := HYC.out.b 3 _ rfl
      have y14 : wr.cell? ⟨yb, yo + 9, none⟩ = some (I r1.off) := HYC.out.b 4 _ rfl
      go_wp2_with fail
      refine wp_loop_rounds 3 ?_
      rw [rounds_succ]
      go_upto_region 12 with fail
      have hcall0 := HFI.out bg yy r0 wr.drew HR0.out (by omega) (by omega) (by omega) HW.out.up.drew
      have hfb0 := find_bd cal bg yy r0 HC.out HR0.out (by omega)
      obtain ⟨pr0, hpr0⟩ : ∃ pr, findF cal bg yy r0 = pr := ⟨_, rfl⟩
      rw [hpr0] at hcall0 hfb0
      have HPR0 := Lib.hid hpr0
      obtain ⟨fd0, fb0⟩ := pr0
      simp only at hcall0 hfb0
      have HCALL0 := Lib.hid hcall0
      clear hcall0 hpr0
      go_cut [9, 10] (fun d ok wx => d = I fd0 ∧ ok = .bool fb0 ∧ YS w #[I ep, .slice A0 n0 a, I lp, .slice R0 n1 r, I st, .slice C0 n2 c0, I ho, .slice (some ⟨yb, yo, none⟩) 2 d0] wx A n cp ts)
      case first =>
        go_region_law (go_simp; go_at_call 91; refine HCALL0.out.mono ?_; rintro e wf ⟨rfl, hb⟩; have HCF := Lib.hid (HW.out.call (below_trans (Below.refl _ wr).drew hb)); clear hb)
        all_goals
          go_wp2_with fail
          go_meet
          exact ⟨rfl, rfl, HCF.out⟩
      case rest =>
        obtain ⟨rfl, rfl, hys0⟩ := hcut
        have HA0 := Lib.hid hys0
        clear v0 v1 v2 v3 v7 HYC y00 y01 y02 y03 y04 y10 y11 y12 y13 y14
        clear hys0 HCALL0
        obtain ⟨ts1, hts0⟩ : ∃ t, ytr cal bg yy r0 r1 ts = t := ⟨_, rfl⟩
        have HE0 := Lib.hid hts0
        have HTB0 : Hid (TrB ts1) := Lib.hid (by rw [← HE0.out]; exact trB_ytr HTB.out HC.out HR0.out HR1.out (by omega) (by omega))
        clear hts0
        cases fb0 with
        | false =>
          have hte : ts1 = ts := by rw [← HE0.out]; unfold ytr; rw [HPR0.out]; rfl
          have HB0 : Hid (YS w #[I ep, .slice A0 n0 a, I lp, .slice R0 n1 r, I st, .slice C0 n2 c0, I ho, .slice (some ⟨yb, yo, none⟩) 2 d0] wc A n cp ts1) := Lib.hid (by rw [hte]; exact HA0.out)
          clear hte
          have v0 : wc.cell? ⟨w.heap.size, 0, none⟩ = some (I ep) := HB0.out.row.2 0
          have v1 : wc.cell? ⟨w.heap.size, 1, none⟩ = some (.slice A0 n0 a) := HB0.out.row.2 1
          have v2 : wc.cell? ⟨w.heap.size, 2, none⟩ = some (I lp) := HB0.out.row.2 2
          have v3 : wc.cell? ⟨w.heap.size, 3, none⟩ = some (.slice R0 n1 r) := HB0.out.row.2 3
          have v7 : wc.cell? ⟨w.heap.size, 7, none⟩ = some (.slice (some ⟨yb, yo, none⟩) 2 d0) := HB0.out.row.2 7
          have HYC := Lib.hid (HY.out wc HB0.out.up)
          have y00 : wc.cell? ⟨yb, yo, none⟩ = some (I r0.month) := HYC.out.a 0 _ rfl
          have y01 : wc.cell? ⟨yb, yo + 1, none⟩ = some (I r0.week) := HYC.out.a 1 _ rfl
          have y02 : wc.cell? ⟨yb, yo + 2, none⟩ = some (I r0.wday) := HYC.out.a 2 _ rfl
          have y03 : wc.cell? ⟨yb, yo + 3, none⟩ = some (I r0.minute) := HYC.out.a 3 _ rfl
          have y04 : wc.cell? ⟨yb, yo + 4, none⟩ = some (I r0.off) := HYC.out.a 4 _ rfl
          have y10 : wc.cell? ⟨yb, yo + 5, none⟩ = some (I r1.month) := HYC.out.b 0 _ rfl
          have y11 : wc.cell? ⟨yb, yo + 6, none⟩ = some (I r1.week) := HYC.out.b 1 _ rfl
          have y12 : wc.cell? ⟨yb, yo + 7, none⟩ = some (I r1.wday) := HYC.out.b 2 _ rfl
          have y13 : wc.cell? ⟨yb, yo + 8, none⟩ = some (I r1.minute) := HYC.out.b 3 _ rfl
          have y14 : wc.cell? ⟨yb, yo + 9, none⟩ = some (I r1.off) := HYC.out.b 4 _ rfl
          go_wp2_with fail
          rw [rounds_succ]
          go_upto_region 12 with fail
          have hcall1 := HFI.out bg yy r1 wc.drew HR1.out (by omega) (by omega) (by omega) HB0.out.up.drew
          have hfb1 := find_bd cal bg yy r1 HC.out HR1.out (by omega)
          obtain ⟨pr1, hpr1⟩ : ∃ pr, findF cal bg yy r1 = pr := ⟨_, rfl⟩
          rw [hpr1] at hcall1 hfb1
          have HPR1 := Lib.hid hpr1
          obtain ⟨fd1, fb1⟩ := pr1
          simp only at hcall1 hfb1
          have HCALL1 := Lib.hid hcall1
          clear hcall1 hpr1
          go_cut [9, 10] (fun d ok wx => d = I fd1 ∧ ok = .bool fb1 ∧ YS w #[I ep, .slice A0 n0 a, I lp, .slice R0 n1 r, I st, .slice C0 n2 c0, I ho, .slice (some ⟨yb, yo, none⟩) 2 d0] wx A n cp ts1)
          case first =>
            go_region_law (go_simp; go_at_call 91; refine HCALL1.out.mono ?_; rintro e wf ⟨rfl, hb⟩; have HCF := Lib.hid (HB0.out.call (below_trans (Below.refl _ wc).drew hb)); clear hb)
            all_goals
              go_wp2_with fail
              go_meet
              exact ⟨rfl, rfl, HCF.out⟩
          case rest =>
            obtain ⟨rfl, rfl, hys1⟩ := hcut
            have HA1 := Lib.hid hys1
            clear v0 v1 v2 v3 v7 HYC y00 y01 y02 y03 y04 y10 y11 y12 y13 y14
            clear hys1 HCALL1
            obtain ⟨ts2, hts1⟩ : ∃ t, ytr cal bg yy r1 r0 ts1 = t := ⟨_, rfl⟩
            have HE1 := Lib.hid hts1
            have HTB1 : Hid (TrB ts2) := Lib.hid (by rw [← HE1.out]; exact trB_ytr HTB0.out HC.out HR1.out HR0.out (by omega) (by omega))
            clear hts1
            cases fb1 with
            | false =>
              have hte : ts2 = ts1 := by rw [← HE1.out]; unfold ytr; rw [HPR1.out]; rfl
              have HB1 : Hid (YS w #[I ep, .slice A0 n0 a, I lp, .slice R0 n1 r, I st, .slice C0 n2 c0, I ho, .slice (some ⟨yb, yo, none⟩) 2 d0] wc A n cp ts2) := Lib.hid (by rw [hte]; exact HA1.out)
              clear hte
              have v0 : wc.cell? ⟨w.heap.size, 0, none⟩ = some (I ep) := HB1.out.row.2 0
              have v1 : wc.cell? ⟨w.heap.size, 1, none⟩ = some (.slice A0 n0 a) := HB1.out.row.2 1
              have v2 : wc.cell? ⟨w.heap.size, 2, none⟩ = some (I lp) := HB1.out.row.2 2
              have v3 : wc.cell? ⟨w.heap.size, 3, none⟩ = some (.slice R0 n1 r) := HB1.out.row.2 3
              have v7 : wc.cell? ⟨w.heap.size, 7, none⟩ = some (.slice (some ⟨yb, yo, none⟩) 2 d0) := HB1.out.row.2 7
              have HYC := Lib.hid (HY.out wc HB1.out.up)
              have y00 : wc.cell? ⟨yb, yo, none⟩ = some (I r0.month) := HYC.out.a 0 _ rfl
              have y01 : wc.cell? ⟨yb, yo + 1, none⟩ = some (I r0.week) := HYC.out.a 1 _ rfl
              have y02 : wc.cell? ⟨yb, yo + 2, none⟩ = some (I r0.wday) := HYC.out.a 2 _ rfl
              have y03 : wc.cell? ⟨yb, yo + 3, none⟩ = some (I r0.minute) := HYC.out.a 3 _ rfl
              have y04 : wc.cell? ⟨yb, yo + 4, none⟩ = some (I r0.off) := HYC.out.a 4 _ rfl
              have y10 : wc.cell? ⟨yb, yo + 5, none⟩ = some (I r1.month) := HYC.out.b 0 _ rfl
              have y11 : wc.cell? ⟨yb, yo + 6, none⟩ = some (I r1.week) := HYC.out.b 1 _ rfl
              have y12 : wc.cell? ⟨yb, yo + 7, none⟩ = some (I r1.wday) := HYC.out.b 2 _ rfl
              have y13 : wc.cell? ⟨yb, yo + 8, none⟩ = some (I r1.minute) := HYC.out.b 3 _ rfl
              have y14 : wc.cell? ⟨yb, yo + 9, none⟩ = some (I r1.off) := HYC.out.b 4 _ rfl
              go_wp2_with fail
              rw [rounds_succ]
              go_wp2_with fail
              clear v0 v1 v2 v3 v7 HYC y00 y01 y02 y03 y04 y10 y11 y12 y13 y14
              have hge := year_ge cal yy HC.out
              have hbd2 := year_bd cal yy HC.out
              obtain ⟨f', hf1, hf2⟩ := yearsF_go HF.out hlt HFF.out hge
              rw [HE0.out, HE1.out] at hf2
              have hcy := HYL.out yy wc (by omega) HB1.out.up
              obtain ⟨yl, hyl⟩ : ∃ v, yearF cal yy = v := ⟨_, rfl⟩
              rw [hyl] at hf1 hf2 hcy hge hbd2
              have HF1 := Lib.hid hf1
              have HF2 := Lib.hid hf2
              refine hcy.mono ?_
              clear hcy hyl hf1 hf2
              rintro e wz ⟨rfl, hb⟩
              have HZ := Lib.hid (HB1.out.call hb)
              clear hb
              go_wp2_with fail
              go_roundw
              case rel => exact ⟨f', bg + yl, yy + 1, _, n, _, ts2, by first | rfl | go_num, by go_num, by go_num, by omega, by omega, by omega, by omega, by omega, HF1.out, HF2.out, HTB1.out, HZ.out⟩
              case measure => simp [intOf]; omega
            | true =>
              have hte : ts2 = insF ts1 ⟨fd1 * 1440 + r1.minute - r0.off, r1.off⟩ := by rw [← HE1.out]; unfold ytr; rw [HPR1.out]; rfl
              have HTE1 := Lib.hid hte
              have hmi1 := HR1.out.mi
              have hof1 := HR0.out.of
              clear hte
              have v0 : wc.cell? ⟨w.heap.size, 0, none⟩ = some (I ep) := HA1.out.row.2 0
              have v1 : wc.cell? ⟨w.heap.size, 1, none⟩ = some (.slice A0 n0 a) := HA1.out.row.2 1
              have v2 : wc.cell? ⟨w.heap.size, 2, none⟩ = some (I lp) := HA1.out.row.2 2
              have v3 : wc.cell? ⟨w.heap.size, 3, none⟩ = some (.slice R0 n1 r) := HA1.out.row.2 3
              have v7 : wc.cell? ⟨w.heap.size, 7, none⟩ = some (.slice (some ⟨yb, yo, none⟩) 2 d0) := HA1.out.row.2 7
              have HYC := Lib.hid (HY.out wc HA1.out.up)
              have y00 : wc.cell? ⟨yb, yo, none⟩ = some (I r0.month) := HYC.out.a 0 _ rfl
              have y01 : wc.cell? ⟨yb, yo + 1, none⟩ = some (I r0.week) := HYC.out.a 1 _ rfl
              have y02 : wc.cell? ⟨yb, yo + 2, none⟩ = some (I r0.wday) := HYC.out.a 2 _ rfl
              have y03 : wc.cell? ⟨yb, yo + 3, none⟩ = some (I r0.minute) := HYC.out.a 3 _ rfl
              have y04 : wc.cell? ⟨yb, yo + 4, none⟩ = some (I r0.off) := HYC.out.a 4 _ rfl
              have y10 : wc.cell? ⟨yb, yo + 5, none⟩ = some (I r1.month) := HYC.out.b 0 _ rfl
              have y11 : wc.cell? ⟨yb, yo + 6, none⟩ = some (I r1.week) := HYC.out.b 1 _ rfl
              have y12 : wc.cell? ⟨yb, yo + 7, none⟩ = some (I r1.wday) := HYC.out.b 2 _ rfl
              have y13 : wc.cell? ⟨yb, yo + 8, none⟩ = some (I r1.minute) := HYC.out.b 3 _ rfl
              have y14 : wc.cell? ⟨yb, yo + 9, none⟩ = some (I r1.off) := HYC.out.b 4 _ rfl
              have hw0 : IntKind.i64.wrap 0 = 0 := by rw [IntKind.wrap_i64]; omega
              have hw1 : IntKind.i64.wrap 1 = 1 := by rw [IntKind.wrap_i64]; omega
              have hw2 : IntKind.i64.wrap (fd1 * 1440) = fd1 * 1440 := by rw [IntKind.wrap_i64]; omega
              have hw3 : IntKind.i64.wrap (fd1 * 1440 + r1.minute) = fd1 * 1440 + r1.minute := by rw [IntKind.wrap_i64]; omega
              have hw4 : IntKind.i64.wrap (fd1 * 1440 + r1.minute - r0.off) = fd1 * 1440 + r1.minute - r0.off := by rw [IntKind.wrap_i64]; omega
              go_wp2_with fail
              go_still_tail 25, (by kernel_rfl)
              change wpList _ _ _ _ _ wc.drew
              go_wp2_with fail
              clear v0 v1 v2 v3 v7 HYC y00 y01 y02 y03 y04 y10 y11 y12 y13 y14
              have hown1 : TrsO (w.heap.size + 1) wc.drew A n cp ts1 := HA1.out.own
              refine (insert_any (w.heap.size + 1) n cp A ts1 ⟨fd1 * 1440 + r1.minute - r0.off, r1.off⟩ wc.drew HA1.out.len (by omega) HA1.out.lo hown1).mono ?_
              clear hown1 hmi1 hof1 hw0 hw1 hw2 hw3 hw4
              rintro e wb1 ⟨A1', cp1', rfl, hown, hb⟩
              have HB1 : Hid (YS w #[I ep, .slice A0 n0 a, I lp, .slice R0 n1 r, I st, .slice C0 n2 c0, I ho, .slice (some ⟨yb, yo, none⟩) 2 d0] wb1 A1' (n + 1) cp1' ts2) := Lib.hid (by
                rw [HTE1.out]
                exact (HA1.out.call (Below.refl _ wc).drew).ins hb hown (by rw [insF_len, HA1.out.len]))
              clear hb hown
              have v0 : wb1.cell? ⟨w.heap.size, 0, none⟩ = some (I ep) := HB1.out.row.2 0
              have v1 : wb1.cell? ⟨w.heap.size, 1, none⟩ = some (.slice A0 n0 a) := HB1.out.row.2 1
              have v2 : wb1.cell? ⟨w.heap.size, 2, none⟩ = some (I lp) := HB1.out.row.2 2
              have v3 : wb1.cell? ⟨w.heap.size, 3, none⟩ = some (.slice R0 n1 r) := HB1.out.row.2 3
              have v7 : wb1.cell? ⟨w.heap.size, 7, none⟩ = some (.slice (some ⟨yb, yo, none⟩) 2 d0) := HB1.out.row.2 7
              have HYC := Lib.hid (HY.out wb1 HB1.out.up)
              have y00 : wb1.cell? ⟨yb, yo, none⟩ = some (I r0.month) := HYC.out.a 0 _ rfl
              have y01 : wb1.cell? ⟨yb, yo + 1, none⟩ = some (I r0.week) := HYC.out.a 1 _ rfl
              have y02 : wb1.cell? ⟨yb, yo + 2, none⟩ = some (I r0.wday) := HYC.out.a 2 _ rfl
              have y03 : wb1.cell? ⟨yb, yo + 3, none⟩ = some (I r0.minute) := HYC.out.a 3 _ rfl
              have y04 : wb1.cell? ⟨yb, yo + 4, none⟩ = some (I r0.off) := HYC.out.a 4 _ rfl
              have y10 : wb1.cell? ⟨yb, yo + 5, none⟩ = some (I r1.month) := HYC.out.b 0 _ rfl
              have y11 : wb1.cell? ⟨yb, yo + 6, none⟩ = some (I r1.week) := HYC.out.b 1 _ rfl
              have y12 : wb1.cell? ⟨yb, yo + 7, none⟩ = some (I r1.wday) := HYC.out.b 2 _ rfl
              have y13 : wb1.cell? ⟨yb, yo + 8, none⟩ = some (I r1.minute) := HYC.out.b 3 _ rfl
              have y14 : wb1.cell? ⟨yb, yo + 9, none⟩ = some (I r1.off) := HYC.out.b 4 _ rfl
              go_wp2_with fail
              rw [rounds_succ]
              go_wp2_with fail
              clear v0 v1 v2 v3 v7 HYC y00 y01 y02 y03 y04 y10 y11 y12 y13 y14
              have hge := year_ge cal yy HC.out
              have hbd2 := year_bd cal yy HC.out
              obtain ⟨f', hf1, hf2⟩ := yearsF_go HF.out hlt HFF.out hge
              rw [HE0.out, HE1.out] at hf2
              have hcy := HYL.out yy wb1 (by omega) HB1.out.up
              obtain ⟨yl, hyl⟩ : ∃ v, yearF cal yy = v := ⟨_, rfl⟩
              rw [hyl] at hf1 hf2 hcy hge hbd2
              have HF1 := Lib.hid hf1
              have HF2 := Lib.hid hf2
              refine hcy.mono ?_
              clear hcy hyl hf1 hf2
              rintro e wz ⟨rfl, hb⟩
              have HZ := Lib.hid (HB1.out.call hb)
              clear hb
              go_wp2_with fail
              go_roundw
              case rel => exact ⟨f', bg + yl, yy + 1, _, (n + 1), _, ts2, by first | rfl | go_num, by go_num, by go_num, by omega, by omega, by omega, by omega, by omega, HF1.out, HF2.out, HTB1.out, HZ.out⟩
              case measure => simp [intOf]; omega
        | true =>
          have hte : ts1 = insF ts ⟨fd0 * 1440 + r0.minute - r1.off, r0.off⟩ := by rw [← HE0.out]; unfold ytr; rw [HPR0.out]; rfl
          have HTE0 := Lib.hid hte
          have hmi0 := HR0.out.mi
          have hof0 := HR1.out.of
          clear hte
          have v0 : wc.cell? ⟨w.heap.size, 0, none⟩ = some (I ep) := HA0.out.row.2 0
          have v1 : wc.cell? ⟨w.heap.size, 1, none⟩ = some (.slice A0 n0 a) := HA0.out.row.2 1
          have v2 : wc.cell? ⟨w.heap.size, 2, none⟩ = some (I lp) := HA0.out.row.2 2
          have v3 : wc.cell? ⟨w.heap.size, 3, none⟩ = some (.slice R0 n1 r) := HA0.out.row.2 3
          have v7 : wc.cell? ⟨w.heap.size, 7, none⟩ = some (.slice (some ⟨yb, yo, none⟩) 2 d0) := HA0.out.row.2 7
          have HYC := Lib.hid (HY.out wc HA0.out.up)
          have y00 : wc.cell? ⟨yb, yo, none⟩ = some (I r0.month) := HYC.out.a 0 _ rfl
          have y01 : wc.cell? ⟨yb, yo + 1, none⟩ = some (I r0.week) := HYC.out.a 1 _ rfl
          have y02 : wc.cell? ⟨yb, yo + 2, none⟩ = some (I r0.wday) := HYC.out.a 2 _ rfl
          have y03 : wc.cell? ⟨yb, yo + 3, none⟩ = some (I r0.minute) := HYC.out.a 3 _ rfl
          have y04 : wc.cell? ⟨yb, yo + 4, none⟩ = some (I r0.off) := HYC.out.a 4 _ rfl
          have y10 : wc.cell? ⟨yb, yo + 5, none⟩ = some (I r1.month) := HYC.out.b 0 _ rfl
          have y11 : wc.cell? ⟨yb, yo + 6, none⟩ = some (I r1.week) := HYC.out.b 1 _ rfl
          have y12 : wc.cell? ⟨yb, yo + 7, none⟩ = some (I r1.wday) := HYC.out.b 2 _ rfl
          have y13 : wc.cell? ⟨yb, yo + 8, none⟩ = some (I r1.minute) := HYC.out.b 3 _ rfl
          have y14 : wc.cell? ⟨yb, yo + 9, none⟩ = some (I r1.off) := HYC.out.b 4 _ rfl
          have hw0 : IntKind.i64.wrap 0 = 0 := by rw [IntKind.wrap_i64]; omega
          have hw1 : IntKind.i64.wrap 1 = 1 := by rw [IntKind.wrap_i64]; omega
          have hw2 : IntKind.i64.wrap (fd0 * 1440) = fd0 * 1440 := by rw [IntKind.wrap_i64]; omega
          have hw3 : IntKind.i64.wrap (fd0 * 1440 + r0.minute) = fd0 * 1440 + r0.minute := by rw [IntKind.wrap_i64]; omega
          have hw4 : IntKind.i64.wrap (fd0 * 1440 + r0.minute - r1.off) = fd0 * 1440 + r0.minute - r1.off := by rw [IntKind.wrap_i64]; omega
          go_wp2_with fail
          go_still_tail 25, (by kernel_rfl)
          change wpList _ _ _ _ _ wc.drew
          go_wp2_with fail
          clear v0 v1 v2 v3 v7 HYC y00 y01 y02 y03 y04 y10 y11 y12 y13 y14
          have hown0 : TrsO (w.heap.size + 1) wc.drew A n cp ts := HA0.out.own
          refine (insert_any (w.heap.size + 1) n cp A ts ⟨fd0 * 1440 + r0.minute - r1.off, r0.off⟩ wc.drew HA0.out.len (by omega) HA0.out.lo hown0).mono ?_
          clear hown0 hmi0 hof0 hw0 hw1 hw2 hw3 hw4
          rintro e wb0 ⟨A0', cp0', rfl, hown, hb⟩
          have HB0 : Hid (YS w #[I ep, .slice A0 n0 a, I lp, .slice R0 n1 r, I st, .slice C0 n2 c0, I ho, .slice (some ⟨yb, yo, none⟩) 2 d0] wb0 A0' (n + 1) cp0' ts1) := Lib.hid (by
            rw [HTE0.out]
            exact (HA0.out.call (Below.refl _ wc).drew).ins hb hown (by rw [insF_len, HA0.out.len]))
          clear hb hown
          have v0 : wb0.cell? ⟨w.heap.size, 0, none⟩ = some (I ep) := HB0.out.row.2 0
          have v1 : wb0.cell? ⟨w.heap.size, 1, none⟩ = some (.slice A0 n0 a) := HB0.out.row.2 1
          have v2 : wb0.cell? ⟨w.heap.size, 2, none⟩ = some (I lp) := HB0.out.row.2 2
          have v3 : wb0.cell? ⟨w.heap.size, 3, none⟩ = some (.slice R0 n1 r) := HB0.out.row.2 3
          have v7 : wb0.cell? ⟨w.heap.size, 7, none⟩ = some (.slice (some ⟨yb, yo, none⟩) 2 d0) := HB0.out.row.2 7
          have HYC := Lib.hid (HY.out wb0 HB0.out.up)
          have y00 : wb0.cell? ⟨yb, yo, none⟩ = some (I r0.month) := HYC.out.a 0 _ rfl
          have y01 : wb0.cell? ⟨yb, yo + 1, none⟩ = some (I r0.week) := HYC.out.a 1 _ rfl
          have y02 : wb0.cell? ⟨yb, yo + 2, none⟩ = some (I r0.wday) := HYC.out.a 2 _ rfl
          have y03 : wb0.cell? ⟨yb, yo + 3, none⟩ = some (I r0.minute) := HYC.out.a 3 _ rfl
          have y04 : wb0.cell? ⟨yb, yo + 4, none⟩ = some (I r0.off) := HYC.out.a 4 _ rfl
          have y10 : wb0.cell? ⟨yb, yo + 5, none⟩ = some (I r1.month) := HYC.out.b 0 _ rfl
          have y11 : wb0.cell? ⟨yb, yo + 6, none⟩ = some (I r1.week) := HYC.out.b 1 _ rfl
          have y12 : wb0.cell? ⟨yb, yo + 7, none⟩ = some (I r1.wday) := HYC.out.b 2 _ rfl
          have y13 : wb0.cell? ⟨yb, yo + 8, none⟩ = some (I r1.minute) := HYC.out.b 3 _ rfl
          have y14 : wb0.cell? ⟨yb, yo + 9, none⟩ = some (I r1.off) := HYC.out.b 4 _ rfl
          go_wp2_with fail
          rw [rounds_succ]
          go_upto_region 12 with fail
          have hcall1 := HFI.out bg yy r1 wb0.drew HR1.out (by omega) (by omega) (by omega) HB0.out.up.drew
          have hfb1 := find_bd cal bg yy r1 HC.out HR1.out (by omega)
          obtain ⟨pr1, hpr1⟩ : ∃ pr, findF cal bg yy r1 = pr := ⟨_, rfl⟩
          rw [hpr1] at hcall1 hfb1
          have HPR1 := Lib.hid hpr1
          obtain ⟨fd1, fb1⟩ := pr1
          simp only at hcall1 hfb1
          have HCALL1 := Lib.hid hcall1
          clear hcall1 hpr1
          go_cut [9, 10] (fun d ok wx => d = I fd1 ∧ ok = .bool fb1 ∧ YS w #[I ep, .slice A0 n0 a, I lp, .slice R0 n1 r, I st, .slice C0 n2 c0, I ho, .slice (some ⟨yb, yo, none⟩) 2 d0] wx A0' (n + 1) cp0' ts1)
          case first =>
            go_region_law (go_simp; go_at_call 91; refine HCALL1.out.mono ?_; rintro e wf ⟨rfl, hb⟩; have HCF := Lib.hid (HB0.out.call (below_trans (Below.refl _ wb0).drew hb)); clear hb)
            all_goals
              go_wp2_with fail
              go_meet
              exact ⟨rfl, rfl, HCF.out⟩
          case rest =>
            obtain ⟨rfl, rfl, hys1⟩ := hcut
            have HA1 := Lib.hid hys1
            clear v0 v1 v2 v3 v7 HYC y00 y01 y02 y03 y04 y10 y11 y12 y13 y14
            clear hys1 HCALL1
            obtain ⟨ts2, hts1⟩ : ∃ t, ytr cal bg yy r1 r0 ts1 = t := ⟨_, rfl⟩
            have HE1 := Lib.hid hts1
            have HTB1 : Hid (TrB ts2) := Lib.hid (by rw [← HE1.out]; exact trB_ytr HTB0.out HC.out HR1.out HR0.out (by omega) (by omega))
            clear hts1
            cases fb1 with
            | false =>
              have hte : ts2 = ts1 := by rw [← HE1.out]; unfold ytr; rw [HPR1.out]; rfl
              have HB1 : Hid (YS w #[I ep, .slice A0 n0 a, I lp, .slice R0 n1 r, I st, .slice C0 n2 c0, I ho, .slice (some ⟨yb, yo, none⟩) 2 d0] wc A0' (n + 1) cp0' ts2) := Lib.hid (by rw [hte]; exact HA1.out)
              clear hte
              have v0 : wc.cell? ⟨w.heap.size, 0, none⟩ = some (I ep) := HB1.out.row.2 0
              have v1 : wc.cell? ⟨w.heap.size, 1, none⟩ = some (.slice A0 n0 a) := HB1.out.row.2 1
              have v2 : wc.cell? ⟨w.heap.size, 2, none⟩ = some (I lp) := HB1.out.row.2 2
              have v3 : wc.cell? ⟨w.heap.size, 3, none⟩ = some (.slice R0 n1 r) := HB1.out.row.2 3
              have v7 : wc.cell? ⟨w.heap.size, 7, none⟩ = some (.slice (some ⟨yb, yo, none⟩) 2 d0) := HB1.out.row.2 7
              have HYC := Lib.hid (HY.out wc HB1.out.up)
              have y00 : wc.cell? ⟨yb, yo, none⟩ = some (I r0.month) := HYC.out.a 0 _ rfl
              have y01 : wc.cell? ⟨yb, yo + 1, none⟩ = some (I r0.week) := HYC.out.a 1 _ rfl
              have y02 : wc.cell? ⟨yb, yo + 2, none⟩ = some (I r0.wday) := HYC.out.a 2 _ rfl
              have y03 : wc.cell? ⟨yb, yo + 3, none⟩ = some (I r0.minute) := HYC.out.a 3 _ rfl
              have y04 : wc.cell? ⟨yb, yo + 4, none⟩ = some (I r0.off) := HYC.out.a 4 _ rfl
              have y10 : wc.cell? ⟨yb, yo + 5, none⟩ = some (I r1.month) := HYC.out.b 0 _ rfl
              have y11 : wc.cell? ⟨yb, yo + 6, none⟩ = some (I r1.week) := HYC.out.b 1 _ rfl
              have y12 : wc.cell? ⟨yb, yo + 7, none⟩ = some (I r1.wday) := HYC.out.b 2 _ rfl
              have y13 : wc.cell? ⟨yb, yo + 8, none⟩ = some (I r1.minute) := HYC.out.b 3 _ rfl
              have y14 : wc.cell? ⟨yb, yo + 9, none⟩ = some (I r1.off) := HYC.out.b 4 _ rfl
              go_wp2_with fail
              rw [rounds_succ]
              go_wp2_with fail
              clear v0 v1 v2 v3 v7 HYC y00 y01 y02 y03 y04 y10 y11 y12 y13 y14
              have hge := year_ge cal yy HC.out
              have hbd2 := year_bd cal yy HC.out
              obtain ⟨f', hf1, hf2⟩ := yearsF_go HF.out hlt HFF.out hge
              rw [HE0.out, HE1.out] at hf2
              have hcy := HYL.out yy wc (by omega) HB1.out.up
              obtain ⟨yl, hyl⟩ : ∃ v, yearF cal yy = v := ⟨_, rfl⟩
              rw [hyl] at hf1 hf2 hcy hge hbd2
              have HF1 := Lib.hid hf1
              have HF2 := Lib.hid hf2
              refine hcy.mono ?_
              clear hcy hyl hf1 hf2
              rintro e wz ⟨rfl, hb⟩
              have HZ := Lib.hid (HB1.out.call hb)
              clear hb
              go_wp2_with fail
              go_roundw
              case rel => exact ⟨f', bg + yl, yy + 1, _, (n + 1), _, ts2, by first | rfl | go_num, by go_num, by go_num, by omega, by omega, by omega, by omega, by omega, HF1.out, HF2.out, HTB1.out, HZ.out⟩
              case measure => simp [intOf]; omega
            | true =>
              have hte : ts2 = insF ts1 ⟨fd1 * 1440 + r1.minute - r0.off, r1.off⟩ := by rw [← HE1.out]; unfold ytr; rw [HPR1.out]; rfl
              have HTE1 := Lib.hid hte
              have hmi1 := HR1.out.mi
              have hof1 := HR0.out.of
              clear hte
              have v0 : wc.cell? ⟨w.heap.size, 0, none⟩ = some (I ep) := HA1.out.row.2 0
              have v1 : wc.cell? ⟨w.heap.size, 1, none⟩ = some (.slice A0 n0 a) := HA1.out.row.2 1
              have v2 : wc.cell? ⟨w.heap.size, 2, none⟩ = some (I lp) := HA1.out.row.2 2
              have v3 : wc.cell? ⟨w.heap.size, 3, none⟩ = some (.slice R0 n1 r) := HA1.out.row.2 3
              have v7 : wc.cell? ⟨w.heap.size, 7, none⟩ = some (.slice (some ⟨yb, yo, none⟩) 2 d0) := HA1.out.row.2 7
              have HYC := Lib.hid (HY.out wc HA1.out.up)
              have y00 : wc.cell? ⟨yb, yo, none⟩ = some (I r0.month) := HYC.out.a 0 _ rfl
              have y01 : wc.cell? ⟨yb, yo + 1, none⟩ = some (I r0.week) := HYC.out.a 1 _ rfl
              have y02 : wc.cell? ⟨yb, yo + 2, none⟩ = some (I r0.wday) := HYC.out.a 2 _ rfl
              have y03 : wc.cell? ⟨yb, yo + 3, none⟩ = some (I r0.minute) := HYC.out.a 3 _ rfl
              have y04 : wc.cell? ⟨yb, yo + 4, none⟩ = some (I r0.off) := HYC.out.a 4 _ rfl
              have y10 : wc.cell? ⟨yb, yo + 5, none⟩ = some (I r1.month) := HYC.out.b 0 _ rfl
              have y11 : wc.cell? ⟨yb, yo + 6, none⟩ = some (I r1.week) := HYC.out.b 1 _ rfl
              have y12 : wc.cell? ⟨yb, yo + 7, none⟩ = some (I r1.wday) := HYC.out.b 2 _ rfl
              have y13 : wc.cell? ⟨yb, yo + 8, none⟩ = some (I r1.minute) := HYC.out.b 3 _ rfl
              have y14 : wc.cell? ⟨yb, yo + 9, none⟩ = some (I r1.off) := HYC.out.b 4 _ rfl
              have hw0 : IntKind.i64.wrap 0 = 0 := by rw [IntKind.wrap_i64]; omega
              have hw1 : IntKind.i64.wrap 1 = 1 := by rw [IntKind.wrap_i64]; omega
              have hw2 : IntKind.i64.wrap (fd1 * 1440) = fd1 * 1440 := by rw [IntKind.wrap_i64]; omega
              have hw3 : IntKind.i64.wrap (fd1 * 1440 + r1.minute) = fd1 * 1440 + r1.minute := by rw [IntKind.wrap_i64]; omega
              have hw4 : IntKind.i64.wrap (fd1 * 1440 + r1.minute - r0.off) = fd1 * 1440 + r1.minute - r0.off := by rw [IntKind.wrap_i64]; omega
              go_wp2_with fail
              go_still_tail 25, (by kernel_rfl)
              change wpList _ _ _ _ _ wc.drew
              go_wp2_with fail
              clear v0 v1 v2 v3 v7 HYC y00 y01 y02 y03 y04 y10 y11 y12 y13 y14
              have hown1 : TrsO (w.heap.size + 1) wc.drew A0' (n + 1) cp0' ts1 := HA1.out.own
              refine (insert_any (w.heap.size + 1) (n + 1) cp0' A0' ts1 ⟨fd1 * 1440 + r1.minute - r0.off, r1.off⟩ wc.drew HA1.out.len (by omega) HA1.out.lo hown1).mono ?_
              clear hown1 hmi1 hof1 hw0 hw1 hw2 hw3 hw4
              rintro e wb1 ⟨A1', cp1', rfl, hown, hb⟩
              have HB1 : Hid (YS w #[I ep, .slice A0 n0 a, I lp, .slice R0 n1 r, I st, .slice C0 n2 c0, I ho, .slice (some ⟨yb, yo, none⟩) 2 d0] wb1 A1' ((n + 1) + 1) cp1' ts2) := Lib.hid (by
                rw [HTE1.out]
                exact (HA1.out.call (Below.refl _ wc).drew).ins hb hown (by rw [insF_len, HA1.out.len]))
              clear hb hown
              have v0 : wb1.cell? ⟨w.heap.size, 0, none⟩ = some (I ep) := HB1.out.row.2 0
              have v1 : wb1.cell? ⟨w.heap.size, 1, none⟩ = some (.slice A0 n0 a) := HB1.out.row.2 1
              have v2 : wb1.cell? ⟨w.heap.size, 2, none⟩ = some (I lp) := HB1.out.row.2 2
              have v3 : wb1.cell? ⟨w.heap.size, 3, none⟩ = some (.slice R0 n1 r) := HB1.out.row.2 3
              have v7 : wb1.cell? ⟨w.heap.size, 7, none⟩ = some (.slice (some ⟨yb, yo, none⟩) 2 d0) := HB1.out.row.2 7
              have HYC := Lib.hid (HY.out wb1 HB1.out.up)
              have y00 : wb1.cell? ⟨yb, yo, none⟩ = some (I r0.month) := HYC.out.a 0 _ rfl
              have y01 : wb1.cell? ⟨yb, yo + 1, none⟩ = some (I r0.week) := HYC.out.a 1 _ rfl
              have y02 : wb1.cell? ⟨yb, yo + 2, none⟩ = some (I r0.wday) := HYC.out.a 2 _ rfl
              have y03 : wb1.cell? ⟨yb, yo + 3, none⟩ = some (I r0.minute) := HYC.out.a 3 _ rfl
              have y04 : wb1.cell? ⟨yb, yo + 4, none⟩ = some (I r0.off) := HYC.out.a 4 _ rfl
              have y10 : wb1.cell? ⟨yb, yo + 5, none⟩ = some (I r1.month) := HYC.out.b 0 _ rfl
              have y11 : wb1.cell? ⟨yb, yo + 6, none⟩ = some (I r1.week) := HYC.out.b 1 _ rfl
              have y12 : wb1.cell? ⟨yb, yo + 7, none⟩ = some (I r1.wday) := HYC.out.b 2 _ rfl
              have y13 : wb1.cell? ⟨yb, yo + 8, none⟩ = some (I r1.minute) := HYC.out.b 3 _ rfl
              have y14 : wb1.cell? ⟨yb, yo + 9, none⟩ = some (I r1.off) := HYC.out.b 4 _ rfl
              go_wp2_with fail
              rw [rounds_succ]
              go_wp2_with fail
              clear v0 v1 v2 v3 v7 HYC y00 y01 y02 y03 y04 y10 y11 y12 y13 y14
              have hge := year_ge cal yy HC.out
              have hbd2 := year_bd cal yy HC.out
              obtain ⟨f', hf1, hf2⟩ := yearsF_go HF.out hlt HFF.out hge
              rw [HE0.out, HE1.out] at hf2
              have hcy := HYL.out yy wb1 (by omega) HB1.out.up
              obtain ⟨yl, hyl⟩ : ∃ v, yearF cal yy = v := ⟨_, rfl⟩
              rw [hyl] at hf1 hf2 hcy hge hbd2
              have HF1 := Lib.hid hf1
              have HF2 := Lib.hid hf2
              refine hcy.mono ?_
              clear hcy hyl hf1 hf2
              rintro e wz ⟨rfl, hb⟩
              have HZ := Lib.hid (HB1.out.call hb)
              clear hb
              go_wp2_with fail
              go_roundw
              case rel => exact ⟨f', bg + yl, yy + 1, _, ((n + 1) + 1), _, ts2, by first | rfl | go_num, by go_num, by go_num, by omega, by omega, by omega, by omega, by omega, HF1.out, HF2.out, HTB1.out, HZ.out⟩
              case measure => simp [intOf]; omega
    · have hts := yearsF_end HF.out hlt
      subst hts
      have hb0' : Hid True := Lib.hid trivial
      clear hb0'
      go_wp2_with fail
      clear v0 hlt
      have hle := HW.out.len
      rcases Nat.eq_zero_or_pos n with hn0 | hn0
      · subst hn0
        refine wp_loop_rounds 1 ?_
        rw [rounds_succ]
        go_wp2_with fail
        go_ret2
        exact ⟨A, 0, cp, hle, by rw [show gapsF ts (q * 1440) = true by rw [List.eq_nil_of_length_eq_zero hle]; rfl]; rfl, HW.out.own.lower (Nat.le_succ _), HW.out.up⟩
      · obtain ⟨g, cap, hgv, -⟩ := own_form HW.out.own hn0
        injection hgv with hA hB hC
        subst hA hC
        clear hB
        have HLE := Lib.hid hle
        have hnb : n ≤ 1000 := by omega
        clear hle hy1 hy2 hb0 hbs hn2'
        have HTB2 := Lib.hid (fun k => atI_bd k HTB.out)
        clear HTB HF HFF HFI HYL
        go_loopw [11] (fun i wr => GRel w #[I ep, .slice A0 n0 a, I lp, .slice R0 n1 r, I st, .slice C0 n2 c0, I ho, .slice (some ⟨yb, yo, none⟩) 2 d0] (some ⟨g, 0, none⟩) n cp ts (q * 1440) i wr) (fun i _ => n - (intOf i).toNat)
        case atStart => exact ⟨0, Nat.zero_le _, by go_num, (fun _ h => absurd h (Nat.not_lt_zero _)), HW.out⟩
        case round =>
          obtain ⟨k, hk, rfl, hall, hys⟩ := hrel
          have HALL := Lib.hid hall
          have HX := Lib.hid hys
          clear hall hys HW
          by_cases hlt : k < n
          · have x0 := trs_at HX.out.own HX.out.len 0 hn0
            have x1 := trs_at HX.out.own HX.out.len k hlt
            rw [Nat.zero_mul] at x0
            have hb0 := HTB2.out 0
            have hb1 := HTB2.out k
            obtain ⟨a0, ha0⟩ : ∃ v, atI ts 0 = v := ⟨_, rfl⟩
            obtain ⟨a1, ha1⟩ : ∃ v, atI ts k = v := ⟨_, rfl⟩
            rw [ha0] at x0 hb0
            rw [ha1] at x1 hb1
            have HA0 := Lib.hid ha0
            have HA1 := Lib.hid ha1
            clear ha0 ha1
            have i0 : (0 : Int) ≤ (k : Int) := by omega
            have i1 : (k : Int) < (n : Int) := by omega
            have i2 : (0 : Int) < (n : Int) := by omega
            by_cases hlt1 : k + 1 < n
            · have x2 := trs_at HX.out.own HX.out.len (k + 1) hlt1
              have hb2 := HTB2.out (k + 1)
              obtain ⟨a2, ha2⟩ : ∃ v, atI ts (k + 1) = v := ⟨_, rfl⟩
              rw [ha2] at x2 hb2
              have HA2 := Lib.hid ha2
              clear ha2
              have i3 : (k : Int) + 1 < (n : Int) := by omega
              have HG : Hid (gapAt ts (q * 1440) k = a2 - a1) := Lib.hid (by unfold gapAt; rw [HLE.out, if_pos hlt1, HA2.out, HA1.out])
              by_cases hgp : a2 - a1 < 2160
              · go_wp2_with fail
                go_ret2
                exact ⟨_, n, _, HLE.out, by rw [gaps_no HLE.out hlt (by rw [HG.out]; exact hgp)]; rfl, HX.out.own.lower (Nat.le_succ _), HX.out.up⟩
              · go_wp2_with fail
                go_roundw
                case rel => exact ⟨k + 1, by omega, by go_num, gaps_step HALL.out (by rw [HG.out]; omega), HX.out⟩
                case measure => simp [intOf]; omega
            · have i3 : ¬ (k : Int) + 1 < (n : Int) := by omega
              have HG : Hid (gapAt ts (q * 1440) k = a0 + q * 1440 - a1) := Lib.hid (by unfold gapAt; rw [HLE.out, if_neg hlt1, HA0.out, HA1.out])
              by_cases hgp : a0 + q * 1440 - a1 < 2160
              · go_wp2_with fail
                go_ret2
                exact ⟨_, n, _, HLE.out, by rw [gaps_no HLE.out hlt (by rw [HG.out]; exact hgp)]; rfl, HX.out.own.lower (Nat.le_succ _), HX.out.up⟩
              · go_wp2_with fail
                go_roundw
                case rel => exact ⟨k + 1, by omega, by go_num, gaps_step HALL.out (by rw [HG.out]; omega), HX.out⟩
                case measure => simp [intOf]; omega
          · have hnl : ¬ (k : Int) < (n : Int) := by omega
            have HKN : Hid (k = n) := Lib.hid (by omega)
            go_wp2_with fail
            go_ret2
            exact ⟨_, n, _, HLE.out, by rw [gaps_yes HLE.out (by rw [← HKN.out]; exact HALL.out)]; rfl, HX.out.own.lower (Nat.le_succ _), HX.out.up⟩
end Go.Proofs.YtbdkalpljhpnmaaGreat
