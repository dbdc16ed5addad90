/- letter.Bytes, walked. -/
import Derived.Test.YthhbbebabmemfaaGreatBytesD
import Derived.Test.YthhbbebabmemfaaGreatValidW
import Derived.Test.YthhbbebabmemfaaGreatWriters3
import Derived.BigQuiet
import Derived.Deep.AppendLies
import Derived.Deep.CutBlock
import Derived.Deep.DeepCutAuto
import Derived.Deep.DrawnRows
import Derived.Deep.MidRow
import Derived.Deep.QuietTactic
import Derived.Deep.RegionHeld3
import Derived.Deep.RegionLaw
import Derived.Deep.WholeRow
import Derived.Great.BuildSlice
import Derived.Laws.BytesString
import Derived.Laws.CopyOwn
import Derived.Laws.EntriesVeiled
import Derived.Laws.MakeOwn
import Derived.Laws.ResultCell
import Derived.Laws.Rows
import Derived.Laws.Tables
import Derived.Lib.Hide
import Derived.LoopIn
import Derived.LoopNIn
import Derived.Maps.AppendAt
import Derived.Outline
import Derived.OwnWalkIn
import Derived.RangeFuncBound
import Derived.RangeFuncBox
import Derived.RangeFuncCalls
import Derived.RangeFuncLeaves
import Derived.RangeFuncNested
import Derived.Shelf.Abstract
import Derived.Shelf.Bytes.SlSmallAll
import Derived.Shelf.RegionOpen
import Derived.StillTailTactics
import Derived.Stop.BytesEq
import Derived.TacticsInMore
import Derived.WalkKit
import Derived.WalkLawsBesides
import Derived.WalkSpells
namespace Go.Proofs.YthhbbebabmemfaaGreat
open Go Go.RowKit

/-- What Bytes gives: nothing and the code, or the bytes in a row of their own. -/
def BytesPost (w : World) (code : Int) (bs : List UInt8) (e : Ending) (w' : World) : Prop :=
  (if code = 0 then ∃ v, e = .returned (.tuple #[v, I 0]) ∧ w'.ownsRow w.heap.size 5 1 v bs.length (bs.map Extern.Stop.cell) else e = .returned (.tuple #[.slice none 0 0, I code])) ∧ Below w.heap.size w w'
attribute [local go_sem] ltVal_get lt_get0 lt_get1 lt_get2
set_option maxRecDepth 10000 in
set_option maxHeartbeats 2000000 in
theorem bytes_no (l : Lt) (s : Sl) (sb : List UInt8) (w : World) (code : Int) (hr : l.ref.length = 32) (hc : (code == 0) = false)
    (hv : ∀ w', Below w.heap.size w w' → Calls Tryz.prog 12 #[.agg (ltVal l s)] w' (Gives (I code) w')) :
    Calls Tryz.prog 6 #[.agg (ltVal l s)] w (BytesPost w code (ltBytes l sb)) := by
  have HR0 := Lib.hid (Row.new w (ltVal l s) 37)
  have HB0 := Lib.hid (below_var w (.cells (ltVal l s) 37))
  have HSZ : Hid ((Tryz.prog.info? 37).map (·.size) = some (ltVal l s).size) := Lib.hid (by unfold ltVal; rw [lt_size _ _ _ _ hr]; kernel_rfl)
  have HV := Lib.hid hv
  have HC := Lib.hid hc
  clear hv
  go_enter Tryz.func6, Tryz.ntmps6
  go_wp2_with (first
    | (refine wpList_load_Row rfl _ _ rfl w.heap.size rfl (ltVal l s) HR0.out _ Tryz.underlying37 rfl HSZ.out ?_)
    | (go_at_call 12; refine (HV.out _ HB0.out).mono ?_; rintro e w1 ⟨rfl, hb1⟩; have HB1 := Lib.hid (below_trans HB0.out hb1); clear hb1))
  go_ret2
  unfold BytesPost
  rw [if_neg (by have := HC.out; rw [beq_dec] at this; exact of_decide_eq_false this)]
  exact ⟨rfl, HB1.out⟩

/-- The table of the writer's methods, as it lies. -/
def wFns (g : Nat) : Array Value := #[.nilFunc, .nilFunc, .nilFunc, .nilFunc, .nilFunc, .nilFunc, .nilFunc, .nilFunc, .nilFunc, .func (.func 25) #[pt g] #[], .func (.func 26) #[pt g] #[], .nilFunc, .nilFunc, .nilFunc, .func (.func 27) #[pt g] #[], .func (.func 28) #[pt g] #[], .func (.func 29) #[pt g] #[]]
theorem wFns_one (g : Nat) : (wFns g).all (·.oneCell') = true := by kernel_rfl
theorem wFns_info (g : Nat) : (Tryz.prog.info? 56).map (fun i => (i.zero, i.size)) = some (some (.agg (Array.replicate 17 .nilFunc)), (wFns g).size) := by kernel_rfl
def FlRel (l : Lt) (s : Sl) (sb : List UInt8) (w : World) (g fa : Nat) (i : Value) (wr : World) : Prop :=
  ∃ k : Nat, k ≤ 17 ∧ i = .int .i64 k ∧ ∃ v, WIn wr g w.heap.size (ltVal l s) v (hdBytes l ++ fldsTo l sb k) ∧ Far wr g v fa (wFns g) ∧ Below w.heap.size w wr
structure BHyp (l : Lt) (s : Sl) (sb : List UInt8) (w : World) : Prop where
  ref : l.ref.length = 32
  cells : l.cells.length ≤ 65536
  sbl : sb.length ≤ 1000000000
  kind : fits l.kind
  src : fits l.src
  dst : fits l.dst
  num : ∀ k, k < 17 → fits (numF l k)
  mday : fits l.move.day
  mto : fits l.move.toDay
  mmin : fits l.move.minute
  mlen : fits l.move.length
  wfrom : fits l.wfrom
  wto : fits l.wto
  fit : ∀ j, j < l.cells.length → fits (l.cells[j]?.getD 0)
  ints : IntsAt w w.heap.size s.C l.cells
  valid : ∀ w', Below w.heap.size w w' → Calls Tryz.prog 12 #[.agg (ltVal l s)] w' (Gives (I 0) w')
  ser : usesB l.kind 10 = true → ∀ w' g b v bs, Below w.heap.size w w' → w.heap.size ≤ b → WIn w' g b (ltVal l s) v bs → bs.length ≤ 100000000000 → Calls Tryz.prog 26 #[pt g] w' (NumPost w' g (pt b) v (bs ++ sb))

theorem WIn.start {w1 : World} {b : Nat} {cs : Array Value} (h : Row w1 b cs) (o : Obj) : WIn ((w1.alloc (.cells #[pt b, .slice none 0 0] 64)).alloc o) w1.heap.size b cs (.slice none 0 0) [] :=
  WIn.grow (w := w1.alloc (.cells #[pt b, .slice none 0 0] 64)) ⟨⟨heap_alloc_last w1 _, by simp [World.ownsRow]⟩, h.keep (below_var _ _), h.1, by simp⟩ (below_var _ _)
theorem hd_at (l : Lt) (k : Nat) (hk : k < 3) (h0 : fits l.kind) (h1 : fits l.src) (h2 : fits l.dst) : (#[I l.kind, I l.src, I l.dst] : Array Value)[k]? = some (I ([l.kind, l.src, l.dst][k]?.getD 0)) ∧ fits ([l.kind, l.src, l.dst][k]?.getD 0) := by
  match k, hk with
  | 0, _ => exact ⟨rfl, h0⟩
  | 1, _ => exact ⟨rfl, h1⟩
  | 2, _ => exact ⟨rfl, h2⟩
  | n + 3, h => exact absurd h (by omega)
theorem none_at (k : Nat) (hk : k < 17) (h : numOff k = none) : k = 9 ∨ k = 10 ∨ k = 14 ∨ k = 15 ∨ k = 16 :=
  all17 (p := fun k => numOff k = none → k = 9 ∨ k = 10 ∨ k = 14 ∨ k = 15 ∨ k = 16) (by refine ⟨?_, ?_, ?_, ?_, ?_, ?_, ?_, ?_, ?_, ?_, ?_, ?_, ?_, ?_, ?_, ?_, ?_⟩ <;> (intro e; first | (cases e; done) | omega)) k hk h
theorem ownsRow_base {w : World} {base base' e size n : Nat} {v : Value} {xs : List Value} (h : w.ownsRow base e size v n xs) (hb : base' ≤ base) : w.ownsRow base' e size v n xs := by
  refine ⟨h.1, ?_⟩
  rcases h.2 with h | ⟨g, cap, cur, rfl, hg, hh⟩
  · exact .inl h
  · exact .inr ⟨g, cap, cur, rfl, Nat.le_trans hb hg, hh⟩
def HdRel (l : Lt) (s : Sl) (w : World) (g : Nat) (i : Value) (wr : World) : Prop :=
  ∃ k : Nat, k ≤ 3 ∧ i = .int .i64 k ∧ ∃ v, WIn wr g w.heap.size (ltVal l s) v (cellBytes ([l.kind, l.src, l.dst].take k)) ∧ Far wr g v (g + 1) #[I l.kind, I l.src, I l.dst] ∧ Below w.heap.size w wr
set_option maxRecDepth 10000 in
set_option maxHeartbeats 8000000 in
theorem bytes_yes (l : Lt) (s : Sl) (sb : List UInt8) (w : World) (h : BHyp l s sb w) :
    Calls Tryz.prog 6 #[.agg (ltVal l s)] w (BytesPost w 0 (ltBytes l sb)) := by
  have HR0 := Lib.hid (Row.new w (ltVal l s) 37)
  have HB0 := Lib.hid (below_var w (.cells (ltVal l s) 37))
  have HSZ : Hid ((Tryz.prog.info? 37).map (·.size) = some (ltVal l s).size) := Lib.hid (by unfold ltVal; rw [lt_size _ _ _ _ h.ref]; kernel_rfl)
  have HH := Lib.hid h
  clear h
  go_enter Tryz.func6, Tryz.ntmps6
  go_wp2_with (first
    | (refine wpList_load_Row rfl _ _ rfl w.heap.size rfl (ltVal l s) HR0.out _ Tryz.underlying37 rfl HSZ.out ?_)
    | (go_at_call 12; refine (HH.out.valid _ HB0.out).mono ?_; rintro e w1 ⟨rfl, hb1⟩; have HB1 := Lib.hid (below_trans HB0.out hb1); have HR1 := Lib.hid (HR0.out.keep hb1); have hr1 := HR1.out.2; have hlt1 : w.heap.size < w1.heap.size := HR1.out.1; clear hb1))
  have HW1 : Hid (WIn ((w1.alloc (.cells #[pt w.heap.size, .slice none 0 0] 64)).alloc (.cells #[I l.kind, I l.src, I l.dst] 3)) w1.heap.size w.heap.size (ltVal l s) (.slice none 0 0) []) := Lib.hid (WIn.start HR1.out _)
  have HF1 : Hid (Far ((w1.alloc (.cells #[pt w.heap.size, .slice none 0 0] 64)).alloc (.cells #[I l.kind, I l.src, I l.dst] 3)) w1.heap.size (.slice none 0 0) (w1.heap.size + 1) #[I l.kind, I l.src, I l.dst]) := Lib.hid ⟨by have := Row.new (w1.alloc (.cells #[pt w.heap.size, .slice none 0 0] 64)) #[I l.kind, I l.src, I l.dst] 3; rwa [World.size_alloc] at this, by omega, by simp [Value.ownBlock]⟩
  have HB2 := Lib.hid (below_trans HB1.out (((Below.refl _ w1).alloc (Nat.le_refl _) (.cells #[pt w.heap.size, .slice none 0 0] 64)).alloc (by simp) (.cells #[I l.kind, I l.src, I l.dst] 3)))
  clear HB1 HR1 hr1 HB0 HR0
  go_loopw [26] (fun i wr => HdRel l s w w1.heap.size i wr) (fun i _ => 3 - (intOf i).toNat)
  case atStart => exact ⟨0, by omega, rfl, _, HW1.out, HF1.out, HB2.out⟩
  case round =>
    obtain ⟨k, hk, rfl, v, hw2, hf2, hb2⟩ := hrel
    have HW2 := Lib.hid hw2
    have HF2 := Lib.hid hf2
    have HB2 := Lib.hid hb2
    clear hw2 hb2 HW1 HF1
    by_cases hlt : k < 3
    · obtain ⟨z, hz0⟩ : ∃ z, [l.kind, l.src, l.dst][k]?.getD 0 = z := ⟨_, rfl⟩
      have hzz := hd_at l k hlt HH.out.kind HH.out.src HH.out.dst
      rw [hz0] at hzz
      have hcell : wr.cell? ⟨w1.heap.size + 1, k, none⟩ = some (I z) := (hf2.row.2 k).trans hzz.1
      have hfz : fits z := hzz.2
      have HZ0 := Lib.hid hz0
      clear hz0 hzz hf2
      go_wp2_with fail
      refine (number1 _ _ _ _ _ _ hfz (by rw [cellBytes_length, List.length_take]; omega) HW2.out.gl HW2.out.st).mono ?_
      intro e w3 hp
      obtain ⟨rfl, v3, hi3, hk3⟩ := hp.out HW2.out
      have HI3 := Lib.hid hi3
      have HF3 := Lib.hid (HF2.out.next hk3)
      have HB3 := Lib.hid (HB2.out.trans (hk3.below HW2.out (Nat.le_refl _)))
      clear hp hi3 hk3
      go_wp2
      go_roundw
      case rel => exact ⟨k + 1, by omega, by go_num, v3, by rw [take_snoc' _ _ hlt, HZ0.out, cellBytes_snoc]; exact HI3.out, HF3.out, HB3.out⟩
      case measure => simp [intOf]; omega
    · have hke : cellBytes ([l.kind, l.src, l.dst].take k) = hdBytes l := by rw [List.take_of_length_le (by simp; omega)]; rfl
      rw [hke] at HW2
      clear hke HF2 hf2
      have HW4 := Lib.hid (HW2.out.grow (below_var wr (.cells (wFns w1.heap.size) 56)))
      have HF4 : Hid (Far (wr.alloc (.cells (wFns w1.heap.size) 56)) w1.heap.size v wr.heap.size (wFns w1.heap.size)) := Lib.hid ⟨Row.new _ _ _, by have := HW2.out.gl; omega, fun e => by have := own_lt HW2.out.st.2 _ e.symm; omega⟩
      have HB4 := Lib.hid (below_trans HB2.out (below_var wr (.cells (wFns w1.heap.size) 56)))
      clear HW2 HB2
      go_wp2_with (first
        | (refine wpList_build_as rfl _ rfl (wFns w1.heap.size) (by kernel_rfl) ?_)
        | (refine wpList_var_row rfl rfl _ _ _ rfl rfl rfl rfl _ (wFns w1.heap.size) (wFns_info _) rfl rfl rfl (wFns_one _) ?_)
        | (go_at_call 21; refine (numbers_any _ _).mono ?_; rintro e w5 ⟨rfl, hb5⟩))
      have HW5 := Lib.hid (HW4.out.grow hb5)
      have HF5 := Lib.hid (HF4.out.grow hb5)
      have HB5 := Lib.hid (below_trans HB4.out hb5)
      clear HW4 HF4 HB4 hb5
      obtain ⟨fa, hfa⟩ : ∃ x, wr.heap.size = x := ⟨_, rfl⟩
      rw [hfa] at HF5 ⊢
      clear hfa hlt
      go_loopw [46] (fun i wx => FlRel l s sb w w1.heap.size fa i wx) (fun i _ => 17 - (intOf i).toNat)
      case atStart => exact ⟨0, by omega, rfl, v, by rw [fldsTo, List.append_nil]; exact HW5.out, HF5.out, HB5.out⟩
      case round =>
        clear HW5 HF5 HB5
        obtain ⟨k, hk, rfl, v, hw2, hf2, hb2⟩ := hrel
        have HW := Lib.hid hw2
        have HF := Lib.hid hf2
        have HB := Lib.hid hb2
        have hr2 := hw2.row.2
        have HL := Lib.hid (pre_le l sb k HH.out.cells HH.out.ref HH.out.sbl hk)
        clear hw2 hf2 hb2
        by_cases hlt : k < 17
        · have hix := fun W => index_nums w.heap.size k hlt W
          cases hu : usesB l.kind k
          · have HU := Lib.hid hu
            clear hu
            obtain ⟨q, hq⟩ : ∃ q, ptrAt w.heap.size k = q := ⟨_, rfl⟩
            rw [hq] at hix
            clear hq
            go_wp2_with (go_at_call 22; refine (uses_any _ _ _ (by omega) (by omega)).mono ?_; rintro e w6 ⟨rfl, hb6⟩; have HW6 := Lib.hid (HW.out.grow hb6); have HF6 := Lib.hid (HF.out.grow hb6); have HB6 := Lib.hid (below_trans HB.out hb6); rw [HU.out]; clear hb6)
            go_roundw
            case rel => exact ⟨k + 1, by omega, by go_num, v, by rw [fldsTo, HU.out, if_neg (by decide), List.append_nil]; exact HW6.out, HF6.out, HB6.out⟩
            case measure => simp [intOf]; omega
          have HU := Lib.hid hu
          clear hu
          cases ho : numOff k with
          | some o =>
            have hp : ptrAt w.heap.size k = .pointer (some ⟨w.heap.size, o, none⟩) := by unfold ptrAt; rw [ho]; rfl
            rw [hp] at hix
            have hcell := lt_num l (.slice s.A l.series.rule.length s.c) (.slice s.B l.series.moves.length s.d) (.slice s.C l.cells.length s.e) k o hlt ho
            have HFB : Hid (fldBytes l sb k = le (numF l k) 8) := Lib.hid (by unfold fldBytes; rw [ho]; rfl)
            have hfx := HH.out.num k hlt
            clear ho hp
            obtain ⟨x, hx⟩ : ∃ x, numF l k = x := ⟨_, rfl⟩
            rw [hx] at hcell HFB hfx
            have HFX := Lib.hid hfx
            clear hx hfx
            go_wp2_with (first
              | (go_at_call 22; refine (uses_any _ _ _ (by omega) (by omega)).mono ?_; rintro e w6 ⟨rfl, hb6⟩; have HW6 := Lib.hid (HW.out.grow hb6); have HF6 := Lib.hid (HF.out.grow hb6); have HB6 := Lib.hid (below_trans HB.out hb6); have hr6 := HW6.out.row.2; rw [HU.out]; clear hb6)
              | (go_at_call 24; refine (number8 _ _ _ _ _ _ HFX.out (Nat.le_trans HL.out (by omega)) HW6.out.gl HW6.out.st).mono ?_; intro e w7 hp; obtain ⟨rfl, v7, hi7, hk7⟩ := hp.out HW6.out; have HW7 := Lib.hid hi7; have HF7 := Lib.hid (HF6.out.next hk7); have HB7 := Lib.hid (HB6.out.trans (hk7.below HW6.out (Nat.le_refl _))); clear hp hi7 hk7))
            go_roundw
            case rel => exact ⟨k + 1, by omega, by go_num, v7, by rw [fldsTo, if_pos HU.out, HFB.out, ← List.append_assoc]; exact HW7.out, HF7.out, HB7.out⟩
            case measure => simp [intOf]; omega
          | none =>
            have hp : ptrAt w.heap.size k = .pointer none := by unfold ptrAt; rw [ho]
            rw [hp] at hix
            have hks : k = 9 ∨ k = 10 ∨ k = 14 ∨ k = 15 ∨ k = 16 := none_at k hlt ho
            clear ho hp
            rcases hks with rfl | rfl | rfl | rfl | rfl
            · -- field 9: move
              have hix' : ∀ W, (Instr.index 58 (.agg (numPtrs w.heap.size)) (.int .i64 9)).run Tryz.prog W = .ok (.pointer none) W := hix
              clear hix
              go_wp2_with (first
                | (go_at_call 22; refine (uses_any _ _ _ (by omega) (by omega)).mono ?_; rintro e w6 ⟨rfl, hb6⟩; have HW6 := Lib.hid (HW.out.grow hb6); have HF6 := Lib.hid (HF.out.grow hb6); have HB6 := Lib.hid (below_trans HB.out hb6); have hr6 := HW6.out.row.2; have hf6 : w6.cell? ⟨fa, 9, none⟩ = some (.func (.func 25) #[pt w1.heap.size] #[]) := HF6.out.row.2 9; first | rw [HU.out] | rw [show usesB l.kind 9 = true from HU.out]; clear hb6)
                | (go_at_call 25; refine (moveW_any _ _ _ l _ _ _ _ _ HW6.out (Nat.le_trans HL.out (by omega)) HH.out.mday HH.out.mto HH.out.mmin HH.out.mlen).mono ?_; intro e w7 hp; obtain ⟨rfl, v7, hi7, hk7⟩ := hp.out HW6.out; have HW7 := Lib.hid hi7; have HF7 := Lib.hid (HF6.out.next hk7); have HB7 := Lib.hid (HB6.out.trans (hk7.below HW6.out (Nat.le_refl _))); clear hp hi7 hk7))
              go_roundw
              case rel => exact ⟨10, by omega, by go_num, v7, by rw [fldsTo, if_pos HU.out, ← List.append_assoc]; exact HW7.out, HF7.out, HB7.out⟩
              case measure => simp [intOf]
            · -- field 10: series
              have hix' : ∀ W, (Instr.index 58 (.agg (numPtrs w.heap.size)) (.int .i64 10)).run Tryz.prog W = .ok (.pointer none) W := hix
              clear hix
              go_wp2_with (first
                | (go_at_call 22; refine (uses_any _ _ _ (by omega) (by omega)).mono ?_; rintro e w6 ⟨rfl, hb6⟩; have HW6 := Lib.hid (HW.out.grow hb6); have HF6 := Lib.hid (HF.out.grow hb6); have HB6 := Lib.hid (below_trans HB.out hb6); have hr6 := HW6.out.row.2; have hf6 : w6.cell? ⟨fa, 10, none⟩ = some (.func (.func 26) #[pt w1.heap.size] #[]) := HF6.out.row.2 10; first | rw [HU.out] | rw [show usesB l.kind 10 = true from HU.out]; clear hb6)
                | (go_at_call 26; refine (HH.out.ser HU.out _ _ _ _ _ HB6.out (Nat.le_refl _) HW6.out HL.out).mono ?_; intro e w7 hp; obtain ⟨rfl, v7, hi7, hk7⟩ := hp.out HW6.out; have HW7 := Lib.hid hi7; have HF7 := Lib.hid (HF6.out.next hk7); have HB7 := Lib.hid (HB6.out.trans (hk7.below HW6.out (Nat.le_refl _))); clear hp hi7 hk7))
              go_roundw
              case rel => exact ⟨11, by omega, by go_num, v7, by rw [fldsTo, if_pos HU.out, ← List.append_assoc]; exact HW7.out, HF7.out, HB7.out⟩
              case measure => simp [intOf]
            · -- field 14: window
              have hix' : ∀ W, (Instr.index 58 (.agg (numPtrs w.heap.size)) (.int .i64 14)).run Tryz.prog W = .ok (.pointer none) W := hix
              clear hix
              go_wp2_with (first
                | (go_at_call 22; refine (uses_any _ _ _ (by omega) (by omega)).mono ?_; rintro e w6 ⟨rfl, hb6⟩; have HW6 := Lib.hid (HW.out.grow hb6); have HF6 := Lib.hid (HF.out.grow hb6); have HB6 := Lib.hid (below_trans HB.out hb6); have hr6 := HW6.out.row.2; have hf6 : w6.cell? ⟨fa, 14, none⟩ = some (.func (.func 27) #[pt w1.heap.size] #[]) := HF6.out.row.2 14; first | rw [HU.out] | rw [show usesB l.kind 14 = true from HU.out]; clear hb6)
                | (go_at_call 27; refine (window_any _ _ _ l _ _ _ _ _ HW6.out (Nat.le_trans HL.out (by omega)) HH.out.wfrom HH.out.wto).mono ?_; intro e w7 hp; obtain ⟨rfl, v7, hi7, hk7⟩ := hp.out HW6.out; have HW7 := Lib.hid hi7; have HF7 := Lib.hid (HF6.out.next hk7); have HB7 := Lib.hid (HB6.out.trans (hk7.below HW6.out (Nat.le_refl _))); clear hp hi7 hk7))
              go_roundw
              case rel => exact ⟨15, by omega, by go_num, v7, by rw [fldsTo, if_pos HU.out, ← List.append_assoc]; exact HW7.out, HF7.out, HB7.out⟩
              case measure => simp [intOf]
            · -- field 15: cells
              have hix' : ∀ W, (Instr.index 58 (.agg (numPtrs w.heap.size)) (.int .i64 15)).run Tryz.prog W = .ok (.pointer none) W := hix
              clear hix
              go_wp2_with (first
                | (go_at_call 22; refine (uses_any _ _ _ (by omega) (by omega)).mono ?_; rintro e w6 ⟨rfl, hb6⟩; have HW6 := Lib.hid (HW.out.grow hb6); have HF6 := Lib.hid (HF.out.grow hb6); have HB6 := Lib.hid (below_trans HB.out hb6); have hr6 := HW6.out.row.2; have hf6 : w6.cell? ⟨fa, 15, none⟩ = some (.func (.func 28) #[pt w1.heap.size] #[]) := HF6.out.row.2 15; first | rw [HU.out] | rw [show usesB l.kind 15 = true from HU.out]; clear hb6)
                | (go_at_call 28; refine (cellsW_any _ _ _ l _ _ _ _ _ _ HW6.out (Nat.le_trans HL.out (by omega)) HH.out.cells (HH.out.ints.keep HB6.out) HH.out.fit).mono ?_; intro e w7 hp; obtain ⟨rfl, v7, hi7, hk7⟩ := hp.out HW6.out; have HW7 := Lib.hid hi7; have HF7 := Lib.hid (HF6.out.next hk7); have HB7 := Lib.hid (HB6.out.trans (hk7.below HW6.out (Nat.le_refl _))); clear hp hi7 hk7))
              go_roundw
              case rel => exact ⟨16, by omega, by go_num, v7, by rw [fldsTo, if_pos HU.out, ← List.append_assoc]; exact HW7.out, HF7.out, HB7.out⟩
              case measure => simp [intOf]
            · -- field 16: ref
              have hix' : ∀ W, (Instr.index 58 (.agg (numPtrs w.heap.size)) (.int .i64 16)).run Tryz.prog W = .ok (.pointer none) W := hix
              clear hix
              go_wp2_with (first
                | (go_at_call 22; refine (uses_any _ _ _ (by omega) (by omega)).mono ?_; rintro e w6 ⟨rfl, hb6⟩; have HW6 := Lib.hid (HW.out.grow hb6); have HF6 := Lib.hid (HF.out.grow hb6); have HB6 := Lib.hid (below_trans HB.out hb6); have hr6 := HW6.out.row.2; have hf6 : w6.cell? ⟨fa, 16, none⟩ = some (.func (.func 29) #[pt w1.heap.size] #[]) := HF6.out.row.2 16; first | rw [HU.out] | rw [show usesB l.kind 16 = true from HU.out]; clear hb6)
                | (go_at_call 29; refine (refW_any _ _ _ l _ _ _ _ _ HW6.out (Nat.le_trans HL.out (by omega)) HH.out.ref).mono ?_; intro e w7 hp; obtain ⟨rfl, v7, hi7, hk7⟩ := hp.out HW6.out; have HW7 := Lib.hid hi7; have HF7 := Lib.hid (HF6.out.next hk7); have HB7 := Lib.hid (HB6.out.trans (hk7.below HW6.out (Nat.le_refl _))); clear hp hi7 hk7))
              go_roundw
              case rel => exact ⟨17, by omega, by go_num, v7, by rw [fldsTo, if_pos HU.out, ← List.append_assoc]; exact HW7.out, HF7.out, HB7.out⟩
              case measure => simp [intOf]
        · have hke : k = 17 := by omega
          subst hke
          have hcv : wr.cell? ⟨w1.heap.size, 1, none⟩ = some v := cell_of_row wr w1.heap.size 1 _ _ _ HW.out.st.1
          clear hr2
          go_wp2
          go_ret2
          unfold BytesPost
          rw [if_pos rfl]
          exact ⟨⟨v, rfl, ownsRow_base HW.out.st.2 (by omega)⟩, HB.out⟩
end Go.Proofs.YthhbbebabmemfaaGreat
