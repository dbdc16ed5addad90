/- The texts WfE, RbS, RaA, RaB, RaC, RaD, in this order. -/
import Derived.Test.YthhbbebabmemfaaGreatG10
import Derived.Test.YthhbbebabmemfaaGreatG05
import Derived.BigQuiet
import Derived.Deep.AppendLies
import Derived.Deep.CutBlock
import Derived.Deep.DeepCutAuto
import Derived.Deep.DrawnRows
import Derived.Deep.MidRow
import Derived.Deep.QuietTactic
import Derived.Deep.RegionHeld3
import Derived.Deep.RegionLaw
import Derived.Deep.WholeRow
import Derived.Great.BuildSlice
import Derived.Laws.BytesString
import Derived.Laws.CopyOwn
import Derived.Laws.Cover3
import Derived.Laws.EntriesVeiled
import Derived.Laws.MakeOwn
import Derived.Laws.ResultCell
import Derived.Laws.Rows
import Derived.Laws.Tables
import Derived.Lib.Hide
import Derived.LoopIn
import Derived.LoopNIn
import Derived.MapKept
import Derived.Maps.AppendAt
import Derived.Outline
import Derived.OwnWalkIn
import Derived.RangeFuncBound
import Derived.RangeFuncBox
import Derived.RangeFuncCalls
import Derived.RangeFuncLeaves
import Derived.RangeFuncNested
import Derived.Shelf.Abstract
import Derived.Shelf.Bytes.SlSmallAll
import Derived.Shelf.RegionOpen
import Derived.StillTailTactics
import Derived.Stop.BytesEq
import Derived.TacticsInMore
import Derived.WalkKit
import Derived.WalkLawsBesides
import Derived.WalkSpells
import Derived.Test.YthhbbebabmemfaaGreatG07
import Derived.Test.YthhbbebabmemfaaGreatG08
import Derived.Lib.AppendStr
import Derived.Laws.BitsAllLaws
import Derived.Laws.BytesArg
import Derived.Defers
import Derived.Lib.ByteType
import Derived.Recover
/- rule.Part, series.moveOK and series.sound on any arguments. -/
namespace Go.Proofs.YthhbbebabmemfaaGreat
open Go Go.RowKit

set_option maxRecDepth 10000 in
theorem seWithin_no (n lo hi : Int) (w : World) (h : n < lo ∨ hi < n) : Calls Tryz.prog 81 #[I n, I lo, I hi] w fun e w' => e = .returned (.bool false) ∧ w' = w := by
  go_enter Tryz.func81, Tryz.ntmps81
  by_cases h1 : n < lo
  · have h2 : ¬ lo ≤ n := by omega
    go_wp2
    go_ret
    exact ⟨rfl, rfl⟩
  · have h2 : lo ≤ n := by omega
    have h3 : ¬ n ≤ hi := by omega
    go_wp2
    go_ret
    exact ⟨rfl, rfl⟩
def MvP (d : Int) (b : Bool) (t n l : Int) : Prop := 0 ≤ d ∧ d ≤ 1099511627776 ∧ ((b = true ∧ t = 0 ∧ n = 0 ∧ l = 0) ∨ (b = false ∧ 0 ≤ t ∧ t ≤ 1099511627776 ∧ 0 ≤ n ∧ n ≤ 1439 ∧ 1 ≤ l ∧ l ≤ 10080))
set_option maxRecDepth 10000 in
set_option maxHeartbeats 2000000 in
theorem moveOK_drop (d t n l : Int) (w : World) : Calls Tryz.prog 82 #[.agg #[I d, .bool true, I t, I n, I l]] w (Tells (MvP d true t n l) w) := by
  have HB := Lib.hid (below_var w (.cells #[I d, .bool true, I t, I n, I l] 26))
  by_cases h1 : 0 ≤ d ∧ d ≤ 1099511627776
  rotate_left
  · go_enter Tryz.func82, Tryz.ntmps82
    go_wp2_with (go_at_call 81; (first | refine (seWithin_yes _ _ _ _ (by omega) (by omega)).mono ?_ | refine (seWithin_no _ _ _ _ (by omega)).mono ?_); rintro e w' ⟨rfl, rfl⟩)
    go_ret
    exact Tells.no HB.out
  by_cases h2 : t = 0 ∧ n = 0 ∧ l = 0
  · obtain ⟨rfl, rfl, rfl⟩ := h2
    have he := eql_mv_same d 0 0 0 true
    go_enter Tryz.func82, Tryz.ntmps82
    go_wp2_with (go_at_call 81; (first | refine (seWithin_yes _ _ _ _ (by omega) (by omega)).mono ?_ | refine (seWithin_no _ _ _ _ (by omega)).mono ?_); rintro e w' ⟨rfl, rfl⟩)
    go_ret
    exact Tells.yes ⟨h1.1, h1.2, .inl ⟨rfl, rfl, rfl, rfl⟩⟩ HB.out
  · have he : ∀ W, (binOp .eql 26 (.agg #[I d, .bool true, I t, I n, I l]) (.agg #[I d, .bool true, I 0, I 0, I 0])).run Tryz.prog W = .ok (.bool false) W := fun W => by
      by_cases e1 : t = 0
      · by_cases e2 : n = 0
        · have e3 : ¬ l = 0 := fun h => h2 ⟨e1, e2, h⟩
          simp [go_sem, e1, e2, e3]
        · simp [go_sem, e1, e2]
      · simp [go_sem, e1]
    clear h2
    go_enter Tryz.func82, Tryz.ntmps82
    go_wp2_with (go_at_call 81; (first | refine (seWithin_yes _ _ _ _ (by omega) (by omega)).mono ?_ | refine (seWithin_no _ _ _ _ (by omega)).mono ?_); rintro e w' ⟨rfl, rfl⟩)
    go_ret
    exact Tells.no HB.out
set_option maxRecDepth 10000 in
set_option maxHeartbeats 2000000 in
theorem moveOK_keep (d t n l : Int) (w : World) : Calls Tryz.prog 82 #[.agg #[I d, .bool false, I t, I n, I l]] w (Tells (MvP d false t n l) w) := by
  have HB := Lib.hid (below_var w (.cells #[I d, .bool false, I t, I n, I l] 26))
  by_cases h1 : 0 ≤ d ∧ d ≤ 1099511627776
  rotate_left
  · go_enter Tryz.func82, Tryz.ntmps82
    go_wp2_with (go_at_call 81; (first | refine (seWithin_yes _ _ _ _ (by omega) (by omega)).mono ?_ | refine (seWithin_no _ _ _ _ (by omega)).mono ?_); rintro e w' ⟨rfl, rfl⟩)
    go_ret
    exact Tells.no HB.out
  by_cases h2 : 0 ≤ t ∧ t ≤ 1099511627776
  rotate_left
  · go_enter Tryz.func82, Tryz.ntmps82
    go_wp2_with (go_at_call 81; (first | refine (seWithin_yes _ _ _ _ (by omega) (by omega)).mono ?_ | refine (seWithin_no _ _ _ _ (by omega)).mono ?_); rintro e w' ⟨rfl, rfl⟩)
    go_ret
    exact Tells.no HB.out
  by_cases h3 : 0 ≤ n ∧ n ≤ 1439
  rotate_left
  · go_enter Tryz.func82, Tryz.ntmps82
    go_wp2_with (go_at_call 81; (first | refine (seWithin_yes _ _ _ _ (by omega) (by omega)).mono ?_ | refine (seWithin_no _ _ _ _ (by omega)).mono ?_); rintro e w' ⟨rfl, rfl⟩)
    go_ret
    exact Tells.no HB.out
  by_cases h4 : 1 ≤ l ∧ l ≤ 10080
  rotate_left
  · go_enter Tryz.func82, Tryz.ntmps82
    go_wp2_with (go_at_call 81; (first | refine (seWithin_yes _ _ _ _ (by omega) (by omega)).mono ?_ | refine (seWithin_no _ _ _ _ (by omega)).mono ?_); rintro e w' ⟨rfl, rfl⟩)
    go_ret
    exact Tells.no HB.out
  go_enter Tryz.func82, Tryz.ntmps82
  go_wp2_with (go_at_call 81; (first | refine (seWithin_yes _ _ _ _ (by omega) (by omega)).mono ?_ | refine (seWithin_no _ _ _ _ (by omega)).mono ?_); rintro e w' ⟨rfl, rfl⟩)
  go_ret
  exact Tells.yes ⟨h1.1, h1.2, .inr ⟨rfl, h2.1, h2.2, h3.1, h3.2, h4.1, h4.2⟩⟩ HB.out
theorem moveOK_any (m : Mv) (w : World) : Calls Tryz.prog 82 #[.agg #[I m.day, .bool m.drop, I m.toDay, I m.minute, I m.length]] w (Tells (MvGood m) w) := by
  obtain ⟨d, b, t, n, l⟩ := m
  cases b
  · exact moveOK_keep d t n l w
  · exact moveOK_drop d t n l w
def PartR (ns : List NdV) (w : World) (e : Ending) (w' : World) : Prop := ∃ v z, e = .returned (.tuple #[v, I z]) ∧ ((z = 0 ∧ RuleOK ns) ∨ z = 1) ∧ Below w.heap.size w w'
set_option maxRecDepth 10000 in
set_option maxHeartbeats 2000000 in
theorem part_no (A : Option Addr) (n c : Nat) (ns : List NdV) (w : World) (hA : RulesAt w w.heap.size A ns) (hl : ns.length = n) (hn : n ≤ 1000000) (hfit : ∀ x ∈ ns, Nd6 x.d ∧ x.d.list.length ≤ 1000000) (hno : ¬ RuleOK ns) :
    Calls Tryz.prog 80 #[.slice A n c, I 0] w (PartR ns w) := by
  have HWF := Lib.hid (fun w' (hb : Below w.heap.size w w') => wellFormed_any A n c ns w' ((hA.keep hb).more hb.size) hl hn hfit _ rfl)
  have HB0 := Lib.hid (below_var w (.cells #[.slice A n c] 28))
  have HNO := Lib.hid hno
  clear hA hl hfit hno
  go_enter Tryz.func80, Tryz.ntmps80
  go_wp2_with fail
  refine (HWF.out _ HB0.out).mono ?_
  rintro e w1 ⟨b, rfl, hb, hb1⟩
  have HB1 := Lib.hid (below_trans HB0.out hb1)
  cases b
  · clear hb hb1
    go_wp2_with fail
    go_ret2
    exact ⟨_, 1, rfl, .inr rfl, HB1.out⟩
  · exact absurd (hb rfl) HNO.out
theorem part_any (A : Option Addr) (n c : Nat) (ns : List NdV) (w : World) (hA : RulesAt w w.heap.size A ns) (hl : ns.length = n) (hn : n ≤ 1000000) (hfit : ∀ x ∈ ns, Nd6 x.d ∧ x.d.list.length ≤ 1000000) :
    Calls Tryz.prog 80 #[.slice A n c, I 0] w (PartR ns w) := by
  by_cases hok : RuleOK ns
  · exact (part_yes A n c ns w hA hl hok).mono fun e w' ⟨⟨v, h1⟩, h2⟩ => ⟨v, 0, h1, .inl ⟨rfl, hok⟩, h2⟩
  · exact part_no A n c ns w hA hl hn hfit hok
theorem pair_step {α : Type} (f : α → Int) (l : List α) (h : ∀ (i : Nat) a b, l[i]? = some a → l[i + 1]? = some b → f a < f b) : l.Pairwise fun a b => f a < f b := by
  rw [List.pairwise_iff_getElem]
  have step : ∀ d i (hi : i < l.length) (hj : i + d + 1 < l.length), f l[i] < f l[i + d + 1] := by
    intro d
    induction d with
    | zero =>
      intro i hi hj
      exact h i _ _ (List.getElem?_eq_getElem hi) (List.getElem?_eq_getElem hj)
    | succ d ih =>
      intro i hi hj
      have h1 := ih i hi (by omega)
      have h2 := h (i + d + 1) _ _ (List.getElem?_eq_getElem (by omega)) (List.getElem?_eq_getElem hj)
      exact Int.lt_trans h1 h2
  intro i j hi hj hij
  have h1 := step (j - i - 1) i hi (by omega)
  have e : i + (j - i - 1) + 1 = j := by omega
  simp only [e] at h1
  exact h1
/-- The first k moves are right. -/
def MvUp (ms : List Mv) (k : Nat) : Prop := (∀ j x, j < k → ms[j]? = some x → MvGood x) ∧ ∀ j a b, j + 1 < k → ms[j]? = some a → ms[j + 1]? = some b → a.day < b.day
theorem MvUp.snoc {ms : List Mv} {k : Nat} {m : Mv} (h : MvUp ms k) (hx : ms[k]? = some m) (hg : MvGood m) (hd : ∀ p, 0 < k → ms[k - 1]? = some p → p.day < m.day) : MvUp ms (k + 1) := by
  refine ⟨fun j x hj hjx => ?_, fun j a b hj ha hb => ?_⟩
  · by_cases e : j = k
    · subst e; rw [hx] at hjx; obtain rfl := Option.some.inj hjx; exact hg
    · exact h.1 j x (by omega) hjx
  · by_cases e : j + 1 = k
    · subst e; rw [hx] at hb; obtain rfl := Option.some.inj hb; exact hd a (by omega) ha
    · exact h.2 j a b (by omega) ha hb
set_option maxRecDepth 10000 in
set_option maxHeartbeats 4000000 in
theorem sound_any (s : Ser) (A B : Option Addr) (c e n mn : Nat) (ns : List NdV) (w : World) (hA : RulesAt w w.heap.size A ns) (hl : ns.length = n) (hn : n ≤ 1000000) (hfit : ∀ x ∈ ns, Nd6 x.d ∧ x.d.list.length ≤ 1000000) (hB : MovesAt w w.heap.size B s.moves) (hml : s.moves.length = mn) :
    Calls Tryz.prog 60 #[.agg #[.slice A n c, I s.minute, I s.length, .string s.zone, I s.gap, I s.fold, .slice B mn e]] w (Tells (SerGood s ∧ RuleOK ns) w) := by
  have HS0 : Hid (SoS w #[.slice A n c, I s.minute, I s.length, .string s.zone, I s.gap, I s.fold, .slice B mn e] (w.alloc (.cells #[.slice A n c, I s.minute, I s.length, .string s.zone, I s.gap, I s.fold, .slice B mn e] 31))) := Lib.hid ⟨Row.new w _ _, below_var w _⟩
  have HP := Lib.hid (fun w' (hb : Below w.heap.size w w') => part_any A n c ns w' ((hA.keep hb).more hb.size) hl hn hfit)
  have HB := Lib.hid hB
  have HML := Lib.hid hml
  obtain ⟨rule, mi, le, zo, ga, fo, ms⟩ := s
  simp only at HS0 HB HML ⊢
  clear hA hl hB hml hfit
  go_enter Tryz.func60, Tryz.ntmps60
  go_wp2_with fail
  refine (HP.out _ HS0.out.lo).mono ?_
  rintro e1 w1 ⟨v, z, rfl, hz, hb1⟩
  have HS1 := Lib.hid (HS0.out.below hb1)
  have g0 := HS1.out.box.2
  clear hb1 HP HS0
  rcases hz with ⟨rfl, hz⟩ | rfl
  rotate_left
  · go_wp2_with fail
    go_ret
    exact Tells.no HS1.out.lo
  have HRO := Lib.hid hz
  clear hz
  by_cases q1 : 0 ≤ mi ∧ mi ≤ 1439
  rotate_left
  · go_wp2_with (go_at_call 81; (first | refine (seWithin_yes _ _ _ _ (by omega) (by omega)).mono ?_ | refine (seWithin_no _ _ _ _ (by omega)).mono ?_); rintro e w' ⟨rfl, rfl⟩)
    go_ret
    exact Tells.no HS1.out.lo
  by_cases q2 : 1 ≤ le ∧ le ≤ 10080
  rotate_left
  · go_wp2_with (go_at_call 81; (first | refine (seWithin_yes _ _ _ _ (by omega) (by omega)).mono ?_ | refine (seWithin_no _ _ _ _ (by omega)).mono ?_); rintro e w' ⟨rfl, rfl⟩)
    go_ret
    exact Tells.no HS1.out.lo
  by_cases q3 : 0 ≤ ga ∧ ga ≤ 2
  rotate_left
  · go_wp2_with (go_at_call 81; (first | refine (seWithin_yes _ _ _ _ (by omega) (by omega)).mono ?_ | refine (seWithin_no _ _ _ _ (by omega)).mono ?_); rintro e w' ⟨rfl, rfl⟩)
    go_ret
    exact Tells.no HS1.out.lo
  by_cases q4 : 0 ≤ fo ∧ fo ≤ 2
  rotate_left
  · go_wp2_with (go_at_call 81; (first | refine (seWithin_yes _ _ _ _ (by omega) (by omega)).mono ?_ | refine (seWithin_no _ _ _ _ (by omega)).mono ?_); rintro e w' ⟨rfl, rfl⟩)
    go_ret
    exact Tells.no HS1.out.lo
  by_cases q5 : 1 ≤ zo.size ∧ zo.size ≤ 32
  rotate_left
  · go_wp2_with (go_at_call 81; (first | refine (seWithin_yes _ _ _ _ (by omega) (by omega)).mono ?_ | refine (seWithin_no _ _ _ _ (by omega)).mono ?_); rintro e w' ⟨rfl, rfl⟩)
    go_ret
    exact Tells.no HS1.out.lo
  by_cases q6 : mn ≤ 64
  rotate_left
  · have q12 : (64 : Int) < (mn : Int) := by omega
    go_wp2_with (go_at_call 81; (first | refine (seWithin_yes _ _ _ _ (by omega) (by omega)).mono ?_ | refine (seWithin_no _ _ _ _ (by omega)).mono ?_); rintro e w' ⟨rfl, rfl⟩)
    go_ret
    exact Tells.no HS1.out.lo
  have q12 : ¬ (64 : Int) < (mn : Int) := by omega
  have HQ : Hid (∀ (_ : ∀ x ∈ ms, MvGood x) (_ : ms.Pairwise fun a b => a.day < b.day), SerGood ⟨rule, mi, le, zo, ga, fo, ms⟩) := Lib.hid fun a1 a2 => ⟨q1, q2, q3, q4, q5, by rw [HML.out]; exact q6, a1, a2⟩
  go_wp2_with (go_at_call 81; (first | refine (seWithin_yes _ _ _ _ (by omega) (by omega)).mono ?_ | refine (seWithin_no _ _ _ _ (by omega)).mono ?_); rintro e w' ⟨rfl, rfl⟩)
  clear g0
  go_loopw [53] (fun i wr => ∃ k : Nat, k ≤ mn ∧ i = I k ∧ SoS w #[.slice A n c, I mi, I le, .string zo, I ga, I fo, .slice B mn e] wr ∧ MvUp ms k) (fun i _ => mn - (intOf i).toNat)
  case atStart => exact ⟨0, by omega, rfl, HS1.out, fun j x hj => absurd hj (Nat.not_lt_zero _), fun j a b hj => absurd hj (Nat.not_lt_zero _)⟩
  case round =>
    obtain ⟨k, hk, rfl, hso, hup⟩ := hrel
    have HSO := Lib.hid hso
    have HUP := Lib.hid hup
    clear hso HS1 hup
    by_cases hlt : (k : Int) < (mn : Int)
    · have i0 : (0 : Int) ≤ (k : Int) := by omega
      have i1 : k < mn := by omega
      obtain ⟨b, m, hBe, hbl, hx, hr⟩ := mvOne HB.out HML.out HSO.out.lo i1
      have f0 : wr.cell? ⟨b, k * 5, none⟩ = some (I m.day) := hr 0 _ rfl
      have f1 : wr.cell? ⟨b, k * 5 + 1, none⟩ = some (.bool m.drop) := hr 1 _ rfl
      have f2 : wr.cell? ⟨b, k * 5 + 2, none⟩ = some (I m.toDay) := hr 2 _ rfl
      have f3 : wr.cell? ⟨b, k * 5 + 3, none⟩ = some (I m.minute) := hr 3 _ rfl
      have f4 : wr.cell? ⟨b, k * 5 + 4, none⟩ = some (I m.length) := hr 4 _ rfl
      have HX := Lib.hid hx
      have hne : ¬ b = wr.heap.size := by omega
      have HBV := Lib.hid (below_var wr (.cells #[I m.day, .bool m.drop, I m.toDay, I m.minute, I m.length] 26))
      have HSV := Lib.hid (HSO.out.below HBV.out)
      have HRV := Lib.hid (Row.new wr #[I m.day, .bool m.drop, I m.toDay, I m.minute, I m.length] 26)
      by_cases hk0 : k = 0
      · have hq : ¬ (0 : Int) < (k : Int) := by omega
        have HK0 := Lib.hid hk0
        subst hBe
        clear hr hx hk0
        go_wp2_with fail
        have hS1 : SoL w #[.slice A n c, I mi, I le, .string zo, I ga, I fo, .slice (some ⟨b, 0, none⟩) mn e] wr.heap.size #[I m.day, .bool m.drop, I m.toDay, I m.minute, I m.length] (fun _ => True) (wr.alloc (.cells #[I m.day, .bool m.drop, I m.toDay, I m.minute, I m.length] 26)).drew := ⟨HSV.out.box, HRV.out, trivial, HSV.out.lo.drew⟩
        refine wp_region_held_drew (S := SoL w #[.slice A n c, I mi, I le, .string zo, I ga, I fo, .slice (some ⟨b, 0, none⟩) mn e] wr.heap.size #[I m.day, .bool m.drop, I m.toDay, I m.minute, I m.length] (fun _ => True)) (by kernel_rfl) hS1 (fun hH0 => ?_)
        refine wpAnyH_take_dst (i := 0) (v := _) (d := 58) rfl rfl (by kernel_rfl) (by kernel_rfl) (by kernel_rfl) (fun _ _ _ h => h) (yieldsIf_load_Row (by rfl) _ _ rfl wr.heap.size rfl #[I m.day, .bool m.drop, I m.toDay, I m.minute, I m.length] _ (fun w' h => h.mv) Tryz.underlying26 rfl (mvv_size m)) (by assumption) ?_
        try simp only [Act.put, List.setIfInBounds_toArray, List.set_cons_zero, List.set_cons_succ]
        refine wpAnyH_ready (rs := [1]) (by kernel_rfl) (by simp) ?_
        refine AllReadyH.cons rfl (fun K hK => ?_) AllReadyH.nil
        go_simp
        refine (moveOK_any m _).mono ?_
        rintro v5 w5 ⟨b5, rfl, ht5, hb5⟩
        have hS5 := hS1.grow hb5 trivial
        have HT5 := Lib.hid ht5
        clear hb5 ht5
        refine hK.out _ _ hS5 (fun hHeld => ?_)
        clear hHeld
        clear hK K
        try simp only [Act.put, List.setIfInBounds_toArray, List.set_cons_zero, List.set_cons_succ]
        cases b5
        · refine wpAnyH_take_dst (i := 2) (v := .bool true) (d := 60) rfl rfl (by kernel_rfl) (by kernel_rfl) (by kernel_rfl) (fun _ _ _ h => h) (Or.inl ⟨by rfl, ?hy1⟩) (by assumption) ?_
          case hy1 => intro w' hSw; clear hSw; first | (go_simp; done) | (go_simp; with_reducible rfl)
          try simp only [Act.put, List.setIfInBounds_toArray, List.set_cons_zero, List.set_cons_succ]
          refine wpAnyH_take_dst (i := 3) (v := .bool true) (d := 61) rfl rfl (by kernel_rfl) (by kernel_rfl) (by kernel_rfl) (fun _ _ _ h => h) (Or.inl ⟨by rfl, ?hy2⟩) (by assumption) ?_
          case hy2 => intro w' hSw; clear hSw; first | (go_simp; done) | (go_simp; with_reducible rfl)
          try simp only [Act.put, List.setIfInBounds_toArray, List.set_cons_zero, List.set_cons_succ]
          refine wpAnyH_take_dst (i := 4) (v := undef) (d := 62) rfl rfl (by kernel_rfl) (by kernel_rfl) (by kernel_rfl) (fun _ _ _ h => h) (Or.inr ⟨by rfl, rfl⟩) (by assumption) ?_
          try simp only [Act.put, List.setIfInBounds_toArray, List.set_cons_zero, List.set_cons_succ]
          refine wpAnyH_take_dst (i := 5) (v := undef) (d := 63) rfl rfl (by kernel_rfl) (by kernel_rfl) (by kernel_rfl) (fun _ _ _ h => h) (Or.inr ⟨by rfl, rfl⟩) (by assumption) ?_
          try simp only [Act.put, List.setIfInBounds_toArray, List.set_cons_zero, List.set_cons_succ]
          refine wpAnyH_take_dst (i := 6) (v := undef) (d := 64) rfl rfl (by kernel_rfl) (by kernel_rfl) (by kernel_rfl) (fun _ _ _ h => h) (Or.inr ⟨by rfl, rfl⟩) (by assumption) ?_
          try simp only [Act.put, List.setIfInBounds_toArray, List.set_cons_zero, List.set_cons_succ]
          refine wpAnyH_take_dst (i := 7) (v := undef) (d := 65) rfl rfl (by kernel_rfl) (by kernel_rfl) (by kernel_rfl) (fun _ _ _ h => h) (Or.inr ⟨by rfl, rfl⟩) (by assumption) ?_
          try simp only [Act.put, List.setIfInBounds_toArray, List.set_cons_zero, List.set_cons_succ]
          refine wpAnyH_take_dst (i := 8) (v := undef) (d := 66) rfl rfl (by kernel_rfl) (by kernel_rfl) (by kernel_rfl) (fun _ _ _ h => h) (Or.inr ⟨by rfl, rfl⟩) (by assumption) ?_
          try simp only [Act.put, List.setIfInBounds_toArray, List.set_cons_zero, List.set_cons_succ]
          refine wpAnyH_take_dst (i := 9) (v := undef) (d := 67) rfl rfl (by kernel_rfl) (by kernel_rfl) (by kernel_rfl) (fun _ _ _ h => h) (Or.inr ⟨by rfl, rfl⟩) (by assumption) ?_
          try simp only [Act.put, List.setIfInBounds_toArray, List.set_cons_zero, List.set_cons_succ]
          refine wpAnyH_take_dst (i := 10) (v := undef) (d := 68) rfl rfl (by kernel_rfl) (by kernel_rfl) (by kernel_rfl) (fun _ _ _ h => h) (Or.inr ⟨by rfl, rfl⟩) (by assumption) ?_
          try simp only [Act.put, List.setIfInBounds_toArray, List.set_cons_zero, List.set_cons_succ]
          refine wpAnyH_take_dst (i := 11) (v := undef) (d := 69) rfl rfl (by kernel_rfl) (by kernel_rfl) (by kernel_rfl) (fun _ _ _ h => h) (Or.inr ⟨by rfl, rfl⟩) (by assumption) ?_
          try simp only [Act.put, List.setIfInBounds_toArray, List.set_cons_zero, List.set_cons_succ]
          refine wpAnyH_take_dst (i := 12) (v := undef) (d := 70) rfl rfl (by kernel_rfl) (by kernel_rfl) (by kernel_rfl) (fun _ _ _ h => h) (Or.inr ⟨by rfl, rfl⟩) (by assumption) ?_
          try simp only [Act.put, List.setIfInBounds_toArray, List.set_cons_zero, List.set_cons_succ]
          refine wpAnyH_take_dst (i := 13) (v := undef) (d := 71) rfl rfl (by kernel_rfl) (by kernel_rfl) (by kernel_rfl) (fun _ _ _ h => h) (Or.inr ⟨by rfl, rfl⟩) (by assumption) ?_
          try simp only [Act.put, List.setIfInBounds_toArray, List.set_cons_zero, List.set_cons_succ]
          refine wpAnyH_take_dst (i := 14) (v := undef) (d := 72) rfl rfl (by kernel_rfl) (by kernel_rfl) (by kernel_rfl) (fun _ _ _ h => h) (Or.inr ⟨by rfl, rfl⟩) (by assumption) ?_
          try simp only [Act.put, List.setIfInBounds_toArray, List.set_cons_zero, List.set_cons_succ]
          refine wpAnyH_take_dst (i := 15) (v := undef) (d := 73) rfl rfl (by kernel_rfl) (by kernel_rfl) (by kernel_rfl) (fun _ _ _ h => h) (Or.inr ⟨by rfl, rfl⟩) (by assumption) ?_
          try simp only [Act.put, List.setIfInBounds_toArray, List.set_cons_zero, List.set_cons_succ]
          refine wpAnyH_take_dst (i := 16) (v := undef) (d := 74) rfl rfl (by kernel_rfl) (by kernel_rfl) (by kernel_rfl) (fun _ _ _ h => h) (Or.inr ⟨by rfl, rfl⟩) (by assumption) ?_
          try simp only [Act.put, List.setIfInBounds_toArray, List.set_cons_zero, List.set_cons_succ]
          refine wpAnyH_take_dst (i := 17) (v := undef) (d := 75) rfl rfl (by kernel_rfl) (by kernel_rfl) (by kernel_rfl) (fun _ _ _ h => h) (Or.inr ⟨by rfl, rfl⟩) (by assumption) ?_
          try simp only [Act.put, List.setIfInBounds_toArray, List.set_cons_zero, List.set_cons_succ]
          refine wpAnyH_take_dst (i := 18) (v := .bool true) (d := 76) rfl rfl (by kernel_rfl) (by kernel_rfl) (by kernel_rfl) (fun _ _ _ h => h) (Or.inl ⟨by rfl, ?hy3⟩) (by assumption) ?_
          case hy3 => intro w' hSw; clear hSw; first | (go_simp; done) | (go_simp; with_reducible rfl)
          try simp only [Act.put, List.setIfInBounds_toArray, List.set_cons_zero, List.set_cons_succ]
          refine wpAnyH_done (by kernel_rfl) ?_ _
          clear hH0
          have HF := Lib.hid hS5.lo
          clear hS5
          go_wp2_with fail
          go_ret
          exact Tells.no HF.out
        · refine wpAnyH_take_dst (i := 2) (v := .bool false) (d := 60) rfl rfl (by kernel_rfl) (by kernel_rfl) (by kernel_rfl) (fun _ _ _ h => h) (Or.inl ⟨by rfl, ?hy4⟩) (by assumption) ?_
          case hy4 => intro w' hSw; clear hSw; first | (go_simp; done) | (go_simp; with_reducible rfl)
          try simp only [Act.put, List.setIfInBounds_toArray, List.set_cons_zero, List.set_cons_succ]
          refine wpAnyH_take_dst (i := 3) (v := .bool false) (d := 61) rfl rfl (by kernel_rfl) (by kernel_rfl) (by kernel_rfl) (fun _ _ _ h => h) (Or.inl ⟨by rfl, ?hy5⟩) (by assumption) ?_
          case hy5 => intro w' hSw; clear hSw; first | (go_simp; done) | (go_simp; with_reducible rfl)
          try simp only [Act.put, List.setIfInBounds_toArray, List.set_cons_zero, List.set_cons_succ]
          refine wpAnyH_take_dst (i := 4) (v := I k) (d := 62) rfl rfl (by kernel_rfl) (by kernel_rfl) (by kernel_rfl) (fun _ _ _ h => h) (Or.inl ⟨by rfl, ?hy6⟩) (by assumption) ?_
          case hy6 => intro w' hSw; have k0 := hSw.mv.2; have k1 := hSw.box.2; have k2 := hSw.pv; clear hSw; first | (go_simp; done) | (go_simp; with_reducible rfl)
          try simp only [Act.put, List.setIfInBounds_toArray, List.set_cons_zero, List.set_cons_succ]
          refine wpAnyH_take_dst (i := 5) (v := .bool false) (d := 63) rfl rfl (by kernel_rfl) (by kernel_rfl) (by kernel_rfl) (fun _ _ _ h => h) (Or.inl ⟨by rfl, ?hy7⟩) (by assumption) ?_
          case hy7 => intro w' hSw; clear hSw; first | (go_simp; done) | (go_simp; omega) | (go_simp; rw [decide_eq_false hq]; done) | (go_simp; rw [decide_eq_false hq]; rfl)
          try simp only [Act.put, List.setIfInBounds_toArray, List.set_cons_zero, List.set_cons_succ]
          refine wpAnyH_take_dst (i := 6) (v := .bool false) (d := 64) rfl rfl (by kernel_rfl) (by kernel_rfl) (by kernel_rfl) (fun _ _ _ h => h) (Or.inl ⟨by rfl, ?hy8⟩) (by assumption) ?_
          case hy8 => intro w' hSw; clear hSw; first | (go_simp; done) | (go_simp; with_reducible rfl)
          try simp only [Act.put, List.setIfInBounds_toArray, List.set_cons_zero, List.set_cons_succ]
          refine wpAnyH_take_dst (i := 7) (v := undef) (d := 65) rfl rfl (by kernel_rfl) (by kernel_rfl) (by kernel_rfl) (fun _ _ _ h => h) (Or.inr ⟨by rfl, rfl⟩) (by assumption) ?_
          try simp only [Act.put, List.setIfInBounds_toArray, List.set_cons_zero, List.set_cons_succ]
          refine wpAnyH_take_dst (i := 8) (v := undef) (d := 66) rfl rfl (by kernel_rfl) (by kernel_rfl) (by kernel_rfl) (fun _ _ _ h => h) (Or.inr ⟨by rfl, rfl⟩) (by assumption) ?_
          try simp only [Act.put, List.setIfInBounds_toArray, List.set_cons_zero, List.set_cons_succ]
          refine wpAnyH_take_dst (i := 9) (v := undef) (d := 67) rfl rfl (by kernel_rfl) (by kernel_rfl) (by kernel_rfl) (fun _ _ _ h => h) (Or.inr ⟨by rfl, rfl⟩) (by assumption) ?_
          try simp only [Act.put, List.setIfInBounds_toArray, List.set_cons_zero, List.set_cons_succ]
          refine wpAnyH_take_dst (i := 10) (v := undef) (d := 68) rfl rfl (by kernel_rfl) (by kernel_rfl) (by kernel_rfl) (fun _ _ _ h => h) (Or.inr ⟨by rfl, rfl⟩) (by assumption) ?_
          try simp only [Act.put, List.setIfInBounds_toArray, List.set_cons_zero, List.set_cons_succ]
          refine wpAnyH_take_dst (i := 11) (v := undef) (d := 69) rfl rfl (by kernel_rfl) (by kernel_rfl) (by kernel_rfl) (fun _ _ _ h => h) (Or.inr ⟨by rfl, rfl⟩) (by assumption) ?_
          try simp only [Act.put, List.setIfInBounds_toArray, List.set_cons_zero, List.set_cons_succ]
          refine wpAnyH_take_dst (i := 12) (v := undef) (d := 70) rfl rfl (by kernel_rfl) (by kernel_rfl) (by kernel_rfl) (fun _ _ _ h => h) (Or.inr ⟨by rfl, rfl⟩) (by assumption) ?_
          try simp only [Act.put, List.setIfInBounds_toArray, List.set_cons_zero, List.set_cons_succ]
          refine wpAnyH_take_dst (i := 13) (v := undef) (d := 71) rfl rfl (by kernel_rfl) (by kernel_rfl) (by kernel_rfl) (fun _ _ _ h => h) (Or.inr ⟨by rfl, rfl⟩) (by assumption) ?_
          try simp only [Act.put, List.setIfInBounds_toArray, List.set_cons_zero, List.set_cons_succ]
          refine wpAnyH_take_dst (i := 14) (v := undef) (d := 72) rfl rfl (by kernel_rfl) (by kernel_rfl) (by kernel_rfl) (fun _ _ _ h => h) (Or.inr ⟨by rfl, rfl⟩) (by assumption) ?_
          try simp only [Act.put, List.setIfInBounds_toArray, List.set_cons_zero, List.set_cons_succ]
          refine wpAnyH_take_dst (i := 15) (v := undef) (d := 73) rfl rfl (by kernel_rfl) (by kernel_rfl) (by kernel_rfl) (fun _ _ _ h => h) (Or.inr ⟨by rfl, rfl⟩) (by assumption) ?_
          try simp only [Act.put, List.setIfInBounds_toArray, List.set_cons_zero, List.set_cons_succ]
          refine wpAnyH_take_dst (i := 16) (v := undef) (d := 74) rfl rfl (by kernel_rfl) (by kernel_rfl) (by kernel_rfl) (fun _ _ _ h => h) (Or.inr ⟨by rfl, rfl⟩) (by assumption) ?_
          try simp only [Act.put, List.setIfInBounds_toArray, List.set_cons_zero, List.set_cons_succ]
          refine wpAnyH_take_dst (i := 17) (v := .bool false) (d := 75) rfl rfl (by kernel_rfl) (by kernel_rfl) (by kernel_rfl) (fun _ _ _ h => h) (Or.inl ⟨by rfl, ?hy9⟩) (by assumption) ?_
          case hy9 => intro w' hSw; clear hSw; first | (go_simp; done) | (go_simp; with_reducible rfl)
          try simp only [Act.put, List.setIfInBounds_toArray, List.set_cons_zero, List.set_cons_succ]
          refine wpAnyH_take_dst (i := 18) (v := .bool false) (d := 76) rfl rfl (by kernel_rfl) (by kernel_rfl) (by kernel_rfl) (fun _ _ _ h => h) (Or.inl ⟨by rfl, ?hy10⟩) (by assumption) ?_
          case hy10 => intro w' hSw; clear hSw; first | (go_simp; done) | (go_simp; with_reducible rfl)
          try simp only [Act.put, List.setIfInBounds_toArray, List.set_cons_zero, List.set_cons_succ]
          refine wpAnyH_done (by kernel_rfl) ?_ _
          clear hH0
          go_wp2_with fail
          go_roundw
          case rel => exact ⟨k + 1, by omega, by go_num, ⟨hS5.box, hS5.lo⟩, HUP.out.snoc HX.out (HT5.out (by first | trivial | rfl)) fun p h => absurd h (by have := HK0.out; omega)⟩
          case measure => simp [intOf]; omega
      · have hq : (0 : Int) < (k : Int) := by omega
        obtain ⟨b', p, hBe', hbl', hx', hr'⟩ := mvOne (k := k - 1) HB.out HML.out HSO.out.lo (by omega)
        have hbb : b = b' := by rw [hBe] at hBe'; injection hBe' with h; injection h with h _ _
        subst hbb
        subst hBe
        have HXP := Lib.hid hx'
        have HPR : Hid (wr.cell? ⟨b, (k - 1) * 5, none⟩ = some (I p.day)) := Lib.hid (hr' 0 _ rfl)
        have hwk : IntKind.i64.wrap ((k : Int) - 1) = ((k - 1 : Nat) : Int) := by rw [IntKind.wrap_i64]; omega
        have i2 : (0 : Int) ≤ ((k - 1 : Nat) : Int) := by omega
        have i3 : ((k - 1 : Nat) : Int) < (mn : Int) := by omega
        have i4 : k - 1 < mn := by omega
        clear hr hr' hx hx' hk0
        go_wp2_with fail
        have hS1 : SoL w #[.slice A n c, I mi, I le, .string zo, I ga, I fo, .slice (some ⟨b, 0, none⟩) mn e] wr.heap.size #[I m.day, .bool m.drop, I m.toDay, I m.minute, I m.length] (fun w' => w'.cell? ⟨b, (k - 1) * 5, none⟩ = some (I p.day)) (wr.alloc (.cells #[I m.day, .bool m.drop, I m.toDay, I m.minute, I m.length] 26)).drew := ⟨HSV.out.box, HRV.out, ((World.cell?_of_block (a := ⟨b, (k - 1) * 5, none⟩) (HBV.out.block b hbl)).trans HPR.out), HSV.out.lo.drew⟩
        refine wp_region_held_drew (S := SoL w #[.slice A n c, I mi, I le, .string zo, I ga, I fo, .slice (some ⟨b, 0, none⟩) mn e] wr.heap.size #[I m.day, .bool m.drop, I m.toDay, I m.minute, I m.length] (fun w' => w'.cell? ⟨b, (k - 1) * 5, none⟩ = some (I p.day))) (by kernel_rfl) hS1 (fun hH0 => ?_)
        refine wpAnyH_take_dst (i := 0) (v := _) (d := 58) rfl rfl (by kernel_rfl) (by kernel_rfl) (by kernel_rfl) (fun _ _ _ h => h) (yieldsIf_load_Row (by rfl) _ _ rfl wr.heap.size rfl #[I m.day, .bool m.drop, I m.toDay, I m.minute, I m.length] _ (fun w' h => h.mv) Tryz.underlying26 rfl (mvv_size m)) (by assumption) ?_
        try simp only [Act.put, List.setIfInBounds_toArray, List.set_cons_zero, List.set_cons_succ]
        refine wpAnyH_ready (rs := [1]) (by kernel_rfl) (by simp) ?_
        refine AllReadyH.cons rfl (fun K hK => ?_) AllReadyH.nil
        go_simp
        refine (moveOK_any m _).mono ?_
        rintro v5 w5 ⟨b5, rfl, ht5, hb5⟩
        have hS5 := hS1.grow hb5 ((World.cell?_of_block (a := ⟨b, (k - 1) * 5, none⟩) (hb5.block b (by show b < (wr.alloc _).heap.size; simp; omega))).trans hS1.pv)
        have HT5 := Lib.hid ht5
        clear hb5 ht5
        refine hK.out _ _ hS5 (fun hHeld => ?_)
        clear hHeld
        clear hK K
        try simp only [Act.put, List.setIfInBounds_toArray, List.set_cons_zero, List.set_cons_succ]
        cases b5
        · refine wpAnyH_take_dst (i := 2) (v := .bool true) (d := 60) rfl rfl (by kernel_rfl) (by kernel_rfl) (by kernel_rfl) (fun _ _ _ h => h) (Or.inl ⟨by rfl, ?hy11⟩) (by assumption) ?_
          case hy11 => intro w' hSw; clear hSw; first | (go_simp; done) | (go_simp; with_reducible rfl)
          try simp only [Act.put, List.setIfInBounds_toArray, List.set_cons_zero, List.set_cons_succ]
          refine wpAnyH_take_dst (i := 3) (v := .bool true) (d := 61) rfl rfl (by kernel_rfl) (by kernel_rfl) (by kernel_rfl) (fun _ _ _ h => h) (Or.inl ⟨by rfl, ?hy12⟩) (by assumption) ?_
          case hy12 => intro w' hSw; clear hSw; first | (go_simp; done) | (go_simp; with_reducible rfl)
          try simp only [Act.put, List.setIfInBounds_toArray, List.set_cons_zero, List.set_cons_succ]
          refine wpAnyH_take_dst (i := 4) (v := undef) (d := 62) rfl rfl (by kernel_rfl) (by kernel_rfl) (by kernel_rfl) (fun _ _ _ h => h) (Or.inr ⟨by rfl, rfl⟩) (by assumption) ?_
          try simp only [Act.put, List.setIfInBounds_toArray, List.set_cons_zero, List.set_cons_succ]
          refine wpAnyH_take_dst (i := 5) (v := undef) (d := 63) rfl rfl (by kernel_rfl) (by kernel_rfl) (by kernel_rfl) (fun _ _ _ h => h) (Or.inr ⟨by rfl, rfl⟩) (by assumption) ?_
          try simp only [Act.put, List.setIfInBounds_toArray, List.set_cons_zero, List.set_cons_succ]
          refine wpAnyH_take_dst (i := 6) (v := undef) (d := 64) rfl rfl (by kernel_rfl) (by kernel_rfl) (by kernel_rfl) (fun _ _ _ h => h) (Or.inr ⟨by rfl, rfl⟩) (by assumption) ?_
          try simp only [Act.put, List.setIfInBounds_toArray, List.set_cons_zero, List.set_cons_succ]
          refine wpAnyH_take_dst (i := 7) (v := undef) (d := 65) rfl rfl (by kernel_rfl) (by kernel_rfl) (by kernel_rfl) (fun _ _ _ h => h) (Or.inr ⟨by rfl, rfl⟩) (by assumption) ?_
          try simp only [Act.put, List.setIfInBounds_toArray, List.set_cons_zero, List.set_cons_succ]
          refine wpAnyH_take_dst (i := 8) (v := undef) (d := 66) rfl rfl (by kernel_rfl) (by kernel_rfl) (by kernel_rfl) (fun _ _ _ h => h) (Or.inr ⟨by rfl, rfl⟩) (by assumption) ?_
          try simp only [Act.put, List.setIfInBounds_toArray, List.set_cons_zero, List.set_cons_succ]
          refine wpAnyH_take_dst (i := 9) (v := undef) (d := 67) rfl rfl (by kernel_rfl) (by kernel_rfl) (by kernel_rfl) (fun _ _ _ h => h) (Or.inr ⟨by rfl, rfl⟩) (by assumption) ?_
          try simp only [Act.put, List.setIfInBounds_toArray, List.set_cons_zero, List.set_cons_succ]
          refine wpAnyH_take_dst (i := 10) (v := undef) (d := 68) rfl rfl (by kernel_rfl) (by kernel_rfl) (by kernel_rfl) (fun _ _ _ h => h) (Or.inr ⟨by rfl, rfl⟩) (by assumption) ?_
          try simp only [Act.put, List.setIfInBounds_toArray, List.set_cons_zero, List.set_cons_succ]
          refine wpAnyH_take_dst (i := 11) (v := undef) (d := 69) rfl rfl (by kernel_rfl) (by kernel_rfl) (by kernel_rfl) (fun _ _ _ h => h) (Or.inr ⟨by rfl, rfl⟩) (by assumption) ?_
          try simp only [Act.put, List.setIfInBounds_toArray, List.set_cons_zero, List.set_cons_succ]
          refine wpAnyH_take_dst (i := 12) (v := undef) (d := 70) rfl rfl (by kernel_rfl) (by kernel_rfl) (by kernel_rfl) (fun _ _ _ h => h) (Or.inr ⟨by rfl, rfl⟩) (by assumption) ?_
          try simp only [Act.put, List.setIfInBounds_toArray, List.set_cons_zero, List.set_cons_succ]
          refine wpAnyH_take_dst (i := 13) (v := undef) (d := 71) rfl rfl (by kernel_rfl) (by kernel_rfl) (by kernel_rfl) (fun _ _ _ h => h) (Or.inr ⟨by rfl, rfl⟩) (by assumption) ?_
          try simp only [Act.put, List.setIfInBounds_toArray, List.set_cons_zero, List.set_cons_succ]
          refine wpAnyH_take_dst (i := 14) (v := undef) (d := 72) rfl rfl (by kernel_rfl) (by kernel_rfl) (by kernel_rfl) (fun _ _ _ h => h) (Or.inr ⟨by rfl, rfl⟩) (by assumption) ?_
          try simp only [Act.put, List.setIfInBounds_toArray, List.set_cons_zero, List.set_cons_succ]
          refine wpAnyH_take_dst (i := 15) (v := undef) (d := 73) rfl rfl (by kernel_rfl) (by kernel_rfl) (by kernel_rfl) (fun _ _ _ h => h) (Or.inr ⟨by rfl, rfl⟩) (by assumption) ?_
          try simp only [Act.put, List.setIfInBounds_toArray, List.set_cons_zero, List.set_cons_succ]
          refine wpAnyH_take_dst (i := 16) (v := undef) (d := 74) rfl rfl (by kernel_rfl) (by kernel_rfl) (by kernel_rfl) (fun _ _ _ h => h) (Or.inr ⟨by rfl, rfl⟩) (by assumption) ?_
          try simp only [Act.put, List.setIfInBounds_toArray, List.set_cons_zero, List.set_cons_succ]
          refine wpAnyH_take_dst (i := 17) (v := undef) (d := 75) rfl rfl (by kernel_rfl) (by kernel_rfl) (by kernel_rfl) (fun _ _ _ h => h) (Or.inr ⟨by rfl, rfl⟩) (by assumption) ?_
          try simp only [Act.put, List.setIfInBounds_toArray, List.set_cons_zero, List.set_cons_succ]
          refine wpAnyH_take_dst (i := 18) (v := .bool true) (d := 76) rfl rfl (by kernel_rfl) (by kernel_rfl) (by kernel_rfl) (fun _ _ _ h => h) (Or.inl ⟨by rfl, ?hy13⟩) (by assumption) ?_
          case hy13 => intro w' hSw; clear hSw; first | (go_simp; done) | (go_simp; with_reducible rfl)
          try simp only [Act.put, List.setIfInBounds_toArray, List.set_cons_zero, List.set_cons_succ]
          refine wpAnyH_done (by kernel_rfl) ?_ _
          clear hH0
          have HF := Lib.hid hS5.lo
          clear hS5
          go_wp2_with fail
          go_ret
          exact Tells.no HF.out
        · refine wpAnyH_take_dst (i := 2) (v := .bool false) (d := 60) rfl rfl (by kernel_rfl) (by kernel_rfl) (by kernel_rfl) (fun _ _ _ h => h) (Or.inl ⟨by rfl, ?hy14⟩) (by assumption) ?_
          case hy14 => intro w' hSw; clear hSw; first | (go_simp; done) | (go_simp; with_reducible rfl)
          try simp only [Act.put, List.setIfInBounds_toArray, List.set_cons_zero, List.set_cons_succ]
          refine wpAnyH_take_dst (i := 3) (v := .bool false) (d := 61) rfl rfl (by kernel_rfl) (by kernel_rfl) (by kernel_rfl) (fun _ _ _ h => h) (Or.inl ⟨by rfl, ?hy15⟩) (by assumption) ?_
          case hy15 => intro w' hSw; clear hSw; first | (go_simp; done) | (go_simp; with_reducible rfl)
          try simp only [Act.put, List.setIfInBounds_toArray, List.set_cons_zero, List.set_cons_succ]
          refine wpAnyH_take_dst (i := 4) (v := I k) (d := 62) rfl rfl (by kernel_rfl) (by kernel_rfl) (by kernel_rfl) (fun _ _ _ h => h) (Or.inl ⟨by rfl, ?hy16⟩) (by assumption) ?_
          case hy16 => intro w' hSw; have k0 := hSw.mv.2; have k1 := hSw.box.2; have k2 := hSw.pv; clear hSw; first | (go_simp; done) | (go_simp; with_reducible rfl)
          try simp only [Act.put, List.setIfInBounds_toArray, List.set_cons_zero, List.set_cons_succ]
          refine wpAnyH_take_dst (i := 5) (v := .bool true) (d := 63) rfl rfl (by kernel_rfl) (by kernel_rfl) (by kernel_rfl) (fun _ _ _ h => h) (Or.inl ⟨by rfl, ?hy17⟩) (by assumption) ?_
          case hy17 => intro w' hSw; clear hSw; first | (go_simp; done) | (go_simp; omega) | (go_simp; rw [decide_eq_true hq]; done) | (go_simp; rw [decide_eq_true hq]; rfl)
          try simp only [Act.put, List.setIfInBounds_toArray, List.set_cons_zero, List.set_cons_succ]
          refine wpAnyH_take_dst (i := 6) (v := .bool true) (d := 64) rfl rfl (by kernel_rfl) (by kernel_rfl) (by kernel_rfl) (fun _ _ _ h => h) (Or.inl ⟨by rfl, ?hy18⟩) (by assumption) ?_
          case hy18 => intro w' hSw; clear hSw; first | (go_simp; done) | (go_simp; with_reducible rfl)
          try simp only [Act.put, List.setIfInBounds_toArray, List.set_cons_zero, List.set_cons_succ]
          refine wpAnyH_take_dst (i := 7) (v := ?vb_7) (d := 65) rfl rfl (by kernel_rfl) (by kernel_rfl) (by kernel_rfl) (fun _ _ _ h => h) (Or.inl ⟨by rfl, ?hy19⟩) (by assumption) ?_
          case hy19 => intro w' hSw; have k0 := hSw.mv.2; have k1 := hSw.box.2; have k2 := hSw.pv; clear hSw; first | (go_simp; done) | (go_simp; with_reducible rfl)
          try simp only [Act.put, List.setIfInBounds_toArray, List.set_cons_zero, List.set_cons_succ]
          refine wpAnyH_take_dst (i := 8) (v := ?vb_8) (d := 66) rfl rfl (by kernel_rfl) (by kernel_rfl) (by kernel_rfl) (fun _ _ _ h => h) (Or.inl ⟨by rfl, ?hy20⟩) (by assumption) ?_
          case hy20 => intro w' hSw; have k0 := hSw.mv.2; have k1 := hSw.box.2; have k2 := hSw.pv; clear hSw; first | (go_simp; done) | (go_simp; with_reducible rfl)
          try simp only [Act.put, List.setIfInBounds_toArray, List.set_cons_zero, List.set_cons_succ]
          refine wpAnyH_take_dst (i := 9) (v := ?vb_9) (d := 67) rfl rfl (by kernel_rfl) (by kernel_rfl) (by kernel_rfl) (fun _ _ _ h => h) (Or.inl ⟨by rfl, ?hy21⟩) (by assumption) ?_
          case hy21 => intro w' hSw; have k0 := hSw.mv.2; have k1 := hSw.box.2; have k2 := hSw.pv; clear hSw; first | (go_simp; done) | (go_simp; with_reducible rfl)
          try simp only [Act.put, List.setIfInBounds_toArray, List.set_cons_zero, List.set_cons_succ]
          refine wpAnyH_take_dst (i := 10) (v := ?vb_10) (d := 68) rfl rfl (by kernel_rfl) (by kernel_rfl) (by kernel_rfl) (fun _ _ _ h => h) (Or.inl ⟨by rfl, ?hy22⟩) (by assumption) ?_
          case hy22 => intro w' hSw; have k0 := hSw.mv.2; have k1 := hSw.box.2; have k2 := hSw.pv; clear hSw; first | (go_simp; done) | (go_simp; with_reducible rfl)
          try simp only [Act.put, List.setIfInBounds_toArray, List.set_cons_zero, List.set_cons_succ]
          refine wpAnyH_take_dst (i := 11) (v := ?vb_11) (d := 69) rfl rfl (by kernel_rfl) (by kernel_rfl) (by kernel_rfl) (fun _ _ _ h => h) (Or.inl ⟨by rfl, ?hy23⟩) (by assumption) ?_
          case hy23 => intro w' hSw; have k0 := hSw.mv.2; have k1 := hSw.box.2; have k2 := hSw.pv; clear hSw; first | (go_simp; done) | (go_simp; with_reducible rfl)
          try simp only [Act.put, List.setIfInBounds_toArray, List.set_cons_zero, List.set_cons_succ]
          refine wpAnyH_take_dst (i := 12) (v := ?vb_12) (d := 70) rfl rfl (by kernel_rfl) (by kernel_rfl) (by kernel_rfl) (fun _ _ _ h => h) (Or.inl ⟨by rfl, ?hy24⟩) (by assumption) ?_
          case hy24 => intro w' hSw; have k0 := hSw.mv.2; have k1 := hSw.box.2; have k2 := hSw.pv; clear hSw; first | (go_simp; done) | (go_simp; with_reducible rfl)
          try simp only [Act.put, List.setIfInBounds_toArray, List.set_cons_zero, List.set_cons_succ]
          refine wpAnyH_take_dst (i := 13) (v := ?vb_13) (d := 71) rfl rfl (by kernel_rfl) (by kernel_rfl) (by kernel_rfl) (fun _ _ _ h => h) (Or.inl ⟨by rfl, ?hy25⟩) (by assumption) ?_
          case hy25 => intro w' hSw; have k0 := hSw.mv.2; have k1 := hSw.box.2; have k2 := hSw.pv; clear hSw; first | (go_simp; done) | (go_simp; with_reducible rfl)
          try simp only [Act.put, List.setIfInBounds_toArray, List.set_cons_zero, List.set_cons_succ]
          refine wpAnyH_take_dst (i := 14) (v := ?vb_14) (d := 72) rfl rfl (by kernel_rfl) (by kernel_rfl) (by kernel_rfl) (fun _ _ _ h => h) (Or.inl ⟨by rfl, ?hy26⟩) (by assumption) ?_
          case hy26 => intro w' hSw; have k0 := hSw.mv.2; have k1 := hSw.box.2; have k2 := hSw.pv; clear hSw; first | (go_simp; done) | (go_simp; with_reducible rfl)
          try simp only [Act.put, List.setIfInBounds_toArray, List.set_cons_zero, List.set_cons_succ]
          refine wpAnyH_take_dst (i := 15) (v := ?vb_15) (d := 73) rfl rfl (by kernel_rfl) (by kernel_rfl) (by kernel_rfl) (fun _ _ _ h => h) (Or.inl ⟨by rfl, ?hy27⟩) (by assumption) ?_
          case hy27 => intro w' hSw; have k0 := hSw.mv.2; have k1 := hSw.box.2; have k2 := hSw.pv; clear hSw; first | (go_simp; done) | (go_simp; with_reducible rfl)
          try simp only [Act.put, List.setIfInBounds_toArray, List.set_cons_zero, List.set_cons_succ]
          by_cases hpd : m.day ≤ p.day
          · refine wpAnyH_take_dst (i := 16) (v := .bool true) (d := 74) rfl rfl (by kernel_rfl) (by kernel_rfl) (by kernel_rfl) (fun _ _ _ h => h) (Or.inl ⟨by rfl, ?hy28⟩) (by assumption) ?_
            case hy28 => intro w' hSw; clear hSw; first | (go_simp; done) | (go_simp; with_reducible rfl) | (go_simp; simp [hpd]; done) | (go_simp; simp; omega)
            try simp only [Act.put, List.setIfInBounds_toArray, List.set_cons_zero, List.set_cons_succ]
            refine wpAnyH_take_dst (i := 17) (v := .bool true) (d := 75) rfl rfl (by kernel_rfl) (by kernel_rfl) (by kernel_rfl) (fun _ _ _ h => h) (Or.inl ⟨by rfl, ?hy29⟩) (by assumption) ?_
            case hy29 => intro w' hSw; clear hSw; first | (go_simp; done) | (go_simp; with_reducible rfl)
            try simp only [Act.put, List.setIfInBounds_toArray, List.set_cons_zero, List.set_cons_succ]
            refine wpAnyH_take_dst (i := 18) (v := .bool true) (d := 76) rfl rfl (by kernel_rfl) (by kernel_rfl) (by kernel_rfl) (fun _ _ _ h => h) (Or.inl ⟨by rfl, ?hy30⟩) (by assumption) ?_
            case hy30 => intro w' hSw; clear hSw; first | (go_simp; done) | (go_simp; with_reducible rfl)
            try simp only [Act.put, List.setIfInBounds_toArray, List.set_cons_zero, List.set_cons_succ]
            refine wpAnyH_done (by kernel_rfl) ?_ _
            clear hH0
            have HF := Lib.hid hS5.lo
            clear hS5
            go_wp2_with fail
            go_ret
            exact Tells.no HF.out
          · have HPD := Lib.hid hpd
            refine wpAnyH_take_dst (i := 16) (v := .bool false) (d := 74) rfl rfl (by kernel_rfl) (by kernel_rfl) (by kernel_rfl) (fun _ _ _ h => h) (Or.inl ⟨by rfl, ?hy31⟩) (by assumption) ?_
            case hy31 => intro w' hSw; clear hSw; first | (go_simp; done) | (go_simp; with_reducible rfl) | (go_simp; simp [hpd]; done) | (go_simp; simp; omega)
            try simp only [Act.put, List.setIfInBounds_toArray, List.set_cons_zero, List.set_cons_succ]
            refine wpAnyH_take_dst (i := 17) (v := .bool false) (d := 75) rfl rfl (by kernel_rfl) (by kernel_rfl) (by kernel_rfl) (fun _ _ _ h => h) (Or.inl ⟨by rfl, ?hy32⟩) (by assumption) ?_
            case hy32 => intro w' hSw; clear hSw; first | (go_simp; done) | (go_simp; with_reducible rfl)
            try simp only [Act.put, List.setIfInBounds_toArray, List.set_cons_zero, List.set_cons_succ]
            refine wpAnyH_take_dst (i := 18) (v := .bool false) (d := 76) rfl rfl (by kernel_rfl) (by kernel_rfl) (by kernel_rfl) (fun _ _ _ h => h) (Or.inl ⟨by rfl, ?hy33⟩) (by assumption) ?_
            case hy33 => intro w' hSw; clear hSw; first | (go_simp; done) | (go_simp; with_reducible rfl)
            try simp only [Act.put, List.setIfInBounds_toArray, List.set_cons_zero, List.set_cons_succ]
            refine wpAnyH_done (by kernel_rfl) ?_ _
            clear hH0
            go_wp2_with fail
            go_roundw
            case rel => exact ⟨k + 1, by omega, by go_num, ⟨hS5.box, hS5.lo⟩, HUP.out.snoc HX.out (HT5.out (by first | trivial | rfl)) fun p2 _ h2 => by rw [HXP.out] at h2; obtain rfl := Option.some.inj h2; exact Int.not_le.1 HPD.out⟩
            case measure => simp [intOf]; omega
    · have hkn : k = mn := by omega
      have HG : Hid (SerGood ⟨rule, mi, le, zo, ga, fo, ms⟩) := Lib.hid (HQ.out (fun x hx => by
          obtain ⟨j, hj⟩ := List.mem_iff_getElem?.1 hx
          exact HUP.out.1 j x (by have := (List.getElem?_eq_some_iff.1 hj).1; have := HML.out; omega) hj) (pair_step (·.day) ms fun i a b ha hb => HUP.out.2 i a b (by have := (List.getElem?_eq_some_iff.1 hb).1; have := HML.out; omega) ha hb))
      go_wp2_with fail
      go_ret
      exact Tells.yes ⟨HG.out, HRO.out⟩ HSO.out.lo
end Go.Proofs.YthhbbebabmemfaaGreat

/- series.Bytes on any series in memory: its bytes, or code 1; slices.Equal on any two byte slices. -/
namespace Go.Proofs.YthhbbebabmemfaaGreat
open Go Go.RowKit

def SbAny (w : World) (s : Ser) (ns : List NdV) (e : Ending) (w' : World) : Prop :=
  (SerGood s ∧ RuleOK ns ∧ SbPost w (seBytes s) e w') ∨ (e = .returned (.tuple #[.slice none 0 0, I 1]) ∧ Below w.heap.size w w')
theorem RuleOK.fits {ns : List NdV} (h : RuleOK ns) : ∀ d ∈ ns.map (·.d), NdFit d := by
  intro d hd
  obtain ⟨x, hx, rfl⟩ := List.mem_map.1 hd
  obtain ⟨i, hi⟩ := List.mem_iff_getElem?.1 hx
  have := h.n64
  have := (List.getElem?_eq_some_iff.1 hi).1
  exact (h.nodes i x hi).fit (by omega)
set_option maxRecDepth 10000 in
set_option maxHeartbeats 1000000 in
theorem sbytes_no (s : Ser) (A B : Option Addr) (c e n mn : Nat) (w : World)
    (hsound : ∀ w', Below w.heap.size w w' → Calls Tryz.prog 60 #[.agg #[.slice A n c, I s.minute, I s.length, .string s.zone, I s.gap, I s.fold, .slice B mn e]] w' (Gives (.bool false) w')) :
    Calls Tryz.prog 48 #[.agg #[.slice A n c, I s.minute, I s.length, .string s.zone, I s.gap, I s.fold, .slice B mn e]] w fun e w' => e = .returned (.tuple #[.slice none 0 0, I 1]) ∧ Below w.heap.size w w' := by
  have HX0 := Lib.hid (Row.new w #[.slice A n c, I s.minute, I s.length, .string s.zone, I s.gap, I s.fold, .slice B mn e] 31)
  have HB0 := Lib.hid (below_var w (.cells #[.slice A n c, I s.minute, I s.length, .string s.zone, I s.gap, I s.fold, .slice B mn e] 31))
  have HSD := Lib.hid hsound
  have g0 := HX0.out.2
  clear hsound
  go_enter Tryz.func48, Tryz.ntmps48
  go_wp2_with fail
  refine (HSD.out _ HB0.out).mono ?_
  rintro e1 w1 ⟨rfl, hb1⟩
  have HB1 := Lib.hid (below_trans HB0.out hb1)
  clear hb1 HSD HX0 HB0 g0
  go_wp2_with fail
  go_ret2
  exact ⟨rfl, HB1.out⟩
/-- series.Bytes of any series in memory. -/
theorem sbytes_all (s : Ser) (A B : Option Addr) (c e n mn : Nat) (ns : List NdV) (w : World) (hA : RulesAt w w.heap.size A ns) (hl : ns.length = n) (hd : s.rule = ns.map (·.d)) (hn : n ≤ 1000000) (hfit : ∀ x ∈ ns, Nd6 x.d ∧ x.d.list.length ≤ 1000000) (hB : MovesAt w w.heap.size B s.moves) (hml : s.moves.length = mn) :
    Calls Tryz.prog 48 #[.agg #[.slice A n c, I s.minute, I s.length, .string s.zone, I s.gap, I s.fold, .slice B mn e]] w (SbAny w s ns) := by
  by_cases h : SerGood s ∧ RuleOK ns
  · exact (sbytes_any s A B c e n mn ns w hA hl hd (by rw [hd]; exact h.2.fits) (by have := h.2.n64; omega) hB hml h.1 fun w' hb => sound_yes s A B c e n mn ns w' ((hA.keep hb).more hb.size) hl h.2 ((hB.keep hb).more hb.size) hml h.1).mono fun _ _ hp => .inl ⟨h.1, h.2, hp⟩
  · refine (sbytes_no s A B c e n mn w fun w' hb => ?_).mono fun _ _ hp => .inr hp
    refine (sound_any s A B c e n mn ns w' ((hA.keep hb).more hb.size) hl hn hfit ((hB.keep hb).more hb.size) hml).mono ?_
    rintro e1 w1 ⟨b, rfl, hp, hb1⟩
    cases b with
    | false => exact ⟨rfl, hb1⟩
    | true => exact absurd (hp rfl) h
set_option maxRecDepth 10000 in
set_option maxHeartbeats 1000000 in
theorem eqB_ne (A B : Option Addr) (n m c d : Nat) (w : World) (h : n ≠ m) :
    Calls Tryz.prog 70 #[.slice A n c, .slice B m d] w fun e w' => e = .returned (.bool false) ∧ w = w' := by
  have hb : ((n : Int) != (m : Int)) = true := by rw [neq_dec]; exact decide_eq_true (by omega)
  go_enter Tryz.func70, Tryz.ntmps70
  go_wp2
  go_ret
  exact ⟨rfl, rfl⟩
set_option maxRecDepth 10000 in
set_option maxHeartbeats 1000000 in
theorem eqB_some (b1 o1 b2 o2 n c d : Nat) (xs ys : List UInt8) (hx : xs.length = n) (hy : ys.length = n) (w : World) (hA : ∀ j, j < n → w.cell? ⟨b1, o1 + j, none⟩ = some (Extern.Stop.cell (xs[j]?.getD 0))) (hB : ∀ j, j < n → w.cell? ⟨b2, o2 + j, none⟩ = some (Extern.Stop.cell (ys[j]?.getD 0))) (hn : n ≤ 140737488355328) :
    Calls Tryz.prog 70 #[.slice (some ⟨b1, o1, none⟩) n c, .slice (some ⟨b2, o2, none⟩) n d] w (Gives (.bool (xs == ys)) w) := by
  have hb : ((n : Int) != (n : Int)) = false := by rw [neq_dec]; exact decide_eq_false (by omega)
  have HX := Lib.hid hx
  have HY := Lib.hid hy
  have HA := Lib.hid hA
  have HB := Lib.hid hB
  clear hx hy hA hB
  go_enter Tryz.func70, Tryz.ntmps70
  go_wp2
  go_loopw [13] (fun i wr => SameRel n xs ys i ∧ ∃ q, wr = w.drewN q) (fun i _ => n - (intOf i).toNat)
  case atStart => exact ⟨⟨0, Nat.zero_le _, rfl, fun j hj => absurd hj (by omega)⟩, 0, rfl⟩
  case round =>
    obtain ⟨⟨k, hk, rfl, hall⟩, q, rfl⟩ := hrel
    have HALL := Lib.hid hall
    clear hall
    by_cases hlt : k < n
    · have h1 := HA.out k hlt
      have h2 := HB.out k hlt
      obtain ⟨x, hx⟩ : ∃ x, xs[k]?.getD 0 = x := ⟨_, rfl⟩
      obtain ⟨y, hy⟩ : ∃ y, ys[k]?.getD 0 = y := ⟨_, rfl⟩
      have HXY : Hid (xs[k]?.getD 0 = x ∧ ys[k]?.getD 0 = y) := Lib.hid ⟨hx, hy⟩
      rw [hx] at h1
      rw [hy] at h2
      rw [cell_int] at h1 h2
      clear hx hy
      have i0 : (0 : Int) ≤ (k : Int) := by omega
      have i1 : (k : Int) < (n : Int) := by omega
      by_cases hxy : x = y
      · subst hxy
        have hne := cells_same x
        go_wp2
        go_quiet (fail)
        go_wp2
        go_roundw
        case rel => exact ⟨⟨k + 1, by omega, by go_num, fun j hj => by
          by_cases e : j = k
          · subst e; rw [HXY.out.1, HXY.out.2]
          · exact HALL.out j (by omega)⟩, _, rfl⟩
        case measure => simp [intOf]; omega
      · have hne := cells_ne hxy
        have HNE : Hid ((xs == ys) = false) := Lib.hid (beq_eq_false_iff_ne.2 fun e => hxy (by rw [← HXY.out.1, ← HXY.out.2, e]))
        clear hxy
        go_wp2
        go_quiet (fail)
        go_wp2
        go_ret
        exact ⟨by rw [HNE.out]; rfl, below_drewN (below_drewN' _ _) _⟩
    · have HEQ : Hid ((xs == ys) = true) := Lib.hid (by
        have hk : k = n := by omega
        refine beq_iff_eq.2 (List.ext_getElem? fun j => ?_)
        by_cases hj : j < k
        · have h := HALL.out j hj
          have e1 : j < xs.length := by rw [HX.out]; omega
          have e2 : j < ys.length := by rw [HY.out]; omega
          rw [List.getElem?_eq_getElem e1, List.getElem?_eq_getElem e2] at h ⊢
          simpa using h
        · rw [List.getElem?_eq_none (by rw [HX.out]; omega), List.getElem?_eq_none (by rw [HY.out]; omega)])
      go_wp2
      go_ret
      exact ⟨by rw [HEQ.out]; rfl, below_drewN' _ _⟩
/-- slices.Equal of any two byte slices. -/
theorem eqB_any (A B : Option Addr) (c d n m : Nat) (xs ys : List UInt8) (w : World) (hxn : xs.length = n) (hym : ys.length = m) (hA : BytesAt w w.heap.size A xs) (hB : BytesAt w w.heap.size B ys) (h0 : 0 < m) (hn : m ≤ 140737488355328) :
    Calls Tryz.prog 70 #[.slice A n c, .slice B m d] w (Gives (.bool (xs == ys)) w) := by
  by_cases h : n = m
  · rcases hA with hA | ⟨b1, o1, rfl, _, hc1⟩
    · omega
    · rcases hB with hB | ⟨b2, o2, rfl, _, hc2⟩
      · omega
      · subst h
        exact eqB_some b1 o1 b2 o2 _ c d xs ys hxn hym w (fun j hj => hc1 j (by omega)) (fun j hj => hc2 j (by omega)) hn
  · have e : (xs == ys) = false := beq_eq_false_iff_ne.2 (fun e => h (by rw [← hxn, ← hym, e]))
    rw [e]
    exact (eqB_ne A B _ _ c d w h).mono fun e w' ⟨he, hw⟩ => ⟨he, by rw [← hw]; exact Below.refl _ _⟩
end Go.Proofs.YthhbbebabmemfaaGreat

/- The series' reader on any bytes: bytes, number, count, text. -/
namespace Go.Proofs.YthhbbebabmemfaaGreat
open Go Go.RowKit

/-- The panic of a reader whose bytes end too early. -/
def shortP : List PanicEntry := [{ v := .iface 114 (.agg #[]), recovered := false }]
/-- It returns a value with P, at most N bytes are left; or the bytes end too early. -/
def Got (w : World) (rb N : Nat) (P : Value → World → Prop) (e : Ending) (w' : World) : Prop :=
  (∃ v R, e = .returned v ∧ P v w' ∧ SRd w' rb R ∧ R.length ≤ N ∧ MKeep rb w w') ∨ (e = .panicked shortP ∧ MKeep rb w w')
theorem Got.dies {w w' : World} {rb N : Nat} {P : Value → World → Prop} (h : MKeep rb w w') : Got w rb N P (.panicked shortP) w' := .inr ⟨rfl, h⟩
set_option maxRecDepth 10000 in
set_option maxHeartbeats 1000000 in
theorem rbytes_neg (w : World) (rb : Nat) (n : Int) (hn : n < 0) :
    Calls Tryz.prog 84 #[.pointer (some ⟨rb, 0, none⟩), I n] w fun e w' => e = .panicked shortP ∧ w' = w := by
  go_enter Tryz.func84, Tryz.ntmps84
  go_wp2
  exact ⟨rfl, rfl, rfl⟩
set_option maxRecDepth 10000 in
set_option maxHeartbeats 1000000 in
theorem rbytes_long (w : World) (rb : Nat) (n : Int) (rest : List UInt8) (hr : SRd w rb rest) (hn : (rest.length : Int) < n) :
    Calls Tryz.prog 84 #[.pointer (some ⟨rb, 0, none⟩), I n] w fun e w' => e = .panicked shortP ∧ w' = w := by
  obtain ⟨bb, off, c, h1, _⟩ := hr
  have hc0 : w.cell? ⟨rb, 0, none⟩ = some (.slice (some ⟨bb, off, none⟩) rest.length c) := cell_of_row w rb 0 _ _ _ h1
  have n0 : ¬ n < 0 := by omega
  obtain ⟨m, hm⟩ : ∃ m, rest.length = m := ⟨_, rfl⟩
  rw [hm] at hc0 hn
  clear h1 hm
  go_enter Tryz.func84, Tryz.ntmps84
  go_wp2
  exact ⟨rfl, rfl, rfl⟩
theorem fits_num8 (bs : List UInt8) : fits (num8 bs) := by
  unfold num8 wrap64 fits
  omega
set_option maxRecDepth 10000 in
set_option maxHeartbeats 1000000 in
theorem snum_any (w : World) (rb : Nat) (rest : List UInt8) (hr : SRd w rb rest) : Calls Tryz.prog 83 #[pt rb] w (Got w rb rest.length fun v _ => ∃ x, v = I x ∧ fits x) := by
  by_cases h8 : 8 ≤ rest.length
  · exact (snumber_yes w rb rest hr h8).mono fun e w' ⟨h1, h2, h3⟩ => .inl ⟨_, _, h1, ⟨_, rfl, fits_num8 _⟩, h2, by rw [List.length_drop]; omega, h3⟩
  · have hB0 : Below w.heap.size w (w.alloc (.cells #[.int .u64 0] 149)) := (Below.refl _ w).alloc (Nat.le_refl _) _
    have HRB := Lib.hid (rbytes_long (w.alloc (.cells #[.int .u64 0] 149)) rb 8 rest (hr.below hB0 hr.lt) (by omega))
    have HK := Lib.hid (MKeep.of_below (mb := rb) hB0)
    clear hr hB0
    go_enter Tryz.func83, Tryz.ntmps83
    go_wp2_with fail
    refine HRB.out.mono ?_
    rintro e w1 ⟨rfl, rfl⟩
    exact ⟨rfl, Got.dies HK.out⟩
set_option maxRecDepth 10000 in
set_option maxHeartbeats 1000000 in
theorem count_any (w : World) (rb : Nat) (rest : List UInt8) (hr : SRd w rb rest) : Calls Tryz.prog 65 #[pt rb] w (Got w rb rest.length fun v _ => ∃ n : Nat, v = I n ∧ n ≤ rest.length) := by
  have HN := Lib.hid (snum_any w rb rest hr)
  clear hr
  go_enter Tryz.func65, Tryz.ntmps65
  go_wp2_with fail
  refine HN.out.mono ?_
  rintro e w1 (⟨v, R, rfl, ⟨x, rfl, hx⟩, hr1, hl1, hk1⟩ | ⟨rfl, hk1⟩)
  rotate_left
  · exact ⟨rfl, Got.dies hk1⟩
  have HR1 := Lib.hid hr1
  have HK1 := Lib.hid hk1
  have HX := Lib.hid hx
  obtain ⟨bb, off, c, h1, _⟩ := hr1
  obtain ⟨m, hm⟩ : ∃ m, R.length = m := ⟨_, rfl⟩
  have HM := Lib.hid hm
  rw [hm] at h1 hl1
  have HL1 := Lib.hid hl1
  have hc0 : w1.cell? ⟨rb, 0, none⟩ = some (.slice (some ⟨bb, off, none⟩) m c) := cell_of_row w1 rb 0 _ _ _ h1
  clear hk1 h1 hm hx hl1 HN
  by_cases n0 : x < 0
  · go_wp2_with fail
    exact ⟨rfl, Got.dies HK1.out⟩
  by_cases n1 : (m : Int) < x
  · go_wp2_with fail
    exact ⟨rfl, Got.dies HK1.out⟩
  obtain ⟨n, rfl⟩ : ∃ n : Nat, x = n := ⟨x.toNat, by omega⟩
  have HNM : Hid (n ≤ m) := Lib.hid (by omega)
  go_wp2_with fail
  go_ret
  exact .inl ⟨_, R, rfl, ⟨n, rfl, by have := HNM.out; have := HL1.out; omega⟩, HR1.out, by rw [HM.out]; exact HL1.out, HK1.out⟩
set_option maxRecDepth 10000 in
set_option maxHeartbeats 1000000 in
theorem text_any (w : World) (rb : Nat) (rest : List UInt8) (hr : SRd w rb rest) : Calls Tryz.prog 68 #[pt rb] w (Got w rb rest.length fun v _ => ∃ s : ByteArray, v = .string s ∧ s.size ≤ rest.length) := by
  have HN := Lib.hid (snum_any w rb rest hr)
  clear hr
  go_enter Tryz.func68, Tryz.ntmps68
  go_wp2_with fail
  refine HN.out.mono ?_
  rintro e w1 (⟨v, R, rfl, ⟨x, rfl, hx⟩, hr1, hl1, hk1⟩ | ⟨rfl, hk1⟩)
  rotate_left
  · exact ⟨rfl, Got.dies hk1⟩
  have HR1 := Lib.hid hr1
  have HK1 := Lib.hid hk1
  have HL1 := Lib.hid hl1
  clear hr1 hk1 hl1 HN hx
  by_cases n0 : x < 0
  · go_wp2_with fail
    refine (rbytes_neg w1 rb x n0).mono ?_
    rintro e w2 ⟨rfl, rfl⟩
    exact ⟨rfl, Got.dies HK1.out⟩
  by_cases n1 : (R.length : Int) < x
  · go_wp2_with fail
    refine (rbytes_long w1 rb x R HR1.out n1).mono ?_
    rintro e w2 ⟨rfl, rfl⟩
    exact ⟨rfl, Got.dies HK1.out⟩
  obtain ⟨n, rfl⟩ : ∃ n : Nat, x = n := ⟨x.toNat, by omega⟩
  have hnl : n ≤ R.length := by omega
  clear n0 n1
  go_wp2_with fail
  refine (rbytes_some w1 rb n R HR1.out hnl).mono ?_
  rintro e w2 ⟨bb, off, c, rfl, hc1, hc2, hby, hr2, hk2⟩
  obtain ⟨s, hs⟩ : ∃ s : ByteArray, (⟨(R.take n).toArray⟩ : ByteArray) = s := ⟨_, rfl⟩
  have hsz : s.size = n := by rw [← hs]; show (R.take n).toArray.size = n; simp; omega
  have hcv := rconv_bytes w2 bb off c s (fun j hj => by
    rcases hby with h | ⟨b, o, hA, _, hcl⟩
    · rw [List.length_take] at h; omega
    · injection hA with hA
      injection hA with h3 h4
      subst h3 h4
      have h := hcl j (by rw [List.length_take]; omega)
      rw [h, ← hs])
  rw [hsz] at hcv
  have HR2 := Lib.hid hr2
  have HK2 := Lib.hid (HK1.out.trans hk2)
  have HSZ := Lib.hid hsz
  clear hby hr2 hk2 hs hsz
  go_wp2_with fail
  go_ret
  exact .inl ⟨_, _, rfl, ⟨s, rfl, by have := HSZ.out; have := HL1.out; omega⟩, HR2.out, by rw [List.length_drop]; have := HL1.out; omega, HK2.out⟩
end Go.Proofs.YthhbbebabmemfaaGreat

/- The series' reader on any bytes: fill, node. -/
namespace Go.Proofs.YthhbbebabmemfaaGreat
open Go Go.RowKit

def FillA (w : World) (rb N : Nat) (ts : List (Nat × Nat)) (e : Ending) (w' : World) : Prop :=
  (∃ xs R, e = .returned (.tuple #[]) ∧ xs.length = ts.length ∧ (∀ x ∈ xs, fits x) ∧ SRd w' rb R ∧ R.length ≤ N ∧ FPut w rb (ts.zip xs) w') ∨ (e = .panicked shortP ∧ ∃ l : List ((Nat × Nat) × Int), FPut w rb l w' ∧ ∀ p ∈ l, p.1 ∈ ts)
def FillRelA (w : World) (rb N : Nat) (ts : List (Nat × Nat)) (n : Nat) (i : Value) (wr : World) : Prop :=
  ∃ (k : Nat) (xs : List Int) (R : List UInt8), k ≤ n ∧ i = I k ∧ xs.length = k ∧ (∀ x ∈ xs, fits x) ∧ SRd wr rb R ∧ R.length ≤ N ∧ FPut w rb ((ts.take k).zip xs) wr
theorem zip_mem {ts : List (Nat × Nat)} {xs : List Int} {p : (Nat × Nat) × Int} (h : p ∈ ts.zip xs) : p.1 ∈ ts := by
  obtain ⟨a, b⟩ := p
  exact (List.of_mem_zip h).1
theorem zip_snoc {ts : List (Nat × Nat)} {xs : List Int} {k : Nat} {t : Nat × Nat} (hx : xs.length = k) (ht : ts[k]? = some t) (z : Int) : (ts.take (k + 1)).zip (xs ++ [z]) = (ts.take k).zip xs ++ [(t, z)] := by
  have hk := (List.getElem?_eq_some_iff.1 ht).1
  rw [List.take_add_one, ht, List.zip_append (by rw [List.length_take]; omega)]
  rfl
set_option maxRecDepth 10000 in
set_option maxHeartbeats 2000000 in
theorem fill_any (w : World) (rb ab n c N : Nat) (ts : List (Nat × Nat)) (rest : List UInt8) (hr : SRd w rb rest) (hN : rest.length ≤ N) (hn : ts.length = n) (hn2 : n ≤ 1000) (hab : rb < ab) (habs : ab < w.heap.size)
    (hA : ∀ j p, ts[j]? = some p → w.cell? ⟨ab, j, none⟩ = some (.pointer (some ⟨p.1, p.2, none⟩))) (hT : ∀ p ∈ ts, TgtOK w rb ab p) :
    Calls Tryz.prog 67 #[pt rb, .slice (some ⟨ab, 0, none⟩) n c] w (FillA w rb N ts) := by
  have HR := Lib.hid hr
  have HN := Lib.hid hn
  have HA := Lib.hid hA
  have HT := Lib.hid hT
  have HNN := Lib.hid hN
  clear hr hn hA hT hN
  go_enter Tryz.func67, Tryz.ntmps67
  go_wp2_with fail
  go_loopw [8] (fun i wr => FillRelA w rb N ts n i wr) (fun i _ => n - (intOf i).toNat)
  case atStart => exact ⟨0, [], rest, Nat.zero_le _, rfl, rfl, (fun _ h => nomatch h), HR.out, HNN.out, FPut.refl _ _⟩
  case round =>
    obtain ⟨k, xs, R, hk, rfl, hxl, hxf, hs, hRN, hp⟩ := hrel
    have HS := Lib.hid hs
    have HP := Lib.hid hp
    have HXL := Lib.hid hxl
    have HXF := Lib.hid hxf
    have HRN := Lib.hid hRN
    clear hs hp hxl hxf hRN
    by_cases hlt : (k : Int) < (n : Int)
    · have i0 : (0 : Int) ≤ (k : Int) := by omega
      have hkl : k < ts.length := by have := HN.out; omega
      obtain ⟨⟨tb, tu⟩, hp⟩ : ∃ p, ts[k] = p := ⟨_, rfl⟩
      have hx : ts[k]? = some (tb, tu) := by rw [List.getElem?_eq_getElem hkl, hp]
      have hmem := List.mem_of_getElem? hx
      have HTK : Hid (TgtOK w rb ab (tb, tu)) := Lib.hid (HT.out _ hmem)
      have HX := Lib.hid hx
      have hck : wr.cell? ⟨ab, k, none⟩ = some (.pointer (some ⟨tb, tu, none⟩)) := by
        rw [← HA.out k _ hx]
        refine World.cell?_of_block (a := ⟨ab, k, none⟩) ?_
        rw [HP.out.block ab habs (by omega)]
        exact putsB_none ab _ (fun p hp => (HT.out _ (List.mem_of_mem_take (zip_mem hp))).ab) _
      clear hx hp hmem hkl
      go_wp2_with fail
      refine (snum_any wr rb R HS.out).mono ?_
      rintro e w1 (⟨v, R1, rfl, ⟨z, rfl, hz⟩, hs3, hl3, hk3⟩ | ⟨rfl, hk3⟩)
      rotate_left
      · exact ⟨rfl, .inr ⟨rfl, _, HP.out.keep hk3, fun p hp => List.mem_of_mem_take (zip_mem hp)⟩⟩
      obtain ⟨cs, ty, h1, h2, h6⟩ := (HP.out.keep hk3).row HTK.out
      have HPT := Lib.hid (hs3.put h1 h6 HTK.out.rb tu (I z))
      have HP3 := Lib.hid (HP.out.keep hk3)
      have hcv : w1.cell? ⟨tb, tu, none⟩ = some cs[tu] := by rw [cell_of_row w1 tb tu _ _ _ h1]; exact Array.getElem?_eq_getElem h2
      have hfv := frozen_of_row w1 tb tu _ _ h1
      obtain ⟨v0, hv0⟩ : ∃ v, cs[tu] = v := ⟨_, rfl⟩
      rw [hv0] at hcv
      have HZ := Lib.hid hz
      have HL3 := Lib.hid hl3
      clear hs3 hk3 hv0 h1 h2 h6 hz hl3
      go_wp2_with fail
      go_roundw
      case rel =>
        refine ⟨k + 1, xs ++ [z], R1, by omega, by go_num, by rw [List.length_append, HXL.out]; rfl, fun x hx => ?_, HPT.out, by have := HL3.out; have := HRN.out; omega, ?_⟩
        · rcases List.mem_append.1 hx with h | h
          · exact HXF.out x h
          · rw [List.mem_singleton.1 h]; exact HZ.out
        · rw [zip_snoc HXL.out HX.out]
          exact HP3.out.put (p := ((tb, tu), z)) HTK.out
      case measure => simp [intOf]; omega
    · have hkn : k = n := by omega
      have HKN := Lib.hid hkn
      clear hkn
      go_wp2_with fail
      go_end0
      have h := HP.out
      rw [List.take_of_length_le (by rw [HN.out, HKN.out]; exact Nat.le_refl _)] at h
      exact .inl ⟨xs, R, rfl, by rw [HXL.out, HN.out, HKN.out], HXF.out, HS.out, HRN.out, h⟩
theorem len6 {xs : List Int} (h : xs.length = 6) : ∃ a b c d e f, xs = [a, b, c, d, e, f] := by
  match xs, h with
  | [a, b, c, d, e, f], _ => exact ⟨a, b, c, d, e, f, rfl⟩
theorem len5 {xs : List Int} (h : xs.length = 5) : ∃ a b c d e, xs = [a, b, c, d, e] := by
  match xs, h with
  | [a, b, c, d, e], _ => exact ⟨a, b, c, d, e, rfl⟩
theorem len2 {xs : List Int} (h : xs.length = 2) : ∃ a b, xs = [a, b] := by
  match xs, h with
  | [a, b], _ => exact ⟨a, b, rfl⟩
/-- A node as it was read. -/
def NdGot (w : World) (N : Nat) (v : Value) (w' : World) : Prop :=
  ∃ d A c, v = .agg (ndCells d A c) ∧ Nd6 d ∧ d.list.length ≤ N ∧ (∀ z ∈ d.list, fits z) ∧ d.name.size ≤ N ∧ LI w.heap.size w' A d.list
def NdRelA (w : World) (rb N : Nat) (d : Nd) (n : Nat) (i : Value) (wr : World) : Prop :=
  ∃ (k : Nat) (v : Value) (zs : List Int) (R : List UInt8), k ≤ n ∧ i = I k ∧ RdS 75 zNode w rb R w.heap.size (w.heap.size + 1) (ndPart d v) wr ∧ wr.ownsRow (w.heap.size + 2) 3 1 v k (zs.map I) ∧ zs.length = k ∧ (∀ z ∈ zs, fits z) ∧ R.length ≤ N
theorem ptrsA_new (W : World) (H : Nat) (hH : W.heap.size = H) (l : List (Nat × Nat)) (t : TypeId) (cs : Array Value) (hcs : cs = (l.map fun p => Value.pointer (some ⟨p.1, p.2, none⟩)).toArray) :
    ∀ j p, l[j]? = some p → (W.alloc (.cells cs t)).cell? ⟨H, j, none⟩ = some (.pointer (some ⟨p.1, p.2, none⟩)) := by
  intro j p hp
  rw [← hH, (Row.new W cs t).2 j, hcs]
  simp [hp]
/-- What a panic leaves: only the reader and what is new has changed. -/
theorem RdS.died {t : TypeId} {z : Array Value} {w0 W W' : World} {rb b4 b6 : Nat} {R : List UInt8} {cs : Array Value} {o : Obj} {l : List ((Nat × Nat) × Int)} (h : RdS t z w0 rb R b4 b6 cs W) (hp : FPut (W.alloc o) rb l W') (hl : ∀ p ∈ l, w0.heap.size ≤ p.1.1) : MKeep rb w0 W' := by
  have h1 := h.hm
  have h5 := h.keep.size
  have h6 := h.more o
  refine ⟨hp.os.trans h.keep.os, hp.tape.trans h.keep.tape, hp.output.trans h.keep.output, by have := hp.size; simp at this; omega, fun k hk hne => ?_⟩
  rw [hp.block k (by simp; omega) hne, putsB_none k l (fun p hpm => by have := hl p hpm; omega)]
  exact h6.keep.block k hk hne
set_option maxRecDepth 10000 in
set_option maxHeartbeats 2000000 in
theorem node_any (w : World) (rb N : Nat) (rest : List UInt8) (hr : SRd w rb rest) (hN : rest.length ≤ N) (hN2 : N ≤ 1000000) : Calls Tryz.prog 66 #[pt rb] w (Got w rb N (NdGot w N)) := by
  have hml := hr.lt
  have H0 : Hid (RdS 75 zNode w rb _ w.heap.size (w.heap.size + 1) zNode ((w.alloc (.cells zNode 75)).alloc (.cells zNode 75))) := Lib.hid (RdS.start hr zNode zNode)
  have HNN := Lib.hid hN
  clear hr hN
  obtain ⟨i0, hi, hz0, hz1, hz2⟩ := info_parts info_int
  go_enter Tryz.func66, Tryz.ntmps66
  go_wp2_with fail
  refine (fill_any _ rb (w.heap.size + 2) 6 6 N [(w.heap.size + 1, 0), (w.heap.size + 1, 1), (w.heap.size + 1, 2), (w.heap.size + 1, 3), (w.heap.size + 1, 4), (w.heap.size + 1, 5)] rest ?hr HNN.out rfl (by omega) (by omega) (by simp) ?hA ?hT).mono ?_
  case hr => exact (H0.out.more _).rd
  case hA => exact ptrsA_new _ _ (by simp) _ _ _ rfl
  case hT =>
    intro p hp
    simp only [List.mem_cons, List.not_mem_nil, or_false] at hp
    rcases hp with rfl | rfl | rfl | rfl | rfl | rfl <;> (refine H0.out.tgt _ _ _ (by simp) ?_ nb_node; decide)
  rintro e w1 (⟨xs, R1, rfl, hxl, hxf, hr1, hl1, hp1⟩ | ⟨rfl, l, hp1, hpl⟩)
  rotate_left
  · exact ⟨rfl, Got.dies (H0.out.died hp1 fun p hp => by
      have h := hpl p hp
      simp only [List.mem_cons, List.not_mem_nil, or_false] at h
      rcases h with h | h | h | h | h | h <;> (rw [h]; exact Nat.le_succ _))⟩
  obtain ⟨kd, cal, l, r, nn, m, rfl⟩ := len6 hxl
  obtain ⟨d0, hd0⟩ : ∃ d : Nd, (⟨kd, cal, l, r, nn, m, [], ⟨#[]⟩⟩ : Nd) = d := ⟨_, rfl⟩
  have H1 : Hid (RdS 75 zNode w rb R1 w.heap.size (w.heap.size + 1) (ndPart d0 (.slice none 0 0)) w1) := Lib.hid (H0.out.filled _ hr1 hp1 (by
    intro p hp
    simp only [List.zip_cons_cons, List.zip_nil_right, List.mem_cons, List.not_mem_nil, or_false] at hp
    rcases hp with rfl | rfl | rfl | rfl | rfl | rfl <;> exact Nat.le_refl _) (by rw [← hd0]; simp [putsB, setO, zNode, ndPart]))
  have H6 : Hid (∀ (zs : List Int) (nm : ByteArray), Nd6 { d0 with list := zs, name := nm }) := Lib.hid fun zs nm => by
    rw [← hd0]
    exact ⟨hxf kd (by simp), hxf cal (by simp), hxf l (by simp), hxf r (by simp), hxf nn (by simp), hxf m (by simp)⟩
  have HL1 := Lib.hid hl1
  clear hr1 hp1 H0 hxl hxf hd0 hl1
  go_wp2_with fail
  refine (count_any w1 rb R1 H1.out.rd).mono ?_
  rintro e w2 (⟨v, R2, rfl, ⟨n, rfl, hn⟩, hr2, hl2, hk2⟩ | ⟨rfl, hk2⟩)
  rotate_left
  · exact ⟨rfl, Got.dies (H1.out.keep.trans hk2)⟩
  have H2 := Lib.hid (H1.out.step hr2 hk2)
  have HL2 : Hid (R2.length ≤ N) := Lib.hid (by have := HL1.out; omega)
  have hnN : n ≤ N := by have := HL1.out; omega
  clear hr2 hk2 H1 hl2 hn
  go_wp2_with fail
  go_loopw [15] (fun i wr => NdRelA w rb N d0 n i wr) (fun i _ => n - (intOf i).toNat)
  case atStart => exact ⟨0, .slice none 0 0, [], R2, Nat.zero_le _, rfl, H2.out, World.ownsRow_nil _ _ _ _, rfl, (fun _ h => nomatch h), HL2.out⟩
  case round =>
    obtain ⟨k, v, zs, R, hk, rfl, hs, hown, hzl, hzf, hRN⟩ := hrel
    have HS := Lib.hid hs
    have HO := Lib.hid hown
    have HZL := Lib.hid hzl
    have HZF := Lib.hid hzf
    have HRN := Lib.hid hRN
    clear hs hown hzl hzf hRN
    by_cases hlt : (k : Int) < (n : Int)
    · have HSD := Lib.hid HS.out.drew
      have HOD : Hid (wr.drew.ownsRow (w.heap.size + 2) 3 1 v k (zs.map I)) := Lib.hid HO.out
      have hc6 : wr.cell? ⟨w.heap.size + 1, 6, none⟩ = some v := HS.out.cell 6
      clear HS HO
      go_wp2_with fail
      go_region_law (first
        | (refine step_append_lies _ (by rfl) _ _ _ (by rfl) (w.heap.size + 2) 3 i0 (.int .i64 0) 1 8 Tryz.underlying23 hi hz0 hz1 hz2 rfl (by omega) v k (zs.map I) (by rfl) (HO5.out.alloc _) ⟨w5.heap.size, 0, none⟩ 1 1 [I z] (by rfl) rfl (cell_one_new _ _ _) (by intro u hu; simp at hu; subst hu; rfl) (by omega) (by unfold maxLen; omega) (by omega) (by simp; omega) _ rfl ?_; intro gg cap w6 hown6 hgrow6 hat6 hlt6'; have HG6 := Lib.hid (HS5.out.grown HO5.out (Nat.lt_succ_self _) hgrow6); have HO6 := Lib.hid hown6; have hc66 : w6.cell? ⟨w.heap.size + 1, 6, none⟩ = some v := HG6.out.cell 6; have hf66 := HG6.out.froz 6; clear hown6 hgrow6 hat6)
        | (go_simp; go_at_call 83; refine (snum_any _ rb R HSD.out.rd).mono ?_; rintro e w5 (⟨v5, R5, rfl, ⟨z, rfl, hz⟩, hr5, hl5', hk5⟩ | ⟨rfl, hk5⟩); rotate_left; exact ⟨rfl, Got.dies (HSD.out.keep.trans hk5)⟩; have HS5 := Lib.hid (HSD.out.step hr5 hk5); have hc5 : w5.cell? ⟨w.heap.size + 1, 6, none⟩ = some v := HS5.out.cell 6; have hl5 := HS5.out.lt; have HO5 := Lib.hid (ownsRow_mkeep HOD.out hk5 (by omega)); have HZ := Lib.hid hz; have HL5 := Lib.hid hl5'; clear hr5 hk5 hz hl5'))
      all_goals
        go_wp2_with fail
        go_roundw
        case rel => exact ⟨k + 1, .slice (some ⟨gg, 0, none⟩) (k + 1) cap, zs ++ [z], R5, by omega, by go_num, HG6.out.store 6 (.slice (some ⟨gg, 0, none⟩) (k + 1) cap), by rw [List.map_append]; exact ownsRow_setCell_below (a := ⟨w.heap.size + 1, 6, none⟩) HO6.out (Nat.lt_succ_self _) _, by rw [List.length_append, HZL.out]; rfl, fun x hx => by
          rcases List.mem_append.1 hx with h | h
          · exact HZF.out x h
          · rw [List.mem_singleton.1 h]; exact HZ.out, by have := HL5.out; have := HRN.out; omega⟩
        case measure => simp [intOf]; omega
    · have hkn : k = n := by omega
      have hl : w.heap.size + 1 < wr.heap.size := HS.out.lt
      have ho := HO.out
      have hs := HS.out
      rw [← HZL.out] at ho
      obtain ⟨A, c, rfl, hli⟩ := LI.of_owns ho
      have HLI := Lib.hid hli
      have HS1 : Hid (RdS 75 zNode w rb R w.heap.size (w.heap.size + 1) (ndPart d0 (.slice A zs.length c)) wr) := Lib.hid hs
      have HZN : Hid (zs.length ≤ N) := Lib.hid (by rw [HZL.out]; omega)
      clear hkn ho hs hli HS HO
      go_wp2_with fail
      refine (text_any wr rb R HS1.out.rd).mono ?_
      rintro e w3 (⟨v3, R3, rfl, ⟨nm, rfl, hnm⟩, hr3, hl3', hk3⟩ | ⟨rfl, hk3⟩)
      rotate_left
      · exact ⟨rfl, Got.dies (HS1.out.keep.trans hk3)⟩
      have HS3 := Lib.hid (HS1.out.step hr3 hk3)
      have hc3 := HS3.out.cell
      have hf3 := HS3.out.froz
      have HLI3 := Lib.hid (HLI.out.mkeep hk3 (by omega))
      have hl3 := HS3.out.lt
      have HR3 : Hid (R3.length ≤ N ∧ nm.size ≤ N) := Lib.hid (by have := HRN.out; omega)
      clear hr3 hk3 HS1 HLI hl3' hnm
      obtain ⟨d, hd⟩ : ∃ d : Nd, { d0 with list := zs, name := nm } = d := ⟨_, rfl⟩
      have HD6 : Hid (Nd6 d) := Lib.hid (by rw [← hd]; exact H6.out zs nm)
      have HS4 : Hid (RdS 75 zNode w rb R3 w.heap.size (w.heap.size + 1) (ndCells d A c) (w3.setCell ⟨w.heap.size + 1, 7, none⟩ (.string nm))) := Lib.hid (by rw [← hd]; exact HS3.out.store 7 (.string nm))
      have HDL : Hid (d.list = zs ∧ d.name = nm) := Lib.hid (by rw [← hd]; exact ⟨rfl, rfl⟩)
      clear hd
      have HRW := Lib.hid HS4.out.row
      go_wp2_with (first
        | (with_reducible refine g_load 75 ?_; refine wpList_load_Row rfl _ _ rfl (w.heap.size + 1) rfl (ndCells d A c) HRW.out _ Tryz.underlying75 rfl (nd_size _ _ _) ?_)
        | (with_reducible refine g_store 75 ?_; refine wpList_store_row rfl _ _ _ rfl w.heap.size (ndCells d A c) rfl rfl 75 zNode HS4.out.res (nd_size _ _ _) rfl (nd_one _ _ _) ?_))
      have hfin := HS4.out.done (ndCells d A c)
      refine bodyPost_ret (v := .agg (ndCells d A c)) (results_cell_row rfl _ _ w.heap.size _ (ndCells d A c) (0, 0) _ rfl (setRow_heap _ _ _ _ _ _ HS4.out.res) Tryz.underlying75 rfl (nd_size _ _ _)) rfl ?_
      refine .inl ⟨_, R3, rfl, ⟨d, A, c, rfl, HD6.out, by rw [HDL.out.1]; exact HZN.out, by rw [HDL.out.1]; exact HZF.out, by rw [HDL.out.2]; exact HR3.out.2, ?_⟩, hfin.1, HR3.out.1, hfin.2⟩
      rw [HDL.out.1]
      exact (HLI3.out.of_blocks (by simp [World.setCell]) fun k h1 h2 => (setRow_other _ _ k _ (by omega)).trans (heap_setCell_other _ _ k _ (by show k ≠ w.heap.size + 1; omega))).lower (by omega)
end Go.Proofs.YthhbbebabmemfaaGreat

/- The series' reader on any bytes: move. -/
namespace Go.Proofs.YthhbbebabmemfaaGreat
open Go Go.RowKit

def MvGot (v : Value) (_ : World) : Prop := ∃ m : Mv, v = .agg (mvCells m) ∧ ∀ z ∈ mvNums m, fits z
def mvTs (h : Nat) : List (Nat × Nat) := [(h + 1, 0), (h + 2, 0), (h + 1, 2), (h + 1, 3), (h + 1, 4)]
set_option maxRecDepth 10000 in
set_option maxHeartbeats 2000000 in
theorem smove_any (w : World) (rb N : Nat) (rest : List UInt8) (hr : SRd w rb rest) (hN : rest.length ≤ N) : Calls Tryz.prog 69 #[pt rb] w (Got w rb N MvGot) := by
  have hml := hr.lt
  have H0 : Hid (RdS 26 zMove w rb rest w.heap.size (w.heap.size + 1) zMove (((w.alloc (.cells zMove 26)).alloc (.cells zMove 26)).alloc (.cells #[I 0] 3))) := Lib.hid ((RdS.start hr zMove zMove).more _)
  have HD : Hid ((((w.alloc (.cells zMove 26)).alloc (.cells zMove 26)).alloc (.cells #[I 0] 3)).heap[w.heap.size + 2]? = some (.cells #[I 0] 3 (0, 0))) := Lib.hid (by
    have h := heap_alloc_last ((w.alloc (.cells zMove 26)).alloc (.cells zMove 26)) (.cells #[I 0] 3)
    simpa using h)
  have HNN := Lib.hid hN
  clear hr hN
  go_enter Tryz.func69, Tryz.ntmps69
  go_wp2_with fail
  refine (fill_any _ rb (w.heap.size + 3) 5 5 N (mvTs w.heap.size) rest ?hr HNN.out rfl (by omega) (by omega) (by simp) ?hA ?hT).mono ?_
  case hr => exact (H0.out.more _).rd
  case hA => exact ptrsA_new _ _ (by simp) _ _ _ rfl
  case hT =>
    intro p hp
    unfold mvTs at hp
    simp only [List.mem_cons, List.not_mem_nil, or_false] at hp
    have hd : TgtOK ((((w.alloc (.cells zMove 26)).alloc (.cells zMove 26)).alloc (.cells #[I 0] 3)).alloc (.cells #[.pointer (some ⟨w.heap.size + 1, 0, none⟩), .pointer (some ⟨w.heap.size + 2, 0, none⟩), .pointer (some ⟨w.heap.size + 1, 2, none⟩), .pointer (some ⟨w.heap.size + 1, 3, none⟩), .pointer (some ⟨w.heap.size + 1, 4, none⟩)] 57)) rb (w.heap.size + 3) (w.heap.size + 2, 0) :=
      ⟨by show w.heap.size + 2 ≠ rb; omega, by show w.heap.size + 2 ≠ w.heap.size + 3; omega, _, _, (Below.heap_alloc _ _ _ (by simp)).trans HD.out, by show 0 < 1; decide, nb_one _⟩
    rcases hp with rfl | rfl | rfl | rfl | rfl
    · refine H0.out.tgt _ _ _ (by simp) ?_ nb_move; decide
    · exact hd
    · refine H0.out.tgt _ _ _ (by simp) ?_ nb_move; decide
    · refine H0.out.tgt _ _ _ (by simp) ?_ nb_move; decide
    · refine H0.out.tgt _ _ _ (by simp) ?_ nb_move; decide
  rintro e w1 (⟨xs, R1, rfl, hxl, hxf, hr1, hl1, hp1⟩ | ⟨rfl, l, hp1, hpl⟩)
  rotate_left
  · exact ⟨rfl, Got.dies (H0.out.died hp1 fun p hp => by
      have h := hpl p hp
      unfold mvTs at h
      simp only [List.mem_cons, List.not_mem_nil, or_false] at h
      rcases h with h | h | h | h | h <;> (rw [h]; dsimp only; omega))⟩
  obtain ⟨dy, dr, td, mi, le, rfl⟩ := len5 hxl
  have hze : (mvTs w.heap.size).zip [dy, dr, td, mi, le] = [((w.heap.size + 1, 0), dy), ((w.heap.size + 2, 0), dr), ((w.heap.size + 1, 2), td), ((w.heap.size + 1, 3), mi), ((w.heap.size + 1, 4), le)] := rfl
  rw [hze] at hp1
  have H1 : Hid (RdS 26 zMove w rb R1 w.heap.size (w.heap.size + 1) #[I dy, .bool false, I td, I mi, I le] w1) := Lib.hid (H0.out.filled _ hr1 hp1 (by
    intro p hp
    simp only [List.mem_cons, List.not_mem_nil, or_false] at hp
    rcases hp with rfl | rfl | rfl | rfl | rfl <;> (dsimp only; omega)) (by simp [putsB, setO, zMove]))
  have hd1 : w1.heap[w.heap.size + 2]? = some (.cells #[I dr] 3 (0, 0)) := by
    rw [hp1.block (w.heap.size + 2) (by simp) (by omega), Below.heap_alloc _ _ _ (by simp)]
    refine (congrArg _ HD.out).trans ?_
    simp [putsB, setO]
  have hcd : w1.cell? ⟨w.heap.size + 2, 0, none⟩ = some (I dr) := cell_of_row w1 _ 0 _ _ _ hd1
  have hc1 := H1.out.cell
  have hf1 := H1.out.froz
  have HL1 := Lib.hid hl1
  have HXF : Hid (∀ b : Bool, ∀ z ∈ mvNums ⟨dy, b, td, mi, le⟩, fits z) := Lib.hid fun b z hz => by
    unfold mvNums at hz
    simp only [List.mem_cons, List.not_mem_nil, or_false] at hz
    rcases hz with rfl | rfl | rfl | rfl | rfl
    · exact hxf _ (by simp)
    · unfold fits; split <;> omega
    · exact hxf _ (by simp)
    · exact hxf _ (by simp)
    · exact hxf _ (by simp)
  clear hr1 hp1 H0 HD hd1 hxl hxf hze hl1
  obtain ⟨b, hb⟩ : ∃ b : Bool, (dr != 0) = b := ⟨_, rfl⟩
  have HS4 : Hid (RdS 26 zMove w rb R1 w.heap.size (w.heap.size + 1) (mvCells ⟨dy, b, td, mi, le⟩) (w1.setCell ⟨w.heap.size + 1, 1, none⟩ (.bool b))) := Lib.hid (H1.out.store 1 (.bool b))
  have HRW := Lib.hid HS4.out.row
  cases b
  · go_wp2_with (first
      | (with_reducible refine g_load 26 ?_; refine wpList_load_Row rfl _ _ rfl (w.heap.size + 1) rfl (mvCells ⟨dy, false, td, mi, le⟩) HRW.out _ Tryz.underlying26 rfl (mv_size _) ?_)
      | (with_reducible refine g_store 26 ?_; refine wpList_store_row rfl _ _ _ rfl w.heap.size (mvCells ⟨dy, false, td, mi, le⟩) rfl rfl 26 zMove HS4.out.res (mv_size _) rfl (mv_one _) ?_))
    have hfin := HS4.out.done (mvCells ⟨dy, false, td, mi, le⟩)
    exact bodyPost_ret (v := .agg (mvCells ⟨dy, false, td, mi, le⟩)) (results_cell_row rfl _ _ w.heap.size _ (mvCells ⟨dy, false, td, mi, le⟩) (0, 0) _ rfl (setRow_heap _ _ _ _ _ _ HS4.out.res) Tryz.underlying26 rfl (mv_size _)) rfl (.inl ⟨_, R1, rfl, ⟨⟨dy, false, td, mi, le⟩, rfl, HXF.out false⟩, hfin.1, HL1.out, hfin.2⟩)
  · go_wp2_with (first
      | (with_reducible refine g_load 26 ?_; refine wpList_load_Row rfl _ _ rfl (w.heap.size + 1) rfl (mvCells ⟨dy, true, td, mi, le⟩) HRW.out _ Tryz.underlying26 rfl (mv_size _) ?_)
      | (with_reducible refine g_store 26 ?_; refine wpList_store_row rfl _ _ _ rfl w.heap.size (mvCells ⟨dy, true, td, mi, le⟩) rfl rfl 26 zMove HS4.out.res (mv_size _) rfl (mv_one _) ?_))
    have hfin := HS4.out.done (mvCells ⟨dy, true, td, mi, le⟩)
    exact bodyPost_ret (v := .agg (mvCells ⟨dy, true, td, mi, le⟩)) (results_cell_row rfl _ _ w.heap.size _ (mvCells ⟨dy, true, td, mi, le⟩) (0, 0) _ rfl (setRow_heap _ _ _ _ _ _ HS4.out.res) Tryz.underlying26 rfl (mv_size _)) rfl (.inl ⟨_, R1, rfl, ⟨⟨dy, true, td, mi, le⟩, rfl, HXF.out true⟩, hfin.1, HL1.out, hfin.2⟩)
end Go.Proofs.YthhbbebabmemfaaGreat

/- The deferred closure of series.Read where the reader panics. -/
namespace Go.Proofs.YthhbbebabmemfaaGreat
open Go Go.RowKit

/-- The series' and the code's variables are set anew; nothing else of what was there has changed. -/
structure Zeroed (b : Nat) (w w' : World) : Prop where
  os : w'.os = w.os
  tape : w'.tape = w.tape
  output : w'.output = w.output
  size : w.heap.size ≤ w'.heap.size
  var : w'.heap[b]? = some (.cells zSerC 31 (0, 0))
  code : w'.heap[b + 1]? = some (.cells #[I 3] 38 (0, 0))
  block : ∀ k, k < w.heap.size → k ≠ b → k ≠ b + 1 → w'.heap[k]? = w.heap[k]?
theorem zeroed_mk {w w1 : World} {b : Nat} {cs : Array Value} {v : Value} (hb : Below w.heap.size w w1) (hv : w.heap[b]? = some (.cells cs 31 (0, 0))) (hq : w.heap[b + 1]? = some (.cells #[v] 38 (0, 0))) : Zeroed b w ((w1.setRow b zSerC).setCell ⟨b + 1, 0, none⟩ (I 3)) := by
  have h1 : w1.heap[b]? = some (.cells cs 31 (0, 0)) := (hb.block b (lt_of_blk hv)).trans hv
  have h2 : w1.heap[b + 1]? = some (.cells #[v] 38 (0, 0)) := (hb.block _ (lt_of_blk hq)).trans hq
  have h3 : (w1.setRow b zSerC).heap[b + 1]? = some (.cells #[v] 38 (0, 0)) := (setRow_other _ _ _ _ (by omega)).trans h2
  exact ⟨hb.os, hb.tape, hb.output, by have := hb.size; simpa [World.setCell] using this, (heap_setCell_other _ ⟨b + 1, 0, none⟩ b _ (by show b ≠ b + 1; omega)).trans (setRow_heap _ _ _ _ _ _ h1), (heap_setCell_same _ (b + 1) 0 _ _ (I 3) h3), fun k hk n1 n2 => (heap_setCell_other _ _ k _ n2).trans ((setRow_other _ _ k _ n1).trans (hb.block k hk))⟩
set_option maxRecDepth 10000 in
set_option maxHeartbeats 1000000 in
theorem catch_short (b : Nat) (w : World) (cs0 : Array Value) (v : Value) (hv : w.heap[b]? = some (.cells cs0 31 (0, 0))) (hs : cs0.size = 7) (hq : w.heap[b + 1]? = some (.cells #[v] 38 (0, 0))) :
    CallsD Tryz.prog 63 #[pt b, pt (b + 1)] (.panicking shortP) w fun e u' w' => e = .returned (.tuple #[]) ∧ u' = .panicking [{ v := .iface 114 (.agg #[]), recovered := true }] ∧ Zeroed b w w' := by
  have hnn : ∀ w, (binOp .neq 20 (.iface 114 (.agg #[])) .nilIface).run Tryz.prog w = .ok (.bool true) w := by intro w; simp [go_sem]
  have hta : ∀ w, (Instr.typeAssert (.iface 114 (.agg #[])) 20 114 true).run Tryz.prog w = .ok (.tuple #[.agg #[], .bool true]) w := by intro w; kernel_rfl
  have HV := Lib.hid hv
  have HQ := Lib.hid hq
  have HS : Hid (cs0.size = zSerC.size) := Lib.hid (show cs0.size = 7 from hs)
  unfold shortP
  refine callsD_of_wpS Tryz.func63 rfl fun c₀ cs hu => ?_
  apply wpS_seq
  apply wpS_region
  simp [wpOpsS, go_sem, recoverD, hu, Tryz.ntmps63, Exit.thenS]
  refine wpS_of_wp ?_
  simp only [Array.replicate_succ, Array.replicate_zero, List.push_toArray, List.append_toArray, List.nil_append, List.cons_append, List.setIfInBounds_toArray, List.set_cons_zero, List.set_cons_succ]
  have HB1 := Lib.hid (below_var w (.cells #[] 114))
  have HV1 : Hid ((w.alloc (.cells #[] 114)).heap[b]? = some (.cells cs0 31 (0, 0))) := Lib.hid ((HB1.out.block b (lt_of_blk hv)).trans hv)
  have hq1 : ((w.alloc (.cells #[] 114)).setRow b zSerC).heap[b + 1]? = some (.cells #[v] 38 (0, 0)) := (setRow_other _ _ _ _ (by omega)).trans ((HB1.out.block _ (lt_of_blk hq)).trans hq)
  have hcc := cell_of_row _ (b + 1) 0 _ _ _ hq1
  have hfc := frozen_of_row _ (b + 1) 0 _ _ hq1
  have hz7 : (Tryz.prog.info? 31).map (·.size) = some zSerC.size := by kernel_rfl
  have HZ7 := Lib.hid hz7
  have HZ1 : Hid (zSerC.all (·.oneCell') = true) := Lib.hid (by kernel_rfl)
  have HFIN := Lib.hid (zeroed_mk HB1.out hv hq)
  clear hv hq hs hq1 hz7
  go_wp2_with (with_reducible refine g_store 31 ?_; refine wpList_store_row rfl _ _ _ rfl b zSerC rfl rfl 31 cs0 HV1.out HZ7.out HS.out HZ1.out ?_)
  simp [bodyPostS, results, Tryz.results63]
  exact HFIN.out
end Go.Proofs.YthhbbebabmemfaaGreat
