/- (*kalendsref07.Maker).rising: one to four increasing numbers in new memory. -/
import Derived.Test.YthhbbebabmemfaaGreatPm
import Derived.Test.YthhbbebabmemfaaGreatMk
import Derived.BigQuiet
import Derived.Deep.AppendLies
import Derived.Deep.CutBlock
import Derived.Deep.DeepCutAuto
import Derived.Deep.DrawnRows
import Derived.Deep.MidRow
import Derived.Deep.QuietTactic
import Derived.Deep.RegionHeld3
import Derived.Deep.RegionLaw
import Derived.Deep.WholeRow
import Derived.Great.BuildSlice
import Derived.Laws.BytesString
import Derived.Laws.CopyOwn
import Derived.Laws.EntriesVeiled
import Derived.Laws.MakeOwn
import Derived.Laws.ResultCell
import Derived.Laws.Rows
import Derived.Laws.Tables
import Derived.Lib.Hide
import Derived.LoopIn
import Derived.LoopNIn
import Derived.Maps.AppendAt
import Derived.Outline
import Derived.OwnWalkIn
import Derived.RangeFuncBound
import Derived.RangeFuncBox
import Derived.RangeFuncCalls
import Derived.RangeFuncLeaves
import Derived.RangeFuncNested
import Derived.Shelf.Abstract
import Derived.Shelf.Bytes.SlSmallAll
import Derived.Shelf.RegionOpen
import Derived.StillTailTactics
import Derived.Stop.BytesEq
import Derived.TacticsInMore
import Derived.WalkKit
import Derived.WalkLawsBesides
import Derived.WalkSpells
namespace Go.Proofs.YthhbbebabmemfaaGreat
open Go Go.RowKit

def Rising (low high : Int) (zs : List Int) : Prop := zs ≠ [] ∧ zs.length ≤ 4 ∧ zs.Pairwise (· < ·) ∧ ∀ z ∈ zs, low ≤ z ∧ z ≤ high ∧ (low < 0 → z ≠ 0)
structure RP (low high nn : Int) (k : Nat) (zs : List Int) : Prop where
  len : zs.length ≤ k
  up : zs.Pairwise (· < ·)
  all : ∀ z ∈ zs, low ≤ z ∧ z < nn ∧ z ≤ high ∧ (low < 0 → z ≠ 0)
  lo : low ≤ nn
  hi : nn ≤ high + 3
theorem RP.more {low high nn r : Int} {k : Nat} {zs : List Int} (h : RP low high nn k zs) (hn : nn ≤ high) (h0 : nn ≠ 0 ∨ 0 ≤ low) (hr : 0 ≤ r ∧ r < 3) : RP low high (nn + 1 + r) (k + 1) (zs ++ [nn]) := by
  refine ⟨by have := h.len; simp; omega, ?_, ?_, by have := h.lo; omega, by omega⟩
  · rw [List.pairwise_append]
    exact ⟨h.up, List.pairwise_singleton _ _, fun a ha b hb => by rw [List.mem_singleton.1 hb]; exact (h.all a ha).2.1⟩
  · intro z hz
    rcases List.mem_append.1 hz with hz | hz
    · have := h.all z hz; exact ⟨this.1, by omega, this.2.2⟩
    · have hz := List.mem_singleton.1 hz
      subst hz
      exact ⟨h.lo, by omega, hn, fun hl => by omega⟩
theorem RP.skip {low high nn r : Int} {k : Nat} {zs : List Int} (h : RP low high nn k zs) (hn : nn ≤ high) (hr : 0 ≤ r ∧ r < 3) : RP low high (nn + 1 + r) (k + 1) zs :=
  ⟨by have := h.len; omega, h.up, fun z hz => by have := h.all z hz; exact ⟨this.1, by omega, this.2.2⟩, by have := h.lo; omega, by omega⟩
theorem mk_grown {w w1 : World} {mb base e size n : Nat} {v : Value} {cs : List Value} {o : Obj} {xs : List Int} {a nd : Nat} (h : MkSt w mb xs a nd) (hown : w.ownsRow base e size v n cs) (hb : mb < base) (hg : (w.alloc o).grownBy w1 v.ownBlock) : MkSt w1 mb xs a nd ∧ Below mb w w1 := by
  have hl := h.lt
  have hB : Below mb w w1 := ⟨hg.os, hg.tape, hg.output, by have := hg.size; simp at this; omega, fun k hk => by rw [hg.block k (by simp; omega) (own_ge hown k (by omega)), Below.heap_alloc w o k (by omega)]⟩
  obtain ⟨A, c, h1, h2⟩ := h
  exact ⟨⟨A, c, by rw [hg.block mb (by simp; omega) (own_ge hown mb hb), Below.heap_alloc w o mb hl]; exact h1, h2.keep hB⟩, hB⟩
theorem mkeep_grown {w0 w w1 : World} {mb e size n : Nat} {v : Value} {cs : List Value} {o : Obj} (h : MKeep mb w0 w) (hown : w.ownsRow w0.heap.size e size v n cs) (hg : (w.alloc o).grownBy w1 v.ownBlock) : MKeep mb w0 w1 :=
  have hs := h.size
  ⟨hg.os.trans h.os, hg.tape.trans h.tape, hg.output.trans h.output, by have := hg.size; simp at this; omega, fun k hk hn => by
    rw [hg.block k (by simp; omega) (own_ge hown k hk), Below.heap_alloc w o k (by omega)]; exact h.block k hk hn⟩
/-- What 'rising' gives. -/
def Rose (w : World) (mb : Nat) (xs : List Int) (at_ nodes : Nat) (low high : Int) (e : Ending) (w' : World) : Prop :=
  ∃ zs v a', e = .returned v ∧ Rising low high zs ∧ w'.ownsRow w.heap.size 3 1 v zs.length (zs.map I) ∧ MkSt w' mb xs a' nodes ∧ a' ≤ at_ + 6 ∧ MKeep mb w w'
def RiseRel (w : World) (mb : Nat) (xs : List Int) (at_ nodes : Nat) (low high kk : Int) (n out i : Value) (wr : World) : Prop :=
  ∃ (k : Nat) (nn : Int) (zs : List Int) (a' : Nat), (k : Int) ≤ kk ∧ i = I k ∧ n = I nn ∧ RP low high nn k zs ∧ wr.ownsRow w.heap.size 3 1 out zs.length (zs.map I) ∧ MkSt wr mb xs a' nodes ∧ a' ≤ at_ + 2 + k ∧ MKeep mb w wr
/-- append of one int to a row of the call's own. -/
theorem wpList_app_int {ops : Array Oper} {rest : List Oper} {o : Oper} {a : Act} {Q : Exit → Act → World → Prop} {w : World} (hgd : o.guard = none) (s x : Operand)
    (ho : o.op = .call { callee := .builtin .append, args := #[s, x], argTypes := #[23, 23] }) (base : Nat) (v : Value) (n : Nat) (xs : List Value) (hs : a.eval s = v) (hown : w.ownsRow base 3 1 v n xs) (z : Int)
    (hx : a.eval x = .slice (some ⟨w.heap.size, 0, none⟩) 1 1) (hn : n ≤ 1000000) (hb : base ≤ w.heap.size)
    (h : ∀ v' w', w'.ownsRow base 3 1 v' (n + 1) (xs ++ [I z]) → (w.alloc (.cells #[I z] 3)).grownBy w' v.ownBlock → wpList Tryz.prog ops Q rest (a.put o.dst v') w') :
    wpList Tryz.prog ops Q (o :: rest) a (w.alloc (.cells #[I z] 3)) := by
  obtain ⟨i0, hi, hz0, hz1, hz2⟩ := info_parts info_int
  refine wpList_append_own_at _ hgd s x 23 ho base 3 i0 (.int .i64 0) 1 8 Tryz.underlying23 hi hz0 hz1 hz2 rfl (by decide) v n xs hs (hown.alloc _) ⟨w.heap.size, 0, none⟩ 1 1 [I z] hx rfl (cell_one_new _ _ _) (by intro u hu; simp at hu; subst hu; rfl) (by unfold maxLen; omega) (by omega) (by simp; omega) (fun v' w' h1 h2 _ _ => h v' w' h1 h2)
set_option maxRecDepth 10000 in
set_option maxHeartbeats 1000000 in
theorem rising_any (w : World) (mb : Nat) (xs : List Int) (at_ nodes : Nat) (low high : Int) (h : MkSt w mb xs at_ nodes) (hx : XsOK xs) (hat : at_ ≤ 100000000) (h1 : -1000 ≤ low) (h2 : low ≤ high) (h3 : high ≤ 1000) (h4 : 0 < high) :
    Calls Tryz.prog 88 #[pt mb, I low, I high] w (Rose w mb xs at_ nodes low high) := by
  have HM := Lib.hid h
  have HX := Lib.hid hx
  have hml := h.lt
  clear h hx
  go_enter Tryz.func88, Tryz.ntmps88
  go_wp2_with fail
  refine (pick_any w mb xs at_ nodes 4 HM.out HX.out (by omega) (by omega) (by omega)).mono ?_
  rintro e w1 ⟨r, rfl, hr1, hr2, hm1, hk1⟩
  have HM1 := Lib.hid hm1
  have HK1 := Lib.hid hk1
  clear hm1 hk1
  go_wp2_with fail
  refine (pick_any w1 mb xs (at_ + 1) nodes (high - low + 1) HM1.out HX.out (by omega) (by omega) (by omega)).mono ?_
  rintro e w2 ⟨n0, rfl, hn1, hn2, hm2, hk2⟩
  have HM2 := Lib.hid hm2
  have HK2 := Lib.hid (HK1.out.trans hk2)
  clear hm2 hk2 HM1 HK1 HM
  go_wp2_with fail
  obtain ⟨kk, hkk⟩ : ∃ kk : Int, 1 + r = kk := ⟨_, rfl⟩
  rw [hkk]
  have hkk1 : 1 ≤ kk := by omega
  have hkk2 : kk ≤ 4 := by omega
  clear hkk hr1 hr2
  go_loopw [8, 9, 10] (fun n out i wr => RiseRel w mb xs at_ nodes low high kk n out i wr) (fun _ _ i _ => (kk - intOf i).toNat)
  case atStart => exact ⟨0, low + n0, [], at_ + 1 + 1, by omega, rfl, rfl, ⟨by simp, List.Pairwise.nil, (fun z hz => nomatch hz), by omega, by omega⟩, by simp [World.ownsRow], HM2.out, by omega, HK2.out⟩
  case round =>
    obtain ⟨k, nn, zs, a', hk, rfl, rfl, hrp, hown, hm3, ha3, hk3⟩ := hrel
    have hnlo := hrp.lo
    have hnhi := hrp.hi
    have hlen := hrp.len
    have hk4 : k ≤ 4 := by omega
    have HP := Lib.hid hrp
    have HM3 := Lib.hid hm3
    have HK3 := Lib.hid hk3
    have HO := Lib.hid hown
    clear hrp hown hm3 hk3 HM2 HK2
    by_cases hlt : (k : Int) < kk
    · by_cases hnh : nn ≤ high
      · by_cases h0 : nn ≠ 0 ∨ 0 ≤ low
        · have hz : nn ≠ 0 ∨ (nn = 0 ∧ 0 ≤ low) := by omega
          have H0 := Lib.hid h0
          clear h0
          rcases hz with hz | ⟨rfl, hz⟩
          · go_wp2_with (at_builtin; refine wpList_app_int rfl _ _ rfl w.heap.size _ (zs.length) (zs.map I) rfl HO.out (nn) rfl (by first | omega | simp) (by have := HK3.out.size; omega) ?_)
            intro v' w3 hown' hgrow
            obtain ⟨hm4, -⟩ := mk_grown HM3.out HO.out (by omega) hgrow
            have HM4 := Lib.hid hm4
            have HK4 := Lib.hid (mkeep_grown HK3.out HO.out hgrow)
            have HO4 := Lib.hid hown'
            clear hown' hgrow hm4
            go_wp2_with fail
            refine (pick_any w3 mb xs a' nodes 3 HM4.out HX.out (by omega) (by omega) (by omega)).mono ?_
            rintro e w4 ⟨r, rfl, hr1, hr2, hm5, hk5⟩
            have HM5 := Lib.hid hm5
            have HK5 := Lib.hid (HK4.out.trans hk5)
            have HO5 := Lib.hid (ownsRow_mkeep HO4.out hk5 hml)
            clear hm5 hk5
            go_wp2_with fail
            go_roundw
            case rel => exact ⟨k + 1, _, zs ++ [_], a' + 1, by omega, by go_num, by first | rfl | go_num, HP.out.more hnh H0.out ⟨hr1, hr2⟩, by simpa using HO5.out, HM5.out, by omega, HK5.out⟩
            case measure => simp [intOf]; omega
          · go_wp2_with (at_builtin; refine wpList_app_int rfl _ _ rfl w.heap.size _ (zs.length) (zs.map I) rfl HO.out (0) rfl (by first | omega | simp) (by have := HK3.out.size; omega) ?_)
            intro v' w3 hown' hgrow
            obtain ⟨hm4, -⟩ := mk_grown HM3.out HO.out (by omega) hgrow
            have HM4 := Lib.hid hm4
            have HK4 := Lib.hid (mkeep_grown HK3.out HO.out hgrow)
            have HO4 := Lib.hid hown'
            clear hown' hgrow hm4
            go_wp2_with fail
            refine (pick_any w3 mb xs a' nodes 3 HM4.out HX.out (by omega) (by omega) (by omega)).mono ?_
            rintro e w4 ⟨r, rfl, hr1, hr2, hm5, hk5⟩
            have HM5 := Lib.hid hm5
            have HK5 := Lib.hid (HK4.out.trans hk5)
            have HO5 := Lib.hid (ownsRow_mkeep HO4.out hk5 hml)
            clear hm5 hk5
            go_wp2_with fail
            go_roundw
            case rel => exact ⟨k + 1, _, zs ++ [_], a' + 1, by omega, by go_num, by first | rfl | go_num, HP.out.more hnh H0.out ⟨hr1, hr2⟩, by simpa using HO5.out, HM5.out, by omega, HK5.out⟩
            case measure => simp [intOf]; omega
        · have hzz : nn = 0 := by omega
          have hlow : ¬ 0 ≤ low := by omega
          subst hzz
          clear h0
          go_wp2_with fail
          refine (pick_any wr mb xs a' nodes 3 HM3.out HX.out (by omega) (by omega) (by omega)).mono ?_
          rintro e w4 ⟨r, rfl, hr1, hr2, hm5, hk5⟩
          have HM5 := Lib.hid hm5
          have HK5 := Lib.hid (HK3.out.trans hk5)
          have HO5 := Lib.hid (ownsRow_mkeep HO.out hk5 hml)
          clear hm5 hk5
          go_wp2_with fail
          go_roundw
          case rel => exact ⟨k + 1, _, zs, a' + 1, by omega, by go_num, by first | rfl | go_num, HP.out.skip hnh ⟨hr1, hr2⟩, HO5.out, HM5.out, by omega, HK5.out⟩
          case measure => simp [intOf]; omega
      · clear hnlo
        obtain ⟨ho1, ho2⟩ := HO.out
        rcases ho2 with ⟨rfl, hn⟩ | ⟨g, cap, cur, rfl, -⟩
        · obtain rfl := List.eq_nil_of_length_eq_zero hn
          clear ho1 hn
          have HOZ : Hid (wr.ownsRow w.heap.size 3 1 (.slice none 0 0) 0 []) := Lib.hid (by simpa using HO.out)
          go_wp2_with (at_builtin; refine wpList_app_int rfl _ _ rfl w.heap.size (.slice none 0 0) (0) ([]) rfl HOZ.out (high) rfl (by first | omega | simp) (by have := HK3.out.size; omega) ?_)
          intro v' w3 hown' hgrow
          obtain ⟨hm4, -⟩ := mk_grown HM3.out HO.out (by omega) hgrow
          have HM4 := Lib.hid hm4
          have HK4 := Lib.hid (mkeep_grown HK3.out HO.out hgrow)
          have HO4 := Lib.hid hown'
          clear hown' hgrow hm4
          go_wp2_with fail
          go_ret
          exact ⟨[high], _, a', rfl, ⟨by simp, by simp, List.pairwise_singleton _ _, fun z hz => by rw [List.mem_singleton.1 hz]; exact ⟨h2, Int.le_refl _, fun _ => by omega⟩⟩, by simpa using HO4.out, HM4.out, by omega, HK4.out⟩
        · clear ho1
          cases zs with
          | nil =>
            have HOZ : Hid (wr.ownsRow w.heap.size 3 1 (.slice (some ⟨g, 0, none⟩) 0 cap) 0 []) := Lib.hid (by simpa using HO.out)
            go_wp2_with (at_builtin; refine wpList_app_int rfl _ _ rfl w.heap.size (.slice (some ⟨g, 0, none⟩) 0 cap) (0) ([]) rfl HOZ.out (high) rfl (by first | omega | simp) (by have := HK3.out.size; omega) ?_)
            intro v' w3 hown' hgrow
            obtain ⟨hm4, -⟩ := mk_grown HM3.out HO.out (by omega) hgrow
            have HM4 := Lib.hid hm4
            have HK4 := Lib.hid (mkeep_grown HK3.out HO.out hgrow)
            have HO4 := Lib.hid hown'
            clear hown' hgrow hm4
            go_wp2_with fail
            go_ret
            exact ⟨[high], _, a', rfl, ⟨by simp, by simp, List.pairwise_singleton _ _, fun z hz => by rw [List.mem_singleton.1 hz]; exact ⟨h2, Int.le_refl _, fun _ => by omega⟩⟩, by simpa using HO4.out, HM4.out, by omega, HK4.out⟩
          | cons z zt =>
            have hzl : ¬ ((z :: zt).length : Int) = 0 := by simp; omega
            go_wp2_with fail
            go_ret
            exact ⟨z :: zt, _, a', rfl, ⟨by simp, by omega, HP.out.up, fun y hy => by have := HP.out.all y hy; exact ⟨this.1, this.2.2.1, this.2.2.2⟩⟩, HO.out, HM3.out, by omega, HK3.out⟩
    · clear hnlo hnhi
      obtain ⟨ho1, ho2⟩ := HO.out
      rcases ho2 with ⟨rfl, hn⟩ | ⟨g, cap, cur, rfl, -⟩
      · obtain rfl := List.eq_nil_of_length_eq_zero hn
        clear ho1 hn
        have HOZ : Hid (wr.ownsRow w.heap.size 3 1 (.slice none 0 0) 0 []) := Lib.hid (by simpa using HO.out)
        go_wp2_with (at_builtin; refine wpList_app_int rfl _ _ rfl w.heap.size (.slice none 0 0) (0) ([]) rfl HOZ.out (high) rfl (by first | omega | simp) (by have := HK3.out.size; omega) ?_)
        intro v' w3 hown' hgrow
        obtain ⟨hm4, -⟩ := mk_grown HM3.out HO.out (by omega) hgrow
        have HM4 := Lib.hid hm4
        have HK4 := Lib.hid (mkeep_grown HK3.out HO.out hgrow)
        have HO4 := Lib.hid hown'
        clear hown' hgrow hm4
        go_wp2_with fail
        go_ret
        exact ⟨[high], _, a', rfl, ⟨by simp, by simp, List.pairwise_singleton _ _, fun z hz => by rw [List.mem_singleton.1 hz]; exact ⟨h2, Int.le_refl _, fun _ => by omega⟩⟩, by simpa using HO4.out, HM4.out, by omega, HK4.out⟩
      · clear ho1
        cases zs with
        | nil =>
          have HOZ : Hid (wr.ownsRow w.heap.size 3 1 (.slice (some ⟨g, 0, none⟩) 0 cap) 0 []) := Lib.hid (by simpa using HO.out)
          go_wp2_with (at_builtin; refine wpList_app_int rfl _ _ rfl w.heap.size (.slice (some ⟨g, 0, none⟩) 0 cap) (0) ([]) rfl HOZ.out (high) rfl (by first | omega | simp) (by have := HK3.out.size; omega) ?_)
          intro v' w3 hown' hgrow
          obtain ⟨hm4, -⟩ := mk_grown HM3.out HO.out (by omega) hgrow
          have HM4 := Lib.hid hm4
          have HK4 := Lib.hid (mkeep_grown HK3.out HO.out hgrow)
          have HO4 := Lib.hid hown'
          clear hown' hgrow hm4
          go_wp2_with fail
          go_ret
          exact ⟨[high], _, a', rfl, ⟨by simp, by simp, List.pairwise_singleton _ _, fun z hz => by rw [List.mem_singleton.1 hz]; exact ⟨h2, Int.le_refl _, fun _ => by omega⟩⟩, by simpa using HO4.out, HM4.out, by omega, HK4.out⟩
        | cons z zt =>
          have hzl : ¬ ((z :: zt).length : Int) = 0 := by simp; omega
          go_wp2_with fail
          go_ret
          exact ⟨z :: zt, _, a', rfl, ⟨by simp, by omega, HP.out.up, fun y hy => by have := HP.out.all y hy; exact ⟨this.1, this.2.2.1, this.2.2.2⟩⟩, HO.out, HM3.out, by omega, HK3.out⟩
end Go.Proofs.YthhbbebabmemfaaGreat
