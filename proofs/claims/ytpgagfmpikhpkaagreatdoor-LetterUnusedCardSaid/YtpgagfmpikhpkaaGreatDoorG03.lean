/- The texts Rise, Writers2, Writers3, BytesEq, Dec, Valid, LeafD, in this order. -/
import Derived.Test.YtpgagfmpikhpkaaGreatDoorG02
import Derived.Deep.RegionLaw
import Derived.Deep.AppendLies
import Derived.Deep.MidRow
import Derived.Laws.BytesString
import Derived.Laws.CopyOwn
/- (*kalendsref07.Maker).rising: one to four increasing numbers in new memory. -/
namespace Go.Proofs.YtpgagfmpikhpkaaGreatDoor
open Go Go.RowKit

def Rising (low high : Int) (zs : List Int) : Prop := zs ≠ [] ∧ zs.length ≤ 4 ∧ zs.Pairwise (· < ·) ∧ ∀ z ∈ zs, low ≤ z ∧ z ≤ high ∧ (low < 0 → z ≠ 0)
structure RP (low high nn : Int) (k : Nat) (zs : List Int) : Prop where
  len : zs.length ≤ k
  up : zs.Pairwise (· < ·)
  all : ∀ z ∈ zs, low ≤ z ∧ z < nn ∧ z ≤ high ∧ (low < 0 → z ≠ 0)
  lo : low ≤ nn
  hi : nn ≤ high + 3
theorem RP.more {low high nn r : Int} {k : Nat} {zs : List Int} (h : RP low high nn k zs) (hn : nn ≤ high) (h0 : nn ≠ 0 ∨ 0 ≤ low) (hr : 0 ≤ r ∧ r < 3) : RP low high (nn + 1 + r) (k + 1) (zs ++ [nn]) := by
  refine ⟨by have := h.len; simp; omega, ?_, ?_, by have := h.lo; omega, by omega⟩
  · rw [List.pairwise_append]
    exact ⟨h.up, List.pairwise_singleton _ _, fun a ha b hb => by rw [List.mem_singleton.1 hb]; exact (h.all a ha).2.1⟩
  · intro z hz
    rcases List.mem_append.1 hz with hz | hz
    · have := h.all z hz; exact ⟨this.1, by omega, this.2.2⟩
    · have hz := List.mem_singleton.1 hz
      subst hz
      exact ⟨h.lo, by omega, hn, fun hl => by omega⟩
theorem RP.skip {low high nn r : Int} {k : Nat} {zs : List Int} (h : RP low high nn k zs) (hn : nn ≤ high) (hr : 0 ≤ r ∧ r < 3) : RP low high (nn + 1 + r) (k + 1) zs :=
  ⟨by have := h.len; omega, h.up, fun z hz => by have := h.all z hz; exact ⟨this.1, by omega, this.2.2⟩, by have := h.lo; omega, by omega⟩
theorem ownsRow_mkeep {mb base e size n : Nat} {w w' : World} {v : Value} {xs : List Value} (h : w.ownsRow base e size v n xs) (hk : MKeep mb w w') (hb : mb < base) : w'.ownsRow base e size v n xs := by
  refine ⟨h.1, ?_⟩
  rcases h.2 with h | ⟨g, cap, cur, rfl, hg, hh, hr⟩
  · exact .inl h
  · exact .inr ⟨g, cap, cur, rfl, hg, (hk.block g (Array.getElem?_eq_some_iff.1 hh).1 (by omega)).trans hh, hr⟩
theorem mk_grown {w w1 : World} {mb base e size n : Nat} {v : Value} {cs : List Value} {o : Obj} {xs : List Int} {a nd : Nat} (h : MkSt w mb xs a nd) (hown : w.ownsRow base e size v n cs) (hb : mb < base) (hg : (w.alloc o).grownBy w1 v.ownBlock) : MkSt w1 mb xs a nd ∧ Below mb w w1 := by
  have hl := h.lt
  have hB : Below mb w w1 := ⟨hg.os, hg.tape, hg.output, by have := hg.size; simp at this; omega, fun k hk => by rw [hg.block k (by simp; omega) (own_ge hown k (by omega)), Below.heap_alloc w o k (by omega)]⟩
  obtain ⟨A, c, h1, h2⟩ := h
  exact ⟨⟨A, c, by rw [hg.block mb (by simp; omega) (own_ge hown mb hb), Below.heap_alloc w o mb hl]; exact h1, h2.keep hB⟩, hB⟩
theorem mkeep_grown {w0 w w1 : World} {mb e size n : Nat} {v : Value} {cs : List Value} {o : Obj} (h : MKeep mb w0 w) (hown : w.ownsRow w0.heap.size e size v n cs) (hg : (w.alloc o).grownBy w1 v.ownBlock) : MKeep mb w0 w1 :=
  have hs := h.size
  ⟨hg.os.trans h.os, hg.tape.trans h.tape, hg.output.trans h.output, by have := hg.size; simp at this; omega, fun k hk hn => by
    rw [hg.block k (by simp; omega) (own_ge hown k hk), Below.heap_alloc w o k (by omega)]; exact h.block k hk hn⟩
/-- What 'rising' gives. -/
def Rose (w : World) (mb : Nat) (xs : List Int) (at_ nodes : Nat) (low high : Int) (e : Ending) (w' : World) : Prop :=
  ∃ zs v a', e = .returned v ∧ Rising low high zs ∧ w'.ownsRow w.heap.size 3 1 v zs.length (zs.map I) ∧ MkSt w' mb xs a' nodes ∧ a' ≤ at_ + 6 ∧ MKeep mb w w'
def RiseRel (w : World) (mb : Nat) (xs : List Int) (at_ nodes : Nat) (low high kk : Int) (n out i : Value) (wr : World) : Prop :=
  ∃ (k : Nat) (nn : Int) (zs : List Int) (a' : Nat), (k : Int) ≤ kk ∧ i = I k ∧ n = I nn ∧ RP low high nn k zs ∧ wr.ownsRow w.heap.size 3 1 out zs.length (zs.map I) ∧ MkSt wr mb xs a' nodes ∧ a' ≤ at_ + 2 + k ∧ MKeep mb w wr
theorem info_int : (Tryz.prog.info? 3).map (fun i => (i.zero, i.size, i.bytes)) = some (some (.int .i64 0), 1, 8) := by kernel_rfl
/-- append of one int to a row of the call's own. -/
theorem wpList_app_int {ops : Array Oper} {rest : List Oper} {o : Oper} {a : Act} {Q : Exit → Act → World → Prop} {w : World} (hgd : o.guard = none) (s x : Operand)
    (ho : o.op = .call { callee := .builtin .append, args := #[s, x], argTypes := #[22, 22] }) (base : Nat) (v : Value) (n : Nat) (xs : List Value) (hs : a.eval s = v) (hown : w.ownsRow base 3 1 v n xs) (z : Int)
    (hx : a.eval x = .slice (some ⟨w.heap.size, 0, none⟩) 1 1) (hn : n ≤ 1000000) (hb : base ≤ w.heap.size)
    (h : ∀ v' w', w'.ownsRow base 3 1 v' (n + 1) (xs ++ [I z]) → (w.alloc (.cells #[I z] 3)).grownBy w' v.ownBlock → wpList Tryz.prog ops Q rest (a.put o.dst v') w') :
    wpList Tryz.prog ops Q (o :: rest) a (w.alloc (.cells #[I z] 3)) := by
  obtain ⟨i0, hi, hz0, hz1, hz2⟩ := info_parts info_int
  refine wpList_append_own_at _ hgd s x 22 ho base 3 i0 (.int .i64 0) 1 8 Tryz.underlying22 hi hz0 hz1 hz2 rfl (by decide) v n xs hs (hown.alloc _) ⟨w.heap.size, 0, none⟩ 1 1 [I z] hx rfl (cell_one_new _ _ _) (by intro u hu; simp at hu; subst hu; rfl) (by unfold maxLen; omega) (by omega) (by simp; omega) (fun v' w' h1 h2 _ _ => h v' w' h1 h2)
set_option maxRecDepth 10000 in
set_option maxHeartbeats 1000000 in
theorem rising_any (w : World) (mb : Nat) (xs : List Int) (at_ nodes : Nat) (low high : Int) (h : MkSt w mb xs at_ nodes) (hx : XsOK xs) (hat : at_ ≤ 100000000) (h1 : -1000 ≤ low) (h2 : low ≤ high) (h3 : high ≤ 1000) (h4 : 0 < high) :
    Calls Tryz.prog 97 #[pt mb, I low, I high] w (Rose w mb xs at_ nodes low high) := by
  have HM := Lib.hid h
  have HX := Lib.hid hx
  have hml := h.lt
  clear h hx
  go_enter Tryz.func97, Tryz.ntmps97
  go_wp2_with fail
  refine (pick_any w mb xs at_ nodes 4 HM.out HX.out (by omega) (by omega) (by omega)).mono ?_
  rintro e w1 ⟨r, rfl, hr1, hr2, hm1, hk1⟩
  have HM1 := Lib.hid hm1
  have HK1 := Lib.hid hk1
  clear hm1 hk1
  go_wp2_with fail
  refine (pick_any w1 mb xs (at_ + 1) nodes (high - low + 1) HM1.out HX.out (by omega) (by omega) (by omega)).mono ?_
  rintro e w2 ⟨n0, rfl, hn1, hn2, hm2, hk2⟩
  have HM2 := Lib.hid hm2
  have HK2 := Lib.hid (HK1.out.trans hk2)
  clear hm2 hk2 HM1 HK1 HM
  go_wp2_with fail
  obtain ⟨kk, hkk⟩ : ∃ kk : Int, 1 + r = kk := ⟨_, rfl⟩
  rw [hkk]
  have hkk1 : 1 ≤ kk := by omega
  have hkk2 : kk ≤ 4 := by omega
  clear hkk hr1 hr2
  go_loopw [8, 9, 10] (fun n out i wr => RiseRel w mb xs at_ nodes low high kk n out i wr) (fun _ _ i _ => (kk - intOf i).toNat)
  case atStart => exact ⟨0, low + n0, [], at_ + 1 + 1, by omega, rfl, rfl, ⟨by simp, List.Pairwise.nil, (fun z hz => nomatch hz), by omega, by omega⟩, by simp [World.ownsRow], HM2.out, by omega, HK2.out⟩
  case round =>
    obtain ⟨k, nn, zs, a', hk, rfl, rfl, hrp, hown, hm3, ha3, hk3⟩ := hrel
    have hnlo := hrp.lo
    have hnhi := hrp.hi
    have hlen := hrp.len
    have hk4 : k ≤ 4 := by omega
    have HP := Lib.hid hrp
    have HM3 := Lib.hid hm3
    have HK3 := Lib.hid hk3
    have HO := Lib.hid hown
    clear hrp hown hm3 hk3 HM2 HK2
    by_cases hlt : (k : Int) < kk
    · by_cases hnh : nn ≤ high
      · by_cases h0 : nn ≠ 0 ∨ 0 ≤ low
        · have hz : nn ≠ 0 ∨ (nn = 0 ∧ 0 ≤ low) := by omega
          have H0 := Lib.hid h0
          clear h0
          rcases hz with hz | ⟨rfl, hz⟩
          · go_wp2_with (at_builtin; refine wpList_app_int rfl _ _ rfl w.heap.size _ (zs.length) (zs.map I) rfl HO.out (nn) rfl (by first | omega | simp) (by have := HK3.out.size; omega) ?_)
            intro v' w3 hown' hgrow
            obtain ⟨hm4, -⟩ := mk_grown HM3.out HO.out (by omega) hgrow
            have HM4 := Lib.hid hm4
            have HK4 := Lib.hid (mkeep_grown HK3.out HO.out hgrow)
            have HO4 := Lib.hid hown'
            clear hown' hgrow hm4
            go_wp2_with fail
            refine (pick_any w3 mb xs a' nodes 3 HM4.out HX.out (by omega) (by omega) (by omega)).mono ?_
            rintro e w4 ⟨r, rfl, hr1, hr2, hm5, hk5⟩
            have HM5 := Lib.hid hm5
            have HK5 := Lib.hid (HK4.out.trans hk5)
            have HO5 := Lib.hid (ownsRow_mkeep HO4.out hk5 hml)
            clear hm5 hk5
            go_wp2_with fail
            go_roundw
            case rel => exact ⟨k + 1, _, zs ++ [_], a' + 1, by omega, by go_num, by first | rfl | go_num, HP.out.more hnh H0.out ⟨hr1, hr2⟩, by simpa using HO5.out, HM5.out, by omega, HK5.out⟩
            case measure => simp [intOf]; omega
          · go_wp2_with (at_builtin; refine wpList_app_int rfl _ _ rfl w.heap.size _ (zs.length) (zs.map I) rfl HO.out (0) rfl (by first | omega | simp) (by have := HK3.out.size; omega) ?_)
            intro v' w3 hown' hgrow
            obtain ⟨hm4, -⟩ := mk_grown HM3.out HO.out (by omega) hgrow
            have HM4 := Lib.hid hm4
            have HK4 := Lib.hid (mkeep_grown HK3.out HO.out hgrow)
            have HO4 := Lib.hid hown'
            clear hown' hgrow hm4
            go_wp2_with fail
            refine (pick_any w3 mb xs a' nodes 3 HM4.out HX.out (by omega) (by omega) (by omega)).mono ?_
            rintro e w4 ⟨r, rfl, hr1, hr2, hm5, hk5⟩
            have HM5 := Lib.hid hm5
            have HK5 := Lib.hid (HK4.out.trans hk5)
            have HO5 := Lib.hid (ownsRow_mkeep HO4.out hk5 hml)
            clear hm5 hk5
            go_wp2_with fail
            go_roundw
            case rel => exact ⟨k + 1, _, zs ++ [_], a' + 1, by omega, by go_num, by first | rfl | go_num, HP.out.more hnh H0.out ⟨hr1, hr2⟩, by simpa using HO5.out, HM5.out, by omega, HK5.out⟩
            case measure => simp [intOf]; omega
        · have hzz : nn = 0 := by omega
          have hlow : ¬ 0 ≤ low := by omega
          subst hzz
          clear h0
          go_wp2_with fail
          refine (pick_any wr mb xs a' nodes 3 HM3.out HX.out (by omega) (by omega) (by omega)).mono ?_
          rintro e w4 ⟨r, rfl, hr1, hr2, hm5, hk5⟩
          have HM5 := Lib.hid hm5
          have HK5 := Lib.hid (HK3.out.trans hk5)
          have HO5 := Lib.hid (ownsRow_mkeep HO.out hk5 hml)
          clear hm5 hk5
          go_wp2_with fail
          go_roundw
          case rel => exact ⟨k + 1, _, zs, a' + 1, by omega, by go_num, by first | rfl | go_num, HP.out.skip hnh ⟨hr1, hr2⟩, HO5.out, HM5.out, by omega, HK5.out⟩
          case measure => simp [intOf]; omega
      · clear hnlo
        obtain ⟨ho1, ho2⟩ := HO.out
        rcases ho2 with ⟨rfl, hn⟩ | ⟨g, cap, cur, rfl, -⟩
        · obtain rfl := List.eq_nil_of_length_eq_zero hn
          clear ho1 hn
          have HOZ : Hid (wr.ownsRow w.heap.size 3 1 (.slice none 0 0) 0 []) := Lib.hid (by simpa using HO.out)
          go_wp2_with (at_builtin; refine wpList_app_int rfl _ _ rfl w.heap.size (.slice none 0 0) (0) ([]) rfl HOZ.out (high) rfl (by first | omega | simp) (by have := HK3.out.size; omega) ?_)
          intro v' w3 hown' hgrow
          obtain ⟨hm4, -⟩ := mk_grown HM3.out HO.out (by omega) hgrow
          have HM4 := Lib.hid hm4
          have HK4 := Lib.hid (mkeep_grown HK3.out HO.out hgrow)
          have HO4 := Lib.hid hown'
          clear hown' hgrow hm4
          go_wp2_with fail
          go_ret
          exact ⟨[high], _, a', rfl, ⟨by simp, by simp, List.pairwise_singleton _ _, fun z hz => by rw [List.mem_singleton.1 hz]; exact ⟨h2, Int.le_refl _, fun _ => by omega⟩⟩, by simpa using HO4.out, HM4.out, by omega, HK4.out⟩
        · clear ho1
          cases zs with
          | nil =>
            have HOZ : Hid (wr.ownsRow w.heap.size 3 1 (.slice (some ⟨g, 0, none⟩) 0 cap) 0 []) := Lib.hid (by simpa using HO.out)
            go_wp2_with (at_builtin; refine wpList_app_int rfl _ _ rfl w.heap.size (.slice (some ⟨g, 0, none⟩) 0 cap) (0) ([]) rfl HOZ.out (high) rfl (by first | omega | simp) (by have := HK3.out.size; omega) ?_)
            intro v' w3 hown' hgrow
            obtain ⟨hm4, -⟩ := mk_grown HM3.out HO.out (by omega) hgrow
            have HM4 := Lib.hid hm4
            have HK4 := Lib.hid (mkeep_grown HK3.out HO.out hgrow)
            have HO4 := Lib.hid hown'
            clear hown' hgrow hm4
            go_wp2_with fail
            go_ret
            exact ⟨[high], _, a', rfl, ⟨by simp, by simp, List.pairwise_singleton _ _, fun z hz => by rw [List.mem_singleton.1 hz]; exact ⟨h2, Int.le_refl _, fun _ => by omega⟩⟩, by simpa using HO4.out, HM4.out, by omega, HK4.out⟩
          | cons z zt =>
            have hzl : ¬ ((z :: zt).length : Int) = 0 := by simp; omega
            go_wp2_with fail
            go_ret
            exact ⟨z :: zt, _, a', rfl, ⟨by simp, by omega, HP.out.up, fun y hy => by have := HP.out.all y hy; exact ⟨this.1, this.2.2.1, this.2.2.2⟩⟩, HO.out, HM3.out, by omega, HK3.out⟩
    · clear hnlo hnhi
      obtain ⟨ho1, ho2⟩ := HO.out
      rcases ho2 with ⟨rfl, hn⟩ | ⟨g, cap, cur, rfl, -⟩
      · obtain rfl := List.eq_nil_of_length_eq_zero hn
        clear ho1 hn
        have HOZ : Hid (wr.ownsRow w.heap.size 3 1 (.slice none 0 0) 0 []) := Lib.hid (by simpa using HO.out)
        go_wp2_with (at_builtin; refine wpList_app_int rfl _ _ rfl w.heap.size (.slice none 0 0) (0) ([]) rfl HOZ.out (high) rfl (by first | omega | simp) (by have := HK3.out.size; omega) ?_)
        intro v' w3 hown' hgrow
        obtain ⟨hm4, -⟩ := mk_grown HM3.out HO.out (by omega) hgrow
        have HM4 := Lib.hid hm4
        have HK4 := Lib.hid (mkeep_grown HK3.out HO.out hgrow)
        have HO4 := Lib.hid hown'
        clear hown' hgrow hm4
        go_wp2_with fail
        go_ret
        exact ⟨[high], _, a', rfl, ⟨by simp, by simp, List.pairwise_singleton _ _, fun z hz => by rw [List.mem_singleton.1 hz]; exact ⟨h2, Int.le_refl _, fun _ => by omega⟩⟩, by simpa using HO4.out, HM4.out, by omega, HK4.out⟩
      · clear ho1
        cases zs with
        | nil =>
          have HOZ : Hid (wr.ownsRow w.heap.size 3 1 (.slice (some ⟨g, 0, none⟩) 0 cap) 0 []) := Lib.hid (by simpa using HO.out)
          go_wp2_with (at_builtin; refine wpList_app_int rfl _ _ rfl w.heap.size (.slice (some ⟨g, 0, none⟩) 0 cap) (0) ([]) rfl HOZ.out (high) rfl (by first | omega | simp) (by have := HK3.out.size; omega) ?_)
          intro v' w3 hown' hgrow
          obtain ⟨hm4, -⟩ := mk_grown HM3.out HO.out (by omega) hgrow
          have HM4 := Lib.hid hm4
          have HK4 := Lib.hid (mkeep_grown HK3.out HO.out hgrow)
          have HO4 := Lib.hid hown'
          clear hown' hgrow hm4
          go_wp2_with fail
          go_ret
          exact ⟨[high], _, a', rfl, ⟨by simp, by simp, List.pairwise_singleton _ _, fun z hz => by rw [List.mem_singleton.1 hz]; exact ⟨h2, Int.le_refl _, fun _ => by omega⟩⟩, by simpa using HO4.out, HM4.out, by omega, HK4.out⟩
        | cons z zt =>
          have hzl : ¬ ((z :: zt).length : Int) = 0 := by simp; omega
          go_wp2_with fail
          go_ret
          exact ⟨z :: zt, _, a', rfl, ⟨by simp, by omega, HP.out.up, fun y hy => by have := HP.out.all y hy; exact ⟨this.1, this.2.2.1, this.2.2.2⟩⟩, HO.out, HM3.out, by omega, HK3.out⟩
end Go.Proofs.YtpgagfmpikhpkaaGreatDoor

/- The methods of letter.writer: move, cells. -/
namespace Go.Proofs.YtpgagfmpikhpkaaGreatDoor
open Go Go.RowKit

def mvBytes (m : Mv) : List UInt8 := le m.day 8 ++ le (if m.drop then 1 else 0) 1 ++ le m.toDay 8 ++ le m.minute 8 ++ le m.length 8
/-- Another block, beside the writer and the row of its bytes. -/
structure Far (w : World) (g : Nat) (v : Value) (k : Nat) (cs : Array Value) : Prop where
  row : Row w k cs
  ne : k ≠ g
  nv : some k ≠ v.ownBlock
theorem Far.next {w w' : World} {g k : Nat} {v v' : Value} {cs : Array Value} (h : Far w g v k cs) (hk : WKeep g v w v' w') : Far w' g v' k cs :=
  ⟨⟨Nat.lt_of_lt_of_le h.row.1 hk.size, fun i => (World.cell?_of_block (a := ⟨k, i, none⟩) (hk.block k h.row.1 h.ne h.nv)).trans (h.row.2 i)⟩, h.ne, by
    rcases hk.own with e | ⟨b, e, hb⟩
    · rw [e]; exact h.nv
    · rw [e]; intro h'; injection h' with h'; have := h.row.1; omega⟩
attribute [local go_sem] lt_get12 lt_get13 lt_get14 lt_get15 lt_get16 lt_get29
set_option maxRecDepth 10000 in
set_option maxHeartbeats 1000000 in
theorem moveW_any (w : World) (g b : Nat) (l : Lt) (vr vm vc v : Value) (bs : List UInt8) (hin : WIn w g b (ltCells l vr vm vc) v bs) (hl : bs.length ≤ 1099511627700) (h1 : fits l.move.day) (h2 : fits l.move.toDay) (h3 : fits l.move.minute) (h4 : fits l.move.length) :
    Calls Tryz.prog 32 #[pt g] w (NumPost w g (pt b) v (bs ++ mvBytes l.move)) := by
  have HI := Lib.hid hin
  have hc0 := cell_of_row w g 0 _ _ _ hin.st.1
  have hr0 := hin.row.2
  have hblt : b < w.heap.size := hin.row.1
  have hgl : g < w.heap.size := hin.gl
  clear hin
  obtain ⟨dr, hdr⟩ : ∃ x : Bool, l.move.drop = x := ⟨_, rfl⟩
  have HD := Lib.hid hdr
  have g13 : (ltCells l vr vm vc)[13]? = some (.bool dr) := by rw [← hdr]; rfl
  clear hdr
  -- the world in which the variable 'm' lies at the block behind w
  have hnew : WKeep g v w v (w.alloc (.cells #[I l.move.day, .bool dr, I l.move.toDay, I l.move.minute, I l.move.length] 25)) :=
    ⟨rfl, rfl, rfl, by simp, fun k hk _ _ => Below.heap_alloc w _ k hk, .inl rfl⟩
  have hstA : WSt (w.alloc (.cells #[I l.move.day, .bool dr, I l.move.toDay, I l.move.minute, I l.move.length] 25)) g (pt b) v bs :=
    ⟨(Below.heap_alloc w _ g HI.out.gl).trans HI.out.st.1, HI.out.st.2.alloc _⟩
  have HIA := Lib.hid (HI.out.next hstA hnew)
  have HKA := Lib.hid hnew
  have HMV := Lib.hid (Row.new w #[I l.move.day, .bool dr, I l.move.toDay, I l.move.minute, I l.move.length] 25)
  have HFA : Hid (Far (w.alloc (.cells #[I l.move.day, .bool dr, I l.move.toDay, I l.move.minute, I l.move.length] 25)) g v w.heap.size #[I l.move.day, .bool dr, I l.move.toDay, I l.move.minute, I l.move.length]) := Lib.hid ⟨HMV.out, by omega, fun e => by have := own_lt HI.out.st.2 _ e.symm; omega⟩
  have HD1 : fits 1 := by unfold fits; omega
  have HD0 : fits 0 := by unfold fits; omega
  clear hstA hnew
  have len1 : ∀ (xs : List UInt8) (n : Int) (k : Nat), (xs ++ le n k).length = xs.length + k := fun xs n k => by rw [List.length_append, le_length]
  have LEN := Lib.hid len1
  clear len1
  cases dr
  all_goals
    go_enter Tryz.func32, Tryz.ntmps32
    go_wp2_with fail
    refine (number8 _ _ _ _ _ _ h1 (by first | omega | (simp only [LEN.out]; omega)) HIA.out.gl HIA.out.st).mono ?_
    rintro e w1 ⟨rfl, v1, hs1, hk1⟩
    have HI1 := Lib.hid (HIA.out.next hs1 hk1)
    have HK1 := Lib.hid (HKA.out.trans hk1)
    have HF1 := Lib.hid (HFA.out.next hk1)
    have hm1 := HF1.out.row.2
    clear hs1 hk1
    go_wp2_with fail
    refine (number1 _ _ _ _ _ _ (by first | exact HD1 | exact HD0) (by first | omega | (simp only [LEN.out]; omega)) HI1.out.gl HI1.out.st).mono ?_
    rintro e w2 ⟨rfl, v2, hs2, hk2⟩
    have HI2 := Lib.hid (HI1.out.next hs2 hk2)
    have HK2 := Lib.hid (HK1.out.trans hk2)
    have HF2 := Lib.hid (HF1.out.next hk2)
    have hm2 := HF2.out.row.2
    clear hs2 hk2
    go_wp2_with fail
    refine (number8 _ _ _ _ _ _ h2 (by first | omega | (simp only [LEN.out]; omega)) HI2.out.gl HI2.out.st).mono ?_
    rintro e w3 ⟨rfl, v3, hs3, hk3⟩
    have HI3 := Lib.hid (HI2.out.next hs3 hk3)
    have HK3 := Lib.hid (HK2.out.trans hk3)
    have HF3 := Lib.hid (HF2.out.next hk3)
    have hm3 := HF3.out.row.2
    clear hs3 hk3
    go_wp2_with fail
    refine (number8 _ _ _ _ _ _ h3 (by first | omega | (simp only [LEN.out]; omega)) HI3.out.gl HI3.out.st).mono ?_
    rintro e w4 ⟨rfl, v4, hs4, hk4⟩
    have HI4 := Lib.hid (HI3.out.next hs4 hk4)
    have HK4 := Lib.hid (HK3.out.trans hk4)
    have HF4 := Lib.hid (HF3.out.next hk4)
    have hm4 := HF4.out.row.2
    clear hs4 hk4
    go_wp2_with fail
    refine (number8 _ _ _ _ _ _ h4 (by first | omega | (simp only [LEN.out]; omega)) HI4.out.gl HI4.out.st).mono ?_
    rintro e w5 ⟨rfl, v5, hs5, hk5⟩
    have HI5 := Lib.hid (HI4.out.next hs5 hk5)
    have HK5 := Lib.hid (HK4.out.trans hk5)
    have HF5 := Lib.hid (HF4.out.next hk5)
    have hm5 := HF5.out.row.2
    clear hs5 hk5
    go_wp2
    go_end0
    refine ⟨rfl, v5, ?_, HK5.out⟩
    unfold mvBytes
    rw [HD.out]
    first | rw [if_pos rfl] | rw [if_neg (by decide)]
    simpa only [List.append_assoc] using HI5.out.st

def cellBytes (zs : List Int) : List UInt8 := zs.flatMap fun z => le z 1
def CellsRel (w : World) (g b : Nat) (cs : Array Value) (v : Value) (bs : List UInt8) (zs : List Int) (B : Nat) (A : Option Addr) (i : Value) (wr : World) : Prop :=
  ∃ k : Nat, k ≤ zs.length ∧ i = .int .i64 k ∧ ∃ v', WIn wr g b cs v' (bs ++ cellBytes (zs.take k)) ∧ WKeep g v w v' wr ∧ IntsAt wr B A zs
theorem cellBytes_snoc (zs : List Int) (z : Int) : cellBytes (zs ++ [z]) = cellBytes zs ++ le z 1 := by simp [cellBytes]
theorem cellBytes_length (zs : List Int) : (cellBytes zs).length = zs.length := by
  induction zs with
  | nil => rfl
  | cons z zs ih => simp only [cellBytes, List.flatMap_cons, List.length_append, le_length] at ih ⊢; rw [ih]; simp; omega
theorem take_snoc' (zs : List Int) (k : Nat) (h : k < zs.length) : zs.take (k + 1) = zs.take k ++ [zs[k]?.getD 0] := by
  rw [List.take_succ_eq_append_getElem h]; simp [h]
set_option maxRecDepth 10000 in
set_option maxHeartbeats 1000000 in
theorem cellsW_some (w : World) (g b : Nat) (l : Lt) (vr vm v : Value) (bb off c : Nat) (bs : List UInt8) (hin : WIn w g b (ltCells l vr vm (.slice (some ⟨bb, off, none⟩) l.cells.length c)) v bs) (hl : bs.length ≤ 1000000000000) (hz : l.cells.length ≤ 65536)
    (hi : IntsAt w b (some ⟨bb, off, none⟩) l.cells) (hfit : ∀ j, j < l.cells.length → fits (l.cells[j]?.getD 0)) :
    Calls Tryz.prog 35 #[pt g] w (NumPost w g (pt b) v (bs ++ (le l.cells.length 4 ++ cellBytes l.cells))) := by
  have HI := Lib.hid hin
  have HIN := Lib.hid hi
  have HFIT := Lib.hid hfit
  have hc0 := cell_of_row w g 0 _ _ _ hin.st.1
  have hr0 := hin.row.2
  have hfl : fits (l.cells.length : Int) := by unfold fits; omega
  clear hin hi hfit
  go_enter Tryz.func35, Tryz.ntmps35
  go_wp2_with fail
  refine (number4 _ _ _ _ bs _ hfl (by omega) HI.out.gl HI.out.st).mono ?_
  rintro e w1 ⟨rfl, v1, hs1, hk1⟩
  have HI1 := Lib.hid (HI.out.next hs1 hk1)
  have HK1 := Lib.hid hk1
  have hc1 := cell_of_row w1 g 0 _ _ _ hs1.1
  have hr1 := HI1.out.row.2
  have HIN1 := Lib.hid (hk1.ints HI.out.st (Nat.le_of_lt HI.out.lt) HI.out.gl HIN.out)
  clear hs1 hk1
  go_wp2_with fail
  go_loopw [22] (fun i wr => CellsRel w g b (ltCells l vr vm (.slice (some ⟨bb, off, none⟩) l.cells.length c)) v (bs ++ le l.cells.length 4) l.cells b (some ⟨bb, off, none⟩) i wr) (fun i _ => l.cells.length - (intOf i).toNat)
  case atStart => exact ⟨0, Nat.zero_le _, rfl, v1, by simpa [cellBytes] using HI1.out, HK1.out, HIN1.out⟩
  case round =>
    obtain ⟨k, hk, rfl, v2, hw2, hk2, hin2⟩ := hrel
    have HW2 := Lib.hid hw2
    have HK2 := Lib.hid hk2
    have HN2 := Lib.hid hin2
    clear hw2 hk2 hin2
    by_cases hlt : k < l.cells.length
    · obtain ⟨z, hz0⟩ : ∃ z, l.cells[k]?.getD 0 = z := ⟨_, rfl⟩
      have hcell : wr.cell? ⟨bb, off + k, none⟩ = some (I z) := by
        rcases HN2.out with h0 | ⟨b', off', e, _, hc⟩
        · omega
        · injection e with e
          injection e with e1 e2
          subst e1 e2
          rw [hc k hlt, hz0]
      have hfz : fits z := by rw [← hz0]; exact HFIT.out k hlt
      have HZ0 := Lib.hid hz0
      have hlen : ((bs ++ le l.cells.length 4) ++ cellBytes (l.cells.take k)).length ≤ 1099511627776 := by
        rw [List.length_append, List.length_append, le_length, cellBytes_length, List.length_take]; omega
      have HLEN := Lib.hid hlen
      clear hz0 hlen
      go_wp2_with fail
      refine (number1 _ _ _ _ _ _ hfz HLEN.out HW2.out.gl HW2.out.st).mono ?_
      rintro e w3 ⟨rfl, v3, hs3, hk3⟩
      have HI3 := Lib.hid (HW2.out.next hs3 hk3)
      have HK3 := Lib.hid (HK2.out.trans hk3)
      have HN3 := Lib.hid (hk3.ints HW2.out.st (Nat.le_of_lt HW2.out.lt) HW2.out.gl HN2.out)
      clear hs3 hk3
      go_wp2
      go_roundw
      case rel => exact ⟨k + 1, by omega, by go_num, v3, by rw [take_snoc' _ _ hlt, HZ0.out, cellBytes_snoc, ← List.append_assoc]; exact HI3.out, HK3.out, HN3.out⟩
      case measure => simp [intOf]; omega
    · have hke : l.cells.take k = l.cells := List.take_of_length_le (by omega)
      have HKE := Lib.hid hke
      clear hke
      go_wp2
      go_end0
      refine ⟨rfl, v2, ?_, HK2.out⟩
      have := HW2.out.st
      rw [HKE.out, List.append_assoc] at this
      exact this
end Go.Proofs.YtpgagfmpikhpkaaGreatDoor

/- The methods of letter.writer: ref; cells of a nil slice. -/
namespace Go.Proofs.YtpgagfmpikhpkaaGreatDoor
open Go Go.RowKit

theorem ref_one2 (r : List UInt8) : ∀ v ∈ refCells r, v.oneCell' = true := by
  intro v hv; simp only [refCells, List.mem_map] at hv; obtain ⟨x, _, rfl⟩ := hv; rfl
/-- Many bytes more, appended in one piece. -/
theorem wst_app {w W w1 : World} {g gg cap : Nat} {lp v : Value} {bs xs : List UInt8} (h : WSt w g lp v bs) (hg : g < w.heap.size) (hW : W.heap = w.heap) (h1 : W.os = w.os) (h2 : W.tape = w.tape) (h3 : W.output = w.output)
    (hown : w1.ownsRow (g + 1) 5 1 (.slice (some ⟨gg, 0, none⟩) (bs.length + xs.length) cap) (bs.length + xs.length) (bs.map Extern.Stop.cell ++ xs.map Extern.Stop.cell)) (hgrow : W.grownBy w1 v.ownBlock)
    (hat : v.ownBlock = some gg ∨ gg = w.heap.size) :
    w1.heap[g]? = some (.cells #[lp, v] 77 (0, 0)) ∧ WSt (w1.setCell ⟨g, 1, none⟩ (.slice (some ⟨gg, 0, none⟩) (bs.length + xs.length) cap)) g lp (.slice (some ⟨gg, 0, none⟩) (bs.length + xs.length) cap) (bs ++ xs) ∧
      WKeep g v w (.slice (some ⟨gg, 0, none⟩) (bs.length + xs.length) cap) (w1.setCell ⟨g, 1, none⟩ (.slice (some ⟨gg, 0, none⟩) (bs.length + xs.length) cap)) := by
  have hne : some g ≠ v.ownBlock := own_ge h.2 g (Nat.lt_succ_self g)
  have hg1 : w1.heap[g]? = some (.cells #[lp, v] 77 (0, 0)) := by
    rw [hgrow.block g (by rw [hW]; exact hg) hne, hW]; exact h.1
  refine ⟨hg1, ⟨?_, ?_⟩, ?_⟩
  · rw [heap_setCell_same w1 g 1 _ _ _ hg1]; rfl
  · have := ownsRow_far (u := .slice (some ⟨gg, 0, none⟩) (bs.length + xs.length) cap) (p := ⟨g, 1, none⟩) hown (own_ge hown g (Nat.lt_succ_self g))
    simpa using this
  · refine ⟨hgrow.os.trans h1, hgrow.tape.trans h2, hgrow.output.trans h3, ?_, fun k hk hkg hkv => ?_, ?_⟩
    · have := hgrow.size; rw [hW] at this; simp [World.setCell]; omega
    · rw [heap_setCell_other w1 _ k _ hkg, hgrow.block k (by rw [hW]; exact hk) hkv, hW]
    · rcases hat with e | e
      · exact .inl e.symm
      · exact .inr ⟨gg, rfl, by omega⟩
attribute [local go_sem] lt_get29
set_option maxRecDepth 10000 in
set_option maxHeartbeats 1000000 in
theorem refW_any (w : World) (g b : Nat) (l : Lt) (vr vm vc v : Value) (bs : List UInt8) (hin : WIn w g b (ltCells l vr vm vc) v bs) (hl : bs.length ≤ 1000000000000) (hr : l.ref.length = 32) :
    Calls Tryz.prog 36 #[pt g] w (NumPost w g (pt b) v (bs ++ l.ref)) := by
  have hc0 : w.cell? ⟨g, 0, none⟩ = some (pt b) := cell_of_row w g 0 _ _ _ hin.st.1
  have hc1 : w.cell? ⟨g, 1, none⟩ = some v := cell_of_row w g 1 _ _ _ hin.st.1
  have HI := Lib.hid hin
  obtain ⟨i0, hi, hz0, hz1, hz2⟩ := info_parts info_u8
  have hnews : ∀ j u, (refCells l.ref)[j]? = some u → w.drew.cell? ((⟨b, 30, none⟩ : Addr).add j) = some u := fun j u hu => by
    rw [Addr.add_mid]
    exact (hin.row.2 (30 + j)).trans ((lt_getRef l vr vm vc j).trans hu)
  have hmx : bs.length + 32 ≤ maxLen := by unfold maxLen; omega
  have hby : (bs.length + 32) * 1 ≤ 140737488355328 := by omega
  clear hin
  go_enter Tryz.func36, Tryz.ntmps36
  go_wp2_with fail
  go_region_law ((refine step_append_lies _ (by rfl) _ _ _ (by rfl) (g + 1) 5 i0 _ 1 1 Tryz.underlying42 hi hz0 hz1 hz2 rfl (by omega) v bs.length (bs.map Extern.Stop.cell) (by rfl) (HI.out.st.2.drew) ⟨b, 30, none⟩ 32 32 (refCells l.ref) (by rfl) (by simp [refCells, hr]) hnews (ref_one2 l.ref) (by omega) hmx hby (Nat.succ_le_of_lt HI.out.gl) w.heap.size rfl ?_; intro gg cap w1 hown1 hgrow hat hlt; have hS := wst_app (w := w) (W := w.drew) (xs := l.ref) HI.out.st HI.out.gl rfl rfl rfl rfl (by rw [hr]; exact hown1) hgrow hat; rw [hr] at hS; have hc2 : w1.cell? ⟨g, 1, none⟩ = some v := cell_of_row w1 g 1 _ _ _ hS.1; have hf2 := frozen_of_row w1 g 1 _ _ hS.1; have HSS := Lib.hid hS; clear hS hown1 hgrow hat hlt))
  all_goals
    go_wp2
    go_end0
    exact ⟨rfl, _, HSS.out.2.1, HSS.out.2.2⟩

set_option maxRecDepth 10000 in
set_option maxHeartbeats 1000000 in
theorem cellsW_none (w : World) (g b : Nat) (l : Lt) (vr vm v : Value) (A : Option Addr) (c : Nat) (bs : List UInt8) (hin : WIn w g b (ltCells l vr vm (.slice A 0 c)) v bs) (hl : bs.length ≤ 1000000000000) (hz : l.cells.length = 0) :
    Calls Tryz.prog 35 #[pt g] w (NumPost w g (pt b) v (bs ++ (le l.cells.length 4 ++ cellBytes l.cells))) := by
  have HI := Lib.hid hin
  have hc0 := cell_of_row w g 0 _ _ _ hin.st.1
  have hr0 := hin.row.2
  have hfl : fits (0 : Int) := by unfold fits; omega
  have hz' : l.cells = [] := List.eq_nil_of_length_eq_zero hz
  have HZ := Lib.hid hz'
  clear hin hz hz'
  go_enter Tryz.func35, Tryz.ntmps35
  go_wp2_with fail
  refine (number4 _ _ _ _ bs _ hfl (by omega) HI.out.gl HI.out.st).mono ?_
  rintro e w1 ⟨rfl, v1, hs1, hk1⟩
  have HI1 := Lib.hid (HI.out.next hs1 hk1)
  have HK1 := Lib.hid hk1
  have hc1 := cell_of_row w1 g 0 _ _ _ hs1.1
  have hr1 := HI1.out.row.2
  clear hs1 hk1
  go_wp2_with fail
  go_loop [22] (fun i => i = .int .i64 0) (fun _ => 0)
  case atStart => rfl
  case round =>
    subst hrel
    go_wp2
    go_end0
    exact ⟨rfl, v1, by rw [HZ.out]; simpa [cellBytes] using HI1.out.st, HK1.out⟩
theorem cellsW_any (w : World) (g b : Nat) (l : Lt) (vr vm v : Value) (A : Option Addr) (c : Nat) (bs : List UInt8) (hin : WIn w g b (ltCells l vr vm (.slice A l.cells.length c)) v bs) (hl : bs.length ≤ 1000000000000) (hz : l.cells.length ≤ 65536)
    (hi : IntsAt w b A l.cells) (hfit : ∀ j, j < l.cells.length → fits (l.cells[j]?.getD 0)) :
    Calls Tryz.prog 35 #[pt g] w (NumPost w g (pt b) v (bs ++ (le l.cells.length 4 ++ cellBytes l.cells))) := by
  rcases hi with h | ⟨bb, off, rfl, hb, hc⟩
  · rw [h] at hin
    exact cellsW_none w g b l vr vm v A c bs hin hl h
  · exact cellsW_some w g b l vr vm v bb off c bs hin hl hz (.inr ⟨bb, off, rfl, hb, hc⟩) hfit
end Go.Proofs.YtpgagfmpikhpkaaGreatDoor

/- bytes.Equal, slices.Equal of bytes, kalendsref20.SameBytes: two slices of bytes. -/
namespace Go.Proofs.YtpgagfmpikhpkaaGreatDoor
open Go Go.RowKit

/-- A slice of bytes with this address reads as bs, below block B. -/
def BytesAt (w : World) (B : Nat) (A : Option Addr) (bs : List UInt8) : Prop :=
  bs.length = 0 ∨ ∃ b off, A = some ⟨b, off, none⟩ ∧ b < B ∧ ∀ j, j < bs.length → w.cell? ⟨b, off + j, none⟩ = some (Extern.Stop.cell (bs[j]?.getD 0))
theorem BytesAt.keep {w w' : World} {B : Nat} {A : Option Addr} {bs : List UInt8} (h : BytesAt w B A bs) (hb : Below B w w') : BytesAt w' B A bs := by
  rcases h with h | ⟨b, off, hA, hbB, hc⟩
  · exact .inl h
  · exact .inr ⟨b, off, hA, hbB, fun j hj => (hb.cell (p := ⟨b, off + j, none⟩) hbB).trans (hc j hj)⟩
theorem BytesAt.more {w : World} {B B' : Nat} {A : Option Addr} {bs : List UInt8} (h : BytesAt w B A bs) (hB : B ≤ B') : BytesAt w B' A bs := by
  rcases h with h | ⟨b, off, hA, hbB, hc⟩
  · exact .inl h
  · exact .inr ⟨b, off, hA, by omega, hc⟩

theorem beq_take (xs ys : List UInt8) (hl : xs.length = ys.length) : (∀ j, j < xs.length → xs[j]?.getD 0 = ys[j]?.getD 0) ↔ xs = ys := by
  constructor
  · intro h
    apply List.ext_getElem hl
    intro i h1 h2
    have := h i h1
    simpa [h1, h2] using this
  · rintro rfl _ _; rfl
def SameRel (n : Nat) (xs ys : List UInt8) (i : Value) : Prop := ∃ k : Nat, k ≤ n ∧ i = .int .i64 k ∧ ∀ j, j < k → xs[j]?.getD 0 = ys[j]?.getD 0

set_option maxRecDepth 10000 in
set_option maxHeartbeats 1000000 in
theorem sameBytes_ne (A B : Option Addr) (n m c d : Nat) (w : World) (h : n ≠ m) :
    Calls Tryz.prog 16 #[.slice A n c, .slice B m d] w fun e w' => e = .returned (.bool false) ∧ w = w' := by
  have hb : ((n : Int) != (m : Int)) = true := by rw [neq_dec]; exact decide_eq_true (by omega)
  go_enter Tryz.func16, Tryz.ntmps16
  go_wp2
  go_ret
  exact ⟨rfl, rfl⟩
theorem cell_int (x : UInt8) : Extern.Stop.cell x = .int .u8 (x.toNat : Int) := rfl
theorem cells_ne {x y : UInt8} (h : x ≠ y) : ((x.toNat : Int) != (y.toNat : Int)) = true := by
  rw [neq_dec]; exact decide_eq_true (fun e => h (UInt8.toNat_inj.1 (by omega)))
theorem cells_same (x : UInt8) : ((x.toNat : Int) != (x.toNat : Int)) = false := by
  rw [neq_dec]; exact decide_eq_false (by omega)
theorem below_drewN' (w : World) (k : Nat) : Below w.heap.size w (w.drewN k) := below_drewN (Below.refl _ _) k
set_option maxRecDepth 10000 in
set_option maxHeartbeats 1000000 in
theorem sameBytes_some (b1 o1 b2 o2 n c d : Nat) (xs ys : List UInt8) (hx : xs.length = n) (hy : ys.length = n) (w : World) (hA : ∀ j, j < n → w.cell? ⟨b1, o1 + j, none⟩ = some (Extern.Stop.cell (xs[j]?.getD 0))) (hB : ∀ j, j < n → w.cell? ⟨b2, o2 + j, none⟩ = some (Extern.Stop.cell (ys[j]?.getD 0))) (hn : n ≤ 140737488355328) :
    Calls Tryz.prog 16 #[.slice (some ⟨b1, o1, none⟩) n c, .slice (some ⟨b2, o2, none⟩) n d] w (Gives (.bool (xs == ys)) w) := by
  have hb : ((n : Int) != (n : Int)) = false := by rw [neq_dec]; exact decide_eq_false (by omega)
  have HX := Lib.hid hx
  have HY := Lib.hid hy
  have HA := Lib.hid hA
  have HB := Lib.hid hB
  clear hx hy hA hB
  go_enter Tryz.func16, Tryz.ntmps16
  go_wp2
  go_loopw [5] (fun i wr => SameRel n xs ys i ∧ ∃ q, wr = w.drewN q) (fun i _ => n - (intOf i).toNat)
  case atStart => exact ⟨⟨0, Nat.zero_le _, rfl, fun j hj => absurd hj (by omega)⟩, 0, rfl⟩
  case round =>
    obtain ⟨⟨k, hk, rfl, hall⟩, q, rfl⟩ := hrel
    have HL := Lib.hid hall
    clear hall
    by_cases hlt : k < n
    · have h1 := HA.out k hlt
      have h2 := HB.out k hlt
      obtain ⟨x, hx⟩ : ∃ x, xs[k]?.getD 0 = x := ⟨_, rfl⟩
      obtain ⟨y, hy⟩ : ∃ y, ys[k]?.getD 0 = y := ⟨_, rfl⟩
      rw [hx, cell_int] at h1
      rw [hy, cell_int] at h2
      have HX1 := Lib.hid hx
      have HY1 := Lib.hid hy
      clear hx hy
      have i0 : (0 : Int) ≤ (k : Int) := by omega
      have i1 : (k : Int) < (n : Int) := by omega
      by_cases hxy : x = y
      · subst hxy
        have hne := cells_same x
        go_wp2
        go_quiet (fail)
        go_wp2
        go_roundw
        case rel => exact ⟨⟨k + 1, by omega, by go_num, fun j hj => by
            rcases Nat.lt_succ_iff_lt_or_eq.1 hj with h | h
            · exact HL.out j h
            · subst h; rw [HX1.out, HY1.out]⟩, _, rfl⟩
        case measure => simp [intOf]; omega
      · have hne := cells_ne hxy
        have HXY := Lib.hid hxy
        clear hxy
        go_wp2
        go_quiet (fail)
        go_wp2
        go_ret
        refine ⟨ret_bool ?_, ?_⟩
        · symm; rw [beq_eq_false_iff_ne]; intro e; exact HXY.out (by rw [← HX1.out, ← HY1.out, e])
        · first | exact below_drewN' _ _ | (rw [World.drewN_drewN]; exact below_drewN' _ _)
    · have he : xs = ys := (beq_take xs ys (HX.out.trans HY.out.symm)).1 (fun j hj => HL.out j (by have := HX.out; omega))
      have HE := Lib.hid he
      clear he
      go_wp2
      go_ret
      exact ⟨ret_bool (by rw [HE.out]; simp), below_drewN' _ _⟩
set_option maxRecDepth 10000 in
set_option maxHeartbeats 1000000 in
theorem sameBytes_none (A B : Option Addr) (c d : Nat) (w : World) :
    Calls Tryz.prog 16 #[.slice A 0 c, .slice B 0 d] w (Gives (.bool true) w) := by
  go_enter Tryz.func16, Tryz.ntmps16
  go_wp2
  go_loop [5] (fun i => i = .int .i64 0) (fun _ => 0)
  case atStart => rfl
  case round =>
    subst hrel
    go_wp2
    go_ret
    exact ⟨rfl, Below.refl _ _⟩
theorem sameBytes_any (A B : Option Addr) (c d : Nat) (xs ys : List UInt8) (w : World) (hA : BytesAt w w.heap.size A xs) (hB : BytesAt w w.heap.size B ys) (hn : xs.length ≤ 140737488355328) :
    Calls Tryz.prog 16 #[.slice A xs.length c, .slice B ys.length d] w (Gives (.bool (xs == ys)) w) := by
  by_cases h : xs.length = ys.length
  · by_cases h0 : xs.length = 0
    · have h1 : ys.length = 0 := by omega
      have e1 := List.eq_nil_of_length_eq_zero h0
      have e2 := List.eq_nil_of_length_eq_zero h1
      subst e1 e2
      exact sameBytes_none A B c d w
    · rcases hA with hA | ⟨b1, o1, rfl, _, hc1⟩
      · exact absurd hA h0
      · rcases hB with hB | ⟨b2, o2, rfl, _, hc2⟩
        · omega
        · rw [← h]
          exact sameBytes_some b1 o1 b2 o2 _ c d xs ys rfl h.symm w hc1 (fun j hj => hc2 j (by omega)) hn
  · have e : (xs == ys) = false := beq_eq_false_iff_ne.2 (fun e => h (by rw [e]))
    rw [e]
    exact (sameBytes_ne A B _ _ c d w h).mono fun e w' ⟨he, hw⟩ => ⟨he, by rw [← hw]; exact Below.refl _ _⟩
end Go.Proofs.YtpgagfmpikhpkaaGreatDoor

/- kalendsref07.decimal at a digit. -/
namespace Go.Proofs.YtpgagfmpikhpkaaGreatDoor
open Go Go.RowKit

def digit (n : Int) : ByteArray := ⟨#[UInt8.ofNat (48 + n).toNat]⟩
theorem conv_one (n : Int) (w : World) : (convert 42 9 (.slice (some ⟨w.heap.size, 0, none⟩) 1 1)).run Tryz.prog (w.alloc (.cells #[.int .u8 (48 + n)] 5)) = .ok (.string (digit n)) (w.alloc (.cells #[.int .u8 (48 + n)] 5)) := by
  have e : digit n = strOfNums [48 + n] := by unfold digit strOfNums; rfl
  rw [e]
  refine run_convert_bytes_arg _ _ _ Tryz.underlying42 Tryz.underlying5 w.heap.size 0 1 1 [48 + n] rfl (fun i hi => ?_) _ Tryz.underlying9
  have : i = 0 := by omega
  subst this
  exact (cell_one_new w _ _) 0 _ rfl
set_option maxRecDepth 10000 in
set_option maxHeartbeats 400000 in
theorem decimal_any (n : Int) (h0 : 0 ≤ n) (h1 : n < 10) (w : World) : Calls Tryz.prog 114 #[I n] w (Gives (.string (digit n)) w) := by
  have hcv := conv_one n w
  have ht : n.tmod 10 = n := by rw [Int.tmod_eq_emod_of_nonneg h0]; exact Int.emod_eq_of_lt h0 h1
  have hd : n.tdiv 10 = 0 := Int.tdiv_eq_zero_of_lt h0 h1
  go_enter Tryz.func114, Tryz.ntmps114
  go_wp2
  go_loopw [0, 3] (fun x s wr => x = I 0 ∧ s = .string (digit n) ∧ wr = w.alloc (.cells #[.int .u8 (48 + n)] 5)) (fun _ _ _ => 0)
  case atStart => exact ⟨rfl, rfl, rfl⟩
  case round =>
    obtain ⟨rfl, rfl, rfl⟩ := hrel
    go_wp2
    go_ret
    exact ⟨rfl, below_var w _⟩
end Go.Proofs.YtpgagfmpikhpkaaGreatDoor

/- letter.Valid: the code that it returns. -/
namespace Go.Proofs.YtpgagfmpikhpkaaGreatDoor
open Go Go.RowKit

def srvIn (n : Int) : Bool := decide (0 ≤ n ∧ n < 16)
set_option maxRecDepth 10000 in
set_option maxHeartbeats 400000 in
theorem server_any (n : Int) (w : World) :
    Calls Tryz.prog 39 #[I n] w fun e w' => e = .returned (.bool (srvIn n)) ∧ w = w' := by
  by_cases h1 : 0 ≤ n
  all_goals
    go_enter Tryz.func39, Tryz.ntmps39
    go_wp2
    go_ret
    refine ⟨ret_bool ?_, rfl⟩
    unfold srvIn
    first | exact (decide_eq_false (by omega)).symm | (rw [Bool.eq_iff_iff]; simp only [decide_eq_true_eq]; omega)
section
variable {P : Program} {ops : Array Oper} {Q : Exit → Act → World → Prop} {a : Act} {w : World} {rest : List Oper} {o : Oper}
/-- A whole struct loaded out of its variable, under a guard that is met. -/
theorem wpList_load_Row (hw : Region.wanted o (yielded ops a.tmps) = true) (ty : TypeId) (x : Operand) (ho : o.op = .load ty x) (g : Nat) (hx : a.eval x = .pointer (some ⟨g, 0, none⟩)) (cs : Array Value) (hr : Row w g cs)
    (d : TypeDesc) (hu : P.underlying ty = some d) (hd : d.isRow = true) (hi : (P.info? ty).map (·.size) = some cs.size)
    (h : wpList P ops Q rest (a.put o.dst (.agg cs)) w) : wpList P ops Q (o :: rest) a w := by
  unfold wpList
  rw [if_pos hw]
  have hc : w.rangeAt g 0 cs.toList := fun j v hv => by rw [Nat.zero_add, hr.2 j]; simpa using hv
  refine .inl (wp_load_mid ty x ho g 0 hx cs.toList d hc hu hd (by rw [hi]; simp) ?_)
  simpa using h
end
end Go.Proofs.YtpgagfmpikhpkaaGreatDoor

/- A node under way: the maker, the result's variable, the node's variable. -/
namespace Go.Proofs.YtpgagfmpikhpkaaGreatDoor
open Go Go.RowKit

def ndCells (d : Nd) (A : Option Addr) (c : Nat) : Array Value := #[I d.kind, I d.cal, I d.l, I d.r, I d.n, I d.m, .slice A d.list.length c, .string d.name]
def zNode : Array Value := #[I 0, I 0, I 0, I 0, I 0, I 0, .slice none 0 0, .string ⟨#[]⟩]
theorem node_zero : (Tryz.prog.info? 73).map (fun i => (i.zero, i.size)) = some (some (.agg zNode), zNode.size) := by kernel_rfl
theorem nd_size (d : Nd) (A : Option Addr) (c : Nat) : (Tryz.prog.info? 73).map (·.size) = some (ndCells d A c).size := by kernel_rfl
theorem nd_one (d : Nd) (A : Option Addr) (c : Nat) : (ndCells d A c).all (·.oneCell') = true := by kernel_rfl
/-- Numbers in memory that is not older than block lo. -/
def LI (lo : Nat) (w : World) (A : Option Addr) (zs : List Int) : Prop :=
  zs.length = 0 ∨ ∃ b off, A = some ⟨b, off, none⟩ ∧ lo ≤ b ∧ b < w.heap.size ∧ ∀ j, j < zs.length → w.cell? ⟨b, off + j, none⟩ = some (I (zs[j]?.getD 0))
theorem LI.of_blocks {lo : Nat} {w w' : World} {A : Option Addr} {zs : List Int} (h : LI lo w A zs) (hs : w.heap.size ≤ w'.heap.size) (hb : ∀ k, lo ≤ k → k < w.heap.size → w'.heap[k]? = w.heap[k]?) : LI lo w' A zs := by
  rcases h with h | ⟨b, off, hA, h1, h2, hc⟩
  · exact .inl h
  · exact .inr ⟨b, off, hA, h1, Nat.lt_of_lt_of_le h2 hs, fun j hj => (World.cell?_of_block (a := ⟨b, off + j, none⟩) (hb b h1 h2)).trans (hc j hj)⟩
theorem LI.mkeep {lo mb : Nat} {w w' : World} {A : Option Addr} {zs : List Int} (h : LI lo w A zs) (hk : MKeep mb w w') (hm : mb < lo) : LI lo w' A zs := h.of_blocks hk.size fun k h1 h2 => hk.block k h2 (by omega)
theorem LI.lower {lo lo' : Nat} {w : World} {A : Option Addr} {zs : List Int} (h : LI lo w A zs) (hl : lo' ≤ lo) : LI lo' w A zs := by
  rcases h with h | ⟨b, off, hA, h1, h2, hc⟩
  · exact .inl h
  · exact .inr ⟨b, off, hA, Nat.le_trans hl h1, h2, hc⟩
theorem LI.ints {lo : Nat} {w : World} {A : Option Addr} {zs : List Int} (h : LI lo w A zs) : IntsAt w w.heap.size A zs := by
  rcases h with h | ⟨b, off, hA, h1, h2, hc⟩
  · exact .inl h
  · exact .inr ⟨b, off, hA, h2, hc⟩
theorem LI.of_owns {lo : Nat} {w : World} {v : Value} {zs : List Int} (h : w.ownsRow lo 3 1 v zs.length (zs.map I)) : ∃ A c, v = .slice A zs.length c ∧ LI lo w A zs := by
  obtain ⟨h0, ⟨rfl, h⟩ | ⟨g, cap, cur, rfl, hg, hb, h1, h2, h3, h4⟩⟩ := h
  · exact ⟨none, 0, by rw [h], .inl h⟩
  · refine ⟨some ⟨g, 0, none⟩, cap, rfl, .inr ⟨g, 0, rfl, hg, (Array.getElem?_eq_some_iff.1 hb).1, fun j hj => ?_⟩⟩
    have h5 : (cur.toList.take (zs.length * 1))[j]? = (zs.map I)[j]? := by rw [h4]
    rw [Nat.mul_one, List.getElem?_take_of_lt hj, List.getElem?_map] at h5
    rw [Nat.zero_add, cell_of_row w g j _ _ _ hb]
    simp only [Array.getElem?_toList] at h5
    rw [h5]
    simp [hj]
structure LS (w0 : World) (mb : Nat) (xs : List Int) (a nd b4 b6 : Nat) (cs : Array Value) (W : World) : Prop where
  hm : mb < w0.heap.size
  mkr : MkSt W mb xs a nd
  keep : MKeep mb w0 W
  lo : w0.heap.size ≤ b4
  ne : b4 < b6
  res : W.heap[b4]? = some (.cells zNode 73 (0, 0))
  var : W.heap[b6]? = some (.cells cs 73 (0, 0))
theorem LS.lt {w0 W : World} {mb a nd b4 b6 : Nat} {xs : List Int} {cs : Array Value} (h : LS w0 mb xs a nd b4 b6 cs W) : b6 < W.heap.size := (Array.getElem?_eq_some_iff.1 h.var).1
theorem LS.cell {w0 W : World} {mb a nd b4 b6 : Nat} {xs : List Int} {cs : Array Value} (h : LS w0 mb xs a nd b4 b6 cs W) : ∀ i, W.cell? ⟨b6, i, none⟩ = cs[i]? := fun i => cell_of_row W b6 i _ _ _ h.var
theorem LS.froz {w0 W : World} {mb a nd b4 b6 : Nat} {xs : List Int} {cs : Array Value} (h : LS w0 mb xs a nd b4 b6 cs W) : ∀ i, W.frozen? ⟨b6, i, none⟩ = false := fun i => frozen_of_row W b6 i _ _ h.var
theorem LS.step {w0 W W' : World} {mb a a' nd nd' b4 b6 : Nat} {xs : List Int} {cs : Array Value} (h : LS w0 mb xs a nd b4 b6 cs W) (hm : MkSt W' mb xs a' nd') (hk : MKeep mb W W') : LS w0 mb xs a' nd' b4 b6 cs W' :=
  have h1 := h.hm
  have h2 := h.lo
  have h3 := h.ne
  have h4 := h.lt
  ⟨h.hm, hm, h.keep.trans hk, h.lo, h.ne, (hk.block b4 (by omega) (by omega)).trans h.res, (hk.block b6 (by omega) (by omega)).trans h.var⟩
theorem LS.pick {w0 W : World} {mb a nd b4 b6 : Nat} {xs : List Int} {cs : Array Value} (h : LS w0 mb xs a nd b4 b6 cs W) (hx : XsOK xs) (n : Int) (ha : a ≤ 1000000000) (hn : 0 < n) (hn2 : n ≤ 1000000000000000000) :
    Calls Tryz.prog 18 #[pt mb, I n] W fun e W' => ∃ r, e = .returned (I r) ∧ 0 ≤ r ∧ r < n ∧ LS w0 mb xs (a + 1) nd b4 b6 cs W' :=
  (pick_any W mb xs a nd n h.mkr hx ha hn hn2).mono fun _ _ ⟨r, h1, h2, h3, h4, h5⟩ => ⟨r, h1, h2, h3, h.step h4 h5⟩
theorem LS.rise {w0 W : World} {mb a nd b4 b6 : Nat} {xs : List Int} {cs : Array Value} (h : LS w0 mb xs a nd b4 b6 cs W) (hx : XsOK xs) (low high : Int) (ha : a ≤ 100000000) (h1 : -1000 ≤ low) (h2 : low ≤ high) (h3 : high ≤ 1000) (h4 : 0 < high) :
    Calls Tryz.prog 97 #[pt mb, I low, I high] W fun e W' => ∃ zs A c a', e = .returned (.slice A zs.length c) ∧ Rising low high zs ∧ LI W.heap.size W' A zs ∧ a' ≤ a + 6 ∧ LS w0 mb xs a' nd b4 b6 cs W' :=
  (rising_any W mb xs a nd low high h.mkr hx ha h1 h2 h3 h4).mono fun _ _ ⟨zs, v, a', e1, e2, e3, e4, e5, e6⟩ => by
    obtain ⟨A, c, rfl, hli⟩ := LI.of_owns e3
    exact ⟨zs, A, c, a', e1, e2, hli, e5, h.step e4 e6⟩
theorem MkSt.far {w : World} {mb : Nat} {xs : List Int} {a n : Nat} (h : MkSt w mb xs a n) (p : Addr) (v : Value) (hp : mb < p.block) : MkSt (w.setCell p v) mb xs a n := by
  obtain ⟨A, c, h1, h2⟩ := h
  exact ⟨A, c, (heap_setCell_other w p mb v (by omega)).trans h1, h2.keep ((Below.refl mb w).setCell (p := p) (by omega) _)⟩
theorem LS.store {w0 W : World} {mb a nd b4 b6 : Nat} {xs : List Int} {cs : Array Value} (h : LS w0 mb xs a nd b4 b6 cs W) (o : Nat) (v : Value) : LS w0 mb xs a nd b4 b6 (cs.setIfInBounds o v) (W.setCell ⟨b6, o, none⟩ v) := by
  have h1 := h.hm
  have h2 := h.lo
  have h3 := h.ne
  have hb : Below b6 W (W.setCell ⟨b6, o, none⟩ v) := (Below.refl b6 W).setCell (p := ⟨b6, o, none⟩) (Nat.le_refl _) _
  refine ⟨h.hm, h.mkr.far _ _ (by show mb < b6; omega), ?_, h.lo, h.ne, (hb.block b4 (by omega)).trans h.res, heap_setCell_same W b6 o _ _ _ h.var⟩
  exact ⟨hb.os.trans h.keep.os, hb.tape.trans h.keep.tape, hb.output.trans h.keep.output, Nat.le_trans h.keep.size hb.size, fun k hk hn => (hb.block k (by omega)).trans (h.keep.block k hk hn)⟩
theorem LS.start {w w1 : World} {mb a nd : Nat} {xs : List Int} {cs : Array Value} (hm : MkSt w1 mb xs a nd) (hml : mb < w.heap.size) (hk : MKeep mb (w.alloc (.cells zNode 73)) w1) :
    LS w mb xs a nd w.heap.size w1.heap.size cs (w1.alloc (.cells cs 73)) := by
  have hs := hk.size
  rw [World.size_alloc] at hs
  have hk0 : MKeep mb w w1 := (MKeep.of_below (below_var w (.cells zNode 73))).trans hk
  refine ⟨hml, hm.grow (below_var w1 _), hk0.trans (MKeep.of_below (below_var w1 _)), Nat.le_refl _, by omega, ?_, heap_alloc_last w1 _⟩
  rw [Below.heap_alloc w1 _ _ (by omega), hk.block _ (by simp) (by omega), heap_alloc_last]
/-- What 'leaf' gives: a node, its list in memory of the call's own. -/
def Leafed (w : World) (mb : Nat) (xs : List Int) (at_ nodes : Nat) (P : Nd → Prop) (e : Ending) (w' : World) : Prop :=
  ∃ d A c a', e = .returned (.agg (ndCells d A c)) ∧ P d ∧ LI w.heap.size w' A d.list ∧ MkSt w' mb xs a' nodes ∧ a' ≤ at_ + 12 ∧ MKeep mb w w'
theorem LS.done {w0 W : World} {mb a nd b4 b6 : Nat} {xs : List Int} {d : Nd} {A : Option Addr} {c : Nat} (h : LS w0 mb xs a nd b4 b6 (ndCells d A c) W) (at_ : Nat) (ha : a ≤ at_ + 12) (P : Nd → Prop) (hP : P d) (hl : LI (b6 + 1) W A d.list) :
    Leafed w0 mb xs at_ nd P (.returned (.agg (ndCells d A c))) (W.setRow b4 (ndCells d A c)) := by
  have h1 := h.hm
  have h2 := h.lo
  have h3 := h.ne
  have hb : Below b4 W (W.setRow b4 (ndCells d A c)) := below_setRow (Below.refl b4 W) (Nat.le_refl _) _
  refine ⟨d, A, c, a, rfl, hP, ?_, ?_, ha, ?_⟩
  · refine (hl.of_blocks (by simp) fun k hk1 hk2 => setRow_other W b4 k _ (by omega)).lower (by omega)
  · obtain ⟨A', c', g1, g2⟩ := h.mkr
    exact ⟨A', c', (setRow_other W b4 mb _ (by omega)).trans g1, g2.keep (hb.mono (by omega))⟩
  · exact ⟨hb.os.trans h.keep.os, hb.tape.trans h.keep.tape, hb.output.trans h.keep.output, Nat.le_trans h.keep.size hb.size, fun k hk hn => (setRow_other W b4 k _ (by omega)).trans (h.keep.block k hk hn)⟩
end Go.Proofs.YtpgagfmpikhpkaaGreatDoor
