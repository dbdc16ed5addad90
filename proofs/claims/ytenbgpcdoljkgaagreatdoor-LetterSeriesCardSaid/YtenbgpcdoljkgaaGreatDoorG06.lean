/- The texts SvJ, SvK, SvL, SvM, SvP, RsA, RsN, RsP, SwN, in this order. -/
import Derived.Test.YtenbgpcdoljkgaaGreatDoorG05
import Derived.Deep.RegionLaw
import Derived.MapKept
import Derived.Laws.Cover3
import Derived.Test.YtenbgpcdoljkgaaGreatDoorReadNum
import Derived.Laws.BitsAllLaws
import Derived.Test.YtenbgpcdoljkgaaGreatDoorWriters3
/- rule.Valid, where the rule is valid. -/
namespace Go.Proofs.YtenbgpcdoljkgaaGreatDoor
open Go Go.RowKit

def CalsAt (w : World) (B cb : Nat) (xs : List CalV) : Prop :=
  xs.length = 3 ∧ cb < B ∧ ∀ k x, xs[k]? = some x → w.rangeAt cb (k * 4) x.cells ∧ IntsAt w B x.A x.c.months ∧ LrsAt w B x.B x.c.rules ∧ CalOK x.c
theorem CalsAt.keep {w w' : World} {B cb : Nat} {xs : List CalV} (h : CalsAt w B cb xs) (hb : Below B w w') : CalsAt w' B cb xs :=
  ⟨h.1, h.2.1, fun k x hx => ⟨rangeAt_keep (h.2.2 k x hx).1 hb h.2.1, (h.2.2 k x hx).2.1.keep hb, (h.2.2 k x hx).2.2.1.keep hb, (h.2.2 k x hx).2.2.2⟩⟩
theorem CalsAt.more {w : World} {B B' cb : Nat} {xs : List CalV} (h : CalsAt w B cb xs) (hB : B ≤ B') : CalsAt w B' cb xs :=
  ⟨h.1, by have := h.2.1; omega, fun k x hx => ⟨(h.2.2 k x hx).1, (h.2.2 k x hx).2.1.more hB, (h.2.2 k x hx).2.2.1.more hB, (h.2.2 k x hx).2.2.2⟩⟩
theorem flat_get (xs : List CalV) (k i : Nat) (hi : i < 4) : (xs.flatMap CalV.cells)[k * 4 + i]? = (xs[k]?).bind fun x => x.cells[i]? := by
  induction xs generalizing k with
  | nil => simp
  | cons x r ih =>
    have hl : x.cells.length = 4 := rfl
    rw [List.flatMap_cons]
    cases k with
    | zero => rw [List.getElem?_append_left (by rw [hl]; omega)]; simp
    | succ k => rw [List.getElem?_append_right (by rw [hl]; omega), hl, show (k + 1) * 4 + i - 4 = k * 4 + i by omega, ih k]; simp
theorem CS.cals {w W : World} {xs : List CalV} (h : CS w 3 xs W) : CalsAt W W.heap.size w.heap.size xs := by
  refine ⟨h.len, by have := h.sz; omega, fun k x hx => ⟨fun j v hv => ?_, (h.mem x (List.mem_of_getElem? hx)).1.ints, (h.mem x (List.mem_of_getElem? hx)).2.1.lrs, (h.mem x (List.mem_of_getElem? hx)).2.2⟩⟩
  have hj : j < 4 := (List.getElem?_eq_some_iff.1 hv).1
  rw [cell_of_row W _ _ _ _ _ h.row, List.getElem?_toArray]
  have h1 : (xs.flatMap CalV.cells)[k * 4 + j]? = some v := by rw [flat_get xs k j hj, hx]; exact hv
  rw [List.getElem?_append_left (List.getElem?_eq_some_iff.1 h1).1]
  exact h1
/-- A rule that is valid. -/
structure RuleOK (ns : List NdV) : Prop where
  n1 : 1 ≤ ns.length
  n64 : ns.length ≤ 64
  nodes : ∀ i x, ns[i]? = some x → NodeOK i x.d.kind.toNat x.d
  uses : ∀ j, j + 1 < ns.length → (usesTo (ns.map (·.d)) ns.length ns.length)[j]? = some 1
theorem NodeOK.small {i k : Nat} {d : Nd} (h : NodeOK i k d) : d.list.length ≤ 64 ∧ d.name.size ≤ 32 := by
  refine ⟨h.len, ?_⟩
  rcases h.name with ⟨_, j, hj, hn⟩ | ⟨_, hn⟩
  · rw [hn]; rcases hj with rfl | rfl <;> decide
  · rw [hn]; decide
set_option maxRecDepth 10000 in
set_option maxHeartbeats 2000000 in
theorem ruleValid_yes (A : Option Addr) (n c cb cc : Nat) (ns : List NdV) (xs : List CalV) (w : World) (hA : RulesAt w w.heap.size A ns) (hl : ns.length = n) (hok : RuleOK ns) (hc : CalsAt w w.heap.size cb xs) :
    Calls Tryz.prog 66 #[.slice A n c, .slice (some ⟨cb, 0, none⟩) 3 cc] w (Gives (I 0) w) := by
  have HA := Lib.hid hA
  have HL := Lib.hid hl
  have HOK := Lib.hid hok
  have HCA := Lib.hid hc
  have h64 : n ≤ 64 := by rw [← hl]; exact hok.n64
  have h65 : ¬ (64 : Int) < (n : Int) := by omega
  have HBIG := Lib.hid (hasBig A n c ns w hA hl (by omega) (fun x hx => by
    obtain ⟨i, hi⟩ := List.getElem?_of_mem hx
    exact (hok.nodes i x hi).small))
  have HWF := Lib.hid (fun w' (hb : Below w.heap.size w w') => wellFormed_yes A n c ns w' ((hA.keep hb).more hb.size) hl (by rw [← hl]; exact hok.n1) h64 hok.nodes _ rfl (fun j hj => by have := hok.uses j (by rw [hl]; exact hj); rw [hl] at this; exact this))
  clear hA hl hok hc
  go_enter Tryz.func66, Tryz.ntmps66
  go_wp2_with fail
  refine HBIG.out.mono ?_
  rintro e w1 ⟨rfl, hb1⟩
  have HB1 := Lib.hid hb1
  clear hb1 HBIG
  go_wp2_with fail
  refine (HWF.out _ HB1.out).mono ?_
  rintro e w2 ⟨rfl, hb2⟩
  have HB2 := Lib.hid (below_trans HB1.out hb2)
  clear hb2 HWF HB1
  go_wp2_with fail
  go_loopw [29] (fun i wr => ∃ k : Nat, k ≤ 3 ∧ i = I k ∧ Below w.heap.size w wr) (fun i _ => 3 - (intOf i).toNat)
  case atStart => exact ⟨0, by omega, rfl, HB2.out⟩
  case round =>
    obtain ⟨k, hk, rfl, hbe⟩ := hrel
    have HBE := Lib.hid hbe
    clear hbe HB2
    by_cases hlt : (k : Int) < 3
    · have i0 : (0 : Int) ≤ (k : Int) := by omega
      have hc := HCA.out.keep HBE.out
      obtain ⟨x, hx⟩ : ∃ x, xs[k]? = some x := ⟨_, List.getElem?_eq_getElem (by rw [hc.1]; omega)⟩
      obtain ⟨hr, hi, hlr, hco⟩ := hc.2.2 k x hx
      have hbl : cb < wr.heap.size := Nat.lt_of_lt_of_le hc.2.1 HBE.out.size
      have f0 : wr.cell? ⟨cb, k * 4, none⟩ = some (I x.c.epoch) := hr 0 _ rfl
      have f1 : wr.cell? ⟨cb, k * 4 + 1, none⟩ = some (.slice x.A x.c.months.length x.ca) := hr 1 _ rfl
      have f2 : wr.cell? ⟨cb, k * 4 + 2, none⟩ = some (I x.c.leap) := hr 2 _ rfl
      have f3 : wr.cell? ⟨cb, k * 4 + 3, none⟩ = some (.slice x.B x.c.rules.length x.cb) := hr 3 _ rfl
      have hne : ¬ cb = wr.heap.size := by omega
      have HBV := Lib.hid (below_var wr (.cells (calCells x.c x.A x.ca x.B x.cb) 106))
      have hbs := HBE.out.size
      have HCV := Lib.hid (civilValid_yes x.c x.A x.ca x.B x.cb _ (((hi.more hbs).keep HBV.out).more HBV.out.size) (((hlr.more hbs).keep HBV.out).more HBV.out.size) hco)
      clear hr hi hlr hco hc hx
      go_wp2_with fail
      refine HCV.out.mono ?_
      rintro e w5 ⟨rfl, hb5⟩
      have HB5 := Lib.hid (below_trans HBV.out hb5)
      clear hb5
      go_wp2_with fail
      go_roundw
      case rel => exact ⟨k + 1, by omega, by go_num, below_trans HBE.out HB5.out⟩
      case measure => simp [intOf]; omega
    · go_wp2_with fail
      refine (shapes_any _).mono ?_
      rintro e w3 ⟨rfl, hb3⟩
      have HB3 := Lib.hid (below_trans (below_trans HBE.out hb3) (below_var w3 (.cells shC 164)))
      have HT3 := Lib.hid (Row.new w3 shC 164)
      have hsb : w.heap.size ≤ w3.heap.size := Nat.le_trans HBE.out.size hb3.size
      clear hb3
      go_wp2_with (refine wpList_var_row rfl rfl _ _ _ rfl rfl rfl rfl _ shC sh_info' rfl rfl rfl sh_one ?_)
      obtain ⟨tb, htb⟩ : ∃ tb, w3.heap.size = tb := ⟨_, rfl⟩
      rw [htb] at HT3 hsb ⊢
      clear htb
      go_loopw [40] (fun i wr => ∃ j : Nat, j ≤ n ∧ i = I j ∧ Below w.heap.size w wr ∧ Row wr tb shC) (fun i _ => n - (intOf i).toNat)
      case atStart => exact ⟨0, by omega, rfl, HB3.out, HT3.out⟩
      case round =>
        obtain ⟨j, hj, rfl, hbj, hrj⟩ := hrel
        have HBJ := Lib.hid hbj
        have HRJ := Lib.hid hrj
        clear hbj hrj HB3 HT3
        by_cases hlt2 : (j : Int) < (n : Int)
        · have i0 : (0 : Int) ≤ (j : Int) := by omega
          obtain ⟨b, ⟨⟨kind, cal, l, r, nn, m, list, name⟩, A', c'⟩, rfl, hx, hm, ho⟩ := one_nd (k := j) HA.out HL.out HBJ.out (by omega)
          have hN := HOK.out.nodes j _ hx
          obtain ⟨f0, f1, f2, f3, f4, f5, f6, f7⟩ := ho.cells
          simp only at hN f0 f1 f2 f3 f4 f5 f6 f7
          obtain ⟨kd, hkd⟩ : ∃ kd, kind.toNat = kd := ⟨_, rfl⟩
          rw [hkd] at hN
          have hkk : kind = (kd : Int) := hN.kind
          subst hkk
          have hk1 := hN.k1
          have hk2 := hN.k2
          have hbl := ho.la
          obtain ⟨_, t1, _, _⟩ := shC_at kd (by omega)
          rw [← HRJ.out.2] at t1
          have htl := HRJ.out.1
          have hne1 : ¬ b = wr.heap.size := by omega
          have hne2 : ¬ tb = wr.heap.size := by omega
          have HBV := Lib.hid (below_var wr (.cells #[I kd, I cal, I l, I r, I nn, I m, .slice A' list.length c', .string name] 85))
          have hcal := hN.cal
          simp only at hcal
          clear hN ho hx hm hkd
          rcases hcal with ⟨hcb, hc1, hc2⟩ | ⟨hcb, hc0⟩
          · rw [hcb] at t1
            have hc3 : ¬ (3 : Int) ≤ cal := by omega
            go_wp2_with fail
            go_roundw
            case rel => exact ⟨j + 1, by omega, by go_num, below_trans HBJ.out HBV.out, HRJ.out.keep HBV.out⟩
            case measure => simp [intOf]; omega
          · rw [hcb] at t1
            clear hc0 hcb
            go_wp2_with fail
            go_roundw
            case rel => exact ⟨j + 1, by omega, by go_num, below_trans HBJ.out HBV.out, HRJ.out.keep HBV.out⟩
            case measure => simp [intOf]; omega
        · go_wp2_with fail
          go_ret
          exact ⟨rfl, HBJ.out⟩
end Go.Proofs.YtenbgpcdoljkgaaGreatDoor

/- slices.Clone of numbers, rule.add of a leaf; the map of rule.Part. -/
namespace Go.Proofs.YtenbgpcdoljkgaaGreatDoor
open Go Go.RowKit Go.WideShapes

theorem own_none (w : World) : (w.alloc (.cells #[] 3)).ownsRow w.heap.size 3 1 (.slice (some ⟨w.heap.size, 0, none⟩) 0 0) 0 [] :=
  ⟨rfl, .inr ⟨w.heap.size, 0, #[], rfl, Nat.le_refl _, heap_alloc_last w _, Nat.le_refl _, Nat.zero_le _, rfl, rfl⟩⟩
/-- Some slice of n elements, in memory of the call's own. -/
def SomeSl (n : Nat) (w : World) (e : Ending) (w' : World) : Prop := ∃ A c, e = .returned (.slice A n c) ∧ Below w.heap.size w w'
theorem below_grown {w W w' : World} {base e size n : Nat} {v : Value} {ys : List Value} (hb : Below base w W) (hown : W.ownsRow base e size v n ys) (hle : base ≤ W.heap.size) (hg : W.grownBy w' v.ownBlock) : Below base w w' :=
  ⟨hg.os.trans hb.os, hg.tape.trans hb.tape, hg.output.trans hb.output, Nat.le_trans hb.size hg.size, fun k hk => (hg.block k (by omega) (own_ge hown k hk)).trans (hb.block k hk)⟩
set_option maxRecDepth 10000 in
set_option maxHeartbeats 2000000 in
theorem clone_any (A : Option Addr) (n c : Nat) (zs : List Int) (w : World) (hA : IntsAt w w.heap.size A zs) (hl : zs.length = n) (hn : n ≤ 1000) : Calls Tryz.prog 135 #[.slice A n c] w (SomeSl n w) := by
  cases A with
  | none =>
    have h0 : n = 0 := by
      rcases hA with h | ⟨b, off, h, _⟩
      · omega
      · cases h
    subst h0
    have heq : ∀ W, (binOp .eql 22 (.slice none 0 c) (.slice none 0 0)).run Tryz.prog W = .ok (.bool true) W := fun W => by simp [binOp, run_equal_slice_nil W 22 3 none 0 c Tryz.underlying22]
    go_enter Tryz.func135, Tryz.ntmps135
    go_wp2
    go_ret
    exact ⟨_, _, rfl, Below.refl _ _⟩
  | some a =>
    have HN : Hid (∀ j u, (zs.map I)[j]? = some u → (w.alloc (.cells #[] 3)).cell? (a.add j) = some u) := Lib.hid fun j u hu => by
      rcases hA with h | ⟨b, off, h, hb, hc⟩
      · rw [List.eq_nil_of_length_eq_zero h] at hu; cases hu
      · injection h with h
        subst h
        rw [List.getElem?_map] at hu
        obtain ⟨z, hz, rfl⟩ := Option.map_eq_some_iff.1 hu
        have hj : j < zs.length := (List.getElem?_eq_some_iff.1 hz).1
        rw [add_plain, World.cell?_of_block (Below.heap_alloc w _ b hb), hc j hj, hz]; rfl
    have HO := Lib.hid (own_none w)
    have HL := Lib.hid hl
    have HB := Lib.hid (below_var w (.cells #[] 3))
    obtain ⟨i0, hi, hz0, hz1, hz2⟩ := info_parts info_int
    have HI := Lib.hid hi
    have HZ0 := Lib.hid hz0
    have HZ1 := Lib.hid hz1
    have HZ2 := Lib.hid hz2
    have heq : ∀ W, (binOp .eql 22 (.slice (some a) n c) (.slice none 0 0)).run Tryz.prog W = .ok (.bool false) W := fun W => by simp [binOp, run_equal_slice_nil W 22 3 (some a) n c Tryz.underlying22]
    clear hA hl hi hz0 hz1 hz2
    go_enter Tryz.func135, Tryz.ntmps135
    go_wp2_with (at_builtin; refine wpList_append_own_at _ rfl _ _ 22 rfl w.heap.size 3 i0 (.int .i64 0) 1 8 Tryz.underlying22 HI.out HZ0.out HZ1.out HZ2.out rfl (by decide) _ 0 [] rfl HO.out a n c (zs.map I) rfl (by rw [List.length_map, HL.out]; omega) HN.out (by intro u hu; obtain ⟨z, _, rfl⟩ := List.mem_map.1 hu; rfl) (by unfold maxLen; omega) (by omega) (by simp) ?_)
    intro v' w' hown hg _ _
    have HB2 := Lib.hid (below_grown HB.out HO.out (by simp) hg)
    have hv : ∃ A' c', v' = .slice A' n c' := by
      rcases hown.2 with ⟨rfl, h⟩ | ⟨g, cap, cur, rfl, _⟩
      · exact ⟨none, 0, by rw [show n = 0 by omega]⟩
      · exact ⟨some ⟨g, 0, none⟩, cap, rfl⟩
    obtain ⟨A', c', rfl⟩ := hv
    clear hown hg
    go_wp2_with fail
    go_ret
    exact ⟨_, _, rfl, HB2.out⟩
theorem run_upd0 (W : World) (mb : Nat) (h : W.heap[mb]? = some (.map #[] 0)) :
    (Instr.mapUpdate 192 (.map (some mb)) (.int .i64 0) (.bool true)).run Tryz.prog W = .ok () { W with heap := W.heap.setIfInBounds mb (.map #[{ key := .int .i64 0, val := .bool true, born := 0 }] 1) } := by
  have h1 : Instr.findNow (.int .i64) (.int .i64 0) (#[] : Array MapEntry).toList 0 = some none := rfl
  simp only [Instr.mapUpdate, Sem.run_bind, run_underlying Tryz.underlying192, Result.andThen, MapKept.run_getObj_map h, MapKept.run_checkKey (k := .int .i64 0) Tryz.underlying3 (by trivial) false 9999, MapKept.run_findKey Tryz.underlying3 h1, MapKept.run_setObj_map _ h]
  rfl
def oneMap : Array MapEntry := #[{ key := .int .i64 0, val := .bool true, born := 0 }]
set_option maxRecDepth 20000 in
theorem run_look (W : World) (mb k : Nat) (h : W.heap[mb]? = some (.map oneMap 1)) :
    (Instr.lookup 192 (.map (some mb)) (.int .i64 k) false).run Tryz.prog W = .ok (.bool (k == 0)) W := by
  have hz : (zeroValue 4).run Tryz.prog W = .ok (.bool false) W := by kernel_rfl
  have hck : ∀ e, (Instr.checkKey e 10000 3 (.int .i64 (k : Int))).run Tryz.prog W = .ok () W := fun e => MapKept.run_checkKey Tryz.underlying3 (by trivial) e 9999
  by_cases hk : k = 0
  · subst hk
    have hf : (Instr.findKey 3 (.int .i64 ((0 : Nat) : Int)) oneMap.toList).run Tryz.prog W = .ok (some (0, .bool true)) W := MapKept.run_findKey Tryz.underlying3 rfl
    simp only [Instr.lookup, Sem.run_bind, run_underlying Tryz.underlying192, Result.andThen, MapKept.run_getObj_map h, hck, hf, Sem.run_pure]
    rfl
  · have hf : (Instr.findKey 3 (.int .i64 (k : Int)) oneMap.toList).run Tryz.prog W = .ok none W := MapKept.run_findKey Tryz.underlying3 (by
      have hne : ((k : Int) == 0) = false := by simp [hk]
      simp [oneMap, Instr.findNow, Instr.sameNow, hne])
    have hk2 : (k == 0) = false := by simp [hk]
    simp only [Instr.lookup, Sem.run_bind, run_underlying Tryz.underlying192, Result.andThen, MapKept.run_getObj_map h, hck, hf, hz, Sem.run_pure, hk2]
    rfl
end Go.Proofs.YtenbgpcdoljkgaaGreatDoor

/- rule.add of a node without operands; the walker of rule.Part at a node without operands. -/
namespace Go.Proofs.YtenbgpcdoljkgaaGreatDoor
open Go Go.RowKit

theorem index_sh (k : Nat) (hk : k < 19) (w : World) : (Instr.index 164 (.agg shC) (.int .i64 (k : Int))).run Tryz.prog w = .ok (.agg #[I (opn k), .bool (calB k), I (shLo k), I (shHi k)]) w := by
  have h : k = 0 ∨ k = 1 ∨ k = 2 ∨ k = 3 ∨ k = 4 ∨ k = 5 ∨ k = 6 ∨ k = 7 ∨ k = 8 ∨ k = 9 ∨ k = 10 ∨ k = 11 ∨ k = 12 ∨ k = 13 ∨ k = 14 ∨ k = 15 ∨ k = 16 ∨ k = 17 ∨ k = 18 := by omega
  rcases h with rfl | rfl | rfl | rfl | rfl | rfl | rfl | rfl | rfl | rfl | rfl | rfl | rfl | rfl | rfl | rfl | rfl | rfl | rfl <;> (show _ = _; kernel_rfl)
theorem field_sh (a b c : Int) (u : Bool) (w : World) : (Instr.field 163 (.agg #[I a, .bool u, I b, I c]) 0).run Tryz.prog w = .ok (I a) w := by kernel_rfl
/-- The node's variable, as it lies. -/
structure NVar (w : World) (cs : Array Value) (W : World) : Prop where
  var : W.heap[w.heap.size]? = some (.cells cs 85 (0, 0))
  lo : Below w.heap.size w W
theorem NVar.below {w W W' : World} {cs : Array Value} (h : NVar w cs W) (hb : Below W.heap.size W W') : NVar w cs W' := ⟨(hb.block _ (Array.getElem?_eq_some_iff.1 h.var).1).trans h.var, below_trans h.lo hb⟩
theorem NVar.put {w W : World} {cs : Array Value} (h : NVar w cs W) (o : Nat) (v : Value) : NVar w (cs.setIfInBounds o v) (W.setCell ⟨w.heap.size, o, none⟩ v) := ⟨heap_setCell_same W _ o _ _ v h.var, h.lo.setCell (p := ⟨w.heap.size, o, none⟩) (Nat.le_refl _) _⟩
theorem NVar.cell {w W : World} {cs : Array Value} (h : NVar w cs W) : ∀ i, W.cell? ⟨w.heap.size, i, none⟩ = cs[i]? := fun i => cell_of_row W _ i _ _ _ h.var
theorem NVar.froz {w W : World} {cs : Array Value} (h : NVar w cs W) : ∀ i, W.frozen? ⟨w.heap.size, i, none⟩ = false := fun i => frozen_of_row W _ i _ _ h.var
set_option maxRecDepth 10000 in
set_option maxHeartbeats 2000000 in
theorem add_leaf (kd : Nat) (cal l r nn m : Int) (list : List Int) (name : ByteArray) (A : Option Addr) (c : Nat) (P : Option Addr) (np cp : Nat) (w : World) (hA : IntsAt w w.heap.size A list) (hl : list.length ≤ 64) (hk : kd < 19) (ho : opn kd = 0) :
    Calls Tryz.prog 120 #[.slice none 0 0, .agg #[I kd, I cal, I l, I r, I nn, I m, .slice A list.length c, .string name], .slice P np cp] w (SomeSl 1 w) := by
  have HN0 : Hid (NVar w #[I kd, I cal, I l, I r, I nn, I m, .slice A list.length c, .string name] (w.alloc (.cells #[I kd, I cal, I l, I r, I nn, I m, .slice A list.length c, .string name] 85))) := Lib.hid ⟨heap_alloc_last w _, below_var w _⟩
  have hix := index_sh kd hk
  rw [ho] at hix
  have hfd := field_sh 0 (shLo kd) (shHi kd) (calB kd)
  have HCL : Hid (∀ W, Below w.heap.size w W → Calls Tryz.prog 135 #[.slice A list.length c] W (SomeSl list.length W)) := Lib.hid fun W hb => clone_any A list.length c list W ((hA.keep hb).more hb.size) rfl (by omega)
  clear hA hl hk ho
  go_enter Tryz.func120, Tryz.ntmps120
  go_wp2_with fail
  refine (HCL.out _ HN0.out.lo).mono ?_
  rintro e w1 ⟨A1, c1, rfl, hb1⟩
  have HN1 := Lib.hid (HN0.out.below hb1)
  have hc1 := HN1.out.cell
  have hf1 := HN1.out.froz
  have HN2 : Hid (NVar w #[I kd, I cal, I l, I r, I nn, I m, .slice A1 list.length c1, .string name] (w1.setCell ⟨w.heap.size, 6, none⟩ (.slice A1 list.length c1))) := Lib.hid (HN1.out.put 6 (.slice A1 list.length c1))
  clear hb1 HN0 HCL
  go_wp2_with fail
  clear hc1 hf1
  have hc2 := HN2.out.cell
  obtain ⟨W2, hW2⟩ : ∃ W, w1.setCell ⟨w.heap.size, 6, none⟩ (.slice A1 list.length c1) = W := ⟨_, rfl⟩
  rw [hW2] at HN2 hc2 ⊢
  clear hW2
  go_region_law (go_simp; go_at_call 95; refine (shapes_any _).mono ?_; rintro v w5 ⟨rfl, hb5⟩; have HN5 := Lib.hid (HN2.out.below (below_drew' hb5)); have hc5 := HN5.out.cell; clear hb5)
  all_goals
    have HB5 := Lib.hid (below_trans HN5.out.lo (below_var w5 (.cells (ndCells ⟨kd, cal, l, r, nn, m, list, name⟩ A1 c1) 85)))
    have hs5 := HN5.out.lo.size
    clear hc2
    go_wp2_with (at_builtin; refine wpList_app_nodes rfl _ _ rfl w.heap.size _ [] rfl (World.ownsRow_nil _ _ _ _) ⟨w5.heap.size, 0, none⟩ 1 [⟨⟨kd, cal, l, r, nn, m, list, name⟩, A1, c1⟩] rfl cells_new (by simp) (by simp; omega) ?_)
    intro v' w6 hown hg
    have HB6 := Lib.hid (below_grown HB5.out (World.ownsRow_nil _ _ 85 8) (by simp; omega) hg)
    have hv : ∃ A' c', v' = .slice A' 1 c' := by
      rcases hown.2 with ⟨_, h⟩ | ⟨g, cap, cur, rfl, _⟩
      · cases h
      · exact ⟨some ⟨g, 0, none⟩, cap, rfl⟩
    obtain ⟨A', c', rfl⟩ := hv
    clear hown hg
    go_wp2_with fail
    go_ret
    exact ⟨_, _, rfl, HB6.out⟩
end Go.Proofs.YtenbgpcdoljkgaaGreatDoor

/- rule.Part at the first node. -/
namespace Go.Proofs.YtenbgpcdoljkgaaGreatDoor
open Go Go.RowKit

/-- The map's block is set to one entry; all others stand. -/
def mapSet (W : World) (mb : Nat) : World := { W with heap := W.heap.setIfInBounds mb (.map oneMap 1) }
theorem mapSet_other (W : World) (mb k : Nat) (h : k ≠ mb) : (mapSet W mb).heap[k]? = W.heap[k]? := by
  simp only [mapSet, Array.getElem?_setIfInBounds]
  rw [if_neg (fun e => h e.symm)]
theorem mapSet_same (W : World) (mb : Nat) {o : Obj} (h : W.heap[mb]? = some o) : (mapSet W mb).heap[mb]? = some (.map oneMap 1) := by
  have : mb < W.heap.size := (Array.getElem?_eq_some_iff.1 h).1
  simp [mapSet, this]
structure Wk (W : World) (mb : Nat) (w' : World) : Prop where
  map : w'.heap[mb]? = some (.map oneMap 1)
  os : w'.os = W.os
  tape : w'.tape = W.tape
  output : w'.output = W.output
  size : W.heap.size ≤ w'.heap.size
  block : ∀ k, k < W.heap.size → k ≠ mb → w'.heap[k]? = W.heap[k]?
theorem Wk.start (W : World) (mb : Nat) {o : Obj} (h : W.heap[mb]? = some o) : Wk W mb (mapSet W mb) := ⟨mapSet_same W mb h, rfl, rfl, rfl, by simp [mapSet], fun k _ hk => mapSet_other W mb k hk⟩
theorem Wk.below {W w' w'' : World} {mb : Nat} (h : Wk W mb w') (hb : Below w'.heap.size w' w'') : Wk W mb w'' :=
  ⟨(hb.block _ (Array.getElem?_eq_some_iff.1 h.map).1).trans h.map, hb.os.trans h.os, hb.tape.trans h.tape, hb.output.trans h.output, Nat.le_trans h.size hb.size, fun k hk hm => (hb.block k (Nat.lt_of_lt_of_le hk h.size)).trans (h.block k hk hm)⟩
theorem Wk.cell {W w' : World} {mb b o : Nat} {v : Value} (h : Wk W mb w') (hc : W.cell? ⟨b, o, none⟩ = some v) (hm : b ≠ mb) : w'.cell? ⟨b, o, none⟩ = some v := by
  have hb : b < W.heap.size := by
    apply Classical.byContradiction
    intro hn
    have h2 : W.heap[b]? = none := Array.getElem?_eq_none (by omega)
    simp [World.cell?, h2] at hc
  exact (World.cell?_of_block (a := ⟨b, o, none⟩) (h.block b hb hm)).trans hc
set_option maxRecDepth 10000 in
set_option maxHeartbeats 2000000 in
theorem walk0 (kp rp wp mb b n c kd : Nat) (W : World) (h1 : W.cell? ⟨kp, 0, none⟩ = some (.map (some mb))) (h2 : W.heap[mb]? = some (.map #[] 0)) (h3 : W.cell? ⟨rp, 0, none⟩ = some (.slice (some ⟨b, 0, none⟩) n c)) (hn : 1 ≤ n) (h4 : W.cell? ⟨b, 0, none⟩ = some (I kd)) (hk : kd < 19) (ho : opn kd = 0) (hr : rp ≠ mb) (hb : b ≠ mb) :
    Calls Tryz.prog 119 #[I 0, pt kp, pt rp, pt wp] W fun e w' => (∃ v, e = .returned v) ∧ Wk W mb w' := by
  have hup : (Instr.mapUpdate 192 (.map (some mb)) (.int .i64 0) (.bool true)).run Tryz.prog W = .ok () (mapSet W mb) := run_upd0 W mb h2
  have HS := Lib.hid (Wk.start W mb h2)
  have c3 : (mapSet W mb).cell? ⟨rp, 0, none⟩ = some (.slice (some ⟨b, 0, none⟩) n c) := HS.out.cell h3 hr
  have c4 : (mapSet W mb).cell? ⟨b, 0, none⟩ = some (I kd) := HS.out.cell h4 hb
  have hix := index_sh kd hk
  rw [ho] at hix
  have hfd := field_sh 0 (shLo kd) (shHi kd) (calB kd)
  have i1 : (0 : Int) < (n : Int) := by omega
  have i2 : 0 < n := by omega
  have H3 := Lib.hid h3
  have H4 := Lib.hid h4
  have HR := Lib.hid hr
  have HB := Lib.hid hb
  obtain ⟨WM, hWM⟩ : ∃ WM, mapSet W mb = WM := ⟨_, rfl⟩
  rw [hWM] at hup HS c3 c4
  clear h2 h3 h4 hr hb ho hWM
  go_enter Tryz.func119, Tryz.ntmps119
  go_wp2_with fail
  go_region_law (go_simp; go_at_call 95; refine (shapes_any _).mono ?_; rintro v w5 ⟨rfl, hb5⟩; have HS5 := Lib.hid (HS.out.below (below_drew' hb5)); have d3 := HS5.out.cell H3.out HR.out; have d4 := HS5.out.cell H4.out HB.out; clear hb5)
  all_goals
    go_wp2_with fail
    go_end0
    exact ⟨⟨_, rfl⟩, HS5.out⟩
/-- The blocks of rule.Part behind its set-up: the rule's box, the places, the map and its variable. -/
structure PS (w w1 : World) (b n c : Nat) (mo : Obj) (W : World) : Prop where
  rp : W.heap[w.heap.size]? = some (.cells #[.slice (some ⟨b, 0, none⟩) n c] 27 (0, 0))
  kp : W.heap[w1.heap.size + 1 + 1 + 1]? = some (.cells #[.map (some (w1.heap.size + 1 + 1))] 192 (0, 0))
  mp : W.heap[w1.heap.size + 1 + 1]? = some mo
  pl : ∃ cs, cs.size = n ∧ W.heap[w1.heap.size]? = some (.cells cs 3 (0, 0))
  lo : Below w.heap.size w W
  s1 : w.heap.size < w1.heap.size
  sz : w1.heap.size + 4 ≤ W.heap.size
theorem PS.start {w w1 : World} {b n c : Nat} {o2 : Obj} (hb : Below w.heap.size w w1) (hs : w.heap.size < w1.heap.size) (hr : w1.heap[w.heap.size]? = some (.cells #[.slice (some ⟨b, 0, none⟩) n c] 27 (0, 0))) :
    PS w w1 b n c (.map #[] 0) ((((w1.alloc (.cells (Array.replicate n (I 0)) 3)).alloc o2).alloc (.map #[] 0)).alloc (.cells #[.map (some (w1.heap.size + 1 + 1))] 192)) := by
  have b1 := below_var w1 (.cells (Array.replicate n (I 0)) 3)
  have b2 := below_var (w1.alloc (.cells (Array.replicate n (I 0)) 3)) o2
  have b3 := below_var ((w1.alloc (.cells (Array.replicate n (I 0)) 3)).alloc o2) (.map #[] 0)
  have b4 := below_var (((w1.alloc (.cells (Array.replicate n (I 0)) 3)).alloc o2).alloc (.map #[] 0)) (.cells #[.map (some (w1.heap.size + 1 + 1))] 192)
  have h1 := heap_alloc_last w1 (.cells (Array.replicate n (I 0)) 3)
  have h3 := heap_alloc_last ((w1.alloc (.cells (Array.replicate n (I 0)) 3)).alloc o2) (.map #[] 0)
  have h4 := heap_alloc_last (((w1.alloc (.cells (Array.replicate n (I 0)) 3)).alloc o2).alloc (.map #[] 0)) (.cells #[.map (some (w1.heap.size + 1 + 1))] 192)
  have hall := below_trans (below_trans (below_trans b1 b2) b3) b4
  simp only [World.size_alloc] at h3 h4
  refine ⟨(hall.block _ hs).trans hr, h4, ?_, ⟨Array.replicate n (I 0), by simp, ?_⟩, below_trans hb hall, hs, by simp⟩
  · rw [b4.block _ (by simp)]; exact h3
  · rw [b4.block _ (by simp; omega), b3.block _ (by simp; omega), b2.block _ (by simp)]; exact h1
theorem PS.walked {w w1 W w2 : World} {b n c : Nat} {mo : Obj} (h : PS w w1 b n c mo W) (hw : Wk W (w1.heap.size + 1 + 1) w2) : PS w w1 b n c (.map oneMap 1) w2 := by
  have hs := h.s1
  have hz := h.sz
  obtain ⟨cs, h1, h2⟩ := h.pl
  refine ⟨(hw.block _ (by omega) (by omega)).trans h.rp, (hw.block _ (by omega) (by omega)).trans h.kp, hw.map, ⟨cs, h1, (hw.block _ (by omega) (by omega)).trans h2⟩, ⟨hw.os.trans h.lo.os, hw.tape.trans h.lo.tape, hw.output.trans h.lo.output, Nat.le_trans h.lo.size hw.size, fun k hk => (hw.block k (by omega) (by omega)).trans (h.lo.block k hk)⟩, hs, Nat.le_trans hz hw.size⟩
theorem PS.below {w w1 W W' : World} {b n c : Nat} {mo : Obj} (h : PS w w1 b n c mo W) (hb : Below W.heap.size W W') : PS w w1 b n c mo W' := by
  have hs := h.s1
  have hz := h.sz
  obtain ⟨cs, h1, h2⟩ := h.pl
  exact ⟨(hb.block _ (by omega)).trans h.rp, (hb.block _ (by omega)).trans h.kp, (hb.block _ (by omega)).trans h.mp, ⟨cs, h1, (hb.block _ (by omega)).trans h2⟩, below_trans h.lo hb, hs, Nat.le_trans hz hb.size⟩
theorem PS.put {w w1 W : World} {b n c : Nat} {mo : Obj} (h : PS w w1 b n c mo W) (j : Nat) (v : Value) : PS w w1 b n c mo (W.setCell ⟨w1.heap.size, j, none⟩ v) := by
  have hs := h.s1
  have hz := h.sz
  obtain ⟨cs, h1, h2⟩ := h.pl
  have ho : ∀ k, k ≠ w1.heap.size → (W.setCell ⟨w1.heap.size, j, none⟩ v).heap[k]? = W.heap[k]? := fun k hk => heap_setCell_other W _ _ v hk
  exact ⟨(ho _ (by omega)).trans h.rp, (ho _ (by omega)).trans h.kp, (ho _ (by omega)).trans h.mp, ⟨cs.setIfInBounds j v, by simp [h1], heap_setCell_same W _ j _ _ v h2⟩, h.lo.setCell (p := ⟨w1.heap.size, j, none⟩) (by show w.heap.size ≤ w1.heap.size; omega) _, hs, by simpa [World.setCell] using hz⟩
theorem PS.place {w w1 W : World} {b n c : Nat} {mo : Obj} (h : PS w w1 b n c mo W) (j : Nat) (hj : j < n) : (∃ v, W.cell? ⟨w1.heap.size, j, none⟩ = some v) ∧ W.frozen? ⟨w1.heap.size, j, none⟩ = false := by
  obtain ⟨cs, h1, h2⟩ := h.pl
  exact ⟨⟨_, (cell_of_row W _ j _ _ _ h2).trans (Array.getElem?_eq_getElem (by omega))⟩, frozen_of_row W _ j _ _ h2⟩
set_option maxRecDepth 10000 in
set_option maxHeartbeats 2000000 in
theorem part_yes (A : Option Addr) (n c : Nat) (ns : List NdV) (w : World) (hA : RulesAt w w.heap.size A ns) (hl : ns.length = n) (hok : RuleOK ns) :
    Calls Tryz.prog 88 #[.slice A n c, I 0] w fun e w' => (∃ v, e = .returned (.tuple #[v, I 0])) ∧ Below w.heap.size w w' := by
  have HA := Lib.hid hA
  have HL := Lib.hid hl
  have HOK := Lib.hid hok
  have h64 : n ≤ 64 := by rw [← hl]; exact hok.n64
  have h1 : 1 ≤ n := by rw [← hl]; exact hok.n1
  have HWF := Lib.hid (fun w' (hb : Below w.heap.size w w') => wellFormed_yes A n c ns w' ((hA.keep hb).more hb.size) hl (by rw [← hl]; exact hok.n1) h64 hok.nodes _ rfl (fun j hj => by have := hok.uses j (by rw [hl]; exact hj); rw [hl] at this; exact this))
  have hmk := make_ints n (by omega)
  have hmm := @run_makeMap Tryz.prog
  have HB0 := Lib.hid (below_var w (.cells #[.slice A n c] 27))
  have HR0 := Lib.hid (Row.new w #[.slice A n c] 27)
  have HH0 := Lib.hid (heap_alloc_last w (.cells #[.slice A n c] 27))
  have hq1 : ¬ (n : Int) ≤ 0 := by omega
  clear hA hl hok
  go_enter Tryz.func88, Tryz.ntmps88
  go_wp2_with fail
  refine (HWF.out _ HB0.out).mono ?_
  rintro e w1 ⟨rfl, hb1⟩
  have HB1 := Lib.hid (below_trans HB0.out hb1)
  have HR1 := Lib.hid (HR0.out.keep hb1)
  have HH1 := Lib.hid ((hb1.block _ (by simp)).trans HH0.out)
  have hr1 : w1.cell? ⟨w.heap.size, 0, none⟩ = some (.slice A n c) := HR1.out.2 0
  have hsz := HR1.out.1
  have hne : ¬ w.heap.size = w1.heap.size := by omega
  have hne1 : ¬ w.heap.size = w1.heap.size + 1 := by omega
  have hne2 : ¬ w.heap.size = w1.heap.size + 1 + 1 := by omega
  have hne3 : ¬ w.heap.size = w1.heap.size + 1 + 1 + 1 := by omega
  clear hb1 HWF HB0 HR0
  go_wp2_with fail
  obtain ⟨b, rfl, hbl⟩ : ∃ b, A = some ⟨b, 0, none⟩ ∧ b < w.heap.size := by
    rcases HA.out with h | ⟨b', h1, h2, _⟩
    · have := HL.out; omega
    · exact ⟨b', h1, h2⟩
  have HP0 := Lib.hid (PS.start (o2 := .cells #[.func (.func 119) #[] #[pt (w1.heap.size + 1 + 1 + 1), pt w.heap.size, pt (w1.heap.size + 1)]] 116) HB1.out hsz HH1.out)
  obtain ⟨b', x, he, hx, hm, hnd⟩ := one_nd (k := 0) HA.out HL.out HP0.out.lo (by omega)
  injection he with he
  injection he with he _ _
  subst he
  have hN := HOK.out.nodes 0 x hx
  have hk2 := hN.k2
  have hop : opn x.d.kind.toNat = 0 := by
    rcases hN.opl with ⟨_, h1, h2⟩ | ⟨h, _⟩
    · exact absurd h2 (by simp; omega)
    · exact h
  have HOP := Lib.hid hop
  refine (walk0 (w1.heap.size + 1 + 1 + 1) w.heap.size (w1.heap.size + 1) (w1.heap.size + 1 + 1) b n c x.d.kind.toNat _ (cell_of_row _ _ 0 _ _ _ HP0.out.kp) HP0.out.mp (cell_of_row _ _ 0 _ _ _ HP0.out.rp) h1 (by have := hnd.ra 0 _ rfl; rw [← hN.kind]; exact this) (by omega) hop (by omega) (by omega)).mono ?_
  rintro e w2 ⟨⟨v, rfl⟩, hwk⟩
  have HP2 := Lib.hid (HP0.out.walked hwk)
  have hr2 : w2.cell? ⟨w.heap.size, 0, none⟩ = some (.slice (some ⟨b, 0, none⟩) n c) := cell_of_row _ _ 0 _ _ _ HP2.out.rp
  have HX := Lib.hid hx
  clear hwk HP0 hmk hmm HR1 hr1 hne hne1 hne2 hne3 hN hnd hm hx hop hk2 HH1
  go_wp2_with fail
  go_loopw [7, 35] (fun o i wr => ∃ k : Nat, k ≤ n ∧ i = I k ∧ ((k = 0 ∧ o = .slice none 0 0) ∨ (1 ≤ k ∧ ∃ A c, o = .slice A 1 c)) ∧ PS w w1 b n c (.map oneMap 1) wr) (fun _ i _ => n - (intOf i).toNat)
  case atStart => exact ⟨0, by omega, rfl, .inl ⟨rfl, rfl⟩, HP2.out⟩
  case round =>
    obtain ⟨k, hk, rfl, hout, hps⟩ := hrel
    have HP := Lib.hid hps
    clear hps HP2 hr2
    by_cases hlt : (k : Int) < (n : Int)
    · have i0 : (0 : Int) ≤ (k : Int) := by omega
      have i1 : k < n := by omega
      obtain ⟨b', y, he, hy, hm, hnd⟩ := one_nd (k := k) HA.out HL.out HP.out.lo i1
      injection he with he
      injection he with he _ _
      subst he
      have hN := HOK.out.nodes k y hy
      obtain ⟨f0, f1, f2, f3, f4, f5, f6, f7⟩ := hnd.cells
      have HY := Lib.hid hy
      obtain ⟨⟨kind, cal, l, r, nn, m, list, name⟩, A', c'⟩ := y
      simp only at hN f0 f1 f2 f3 f4 f5 f6 f7
      obtain ⟨kd, hkd⟩ : ∃ kd, kind.toNat = kd := ⟨_, rfl⟩
      rw [hkd] at hN
      have hkk : kind = (kd : Int) := hN.kind
      subst hkk
      have hlen := hN.len
      have hk2 := hN.k2
      have HBV := Lib.hid (below_var wr (.cells #[I kd, I cal, I l, I r, I nn, I m, .slice A' list.length c', .string name] 85))
      have HPV := Lib.hid (HP.out.below HBV.out)
      have hbw := hnd.la
      have hs1 := HP.out.s1
      have hsz' := HP.out.sz
      have hne1 : ¬ b = wr.heap.size := by omega
      have hlk := run_look _ (w1.heap.size + 1 + 1) k HPV.out.mp
      have hkp : wr.cell? ⟨w1.heap.size + 1 + 1 + 1, 0, none⟩ = some (.map (some (w1.heap.size + 1 + 1))) := cell_of_row _ _ 0 _ _ _ HP.out.kp
      have hkv : (wr.alloc (.cells #[I kd, I cal, I l, I r, I nn, I m, .slice A' list.length c', .string name] 85)).cell? ⟨w1.heap.size + 1 + 1 + 1, 0, none⟩ = some (.map (some (w1.heap.size + 1 + 1))) := cell_of_row _ _ 0 _ _ _ HPV.out.kp
      have hne2 : ¬ w1.heap.size + 1 + 1 + 1 = wr.heap.size := by omega
      have hne3 : ¬ wr.heap.size = w1.heap.size + 1 + 1 + 1 := by omega
      have hne4 : ¬ w1.heap.size + 3 = wr.heap.size := by omega
      have HIA : Hid (IntsAt w w.heap.size A' list) := Lib.hid (rule_ints HA.out hy)
      clear hnd hm hy hkd hbw
      rcases hout with ⟨hk0, rfl⟩ | ⟨hk1, A2, c2, rfl⟩
      · have hkz : (k == 0) = true := by simp [hk0]
        rw [hkz] at hlk
        have HOP2 : Hid (opn kd = 0) := Lib.hid (by
          rcases hN.opl with ⟨_, h1, h2⟩ | ⟨h, _⟩
          · exact absurd h2 (by simp only; omega)
          · exact h)
        have hlen' : list.length ≤ 64 := hlen
        clear hN hlen hk0 hkz
        go_wp2_with fail
        refine (add_leaf kd cal l r nn m list name A' c' _ _ _ _ ((HIA.out.keep HPV.out.lo).more HPV.out.lo.size) hlen' (by omega) HOP2.out).mono ?_
        rintro e w5 ⟨A5, c5, rfl, hb5⟩
        have HP5 := Lib.hid (HPV.out.below hb5)
        obtain ⟨⟨v5, hv5⟩, hf5⟩ := HP5.out.place k i1
        have HP6 := Lib.hid (HP5.out.put k (I 0))
        clear hb5 hlk
        go_wp2_with fail
        go_roundw
        case rel => exact ⟨k + 1, by omega, by go_num, .inr ⟨by omega, _, _, rfl⟩, HP6.out⟩
        case measure => simp [intOf]; omega
      · have hkz : (k == 0) = false := by simp; omega
        rw [hkz] at hlk
        clear hN hlen hkz
        go_wp2_with fail
        go_roundw
        case rel => exact ⟨k + 1, by omega, by go_num, .inr ⟨by omega, _, _, rfl⟩, HPV.out⟩
        case measure => simp [intOf]; omega
    · go_wp2_with fail
      go_ret2
      exact ⟨⟨_, rfl⟩, HP.out.lo⟩
end Go.Proofs.YtenbgpcdoljkgaaGreatDoor

/- A rule that was made is as rule.Valid asks for (plain). -/
namespace Go.Proofs.YtenbgpcdoljkgaaGreatDoor
open Go Go.RowKit

def MvGood (m : Mv) : Prop := 0 ≤ m.day ∧ m.day ≤ 1099511627776 ∧ ((m.drop = true ∧ m.toDay = 0 ∧ m.minute = 0 ∧ m.length = 0) ∨ (m.drop = false ∧ 0 ≤ m.toDay ∧ m.toDay ≤ 1099511627776 ∧ 0 ≤ m.minute ∧ m.minute ≤ 1439 ∧ 1 ≤ m.length ∧ m.length ≤ 10080))
/-- A series whose other parts are sound. -/
structure SerGood (s : Ser) : Prop where
  mi : 0 ≤ s.minute ∧ s.minute ≤ 1439
  le : 1 ≤ s.length ∧ s.length ≤ 10080
  ga : 0 ≤ s.gap ∧ s.gap ≤ 2
  fo : 0 ≤ s.fold ∧ s.fold ≤ 2
  zo : 1 ≤ s.zone.size ∧ s.zone.size ≤ 32
  ml : s.moves.length ≤ 64
  mv : ∀ x ∈ s.moves, MvGood x
  up : s.moves.Pairwise fun a b => a.day < b.day
theorem Rising.upIn {a b lo hi : Int} {zs : List Int} (h : Rising a b zs) (h1 : lo ≤ a) (h2 : b ≤ hi) (h3 : lo < 0 → a < 0) : UpIn lo hi zs :=
  ⟨List.length_pos_iff.2 h.1, fun z hz => by have := h.2.2.2 z hz; omega, h.2.2.1, fun hl z hz => (h.2.2.2 z hz).2.2 (h3 hl)⟩
theorem Rising.len64 {a b : Int} {zs : List Int} (h : Rising a b zs) : zs.length ≤ 64 := by have := h.2.1; omega
theorem kindTo {d : Nd} {k : Nat} (h : d.kind = k) : d.kind.toNat = k := by omega
theorem numsOther {d : Nd} (k : Int) (hk : d.kind = k) (hne : k ≠ 1 ∧ k ≠ 2 ∧ k ≠ 7 ∧ k ≠ 11 ∧ k ≠ 12 ∧ k ≠ 13 ∧ k ≠ 16 ∧ k ≠ 17) (hn : d.n = 0) (hm : d.m = 0) : NumsOK d := by
  subst hk
  exact .inr (.inr (.inr (.inr (.inr (.inr (.inr ⟨hne.1, hne.2.1, hne.2.2.1, hne.2.2.2.1, hne.2.2.2.2.1, hne.2.2.2.2.2.1, hne.2.2.2.2.2.2.1, hne.2.2.2.2.2.2.2, hn, hm⟩))))))
set_option maxHeartbeats 1000000 in
theorem leaf_node (d : Nd) (h : LeafOK 3 d) : NodeOK 0 d.kind.toNat d := by
  obtain ⟨hr, h⟩ := h
  rcases h with ⟨hk, hc, hl, n1, n2, m1, m2, hL, hN⟩ | ⟨hk, c1, c2, hl, n1, n2, m1, m2, hL, hN⟩ | ⟨hk, c1, c2, hl, n1, m1, hL, hN⟩ | ⟨hk, c1, c2, hl, n1, m1, hL, hN⟩ | ⟨hk, hc, hl, n1, m1, hL, hN⟩ | ⟨hk, c1, c2, hl, n1, m1, hL, hN⟩ | ⟨hk, c1, c2, l1, l2, n1, m1, m2, hL, hN⟩ | ⟨hk, hc, hl, n1, m1, hL, k, k1, k2, hN⟩
  · rw [kindTo (k := 1) hk]
    exact ⟨hk, by decide, by decide, by rw [hL]; decide, .inr ⟨rfl, .inl hl⟩, .inr ⟨by decide, hr⟩, .inr ⟨rfl, hc⟩, .inr ⟨by decide, hN⟩, .inl ⟨rfl, rfl, hL⟩, .inl ⟨hk, by omega, by omega, by omega, by omega⟩⟩
  · rw [kindTo (k := 2) hk]
    exact ⟨hk, by decide, by decide, by rw [hL]; decide, .inr ⟨rfl, .inl hl⟩, .inr ⟨by decide, hr⟩, .inl ⟨rfl, by omega, by omega⟩, .inr ⟨by decide, hN⟩, .inl ⟨rfl, rfl, hL⟩, .inr (.inl ⟨hk, by omega, by omega, by omega, by omega⟩)⟩
  · rw [kindTo (k := 3) hk]
    exact ⟨hk, by decide, by decide, hL.len64, .inr ⟨rfl, .inl hl⟩, .inr ⟨by decide, hr⟩, .inl ⟨rfl, by omega, by omega⟩, .inr ⟨by decide, hN⟩, .inr ⟨.inl (by decide), hL.upIn (by decide) (by decide) (by decide)⟩, numsOther 3 hk (by decide) n1 m1⟩
  · rw [kindTo (k := 4) hk]
    exact ⟨hk, by decide, by decide, hL.len64, .inr ⟨rfl, .inl hl⟩, .inr ⟨by decide, hr⟩, .inl ⟨rfl, by omega, by omega⟩, .inr ⟨by decide, hN⟩, .inr ⟨.inl (by decide), hL.upIn (by decide) (by decide) (by decide)⟩, numsOther 4 hk (by decide) n1 m1⟩
  · rw [kindTo (k := 5) hk]
    exact ⟨hk, by decide, by decide, hL.len64, .inr ⟨rfl, .inl hl⟩, .inr ⟨by decide, hr⟩, .inr ⟨rfl, hc⟩, .inr ⟨by decide, hN⟩, .inr ⟨.inr (by decide), hL.upIn (by decide) (by decide) (by decide)⟩, numsOther 5 hk (by decide) n1 m1⟩
  · rw [kindTo (k := 6) hk]
    exact ⟨hk, by decide, by decide, hL.len64, .inr ⟨rfl, .inl hl⟩, .inr ⟨by decide, hr⟩, .inl ⟨rfl, by omega, by omega⟩, .inr ⟨by decide, hN⟩, .inr ⟨.inl (by decide), hL.upIn (by decide) (by decide) (by decide)⟩, numsOther 6 hk (by decide) n1 m1⟩
  · rw [kindTo (k := 7) hk]
    exact ⟨hk, by decide, by decide, by rw [hL]; decide, .inr ⟨rfl, .inr rfl⟩, .inr ⟨by decide, hr⟩, .inl ⟨rfl, by omega, by omega⟩, .inr ⟨by decide, hN⟩, .inl ⟨rfl, rfl, hL⟩, .inr (.inr (.inl ⟨hk, by omega, by omega, by omega, by omega, by omega, by omega, by omega⟩))⟩
  · rw [kindTo (k := 18) hk]
    exact ⟨hk, by decide, by decide, by rw [hL]; decide, .inr ⟨rfl, .inl hl⟩, .inr ⟨by decide, hr⟩, .inr ⟨rfl, hc⟩, .inl ⟨rfl, k, by omega, hN⟩, .inl ⟨rfl, rfl, hL⟩, numsOther 18 hk (by decide) n1 m1⟩
set_option maxHeartbeats 1000000 in
theorem one_node (d : Nd) (h : OneOK 3 d) (n : Nat) (hn : 1 ≤ n) : NodeOK n d.kind.toNat { d with l := (n : Int) - 1 } := by
  obtain ⟨hr, hN, h⟩ := h
  rcases h with ⟨hk, hc, n1, n2, m1, hL⟩ | ⟨hk | hk, hc, n1, n2, m1, hL⟩ | ⟨hk | hk, hc, n1, m1, hL⟩ | ⟨hk, c1, c2, n1, m1, m2, hL⟩
  · rw [kindTo (k := 11) hk]
    exact ⟨hk, by decide, by decide, by show d.list.length ≤ 64; rw [hL]; decide, .inl ⟨by decide, by show 0 ≤ (n : Int) - 1; omega, by show (n : Int) - 1 < n; omega⟩, .inr ⟨by decide, hr⟩, .inr ⟨rfl, hc⟩, .inr ⟨by decide, hN⟩, .inl ⟨rfl, rfl, hL⟩, .inr (.inr (.inr (.inl ⟨hk, by show -1099511627776 ≤ d.n; omega, by show d.n ≤ 1099511627776; omega, m1⟩)))⟩
  · rw [kindTo (k := 12) hk]
    exact ⟨hk, by decide, by decide, by show d.list.length ≤ 64; rw [hL]; decide, .inl ⟨by decide, by show 0 ≤ (n : Int) - 1; omega, by show (n : Int) - 1 < n; omega⟩, .inr ⟨by decide, hr⟩, .inr ⟨rfl, hc⟩, .inr ⟨by decide, hN⟩, .inl ⟨rfl, rfl, hL⟩, .inr (.inr (.inr (.inr (.inl ⟨.inl hk, by show 0 ≤ d.n; omega, by show d.n ≤ 1099511627776; omega, m1⟩))))⟩
  · rw [kindTo (k := 13) hk]
    exact ⟨hk, by decide, by decide, by show d.list.length ≤ 64; rw [hL]; decide, .inl ⟨by decide, by show 0 ≤ (n : Int) - 1; omega, by show (n : Int) - 1 < n; omega⟩, .inr ⟨by decide, hr⟩, .inr ⟨rfl, hc⟩, .inr ⟨by decide, hN⟩, .inl ⟨rfl, rfl, hL⟩, .inr (.inr (.inr (.inr (.inl ⟨.inr hk, by show 0 ≤ d.n; omega, by show d.n ≤ 1099511627776; omega, m1⟩))))⟩
  · rw [kindTo (k := 14) hk]
    exact ⟨hk, by decide, by decide, hL.len64, .inl ⟨by decide, by show 0 ≤ (n : Int) - 1; omega, by show (n : Int) - 1 < n; omega⟩, .inr ⟨by decide, hr⟩, .inr ⟨rfl, hc⟩, .inr ⟨by decide, hN⟩, .inr ⟨.inr (by decide), hL.upIn (by decide) (by decide) (by decide)⟩, numsOther (d := { d with l := (n : Int) - 1 }) 14 hk (by decide) n1 m1⟩
  · rw [kindTo (k := 15) hk]
    exact ⟨hk, by decide, by decide, hL.len64, .inl ⟨by decide, by show 0 ≤ (n : Int) - 1; omega, by show (n : Int) - 1 < n; omega⟩, .inr ⟨by decide, hr⟩, .inr ⟨rfl, hc⟩, .inr ⟨by decide, hN⟩, .inr ⟨.inr (by decide), hL.upIn (by decide) (by decide) (by decide)⟩, numsOther (d := { d with l := (n : Int) - 1 }) 15 hk (by decide) n1 m1⟩
  · rw [kindTo (k := 16) hk]
    exact ⟨hk, by decide, by decide, hL.len64, .inl ⟨by decide, by show 0 ≤ (n : Int) - 1; omega, by show (n : Int) - 1 < n; omega⟩, .inr ⟨by decide, hr⟩, .inl ⟨rfl, by show 0 ≤ d.cal; omega, by show d.cal ≤ 2; omega⟩, .inr ⟨by decide, hN⟩, .inr ⟨.inl (by decide), hL.upIn (by decide) (by decide) (by decide)⟩, .inr (.inr (.inr (.inr (.inr (.inl ⟨hk, n1, m1, by show d.m ≤ 1; omega⟩)))))⟩
theorem two_node (d : Nd) (h : TwoOK d) (n m : Nat) (hn : 1 ≤ n) (hm : 1 ≤ m) : NodeOK (n + m) d.kind.toNat { d with l := (n : Int) - 1, r := (n : Int) + m - 1 } := by
  obtain ⟨hc, m1, hL, hN, h⟩ := h
  have key : ∀ k : Nat, (k = 8 ∨ k = 9 ∨ k = 10 ∨ k = 17) → d.kind = k → NumsOK { d with l := (n : Int) - 1, r := (n : Int) + m - 1 } → NodeOK (n + m) d.kind.toNat { d with l := (n : Int) - 1, r := (n : Int) + m - 1 } := by
    intro k hk4 hk hnums
    rw [kindTo (k := k) hk]
    have o : 1 < opn k ∧ calB k = false ∧ shLo k = 0 ∧ shHi k = 0 := by rcases hk4 with rfl | rfl | rfl | rfl <;> exact ⟨by decide, rfl, rfl, rfl⟩
    exact ⟨hk, by omega, by omega, by show d.list.length ≤ 64; rw [hL]; decide, .inl ⟨by have := o.1; omega, by show 0 ≤ (n : Int) - 1; omega, by show (n : Int) - 1 < ((n + m : Nat) : Int); omega⟩, .inl ⟨o.1, by show 0 ≤ (n : Int) + m - 1; omega, by show (n : Int) + m - 1 < ((n + m : Nat) : Int); omega⟩, .inr ⟨o.2.1, hc⟩, .inr ⟨by omega, hN⟩, .inl ⟨o.2.2.1, o.2.2.2, hL⟩, hnums⟩
  rcases h with ⟨hk | hk | hk, n1⟩ | ⟨hk, n1, n2⟩
  · exact key 8 (by omega) hk (numsOther (d := { d with l := (n : Int) - 1, r := (n : Int) + m - 1 }) 8 hk (by decide) n1 m1)
  · exact key 9 (by omega) hk (numsOther (d := { d with l := (n : Int) - 1, r := (n : Int) + m - 1 }) 9 hk (by decide) n1 m1)
  · exact key 10 (by omega) hk (numsOther (d := { d with l := (n : Int) - 1, r := (n : Int) + m - 1 }) 10 hk (by decide) n1 m1)
  · exact key 17 (by omega) hk (.inr (.inr (.inr (.inr (.inr (.inr (.inl ⟨hk, n1, by show d.n ≤ 400; omega, m1⟩)))))))
theorem kinds18 {k : Nat} (h1 : 1 ≤ k) (h2 : k ≤ 18) : k = 1 ∨ k = 2 ∨ k = 3 ∨ k = 4 ∨ k = 5 ∨ k = 6 ∨ k = 7 ∨ k = 8 ∨ k = 9 ∨ k = 10 ∨ k = 11 ∨ k = 12 ∨ k = 13 ∨ k = 14 ∨ k = 15 ∨ k = 16 ∨ k = 17 ∨ k = 18 := by omega
theorem opB_opn {k : Nat} (h1 : 1 ≤ k) (h2 : k ≤ 18) : opB (k : Int) = decide (0 < opn k) ∧ twoB (k : Int) = decide (1 < opn k) := by
  rcases kinds18 h1 h2 with rfl | rfl | rfl | rfl | rfl | rfl | rfl | rfl | rfl | rfl | rfl | rfl | rfl | rfl | rfl | rfl | rfl | rfl <;> exact ⟨by decide, by decide⟩
/-- A node that is moved by b nodes is right b places later. -/
theorem moved_node (b i : Nat) (y : NdV) (h : NodeOK i y.d.kind.toNat y.d) : NodeOK (b + i) (mvd b y).d.kind.toNat (mvd b y).d := by
  obtain ⟨h1, h2, h3, h4, h5, h6, h7, h8, h9, h10⟩ := h
  obtain ⟨e1, e2⟩ := opB_opn h2 h3
  rw [← h1] at e1 e2
  have ek : (mvd b y).d.kind = y.d.kind := rfl
  rw [ek]
  refine ⟨h1, h2, h3, h4, ?_, ?_, h7, h8, h9, ?_⟩
  · rcases h5 with ⟨a, c, d⟩ | ⟨a, c⟩
    · left
      refine ⟨a, ?_, ?_⟩ <;> (show _; unfold mvd; dsimp only; rw [e1, decide_eq_true a, if_pos rfl]; omega)
    · right
      refine ⟨a, ?_⟩
      have hd : decide (0 < opn y.d.kind.toNat) = false := decide_eq_false (by omega)
      unfold mvd; dsimp only; rw [e1, hd]
      simpa using c
  · rcases h6 with ⟨a, c, d⟩ | ⟨a, c⟩
    · left
      refine ⟨a, ?_, ?_⟩ <;> (show _; unfold mvd; dsimp only; rw [e2, decide_eq_true a, if_pos rfl]; omega)
    · right
      refine ⟨a, ?_⟩
      have hd : decide (1 < opn y.d.kind.toNat) = false := decide_eq_false (by omega)
      unfold mvd; dsimp only; rw [e2, hd]
      simpa using c
  · unfold NumsOK mvd at *
    dsimp only at *
    rcases h10 with h | h | h | h | h | h | h | h
    · exact .inl h
    · exact .inr (.inl h)
    · refine .inr (.inr (.inl ⟨h.1, h.2.1, h.2.2.1, h.2.2.2.1, h.2.2.2.2.1, h.2.2.2.2.2.1, ?_⟩))
      have : opB y.d.kind = false := by rw [h.1]; decide
      rw [this]
      exact h.2.2.2.2.2.2
    · exact .inr (.inr (.inr (.inl h)))
    · exact .inr (.inr (.inr (.inr (.inl h))))
    · exact .inr (.inr (.inr (.inr (.inr (.inl h)))))
    · exact .inr (.inr (.inr (.inr (.inr (.inr (.inl h))))))
    · exact .inr (.inr (.inr (.inr (.inr (.inr (.inr h))))))
/-- How often a node names place j. -/
def refsTo (d : Nd) (j : Nat) : Int := (if 0 < opn d.kind.toNat ∧ d.l.toNat = j then 1 else 0) + (if 1 < opn d.kind.toNat ∧ d.r.toNat = j then 1 else 0)
def refSum (ds : List Nd) (j : Nat) : Int := (ds.map fun d => refsTo d j).sum
theorem refSum_app (xs ys : List Nd) (j : Nat) : refSum (xs ++ ys) j = refSum xs j + refSum ys j := by unfold refSum; rw [List.map_append, List.sum_append]
theorem refSum_one (d : Nd) (j : Nat) : refSum [d] j = refsTo d j := by unfold refSum; simp
theorem bump_get (us : List Int) (i j : Nat) (hj : j < us.length) : (bump us i)[j]? = some (us[j]?.getD 0 + if i = j then 1 else 0) := by
  unfold bump
  by_cases h : i = j
  · subst h
    rw [List.getElem?_set_self hj, if_pos rfl]
  · rw [List.getElem?_set_ne h, if_neg h, List.getElem?_eq_getElem hj]
    simp
theorem bump_len (us : List Int) (i : Nat) : (bump us i).length = us.length := by unfold bump; simp
theorem use0_get (d : Nd) (us : List Int) (j : Nat) (hj : j < us.length) : (use0 d us)[j]? = some (us[j]?.getD 0 + if 0 < opn d.kind.toNat ∧ d.l.toNat = j then 1 else 0) := by
  unfold use0
  split
  · rename_i h
    rw [bump_get us _ j hj]
    simp [h]
  · rename_i h
    rw [List.getElem?_eq_getElem hj]
    simp [h]
theorem use0_len (d : Nd) (us : List Int) : (use0 d us).length = us.length := by unfold use0; split; exact bump_len _ _; rfl
theorem use1_get (d : Nd) (us : List Int) (j : Nat) (hj : j < us.length) : (use1 d us)[j]? = some (us[j]?.getD 0 + if 1 < opn d.kind.toNat ∧ d.r.toNat = j then 1 else 0) := by
  unfold use1
  split
  · rename_i h
    rw [bump_get us _ j hj]
    simp [h]
  · rename_i h
    rw [List.getElem?_eq_getElem hj]
    simp [h]
theorem usesTo_sum (ds : List Nd) (n j : Nat) (hj : j < n) (i : Nat) (hi : i ≤ ds.length) : (usesTo ds n i)[j]? = some (refSum (ds.take i) j) := by
  induction i with
  | zero => unfold usesTo refSum; simp [hj]
  | succ i ih =>
    have h := ih (by omega)
    have hx : ds[i]? = some ds[i] := List.getElem?_eq_getElem (by omega)
    have hl : j < (usesTo ds n i).length := by rw [usesTo_len]; exact hj
    rw [usesTo_succ hx, use1_get _ _ _ (by rw [use0_len]; exact hl), use0_get _ _ _ hl, h, List.take_add_one, hx, refSum_app]
    simp only [Option.getD_some, Option.toList_some, refSum_one]
    unfold refsTo
    congr 1
    omega
theorem refsTo_mv (b i : Nat) (y : NdV) (h : NodeOK i y.d.kind.toNat y.d) (j : Nat) : refsTo (mvd b y).d j = if b ≤ j then refsTo y.d (j - b) else 0 := by
  obtain ⟨h1, h2, h3, _, h5, h6, _⟩ := h
  obtain ⟨e1, e2⟩ := opB_opn h2 h3
  rw [← h1] at e1 e2
  have ek : (mvd b y).d.kind = y.d.kind := rfl
  unfold refsTo
  rw [ek]
  have el : (mvd b y).d.l = if opB y.d.kind = true then y.d.l + b else y.d.l := rfl
  have er : (mvd b y).d.r = if twoB y.d.kind = true then y.d.r + b else y.d.r := rfl
  rw [el, er, e1, e2]
  by_cases a : 0 < opn y.d.kind.toNat
  · by_cases c : 1 < opn y.d.kind.toNat
    · have q1 : 0 ≤ y.d.l := by rcases h5 with h | h <;> omega
      have q2 : 0 ≤ y.d.r := by rcases h6 with h | h <;> omega
      simp only [a, c, decide_true, if_true, true_and]
      split <;> split <;> split <;> (try split) <;> (try split) <;> omega
    · have q1 : 0 ≤ y.d.l := by rcases h5 with h | h <;> omega
      simp only [a, c, decide_true, if_true, true_and, false_and, if_false]
      split <;> split <;> (try split) <;> omega
  · have c : ¬ 1 < opn y.d.kind.toNat := by omega
    simp only [a, c, false_and, if_false]
    split <;> rfl
theorem refSum_mv (b : Nat) (ms : List NdV) (h : ∀ y ∈ ms, ∃ i, NodeOK i y.d.kind.toNat y.d) (j : Nat) : refSum ((movedN b ms).map (·.d)) j = if b ≤ j then refSum (ms.map (·.d)) (j - b) else 0 := by
  induction ms with
  | nil => unfold refSum movedN; simp
  | cons y ms ih =>
    have ih := ih fun z hz => h z (List.mem_cons_of_mem _ hz)
    obtain ⟨i, hy⟩ := h y List.mem_cons_self
    have e := refsTo_mv b i y hy j
    unfold movedN at ih ⊢
    unfold refSum at ih ⊢
    simp only [List.map_cons, List.sum_cons] at ih ⊢
    rw [ih, e]
    split <;> rfl
/-- The rules that a maker makes are well-formed. -/
theorem MRule.good {ns : List NdV} (h : MRule 3 ns) : 1 ≤ ns.length ∧ (∀ i x, ns[i]? = some x → NodeOK i x.d.kind.toNat x.d) ∧ ∀ j, refSum (ns.map (·.d)) j = if j + 1 < ns.length then 1 else 0 := by
  induction h with
  | leaf x h =>
    have hn := leaf_node x.d h
    refine ⟨by simp, fun i y hy => ?_, fun j => ?_⟩
    · cases i with
      | zero => simp at hy; subst hy; exact hn
      | succ i => simp at hy
    · rw [List.map_singleton, refSum_one]
      have ho : opn x.d.kind.toNat = 0 := by
        rcases hn.opl with ⟨_, a, b⟩ | h
        · omega
        · exact h.1
      unfold refsTo
      rw [ho]
      simp
  | one ns x _ h ih =>
    obtain ⟨i1, i2, i3⟩ := ih
    have hn := one_node x.d h ns.length i1
    refine ⟨by unfold overN; simp, fun i y hy => ?_, fun j => ?_⟩
    · unfold overN at hy
      by_cases hi : i < ns.length
      · rw [List.getElem?_append_left hi] at hy
        exact i2 i y hy
      · rw [List.getElem?_append_right (by omega)] at hy
        have : i - ns.length = 0 := by
          rcases Nat.eq_zero_or_pos (i - ns.length) with h | h
          · exact h
          · rw [List.getElem?_eq_none (by simp; omega)] at hy; cases hy
        rw [this] at hy
        simp at hy
        subst hy
        have e : i = ns.length := by omega
        rw [e]
        exact hn
    · unfold overN
      rw [List.map_append, refSum_app, i3 j, List.map_singleton, refSum_one, List.length_append]
      have o : opn x.d.kind.toNat = 1 := by
        rcases h.2.2 with h | h | h | h
        · rw [kindTo (k := 11) h.1]; rfl
        · rcases h.1 with h | h
          · rw [kindTo (k := 12) h]; rfl
          · rw [kindTo (k := 13) h]; rfl
        · rcases h.1 with h | h
          · rw [kindTo (k := 14) h]; rfl
          · rw [kindTo (k := 15) h]; rfl
        · rw [kindTo (k := 16) h.1]; rfl
      unfold refsTo
      dsimp only
      rw [o]
      simp only [List.length_singleton]
      split <;> split <;> split <;> (try split) <;> omega
  | two ns ms x _ _ h ih1 ih2 =>
    obtain ⟨i1, i2, i3⟩ := ih1
    obtain ⟨m1, m2, m3⟩ := ih2
    have hn := two_node x.d h ns.length ms.length i1 m1
    have hm : ∀ y ∈ ms, ∃ i, NodeOK i y.d.kind.toNat y.d := fun y hy => by
      obtain ⟨i, hi⟩ := List.mem_iff_getElem?.1 hy
      exact ⟨i, m2 i y hi⟩
    refine ⟨by unfold bothN; simp; omega, fun i y hy => ?_, fun j => ?_⟩
    · unfold bothN at hy
      by_cases hi : i < ns.length
      · rw [List.append_assoc, List.getElem?_append_left hi] at hy
        exact i2 i y hy
      · by_cases hj : i < ns.length + ms.length
        · rw [List.append_assoc, List.getElem?_append_right (by omega), List.getElem?_append_left (by unfold movedN; rw [List.length_map]; omega)] at hy
          unfold movedN at hy
          rw [List.getElem?_map] at hy
          obtain ⟨z, hz, rfl⟩ := Option.map_eq_some_iff.1 hy
          have := moved_node ns.length (i - ns.length) z (m2 _ z hz)
          rw [show ns.length + (i - ns.length) = i by omega] at this
          exact this
        · have e : (ns ++ movedN ns.length ms).length = ns.length + ms.length := by unfold movedN; simp
          rw [List.getElem?_append_right (by omega), e] at hy
          have : i - (ns.length + ms.length) = 0 := by
            rcases Nat.eq_zero_or_pos (i - (ns.length + ms.length)) with h | h
            · exact h
            · rw [List.getElem?_eq_none (by simp; omega)] at hy; cases hy
          rw [this] at hy
          simp at hy
          subst hy
          have e : i = ns.length + ms.length := by omega
          rw [e]
          exact hn
    · unfold bothN
      have o : opn x.d.kind.toNat = 2 := by
        rcases h.2.2.2.2 with ⟨h | h | h, _⟩ | ⟨h, _⟩
        · rw [kindTo (k := 8) h]; rfl
        · rw [kindTo (k := 9) h]; rfl
        · rw [kindTo (k := 10) h]; rfl
        · rw [kindTo (k := 17) h]; rfl
      rw [List.map_append, List.map_append, refSum_app, refSum_app, i3 j, refSum_mv _ _ hm, m3, List.map_singleton, refSum_one, List.length_append, List.length_append]
      have e : (movedN ns.length ms).length = ms.length := by unfold movedN; simp
      rw [e]
      unfold refsTo
      dsimp only
      rw [o]
      simp only [List.length_singleton]
      by_cases c1 : j + 1 < ns.length
      · rw [if_pos c1, if_neg (by omega), if_neg (by omega), if_neg (by omega), if_pos (by omega)]; rfl
      · by_cases c2 : j + 1 = ns.length
        · rw [if_neg c1, if_neg (by omega), if_pos (by omega), if_neg (by omega), if_pos (by omega)]; rfl
        · by_cases c3 : j + 1 < ns.length + ms.length
          · rw [if_neg c1, if_pos (by omega), if_pos (by omega), if_neg (by omega), if_neg (by omega), if_pos (by omega)]; rfl
          · by_cases c4 : j + 1 = ns.length + ms.length
            · rw [if_neg c1, if_pos (by omega), if_neg (by omega), if_neg (by omega), if_pos (by omega), if_pos (by omega)]; rfl
            · rw [if_neg c1, if_pos (by omega), if_neg (by omega), if_neg (by omega), if_neg (by omega), if_neg (by omega)]; rfl
theorem MRule.ruleOK {ns : List NdV} (h : MRule 3 ns) (hl : ns.length ≤ 16) : RuleOK ns := by
  obtain ⟨h1, h2, h3⟩ := h.good
  refine ⟨h1, by omega, h2, fun j hj => ?_⟩
  rw [usesTo_sum _ _ _ (by omega) _ (by simp), List.take_of_length_le (by simp), h3 j, if_pos hj]
end Go.Proofs.YtenbgpcdoljkgaaGreatDoor

/- (*series.reader).bytes where the bytes are there. -/
namespace Go.Proofs.YtenbgpcdoljkgaaGreatDoor
open Go Go.RowKit

/-- The series' reader at block rb: the bytes that are left. -/
def SRd (w : World) (rb : Nat) (rest : List UInt8) : Prop :=
  ∃ bb off c, w.heap[rb]? = some (.cells #[.slice (some ⟨bb, off, none⟩) rest.length c] 188 (0, 0)) ∧ rest.length ≤ c ∧ c ≤ 9223372036854775807 ∧ bb < rb ∧ ∀ j, j < rest.length → w.cell? ⟨bb, off + j, none⟩ = some (Extern.Stop.cell (rest[j]?.getD 0))
theorem SRd.lt {w : World} {rb : Nat} {rest : List UInt8} (h : SRd w rb rest) : rb < w.heap.size := by
  obtain ⟨bb, off, c, h1, _⟩ := h
  exact (Array.getElem?_eq_some_iff.1 h1).1
theorem SRd.below {M : Nat} {w w' : World} {rb : Nat} {rest : List UInt8} (h : SRd w rb rest) (hb : Below M w w') (hM : rb < M) : SRd w' rb rest := by
  obtain ⟨bb, off, c, h1, h2, h3, h4, h5⟩ := h
  exact ⟨bb, off, c, (hb.block rb hM).trans h1, h2, h3, h4, fun j hj => (World.cell?_of_block (a := ⟨bb, off + j, none⟩) (hb.block bb (by omega))).trans (h5 j hj)⟩
def GotB (w : World) (rb n : Nat) (rest : List UInt8) (e : Ending) (w' : World) : Prop :=
  ∃ bb off c, e = .returned (.slice (some ⟨bb, off, none⟩) n c) ∧ n ≤ c ∧ c ≤ 9223372036854775807 ∧ BytesAt w' rb (some ⟨bb, off, none⟩) (rest.take n) ∧ SRd w' rb (rest.drop n) ∧ MKeep rb w w'
def GotBytes (w : World) (rb n : Nat) (rest : List UInt8) (e : Ending) (w' : World) : Prop :=
  ∃ A c, e = .returned (.slice A n c) ∧ n ≤ c ∧ c ≤ 9223372036854775807 ∧ BytesAt w' rb A (rest.take n) ∧ SRd w' rb (rest.drop n) ∧ MKeep rb w w'
theorem rd_set {w : World} {rb bb off' c' n : Nat} {rest : List UInt8} {v : Value} (_hl : n ≤ rest.length) (h1 : w.heap[rb]? = some (.cells #[v] 188 (0, 0))) (h2 : rest.length - n ≤ c') (h3 : c' ≤ 9223372036854775807) (h4 : bb < rb)
    (h5 : ∀ j, j < (rest.drop n).length → w.cell? ⟨bb, off' + j, none⟩ = some (Extern.Stop.cell ((rest.drop n)[j]?.getD 0))) :
    SRd (w.setCell ⟨rb, 0, none⟩ (.slice (some ⟨bb, off', none⟩) (rest.length - n) c')) rb (rest.drop n) ∧ MKeep rb w (w.setCell ⟨rb, 0, none⟩ (.slice (some ⟨bb, off', none⟩) (rest.length - n) c')) := by
  have hd : (rest.drop n).length = rest.length - n := List.length_drop
  refine ⟨⟨bb, off', c', ?_, by omega, h3, h4, fun j hj => ?_⟩, ⟨rfl, rfl, rfl, by simp [World.setCell], fun k _ hk => heap_setCell_other w ⟨rb, 0, none⟩ k _ hk⟩⟩
  · rw [heap_setCell_same w rb 0 _ _ _ h1, hd]; rfl
  · exact (World.cell?_of_block (a := ⟨bb, off' + j, none⟩) (heap_setCell_other w ⟨rb, 0, none⟩ bb _ (by show bb ≠ rb; omega))).trans (h5 j hj)
set_option maxRecDepth 10000 in
set_option maxHeartbeats 1000000 in
theorem rbytes_some (w : World) (rb n : Nat) (rest : List UInt8) (hr : SRd w rb rest) (hn : n ≤ rest.length) :
    Calls Tryz.prog 134 #[.pointer (some ⟨rb, 0, none⟩), I n] w (GotB w rb n rest) := by
  obtain ⟨bb, off, c, h1, h2, h3, h4, h5⟩ := hr
  have hc0 : w.cell? ⟨rb, 0, none⟩ = some (.slice (some ⟨bb, off, none⟩) rest.length c) := cell_of_row w rb 0 _ _ _ h1
  have hf0 := frozen_of_row w rb 0 _ _ h1
  have n0 : ¬ (n : Int) < 0 := by omega
  obtain ⟨m, hm⟩ : ∃ m, rest.length = m := ⟨_, rfl⟩
  have HM := Lib.hid hm
  have HT : Hid (BytesAt w rb (some ⟨bb, off, none⟩) (rest.take n)) := Lib.hid (by
    by_cases h0 : n = 0
    · exact .inl (by rw [h0]; simp)
    · refine .inr ⟨bb, off, rfl, h4, fun j hj => ?_⟩
      rw [List.length_take] at hj
      rw [h5 j (by omega), List.getElem?_take_of_lt (by omega)])
  have H5 := Lib.hid h5
  have H1 := Lib.hid h1
  rw [hm] at hc0 hn h2
  clear h1 h5 hm
  have n1 : ¬ (m : Int) < (n : Int) := by omega
  by_cases hcn : c = n
  · have hmn : m = n := by omega
    subst hmn
    subst hcn
    have hS := rd_set (off' := off) (c' := 0) (v := .slice (some ⟨bb, off, none⟩) rest.length c) (by rw [HM.out]; exact Nat.le_refl c : c ≤ rest.length) H1.out (by rw [HM.out]; omega) (by omega) h4 (fun j hj => by rw [List.length_drop, HM.out] at hj; omega)
    rw [HM.out, Nat.sub_self] at hS
    have HSS := Lib.hid hS
    have HT2 : Hid (BytesAt (w.setCell ⟨rb, 0, none⟩ (.slice (some ⟨bb, off, none⟩) 0 0)) rb (some ⟨bb, off, none⟩) (rest.take c)) := Lib.hid (HT.out.keep ((Below.refl rb w).setCell (p := ⟨rb, 0, none⟩) (Nat.le_refl _) _))
    clear hS
    go_enter Tryz.func134, Tryz.ntmps134
    go_wp2
    go_ret
    exact ⟨_, _, _, rfl, Nat.le_refl _, h3, HT2.out, HSS.out.1, HSS.out.2⟩
  · have hcn2 : ¬ n = c := fun h => hcn h.symm
    have hS := rd_set (off' := off + n) (c' := c - n) (v := .slice (some ⟨bb, off, none⟩) rest.length c) (by rw [HM.out]; exact hn : n ≤ rest.length) H1.out (by rw [HM.out]; omega) (by omega) h4 (fun j hj => by
      rw [List.length_drop, HM.out] at hj
      rw [Nat.add_assoc, H5.out (n + j) (by rw [HM.out]; omega), List.getElem?_drop])
    rw [HM.out] at hS
    have HSS := Lib.hid hS
    have HT2 : Hid (BytesAt (w.setCell ⟨rb, 0, none⟩ (.slice (some ⟨bb, off + n, none⟩) (m - n) (c - n))) rb (some ⟨bb, off, none⟩) (rest.take n)) := Lib.hid (HT.out.keep ((Below.refl rb w).setCell (p := ⟨rb, 0, none⟩) (Nat.le_refl _) _))
    clear hS
    go_enter Tryz.func134, Tryz.ntmps134
    go_wp2
    go_ret
    exact ⟨_, _, _, rfl, by omega, h3, HT2.out, HSS.out.1, HSS.out.2⟩
theorem rbytes_yes (w : World) (rb n : Nat) (rest : List UInt8) (hr : SRd w rb rest) (hn : n ≤ rest.length) :
    Calls Tryz.prog 134 #[.pointer (some ⟨rb, 0, none⟩), I n] w (GotBytes w rb n rest) :=
  (rbytes_some w rb n rest hr hn).mono fun _ _ ⟨bb, off, c, h⟩ => ⟨some ⟨bb, off, none⟩, c, h⟩
end Go.Proofs.YtenbgpcdoljkgaaGreatDoor

/- (*series.reader).number: eight bytes. -/
namespace Go.Proofs.YtenbgpcdoljkgaaGreatDoor
open Go Go.RowKit Go.Shelf
attribute [local go_sem] Oper.semAt_some

/-- n<<8 | uint64(c), as the program reckons it. -/
def ustep (s : Int) (c : UInt8) : Int := bits BinOp.or IntKind.u64 (IntKind.u64.wrap (s * 256)) c.toNat
def unleU (l : List (Nat × UInt8)) : Int := l.foldl (fun s x => ustep s x.2) 0
theorem unleU_snoc (pre : List (Nat × UInt8)) (x : Nat × UInt8) : unleU (pre ++ [x]) = ustep (unleU pre) x.2 := by simp [unleU]
/-- The number of eight bytes. -/
def num8 (bs : List UInt8) : Int := wrap64 (unleU (upto (bk bs) bs.length))
def SNumGot (w : World) (rb : Nat) (rest : List UInt8) (e : Ending) (w' : World) : Prop :=
  e = .returned (I (num8 (rest.take 8))) ∧ SRd w' rb (rest.drop 8) ∧ MKeep rb w w'
theorem mkeep_mix {rb : Nat} {w w1 w2 W : World} (h0 : Below w.heap.size w w1) (hk : MKeep rb w1 w2) (h2 : Below w.heap.size w2 W) : MKeep rb w W :=
  ⟨h2.os.trans (hk.os.trans h0.os), h2.tape.trans (hk.tape.trans h0.tape), h2.output.trans (hk.output.trans h0.output), Nat.le_trans h0.size (Nat.le_trans hk.size h2.size),
   fun k hb h3 => (h2.block k hb).trans ((hk.block k (Nat.lt_of_lt_of_le hb h0.size) h3).trans (h0.block k hb))⟩
set_option maxRecDepth 100000 in
set_option maxHeartbeats 2000000 in
theorem snumber_yes (w : World) (rb : Nat) (rest : List UInt8) (hr : SRd w rb rest) (h8 : 8 ≤ rest.length) :
    Calls Tryz.prog 133 #[pt rb] w (SNumGot w rb rest) := by
  refine (callsIn_wide (n := 3)).1 ?_
  have hro : Fence.wide.round = none := rfl
  have h1 : 1 ≤ 3 := by omega
  have hlt := hr.lt
  have hB0 : Below w.heap.size w (w.alloc (.cells #[.int .u64 0] 153)) := (Below.refl _ w).alloc (Nat.le_refl _) _
  have hr1 : SRd (w.alloc (.cells #[.int .u64 0] 153)) rb rest := hr.below hB0 hlt
  have bS := Boxed.new w 153 (.int .u64 0)
  have HT0 := rbytes_yes (w.alloc (.cells #[.int .u64 0] 153)) rb 8 rest hr1 h8
  obtain ⟨bs, hbs⟩ : ∃ bs, rest.take 8 = bs := ⟨_, rfl⟩
  have HL := Lib.hid (show bs.length = 8 from by rw [← hbs, List.length_take]; omega)
  unfold GotBytes at HT0
  rw [hbs] at HT0
  have HBS2 := Lib.hid hbs
  have HT := Lib.hid HT0
  have HB0 := Lib.hid hB0
  have HBS := Lib.hid bS
  clear hr hr1 hB0 bS HT0 hbs
  refine callsIn_of_wp_marks Tryz.func133 rfl trivial ?_ hro
  simp only [Tryz.ntmps133, List.size_toArray, List.length_cons, List.length_nil, Nat.reduceAdd, Nat.reduceSub, Array.replicate_succ, Array.replicate_zero, List.push_toArray, List.append_toArray, List.nil_append, List.cons_append]
  gi_wp2_with first
    | (refine ⟨trivial, ?_⟩; gi_at_call 134; refine (callsIn_wide.2 HT.out).mono ?_; rintro e w2 ⟨A, c, rfl, hcl, hcc, hby, hrs, hk⟩; have HBY := Lib.hid hby; have HRS := Lib.hid hrs; have HK := Lib.hid hk; clear hby hrs hk)
    | (refine ⟨trivial, ?_⟩; gi_at_call 86; refine (back_in Fence.wide 2 trivial hro _ _ _ _).mono ?_; rintro e w' ⟨rfl, rfl⟩)
  have hw2 : w.heap.size < w2.heap.size := Nat.lt_of_lt_of_le (by simp) HK.out.size
  have bS2 : Boxed w2 w.heap.size 153 (.int .u64 0) := (HK.out.block w.heap.size (by simp) (by omega)).trans HBS.out
  have hB1 : Below w.heap.size w2 (w2.alloc (.cells #[.slice A 8 c] 38)) := ((Below.refl _ w2).alloc (Nat.le_refl _) _).mono (by omega)
  have hby1 : BytesAt (w2.alloc (.cells #[.slice A 8 c] 38)) w.heap.size A bs := (HBY.out.more (by omega)).keep hB1
  have bN := Boxed.new w2 38 (.slice A 8 c)
  have hcl2 : (w2.alloc (.cells #[.slice A 8 c] 38)).cell? ⟨w2.heap.size, 0, none⟩ = some (.slice A 8 c) := bN.cell
  have hst := back_stops Fence.wide (3 - 1) trivial hro (by omega) w2.heap.size w.heap.size A c bs (by have := HL.out; omega) (w2.alloc (.cells #[.slice A 8 c] 38)) (by simp) (by simp; omega) (by rw [HL.out]; exact hcl2) hby1
  refine wpIn_rangeFunc_ownG hro h1 (gf := 110) (lb := #[.pointer (some ⟨w2.heap.size, 0, none⟩)]) rfl trivial (enters_of Tryz.func110 (by kernel_rfl) rfl)
    hst (fun h k => h.trans k) (bk_b (by simp; omega) (by simp)) (Below.refl _ _) (fun _ => rfl)
    (fun pre W => Boxed W w.heap.size 153 (.int .u64 (unleU pre)) ∧ Below w.heap.size w2 W)
    (fun _ _ _ => False)
    (OwnFrom.and (Own.from (boxed_own _ _ _) _) (ownFrom_below (by omega) (by simp; omega)))
    (fun _ _ _ _ _ hs _ _ => hs)
    ⟨bS2.alloc _, hB1⟩
    (fun x => { tmps := #[pt rb, undef, .int .i64 0, .pointer (some ⟨w.heap.size, 0, none⟩), undef, Extern.Stop.cell x.2, pt rb, .slice A 8 c, .func (.func 110) #[] #[.pointer (some ⟨w2.heap.size, 0, none⟩)], .int .i64 (x.1 : Int), Extern.Stop.cell x.2, undef, undef, undef, undef, undef, undef, undef], defers := [] }) ?assign ?body ?done ?stop
  case assign =>
    intro l x W K hK
    gi_wp2
    exact hK
  case body =>
    rintro l pre ⟨xi, xc⟩ W ⟨hbx, hB⟩ _
    have hc := hbx.cell
    have hx1 : (xc.toNat : Int) < 256 := by have := xc.toNat_lt; omega
    have hx2 : (0 : Int) ≤ xc.toNat := by omega
    simp only [Extern.Stop.cell]
    have hf := hbx.frozen
    gi_wp2
    exact ⟨(KeepsOthers.setCell _ _ _).from _, ⟨(Below.refl w.heap.size W).setCell (p := ⟨w.heap.size, 0, none⟩) (Nat.le_refl _) _, World.cell?_setCell_other _ _ _ _ (by intro e; have := congrArg Addr.block e; simp only at this; omega)⟩, by rw [unleU_snoc]; exact hbx.set _, hB.setCell (p := ⟨w.heap.size, 0, none⟩) (Nat.le_refl _) _⟩
  case done =>
    rintro D ys W hD rfl ⟨hbx, hB⟩ hK
    have hc := hbx.cell
    gi_wp2
    refine ⟨by simp, .inl ⟨_, _, rfl, run_takeDeferred hK, ?_⟩⟩
    refine ⟨_, results_tmp rfl _ _ _, ?_⟩
    have hB2 := hB.trans (belowK_b (w := w2) (n₀ := w.heap.size) (by omega) W D _ (.deferred none) (by simp at hD; omega) hK rfl rfl)
    unfold SNumGot num8
    rw [HBS2.out]
    exact ⟨rfl, HRS.out.below hB2 hlt, mkeep_mix HB0.out HK.out hB2⟩
  case stop =>
    rintro D c pre W _ _ h _
    exact h.elim
end Go.Proofs.YtenbgpcdoljkgaaGreatDoor

/- Numbers written and read again (plain). -/
namespace Go.Proofs.YtenbgpcdoljkgaaGreatDoor
open Go Go.RowKit

def hvs (s : Int) (l : List (Nat × UInt8)) : Int := l.foldl (fun s x => s * 256 + (x.2.toNat : Int)) s
set_option maxRecDepth 10000 in
theorem or_mul (a b : Nat) (h : a < 256) : (b * 256) ||| a = b * 256 + a := by
  rw [show b * 256 = b <<< 8 from by rw [Nat.shiftLeft_eq], Nat.shiftLeft_add_eq_or_of_lt (by omega)]
set_option maxRecDepth 10000 in
theorem ustep_mod (s : Int) (c : UInt8) : ustep s c = (s * 256 + (c.toNat : Int)) % 18446744073709551616 := by
  unfold ustep
  have hc := c.toNat_lt
  obtain ⟨b, hb⟩ : ∃ b : Nat, IntKind.u64.wrap (s * 256) = ((b * 256 : Nat) : Int) := by
    rw [show IntKind.u64.wrap (s * 256) = (s * 256) % 18446744073709551616 by simp [IntKind.wrap, IntKind.bits, IntKind.signed]]
    exact ⟨((s * 256) % 18446744073709551616 / 256).toNat, by omega⟩
  have hw : ((b * 256 : Nat) : Int) = (s * 256) % 18446744073709551616 := by rw [← hb]; simp [IntKind.wrap, IntKind.bits, IntKind.signed]
  rw [hb, u64_or_nat _ _ (by omega) (by omega), or_mul _ _ (by omega)]
  omega
set_option maxRecDepth 10000 in
theorem rstep_wrap (s : Int) (c : UInt8) : rstep s c = wrap64 (s * 256 + (c.toNat : Int)) := by
  have hc := c.toNat_lt
  have h1 := ustep_mod s c
  unfold ustep at h1
  have key : ∀ x y : Int, bits BinOp.or IntKind.i64 (wrap64 x) y = wrap64 (bits BinOp.or IntKind.u64 (IntKind.u64.wrap x) y) := by
    intro x y
    have e : BitVec.ofInt 64 (wrap64 x) = BitVec.ofInt 64 (IntKind.u64.wrap x) := by
      apply BitVec.eq_of_toInt_eq
      rw [BitVec.toInt_ofInt, BitVec.toInt_ofInt, show IntKind.u64.wrap x = x % 18446744073709551616 by simp [IntKind.wrap, IntKind.bits, IntKind.signed]]
      unfold wrap64
      simp only [Int.bmod]
      omega
    show IntKind.i64.wrap ((BitVec.ofInt 64 (wrap64 x) ||| BitVec.ofInt 64 y).toNat : Int) = wrap64 (IntKind.u64.wrap ((BitVec.ofInt 64 (IntKind.u64.wrap x) ||| BitVec.ofInt 64 y).toNat : Int))
    rw [e]
    have hb := (BitVec.ofInt 64 (IntKind.u64.wrap x) ||| BitVec.ofInt 64 y).isLt
    obtain ⟨n, hn⟩ : ∃ n, (BitVec.ofInt 64 (IntKind.u64.wrap x) ||| BitVec.ofInt 64 y).toNat = n := ⟨_, rfl⟩
    rw [hn] at hb ⊢
    rw [IntKind.wrap_i64, show IntKind.u64.wrap (n : Int) = (n : Int) % 18446744073709551616 by simp [IntKind.wrap, IntKind.bits, IntKind.signed]]
    unfold wrap64
    omega
  unfold rstep
  rw [key, h1]
  unfold wrap64
  omega
set_option maxRecDepth 10000 in
theorem foldU (l : List (Nat × UInt8)) : ∀ s t : Int, s = t % 18446744073709551616 → l.foldl (fun s x => ustep s x.2) s = hvs t l % 18446744073709551616 := by
  induction l with
  | nil => intro s t h; exact h
  | cons x l ih =>
    intro s t h
    rw [List.foldl_cons]
    refine ih _ (t * 256 + (x.2.toNat : Int)) ?_
    rw [ustep_mod]
    omega
set_option maxRecDepth 10000 in
theorem foldR (l : List (Nat × UInt8)) : ∀ s t : Int, s = wrap64 t → l.foldl (fun s x => rstep s x.2) s = wrap64 (hvs t l) := by
  induction l with
  | nil => intro s t h; exact h
  | cons x l ih =>
    intro s t h
    rw [List.foldl_cons]
    refine ih _ (t * 256 + (x.2.toNat : Int)) ?_
    rw [rstep_wrap]
    unfold wrap64 at *
    omega
set_option maxRecDepth 10000 in
theorem byteOf_nat (n : Int) : ((byteOf n).toNat : Int) = n % 256 := by
  have h := byteOf_cell n
  unfold Extern.Stop.cell at h
  injection h
set_option maxRecDepth 10000 in
theorem hvs8 (x : Int) (hx : fits x) : wrap64 (hvs 0 (upto (bk (le x 8)) 8)) = x := by
  have e : hvs 0 (upto (bk (le x 8)) 8) = (((((((((0 * 256 + ((byteOf (x / 256 / 256 / 256 / 256 / 256 / 256 / 256)).toNat : Int)) * 256 + ((byteOf (x / 256 / 256 / 256 / 256 / 256 / 256)).toNat : Int)) * 256 + ((byteOf (x / 256 / 256 / 256 / 256 / 256)).toNat : Int)) * 256 + ((byteOf (x / 256 / 256 / 256 / 256)).toNat : Int)) * 256 + ((byteOf (x / 256 / 256 / 256)).toNat : Int)) * 256 + ((byteOf (x / 256 / 256)).toNat : Int)) * 256 + ((byteOf (x / 256)).toNat : Int)) * 256 + ((byteOf x).toNat : Int))) := rfl
  rw [e]
  simp only [byteOf_nat]
  unfold fits at hx
  unfold wrap64
  omega
set_option maxRecDepth 10000 in
theorem hvs4 (x : Int) (h0 : 0 ≤ x) (h1 : x < 4294967296) : wrap64 (hvs 0 (upto (bk (le x 4)) 4)) = x := by
  have e : hvs 0 (upto (bk (le x 4)) 4) = ((((0 * 256 + ((byteOf (x / 256 / 256 / 256)).toNat : Int)) * 256 + ((byteOf (x / 256 / 256)).toNat : Int)) * 256 + ((byteOf (x / 256)).toNat : Int)) * 256 + ((byteOf x).toNat : Int)) := rfl
  rw [e]
  simp only [byteOf_nat]
  unfold wrap64
  omega
set_option maxRecDepth 10000 in
theorem hvs1 (x : Int) (h0 : 0 ≤ x) (h1 : x < 256) : wrap64 (hvs 0 (upto (bk (le x 1)) 1)) = x := by
  have e : hvs 0 (upto (bk (le x 1)) 1) = 0 * 256 + ((byteOf x).toNat : Int) := rfl
  rw [e]
  simp only [byteOf_nat]
  unfold wrap64
  omega
set_option maxRecDepth 10000 in
theorem take_le (x : Int) (n : Nat) (R : List UInt8) : (le x n ++ R).take n = le x n := by
  rw [List.take_append_of_le_length (by rw [le_length]; exact Nat.le_refl n), List.take_of_length_le (by rw [le_length]; exact Nat.le_refl n)]
set_option maxRecDepth 10000 in
theorem drop_le (x : Int) (n : Nat) (R : List UInt8) : (le x n ++ R).drop n = R := by
  rw [List.drop_append_of_le_length (by rw [le_length]; exact Nat.le_refl n), List.drop_of_length_le (by rw [le_length]; exact Nat.le_refl n)]
  rfl
set_option maxRecDepth 10000 in
/-- A number of eight bytes, read by the series' reader. -/
theorem num8_le (x : Int) (hx : fits x) (R : List UInt8) : num8 ((le x 8 ++ R).take 8) = x := by
  rw [take_le]
  unfold num8 unleU
  rw [le_length, foldU _ 0 0 (by decide)]
  have h := hvs8 x hx
  obtain ⟨y, hy⟩ : ∃ y, hvs 0 (upto (bk (le x 8)) 8) = y := ⟨_, rfl⟩
  rw [hy] at h ⊢
  rw [← h]
  unfold wrap64
  omega
set_option maxRecDepth 10000 in
theorem tk_le' (x : Int) (n : Nat) (R : List UInt8) : tk (le x n ++ R) false n = le x n ∧ tkR (le x n ++ R) false n = R ∧ tkB (le x n ++ R) false n = false := by
  have e : tkB (le x n ++ R) false n = false := by
    unfold tkB
    rw [Bool.false_or]
    exact decide_eq_false (by rw [List.length_append, le_length]; omega)
  unfold tk tkR
  rw [e]
  exact ⟨take_le x n R, drop_le x n R, rfl⟩
set_option maxRecDepth 10000 in
/-- Numbers, read by the letter's reader. -/
theorem rdN_8 (x : Int) (hx : fits x) (R : List UInt8) : rdN (le x 8 ++ R) false 8 = x := by
  unfold rdN unle
  rw [(tk_le' x 8 R).1, le_length, foldR _ 0 0 (by unfold wrap64; omega)]
  exact hvs8 x hx
set_option maxRecDepth 10000 in
theorem rdN_4 (x : Int) (h0 : 0 ≤ x) (h1 : x < 4294967296) (R : List UInt8) : rdN (le x 4 ++ R) false 4 = x := by
  unfold rdN unle
  rw [(tk_le' x 4 R).1, le_length, foldR _ 0 0 (by unfold wrap64; omega)]
  exact hvs4 x h0 h1
set_option maxRecDepth 10000 in
theorem rdN_1 (x : Int) (h0 : 0 ≤ x) (h1 : x < 256) (R : List UInt8) : rdN (le x 1 ++ R) false 1 = x := by
  unfold rdN unle
  rw [(tk_le' x 1 R).1, le_length, foldR _ 0 0 (by unfold wrap64; omega)]
  exact hvs1 x h0 h1
end Go.Proofs.YtenbgpcdoljkgaaGreatDoor

/- (*series.writer).numbers: numbers of eight bytes each, appended. -/
namespace Go.Proofs.YtenbgpcdoljkgaaGreatDoor
open Go Go.RowKit

/-- The series' writer at block g: the bytes written so far in a row of their own. -/
def SWt (w : World) (g : Nat) (v : Value) (bs : List UInt8) : Prop :=
  w.heap[g]? = some (.cells #[v] 101 (0, 0)) ∧ w.ownsRow (g + 1) 5 1 v bs.length (bs.map Extern.Stop.cell)
/-- Bytes more, stored back. -/
theorem swt_app {w W w1 : World} {g m : Nat} {v v' : Value} {bs xs : List UInt8} (h : SWt w g v bs) (hg : g < w.heap.size) (hs : w.heap.size ≤ W.heap.size) (hW : ∀ k, k < w.heap.size → W.heap[k]? = w.heap[k]?) (h1 : W.os = w.os) (h2 : W.tape = w.tape) (h3 : W.output = w.output)
    (hm : m = bs.length + xs.length) (hown : w1.ownsRow (g + 1) 5 1 v' m (bs.map Extern.Stop.cell ++ xs.map Extern.Stop.cell)) (hgrow : W.grownBy w1 v.ownBlock)
    (hat : v'.ownBlock = v.ownBlock ∨ ∃ b, v'.ownBlock = some b ∧ w.heap.size ≤ b) :
    w1.heap[g]? = some (.cells #[v] 101 (0, 0)) ∧ SWt (w1.setCell ⟨g, 0, none⟩ v') g v' (bs ++ xs) ∧ WKeep g v w v' (w1.setCell ⟨g, 0, none⟩ v') := by
  subst hm
  have hne : some g ≠ v.ownBlock := own_ge h.2 g (Nat.lt_succ_self g)
  have hg1 : w1.heap[g]? = some (.cells #[v] 101 (0, 0)) := by
    rw [hgrow.block g (by omega) hne, hW g hg]; exact h.1
  refine ⟨hg1, ⟨?_, ?_⟩, ?_⟩
  · rw [heap_setCell_same w1 g 0 _ _ v' hg1]; rfl
  · have := ownsRow_far (u := v') (p := ⟨g, 0, none⟩) hown (own_ge hown g (Nat.lt_succ_self g))
    simpa using this
  · refine ⟨hgrow.os.trans h1, hgrow.tape.trans h2, hgrow.output.trans h3, ?_, fun k hk hkg hkv => ?_, hat⟩
    · have := hgrow.size; simp [World.setCell]; omega
    · rw [heap_setCell_other w1 _ k v' hkg, hgrow.block k (by omega) hkv, hW k hk]
/-- Numbers in memory that is neither the writer nor the row of its bytes. -/
def IntsFar (w : World) (g : Nat) (v : Value) (A : Option Addr) (zs : List Int) : Prop :=
  zs.length = 0 ∨ ∃ b off, A = some ⟨b, off, none⟩ ∧ b < w.heap.size ∧ b ≠ g ∧ some b ≠ v.ownBlock ∧ ∀ j, j < zs.length → w.cell? ⟨b, off + j, none⟩ = some (I (zs[j]?.getD 0))
theorem IntsFar.next {w w' : World} {g : Nat} {v v' : Value} {A : Option Addr} {zs : List Int} (h : IntsFar w g v A zs) (k : WKeep g v w v' w') : IntsFar w' g v' A zs := by
  rcases h with h | ⟨b, off, h1, h2, h3, h4, h5⟩
  · exact .inl h
  · refine .inr ⟨b, off, h1, Nat.lt_of_lt_of_le h2 k.size, h3, ?_, fun j hj => (World.cell?_of_block (a := ⟨b, off + j, none⟩) (k.block b h2 h3 h4)).trans (h5 j hj)⟩
    rcases k.own with e | ⟨c, e, hc⟩
    · rw [e]; exact h4
    · rw [e]; intro e'; injection e' with e'; omega
theorem IntsAt.far {w : World} {g B : Nat} {v : Value} {bs : List UInt8} {A : Option Addr} {zs : List Int} (h : IntsAt w B A zs) (hB : B ≤ g) (hg : g < w.heap.size) (hst : SWt w g v bs) : IntsFar w g v A zs := by
  rcases h with h | ⟨b, off, h1, h2, h3⟩
  · exact .inl h
  · exact .inr ⟨b, off, h1, by omega, by omega, own_ge hst.2 b (by omega), h3⟩
def leAll (zs : List Int) : List UInt8 := zs.flatMap fun z => le z 8
theorem leAll_snoc (zs : List Int) (z : Int) : leAll (zs ++ [z]) = leAll zs ++ le z 8 := by simp [leAll]
theorem leAll_length (zs : List Int) : (leAll zs).length = 8 * zs.length := by
  induction zs with
  | nil => rfl
  | cons z zs ih => unfold leAll at ih ⊢; rw [List.flatMap_cons, List.length_append, ih, le_length, List.length_cons]; omega
theorem byte_at (z : Int) (j : Nat) (hj : j < 8) (_hz : fits z) : Value.int .u8 (IntKind.u8.wrap (IntKind.u64.wrap z / 2 ^ (8 * (j : Int)).toNat)) = Extern.Stop.cell (byteOf (shiftBy z j)) := by
  rw [byteOf_cell]
  have h : j = 0 ∨ j = 1 ∨ j = 2 ∨ j = 3 ∨ j = 4 ∨ j = 5 ∨ j = 6 ∨ j = 7 := by omega
  congr 1
  rw [IntKind.wrap_u8, show IntKind.u64.wrap z = z % 18446744073709551616 by simp [IntKind.wrap, IntKind.bits, IntKind.signed]]
  rcases h with rfl | rfl | rfl | rfl | rfl | rfl | rfl | rfl <;> simp only [shiftBy]
  · show z % 18446744073709551616 / 1 % 256 = _; omega
  · show z % 18446744073709551616 / 256 % 256 = _; omega
  · show z % 18446744073709551616 / 65536 % 256 = _; omega
  · show z % 18446744073709551616 / 16777216 % 256 = _; omega
  · show z % 18446744073709551616 / 4294967296 % 256 = _; omega
  · show z % 18446744073709551616 / 1099511627776 % 256 = _; omega
  · show z % 18446744073709551616 / 281474976710656 % 256 = _; omega
  · show z % 18446744073709551616 / 72057594037927936 % 256 = _; omega
def SNum (w : World) (g : Nat) (v : Value) (bs : List UInt8) (e : Ending) (w' : World) : Prop :=
  e = .returned (.tuple #[]) ∧ ∃ v', SWt w' g v' bs ∧ WKeep g v w v' w'
def SnRel (w : World) (g : Nat) (v : Value) (bs : List UInt8) (zs : List Int) (n : Nat) (i : Value) (wr : World) : Prop :=
  ∃ k : Nat, k ≤ n ∧ i = I k ∧ ∃ v', SWt wr g v' (bs ++ leAll (zs.take k)) ∧ WKeep g v w v' wr
def SnRel2 (w : World) (g : Nat) (v : Value) (bs : List UInt8) (z : Int) (sh : Value) (wr : World) : Prop :=
  ∃ k : Nat, k ≤ 8 ∧ sh = I (8 * k) ∧ ∃ v', SWt wr g v' (bs ++ le z k) ∧ WKeep g v w v' wr
set_option maxRecDepth 10000 in
set_option maxHeartbeats 2000000 in
theorem snumbers_any (w : World) (g : Nat) (v : Value) (bs : List UInt8) (A : Option Addr) (n c : Nat) (zs : List Int) (hn : zs.length = n) (hA : IntsFar w g v A zs) (hfit : ∀ j, j < zs.length → fits (zs[j]?.getD 0)) (hl : bs.length ≤ 1000000000) (hn2 : n ≤ 1000000) (hg : g < w.heap.size) (hst : SWt w g v bs) :
    Calls Tryz.prog 63 #[.pointer (some ⟨g, 0, none⟩), .slice A n c] w (SNum w g v (bs ++ leAll zs)) := by
  obtain ⟨i0, hi, hz0, hz1, hz2⟩ := info_parts info_u8
  have HST := Lib.hid hst
  have HA := Lib.hid hA
  have HF := Lib.hid hfit
  have HN := Lib.hid hn
  clear hst hA hfit hn
  go_enter Tryz.func63, Tryz.ntmps63
  go_wp2_with fail
  go_loopw [9] (fun i wr => SnRel w g v bs zs n i wr) (fun i _ => n - (intOf i).toNat)
  case atStart => exact ⟨0, Nat.zero_le _, rfl, v, by simpa [leAll] using HST.out, WKeep.refl _ _ _⟩
  case round =>
    obtain ⟨k, hk, rfl, v1, hw1, hk1⟩ := hrel
    have HW := Lib.hid hw1
    have HK := Lib.hid hk1
    clear hw1 hk1
    by_cases hlt : (k : Int) < (n : Int)
    · have i0' : (0 : Int) ≤ (k : Int) := by omega
      have hcell : ∃ b off, A = some ⟨b, off, none⟩ ∧ wr.cell? ⟨b, off + k, none⟩ = some (I (zs[k]?.getD 0)) := by
        rcases HA.out.next HK.out with h | ⟨b, off, h1, _, _, _, h3⟩
        · have := HN.out; omega
        · exact ⟨b, off, h1, h3 k (by have := HN.out; omega)⟩
      obtain ⟨b, off, rfl, hck⟩ := hcell
      obtain ⟨z, hz⟩ : ∃ z, zs[k]?.getD 0 = z := ⟨_, rfl⟩
      have hfz : fits z := by rw [← hz]; exact HF.out k (by have := HN.out; omega)
      rw [hz] at hck
      have HZ := Lib.hid hz
      have HFZ := Lib.hid hfz
      clear hz hfz
      go_wp2_with fail
      obtain ⟨wo, hwo⟩ : ∃ wo : World, wr = wo := ⟨_, rfl⟩
      rw [hwo] at HW HK hck ⊢
      clear hwo
      obtain ⟨B, hB⟩ : ∃ B, bs ++ leAll (zs.take k) = B := ⟨_, rfl⟩
      have hBl : B.length ≤ 1008000000 := by rw [← hB, List.length_append, leAll_length, List.length_take]; omega
      rw [hB] at HW
      have HB := Lib.hid hB
      have hgo : g < wo.heap.size := Nat.lt_of_lt_of_le hg HK.out.size
      clear hB
      go_loopw [6] (fun sh wr => SnRel2 wo g v1 B z sh wr) (fun sh _ => 64 - (intOf sh).toNat)
      case atStart => exact ⟨0, by omega, rfl, v1, by simpa [le] using HW.out, WKeep.refl _ _ _⟩
      case round =>
        obtain ⟨j, hj, rfl, v2, hw2, hk2⟩ := hrel
        have HW2 := Lib.hid hw2
        have HK2 := Lib.hid hk2
        have hgr : g < wr.heap.size := Nat.lt_of_lt_of_le hgo hk2.size
        have hc := cell_of_row wr g 0 _ _ _ hw2.1
        clear hw2 hk2
        by_cases hjl : 8 * (j : Int) < 64
        · have HO := Lib.hid HW2.out.2
          go_wp2_with fail
          have HBY := Lib.hid (byte_at z j (by omega) HFZ.out)
          have hlen : (B ++ le z j).length ≤ 1008000008 := by rw [List.length_append, le_length]; omega
          obtain ⟨B2, hB2⟩ : ∃ B2, B ++ le z j = B2 := ⟨_, rfl⟩
          rw [hB2] at HO hlen HW2
          have HB2 := Lib.hid hB2
          clear hB2
          go_region_law (refine step_append_lies _ (by rfl) _ _ _ (by rfl) (g + 1) 5 i0 (.int .u8 0) 1 1 Tryz.underlying38 hi hz0 hz1 hz2 rfl (by omega) v2 B2.length (B2.map Extern.Stop.cell) (by rfl) (HO.out.drew.alloc _) ⟨wr.heap.size, 0, none⟩ 1 1 [Value.int .u8 (IntKind.u8.wrap (IntKind.u64.wrap z / 2 ^ (8 * (j : Int)).toNat))] (by rfl) rfl (cell_one_new _ _ _) (by intro u hu; simp at hu; subst hu; rfl) (by omega) (by unfold maxLen; omega) (by omega) (by simp; omega) _ rfl ?_; intro gg cap w6 hown6 hgrow6 hat6 hlt6; have hS := swt_app (m := B2.length + 1) (v' := .slice (some ⟨gg, 0, none⟩) (B2.length + 1) cap) (xs := [byteOf (shiftBy z j)]) HW2.out hgr (by simp) (fun k hk => Below.heap_alloc wr.drew _ k hk) rfl rfl rfl rfl (by rw [HBY.out] at hown6; exact hown6) hgrow6 (hat6.elim (fun e => .inl e.symm) (fun e => .inr ⟨gg, rfl, by rw [e]; simp⟩)); have HSS := Lib.hid hS; have hc6 : w6.cell? ⟨g, 0, none⟩ = some v2 := cell_of_row w6 g 0 _ _ _ hS.1; have hf6 := frozen_of_row w6 g 0 _ _ hS.1; clear hown6 hgrow6 hat6 hS)
          all_goals
            go_wp2_with fail
            go_roundw
            case rel => exact ⟨j + 1, by omega, by go_num, _, by rw [le_snoc, ← List.append_assoc, HB2.out]; exact HSS.out.2.1, HK2.out.trans HSS.out.2.2⟩
            case measure => simp [intOf]; omega
        · have hj8 : j = 8 := by omega
          have HJ := Lib.hid hj8
          clear hj8
          go_wp2_with fail
          go_roundw
          case rel =>
            refine ⟨k + 1, by omega, by go_num, v2, ?_, HK.out.trans HK2.out⟩
            have h := HW2.out
            rw [HJ.out, ← HB.out, ← HZ.out, List.append_assoc, ← leAll_snoc, ← take_snoc' zs k (by have := HN.out; omega)] at h
            exact h
          case measure => simp [intOf]; omega
    · have hke : k = n := by omega
      have HKE := Lib.hid hke
      clear hke
      go_wp2_with fail
      go_end0
      refine ⟨rfl, v1, ?_, HK.out⟩
      have h := HW.out
      rw [HKE.out, ← HN.out, List.take_length] at h
      exact h
end Go.Proofs.YtenbgpcdoljkgaaGreatDoor
