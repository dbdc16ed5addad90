/- The texts TrC, TbV, TbP, TrZ, TrW, TbB, BEq, in this order. -/
import Derived.Test.YtbdkalpljhpnmaaGreatG01
import Derived.BigQuiet
import Derived.Deep.AppendLies
import Derived.Deep.CutBlock
import Derived.Deep.DeepCutAuto
import Derived.Deep.DrawnRows
import Derived.Deep.MidRow
import Derived.Deep.QuietTactic
import Derived.Deep.RegionHeld3
import Derived.Deep.RegionLaw
import Derived.Deep.WholeRow
import Derived.Great.BuildSlice
import Derived.Laws.BytesString
import Derived.Laws.CopyOwn
import Derived.Laws.EntriesVeiled
import Derived.Laws.MakeOwn
import Derived.Laws.ResultCell
import Derived.Laws.Rows
import Derived.Laws.Tables
import Derived.Lib.Hide
import Derived.LoopIn
import Derived.LoopNIn
import Derived.Maps.AppendAt
import Derived.Outline
import Derived.OwnWalkIn
import Derived.RangeFuncBound
import Derived.RangeFuncBox
import Derived.RangeFuncCalls
import Derived.RangeFuncLeaves
import Derived.RangeFuncNested
import Derived.Shelf.Abstract
import Derived.Shelf.Bytes.SlSmallAll
import Derived.Shelf.RegionOpen
import Derived.StillTailTactics
import Derived.Stop.BytesEq
import Derived.TacticsInMore
import Derived.WalkKit
import Derived.WalkLawsBesides
import Derived.WalkSpells
import Derived.Test.YtbdkalpljhpnmaaGreatTbE
import Derived.Test.YtbdkalpljhpnmaaGreatTbJ
import Derived.Test.YtbdkalpljhpnmaaGreatQa
/- table.calendar and table.entry with the reader, at flat zones. -/
namespace Go.Proofs.YtbdkalpljhpnmaaGreat
open Go Go.RowKit

attribute [local go_sem] m_r_number n_r_number m_r_offset n_r_offset m_r_text n_r_text m_r_digest n_r_digest m_r_length n_r_length
def TNoneR (M : Nat) (w : World) (rb : Nat) (R : List UInt8) (e : Ending) (w' : World) : Prop := e = .returned (.tuple #[]) ∧ TRd M w' rb R ∧ MKeep rb w w'
theorem mkeep_drew {rb : Nat} {w w' : World} (h : MKeep rb w.drew w') : MKeep rb w w' := ⟨h.os, h.tape, h.output, h.size, h.block⟩
set_option maxRecDepth 10000 in
set_option maxHeartbeats 1000000 in
theorem trlistLeap_none (M : Nat) (w : World) (rb lb lo : Nat) (A : Option Addr) (c : Nat) (R : List UInt8) (hp : w.cell? ⟨lb, lo, none⟩ = some (.slice A 0 c)) (hr : TRd M w rb (le 0 1 ++ R)) :
    Calls Tryz.prog 74 #[.iface 120 (pt rb), .pointer (some ⟨lb, lo, none⟩), I 1, .func (.func 75) #[] #[]] w (TNoneR M w rb R) := by
  have HC := Lib.hid (trlength_le M w.drew rb 1 0 0 0 R hr.drew (by omega) (rdN_1 0 (by omega) (by omega) R))
  clear hr
  go_enter Tryz.func74, Tryz.ntmps74
  go_wp2_with fail
  go_still_tail 9, (by kernel_rfl)
  go_wp2_with fail
  refine HC.out.mono ?_
  rintro e w1 ⟨rfl, hr1, hk1⟩
  have HR1 := Lib.hid hr1
  have HK1 := Lib.hid (mkeep_drew hk1)
  clear hr1 hk1 HC hp
  go_wp2_with fail
  go_loop [22] (fun i => i = .int .i64 0) (fun _ => 0)
  case atStart => rfl
  case round =>
    subst hrel
    go_wp2_with fail
    go_end0
    exact ⟨rfl, HR1.out, HK1.out⟩
set_option maxRecDepth 10000 in
set_option maxHeartbeats 1000000 in
theorem trlistTrans_none (M : Nat) (w : World) (rb lb lo : Nat) (A : Option Addr) (c : Nat) (R : List UInt8) (hp : w.cell? ⟨lb, lo, none⟩ = some (.slice A 0 c)) (hr : TRd M w rb (le 0 2 ++ R)) :
    Calls Tryz.prog 55 #[.iface 120 (pt rb), .pointer (some ⟨lb, lo, none⟩), I 2, .func (.func 56) #[] #[]] w (TNoneR M w rb R) := by
  have HC := Lib.hid (trlength_le M w.drew rb 2 0 0 0 R hr.drew (by omega) ((rdN_2 0 R).trans (by decide)))
  clear hr
  go_enter Tryz.func55, Tryz.ntmps55
  go_wp2_with fail
  go_still_tail 9, (by kernel_rfl)
  go_wp2_with fail
  refine HC.out.mono ?_
  rintro e w1 ⟨rfl, hr1, hk1⟩
  have HR1 := Lib.hid hr1
  have HK1 := Lib.hid (mkeep_drew hk1)
  clear hr1 hk1 HC hp
  go_wp2_with fail
  go_loop [22] (fun i => i = .int .i64 0) (fun _ => 0)
  case atStart => rfl
  case round =>
    subst hrel
    go_wp2_with fail
    go_end0
    exact ⟨rfl, HR1.out, HK1.out⟩
set_option maxRecDepth 10000 in
set_option maxHeartbeats 1000000 in
theorem trlistYear_none (M : Nat) (w : World) (rb lb lo : Nat) (A : Option Addr) (c : Nat) (R : List UInt8) (hp : w.cell? ⟨lb, lo, none⟩ = some (.slice A 0 c)) (hr : TRd M w rb (le 0 1 ++ R)) :
    Calls Tryz.prog 57 #[.iface 120 (pt rb), .pointer (some ⟨lb, lo, none⟩), I 1, .func (.func 58) #[] #[]] w (TNoneR M w rb R) := by
  have HC := Lib.hid (trlength_le M w.drew rb 1 0 0 0 R hr.drew (by omega) (rdN_1 0 (by omega) (by omega) R))
  clear hr
  go_enter Tryz.func57, Tryz.ntmps57
  go_wp2_with fail
  go_still_tail 9, (by kernel_rfl)
  go_wp2_with fail
  refine HC.out.mono ?_
  rintro e w1 ⟨rfl, hr1, hk1⟩
  have HR1 := Lib.hid hr1
  have HK1 := Lib.hid (mkeep_drew hk1)
  clear hr1 hk1 HC hp
  go_wp2_with fail
  go_loop [22] (fun i => i = .int .i64 0) (fun _ => 0)
  case atStart => rfl
  case round =>
    subst hrel
    go_wp2_with fail
    go_end0
    exact ⟨rfl, HR1.out, HK1.out⟩
def TCalR (M : Nat) (w : World) (rb cb co : Nat) (t : TypeId) (cs : Array Value) (c : Cal) (R : List UInt8) (e : Ending) (w' : World) : Prop :=
  e = .returned (.tuple #[]) ∧ ∃ A a, TRd M w' rb R ∧ TPut w rb cb t (((cs.setIfInBounds co (I c.epoch)).setIfInBounds (co + 1) (.slice A c.months.length a)).setIfInBounds (co + 2) (I (-1))) w' ∧ w'.ownsRow w.heap.size 3 1 (.slice A c.months.length a) c.months.length (c.months.map I)
set_option maxRecDepth 10000 in
set_option maxHeartbeats 2000000 in
theorem trcalendar_flat (M : Nat) (w : World) (rb cb co : Nat) (t : TypeId) (cs : Array Value) (c : Cal) (R : List UInt8) (hc : CalFlat c) (hr : TRd M w rb (calBytes c ++ R)) (hp : w.heap[cb]? = some (.cells cs t (0, 0))) (h0 : co < cs.size) (h1 : cs[co + 1]? = some (.slice none 0 0)) (h2 : cs[co + 2]? = some (I 0)) (h3 : cs[co + 3]? = some (.slice none 0 0))
    (hM : M ≤ cb) (hne : cb ≠ rb) :
    Calls Tryz.prog 54 #[.iface 120 (pt rb), .pointer (some ⟨cb, co, none⟩)] w (TCalR M w rb cb co t cs c R) := by
  have hcl : cb < w.heap.size := (Array.getElem?_eq_some_iff.1 hp).1
  have hlo := hr.lo
  have hrw := hr.lt
  have e1 : co + 1 < cs.size := (Array.getElem?_eq_some_iff.1 h1).1
  have e2 : co + 2 < cs.size := (Array.getElem?_eq_some_iff.1 h2).1
  have e3 : co + 3 < cs.size := (Array.getElem?_eq_some_iff.1 h3).1
  obtain ⟨n, hn⟩ : ∃ n, c.months.length = n := ⟨_, rfl⟩
  have hn2 : n ≤ 16 := by have := hc.mo.2; omega
  have hr' : TRd M w.drew rb (le c.epoch 4 ++ ((le n 1 ++ cellBytes c.months) ++ (le 0 1 ++ (le 0 1 ++ R)))) := by
    have h := hr.drew
    unfold calBytes at h
    rw [hn] at h
    simpa only [List.append_assoc] using h
  have HC1 := Lib.hid (trnum_le M w.drew rb cb co 4 t cs c.epoch c.epoch _ hr' (by omega) (rdN_4 _ hc.ep.1 (by have := hc.ep.2; omega) _) hp h0 hM hne)
  have HN := Lib.hid hn
  have HM : Hid (∀ z ∈ c.months, 0 ≤ z ∧ z < 256) := Lib.hid fun z hz => by have := hc.all z hz; omega
  have HX : Hid (cs[co + 1]? = some (.slice none 0 0) ∧ cs[co + 2]? = some (I 0) ∧ cs[co + 3]? = some (.slice none 0 0)) := Lib.hid ⟨h1, h2, h3⟩
  clear hc hr hr' hp hn h1 h2 h3
  unfold TCalR
  go_enter Tryz.func54, Tryz.ntmps54
  go_wp2_with fail
  go_still_tail 7, (by kernel_rfl)
  go_wp2_with fail
  refine HC1.out.mono ?_
  rintro e w1 ⟨rfl, hr1, hp1⟩
  have HP1 := Lib.hid hp1.of_drew
  have HL := Lib.hid (trlistInt M w1 rb cb (co + 1) n t (cs.setIfInBounds co (I c.epoch)) c.months _ HN.out (by omega) HM.out hr1 hp1.tgt (by rw [Array.getElem?_setIfInBounds_ne (by omega)]; exact HX.out.1) hM hne)
  clear hr1 hp1 HC1
  go_wp2_with fail
  refine HL.out.mono ?_
  rintro e w2 ⟨rfl, A, a, hr2, hp2, ho2⟩
  obtain ⟨C2, hC2⟩ : ∃ C, (cs.setIfInBounds co (I c.epoch)).setIfInBounds (co + 1) (.slice A n a) = C := ⟨_, rfl⟩
  rw [hC2] at hp2
  have g2 : C2[co + 2]? = some (I 0) := by rw [← hC2, Array.getElem?_setIfInBounds_ne (by omega), Array.getElem?_setIfInBounds_ne (by omega)]; exact HX.out.2.1
  have g3 : C2[co + 3]? = some (.slice none 0 0) := by rw [← hC2, Array.getElem?_setIfInBounds_ne (by omega), Array.getElem?_setIfInBounds_ne (by omega)]; exact HX.out.2.2
  have HP2 := Lib.hid (HP1.out.trans hp2)
  have HO2 := Lib.hid (ownsRow_base' ho2 HP1.out.size)
  have HQ2 := Lib.hid hC2
  have d2 : w2.cell? ⟨cb, co + 2, none⟩ = some (I 0) := (hp2.cell (co + 2)).trans g2
  have hs2 := hp2.size
  have hs1 := HP1.out.size
  have hb2 := below_var w2 (.cells #[I 1] 3)
  have HB2 := Lib.hid hb2
  have hrl := hr2.lt
  have HC2 := Lib.hid (trnum_le M (w2.alloc (.cells #[I 1] 3)) rb w2.heap.size 0 1 3 #[I 1] 0 0 _ (hr2.below hb2 hrl) (by omega) (rdN_1 0 (by omega) (by omega) _) (heap_alloc_last w2 _) (by decide) (by omega) (by omega))
  clear hr2 hp2 ho2 hC2 HL hb2
  go_wp2_with fail
  refine HC2.out.mono ?_
  rintro e w3 ⟨rfl, hr3, hp3⟩
  have d3 : w3.cell? ⟨w2.heap.size, 0, none⟩ = some (I 0) := hp3.cell 0
  have hs3 := hp3.size
  rw [World.size_alloc] at hs3
  have hk3 : MKeep rb w2 w3 := ⟨hp3.os, hp3.tape, hp3.output, by omega, fun b hb hbr => (hp3.block b (by simp; omega) (by omega) hbr).trans (HB2.out.block b hb)⟩
  have hp3' : TPut w rb cb t C2 w3 := HP2.out.mkeep hk3 (by omega) hne
  have e3' : w3.cell? ⟨cb, co + 2, none⟩ = some (I 0) := (hp3'.cell (co + 2)).trans g2
  have f3 := hp3'.froz (co + 2)
  have HP4 := Lib.hid (hp3'.put (co + 2) (I (-1)))
  have HR4 := Lib.hid (hr3.put (o := co + 2) hM hne (I (-1)))
  have ho3 : w3.ownsRow w.heap.size 3 1 (.slice A n a) n (c.months.map I) := ownsRow_mkeep HO2.out hk3 hrw
  have HO4 := Lib.hid (ownsRow_far (u := I (-1)) (p := ⟨cb, co + 2, none⟩) ho3 (own_ge ho3 cb hcl))
  clear hr3 hp3 hk3 hp3' HC2 ho3 d2
  go_wp2_with fail
  obtain ⟨w4, hw4⟩ : ∃ W, w3.setCell ⟨cb, co + 2, none⟩ (I (-1)) = W := ⟨_, rfl⟩
  rw [hw4] at HP4 HR4 HO4 ⊢
  refine (trlistLeap_none M w4 rb cb (co + 3) none 0 R ((HP4.out.cell (co + 3)).trans (by rw [Array.getElem?_setIfInBounds_ne (by omega)]; exact g3)) HR4.out).mono ?_
  rintro e w5 ⟨rfl, hr5, hk5⟩
  have HR5 := Lib.hid hr5
  have HP5 := Lib.hid (HP4.out.mkeep hk5 (Nat.lt_of_lt_of_le hcl HP4.out.size) hne)
  have HO5 := Lib.hid (ownsRow_mkeep HO4.out hk5 hrw)
  clear hr5 hk5 hw4 d3 e3' f3 g2 g3
  go_wp2_with fail
  go_end0
  refine ⟨rfl, A, a, HR5.out, ?_, ?_⟩
  · have h := HP5.out
    rw [← HQ2.out] at h
    rw [HN.out]
    exact h
  · rw [HN.out]
    exact HO5.out
def entCells (cs : Array Value) (eo : Nat) (e : Ze) (A : Option Addr) (a : Nat) : Array Value :=
  (((((cs.setIfInBounds eo (.string e.name)).setIfInBounds (eo + 1) (I e.z.cal.epoch)).setIfInBounds (eo + 1 + 1) (.slice A e.z.cal.months.length a)).setIfInBounds (eo + 1 + 2) (I (-1))).setIfInBounds (eo + 1 + 4) (I e.z.start)).setIfInBounds (eo + 1 + 6) (I e.z.hor)
def TEntR (M : Nat) (w : World) (rb eb eo : Nat) (t : TypeId) (cs : Array Value) (x : Ze) (R : List UInt8) (e : Ending) (w' : World) : Prop :=
  e = .returned (.tuple #[]) ∧ ∃ A a, TRd M w' rb R ∧ TPut w rb eb t (entCells cs eo x A a) w' ∧ w'.ownsRow w.heap.size 3 1 (.slice A x.z.cal.months.length a) x.z.cal.months.length (x.z.cal.months.map I)
set_option maxRecDepth 10000 in
set_option maxHeartbeats 4000000 in
theorem trentry_flat (M : Nat) (w : World) (rb eb eo : Nat) (t : TypeId) (cs : Array Value) (x : Ze) (R : List UInt8) (hf : ZnFlat x.z) (hs : x.name.size ≤ 32) (hr : TRd M w rb (zeBytes x ++ R)) (hp : w.heap[eb]? = some (.cells cs t (0, 0))) (hz : ∀ j, j < 9 → cs[eo + j]? = zZe[j]?) (hM : M ≤ eb) (hne : eb ≠ rb) :
    Calls Tryz.prog 42 #[.iface 120 (pt rb), .pointer (some ⟨eb, eo, none⟩)] w (TEntR M w rb eb eo t cs x R) := by
  have hel : eb < w.heap.size := (Array.getElem?_eq_some_iff.1 hp).1
  have hrw := hr.lt
  have hz0 : cs[eo]? = some (.string ⟨#[]⟩) := hz 0 (by decide)
  have hz8 : eo + 8 < cs.size := (Array.getElem?_eq_some_iff.1 ((hz 8 (by decide)).trans (rfl : zZe[8]? = some (.slice none 0 0)))).1
  have hr' : TRd M w.drew rb ((le x.name.size 1 ++ x.name.data.toList) ++ (calBytes x.z.cal ++ (le x.z.start 2 ++ (le 0 2 ++ (le x.z.hor 8 ++ (le 0 1 ++ R)))))) := by
    have h := hr.drew
    unfold zeBytes at h
    simpa only [List.append_assoc] using h
  have HC1 := Lib.hid (trtext_le M w.drew rb eb eo t cs ⟨#[]⟩ x.name _ hr' (by omega) hp hz0 hM hne)
  have HZ : Hid (∀ j, 1 ≤ j → j < 9 → cs[eo + j]? = zZe[j]?) := Lib.hid fun j _ hj => hz j hj
  have HF := Lib.hid hf
  have hst0 := hf.start
  have hho0 := hf.hor
  clear hf hs hr hr' hp hz hz0
  unfold TEntR
  go_enter Tryz.func42, Tryz.ntmps42
  go_wp2_with fail
  go_still_tail 7, (by kernel_rfl)
  go_wp2_with fail
  refine HC1.out.mono ?_
  rintro e w1 ⟨rfl, hr1, hp1⟩
  obtain ⟨C1, hC1⟩ : ∃ C, cs.setIfInBounds eo (.string x.name) = C := ⟨_, rfl⟩
  rw [hC1] at hp1
  have k1 : ∀ j, 1 ≤ j → j < 9 → C1[eo + j]? = zZe[j]? := fun j h1 h2 => by rw [← hC1, Array.getElem?_setIfInBounds_ne (by omega)]; exact HZ.out j h1 h2
  have l1 : C1.size = cs.size := by rw [← hC1, Array.size_setIfInBounds]
  have HP1 := Lib.hid hp1.of_drew
  have HQ1 := Lib.hid hC1
  have HC2 := Lib.hid (trcalendar_flat M w1 rb eb (eo + 1) t C1 x.z.cal _ HF.out.cal hr1 hp1.tgt (by omega) (k1 2 (by decide) (by decide)) (k1 3 (by decide) (by decide)) (k1 4 (by decide) (by decide)) hM hne)
  have HK1 := Lib.hid k1
  clear hr1 hp1 HC1 hC1 k1
  go_wp2_with fail
  refine HC2.out.mono ?_
  rintro e w2 ⟨rfl, A, a, hr2, hp2, ho2⟩
  obtain ⟨C2, hC2⟩ : ∃ C, ((C1.setIfInBounds (eo + 1) (I x.z.cal.epoch)).setIfInBounds (eo + 1 + 1) (.slice A x.z.cal.months.length a)).setIfInBounds (eo + 1 + 2) (I (-1)) = C := ⟨_, rfl⟩
  rw [hC2] at hp2
  have k2 : ∀ j, 4 ≤ j → j < 9 → C2[eo + j]? = zZe[j]? := fun j h1 h2 => by rw [← hC2, Array.getElem?_setIfInBounds_ne (by omega), Array.getElem?_setIfInBounds_ne (by omega), Array.getElem?_setIfInBounds_ne (by omega)]; exact HK1.out j (by omega) h2
  have l2 : C2.size = cs.size := by rw [← hC2, Array.size_setIfInBounds, Array.size_setIfInBounds, Array.size_setIfInBounds]; exact l1
  have HP2 := Lib.hid (HP1.out.trans hp2)
  have HO2 := Lib.hid (ownsRow_base' ho2 HP1.out.size)
  have HQ2 := Lib.hid hC2
  have HC3 := Lib.hid (troffset_le M w2.drew rb eb (eo + 1 + 4) t C2 x.z.start _ hr2.drew (by omega) (by omega) hp2.tgt (by omega) hM hne)
  have HK2 := Lib.hid k2
  clear hr2 hp2 ho2 HC2 hC2 k2
  go_wp2_with fail
  go_still_tail 7, (by kernel_rfl)
  go_wp2_with fail
  refine HC3.out.mono ?_
  rintro e w3 ⟨rfl, hr3, hp3⟩
  obtain ⟨C3, hC3⟩ : ∃ C, C2.setIfInBounds (eo + 1 + 4) (I x.z.start) = C := ⟨_, rfl⟩
  rw [hC3] at hp3
  have k3 : ∀ j, 6 ≤ j → j < 9 → C3[eo + j]? = zZe[j]? := fun j h1 h2 => by rw [← hC3, Array.getElem?_setIfInBounds_ne (by omega)]; exact HK2.out j (by omega) h2
  have l3 : C3.size = cs.size := by rw [← hC3, Array.size_setIfInBounds]; exact l2
  have hk3 : ∀ b, w.heap.size ≤ b → b < w2.heap.size → w3.heap[b]? = w2.heap[b]? := fun b h1 h2 => hp3.block b h2 (by omega) (by omega)
  have HO3 := Lib.hid (ownsRow_blocks HO2.out hk3)
  have HP3 := Lib.hid (HP2.out.trans hp3.of_drew)
  have HQ3 := Lib.hid hC3
  have HC4 := Lib.hid (trlistTrans_none M w3 rb eb (eo + 1 + 5) none 0 _ ((hp3.cell _).trans (k3 6 (by decide) (by decide))) hr3)
  have HK3 := Lib.hid k3
  clear hr3 hp3 HC3 hC3 k3 hk3
  go_wp2_with fail
  refine HC4.out.mono ?_
  rintro e w4 ⟨rfl, hr4, hk4⟩
  have HP4 := Lib.hid (HP3.out.mkeep hk4 (Nat.lt_of_lt_of_le hel HP3.out.size) hne)
  have HO4 := Lib.hid (ownsRow_mkeep HO3.out hk4 hrw)
  have HC5 := Lib.hid (trnum_le M w4.drew rb eb (eo + 1 + 6) 8 t C3 x.z.hor x.z.hor _ hr4.drew (by omega) (rdN_8 _ (by unfold fits; omega) _) HP4.out.tgt (by omega) hM hne)
  clear hr4 hk4 HC4
  go_wp2_with fail
  go_still_tail 7, (by kernel_rfl)
  go_wp2_with fail
  refine HC5.out.mono ?_
  rintro e w5 ⟨rfl, hr5, hp5⟩
  have hk5 : ∀ b, w.heap.size ≤ b → b < w4.heap.size → w5.heap[b]? = w4.heap[b]? := fun b h1 h2 => hp5.block b h2 (by omega) (by omega)
  have HO5 := Lib.hid (ownsRow_blocks HO4.out hk5)
  have HP5 := Lib.hid (HP4.out.trans hp5.of_drew)
  have HC6 := Lib.hid (trlistYear_none M w5 rb eb (eo + 1 + 7) none 0 R ((hp5.cell _).trans (by rw [Array.getElem?_setIfInBounds_ne (by omega)]; exact HK3.out 8 (by decide) (by decide))) hr5)
  clear hr5 hp5 HC5 hk5
  go_wp2_with fail
  refine HC6.out.mono ?_
  rintro e w6 ⟨rfl, hr6, hk6⟩
  have HR6 := Lib.hid hr6
  have HP6 := Lib.hid (HP5.out.mkeep hk6 (Nat.lt_of_lt_of_le hel HP5.out.size) hne)
  have HO6 := Lib.hid (ownsRow_mkeep HO5.out hk6 hrw)
  clear hr6 hk6 HC6
  go_wp2_with fail
  go_end0
  refine ⟨rfl, A, a, HR6.out, ?_, HO6.out⟩
  have h := HP6.out
  rw [← HQ3.out, ← HQ2.out, ← HQ1.out] at h
  exact h
end Go.Proofs.YtbdkalpljhpnmaaGreat

/- table.Valid of a table whose zones are flat. -/
namespace Go.Proofs.YtbdkalpljhpnmaaGreat
open Go Go.RowKit

/-- table.Valid under way. -/
structure TV (w : World) (cs : Array Value) (A : Option Addr) (zs : List ZeV) (W : World) : Prop where
  row : Row W w.heap.size cs
  mem : ZesAt W w.heap.size A zs
  up : Below w.heap.size w W
theorem TV.below {w W W' : World} {cs : Array Value} {A : Option Addr} {zs : List ZeV} (h : TV w cs A zs W) (hb : Below W.heap.size W W') : TV w cs A zs W' :=
  ⟨h.row.keep hb, h.mem.keep (hb.mono h.up.size), below_trans h.up hb⟩
def lastName (zs : List ZeV) : Nat → ByteArray
  | 0 => ⟨#[]⟩
  | k + 1 => (zs[k]?.map (·.e.name)).getD ⟨#[]⟩
theorem run_equalIn_bytes' (w : World) (r : List UInt8) (h : r.length = 32) : (Op.equalIn 10000 29 (.agg (r.map Extern.Stop.cell).toArray) (.agg (r.map Extern.Stop.cell).toArray)).run Tryz.prog w = .ok true w := by
  rw [run_equalIn_bytes w 9998 29 5 32 Tryz.underlying29 Tryz.underlying5 (fun w => size_u8 w) r r h h, beq_self_eq_true]
/-- The names rise. -/
def NamesUp (zs : List ZeV) : Prop := ∀ k x, zs[k]? = some x → Op.bytesLess x.e.name.toList (lastName zs k).toList = false ∧ (x.e.name.toList == (lastName zs k).toList) = false
attribute [local go_sem] tb_get0 tb_get1 tb_get2 tb_get3
set_option maxRecDepth 10000 in
set_option maxHeartbeats 1000000 in
theorem tableValid_flat (t : Tb) (A : Option Addr) (n c : Nat) (zs : List ZeV) (w : World) (h : TbFlat t) (hz : t.zones = zs.map (·.e)) (hn : zs.length = n) (hA : ZesAt w w.heap.size A zs) (hup : NamesUp zs) :
    Calls Tryz.prog 17 #[.agg (tbVal t (.slice A n c))] w (Gives (I 0) w) := by
  have HR0 := Lib.hid (Row.new w (tbVal t (.slice A n c)) 47)
  have HB0 := Lib.hid (below_var w (.cells (tbVal t (.slice A n c)) 47))
  have k0 := HR0.out.2
  have q1 := h.issuer.1
  have q2 := h.issuer.2
  have q3 := h.version.1
  have q4 := h.version.2
  have q5 := h.withdraws.1
  have q6 := h.withdraws.2
  have q7 : ¬ (128 : Int) < (n : Int) := by
    have := h.num
    rw [hz, List.length_map, hn] at this
    omega
  have HF := Lib.hid h
  have HZ := Lib.hid hz
  have HV0 : Hid (TV w (tbVal t (.slice A n c)) A zs (w.alloc (.cells (tbVal t (.slice A n c)) 47))) := Lib.hid ⟨HR0.out, hA.keep HB0.out, HB0.out⟩
  have HNN := Lib.hid hn
  have HUP := Lib.hid hup
  clear h hz hA hn HR0 HB0 hup
  by_cases hv : t.version = 1
  · have hpz : t.prev = zero32 := HF.out.first hv
    have hneq : ∀ W, (binOp .neq 29 (.agg (refCells t.prev).toArray) (.agg (refCells zero32).toArray)).run Tryz.prog W = .ok (.bool false) W := fun W => by
      rw [hpz]
      unfold refCells
      rw [run_neq_struct, Go.Proofs.YtbdkalpljhpnmaaGreat.run_equalIn_bytes' W zero32 rfl]
      simp [Result.andThen]
    have h32 : (Tryz.prog.info? 29).map (·.size) = some (refCells t.prev).length := by rw [show (refCells t.prev).length = 32 by simp [refCells, HF.out.prev]]; kernel_rfl
    have HP := Lib.hid (tb_prev t (.slice A n c) HV0.out.row)
    have H32 := Lib.hid h32
    clear hpz h32
    rw [zero32_cells] at hneq
    go_enter Tryz.func17, Tryz.ntmps17
    go_wp2_with (with_reducible refine g_load 29 ?_; refine wpList_load_Mid rfl _ _ rfl w.heap.size 4 rfl (refCells t.prev) HP.out _ Tryz.underlying29 rfl H32.out ?_)
    clear hneq
    go_loopw [3, 56] (fun l i wr => ∃ k : Nat, k ≤ n ∧ l = .string (lastName zs k) ∧ i = I k ∧ TV w (tbVal t (.slice A n c)) A zs wr) (fun _ i _ => n - (intOf i).toNat)
    case atStart => exact ⟨0, Nat.zero_le _, rfl, rfl, HV0.out⟩
    case round =>
      obtain ⟨k, hk, rfl, rfl, htv⟩ := hrel
      have HV := Lib.hid htv
      have k1 := htv.row.2
      have hlt1 := htv.row.1
      clear htv HV0 k0
      by_cases hlt : k < n
      · have hkz : k < zs.length := by rw [HNN.out]; exact hlt
        obtain ⟨x, hx⟩ : ∃ x, zs[k]? = some x := ⟨_, List.getElem?_eq_getElem hkz⟩
        obtain ⟨b, rfl, hbl, hr, hi⟩ : ∃ b, A = some ⟨b, 0, none⟩ ∧ b < w.heap.size ∧ wr.rangeAt b (k * 9) x.cells.toList ∧ IntsAt wr w.heap.size x.s.A x.e.z.cal.months := by
          rcases HV.out.mem with h | ⟨b, h1, h2, h3⟩
          · omega
          · exact ⟨b, h1, h2, h3 k x hx⟩
        have i0 : (0 : Int) ≤ (k : Int) := by omega
        have i1 : (k : Int) < (n : Int) := by omega
        have c0 : wr.cell? ⟨b, k * 9, none⟩ = some (.string x.e.name) := hr 0 _ rfl
        have c1 : wr.cell? ⟨b, k * 9 + 1, none⟩ = some (I x.e.z.cal.epoch) := hr 1 _ rfl
        have c2 : wr.cell? ⟨b, k * 9 + 2, none⟩ = some (.slice x.s.A x.e.z.cal.months.length x.s.a) := hr 2 _ rfl
        have c3 : wr.cell? ⟨b, k * 9 + 3, none⟩ = some (I x.e.z.cal.leap) := hr 3 _ rfl
        have c4 : wr.cell? ⟨b, k * 9 + 4, none⟩ = some (.slice x.s.B x.e.z.cal.rules.length x.s.b) := hr 4 _ rfl
        have c5 : wr.cell? ⟨b, k * 9 + 5, none⟩ = some (I x.e.z.start) := hr 5 _ rfl
        have c6 : wr.cell? ⟨b, k * 9 + 6, none⟩ = some (.slice x.s.C x.e.z.trans.length x.s.c) := hr 6 _ rfl
        have c7 : wr.cell? ⟨b, k * 9 + 7, none⟩ = some (I x.e.z.hor) := hr 7 _ rfl
        have c8 : wr.cell? ⟨b, k * 9 + 8, none⟩ = some (.slice x.s.D x.e.z.yearly.length x.s.d) := hr 8 _ rfl
        have HX := Lib.hid hx
        have HI := Lib.hid hi
        have hxm : x.e ∈ t.zones := by rw [HZ.out]; exact List.mem_map_of_mem (List.mem_of_getElem? hx)
        have HFL := Lib.hid (HF.out.flat _ hxm)
        have q8 : ¬ (32 : Int) < (x.e.name.size : Int) := by have := HF.out.short _ hxm; omega
        obtain ⟨s1, s2⟩ := HUP.out k x hx
        obtain ⟨L, hL⟩ : ∃ L, lastName zs k = L := ⟨_, rfl⟩
        have HZV : Hid (∀ w', Below wr.heap.size wr w' → Calls Tryz.prog 30 #[.agg #[I x.e.z.cal.epoch, .slice x.s.A x.e.z.cal.months.length x.s.a, I x.e.z.cal.leap, .slice x.s.B x.e.z.cal.rules.length x.s.b, I x.e.z.start, .slice x.s.C x.e.z.trans.length x.s.c, I x.e.z.hor, .slice x.s.D x.e.z.yearly.length x.s.d]] w' (Gives (I 0) w')) := Lib.hid fun w' hb =>
          zoneValid_flat x.e.z x.s w' HFL.out (((HI.out.more HV.out.up.size).keep hb).more hb.size)
        rw [hL] at s1 s2 ⊢
        have hlb : b < wr.heap.size := by omega
        have HB2 := Lib.hid (below_var wr (.cells x.cells 73))
        have HNX : Hid (lastName zs (k + 1) = x.e.name) := Lib.hid (by show (zs[k]?.map (·.e.name)).getD ⟨#[]⟩ = _; rw [hx]; rfl)
        clear hx hr hi hxm hkz hL
        go_wp2_with fail
        refine (HZV.out _ HB2.out).mono ?_
        rintro e w2 ⟨rfl, hb2⟩
        have HV2 := Lib.hid (HV.out.below (below_trans HB2.out hb2))
        have d0 : w2.cell? ⟨wr.heap.size, 0, none⟩ = some (.string x.e.name) := ((Row.new wr x.cells 73).keep hb2).2 0
        clear hb2 c0 c1 c2 c3 c4 c5 c6 c7 c8 k1 HZV
        go_wp2_with fail
        go_roundw
        case rel => exact ⟨k + 1, by omega, by rw [HNX.out], by go_num, HV2.out⟩
        case measure => simp [intOf]; omega
      · go_wp2_with fail
        go_ret
        exact ⟨rfl, HV.out.up⟩
  · go_enter Tryz.func17, Tryz.ntmps17
    go_wp2_with fail
    go_loopw [3, 56] (fun l i wr => ∃ k : Nat, k ≤ n ∧ l = .string (lastName zs k) ∧ i = I k ∧ TV w (tbVal t (.slice A n c)) A zs wr) (fun _ i _ => n - (intOf i).toNat)
    case atStart => exact ⟨0, Nat.zero_le _, rfl, rfl, HV0.out⟩
    case round =>
      obtain ⟨k, hk, rfl, rfl, htv⟩ := hrel
      have HV := Lib.hid htv
      have k1 := htv.row.2
      have hlt1 := htv.row.1
      clear htv HV0 k0
      by_cases hlt : k < n
      · have hkz : k < zs.length := by rw [HNN.out]; exact hlt
        obtain ⟨x, hx⟩ : ∃ x, zs[k]? = some x := ⟨_, List.getElem?_eq_getElem hkz⟩
        obtain ⟨b, rfl, hbl, hr, hi⟩ : ∃ b, A = some ⟨b, 0, none⟩ ∧ b < w.heap.size ∧ wr.rangeAt b (k * 9) x.cells.toList ∧ IntsAt wr w.heap.size x.s.A x.e.z.cal.months := by
          rcases HV.out.mem with h | ⟨b, h1, h2, h3⟩
          · omega
          · exact ⟨b, h1, h2, h3 k x hx⟩
        have i0 : (0 : Int) ≤ (k : Int) := by omega
        have i1 : (k : Int) < (n : Int) := by omega
        have c0 : wr.cell? ⟨b, k * 9, none⟩ = some (.string x.e.name) := hr 0 _ rfl
        have c1 : wr.cell? ⟨b, k * 9 + 1, none⟩ = some (I x.e.z.cal.epoch) := hr 1 _ rfl
        have c2 : wr.cell? ⟨b, k * 9 + 2, none⟩ = some (.slice x.s.A x.e.z.cal.months.length x.s.a) := hr 2 _ rfl
        have c3 : wr.cell? ⟨b, k * 9 + 3, none⟩ = some (I x.e.z.cal.leap) := hr 3 _ rfl
        have c4 : wr.cell? ⟨b, k * 9 + 4, none⟩ = some (.slice x.s.B x.e.z.cal.rules.length x.s.b) := hr 4 _ rfl
        have c5 : wr.cell? ⟨b, k * 9 + 5, none⟩ = some (I x.e.z.start) := hr 5 _ rfl
        have c6 : wr.cell? ⟨b, k * 9 + 6, none⟩ = some (.slice x.s.C x.e.z.trans.length x.s.c) := hr 6 _ rfl
        have c7 : wr.cell? ⟨b, k * 9 + 7, none⟩ = some (I x.e.z.hor) := hr 7 _ rfl
        have c8 : wr.cell? ⟨b, k * 9 + 8, none⟩ = some (.slice x.s.D x.e.z.yearly.length x.s.d) := hr 8 _ rfl
        have HX := Lib.hid hx
        have HI := Lib.hid hi
        have hxm : x.e ∈ t.zones := by rw [HZ.out]; exact List.mem_map_of_mem (List.mem_of_getElem? hx)
        have HFL := Lib.hid (HF.out.flat _ hxm)
        have q8 : ¬ (32 : Int) < (x.e.name.size : Int) := by have := HF.out.short _ hxm; omega
        obtain ⟨s1, s2⟩ := HUP.out k x hx
        obtain ⟨L, hL⟩ : ∃ L, lastName zs k = L := ⟨_, rfl⟩
        have HZV : Hid (∀ w', Below wr.heap.size wr w' → Calls Tryz.prog 30 #[.agg #[I x.e.z.cal.epoch, .slice x.s.A x.e.z.cal.months.length x.s.a, I x.e.z.cal.leap, .slice x.s.B x.e.z.cal.rules.length x.s.b, I x.e.z.start, .slice x.s.C x.e.z.trans.length x.s.c, I x.e.z.hor, .slice x.s.D x.e.z.yearly.length x.s.d]] w' (Gives (I 0) w')) := Lib.hid fun w' hb =>
          zoneValid_flat x.e.z x.s w' HFL.out (((HI.out.more HV.out.up.size).keep hb).more hb.size)
        rw [hL] at s1 s2 ⊢
        have hlb : b < wr.heap.size := by omega
        have HB2 := Lib.hid (below_var wr (.cells x.cells 73))
        have HNX : Hid (lastName zs (k + 1) = x.e.name) := Lib.hid (by show (zs[k]?.map (·.e.name)).getD ⟨#[]⟩ = _; rw [hx]; rfl)
        clear hx hr hi hxm hkz hL
        go_wp2_with fail
        refine (HZV.out _ HB2.out).mono ?_
        rintro e w2 ⟨rfl, hb2⟩
        have HV2 := Lib.hid (HV.out.below (below_trans HB2.out hb2))
        have d0 : w2.cell? ⟨wr.heap.size, 0, none⟩ = some (.string x.e.name) := ((Row.new wr x.cells 73).keep hb2).2 0
        clear hb2 c0 c1 c2 c3 c4 c5 c6 c7 c8 k1 HZV
        go_wp2_with fail
        go_roundw
        case rel => exact ⟨k + 1, by omega, by rw [HNX.out], by go_num, HV2.out⟩
        case measure => simp [intOf]; omega
      · go_wp2_with fail
        go_ret
        exact ⟨rfl, HV.out.up⟩
end Go.Proofs.YtbdkalpljhpnmaaGreat

/- table.whole with the writer; table.Bytes at tables with flat zones. -/
namespace Go.Proofs.YtbdkalpljhpnmaaGreat
open Go Go.RowKit

attribute [local go_sem] m_w_number n_w_number m_w_offset n_w_offset m_w_text n_w_text m_w_digest n_w_digest m_w_length n_w_length
theorem cloned_own (t : Tb) (A : Option Addr) (c lo : Nat) (zs : List ZeV) (w : World) (hz : ∀ x ∈ zs, ZnFlat x.e.z) (hn1 : zs.length ≤ 128) (h32 : t.prev.length = 32) (hm : t.mac.length = 32) (hO : ZsOwn lo w (.slice A zs.length c) zs) :
    Calls Tryz.prog 21 #[.agg (tbVal t (.slice A zs.length c))] w (ClT w t zs) := by
  rcases hO.form with ⟨h1, h2⟩ | ⟨h1, g, c', h2, h3, h4⟩
  · subst h1
    rw [h2]
    exact cloned_none t h32 hm w
  · injection h2 with e1 e2 e3
    subst e1 e3
    exact cloned_some t g c zs.length zs w (fun x hx => ⟨hz x hx, hO.nils x hx⟩) rfl h1 hn1 h32 hm (fun j u hu => own_cell hO.row j u hu) h4 (fun x hx => (hO.months x hx).ints)
def zsBytes (zs : List Ze) : List UInt8 := zs.flatMap zeBytes
theorem zsBytes_snoc (zs : List Ze) (x : Ze) : zsBytes (zs ++ [x]) = zsBytes zs ++ zeBytes x := by simp [zsBytes]
theorem zsBytes_len (zs : List Ze) (h : ∀ e ∈ zs, ZnFlat e.z ∧ e.name.size ≤ 32) : (zsBytes zs).length ≤ zs.length * 69 := by
  induction zs with
  | nil => exact Nat.zero_le _
  | cons x zs ih =>
    have h1 := ih fun e he => h e (List.mem_cons_of_mem _ he)
    have h2 := zeBytes_length x (h x List.mem_cons_self).1 (h x List.mem_cons_self).2
    unfold zsBytes at h1 ⊢
    rw [List.flatMap_cons, List.length_append, List.length_cons]
    omega
def WzRel (w : World) (g : Nat) (v : Value) (bs : List UInt8) (n : Nat) (zs : List Ze) (i : Value) (wr : World) : Prop :=
  ∃ k : Nat, k ≤ n ∧ i = .int .i64 k ∧ ∃ v', TWSt wr g v' (bs ++ (le n 1 ++ zsBytes (zs.take k))) ∧ WKeep g v w v' wr
set_option maxRecDepth 10000 in
set_option maxHeartbeats 1000000 in
theorem wlistZe_none (w : World) (g lb lo : Nat) (A : Option Addr) (c : Nat) (v : Value) (bs : List UInt8) (hp : w.cell? ⟨lb, lo, none⟩ = some (.slice A 0 c)) (hl : bs.length ≤ 100000000) (hst : TWSt w g v bs) :
    Calls Tryz.prog 41 #[.iface 81 (pt g), .pointer (some ⟨lb, lo, none⟩), I 1, .func (.func 42) #[] #[]] w (TwPost w g v (bs ++ le 0 1)) := by
  have HC := Lib.hid (tlength_any w.drew g v bs 0 1 (by omega) (by omega) (by omega) (by omega) hst.drew)
  clear hst
  go_enter Tryz.func41, Tryz.ntmps41
  go_wp2_with fail
  go_still_tail 9, (by kernel_rfl)
  go_wp2_with fail
  refine HC.out.mono ?_
  rintro e w1 ⟨rfl, v1, hs1, hk1⟩
  have HS1 := Lib.hid hs1
  have HK1 := Lib.hid (wkeep_drew hk1)
  clear hs1 hk1 HC hp
  go_wp2_with fail
  go_loop [22] (fun i => i = .int .i64 0) (fun _ => 0)
  case atStart => rfl
  case round =>
    subst hrel
    go_wp2_with fail
    go_end0
    exact ⟨rfl, v1, HS1.out, HK1.out⟩
set_option maxRecDepth 10000 in
set_option maxHeartbeats 2000000 in
theorem wlistZe_some (w : World) (g lb lo zg n c : Nat) (zs : List ZeV) (v : Value) (bs : List UInt8) (hn : zs.length = n) (hn2 : n ≤ 128) (hp : w.cell? ⟨lb, lo, none⟩ = some (.slice (some ⟨zg, 0, none⟩) n c)) (hlg : lb < g) (hzg : zg < g)
    (hcl : ∀ j u, (zecells zs)[j]? = some u → w.cell? ⟨zg, j, none⟩ = some u) (hfz : ∀ j, w.frozen? ⟨zg, j, none⟩ = false) (hfl : ∀ x ∈ zs, ZnFlat x.e.z ∧ x.e.name.size ≤ 32) (hI : ∀ x ∈ zs, IntsAt w g x.s.A x.e.z.cal.months)
    (hl : bs.length ≤ 1000000) (hst : TWSt w g v bs) :
    Calls Tryz.prog 41 #[.iface 81 (pt g), .pointer (some ⟨lb, lo, none⟩), I 1, .func (.func 42) #[] #[]] w (TwPost w g v (bs ++ (le n 1 ++ zsBytes (zs.map (·.e))))) := by
  have HC := Lib.hid (tlength_any w.drew g v bs n 1 (by omega) (by omega) (by omega) (by omega) hst.drew)
  have HST := Lib.hid hst
  have HN := Lib.hid hn
  have HF := Lib.hid hfl
  have HCL := Lib.hid hcl
  have HFZ := Lib.hid hfz
  have HI := Lib.hid hI
  have HP := Lib.hid hp
  have hgl := hst.lt
  clear hst hn hfl hcl hfz hI
  go_enter Tryz.func41, Tryz.ntmps41
  go_wp2_with fail
  go_still_tail 9, (by kernel_rfl)
  go_wp2_with fail
  refine HC.out.mono ?_
  rintro e w1 ⟨rfl, v1, hs1, hk1⟩
  have HS1 := Lib.hid hs1
  have HK1 := Lib.hid (wkeep_drew hk1)
  clear hs1 hk1 HC hp
  go_wp2_with fail
  go_loopw [22] (fun i wr => WzRel w g v bs n (zs.map (·.e)) i wr) (fun i _ => n - (intOf i).toNat)
  case atStart => exact ⟨0, Nat.zero_le _, rfl, v1, by simpa [zsBytes] using HS1.out, HK1.out⟩
  case round =>
    obtain ⟨k, hk, rfl, v2, hs2, hk2⟩ := hrel
    have hb2 := tw_below HST.out hk2
    have HB2 := Lib.hid hb2
    have HS2 := Lib.hid hs2
    have HK2 := Lib.hid hk2
    have hp2 : wr.cell? ⟨lb, lo, none⟩ = some (.slice (some ⟨zg, 0, none⟩) n c) := (hb2.cell (p := ⟨lb, lo, none⟩) hlg).trans HP.out
    clear hs2 hk2 hb2 HS1 HK1
    by_cases hlt : k < n
    · have hkz : k < zs.length := by rw [HN.out]; exact hlt
      obtain ⟨x, hx⟩ : ∃ x, zs[k]? = some x := ⟨_, List.getElem?_eq_getElem hkz⟩
      have hxm := List.mem_of_getElem? hx
      have hlen : (bs ++ (le (n : Int) 1 ++ zsBytes ((zs.map (·.e)).take k))).length ≤ 9000000 := by
        have h1 := zsBytes_len ((zs.map (·.e)).take k) fun e he => by
          obtain ⟨y, hy, rfl⟩ := List.mem_map.1 (List.mem_of_mem_take he)
          exact HF.out y hy
        have h2 : ((zs.map (·.e)).take k).length ≤ 128 := by rw [List.length_take, List.length_map, HN.out]; omega
        simp only [List.length_append, le_length]
        omega
      have HM := Lib.hid (wentry_flat wr g zg (k * 9) x v2 _ (HF.out x hxm).1 (HF.out x hxm).2 (fun j u hu => (HB2.out.cell (p := ⟨zg, k * 9 + j, none⟩) hzg).trans (HCL.out _ _ (by
        have hj : j < 9 := (List.getElem?_eq_some_iff.1 hu).1
        rw [zecells_get zs k j x hx hj]
        simpa using hu))) ((HB2.out.frozen (p := ⟨zg, k * 9 + 1 + 2, none⟩) hzg).trans (HFZ.out _)) hzg ((HI.out x hxm).keep HB2.out) hlen HS2.out)
      have HX := Lib.hid hx
      have i0 : (0 : Int) ≤ (k : Int) := by omega
      have i1 : (k : Int) < (n : Int) := by omega
      have i2 : ((k : Int) == (n : Int)) = false := by simp; omega
      clear hkz hx hlen hxm
      go_wp2_with fail
      refine HM.out.mono ?_
      rintro e w3 ⟨rfl, v3, hs3, hk3⟩
      have HS3 := Lib.hid hs3
      have HK3 := Lib.hid (HK2.out.trans hk3)
      clear hs3 hk3 hp2
      go_wp2_with fail
      go_roundw
      case rel => exact ⟨k + 1, by omega, by go_num, v3, by rw [take_next (zs.map (·.e)) k x.e (by rw [List.getElem?_map, HX.out]; rfl), zsBytes_snoc, ← List.append_assoc (le _ _), ← List.append_assoc]; exact HS3.out, HK3.out⟩
      case measure => simp [intOf]; omega
    · have hkn : k = n := by omega
      have HKN := Lib.hid hkn
      clear hkn
      go_wp2_with fail
      go_end0
      exact ⟨rfl, v2, by have h := HS2.out; rwa [HKN.out, List.take_of_length_le (by rw [List.length_map, HN.out]; exact Nat.le_refl _)] at h, HK2.out⟩
/-- Zones in memory older than block g. -/
structure ZsLow (g : Nat) (w : World) (A : Option Addr) (zs : List ZeV) : Prop where
  row : zs.length = 0 ∨ ∃ zg, A = some ⟨zg, 0, none⟩ ∧ zg < g ∧ (∀ j u, (zecells zs)[j]? = some u → w.cell? ⟨zg, j, none⟩ = some u) ∧ ∀ j, w.frozen? ⟨zg, j, none⟩ = false
  months : ∀ x ∈ zs, IntsAt w g x.s.A x.e.z.cal.months
theorem ZsLow.keep {g : Nat} {w w' : World} {A : Option Addr} {zs : List ZeV} (h : ZsLow g w A zs) (hb : Below g w w') : ZsLow g w' A zs :=
  ⟨h.row.elim .inl fun ⟨zg, h1, h2, h3, h4⟩ => .inr ⟨zg, h1, h2, fun j u hu => (hb.cell (p := ⟨zg, j, none⟩) h2).trans (h3 j u hu), fun j => (hb.frozen (p := ⟨zg, j, none⟩) h2).trans (h4 j)⟩, fun x hx => (h.months x hx).keep hb⟩
theorem ZsLow.more {g g' : Nat} {w : World} {A : Option Addr} {zs : List ZeV} (h : ZsLow g w A zs) (hg : g ≤ g') : ZsLow g' w A zs :=
  ⟨h.row.elim .inl fun ⟨zg, h1, h2, h3⟩ => .inr ⟨zg, h1, by omega, h3⟩, fun x hx => (h.months x hx).more hg⟩
theorem ZsOwn.low {lo n c : Nat} {w : World} {A : Option Addr} {zs : List ZeV} (h : ZsOwn lo w (.slice A n c) zs) : ZsLow w.heap.size w A zs := by
  refine ⟨?_, fun x hx => (h.months x hx).ints⟩
  rcases h.form with ⟨h1, _⟩ | ⟨_, g, c', h2, _, h4⟩
  · exact .inl (by rw [h1]; rfl)
  · injection h2 with e1 e2 e3
    subst e1 e2
    exact .inr ⟨g, rfl, h4, fun j u hu => own_cell h.row j u hu, own_free h.row⟩
def tbBytes (t : Tb) : List UInt8 := le t.issuer 1 ++ (le t.version 1 ++ (le t.withdraws 1 ++ (t.prev ++ (le t.zones.length 1 ++ zsBytes t.zones))))
theorem tbBytes_len (t : Tb) (h : TbFlat t) : 36 ≤ (tbBytes t).length ∧ (tbBytes t).length ≤ 9000 := by
  have h1 := zsBytes_len t.zones fun e he => ⟨h.flat e he, h.short e he⟩
  have h2 := h.num
  have h3 := h.prev
  simp only [tbBytes, List.length_append, le_length]
  omega
set_option maxRecDepth 10000 in
theorem wlistZe_low (w : World) (g lb lo n c : Nat) (A : Option Addr) (zs : List ZeV) (v : Value) (bs : List UInt8) (hn : zs.length = n) (hn2 : n ≤ 128) (hp : w.cell? ⟨lb, lo, none⟩ = some (.slice A n c)) (hlg : lb < g) (hz : ZsLow g w A zs) (hfl : ∀ x ∈ zs, ZnFlat x.e.z ∧ x.e.name.size ≤ 32)
    (hl : bs.length ≤ 1000000) (hst : TWSt w g v bs) :
    Calls Tryz.prog 41 #[.iface 81 (pt g), .pointer (some ⟨lb, lo, none⟩), I 1, .func (.func 42) #[] #[]] w (TwPost w g v (bs ++ (le n 1 ++ zsBytes (zs.map (·.e))))) := by
  by_cases h0 : n = 0
  · subst h0
    have := wlistZe_none w g lb lo A c v bs hp (by omega) hst
    rw [List.eq_nil_of_length_eq_zero hn]
    simpa [zsBytes] using this
  · rcases hz.row with h | ⟨zg, rfl, h2, h3, h4⟩
    · omega
    · exact wlistZe_some w g lb lo zg n c zs v bs hn hn2 hp hlg h2 h3 h4 hfl hz.months hl hst
attribute [local go_sem] tb_get0 tb_get1 tb_get2 tb_get3
set_option maxRecDepth 10000 in
set_option maxHeartbeats 2000000 in
theorem wwhole_flat (w : World) (g tb n c : Nat) (t : Tb) (A : Option Addr) (zs : List ZeV) (v : Value) (h : TbFlat t) (hzz : t.zones = zs.map (·.e)) (hn : zs.length = n) (htb : tb < g) (hr : Row w tb (tbVal t (.slice A n c))) (hz : ZsLow g w A zs) (hst : TWSt w g v []) :
    Calls Tryz.prog 26 #[.iface 81 (pt g), .pointer (some ⟨tb, 0, none⟩)] w (TwPost w g v (tbBytes t)) := by
  have hgl := hst.lt
  have c0 := hr.2 0
  have c1 : w.cell? ⟨tb, 1, none⟩ = some (I t.version) := (hr.2 1).trans (tb_get1 _ _)
  have c2 : w.cell? ⟨tb, 2, none⟩ = some (I t.withdraws) := (hr.2 2).trans (tb_get2 _ _)
  have c3 : w.cell? ⟨tb, 3, none⟩ = some (.slice A n c) := (hr.2 3).trans (tb_get3 _ _)
  have hn2 : n ≤ 128 := by have := h.num; rw [hzz, List.length_map] at this; omega
  have q1 := h.issuer
  have q2 := h.version
  have q3 := h.withdraws
  have HC1 := Lib.hid (tnumber_any w.drew g ⟨tb, 0, none⟩ v [] t.issuer 1 (by omega) (by omega) (by omega) (by decide) hst.lt hst.drew (c0.trans (tb_get0 _ _)))
  have HPV := Lib.hid (tb_prev t (.slice A n c) hr)
  have HST := Lib.hid hst
  have HF := Lib.hid h
  have HZ := Lib.hid hz
  have HZZ := Lib.hid hzz
  have HN := Lib.hid hn
  have HCC : Hid (∀ j u, Below g w u → u.cell? ⟨tb, j, none⟩ = w.cell? ⟨tb, j, none⟩) := Lib.hid fun j u hb => hb.cell (p := ⟨tb, j, none⟩) htb
  have HFL : Hid (∀ x ∈ zs, ZnFlat x.e.z ∧ x.e.name.size ≤ 32) := Lib.hid fun x hx => by
    have hm : x.e ∈ t.zones := by rw [hzz]; exact List.mem_map_of_mem hx
    exact ⟨h.flat _ hm, h.short _ hm⟩
  clear h hr hst hz hzz hn c0
  go_enter Tryz.func26, Tryz.ntmps26
  go_wp2_with fail
  go_still_tail 7, (by kernel_rfl)
  go_wp2_with fail
  refine HC1.out.mono ?_
  rintro e w1 ⟨rfl, v1, hs1, hk1⟩
  obtain ⟨B1, hB1⟩ : ∃ B, [] ++ le t.issuer 1 = B := ⟨_, rfl⟩
  have hl1 : B1.length ≤ 1 := by rw [← hB1]; simp [le_length]
  rw [hB1] at hs1
  have hb1 := tw_below HST.out (wkeep_drew hk1)
  have HB1 := Lib.hid hb1
  have HS1 := Lib.hid hs1
  have HK1 := Lib.hid (wkeep_drew hk1)
  have HQ1 := Lib.hid hB1
  have HC2 := Lib.hid (tnumber_any w1.drew g ⟨tb, 1, none⟩ v1 B1 t.version 1 (by omega) (by omega) (by omega) (by omega) hs1.lt hs1.drew ((HCC.out _ _ hb1).trans c1))
  clear hs1 hk1 hb1 HC1 hB1 c1
  go_wp2_with fail
  go_still_tail 7, (by kernel_rfl)
  go_wp2_with fail
  refine HC2.out.mono ?_
  rintro e w2 ⟨rfl, v2, hs2, hk2⟩
  obtain ⟨B2, hB2⟩ : ∃ B, B1 ++ le t.version 1 = B := ⟨_, rfl⟩
  have hl2 : B2.length ≤ 2 := by rw [← hB2, List.length_append, le_length]; omega
  rw [hB2] at hs2
  have hb2 := HB1.out.trans (tw_below HS1.out (wkeep_drew hk2))
  have HB2 := Lib.hid hb2
  have HS2 := Lib.hid hs2
  have HK2 := Lib.hid (HK1.out.trans (wkeep_drew hk2))
  have HQ2 := Lib.hid hB2
  have HC3 := Lib.hid (tnumber_any w2.drew g ⟨tb, 2, none⟩ v2 B2 t.withdraws 1 (by omega) (by omega) (by omega) (by omega) hs2.lt hs2.drew ((HCC.out _ _ hb2).trans c2))
  clear hs2 hk2 hb2 HC2 hB2 c2
  go_wp2_with fail
  go_still_tail 7, (by kernel_rfl)
  go_wp2_with fail
  refine HC3.out.mono ?_
  rintro e w3 ⟨rfl, v3, hs3, hk3⟩
  obtain ⟨B3, hB3⟩ : ∃ B, B2 ++ le t.withdraws 1 = B := ⟨_, rfl⟩
  have hl3 : B3.length ≤ 3 := by rw [← hB3, List.length_append, le_length]; omega
  rw [hB3] at hs3
  have hb3 := HB2.out.trans (tw_below HS2.out (wkeep_drew hk3))
  have HB3 := Lib.hid hb3
  have HS3 := Lib.hid hs3
  have HK3 := Lib.hid (HK2.out.trans (wkeep_drew hk3))
  have HQ3 := Lib.hid hB3
  have HC4 := Lib.hid (tdigest_any w3.drew g tb 4 v3 B3 t.prev (by omega) (fun j u hu => (HCC.out _ _ hb3).trans (HPV.out j u hu)) HF.out.prev hs3.drew)
  clear hs3 hk3 hb3 HC3 hB3
  go_wp2_with fail
  go_still_tail 7, (by kernel_rfl)
  go_wp2_with fail
  refine HC4.out.mono ?_
  rintro e w4 ⟨rfl, v4, hs4, hk4⟩
  obtain ⟨B4, hB4⟩ : ∃ B, B3 ++ t.prev = B := ⟨_, rfl⟩
  have hl4 : B4.length ≤ 35 := by rw [← hB4, List.length_append, HF.out.prev]; omega
  rw [hB4] at hs4
  have hb4 := HB3.out.trans (tw_below HS3.out (wkeep_drew hk4))
  have HS4 := Lib.hid hs4
  have HK4 := Lib.hid (HK3.out.trans (wkeep_drew hk4))
  have HQ4 := Lib.hid hB4
  have HC5 := Lib.hid (wlistZe_low w4 g tb 3 n c A zs v4 B4 HN.out hn2 ((HCC.out _ _ hb4).trans c3) htb (HZ.out.keep hb4) HFL.out (by omega) hs4)
  clear hs4 hk4 hb4 HC4 hB4 c3
  go_wp2_with fail
  refine HC5.out.mono ?_
  rintro e w5 ⟨rfl, v5, hs5, hk5⟩
  have HS5 := Lib.hid hs5
  have HK5 := Lib.hid (HK4.out.trans hk5)
  clear hs5 hk5 HC5
  go_wp2_with fail
  go_end0
  refine ⟨rfl, v5, ?_, HK5.out⟩
  have hh := HS5.out
  rw [← HQ4.out, ← HQ3.out, ← HQ2.out, ← HQ1.out] at hh
  unfold tbBytes
  rw [HZZ.out, List.length_map, HN.out]
  simpa only [List.append_assoc, List.nil_append] using hh
end Go.Proofs.YtbdkalpljhpnmaaGreat

/- table.list of zones and table.whole with the reader, at flat zones. -/
namespace Go.Proofs.YtbdkalpljhpnmaaGreat
open Go Go.RowKit

attribute [local go_sem] m_r_number n_r_number m_r_offset n_r_offset m_r_text n_r_text m_r_digest n_r_digest m_r_length n_r_length
theorem set_end (ls bs : List Value) (j : Nat) (v : Value) (hj : j < bs.length) : (ls ++ bs).set (ls.length + j) v = ls ++ bs.set j v := by
  have h := set_mid ls bs [] j v hj
  rw [List.append_nil, List.append_nil] at h
  exact h
def entL (xs : List Value) (eo : Nat) (e : Ze) (A : Option Addr) (a : Nat) : List Value :=
  (((((xs.set eo (.string e.name)).set (eo + 1) (I e.z.cal.epoch)).set (eo + 1 + 1) (.slice A e.z.cal.months.length a)).set (eo + 1 + 2) (I (-1))).set (eo + 1 + 4) (I e.z.start)).set (eo + 1 + 6) (I e.z.hor)
theorem entL_take (cs : Array Value) (eo m : Nat) (e : Ze) (A : Option Addr) (a : Nat) : (entCells cs eo e A a).toList.take m = entL (cs.toList.take m) eo e A a := by
  unfold entCells entL
  simp only [Array.toList_setIfInBounds, List.take_set]
theorem entL_new (ys : List ZeV) (x : Ze) (hx : ZnFlat x.z) (A : Option Addr) (a : Nat) : entL (zecells ys ++ zZe.toList) (ys.length * 9) x A a = zecells (ys ++ [⟨x, ⟨A, a, none, 0, none, 0, none, 0⟩⟩]) := by
  rw [zecells_app]
  unfold entL
  rw [← zecells_len]
  have h9 : zZe.toList.length = 9 := rfl
  have e0 : (zecells ys).length = (zecells ys).length + 0 := rfl
  rw [e0, set_end _ _ 0 _ (by omega), Nat.add_zero, set_end _ _ 1 _ (by simp [h9])]
  rw [show (zecells ys).length + 1 + 1 = (zecells ys).length + 2 from rfl, set_end _ _ 2 _ (by simp [h9])]
  rw [show (zecells ys).length + 1 + 2 = (zecells ys).length + 3 from rfl, set_end _ _ 3 _ (by simp [h9])]
  rw [show (zecells ys).length + 1 + 4 = (zecells ys).length + 5 from rfl, set_end _ _ 5 _ (by simp [h9])]
  rw [show (zecells ys).length + 1 + 6 = (zecells ys).length + 7 from rfl, set_end _ _ 7 _ (by simp [h9])]
  congr 1
  unfold zecells ZeV.cells zZe
  simp [hx.cal.le, hx.cal.ru, hx.trans, hx.yearly]
theorem own_ent {W W' : World} {lo g n m cap rb eo : Nat} {xs : List Value} {e : Ze} {A : Option Addr} {a : Nat} {cur : Array Value} (h : W.ownsRow lo 73 9 (.slice (some ⟨g, 0, none⟩) n cap) m xs) (hg : W.heap[g]? = some (.cells cur 73 (0, 0))) (hp : TPut W rb g 73 (entCells cur eo e A a) W') :
    W'.ownsRow lo 73 9 (.slice (some ⟨g, 0, none⟩) n cap) m (entL xs eo e A a) := by
  obtain ⟨cur', h1, h2, h3, h4, h5, h6, h7, rfl⟩ := own_inv h
  rw [hg] at h1
  injection h1 with h1
  injection h1 with h1
  subst h1
  refine own_mk hp.tgt h2 h3 h4 ?_ (by rw [entL_take, h6]) (by unfold entL; simp only [List.length_set]; exact h7)
  unfold entCells
  simp only [Array.size_setIfInBounds]
  exact h5
def RzRel (M : Nat) (w : World) (rb pb po : Nat) (t : TypeId) (cs : Array Value) (n : Nat) (zs : List Ze) (R : List UInt8) (i : Value) (wr : World) : Prop :=
  ∃ (k : Nat) (A : Option Addr) (c : Nat) (ys : List ZeV), k ≤ n ∧ i = .int .i64 k ∧ ys.length = k ∧ ys.map (·.e) = zs.take k ∧ TRd M wr rb (zsBytes (zs.drop k) ++ R) ∧ TPut w rb pb t (cs.setIfInBounds po (.slice A k c)) wr ∧
    wr.ownsRow w.heap.size 73 9 (.slice A k c) k (zecells ys) ∧ (∀ y ∈ ys, ZsNil y.s ∧ ∃ g, A = some ⟨g, 0, none⟩ ∧ LX w.heap.size g wr y.s.A y.e.z.cal.months) ∧ (k = 0 → A = none ∧ c = 0)
def TZeR (M : Nat) (w : World) (rb pb po : Nat) (t : TypeId) (cs : Array Value) (zs : List Ze) (n : Nat) (R : List UInt8) (e : Ending) (w' : World) : Prop :=
  e = .returned (.tuple #[]) ∧ ∃ A c ys, TRd M w' rb R ∧ TPut w rb pb t (cs.setIfInBounds po (.slice A n c)) w' ∧ ZsOwn w.heap.size w' (.slice A n c) ys ∧ ys.map (·.e) = zs
set_option maxRecDepth 10000 in
set_option maxHeartbeats 4000000 in
theorem trlistZe (M : Nat) (w : World) (rb pb po n : Nat) (t : TypeId) (cs : Array Value) (zs : List Ze) (R : List UInt8) (hn : zs.length = n) (hn2 : n ≤ 128) (hfl : ∀ x ∈ zs, ZnFlat x.z ∧ x.name.size ≤ 32) (hr : TRd M w rb ((le n 1 ++ zsBytes zs) ++ R)) (hp : w.heap[pb]? = some (.cells cs t (0, 0))) (hpo : cs[po]? = some (.slice none 0 0)) (hMp : M ≤ pb) (hne : pb ≠ rb) :
    Calls Tryz.prog 41 #[.iface 120 (pt rb), .pointer (some ⟨pb, po, none⟩), I 1, .func (.func 42) #[] #[]] w (TZeR M w rb pb po t cs zs n R) := by
  rw [List.append_assoc] at hr
  have hpl : pb < w.heap.size := (Array.getElem?_eq_some_iff.1 hp).1
  have hlo := hr.lo
  have hrl := hr.lt
  have hcs : cs.setIfInBounds po (.slice none 0 0) = cs := by
    apply Array.ext_getElem?
    intro i
    rw [Array.getElem?_setIfInBounds]
    split
    · rename_i e; subst e
      split
      · exact hpo.symm
      · rename_i e2; rw [Array.getElem?_eq_none (by omega)] at hpo; cases hpo
    · rfl
  have hc0 : w.cell? ⟨pb, po, none⟩ = some (.slice none 0 0) := (cell_of_row w pb po _ _ _ hp).trans hpo
  have hpos : po < cs.size := (Array.getElem?_eq_some_iff.1 hpo).1
  have HC := Lib.hid (trlength_le M w.drew rb 1 0 n n (zsBytes zs ++ R) hr.drew (by omega) (rdN_1 _ (by omega) (by omega) _))
  have HP : Hid (TPut w rb pb t (cs.setIfInBounds po (.slice none 0 0)) w) := Lib.hid (by rw [hcs]; exact TPut.refl hp)
  have HN := Lib.hid hn
  have HF := Lib.hid hfl
  clear hr hp hpo hcs hn hfl
  obtain ⟨i0, hi, hz0, hz1, hz2⟩ := info_parts info_ze
  go_enter Tryz.func41, Tryz.ntmps41
  go_wp2_with fail
  go_still_tail 9, (by kernel_rfl)
  go_wp2_with fail
  refine HC.out.mono ?_
  rintro e w1 ⟨rfl, hr1, hk1⟩
  have HR1 := Lib.hid hr1
  have HP1 := Lib.hid (HP.out.drew.mkeep hk1 hpl hne)
  clear hr1 hk1 HC hc0
  go_wp2_with fail
  go_loopw [22] (fun i wr => RzRel M w rb pb po t cs n zs R i wr) (fun i _ => n - (intOf i).toNat)
  case atStart => exact ⟨0, none, 0, [], Nat.zero_le _, rfl, rfl, rfl, HR1.out, HP1.out, World.ownsRow_nil _ _ _ _, (fun _ h => nomatch h), fun _ => ⟨rfl, rfl⟩⟩
  case round =>
    obtain ⟨k, A, c, ys, hk, rfl, hyl, hye, hr, hp, hown, hym, hnl⟩ := hrel
    have HR := Lib.hid hr
    have HPP := Lib.hid hp
    have HO := Lib.hid hown
    have HYL := Lib.hid hyl
    have HYE := Lib.hid hye
    have HYM := Lib.hid hym
    have HNL := Lib.hid hnl
    have hcp : wr.cell? ⟨pb, po, none⟩ = some (.slice A k c) := (hp.cell po).trans (by simp [hpos])
    have hsw := hp.size
    clear hr hp hown hyl hye hym hnl HR1 HP1 HP
    by_cases hlt : k < n
    · have i0' : (0 : Int) ≤ (k : Int) := by omega
      have i1 : (k : Int) < (n : Int) := by omega
      have hkz : k < zs.length := by rw [HN.out]; exact hlt
      obtain ⟨x, hx⟩ : ∃ x, zs[k]? = some x := ⟨_, List.getElem?_eq_getElem hkz⟩
      have hxf := HF.out x (List.mem_of_getElem? hx)
      have HX := Lib.hid hx
      have HXF := Lib.hid hxf
      clear hx hxf
      have HNEW : Hid (∀ j u, zZe.toList[j]? = some u → (((wr.alloc (.cells zZe 73)).alloc (.cells zZe 73)).drew).cell? ((⟨wr.heap.size + 1, 0, none⟩ : Addr).add j) = some u) := Lib.hid fun j u hu => by
        rw [addr_add]
        have h := (Row.new (wr.alloc (.cells zZe 73)) zZe 73).2 j
        rw [World.size_alloc] at h
        exact h.trans (by simpa using hu)
      have HONE : Hid (∀ u ∈ zZe.toList, u.oneCell' = true) := Lib.hid (by
        intro u hu
        have h : zZe.all (·.oneCell') = true := by kernel_rfl
        rw [Array.all_eq_true_iff_forall_mem] at h
        exact h u (by simpa using hu))
      have hplw : pb < wr.heap.size := by omega
      have hmx : k + 1 ≤ maxLen := by unfold maxLen; omega
      have hby : (k + 1) * 144 ≤ 140737488355328 := by omega
      have HBS : Hid (w.heap.size ≤ (((wr.alloc (.cells zZe 73)).alloc (.cells zZe 73)).drew).heap.size) := Lib.hid (by simp; omega)
      have HSZ : Hid ((((wr.alloc (.cells zZe 73)).alloc (.cells zZe 73)).drew).heap.size = wr.heap.size + 2) := Lib.hid (by simp)
      have HOO : Hid ((((wr.alloc (.cells zZe 73)).alloc (.cells zZe 73)).drew).ownsRow w.heap.size 73 9 (.slice A k c) k (zecells ys)) := Lib.hid ((HO.out.alloc _).alloc _).drew
      have HLOW : Hid (∀ b, b < wr.heap.size → (((wr.alloc (.cells zZe 73)).alloc (.cells zZe 73)).drew).heap[b]? = wr.heap[b]?) := Lib.hid fun b hb => (Below.heap_alloc (wr.alloc (.cells zZe 73)) _ b (by simp; omega)).trans (Below.heap_alloc wr _ b hb)
      go_wp2_with fail
      go_region_law (refine step_append_lies _ (by rfl) _ _ _ (by rfl) w.heap.size 73 i0 (.agg zZe) 9 144 Tryz.underlying45 hi hz0 hz1 hz2 (by rfl) (by omega) (.slice A k c) k (zecells ys) (by rfl) HOO.out ⟨wr.heap.size + 1, 0, none⟩ 1 1 zZe.toList (by rfl) (by rfl) HNEW.out HONE.out (by omega) hmx hby HBS.out (wr.heap.size + 2) HSZ.out ?_; intro g2 c2 w2 hown2 hgrow2 hat2 hlt2; have hbw : ∀ b, b < w.heap.size → w2.heap[b]? = wr.heap[b]? := fun b hb => (hgrow2.block b (Nat.lt_of_lt_of_eq (show b < wr.heap.size + 2 by omega) HSZ.out.symm) (own_ge HO.out b hb)).trans (HLOW.out b (by omega)); have HP2 : Hid (w2.heap[pb]? = some (.cells (cs.setIfInBounds po (.slice A k c)) t (0, 0))) := Lib.hid ((hbw pb hpl).trans HPP.out.tgt); have hcp2 : w2.cell? ⟨pb, po, none⟩ = some (.slice A k c) := (cell_of_row w2 pb po _ _ _ HP2.out).trans (by simp [hpos]); have hfp2 := frozen_of_row w2 pb po _ _ HP2.out; have HBW := Lib.hid hbw; have HO2 := Lib.hid hown2; have HG2 := Lib.hid hgrow2; have HA2 := Lib.hid hat2; clear hbw hown2 hgrow2 hat2)
      all_goals
        have hs2 : wr.heap.size + 2 ≤ w2.heap.size := Nat.le_trans (Nat.le_of_eq HSZ.out.symm) HG2.out.size
        have hkeep : ∀ b, b < wr.heap.size → some b ≠ (Value.slice A k c).ownBlock → w2.heap[b]? = wr.heap[b]? := fun b hb hne => (HG2.out.block b (Nat.lt_of_lt_of_eq (show b < wr.heap.size + 2 by omega) HSZ.out.symm) hne).trans (HLOW.out b hb)
        have hlo2 := own_low HO2.out
        have hP3 : TPut w rb pb t (cs.setIfInBounds po (.slice (some ⟨g2, 0, none⟩) (k + 1) c2)) (w2.setCell ⟨pb, po, none⟩ (.slice (some ⟨g2, 0, none⟩) (k + 1) c2)) := by
          have h : TPut w rb pb t (cs.setIfInBounds po (.slice A k c)) w2 := ⟨HG2.out.os.trans HPP.out.os, HG2.out.tape.trans HPP.out.tape, HG2.out.output.trans HPP.out.output, by omega, fun b hb h1 h2 => (HBW.out b hb).trans (HPP.out.block b hb h1 h2), HP2.out⟩
          have h := h.put po (.slice (some ⟨g2, 0, none⟩) (k + 1) c2)
          rwa [Array.setIfInBounds_setIfInBounds] at h
        have hR3 : TRd M (w2.setCell ⟨pb, po, none⟩ (.slice (some ⟨g2, 0, none⟩) (k + 1) c2)) rb (zsBytes (zs.drop k) ++ R) := (HR.out.of (HBW.out rb hrl) fun b hb => HBW.out b (by omega)).put hMp hne _
        have hO3 : (w2.setCell ⟨pb, po, none⟩ (.slice (some ⟨g2, 0, none⟩) (k + 1) c2)).ownsRow w.heap.size 73 9 (.slice (some ⟨g2, 0, none⟩) (k + 1) c2) (k + 1) (zecells ys ++ zZe.toList) := ownsRow_far (p := ⟨pb, po, none⟩) HO2.out (by intro e; injection e with e; simp only at e; omega)
        have hM3 : ∀ y ∈ ys, ZsNil y.s ∧ LX w.heap.size g2 (w2.setCell ⟨pb, po, none⟩ (.slice (some ⟨g2, 0, none⟩) (k + 1) c2)) y.s.A y.e.z.cal.months := by
          intro y hy
          obtain ⟨h1, g, hA, b, off, b1, b2, b3, b4, b5⟩ := HYM.out y hy
          have hne1 : some b ≠ (Value.slice A k c).ownBlock := by
            rw [hA]
            intro e
            injection e with e
            exact b4 e
          refine ⟨h1, b, off, b1, b2, by simp [World.setCell]; omega, ?_, fun j hj => ?_⟩
          · rcases HA2.out with h | h
            · rw [hA] at h
              injection h with h
              intro e
              exact b4 (e.trans h.symm)
            · omega
          · exact (World.cell?_of_block (a := ⟨b, off + j, none⟩) ((heap_setCell_other w2 _ b _ (by show b ≠ pb; omega)).trans (hkeep b b3 hne1))).trans (b5 j hj)
        have HP3 := Lib.hid hP3
        have HR3 := Lib.hid hR3
        have HO3 := Lib.hid hO3
        have HM3 := Lib.hid hM3
        clear hkeep hP3 hR3 hO3 hM3 HP2 HBW HO2 HG2 HA2 hcp
        go_wp2_with fail
        obtain ⟨w3, hw3⟩ : ∃ W, w2.setCell ⟨pb, po, none⟩ (.slice (some ⟨g2, 0, none⟩) (k + 1) c2) = W := ⟨_, rfl⟩
        rw [hw3] at HP3 HR3 HO3 HM3 ⊢
        obtain ⟨cur, q1, q2, q3, q4, q5, q6, q7, _⟩ := own_inv HO3.out
        have hcz : zsBytes (zs.drop k) ++ R = zeBytes x ++ (zsBytes (zs.drop (k + 1)) ++ R) := by
          have hd : zs.drop k = x :: zs.drop (k + 1) := by
            rw [List.drop_eq_getElem_cons hkz]
            have h := HX.out
            rw [List.getElem?_eq_getElem hkz] at h
            injection h with h
            rw [h]
          rw [hd]
          simp [zsBytes]
        have hr3 := HR3.out
        rw [hcz] at hr3
        have hzz : ∀ j, j < 9 → cur[k * 9 + j]? = zZe[j]? := fun j hj => by
          have h : (cur.toList.take ((k + 1) * 9))[k * 9 + j]? = (zecells ys ++ zZe.toList)[k * 9 + j]? := by rw [q6]
          rw [List.getElem?_take_of_lt (by omega), List.getElem?_append_right (by rw [zecells_len, HYL.out]; omega), zecells_len, HYL.out, show k * 9 + j - k * 9 = j by omega] at h
          simpa using h
        refine (trentry_flat M w3 rb g2 (k * 9) 73 cur x _ HXF.out.1 HXF.out.2 hr3 q1 hzz (by omega) (by omega)).mono ?_
        rintro e w4 ⟨rfl, A4, a4, hr4, hp4, ho4⟩
        have hO4 := own_ent HO3.out q1 hp4
        rw [← HYL.out, entL_new ys x HXF.out.1 A4 a4, HYL.out] at hO4
        have hP4 : TPut w rb pb t (cs.setIfInBounds po (.slice (some ⟨g2, 0, none⟩) (k + 1) c2)) w4 := ⟨hp4.os.trans HP3.out.os, hp4.tape.trans HP3.out.tape, hp4.output.trans HP3.out.output, Nat.le_trans HP3.out.size hp4.size, fun b hb h1 h2 => (hp4.block b (Nat.lt_of_lt_of_le hb HP3.out.size) (by omega) h2).trans (HP3.out.block b hb h1 h2), (hp4.block pb (Nat.lt_of_lt_of_le hpl HP3.out.size) (by omega) hne).trans HP3.out.tgt⟩
        have hs3 : w3.heap.size = w2.heap.size := by rw [← hw3]; simp [World.setCell]
        have hM4 : ∀ y ∈ ys ++ [(⟨x, ⟨A4, a4, none, 0, none, 0, none, 0⟩⟩ : ZeV)], ZsNil y.s ∧ ∃ g, (some ⟨g2, 0, none⟩ : Option Addr) = some ⟨g, 0, none⟩ ∧ LX w.heap.size g w4 y.s.A y.e.z.cal.months := by
          intro y hy
          rcases List.mem_append.1 hy with hy | hy
          · obtain ⟨h1, b, off, b1, b2, b3, b4, b5⟩ := HM3.out y hy
            exact ⟨h1, g2, rfl, b, off, b1, b2, Nat.lt_of_lt_of_le b3 hp4.size, b4, fun j hj => (World.cell?_of_block (a := ⟨b, off + j, none⟩) (hp4.block b b3 b4 (by omega))).trans (b5 j hj)⟩
          · rw [List.mem_singleton.1 hy]
            obtain ⟨g4, cc4, e4, _⟩ := own_form ho4 (by have := HXF.out.1.cal.mo.1; omega)
            injection e4 with e4 _ _
            subst e4
            exact ⟨⟨⟨rfl, rfl⟩, ⟨rfl, rfl⟩, ⟨rfl, rfl⟩⟩, g2, rfl, LX.of_own ho4 (by omega) (by omega)⟩
        have HR4 := Lib.hid hr4
        have HP4 := Lib.hid hP4
        have HO4 := Lib.hid hO4
        have HM4 := Lib.hid hM4
        have HE4 : Hid ((ys ++ [(⟨x, ⟨A4, a4, none, 0, none, 0, none, 0⟩⟩ : ZeV)]).map (·.e) = zs.take (k + 1)) := Lib.hid (by rw [List.map_append, HYE.out, take_next zs k x HX.out]; rfl)
        clear hr4 hp4 ho4 hO4 hP4 hM4 hr3 hcz q1 q2 q3 q4 q5 q6 q7 hw3 hcp2 hfp2 hzz
        go_wp2_with fail
        go_roundw
        case rel => exact ⟨k + 1, some ⟨g2, 0, none⟩, c2, _, by omega, by go_num, by rw [List.length_append, HYL.out]; rfl, HE4.out, HR4.out, HP4.out, HO4.out, HM4.out, fun h => by omega⟩
        case measure => simp [intOf]; omega
    · have hkn : k = n := by omega
      have HKN := Lib.hid hkn
      have hlt' : ¬ (k : Int) < (n : Int) := by omega
      clear hkn hlt hcp
      go_wp2_with fail
      go_end0
      refine ⟨rfl, A, c, ys, ?_, ?_, ⟨?_, fun y hy => ?_, fun y hy => (HYM.out y hy).1, fun h => ?_⟩, ?_⟩
      · have h := HR.out
        rw [HKN.out, List.drop_of_length_le (by rw [HN.out]; exact Nat.le_refl _)] at h
        exact h
      · have h := HPP.out
        rwa [HKN.out] at h
      · have h := HO.out
        rw [HKN.out] at h
        rw [HYL.out, HKN.out]
        exact h
      · obtain ⟨_, g, _, h⟩ := HYM.out y hy
        exact h.li
      · obtain ⟨h1, h2⟩ := HNL.out (HYL.out.symm.trans h)
        have h0 : n = 0 := by have := HYL.out; have := HKN.out; omega
        rw [h1, h2, h0]
      · rw [HYE.out, HKN.out, List.take_of_length_le (by rw [HN.out]; exact Nat.le_refl _)]
end Go.Proofs.YtbdkalpljhpnmaaGreat

/- table.whole with the reader, at flat zones. -/
namespace Go.Proofs.YtbdkalpljhpnmaaGreat
open Go Go.RowKit

attribute [local go_sem] m_r_number n_r_number m_r_offset n_r_offset m_r_text n_r_text m_r_digest n_r_digest m_r_length n_r_length
def zTb : Tb := ⟨0, 0, 0, zero32, zero32, []⟩
theorem zTb_cells : Tryz.zeroCells47 = tbVal zTb (.slice none 0 0) := by kernel_rfl
theorem tbVal_issuer (t : Tb) (v : Value) (n : Int) : (tbVal t v).setIfInBounds 0 (I n) = tbVal { t with issuer := n } v := by simp [tbVal, tbList]
theorem tbVal_version (t : Tb) (v : Value) (n : Int) : (tbVal t v).setIfInBounds 1 (I n) = tbVal { t with version := n } v := by simp [tbVal, tbList]
theorem tbVal_withdraws (t : Tb) (v : Value) (n : Int) : (tbVal t v).setIfInBounds 2 (I n) = tbVal { t with withdraws := n } v := by simp [tbVal, tbList]
theorem tbVal_prev (t : Tb) (v : Value) (xs : List UInt8) (h : t.prev.length = 32) (hx : xs.length = 32) : putRow (tbVal t v) 4 (refCells xs) = tbVal { t with prev := xs } v := by
  unfold putRow splice tbVal tbList
  have h1 : (refCells xs).length = 32 := by simp [refCells, hx]
  have h2 : (refCells t.prev).length = 32 := by simp [refCells, h]
  rw [h1]
  simp [h2]
def TWhR (M : Nat) (w : World) (rb tb : Nat) (t : Tb) (n : Nat) (R : List UInt8) (e : Ending) (w' : World) : Prop :=
  e = .returned (.tuple #[]) ∧ ∃ A c ys, TRd M w' rb R ∧ TPut w rb tb 47 (tbVal { t with mac := zero32 } (.slice A n c)) w' ∧ ZsOwn w.heap.size w' (.slice A n c) ys ∧ ys.map (·.e) = t.zones
set_option maxRecDepth 10000 in
set_option maxHeartbeats 4000000 in
theorem trwhole (M : Nat) (w : World) (rb tb n : Nat) (t : Tb) (R : List UInt8) (h : TbFlat t) (hn : t.zones.length = n) (hr : TRd M w rb (tbBytes t ++ R)) (hp : w.heap[tb]? = some (.cells (tbVal zTb (.slice none 0 0)) 47 (0, 0))) (hM : M ≤ tb) (hne : tb ≠ rb) :
    Calls Tryz.prog 26 #[.iface 120 (pt rb), .pointer (some ⟨tb, 0, none⟩)] w (TWhR M w rb tb t n R) := by
  have hel : tb < w.heap.size := (Array.getElem?_eq_some_iff.1 hp).1
  have hrw := hr.lt
  have hz : ∀ (u : Tb) (v : Value), u.prev.length = 32 → u.mac.length = 32 → (tbVal u v).size = 68 := fun u v h1 h2 => tb_size u v h1 h2
  have hr' : TRd M w.drew rb (le t.issuer 1 ++ (le t.version 1 ++ (le t.withdraws 1 ++ (t.prev ++ ((le n 1 ++ zsBytes t.zones) ++ R))))) := by
    have h := hr.drew
    unfold tbBytes at h
    rw [hn] at h
    simpa only [List.append_assoc] using h
  have q1 := h.issuer
  have q2 := h.version
  have q3 := h.withdraws
  have hn2 : n ≤ 128 := by have := h.num; omega
  have HC1 := Lib.hid (trnum_le M w.drew rb tb 0 1 47 _ t.issuer t.issuer _ hr' (by omega) (rdN_1 _ (by omega) (by omega) _) hp (by rw [hz _ _ rfl rfl]; decide) hM hne)
  have HF := Lib.hid h
  have HZ := Lib.hid hz
  have HN := Lib.hid hn
  clear h hr hr' hp hz hn
  unfold TWhR
  go_enter Tryz.func26, Tryz.ntmps26
  go_wp2_with fail
  go_still_tail 7, (by kernel_rfl)
  go_wp2_with fail
  refine HC1.out.mono ?_
  rintro e w1 ⟨rfl, hr1, hp1⟩
  rw [tbVal_issuer] at hp1
  have HP1 := Lib.hid hp1.of_drew
  have HC2 := Lib.hid (trnum_le M w1.drew rb tb 1 1 47 _ t.version t.version _ hr1.drew (by omega) (rdN_1 _ (by omega) (by omega) _) hp1.tgt (by rw [HZ.out _ _ rfl rfl]; decide) hM hne)
  clear hr1 hp1 HC1
  go_wp2_with fail
  go_still_tail 7, (by kernel_rfl)
  go_wp2_with fail
  refine HC2.out.mono ?_
  rintro e w2 ⟨rfl, hr2, hp2⟩
  rw [tbVal_version] at hp2
  have HP2 := Lib.hid (HP1.out.trans hp2.of_drew)
  have HC3 := Lib.hid (trnum_le M w2.drew rb tb 2 1 47 _ t.withdraws t.withdraws _ hr2.drew (by omega) (rdN_1 _ (by omega) (by omega) _) hp2.tgt (by rw [HZ.out _ _ rfl rfl]; decide) hM hne)
  clear hr2 hp2 HC2
  go_wp2_with fail
  go_still_tail 7, (by kernel_rfl)
  go_wp2_with fail
  refine HC3.out.mono ?_
  rintro e w3 ⟨rfl, hr3, hp3⟩
  rw [tbVal_withdraws] at hp3
  have HP3 := Lib.hid (HP2.out.trans hp3.of_drew)
  have HC4 := Lib.hid (trdigest_le M w3.drew rb tb 4 47 _ t.prev _ hr3.drew HF.out.prev hp3.tgt (by rw [HZ.out _ _ rfl rfl]; decide) hM hne)
  clear hr3 hp3 HC3
  go_wp2_with fail
  go_still_tail 7, (by kernel_rfl)
  go_wp2_with fail
  refine HC4.out.mono ?_
  rintro e w4 ⟨rfl, hr4, hp4⟩
  rw [tbVal_prev _ _ _ rfl HF.out.prev] at hp4
  have HP4 := Lib.hid (HP3.out.trans hp4.of_drew)
  have HC5 := Lib.hid (trlistZe M w4 rb tb 3 n 47 _ t.zones R HN.out hn2 (fun x hx => ⟨HF.out.flat x hx, HF.out.short x hx⟩) hr4 hp4.tgt (tb_get3 _ _) hM hne)
  clear hr4 hp4 HC4
  go_wp2_with fail
  refine HC5.out.mono ?_
  rintro e w5 ⟨rfl, A, c, ys, hr5, hp5, ho5, he5⟩
  rw [tbVal_zones] at hp5
  have HR5 := Lib.hid hr5
  have HP5 := Lib.hid (HP4.out.trans hp5)
  have HO5 := Lib.hid (ho5.lower HP4.out.size)
  have HE5 := Lib.hid he5
  clear hr5 hp5 ho5 he5 HC5
  go_wp2_with fail
  go_end0
  exact ⟨rfl, A, c, ys, HR5.out, HP5.out, HO5.out, HE5.out⟩
end Go.Proofs.YtbdkalpljhpnmaaGreat

/- table.Bytes at tables with flat zones. -/
namespace Go.Proofs.YtbdkalpljhpnmaaGreat
open Go Go.RowKit

def TbPost (w : World) (bs : List UInt8) (e : Ending) (w' : World) : Prop :=
  (∃ g c, e = .returned (.tuple #[.slice (some ⟨g, 0, none⟩) bs.length c, I 0]) ∧ w'.ownsRow w.heap.size 5 1 (.slice (some ⟨g, 0, none⟩) bs.length c) bs.length (bs.map Extern.Stop.cell)) ∧ Below w.heap.size w w'
set_option maxRecDepth 10000 in
set_option maxHeartbeats 2000000 in
theorem tableBytes_flat (t : Tb) (A : Option Addr) (n c lo : Nat) (zs : List ZeV) (w : World) (h : TbFlat t) (hzz : t.zones = zs.map (·.e)) (hn : zs.length = n) (hO : ZsOwn lo w (.slice A n c) zs) (hup : NamesUp zs) :
    Calls Tryz.prog 10 #[.agg (tbVal t (.slice A n c))] w (TbPost w (tbBytes t)) := by
  have HR0 := Lib.hid (Row.new w (tbVal t (.slice A n c)) 47)
  have HB0 := Lib.hid (below_var w (.cells (tbVal t (.slice A n c)) 47))
  have HH0 := Lib.hid (heap_alloc_last w (.cells (tbVal t (.slice A n c)) 47))
  have HSZ : Hid (∀ v, (Tryz.prog.info? 47).map (·.size) = some (tbVal t v).size) := Lib.hid fun v => tb_info t v h.prev h.mac
  have HSO : Hid (∀ u v, (tbVal t u).size = (tbVal t v).size) := Lib.hid fun u v => by rw [tb_size _ _ h.prev h.mac, tb_size _ _ h.prev h.mac]
  have HV : Hid (∀ W, Below w.heap.size w W → Calls Tryz.prog 17 #[.agg (tbVal t (.slice A n c))] W (Gives (I 0) W)) := Lib.hid fun W hb =>
    tableValid_flat t A n c zs W h hzz hn ((hO.below hb).zes) hup
  have HCL : Hid (∀ W, Below w.heap.size w W → Calls Tryz.prog 21 #[.agg (tbVal t (.slice A n c))] W (ClT W t zs)) := Lib.hid fun W hb => by
    have h2 : zs.length ≤ 128 := by have := h.num; rw [hzz, List.length_map] at this; exact this
    subst hn
    exact cloned_own t A c lo zs W (fun x hx => h.flat _ (by rw [hzz]; exact List.mem_map_of_mem hx)) h2 h.prev h.mac (hO.below hb)
  have HF := Lib.hid h
  have HZZ := Lib.hid hzz
  have HN := Lib.hid hn
  clear h hzz hn hO hup
  go_enter Tryz.func10, Tryz.ntmps10
  go_wp2_with (with_reducible refine g_load 47 ?_; refine wpList_load_Row rfl _ _ rfl w.heap.size rfl (tbVal t (.slice A n c)) HR0.out _ Tryz.underlying47 rfl (HSZ.out _) ?_)
  refine (HV.out _ HB0.out).mono ?_
  rintro e w1 ⟨rfl, hb1⟩
  have HR1 := Lib.hid (HR0.out.keep hb1)
  have HB1 := Lib.hid (below_trans HB0.out hb1)
  have HH1 : Hid (w1.heap[w.heap.size]? = some (.cells (tbVal t (.slice A n c)) 47 (0, 0))) := Lib.hid ((hb1.block _ (by simp)).trans HH0.out)
  clear hb1 HR0 HB0 HH0 HV
  go_wp2_with (with_reducible refine g_load 47 ?_; refine wpList_load_Row rfl _ _ rfl w.heap.size rfl (tbVal t (.slice A n c)) HR1.out _ Tryz.underlying47 rfl (HSZ.out _) ?_)
  refine (HCL.out _ HB1.out).mono ?_
  rintro e w2 ⟨A2, c2, zs2, rfl, hO2, he2, hb2⟩
  have HO2 := Lib.hid hO2
  have HE2 := Lib.hid he2
  have HH2 : Hid (w2.heap[w.heap.size]? = some (.cells (tbVal t (.slice A n c)) 47 (0, 0))) := Lib.hid ((hb2.block _ HR1.out.1).trans HH1.out)
  have HB2 := Lib.hid (below_trans HB1.out hb2)
  have hl1 : w.heap.size < w1.heap.size := HR1.out.1
  rw [HN.out]
  clear hO2 he2 hb2 HCL
  go_wp2_with (with_reducible refine g_store 47 ?_; refine wpList_store_row rfl _ _ _ rfl w.heap.size (tbVal t (.slice A2 n c2)) rfl rfl 47 (tbVal t (.slice A n c)) HH2.out (HSZ.out _) (HSO.out _ _) (tbVal_one _ _ _ _) ?_)
  have hw3 : (w2.setRow w.heap.size (tbVal t (.slice A2 n c2))).heap[w.heap.size]? = some (.cells (tbVal t (.slice A2 n c2)) 47 (0, 0)) := setRow_heap _ _ _ _ _ _ HH2.out
  have hs3 : (w2.setRow w.heap.size (tbVal t (.slice A2 n c2))).heap.size = w2.heap.size := by simp [World.setRow]
  have hb3 : Below w.heap.size w (w2.setRow w.heap.size (tbVal t (.slice A2 n c2))) := below_setRow HB2.out (Nat.le_refl _) _
  have hz3 : ZsOwn (w.heap.size + 1) (w2.setRow w.heap.size (tbVal t (.slice A2 n c2))) (.slice A2 n c2) zs2 := by
    have h1 := HO2.out
    rw [HN.out] at h1
    exact (h1.lower (by omega)).of_blocks (by rw [hs3]; exact Nat.le_refl _) fun k hk _ => setRow_other _ _ k _ (by omega)
  generalize w2.setRow w.heap.size (tbVal t (.slice A2 n c2)) = w3 at hw3 hs3 hb3 hz3 ⊢
  rw [← hs3]
  have hba := below_var w3 (.cells #[.slice none 0 0] 83)
  have hst : TWSt (w3.alloc (.cells #[.slice none 0 0] 83)) w3.heap.size (.slice none 0 0) [] := ⟨heap_alloc_last w3 _, World.ownsRow_nil _ _ _ _⟩
  have hn2 : zs2.length = n := by have := congrArg List.length HE2.out; simpa [HN.out] using this
  have hl3 : w.heap.size < w3.heap.size := (Array.getElem?_eq_some_iff.1 hw3).1
  refine (wwhole_flat (w3.alloc (.cells #[.slice none 0 0] 83)) w3.heap.size w.heap.size n c2 t A2 zs2 (.slice none 0 0) HF.out (by rw [HE2.out]; exact HZZ.out) hn2 hl3 ⟨by simp; omega, fun i => (hba.cell (p := ⟨w.heap.size, i, none⟩) hl3).trans (cell_of_row w3 _ i _ _ _ hw3)⟩ (hz3.low.keep hba) hst).mono ?_
  rintro e w4 ⟨rfl, v4, hs4, hk4⟩
  have hb4 : Below w.heap.size w w4 := (below_trans hb3 hba).trans ((tw_below hst hk4).mono (by omega))
  have hc4 : w4.cell? ⟨w3.heap.size, 0, none⟩ = some v4 := cell_of_row w4 _ 0 _ _ _ hs4.1
  have hlen := tbBytes_len t HF.out
  obtain ⟨g4, c4, rfl, hg4⟩ := own_form hs4.2 (by omega)
  have HB4 := Lib.hid hb4
  have HO4 := Lib.hid (ownsRow_base' hs4.2 (base' := w.heap.size) (by omega))
  clear hw3 hs3 hb3 hz3 hba hst hn2 hs4 hk4 hb4 hlen hg4
  go_wp2_with fail
  go_ret2
  exact ⟨⟨g4, c4, rfl, HO4.out⟩, HB4.out⟩
end Go.Proofs.YtbdkalpljhpnmaaGreat

/- bytes.Equal. -/
namespace Go.Proofs.YtbdkalpljhpnmaaGreat
open Go Go.RowKit

def strB (bs : List UInt8) : ByteArray := ⟨bs.toArray⟩
theorem strB_toList (xs : List UInt8) : (strB xs).toList = xs := by rw [Lib.toList_data]; rfl
theorem conv_bytes (A : Option Addr) (bs : List UInt8) (c : Nat) (w : World) (B : Nat) (h : BytesAt w B A bs) :
    (convert 23 9 (.slice A bs.length c)).run Tryz.prog w = .ok (.string (strB bs)) w := by
  have e : strB bs = strOfNums (bs.map fun x => (x.toNat : Int)) := by
    unfold strB strOfNums
    congr 1
    rw [List.map_map]
    congr 1
    rw [show ((fun n : Int => UInt8.ofNat n.toNat) ∘ fun x : UInt8 => (x.toNat : Int)) = id from by funext x; simp]
    simp
  rcases h with h | ⟨b, off, rfl, _, hc⟩
  · obtain rfl := List.eq_nil_of_length_eq_zero h
    exact run_convert_bytes_zero w _ _ Tryz.underlying23 Tryz.underlying5 A c _ Tryz.underlying9
  · rw [e]
    refine run_convert_bytes_arg w _ _ Tryz.underlying23 Tryz.underlying5 b off bs.length c _ (by simp) (fun i hi => ?_) _ Tryz.underlying9
    rw [hc i hi]
    simp [List.getD, hi, Extern.Stop.cell]
set_option maxRecDepth 10000 in
set_option maxHeartbeats 1000000 in
theorem bytesEqual_any (w : World) (A A' : Option Addr) (xs ys : List UInt8) (c d B B' : Nat) (h1 : BytesAt w B A xs) (h2 : BytesAt w B' A' ys) :
    Calls Tryz.prog 29 #[.slice A xs.length c, .slice A' ys.length d] w fun e w' => e = .returned (.bool (xs == ys)) ∧ w' = w := by
  have e1 := conv_bytes A xs c w B h1
  have e2 := conv_bytes A' ys d w B' h2
  clear h1 h2
  go_enter Tryz.func29, Tryz.ntmps29
  go_wp2
  go_ret
  exact ⟨by show Ending.returned (.bool ((strB xs).toList == (strB ys).toList)) = _; rw [strB_toList, strB_toList], rfl⟩
end Go.Proofs.YtbdkalpljhpnmaaGreat
