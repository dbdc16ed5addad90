/- The texts Rule, GS, Flds, SetN, Bnd, in this order. -/
import Derived.Test.YtenbgpcdoljkgaaGreatDoorG01
import Derived.Test.YtenbgpcdoljkgaaGreatDoorUses
import Derived.Test.YtenbgpcdoljkgaaGreatDoorSan
/- (*kalendsref07.Maker).Rule, walked. -/
namespace Go.Proofs.YtenbgpcdoljkgaaGreatDoor
open Go Go.RowKit

theorem RuleIs.lower {lo lo' : Nat} {w : World} {v : Value} {ns : List NdV} (h : RuleIs lo w v ns) (hl : lo' ≤ lo) : RuleIs lo' w v ns := ⟨ownsRow_base' h.row hl, fun x hx => (h.lists x hx).lower hl⟩
theorem RuleIs.put {lo : Nat} {w : World} {v : Value} {ns : List NdV} (h : RuleIs lo w v ns) (b o : Nat) (u : Value) (hb : b < lo) : RuleIs lo (w.setCell ⟨b, o, none⟩ u) v ns :=
  h.of_blocks (by simp [World.setCell]) fun k h1 _ => heap_setCell_other w _ k u (by show k ≠ b; omega)
theorem LI.put {lo : Nat} {w : World} {A : Option Addr} {zs : List Int} (h : LI lo w A zs) (b o : Nat) (u : Value) (hb : b < lo) : LI lo (w.setCell ⟨b, o, none⟩ u) A zs :=
  h.of_blocks (by simp [World.setCell]) fun k h1 _ => heap_setCell_other w _ k u (by show k ≠ b; omega)
theorem leaf_lr {cals : Int} {d : Nd} (h : LeafOK cals d) : 0 ≤ d.l ∧ d.l ≤ 2 ∧ 0 ≤ d.r ∧ d.r ≤ 2 := by
  obtain ⟨hr, h⟩ := h
  refine ⟨?_, ?_, by omega, by omega⟩ <;> (rcases h with h | h | h | h | h | h | h | h <;> omega)
theorem mk_cells {w : World} {mb : Nat} {xs : List Int} {a n : Nat} (h : MkSt w mb xs a n) : ∃ A c, w.cell? ⟨mb, 0, none⟩ = some (.slice A xs.length c) ∧ w.cell? ⟨mb, 1, none⟩ = some (I a) ∧ w.cell? ⟨mb, 3, none⟩ = some (I n) ∧ w.frozen? ⟨mb, 3, none⟩ = false := by
  obtain ⟨A, c, h1, _⟩ := h
  exact ⟨A, c, cell_of_row w mb 0 _ _ _ h1, cell_of_row w mb 1 _ _ _ h1, cell_of_row w mb 3 _ _ _ h1, frozen_of_row w mb 3 _ _ h1⟩
theorem pow_pos4 (n : Nat) : 0 < 4 ^ n := Nat.pow_pos (by decide)
theorem ruled_leaf {deep : Nat} {w w1 w2 : World} {mb at_ nodes a' : Nat} {xs : List Int} {cals : Int} {d : Nd} {A : Option Addr} {c q : Nat} (hk1 : MKeep mb w w1) (hl : Leafed (w1.drewN q) mb xs (at_ + 1) (nodes + 1) (LeafOK cals) (.returned (.agg (ndCells d A c))) w2) (hml : mb < w.heap.size)
    (hP : LeafOK cals d) (hli : LI (w1.drewN q).heap.size w2 A d.list) (hm2 : MkSt w2 mb xs a' (nodes + 1)) (ha : a' ≤ at_ + 1 + 12) (hk2 : MKeep mb (w1.drewN q) w2) :
    Ruled deep w.heap.size w mb xs at_ nodes cals (.returned (.slice (some ⟨w2.heap.size, 0, none⟩) 1 1)) (w2.alloc (.cells (ndCells d A c) 85)) := by
  have _ := hl
  have _ := hml
  have hs : w.heap.size ≤ w1.heap.size := hk1.size
  have h4 := pow_pos4 deep
  refine ⟨[⟨d, A, c⟩], _, a', nodes + 1, rfl, by simp, by simp; omega, MRule.leaf ⟨d, A, c⟩ hP, ?_, rule_one (x := ⟨d, A, c⟩) (Nat.le_trans hs hk2.size) (hli.lower hs), hm2.grow (below_var w2 _), by omega, by omega, ((hk1.draws q).trans hk2).trans (MKeep.of_below (below_var w2 _))⟩
  intro x hx
  rw [List.mem_singleton.1 hx]
  have := leaf_lr hP
  have h0 : (0 : Int) ≤ 1000 * (deep : Int) := by omega
  exact ⟨this.1, by show d.l ≤ _; omega, this.2.2.1, by show d.r ≤ _; omega⟩
theorem pow_le64 {deep : Nat} (h : deep ≤ 3) : 4 ^ deep ≤ 64 := Nat.pow_le_pow_right (by decide : 0 < 4) h
theorem ruled_two {deep lo1 : Nat} {w w5 : World} {mb at_ nodes a' n' : Nat} {xs : List Int} {cals : Int} {ns ms : List NdV} {x : NdV} {v : Value} (hdp : deep ≤ 3) (hn1 : 0 < ns.length) (hn2 : ns.length ≤ 4 ^ deep) (hm2 : ms.length ≤ 4 ^ deep)
    (rn : MRule cals ns) (rm : MRule cals ms) (hx : TwoOK x.d) (wn : Within (1000 * deep + 2) ns) (wm : Within (1000 * deep + 2) ms) (hr : RuleIs lo1 w5 v (bothN ns ms x)) (hlo : w.heap.size ≤ lo1) (hm : MkSt w5 mb xs a' n')
    (ha : a' ≤ at_ + 2 + 2 * (20 * 4 ^ deep)) (hn : n' ≤ nodes + 1 + 2 * 4 ^ deep) (hk : MKeep mb w w5) : Ruled (deep + 1) w.heap.size w mb xs at_ nodes cals (.returned v) w5 := by
  have h4 := pow_pos4 deep
  have h64 := pow_le64 hdp
  have hp : 4 ^ (deep + 1) = 4 * 4 ^ deep := by rw [Nat.pow_succ]; omega
  have hlen : (bothN ns ms x).length = ns.length + ms.length + 1 := by unfold bothN movedN; simp; omega
  refine ⟨bothN ns ms x, v, a', n', rfl, by omega, by omega, MRule.two ns ms x rn rm hx, wn.both wm (by rw [Int.natCast_add]; omega) hn1 (by rw [Int.natCast_add]; omega), hr.lower hlo, hm, by omega, by omega, hk⟩
theorem ruled_over {deep lo1 : Nat} {w w5 : World} {mb at_ nodes a' n' : Nat} {xs : List Int} {cals : Int} {ns : List NdV} {x : NdV} {v : Value} (hdp : deep ≤ 3) (hn1 : 0 < ns.length) (hn2 : ns.length ≤ 4 ^ deep)
    (rn : MRule cals ns) (hx : OneOK cals x.d) (wn : Within (1000 * deep + 2) ns) (hr : RuleIs lo1 w5 v (overN ns x)) (hlo : w.heap.size ≤ lo1) (hm : MkSt w5 mb xs a' n')
    (ha : a' ≤ at_ + 1 + 20 * 4 ^ deep + 8) (hn : n' ≤ nodes + 1 + 4 ^ deep) (hk : MKeep mb w w5) : Ruled (deep + 1) w.heap.size w mb xs at_ nodes cals (.returned v) w5 := by
  have h4 := pow_pos4 deep
  have h64 := pow_le64 hdp
  have hp : 4 ^ (deep + 1) = 4 * 4 ^ deep := by rw [Nat.pow_succ]; omega
  have hlen : (overN ns x).length = ns.length + 1 := by unfold overN; simp
  refine ⟨overN ns x, v, a', n', rfl, by omega, by omega, MRule.one ns x rn hx, wn.over (by rw [Int.natCast_add]; omega) hn1 (by rw [Int.natCast_add]; omega) hx.1, hr.lower hlo, hm, by omega, by omega, hk⟩
theorem NS.begin {w w2 : World} {mb a nd : Nat} {xs : List Int} {cs : Array Value} (hm : MkSt w2 mb xs a nd) (hml : mb < w.heap.size) (hk : MKeep mb w w2) : NS w w.heap.size mb xs a nd w2.heap.size cs (w2.alloc (.cells cs 85)) :=
  ⟨hml, Nat.le_refl _, hm.grow (below_var w2 _), hk.trans (MKeep.of_below (below_var w2 _)), hk.size, heap_alloc_last w2 _⟩
set_option maxRecDepth 10000 in
set_option maxHeartbeats 1000000 in
theorem rule_zero (xs : List Int) (hx : XsOK xs) (cals : Int) (hc1 : 0 < cals) (hc2 : cals ≤ 1000) (w : World) (mb at_ nodes : Nat) (h : MkSt w mb xs at_ nodes) (hat : at_ ≤ 1000000) (hnd : nodes ≤ 1000000) :
    Calls Tryz.prog 52 #[pt mb, I 0, I cals] w (Ruled 0 w.heap.size w mb xs at_ nodes cals) := by
  have hml := h.lt
  have HM0 : Hid (MkSt (w.setCell ⟨mb, 3, none⟩ (I ((nodes + 1 : Nat) : Int))) mb xs at_ (nodes + 1)) := Lib.hid (h.setNodes (nodes + 1))
  have HK0 := Lib.hid ((MKeep.refl mb w).set 3 (I ((nodes + 1 : Nat) : Int)))
  obtain ⟨A0, c0, e0, e1, e3, f3⟩ := mk_cells h
  clear h
  go_enter Tryz.func52, Tryz.ntmps52
  go_wp2_with fail
  clear e0 e1 e3 f3
  refine (pick_any (w.setCell ⟨mb, 3, none⟩ (I ((nodes + 1 : Nat) : Int))) mb xs at_ (nodes + 1) 14 HM0.out hx (by omega) (by omega) (by omega)).mono ?_
  rintro e w1 ⟨k, rfl, hk1, hk2, hm1, hkp1⟩
  have HM1 := Lib.hid hm1
  have HK1 := Lib.hid (HK0.out.trans hkp1)
  obtain ⟨A1, c1, d0, d1, d3, -⟩ := mk_cells hm1
  clear hm1 hkp1 HM0 HK0
  go_wp2_with fail
  go_quiet (fail)
  go_wp2_with fail
  refine (leaf_any _ mb xs (at_ + 1) (nodes + 1) cals (HM1.out.draws nq) hx (by omega) hc1 hc2).mono ?_
  rintro e w2 ⟨d, A, c, a', rfl, hP, hli, hm2, ha2, hk3⟩
  have HF : Hid (Ruled 0 w.heap.size w mb xs at_ nodes cals (.returned (.slice (some ⟨w2.heap.size, 0, none⟩) 1 1)) (w2.alloc (.cells (ndCells d A c) 85))) := Lib.hid (ruled_leaf HK1.out ⟨d, A, c, a', rfl, hP, hli, hm2, ha2, hk3⟩ hml hP hli hm2 ha2 hk3)
  clear hP hli hm2 ha2 hk3 d0 d1 d3
  go_wp2_with (with_reducible refine g_bslice 27 ?_; refine wpList_node_slice rfl _ rfl d A c rfl ?_)
  go_ret
  exact HF.out
set_option maxRecDepth 10000 in
set_option maxHeartbeats 4000000 in
theorem rule_step (xs : List Int) (hx : XsOK xs) (cals : Int) (hc1 : 0 < cals) (hc2 : cals ≤ 1000) (deep : Nat) (hdp : deep ≤ 3) (M : Nat) (hM : M ≤ 1000000) (IH : ∀ (w : World) (mb at_ nodes : Nat), MkSt w mb xs at_ nodes → at_ ≤ M → nodes ≤ M → Calls Tryz.prog 52 #[pt mb, I (deep : Int), I cals] w (Ruled deep w.heap.size w mb xs at_ nodes cals))
    (w : World) (mb at_ nodes : Nat) (h : MkSt w mb xs at_ nodes) (hat : at_ + 10000 ≤ M) (hnd : nodes + 10000 ≤ M) :
    Calls Tryz.prog 52 #[pt mb, I ((deep : Int) + 1), I cals] w (Ruled (deep + 1) w.heap.size w mb xs at_ nodes cals) := by
  have hml := h.lt
  have HM0 : Hid (MkSt (w.setCell ⟨mb, 3, none⟩ (I ((nodes + 1 : Nat) : Int))) mb xs at_ (nodes + 1)) := Lib.hid (h.setNodes (nodes + 1))
  have HK0 := Lib.hid ((MKeep.refl mb w).set 3 (I ((nodes + 1 : Nat) : Int)))
  obtain ⟨A0, c0, e0, e1, e3, f3⟩ := mk_cells h
  clear h
  go_enter Tryz.func52, Tryz.ntmps52
  go_wp2_with fail
  clear e0 e1 e3 f3
  refine (pick_any (w.setCell ⟨mb, 3, none⟩ (I ((nodes + 1 : Nat) : Int))) mb xs at_ (nodes + 1) 14 HM0.out hx (by omega) (by omega) (by omega)).mono ?_
  rintro e w1 ⟨k, rfl, hk1, hk2, hm1, hkp1⟩
  have HM1 := Lib.hid hm1
  have HK1 := Lib.hid (HK0.out.trans hkp1)
  obtain ⟨A1, c1, d0, d1, d3, -⟩ := mk_cells hm1
  clear hm1 hkp1 HM0 HK0
  have hd0 : ¬ ((deep : Int) + 1 ≤ 0) := by omega
  have dd0 : decide ((deep : Int) + 1 ≤ 0) = false := decide_eq_false hd0
  by_cases q1 : (xs.length : Int) < (at_ : Int) + 1
  · have dq1 : decide ((xs.length : Int) < (at_ : Int) + 1) = true := decide_eq_true q1
    go_wp2_with fail
    go_quiet (fail)
    go_wp2_with fail
    refine (leaf_any _ mb xs (at_ + 1) (nodes + 1) cals (HM1.out.draws nq) hx (by omega) hc1 hc2).mono ?_
    rintro e w2 ⟨d, A, c, a', rfl, hP, hli, hm2, ha2, hk3⟩
    have HF : Hid (Ruled (deep + 1) w.heap.size w mb xs at_ nodes cals (.returned (.slice (some ⟨w2.heap.size, 0, none⟩) 1 1)) (w2.alloc (.cells (ndCells d A c) 85))) := Lib.hid (ruled_leaf HK1.out ⟨d, A, c, a', rfl, hP, hli, hm2, ha2, hk3⟩ hml hP hli hm2 ha2 hk3)
    clear hP hli hm2 ha2 hk3 d0 d1 d3
    go_wp2_with (with_reducible refine g_bslice 27 ?_; refine wpList_node_slice rfl _ rfl d A c rfl ?_)
    go_ret
    exact HF.out
  · have dq1 : decide ((xs.length : Int) < (at_ : Int) + 1) = false := decide_eq_false q1
    by_cases q2 : (30 : Int) < (nodes : Int) + 1
    · have dq2 : decide ((30 : Int) < (nodes : Int) + 1) = true := decide_eq_true q2
      go_wp2_with fail
      go_quiet (fail)
      go_wp2_with fail
      refine (leaf_any _ mb xs (at_ + 1) (nodes + 1) cals (HM1.out.draws nq) hx (by omega) hc1 hc2).mono ?_
      rintro e w2 ⟨d, A, c, a', rfl, hP, hli, hm2, ha2, hk3⟩
      have HF : Hid (Ruled (deep + 1) w.heap.size w mb xs at_ nodes cals (.returned (.slice (some ⟨w2.heap.size, 0, none⟩) 1 1)) (w2.alloc (.cells (ndCells d A c) 85))) := Lib.hid (ruled_leaf HK1.out ⟨d, A, c, a', rfl, hP, hli, hm2, ha2, hk3⟩ hml hP hli hm2 ha2 hk3)
      clear hP hli hm2 ha2 hk3 d0 d1 d3
      go_wp2_with (with_reducible refine g_bslice 27 ?_; refine wpList_node_slice rfl _ rfl d A c rfl ?_)
      go_ret
      exact HF.out
    · have dq2 : decide ((30 : Int) < (nodes : Int) + 1) = false := decide_eq_false q2
      by_cases q3 : (10 : Int) ≤ k
      · have dq3 : decide ((10 : Int) ≤ k) = true := decide_eq_true q3
        go_wp2_with fail
        go_quiet (fail)
        go_wp2_with fail
        refine (leaf_any _ mb xs (at_ + 1) (nodes + 1) cals (HM1.out.draws nq) hx (by omega) hc1 hc2).mono ?_
        rintro e w2 ⟨d, A, c, a', rfl, hP, hli, hm2, ha2, hk3⟩
        have HF : Hid (Ruled (deep + 1) w.heap.size w mb xs at_ nodes cals (.returned (.slice (some ⟨w2.heap.size, 0, none⟩) 1 1)) (w2.alloc (.cells (ndCells d A c) 85))) := Lib.hid (ruled_leaf HK1.out ⟨d, A, c, a', rfl, hP, hli, hm2, ha2, hk3⟩ hml hP hli hm2 ha2 hk3)
        clear hP hli hm2 ha2 hk3 d0 d1 d3
        go_wp2_with (with_reducible refine g_bslice 27 ?_; refine wpList_node_slice rfl _ rfl d A c rfl ?_)
        go_ret
        exact HF.out
      · have dq3 : decide ((10 : Int) ≤ k) = false := decide_eq_false q3
        go_wp2_with fail
        go_quiet (fail)
        clear d0 d1 d3 dd0 dq1 dq2 dq3 q1 q2 hd0
        have HM2 := Lib.hid (HM1.out.draws nq)
        have HK2 := Lib.hid (HK1.out.draws nq)
        obtain ⟨w2, hw2⟩ : ∃ W, w1.drewN nq = W := ⟨_, rfl⟩
        rw [hw2] at HM2 HK2 ⊢
        clear hw2 HM1 HK1
        have hm2lt : mb < w2.heap.size := Nat.lt_of_lt_of_le hml HK2.out.size
        have hkc : k = 0 ∨ k = 1 ∨ k = 2 ∨ k = 3 ∨ k = 4 ∨ k = 5 ∨ k = 6 ∨ k = 7 ∨ k = 8 ∨ k = 9 := by omega
        clear hk1 hk2 q3
        rcases hkc with rfl | rfl | rfl | rfl | rfl | rfl | rfl | rfl | rfl | rfl
        · have n0 : Hid (NS w w.heap.size mb xs (at_ + 1) (nodes + 1) w2.heap.size #[I 8, I 0, I 0, I 0, I 0, I 0, .slice none 0 0, .string ⟨#[]⟩] (w2.alloc (.cells #[I 8, I 0, I 0, I 0, I 0, I 0, .slice none 0 0, .string ⟨#[]⟩] 85))) := Lib.hid (NS.begin HM2.out hml HK2.out)
          go_wp2_with fail
          refine (IH _ mb (at_ + 1) (nodes + 1) n0.out.mkr (by omega) (by omega)).mono ?_
          rintro e w3 ⟨ns, va, a3, m3, rfl, hl1, hl2, hmr, hwi, hru, hm3, ha3, hn3, hk3⟩
          rw [World.size_alloc] at hru
          have N1 := Lib.hid (n0.out.step hm3 hk3)
          have n1c := N1.out.cell
          have n1f := N1.out.froz
          have HRU := Lib.hid hru
          have HMR := Lib.hid hmr
          have HWI := Lib.hid hwi
          have h64 := pow_le64 hdp
          have ha3' : a3 + 10 ≤ M := by omega
          have hn3' : m3 + 10 ≤ M := by omega
          have HA3 := Lib.hid ha3
          have HN3 := Lib.hid hn3
          have hne : ns ≠ [] := by intro e; rw [e] at hl1; exact absurd hl1 (Nat.lt_irrefl _)
          have hl400 : ns.length ≤ 400 := by omega
          have HL2 := Lib.hid hl2
          clear hru hmr hwi hm3 hk3 ha3 hn3 hl2 h64
          go_wp2_with (go_at_call 80; refine (two_any _ _).mono ?_; rintro e w4 ⟨rfl, rfl⟩; rw [show twoB 8 = true from rfl])
          clear n1c n1f
          refine (IH _ mb a3 m3 N1.out.mkr (by omega) (by omega)).mono ?_
          rintro e w5 ⟨ms, vb, a5, m5, rfl, hb1, hb2, hmb, hwb, hrb, hm5, ha5, hn5, hk5⟩
          have N5 := Lib.hid (N1.out.step hm5 hk5)
          have HRU := Lib.hid (HRU.out.mkeep hk5 (by omega))
          have HRB := Lib.hid (hrb.lower (lo' := w2.heap.size + 1) N1.out.lt)
          have hme : ms ≠ [] := by intro e; rw [e] at hb1; exact absurd hb1 (Nat.lt_irrefl _)
          have h64 := pow_le64 hdp
          have hb400 : ms.length ≤ 400 := by omega
          have HMB := Lib.hid hmb
          have HWB := Lib.hid hwb
          have HB2 := Lib.hid hb2
          have HA5 := Lib.hid ha5
          have HN5 := Lib.hid hn5
          clear hmb hwb hrb hm5 ha5 hn5 hk5 hb2 h64
          have ND : Hid (NS w w.heap.size mb xs a5 m5 w2.heap.size (ndCells ⟨8, 0, 0, 0, 0, 0, [], ⟨#[]⟩⟩ none 0) w5) := Lib.hid N5.out
          go_wp2_with (with_reducible refine g_load 85 ?_; refine wpList_load_Row rfl _ _ rfl w2.heap.size rfl (ndCells ⟨8, 0, 0, 0, 0, 0, [], ⟨#[]⟩⟩ none 0) ND.out.row _ Tryz.underlying85 rfl (nd_size _ _ _) ?_)
          refine (both_any (w2.heap.size + 1) w5 va vb ns ms ⟨⟨8, 0, 0, 0, 0, 0, [], ⟨#[]⟩⟩, none, 0⟩ HRU.out hne HRB.out hme (HWB.out.small (by omega)) (.inl rfl) (by omega) (by omega) ND.out.lt).mono ?_
          rintro e w8 ⟨v8, rfl, hr8, hb8⟩
          have HF := Lib.hid (ruled_two (at_ := at_) (nodes := nodes) hdp hl1 HL2.out HB2.out HMR.out HMB.out (x := ⟨⟨8, 0, 0, 0, 0, 0, [], ⟨#[]⟩⟩, none, 0⟩) (⟨rfl, rfl, rfl, rfl, .inl ⟨.inl rfl, rfl⟩⟩) HWI.out HWB.out hr8 (Nat.le_succ_of_le ND.out.b0) (ND.out.mkr.grow hb8) (by have := HA3.out; have := HA5.out; omega) (by have := HN3.out; have := HN5.out; omega) (ND.out.keep.trans (MKeep.of_below hb8)))
          clear hr8 hb8
          go_wp2_with fail
          go_ret
          exact HF.out
        · have n0 : Hid (NS w w.heap.size mb xs (at_ + 1) (nodes + 1) w2.heap.size #[I 9, I 0, I 0, I 0, I 0, I 0, .slice none 0 0, .string ⟨#[]⟩] (w2.alloc (.cells #[I 9, I 0, I 0, I 0, I 0, I 0, .slice none 0 0, .string ⟨#[]⟩] 85))) := Lib.hid (NS.begin HM2.out hml HK2.out)
          go_wp2_with fail
          refine (IH _ mb (at_ + 1) (nodes + 1) n0.out.mkr (by omega) (by omega)).mono ?_
          rintro e w3 ⟨ns, va, a3, m3, rfl, hl1, hl2, hmr, hwi, hru, hm3, ha3, hn3, hk3⟩
          rw [World.size_alloc] at hru
          have N1 := Lib.hid (n0.out.step hm3 hk3)
          have n1c := N1.out.cell
          have n1f := N1.out.froz
          have HRU := Lib.hid hru
          have HMR := Lib.hid hmr
          have HWI := Lib.hid hwi
          have h64 := pow_le64 hdp
          have ha3' : a3 + 10 ≤ M := by omega
          have hn3' : m3 + 10 ≤ M := by omega
          have HA3 := Lib.hid ha3
          have HN3 := Lib.hid hn3
          have hne : ns ≠ [] := by intro e; rw [e] at hl1; exact absurd hl1 (Nat.lt_irrefl _)
          have hl400 : ns.length ≤ 400 := by omega
          have HL2 := Lib.hid hl2
          clear hru hmr hwi hm3 hk3 ha3 hn3 hl2 h64
          go_wp2_with (go_at_call 80; refine (two_any _ _).mono ?_; rintro e w4 ⟨rfl, rfl⟩; rw [show twoB 9 = true from rfl])
          clear n1c n1f
          refine (IH _ mb a3 m3 N1.out.mkr (by omega) (by omega)).mono ?_
          rintro e w5 ⟨ms, vb, a5, m5, rfl, hb1, hb2, hmb, hwb, hrb, hm5, ha5, hn5, hk5⟩
          have N5 := Lib.hid (N1.out.step hm5 hk5)
          have HRU := Lib.hid (HRU.out.mkeep hk5 (by omega))
          have HRB := Lib.hid (hrb.lower (lo' := w2.heap.size + 1) N1.out.lt)
          have hme : ms ≠ [] := by intro e; rw [e] at hb1; exact absurd hb1 (Nat.lt_irrefl _)
          have h64 := pow_le64 hdp
          have hb400 : ms.length ≤ 400 := by omega
          have HMB := Lib.hid hmb
          have HWB := Lib.hid hwb
          have HB2 := Lib.hid hb2
          have HA5 := Lib.hid ha5
          have HN5 := Lib.hid hn5
          clear hmb hwb hrb hm5 ha5 hn5 hk5 hb2 h64
          have ND : Hid (NS w w.heap.size mb xs a5 m5 w2.heap.size (ndCells ⟨9, 0, 0, 0, 0, 0, [], ⟨#[]⟩⟩ none 0) w5) := Lib.hid N5.out
          go_wp2_with (with_reducible refine g_load 85 ?_; refine wpList_load_Row rfl _ _ rfl w2.heap.size rfl (ndCells ⟨9, 0, 0, 0, 0, 0, [], ⟨#[]⟩⟩ none 0) ND.out.row _ Tryz.underlying85 rfl (nd_size _ _ _) ?_)
          refine (both_any (w2.heap.size + 1) w5 va vb ns ms ⟨⟨9, 0, 0, 0, 0, 0, [], ⟨#[]⟩⟩, none, 0⟩ HRU.out hne HRB.out hme (HWB.out.small (by omega)) (.inl rfl) (by omega) (by omega) ND.out.lt).mono ?_
          rintro e w8 ⟨v8, rfl, hr8, hb8⟩
          have HF := Lib.hid (ruled_two (at_ := at_) (nodes := nodes) hdp hl1 HL2.out HB2.out HMR.out HMB.out (x := ⟨⟨9, 0, 0, 0, 0, 0, [], ⟨#[]⟩⟩, none, 0⟩) (⟨rfl, rfl, rfl, rfl, .inl ⟨.inr (.inl rfl), rfl⟩⟩) HWI.out HWB.out hr8 (Nat.le_succ_of_le ND.out.b0) (ND.out.mkr.grow hb8) (by have := HA3.out; have := HA5.out; omega) (by have := HN3.out; have := HN5.out; omega) (ND.out.keep.trans (MKeep.of_below hb8)))
          clear hr8 hb8
          go_wp2_with fail
          go_ret
          exact HF.out
        · have n0 : Hid (NS w w.heap.size mb xs (at_ + 1) (nodes + 1) w2.heap.size #[I 10, I 0, I 0, I 0, I 0, I 0, .slice none 0 0, .string ⟨#[]⟩] (w2.alloc (.cells #[I 10, I 0, I 0, I 0, I 0, I 0, .slice none 0 0, .string ⟨#[]⟩] 85))) := Lib.hid (NS.begin HM2.out hml HK2.out)
          go_wp2_with fail
          refine (IH _ mb (at_ + 1) (nodes + 1) n0.out.mkr (by omega) (by omega)).mono ?_
          rintro e w3 ⟨ns, va, a3, m3, rfl, hl1, hl2, hmr, hwi, hru, hm3, ha3, hn3, hk3⟩
          rw [World.size_alloc] at hru
          have N1 := Lib.hid (n0.out.step hm3 hk3)
          have n1c := N1.out.cell
          have n1f := N1.out.froz
          have HRU := Lib.hid hru
          have HMR := Lib.hid hmr
          have HWI := Lib.hid hwi
          have h64 := pow_le64 hdp
          have ha3' : a3 + 10 ≤ M := by omega
          have hn3' : m3 + 10 ≤ M := by omega
          have HA3 := Lib.hid ha3
          have HN3 := Lib.hid hn3
          have hne : ns ≠ [] := by intro e; rw [e] at hl1; exact absurd hl1 (Nat.lt_irrefl _)
          have hl400 : ns.length ≤ 400 := by omega
          have HL2 := Lib.hid hl2
          clear hru hmr hwi hm3 hk3 ha3 hn3 hl2 h64
          go_wp2_with (go_at_call 80; refine (two_any _ _).mono ?_; rintro e w4 ⟨rfl, rfl⟩; rw [show twoB 10 = true from rfl])
          clear n1c n1f
          refine (IH _ mb a3 m3 N1.out.mkr (by omega) (by omega)).mono ?_
          rintro e w5 ⟨ms, vb, a5, m5, rfl, hb1, hb2, hmb, hwb, hrb, hm5, ha5, hn5, hk5⟩
          have N5 := Lib.hid (N1.out.step hm5 hk5)
          have HRU := Lib.hid (HRU.out.mkeep hk5 (by omega))
          have HRB := Lib.hid (hrb.lower (lo' := w2.heap.size + 1) N1.out.lt)
          have hme : ms ≠ [] := by intro e; rw [e] at hb1; exact absurd hb1 (Nat.lt_irrefl _)
          have h64 := pow_le64 hdp
          have hb400 : ms.length ≤ 400 := by omega
          have HMB := Lib.hid hmb
          have HWB := Lib.hid hwb
          have HB2 := Lib.hid hb2
          have HA5 := Lib.hid ha5
          have HN5 := Lib.hid hn5
          clear hmb hwb hrb hm5 ha5 hn5 hk5 hb2 h64
          have ND : Hid (NS w w.heap.size mb xs a5 m5 w2.heap.size (ndCells ⟨10, 0, 0, 0, 0, 0, [], ⟨#[]⟩⟩ none 0) w5) := Lib.hid N5.out
          go_wp2_with (with_reducible refine g_load 85 ?_; refine wpList_load_Row rfl _ _ rfl w2.heap.size rfl (ndCells ⟨10, 0, 0, 0, 0, 0, [], ⟨#[]⟩⟩ none 0) ND.out.row _ Tryz.underlying85 rfl (nd_size _ _ _) ?_)
          refine (both_any (w2.heap.size + 1) w5 va vb ns ms ⟨⟨10, 0, 0, 0, 0, 0, [], ⟨#[]⟩⟩, none, 0⟩ HRU.out hne HRB.out hme (HWB.out.small (by omega)) (.inl rfl) (by omega) (by omega) ND.out.lt).mono ?_
          rintro e w8 ⟨v8, rfl, hr8, hb8⟩
          have HF := Lib.hid (ruled_two (at_ := at_) (nodes := nodes) hdp hl1 HL2.out HB2.out HMR.out HMB.out (x := ⟨⟨10, 0, 0, 0, 0, 0, [], ⟨#[]⟩⟩, none, 0⟩) (⟨rfl, rfl, rfl, rfl, .inl ⟨.inr (.inr rfl), rfl⟩⟩) HWI.out HWB.out hr8 (Nat.le_succ_of_le ND.out.b0) (ND.out.mkr.grow hb8) (by have := HA3.out; have := HA5.out; omega) (by have := HN3.out; have := HN5.out; omega) (ND.out.keep.trans (MKeep.of_below hb8)))
          clear hr8 hb8
          go_wp2_with fail
          go_ret
          exact HF.out
        · have n0 : Hid (NS w w.heap.size mb xs (at_ + 1) (nodes + 1) w2.heap.size #[I 11, I 0, I 0, I 0, I 0, I 0, .slice none 0 0, .string ⟨#[]⟩] (w2.alloc (.cells #[I 11, I 0, I 0, I 0, I 0, I 0, .slice none 0 0, .string ⟨#[]⟩] 85))) := Lib.hid (NS.begin HM2.out hml HK2.out)
          go_wp2_with fail
          refine (IH _ mb (at_ + 1) (nodes + 1) n0.out.mkr (by omega) (by omega)).mono ?_
          rintro e w3 ⟨ns, va, a3, m3, rfl, hl1, hl2, hmr, hwi, hru, hm3, ha3, hn3, hk3⟩
          rw [World.size_alloc] at hru
          have N1 := Lib.hid (n0.out.step hm3 hk3)
          have n1c := N1.out.cell
          have n1f := N1.out.froz
          have HRU := Lib.hid hru
          have HMR := Lib.hid hmr
          have HWI := Lib.hid hwi
          have h64 := pow_le64 hdp
          have ha3' : a3 + 10 ≤ M := by omega
          have hn3' : m3 + 10 ≤ M := by omega
          have HA3 := Lib.hid ha3
          have HN3 := Lib.hid hn3
          have hne : ns ≠ [] := by intro e; rw [e] at hl1; exact absurd hl1 (Nat.lt_irrefl _)
          have hl400 : ns.length ≤ 400 := by omega
          have HL2 := Lib.hid hl2
          clear hru hmr hwi hm3 hk3 ha3 hn3 hl2 h64
          go_wp2_with (go_at_call 80; refine (two_any _ _).mono ?_; rintro e w4 ⟨rfl, rfl⟩; rw [show twoB 11 = false from rfl])
          clear n1c n1f
          refine (N1.out.pick hx 15 (by omega) (by omega) (by omega)).mono ?_
          rintro e w6 ⟨n, rfl, n1, n2, N2k, N2s⟩
          have N2c := N2s.cell
          have N2f := N2s.froz
          have N2 := Lib.hid (N2s.store 4 (I (n - 7)))
          have HRU := Lib.hid ((HRU.out.mkeep N2k (by omega)).put w2.heap.size 4 (I (n - 7)) (Nat.lt_succ_self _))
          clear N2k N2s
          have ND : Hid (NS w w.heap.size mb xs _ m3 w2.heap.size (ndCells ⟨11, 0, 0, 0, n - 7, 0, [], ⟨#[]⟩⟩ none 0) _) := Lib.hid N2.out
          go_wp2_with (with_reducible refine g_load 85 ?_; refine wpList_load_Row rfl _ _ rfl w2.heap.size rfl (ndCells ⟨11, 0, 0, 0, n - 7, 0, [], ⟨#[]⟩⟩ none 0) ND.out.row _ Tryz.underlying85 rfl (nd_size _ _ _) ?_)
          refine (over_any (w2.heap.size + 1) _ va ns ⟨⟨11, 0, 0, 0, n - 7, 0, [], ⟨#[]⟩⟩, none, 0⟩ HRU.out hne (.inl rfl) (by omega) ND.out.lt).mono ?_
          rintro e w8 ⟨v8, rfl, hr8, hb8⟩
          have HF := Lib.hid (ruled_over (at_ := at_) (nodes := nodes) hdp hl1 HL2.out HMR.out (x := ⟨⟨11, 0, 0, 0, n - 7, 0, [], ⟨#[]⟩⟩, none, 0⟩) (⟨rfl, rfl, .inl ⟨rfl, rfl, by show -7 ≤ n - 7; omega, by show n - 7 ≤ 7; omega, rfl, rfl⟩⟩) HWI.out hr8 (Nat.le_succ_of_le ND.out.b0) (ND.out.mkr.grow hb8) (by have := HA3.out; omega) (by have := HN3.out; omega) (ND.out.keep.trans (MKeep.of_below hb8)))
          clear hr8 hb8
          go_wp2_with fail
          go_ret
          exact HF.out
        · have n0 : Hid (NS w w.heap.size mb xs (at_ + 1) (nodes + 1) w2.heap.size #[I 12, I 0, I 0, I 0, I 0, I 0, .slice none 0 0, .string ⟨#[]⟩] (w2.alloc (.cells #[I 12, I 0, I 0, I 0, I 0, I 0, .slice none 0 0, .string ⟨#[]⟩] 85))) := Lib.hid (NS.begin HM2.out hml HK2.out)
          go_wp2_with fail
          refine (IH _ mb (at_ + 1) (nodes + 1) n0.out.mkr (by omega) (by omega)).mono ?_
          rintro e w3 ⟨ns, va, a3, m3, rfl, hl1, hl2, hmr, hwi, hru, hm3, ha3, hn3, hk3⟩
          rw [World.size_alloc] at hru
          have N1 := Lib.hid (n0.out.step hm3 hk3)
          have n1c := N1.out.cell
          have n1f := N1.out.froz
          have HRU := Lib.hid hru
          have HMR := Lib.hid hmr
          have HWI := Lib.hid hwi
          have h64 := pow_le64 hdp
          have ha3' : a3 + 10 ≤ M := by omega
          have hn3' : m3 + 10 ≤ M := by omega
          have HA3 := Lib.hid ha3
          have HN3 := Lib.hid hn3
          have hne : ns ≠ [] := by intro e; rw [e] at hl1; exact absurd hl1 (Nat.lt_irrefl _)
          have hl400 : ns.length ≤ 400 := by omega
          have HL2 := Lib.hid hl2
          clear hru hmr hwi hm3 hk3 ha3 hn3 hl2 h64
          go_wp2_with (go_at_call 80; refine (two_any _ _).mono ?_; rintro e w4 ⟨rfl, rfl⟩; rw [show twoB 12 = false from rfl])
          clear n1c n1f
          refine (N1.out.pick hx 60 (by omega) (by omega) (by omega)).mono ?_
          rintro e w6 ⟨n, rfl, n1, n2, N2k, N2s⟩
          have N2c := N2s.cell
          have N2f := N2s.froz
          have N2 := Lib.hid (N2s.store 4 (I n))
          have HRU := Lib.hid ((HRU.out.mkeep N2k (by omega)).put w2.heap.size 4 (I n) (Nat.lt_succ_self _))
          clear N2k N2s
          have ND : Hid (NS w w.heap.size mb xs _ m3 w2.heap.size (ndCells ⟨12, 0, 0, 0, n, 0, [], ⟨#[]⟩⟩ none 0) _) := Lib.hid N2.out
          go_wp2_with (with_reducible refine g_load 85 ?_; refine wpList_load_Row rfl _ _ rfl w2.heap.size rfl (ndCells ⟨12, 0, 0, 0, n, 0, [], ⟨#[]⟩⟩ none 0) ND.out.row _ Tryz.underlying85 rfl (nd_size _ _ _) ?_)
          refine (over_any (w2.heap.size + 1) _ va ns ⟨⟨12, 0, 0, 0, n, 0, [], ⟨#[]⟩⟩, none, 0⟩ HRU.out hne (.inl rfl) (by omega) ND.out.lt).mono ?_
          rintro e w8 ⟨v8, rfl, hr8, hb8⟩
          have HF := Lib.hid (ruled_over (at_ := at_) (nodes := nodes) hdp hl1 HL2.out HMR.out (x := ⟨⟨12, 0, 0, 0, n, 0, [], ⟨#[]⟩⟩, none, 0⟩) (⟨rfl, rfl, .inr (.inl ⟨.inl rfl, rfl, n1, n2, rfl, rfl⟩)⟩) HWI.out hr8 (Nat.le_succ_of_le ND.out.b0) (ND.out.mkr.grow hb8) (by have := HA3.out; omega) (by have := HN3.out; omega) (ND.out.keep.trans (MKeep.of_below hb8)))
          clear hr8 hb8
          go_wp2_with fail
          go_ret
          exact HF.out
        · have n0 : Hid (NS w w.heap.size mb xs (at_ + 1) (nodes + 1) w2.heap.size #[I 13, I 0, I 0, I 0, I 0, I 0, .slice none 0 0, .string ⟨#[]⟩] (w2.alloc (.cells #[I 13, I 0, I 0, I 0, I 0, I 0, .slice none 0 0, .string ⟨#[]⟩] 85))) := Lib.hid (NS.begin HM2.out hml HK2.out)
          go_wp2_with fail
          refine (IH _ mb (at_ + 1) (nodes + 1) n0.out.mkr (by omega) (by omega)).mono ?_
          rintro e w3 ⟨ns, va, a3, m3, rfl, hl1, hl2, hmr, hwi, hru, hm3, ha3, hn3, hk3⟩
          rw [World.size_alloc] at hru
          have N1 := Lib.hid (n0.out.step hm3 hk3)
          have n1c := N1.out.cell
          have n1f := N1.out.froz
          have HRU := Lib.hid hru
          have HMR := Lib.hid hmr
          have HWI := Lib.hid hwi
          have h64 := pow_le64 hdp
          have ha3' : a3 + 10 ≤ M := by omega
          have hn3' : m3 + 10 ≤ M := by omega
          have HA3 := Lib.hid ha3
          have HN3 := Lib.hid hn3
          have hne : ns ≠ [] := by intro e; rw [e] at hl1; exact absurd hl1 (Nat.lt_irrefl _)
          have hl400 : ns.length ≤ 400 := by omega
          have HL2 := Lib.hid hl2
          clear hru hmr hwi hm3 hk3 ha3 hn3 hl2 h64
          go_wp2_with (go_at_call 80; refine (two_any _ _).mono ?_; rintro e w4 ⟨rfl, rfl⟩; rw [show twoB 13 = false from rfl])
          clear n1c n1f
          refine (N1.out.pick hx 60 (by omega) (by omega) (by omega)).mono ?_
          rintro e w6 ⟨n, rfl, n1, n2, N2k, N2s⟩
          have N2c := N2s.cell
          have N2f := N2s.froz
          have N2 := Lib.hid (N2s.store 4 (I n))
          have HRU := Lib.hid ((HRU.out.mkeep N2k (by omega)).put w2.heap.size 4 (I n) (Nat.lt_succ_self _))
          clear N2k N2s
          have ND : Hid (NS w w.heap.size mb xs _ m3 w2.heap.size (ndCells ⟨13, 0, 0, 0, n, 0, [], ⟨#[]⟩⟩ none 0) _) := Lib.hid N2.out
          go_wp2_with (with_reducible refine g_load 85 ?_; refine wpList_load_Row rfl _ _ rfl w2.heap.size rfl (ndCells ⟨13, 0, 0, 0, n, 0, [], ⟨#[]⟩⟩ none 0) ND.out.row _ Tryz.underlying85 rfl (nd_size _ _ _) ?_)
          refine (over_any (w2.heap.size + 1) _ va ns ⟨⟨13, 0, 0, 0, n, 0, [], ⟨#[]⟩⟩, none, 0⟩ HRU.out hne (.inl rfl) (by omega) ND.out.lt).mono ?_
          rintro e w8 ⟨v8, rfl, hr8, hb8⟩
          have HF := Lib.hid (ruled_over (at_ := at_) (nodes := nodes) hdp hl1 HL2.out HMR.out (x := ⟨⟨13, 0, 0, 0, n, 0, [], ⟨#[]⟩⟩, none, 0⟩) (⟨rfl, rfl, .inr (.inl ⟨.inr rfl, rfl, n1, n2, rfl, rfl⟩)⟩) HWI.out hr8 (Nat.le_succ_of_le ND.out.b0) (ND.out.mkr.grow hb8) (by have := HA3.out; omega) (by have := HN3.out; omega) (ND.out.keep.trans (MKeep.of_below hb8)))
          clear hr8 hb8
          go_wp2_with fail
          go_ret
          exact HF.out
        · have n0 : Hid (NS w w.heap.size mb xs (at_ + 1) (nodes + 1) w2.heap.size #[I 14, I 0, I 0, I 0, I 0, I 0, .slice none 0 0, .string ⟨#[]⟩] (w2.alloc (.cells #[I 14, I 0, I 0, I 0, I 0, I 0, .slice none 0 0, .string ⟨#[]⟩] 85))) := Lib.hid (NS.begin HM2.out hml HK2.out)
          go_wp2_with fail
          refine (IH _ mb (at_ + 1) (nodes + 1) n0.out.mkr (by omega) (by omega)).mono ?_
          rintro e w3 ⟨ns, va, a3, m3, rfl, hl1, hl2, hmr, hwi, hru, hm3, ha3, hn3, hk3⟩
          rw [World.size_alloc] at hru
          have N1 := Lib.hid (n0.out.step hm3 hk3)
          have n1c := N1.out.cell
          have n1f := N1.out.froz
          have HRU := Lib.hid hru
          have HMR := Lib.hid hmr
          have HWI := Lib.hid hwi
          have h64 := pow_le64 hdp
          have ha3' : a3 + 10 ≤ M := by omega
          have hn3' : m3 + 10 ≤ M := by omega
          have HA3 := Lib.hid ha3
          have HN3 := Lib.hid hn3
          have hne : ns ≠ [] := by intro e; rw [e] at hl1; exact absurd hl1 (Nat.lt_irrefl _)
          have hl400 : ns.length ≤ 400 := by omega
          have HL2 := Lib.hid hl2
          clear hru hmr hwi hm3 hk3 ha3 hn3 hl2 h64
          go_wp2_with (go_at_call 80; refine (two_any _ _).mono ?_; rintro e w4 ⟨rfl, rfl⟩; rw [show twoB 14 = false from rfl])
          clear n1c n1f
          refine (N1.out.rise hx (0) 60 (by omega) (by omega) (by omega) (by omega) (by omega)).mono ?_
          rintro e w6 ⟨zs, A, c, a9, rfl, hz, hli, ha9, N2k, N2s⟩
          have N2c := N2s.cell
          have N2f := N2s.froz
          have HLI := Lib.hid ((hli.lower (lo' := w2.heap.size + 1) N1.out.lt).put w2.heap.size 6 (.slice A zs.length c) (Nat.lt_succ_self _))
          have N2 := Lib.hid (N2s.store 6 (.slice A zs.length c))
          have HRU := Lib.hid ((HRU.out.mkeep N2k (by omega)).put w2.heap.size 6 (.slice A zs.length c) (Nat.lt_succ_self _))
          have HZ := Lib.hid hz
          clear N2k N2s hli hz
          have ND : Hid (NS w w.heap.size mb xs _ m3 w2.heap.size (ndCells ⟨14, 0, 0, 0, 0, 0, zs, ⟨#[]⟩⟩ A c) _) := Lib.hid N2.out
          go_wp2_with (with_reducible refine g_load 85 ?_; refine wpList_load_Row rfl _ _ rfl w2.heap.size rfl (ndCells ⟨14, 0, 0, 0, 0, 0, zs, ⟨#[]⟩⟩ A c) ND.out.row _ Tryz.underlying85 rfl (nd_size _ _ _) ?_)
          refine (over_any (w2.heap.size + 1) _ va ns ⟨⟨14, 0, 0, 0, 0, 0, zs, ⟨#[]⟩⟩, A, c⟩ HRU.out hne (HLI.out) (by omega) ND.out.lt).mono ?_
          rintro e w8 ⟨v8, rfl, hr8, hb8⟩
          have HF := Lib.hid (ruled_over (at_ := at_) (nodes := nodes) hdp hl1 HL2.out HMR.out (x := ⟨⟨14, 0, 0, 0, 0, 0, zs, ⟨#[]⟩⟩, A, c⟩) (⟨rfl, rfl, .inr (.inr (.inl ⟨.inl rfl, rfl, rfl, rfl, HZ.out⟩))⟩) HWI.out hr8 (Nat.le_succ_of_le ND.out.b0) (ND.out.mkr.grow hb8) (by have := HA3.out; omega) (by have := HN3.out; omega) (ND.out.keep.trans (MKeep.of_below hb8)))
          clear hr8 hb8
          go_wp2_with fail
          go_ret
          exact HF.out
        · have n0 : Hid (NS w w.heap.size mb xs (at_ + 1) (nodes + 1) w2.heap.size #[I 15, I 0, I 0, I 0, I 0, I 0, .slice none 0 0, .string ⟨#[]⟩] (w2.alloc (.cells #[I 15, I 0, I 0, I 0, I 0, I 0, .slice none 0 0, .string ⟨#[]⟩] 85))) := Lib.hid (NS.begin HM2.out hml HK2.out)
          go_wp2_with fail
          refine (IH _ mb (at_ + 1) (nodes + 1) n0.out.mkr (by omega) (by omega)).mono ?_
          rintro e w3 ⟨ns, va, a3, m3, rfl, hl1, hl2, hmr, hwi, hru, hm3, ha3, hn3, hk3⟩
          rw [World.size_alloc] at hru
          have N1 := Lib.hid (n0.out.step hm3 hk3)
          have n1c := N1.out.cell
          have n1f := N1.out.froz
          have HRU := Lib.hid hru
          have HMR := Lib.hid hmr
          have HWI := Lib.hid hwi
          have h64 := pow_le64 hdp
          have ha3' : a3 + 10 ≤ M := by omega
          have hn3' : m3 + 10 ≤ M := by omega
          have HA3 := Lib.hid ha3
          have HN3 := Lib.hid hn3
          have hne : ns ≠ [] := by intro e; rw [e] at hl1; exact absurd hl1 (Nat.lt_irrefl _)
          have hl400 : ns.length ≤ 400 := by omega
          have HL2 := Lib.hid hl2
          clear hru hmr hwi hm3 hk3 ha3 hn3 hl2 h64
          go_wp2_with (go_at_call 80; refine (two_any _ _).mono ?_; rintro e w4 ⟨rfl, rfl⟩; rw [show twoB 15 = false from rfl])
          clear n1c n1f
          refine (N1.out.rise hx (0) 60 (by omega) (by omega) (by omega) (by omega) (by omega)).mono ?_
          rintro e w6 ⟨zs, A, c, a9, rfl, hz, hli, ha9, N2k, N2s⟩
          have N2c := N2s.cell
          have N2f := N2s.froz
          have HLI := Lib.hid ((hli.lower (lo' := w2.heap.size + 1) N1.out.lt).put w2.heap.size 6 (.slice A zs.length c) (Nat.lt_succ_self _))
          have N2 := Lib.hid (N2s.store 6 (.slice A zs.length c))
          have HRU := Lib.hid ((HRU.out.mkeep N2k (by omega)).put w2.heap.size 6 (.slice A zs.length c) (Nat.lt_succ_self _))
          have HZ := Lib.hid hz
          clear N2k N2s hli hz
          have ND : Hid (NS w w.heap.size mb xs _ m3 w2.heap.size (ndCells ⟨15, 0, 0, 0, 0, 0, zs, ⟨#[]⟩⟩ A c) _) := Lib.hid N2.out
          go_wp2_with (with_reducible refine g_load 85 ?_; refine wpList_load_Row rfl _ _ rfl w2.heap.size rfl (ndCells ⟨15, 0, 0, 0, 0, 0, zs, ⟨#[]⟩⟩ A c) ND.out.row _ Tryz.underlying85 rfl (nd_size _ _ _) ?_)
          refine (over_any (w2.heap.size + 1) _ va ns ⟨⟨15, 0, 0, 0, 0, 0, zs, ⟨#[]⟩⟩, A, c⟩ HRU.out hne (HLI.out) (by omega) ND.out.lt).mono ?_
          rintro e w8 ⟨v8, rfl, hr8, hb8⟩
          have HF := Lib.hid (ruled_over (at_ := at_) (nodes := nodes) hdp hl1 HL2.out HMR.out (x := ⟨⟨15, 0, 0, 0, 0, 0, zs, ⟨#[]⟩⟩, A, c⟩) (⟨rfl, rfl, .inr (.inr (.inl ⟨.inr rfl, rfl, rfl, rfl, HZ.out⟩))⟩) HWI.out hr8 (Nat.le_succ_of_le ND.out.b0) (ND.out.mkr.grow hb8) (by have := HA3.out; omega) (by have := HN3.out; omega) (ND.out.keep.trans (MKeep.of_below hb8)))
          clear hr8 hb8
          go_wp2_with fail
          go_ret
          exact HF.out
        · have n0 : Hid (NS w w.heap.size mb xs (at_ + 1) (nodes + 1) w2.heap.size #[I 16, I 0, I 0, I 0, I 0, I 0, .slice none 0 0, .string ⟨#[]⟩] (w2.alloc (.cells #[I 16, I 0, I 0, I 0, I 0, I 0, .slice none 0 0, .string ⟨#[]⟩] 85))) := Lib.hid (NS.begin HM2.out hml HK2.out)
          go_wp2_with fail
          refine (IH _ mb (at_ + 1) (nodes + 1) n0.out.mkr (by omega) (by omega)).mono ?_
          rintro e w3 ⟨ns, va, a3, m3, rfl, hl1, hl2, hmr, hwi, hru, hm3, ha3, hn3, hk3⟩
          rw [World.size_alloc] at hru
          have N1 := Lib.hid (n0.out.step hm3 hk3)
          have n1c := N1.out.cell
          have n1f := N1.out.froz
          have HRU := Lib.hid hru
          have HMR := Lib.hid hmr
          have HWI := Lib.hid hwi
          have h64 := pow_le64 hdp
          have ha3' : a3 + 10 ≤ M := by omega
          have hn3' : m3 + 10 ≤ M := by omega
          have HA3 := Lib.hid ha3
          have HN3 := Lib.hid hn3
          have hne : ns ≠ [] := by intro e; rw [e] at hl1; exact absurd hl1 (Nat.lt_irrefl _)
          have hl400 : ns.length ≤ 400 := by omega
          have HL2 := Lib.hid hl2
          clear hru hmr hwi hm3 hk3 ha3 hn3 hl2 h64
          go_wp2_with (go_at_call 80; refine (two_any _ _).mono ?_; rintro e w4 ⟨rfl, rfl⟩; rw [show twoB 16 = false from rfl])
          clear n1c n1f
          refine (N1.out.pick hx cals (by omega) (by omega) (by omega)).mono ?_
          rintro e w6 ⟨q, rfl, q1, q2, N2k, N2s⟩
          have N2c := N2s.cell
          have N2f := N2s.froz
          have N2 := Lib.hid (N2s.store 1 (I q))
          have HRU := Lib.hid ((HRU.out.mkeep N2k (by omega)).put w2.heap.size 1 (I q) (Nat.lt_succ_self _))
          clear N2k N2s
          go_wp2_with fail
          clear N2c N2f
          refine (N2.out.pick hx 2 (by omega) (by omega) (by omega)).mono ?_
          rintro e w7 ⟨m, rfl, m1, m2, N3k, N3s⟩
          have N3c := N3s.cell
          have N3f := N3s.froz
          have N3 := Lib.hid (N3s.store 5 (I m))
          have HRU := Lib.hid ((HRU.out.mkeep N3k (by omega)).put w2.heap.size 5 (I m) (Nat.lt_succ_self _))
          clear N3k N3s
          go_wp2_with fail
          clear N3c N3f
          refine (N3.out.rise hx (-3) 3 (by omega) (by omega) (by omega) (by omega) (by omega)).mono ?_
          rintro e w9 ⟨zs, A, c, a9, rfl, hz, hli, ha9, N4k, N4s⟩
          have N4c := N4s.cell
          have N4f := N4s.froz
          have HLI := Lib.hid ((hli.lower (lo' := w2.heap.size + 1) N3.out.lt).put w2.heap.size 6 (.slice A zs.length c) (Nat.lt_succ_self _))
          have N4 := Lib.hid (N4s.store 6 (.slice A zs.length c))
          have HRU := Lib.hid ((HRU.out.mkeep N4k (by omega)).put w2.heap.size 6 (.slice A zs.length c) (Nat.lt_succ_self _))
          have HZ := Lib.hid hz
          clear N4k N4s hli hz
          have ND : Hid (NS w w.heap.size mb xs _ m3 w2.heap.size (ndCells ⟨16, q, 0, 0, 0, m, zs, ⟨#[]⟩⟩ A c) _) := Lib.hid N4.out
          go_wp2_with (with_reducible refine g_load 85 ?_; refine wpList_load_Row rfl _ _ rfl w2.heap.size rfl (ndCells ⟨16, q, 0, 0, 0, m, zs, ⟨#[]⟩⟩ A c) ND.out.row _ Tryz.underlying85 rfl (nd_size _ _ _) ?_)
          refine (over_any (w2.heap.size + 1) _ va ns ⟨⟨16, q, 0, 0, 0, m, zs, ⟨#[]⟩⟩, A, c⟩ HRU.out hne (HLI.out) (by omega) ND.out.lt).mono ?_
          rintro e w8 ⟨v8, rfl, hr8, hb8⟩
          have HF := Lib.hid (ruled_over (at_ := at_) (nodes := nodes) hdp hl1 HL2.out HMR.out (x := ⟨⟨16, q, 0, 0, 0, m, zs, ⟨#[]⟩⟩, A, c⟩) (⟨rfl, rfl, .inr (.inr (.inr ⟨rfl, q1, q2, rfl, m1, m2, HZ.out⟩))⟩) HWI.out hr8 (Nat.le_succ_of_le ND.out.b0) (ND.out.mkr.grow hb8) (by have := HA3.out; omega) (by have := HN3.out; omega) (ND.out.keep.trans (MKeep.of_below hb8)))
          clear hr8 hb8
          go_wp2_with fail
          go_ret
          exact HF.out
        · have n0 : Hid (NS w w.heap.size mb xs (at_ + 1) (nodes + 1) w2.heap.size #[I 17, I 0, I 0, I 0, I 0, I 0, .slice none 0 0, .string ⟨#[]⟩] (w2.alloc (.cells #[I 17, I 0, I 0, I 0, I 0, I 0, .slice none 0 0, .string ⟨#[]⟩] 85))) := Lib.hid (NS.begin HM2.out hml HK2.out)
          go_wp2_with fail
          refine (IH _ mb (at_ + 1) (nodes + 1) n0.out.mkr (by omega) (by omega)).mono ?_
          rintro e w3 ⟨ns, va, a3, m3, rfl, hl1, hl2, hmr, hwi, hru, hm3, ha3, hn3, hk3⟩
          rw [World.size_alloc] at hru
          have N1 := Lib.hid (n0.out.step hm3 hk3)
          have n1c := N1.out.cell
          have n1f := N1.out.froz
          have HRU := Lib.hid hru
          have HMR := Lib.hid hmr
          have HWI := Lib.hid hwi
          have h64 := pow_le64 hdp
          have ha3' : a3 + 10 ≤ M := by omega
          have hn3' : m3 + 10 ≤ M := by omega
          have HA3 := Lib.hid ha3
          have HN3 := Lib.hid hn3
          have hne : ns ≠ [] := by intro e; rw [e] at hl1; exact absurd hl1 (Nat.lt_irrefl _)
          have hl400 : ns.length ≤ 400 := by omega
          have HL2 := Lib.hid hl2
          clear hru hmr hwi hm3 hk3 ha3 hn3 hl2 h64
          go_wp2_with (go_at_call 80; refine (two_any _ _).mono ?_; rintro e w4 ⟨rfl, rfl⟩; rw [show twoB 17 = true from rfl])
          clear n1c n1f
          refine (N1.out.pick hx 3 (by omega) (by omega) (by omega)).mono ?_
          rintro e w6 ⟨n, rfl, n1, n2, N2k, N2s⟩
          have N2c := N2s.cell
          have N2f := N2s.froz
          have N2 := Lib.hid (N2s.store 4 (I (1 + n)))
          have HRU := Lib.hid ((HRU.out.mkeep N2k (by omega)).put w2.heap.size 4 (I (1 + n)) (Nat.lt_succ_self _))
          clear N2k N2s
          go_wp2_with fail
          clear N2c N2f
          refine (IH _ mb (a3 + 1) m3 N2.out.mkr (by omega) (by omega)).mono ?_
          rintro e w5 ⟨ms, vb, a5, m5, rfl, hb1, hb2, hmb, hwb, hrb, hm5, ha5, hn5, hk5⟩
          have N5 := Lib.hid (N2.out.step hm5 hk5)
          have HRU := Lib.hid (HRU.out.mkeep hk5 (by omega))
          have HRB := Lib.hid (hrb.lower (lo' := w2.heap.size + 1) N2.out.lt)
          have hme : ms ≠ [] := by intro e; rw [e] at hb1; exact absurd hb1 (Nat.lt_irrefl _)
          have h64 := pow_le64 hdp
          have hb400 : ms.length ≤ 400 := by omega
          have HMB := Lib.hid hmb
          have HWB := Lib.hid hwb
          have HB2 := Lib.hid hb2
          have HA5 := Lib.hid ha5
          have HN5 := Lib.hid hn5
          clear hmb hwb hrb hm5 ha5 hn5 hk5 hb2 h64
          have ND : Hid (NS w w.heap.size mb xs a5 m5 w2.heap.size (ndCells ⟨17, 0, 0, 0, 1 + n, 0, [], ⟨#[]⟩⟩ none 0) w5) := Lib.hid N5.out
          go_wp2_with (with_reducible refine g_load 85 ?_; refine wpList_load_Row rfl _ _ rfl w2.heap.size rfl (ndCells ⟨17, 0, 0, 0, 1 + n, 0, [], ⟨#[]⟩⟩ none 0) ND.out.row _ Tryz.underlying85 rfl (nd_size _ _ _) ?_)
          refine (both_any (w2.heap.size + 1) w5 va vb ns ms ⟨⟨17, 0, 0, 0, 1 + n, 0, [], ⟨#[]⟩⟩, none, 0⟩ HRU.out hne HRB.out hme (HWB.out.small (by omega)) (.inl rfl) (by omega) (by omega) ND.out.lt).mono ?_
          rintro e w8 ⟨v8, rfl, hr8, hb8⟩
          have HF := Lib.hid (ruled_two (at_ := at_) (nodes := nodes) hdp hl1 HL2.out HB2.out HMR.out HMB.out (x := ⟨⟨17, 0, 0, 0, 1 + n, 0, [], ⟨#[]⟩⟩, none, 0⟩) (⟨rfl, rfl, rfl, rfl, .inr ⟨rfl, by show 1 ≤ 1 + n; omega, by show 1 + n ≤ 3; omega⟩⟩) HWI.out HWB.out hr8 (Nat.le_succ_of_le ND.out.b0) (ND.out.mkr.grow hb8) (by have := HA3.out; have := HA5.out; omega) (by have := HN3.out; have := HN5.out; omega) (ND.out.keep.trans (MKeep.of_below hb8)))
          clear hr8 hb8
          go_wp2_with fail
          go_ret
          exact HF.out
/-- Rule, for at most three levels of operators. -/
theorem rule_any (xs : List Int) (hx : XsOK xs) (cals : Int) (hc1 : 0 < cals) (hc2 : cals ≤ 1000) : ∀ (deep : Nat), deep ≤ 3 → ∀ (w : World) (mb at_ nodes : Nat), MkSt w mb xs at_ nodes → at_ ≤ 1000000 - 10000 * deep → nodes ≤ 1000000 - 10000 * deep → Calls Tryz.prog 52 #[pt mb, I (deep : Int), I cals] w (Ruled deep w.heap.size w mb xs at_ nodes cals)
  | 0, _, w, mb, at_, nodes, h, h1, h2 => rule_zero xs hx cals hc1 hc2 w mb at_ nodes h (by omega) (by omega)
  | deep + 1, hd, w, mb, at_, nodes, h, h1, h2 => rule_step xs hx cals hc1 hc2 deep (by omega) (1000000 - 10000 * deep) (by omega) (fun w mb at_ nodes h h1 h2 => rule_any xs hx cals hc1 hc2 deep (by omega) w mb at_ nodes h h1 h2) w mb at_ nodes h (by omega) (by omega)
end Go.Proofs.YtenbgpcdoljkgaaGreatDoor

/- A struct under way beside the maker, of any type; kalendsref20.MadeMove. -/
namespace Go.Proofs.YtenbgpcdoljkgaaGreatDoor
open Go Go.RowKit

/-- The result's variable at b4 (zero), a variable of the same type at b6. -/
structure GS (t : TypeId) (z : Array Value) (w0 : World) (mb : Nat) (xs : List Int) (a nd b4 b6 : Nat) (cs : Array Value) (W : World) : Prop where
  hm : mb < w0.heap.size
  mkr : MkSt W mb xs a nd
  keep : MKeep mb w0 W
  lo : w0.heap.size ≤ b4
  ne : b4 < b6
  res : W.heap[b4]? = some (.cells z t (0, 0))
  var : W.heap[b6]? = some (.cells cs t (0, 0))
section
variable {t : TypeId} {z : Array Value} {w0 W W' : World} {mb a a' nd nd' b4 b6 : Nat} {xs : List Int} {cs : Array Value}
theorem GS.lt (h : GS t z w0 mb xs a nd b4 b6 cs W) : b6 < W.heap.size := (Array.getElem?_eq_some_iff.1 h.var).1
theorem GS.cell (h : GS t z w0 mb xs a nd b4 b6 cs W) : ∀ i, W.cell? ⟨b6, i, none⟩ = cs[i]? := fun i => cell_of_row W b6 i _ _ _ h.var
theorem GS.froz (h : GS t z w0 mb xs a nd b4 b6 cs W) : ∀ i, W.frozen? ⟨b6, i, none⟩ = false := fun i => frozen_of_row W b6 i _ _ h.var
theorem GS.row (h : GS t z w0 mb xs a nd b4 b6 cs W) : Row W b6 cs := ⟨h.lt, h.cell⟩
theorem GS.step (h : GS t z w0 mb xs a nd b4 b6 cs W) (hm : MkSt W' mb xs a' nd') (hk : MKeep mb W W') : GS t z w0 mb xs a' nd' b4 b6 cs W' :=
  have h1 := h.hm
  have h2 := h.lo
  have h3 := h.ne
  have h4 := h.lt
  ⟨h.hm, hm, h.keep.trans hk, h.lo, h.ne, (hk.block b4 (by omega) (by omega)).trans h.res, (hk.block b6 (by omega) (by omega)).trans h.var⟩
theorem GS.pick (h : GS t z w0 mb xs a nd b4 b6 cs W) (hx : XsOK xs) (n : Int) (ha : a ≤ 1000000000) (hn : 0 < n) (hn2 : n ≤ 1000000000000000000) :
    Calls Tryz.prog 26 #[pt mb, I n] W fun e W' => ∃ r, e = .returned (I r) ∧ 0 ≤ r ∧ r < n ∧ MKeep mb W W' ∧ GS t z w0 mb xs (a + 1) nd b4 b6 cs W' :=
  (pick_any W mb xs a nd n h.mkr hx ha hn hn2).mono fun _ _ ⟨r, h1, h2, h3, h4, h5⟩ => ⟨r, h1, h2, h3, h5, h.step h4 h5⟩
theorem GS.store (h : GS t z w0 mb xs a nd b4 b6 cs W) (o : Nat) (v : Value) : GS t z w0 mb xs a nd b4 b6 (cs.setIfInBounds o v) (W.setCell ⟨b6, o, none⟩ v) := by
  have h1 := h.hm
  have h2 := h.lo
  have h3 := h.ne
  have hb : Below b6 W (W.setCell ⟨b6, o, none⟩ v) := (Below.refl b6 W).setCell (p := ⟨b6, o, none⟩) (Nat.le_refl _) _
  refine ⟨h.hm, h.mkr.far _ _ (by show mb < b6; omega), ?_, h.lo, h.ne, (hb.block b4 (by omega)).trans h.res, heap_setCell_same W b6 o _ _ _ h.var⟩
  exact ⟨hb.os.trans h.keep.os, hb.tape.trans h.keep.tape, hb.output.trans h.keep.output, Nat.le_trans h.keep.size hb.size, fun k hk hn => (hb.block k (by omega)).trans (h.keep.block k hk hn)⟩
theorem GS.start {w w1 : World} (hm : MkSt w1 mb xs a nd) (hml : mb < w.heap.size) (hk : MKeep mb (w.alloc (.cells z t)) w1) :
    GS t z w mb xs a nd w.heap.size w1.heap.size cs (w1.alloc (.cells cs t)) := by
  have hs := hk.size
  rw [World.size_alloc] at hs
  have hk0 : MKeep mb w w1 := (MKeep.of_below (below_var w (.cells z t))).trans hk
  refine ⟨hml, hm.grow (below_var w1 _), hk0.trans (MKeep.of_below (below_var w1 _)), Nat.le_refl _, by omega, ?_, heap_alloc_last w1 _⟩
  rw [Below.heap_alloc w1 _ _ (by omega), hk.block _ (by simp) (by omega), heap_alloc_last]
/-- Behind the store of the result. -/
theorem GS.fin (h : GS t z w0 mb xs a nd b4 b6 cs W) : MkSt (W.setRow b4 cs) mb xs a nd ∧ MKeep mb w0 (W.setRow b4 cs) := by
  have h1 := h.hm
  have h2 := h.lo
  have hb : Below b4 W (W.setRow b4 cs) := below_setRow (Below.refl b4 W) (Nat.le_refl _) _
  refine ⟨?_, ?_⟩
  · obtain ⟨A', c', g1, g2⟩ := h.mkr
    exact ⟨A', c', (setRow_other W b4 mb _ (by omega)).trans g1, g2.keep (hb.mono (by omega))⟩
  · exact ⟨hb.os.trans h.keep.os, hb.tape.trans h.keep.tape, hb.output.trans h.keep.output, Nat.le_trans h.keep.size hb.size, fun k hk hn => (setRow_other W b4 k _ (by omega)).trans (h.keep.block k hk hn)⟩
end
def MoveOK (day : Int) (m : Mv) : Prop := m.day = day ∧ ((m.drop = true ∧ m.toDay = 0 ∧ m.minute = 0 ∧ m.length = 0) ∨ (m.drop = false ∧ 0 ≤ m.toDay ∧ m.toDay < 60 ∧ 0 ≤ m.minute ∧ m.minute < 1440 ∧ 1 ≤ m.length ∧ m.length ≤ 300))
def Moved1 (w : World) (mb : Nat) (xs : List Int) (at_ nodes : Nat) (day : Int) (e : Ending) (w' : World) : Prop :=
  ∃ m a', e = .returned (.agg (mvCells m)) ∧ MoveOK day m ∧ MkSt w' mb xs a' nodes ∧ a' ≤ at_ + 4 ∧ MKeep mb w w'
def zMove : Array Value := #[I 0, .bool false, I 0, I 0, I 0]
theorem mv_size (m : Mv) : (Tryz.prog.info? 25).map (·.size) = some (mvCells m).size := by kernel_rfl
theorem mv_one (m : Mv) : (mvCells m).all (·.oneCell') = true := by kernel_rfl
set_option maxRecDepth 10000 in
set_option maxHeartbeats 1000000 in
theorem madeMove_any (w : World) (mb : Nat) (xs : List Int) (at_ nodes : Nat) (day : Int) (h : MkSt w mb xs at_ nodes) (hx : XsOK xs) (hat : at_ ≤ 10000000) :
    Calls Tryz.prog 53 #[pt mb, I day] w (Moved1 w mb xs at_ nodes day) := by
  have HM0 := Lib.hid (h.grow (below_var w (.cells zMove 25)))
  have hml := h.lt
  clear h
  go_enter Tryz.func53, Tryz.ntmps53
  go_wp2_with fail
  refine (pick_any _ mb xs at_ nodes 3 HM0.out hx (by omega) (by omega) (by omega)).mono ?_
  rintro e w1 ⟨r, rfl, hr1, hr2, hm1, hk1⟩
  have HM1 := Lib.hid hm1
  have HK1 := Lib.hid hk1
  clear hm1 hk1 HM0
  by_cases hr : r = 1
  · subst hr
    clear hr1 hr2
    have hres : w1.heap[w.heap.size]? = some (.cells zMove 25 (0, 0)) := (HK1.out.block _ (by simp) (by omega)).trans (heap_alloc_last w _)
    have HRES := Lib.hid hres
    clear hres
    go_wp2_with (with_reducible refine g_store 25 ?_; refine wpList_store_row rfl _ _ _ rfl w.heap.size (mvCells ⟨day, true, 0, 0, 0⟩) rfl rfl 25 zMove HRES.out (mv_size _) rfl (mv_one _) ?_)
    have hb : Below w.heap.size w1 (w1.setRow w.heap.size (mvCells ⟨day, true, 0, 0, 0⟩)) := below_setRow (Below.refl _ w1) (Nat.le_refl _) _
    have hk0 : MKeep mb w w1 := (MKeep.of_below (below_var w (.cells zMove 25))).trans HK1.out
    refine bodyPost_ret (v := .agg (mvCells ⟨day, true, 0, 0, 0⟩)) (results_cell_row rfl _ _ w.heap.size _ (mvCells ⟨day, true, 0, 0, 0⟩) (0, 0) _ rfl (setRow_heap _ _ _ _ _ _ HRES.out) Tryz.underlying25 rfl (mv_size _)) rfl ⟨⟨day, true, 0, 0, 0⟩, at_ + 1, rfl, ⟨rfl, .inl ⟨rfl, rfl, rfl, rfl⟩⟩, ?_, by omega, ?_⟩
    · obtain ⟨A', c', g1, g2⟩ := HM1.out
      exact ⟨A', c', (setRow_other w1 w.heap.size mb _ (by omega)).trans g1, g2.keep (hb.mono (by omega))⟩
    · exact ⟨hb.os.trans hk0.os, hb.tape.trans hk0.tape, hb.output.trans hk0.output, Nat.le_trans hk0.size hb.size, fun k hk hn => (setRow_other w1 w.heap.size k _ (by omega)).trans (hk0.block k hk hn)⟩
  · go_wp2_with fail
    refine (pick_any _ mb xs (at_ + 1) nodes 60 HM1.out hx (by omega) (by omega) (by omega)).mono ?_
    rintro e w2 ⟨d, rfl, hd1, hd2, hm2, hk2⟩
    have HM2 := Lib.hid hm2
    have HK2 := Lib.hid (HK1.out.trans hk2)
    clear hm2 hk2 HM1 HK1 hr hr1 hr2
    have G0 : Hid (GS 25 zMove w mb xs (at_ + 1 + 1) nodes w.heap.size w2.heap.size #[I day, .bool false, I d, I 0, I 0] (w2.alloc (.cells #[I day, .bool false, I d, I 0, I 0] 25))) := Lib.hid (GS.start HM2.out hml HK2.out)
    go_wp2_with fail
    refine (G0.out.pick hx 1440 (by omega) (by omega) (by omega)).mono ?_
    rintro e w3 ⟨m, rfl, m1, m2, _, g1⟩
    have g1c := g1.cell
    have g1f := g1.froz
    have G1 := Lib.hid (g1.store 3 (I m))
    clear g1
    go_wp2_with fail
    clear g1c g1f
    refine (G1.out.pick hx 300 (by omega) (by omega) (by omega)).mono ?_
    rintro e w4 ⟨n, rfl, n1, n2, _, g2⟩
    have g2c := g2.cell
    have g2f := g2.froz
    have G2 : Hid (GS 25 zMove w mb xs _ nodes w.heap.size w2.heap.size (mvCells ⟨day, false, d, m, 1 + n⟩) _) := Lib.hid (g2.store 4 (I (1 + n)))
    clear g2
    have HRW := Lib.hid G2.out.row
    go_wp2_with (first
      | (with_reducible refine g_load 25 ?_; refine wpList_load_Row rfl _ _ rfl w2.heap.size rfl (mvCells ⟨day, false, d, m, 1 + n⟩) HRW.out _ Tryz.underlying25 rfl (mv_size _) ?_)
      | (with_reducible refine g_store 25 ?_; refine wpList_store_row rfl _ _ _ rfl w.heap.size (mvCells ⟨day, false, d, m, 1 + n⟩) rfl rfl 25 zMove G2.out.res (mv_size _) rfl (mv_one _) ?_))
    exact bodyPost_ret (v := .agg (mvCells ⟨day, false, d, m, 1 + n⟩)) (results_cell_row rfl _ _ w.heap.size _ (mvCells ⟨day, false, d, m, 1 + n⟩) (0, 0) _ rfl (setRow_heap _ _ _ _ _ _ G2.out.res) Tryz.underlying25 rfl (mv_size _)) rfl ⟨⟨day, false, d, m, 1 + n⟩, _, rfl, ⟨rfl, .inr ⟨rfl, hd1, hd2, m1, m2, by show 1 ≤ 1 + n; omega, by show 1 + n ≤ 300; omega⟩⟩, G2.out.fin.1, by omega, G2.out.fin.2⟩
end Go.Proofs.YtenbgpcdoljkgaaGreatDoor

/- kalendsref20.fields, Uses, numeric. -/
namespace Go.Proofs.YtenbgpcdoljkgaaGreatDoor
open Go Go.RowKit

def fieldsT : List (List Int) := [[], [0, 1, 4, 10], [0, 1, 4], [0, 1, 4], [0, 1, 4, 9], [0, 1, 4, 5], [0, 1, 7, 8, 9, 10], [0, 1], [0, 4, 5, 6, 10, 11, 12, 15], [0, 6, 11, 15, 16], [0, 6, 12, 15, 16], [0, 12, 15, 16], [0, 12, 15, 16], [0, 15], [0, 12, 15, 16], [4, 5, 13, 14], [4, 5, 13, 14, 15, 16], [2, 3, 15, 16], [0, 16]]
def fieldsL (k : Nat) : List Int := (fieldsT[k]?).getD []
theorem fields_uses : ∀ k : Nat, k < 19 → ∀ f : Nat, f < 17 → (fieldsL k).contains (f : Int) = usesB (k : Int) (f : Int) := by decide +kernel
theorem fields_len : ∀ k : Nat, k < 19 → (fieldsL k).length ≤ 8 := by decide +kernel
set_option maxRecDepth 10000 in
set_option maxHeartbeats 4000000 in
theorem fields_any (k : Nat) (h1 : 1 ≤ k) (h2 : k ≤ 18) (w : World) : Calls Tryz.prog 42 #[I k] w fun e w' => e = .returned (.slice (some ⟨w.heap.size, 0, none⟩) (fieldsL k).length (fieldsL k).length) ∧ w' = w.alloc (.cells ((fieldsL k).map I).toArray 3) := by
  have hk : k = 1 ∨ k = 2 ∨ k = 3 ∨ k = 4 ∨ k = 5 ∨ k = 6 ∨ k = 7 ∨ k = 8 ∨ k = 9 ∨ k = 10 ∨ k = 11 ∨ k = 12 ∨ k = 13 ∨ k = 14 ∨ k = 15 ∨ k = 16 ∨ k = 17 ∨ k = 18 := by omega
  rcases hk with rfl | rfl | rfl | rfl | rfl | rfl | rfl | rfl | rfl | rfl | rfl | rfl | rfl | rfl | rfl | rfl | rfl | rfl
  all_goals
    go_enter Tryz.func42, Tryz.ntmps42
    go_wp2
    go_ret
    exact ⟨rfl, rfl⟩
set_option maxRecDepth 10000 in
set_option maxHeartbeats 1000000 in
theorem refUses_any (k : Nat) (h1 : 1 ≤ k) (h2 : k ≤ 18) (f : Int) (w : World) : Calls Tryz.prog 15 #[I k, I f] w (Gives (.bool ((fieldsL k).contains f)) w) := by
  have hlen := fields_len k (by omega)
  have HF := Lib.hid (fields_any k h1 h2 w)
  have HC : Hid (∀ j, j < (fieldsL k).length → (w.alloc (.cells ((fieldsL k).map I).toArray 3)).cell? ⟨w.heap.size, j, none⟩ = some (I ((fieldsL k)[j]?.getD 0))) := Lib.hid (fun j hj => by rw [(Row.new w _ _).2 j]; simp [hj])
  obtain ⟨zs, hz⟩ : ∃ zs, fieldsL k = zs := ⟨_, rfl⟩
  rw [hz] at hlen HF HC ⊢
  clear hz
  go_enter Tryz.func15, Tryz.ntmps15
  go_wp2_with fail
  refine HF.out.mono ?_
  rintro e w1 ⟨rfl, rfl⟩
  have HB := Lib.hid (below_var w (.cells (zs.map I).toArray 3))
  obtain ⟨W, hW⟩ : ∃ W, w.alloc (.cells (zs.map I).toArray 3) = W := ⟨_, rfl⟩
  rw [hW] at HB HC ⊢
  clear hW
  go_wp2_with fail
  go_loopw [6] (fun i wr => ∃ j : Nat, j ≤ zs.length ∧ i = I j ∧ wr = W ∧ (zs.take j).contains f = false) (fun i _ => zs.length - (intOf i).toNat)
  case atStart => exact ⟨0, by omega, rfl, rfl, rfl⟩
  case round =>
    obtain ⟨j, hj, rfl, rfl, hno⟩ := hrel
    have HNO := Lib.hid hno
    clear hno
    by_cases hlt : j < zs.length
    · have hltI : (j : Int) < (zs.length : Int) := by omega
      have hc := HC.out j hlt
      obtain ⟨x, hx⟩ : ∃ x, zs[j]?.getD 0 = x := ⟨_, rfl⟩
      rw [hx] at hc
      have hxe : zs[j]? = some x := by rw [List.getElem?_eq_getElem hlt] at hx ⊢; rw [← hx]; rfl
      have HX := Lib.hid hxe
      clear hx hxe
      cases hq : (x == f)
      · have HQ := Lib.hid hq
        go_wp2_with fail
        go_roundw
        case rel => exact ⟨j + 1, by omega, by go_num, by first | rfl | trivial, by rw [List.take_add_one, HX.out, List.contains_eq_any_beq, List.any_append, ← List.contains_eq_any_beq, HNO.out]; simp; have := HQ.out; rw [beq_dec] at this; have := of_decide_eq_false this; omega⟩
        case measure => simp [intOf]; omega
      · have hxf : x = f := by rw [beq_dec] at hq; exact of_decide_eq_true hq
        go_wp2_with fail
        go_ret
        refine ⟨?_, HB.out⟩
        have : zs.contains f = true := by rw [List.contains_iff_mem]; exact List.mem_of_getElem? (by rw [← hxf]; exact HX.out)
        rw [this]; rfl
    · have hje : j = zs.length := by omega
      have HJ := Lib.hid hje
      clear hje
      go_wp2_with fail
      go_ret
      refine ⟨?_, HB.out⟩
      have := HNO.out
      rw [HJ.out, List.take_length] at this
      rw [this]; rfl
def numB (f : Int) : Bool := decide (f ≤ 8) || (f == 11) || (f == 12) || (f == 13)
set_option maxRecDepth 10000 in
set_option maxHeartbeats 400000 in
theorem numeric_any (f : Int) (w : World) : Calls Tryz.prog 43 #[I f] w fun e w' => e = .returned (.bool (numB f)) ∧ w' = w := by
  unfold numB
  cases h0 : decide (f ≤ 8)
  · have h0' : ¬ f ≤ 8 := of_decide_eq_false h0
    cases h1 : (f == 11)
    · cases h2 : (f == 12)
      · cases h3 : (f == 13)
        all_goals
          go_enter Tryz.func43, Tryz.ntmps43
          go_wp2
          go_ret
          exact ⟨rfl, rfl⟩
      · go_enter Tryz.func43, Tryz.ntmps43
        go_wp2
        go_ret
        exact ⟨rfl, rfl⟩
    · go_enter Tryz.func43, Tryz.ntmps43
      go_wp2
      go_ret
      exact ⟨rfl, rfl⟩
  · have h0' : f ≤ 8 := of_decide_eq_true h0
    go_enter Tryz.func43, Tryz.ntmps43
    go_wp2
    go_ret
    exact ⟨rfl, rfl⟩
end Go.Proofs.YtenbgpcdoljkgaaGreatDoor

/- kalendsref20.SetNumber. -/
namespace Go.Proofs.YtenbgpcdoljkgaaGreatDoor
open Go Go.RowKit

section
variable {P : Program} {ops : Array Oper} {Q : Exit → Act → World → Prop} {a : Act} {w : World} {rest : List Oper} {d : Option Tmp} {t : TypeId} {pos : String} {af : Array Edge} {g : Option (Nat × Bool)}
theorem g_alloc (ty : TypeId) (h : wpList P ops Q (⟨d, .alloc ty, t, pos, af, g⟩ :: rest) a w) : wpList P ops Q (⟨d, .alloc ty, t, pos, af, g⟩ :: rest) a w := h
end
attribute [local go_sem] ltVal_get lt_get3 lt_get4 lt_get5 lt_get6 lt_get7 lt_get8 lt_get9 lt_get10 lt_get11 lt_get24 lt_get25 lt_get26
theorem sz_eq (l : Lt) (s : Sl) (h : l.ref.length = 32) : (ltVal zLt zSl).size = (ltVal l s).size := by
  have h0 : zLt.ref.length = 32 := by decide
  unfold ltVal
  rw [lt_size _ _ _ _ h, lt_size _ _ _ _ h0]
set_option maxRecDepth 10000 in
set_option maxHeartbeats 8000000 in
theorem setNumber_any (l : Lt) (s : Sl) (k : Nat) (hk : k < 17) (x : Int) (w : World) (hr : l.ref.length = 32) : Calls Tryz.prog 14 #[.agg (ltVal l s), I k, I x] w (Gives (.agg (ltVal (setNum l k x) s)) w) := by
  have HRF : Hid ((setNum l k x).ref.length = 32) := Lib.hid (by rw [setNum_ref]; exact hr)
  have HSN := Lib.hid (fun o (h : numOff k = some o) => (ltVal_setNum l s x k o hk h).symm)
  have HRM : Hid (Row ((w.alloc (.cells (ltVal (setNum l k x) s) 36)).alloc (.cells (ltVal zLt zSl) 36)) w.heap.size (ltVal (setNum l k x) s)) := Lib.hid ((Row.new w (ltVal (setNum l k x) s) 36).keep (below_var _ _))
  have HBM := Lib.hid (below_trans (below_var w (.cells (ltVal (setNum l k x) s) 36)) (below_var _ (.cells (ltVal zLt zSl) 36)))
  have HRN : Hid (Row ((w.alloc (.cells (ltVal l s) 36)).alloc (.cells (ltVal zLt zSl) 36)) w.heap.size (ltVal l s)) := Lib.hid ((Row.new w (ltVal l s) 36).keep (below_var _ _))
  have HBN := Lib.hid (below_trans (below_var w (.cells (ltVal l s) 36)) (below_var _ (.cells (ltVal zLt zSl) 36)))
  have hk' : k = 0 ∨ k = 1 ∨ k = 2 ∨ k = 3 ∨ k = 4 ∨ k = 5 ∨ k = 6 ∨ k = 7 ∨ k = 8 ∨ k = 9 ∨ k = 10 ∨ k = 11 ∨ k = 12 ∨ k = 13 ∨ k = 14 ∨ k = 15 ∨ k = 16 := by omega
  clear hk
  rcases hk' with rfl | rfl | rfl | rfl | rfl | rfl | rfl | rfl | rfl | rfl | rfl | rfl | rfl | rfl | rfl | rfl | rfl
  · have hset : (ltVal l s).setIfInBounds 3 (.int .i64 x) = ltVal (setNum l _ x) s := HSN.out 3 rfl
    clear HSN HRN HBN
    go_enter Tryz.func14, Tryz.ntmps14
    go_wp2_with (first
      | (with_reducible refine g_alloc 36 ?_; refine wpList_alloc_as rfl _ rfl (ltVal zLt zSl) lt_zero ?_)
      | (with_reducible refine g_load 36 ?_; refine wpList_load_Row rfl _ _ rfl w.heap.size rfl (ltVal (setNum l 0 x) s) HRM.out _ Tryz.underlying36 rfl (size62 _ _ HRF.out) ?_)
      | (with_reducible refine g_store 36 ?_; refine wpList_store_row rfl _ _ _ rfl (w.heap.size + 1) (ltVal (setNum l 0 x) s) rfl rfl 36 (ltVal zLt zSl) (heap_alloc2_new w _ _) (size62 _ _ HRF.out) (sz_eq _ _ HRF.out) (ltVal_one _ _) ?_))
    exact bodyPost_ret (v := .agg (ltVal (setNum l 0 x) s)) (results_cell_row rfl _ _ (w.heap.size + 1) _ (ltVal (setNum l 0 x) s) (0, 0) _ rfl (setRow_heap _ _ _ _ _ _ (heap_alloc2_new w _ _)) Tryz.underlying36 rfl (size62 _ _ HRF.out)) rfl ⟨rfl, below_setRow HBM.out (Nat.le_succ _) _⟩
  · have hset : (ltVal l s).setIfInBounds 4 (.int .i64 x) = ltVal (setNum l _ x) s := HSN.out 4 rfl
    clear HSN HRN HBN
    go_enter Tryz.func14, Tryz.ntmps14
    go_wp2_with (first
      | (with_reducible refine g_alloc 36 ?_; refine wpList_alloc_as rfl _ rfl (ltVal zLt zSl) lt_zero ?_)
      | (with_reducible refine g_load 36 ?_; refine wpList_load_Row rfl _ _ rfl w.heap.size rfl (ltVal (setNum l 1 x) s) HRM.out _ Tryz.underlying36 rfl (size62 _ _ HRF.out) ?_)
      | (with_reducible refine g_store 36 ?_; refine wpList_store_row rfl _ _ _ rfl (w.heap.size + 1) (ltVal (setNum l 1 x) s) rfl rfl 36 (ltVal zLt zSl) (heap_alloc2_new w _ _) (size62 _ _ HRF.out) (sz_eq _ _ HRF.out) (ltVal_one _ _) ?_))
    exact bodyPost_ret (v := .agg (ltVal (setNum l 1 x) s)) (results_cell_row rfl _ _ (w.heap.size + 1) _ (ltVal (setNum l 1 x) s) (0, 0) _ rfl (setRow_heap _ _ _ _ _ _ (heap_alloc2_new w _ _)) Tryz.underlying36 rfl (size62 _ _ HRF.out)) rfl ⟨rfl, below_setRow HBM.out (Nat.le_succ _) _⟩
  · have hset : (ltVal l s).setIfInBounds 5 (.int .i64 x) = ltVal (setNum l _ x) s := HSN.out 5 rfl
    clear HSN HRN HBN
    go_enter Tryz.func14, Tryz.ntmps14
    go_wp2_with (first
      | (with_reducible refine g_alloc 36 ?_; refine wpList_alloc_as rfl _ rfl (ltVal zLt zSl) lt_zero ?_)
      | (with_reducible refine g_load 36 ?_; refine wpList_load_Row rfl _ _ rfl w.heap.size rfl (ltVal (setNum l 2 x) s) HRM.out _ Tryz.underlying36 rfl (size62 _ _ HRF.out) ?_)
      | (with_reducible refine g_store 36 ?_; refine wpList_store_row rfl _ _ _ rfl (w.heap.size + 1) (ltVal (setNum l 2 x) s) rfl rfl 36 (ltVal zLt zSl) (heap_alloc2_new w _ _) (size62 _ _ HRF.out) (sz_eq _ _ HRF.out) (ltVal_one _ _) ?_))
    exact bodyPost_ret (v := .agg (ltVal (setNum l 2 x) s)) (results_cell_row rfl _ _ (w.heap.size + 1) _ (ltVal (setNum l 2 x) s) (0, 0) _ rfl (setRow_heap _ _ _ _ _ _ (heap_alloc2_new w _ _)) Tryz.underlying36 rfl (size62 _ _ HRF.out)) rfl ⟨rfl, below_setRow HBM.out (Nat.le_succ _) _⟩
  · have hset : (ltVal l s).setIfInBounds 6 (.int .i64 x) = ltVal (setNum l _ x) s := HSN.out 6 rfl
    clear HSN HRN HBN
    go_enter Tryz.func14, Tryz.ntmps14
    go_wp2_with (first
      | (with_reducible refine g_alloc 36 ?_; refine wpList_alloc_as rfl _ rfl (ltVal zLt zSl) lt_zero ?_)
      | (with_reducible refine g_load 36 ?_; refine wpList_load_Row rfl _ _ rfl w.heap.size rfl (ltVal (setNum l 3 x) s) HRM.out _ Tryz.underlying36 rfl (size62 _ _ HRF.out) ?_)
      | (with_reducible refine g_store 36 ?_; refine wpList_store_row rfl _ _ _ rfl (w.heap.size + 1) (ltVal (setNum l 3 x) s) rfl rfl 36 (ltVal zLt zSl) (heap_alloc2_new w _ _) (size62 _ _ HRF.out) (sz_eq _ _ HRF.out) (ltVal_one _ _) ?_))
    exact bodyPost_ret (v := .agg (ltVal (setNum l 3 x) s)) (results_cell_row rfl _ _ (w.heap.size + 1) _ (ltVal (setNum l 3 x) s) (0, 0) _ rfl (setRow_heap _ _ _ _ _ _ (heap_alloc2_new w _ _)) Tryz.underlying36 rfl (size62 _ _ HRF.out)) rfl ⟨rfl, below_setRow HBM.out (Nat.le_succ _) _⟩
  · have hset : (ltVal l s).setIfInBounds 7 (.int .i64 x) = ltVal (setNum l _ x) s := HSN.out 7 rfl
    clear HSN HRN HBN
    go_enter Tryz.func14, Tryz.ntmps14
    go_wp2_with (first
      | (with_reducible refine g_alloc 36 ?_; refine wpList_alloc_as rfl _ rfl (ltVal zLt zSl) lt_zero ?_)
      | (with_reducible refine g_load 36 ?_; refine wpList_load_Row rfl _ _ rfl w.heap.size rfl (ltVal (setNum l 4 x) s) HRM.out _ Tryz.underlying36 rfl (size62 _ _ HRF.out) ?_)
      | (with_reducible refine g_store 36 ?_; refine wpList_store_row rfl _ _ _ rfl (w.heap.size + 1) (ltVal (setNum l 4 x) s) rfl rfl 36 (ltVal zLt zSl) (heap_alloc2_new w _ _) (size62 _ _ HRF.out) (sz_eq _ _ HRF.out) (ltVal_one _ _) ?_))
    exact bodyPost_ret (v := .agg (ltVal (setNum l 4 x) s)) (results_cell_row rfl _ _ (w.heap.size + 1) _ (ltVal (setNum l 4 x) s) (0, 0) _ rfl (setRow_heap _ _ _ _ _ _ (heap_alloc2_new w _ _)) Tryz.underlying36 rfl (size62 _ _ HRF.out)) rfl ⟨rfl, below_setRow HBM.out (Nat.le_succ _) _⟩
  · have hset : (ltVal l s).setIfInBounds 8 (.int .i64 x) = ltVal (setNum l _ x) s := HSN.out 8 rfl
    clear HSN HRN HBN
    go_enter Tryz.func14, Tryz.ntmps14
    go_wp2_with (first
      | (with_reducible refine g_alloc 36 ?_; refine wpList_alloc_as rfl _ rfl (ltVal zLt zSl) lt_zero ?_)
      | (with_reducible refine g_load 36 ?_; refine wpList_load_Row rfl _ _ rfl w.heap.size rfl (ltVal (setNum l 5 x) s) HRM.out _ Tryz.underlying36 rfl (size62 _ _ HRF.out) ?_)
      | (with_reducible refine g_store 36 ?_; refine wpList_store_row rfl _ _ _ rfl (w.heap.size + 1) (ltVal (setNum l 5 x) s) rfl rfl 36 (ltVal zLt zSl) (heap_alloc2_new w _ _) (size62 _ _ HRF.out) (sz_eq _ _ HRF.out) (ltVal_one _ _) ?_))
    exact bodyPost_ret (v := .agg (ltVal (setNum l 5 x) s)) (results_cell_row rfl _ _ (w.heap.size + 1) _ (ltVal (setNum l 5 x) s) (0, 0) _ rfl (setRow_heap _ _ _ _ _ _ (heap_alloc2_new w _ _)) Tryz.underlying36 rfl (size62 _ _ HRF.out)) rfl ⟨rfl, below_setRow HBM.out (Nat.le_succ _) _⟩
  · have hset : (ltVal l s).setIfInBounds 9 (.int .i64 x) = ltVal (setNum l _ x) s := HSN.out 9 rfl
    clear HSN HRN HBN
    go_enter Tryz.func14, Tryz.ntmps14
    go_wp2_with (first
      | (with_reducible refine g_alloc 36 ?_; refine wpList_alloc_as rfl _ rfl (ltVal zLt zSl) lt_zero ?_)
      | (with_reducible refine g_load 36 ?_; refine wpList_load_Row rfl _ _ rfl w.heap.size rfl (ltVal (setNum l 6 x) s) HRM.out _ Tryz.underlying36 rfl (size62 _ _ HRF.out) ?_)
      | (with_reducible refine g_store 36 ?_; refine wpList_store_row rfl _ _ _ rfl (w.heap.size + 1) (ltVal (setNum l 6 x) s) rfl rfl 36 (ltVal zLt zSl) (heap_alloc2_new w _ _) (size62 _ _ HRF.out) (sz_eq _ _ HRF.out) (ltVal_one _ _) ?_))
    exact bodyPost_ret (v := .agg (ltVal (setNum l 6 x) s)) (results_cell_row rfl _ _ (w.heap.size + 1) _ (ltVal (setNum l 6 x) s) (0, 0) _ rfl (setRow_heap _ _ _ _ _ _ (heap_alloc2_new w _ _)) Tryz.underlying36 rfl (size62 _ _ HRF.out)) rfl ⟨rfl, below_setRow HBM.out (Nat.le_succ _) _⟩
  · have hset : (ltVal l s).setIfInBounds 10 (.int .i64 x) = ltVal (setNum l _ x) s := HSN.out 10 rfl
    clear HSN HRN HBN
    go_enter Tryz.func14, Tryz.ntmps14
    go_wp2_with (first
      | (with_reducible refine g_alloc 36 ?_; refine wpList_alloc_as rfl _ rfl (ltVal zLt zSl) lt_zero ?_)
      | (with_reducible refine g_load 36 ?_; refine wpList_load_Row rfl _ _ rfl w.heap.size rfl (ltVal (setNum l 7 x) s) HRM.out _ Tryz.underlying36 rfl (size62 _ _ HRF.out) ?_)
      | (with_reducible refine g_store 36 ?_; refine wpList_store_row rfl _ _ _ rfl (w.heap.size + 1) (ltVal (setNum l 7 x) s) rfl rfl 36 (ltVal zLt zSl) (heap_alloc2_new w _ _) (size62 _ _ HRF.out) (sz_eq _ _ HRF.out) (ltVal_one _ _) ?_))
    exact bodyPost_ret (v := .agg (ltVal (setNum l 7 x) s)) (results_cell_row rfl _ _ (w.heap.size + 1) _ (ltVal (setNum l 7 x) s) (0, 0) _ rfl (setRow_heap _ _ _ _ _ _ (heap_alloc2_new w _ _)) Tryz.underlying36 rfl (size62 _ _ HRF.out)) rfl ⟨rfl, below_setRow HBM.out (Nat.le_succ _) _⟩
  · have hset : (ltVal l s).setIfInBounds 11 (.int .i64 x) = ltVal (setNum l _ x) s := HSN.out 11 rfl
    clear HSN HRN HBN
    go_enter Tryz.func14, Tryz.ntmps14
    go_wp2_with (first
      | (with_reducible refine g_alloc 36 ?_; refine wpList_alloc_as rfl _ rfl (ltVal zLt zSl) lt_zero ?_)
      | (with_reducible refine g_load 36 ?_; refine wpList_load_Row rfl _ _ rfl w.heap.size rfl (ltVal (setNum l 8 x) s) HRM.out _ Tryz.underlying36 rfl (size62 _ _ HRF.out) ?_)
      | (with_reducible refine g_store 36 ?_; refine wpList_store_row rfl _ _ _ rfl (w.heap.size + 1) (ltVal (setNum l 8 x) s) rfl rfl 36 (ltVal zLt zSl) (heap_alloc2_new w _ _) (size62 _ _ HRF.out) (sz_eq _ _ HRF.out) (ltVal_one _ _) ?_))
    exact bodyPost_ret (v := .agg (ltVal (setNum l 8 x) s)) (results_cell_row rfl _ _ (w.heap.size + 1) _ (ltVal (setNum l 8 x) s) (0, 0) _ rfl (setRow_heap _ _ _ _ _ _ (heap_alloc2_new w _ _)) Tryz.underlying36 rfl (size62 _ _ HRF.out)) rfl ⟨rfl, below_setRow HBM.out (Nat.le_succ _) _⟩
  · clear HSN HRF HRM HBM
    go_enter Tryz.func14, Tryz.ntmps14
    go_wp2_with (first
      | (with_reducible refine g_alloc 36 ?_; refine wpList_alloc_as rfl _ rfl (ltVal zLt zSl) lt_zero ?_)
      | (with_reducible refine g_load 36 ?_; refine wpList_load_Row rfl _ _ rfl w.heap.size rfl (ltVal l s) HRN.out _ Tryz.underlying36 rfl (size62 _ _ hr) ?_)
      | (with_reducible refine g_store 36 ?_; refine wpList_store_row rfl _ _ _ rfl (w.heap.size + 1) (ltVal l s) rfl rfl 36 (ltVal zLt zSl) (heap_alloc2_new w _ _) (size62 _ _ hr) (sz_eq _ _ hr) (ltVal_one _ _) ?_))
    exact bodyPost_ret (v := .agg (ltVal l s)) (results_cell_row rfl _ _ (w.heap.size + 1) _ (ltVal l s) (0, 0) _ rfl (setRow_heap _ _ _ _ _ _ (heap_alloc2_new w _ _)) Tryz.underlying36 rfl (size62 _ _ hr)) rfl ⟨rfl, below_setRow HBN.out (Nat.le_succ _) _⟩
  · clear HSN HRF HRM HBM
    go_enter Tryz.func14, Tryz.ntmps14
    go_wp2_with (first
      | (with_reducible refine g_alloc 36 ?_; refine wpList_alloc_as rfl _ rfl (ltVal zLt zSl) lt_zero ?_)
      | (with_reducible refine g_load 36 ?_; refine wpList_load_Row rfl _ _ rfl w.heap.size rfl (ltVal l s) HRN.out _ Tryz.underlying36 rfl (size62 _ _ hr) ?_)
      | (with_reducible refine g_store 36 ?_; refine wpList_store_row rfl _ _ _ rfl (w.heap.size + 1) (ltVal l s) rfl rfl 36 (ltVal zLt zSl) (heap_alloc2_new w _ _) (size62 _ _ hr) (sz_eq _ _ hr) (ltVal_one _ _) ?_))
    exact bodyPost_ret (v := .agg (ltVal l s)) (results_cell_row rfl _ _ (w.heap.size + 1) _ (ltVal l s) (0, 0) _ rfl (setRow_heap _ _ _ _ _ _ (heap_alloc2_new w _ _)) Tryz.underlying36 rfl (size62 _ _ hr)) rfl ⟨rfl, below_setRow HBN.out (Nat.le_succ _) _⟩
  · have hset : (ltVal l s).setIfInBounds 24 (.int .i64 x) = ltVal (setNum l _ x) s := HSN.out 24 rfl
    clear HSN HRN HBN
    go_enter Tryz.func14, Tryz.ntmps14
    go_wp2_with (first
      | (with_reducible refine g_alloc 36 ?_; refine wpList_alloc_as rfl _ rfl (ltVal zLt zSl) lt_zero ?_)
      | (with_reducible refine g_load 36 ?_; refine wpList_load_Row rfl _ _ rfl w.heap.size rfl (ltVal (setNum l 11 x) s) HRM.out _ Tryz.underlying36 rfl (size62 _ _ HRF.out) ?_)
      | (with_reducible refine g_store 36 ?_; refine wpList_store_row rfl _ _ _ rfl (w.heap.size + 1) (ltVal (setNum l 11 x) s) rfl rfl 36 (ltVal zLt zSl) (heap_alloc2_new w _ _) (size62 _ _ HRF.out) (sz_eq _ _ HRF.out) (ltVal_one _ _) ?_))
    exact bodyPost_ret (v := .agg (ltVal (setNum l 11 x) s)) (results_cell_row rfl _ _ (w.heap.size + 1) _ (ltVal (setNum l 11 x) s) (0, 0) _ rfl (setRow_heap _ _ _ _ _ _ (heap_alloc2_new w _ _)) Tryz.underlying36 rfl (size62 _ _ HRF.out)) rfl ⟨rfl, below_setRow HBM.out (Nat.le_succ _) _⟩
  · have hset : (ltVal l s).setIfInBounds 25 (.int .i64 x) = ltVal (setNum l _ x) s := HSN.out 25 rfl
    clear HSN HRN HBN
    go_enter Tryz.func14, Tryz.ntmps14
    go_wp2_with (first
      | (with_reducible refine g_alloc 36 ?_; refine wpList_alloc_as rfl _ rfl (ltVal zLt zSl) lt_zero ?_)
      | (with_reducible refine g_load 36 ?_; refine wpList_load_Row rfl _ _ rfl w.heap.size rfl (ltVal (setNum l 12 x) s) HRM.out _ Tryz.underlying36 rfl (size62 _ _ HRF.out) ?_)
      | (with_reducible refine g_store 36 ?_; refine wpList_store_row rfl _ _ _ rfl (w.heap.size + 1) (ltVal (setNum l 12 x) s) rfl rfl 36 (ltVal zLt zSl) (heap_alloc2_new w _ _) (size62 _ _ HRF.out) (sz_eq _ _ HRF.out) (ltVal_one _ _) ?_))
    exact bodyPost_ret (v := .agg (ltVal (setNum l 12 x) s)) (results_cell_row rfl _ _ (w.heap.size + 1) _ (ltVal (setNum l 12 x) s) (0, 0) _ rfl (setRow_heap _ _ _ _ _ _ (heap_alloc2_new w _ _)) Tryz.underlying36 rfl (size62 _ _ HRF.out)) rfl ⟨rfl, below_setRow HBM.out (Nat.le_succ _) _⟩
  · have hset : (ltVal l s).setIfInBounds 26 (.int .i64 x) = ltVal (setNum l _ x) s := HSN.out 26 rfl
    clear HSN HRN HBN
    go_enter Tryz.func14, Tryz.ntmps14
    go_wp2_with (first
      | (with_reducible refine g_alloc 36 ?_; refine wpList_alloc_as rfl _ rfl (ltVal zLt zSl) lt_zero ?_)
      | (with_reducible refine g_load 36 ?_; refine wpList_load_Row rfl _ _ rfl w.heap.size rfl (ltVal (setNum l 13 x) s) HRM.out _ Tryz.underlying36 rfl (size62 _ _ HRF.out) ?_)
      | (with_reducible refine g_store 36 ?_; refine wpList_store_row rfl _ _ _ rfl (w.heap.size + 1) (ltVal (setNum l 13 x) s) rfl rfl 36 (ltVal zLt zSl) (heap_alloc2_new w _ _) (size62 _ _ HRF.out) (sz_eq _ _ HRF.out) (ltVal_one _ _) ?_))
    exact bodyPost_ret (v := .agg (ltVal (setNum l 13 x) s)) (results_cell_row rfl _ _ (w.heap.size + 1) _ (ltVal (setNum l 13 x) s) (0, 0) _ rfl (setRow_heap _ _ _ _ _ _ (heap_alloc2_new w _ _)) Tryz.underlying36 rfl (size62 _ _ HRF.out)) rfl ⟨rfl, below_setRow HBM.out (Nat.le_succ _) _⟩
  · clear HSN HRF HRM HBM
    go_enter Tryz.func14, Tryz.ntmps14
    go_wp2_with (first
      | (with_reducible refine g_alloc 36 ?_; refine wpList_alloc_as rfl _ rfl (ltVal zLt zSl) lt_zero ?_)
      | (with_reducible refine g_load 36 ?_; refine wpList_load_Row rfl _ _ rfl w.heap.size rfl (ltVal l s) HRN.out _ Tryz.underlying36 rfl (size62 _ _ hr) ?_)
      | (with_reducible refine g_store 36 ?_; refine wpList_store_row rfl _ _ _ rfl (w.heap.size + 1) (ltVal l s) rfl rfl 36 (ltVal zLt zSl) (heap_alloc2_new w _ _) (size62 _ _ hr) (sz_eq _ _ hr) (ltVal_one _ _) ?_))
    exact bodyPost_ret (v := .agg (ltVal l s)) (results_cell_row rfl _ _ (w.heap.size + 1) _ (ltVal l s) (0, 0) _ rfl (setRow_heap _ _ _ _ _ _ (heap_alloc2_new w _ _)) Tryz.underlying36 rfl (size62 _ _ hr)) rfl ⟨rfl, below_setRow HBN.out (Nat.le_succ _) _⟩
  · clear HSN HRF HRM HBM
    go_enter Tryz.func14, Tryz.ntmps14
    go_wp2_with (first
      | (with_reducible refine g_alloc 36 ?_; refine wpList_alloc_as rfl _ rfl (ltVal zLt zSl) lt_zero ?_)
      | (with_reducible refine g_load 36 ?_; refine wpList_load_Row rfl _ _ rfl w.heap.size rfl (ltVal l s) HRN.out _ Tryz.underlying36 rfl (size62 _ _ hr) ?_)
      | (with_reducible refine g_store 36 ?_; refine wpList_store_row rfl _ _ _ rfl (w.heap.size + 1) (ltVal l s) rfl rfl 36 (ltVal zLt zSl) (heap_alloc2_new w _ _) (size62 _ _ hr) (sz_eq _ _ hr) (ltVal_one _ _) ?_))
    exact bodyPost_ret (v := .agg (ltVal l s)) (results_cell_row rfl _ _ (w.heap.size + 1) _ (ltVal l s) (0, 0) _ rfl (setRow_heap _ _ _ _ _ _ (heap_alloc2_new w _ _)) Tryz.underlying36 rfl (size62 _ _ hr)) rfl ⟨rfl, below_setRow HBN.out (Nat.le_succ _) _⟩
  · clear HSN HRF HRM HBM
    go_enter Tryz.func14, Tryz.ntmps14
    go_wp2_with (first
      | (with_reducible refine g_alloc 36 ?_; refine wpList_alloc_as rfl _ rfl (ltVal zLt zSl) lt_zero ?_)
      | (with_reducible refine g_load 36 ?_; refine wpList_load_Row rfl _ _ rfl w.heap.size rfl (ltVal l s) HRN.out _ Tryz.underlying36 rfl (size62 _ _ hr) ?_)
      | (with_reducible refine g_store 36 ?_; refine wpList_store_row rfl _ _ _ rfl (w.heap.size + 1) (ltVal l s) rfl rfl 36 (ltVal zLt zSl) (heap_alloc2_new w _ _) (size62 _ _ hr) (sz_eq _ _ hr) (ltVal_one _ _) ?_))
    exact bodyPost_ret (v := .agg (ltVal l s)) (results_cell_row rfl _ _ (w.heap.size + 1) _ (ltVal l s) (0, 0) _ rfl (setRow_heap _ _ _ _ _ _ (heap_alloc2_new w _ _)) Tryz.underlying36 rfl (size62 _ _ hr)) rfl ⟨rfl, below_setRow HBN.out (Nat.le_succ _) _⟩
end Go.Proofs.YtenbgpcdoljkgaaGreatDoor

/- kalendsref20.bounds. -/
namespace Go.Proofs.YtenbgpcdoljkgaaGreatDoor
open Go Go.RowKit

/-- The range of a field that is a number. -/
def bnd (k : Int) (f : Nat) : Int × Int :=
  match f with
  | 0 => (1, 1099511627776)
  | 1 => if (k == 1) = true then (1, 1) else if ((k == 6) || (k == 7)) = true then (2, 1099511627776) else (1, 1099511627776)
  | 2 => (0, 15)
  | 3 => (1, 64)
  | 4 => (0, 511)
  | 5 => if (k == 8) = true then (0, 63) else (0, 511)
  | 6 => (0, 255)
  | 7 => (1, 3)
  | 8 => (0, 1099511627776)
  | 11 => (0, 2251799813685248)
  | 13 => (1, 4)
  | _ => if (k == 8) = true then (1, 512) else if (k == 14) = true then (0, 5) else (0, 18)
theorem bnd_ok (k : Int) (f : Nat) : 0 ≤ (bnd k f).1 ∧ (bnd k f).1 ≤ (bnd k f).2 ∧ (bnd k f).2 ≤ 2251799813685248 := by
  unfold bnd
  split <;> (repeat' split) <;> decide
def BndGot (k : Int) (f : Nat) (w : World) (e : Ending) (w' : World) : Prop := e = .returned (.tuple #[I (bnd k f).1, I (bnd k f).2]) ∧ w' = w
set_option maxRecDepth 10000 in
set_option maxHeartbeats 4000000 in
theorem bounds_any (k : Int) (f : Nat) (hf : f < 17) (w : World) : Calls Tryz.prog 71 #[I k, I f] w (BndGot k f w) := by
  have hf' : f = 0 ∨ f = 1 ∨ f = 2 ∨ f = 3 ∨ f = 4 ∨ f = 5 ∨ f = 6 ∨ f = 7 ∨ f = 8 ∨ f = 9 ∨ f = 10 ∨ f = 11 ∨ f = 12 ∨ f = 13 ∨ f = 14 ∨ f = 15 ∨ f = 16 := by omega
  clear hf
  rcases hf' with rfl | rfl | rfl | rfl | rfl | rfl | rfl | rfl | rfl | rfl | rfl | rfl | rfl | rfl | rfl | rfl | rfl
  · go_enter Tryz.func71, Tryz.ntmps71
    go_wp2
    go_ret2
    exact ⟨rfl, rfl⟩
  · cases h1 : (k == 1)
    · cases h6 : (k == 6)
      · cases h7 : (k == 7)
        · go_enter Tryz.func71, Tryz.ntmps71
          go_wp2
          go_ret2
          exact ⟨by unfold bnd; simp only [h1, h6, h7]; rfl, rfl⟩
        · go_enter Tryz.func71, Tryz.ntmps71
          go_wp2
          go_ret2
          exact ⟨by unfold bnd; simp only [h1, h6, h7]; rfl, rfl⟩
      · go_enter Tryz.func71, Tryz.ntmps71
        go_wp2
        go_ret2
        exact ⟨by unfold bnd; simp only [h1, h6]; rfl, rfl⟩
    · go_enter Tryz.func71, Tryz.ntmps71
      go_wp2
      go_ret2
      exact ⟨by unfold bnd; simp only [h1]; rfl, rfl⟩
  · go_enter Tryz.func71, Tryz.ntmps71
    go_wp2
    go_ret2
    exact ⟨rfl, rfl⟩
  · go_enter Tryz.func71, Tryz.ntmps71
    go_wp2
    go_ret2
    exact ⟨rfl, rfl⟩
  · go_enter Tryz.func71, Tryz.ntmps71
    go_wp2
    go_ret2
    exact ⟨rfl, rfl⟩
  · cases h8 : (k == 8)
    · go_enter Tryz.func71, Tryz.ntmps71
      go_wp2
      go_ret2
      exact ⟨by unfold bnd; simp only [h8]; rfl, rfl⟩
    · go_enter Tryz.func71, Tryz.ntmps71
      go_wp2
      go_ret2
      exact ⟨by unfold bnd; simp only [h8]; rfl, rfl⟩
  · go_enter Tryz.func71, Tryz.ntmps71
    go_wp2
    go_ret2
    exact ⟨rfl, rfl⟩
  · go_enter Tryz.func71, Tryz.ntmps71
    go_wp2
    go_ret2
    exact ⟨rfl, rfl⟩
  · go_enter Tryz.func71, Tryz.ntmps71
    go_wp2
    go_ret2
    exact ⟨rfl, rfl⟩
  · cases h8 : (k == 8)
    · cases h14 : (k == 14)
      · go_enter Tryz.func71, Tryz.ntmps71
        go_wp2
        go_ret2
        exact ⟨by unfold bnd; simp only [h8, h14]; rfl, rfl⟩
      · go_enter Tryz.func71, Tryz.ntmps71
        go_wp2
        go_ret2
        exact ⟨by unfold bnd; simp only [h8, h14]; rfl, rfl⟩
    · go_enter Tryz.func71, Tryz.ntmps71
      go_wp2
      go_ret2
      exact ⟨by unfold bnd; simp only [h8]; rfl, rfl⟩
  · cases h8 : (k == 8)
    · cases h14 : (k == 14)
      · go_enter Tryz.func71, Tryz.ntmps71
        go_wp2
        go_ret2
        exact ⟨by unfold bnd; simp only [h8, h14]; rfl, rfl⟩
      · go_enter Tryz.func71, Tryz.ntmps71
        go_wp2
        go_ret2
        exact ⟨by unfold bnd; simp only [h8, h14]; rfl, rfl⟩
    · go_enter Tryz.func71, Tryz.ntmps71
      go_wp2
      go_ret2
      exact ⟨by unfold bnd; simp only [h8]; rfl, rfl⟩
  · go_enter Tryz.func71, Tryz.ntmps71
    go_wp2
    go_ret2
    exact ⟨rfl, rfl⟩
  · cases h8 : (k == 8)
    · cases h14 : (k == 14)
      · go_enter Tryz.func71, Tryz.ntmps71
        go_wp2
        go_ret2
        exact ⟨by unfold bnd; simp only [h8, h14]; rfl, rfl⟩
      · go_enter Tryz.func71, Tryz.ntmps71
        go_wp2
        go_ret2
        exact ⟨by unfold bnd; simp only [h8, h14]; rfl, rfl⟩
    · go_enter Tryz.func71, Tryz.ntmps71
      go_wp2
      go_ret2
      exact ⟨by unfold bnd; simp only [h8]; rfl, rfl⟩
  · go_enter Tryz.func71, Tryz.ntmps71
    go_wp2
    go_ret2
    exact ⟨rfl, rfl⟩
  · cases h8 : (k == 8)
    · cases h14 : (k == 14)
      · go_enter Tryz.func71, Tryz.ntmps71
        go_wp2
        go_ret2
        exact ⟨by unfold bnd; simp only [h8, h14]; rfl, rfl⟩
      · go_enter Tryz.func71, Tryz.ntmps71
        go_wp2
        go_ret2
        exact ⟨by unfold bnd; simp only [h8, h14]; rfl, rfl⟩
    · go_enter Tryz.func71, Tryz.ntmps71
      go_wp2
      go_ret2
      exact ⟨by unfold bnd; simp only [h8]; rfl, rfl⟩
  · cases h8 : (k == 8)
    · cases h14 : (k == 14)
      · go_enter Tryz.func71, Tryz.ntmps71
        go_wp2
        go_ret2
        exact ⟨by unfold bnd; simp only [h8, h14]; rfl, rfl⟩
      · go_enter Tryz.func71, Tryz.ntmps71
        go_wp2
        go_ret2
        exact ⟨by unfold bnd; simp only [h8, h14]; rfl, rfl⟩
    · go_enter Tryz.func71, Tryz.ntmps71
      go_wp2
      go_ret2
      exact ⟨by unfold bnd; simp only [h8]; rfl, rfl⟩
  · cases h8 : (k == 8)
    · cases h14 : (k == 14)
      · go_enter Tryz.func71, Tryz.ntmps71
        go_wp2
        go_ret2
        exact ⟨by unfold bnd; simp only [h8, h14]; rfl, rfl⟩
      · go_enter Tryz.func71, Tryz.ntmps71
        go_wp2
        go_ret2
        exact ⟨by unfold bnd; simp only [h8, h14]; rfl, rfl⟩
    · go_enter Tryz.func71, Tryz.ntmps71
      go_wp2
      go_ret2
      exact ⟨by unfold bnd; simp only [h8]; rfl, rfl⟩
end Go.Proofs.YtenbgpcdoljkgaaGreatDoor
