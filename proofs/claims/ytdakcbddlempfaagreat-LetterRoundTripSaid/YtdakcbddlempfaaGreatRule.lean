/- (*kalendsref07.Maker).Rule, walked. -/
import Derived.Test.YtdakcbddlempfaaGreatRuleS
namespace Go.Proofs.YtdakcbddlempfaaGreat
open Go Go.RowKit

theorem RuleIs.lower {lo lo' : Nat} {w : World} {v : Value} {ns : List NdV} (h : RuleIs lo w v ns) (hl : lo' ≤ lo) : RuleIs lo' w v ns := ⟨ownsRow_base' h.row hl, fun x hx => (h.lists x hx).lower hl⟩
theorem RuleIs.put {lo : Nat} {w : World} {v : Value} {ns : List NdV} (h : RuleIs lo w v ns) (b o : Nat) (u : Value) (hb : b < lo) : RuleIs lo (w.setCell ⟨b, o, none⟩ u) v ns :=
  h.of_blocks (by simp [World.setCell]) fun k h1 _ => heap_setCell_other w _ k u (by show k ≠ b; omega)
theorem LI.put {lo : Nat} {w : World} {A : Option Addr} {zs : List Int} (h : LI lo w A zs) (b o : Nat) (u : Value) (hb : b < lo) : LI lo (w.setCell ⟨b, o, none⟩ u) A zs :=
  h.of_blocks (by simp [World.setCell]) fun k h1 _ => heap_setCell_other w _ k u (by show k ≠ b; omega)
theorem leaf_lr {cals : Int} {d : Nd} (h : LeafOK cals d) : 0 ≤ d.l ∧ d.l ≤ 2 ∧ 0 ≤ d.r ∧ d.r ≤ 2 := by
  obtain ⟨hr, h⟩ := h
  refine ⟨?_, ?_, by omega, by omega⟩ <;> (rcases h with h | h | h | h | h | h | h | h <;> omega)
theorem mk_cells {w : World} {mb : Nat} {xs : List Int} {a n : Nat} (h : MkSt w mb xs a n) : ∃ A c, w.cell? ⟨mb, 0, none⟩ = some (.slice A xs.length c) ∧ w.cell? ⟨mb, 1, none⟩ = some (I a) ∧ w.cell? ⟨mb, 3, none⟩ = some (I n) ∧ w.frozen? ⟨mb, 3, none⟩ = false := by
  obtain ⟨A, c, h1, _⟩ := h
  exact ⟨A, c, cell_of_row w mb 0 _ _ _ h1, cell_of_row w mb 1 _ _ _ h1, cell_of_row w mb 3 _ _ _ h1, frozen_of_row w mb 3 _ _ h1⟩
theorem pow_pos4 (n : Nat) : 0 < 4 ^ n := Nat.pow_pos (by decide)
theorem ruled_leaf {deep : Nat} {w w1 w2 : World} {mb at_ nodes a' : Nat} {xs : List Int} {cals : Int} {d : Nd} {A : Option Addr} {c q : Nat} (hk1 : MKeep mb w w1) (hl : Leafed (w1.drewN q) mb xs (at_ + 1) (nodes + 1) (LeafOK cals) (.returned (.agg (ndCells d A c))) w2) (hml : mb < w.heap.size)
    (hP : LeafOK cals d) (hli : LI (w1.drewN q).heap.size w2 A d.list) (hm2 : MkSt w2 mb xs a' (nodes + 1)) (ha : a' ≤ at_ + 1 + 12) (hk2 : MKeep mb (w1.drewN q) w2) :
    Ruled deep w.heap.size w mb xs at_ nodes cals (.returned (.slice (some ⟨w2.heap.size, 0, none⟩) 1 1)) (w2.alloc (.cells (ndCells d A c) 87)) := by
  have _ := hl
  have _ := hml
  have hs : w.heap.size ≤ w1.heap.size := hk1.size
  have h4 := pow_pos4 deep
  refine ⟨[⟨d, A, c⟩], _, a', nodes + 1, rfl, by simp, by simp; omega, MRule.leaf ⟨d, A, c⟩ hP, ?_, rule_one (x := ⟨d, A, c⟩) (Nat.le_trans hs hk2.size) (hli.lower hs), hm2.grow (below_var w2 _), by omega, by omega, ((hk1.draws q).trans hk2).trans (MKeep.of_below (below_var w2 _))⟩
  intro x hx
  rw [List.mem_singleton.1 hx]
  have := leaf_lr hP
  have h0 : (0 : Int) ≤ 1000 * (deep : Int) := by omega
  exact ⟨this.1, by show d.l ≤ _; omega, this.2.2.1, by show d.r ≤ _; omega⟩
theorem pow_le64 {deep : Nat} (h : deep ≤ 3) : 4 ^ deep ≤ 64 := Nat.pow_le_pow_right (by decide : 0 < 4) h
theorem ruled_two {deep lo1 : Nat} {w w5 : World} {mb at_ nodes a' n' : Nat} {xs : List Int} {cals : Int} {ns ms : List NdV} {x : NdV} {v : Value} (hdp : deep ≤ 3) (hn1 : 0 < ns.length) (hn2 : ns.length ≤ 4 ^ deep) (hm2 : ms.length ≤ 4 ^ deep)
    (rn : MRule cals ns) (rm : MRule cals ms) (hx : TwoOK x.d) (wn : Within (1000 * deep + 2) ns) (wm : Within (1000 * deep + 2) ms) (hr : RuleIs lo1 w5 v (bothN ns ms x)) (hlo : w.heap.size ≤ lo1) (hm : MkSt w5 mb xs a' n')
    (ha : a' ≤ at_ + 2 + 2 * (20 * 4 ^ deep)) (hn : n' ≤ nodes + 1 + 2 * 4 ^ deep) (hk : MKeep mb w w5) : Ruled (deep + 1) w.heap.size w mb xs at_ nodes cals (.returned v) w5 := by
  have h4 := pow_pos4 deep
  have h64 := pow_le64 hdp
  have hp : 4 ^ (deep + 1) = 4 * 4 ^ deep := by rw [Nat.pow_succ]; omega
  have hlen : (bothN ns ms x).length = ns.length + ms.length + 1 := by unfold bothN movedN; simp; omega
  refine ⟨bothN ns ms x, v, a', n', rfl, by omega, by omega, MRule.two ns ms x rn rm hx, wn.both wm (by rw [Int.natCast_add]; omega) hn1 (by rw [Int.natCast_add]; omega), hr.lower hlo, hm, by omega, by omega, hk⟩
theorem ruled_over {deep lo1 : Nat} {w w5 : World} {mb at_ nodes a' n' : Nat} {xs : List Int} {cals : Int} {ns : List NdV} {x : NdV} {v : Value} (hdp : deep ≤ 3) (hn1 : 0 < ns.length) (hn2 : ns.length ≤ 4 ^ deep)
    (rn : MRule cals ns) (hx : OneOK cals x.d) (wn : Within (1000 * deep + 2) ns) (hr : RuleIs lo1 w5 v (overN ns x)) (hlo : w.heap.size ≤ lo1) (hm : MkSt w5 mb xs a' n')
    (ha : a' ≤ at_ + 1 + 20 * 4 ^ deep + 8) (hn : n' ≤ nodes + 1 + 4 ^ deep) (hk : MKeep mb w w5) : Ruled (deep + 1) w.heap.size w mb xs at_ nodes cals (.returned v) w5 := by
  have h4 := pow_pos4 deep
  have h64 := pow_le64 hdp
  have hp : 4 ^ (deep + 1) = 4 * 4 ^ deep := by rw [Nat.pow_succ]; omega
  have hlen : (overN ns x).length = ns.length + 1 := by unfold overN; simp
  refine ⟨overN ns x, v, a', n', rfl, by omega, by omega, MRule.one ns x rn hx, wn.over (by rw [Int.natCast_add]; omega) hn1 (by rw [Int.natCast_add]; omega) hx.1, hr.lower hlo, hm, by omega, by omega, hk⟩
theorem NS.begin {w w2 : World} {mb a nd : Nat} {xs : List Int} {cs : Array Value} (hm : MkSt w2 mb xs a nd) (hml : mb < w.heap.size) (hk : MKeep mb w w2) : NS w w.heap.size mb xs a nd w2.heap.size cs (w2.alloc (.cells cs 87)) :=
  ⟨hml, Nat.le_refl _, hm.grow (below_var w2 _), hk.trans (MKeep.of_below (below_var w2 _)), hk.size, heap_alloc_last w2 _⟩
set_option maxRecDepth 10000 in
set_option maxHeartbeats 1000000 in
theorem rule_zero (xs : List Int) (hx : XsOK xs) (cals : Int) (hc1 : 0 < cals) (hc2 : cals ≤ 1000) (w : World) (mb at_ nodes : Nat) (h : MkSt w mb xs at_ nodes) (hat : at_ ≤ 1000000) (hnd : nodes ≤ 1000000) :
    Calls Tryz.prog 69 #[pt mb, I 0, I cals] w (Ruled 0 w.heap.size w mb xs at_ nodes cals) := by
  have hml := h.lt
  have HM0 : Hid (MkSt (w.setCell ⟨mb, 3, none⟩ (I ((nodes + 1 : Nat) : Int))) mb xs at_ (nodes + 1)) := Lib.hid (h.setNodes (nodes + 1))
  have HK0 := Lib.hid ((MKeep.refl mb w).set 3 (I ((nodes + 1 : Nat) : Int)))
  obtain ⟨A0, c0, e0, e1, e3, f3⟩ := mk_cells h
  clear h
  go_enter Tryz.func69, Tryz.ntmps69
  go_wp2_with fail
  clear e0 e1 e3 f3
  refine (pick_any (w.setCell ⟨mb, 3, none⟩ (I ((nodes + 1 : Nat) : Int))) mb xs at_ (nodes + 1) 14 HM0.out hx (by omega) (by omega) (by omega)).mono ?_
  rintro e w1 ⟨k, rfl, hk1, hk2, hm1, hkp1⟩
  have HM1 := Lib.hid hm1
  have HK1 := Lib.hid (HK0.out.trans hkp1)
  obtain ⟨A1, c1, d0, d1, d3, -⟩ := mk_cells hm1
  clear hm1 hkp1 HM0 HK0
  go_wp2_with fail
  go_quiet (fail)
  go_wp2_with fail
  refine (leaf_any _ mb xs (at_ + 1) (nodes + 1) cals (HM1.out.draws nq) hx (by omega) hc1 hc2).mono ?_
  rintro e w2 ⟨d, A, c, a', rfl, hP, hli, hm2, ha2, hk3⟩
  have HF : Hid (Ruled 0 w.heap.size w mb xs at_ nodes cals (.returned (.slice (some ⟨w2.heap.size, 0, none⟩) 1 1)) (w2.alloc (.cells (ndCells d A c) 87))) := Lib.hid (ruled_leaf HK1.out ⟨d, A, c, a', rfl, hP, hli, hm2, ha2, hk3⟩ hml hP hli hm2 ha2 hk3)
  clear hP hli hm2 ha2 hk3 d0 d1 d3
  go_wp2_with (with_reducible refine g_bslice 28 ?_; refine wpList_node_slice rfl _ rfl d A c rfl ?_)
  go_ret
  exact HF.out
set_option maxRecDepth 10000 in
set_option maxHeartbeats 4000000 in
theorem rule_step (xs : List Int) (hx : XsOK xs) (cals : Int) (hc1 : 0 < cals) (hc2 : cals ≤ 1000) (deep : Nat) (hdp : deep ≤ 3) (M : Nat) (hM : M ≤ 1000000) (IH : ∀ (w : World) (mb at_ nodes : Nat), MkSt w mb xs at_ nodes → at_ ≤ M → nodes ≤ M → Calls Tryz.prog 69 #[pt mb, I (deep : Int), I cals] w (Ruled deep w.heap.size w mb xs at_ nodes cals))
    (w : World) (mb at_ nodes : Nat) (h : MkSt w mb xs at_ nodes) (hat : at_ + 10000 ≤ M) (hnd : nodes + 10000 ≤ M) :
    Calls Tryz.prog 69 #[pt mb, I ((deep : Int) + 1), I cals] w (Ruled (deep + 1) w.heap.size w mb xs at_ nodes cals) := by
  have hml := h.lt
  have HM0 : Hid (MkSt (w.setCell ⟨mb, 3, none⟩ (I ((nodes + 1 : Nat) : Int))) mb xs at_ (nodes + 1)) := Lib.hid (h.setNodes (nodes + 1))
  have HK0 := Lib.hid ((MKeep.refl mb w).set 3 (I ((nodes + 1 : Nat) : Int)))
  obtain ⟨A0, c0, e0, e1, e3, f3⟩ := mk_cells h
  clear h
  go_enter Tryz.func69, Tryz.ntmps69
  go_wp2_with fail
  clear e0 e1 e3 f3
  refine (pick_any (w.setCell ⟨mb, 3, none⟩ (I ((nodes + 1 : Nat) : Int))) mb xs at_ (nodes + 1) 14 HM0.out hx (by omega) (by omega) (by omega)).mono ?_
  rintro e w1 ⟨k, rfl, hk1, hk2, hm1, hkp1⟩
  have HM1 := Lib.hid hm1
  have HK1 := Lib.hid (HK0.out.trans hkp1)
  obtain ⟨A1, c1, d0, d1, d3, -⟩ := mk_cells hm1
  clear hm1 hkp1 HM0 HK0
  have hd0 : ¬ ((deep : Int) + 1 ≤ 0) := by omega
  have dd0 : decide ((deep : Int) + 1 ≤ 0) = false := decide_eq_false hd0
  by_cases q1 : (xs.length : Int) < (at_ : Int) + 1
  · have dq1 : decide ((xs.length : Int) < (at_ : Int) + 1) = true := decide_eq_true q1
    go_wp2_with fail
    go_quiet (fail)
    go_wp2_with fail
    refine (leaf_any _ mb xs (at_ + 1) (nodes + 1) cals (HM1.out.draws nq) hx (by omega) hc1 hc2).mono ?_
    rintro e w2 ⟨d, A, c, a', rfl, hP, hli, hm2, ha2, hk3⟩
    have HF : Hid (Ruled (deep + 1) w.heap.size w mb xs at_ nodes cals (.returned (.slice (some ⟨w2.heap.size, 0, none⟩) 1 1)) (w2.alloc (.cells (ndCells d A c) 87))) := Lib.hid (ruled_leaf HK1.out ⟨d, A, c, a', rfl, hP, hli, hm2, ha2, hk3⟩ hml hP hli hm2 ha2 hk3)
    clear hP hli hm2 ha2 hk3 d0 d1 d3
    go_wp2_with (with_reducible refine g_bslice 28 ?_; refine wpList_node_slice rfl _ rfl d A c rfl ?_)
    go_ret
    exact HF.out
  · have dq1 : decide ((xs.length : Int) < (at_ : Int) + 1) = false := decide_eq_false q1
    by_cases q2 : (30 : Int) < (nodes : Int) + 1
    · have dq2 : decide ((30 : Int) < (nodes : Int) + 1) = true := decide_eq_true q2
      go_wp2_with fail
      go_quiet (fail)
      go_wp2_with fail
      refine (leaf_any _ mb xs (at_ + 1) (nodes + 1) cals (HM1.out.draws nq) hx (by omega) hc1 hc2).mono ?_
      rintro e w2 ⟨d, A, c, a', rfl, hP, hli, hm2, ha2, hk3⟩
      have HF : Hid (Ruled (deep + 1) w.heap.size w mb xs at_ nodes cals (.returned (.slice (some ⟨w2.heap.size, 0, none⟩) 1 1)) (w2.alloc (.cells (ndCells d A c) 87))) := Lib.hid (ruled_leaf HK1.out ⟨d, A, c, a', rfl, hP, hli, hm2, ha2, hk3⟩ hml hP hli hm2 ha2 hk3)
      clear hP hli hm2 ha2 hk3 d0 d1 d3
      go_wp2_with (with_reducible refine g_bslice 28 ?_; refine wpList_node_slice rfl _ rfl d A c rfl ?_)
      go_ret
      exact HF.out
    · have dq2 : decide ((30 : Int) < (nodes : Int) + 1) = false := decide_eq_false q2
      by_cases q3 : (10 : Int) ≤ k
      · have dq3 : decide ((10 : Int) ≤ k) = true := decide_eq_true q3
        go_wp2_with fail
        go_quiet (fail)
        go_wp2_with fail
        refine (leaf_any _ mb xs (at_ + 1) (nodes + 1) cals (HM1.out.draws nq) hx (by omega) hc1 hc2).mono ?_
        rintro e w2 ⟨d, A, c, a', rfl, hP, hli, hm2, ha2, hk3⟩
        have HF : Hid (Ruled (deep + 1) w.heap.size w mb xs at_ nodes cals (.returned (.slice (some ⟨w2.heap.size, 0, none⟩) 1 1)) (w2.alloc (.cells (ndCells d A c) 87))) := Lib.hid (ruled_leaf HK1.out ⟨d, A, c, a', rfl, hP, hli, hm2, ha2, hk3⟩ hml hP hli hm2 ha2 hk3)
        clear hP hli hm2 ha2 hk3 d0 d1 d3
        go_wp2_with (with_reducible refine g_bslice 28 ?_; refine wpList_node_slice rfl _ rfl d A c rfl ?_)
        go_ret
        exact HF.out
      · have dq3 : decide ((10 : Int) ≤ k) = false := decide_eq_false q3
        go_wp2_with fail
        go_quiet (fail)
        clear d0 d1 d3 dd0 dq1 dq2 dq3 q1 q2 hd0
        have HM2 := Lib.hid (HM1.out.draws nq)
        have HK2 := Lib.hid (HK1.out.draws nq)
        obtain ⟨w2, hw2⟩ : ∃ W, w1.drewN nq = W := ⟨_, rfl⟩
        rw [hw2] at HM2 HK2 ⊢
        clear hw2 HM1 HK1
        have hm2lt : mb < w2.heap.size := Nat.lt_of_lt_of_le hml HK2.out.size
        have hkc : k = 0 ∨ k = 1 ∨ k = 2 ∨ k = 3 ∨ k = 4 ∨ k = 5 ∨ k = 6 ∨ k = 7 ∨ k = 8 ∨ k = 9 := by omega
        clear hk1 hk2 q3
        rcases hkc with rfl | rfl | rfl | rfl | rfl | rfl | rfl | rfl | rfl | rfl
        · have n0 : Hid (NS w w.heap.size mb xs (at_ + 1) (nodes + 1) w2.heap.size #[I 8, I 0, I 0, I 0, I 0, I 0, .slice none 0 0, .string ⟨#[]⟩] (w2.alloc (.cells #[I 8, I 0, I 0, I 0, I 0, I 0, .slice none 0 0, .string ⟨#[]⟩] 87))) := Lib.hid (NS.begin HM2.out hml HK2.out)
          go_wp2_with fail
          refine (IH _ mb (at_ + 1) (nodes + 1) n0.out.mkr (by omega) (by omega)).mono ?_
          rintro e w3 ⟨ns, va, a3, m3, rfl, hl1, hl2, hmr, hwi, hru, hm3, ha3, hn3, hk3⟩
          rw [World.size_alloc] at hru
          have N1 := Lib.hid (n0.out.step hm3 hk3)
          have n1c := N1.out.cell
          have n1f := N1.out.froz
          have HRU := Lib.hid hru
          have HMR := Lib.hid hmr
          have HWI := Lib.hid hwi
          have h64 := pow_le64 hdp
          have ha3' : a3 + 10 ≤ M := by omega
          have hn3' : m3 + 10 ≤ M := by omega
          have HA3 := Lib.hid ha3
          have HN3 := Lib.hid hn3
          have hne : ns ≠ [] := by intro e; rw [e] at hl1; exact absurd hl1 (Nat.lt_irrefl _)
          have hl400 : ns.length ≤ 400 := by omega
          have HL2 := Lib.hid hl2
          clear hru hmr hwi hm3 hk3 ha3 hn3 hl2 h64
          go_wp2_with (go_at_call 92; refine (two_any _ _).mono ?_; rintro e w4 ⟨rfl, rfl⟩; rw [show twoB 8 = true from rfl])
          clear n1c n1f
          refine (IH _ mb a3 m3 N1.out.mkr (by omega) (by omega)).mono ?_
          rintro e w5 ⟨ms, vb, a5, m5, rfl, hb1, hb2, hmb, hwb, hrb, hm5, ha5, hn5, hk5⟩
          have N5 := Lib.hid (N1.out.step hm5 hk5)
          have HRU := Lib.hid (HRU.out.mkeep hk5 (by omega))
          have HRB := Lib.hid (hrb.lower (lo' := w2.heap.size + 1) N1.out.lt)
          have hme : ms ≠ [] := by intro e; rw [e] at hb1; exact absurd hb1 (Nat.lt_irrefl _)
          have h64 := pow_le64 hdp
          have hb400 : ms.length ≤ 400 := by omega
          have HMB := Lib.hid hmb
          have HWB := Lib.hid hwb
          have HB2 := Lib.hid hb2
          have HA5 := Lib.hid ha5
          have HN5 := Lib.hid hn5
          clear hmb hwb hrb hm5 ha5 hn5 hk5 hb2 h64
          have ND : Hid (NS w w.heap.size mb xs a5 m5 w2.heap.size (ndCells ⟨8, 0, 0, 0, 0, 0, [], ⟨#[]⟩⟩ none 0) w5) := Lib.hid N5.out
          go_wp2_with (with_reducible refine g_load 87 ?_; refine wpList_load_Row rfl _ _ rfl w2.heap.size rfl (ndCells ⟨8, 0, 0, 0, 0, 0, [], ⟨#[]⟩⟩ none 0) ND.out.row _ Tryz.underlying87 rfl (nd_size _ _ _) ?_)
          refine (both_any (w2.heap.size + 1) w5 va vb ns ms ⟨⟨8, 0, 0, 0, 0, 0, [], ⟨#[]⟩⟩, none, 0⟩ HRU.out hne HRB.out hme (HWB.out.small (by omega)) (.inl rfl) (by omega) (by omega) ND.out.lt).mono ?_
          rintro e w8 ⟨v8, rfl, hr8, hb8⟩
          have HF := Lib.hid (ruled_two (at_ := at_) (nodes := nodes) hdp hl1 HL2.out HB2.out HMR.out HMB.out (x := ⟨⟨8, 0, 0, 0, 0, 0, [], ⟨#[]⟩⟩, none, 0⟩) (⟨rfl, rfl, rfl, rfl, .inl ⟨.inl rfl, rfl⟩⟩) HWI.out HWB.out hr8 (Nat.le_succ_of_le ND.out.b0) (ND.out.mkr.grow hb8) (by have := HA3.out; have := HA5.out; omega) (by have := HN3.out; have := HN5.out; omega) (ND.out.keep.trans (MKeep.of_below hb8)))
          clear hr8 hb8
          go_wp2_with fail
          go_ret
          exact HF.out
        · have n0 : Hid (NS w w.heap.size mb xs (at_ + 1) (nodes + 1) w2.heap.size #[I 9, I 0, I 0, I 0, I 0, I 0, .slice none 0 0, .string ⟨#[]⟩] (w2.alloc (.cells #[I 9, I 0, I 0, I 0, I 0, I 0, .slice none 0 0, .string ⟨#[]⟩] 87))) := Lib.hid (NS.begin HM2.out hml HK2.out)
          go_wp2_with fail
          refine (IH _ mb (at_ + 1) (nodes + 1) n0.out.mkr (by omega) (by omega)).mono ?_
          rintro e w3 ⟨ns, va, a3, m3, rfl, hl1, hl2, hmr, hwi, hru, hm3, ha3, hn3, hk3⟩
          rw [World.size_alloc] at hru
          have N1 := Lib.hid (n0.out.step hm3 hk3)
          have n1c := N1.out.cell
          have n1f := N1.out.froz
          have HRU := Lib.hid hru
          have HMR := Lib.hid hmr
          have HWI := Lib.hid hwi
          have h64 := pow_le64 hdp
          have ha3' : a3 + 10 ≤ M := by omega
          have hn3' : m3 + 10 ≤ M := by omega
          have HA3 := Lib.hid ha3
          have HN3 := Lib.hid hn3
          have hne : ns ≠ [] := by intro e; rw [e] at hl1; exact absurd hl1 (Nat.lt_irrefl _)
          have hl400 : ns.length ≤ 400 := by omega
          have HL2 := Lib.hid hl2
          clear hru hmr hwi hm3 hk3 ha3 hn3 hl2 h64
          go_wp2_with (go_at_call 92; refine (two_any _ _).mono ?_; rintro e w4 ⟨rfl, rfl⟩; rw [show twoB 9 = true from rfl])
          clear n1c n1f
          refine (IH _ mb a3 m3 N1.out.mkr (by omega) (by omega)).mono ?_
          rintro e w5 ⟨ms, vb, a5, m5, rfl, hb1, hb2, hmb, hwb, hrb, hm5, ha5, hn5, hk5⟩
          have N5 := Lib.hid (N1.out.step hm5 hk5)
          have HRU := Lib.hid (HRU.out.mkeep hk5 (by omega))
          have HRB := Lib.hid (hrb.lower (lo' := w2.heap.size + 1) N1.out.lt)
          have hme : ms ≠ [] := by intro e; rw [e] at hb1; exact absurd hb1 (Nat.lt_irrefl _)
          have h64 := pow_le64 hdp
          have hb400 : ms.length ≤ 400 := by omega
          have HMB := Lib.hid hmb
          have HWB := Lib.hid hwb
          have HB2 := Lib.hid hb2
          have HA5 := Lib.hid ha5
          have HN5 := Lib.hid hn5
          clear hmb hwb hrb hm5 ha5 hn5 hk5 hb2 h64
          have ND : Hid (NS w w.heap.size mb xs a5 m5 w2.heap.size (ndCells ⟨9, 0, 0, 0, 0, 0, [], ⟨#[]⟩⟩ none 0) w5) := Lib.hid N5.out
          go_wp2_with (with_reducible refine g_load 87 ?_; refine wpList_load_Row rfl _ _ rfl w2.heap.size rfl (ndCells ⟨9, 0, 0, 0, 0, 0, [], ⟨#[]⟩⟩ none 0) ND.out.row _ Tryz.underlying87 rfl (nd_size _ _ _) ?_)
          refine (both_any (w2.heap.size + 1) w5 va vb ns ms ⟨⟨9, 0, 0, 0, 0, 0, [], ⟨#[]⟩⟩, none, 0⟩ HRU.out hne HRB.out hme (HWB.out.small (by omega)) (.inl rfl) (by omega) (by omega) ND.out.lt).mono ?_
          rintro e w8 ⟨v8, rfl, hr8, hb8⟩
          have HF := Lib.hid (ruled_two (at_ := at_) (nodes := nodes) hdp hl1 HL2.out HB2.out HMR.out HMB.out (x := ⟨⟨9, 0, 0, 0, 0, 0, [], ⟨#[]⟩⟩, none, 0⟩) (⟨rfl, rfl, rfl, rfl, .inl ⟨.inr (.inl rfl), rfl⟩⟩) HWI.out HWB.out hr8 (Nat.le_succ_of_le ND.out.b0) (ND.out.mkr.grow hb8) (by have := HA3.out; have := HA5.out; omega) (by have := HN3.out; have := HN5.out; omega) (ND.out.keep.trans (MKeep.of_below hb8)))
          clear hr8 hb8
          go_wp2_with fail
          go_ret
          exact HF.out
        · have n0 : Hid (NS w w.heap.size mb xs (at_ + 1) (nodes + 1) w2.heap.size #[I 10, I 0, I 0, I 0, I 0, I 0, .slice none 0 0, .string ⟨#[]⟩] (w2.alloc (.cells #[I 10, I 0, I 0, I 0, I 0, I 0, .slice none 0 0, .string ⟨#[]⟩] 87))) := Lib.hid (NS.begin HM2.out hml HK2.out)
          go_wp2_with fail
          refine (IH _ mb (at_ + 1) (nodes + 1) n0.out.mkr (by omega) (by omega)).mono ?_
          rintro e w3 ⟨ns, va, a3, m3, rfl, hl1, hl2, hmr, hwi, hru, hm3, ha3, hn3, hk3⟩
          rw [World.size_alloc] at hru
          have N1 := Lib.hid (n0.out.step hm3 hk3)
          have n1c := N1.out.cell
          have n1f := N1.out.froz
          have HRU := Lib.hid hru
          have HMR := Lib.hid hmr
          have HWI := Lib.hid hwi
          have h64 := pow_le64 hdp
          have ha3' : a3 + 10 ≤ M := by omega
          have hn3' : m3 + 10 ≤ M := by omega
          have HA3 := Lib.hid ha3
          have HN3 := Lib.hid hn3
          have hne : ns ≠ [] := by intro e; rw [e] at hl1; exact absurd hl1 (Nat.lt_irrefl _)
          have hl400 : ns.length ≤ 400 := by omega
          have HL2 := Lib.hid hl2
          clear hru hmr hwi hm3 hk3 ha3 hn3 hl2 h64
          go_wp2_with (go_at_call 92; refine (two_any _ _).mono ?_; rintro e w4 ⟨rfl, rfl⟩; rw [show twoB 10 = true from rfl])
          clear n1c n1f
          refine (IH _ mb a3 m3 N1.out.mkr (by omega) (by omega)).mono ?_
          rintro e w5 ⟨ms, vb, a5, m5, rfl, hb1, hb2, hmb, hwb, hrb, hm5, ha5, hn5, hk5⟩
          have N5 := Lib.hid (N1.out.step hm5 hk5)
          have HRU := Lib.hid (HRU.out.mkeep hk5 (by omega))
          have HRB := Lib.hid (hrb.lower (lo' := w2.heap.size + 1) N1.out.lt)
          have hme : ms ≠ [] := by intro e; rw [e] at hb1; exact absurd hb1 (Nat.lt_irrefl _)
          have h64 := pow_le64 hdp
          have hb400 : ms.length ≤ 400 := by omega
          have HMB := Lib.hid hmb
          have HWB := Lib.hid hwb
          have HB2 := Lib.hid hb2
          have HA5 := Lib.hid ha5
          have HN5 := Lib.hid hn5
          clear hmb hwb hrb hm5 ha5 hn5 hk5 hb2 h64
          have ND : Hid (NS w w.heap.size mb xs a5 m5 w2.heap.size (ndCells ⟨10, 0, 0, 0, 0, 0, [], ⟨#[]⟩⟩ none 0) w5) := Lib.hid N5.out
          go_wp2_with (with_reducible refine g_load 87 ?_; refine wpList_load_Row rfl _ _ rfl w2.heap.size rfl (ndCells ⟨10, 0, 0, 0, 0, 0, [], ⟨#[]⟩⟩ none 0) ND.out.row _ Tryz.underlying87 rfl (nd_size _ _ _) ?_)
          refine (both_any (w2.heap.size + 1) w5 va vb ns ms ⟨⟨10, 0, 0, 0, 0, 0, [], ⟨#[]⟩⟩, none, 0⟩ HRU.out hne HRB.out hme (HWB.out.small (by omega)) (.inl rfl) (by omega) (by omega) ND.out.lt).mono ?_
          rintro e w8 ⟨v8, rfl, hr8, hb8⟩
          have HF := Lib.hid (ruled_two (at_ := at_) (nodes := nodes) hdp hl1 HL2.out HB2.out HMR.out HMB.out (x := ⟨⟨10, 0, 0, 0, 0, 0, [], ⟨#[]⟩⟩, none, 0⟩) (⟨rfl, rfl, rfl, rfl, .inl ⟨.inr (.inr rfl), rfl⟩⟩) HWI.out HWB.out hr8 (Nat.le_succ_of_le ND.out.b0) (ND.out.mkr.grow hb8) (by have := HA3.out; have := HA5.out; omega) (by have := HN3.out; have := HN5.out; omega) (ND.out.keep.trans (MKeep.of_below hb8)))
          clear hr8 hb8
          go_wp2_with fail
          go_ret
          exact HF.out
        · have n0 : Hid (NS w w.heap.size mb xs (at_ + 1) (nodes + 1) w2.heap.size #[I 11, I 0, I 0, I 0, I 0, I 0, .slice none 0 0, .string ⟨#[]⟩] (w2.alloc (.cells #[I 11, I 0, I 0, I 0, I 0, I 0, .slice none 0 0, .string ⟨#[]⟩] 87))) := Lib.hid (NS.begin HM2.out hml HK2.out)
          go_wp2_with fail
          refine (IH _ mb (at_ + 1) (nodes + 1) n0.out.mkr (by omega) (by omega)).mono ?_
          rintro e w3 ⟨ns, va, a3, m3, rfl, hl1, hl2, hmr, hwi, hru, hm3, ha3, hn3, hk3⟩
          rw [World.size_alloc] at hru
          have N1 := Lib.hid (n0.out.step hm3 hk3)
          have n1c := N1.out.cell
          have n1f := N1.out.froz
          have HRU := Lib.hid hru
          have HMR := Lib.hid hmr
          have HWI := Lib.hid hwi
          have h64 := pow_le64 hdp
          have ha3' : a3 + 10 ≤ M := by omega
          have hn3' : m3 + 10 ≤ M := by omega
          have HA3 := Lib.hid ha3
          have HN3 := Lib.hid hn3
          have hne : ns ≠ [] := by intro e; rw [e] at hl1; exact absurd hl1 (Nat.lt_irrefl _)
          have hl400 : ns.length ≤ 400 := by omega
          have HL2 := Lib.hid hl2
          clear hru hmr hwi hm3 hk3 ha3 hn3 hl2 h64
          go_wp2_with (go_at_call 92; refine (two_any _ _).mono ?_; rintro e w4 ⟨rfl, rfl⟩; rw [show twoB 11 = false from rfl])
          clear n1c n1f
          refine (N1.out.pick hx 15 (by omega) (by omega) (by omega)).mono ?_
          rintro e w6 ⟨n, rfl, n1, n2, N2k, N2s⟩
          have N2c := N2s.cell
          have N2f := N2s.froz
          have N2 := Lib.hid (N2s.store 4 (I (n - 7)))
          have HRU := Lib.hid ((HRU.out.mkeep N2k (by omega)).put w2.heap.size 4 (I (n - 7)) (Nat.lt_succ_self _))
          clear N2k N2s
          have ND : Hid (NS w w.heap.size mb xs _ m3 w2.heap.size (ndCells ⟨11, 0, 0, 0, n - 7, 0, [], ⟨#[]⟩⟩ none 0) _) := Lib.hid N2.out
          go_wp2_with (with_reducible refine g_load 87 ?_; refine wpList_load_Row rfl _ _ rfl w2.heap.size rfl (ndCells ⟨11, 0, 0, 0, n - 7, 0, [], ⟨#[]⟩⟩ none 0) ND.out.row _ Tryz.underlying87 rfl (nd_size _ _ _) ?_)
          refine (over_any (w2.heap.size + 1) _ va ns ⟨⟨11, 0, 0, 0, n - 7, 0, [], ⟨#[]⟩⟩, none, 0⟩ HRU.out hne (.inl rfl) (by omega) ND.out.lt).mono ?_
          rintro e w8 ⟨v8, rfl, hr8, hb8⟩
          have HF := Lib.hid (ruled_over (at_ := at_) (nodes := nodes) hdp hl1 HL2.out HMR.out (x := ⟨⟨11, 0, 0, 0, n - 7, 0, [], ⟨#[]⟩⟩, none, 0⟩) (⟨rfl, rfl, .inl ⟨rfl, rfl, by show -7 ≤ n - 7; omega, by show n - 7 ≤ 7; omega, rfl, rfl⟩⟩) HWI.out hr8 (Nat.le_succ_of_le ND.out.b0) (ND.out.mkr.grow hb8) (by have := HA3.out; omega) (by have := HN3.out; omega) (ND.out.keep.trans (MKeep.of_below hb8)))
          clear hr8 hb8
          go_wp2_with fail
          go_ret
          exact HF.out
        · have n0 : Hid (NS w w.heap.size mb xs (at_ + 1) (nodes + 1) w2.heap.size #[I 12, I 0, I 0, I 0, I 0, I 0, .slice none 0 0, .string ⟨#[]⟩] (w2.alloc (.cells #[I 12, I 0, I 0, I 0, I 0, I 0, .slice none 0 0, .string ⟨#[]⟩] 87))) := Lib.hid (NS.begin HM2.out hml HK2.out)
          go_wp2_with fail
          refine (IH _ mb (at_ + 1) (nodes + 1) n0.out.mkr (by omega) (by omega)).mono ?_
          rintro e w3 ⟨ns, va, a3, m3, rfl, hl1, hl2, hmr, hwi, hru, hm3, ha3, hn3, hk3⟩
          rw [World.size_alloc] at hru
          have N1 := Lib.hid (n0.out.step hm3 hk3)
          have n1c := N1.out.cell
          have n1f := N1.out.froz
          have HRU := Lib.hid hru
          have HMR := Lib.hid hmr
          have HWI := Lib.hid hwi
          have h64 := pow_le64 hdp
          have ha3' : a3 + 10 ≤ M := by omega
          have hn3' : m3 + 10 ≤ M := by omega
          have HA3 := Lib.hid ha3
          have HN3 := Lib.hid hn3
          have hne : ns ≠ [] := by intro e; rw [e] at hl1; exact absurd hl1 (Nat.lt_irrefl _)
          have hl400 : ns.length ≤ 400 := by omega
          have HL2 := Lib.hid hl2
          clear hru hmr hwi hm3 hk3 ha3 hn3 hl2 h64
          go_wp2_with (go_at_call 92; refine (two_any _ _).mono ?_; rintro e w4 ⟨rfl, rfl⟩; rw [show twoB 12 = false from rfl])
          clear n1c n1f
          refine (N1.out.pick hx 60 (by omega) (by omega) (by omega)).mono ?_
          rintro e w6 ⟨n, rfl, n1, n2, N2k, N2s⟩
          have N2c := N2s.cell
          have N2f := N2s.froz
          have N2 := Lib.hid (N2s.store 4 (I n))
          have HRU := Lib.hid ((HRU.out.mkeep N2k (by omega)).put w2.heap.size 4 (I n) (Nat.lt_succ_self _))
          clear N2k N2s
          have ND : Hid (NS w w.heap.size mb xs _ m3 w2.heap.size (ndCells ⟨12, 0, 0, 0, n, 0, [], ⟨#[]⟩⟩ none 0) _) := Lib.hid N2.out
          go_wp2_with (with_reducible refine g_load 87 ?_; refine wpList_load_Row rfl _ _ rfl w2.heap.size rfl (ndCells ⟨12, 0, 0, 0, n, 0, [], ⟨#[]⟩⟩ none 0) ND.out.row _ Tryz.underlying87 rfl (nd_size _ _ _) ?_)
          refine (over_any (w2.heap.size + 1) _ va ns ⟨⟨12, 0, 0, 0, n, 0, [], ⟨#[]⟩⟩, none, 0⟩ HRU.out hne (.inl rfl) (by omega) ND.out.lt).mono ?_
          rintro e w8 ⟨v8, rfl, hr8, hb8⟩
          have HF := Lib.hid (ruled_over (at_ := at_) (nodes := nodes) hdp hl1 HL2.out HMR.out (x := ⟨⟨12, 0, 0, 0, n, 0, [], ⟨#[]⟩⟩, none, 0⟩) (⟨rfl, rfl, .inr (.inl ⟨.inl rfl, rfl, n1, n2, rfl, rfl⟩)⟩) HWI.out hr8 (Nat.le_succ_of_le ND.out.b0) (ND.out.mkr.grow hb8) (by have := HA3.out; omega) (by have := HN3.out; omega) (ND.out.keep.trans (MKeep.of_below hb8)))
          clear hr8 hb8
          go_wp2_with fail
          go_ret
          exact HF.out
        · have n0 : Hid (NS w w.heap.size mb xs (at_ + 1) (nodes + 1) w2.heap.size #[I 13, I 0, I 0, I 0, I 0, I 0, .slice none 0 0, .string ⟨#[]⟩] (w2.alloc (.cells #[I 13, I 0, I 0, I 0, I 0, I 0, .slice none 0 0, .string ⟨#[]⟩] 87))) := Lib.hid (NS.begin HM2.out hml HK2.out)
          go_wp2_with fail
          refine (IH _ mb (at_ + 1) (nodes + 1) n0.out.mkr (by omega) (by omega)).mono ?_
          rintro e w3 ⟨ns, va, a3, m3, rfl, hl1, hl2, hmr, hwi, hru, hm3, ha3, hn3, hk3⟩
          rw [World.size_alloc] at hru
          have N1 := Lib.hid (n0.out.step hm3 hk3)
          have n1c := N1.out.cell
          have n1f := N1.out.froz
          have HRU := Lib.hid hru
          have HMR := Lib.hid hmr
          have HWI := Lib.hid hwi
          have h64 := pow_le64 hdp
          have ha3' : a3 + 10 ≤ M := by omega
          have hn3' : m3 + 10 ≤ M := by omega
          have HA3 := Lib.hid ha3
          have HN3 := Lib.hid hn3
          have hne : ns ≠ [] := by intro e; rw [e] at hl1; exact absurd hl1 (Nat.lt_irrefl _)
          have hl400 : ns.length ≤ 400 := by omega
          have HL2 := Lib.hid hl2
          clear hru hmr hwi hm3 hk3 ha3 hn3 hl2 h64
          go_wp2_with (go_at_call 92; refine (two_any _ _).mono ?_; rintro e w4 ⟨rfl, rfl⟩; rw [show twoB 13 = false from rfl])
          clear n1c n1f
          refine (N1.out.pick hx 60 (by omega) (by omega) (by omega)).mono ?_
          rintro e w6 ⟨n, rfl, n1, n2, N2k, N2s⟩
          have N2c := N2s.cell
          have N2f := N2s.froz
          have N2 := Lib.hid (N2s.store 4 (I n))
          have HRU := Lib.hid ((HRU.out.mkeep N2k (by omega)).put w2.heap.size 4 (I n) (Nat.lt_succ_self _))
          clear N2k N2s
          have ND : Hid (NS w w.heap.size mb xs _ m3 w2.heap.size (ndCells ⟨13, 0, 0, 0, n, 0, [], ⟨#[]⟩⟩ none 0) _) := Lib.hid N2.out
          go_wp2_with (with_reducible refine g_load 87 ?_; refine wpList_load_Row rfl _ _ rfl w2.heap.size rfl (ndCells ⟨13, 0, 0, 0, n, 0, [], ⟨#[]⟩⟩ none 0) ND.out.row _ Tryz.underlying87 rfl (nd_size _ _ _) ?_)
          refine (over_any (w2.heap.size + 1) _ va ns ⟨⟨13, 0, 0, 0, n, 0, [], ⟨#[]⟩⟩, none, 0⟩ HRU.out hne (.inl rfl) (by omega) ND.out.lt).mono ?_
          rintro e w8 ⟨v8, rfl, hr8, hb8⟩
          have HF := Lib.hid (ruled_over (at_ := at_) (nodes := nodes) hdp hl1 HL2.out HMR.out (x := ⟨⟨13, 0, 0, 0, n, 0, [], ⟨#[]⟩⟩, none, 0⟩) (⟨rfl, rfl, .inr (.inl ⟨.inr rfl, rfl, n1, n2, rfl, rfl⟩)⟩) HWI.out hr8 (Nat.le_succ_of_le ND.out.b0) (ND.out.mkr.grow hb8) (by have := HA3.out; omega) (by have := HN3.out; omega) (ND.out.keep.trans (MKeep.of_below hb8)))
          clear hr8 hb8
          go_wp2_with fail
          go_ret
          exact HF.out
        · have n0 : Hid (NS w w.heap.size mb xs (at_ + 1) (nodes + 1) w2.heap.size #[I 14, I 0, I 0, I 0, I 0, I 0, .slice none 0 0, .string ⟨#[]⟩] (w2.alloc (.cells #[I 14, I 0, I 0, I 0, I 0, I 0, .slice none 0 0, .string ⟨#[]⟩] 87))) := Lib.hid (NS.begin HM2.out hml HK2.out)
          go_wp2_with fail
          refine (IH _ mb (at_ + 1) (nodes + 1) n0.out.mkr (by omega) (by omega)).mono ?_
          rintro e w3 ⟨ns, va, a3, m3, rfl, hl1, hl2, hmr, hwi, hru, hm3, ha3, hn3, hk3⟩
          rw [World.size_alloc] at hru
          have N1 := Lib.hid (n0.out.step hm3 hk3)
          have n1c := N1.out.cell
          have n1f := N1.out.froz
          have HRU := Lib.hid hru
          have HMR := Lib.hid hmr
          have HWI := Lib.hid hwi
          have h64 := pow_le64 hdp
          have ha3' : a3 + 10 ≤ M := by omega
          have hn3' : m3 + 10 ≤ M := by omega
          have HA3 := Lib.hid ha3
          have HN3 := Lib.hid hn3
          have hne : ns ≠ [] := by intro e; rw [e] at hl1; exact absurd hl1 (Nat.lt_irrefl _)
          have hl400 : ns.length ≤ 400 := by omega
          have HL2 := Lib.hid hl2
          clear hru hmr hwi hm3 hk3 ha3 hn3 hl2 h64
          go_wp2_with (go_at_call 92; refine (two_any _ _).mono ?_; rintro e w4 ⟨rfl, rfl⟩; rw [show twoB 14 = false from rfl])
          clear n1c n1f
          refine (N1.out.rise hx (0) 60 (by omega) (by omega) (by omega) (by omega) (by omega)).mono ?_
          rintro e w6 ⟨zs, A, c, a9, rfl, hz, hli, ha9, N2k, N2s⟩
          have N2c := N2s.cell
          have N2f := N2s.froz
          have HLI := Lib.hid ((hli.lower (lo' := w2.heap.size + 1) N1.out.lt).put w2.heap.size 6 (.slice A zs.length c) (Nat.lt_succ_self _))
          have N2 := Lib.hid (N2s.store 6 (.slice A zs.length c))
          have HRU := Lib.hid ((HRU.out.mkeep N2k (by omega)).put w2.heap.size 6 (.slice A zs.length c) (Nat.lt_succ_self _))
          have HZ := Lib.hid hz
          clear N2k N2s hli hz
          have ND : Hid (NS w w.heap.size mb xs _ m3 w2.heap.size (ndCells ⟨14, 0, 0, 0, 0, 0, zs, ⟨#[]⟩⟩ A c) _) := Lib.hid N2.out
          go_wp2_with (with_reducible refine g_load 87 ?_; refine wpList_load_Row rfl _ _ rfl w2.heap.size rfl (ndCells ⟨14, 0, 0, 0, 0, 0, zs, ⟨#[]⟩⟩ A c) ND.out.row _ Tryz.underlying87 rfl (nd_size _ _ _) ?_)
          refine (over_any (w2.heap.size + 1) _ va ns ⟨⟨14, 0, 0, 0, 0, 0, zs, ⟨#[]⟩⟩, A, c⟩ HRU.out hne (HLI.out) (by omega) ND.out.lt).mono ?_
          rintro e w8 ⟨v8, rfl, hr8, hb8⟩
          have HF := Lib.hid (ruled_over (at_ := at_) (nodes := nodes) hdp hl1 HL2.out HMR.out (x := ⟨⟨14, 0, 0, 0, 0, 0, zs, ⟨#[]⟩⟩, A, c⟩) (⟨rfl, rfl, .inr (.inr (.inl ⟨.inl rfl, rfl, rfl, rfl, HZ.out⟩))⟩) HWI.out hr8 (Nat.le_succ_of_le ND.out.b0) (ND.out.mkr.grow hb8) (by have := HA3.out; omega) (by have := HN3.out; omega) (ND.out.keep.trans (MKeep.of_below hb8)))
          clear hr8 hb8
          go_wp2_with fail
          go_ret
          exact HF.out
        · have n0 : Hid (NS w w.heap.size mb xs (at_ + 1) (nodes + 1) w2.heap.size #[I 15, I 0, I 0, I 0, I 0, I 0, .slice none 0 0, .string ⟨#[]⟩] (w2.alloc (.cells #[I 15, I 0, I 0, I 0, I 0, I 0, .slice none 0 0, .string ⟨#[]⟩] 87))) := Lib.hid (NS.begin HM2.out hml HK2.out)
          go_wp2_with fail
          refine (IH _ mb (at_ + 1) (nodes + 1) n0.out.mkr (by omega) (by omega)).mono ?_
          rintro e w3 ⟨ns, va, a3, m3, rfl, hl1, hl2, hmr, hwi, hru, hm3, ha3, hn3, hk3⟩
          rw [World.size_alloc] at hru
          have N1 := Lib.hid (n0.out.step hm3 hk3)
          have n1c := N1.out.cell
          have n1f := N1.out.froz
          have HRU := Lib.hid hru
          have HMR := Lib.hid hmr
          have HWI := Lib.hid hwi
          have h64 := pow_le64 hdp
          have ha3' : a3 + 10 ≤ M := by omega
          have hn3' : m3 + 10 ≤ M := by omega
          have HA3 := Lib.hid ha3
          have HN3 := Lib.hid hn3
          have hne : ns ≠ [] := by intro e; rw [e] at hl1; exact absurd hl1 (Nat.lt_irrefl _)
          have hl400 : ns.length ≤ 400 := by omega
          have HL2 := Lib.hid hl2
          clear hru hmr hwi hm3 hk3 ha3 hn3 hl2 h64
          go_wp2_with (go_at_call 92; refine (two_any _ _).mono ?_; rintro e w4 ⟨rfl, rfl⟩; rw [show twoB 15 = false from rfl])
          clear n1c n1f
          refine (N1.out.rise hx (0) 60 (by omega) (by omega) (by omega) (by omega) (by omega)).mono ?_
          rintro e w6 ⟨zs, A, c, a9, rfl, hz, hli, ha9, N2k, N2s⟩
          have N2c := N2s.cell
          have N2f := N2s.froz
          have HLI := Lib.hid ((hli.lower (lo' := w2.heap.size + 1) N1.out.lt).put w2.heap.size 6 (.slice A zs.length c) (Nat.lt_succ_self _))
          have N2 := Lib.hid (N2s.store 6 (.slice A zs.length c))
          have HRU := Lib.hid ((HRU.out.mkeep N2k (by omega)).put w2.heap.size 6 (.slice A zs.length c) (Nat.lt_succ_self _))
          have HZ := Lib.hid hz
          clear N2k N2s hli hz
          have ND : Hid (NS w w.heap.size mb xs _ m3 w2.heap.size (ndCells ⟨15, 0, 0, 0, 0, 0, zs, ⟨#[]⟩⟩ A c) _) := Lib.hid N2.out
          go_wp2_with (with_reducible refine g_load 87 ?_; refine wpList_load_Row rfl _ _ rfl w2.heap.size rfl (ndCells ⟨15, 0, 0, 0, 0, 0, zs, ⟨#[]⟩⟩ A c) ND.out.row _ Tryz.underlying87 rfl (nd_size _ _ _) ?_)
          refine (over_any (w2.heap.size + 1) _ va ns ⟨⟨15, 0, 0, 0, 0, 0, zs, ⟨#[]⟩⟩, A, c⟩ HRU.out hne (HLI.out) (by omega) ND.out.lt).mono ?_
          rintro e w8 ⟨v8, rfl, hr8, hb8⟩
          have HF := Lib.hid (ruled_over (at_ := at_) (nodes := nodes) hdp hl1 HL2.out HMR.out (x := ⟨⟨15, 0, 0, 0, 0, 0, zs, ⟨#[]⟩⟩, A, c⟩) (⟨rfl, rfl, .inr (.inr (.inl ⟨.inr rfl, rfl, rfl, rfl, HZ.out⟩))⟩) HWI.out hr8 (Nat.le_succ_of_le ND.out.b0) (ND.out.mkr.grow hb8) (by have := HA3.out; omega) (by have := HN3.out; omega) (ND.out.keep.trans (MKeep.of_below hb8)))
          clear hr8 hb8
          go_wp2_with fail
          go_ret
          exact HF.out
        · have n0 : Hid (NS w w.heap.size mb xs (at_ + 1) (nodes + 1) w2.heap.size #[I 16, I 0, I 0, I 0, I 0, I 0, .slice none 0 0, .string ⟨#[]⟩] (w2.alloc (.cells #[I 16, I 0, I 0, I 0, I 0, I 0, .slice none 0 0, .string ⟨#[]⟩] 87))) := Lib.hid (NS.begin HM2.out hml HK2.out)
          go_wp2_with fail
          refine (IH _ mb (at_ + 1) (nodes + 1) n0.out.mkr (by omega) (by omega)).mono ?_
          rintro e w3 ⟨ns, va, a3, m3, rfl, hl1, hl2, hmr, hwi, hru, hm3, ha3, hn3, hk3⟩
          rw [World.size_alloc] at hru
          have N1 := Lib.hid (n0.out.step hm3 hk3)
          have n1c := N1.out.cell
          have n1f := N1.out.froz
          have HRU := Lib.hid hru
          have HMR := Lib.hid hmr
          have HWI := Lib.hid hwi
          have h64 := pow_le64 hdp
          have ha3' : a3 + 10 ≤ M := by omega
          have hn3' : m3 + 10 ≤ M := by omega
          have HA3 := Lib.hid ha3
          have HN3 := Lib.hid hn3
          have hne : ns ≠ [] := by intro e; rw [e] at hl1; exact absurd hl1 (Nat.lt_irrefl _)
          have hl400 : ns.length ≤ 400 := by omega
          have HL2 := Lib.hid hl2
          clear hru hmr hwi hm3 hk3 ha3 hn3 hl2 h64
          go_wp2_with (go_at_call 92; refine (two_any _ _).mono ?_; rintro e w4 ⟨rfl, rfl⟩; rw [show twoB 16 = false from rfl])
          clear n1c n1f
          refine (N1.out.pick hx cals (by omega) (by omega) (by omega)).mono ?_
          rintro e w6 ⟨q, rfl, q1, q2, N2k, N2s⟩
          have N2c := N2s.cell
          have N2f := N2s.froz
          have N2 := Lib.hid (N2s.store 1 (I q))
          have HRU := Lib.hid ((HRU.out.mkeep N2k (by omega)).put w2.heap.size 1 (I q) (Nat.lt_succ_self _))
          clear N2k N2s
          go_wp2_with fail
          clear N2c N2f
          refine (N2.out.pick hx 2 (by omega) (by omega) (by omega)).mono ?_
          rintro e w7 ⟨m, rfl, m1, m2, N3k, N3s⟩
          have N3c := N3s.cell
          have N3f := N3s.froz
          have N3 := Lib.hid (N3s.store 5 (I m))
          have HRU := Lib.hid ((HRU.out.mkeep N3k (by omega)).put w2.heap.size 5 (I m) (Nat.lt_succ_self _))
          clear N3k N3s
          go_wp2_with fail
          clear N3c N3f
          refine (N3.out.rise hx (-3) 3 (by omega) (by omega) (by omega) (by omega) (by omega)).mono ?_
          rintro e w9 ⟨zs, A, c, a9, rfl, hz, hli, ha9, N4k, N4s⟩
          have N4c := N4s.cell
          have N4f := N4s.froz
          have HLI := Lib.hid ((hli.lower (lo' := w2.heap.size + 1) N3.out.lt).put w2.heap.size 6 (.slice A zs.length c) (Nat.lt_succ_self _))
          have N4 := Lib.hid (N4s.store 6 (.slice A zs.length c))
          have HRU := Lib.hid ((HRU.out.mkeep N4k (by omega)).put w2.heap.size 6 (.slice A zs.length c) (Nat.lt_succ_self _))
          have HZ := Lib.hid hz
          clear N4k N4s hli hz
          have ND : Hid (NS w w.heap.size mb xs _ m3 w2.heap.size (ndCells ⟨16, q, 0, 0, 0, m, zs, ⟨#[]⟩⟩ A c) _) := Lib.hid N4.out
          go_wp2_with (with_reducible refine g_load 87 ?_; refine wpList_load_Row rfl _ _ rfl w2.heap.size rfl (ndCells ⟨16, q, 0, 0, 0, m, zs, ⟨#[]⟩⟩ A c) ND.out.row _ Tryz.underlying87 rfl (nd_size _ _ _) ?_)
          refine (over_any (w2.heap.size + 1) _ va ns ⟨⟨16, q, 0, 0, 0, m, zs, ⟨#[]⟩⟩, A, c⟩ HRU.out hne (HLI.out) (by omega) ND.out.lt).mono ?_
          rintro e w8 ⟨v8, rfl, hr8, hb8⟩
          have HF := Lib.hid (ruled_over (at_ := at_) (nodes := nodes) hdp hl1 HL2.out HMR.out (x := ⟨⟨16, q, 0, 0, 0, m, zs, ⟨#[]⟩⟩, A, c⟩) (⟨rfl, rfl, .inr (.inr (.inr ⟨rfl, q1, q2, rfl, m1, m2, HZ.out⟩))⟩) HWI.out hr8 (Nat.le_succ_of_le ND.out.b0) (ND.out.mkr.grow hb8) (by have := HA3.out; omega) (by have := HN3.out; omega) (ND.out.keep.trans (MKeep.of_below hb8)))
          clear hr8 hb8
          go_wp2_with fail
          go_ret
          exact HF.out
        · have n0 : Hid (NS w w.heap.size mb xs (at_ + 1) (nodes + 1) w2.heap.size #[I 17, I 0, I 0, I 0, I 0, I 0, .slice none 0 0, .string ⟨#[]⟩] (w2.alloc (.cells #[I 17, I 0, I 0, I 0, I 0, I 0, .slice none 0 0, .string ⟨#[]⟩] 87))) := Lib.hid (NS.begin HM2.out hml HK2.out)
          go_wp2_with fail
          refine (IH _ mb (at_ + 1) (nodes + 1) n0.out.mkr (by omega) (by omega)).mono ?_
          rintro e w3 ⟨ns, va, a3, m3, rfl, hl1, hl2, hmr, hwi, hru, hm3, ha3, hn3, hk3⟩
          rw [World.size_alloc] at hru
          have N1 := Lib.hid (n0.out.step hm3 hk3)
          have n1c := N1.out.cell
          have n1f := N1.out.froz
          have HRU := Lib.hid hru
          have HMR := Lib.hid hmr
          have HWI := Lib.hid hwi
          have h64 := pow_le64 hdp
          have ha3' : a3 + 10 ≤ M := by omega
          have hn3' : m3 + 10 ≤ M := by omega
          have HA3 := Lib.hid ha3
          have HN3 := Lib.hid hn3
          have hne : ns ≠ [] := by intro e; rw [e] at hl1; exact absurd hl1 (Nat.lt_irrefl _)
          have hl400 : ns.length ≤ 400 := by omega
          have HL2 := Lib.hid hl2
          clear hru hmr hwi hm3 hk3 ha3 hn3 hl2 h64
          go_wp2_with (go_at_call 92; refine (two_any _ _).mono ?_; rintro e w4 ⟨rfl, rfl⟩; rw [show twoB 17 = true from rfl])
          clear n1c n1f
          refine (N1.out.pick hx 3 (by omega) (by omega) (by omega)).mono ?_
          rintro e w6 ⟨n, rfl, n1, n2, N2k, N2s⟩
          have N2c := N2s.cell
          have N2f := N2s.froz
          have N2 := Lib.hid (N2s.store 4 (I (1 + n)))
          have HRU := Lib.hid ((HRU.out.mkeep N2k (by omega)).put w2.heap.size 4 (I (1 + n)) (Nat.lt_succ_self _))
          clear N2k N2s
          go_wp2_with fail
          clear N2c N2f
          refine (IH _ mb (a3 + 1) m3 N2.out.mkr (by omega) (by omega)).mono ?_
          rintro e w5 ⟨ms, vb, a5, m5, rfl, hb1, hb2, hmb, hwb, hrb, hm5, ha5, hn5, hk5⟩
          have N5 := Lib.hid (N2.out.step hm5 hk5)
          have HRU := Lib.hid (HRU.out.mkeep hk5 (by omega))
          have HRB := Lib.hid (hrb.lower (lo' := w2.heap.size + 1) N2.out.lt)
          have hme : ms ≠ [] := by intro e; rw [e] at hb1; exact absurd hb1 (Nat.lt_irrefl _)
          have h64 := pow_le64 hdp
          have hb400 : ms.length ≤ 400 := by omega
          have HMB := Lib.hid hmb
          have HWB := Lib.hid hwb
          have HB2 := Lib.hid hb2
          have HA5 := Lib.hid ha5
          have HN5 := Lib.hid hn5
          clear hmb hwb hrb hm5 ha5 hn5 hk5 hb2 h64
          have ND : Hid (NS w w.heap.size mb xs a5 m5 w2.heap.size (ndCells ⟨17, 0, 0, 0, 1 + n, 0, [], ⟨#[]⟩⟩ none 0) w5) := Lib.hid N5.out
          go_wp2_with (with_reducible refine g_load 87 ?_; refine wpList_load_Row rfl _ _ rfl w2.heap.size rfl (ndCells ⟨17, 0, 0, 0, 1 + n, 0, [], ⟨#[]⟩⟩ none 0) ND.out.row _ Tryz.underlying87 rfl (nd_size _ _ _) ?_)
          refine (both_any (w2.heap.size + 1) w5 va vb ns ms ⟨⟨17, 0, 0, 0, 1 + n, 0, [], ⟨#[]⟩⟩, none, 0⟩ HRU.out hne HRB.out hme (HWB.out.small (by omega)) (.inl rfl) (by omega) (by omega) ND.out.lt).mono ?_
          rintro e w8 ⟨v8, rfl, hr8, hb8⟩
          have HF := Lib.hid (ruled_two (at_ := at_) (nodes := nodes) hdp hl1 HL2.out HB2.out HMR.out HMB.out (x := ⟨⟨17, 0, 0, 0, 1 + n, 0, [], ⟨#[]⟩⟩, none, 0⟩) (⟨rfl, rfl, rfl, rfl, .inr ⟨rfl, by show 1 ≤ 1 + n; omega, by show 1 + n ≤ 3; omega⟩⟩) HWI.out HWB.out hr8 (Nat.le_succ_of_le ND.out.b0) (ND.out.mkr.grow hb8) (by have := HA3.out; have := HA5.out; omega) (by have := HN3.out; have := HN5.out; omega) (ND.out.keep.trans (MKeep.of_below hb8)))
          clear hr8 hb8
          go_wp2_with fail
          go_ret
          exact HF.out
/-- Rule, for at most three levels of operators. -/
theorem rule_any (xs : List Int) (hx : XsOK xs) (cals : Int) (hc1 : 0 < cals) (hc2 : cals ≤ 1000) : ∀ (deep : Nat), deep ≤ 3 → ∀ (w : World) (mb at_ nodes : Nat), MkSt w mb xs at_ nodes → at_ ≤ 1000000 - 10000 * deep → nodes ≤ 1000000 - 10000 * deep → Calls Tryz.prog 69 #[pt mb, I (deep : Int), I cals] w (Ruled deep w.heap.size w mb xs at_ nodes cals)
  | 0, _, w, mb, at_, nodes, h, h1, h2 => rule_zero xs hx cals hc1 hc2 w mb at_ nodes h (by omega) (by omega)
  | deep + 1, hd, w, mb, at_, nodes, h, h1, h2 => rule_step xs hx cals hc1 hc2 deep (by omega) (1000000 - 10000 * deep) (by omega) (fun w mb at_ nodes h h1 h2 => rule_any xs hx cals hc1 hc2 deep (by omega) w mb at_ nodes h h1 h2) w mb at_ nodes h (by omega) (by omega)
end Go.Proofs.YtdakcbddlempfaaGreat
