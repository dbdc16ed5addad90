/- The texts GfO, GfT, GfF, LsP, GkA, LsC, in this order. -/
import Derived.Test.YtenbgpcdoljkgaaGreatDoorG11
import Derived.Test.YtenbgpcdoljkgaaGreatDoorG06
import Derived.Test.YtenbgpcdoljkgaaGreatDoorG10
import Derived.Deep.RegionLaw
import Derived.Deep.AppendLies
/- The printer: leaf and suffix of any node; node. (Printed by gen_gfo.py.) -/
namespace Go.Proofs.YtenbgpcdoljkgaaGreatDoor
open Go Go.RowKit

attribute [local go_sem] ndCells
set_option maxRecDepth 10000 in
set_option maxHeartbeats 1000000 in
theorem leaf_18 (w : World) (g : Nat) (rv v : Value) (bs : List UInt8) (x : NdV) (d : Nd) (h : PrS w g rv v bs) (ht : Tab10 g w) (hf : NdPr d) (hl : bs.length ≤ 80000000000) (he : d.kind = 18) :
    Calls Tryz.prog 101 #[pt g, .agg (ndCells d x.A x.c)] w (PrG w g rv v (bs ++ leafB d)) := by
  obtain ⟨W0, hW0⟩ : ∃ W, w.alloc (.cells (ndCells d x.A x.c) 85) = W := ⟨_, rfl⟩
  have HP : Hid (PgS w g rv v w.heap.size (ndCells d x.A x.c) v bs W0) := Lib.hid (hW0 ▸ PgS.start h ht _)
  have HE : Hid (leafB d = 64 :: d.name.data.toList) := Lib.hid (by unfold leafB; simp [he])
  have hbx := HP.out.box.row.2
  have q0 : W0.cell? ⟨w.heap.size, 0, none⟩ = some (I 18) := (hbx 0).trans (congrArg (fun z => some (I z)) he)
  have q7 : W0.cell? ⟨w.heap.size, 7, none⟩ = some (.string d.name) := hbx 7
  have hz := hf.name
  have hls : d.name.data.toList.length = d.name.size := Array.length_toList
  have h9 : (9223372036854775807 < 1 + d.name.size) = False := by simp; omega
  have HC := Lib.hid (HP.out.put0 ([64] ++ d.name.data.toList) (by rw [List.length_append, List.length_singleton]; omega))
  have HN : Hid ((⟨#[64]⟩ : ByteArray) ++ d.name = ⟨([64] ++ d.name.data.toList).toArray⟩) := Lib.hid (by rw [← cat_bytes, ← bytes_eta])
  have HW0 := Lib.hid hW0
  clear h ht hf hW0 hbx hls hz he
  go_enter Tryz.func101, Tryz.ntmps101
  unfold ndCells at HW0
  go_upto_region 1 with fail
  rw [HW0.out]
  go_wp2_with fail
  rw [HN.out]
  refine HC.out.mono ?_
  rintro e W1 ⟨rfl, v1, hp1⟩
  have e1 : putB ([64] ++ d.name.data.toList) [] = leafB d := by rw [HE.out]; simp [putB]
  rw [e1] at hp1
  have HP1 := Lib.hid hp1
  clear hp1 HC HP e1
  go_wp2_with fail
  go_end0
  exact ⟨rfl, v1, HP1.out.pr, HP1.out.keep⟩
theorem leaf_all (i : Nat) (w : World) (g : Nat) (rv v : Value) (bs : List UInt8) (x : NdV) (h : PrS w g rv v bs) (ht : Tab10 g w) (hA : IntsAt w g x.A x.d.list) (hok : NodeOK i x.d.kind.toNat x.d) (hf : NdPr x.d) (hl : bs.length ≤ 80000000000) (hk : lev x.d.kind = 5) :
    Calls Tryz.prog 101 #[pt g, .agg (ndCells x.d x.A x.c)] w (PrG w g rv v (bs ++ leafB x.d)) := by
  have hkk : x.d.kind = 1 ∨ x.d.kind = 2 ∨ x.d.kind = 3 ∨ x.d.kind = 4 ∨ x.d.kind = 5 ∨ x.d.kind = 6 ∨ x.d.kind = 7 ∨ x.d.kind = 18 := by
    have h1 := hok.k1
    have h2 := hok.k2
    unfold lev at hk
    split at hk
    · omega
    · split at hk
      · omega
      · split at hk
        · omega
        · split at hk
          · omega
          · omega
  rcases hkk with e | e | e | e | e | e | e | e
  · exact leaf_1 w g rv v bs x x.d h ht hA hf hl e
  · exact leaf_2 w g rv v bs x x.d h ht hA hf hl e
  · exact leaf_3 w g rv v bs x x.d h ht hA hf hl e
  · exact leaf_4 w g rv v bs x x.d h ht hA hf hl e
  · exact leaf_5 w g rv v bs x x.d h ht hA hf hl e
  · exact leaf_6 w g rv v bs x x.d h ht hA hf hl e
  · exact leaf_7 w g rv v bs x x.d h ht hA hf hl e (by have := hok.nums; unfold NumsOK at this; omega)
  · exact leaf_18 w g rv v bs x x.d h ht hf hl e
set_option maxRecDepth 10000 in
set_option maxHeartbeats 1000000 in
theorem suffix_17 (w : World) (g : Nat) (rv v : Value) (bs T : List UInt8) (ns : List NdV) (A : Option Addr) (x : NdV) (d : Nd) (jr : Nat) (hjr : d.r = jr) (h : PrS w g rv v bs) (ht : Tab10 g w) (hR : RulesAt w g A ns) (hf : NdPr d) (hl : bs.length + ((sufB d).length + T.length) ≤ 70000000000) (he : d.kind = 17)
    (hop : ∀ w' v' bs', PrS w' g rv v' bs' → Tab10 g w' → RulesAt w' g A ns → bs'.length + T.length ≤ 70000000000 → Calls Tryz.prog 97 #[pt g, I jr, I 5] w' (PrG w' g rv v' (bs' ++ T))) :
    Calls Tryz.prog 100 #[pt g, .agg (ndCells d x.A x.c)] w (PrG w g rv v (bs ++ (sufB d ++ T))) := by
  obtain ⟨W0, hW0⟩ : ∃ W, w.alloc (.cells (ndCells d x.A x.c) 85) = W := ⟨_, rfl⟩
  have HP : Hid (PgS w g rv v w.heap.size (ndCells d x.A x.c) v bs W0) := Lib.hid (hW0 ▸ PgS.start h ht _)
  have HE : Hid (sufB d = putB [32, 98, 101, 104, 105, 110, 100] [d.n] ++ [32, 111, 102, 32]) := Lib.hid (by unfold sufB; simp [he])
  have hsl : (sufB d).length = (putB [32, 98, 101, 104, 105, 110, 100] [d.n]).length + 4 := by rw [HE.out, List.length_append]; rfl
  rw [hsl] at hl
  have hbx := HP.out.box.row.2
  have q0 : W0.cell? ⟨w.heap.size, 0, none⟩ = some (I 17) := (hbx 0).trans (congrArg (fun z => some (I z)) he)
  have q4 : W0.cell? ⟨w.heap.size, 4, none⟩ = some (I d.n) := hbx 4
  have hpl : (putB [32, 98, 101, 104, 105, 110, 100] [d.n]).length ≤ 40 := by have := putB_len [32, 98, 101, 104, 105, 110, 100] [d.n] (by intro z hz; rw [List.mem_singleton.1 hz]; exact hf.n); simp at this ⊢; omega
  have HC := Lib.hid (HP.out.put [32, 98, 101, 104, 105, 110, 100] [d.n] W0.heap.size 1 rfl rfl (by intro z hz; rw [List.mem_singleton.1 hz]; exact hf.n) (by simp; omega) (by simp))
  have HOP := Lib.hid hop
  have HRR := Lib.hid hR
  have HJ := Lib.hid hjr
  have HW0 := Lib.hid hW0
  clear h ht hf hW0 hbx he hop hR hjr
  go_enter Tryz.func100, Tryz.ntmps100
  unfold ndCells at HW0
  go_upto_region 1 with fail
  rw [HW0.out]
  go_wp2_with fail
  refine HC.out.mono ?_
  rintro e W1 ⟨rfl, v1, hp1⟩
  have HP1 := Lib.hid hp1
  have HC2 := Lib.hid (hp1.put0 [32, 111, 102, 32] (by rw [List.length_append]; simp only [List.length_cons, List.length_nil]; omega))
  clear hp1 HC HP q0 q4
  go_wp2_with fail
  refine HC2.out.mono ?_
  rintro e W2 ⟨rfl, v2, hp2⟩
  have e2 : putB [32, 111, 102, 32] [] = [32, 111, 102, 32] := by simp [putB]
  rw [e2] at hp2
  have HP2 := Lib.hid hp2
  have HR2 := Lib.hid (HRR.out.keep hp2.low)
  have q3 : W2.cell? ⟨w.heap.size, 3, none⟩ = some (I jr) := (hp2.box.row.2 3).trans (congrArg (fun z => some (I z)) HJ.out)
  clear hp2 HC2 HP1 e2
  go_wp2_with fail
  refine (HOP.out W2 v2 _ HP2.out.pr HP2.out.tab HR2.out (by rw [List.length_append, List.length_append]; simp only [List.length_cons, List.length_nil]; omega)).mono ?_
  rintro e W3 ⟨rfl, v3, hp3, hk3⟩
  have HP3 := Lib.hid (HP2.out.next hp3 hk3)
  clear hp3 hk3 HP2 HR2 q3
  go_wp2_with fail
  go_end0
  exact ⟨rfl, v3, by rw [HE.out, ← List.append_assoc, ← List.append_assoc]; exact HP3.out.pr, HP3.out.keep⟩
theorem suffix_all (i : Nat) (w : World) (g : Nat) (rv v : Value) (bs T : List UInt8) (ns : List NdV) (A : Option Addr) (x : NdV) (jr : Nat) (hjr : x.d.r = jr) (h : PrS w g rv v bs) (ht : Tab10 g w) (hR : RulesAt w g A ns) (hA : IntsAt w g x.A x.d.list) (hok : NodeOK i x.d.kind.toNat x.d) (hf : NdPr x.d) (hl : bs.length + ((sufB x.d).length + T.length) ≤ 70000000000) (hk : lev x.d.kind = 4)
    (hop : x.d.kind = 17 → ∀ w' v' bs', PrS w' g rv v' bs' → Tab10 g w' → RulesAt w' g A ns → bs'.length + T.length ≤ 70000000000 → Calls Tryz.prog 97 #[pt g, I jr, I 5] w' (PrG w' g rv v' (bs' ++ T))) :
    Calls Tryz.prog 100 #[pt g, .agg (ndCells x.d x.A x.c)] w (PrG w g rv v (bs ++ (sufB x.d ++ if x.d.kind = 17 then T else []))) := by
  have hkk : x.d.kind = 11 ∨ x.d.kind = 12 ∨ x.d.kind = 13 ∨ x.d.kind = 14 ∨ x.d.kind = 15 ∨ x.d.kind = 16 ∨ x.d.kind = 17 := by
    unfold lev at hk
    split at hk
    · omega
    · split at hk
      · omega
      · split at hk
        · omega
        · split at hk
          · omega
          · omega
  rcases hkk with e | e | e | e | e | e | e
  · rw [if_neg (by omega), List.append_nil]; exact suffix_11 w g rv v bs x x.d h ht hA hf (by omega) e
  · rw [if_neg (by omega), List.append_nil]; exact suffix_12 w g rv v bs x x.d h ht hA hf (by omega) e
  · rw [if_neg (by omega), List.append_nil]; exact suffix_13 w g rv v bs x x.d h ht hA hf (by omega) e
  · rw [if_neg (by omega), List.append_nil]; exact suffix_14 w g rv v bs x x.d h ht hA hf (by omega) e
  · rw [if_neg (by omega), List.append_nil]; exact suffix_15 w g rv v bs x x.d h ht hA hf (by omega) e
  · rw [if_neg (by omega), List.append_nil]; exact suffix_16 w g rv v bs x x.d h ht hA hf (by omega) e (by have := hok.nums; unfold NumsOK at this; omega)
  · rw [if_pos e]; exact suffix_17 w g rv v bs T ns A x x.d jr hjr h ht hR hf hl e (hop e)
theorem lev_cases {i : Nat} {d : Nd} (h : NodeOK i d.kind.toNat d) : (d.kind = 8 ∨ d.kind = 9 ∨ d.kind = 10) ∧ lev d.kind < 4 ∨ lev d.kind = 4 ∧ 11 ≤ d.kind ∧ d.kind ≤ 17 ∨ lev d.kind = 5 := by
  have h1 := h.k1
  have h2 := h.k2
  unfold lev
  split
  · left; exact ⟨by omega, by decide⟩
  · split
    · left; exact ⟨by omega, by decide⟩
    · split
      · left; exact ⟨by omega, by decide⟩
      · split
        · right; left; exact ⟨rfl, by omega, by omega⟩
        · right; right; rfl
theorem opn_bin : opn 8 = 2 ∧ opn 9 = 2 ∧ opn 10 = 2 ∧ opn 17 = 2 := by decide
theorem opn_one (k : Nat) (h1 : 11 ≤ k) (h2 : k ≤ 17) : 0 < opn k := by
  have : ∀ k : Nat, k < 18 → 11 ≤ k → 0 < opn k := by decide +kernel
  exact this k (by omega) h1
set_option maxRecDepth 10000 in
set_option maxHeartbeats 2000000 in
theorem node_any (ns : List NdV) (A : Option Addr) (n c : Nat) (hn : ns.length = n) (hnodes : ∀ i x, ns[i]? = some x → NodeOK i x.d.kind.toNat x.d) (hn64 : n ≤ 64) : ∀ f i : Nat, i < f → i < n → NdC ns A n c f i := by
  intro f
  induction f with
  | zero => exact fun i h => absurd h (Nat.not_lt_zero _)
  | succ f IH =>
    intro i hif hin w g v bs h ht hr hl
    obtain ⟨rb, x, hAe, hx, hbl, hra, hia⟩ := nd_at hr hn hin
    subst hAe
    have IH : ∀ j : Nat, j < i → j < n → NdC ns (some ⟨rb, 0, none⟩) n c f j := fun j h1 h2 => IH j (by omega) h2
    have hok := hnodes i x hx
    have hfx : NdPr x.d := (hok.fit (by omega)).pr
    have f0 : w.cell? ⟨rb, i * 8, none⟩ = some (I x.d.kind) := hra 0 _ rfl
    have f1 : w.cell? ⟨rb, i * 8 + 1, none⟩ = some (I x.d.cal) := hra 1 _ rfl
    have f2 : w.cell? ⟨rb, i * 8 + 2, none⟩ = some (I x.d.l) := hra 2 _ rfl
    have f3 : w.cell? ⟨rb, i * 8 + 3, none⟩ = some (I x.d.r) := hra 3 _ rfl
    have f4 : w.cell? ⟨rb, i * 8 + 4, none⟩ = some (I x.d.n) := hra 4 _ rfl
    have f5 : w.cell? ⟨rb, i * 8 + 5, none⟩ = some (I x.d.m) := hra 5 _ rfl
    have f6 : w.cell? ⟨rb, i * 8 + 6, none⟩ = some (.slice x.A x.d.list.length x.c) := hra 6 _ rfl
    have f7 : w.cell? ⟨rb, i * 8 + 7, none⟩ = some (.string x.d.name) := hra 7 _ rfl
    have hc2 := h.c2
    have i0 : (0 : Int) ≤ (i : Int) := by omega
    have i1 : (i : Int) < (n : Int) := by omega
    have HP := Lib.hid h
    have HT := Lib.hid ht
    have HR := Lib.hid hr
    have HIA := Lib.hid hia
    have HFX := Lib.hid hfx
    have HOK := Lib.hid hok
    have opl := hok.opl
    have opr := hok.opr
    have hlc := lev_cases hok
    have hgl := h.lt
    obtain ⟨o8, o9, o10, o17⟩ := opn_bin
    clear h ht hr hia hfx hra hnodes
    go_enter Tryz.func67, Tryz.ntmps67
    rcases hlc with ⟨he | he | he, _⟩ | ⟨hlev, ha, hb⟩ | hlev
    · have hlev : lev x.d.kind = 3 := by rw [he]; rfl
      rw [show x.d.kind.toNat = 8 by omega] at opl opr
      obtain ⟨jl, hjl, hjl2⟩ : ∃ jl : Nat, x.d.l = jl ∧ jl < i := ⟨x.d.l.toNat, by omega, by omega⟩
      obtain ⟨jr, hjr, hjr2⟩ : ∃ jr : Nat, x.d.r = jr ∧ jr < i := ⟨x.d.r.toNat, by omega, by omega⟩
      have hT : ndTxt (ns.map (·.d)) (f + 1) i = opdB (ns.map (·.d)) (ndTxt (ns.map (·.d)) f) jl 3 ++ ((32 :: [97, 110, 100] ++ [32]) ++ opdB (ns.map (·.d)) (ndTxt (ns.map (·.d)) f) jr 4) := by
        rw [ndTxt, nd_get hx, hlev, if_pos (by decide), hjl, hjr]
        rfl
      rw [hT] at hl ⊢
      obtain ⟨TL, hTL⟩ : ∃ T, opdB (ns.map (·.d)) (ndTxt (ns.map (·.d)) f) jl 3 = T := ⟨_, rfl⟩
      obtain ⟨TR, hTR⟩ : ∃ T, opdB (ns.map (·.d)) (ndTxt (ns.map (·.d)) f) jr 4 = T := ⟨_, rfl⟩
      rw [hTL, hTR] at hl ⊢
      have hl2 : bs.length + TL.length + 20 + TR.length ≤ 70000000020 := by simp only [List.length_append, List.length_cons, List.length_nil] at hl; omega
      have HOL : Hid (∀ w' v' bs', PrS w' g (.slice (some ⟨rb, 0, none⟩) n c) v' bs' → Tab10 g w' → RulesAt w' g (some ⟨rb, 0, none⟩) ns → bs'.length + TL.length ≤ 70000000000 → Calls Tryz.prog 97 #[pt g, I x.d.l, I 3] w' (PrG w' g (.slice (some ⟨rb, 0, none⟩) n c) v' (bs' ++ TL))) :=
        Lib.hid fun w' v' bs' a1 a2 a3 a4 => by rw [← hTL, hjl]; exact operand_of ns _ n c f jl hn (by omega) (IH jl (by omega) (by omega)) 3 w' g v' bs' a1 a2 a3 (by rw [hTL]; exact a4)
      have HOR : Hid (∀ w' v' bs', PrS w' g (.slice (some ⟨rb, 0, none⟩) n c) v' bs' → Tab10 g w' → RulesAt w' g (some ⟨rb, 0, none⟩) ns → bs'.length + TR.length ≤ 70000000000 → Calls Tryz.prog 97 #[pt g, I x.d.r, I 4] w' (PrG w' g (.slice (some ⟨rb, 0, none⟩) n c) v' (bs' ++ TR))) :=
        Lib.hid fun w' v' bs' a1 a2 a3 a4 => by rw [← hTR, hjr]; exact operand_of ns _ n c f jr hn (by omega) (IH jr (by omega) (by omega)) 4 w' g v' bs' a1 a2 a3 (by rw [hTR]; exact a4)
      have HLV := Lib.hid hlev
      have HHL := Lib.hid hl
      clear IH hl hT hTL hTR hjl hjr hlev hn hx hok he opl opr
      go_wp2_with fail
      obtain ⟨W0, hW0⟩ : ∃ W, w.alloc (.cells #[I x.d.kind, I x.d.cal, I x.d.l, I x.d.r, I x.d.n, I x.d.m, .slice x.A x.d.list.length x.c, .string x.d.name] 85) = W := ⟨_, rfl⟩
      have HP0 : Hid (PgS w g (.slice (some ⟨rb, 0, none⟩) n c) v w.heap.size (ndCells x.d x.A x.c) v bs W0) := Lib.hid ((show w.alloc (.cells (ndCells x.d x.A x.c) 85) = W0 from hW0) ▸ PgS.start HP.out HT.out _)
      rw [hW0]
      clear hW0 f0 f1 f2 f3 f4 f5 f6 f7
      refine (level_any x.d.kind W0).mono ?_
      rw [HLV.out]
      rintro e w1 ⟨rfl, hb1⟩
      have HP1 := Lib.hid (HP0.out.grow hb1)
      have HR1 := Lib.hid (HR.out.keep HP1.out.low)
      have p2 : w1.cell? ⟨w.heap.size, 2, none⟩ = some (I x.d.l) := HP1.out.box.row.2 2
      clear hb1 HP0
      go_wp2_with fail
      refine (HOL.out w1 v bs HP1.out.pr HP1.out.tab HR1.out (by omega)).mono ?_
      rintro e w2 ⟨rfl, v2, hp2, hk2⟩
      have HP2 := Lib.hid (HP1.out.next hp2 hk2)
      clear hp2 hk2 p2 HP1 HR1 HOL
      go_wp2_with fail
      refine (operators_any w2).mono ?_
      rintro e w3 ⟨rfl, hrow, hb3⟩
      have HP3 := Lib.hid (HP2.out.grow hb3)
      have q : w3.cell? ⟨w2.heap.size, 4, none⟩ = some (.string ⟨#[97, 110, 100]⟩) := hrow.2 4
      have HC := Lib.hid (HP3.out.put0 (32 :: [97, 110, 100] ++ [32]) (by rw [List.length_append]; simp only [List.length_append, List.length_cons, List.length_nil]; omega))
      clear hrow hb3 HP2
      go_wp2_with fail
      rw [show ((⟨#[32]⟩ : ByteArray) ++ ⟨#[97, 110, 100]⟩ ++ ⟨#[32]⟩) = ⟨(32 :: [97, 110, 100] ++ [32] : List UInt8).toArray⟩ from by rw [cat_bytes [32] [97, 110, 100], cat_bytes _ [32]]; rfl]
      refine HC.out.mono ?_
      rintro e w4 ⟨rfl, v4, hp4⟩
      have e4 : putB (32 :: [97, 110, 100] ++ [32]) [] = 32 :: [97, 110, 100] ++ [32] := by simp [putB]
      rw [e4] at hp4
      have HP4 := Lib.hid hp4
      have HR4 := Lib.hid (HR.out.keep hp4.low)
      have p4 : w4.cell? ⟨w.heap.size, 3, none⟩ = some (I x.d.r) := hp4.box.row.2 3
      clear hp4 HC HP3 e4 q
      go_wp2_with fail
      refine (HOR.out w4 v4 _ HP4.out.pr HP4.out.tab HR4.out (by rw [List.length_append, List.length_append]; simp only [List.length_append, List.length_cons, List.length_nil]; have := HHL.out; simp only [List.length_append, List.length_cons, List.length_nil] at this; omega)).mono ?_
      rintro e w5 ⟨rfl, v5, hp5, hk5⟩
      have HP5 := Lib.hid (HP4.out.next hp5 hk5)
      clear hp5 hk5 p4 HP4 HR4 HOR
      go_wp2_with fail
      go_end0
      exact ⟨rfl, v5, by rw [← List.append_assoc, ← List.append_assoc]; exact HP5.out.pr, HP5.out.keep⟩
    · have hlev : lev x.d.kind = 1 := by rw [he]; rfl
      rw [show x.d.kind.toNat = 9 by omega] at opl opr
      obtain ⟨jl, hjl, hjl2⟩ : ∃ jl : Nat, x.d.l = jl ∧ jl < i := ⟨x.d.l.toNat, by omega, by omega⟩
      obtain ⟨jr, hjr, hjr2⟩ : ∃ jr : Nat, x.d.r = jr ∧ jr < i := ⟨x.d.r.toNat, by omega, by omega⟩
      have hT : ndTxt (ns.map (·.d)) (f + 1) i = opdB (ns.map (·.d)) (ndTxt (ns.map (·.d)) f) jl 1 ++ ((32 :: [111, 114] ++ [32]) ++ opdB (ns.map (·.d)) (ndTxt (ns.map (·.d)) f) jr 2) := by
        rw [ndTxt, nd_get hx, hlev, if_pos (by decide), hjl, hjr]
        rfl
      rw [hT] at hl ⊢
      obtain ⟨TL, hTL⟩ : ∃ T, opdB (ns.map (·.d)) (ndTxt (ns.map (·.d)) f) jl 1 = T := ⟨_, rfl⟩
      obtain ⟨TR, hTR⟩ : ∃ T, opdB (ns.map (·.d)) (ndTxt (ns.map (·.d)) f) jr 2 = T := ⟨_, rfl⟩
      rw [hTL, hTR] at hl ⊢
      have hl2 : bs.length + TL.length + 20 + TR.length ≤ 70000000020 := by simp only [List.length_append, List.length_cons, List.length_nil] at hl; omega
      have HOL : Hid (∀ w' v' bs', PrS w' g (.slice (some ⟨rb, 0, none⟩) n c) v' bs' → Tab10 g w' → RulesAt w' g (some ⟨rb, 0, none⟩) ns → bs'.length + TL.length ≤ 70000000000 → Calls Tryz.prog 97 #[pt g, I x.d.l, I 1] w' (PrG w' g (.slice (some ⟨rb, 0, none⟩) n c) v' (bs' ++ TL))) :=
        Lib.hid fun w' v' bs' a1 a2 a3 a4 => by rw [← hTL, hjl]; exact operand_of ns _ n c f jl hn (by omega) (IH jl (by omega) (by omega)) 1 w' g v' bs' a1 a2 a3 (by rw [hTL]; exact a4)
      have HOR : Hid (∀ w' v' bs', PrS w' g (.slice (some ⟨rb, 0, none⟩) n c) v' bs' → Tab10 g w' → RulesAt w' g (some ⟨rb, 0, none⟩) ns → bs'.length + TR.length ≤ 70000000000 → Calls Tryz.prog 97 #[pt g, I x.d.r, I 2] w' (PrG w' g (.slice (some ⟨rb, 0, none⟩) n c) v' (bs' ++ TR))) :=
        Lib.hid fun w' v' bs' a1 a2 a3 a4 => by rw [← hTR, hjr]; exact operand_of ns _ n c f jr hn (by omega) (IH jr (by omega) (by omega)) 2 w' g v' bs' a1 a2 a3 (by rw [hTR]; exact a4)
      have HLV := Lib.hid hlev
      have HHL := Lib.hid hl
      clear IH hl hT hTL hTR hjl hjr hlev hn hx hok he opl opr
      go_wp2_with fail
      obtain ⟨W0, hW0⟩ : ∃ W, w.alloc (.cells #[I x.d.kind, I x.d.cal, I x.d.l, I x.d.r, I x.d.n, I x.d.m, .slice x.A x.d.list.length x.c, .string x.d.name] 85) = W := ⟨_, rfl⟩
      have HP0 : Hid (PgS w g (.slice (some ⟨rb, 0, none⟩) n c) v w.heap.size (ndCells x.d x.A x.c) v bs W0) := Lib.hid ((show w.alloc (.cells (ndCells x.d x.A x.c) 85) = W0 from hW0) ▸ PgS.start HP.out HT.out _)
      rw [hW0]
      clear hW0 f0 f1 f2 f3 f4 f5 f6 f7
      refine (level_any x.d.kind W0).mono ?_
      rw [HLV.out]
      rintro e w1 ⟨rfl, hb1⟩
      have HP1 := Lib.hid (HP0.out.grow hb1)
      have HR1 := Lib.hid (HR.out.keep HP1.out.low)
      have p2 : w1.cell? ⟨w.heap.size, 2, none⟩ = some (I x.d.l) := HP1.out.box.row.2 2
      clear hb1 HP0
      go_wp2_with fail
      refine (HOL.out w1 v bs HP1.out.pr HP1.out.tab HR1.out (by omega)).mono ?_
      rintro e w2 ⟨rfl, v2, hp2, hk2⟩
      have HP2 := Lib.hid (HP1.out.next hp2 hk2)
      clear hp2 hk2 p2 HP1 HR1 HOL
      go_wp2_with fail
      refine (operators_any w2).mono ?_
      rintro e w3 ⟨rfl, hrow, hb3⟩
      have HP3 := Lib.hid (HP2.out.grow hb3)
      have q : w3.cell? ⟨w2.heap.size, 0, none⟩ = some (.string ⟨#[111, 114]⟩) := hrow.2 0
      have HC := Lib.hid (HP3.out.put0 (32 :: [111, 114] ++ [32]) (by rw [List.length_append]; simp only [List.length_append, List.length_cons, List.length_nil]; omega))
      clear hrow hb3 HP2
      go_wp2_with fail
      rw [show ((⟨#[32]⟩ : ByteArray) ++ ⟨#[111, 114]⟩ ++ ⟨#[32]⟩) = ⟨(32 :: [111, 114] ++ [32] : List UInt8).toArray⟩ from by rw [cat_bytes [32] [111, 114], cat_bytes _ [32]]; rfl]
      refine HC.out.mono ?_
      rintro e w4 ⟨rfl, v4, hp4⟩
      have e4 : putB (32 :: [111, 114] ++ [32]) [] = 32 :: [111, 114] ++ [32] := by simp [putB]
      rw [e4] at hp4
      have HP4 := Lib.hid hp4
      have HR4 := Lib.hid (HR.out.keep hp4.low)
      have p4 : w4.cell? ⟨w.heap.size, 3, none⟩ = some (I x.d.r) := hp4.box.row.2 3
      clear hp4 HC HP3 e4 q
      go_wp2_with fail
      refine (HOR.out w4 v4 _ HP4.out.pr HP4.out.tab HR4.out (by rw [List.length_append, List.length_append]; simp only [List.length_append, List.length_cons, List.length_nil]; have := HHL.out; simp only [List.length_append, List.length_cons, List.length_nil] at this; omega)).mono ?_
      rintro e w5 ⟨rfl, v5, hp5, hk5⟩
      have HP5 := Lib.hid (HP4.out.next hp5 hk5)
      clear hp5 hk5 p4 HP4 HR4 HOR
      go_wp2_with fail
      go_end0
      exact ⟨rfl, v5, by rw [← List.append_assoc, ← List.append_assoc]; exact HP5.out.pr, HP5.out.keep⟩
    · have hlev : lev x.d.kind = 2 := by rw [he]; rfl
      rw [show x.d.kind.toNat = 10 by omega] at opl opr
      obtain ⟨jl, hjl, hjl2⟩ : ∃ jl : Nat, x.d.l = jl ∧ jl < i := ⟨x.d.l.toNat, by omega, by omega⟩
      obtain ⟨jr, hjr, hjr2⟩ : ∃ jr : Nat, x.d.r = jr ∧ jr < i := ⟨x.d.r.toNat, by omega, by omega⟩
      have hT : ndTxt (ns.map (·.d)) (f + 1) i = opdB (ns.map (·.d)) (ndTxt (ns.map (·.d)) f) jl 2 ++ ((32 :: [109, 105, 110, 117, 115] ++ [32]) ++ opdB (ns.map (·.d)) (ndTxt (ns.map (·.d)) f) jr 3) := by
        rw [ndTxt, nd_get hx, hlev, if_pos (by decide), hjl, hjr]
        rfl
      rw [hT] at hl ⊢
      obtain ⟨TL, hTL⟩ : ∃ T, opdB (ns.map (·.d)) (ndTxt (ns.map (·.d)) f) jl 2 = T := ⟨_, rfl⟩
      obtain ⟨TR, hTR⟩ : ∃ T, opdB (ns.map (·.d)) (ndTxt (ns.map (·.d)) f) jr 3 = T := ⟨_, rfl⟩
      rw [hTL, hTR] at hl ⊢
      have hl2 : bs.length + TL.length + 20 + TR.length ≤ 70000000020 := by simp only [List.length_append, List.length_cons, List.length_nil] at hl; omega
      have HOL : Hid (∀ w' v' bs', PrS w' g (.slice (some ⟨rb, 0, none⟩) n c) v' bs' → Tab10 g w' → RulesAt w' g (some ⟨rb, 0, none⟩) ns → bs'.length + TL.length ≤ 70000000000 → Calls Tryz.prog 97 #[pt g, I x.d.l, I 2] w' (PrG w' g (.slice (some ⟨rb, 0, none⟩) n c) v' (bs' ++ TL))) :=
        Lib.hid fun w' v' bs' a1 a2 a3 a4 => by rw [← hTL, hjl]; exact operand_of ns _ n c f jl hn (by omega) (IH jl (by omega) (by omega)) 2 w' g v' bs' a1 a2 a3 (by rw [hTL]; exact a4)
      have HOR : Hid (∀ w' v' bs', PrS w' g (.slice (some ⟨rb, 0, none⟩) n c) v' bs' → Tab10 g w' → RulesAt w' g (some ⟨rb, 0, none⟩) ns → bs'.length + TR.length ≤ 70000000000 → Calls Tryz.prog 97 #[pt g, I x.d.r, I 3] w' (PrG w' g (.slice (some ⟨rb, 0, none⟩) n c) v' (bs' ++ TR))) :=
        Lib.hid fun w' v' bs' a1 a2 a3 a4 => by rw [← hTR, hjr]; exact operand_of ns _ n c f jr hn (by omega) (IH jr (by omega) (by omega)) 3 w' g v' bs' a1 a2 a3 (by rw [hTR]; exact a4)
      have HLV := Lib.hid hlev
      have HHL := Lib.hid hl
      clear IH hl hT hTL hTR hjl hjr hlev hn hx hok he opl opr
      go_wp2_with fail
      obtain ⟨W0, hW0⟩ : ∃ W, w.alloc (.cells #[I x.d.kind, I x.d.cal, I x.d.l, I x.d.r, I x.d.n, I x.d.m, .slice x.A x.d.list.length x.c, .string x.d.name] 85) = W := ⟨_, rfl⟩
      have HP0 : Hid (PgS w g (.slice (some ⟨rb, 0, none⟩) n c) v w.heap.size (ndCells x.d x.A x.c) v bs W0) := Lib.hid ((show w.alloc (.cells (ndCells x.d x.A x.c) 85) = W0 from hW0) ▸ PgS.start HP.out HT.out _)
      rw [hW0]
      clear hW0 f0 f1 f2 f3 f4 f5 f6 f7
      refine (level_any x.d.kind W0).mono ?_
      rw [HLV.out]
      rintro e w1 ⟨rfl, hb1⟩
      have HP1 := Lib.hid (HP0.out.grow hb1)
      have HR1 := Lib.hid (HR.out.keep HP1.out.low)
      have p2 : w1.cell? ⟨w.heap.size, 2, none⟩ = some (I x.d.l) := HP1.out.box.row.2 2
      clear hb1 HP0
      go_wp2_with fail
      refine (HOL.out w1 v bs HP1.out.pr HP1.out.tab HR1.out (by omega)).mono ?_
      rintro e w2 ⟨rfl, v2, hp2, hk2⟩
      have HP2 := Lib.hid (HP1.out.next hp2 hk2)
      clear hp2 hk2 p2 HP1 HR1 HOL
      go_wp2_with fail
      refine (operators_any w2).mono ?_
      rintro e w3 ⟨rfl, hrow, hb3⟩
      have HP3 := Lib.hid (HP2.out.grow hb3)
      have q : w3.cell? ⟨w2.heap.size, 2, none⟩ = some (.string ⟨#[109, 105, 110, 117, 115]⟩) := hrow.2 2
      have HC := Lib.hid (HP3.out.put0 (32 :: [109, 105, 110, 117, 115] ++ [32]) (by rw [List.length_append]; simp only [List.length_append, List.length_cons, List.length_nil]; omega))
      clear hrow hb3 HP2
      go_wp2_with fail
      rw [show ((⟨#[32]⟩ : ByteArray) ++ ⟨#[109, 105, 110, 117, 115]⟩ ++ ⟨#[32]⟩) = ⟨(32 :: [109, 105, 110, 117, 115] ++ [32] : List UInt8).toArray⟩ from by rw [cat_bytes [32] [109, 105, 110, 117, 115], cat_bytes _ [32]]; rfl]
      refine HC.out.mono ?_
      rintro e w4 ⟨rfl, v4, hp4⟩
      have e4 : putB (32 :: [109, 105, 110, 117, 115] ++ [32]) [] = 32 :: [109, 105, 110, 117, 115] ++ [32] := by simp [putB]
      rw [e4] at hp4
      have HP4 := Lib.hid hp4
      have HR4 := Lib.hid (HR.out.keep hp4.low)
      have p4 : w4.cell? ⟨w.heap.size, 3, none⟩ = some (I x.d.r) := hp4.box.row.2 3
      clear hp4 HC HP3 e4 q
      go_wp2_with fail
      refine (HOR.out w4 v4 _ HP4.out.pr HP4.out.tab HR4.out (by rw [List.length_append, List.length_append]; simp only [List.length_append, List.length_cons, List.length_nil]; have := HHL.out; simp only [List.length_append, List.length_cons, List.length_nil] at this; omega)).mono ?_
      rintro e w5 ⟨rfl, v5, hp5, hk5⟩
      have HP5 := Lib.hid (HP4.out.next hp5 hk5)
      clear hp5 hk5 p4 HP4 HR4 HOR
      go_wp2_with fail
      go_end0
      exact ⟨rfl, v5, by rw [← List.append_assoc, ← List.append_assoc]; exact HP5.out.pr, HP5.out.keep⟩
    · have o1 := opn_one x.d.kind.toNat (by omega) (by omega)
      obtain ⟨jl, hjl, hjl2⟩ : ∃ jl : Nat, x.d.l = jl ∧ jl < i := ⟨x.d.l.toNat, by omega, by omega⟩
      obtain ⟨jr, hjr⟩ : ∃ jr : Nat, x.d.r = jr := ⟨x.d.r.toNat, by omega⟩
      have hjr2 : x.d.kind = 17 → jr < i := fun e => by
        rw [show x.d.kind.toNat = 17 by omega] at opr
        omega
      have hT : ndTxt (ns.map (·.d)) (f + 1) i = opdB (ns.map (·.d)) (ndTxt (ns.map (·.d)) f) jl 4 ++ (sufB x.d ++ if x.d.kind = 17 then opdB (ns.map (·.d)) (ndTxt (ns.map (·.d)) f) jr 5 else []) := by
        rw [ndTxt, nd_get hx, hlev, if_neg (by decide), if_pos rfl, hjl, hjr]
      rw [hT] at hl ⊢
      obtain ⟨TL, hTL⟩ : ∃ T, opdB (ns.map (·.d)) (ndTxt (ns.map (·.d)) f) jl 4 = T := ⟨_, rfl⟩
      obtain ⟨TR, hTR⟩ : ∃ T, (if x.d.kind = 17 then opdB (ns.map (·.d)) (ndTxt (ns.map (·.d)) f) jr 5 else []) = T := ⟨_, rfl⟩
      rw [hTL, hTR] at hl ⊢
      rw [List.length_append, List.length_append] at hl
      have HOL : Hid (∀ w' v' bs', PrS w' g (.slice (some ⟨rb, 0, none⟩) n c) v' bs' → Tab10 g w' → RulesAt w' g (some ⟨rb, 0, none⟩) ns → bs'.length + TL.length ≤ 70000000000 → Calls Tryz.prog 97 #[pt g, I x.d.l, I 4] w' (PrG w' g (.slice (some ⟨rb, 0, none⟩) n c) v' (bs' ++ TL))) :=
        Lib.hid fun w' v' bs' a1 a2 a3 a4 => by rw [← hTL, hjl]; exact operand_of ns _ n c f jl hn (by omega) (IH jl (by omega) (by omega)) 4 w' g v' bs' a1 a2 a3 (by rw [hTL]; exact a4)
      have HSU : Hid (∀ w' v' bs', PrS w' g (.slice (some ⟨rb, 0, none⟩) n c) v' bs' → Tab10 g w' → RulesAt w' g (some ⟨rb, 0, none⟩) ns → IntsAt w' g x.A x.d.list → bs'.length + ((sufB x.d).length + TR.length) ≤ 70000000000 → Calls Tryz.prog 100 #[pt g, .agg (ndCells x.d x.A x.c)] w' (PrG w' g (.slice (some ⟨rb, 0, none⟩) n c) v' (bs' ++ (sufB x.d ++ TR)))) :=
        Lib.hid fun w' v' bs' a1 a2 a3 a4 a5 => by
          have h := suffix_all i w' g _ v' bs' TR ns _ x jr hjr a1 a2 a3 a4 HOK.out HFX.out a5 hlev fun e w2 v2 bs2 b1 b2 b3 b4 => by
            rw [if_pos e] at hTR
            rw [← hTR]
            exact operand_of ns _ n c f jr hn (by have := hjr2 e; omega) (IH jr (hjr2 e) (by have := hjr2 e; omega)) 5 w2 g v2 bs2 b1 b2 b3 (by rw [hTR]; exact b4)
          have e : (if x.d.kind = 17 then TR else []) = TR := by
            rw [← hTR]
            split <;> rfl
          rw [e] at h
          exact h
      have HLV := Lib.hid hlev
      have HHL := Lib.hid hl
      clear IH hl hT hTL hTR hjl hjr hjr2 hlev hn hx hok ha hb opl opr o1
      go_wp2_with fail
      obtain ⟨W0, hW0⟩ : ∃ W, w.alloc (.cells #[I x.d.kind, I x.d.cal, I x.d.l, I x.d.r, I x.d.n, I x.d.m, .slice x.A x.d.list.length x.c, .string x.d.name] 85) = W := ⟨_, rfl⟩
      have HP0 : Hid (PgS w g (.slice (some ⟨rb, 0, none⟩) n c) v w.heap.size (ndCells x.d x.A x.c) v bs W0) := Lib.hid ((show w.alloc (.cells (ndCells x.d x.A x.c) 85) = W0 from hW0) ▸ PgS.start HP.out HT.out _)
      rw [hW0]
      clear hW0 f0 f1 f2 f3 f4 f5 f6 f7
      refine (level_any x.d.kind W0).mono ?_
      rw [HLV.out]
      rintro e w1 ⟨rfl, hb1⟩
      have HP1 := Lib.hid (HP0.out.grow hb1)
      have HR1 := Lib.hid (HR.out.keep HP1.out.low)
      have p2 : w1.cell? ⟨w.heap.size, 2, none⟩ = some (I x.d.l) := HP1.out.box.row.2 2
      clear hb1 HP0
      go_wp2_with fail
      refine (HOL.out w1 v bs HP1.out.pr HP1.out.tab HR1.out (by have := HHL.out; omega)).mono ?_
      rintro e w2 ⟨rfl, v2, hp2, hk2⟩
      have HP2 := Lib.hid (HP1.out.next hp2 hk2)
      have HR2 := Lib.hid (HR.out.keep HP2.out.low)
      have HI2 := Lib.hid (HIA.out.keep HP2.out.low)
      clear hp2 hk2 p2 HP1 HR1 HOL
      go_wp2_with (with_reducible refine g_load 85 ?_; refine wpList_load_Row rfl _ _ rfl w.heap.size rfl (ndCells x.d x.A x.c) HP2.out.box.row _ Tryz.underlying85 rfl (nd_size _ _ _) ?_)
      refine (HSU.out w2 v2 _ HP2.out.pr HP2.out.tab HR2.out HI2.out (by rw [List.length_append]; have := HHL.out; omega)).mono ?_
      rintro e w5 ⟨rfl, v5, hp5, hk5⟩
      have HP5 := Lib.hid (HP2.out.next hp5 hk5)
      clear hp5 hk5 HP2 HR2 HI2 HSU
      go_wp2_with fail
      go_end0
      exact ⟨rfl, v5, by rw [← List.append_assoc]; exact HP5.out.pr, HP5.out.keep⟩
    · have hT : ndTxt (ns.map (·.d)) (f + 1) i = leafB x.d := by
        rw [ndTxt, nd_get hx, hlev, if_neg (by decide), if_neg (by decide)]
      rw [hT] at hl ⊢
      have HLF : Hid (∀ w' v' bs', PrS w' g (.slice (some ⟨rb, 0, none⟩) n c) v' bs' → Tab10 g w' → IntsAt w' g x.A x.d.list → bs'.length ≤ 80000000000 → Calls Tryz.prog 101 #[pt g, .agg (ndCells x.d x.A x.c)] w' (PrG w' g (.slice (some ⟨rb, 0, none⟩) n c) v' (bs' ++ leafB x.d))) :=
        Lib.hid fun w' v' bs' a1 a2 a4 a5 => leaf_all i w' g _ v' bs' x a1 a2 a4 HOK.out HFX.out a5 hlev
      have HLV := Lib.hid hlev
      clear IH hT hlev hn hx hok opl opr
      go_wp2_with fail
      obtain ⟨W0, hW0⟩ : ∃ W, w.alloc (.cells #[I x.d.kind, I x.d.cal, I x.d.l, I x.d.r, I x.d.n, I x.d.m, .slice x.A x.d.list.length x.c, .string x.d.name] 85) = W := ⟨_, rfl⟩
      have HP0 : Hid (PgS w g (.slice (some ⟨rb, 0, none⟩) n c) v w.heap.size (ndCells x.d x.A x.c) v bs W0) := Lib.hid ((show w.alloc (.cells (ndCells x.d x.A x.c) 85) = W0 from hW0) ▸ PgS.start HP.out HT.out _)
      rw [hW0]
      clear hW0 f0 f1 f2 f3 f4 f5 f6 f7
      refine (level_any x.d.kind W0).mono ?_
      rw [HLV.out]
      rintro e w1 ⟨rfl, hb1⟩
      have HP1 := Lib.hid (HP0.out.grow hb1)
      have HI1 := Lib.hid (HIA.out.keep HP1.out.low)
      clear hb1 HP0
      go_wp2_with (with_reducible refine g_load 85 ?_; refine wpList_load_Row rfl _ _ rfl w.heap.size rfl (ndCells x.d x.A x.c) HP1.out.box.row _ Tryz.underlying85 rfl (nd_size _ _ _) ?_)
      refine (HLF.out w1 v bs HP1.out.pr HP1.out.tab HI1.out (by omega)).mono ?_
      rintro e w5 ⟨rfl, v5, hp5, hk5⟩
      have HP5 := Lib.hid (HP1.out.next hp5 hk5)
      clear hp5 hk5 HP1 HI1 HLF
      go_wp2_with fail
      go_end0
      exact ⟨rfl, v5, HP5.out.pr, HP5.out.keep⟩
end Go.Proofs.YtenbgpcdoljkgaaGreatDoor

/- The text of a made rule: it is short, and not empty (plain). -/
namespace Go.Proofs.YtenbgpcdoljkgaaGreatDoor
open Go Go.RowKit

/-- The text of a rule. -/
def rlTxt (ds : List Nd) : List UInt8 := ndTxt ds ds.length (ds.length - 1)
theorem opdB_len (ds : List Nd) (T : Nat → List UInt8) (j req : Int) (N : Nat) (h : (T j.toNat).length ≤ N) : (opdB ds T j req).length ≤ N + 2 := by
  unfold opdB
  split
  · omega
  · simp only [List.length_append, List.length_singleton]; omega
theorem scopeB_len (n : Int) : (scopeB n).length ≤ 6 := by unfold scopeB; split <;> simp
theorem wordB_len (n : Int) : (wordB n).length ≤ 5 := by unfold wordB; split <;> (try split) <;> simp
theorem put_of {s : List UInt8} {zs : List Int} {a b : Nat} (hs : s.length ≤ a) (hz : zs.length ≤ b) (hf : ∀ z ∈ zs, fits z) : (putB s zs).length ≤ a + 22 * b := by
  have := putB_len s zs hf
  omega
theorem leafB_len {d : Nd} (h : NdPr d) (hl : d.list.length ≤ 4) : (leafB d).length ≤ 200 := by
  have hL := listB_len d.list h.lf
  have hS := scopeB_len d.l
  have hN : d.name.data.toList.length ≤ 32 := by rw [Array.length_toList]; exact h.name
  have p0 : ∀ s : List UInt8, s.length ≤ 10 → (putB s []).length ≤ 10 + 22 * 3 := fun s hs => put_of hs (by simp) (by simp)
  have p1 : ∀ s : List UInt8, s.length ≤ 10 → (putB s [d.cal]).length ≤ 10 + 22 * 3 := fun s hs => put_of hs (by simp) (by simp [h.cal])
  have p2 : ∀ s : List UInt8, s.length ≤ 10 → (putB s [d.n, d.m]).length ≤ 10 + 22 * 3 := fun s hs => put_of hs (by simp) (by simp [h.n, h.m])
  have p3 : ∀ s : List UInt8, s.length ≤ 10 → (putB s [d.cal, d.n, d.m]).length ≤ 10 + 22 * 3 := fun s hs => put_of hs (by simp) (by simp [h.cal, h.n, h.m])
  unfold leafB
  split
  · have := p2 [100, 97, 121, 115] (by simp); omega
  split
  · have := p3 [121, 101, 97, 114, 115] (by simp); omega
  split
  · have := p1 [109, 111, 110, 116, 104, 115] (by simp); rw [List.length_append]; omega
  split
  · have := p1 [109, 111, 110, 116, 104, 100, 97, 121, 115] (by simp); rw [List.length_append]; omega
  split
  · have := p0 [119, 101, 101, 107, 100, 97, 121, 115] (by simp); rw [List.length_append]; omega
  split
  · have := p1 [119, 101, 101, 107, 115] (by simp); rw [List.length_append]; omega
  split
  · have := p3 [110, 116, 104] (by simp); rw [List.length_append]; omega
  · rw [List.length_cons]; omega
theorem sufB_len {d : Nd} (h : NdPr d) (hl : d.list.length ≤ 4) : (sufB d).length ≤ 200 := by
  have hL := listB_len d.list h.lf
  have hS := scopeB_len d.m
  have p0 : ∀ s : List UInt8, s.length ≤ 10 → (putB s []).length ≤ 10 + 22 * 3 := fun s hs => put_of hs (by simp) (by simp)
  have p1 : ∀ s : List UInt8, s.length ≤ 10 → (putB s [d.cal]).length ≤ 10 + 22 * 3 := fun s hs => put_of hs (by simp) (by simp [h.cal])
  have p2 : ∀ s : List UInt8, s.length ≤ 10 → (putB s [d.n]).length ≤ 10 + 22 * 3 := fun s hs => put_of hs (by simp) (by simp [h.n])
  unfold sufB
  split
  · have := p2 [32, 115, 104, 105, 102, 116] (by simp); omega
  split
  · have := p2 [32, 102, 114, 111, 109] (by simp); omega
  split
  · have := p2 [32, 117, 110, 116, 105, 108] (by simp); omega
  split
  · have := p0 [32, 97, 108, 115, 111] (by simp); rw [List.length_append]; omega
  split
  · have := p0 [32, 101, 120, 99, 101, 112, 116] (by simp); rw [List.length_append]; omega
  split
  · have := p1 [32, 112, 111, 115] (by simp); rw [List.length_append, List.length_append]; omega
  · have := p2 [32, 98, 101, 104, 105, 110, 100] (by simp)
    rw [List.length_append]
    have : ([32, 111, 102, 32] : List UInt8).length = 4 := rfl
    omega
theorem putB_ne (a : UInt8) (s : List UInt8) (zs : List Int) : putB (a :: s) zs ≠ [] := by unfold putB; simp
theorem app_ne {a b : List UInt8} (h : a ≠ []) : a ++ b ≠ [] := fun e => h (List.append_eq_nil_iff.1 e).1
theorem leafB_ne (d : Nd) : leafB d ≠ [] := by
  unfold leafB
  split
  · exact putB_ne _ _ _
  split
  · exact putB_ne _ _ _
  split
  · exact app_ne (putB_ne _ _ _)
  split
  · exact app_ne (putB_ne _ _ _)
  split
  · exact app_ne (putB_ne _ _ _)
  split
  · exact app_ne (putB_ne _ _ _)
  split
  · exact app_ne (putB_ne _ _ _)
  · exact List.cons_ne_nil _ _
theorem sufB_ne (d : Nd) : sufB d ≠ [] := by
  unfold sufB
  split
  · exact putB_ne _ _ _
  split
  · exact putB_ne _ _ _
  split
  · exact putB_ne _ _ _
  split
  · exact app_ne (putB_ne _ _ _)
  split
  · exact app_ne (putB_ne _ _ _)
  split
  · exact app_ne (putB_ne _ _ _)
  · exact app_ne (putB_ne _ _ _)
theorem ndTxt_ne (ds : List Nd) (f i : Nat) : ndTxt ds (f + 1) i ≠ [] := by
  unfold ndTxt
  split
  · intro e
    have := (List.append_eq_nil_iff.1 (List.append_eq_nil_iff.1 e).2).1
    simp at this
  split
  · intro e
    exact sufB_ne _ (List.append_eq_nil_iff.1 (List.append_eq_nil_iff.1 e).2).1
  · exact leafB_ne _
theorem rlTxt_ne (ds : List Nd) (h : 0 < ds.length) : rlTxt ds ≠ [] := by
  unfold rlTxt
  obtain ⟨m, hm⟩ : ∃ m, ds.length = m + 1 := ⟨ds.length - 1, by omega⟩
  rw [hm]
  exact ndTxt_ne _ _ _
/-- A made rule lies in the list from place k on. -/
def InAt (ds : List Nd) (k : Nat) (ns : List NdV) : Prop := ∀ (j : Nat) (x : NdV), ns[j]? = some x → ds[k + j]? = some (mvd (k : Int) x).d
theorem mvd_mvd (a b : Int) (y : NdV) : (mvd a (mvd b y)).d = (mvd (a + b) y).d := by
  unfold mvd
  dsimp only
  split <;> split <;> simp <;> omega
theorem NdPr.mvd {x : NdV} (h : NdPr x.d) (k : Int) : NdPr (mvd k x).d := ⟨h.cal, h.n, h.m, h.lf, h.ll, h.name⟩
theorem Rising.le4 {a b : Int} {zs : List Int} (h : Rising a b zs) : zs.length ≤ 4 := h.2.1
theorem leaf_pr {d : Nd} (h : LeafOK 3 d) : NdPr d ∧ d.list.length ≤ 4 ∧ lev d.kind = 5 := by
  refine ⟨((leaf_node d h).fit (by omega)).pr, ?_, ?_⟩
  · rcases h.2 with h | h | h | h | h | h | h | h
    · rw [h.2.2.2.2.2.2.2.1]; simp
    · rw [h.2.2.2.2.2.2.2.2.1]; simp
    · exact h.2.2.2.2.2.2.1.le4
    · exact h.2.2.2.2.2.2.1.le4
    · exact h.2.2.2.2.2.1.le4
    · exact h.2.2.2.2.2.2.1.le4
    · rw [h.2.2.2.2.2.2.2.2.1]; simp
    · rw [h.2.2.2.2.2.1]; simp
  · rcases h.2 with h | h | h | h | h | h | h | h <;> (rw [h.1]; rfl)
theorem one_pr {d : Nd} (h : OneOK 3 d) : NdPr d ∧ d.list.length ≤ 4 ∧ lev d.kind = 4 ∧ d.kind ≠ 17 ∧ opB d.kind = true := by
  have hp := (NodeOK.fit (i := 1) (d := { d with l := ((1 : Nat) : Int) - 1 }) (one_node d h 1 (by omega)) (by omega)).pr
  refine ⟨⟨hp.cal, hp.n, hp.m, hp.lf, hp.ll, hp.name⟩, ?_⟩
  rcases h.2.2 with h | ⟨h | h, h2⟩ | ⟨h | h, h2⟩ | h
  · rw [h.1, h.2.2.2.2.2]; exact ⟨by simp, rfl, by decide, by decide⟩
  · rw [h, h2.2.2.2.2]; exact ⟨by simp, rfl, by decide, by decide⟩
  · rw [h, h2.2.2.2.2]; exact ⟨by simp, rfl, by decide, by decide⟩
  · rw [h]; exact ⟨h2.2.2.2.le4, rfl, by decide, by decide⟩
  · rw [h]; exact ⟨h2.2.2.2.le4, rfl, by decide, by decide⟩
  · rw [h.1]; exact ⟨h.2.2.2.2.2.2.le4, rfl, by decide, by decide⟩
theorem two_pr {d : Nd} (h : TwoOK d) : NdPr d ∧ d.list.length ≤ 4 ∧ (lev d.kind < 4 ∨ (lev d.kind = 4 ∧ d.kind = 17)) ∧ opB d.kind = true ∧ twoB d.kind = true := by
  have hp := (NodeOK.fit (i := 1 + 1) (d := { d with l := ((1 : Nat) : Int) - 1, r := ((1 : Nat) : Int) + ((1 : Nat) : Int) - 1 }) (two_node d h 1 1 (by omega) (by omega)) (by omega)).pr
  refine ⟨⟨hp.cal, hp.n, hp.m, hp.lf, hp.ll, hp.name⟩, by rw [h.2.2.1]; simp, ?_⟩
  rcases h.2.2.2.2 with ⟨h | h | h, _⟩ | ⟨h, _⟩
  · rw [h]; exact ⟨.inl (by decide), by decide, by decide⟩
  · rw [h]; exact ⟨.inl (by decide), by decide, by decide⟩
  · rw [h]; exact ⟨.inl (by decide), by decide, by decide⟩
  · rw [h]; exact ⟨.inr ⟨rfl, rfl⟩, by decide, by decide⟩
theorem MRule.pos {c : Int} {ns : List NdV} (h : MRule c ns) : 0 < ns.length := by
  cases h with
  | leaf x h => simp
  | one ns x hn h => unfold overN; simp
  | two ns ms x hn hm h => unfold bothN; simp only [List.length_append, List.length_singleton]; omega
theorem txt_len {ns : List NdV} (h : MRule 3 ns) : ∀ (ds : List Nd) (k f : Nat), InAt ds k ns → (ndTxt ds f (k + ns.length - 1)).length ≤ 220 * ns.length := by
  induction h with
  | leaf x h =>
    intro ds k f hin
    obtain ⟨h1, h2, h3⟩ := leaf_pr h
    cases f with
    | zero => simp [ndTxt]
    | succ f =>
      have hx := hin 0 x rfl
      have he : k + [x].length - 1 = k := by simp
      rw [he]
      unfold ndTxt
      rw [show ds[k]? = some (mvd (k : Int) x).d from hx, Option.getD_some]
      have hk : (mvd (k : Int) x).d.kind = x.d.kind := rfl
      rw [hk, h3, if_neg (by decide), if_neg (by decide)]
      have := leafB_len (h1.mvd (k : Int)) h2
      simp only [List.length_singleton]
      omega
  | one ns x hn h ih =>
    intro ds k f hin
    obtain ⟨h1, h2, h3, h4, h5⟩ := one_pr h
    have hpos := hn.pos
    cases f with
    | zero => simp [ndTxt]
    | succ f =>
      have hx := hin ns.length ⟨{ x.d with l := (ns.length : Int) - 1 }, x.A, x.c⟩ (by unfold overN; simp)
      have hsub : InAt ds k ns := fun j y hj => hin j y (by
        unfold overN
        have hlt := (List.getElem?_eq_some_iff.1 hj).1
        rw [List.getElem?_append_left hlt]; exact hj)
      have hlen : (overN ns x).length = ns.length + 1 := by unfold overN; simp
      have he : k + (overN ns x).length - 1 = k + ns.length := by rw [hlen]; omega
      rw [he, hlen]
      have hI := ih ds k f hsub
      unfold ndTxt
      rw [hx, Option.getD_some]
      obtain ⟨D, hD⟩ : ∃ D, (mvd (k : Int) ⟨{ x.d with l := (ns.length : Int) - 1 }, x.A, x.c⟩).d = D := ⟨_, rfl⟩
      have hk : D.kind = x.d.kind := by rw [← hD]; rfl
      have hl : D.l.toNat = k + ns.length - 1 := by
        rw [← hD]; unfold Go.Proofs.YtenbgpcdoljkgaaGreatDoor.mvd; dsimp only; rw [h5, if_pos rfl]; omega
      have hp : NdPr D := by rw [← hD]; exact ⟨h1.cal, h1.n, h1.m, h1.lf, h1.ll, h1.name⟩
      have hll : D.list.length ≤ 4 := by rw [← hD]; exact h2
      rw [hD, hk, h3, if_neg (by decide), if_pos rfl, if_neg h4]
      have hS := sufB_len hp hll
      have hO := opdB_len ds (ndTxt ds f) D.l 4 (220 * ns.length) (by rw [hl]; exact hI)
      simp only [List.length_append, List.length_nil]
      omega
  | two ns ms x hn hm h ih1 ih2 =>
    intro ds k f hin
    obtain ⟨h1, h2, h3, h4, h5⟩ := two_pr h
    have hpos := hn.pos
    have hpos2 := hm.pos
    cases f with
    | zero => simp [ndTxt]
    | succ f =>
      have hlm : (movedN (ns.length : Int) ms).length = ms.length := by unfold movedN; simp
      have hx := hin (ns.length + ms.length) ⟨{ x.d with l := (ns.length : Int) - 1, r := (ns.length : Int) + ms.length - 1 }, x.A, x.c⟩ (by
        unfold bothN
        rw [List.getElem?_append_right (by rw [List.length_append, hlm]; omega), List.length_append, hlm]
        simp)
      have hsub : InAt ds k ns := fun j y hj => hin j y (by
        unfold bothN
        have hlt := (List.getElem?_eq_some_iff.1 hj).1
        rw [List.append_assoc, List.getElem?_append_left hlt]; exact hj)
      have hsub2 : InAt ds (k + ns.length) ms := fun j y hj => by
        have hlt := (List.getElem?_eq_some_iff.1 hj).1
        have := hin (ns.length + j) (mvd (ns.length : Int) y) (by
          unfold bothN
          rw [List.getElem?_append_left (by rw [List.length_append, hlm]; omega), List.getElem?_append_right (by omega)]
          unfold movedN
          rw [List.getElem?_map, Nat.add_sub_cancel_left, hj]
          rfl)
        rw [mvd_mvd] at this
        rw [Nat.add_assoc, this]
        congr 2
      have hlen : (bothN ns ms x).length = ns.length + ms.length + 1 := by unfold bothN; simp only [List.length_append, List.length_singleton, hlm]
      have he : k + (bothN ns ms x).length - 1 = k + (ns.length + ms.length) := by rw [hlen]; omega
      rw [he, hlen]
      have hI := ih1 ds k f hsub
      have hJ := ih2 ds (k + ns.length) f hsub2
      unfold ndTxt
      rw [hx, Option.getD_some]
      obtain ⟨D, hD⟩ : ∃ D, (mvd (k : Int) ⟨{ x.d with l := (ns.length : Int) - 1, r := (ns.length : Int) + ms.length - 1 }, x.A, x.c⟩).d = D := ⟨_, rfl⟩
      have hk : D.kind = x.d.kind := by rw [← hD]; rfl
      have hl : D.l.toNat = k + ns.length - 1 := by
        rw [← hD]; unfold Go.Proofs.YtenbgpcdoljkgaaGreatDoor.mvd; dsimp only; rw [h4, if_pos rfl]; omega
      have hr : D.r.toNat = k + ns.length + ms.length - 1 := by
        rw [← hD]; unfold Go.Proofs.YtenbgpcdoljkgaaGreatDoor.mvd; dsimp only; rw [h5, if_pos rfl]; omega
      have hp : NdPr D := by rw [← hD]; exact ⟨h1.cal, h1.n, h1.m, h1.lf, h1.ll, h1.name⟩
      have hll : D.list.length ≤ 4 := by rw [← hD]; exact h2
      have hS := sufB_len hp hll
      have hA := fun q => opdB_len ds (ndTxt ds f) D.l q (220 * ns.length) (by rw [hl]; exact hI)
      have hB := fun q => opdB_len ds (ndTxt ds f) D.r q (220 * ms.length) (by rw [hr]; exact hJ)
      have hW := wordB_len (lev D.kind)
      rw [hD, hk]
      rw [hk] at hW
      rcases h3 with h3 | ⟨h3, h6⟩
      · rw [if_pos h3]
        have := hA (lev x.d.kind)
        have := hB (lev x.d.kind + 1)
        simp only [List.length_append, List.length_cons, List.length_nil]
        omega
      · rw [h3, if_neg (by decide), if_pos rfl, if_pos h6]
        have := hA 4
        have := hB 5
        simp only [List.length_append]
        omega
/-- The text of a made rule of at most 16 nodes. -/
theorem rlTxt_len {ns : List NdV} (h : MRule 3 ns) (hl : ns.length ≤ 16) : (rlTxt (ns.map (·.d))).length ≤ 4000 := by
  unfold rlTxt
  have := txt_len h (ns.map (·.d)) 0 (ns.map (·.d)).length (fun j x hj => by
    rw [Nat.zero_add, List.getElem?_map, hj]
    show some x.d = _
    congr 1
    unfold Go.Proofs.YtenbgpcdoljkgaaGreatDoor.mvd
    obtain ⟨d, A, c⟩ := x
    obtain ⟨kd, c2, l, r, n, m, li, nm⟩ := d
    simp)
  rw [Nat.zero_add] at this
  rw [List.length_map] at this ⊢
  omega
end Go.Proofs.YtenbgpcdoljkgaaGreatDoor

/- grammar.Format of a good rule: its text. -/
namespace Go.Proofs.YtenbgpcdoljkgaaGreatDoor
open Go Go.RowKit

theorem prs_new (w : World) (rv : Value) : PrS (w.alloc (.cells #[.pointer none, .slice none 0 0, rv] 115)) w.heap.size rv (.slice none 0 0) [] :=
  ⟨⟨_, .inl rfl, heap_alloc_last w _⟩, World.ownsRow_nil _ _ _ _⟩
set_option maxRecDepth 10000 in
set_option maxHeartbeats 2000000 in
theorem format_any (ns : List NdV) (A : Option Addr) (m c : Nat) (w : World) (hA : RulesAt w w.heap.size A ns) (hl : ns.length = m + 1) (hok : RuleOK ns) (ht : Tab10 w.heap.size w) (h1 : rlTxt (ns.map (·.d)) ≠ []) (h2 : (rlTxt (ns.map (·.d))).length ≤ 4000) :
    Calls Tryz.prog 21 #[.slice A (m + 1 : Nat) c] w (Gives (.tuple #[.string ⟨(rlTxt (ns.map (·.d))).toArray⟩, I 0]) w) := by
  have hmk := make_cals w
  have HC0 : Hid (CS w 0 [] (w.alloc (.cells zCal3 106))) := Lib.hid ⟨heap_alloc_last w _, rfl, (fun x hx => nomatch hx), below_var w _, by simp⟩
  have hm64 : m + 1 ≤ 64 := by rw [← hl]; exact hok.n64
  have HND := Lib.hid (node_any ns A (m + 1) c hl hok.nodes hm64 (m + 1) m (by omega) (by omega))
  have hT : rlTxt (ns.map (·.d)) = ndTxt (ns.map (·.d)) (m + 1) m := by unfold rlTxt; rw [List.length_map, hl]; rfl
  rw [hT] at h1 h2 ⊢
  obtain ⟨T, hTT⟩ : ∃ T, ndTxt (ns.map (·.d)) (m + 1) m = T := ⟨_, rfl⟩
  rw [hTT] at h1 h2 ⊢
  have HTT := Lib.hid hTT
  have HT := Lib.hid ht
  have HA := Lib.hid hA
  have HL := Lib.hid hl
  have HOK := Lib.hid hok
  have HNE := Lib.hid h1
  obtain ⟨n, hn⟩ : ∃ n, m + 1 = n := ⟨_, rfl⟩
  rw [hn] at HND HL HTT ⊢
  have HN := Lib.hid hn
  clear hA hl hok ht h1 hT hTT hn
  go_enter Tryz.func21, Tryz.ntmps21
  go_wp2_with fail
  go_loopw [11] (fun i wr => ∃ (k : Nat) (xs : List CalV), k ≤ 3 ∧ i = I k ∧ CS w k xs wr) (fun i _ => 3 - (intOf i).toNat)
  case atStart => exact ⟨0, [], by omega, rfl, HC0.out⟩
  case round =>
    obtain ⟨k, xs, hk, rfl, hcs⟩ := hrel
    have HC := Lib.hid hcs
    clear hcs HC0 hmk
    by_cases hlt : (k : Int) < 3
    · have i0 : (0 : Int) ≤ (k : Int) := by omega
      obtain ⟨cc, hok, hkn⟩ := known_any k (by omega) wr
      have HOK2 := Lib.hid hok
      have HKN := Lib.hid hkn
      clear hok hkn
      go_wp2_with fail
      refine HKN.out.mono ?_
      rintro e w2 ⟨A2, ca, B, cb, rfl, hA, hB, hb2⟩
      have hsz := HC.out.sz
      have HC2 := Lib.hid (HC.out.grow hb2)
      have HC3 := Lib.hid (HC2.out.put (by omega) ⟨cc, A2, ca, B, cb⟩ ⟨hA.lower hsz, hB.lower hsz, HOK2.out⟩)
      obtain ⟨v0, c0⟩ := HC2.out.at (by omega) 0 (by omega)
      obtain ⟨v1, c1⟩ := HC2.out.at (by omega) 1 (by omega)
      obtain ⟨v2, c2⟩ := HC2.out.at (by omega) 2 (by omega)
      obtain ⟨v3, c3⟩ := HC2.out.at (by omega) 3 (by omega)
      have hf := HC2.out.froz
      have c0' : w2.cell? ⟨w.heap.size, k * 4, none⟩ = some v0 := c0
      have e0 : calCells cc A2 ca B cb = #[I cc.epoch, .slice A2 cc.months.length ca, I cc.leap, .slice B cc.rules.length cb] := rfl
      rw [e0]
      clear hA hB hb2 c0 e0
      go_wp2_with fail
      go_roundw
      case rel => exact ⟨k + 1, _, by omega, by go_num, HC3.out⟩
      case measure => simp [intOf]; omega
    · have HC' : Hid (CS w 3 xs wr) := Lib.hid (by
        have hk3 : k = 3 := by omega
        have := HC.out
        rw [hk3] at this
        exact this)
      have HV := Lib.hid (ruleValid_yes A n c w.heap.size 3 ns xs wr ((HA.out.keep HC'.out.lo).more HC'.out.lo.size) HL.out HOK.out HC'.out.cals)
      clear HC
      go_wp2_with fail
      refine HV.out.mono ?_
      rintro e w3 ⟨rfl, hb3⟩
      have hlo3 := below_trans HC'.out.lo hb3
      have hbx := below_var w3 (.cells #[.pointer none, .slice none 0 0, .slice A n c] 115)
      have HLO := Lib.hid (below_trans hlo3 hbx)
      have HP := Lib.hid (prs_new w3 (.slice A n c))
      have HTB := Lib.hid ((HT.out.keep HLO.out).more hlo3.size)
      have HR := Lib.hid ((HA.out.keep HLO.out).more hlo3.size)
      have HG := Lib.hid hlo3.size
      obtain ⟨W4, hW4⟩ : ∃ W, w3.alloc (.cells #[.pointer none, .slice none 0 0, .slice A n c] 115) = W := ⟨_, rfl⟩
      obtain ⟨g, hg⟩ : ∃ g, w3.heap.size = g := ⟨_, rfl⟩
      rw [hW4] at HLO HP HTB HR
      rw [hg] at HP HTB HR HG
      have HW4 := Lib.hid hW4
      have HGG := Lib.hid hg
      have hmn : (n : Int) - 1 = (m : Int) := by have := HN.out; omega
      have hwr : IntKind.i64.wrap ((n : Int) - 1) = (m : Int) := by rw [hmn, IntKind.wrap_i64]; omega
      clear hlo3 hbx hb3 hW4 hg HV HC' HA
      have HB4 : Hid (Below w.heap.size w W4) := Lib.hid HLO.out
      go_wp2_with fail
      rw [HGG.out, HW4.out]
      refine (HND.out W4 g _ [] HP.out HTB.out HR.out (by rw [HTT.out]; show 0 + T.length ≤ _; omega)).mono ?_
      rintro e w5 ⟨rfl, v5, hp5, hk5⟩
      rw [HTT.out, List.nil_append] at hp5
      have HP5 := Lib.hid hp5
      have HB5 := Lib.hid (HP.out.low hk5)
      have hlt5 := hp5.lt
      clear hp5 hk5 HND HTB HR
      go_wp2_with fail
      refine (blen_any w5 g _ v5 T HP5.out).mono ?_
      rintro e w6 ⟨rfl, rfl⟩
      have h4000 : ¬ (4000 : Int) < (T.length : Int) := by omega
      go_wp2_with fail
      refine (bstr_any w6 g _ v5 T HP5.out HNE.out).mono ?_
      rintro e w7 ⟨rfl, hb7⟩
      have HB7 := Lib.hid hb7
      clear hb7
      go_wp2_with fail
      go_ret2
      exact ⟨rfl, HB4.out.trans ((HB5.out.trans HB7.out).mono HG.out)⟩
end Go.Proofs.YtenbgpcdoljkgaaGreatDoor

/- LetterSeries: the invitation that carries a made series (plain). -/
namespace Go.Proofs.YtenbgpcdoljkgaaGreatDoor
open Go Go.RowKit

/-- The invitation. -/
def inv (se : Ser) (p : Int) : Lt := { zLt with kind := 1, src := 2, dst := 5, meeting := 9, edition := 1, person := p, series := se }
/-- Its slices. -/
def invSl (A B : Option Addr) (c d : Nat) : Sl := ⟨A, B, none, c, d, 0⟩
theorem inv_made {ns : List NdV} {se : Ser} (h : SerOK ns se) : MadeLt (inv se 0) ns := by
  have s0 : MadeTo false (startLt 1 2 5) 0 (startLt 1 2 5) [] := .zero
  have s1 : MadeTo false (startLt 1 2 5) 1 (setNum (startLt 1 2 5) 0 9) [] := .step s0 (by decide) (.inl ⟨by decide, 9, by decide, by decide, by decide, rfl, rfl⟩)
  have s2 : MadeTo false (startLt 1 2 5) 2 (setNum (setNum (startLt 1 2 5) 0 9) 1 1) [] := .step s1 (by decide) (.inl ⟨by decide, 1, by decide, by decide, by decide, rfl, rfl⟩)
  have s4 := (s2.skip (by decide)).skip (by decide)
  have s5 : MadeTo false (startLt 1 2 5) 5 (setNum (setNum (setNum (startLt 1 2 5) 0 9) 1 1) 4 0) [] := .step s4 (by decide) (.inl ⟨by decide, 0, by decide, by decide, by decide, rfl, rfl⟩)
  have s10 := ((((s5.skip (by decide)).skip (by decide)).skip (by decide)).skip (by decide)).skip (by decide)
  have s11 : MadeTo false (startLt 1 2 5) 11 (inv se 0) ns := .step s10 (by decide) (.inr (.inr (.inl ⟨rfl, .inl ⟨.inl (by decide), se, rfl, h⟩⟩)))
  have s17 := (((((s11.skip (by decide)).skip (by decide)).skip (by decide)).skip (by decide)).skip (by decide)).skip (by decide)
  refine ⟨⟨false, 1, 2, 5, inv se 0, by decide, by decide, by decide, by decide, by decide, by decide, by decide, (fun h => by cases h), s17, ?_⟩, rfl⟩
  unfold adjust
  rw [if_neg (by intro h; have := h.1; unfold inv at this; cases this), if_neg (by intro h; have := h.1; unfold inv at this; cases this)]
theorem inv_var (se : Ser) (p : Int) : VarOf (inv se 0) (inv se p) := ⟨rfl, rfl, rfl⟩
theorem inv_nz {ns : List NdV} {se : Ser} (h : SerOK ns se) (p : Int) : nzOf (inv se p) = false := SerOK.nz (l := inv se p) h
theorem inv_vc {ns : List NdV} {se : Ser} (h : SerOK ns se) (p : Int) (h0 : 0 ≤ p) (h1 : p ≤ 511) : vc (inv se p) = 0 := by
  have hz := inv_nz h p
  have hh : headOK (inv se p) = true := rfl
  have hv : vNums (inv se p) (bareB (inv se p).kind (inv se p).series.rule.length (inv se p).series.moves.length (inv se p).series) = true := by
    have hb : bareB (inv se p).kind (inv se p).series.rule.length (inv se p).series.moves.length (inv se p).series = false := rfl
    rw [hb, vNums_end (fun j hj => ?_)]
    · rfl
    · have hj2 : j = 0 ∨ j = 1 ∨ j = 2 ∨ j = 3 ∨ j = 4 ∨ j = 5 ∨ j = 6 ∨ j = 7 ∨ j = 8 ∨ j = 9 ∨ j = 10 ∨ j = 11 ∨ j = 12 ∨ j = 13 ∨ j = 14 ∨ j = 15 ∨ j = 16 := by omega
      rcases hj2 with rfl | rfl | rfl | rfl | rfl | rfl | rfl | rfl | rfl | rfl | rfl | rfl | rfl | rfl | rfl | rfl | rfl <;> first | exact (show numOK (inv zSer 0) false _ = true from by decide) | skip
      have e1 : numLow 1 false 4 = 0 := by decide
      have e2 : numHigh 1 false 4 = 511 := by decide
      show ((numOff 4).isNone || (decide (numLow 1 false 4 ≤ p) && decide (p ≤ numHigh 1 false 4))) = true
      rw [e1, e2, decide_eq_true h0, decide_eq_true h1]
      rfl
  have ho : oth (inv se p) = true := by
    unfold oth
    rw [hz]
    kernel_rfl
  have hb : bodyOK (inv se p) = true := by unfold bodyOK; rw [hv, ho]; rfl
  have hn : noSerB (inv se p) = false := by unfold noSerB; rw [hz]; kernel_rfl
  unfold vc
  rw [hh, hb, hn, hz]
  rfl
theorem inv_sb {ns : List NdV} {se : Ser} (h : SerOK ns se) (p : Int) : sbOf (inv se p) = le (seBytes se).length 4 ++ seBytes se := by
  unfold sbOf
  rw [inv_nz h p]
  rfl
theorem inv_len {ns : List NdV} {se : Ser} (h : SerOK ns se) (p : Int) : (ltBytes (inv se p) (sbOf (inv se p))).length = 31 + (seBytes se).length := by
  rw [inv_sb h p]
  have e : fldsTo (inv se p) (le (seBytes se).length 4 ++ seBytes se) 17 = le 9 8 ++ le 1 8 ++ le p 8 ++ (le (seBytes se).length 4 ++ seBytes se) := by
    obtain ⟨sb, hsb⟩ : ∃ sb, le (seBytes se).length 4 ++ seBytes se = sb := ⟨_, rfl⟩
    rw [hsb]
    have u : (inv se p).kind = 1 := rfl
    have n (k : Nat) (h : usesB 1 k = false) : fldsTo (inv se p) sb (k + 1) = fldsTo (inv se p) sb k := by
      rw [fldsTo, u, h]
      simp
    have y (k : Nat) (b : List UInt8) (h : usesB 1 k = true) (hb : fldBytes (inv se p) sb k = b) : fldsTo (inv se p) sb (k + 1) = fldsTo (inv se p) sb k ++ b := by
      rw [fldsTo, u, h, hb]
      simp
    rw [n 16 (by decide), n 15 (by decide), n 14 (by decide), n 13 (by decide), n 12 (by decide), n 11 (by decide), y 10 sb (by decide) rfl, n 9 (by decide), n 8 (by decide), n 7 (by decide), n 6 (by decide), n 5 (by decide), y 4 (le p 8) (by decide) rfl, n 3 (by decide), n 2 (by decide), y 1 (le 1 8) (by decide) rfl, y 0 (le 9 8) (by decide) rfl]
    rfl
  unfold ltBytes hdBytes
  rw [e]
  simp only [List.length_append, cellBytes_length, le_length, List.length_cons, List.length_nil]
  omega
/-- What 'MadeSeries' gives, as the parts of a letter. -/
theorem made_parts {w w' : World} {ns : List NdV} {ms : List Mv} {mi ln : Int} {zv : ByteArray} {gp fo : Int} {vr vm : Value} (h : SerMade w ns ms mi ln zv gp fo vr vm w') :
    ∃ A B c d, vr = .slice A ns.length c ∧ vm = .slice B ms.length d ∧ SerOK ns ⟨ns.map (·.d), mi, ln, zv, gp, fo, ms⟩ ∧ LtMem (w.heap.size + 1) w' (inv ⟨ns.map (·.d), mi, ln, zv, gp, fo, ms⟩ 0) (invSl A B c d) ns := by
  have hn0 : ns ≠ [] := by
    intro e
    have := h.made.pos
    rw [e] at this
    exact absurd this (Nat.lt_irrefl 0)
  obtain ⟨gr, cr, rfl, _, _, _⟩ := h.rule.form hn0
  obtain ⟨B, d, rfl⟩ : ∃ B d, vm = .slice B ms.length d := by
    rcases h.moves.2 with ⟨rfl, h0⟩ | ⟨g, cap, cur, rfl, _⟩
    · exact ⟨none, 0, by rw [h0]⟩
    · exact ⟨_, _, rfl⟩
  refine ⟨_, B, cr, d, rfl, rfl, ⟨rfl, h.made, h.len, h.within, h.mok, h.mlen, h.min, h.lng, h.zone, h.gap, h.fold⟩, ⟨?_, rfl, h.moves, World.ownsRow_nil _ _ _ _⟩⟩
  show RuleIs _ _ (.slice _ (ns.map (·.d)).length cr) _
  rw [List.length_map]
  exact h.rule
end Go.Proofs.YtenbgpcdoljkgaaGreatDoor

/- kalendsref02.Known and kalendsref07.Calendars: the known calendars, made by the reference. -/
namespace Go.Proofs.YtenbgpcdoljkgaaGreatDoor
open Go Go.RowKit

set_option maxRecDepth 10000 in
set_option maxHeartbeats 1000000 in
theorem refSolar (w : World) : Calls Tryz.prog 102 #[] w fun e w' => e = .returned (.slice (some ⟨w.heap.size, 0, none⟩) 12 12) ∧ w' = w.alloc (.cells (solar.map I).toArray 3) := by
  go_enter Tryz.func102, Tryz.ntmps102
  go_wp2
  go_ret
  exact ⟨rfl, rfl⟩
theorem three (w : World) (c0 c1 c2 : Array Value) (t0 t1 t2 : TypeId) :
    (((w.alloc (.cells c0 t0)).alloc (.cells c1 t1)).alloc (.cells c2 t2)).heap[w.heap.size]? = some (.cells c0 t0 (0, 0)) ∧
    Row (((w.alloc (.cells c0 t0)).alloc (.cells c1 t1)).alloc (.cells c2 t2)) (w.heap.size + 1) c1 ∧
    Row (((w.alloc (.cells c0 t0)).alloc (.cells c1 t1)).alloc (.cells c2 t2)) (w.heap.size + 1 + 1) c2 ∧
    Below w.heap.size w (((w.alloc (.cells c0 t0)).alloc (.cells c1 t1)).alloc (.cells c2 t2)) := by
  have b0 := below_var w (.cells c0 t0)
  have b1 := below_var (w.alloc (.cells c0 t0)) (.cells c1 t1)
  have b2 := below_var ((w.alloc (.cells c0 t0)).alloc (.cells c1 t1)) (.cells c2 t2)
  have r1 := Row.new (w.alloc (.cells c0 t0)) c1 t1
  have r2 := Row.new ((w.alloc (.cells c0 t0)).alloc (.cells c1 t1)) c2 t2
  simp only [World.size_alloc] at r1 r2 b1 b2
  refine ⟨?_, r1.keep (by simpa using b2), r2, below_trans (below_trans b0 (by simpa using b1)) (by simpa using b2)⟩
  rw [b2.block _ (by omega), b1.block _ (by omega)]
  exact heap_alloc_last w _
set_option maxRecDepth 10000 in
set_option maxHeartbeats 2000000 in
theorem refKnown0 (w : World) : Calls Tryz.prog 70 #[I 0] w (KnownP cal0 w) := by
  go_enter Tryz.func70, Tryz.ntmps70
  go_wp2_with fail
  refine (refSolar _).mono ?_
  rintro e w1 ⟨rfl, rfl⟩
  go_wp2_with fail
  obtain ⟨h0, r1, r2, hb⟩ := three w #[I 7, .slice (some ⟨w.heap.size + 1, 0, none⟩) 12 12, I 1, .slice (some ⟨w.heap.size + 1 + 1, 0, none⟩) 3 3] (solar.map I).toArray (cal0.rules.flatMap Lr.cells).toArray 106 3 155
  refine bodyPost_ret (v := .tuple #[.agg (calCells cal0 (some ⟨w.heap.size + 1, 0, none⟩) 12 (some ⟨w.heap.size + 1 + 1, 0, none⟩) 3), I 0]) (results_row_tmp rfl _ _ w.heap.size _ #[I 7, .slice (some ⟨w.heap.size + 1, 0, none⟩) 12 12, I 1, .slice (some ⟨w.heap.size + 1 + 1, 0, none⟩) 3 3] (0, 0) _ rfl h0 Tryz.underlying106 rfl (cal_size _ _ _ _ _ _ _ _) _ rfl) rfl ?_
  exact ⟨_, _, _, _, rfl, ints_of_row r1 rfl (by omega), lrs_of_row r2 rfl (by omega), hb⟩
set_option maxRecDepth 10000 in
set_option maxHeartbeats 2000000 in
theorem refKnown1 (w : World) : Calls Tryz.prog 70 #[I 1] w (KnownP cal1 w) := by
  go_enter Tryz.func70, Tryz.ntmps70
  go_wp2_with fail
  refine (refSolar _).mono ?_
  rintro e w1 ⟨rfl, rfl⟩
  go_wp2_with fail
  obtain ⟨h0, r1, r2, hb⟩ := three w #[I 5, .slice (some ⟨w.heap.size + 1, 0, none⟩) 12 12, I 1, .slice (some ⟨w.heap.size + 1 + 1, 0, none⟩) 1 1] (solar.map I).toArray (cal1.rules.flatMap Lr.cells).toArray 106 3 155
  refine bodyPost_ret (v := .tuple #[.agg (calCells cal1 (some ⟨w.heap.size + 1, 0, none⟩) 12 (some ⟨w.heap.size + 1 + 1, 0, none⟩) 1), I 0]) (results_row_tmp rfl _ _ w.heap.size _ #[I 5, .slice (some ⟨w.heap.size + 1, 0, none⟩) 12 12, I 1, .slice (some ⟨w.heap.size + 1 + 1, 0, none⟩) 1 1] (0, 0) _ rfl h0 Tryz.underlying106 rfl (cal_size _ _ _ _ _ _ _ _) _ rfl) rfl ?_
  exact ⟨_, _, _, _, rfl, ints_of_row r1 rfl (by omega), lrs_of_row r2 rfl (by omega), hb⟩
/-- The third calendar under way: the result, the months, the variable, the rests; the rules in a row of their own. -/
structure KR (w : World) (B : Option Addr) (m cb : Nat) (rs : List Lr) (W : World) : Prop where
  res : W.heap[w.heap.size]? = some (.cells zCal 106 (0, 0))
  mon : W.heap[w.heap.size + 1]? = some (.cells (lunar.map I).toArray 3 (0, 0))
  var : W.heap[w.heap.size + 2]? = some (.cells (vCal (some ⟨w.heap.size + 1, 0, none⟩) 12 12 B m cb) 106 (0, 0))
  lit : W.heap[w.heap.size + 3]? = some (.cells (rests.map I).toArray 3 (0, 0))
  own : W.ownsRow (w.heap.size + 4) 155 3 (.slice B m cb) m (rs.flatMap Lr.cells)
  lo : Below w.heap.size w W
  sz : w.heap.size + 4 ≤ W.heap.size
theorem KR.grown {w W w' : World} {m cb g cap : Nat} {B : Option Addr} {rs : List Lr} {z : Lr} {o : Obj} (h : KR w B m cb rs W) (hown : w'.ownsRow (w.heap.size + 4) 155 3 (.slice (some ⟨g, 0, none⟩) (m + 1) cap) (m + 1) (rs.flatMap Lr.cells ++ z.cells)) (hg : (W.drew.alloc o).grownBy w' (Value.slice B m cb).ownBlock) :
    KR w (some ⟨g, 0, none⟩) (m + 1) cap (rs ++ [z]) (w'.setCell ⟨w.heap.size + 2, 3, none⟩ (.slice (some ⟨g, 0, none⟩) (m + 1) cap)) ∧ w'.heap[w.heap.size + 2]? = some (.cells (vCal (some ⟨w.heap.size + 1, 0, none⟩) 12 12 B m cb) 106 (0, 0)) := by
  have hs := h.sz
  have hB : ∀ k, k < w.heap.size + 4 → w'.heap[k]? = W.heap[k]? := fun k hk => grown_old (W := W.drew) h.own hg k (by show k < W.heap.size; omega) hk
  have hv := (hB (w.heap.size + 2) (by omega)).trans h.var
  have hlo : Below w.heap.size w w' := ⟨hg.os.trans h.lo.os, hg.tape.trans h.lo.tape, hg.output.trans h.lo.output, by have := hg.size; simp at this; omega, fun k hk => (hB k (by omega)).trans (h.lo.block k hk)⟩
  have hne : ∀ k, k ≠ w.heap.size + 2 → k < w.heap.size + 4 → (w'.setCell ⟨w.heap.size + 2, 3, none⟩ (.slice (some ⟨g, 0, none⟩) (m + 1) cap)).heap[k]? = W.heap[k]? := fun k hk hb => (heap_setCell_other w' _ _ _ hk).trans (hB k hb)
  refine ⟨⟨(hne _ (by omega) (by omega)).trans h.res, (hne _ (by omega) (by omega)).trans h.mon, heap_setCell_same w' _ 3 _ _ _ hv, (hne _ (by omega) (by omega)).trans h.lit, ?_, hlo.setCell (p := ⟨w.heap.size + 2, 3, none⟩) (by show w.heap.size ≤ w.heap.size + 2; omega) _, ?_⟩, hv⟩
  · rw [List.flatMap_append, List.flatMap_cons, List.flatMap_nil, List.append_nil]
    exact ownsRow_setCell_below (a := ⟨w.heap.size + 2, 3, none⟩) hown (by show w.heap.size + 2 < _; omega) _
  · have := hg.size; simp [World.setCell] at this ⊢; omega
theorem KR.done {w wr : World} {B : Option Addr} {cb : Nat} (HK : KR w B 11 cb cal2.rules wr) :
    LI w.heap.size (wr.setRow w.heap.size (vCal (some ⟨w.heap.size + 1, 0, none⟩) 12 12 B 11 cb)) (some ⟨w.heap.size + 1, 0, none⟩) cal2.months ∧
    LL w.heap.size (wr.setRow w.heap.size (vCal (some ⟨w.heap.size + 1, 0, none⟩) 12 12 B 11 cb)) B cal2.rules ∧
    Below w.heap.size w (wr.setRow w.heap.size (vCal (some ⟨w.heap.size + 1, 0, none⟩) 12 12 B 11 cb)) := by
  have hs' := HK.sz
  have hmb := (setRow_other wr w.heap.size (w.heap.size + 1) (vCal (some ⟨w.heap.size + 1, 0, none⟩) 12 12 B 11 cb) (by omega)).trans HK.mon
  have hsz' : (wr.setRow w.heap.size (vCal (some ⟨w.heap.size + 1, 0, none⟩) 12 12 B 11 cb)).heap.size = wr.heap.size := by simp [World.setRow]
  refine ⟨.inr ⟨w.heap.size + 1, 0, rfl, by omega, by omega, fun j hj => ?_⟩, ?_, below_setRow HK.lo (Nat.le_refl _) _⟩
  · rw [cell_of_row _ (w.heap.size + 1) _ _ _ _ hmb, Nat.zero_add]
    show (lunar.map I).toArray[j]? = some (I (lunar[j]?.getD 0))
    rw [List.getElem?_toArray, List.getElem?_map, List.getElem?_eq_getElem (show j < lunar.length from hj)]
    rfl
  · obtain ⟨_, ⟨_, h⟩ | ⟨g, cap, cur, hv, hg, hb, _, _, _, h4⟩⟩ := HK.own
    · cases h
    · injection hv with hv _ _
      have hg' := (setRow_other wr w.heap.size g (vCal (some ⟨w.heap.size + 1, 0, none⟩) 12 12 B 11 cb) (by omega)).trans hb
      refine .inr ⟨g, hv, by omega, by rw [hsz']; exact (Array.getElem?_eq_some_iff.1 hb).1, fun k x hx j v hj => ?_⟩
      have h5 : j < 3 := (List.getElem?_eq_some_iff.1 hj).1
      rw [cell_of_row _ g _ _ _ _ hg']
      have h6 : (cal2.rules.flatMap Lr.cells)[k * 3 + j]? = some v := by rw [lrs_get _ k j h5, hx]; exact hj
      rw [← h4, List.getElem?_take] at h6
      split at h6
      · simpa using h6
      · cases h6
theorem four4 (w : World) : KR w none 0 0 [] ((((w.alloc (.cells zCal 106)).alloc (.cells (lunar.map I).toArray 3)).alloc (.cells (vCal (some ⟨w.heap.size + 1, 0, none⟩) 12 12 none 0 0) 106)).alloc (.cells (rests.map I).toArray 3)) := by
  have b0 := below_var w (.cells zCal 106)
  obtain ⟨h0, r1, r2, hb⟩ := three w zCal (lunar.map I).toArray (vCal (some ⟨w.heap.size + 1, 0, none⟩) 12 12 none 0 0) 106 3 106
  have h1 := heap_alloc_last (w.alloc (.cells zCal 106)) (.cells (lunar.map I).toArray 3)
  have h2 := heap_alloc_last ((w.alloc (.cells zCal 106)).alloc (.cells (lunar.map I).toArray 3)) (.cells (vCal (some ⟨w.heap.size + 1, 0, none⟩) 12 12 none 0 0) 106)
  have b2 := below_var ((w.alloc (.cells zCal 106)).alloc (.cells (lunar.map I).toArray 3)) (.cells (vCal (some ⟨w.heap.size + 1, 0, none⟩) 12 12 none 0 0) 106)
  obtain ⟨W3, hW3⟩ : ∃ W, ((w.alloc (.cells zCal 106)).alloc (.cells (lunar.map I).toArray 3)).alloc (.cells (vCal (some ⟨w.heap.size + 1, 0, none⟩) 12 12 none 0 0) 106) = W := ⟨_, rfl⟩
  have hs3 : W3.heap.size = w.heap.size + 3 := by rw [← hW3]; simp
  have h1' : W3.heap[w.heap.size + 1]? = some (.cells (lunar.map I).toArray 3 (0, 0)) := by
    rw [← hW3, b2.block _ (by simp)]
    simpa using h1
  have h2' : W3.heap[w.heap.size + 2]? = some (.cells (vCal (some ⟨w.heap.size + 1, 0, none⟩) 12 12 none 0 0) 106 (0, 0)) := by
    rw [← hW3]
    simpa using h2
  rw [hW3] at h0 hb ⊢
  have b3 := below_var W3 (.cells (rests.map I).toArray 3)
  have h3 := heap_alloc_last W3 (.cells (rests.map I).toArray 3)
  rw [hs3] at h3
  exact ⟨(b3.block _ (by omega)).trans h0, (b3.block _ (by omega)).trans h1', (b3.block _ (by omega)).trans h2', h3, World.ownsRow_nil _ _ _ _, below_trans hb b3, by simp [hs3]⟩
attribute [local go_sem] vCal zCal
set_option maxRecDepth 10000 in
set_option maxHeartbeats 4000000 in
theorem refKnown2 (w : World) : Calls Tryz.prog 70 #[I 2] w (KnownP cal2 w) := by
  have HK0 := Lib.hid (four4 w)
  obtain ⟨i0, hi, hz0, hz1, hz2⟩ := info_parts info_lr
  have HI := Lib.hid hi
  have HZ0 := Lib.hid hz0
  have HZ1 := Lib.hid hz1
  have HZ2 := Lib.hid hz2
  clear hi hz0 hz1 hz2
  go_enter Tryz.func70, Tryz.ntmps70
  go_wp2_with fail
  go_loopw [6] (fun i wr => ∃ (m : Nat) (B : Option Addr) (cb : Nat), m ≤ 11 ∧ i = I m ∧ KR w B m cb ((rests.take m).map fun r => ⟨30, r, true⟩) wr) (fun i _ => 11 - (intOf i).toNat)
  case atStart => exact ⟨0, none, 0, by omega, rfl, HK0.out⟩
  case round =>
    obtain ⟨m, B, cb, hm, rfl, hks⟩ := hrel
    have HK := Lib.hid hks
    have c1 : ∀ i, wr.cell? ⟨w.heap.size + 1 + 1, i, none⟩ = (vCal (some ⟨w.heap.size + 1, 0, none⟩) 12 12 B m cb)[i]? := fun i => cell_of_row wr _ i _ _ _ hks.var
    clear hks HK0
    by_cases hlt : (m : Int) < 11
    · have hsz := HK.out.sz
      have i0 : (0 : Int) ≤ (m : Int) := by omega
      obtain ⟨r, hr⟩ : ∃ r, rests[m]?.getD 0 = r := ⟨_, rfl⟩
      have c2 : wr.cell? ⟨w.heap.size + 1 + 1 + 1, m, none⟩ = some (I r) := by
        have := cell_of_row wr _ m _ _ _ HK.out.lit
        rw [show w.heap.size + 1 + 1 + 1 = w.heap.size + 3 by omega, this, ← hr]
        have : m < rests.length := by show m < 11; omega
        simp [this]
      have HRR := Lib.hid hr
      clear hr
      have hv0 : w.heap.size + 1 + 1 < wr.heap.size := by omega
      have c3 : ∀ (o : Obj) (i : Nat), (wr.alloc o).cell? ⟨w.heap.size + 1 + 1, i, none⟩ = (vCal (some ⟨w.heap.size + 1, 0, none⟩) 12 12 B m cb)[i]? := fun o i => ((below_var wr o).cell (p := ⟨w.heap.size + 1 + 1, i, none⟩) hv0).trans (c1 i)
      clear hv0
      go_wp2_with fail
      go_region_law ((refine step_append_lies _ (by rfl) _ _ _ (by rfl) (w.heap.size + 4) 155 _ _ 3 24 Tryz.underlying104 HI.out HZ0.out HZ1.out HZ2.out rfl (by omega) _ m _ (by rfl) (HK.out.own.drew.alloc _) ⟨wr.heap.size, 0, none⟩ 1 1 (Lr.cells ⟨30, r, true⟩) (by rfl) rfl (lr_new (w := wr.drew) ⟨30, r, true⟩) (lr_ok _) (by omega) (by unfold maxLen; omega) (by omega) (by simp; omega) _ rfl ?_; intro gg cap w4 hown hgrow hat hltg; obtain ⟨hk4, hv4⟩ := HK.out.grown hown hgrow; have HK4 := Lib.hid hk4; have c4 : ∀ i, w4.cell? ⟨w.heap.size + 1 + 1, i, none⟩ = (vCal (some ⟨w.heap.size + 1, 0, none⟩) 12 12 B m cb)[i]? := fun i => cell_of_row w4 _ i _ _ _ hv4; have f4 : ∀ i, w4.frozen? ⟨w.heap.size + 1 + 1, i, none⟩ = false := fun i => frozen_of_row w4 _ i _ _ hv4; clear hown hgrow hat hltg hk4 hv4 c1 c3))
      all_goals
        go_wp2_with fail
        go_roundw
        case rel => exact ⟨m + 1, some ⟨gg, 0, none⟩, cap, by omega, by go_num, by rw [take_succ_get rests m (by show m < 11; omega), HRR.out, List.map_append]; exact HK4.out⟩
        case measure => simp [intOf]; omega
    · have hm11 : m = 11 := by omega
      subst hm11
      go_wp2_with (with_reducible refine g_store 106 ?_; refine wpList_store_row rfl _ _ _ rfl w.heap.size (vCal (some ⟨w.heap.size + 1, 0, none⟩) 12 12 B 11 cb) rfl rfl 106 zCal HK.out.res (vCal_size _ _ _ _ _ _) (zvCal _ _ _ _ _ _) (vCal_one _ _ _ _ _ _) ?_)
      refine bodyPost_ret (v := .tuple #[.agg (calCells cal2 (some ⟨w.heap.size + 1, 0, none⟩) 12 B cb), I 0]) (results_row_tmp rfl _ _ w.heap.size _ (vCal (some ⟨w.heap.size + 1, 0, none⟩) 12 12 B 11 cb) (0, 0) _ rfl (setRow_heap _ _ _ _ _ _ HK.out.res) Tryz.underlying106 rfl (vCal_size _ _ _ _ _ _) _ rfl) rfl ?_
      obtain ⟨e1, e2, e3⟩ := HK.out.done
      exact ⟨_, _, _, _, rfl, e1, e2, e3⟩
theorem refKnown_any (k : Nat) (hk : k < 3) (w : World) : ∃ c, CalOK c ∧ Calls Tryz.prog 70 #[I k] w (KnownP c w) := by
  have h : k = 0 ∨ k = 1 ∨ k = 2 := by omega
  rcases h with rfl | rfl | rfl
  · exact ⟨cal0, cal0_ok, refKnown0 w⟩
  · exact ⟨cal1, cal1_ok, refKnown1 w⟩
  · exact ⟨cal2, cal2_ok, refKnown2 w⟩
/-- A calendar's lists, in memory that is not older than block lo, beside block ob. -/
structure CalIn (lo : Nat) (W : World) (ob : Option Nat) (x : CalV) : Prop where
  a : x.c.months.length = 0 ∨ ∃ b off, x.A = some ⟨b, off, none⟩ ∧ lo ≤ b ∧ b < W.heap.size ∧ some b ≠ ob ∧ ∀ j, j < x.c.months.length → W.cell? ⟨b, off + j, none⟩ = some (I (x.c.months[j]?.getD 0))
  b : x.c.rules.length = 0 ∨ ∃ b, x.B = some ⟨b, 0, none⟩ ∧ lo ≤ b ∧ b < W.heap.size ∧ some b ≠ ob ∧ ∀ k y, x.c.rules[k]? = some y → W.rangeAt b (k * 3) y.cells
  ok : CalOK x.c
theorem CalIn.of {lo lo' : Nat} {W : World} {ob : Option Nat} {x : CalV} (h1 : LI lo W x.A x.c.months) (h2 : LL lo W x.B x.c.rules) (h3 : CalOK x.c) (hl : lo' ≤ lo) (ho : ∀ b, lo ≤ b → b < W.heap.size → some b ≠ ob) : CalIn lo' W ob x := by
  refine ⟨?_, ?_, h3⟩
  · rcases h1 with h | ⟨b, off, e, p, q, hc⟩
    · exact .inl h
    · exact .inr ⟨b, off, e, by omega, q, ho b p q, hc⟩
  · rcases h2 with h | ⟨b, e, p, q, hc⟩
    · exact .inl h
    · exact .inr ⟨b, e, by omega, q, ho b p q, hc⟩
theorem CalIn.next {lo : Nat} {W W' : World} {ob ob' : Option Nat} {x : CalV} (h : CalIn lo W ob x) (hs : W.heap.size ≤ W'.heap.size) (hb : ∀ k, k < W.heap.size → some k ≠ ob → W'.heap[k]? = W.heap[k]?) (ho : ∀ k, k < W.heap.size → some k ≠ ob → some k ≠ ob') : CalIn lo W' ob' x := by
  refine ⟨?_, ?_, h.ok⟩
  · rcases h.a with h | ⟨b, off, e, p, q, r, hc⟩
    · exact .inl h
    · exact .inr ⟨b, off, e, p, by omega, ho b q r, fun j hj => (World.cell?_of_block (a := ⟨b, off + j, none⟩) (hb b q r)).trans (hc j hj)⟩
  · rcases h.b with h | ⟨b, e, p, q, r, hc⟩
    · exact .inl h
    · exact .inr ⟨b, e, p, by omega, ho b q r, fun k y hy j v hj => (World.cell?_of_block (a := ⟨b, k * 3 + j, none⟩) (hb b q r)).trans (hc k y hy j v hj)⟩
theorem CalIn.ints {lo : Nat} {W : World} {ob : Option Nat} {x : CalV} (h : CalIn lo W ob x) : IntsAt W W.heap.size x.A x.c.months := by
  rcases h.a with h | ⟨b, off, e, p, q, r, hc⟩
  · exact .inl h
  · exact .inr ⟨b, off, e, q, hc⟩
theorem CalIn.lrs {lo : Nat} {W : World} {ob : Option Nat} {x : CalV} (h : CalIn lo W ob x) : LrsAt W W.heap.size x.B x.c.rules := by
  rcases h.b with h | ⟨b, e, p, q, r, hc⟩
  · exact .inl h
  · exact .inr ⟨b, e, q, hc⟩
/-- The calendars under way: a row of their own. -/
structure RC (w : World) (k : Nat) (xs : List CalV) (A : Option Addr) (cap : Nat) (W : World) : Prop where
  own : W.ownsRow w.heap.size 106 4 (.slice A k cap) k (xs.flatMap CalV.cells)
  len : xs.length = k
  mem : ∀ x ∈ xs, CalIn w.heap.size W (Value.slice A k cap).ownBlock x
  lo : Below w.heap.size w W
theorem cal_new {w : World} {t : TypeId} (x : CalV) : ∀ j u, x.cells[j]? = some u → (w.alloc (.cells x.cells.toArray t)).cell? ((⟨w.heap.size, 0, none⟩ : Addr).add j) = some u := by
  intro j u hu
  rw [addr_add, (Row.new w _ t).2 j]
  simpa using hu
theorem cal_one (x : CalV) : ∀ u ∈ x.cells, u.oneCell' = true := by
  intro u hu
  simp [CalV.cells, calCells] at hu
  rcases hu with rfl | rfl | rfl | rfl <;> rfl
theorem info_cal : (Tryz.prog.info? 106).map (fun i => (i.zero, i.size, i.bytes)) = some (some (.agg zCal), 4, 64) := by kernel_rfl
/-- append of one calendar to a row of the call's own. -/
theorem wpList_app_cal {ops : Array Oper} {rest : List Oper} {o : Oper} {a : Act} {Q : Exit → Act → World → Prop} {w : World} (hgd : o.guard = none) (s x : Operand)
    (ho : o.op = .call { callee := .builtin .append, args := #[s, x], argTypes := #[63, 63] }) (base : Nat) (v : Value) (n : Nat) (xs : List Value) (hs : a.eval s = v) (hown : w.ownsRow base 106 4 v n xs) (z : CalV) (H : Nat) (hH : w.heap.size = H)
    (hx : a.eval x = .slice (some ⟨H, 0, none⟩) 1 1) (hn : n ≤ 1000000) (hb : base ≤ w.heap.size)
    (h : ∀ v' w', w'.ownsRow base 106 4 v' (n + 1) (xs ++ z.cells) → (w.alloc (.cells z.cells.toArray 106)).grownBy w' v.ownBlock → (v'.ownBlock = v.ownBlock ∨ v'.ownBlock = some (w.heap.size + 1)) → wpList Tryz.prog ops Q rest (a.put o.dst v') w') :
    wpList Tryz.prog ops Q (o :: rest) a (w.alloc (.cells z.cells.toArray 106)) := by
  subst hH
  obtain ⟨i0, hi, hz0, hz1, hz2⟩ := info_parts info_cal
  refine wpList_append_own_at _ hgd s x 63 ho base 106 i0 _ 4 64 Tryz.underlying63 hi hz0 hz1 hz2 rfl (by decide) v n xs hs (hown.alloc _) ⟨w.heap.size, 0, none⟩ 1 1 z.cells hx rfl (cal_new z) (cal_one z) (by unfold maxLen; omega) (by omega) (by simp; omega) (fun v' w' h1 h2 _ h4 => h v' w' h1 h2 (by simpa using h4))
theorem RC.own2 {w wr w2 : World} {k cap : Nat} {xs : List CalV} {A : Option Addr} {o : Obj} (h : RC w k xs A cap wr) (hb2 : Below wr.heap.size wr w2) : (w2.alloc o).ownsRow w.heap.size 106 4 (.slice A k cap) k (xs.flatMap CalV.cells) :=
  (ownsRow_blocks h.own fun q _ hq => hb2.block q hq).alloc _
theorem RC.le2 {w wr w2 : World} {k cap : Nat} {xs : List CalV} {A : Option Addr} {o : Obj} (h : RC w k xs A cap wr) (hb2 : Below wr.heap.size wr w2) : w.heap.size ≤ (w2.alloc o).heap.size := by
  have := h.lo.size
  have := hb2.size
  simp
  omega
theorem RC.grown {w wr w2 w4 : World} {k cap : Nat} {xs : List CalV} {A : Option Addr} {x : CalV} {v' : Value} {o o' : Obj} (h : RC w k xs A cap wr) (hb2 : Below wr.heap.size wr w2) (hA : LI wr.heap.size w2 x.A x.c.months) (hB : LL wr.heap.size w2 x.B x.c.rules) (hok : CalOK x.c)
    (hown : w4.ownsRow w.heap.size 106 4 v' (k + 1) (xs.flatMap CalV.cells ++ x.cells)) (hg : ((w2.alloc o).alloc o').grownBy w4 (Value.slice A k cap).ownBlock) (hat : v'.ownBlock = (Value.slice A k cap).ownBlock ∨ v'.ownBlock = some (w2.heap.size + 1 + 1)) :
    ∃ A' cap', v' = .slice A' (k + 1) cap' ∧ RC w (k + 1) (xs ++ [x]) A' cap' w4 := by
  obtain ⟨g, cap', rfl⟩ := ownsRow_succ hown
  have hlt := own_lt h.own
  have hsz := hb2.size
  have hlo := h.lo.size
  have hs4 : w2.heap.size + 2 ≤ w4.heap.size := by have := hg.size; simp at this; omega
  have hB4 : ∀ q, q < w2.heap.size → some q ≠ (Value.slice A k cap).ownBlock → w4.heap[q]? = w2.heap[q]? := fun q hq hn => by
    rw [hg.block q (by simp; omega) hn, Below.heap_alloc _ _ q (by simp; omega), Below.heap_alloc _ _ q hq]
  have hno : ∀ q, q < w2.heap.size → some q ≠ (Value.slice A k cap).ownBlock → some q ≠ (Value.slice (some ⟨g, 0, none⟩) (k + 1) cap').ownBlock := fun q hq hn => by
    rcases hat with e | e
    · intro e2; exact hn (e2.trans e)
    · intro e2
      have := e2.trans e
      simp at this
      omega
  refine ⟨_, cap', rfl, ⟨?_, by rw [List.length_append, h.len]; rfl, fun y hy => ?_, ?_⟩⟩
  · rw [List.flatMap_append, List.flatMap_cons, List.flatMap_nil, List.append_nil]
    exact hown
  · rcases List.mem_append.1 hy with hy | hy
    · have h1 := (h.mem y hy).next (W' := w2) (ob' := (Value.slice A k cap).ownBlock) hsz (fun q hq _ => hb2.block q hq) (fun _ _ h => h)
      exact h1.next (by omega) hB4 hno
    · rw [List.mem_singleton.1 hy]
      have h1 : CalIn w.heap.size w2 (Value.slice A k cap).ownBlock x := CalIn.of hA hB hok hlo fun b hb _ e => by have := hlt b e.symm; omega
      exact h1.next (by omega) hB4 hno
  · refine (h.lo.trans (hb2.mono hlo)).trans ⟨hg.os, hg.tape, hg.output, by omega, fun q hq => ?_⟩
    have hq2 : q < w2.heap.size := by omega
    exact hB4 q hq2 (own_ge h.own q hq)
theorem RC.done {w W : World} {xs : List CalV} {A : Option Addr} {cap : Nat} (h : RC w 3 xs A cap W) : ∃ cb cc xs', Ending.returned (.slice A 3 cap) = .returned (.slice (some ⟨cb, 0, none⟩) 3 cc) ∧ CalsAt W W.heap.size cb xs' ∧ Below w.heap.size w W := by
  obtain ⟨_, ⟨_, h0⟩ | ⟨g, cap', cur, hv, hg, hb, _, _, _, h4⟩⟩ := h.own
  · cases h0
  · injection hv with hv _ hc
    subst hv hc
    refine ⟨g, _, xs, rfl, ⟨h.len, (Array.getElem?_eq_some_iff.1 hb).1, fun k x hx => ⟨fun j v hv => ?_, (h.mem x (List.mem_of_getElem? hx)).ints, (h.mem x (List.mem_of_getElem? hx)).lrs, (h.mem x (List.mem_of_getElem? hx)).ok⟩⟩, h.lo⟩
    have hj : j < 4 := (List.getElem?_eq_some_iff.1 hv).1
    rw [cell_of_row _ g _ _ _ _ hb]
    have h6 : (xs.flatMap CalV.cells)[k * 4 + j]? = some v := by rw [flat_get xs k j hj, hx]; exact hv
    rw [← h4, List.getElem?_take] at h6
    split at h6
    · simpa using h6
    · cases h6
set_option maxRecDepth 10000 in
set_option maxHeartbeats 2000000 in
theorem refCalendars (w : World) : Calls Tryz.prog 23 #[] w fun e w' => ∃ cb cc xs, e = .returned (.slice (some ⟨cb, 0, none⟩) 3 cc) ∧ CalsAt w' w'.heap.size cb xs ∧ Below w.heap.size w w' := by
  have HC0 : Hid (RC w 0 [] none 0 w) := Lib.hid ⟨World.ownsRow_nil _ _ _ _, rfl, (fun x hx => nomatch hx), Below.refl _ _⟩
  go_enter Tryz.func23, Tryz.ntmps23
  go_wp2_with fail
  go_loopw [1, 2] (fun v i wr => ∃ (k : Nat) (xs : List CalV) (A : Option Addr) (cap : Nat), k ≤ 3 ∧ v = .slice A k cap ∧ i = I k ∧ RC w k xs A cap wr) (fun _ i _ => 3 - (intOf i).toNat)
  case atStart => exact ⟨0, [], none, 0, by omega, rfl, rfl, HC0.out⟩
  case round =>
    obtain ⟨k, xs, A, cap, hk, rfl, rfl, hrc⟩ := hrel
    have HR := Lib.hid hrc
    clear hrc HC0
    by_cases hlt : (k : Int) < 3
    · obtain ⟨cc, hok, hkn⟩ := refKnown_any k (by omega) wr
      have HOK := Lib.hid hok
      have HKN := Lib.hid hkn
      clear hok hkn
      go_wp2_with fail
      refine HKN.out.mono ?_
      rintro e w2 ⟨A2, ca, B, cb, rfl, hA, hB, hb2⟩
      have HA := Lib.hid hA
      have HB := Lib.hid hB
      have HB2 := Lib.hid hb2
      have e0 : calCells cc A2 ca B cb = #[I cc.epoch, .slice A2 cc.months.length ca, I cc.leap, .slice B cc.rules.length cb] := rfl
      rw [e0]
      clear hA hB hb2 e0
      go_wp2_with (at_builtin; refine wpList_app_cal rfl _ _ rfl w.heap.size (.slice A k cap) k _ rfl (HR.out.own2 HB2.out) ⟨cc, A2, ca, B, cb⟩ _ (World.size_alloc _ _) rfl (by omega) (HR.out.le2 HB2.out) ?_)
      intro v' w4 hown hgrow hat
      obtain ⟨A', cap', rfl, hr⟩ := HR.out.grown (x := ⟨cc, A2, ca, B, cb⟩) HB2.out HA.out HB.out HOK.out hown hgrow hat
      have HR4 := Lib.hid hr
      clear hown hgrow hat hr
      go_wp2_with fail
      go_roundw
      case rel => exact ⟨k + 1, _, A', cap', by omega, rfl, by go_num, HR4.out⟩
      case measure => simp [intOf]; omega
    · go_wp2_with fail
      go_ret
      have hk3 : k = 3 := by omega
      subst hk3
      obtain ⟨cb, cc, xs', e1, e2, e3⟩ := HR.out.done
      exact ⟨cb, ⟨cc, e1⟩, ⟨xs', e2⟩, e3⟩
end Go.Proofs.YtenbgpcdoljkgaaGreatDoor

/- LetterSeries: what the library answers of a made series in memory; the law's variables. -/
namespace Go.Proofs.YtenbgpcdoljkgaaGreatDoor
open Go Go.RowKit

section
variable {w : World} {lo : Nat} {s : Sl} {ns : List NdV} {se : Ser}
theorem sval_eq : serVal (inv se 0) s = .agg #[.slice s.A se.rule.length s.c, I se.minute, I se.length, .string se.zone, I se.gap, I se.fold, .slice s.B se.moves.length s.d] := rfl
theorem sbytes_made (h : SerOK ns se) (hm : LtMem lo w (inv se 0) s ns) (hlo : 0 < lo) : Calls Tryz.prog 20 #[.agg #[.slice s.A se.rule.length s.c, I se.minute, I se.length, .string se.zone, I se.gap, I se.fold, .slice s.B se.moves.length s.d]] w (SbPost w (seBytes se)) := by
  have hl := inv_made h
  have hlen := hl.lens
  have hA : RulesAt w w.heap.size s.A ns := hm.rules hlen.2.2.2
  have hB : MovesAt w w.heap.size s.B se.moves := hm.mvs
  have hn : ns.length = se.rule.length := by rw [h.names, List.length_map]
  have hf : ∀ d ∈ se.rule, NdFit d := by rw [h.names]; exact rule_fits h.rulesOK
  have h16 : se.rule.length ≤ 16 := hlen.1
  have h64 : se.rule.length ≤ 64 := by omega
  have hs : ∀ w', Below w.heap.size w w' → Calls Tryz.prog 62 #[.agg #[.slice s.A se.rule.length s.c, I se.minute, I se.length, .string se.zone, I se.gap, I se.fold, .slice s.B se.moves.length s.d]] w' (Gives (.bool true) w') := fun w' hb => by
    rw [← sval_eq]
    exact sound_made hl h (hm.grow hb hlo)
  exact sbytes_any se s.A s.B s.c s.d se.rule.length se.moves.length ns w hA hn h.names hf h64 hB rfl h.good hs
theorem sval_made (h : SerOK ns se) (hm : LtMem lo w (inv se 0) s ns) {cb cc : Nat} {xs : List CalV} (hc : CalsAt w w.heap.size cb xs) : Calls Tryz.prog 22 #[.agg #[.slice s.A se.rule.length s.c, I se.minute, I se.length, .string se.zone, I se.gap, I se.fold, .slice s.B se.moves.length s.d], .slice (some ⟨cb, 0, none⟩) 3 cc] w (Gives (I 0) w) := by
  have hlen := (inv_made h).lens
  have hA : RulesAt w w.heap.size s.A ns := hm.rules hlen.2.2.2
  have hB : MovesAt w w.heap.size s.B se.moves := hm.mvs
  have hn : ns.length = se.rule.length := by rw [h.names, List.length_map]
  exact seriesValid_yes se s.A s.B s.c s.d se.rule.length se.moves.length cb cc ns xs w hA hn h.rulesOK hB rfl h.good hc
theorem fmt_made (h : SerOK ns se) (hm : LtMem lo w (inv se 0) s ns) (ht : Tab10 w.heap.size w) : Calls Tryz.prog 21 #[.slice s.A se.rule.length s.c] w (Gives (.tuple #[.string ⟨(rlTxt se.rule).toArray⟩, I 0]) w) := by
  have hlen := (inv_made h).lens
  have hp := h.made.pos
  obtain ⟨m, hm1⟩ : ∃ m, ns.length = m + 1 := ⟨ns.length - 1, by omega⟩
  have e : se.rule.length = m + 1 := by rw [h.names, List.length_map, hm1]
  rw [e, h.names]
  exact format_any ns s.A m s.c w (hm.rules hlen.2.2.2) hm1 h.rulesOK ht (rlTxt_ne _ (by rw [List.length_map]; exact hp)) (rlTxt_len h.made h.len)
end
/-- The law's variables: the series, the letter, the letter that came back; the two series' memories. -/
structure LV (w : World) (sb lb : Nat) (se : Ser) (p : Int) (s : Sl) (ns : List NdV) (lo : Nat) (W : World) : Prop where
  sv : Row W sb #[.slice s.A se.rule.length s.c, I se.minute, I se.length, .string se.zone, I se.gap, I se.fold, .slice s.B se.moves.length s.d]
  lv : Row W lb (ltVal (inv se p) s)
  mem : LtMem lo W (inv se 0) s ns
  pos : 0 < lo
  tab : Tab10 w.heap.size W
  up : Below w.heap.size w W
structure LB (w : World) (sb lb bb : Nat) (se : Ser) (p : Int) (s t : Sl) (ns ms : List NdV) (lo lo2 : Nat) (W : World) : Prop where
  lv : LV w sb lb se p s ns lo W
  bv : Row W bb (ltVal (inv se p) t)
  mem : LtMem lo2 W (inv se 0) t ms
  pos : 0 < lo2
section
variable {w W W' : World} {sb lb bb lo lo2 : Nat} {se : Ser} {p : Int} {s t : Sl} {ns ms : List NdV}
theorem LV.below (h : LV w sb lb se p s ns lo W) (hb : Below W.heap.size W W') : LV w sb lb se p s ns lo W' :=
  ⟨h.sv.keep hb, h.lv.keep hb, h.mem.grow hb h.pos, h.pos, h.tab.keep (hb.mono h.up.size), below_trans h.up hb⟩
theorem LV.tabs (h : LV w sb lb se p s ns lo W) : Tab10 W.heap.size W := h.tab.more h.up.size
theorem LB.below (h : LB w sb lb bb se p s t ns ms lo lo2 W) (hb : Below W.heap.size W W') : LB w sb lb bb se p s t ns ms lo lo2 W' :=
  ⟨h.lv.below hb, h.bv.keep hb, h.mem.grow hb h.pos, h.pos⟩
theorem LB.cells (h : LB w sb lb bb se p s t ns ms lo lo2 W) : W.cell? ⟨bb, 17, none⟩ = some (.slice t.A se.rule.length t.c) ∧ W.cell? ⟨bb, 18, none⟩ = some (I se.minute) ∧ W.cell? ⟨bb, 19, none⟩ = some (I se.length) ∧ W.cell? ⟨bb, 20, none⟩ = some (.string se.zone) ∧ W.cell? ⟨bb, 21, none⟩ = some (I se.gap) ∧ W.cell? ⟨bb, 22, none⟩ = some (I se.fold) ∧ W.cell? ⟨bb, 23, none⟩ = some (.slice t.B se.moves.length t.d) :=
  ⟨h.bv.2 17, h.bv.2 18, h.bv.2 19, h.bv.2 20, h.bv.2 21, h.bv.2 22, h.bv.2 23⟩
theorem LB.names (h : LB w sb lb bb se p s t ns ms lo lo2 W) (ho : SerOK ns se) : SerOK ms se := ho.swap (h.mem.names.symm.trans (show se.rule = ns.map (·.d) from ho.names))
theorem lv_start {z : Array Value} {w2 : World} (hz : z = #[.slice s.A se.rule.length s.c, I se.minute, I se.length, .string se.zone, I se.gap, I se.fold, .slice s.B se.moves.length s.d]) (hm : LtMem lo w2 (inv se 0) s ns) (hlo : 0 < lo) (ht : Tab10 w.heap.size w) (hb : Below w.heap.size w w2) :
    LV w w2.heap.size (w2.heap.size + 1) se p s ns lo ((w2.alloc (.cells z 30)).alloc (.cells (ltVal (inv se p) s) 36)) := by
  subst hz
  have b1 := below_var w2 (.cells #[.slice s.A se.rule.length s.c, I se.minute, I se.length, .string se.zone, I se.gap, I se.fold, .slice s.B se.moves.length s.d] 30)
  have r1 := Row.new w2 #[.slice s.A se.rule.length s.c, I se.minute, I se.length, .string se.zone, I se.gap, I se.fold, .slice s.B se.moves.length s.d] 30
  obtain ⟨W1, hW1⟩ : ∃ W, w2.alloc (.cells #[.slice s.A se.rule.length s.c, I se.minute, I se.length, .string se.zone, I se.gap, I se.fold, .slice s.B se.moves.length s.d] 30) = W := ⟨_, rfl⟩
  have hs1 : W1.heap.size = w2.heap.size + 1 := by rw [← hW1]; simp
  rw [hW1] at b1 r1 ⊢
  have b2 := below_var W1 (.cells (ltVal (inv se p) s) 36)
  have r2 := Row.new W1 (ltVal (inv se p) s) 36
  rw [hs1] at r2
  have hbb := below_trans b1 b2
  exact ⟨r1.keep b2, r2, hm.grow hbb hlo, hlo, ht.keep (below_trans hb hbb), below_trans hb hbb⟩
end
end Go.Proofs.YtenbgpcdoljkgaaGreatDoor
