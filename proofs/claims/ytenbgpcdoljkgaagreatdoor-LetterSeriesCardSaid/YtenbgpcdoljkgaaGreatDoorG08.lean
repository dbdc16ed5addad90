/- The texts SvQ, SvR, SvN, RefSame, in this order. -/
import Derived.Test.YtenbgpcdoljkgaaGreatDoorG06
import Derived.Test.YtenbgpcdoljkgaaGreatDoorG04
import Derived.Test.YtenbgpcdoljkgaaGreatDoorSame
import Derived.Deep.DeepCutAuto
/- A letter that was made is valid, in plain words. -/
namespace Go.Proofs.YtenbgpcdoljkgaaGreatDoor
open Go Go.RowKit

theorem SerOK.good {ns : List NdV} {s : Ser} (h : SerOK ns s) : SerGood s := by
  obtain ⟨dd, h1, h2⟩ := h.mok
  refine ⟨by have := h.min; omega, by have := h.lng; omega, by have := h.gap; omega, by have := h.fold; omega, ?_, by have := h.mlen; omega, fun m hm => ?_, h2.up⟩
  · rcases h.zone with h | h | h | h <;> rw [h] <;> decide
  · obtain ⟨h3, h4, h5⟩ := h2.ok m hm
    refine ⟨h4, by omega, ?_⟩
    rcases h3.2 with ⟨a, b, c, d⟩ | ⟨a, b, c, d, e, f, g⟩
    · exact .inl ⟨a, b, c, d⟩
    · exact .inr ⟨a, b, by omega, d, by omega, f, by omega⟩
theorem SerOK.rulesOK {ns : List NdV} {s : Ser} (h : SerOK ns s) : RuleOK ns := h.made.ruleOK h.len
section
variable {l l' : Lt} {ns ns' : List NdV} {f : Nat}
theorem MadeF.kind2 (h : MadeF l ns f l' ns') : l'.kind = l.kind := by
  rcases h with ⟨_, x, _, _, _, rfl, rfl⟩ | ⟨_, rfl, ⟨_, m, rfl, _⟩ | ⟨_, _, rfl⟩⟩ | ⟨_, ⟨_, se, rfl, h⟩ | ⟨_, _, rfl, rfl⟩⟩ | ⟨_, rfl, a, b, _, _, _, rfl⟩ | ⟨_, rfl, zs, rfl, h⟩ | ⟨_, rfl, r, _, rfl⟩
  · exact setNum_kind _ _ _
  all_goals rfl
theorem MadeF.move (h : MadeF l ns f l' ns') (hf : f ≠ 9) : l'.move = l.move := by
  rcases h with ⟨_, x, _, _, _, rfl, rfl⟩ | ⟨e, _⟩ | ⟨_, ⟨_, se, rfl, h⟩ | ⟨_, _, rfl, rfl⟩⟩ | ⟨_, rfl, a, b, _, _, _, rfl⟩ | ⟨_, rfl, zs, rfl, h⟩ | ⟨_, rfl, r, _, rfl⟩
  · exact setNum_move _ _ _
  · exact absurd e hf
  all_goals rfl
theorem MadeF.series (h : MadeF l ns f l' ns') (hf : f ≠ 10) : l'.series = l.series ∧ ns' = ns := by
  rcases h with ⟨_, x, _, _, _, rfl, rfl⟩ | ⟨_, rfl, ⟨_, m, rfl, _⟩ | ⟨_, _, rfl⟩⟩ | ⟨e, _⟩ | ⟨_, rfl, a, b, _, _, _, rfl⟩ | ⟨_, rfl, zs, rfl, h⟩ | ⟨_, rfl, r, _, rfl⟩
  · exact ⟨setNum_series _ _ _, rfl⟩
  · exact ⟨rfl, rfl⟩
  · exact ⟨rfl, rfl⟩
  · exact absurd e hf
  all_goals exact ⟨rfl, rfl⟩
theorem MadeF.window (h : MadeF l ns f l' ns') (hf : f ≠ 14) : l'.wfrom = l.wfrom ∧ l'.wto = l.wto := by
  rcases h with ⟨_, x, _, _, _, rfl, rfl⟩ | ⟨_, rfl, ⟨_, m, rfl, _⟩ | ⟨_, _, rfl⟩⟩ | ⟨_, ⟨_, se, rfl, h⟩ | ⟨_, _, rfl, rfl⟩⟩ | ⟨e, _⟩ | ⟨_, rfl, zs, rfl, h⟩ | ⟨_, rfl, r, _, rfl⟩
  · exact ⟨setNum_wfrom _ _ _, setNum_wto _ _ _⟩
  · exact ⟨rfl, rfl⟩
  · exact ⟨rfl, rfl⟩
  · exact ⟨rfl, rfl⟩
  · exact ⟨rfl, rfl⟩
  · exact absurd e hf
  all_goals exact ⟨rfl, rfl⟩
theorem MadeF.cells2 (h : MadeF l ns f l' ns') (hf : f ≠ 15) : l'.cells = l.cells := by
  rcases h with ⟨_, x, _, _, _, rfl, rfl⟩ | ⟨_, rfl, ⟨_, m, rfl, _⟩ | ⟨_, _, rfl⟩⟩ | ⟨_, ⟨_, se, rfl, h⟩ | ⟨_, _, rfl, rfl⟩⟩ | ⟨_, rfl, a, b, _, _, _, rfl⟩ | ⟨e, _⟩ | ⟨_, rfl, r, _, rfl⟩
  · exact setNum_cellsL _ _ _
  · rfl
  · rfl
  · rfl
  · rfl
  · rfl
  · exact absurd e hf
  · rfl
theorem MadeF.ref2 (h : MadeF l ns f l' ns') (hf : f ≠ 16) : l'.ref = l.ref := by
  rcases h with ⟨_, x, _, _, _, rfl, rfl⟩ | ⟨_, rfl, ⟨_, m, rfl, _⟩ | ⟨_, _, rfl⟩⟩ | ⟨_, ⟨_, se, rfl, h⟩ | ⟨_, _, rfl, rfl⟩⟩ | ⟨_, rfl, a, b, _, _, _, rfl⟩ | ⟨_, rfl, zs, rfl, h⟩ | ⟨e, _⟩
  · exact setNum_ref _ _ _
  · rfl
  · rfl
  · rfl
  · rfl
  · rfl
  · rfl
  · exact absurd e hf
theorem MadeF.scope (h : MadeF l ns f l' ns') (hf : f ≠ 7) : l'.scope = l.scope := h.numF 7 (by omega) hf
theorem MadeF.day (h : MadeF l ns f l' ns') (hf : f ≠ 8) : l'.day = l.day := h.numF 8 (by omega) hf
end
def InB (k : Int) (f : Nat) (x : Int) : Prop := (bnd k f).1 ≤ x ∧ x ≤ (bnd k f).2 ∧ x < (bnd k f).1 + 40
theorem numB_lit (f : Nat) (h : numB f = true) : f ≠ 9 ∧ f ≠ 10 ∧ f ≠ 14 ∧ f ≠ 15 ∧ f ≠ 16 := by
  refine ⟨?_, ?_, ?_, ?_, ?_⟩ <;> (rintro rfl; revert h; decide)
/-- The numbers of a letter under way. -/
theorem MadeTo.nums {bare : Bool} {l0 l : Lt} {j : Nat} {ns : List NdV} (h : MadeTo bare l0 j l ns) : l.kind = l0.kind ∧ (∀ k, j ≤ k → k < 17 → numF l k = numF l0 k) ∧ ∀ k, k < j → k < 17 → (skipB l0.kind bare k = true → numF l k = numF l0 k) ∧ (skipB l0.kind bare k = false → numB k = true → InB l0.kind k (numF l k)) := by
  induction h with
  | zero => exact ⟨rfl, fun _ _ _ => rfl, fun k hk => absurd hk (Nat.not_lt_zero k)⟩
  | @skip j l ns _ hs ih =>
    obtain ⟨h1, h2, h3⟩ := ih
    refine ⟨h1, fun k hk hk2 => h2 k (by omega) hk2, fun k hk hk2 => ?_⟩
    by_cases e : k = j
    · subst e
      exact ⟨fun _ => h2 k (Nat.le_refl _) hk2, fun hn => by rw [hs] at hn; cases hn⟩
    · exact h3 k (by omega) hk2
  | @step j l l' ns ns' _ hs hf ih =>
    obtain ⟨h1, h2, h3⟩ := ih
    refine ⟨hf.kind2.trans h1, fun k hk hk2 => (hf.numF k hk2 (by omega)).trans (h2 k (by omega) hk2), fun k hk hk2 => ?_⟩
    by_cases e : k = j
    · subst e
      refine ⟨fun hn => absurd (hs.symm.trans hn) (by decide), fun _ hn => ?_⟩
      obtain ⟨n1, n2, n3, n4, n5⟩ := numB_lit k hn
      rcases hf with ⟨_, x, a, b, c, rfl, _⟩ | ⟨e, _⟩ | ⟨e, _⟩ | ⟨e, _⟩ | ⟨e, _⟩ | ⟨e, _⟩
      · have ho : (numOff k).isSome = true := all17 (p := fun k => numB k = true → (numOff k).isSome = true) (by refine ⟨?_, ?_, ?_, ?_, ?_, ?_, ?_, ?_, ?_, ?_, ?_, ?_, ?_, ?_, ?_, ?_, ?_⟩ <;> decide) k hk2 hn
        rw [numF_same l x k hk2 ho]
        rw [h1] at a b c
        exact ⟨a, b, c⟩
      · exact absurd e n1
      · exact absurd e n2
      · exact absurd e n3
      · exact absurd e n4
      · exact absurd e n5
    · obtain ⟨g1, g2⟩ := h3 k (by omega) hk2
      have e2 := hf.numF k hk2 (fun h => e h.symm)
      rw [e2]
      exact ⟨g1, g2⟩
theorem uses9 {k : Int} (h1 : 1 ≤ k) (h2 : k ≤ 18) : usesB k (9 : Nat) = true ↔ k = 4 ∨ k = 6 := by
  obtain ⟨n, rfl⟩ : ∃ n : Nat, k = n := ⟨k.toNat, by omega⟩
  have h : ∀ n : Nat, n < 19 → (usesB (n : Int) (9 : Nat) = true ↔ (n : Int) = 4 ∨ (n : Int) = 6) := by decide +kernel
  exact h n (by omega)
theorem uses10 {k : Int} (h1 : 1 ≤ k) (h2 : k ≤ 18) : usesB k (10 : Nat) = true ↔ k = 1 ∨ k = 6 ∨ k = 8 := by
  obtain ⟨n, rfl⟩ : ∃ n : Nat, k = n := ⟨k.toNat, by omega⟩
  have h : ∀ n : Nat, n < 19 → (usesB (n : Int) (10 : Nat) = true ↔ (n : Int) = 1 ∨ (n : Int) = 6 ∨ (n : Int) = 8) := by decide +kernel
  exact h n (by omega)
theorem skipB_f {k : Int} {bare : Bool} {f : Nat} (h : bareF f = false) : skipB k bare f = !(usesB k f) := by unfold skipB; rw [h]; simp
def MvInv (k : Int) (l : Lt) : Prop :=
  (k = 4 ∧ MoveOK l.move.day l.move ∧ 0 ≤ l.move.day ∧ l.move.day < 40) ∨ (k = 6 ∧ l.scope = 1 ∧ MoveOK l.move.day l.move ∧ l.move.day = l.day) ∨ (k ≠ 4 ∧ (k = 6 → l.scope ≠ 1) ∧ l.move = zMv)
theorem MadeTo.mv {bare : Bool} {l0 l : Lt} {j : Nat} {ns : List NdV} (h : MadeTo bare l0 j l ns) (h0 : l0.move = zMv) (k1 : 1 ≤ l0.kind) (k2 : l0.kind ≤ 18) : (j ≤ 9 → l.move = zMv) ∧ (9 < j → MvInv l0.kind l) := by
  induction h with
  | zero => exact ⟨fun _ => h0, fun h => absurd h (by omega)⟩
  | @skip j l ns _ hs ih =>
    obtain ⟨h1, h2⟩ := ih
    refine ⟨fun hj => h1 (by omega), fun hj => ?_⟩
    by_cases e : j = 9
    · subst e
      rw [skipB_f (by decide)] at hs
      have hn : ¬ (l0.kind = 4 ∨ l0.kind = 6) := fun hc => by rw [(uses9 k1 k2).2 hc] at hs; cases hs
      exact .inr (.inr ⟨fun h => hn (.inl h), fun h => absurd (.inr h) hn, h1 (by omega)⟩)
    · exact h2 (by omega)
  | @step j l l' ns ns' hm hs hf ih =>
    obtain ⟨h1, h2⟩ := ih
    have hk : l.kind = l0.kind := hm.nums.1
    refine ⟨fun hj => (hf.move (by omega)).trans (h1 (by omega)), fun hj => ?_⟩
    by_cases e : j = 9
    · subst e
      rw [skipB_f (by decide)] at hs
      have hu : l0.kind = 4 ∨ l0.kind = 6 := (uses9 k1 k2).1 (by simpa using hs)
      rcases hf with ⟨e, _⟩ | ⟨_, _, ⟨a, m, rfl, b, c⟩ | ⟨a, b, rfl⟩⟩ | ⟨e, _⟩ | ⟨e, _⟩ | ⟨e, _⟩ | ⟨e, _⟩
      · cases e
      · rw [hk] at a c
        rcases c with ⟨c1, c2, c3⟩ | ⟨c1, c2⟩
        · exact .inl ⟨c1, b, c2, c3⟩
        · refine .inr (.inl ⟨by omega, by show l.scope = 1; omega, b, c2⟩)
      · rw [hk] at a
        exact .inr (.inr ⟨a, fun _ => b, h1 (by omega)⟩)
      all_goals cases e
    · have hi := h2 (by omega)
      unfold MvInv at hi ⊢
      rw [hf.move e, hf.scope (by omega), hf.day (by omega)]
      exact hi
def SeInv (k : Int) (bare : Bool) (l : Lt) (ns : List NdV) : Prop :=
  ((k = 1 ∨ k = 6 ∨ k = 8) ∧ bare = false ∧ (k = 6 → l.scope ≠ 1) ∧ SerOK ns l.series) ∨ ((k = 1 → bare = true) ∧ (k = 8 → bare = true) ∧ (k = 6 → bare = true ∨ l.scope = 1) ∧ l.series = zSer)
theorem MadeTo.se {bare : Bool} {l0 l : Lt} {j : Nat} {ns : List NdV} (h : MadeTo bare l0 j l ns) (h0 : l0.series = zSer) (k1 : 1 ≤ l0.kind) (k2 : l0.kind ≤ 18) : (j ≤ 10 → l.series = zSer) ∧ (10 < j → SeInv l0.kind bare l ns) := by
  induction h with
  | zero => exact ⟨fun _ => h0, fun h => absurd h (by omega)⟩
  | @skip j l ns _ hs ih =>
    obtain ⟨h1, h2⟩ := ih
    refine ⟨fun hj => h1 (by omega), fun hj => ?_⟩
    by_cases e : j = 10
    · subst e
      have hb : bareF ((10 : Nat) : Int) = true := by decide
      unfold skipB at hs
      rw [hb] at hs
      right
      have key : (l0.kind = 1 ∨ l0.kind = 6 ∨ l0.kind = 8) → bare = true := fun hc => by
        rw [(uses10 k1 k2).2 hc] at hs
        simpa using hs
      exact ⟨fun h => key (by omega), fun h => key (by omega), fun h => .inl (key (by omega)), h1 (by omega)⟩
    · exact h2 (by omega)
  | @step j l l' ns ns' hm hs hf ih =>
    obtain ⟨h1, h2⟩ := ih
    have hk : l.kind = l0.kind := hm.nums.1
    refine ⟨fun hj => (hf.series (by omega)).1.trans (h1 (by omega)), fun hj => ?_⟩
    by_cases e : j = 10
    · subst e
      have hb : bareF ((10 : Nat) : Int) = true := by decide
      unfold skipB at hs
      rw [hb, Bool.or_eq_false_iff] at hs
      obtain ⟨s1, s2⟩ := hs
      have hu : l0.kind = 1 ∨ l0.kind = 6 ∨ l0.kind = 8 := (uses10 k1 k2).1 (by simpa using s1)
      have hbr : bare = false := by simpa using s2
      rcases hf with ⟨e, _⟩ | ⟨e, _⟩ | ⟨_, ⟨a, se, rfl, b⟩ | ⟨a, b, rfl, rfl⟩⟩ | ⟨e, _⟩ | ⟨e, _⟩ | ⟨e, _⟩
      · cases e
      · cases e
      · rw [hk] at a
        refine .inl ⟨hu, hbr, fun h6 => ?_, b⟩
        rcases a with a | a
        · exact absurd h6 a
        · exact a
      · rw [hk] at a
        exact .inr ⟨fun h => by omega, fun h => by omega, fun _ => .inr b, h1 (by omega)⟩
      all_goals cases e
    · have hi := h2 (by omega)
      unfold SeInv at hi ⊢
      rw [(hf.series e).1, (hf.series e).2, hf.scope (by omega)]
      exact hi
theorem MadeTo.win {bare : Bool} {l0 l : Lt} {j : Nat} {ns : List NdV} (h : MadeTo bare l0 j l ns) (h0 : l0.wfrom = 0 ∧ l0.wto = 0) : (j ≤ 14 → l.wfrom = 0 ∧ l.wto = 0) ∧ (14 < j → (l.wfrom = 0 ∧ l.wto = 0) ∨ (usesB l0.kind (14 : Nat) = true ∧ -1000 ≤ l.wfrom ∧ l.wfrom ≤ l.wto ∧ l.wto ≤ 9000)) := by
  induction h with
  | zero => exact ⟨fun _ => h0, fun h => absurd h (by omega)⟩
  | @skip j l ns _ hs ih =>
    obtain ⟨h1, h2⟩ := ih
    refine ⟨fun hj => h1 (by omega), fun hj => ?_⟩
    by_cases e : j = 14
    · exact .inl (h1 (by omega))
    · exact h2 (by omega)
  | @step j l l' ns ns' hm hs hf ih =>
    obtain ⟨h1, h2⟩ := ih
    refine ⟨fun hj => by rw [(hf.window (by omega)).1, (hf.window (by omega)).2]; exact h1 (by omega), fun hj => ?_⟩
    by_cases e : j = 14
    · subst e
      rw [skipB_f (by decide)] at hs
      rcases hf with ⟨e, _⟩ | ⟨e, _⟩ | ⟨e, _⟩ | ⟨_, _, a, b, c1, c2, c3, rfl⟩ | ⟨e, _⟩ | ⟨e, _⟩
      · cases e
      · cases e
      · cases e
      · exact .inr ⟨by simpa using hs, c1, c2, c3⟩
      all_goals cases e
    · rw [(hf.window e).1, (hf.window e).2]
      exact h2 (by omega)
theorem MadeTo.cel {bare : Bool} {l0 l : Lt} {j : Nat} {ns : List NdV} (h : MadeTo bare l0 j l ns) (h0 : l0.cells = []) : (j ≤ 15 → l.cells = []) ∧ (15 < j → (usesB l0.kind (15 : Nat) = false ∧ l.cells = []) ∨ (usesB l0.kind (15 : Nat) = true ∧ CellsOK l.cells)) := by
  induction h with
  | zero => exact ⟨fun _ => h0, fun h => absurd h (by omega)⟩
  | @skip j l ns _ hs ih =>
    obtain ⟨h1, h2⟩ := ih
    refine ⟨fun hj => h1 (by omega), fun hj => ?_⟩
    by_cases e : j = 15
    · subst e
      rw [skipB_f (by decide)] at hs
      exact .inl ⟨by simpa using hs, h1 (by omega)⟩
    · exact h2 (by omega)
  | @step j l l' ns ns' hm hs hf ih =>
    obtain ⟨h1, h2⟩ := ih
    refine ⟨fun hj => by rw [hf.cells2 (by omega)]; exact h1 (by omega), fun hj => ?_⟩
    by_cases e : j = 15
    · subst e
      rw [skipB_f (by decide)] at hs
      rcases hf with ⟨e, _⟩ | ⟨e, _⟩ | ⟨e, _⟩ | ⟨e, _⟩ | ⟨_, _, zs, rfl, hz⟩ | ⟨e, _⟩
      · cases e
      · cases e
      · cases e
      · cases e
      · exact .inr ⟨by simpa using hs, hz⟩
      · cases e
    · rw [hf.cells2 e]
      exact h2 (by omega)
theorem MadeTo.rf {bare : Bool} {l0 l : Lt} {j : Nat} {ns : List NdV} (h : MadeTo bare l0 j l ns) (h0 : l0.ref = zero32) : (j ≤ 16 → l.ref = zero32) ∧ (16 < j → usesB l0.kind (16 : Nat) = true ∨ l.ref = zero32) := by
  induction h with
  | zero => exact ⟨fun _ => h0, fun h => absurd h (by omega)⟩
  | @skip j l ns _ hs ih =>
    obtain ⟨h1, h2⟩ := ih
    refine ⟨fun hj => h1 (by omega), fun hj => ?_⟩
    by_cases e : j = 16
    · exact .inr (h1 (by omega))
    · exact h2 (by omega)
  | @step j l l' ns ns' hm hs hf ih =>
    obtain ⟨h1, h2⟩ := ih
    refine ⟨fun hj => by rw [hf.ref2 (by omega)]; exact h1 (by omega), fun hj => ?_⟩
    by_cases e : j = 16
    · subst e
      rw [skipB_f (by decide)] at hs
      exact .inl (by simpa using hs)
    · rw [hf.ref2 e]
      exact h2 (by omega)
theorem lim_bnd {k : Int} (h1 : 1 ≤ k) (h2 : k ≤ 18) (f : Nat) (hf : f < 17) (hn : numB f = true) : limLow k f = (bnd k f).1 ∧ limHigh k f = (bnd k f).2 := by
  obtain ⟨n, rfl⟩ : ∃ n : Nat, k = n := ⟨k.toNat, by omega⟩
  have h : ∀ n : Nat, n < 19 → ∀ f : Nat, f < 17 → numB (f : Int) = true → limLow (n : Int) (f : Int) = (bnd (n : Int) f).1 ∧ limHigh (n : Int) (f : Int) = (bnd (n : Int) f).2 := by decide +kernel
  exact h n (by omega) f hf hn
theorem numB_offs {f : Nat} (hf : f < 17) : (∃ o, numOff f = some o ∧ numB f = true ∧ bareF f = specialB f) ∨ numOff f = none :=
  all17 (p := fun f => (∃ o, numOff f = some o ∧ numB f = true ∧ bareF f = specialB f) ∨ numOff f = none) (by
    refine ⟨?_, ?_, ?_, ?_, ?_, ?_, ?_, ?_, ?_, ?_, ?_, ?_, ?_, ?_, ?_, ?_, ?_⟩ <;> first | exact .inr rfl | exact .inl ⟨_, rfl, by decide, by decide⟩) f hf
theorem numOK_skip {l : Lt} {bare : Bool} {k o : Nat} (ho : numOff k = some o) (hb : bareF k = specialB k) (hs : skipB l.kind bare k = true) (h : numF l k = 0) : numOK l bare k = true := by
  unfold skipB at hs
  rw [hb] at hs
  rw [numOK_zero ho (by cases h1 : usesB l.kind k <;> cases h2 : (bare && specialB k) <;> simp_all), h]
  rfl
theorem numOK_in {l : Lt} {bare : Bool} {k o : Nat} (ho : numOff k = some o) (hb : bareF k = specialB k) (hs : skipB l.kind bare k = false) (h1 : limLow l.kind k ≤ numF l k) (h2 : numF l k ≤ limHigh l.kind k) : numOK l bare k = true := by
  unfold skipB at hs
  rw [hb] at hs
  rw [numOK_lim ho (by cases h1 : usesB l.kind k <;> cases h2 : (bare && specialB k) <;> simp_all), decide_eq_true h1, decide_eq_true h2]
  rfl
theorem adjust_cases (l : Lt) : adjust l = l ∧ ¬ (l.kind = 6 ∧ l.scope = 3) ∧ ¬ (l.kind = 5 ∧ l.other = l.person) ∨ (l.kind = 6 ∧ l.scope = 3 ∧ adjust l = setNum l 8 0) ∨ (l.kind = 5 ∧ l.other = l.person ∧ adjust l = setNum l 5 (l.other + 1)) := by
  unfold adjust
  split
  · rename_i h; exact .inr (.inl ⟨h.1, h.2, rfl⟩)
  · rename_i h
    split
    · rename_i h2; exact .inr (.inr ⟨h2.1, h2.2, rfl⟩)
    · rename_i h2; exact .inl ⟨rfl, h, h2⟩
theorem cellsOK_v {zs : List Int} (h : CellsOK zs) (k : Int) : vCells k zs = true := by
  rw [vCells_end]
  · have := h.ne
    simp only [Bool.or_eq_true, decide_eq_true_eq]
    omega
  · intro j hj
    have hz : zs[j]?.getD 0 = zs[j] := by rw [List.getElem?_eq_getElem hj]; rfl
    have hr := h.rng zs[j] (List.getElem_mem hj)
    cases srvB k with
    | false => rw [cellOK_f hz]; exact decide_eq_true (by omega)
    | true =>
      rw [cellOK_t hz rfl]
      refine decide_eq_true ⟨by omega, by omega, by omega, ?_⟩
      by_cases e : j = 0
      · exact .inl e
      · right
        rw [List.getElem?_eq_getElem (by omega)]
        exact List.pairwise_iff_getElem.1 h.up (j - 1) j (by omega) hj (by omega)
theorem vMove_ok {d : Int} {m : Mv} (h : MoveOK d m) (h1 : 0 ≤ m.day) (h2 : m.day ≤ 1099511627776) : vMove m = true := by
  obtain ⟨_, h⟩ := h
  unfold vMove
  rcases h with ⟨e, a, b, c⟩ | ⟨e, a, b, c, d, f, g⟩
  · rw [e, if_pos rfl]; exact decide_eq_true ⟨h1, h2, a, b, c⟩
  · rw [e, if_neg (by decide)]; exact decide_eq_true ⟨h1, h2, a, by omega, c, by omega, f, by omega⟩
theorem numOff_num {f o : Nat} (hf : f < 17) (h : numOff f = some o) : numB f = true ∧ bareF f = specialB f := by
  rcases numB_offs hf with ⟨o', _, h1, h2⟩ | h1
  · exact ⟨h1, h2⟩
  · rw [h1] at h; cases h
/-- What a letter that was made holds: everything that letter.Valid asks for. -/
structure MadeV (l : Lt) (ns : List NdV) : Prop where
  k1 : 1 ≤ l.kind
  k2 : l.kind ≤ 18
  body : bodyOK l = true
  ser : noSerB l = true ∨ (usesB l.kind (10 : Nat) = true ∧ nzOf l = false ∧ SerOK ns l.series)
theorem MadeLt.v {l : Lt} {ns : List NdV} (h : MadeLt l ns) : MadeV l ns := by
  obtain ⟨bare, k, f, t, l1, h1, h2, h3, h4, h5, h6, h7, hbk, hm, hadj⟩ := h.made
  have hk0 : (startLt k f t).kind = k := rfl
  obtain ⟨ek, _, hnum⟩ := hm.nums
  rw [hk0] at ek hnum
  have hmv := (hm.mv rfl (by rw [hk0]; exact h1) (by rw [hk0]; exact h2)).2 (by omega)
  have hse := (hm.se rfl (by rw [hk0]; exact h1) (by rw [hk0]; exact h2)).2 (by omega)
  have hwi := (hm.win ⟨rfl, rfl⟩).2 (by omega)
  have hce := (hm.cel rfl).2 (by omega)
  have hrf := (hm.rf rfl).2 (by omega)
  rw [hk0] at hmv hse hwi hce hrf
  have z0 : ∀ i, i < 17 → numF (startLt k f t) i = 0 := fun i hi => start_numF k f t i hi
  -- the letter behind the adjustment
  have a_kind : l.kind = k := by rw [hadj, adjust_kind]; exact ek
  have a_ser : l.series = l1.series := by rw [hadj]; exact adjust_series l1
  have a_cel : l.cells = l1.cells := by rw [hadj]; exact adjust_cells l1
  have a_ref : l.ref = l1.ref := by rw [hadj]; exact adjust_ref l1
  have hac := adjust_cases l1
  have a_mv : l.move = l1.move := by
    rw [hadj]
    rcases hac with ⟨e, _⟩ | ⟨_, _, e⟩ | ⟨_, _, e⟩ <;> rw [e]
    · exact setNum_move _ _ _
    · exact setNum_move _ _ _
  have a_wf : l.wfrom = l1.wfrom := by
    rw [hadj]
    rcases hac with ⟨e, _⟩ | ⟨_, _, e⟩ | ⟨_, _, e⟩ <;> rw [e]
    · exact setNum_wfrom _ _ _
    · exact setNum_wfrom _ _ _
  have a_wt : l.wto = l1.wto := by
    rw [hadj]
    rcases hac with ⟨e, _⟩ | ⟨_, _, e⟩ | ⟨_, _, e⟩ <;> rw [e]
    · exact setNum_wto _ _ _
    · exact setNum_wto _ _ _
  have a_num : ∀ i, i < 17 → i ≠ 8 → i ≠ 5 → numF l i = numF l1 i := fun i hi n8 n5 => by
    rw [hadj]
    rcases hac with ⟨e, _⟩ | ⟨_, _, e⟩ | ⟨_, _, e⟩ <;> rw [e]
    · exact numF_ne _ _ _ _ hi (fun h => n8 h.symm)
    · exact numF_ne _ _ _ _ hi (fun h => n5 h.symm)
  have a_sc : l.scope = l1.scope := a_num 7 (by omega) (by omega) (by omega)
  have bnd8 : (bnd k 8) = (0, 1099511627776) := rfl
  -- all numbers
  have hN : ∀ i, i < 17 → numOK l bare i = true := by
    intro i hi
    cases ho : numOff i with
    | none => exact numOK_nil ho
    | some o =>
      obtain ⟨hnb, hsp⟩ := numOff_num hi ho
      obtain ⟨g1, g2⟩ := hnum i hi hi
      obtain ⟨b1, b2⟩ := lim_bnd h1 h2 i hi hnb
      cases hs : skipB k bare i with
      | true =>
        refine numOK_skip ho hsp (by rw [a_kind]; exact hs) ?_
        have e0 : numF l1 i = 0 := (g1 hs).trans (z0 i hi)
        by_cases n8 : i = 8
        · subst n8
          rcases hac with ⟨e, _⟩ | ⟨_, _, e⟩ | ⟨_, _, e⟩ <;> rw [hadj, e]
          · exact e0
          · rfl
          · rw [numF_ne _ _ _ _ hi (by omega)]; exact e0
        · by_cases n5 : i = 5
          · subst n5
            rcases hac with ⟨e, _⟩ | ⟨_, _, e⟩ | ⟨hk5, _, e⟩ <;> rw [hadj, e]
            · exact e0
            · rw [numF_ne _ _ _ _ hi (by omega)]; exact e0
            · exfalso
              rw [ek] at hk5
              have hb : bare = false := by
                cases bare with
                | false => rfl
                | true => have := hbk rfl; omega
              rw [hk5, hb] at hs
              revert hs
              decide
          · rw [a_num i hi n8 n5]; exact e0
      | false =>
        obtain ⟨c1, c2, c3⟩ := g2 hs hnb
        refine numOK_in ho hsp (by rw [a_kind]; exact hs) ?_ ?_
        all_goals
          rw [a_kind]
          first | rw [b1] | rw [b2]
          by_cases n8 : i = 8
          · subst n8
            rcases hac with ⟨e, _⟩ | ⟨_, _, e⟩ | ⟨_, _, e⟩ <;> rw [hadj, e]
            · first | exact c1 | exact c2
            · rw [bnd8]; first | exact Int.le_refl _ | exact (show (0 : Int) ≤ 1099511627776 by decide)
            · rw [numF_ne _ _ _ _ hi (by omega)]; first | exact c1 | exact c2
          · by_cases n5 : i = 5
            · subst n5
              rcases hac with ⟨e, _⟩ | ⟨_, _, e⟩ | ⟨hk5, _, e⟩ <;> rw [hadj, e]
              · first | exact c1 | exact c2
              · rw [numF_ne _ _ _ _ hi (by omega)]; first | exact c1 | exact c2
              · rw [ek] at hk5
                subst hk5
                have e5 : bnd 5 5 = (0, 511) := rfl
                rw [e5] at c1 c2 c3 ⊢
                rw [numF_same _ _ _ hi rfl]
                have : numF l1 5 = l1.other := rfl
                rw [this] at c1 c2 c3
                dsimp only at c1 c2 c3 ⊢
                omega
            · rw [a_num i hi n8 n5]; first | exact c1 | exact c2
  have hday : k = 6 → 0 ≤ l.day ∧ l.day ≤ 1099511627776 := by
    intro hk
    have h := hN 8 (by omega)
    have hb : bare = false := by
      cases bare with
      | false => rfl
      | true => have := hbk rfl; omega
    rw [hb, numOK_lim (o := 11) rfl (by rw [a_kind, hk]; decide), Bool.and_eq_true, decide_eq_true_eq, decide_eq_true_eq, a_kind, hk] at h
    exact h
  have hop : (decide (l.kind ≠ 5) || decide (l.other ≠ l.person)) = true := by
    rw [Bool.or_eq_true, decide_eq_true_eq, decide_eq_true_eq]
    by_cases hk : l.kind = 5
    · right
      rw [hadj]
      rcases hac with ⟨e, _, n⟩ | ⟨k6, _, _⟩ | ⟨_, he, e⟩
      · rw [e]; intro hc; exact n ⟨by rw [ek, ← a_kind]; exact hk, hc⟩
      · omega
      · rw [e]; show l1.other + 1 ≠ l1.person; omega
    · exact .inl hk
  -- the series
  have hnz : (nzOf l = true ∧ l.series = zSer) ∨ (nzOf l = false ∧ SerOK ns l.series) := by
    rcases hse with ⟨_, _, _, hs⟩ | ⟨_, _, _, hs⟩
    · right
      rw [← a_ser] at hs
      refine ⟨?_, hs⟩
      unfold nzOf noSer
      exact decide_eq_false (by have := hs.lng; omega)
    · left
      rw [← a_ser] at hs
      exact ⟨by unfold nzOf; rw [hs]; rfl, hs⟩
  have hbare : bareB l.kind l.series.rule.length l.series.moves.length l.series = bare := by
    unfold bareB
    rw [a_kind]
    change (decide (k = 8) && nzOf l) = bare
    rcases hse with ⟨_, hb, _, hs⟩ | ⟨_, k8, _, hs⟩
    · rcases hnz with ⟨_, hz⟩ | ⟨hz, _⟩
      · exfalso; rw [← a_ser, hz] at hs; have := hs.lng; simp [zSer] at this
      · rw [hz, hb, Bool.and_false]
    · rcases hnz with ⟨hz, _⟩ | ⟨_, hz⟩
      · rw [hz, Bool.and_true]
        cases bare with
        | true => exact decide_eq_true (hbk rfl)
        | false => exact decide_eq_false fun h => by have := k8 h; cases this
      · exfalso; rw [a_ser, hs] at hz; have := hz.lng; simp [zSer] at this
  have hV : vNums l (bareB l.kind l.series.rule.length l.series.moves.length l.series) = true := by
    rw [hbare, vNums_end hN]
    exact hop
  -- the move
  have hmz : l.move = zMv → mvZ l.move = true := fun e => by rw [e]; rfl
  have hO : oth l = true := by
    unfold oth
    rw [vOthers_rest]
    · rw [Bool.and_eq_true, Bool.and_eq_true, Bool.and_eq_true, Bool.or_eq_true, Bool.or_eq_true, decide_eq_true_eq, decide_eq_true_eq, a_kind]
      refine ⟨⟨⟨?_, ?_⟩, ?_⟩, ?_⟩
      · rcases hmv with ⟨e, g1, g2, g3⟩ | ⟨e, _⟩ | ⟨e, _⟩
        · right; rw [a_mv]; exact vMove_ok g1 g2 (by omega)
        · left; omega
        · exact .inl e
      · by_cases k6 : k = 6
        · right
          unfold vChange
          rcases hmv with ⟨e, _⟩ | ⟨_, hsc, g1, g2⟩ | ⟨_, hsc, g⟩
          · omega
          · have e1 : l.scope = 1 := by rw [a_sc]; exact hsc
            have ed : l.day = l1.day := by
              rw [hadj]
              rcases hac with ⟨e, _⟩ | ⟨_, e3, _⟩ | ⟨e5, _⟩
              · rw [e]
              · omega
              · omega
            have hd := hday k6
            have hz : nzOf l = true := by
              rcases hse with ⟨_, _, n, _⟩ | ⟨_, _, _, hs⟩
              · exact absurd hsc (n k6)
              · rcases hnz with ⟨h, _⟩ | ⟨_, h⟩
                · exact h
                · exfalso; rw [a_ser, hs] at h; have := h.lng; simp [zSer] at this
            rw [if_pos e1, a_mv, vMove_ok g1 (by omega) (by omega), hz, decide_eq_true (by omega)]
            rfl
          · have n1 : ¬ l.scope = 1 := by rw [a_sc]; exact hsc k6
            rw [if_neg n1, hmz (a_mv.trans g)]
            split
            · rename_i e3
              have : l.day = 0 := by
                rw [hadj]
                rcases hac with ⟨_, e, _⟩ | ⟨_, _, e⟩ | ⟨e5, _⟩
                · exact absurd ⟨by omega, by rw [← a_sc]; exact e3⟩ e
                · rw [e]; rfl
                · omega
              rw [this]; rfl
            · rfl
        · exact .inl k6
      · unfold spanB
        rw [a_wf, a_wt]
        refine decide_eq_true ?_
        rcases hwi with ⟨e1, e2⟩ | ⟨_, e1, e2, e3⟩
        · rw [e1, e2]; decide
        · omega
      · rw [a_cel]
        rcases hce with ⟨hu, e⟩ | ⟨_, e⟩
        · rw [e]
          unfold vCells
          rw [decide_eq_true (show k ≠ 17 by rintro rfl; revert hu; decide)]
          rfl
        · exact cellsOK_v e k
    · refine zerosOK_yes fun i hi => ?_
      rw [a_kind]
      have hi' : i = 0 ∨ i = 1 ∨ i = 2 ∨ i = 3 ∨ i = 4 := by omega
      rcases hi' with rfl | rfl | rfl | rfl | rfl
      · show (usesB k ((9 : Nat) : Int) || mvZ l.move) = true
        rw [Bool.or_eq_true]
        rcases hmv with ⟨e, _⟩ | ⟨e, _⟩ | ⟨_, _, g⟩
        · exact .inl ((uses9 h1 h2).2 (.inl e))
        · exact .inl ((uses9 h1 h2).2 (.inr e))
        · exact .inr (hmz (a_mv.trans g))
      · show (usesB k ((10 : Nat) : Int) || nzOf l) = true
        rw [Bool.or_eq_true]
        rcases hse with ⟨e, _⟩ | ⟨_, _, _, hs⟩
        · exact .inl ((uses10 h1 h2).2 e)
        · rcases hnz with ⟨h, _⟩ | ⟨_, h⟩
          · exact .inr h
          · exfalso; rw [a_ser, hs] at h; have := h.lng; simp [zSer] at this
      · show (usesB k ((14 : Nat) : Int) || (decide (l.wfrom = 0) && decide (l.wto = 0))) = true
        rw [Bool.or_eq_true, a_wf, a_wt]
        rcases hwi with ⟨e1, e2⟩ | ⟨e, _⟩
        · right; rw [e1, e2]; rfl
        · exact .inl e
      · show (usesB k ((15 : Nat) : Int) || ((l.cells.length : Int) == 0)) = true
        rw [Bool.or_eq_true, a_cel]
        rcases hce with ⟨_, e⟩ | ⟨e, _⟩
        · right; rw [e]; rfl
        · exact .inl e
      · show (usesB k ((16 : Nat) : Int) || (l.ref == zero32)) = true
        rw [Bool.or_eq_true, a_ref]
        rcases hrf with e | e
        · exact .inl e
        · right; rw [e]; decide
  refine ⟨by omega, by omega, by unfold bodyOK; rw [hV, hO]; rfl, ?_⟩
  rcases hnz with ⟨hz, _⟩ | ⟨hz, hs⟩
  · left
    unfold noSerB
    rw [hz, a_kind, a_sc]
    change (!usesB k ((10 : Nat) : Int) || _) = true
    cases hu : usesB k ((10 : Nat) : Int) with
    | false => rfl
    | true =>
      have hk := (uses10 h1 h2).1 hu
      rcases hse with ⟨_, _, _, hs⟩ | ⟨a, b, c, _⟩
      · exfalso
        unfold nzOf noSer at hz
        rw [a_ser, decide_eq_true_eq] at hz
        have := hs.lng
        omega
      · simp only [Bool.not_true, Bool.false_or, Bool.true_and, Bool.or_eq_true, decide_eq_true_eq]
        rcases hk with hk | hk | hk
        · have := hbk (a hk); omega
        · rcases c hk with c | c
          · have := hbk c; omega
          · exact .inr c
        · exact .inl hk
  · right
    refine ⟨?_, hz, hs⟩
    rw [a_kind]
    rcases hse with ⟨e, _⟩ | ⟨_, _, _, hs'⟩
    · exact (uses10 h1 h2).2 e
    · exfalso; rw [a_ser, hs'] at hs; have := hs.lng; simp [zSer] at this
end Go.Proofs.YtenbgpcdoljkgaaGreatDoor

/- letter.Valid where series.Valid is reached. -/
namespace Go.Proofs.YtenbgpcdoljkgaaGreatDoor
open Go Go.RowKit

/-- The letter's box, and what was there before. -/
structure VS (w : World) (l : Lt) (s : Sl) (W : World) : Prop where
  row : Row W w.heap.size (ltVal l s)
  lo : Below w.heap.size w W
theorem VS.below {w W W' : World} {l : Lt} {s : Sl} (h : VS w l s W) (hb : Below W.heap.size W W') : VS w l s W' := ⟨h.row.keep hb, below_trans h.lo hb⟩
theorem VS.drew {w W : World} {l : Lt} {s : Sl} (h : VS w l s W) : VS w l s W.drew := h.below (Below.refl _ W).drew
attribute [local go_sem] ltVal_get lt_get0 lt_get1 lt_get2 lt_get10 lt_get17 lt_get18 lt_get19 lt_get20 lt_get21 lt_get22 lt_get23 lt_get29
def serVal (l : Lt) (s : Sl) : Value := .agg #[.slice s.A l.series.rule.length s.c, I l.series.minute, I l.series.length, .string l.series.zone, I l.series.gap, I l.series.fold, .slice s.B l.series.moves.length s.d]
set_option maxRecDepth 10000 in
set_option maxHeartbeats 4000000 in
theorem valid_ser (l : Lt) (s : Sl) (w : World) (r : Int) (hok : LtOK l) (hi : IntsAt w w.heap.size s.C l.cells) (hh : headOK l = true) (hbo : bodyOK l = true) (hcl : l.cells.length ≤ 65536) (hu : usesB l.kind 10 = true)
    (hnb : nzOf l = false ∨ (nzOf l = true ∧ (l.kind == 8) = false ∧ (l.scope == 1) = false))
    (hsv : ∀ w' cb cc xs, Below w.heap.size w w' → CalsAt w' w'.heap.size cb xs → Calls Tryz.prog 22 #[serVal l s, .slice (some ⟨cb, 0, none⟩) 3 cc] w' (Gives (I r) w')) :
    Calls Tryz.prog 17 #[.agg (ltVal l s)] w (Gives (I r) w) := by
  obtain ⟨⟨hk1, hk2⟩, h1, h2, he⟩ := headOK_iff hh
  have H1 := Lib.hid h1
  have H2 := Lib.hid h2
  have HR0 := Lib.hid (Row.new w (ltVal l s) 36)
  have HB0 := Lib.hid (below_var w (.cells (ltVal l s) 36))
  have HSZ : Hid ((Tryz.prog.info? 36).map (·.size) = some (ltVal l s).size) := Lib.hid (by unfold ltVal; rw [lt_size _ _ _ _ hok.ref]; kernel_rfl)
  have hbb : vNums l (bareB l.kind l.series.rule.length l.series.moves.length l.series) = true ∧ oth l = true := by unfold bodyOK at hbo; exact Bool.and_eq_true_iff.1 hbo
  have HB1 := Lib.hid hbb.1
  have HB2 := Lib.hid hbb.2
  have HOK := Lib.hid hok
  have HI := Lib.hid hi
  have HU := Lib.hid hu
  have HSV := Lib.hid hsv
  have hcl' : ¬ 65536 < l.cells.length := by omega
  clear hh h1 h2 hbb hok hi hu hbo hcl hsv
  rcases hnb with hnz | ⟨hnz, h8, h1'⟩
  · as_aux_lemma =>
    have HNZ := Lib.hid hnz
    clear hnz
    go_enter Tryz.func17, Tryz.ntmps17
    go_wp2_with (first
      | (go_at_call 47; refine (server_any _ _).mono ?_; rintro e w' ⟨rfl, rfl⟩; first | rw [H1.out] | rw [H2.out])
      | (with_reducible refine g_load 36 ?_; refine wpList_load_Row rfl _ _ rfl w.heap.size rfl (ltVal l s) (by first | with_reducible exact HRb.out | with_reducible exact HR0.out) _ Tryz.underlying36 rfl HSZ.out ?_)
      | (go_at_call 48; refine (validNumbers_lt l s _ HOK.out).mono ?_; rintro e w1 ⟨rfl, hb1⟩; have HRb := Lib.hid (HR0.out.keep hb1); have HBb := Lib.hid (below_trans HB0.out hb1); have HCb := Lib.hid ((HI.out.keep HBb.out).more HBb.out.size); have hrb := HRb.out.2; rw [HB1.out]; clear hb1)
      | (go_at_call 49; refine (validOthers_lt l s _ HOK.out HCb.out).mono ?_; rintro e w2 ⟨rfl, hb2⟩; have HRc := Lib.hid (HRb.out.keep hb2); have HBc := Lib.hid (below_trans HBb.out hb2); have hrc := HRc.out.2; rw [HB2.out]; clear hb2)
      | (go_at_call 35; refine (uses_any _ _ _ (by omega) (by omega)).mono ?_; rintro e w3 ⟨rfl, hb3⟩; have HRd := Lib.hid (HRc.out.keep hb3); have HBd := Lib.hid (below_trans HBc.out hb3); have hrd := HRd.out.2; rw [HU.out]; clear hb3)
      | (go_at_call 50; refine (noSeries_lt l s _ HOK.out).mono ?_; rintro e w4 ⟨rfl, hb4⟩; have HRe := Lib.hid (HRd.out.keep hb4); have HBe := Lib.hid (below_trans HBd.out hb4); have hre := HRe.out.2; rw [HNZ.out]; clear hb4))
    have hS4 : VS w l s w4.drew := VS.drew ⟨HRe.out, HBe.out⟩
    refine wp_region_held_drew (S := VS w l s) (by kernel_rfl) hS4 (fun hH0 => ?_)
    refine wpAnyH_take_dst (i := 0) (v := ?v0a) (d := 66) rfl rfl (by kernel_rfl) (by kernel_rfl) (by kernel_rfl) (fun _ _ _ h => h) (Or.inl ⟨by rfl, ?hy0a⟩) (by assumption) ?r0a
    case hy0a => intro w' hSw; have k0 := hSw.row.2; clear hSw; first | (go_simp; done) | (go_simp; with_reducible rfl)
    try simp only [Act.put, List.setIfInBounds_toArray, List.set_cons_zero, List.set_cons_succ]
    refine wpAnyH_take_dst (i := 1) (v := ?v1a) (d := 67) rfl rfl (by kernel_rfl) (by kernel_rfl) (by kernel_rfl) (fun _ _ _ h => h) (Or.inl ⟨by rfl, ?hy1a⟩) (by assumption) ?r1a
    case hy1a => intro w' hSw; have k0 := hSw.row.2; clear hSw; first | (go_simp; done) | (go_simp; with_reducible rfl)
    try simp only [Act.put, List.setIfInBounds_toArray, List.set_cons_zero, List.set_cons_succ]
    refine wpAnyH_ready (rs := [2]) (by kernel_rfl) (by simp) ?_
    refine AllReadyH.cons rfl (fun K hK => ?_) AllReadyH.nil
    go_simp
    refine (calendars_any _).mono ?_
    rintro x w5 ⟨xs, rfl, hcs⟩
    have hS5 := hS4.below hcs.lo
    have hCA := hcs.cals
    clear hcs
    refine hK.out _ _ hS5 (fun hHeld => ?_)
    clear hHeld
    clear hK K
    try simp only [Act.put, List.setIfInBounds_toArray, List.set_cons_zero, List.set_cons_succ]
    refine wpAnyH_ready (rs := [3]) (by kernel_rfl) (by simp) ?_
    refine AllReadyH.cons rfl (fun K hK => ?_) AllReadyH.nil
    go_simp
    refine (HSV.out _ _ _ xs hS5.lo hCA).mono ?_
    rintro x w6 ⟨rfl, hb6⟩
    have hS6 := hS5.below hb6
    clear hb6
    refine hK.out _ _ hS6 (fun hHeld => ?_)
    clear hHeld
    clear hK K
    try simp only [Act.put, List.setIfInBounds_toArray, List.set_cons_zero, List.set_cons_succ]
    refine wpAnyH_take_dst (i := 4) (v := ?v4a) (d := 2) rfl rfl (by kernel_rfl) (by kernel_rfl) (by kernel_rfl) (fun _ _ _ h => h) (Or.inl ⟨by rfl, ?hy4a⟩) (by assumption) ?r4a
    case hy4a => intro w' hSw; first | (go_simp; done) | (go_simp; with_reducible rfl)
    try simp only [Act.put, List.setIfInBounds_toArray, List.set_cons_zero, List.set_cons_succ]
    refine wpAnyH_done (by kernel_rfl) ?_ _
    clear hH0
    go_wp2_with fail
    go_ret
    exact ⟨rfl, hS6.lo⟩
  · as_aux_lemma =>
    have HNZ := Lib.hid hnz
    clear hnz
    go_enter Tryz.func17, Tryz.ntmps17
    go_wp2_with (first
      | (go_at_call 47; refine (server_any _ _).mono ?_; rintro e w' ⟨rfl, rfl⟩; first | rw [H1.out] | rw [H2.out])
      | (with_reducible refine g_load 36 ?_; refine wpList_load_Row rfl _ _ rfl w.heap.size rfl (ltVal l s) (by first | with_reducible exact HRb.out | with_reducible exact HR0.out) _ Tryz.underlying36 rfl HSZ.out ?_)
      | (go_at_call 48; refine (validNumbers_lt l s _ HOK.out).mono ?_; rintro e w1 ⟨rfl, hb1⟩; have HRb := Lib.hid (HR0.out.keep hb1); have HBb := Lib.hid (below_trans HB0.out hb1); have HCb := Lib.hid ((HI.out.keep HBb.out).more HBb.out.size); have hrb := HRb.out.2; rw [HB1.out]; clear hb1)
      | (go_at_call 49; refine (validOthers_lt l s _ HOK.out HCb.out).mono ?_; rintro e w2 ⟨rfl, hb2⟩; have HRc := Lib.hid (HRb.out.keep hb2); have HBc := Lib.hid (below_trans HBb.out hb2); have hrc := HRc.out.2; rw [HB2.out]; clear hb2)
      | (go_at_call 35; refine (uses_any _ _ _ (by omega) (by omega)).mono ?_; rintro e w3 ⟨rfl, hb3⟩; have HRd := Lib.hid (HRc.out.keep hb3); have HBd := Lib.hid (below_trans HBc.out hb3); have hrd := HRd.out.2; rw [HU.out]; clear hb3)
      | (go_at_call 50; refine (noSeries_lt l s _ HOK.out).mono ?_; rintro e w4 ⟨rfl, hb4⟩; have HRe := Lib.hid (HRd.out.keep hb4); have HBe := Lib.hid (below_trans HBd.out hb4); have hre := HRe.out.2; rw [HNZ.out]; clear hb4))
    have hS4 : VS w l s w4.drew := VS.drew ⟨HRe.out, HBe.out⟩
    refine wp_region_held_drew (S := VS w l s) (by kernel_rfl) hS4 (fun hH0 => ?_)
    refine wpAnyH_take_dst (i := 0) (v := ?v0b) (d := 66) rfl rfl (by kernel_rfl) (by kernel_rfl) (by kernel_rfl) (fun _ _ _ h => h) (Or.inl ⟨by rfl, ?hy0b⟩) (by assumption) ?r0b
    case hy0b => intro w' hSw; have k0 := hSw.row.2; clear hSw; first | (go_simp; done) | (go_simp; with_reducible rfl)
    try simp only [Act.put, List.setIfInBounds_toArray, List.set_cons_zero, List.set_cons_succ]
    refine wpAnyH_take_dst (i := 1) (v := ?v1b) (d := 67) rfl rfl (by kernel_rfl) (by kernel_rfl) (by kernel_rfl) (fun _ _ _ h => h) (Or.inl ⟨by rfl, ?hy1b⟩) (by assumption) ?r1b
    case hy1b => intro w' hSw; have k0 := hSw.row.2; clear hSw; first | (go_simp; done) | (go_simp; with_reducible rfl)
    try simp only [Act.put, List.setIfInBounds_toArray, List.set_cons_zero, List.set_cons_succ]
    refine wpAnyH_ready (rs := [2]) (by kernel_rfl) (by simp) ?_
    refine AllReadyH.cons rfl (fun K hK => ?_) AllReadyH.nil
    go_simp
    refine (calendars_any _).mono ?_
    rintro x w5 ⟨xs, rfl, hcs⟩
    have hS5 := hS4.below hcs.lo
    have hCA := hcs.cals
    clear hcs
    refine hK.out _ _ hS5 (fun hHeld => ?_)
    clear hHeld
    clear hK K
    try simp only [Act.put, List.setIfInBounds_toArray, List.set_cons_zero, List.set_cons_succ]
    refine wpAnyH_ready (rs := [3]) (by kernel_rfl) (by simp) ?_
    refine AllReadyH.cons rfl (fun K hK => ?_) AllReadyH.nil
    go_simp
    refine (HSV.out _ _ _ xs hS5.lo hCA).mono ?_
    rintro x w6 ⟨rfl, hb6⟩
    have hS6 := hS5.below hb6
    clear hb6
    refine hK.out _ _ hS6 (fun hHeld => ?_)
    clear hHeld
    clear hK K
    try simp only [Act.put, List.setIfInBounds_toArray, List.set_cons_zero, List.set_cons_succ]
    refine wpAnyH_take_dst (i := 4) (v := ?v4b) (d := 2) rfl rfl (by kernel_rfl) (by kernel_rfl) (by kernel_rfl) (fun _ _ _ h => h) (Or.inl ⟨by rfl, ?hy4b⟩) (by assumption) ?r4b
    case hy4b => intro w' hSw; first | (go_simp; done) | (go_simp; with_reducible rfl)
    try simp only [Act.put, List.setIfInBounds_toArray, List.set_cons_zero, List.set_cons_succ]
    refine wpAnyH_done (by kernel_rfl) ?_ _
    clear hH0
    go_wp2_with fail
    go_ret
    exact ⟨rfl, hS6.lo⟩
theorem noSerB_no {l : Lt} (h : noSerB l = false) : usesB l.kind 10 = true ∧ (nzOf l = false ∨ (nzOf l = true ∧ (l.kind == 8) = false ∧ (l.scope == 1) = false)) := by
  unfold noSerB at h
  rw [Bool.or_eq_false_iff] at h
  obtain ⟨h1, h2⟩ := h
  refine ⟨by simpa using h1, ?_⟩
  cases hz : nzOf l with
  | false => exact .inl rfl
  | true =>
    rw [hz, Bool.true_and, Bool.or_eq_false_iff] at h2
    exact .inr ⟨rfl, by rw [beq_dec]; exact h2.1, by rw [beq_dec]; exact h2.2⟩
end Go.Proofs.YtenbgpcdoljkgaaGreatDoor

/- series.moveOK, series.sound, series.Valid (where the series is valid). -/
namespace Go.Proofs.YtenbgpcdoljkgaaGreatDoor
open Go Go.RowKit

theorem eql_mv_same (d t n l : Int) (b : Bool) (W : World) : (binOp .eql 25 (.agg #[I d, .bool b, I t, I n, I l]) (.agg #[I d, .bool b, I t, I n, I l])).run Tryz.prog W = .ok (.bool true) W := by
  simp [go_sem]
set_option maxRecDepth 10000 in
set_option maxHeartbeats 2000000 in
theorem moveOK_yes (m : Mv) (w : World) (h : MvGood m) : Calls Tryz.prog 90 #[.agg #[I m.day, .bool m.drop, I m.toDay, I m.minute, I m.length]] w (Gives (.bool true) w) := by
  have HB := Lib.hid (below_var w (.cells #[I m.day, .bool m.drop, I m.toDay, I m.minute, I m.length] 25))
  obtain ⟨d, b, t, n, l⟩ := m
  obtain ⟨h1, h2, h⟩ := h
  simp only at h1 h2 h
  rcases h with ⟨rfl, rfl, rfl, rfl⟩ | ⟨rfl, h3, h4, h5, h6, h7, h8⟩
  · have he := eql_mv_same d 0 0 0 true
    go_enter Tryz.func90, Tryz.ntmps90
    go_wp2_with (go_at_call 89; refine (seWithin_yes _ _ _ _ (by omega) (by omega)).mono ?_; rintro e w' ⟨rfl, rfl⟩)
    go_ret
    exact ⟨rfl, HB.out⟩
  · go_enter Tryz.func90, Tryz.ntmps90
    go_wp2_with (go_at_call 89; refine (seWithin_yes _ _ _ _ (by omega) (by omega)).mono ?_; rintro e w' ⟨rfl, rfl⟩)
    go_ret
    exact ⟨rfl, HB.out⟩
theorem mvOne {w wr : World} {B : Option Addr} {ms : List Mv} {n k : Nat} (hB : MovesAt w w.heap.size B ms) (hl : ms.length = n) (hb : Below w.heap.size w wr) (hk : k < n) :
    ∃ b m, B = some ⟨b, 0, none⟩ ∧ b < wr.heap.size ∧ ms[k]? = some m ∧ wr.rangeAt b (k * 5) (mvCells m).toList := by
  rcases (hB.keep hb) with h | ⟨b1, h1, h2, h3⟩
  · omega
  have hx : ms[k]? = some ms[k] := List.getElem?_eq_getElem (by omega)
  exact ⟨b1, ms[k], h1, Nat.lt_of_lt_of_le h2 hb.size, hx, h3 k _ hx⟩
/-- Inside the loop: the series' box and the move's variable. -/
structure SoS (w : World) (sc : Array Value) (W : World) : Prop where
  box : Row W w.heap.size sc
  lo : Below w.heap.size w W
theorem SoS.below {w W W' : World} {sc : Array Value} (h : SoS w sc W) (hb : Below W.heap.size W W') : SoS w sc W' := ⟨h.box.keep hb, below_trans h.lo hb⟩
structure SoL (w : World) (sc : Array Value) (mb : Nat) (mc : Array Value) (pvF : World → Prop) (W : World) : Prop where
  box : Row W w.heap.size sc
  mv : Row W mb mc
  pv : pvF W
  lo : Below w.heap.size w W
theorem SoL.grow {w W W' : World} {sc : Array Value} {mb : Nat} {mc : Array Value} {F : World → Prop} (h : SoL w sc mb mc F W) (hb : Below W.heap.size W W') (hp : F W') : SoL w sc mb mc F W' := ⟨h.box.keep hb, h.mv.keep hb, hp, below_trans h.lo hb⟩
theorem mvv_size (m : Mv) : (Tryz.prog.info? 25).map (·.size) = some (#[I m.day, .bool m.drop, I m.toDay, I m.minute, I m.length] : Array Value).size := by kernel_rfl
set_option maxRecDepth 10000 in
set_option maxHeartbeats 2000000 in
theorem sound_yes (s : Ser) (A B : Option Addr) (c e n mn : Nat) (ns : List NdV) (w : World) (hA : RulesAt w w.heap.size A ns) (hl : ns.length = n) (hok : RuleOK ns) (hB : MovesAt w w.heap.size B s.moves) (hml : s.moves.length = mn) (h : SerGood s) :
    Calls Tryz.prog 62 #[.agg #[.slice A n c, I s.minute, I s.length, .string s.zone, I s.gap, I s.fold, .slice B mn e]] w (Gives (.bool true) w) := by
  have HS0 : Hid (SoS w #[.slice A n c, I s.minute, I s.length, .string s.zone, I s.gap, I s.fold, .slice B mn e] (w.alloc (.cells #[.slice A n c, I s.minute, I s.length, .string s.zone, I s.gap, I s.fold, .slice B mn e] 30))) := Lib.hid ⟨Row.new w _ _, below_var w _⟩
  have HP := Lib.hid (fun w' (hb : Below w.heap.size w w') => part_yes A n c ns w' ((hA.keep hb).more hb.size) hl hok)
  have HB := Lib.hid hB
  have HML := Lib.hid hml
  have HG := Lib.hid h
  obtain ⟨⟨q1, q2⟩, ⟨q3, q4⟩, ⟨q5, q6⟩, ⟨q7, q8⟩, ⟨q9, q10⟩, q11, _, _⟩ := h
  obtain ⟨rule, mi, le, zo, ga, fo, ms⟩ := s
  simp only at q1 q2 q3 q4 q5 q6 q7 q8 q9 q10 q11 HS0 HB HML ⊢
  have q12 : ¬ (64 : Int) < (mn : Int) := by have := HML.out; omega
  clear hA hl hok hB hml q11
  go_enter Tryz.func62, Tryz.ntmps62
  go_wp2_with fail
  refine (HP.out _ HS0.out.lo).mono ?_
  rintro e1 w1 ⟨⟨v, rfl⟩, hb1⟩
  have HS1 := Lib.hid (HS0.out.below hb1)
  have g0 := HS1.out.box.2
  clear hb1 HP HS0
  go_wp2_with (go_at_call 89; refine (seWithin_yes _ _ _ _ (by omega) (by omega)).mono ?_; rintro e w' ⟨rfl, rfl⟩)
  clear g0
  go_loopw [53] (fun i wr => ∃ k : Nat, k ≤ mn ∧ i = I k ∧ SoS w #[.slice A n c, I mi, I le, .string zo, I ga, I fo, .slice B mn e] wr) (fun i _ => mn - (intOf i).toNat)
  case atStart => exact ⟨0, by omega, rfl, HS1.out⟩
  case round =>
    obtain ⟨k, hk, rfl, hso⟩ := hrel
    have HSO := Lib.hid hso
    clear hso HS1
    by_cases hlt : (k : Int) < (mn : Int)
    · have i0 : (0 : Int) ≤ (k : Int) := by omega
      have i1 : k < mn := by omega
      obtain ⟨b, m, hBe, hbl, hx, hr⟩ := mvOne HB.out HML.out HSO.out.lo i1
      have f0 : wr.cell? ⟨b, k * 5, none⟩ = some (I m.day) := hr 0 _ rfl
      have f1 : wr.cell? ⟨b, k * 5 + 1, none⟩ = some (.bool m.drop) := hr 1 _ rfl
      have f2 : wr.cell? ⟨b, k * 5 + 2, none⟩ = some (I m.toDay) := hr 2 _ rfl
      have f3 : wr.cell? ⟨b, k * 5 + 3, none⟩ = some (I m.minute) := hr 3 _ rfl
      have f4 : wr.cell? ⟨b, k * 5 + 4, none⟩ = some (I m.length) := hr 4 _ rfl
      have HGD : Hid (MvGood m) := Lib.hid (HG.out.mv m (List.mem_of_getElem? hx))
      have hne : ¬ b = wr.heap.size := by omega
      have HBV := Lib.hid (below_var wr (.cells #[I m.day, .bool m.drop, I m.toDay, I m.minute, I m.length] 25))
      have HSV := Lib.hid (HSO.out.below HBV.out)
      have HRV := Lib.hid (Row.new wr #[I m.day, .bool m.drop, I m.toDay, I m.minute, I m.length] 25)
      by_cases hk0 : k = 0
      · have hq : ¬ (0 : Int) < (k : Int) := by omega
        subst hBe
        clear hr hx hk0
        go_wp2_with fail
        have hS1 : SoL w #[.slice A n c, I mi, I le, .string zo, I ga, I fo, .slice (some ⟨b, 0, none⟩) mn e] wr.heap.size #[I m.day, .bool m.drop, I m.toDay, I m.minute, I m.length] (fun _ => True) (wr.alloc (.cells #[I m.day, .bool m.drop, I m.toDay, I m.minute, I m.length] 25)).drew := ⟨HSV.out.box, HRV.out, trivial, HSV.out.lo.drew⟩
        refine wp_region_held_drew (S := SoL w #[.slice A n c, I mi, I le, .string zo, I ga, I fo, .slice (some ⟨b, 0, none⟩) mn e] wr.heap.size #[I m.day, .bool m.drop, I m.toDay, I m.minute, I m.length] (fun _ => True)) (by kernel_rfl) hS1 (fun hH0 => ?_)
        refine wpAnyH_take_dst (i := 0) (v := _) (d := 58) rfl rfl (by kernel_rfl) (by kernel_rfl) (by kernel_rfl) (fun _ _ _ h => h) (yieldsIf_load_Row (by rfl) _ _ rfl wr.heap.size rfl #[I m.day, .bool m.drop, I m.toDay, I m.minute, I m.length] _ (fun w' h => h.mv) Tryz.underlying25 rfl (mvv_size m)) (by assumption) ?r0a
        try simp only [Act.put, List.setIfInBounds_toArray, List.set_cons_zero, List.set_cons_succ]
        refine wpAnyH_ready (rs := [1]) (by kernel_rfl) (by simp) ?_
        refine AllReadyH.cons rfl (fun K hK => ?_) AllReadyH.nil
        go_simp
        refine (moveOK_yes m _ HGD.out).mono ?_
        rintro v5 w5 ⟨rfl, hb5⟩
        have hS5 := hS1.grow hb5 trivial
        clear hb5
        refine hK.out _ _ hS5 (fun hHeld => ?_)
        clear hHeld
        clear hK K
        try simp only [Act.put, List.setIfInBounds_toArray, List.set_cons_zero, List.set_cons_succ]
        refine wpAnyH_take_dst (i := 2) (v := ?v2a) (d := 60) rfl rfl (by kernel_rfl) (by kernel_rfl) (by kernel_rfl) (fun _ _ _ h => h) (Or.inl ⟨by rfl, ?hy2a⟩) (by assumption) ?r2a
        case hy2a => intro w' hSw; have k0 := hSw.mv.2; have k1 := hSw.box.2; have k2 := hSw.pv; clear hSw; first | (go_simp; done) | (go_simp; with_reducible rfl)
        try simp only [Act.put, List.setIfInBounds_toArray, List.set_cons_zero, List.set_cons_succ]
        refine wpAnyH_take_dst (i := 3) (v := ?v3a) (d := 61) rfl rfl (by kernel_rfl) (by kernel_rfl) (by kernel_rfl) (fun _ _ _ h => h) (Or.inl ⟨by rfl, ?hy3a⟩) (by assumption) ?r3a
        case hy3a => intro w' hSw; have k0 := hSw.mv.2; have k1 := hSw.box.2; have k2 := hSw.pv; clear hSw; first | (go_simp; done) | (go_simp; with_reducible rfl)
        try simp only [Act.put, List.setIfInBounds_toArray, List.set_cons_zero, List.set_cons_succ]
        refine wpAnyH_take_dst (i := 4) (v := ?v4a) (d := 62) rfl rfl (by kernel_rfl) (by kernel_rfl) (by kernel_rfl) (fun _ _ _ h => h) (Or.inl ⟨by rfl, ?hy4a⟩) (by assumption) ?r4a
        case hy4a => intro w' hSw; have k0 := hSw.mv.2; have k1 := hSw.box.2; have k2 := hSw.pv; clear hSw; first | (go_simp; done) | (go_simp; with_reducible rfl)
        try simp only [Act.put, List.setIfInBounds_toArray, List.set_cons_zero, List.set_cons_succ]
        refine wpAnyH_take_dst (i := 5) (v := .bool false) (d := 63) rfl rfl (by kernel_rfl) (by kernel_rfl) (by kernel_rfl) (fun _ _ _ h => h) (Or.inl ⟨by rfl, ?hy5a⟩) (by assumption) ?r5a
        case hy5a => intro w' hSw; clear hSw; first | (go_simp; done) | (go_simp; omega) | (go_simp; rw [decide_eq_false hq]; done) | (go_simp; rw [decide_eq_false hq]; rfl)
        try simp only [Act.put, List.setIfInBounds_toArray, List.set_cons_zero, List.set_cons_succ]
        refine wpAnyH_take_dst (i := 6) (v := ?v6a) (d := 64) rfl rfl (by kernel_rfl) (by kernel_rfl) (by kernel_rfl) (fun _ _ _ h => h) (Or.inl ⟨by rfl, ?hy6a⟩) (by assumption) ?r6a
        case hy6a => intro w' hSw; have k0 := hSw.mv.2; have k1 := hSw.box.2; have k2 := hSw.pv; clear hSw; first | (go_simp; done) | (go_simp; with_reducible rfl)
        try simp only [Act.put, List.setIfInBounds_toArray, List.set_cons_zero, List.set_cons_succ]
        refine wpAnyH_take_dst (i := 7) (v := undef) (d := 65) rfl rfl (by kernel_rfl) (by kernel_rfl) (by kernel_rfl) (fun _ _ _ h => h) (Or.inr ⟨by rfl, rfl⟩) (by assumption) ?r7a
        try simp only [Act.put, List.setIfInBounds_toArray, List.set_cons_zero, List.set_cons_succ]
        refine wpAnyH_take_dst (i := 8) (v := undef) (d := 66) rfl rfl (by kernel_rfl) (by kernel_rfl) (by kernel_rfl) (fun _ _ _ h => h) (Or.inr ⟨by rfl, rfl⟩) (by assumption) ?r8a
        try simp only [Act.put, List.setIfInBounds_toArray, List.set_cons_zero, List.set_cons_succ]
        refine wpAnyH_take_dst (i := 9) (v := undef) (d := 67) rfl rfl (by kernel_rfl) (by kernel_rfl) (by kernel_rfl) (fun _ _ _ h => h) (Or.inr ⟨by rfl, rfl⟩) (by assumption) ?r9a
        try simp only [Act.put, List.setIfInBounds_toArray, List.set_cons_zero, List.set_cons_succ]
        refine wpAnyH_take_dst (i := 10) (v := undef) (d := 68) rfl rfl (by kernel_rfl) (by kernel_rfl) (by kernel_rfl) (fun _ _ _ h => h) (Or.inr ⟨by rfl, rfl⟩) (by assumption) ?r10a
        try simp only [Act.put, List.setIfInBounds_toArray, List.set_cons_zero, List.set_cons_succ]
        refine wpAnyH_take_dst (i := 11) (v := undef) (d := 69) rfl rfl (by kernel_rfl) (by kernel_rfl) (by kernel_rfl) (fun _ _ _ h => h) (Or.inr ⟨by rfl, rfl⟩) (by assumption) ?r11a
        try simp only [Act.put, List.setIfInBounds_toArray, List.set_cons_zero, List.set_cons_succ]
        refine wpAnyH_take_dst (i := 12) (v := undef) (d := 70) rfl rfl (by kernel_rfl) (by kernel_rfl) (by kernel_rfl) (fun _ _ _ h => h) (Or.inr ⟨by rfl, rfl⟩) (by assumption) ?r12a
        try simp only [Act.put, List.setIfInBounds_toArray, List.set_cons_zero, List.set_cons_succ]
        refine wpAnyH_take_dst (i := 13) (v := undef) (d := 71) rfl rfl (by kernel_rfl) (by kernel_rfl) (by kernel_rfl) (fun _ _ _ h => h) (Or.inr ⟨by rfl, rfl⟩) (by assumption) ?r13a
        try simp only [Act.put, List.setIfInBounds_toArray, List.set_cons_zero, List.set_cons_succ]
        refine wpAnyH_take_dst (i := 14) (v := undef) (d := 72) rfl rfl (by kernel_rfl) (by kernel_rfl) (by kernel_rfl) (fun _ _ _ h => h) (Or.inr ⟨by rfl, rfl⟩) (by assumption) ?r14a
        try simp only [Act.put, List.setIfInBounds_toArray, List.set_cons_zero, List.set_cons_succ]
        refine wpAnyH_take_dst (i := 15) (v := undef) (d := 73) rfl rfl (by kernel_rfl) (by kernel_rfl) (by kernel_rfl) (fun _ _ _ h => h) (Or.inr ⟨by rfl, rfl⟩) (by assumption) ?r15a
        try simp only [Act.put, List.setIfInBounds_toArray, List.set_cons_zero, List.set_cons_succ]
        refine wpAnyH_take_dst (i := 16) (v := undef) (d := 74) rfl rfl (by kernel_rfl) (by kernel_rfl) (by kernel_rfl) (fun _ _ _ h => h) (Or.inr ⟨by rfl, rfl⟩) (by assumption) ?r16a
        try simp only [Act.put, List.setIfInBounds_toArray, List.set_cons_zero, List.set_cons_succ]
        refine wpAnyH_take_dst (i := 17) (v := ?v17a) (d := 75) rfl rfl (by kernel_rfl) (by kernel_rfl) (by kernel_rfl) (fun _ _ _ h => h) (Or.inl ⟨by rfl, ?hy17a⟩) (by assumption) ?r17a
        case hy17a => intro w' hSw; have k0 := hSw.mv.2; have k1 := hSw.box.2; have k2 := hSw.pv; clear hSw; first | (go_simp; done) | (go_simp; with_reducible rfl)
        try simp only [Act.put, List.setIfInBounds_toArray, List.set_cons_zero, List.set_cons_succ]
        refine wpAnyH_take_dst (i := 18) (v := ?v18a) (d := 76) rfl rfl (by kernel_rfl) (by kernel_rfl) (by kernel_rfl) (fun _ _ _ h => h) (Or.inl ⟨by rfl, ?hy18a⟩) (by assumption) ?r18a
        case hy18a => intro w' hSw; have k0 := hSw.mv.2; have k1 := hSw.box.2; have k2 := hSw.pv; clear hSw; first | (go_simp; done) | (go_simp; with_reducible rfl)
        try simp only [Act.put, List.setIfInBounds_toArray, List.set_cons_zero, List.set_cons_succ]
        refine wpAnyH_done (by kernel_rfl) ?_ _
        clear hH0
        go_wp2_with fail
        go_roundw
        case rel => exact ⟨k + 1, by omega, by go_num, ⟨hS5.box, hS5.lo⟩⟩
        case measure => simp [intOf]; omega
      · have hq : (0 : Int) < (k : Int) := by omega
        obtain ⟨b', p, hBe', hbl', hx', hr'⟩ := mvOne (k := k - 1) HB.out HML.out HSO.out.lo (by omega)
        have hbb : b = b' := by rw [hBe] at hBe'; injection hBe' with h; injection h with h _ _
        subst hbb
        subst hBe
        have hpd : ¬ m.day ≤ p.day := by
          have h1 : k - 1 < ms.length := by have := HML.out; omega
          have h2 : k < ms.length := by have := HML.out; omega
          have h3 := List.pairwise_iff_getElem.1 HG.out.up (k - 1) k h1 h2 (by omega)
          rw [List.getElem?_eq_getElem h1] at hx'
          rw [List.getElem?_eq_getElem h2] at hx
          injection hx with hx
          injection hx' with hx'
          subst hx hx'
          simp only at h3
          omega
        have HPR : Hid (wr.cell? ⟨b, (k - 1) * 5, none⟩ = some (I p.day)) := Lib.hid (hr' 0 _ rfl)
        have hwk : IntKind.i64.wrap ((k : Int) - 1) = ((k - 1 : Nat) : Int) := by rw [IntKind.wrap_i64]; omega
        have i2 : (0 : Int) ≤ ((k - 1 : Nat) : Int) := by omega
        have i3 : ((k - 1 : Nat) : Int) < (mn : Int) := by omega
        have i4 : k - 1 < mn := by omega
        clear hr hr' hx hx' hk0
        go_wp2_with fail
        have hS1 : SoL w #[.slice A n c, I mi, I le, .string zo, I ga, I fo, .slice (some ⟨b, 0, none⟩) mn e] wr.heap.size #[I m.day, .bool m.drop, I m.toDay, I m.minute, I m.length] (fun w' => w'.cell? ⟨b, (k - 1) * 5, none⟩ = some (I p.day)) (wr.alloc (.cells #[I m.day, .bool m.drop, I m.toDay, I m.minute, I m.length] 25)).drew := ⟨HSV.out.box, HRV.out, (World.cell?_of_block (a := ⟨b, (k - 1) * 5, none⟩) (HBV.out.block b hbl)).trans HPR.out, HSV.out.lo.drew⟩
        refine wp_region_held_drew (S := SoL w #[.slice A n c, I mi, I le, .string zo, I ga, I fo, .slice (some ⟨b, 0, none⟩) mn e] wr.heap.size #[I m.day, .bool m.drop, I m.toDay, I m.minute, I m.length] (fun w' => w'.cell? ⟨b, (k - 1) * 5, none⟩ = some (I p.day))) (by kernel_rfl) hS1 (fun hH0 => ?_)
        refine wpAnyH_take_dst (i := 0) (v := _) (d := 58) rfl rfl (by kernel_rfl) (by kernel_rfl) (by kernel_rfl) (fun _ _ _ h => h) (yieldsIf_load_Row (by rfl) _ _ rfl wr.heap.size rfl #[I m.day, .bool m.drop, I m.toDay, I m.minute, I m.length] _ (fun w' h => h.mv) Tryz.underlying25 rfl (mvv_size m)) (by assumption) ?r0b
        try simp only [Act.put, List.setIfInBounds_toArray, List.set_cons_zero, List.set_cons_succ]
        refine wpAnyH_ready (rs := [1]) (by kernel_rfl) (by simp) ?_
        refine AllReadyH.cons rfl (fun K hK => ?_) AllReadyH.nil
        go_simp
        refine (moveOK_yes m _ HGD.out).mono ?_
        rintro v5 w5 ⟨rfl, hb5⟩
        have hS5 := hS1.grow hb5 ((World.cell?_of_block (a := ⟨b, (k - 1) * 5, none⟩) (hb5.block b (by show b < (wr.alloc _).heap.size; simp; omega))).trans hS1.pv)
        clear hb5
        refine hK.out _ _ hS5 (fun hHeld => ?_)
        clear hHeld
        clear hK K
        try simp only [Act.put, List.setIfInBounds_toArray, List.set_cons_zero, List.set_cons_succ]
        refine wpAnyH_take_dst (i := 2) (v := ?v2b) (d := 60) rfl rfl (by kernel_rfl) (by kernel_rfl) (by kernel_rfl) (fun _ _ _ h => h) (Or.inl ⟨by rfl, ?hy2b⟩) (by assumption) ?r2b
        case hy2b => intro w' hSw; have k0 := hSw.mv.2; have k1 := hSw.box.2; have k2 := hSw.pv; clear hSw; first | (go_simp; done) | (go_simp; with_reducible rfl)
        try simp only [Act.put, List.setIfInBounds_toArray, List.set_cons_zero, List.set_cons_succ]
        refine wpAnyH_take_dst (i := 3) (v := ?v3b) (d := 61) rfl rfl (by kernel_rfl) (by kernel_rfl) (by kernel_rfl) (fun _ _ _ h => h) (Or.inl ⟨by rfl, ?hy3b⟩) (by assumption) ?r3b
        case hy3b => intro w' hSw; have k0 := hSw.mv.2; have k1 := hSw.box.2; have k2 := hSw.pv; clear hSw; first | (go_simp; done) | (go_simp; with_reducible rfl)
        try simp only [Act.put, List.setIfInBounds_toArray, List.set_cons_zero, List.set_cons_succ]
        refine wpAnyH_take_dst (i := 4) (v := ?v4b) (d := 62) rfl rfl (by kernel_rfl) (by kernel_rfl) (by kernel_rfl) (fun _ _ _ h => h) (Or.inl ⟨by rfl, ?hy4b⟩) (by assumption) ?r4b
        case hy4b => intro w' hSw; have k0 := hSw.mv.2; have k1 := hSw.box.2; have k2 := hSw.pv; clear hSw; first | (go_simp; done) | (go_simp; with_reducible rfl)
        try simp only [Act.put, List.setIfInBounds_toArray, List.set_cons_zero, List.set_cons_succ]
        refine wpAnyH_take_dst (i := 5) (v := .bool true) (d := 63) rfl rfl (by kernel_rfl) (by kernel_rfl) (by kernel_rfl) (fun _ _ _ h => h) (Or.inl ⟨by rfl, ?hy5b⟩) (by assumption) ?r5b
        case hy5b => intro w' hSw; clear hSw; first | (go_simp; done) | (go_simp; omega) | (go_simp; rw [decide_eq_true hq]; done) | (go_simp; rw [decide_eq_true hq]; rfl)
        try simp only [Act.put, List.setIfInBounds_toArray, List.set_cons_zero, List.set_cons_succ]
        refine wpAnyH_take_dst (i := 6) (v := ?v6b) (d := 64) rfl rfl (by kernel_rfl) (by kernel_rfl) (by kernel_rfl) (fun _ _ _ h => h) (Or.inl ⟨by rfl, ?hy6b⟩) (by assumption) ?r6b
        case hy6b => intro w' hSw; have k0 := hSw.mv.2; have k1 := hSw.box.2; have k2 := hSw.pv; clear hSw; first | (go_simp; done) | (go_simp; with_reducible rfl)
        try simp only [Act.put, List.setIfInBounds_toArray, List.set_cons_zero, List.set_cons_succ]
        refine wpAnyH_take_dst (i := 7) (v := ?v7b) (d := 65) rfl rfl (by kernel_rfl) (by kernel_rfl) (by kernel_rfl) (fun _ _ _ h => h) (Or.inl ⟨by rfl, ?hy7b⟩) (by assumption) ?r7b
        case hy7b => intro w' hSw; have k0 := hSw.mv.2; have k1 := hSw.box.2; have k2 := hSw.pv; clear hSw; first | (go_simp; done) | (go_simp; with_reducible rfl)
        try simp only [Act.put, List.setIfInBounds_toArray, List.set_cons_zero, List.set_cons_succ]
        refine wpAnyH_take_dst (i := 8) (v := ?v8b) (d := 66) rfl rfl (by kernel_rfl) (by kernel_rfl) (by kernel_rfl) (fun _ _ _ h => h) (Or.inl ⟨by rfl, ?hy8b⟩) (by assumption) ?r8b
        case hy8b => intro w' hSw; have k0 := hSw.mv.2; have k1 := hSw.box.2; have k2 := hSw.pv; clear hSw; first | (go_simp; done) | (go_simp; with_reducible rfl)
        try simp only [Act.put, List.setIfInBounds_toArray, List.set_cons_zero, List.set_cons_succ]
        refine wpAnyH_take_dst (i := 9) (v := ?v9b) (d := 67) rfl rfl (by kernel_rfl) (by kernel_rfl) (by kernel_rfl) (fun _ _ _ h => h) (Or.inl ⟨by rfl, ?hy9b⟩) (by assumption) ?r9b
        case hy9b => intro w' hSw; have k0 := hSw.mv.2; have k1 := hSw.box.2; have k2 := hSw.pv; clear hSw; first | (go_simp; done) | (go_simp; with_reducible rfl)
        try simp only [Act.put, List.setIfInBounds_toArray, List.set_cons_zero, List.set_cons_succ]
        refine wpAnyH_take_dst (i := 10) (v := ?v10b) (d := 68) rfl rfl (by kernel_rfl) (by kernel_rfl) (by kernel_rfl) (fun _ _ _ h => h) (Or.inl ⟨by rfl, ?hy10b⟩) (by assumption) ?r10b
        case hy10b => intro w' hSw; have k0 := hSw.mv.2; have k1 := hSw.box.2; have k2 := hSw.pv; clear hSw; first | (go_simp; done) | (go_simp; with_reducible rfl)
        try simp only [Act.put, List.setIfInBounds_toArray, List.set_cons_zero, List.set_cons_succ]
        refine wpAnyH_take_dst (i := 11) (v := ?v11b) (d := 69) rfl rfl (by kernel_rfl) (by kernel_rfl) (by kernel_rfl) (fun _ _ _ h => h) (Or.inl ⟨by rfl, ?hy11b⟩) (by assumption) ?r11b
        case hy11b => intro w' hSw; have k0 := hSw.mv.2; have k1 := hSw.box.2; have k2 := hSw.pv; clear hSw; first | (go_simp; done) | (go_simp; with_reducible rfl)
        try simp only [Act.put, List.setIfInBounds_toArray, List.set_cons_zero, List.set_cons_succ]
        refine wpAnyH_take_dst (i := 12) (v := ?v12b) (d := 70) rfl rfl (by kernel_rfl) (by kernel_rfl) (by kernel_rfl) (fun _ _ _ h => h) (Or.inl ⟨by rfl, ?hy12b⟩) (by assumption) ?r12b
        case hy12b => intro w' hSw; have k0 := hSw.mv.2; have k1 := hSw.box.2; have k2 := hSw.pv; clear hSw; first | (go_simp; done) | (go_simp; with_reducible rfl)
        try simp only [Act.put, List.setIfInBounds_toArray, List.set_cons_zero, List.set_cons_succ]
        refine wpAnyH_take_dst (i := 13) (v := ?v13b) (d := 71) rfl rfl (by kernel_rfl) (by kernel_rfl) (by kernel_rfl) (fun _ _ _ h => h) (Or.inl ⟨by rfl, ?hy13b⟩) (by assumption) ?r13b
        case hy13b => intro w' hSw; have k0 := hSw.mv.2; have k1 := hSw.box.2; have k2 := hSw.pv; clear hSw; first | (go_simp; done) | (go_simp; with_reducible rfl)
        try simp only [Act.put, List.setIfInBounds_toArray, List.set_cons_zero, List.set_cons_succ]
        refine wpAnyH_take_dst (i := 14) (v := ?v14b) (d := 72) rfl rfl (by kernel_rfl) (by kernel_rfl) (by kernel_rfl) (fun _ _ _ h => h) (Or.inl ⟨by rfl, ?hy14b⟩) (by assumption) ?r14b
        case hy14b => intro w' hSw; have k0 := hSw.mv.2; have k1 := hSw.box.2; have k2 := hSw.pv; clear hSw; first | (go_simp; done) | (go_simp; with_reducible rfl)
        try simp only [Act.put, List.setIfInBounds_toArray, List.set_cons_zero, List.set_cons_succ]
        refine wpAnyH_take_dst (i := 15) (v := ?v15b) (d := 73) rfl rfl (by kernel_rfl) (by kernel_rfl) (by kernel_rfl) (fun _ _ _ h => h) (Or.inl ⟨by rfl, ?hy15b⟩) (by assumption) ?r15b
        case hy15b => intro w' hSw; have k0 := hSw.mv.2; have k1 := hSw.box.2; have k2 := hSw.pv; clear hSw; first | (go_simp; done) | (go_simp; with_reducible rfl)
        try simp only [Act.put, List.setIfInBounds_toArray, List.set_cons_zero, List.set_cons_succ]
        refine wpAnyH_take_dst (i := 16) (v := .bool false) (d := 74) rfl rfl (by kernel_rfl) (by kernel_rfl) (by kernel_rfl) (fun _ _ _ h => h) (Or.inl ⟨by rfl, ?hy16b⟩) (by assumption) ?r16b
        case hy16b => intro w' hSw; clear hSw; first | (go_simp; done) | (go_simp; with_reducible rfl) | (go_simp; simp [hpd]; done) | (go_simp; simp; omega)
        try simp only [Act.put, List.setIfInBounds_toArray, List.set_cons_zero, List.set_cons_succ]
        refine wpAnyH_take_dst (i := 17) (v := ?v17b) (d := 75) rfl rfl (by kernel_rfl) (by kernel_rfl) (by kernel_rfl) (fun _ _ _ h => h) (Or.inl ⟨by rfl, ?hy17b⟩) (by assumption) ?r17b
        case hy17b => intro w' hSw; have k0 := hSw.mv.2; have k1 := hSw.box.2; have k2 := hSw.pv; clear hSw; first | (go_simp; done) | (go_simp; with_reducible rfl)
        try simp only [Act.put, List.setIfInBounds_toArray, List.set_cons_zero, List.set_cons_succ]
        refine wpAnyH_take_dst (i := 18) (v := ?v18b) (d := 76) rfl rfl (by kernel_rfl) (by kernel_rfl) (by kernel_rfl) (fun _ _ _ h => h) (Or.inl ⟨by rfl, ?hy18b⟩) (by assumption) ?r18b
        case hy18b => intro w' hSw; have k0 := hSw.mv.2; have k1 := hSw.box.2; have k2 := hSw.pv; clear hSw; first | (go_simp; done) | (go_simp; with_reducible rfl)
        try simp only [Act.put, List.setIfInBounds_toArray, List.set_cons_zero, List.set_cons_succ]
        refine wpAnyH_done (by kernel_rfl) ?_ _
        clear hH0
        go_wp2_with fail
        go_roundw
        case rel => exact ⟨k + 1, by omega, by go_num, ⟨hS5.box, hS5.lo⟩⟩
        case measure => simp [intOf]; omega
    · go_wp2_with fail
      go_ret
      exact ⟨rfl, HSO.out.lo⟩
set_option maxRecDepth 10000 in
set_option maxHeartbeats 2000000 in
theorem seriesValid_yes (s : Ser) (A B : Option Addr) (c e n mn cb cc : Nat) (ns : List NdV) (xs : List CalV) (w : World) (hA : RulesAt w w.heap.size A ns) (hl : ns.length = n) (hok : RuleOK ns) (hB : MovesAt w w.heap.size B s.moves) (hml : s.moves.length = mn) (h : SerGood s) (hc : CalsAt w w.heap.size cb xs) :
    Calls Tryz.prog 22 #[.agg #[.slice A n c, I s.minute, I s.length, .string s.zone, I s.gap, I s.fold, .slice B mn e], .slice (some ⟨cb, 0, none⟩) 3 cc] w (Gives (I 0) w) := by
  have HS0 : Hid (SoS w #[.slice A n c, I s.minute, I s.length, .string s.zone, I s.gap, I s.fold, .slice B mn e] (w.alloc (.cells #[.slice A n c, I s.minute, I s.length, .string s.zone, I s.gap, I s.fold, .slice B mn e] 30))) := Lib.hid ⟨Row.new w _ _, below_var w _⟩
  have HV := Lib.hid (fun w' (hb : Below w.heap.size w w') => ruleValid_yes A n c cb cc ns xs w' ((hA.keep hb).more hb.size) hl hok ((hc.keep hb).more hb.size))
  have HSD := Lib.hid (fun w' (hb : Below w.heap.size w w') => sound_yes s A B c e n mn ns w' ((hA.keep hb).more hb.size) hl hok ((hB.keep hb).more hb.size) hml h)
  have q9 : ¬ (32 : Int) < (s.zone.size : Int) := by have := h.zo; omega
  have q10 : ¬ (64 : Int) < (mn : Int) := by have := h.ml; omega
  obtain ⟨rule, mi, le, zo, ga, fo, ms⟩ := s
  simp only at q9 HS0 HSD ⊢
  clear hA hl hok hB hml h hc
  go_enter Tryz.func22, Tryz.ntmps22
  go_wp2_with fail
  refine (HV.out _ HS0.out.lo).mono ?_
  rintro e1 w1 ⟨rfl, hb1⟩
  have HS1 := Lib.hid (HS0.out.below hb1)
  have g0 := HS1.out.box.2
  clear hb1 HV HS0
  go_wp2_with fail
  refine (HSD.out _ HS1.out.lo).mono ?_
  rintro e1 w2 ⟨rfl, hb2⟩
  have HS2 := Lib.hid (HS1.out.below hb2)
  clear hb2 HSD g0
  go_wp2_with fail
  go_ret
  exact ⟨rfl, HS2.out.lo⟩
end Go.Proofs.YtenbgpcdoljkgaaGreatDoor

/- kalendsref20.Same of letters that differ in numbers alone. -/
namespace Go.Proofs.YtenbgpcdoljkgaaGreatDoor
open Go Go.RowKit

/-- Two letters that differ in numbers alone. -/
structure Twin (a b : Lt) : Prop where
  kind : a.kind = b.kind
  src : a.src = b.src
  dst : a.dst = b.dst
  move : a.move = b.move
  wfrom : a.wfrom = b.wfrom
  wto : a.wto = b.wto
  ref : a.ref = b.ref
  cells : a.cells = b.cells
  series : a.series = b.series
  len : a.ref.length = 32
/-- Both letters, as they lie. -/
structure TwoLt (w : World) (a b : Lt) (s t : Sl) (wr : World) : Prop where
  ra : Row wr w.heap.size (ltVal a s)
  rb : Row wr (w.heap.size + 1) (ltVal b t)
  lo : Below w.heap.size w wr
theorem TwoLt.below {w wr w' : World} {a b : Lt} {s t : Sl} (h : TwoLt w a b s t wr) (hb : Below wr.heap.size wr w') : TwoLt w a b s t w' := ⟨h.ra.keep hb, h.rb.keep hb, below_trans h.lo hb⟩
theorem TwoLt.drew {w wr : World} {a b : Lt} {s t : Sl} (h : TwoLt w a b s t wr) : TwoLt w a b s t wr.drew := ⟨h.ra, h.rb, h.lo.drew⟩
theorem numB_off (k : Nat) (hk : k < 17) : numB k = (numOff k).isSome :=
  all17 (p := fun k => numB k = (numOff k).isSome) (by refine ⟨?_, ?_, ?_, ?_, ?_, ?_, ?_, ?_, ?_, ?_, ?_, ?_, ?_, ?_, ?_, ?_, ?_⟩ <;> rfl) k hk
attribute [local go_sem] ltVal_get lt_get0 lt_get1 lt_get2 lt_get12 lt_get13 lt_get14 lt_get15 lt_get16 lt_get17 lt_get18 lt_get19 lt_get20 lt_get21 lt_get22 lt_get23 lt_get27 lt_get28 lt_get29
set_option maxRecDepth 10000 in
set_option maxHeartbeats 4000000 in
theorem refSame_twin (a b : Lt) (s t : Sl) (w : World) (h : Twin a b)
    (hc : ∀ w', Below w.heap.size w w' → Calls Tryz.prog 45 #[.slice s.C a.cells.length s.e, .slice t.C b.cells.length t.e] w' (Gives (.bool true) w'))
    (hs : ∀ w', Below w.heap.size w w' → Calls Tryz.prog 46 #[.agg (seC a.series s.A s.B s.c s.d), .agg (seC b.series t.A t.B t.c t.d)] w' (Gives (.bool true) w')) :
    Calls Tryz.prog 16 #[.agg (ltVal a s), .agg (ltVal b t)] w (Gives (.bool (numsEq a b)) w) := by
  have HRA := Lib.hid ((Row.new w (ltVal a s) 36).keep (below_var _ (.cells (ltVal b t) 36)))
  have HRB : Hid (Row ((w.alloc (.cells (ltVal a s) 36)).alloc (.cells (ltVal b t) 36)) (w.heap.size + 1) (ltVal b t)) := Lib.hid (by have := Row.new (w.alloc (.cells (ltVal a s) 36)) (ltVal b t) 36; rwa [World.size_alloc] at this)
  have HB0 := Lib.hid (below_trans (below_var w (.cells (ltVal a s) 36)) (below_var _ (.cells (ltVal b t) 36)))
  have HC := Lib.hid hc
  have HSR := Lib.hid hs
  have HT := Lib.hid h
  have h0 : (a.kind == b.kind) = true := by rw [h.kind]; exact beq_self_eq_true _
  have h1 : (a.src == b.src) = true := by rw [h.src]; exact beq_self_eq_true _
  have h2 : (a.dst == b.dst) = true := by rw [h.dst]; exact beq_self_eq_true _
  have n0 : (a.kind != b.kind) = false := by rw [h.kind]; exact ints_same _
  have n1 : (a.src != b.src) = false := by rw [h.src]; exact ints_same _
  have n2 : (a.dst != b.dst) = false := by rw [h.dst]; exact ints_same _
  have hlb : b.ref.length = 32 := by rw [← h.ref]; exact h.len
  have heqd : ∀ W, (binOp .neq 34 (.agg (refCells a.ref).toArray) (.agg (refCells b.ref).toArray)).run Tryz.prog W = .ok (.bool false) W := fun W => by rw [neq_digest a.ref b.ref h.len hlb W, h.ref]; simp
  have heqm : ∀ W, (binOp .neq 25 (.agg #[I a.move.day, .bool a.move.drop, I a.move.toDay, I a.move.minute, I a.move.length]) (.agg #[I b.move.day, .bool b.move.drop, I b.move.toDay, I b.move.minute, I b.move.length])).run Tryz.prog W = .ok (.bool false) W := fun W => by rw [h.move]; exact neq_mv_same _ W
  have heqw : ∀ W, (binOp .neq 32 (.agg #[I a.wfrom, I a.wto]) (.agg #[I b.wfrom, I b.wto])).run Tryz.prog W = .ok (.bool false) W := fun W => by rw [neq_span, h.wfrom, h.wto]; simp
  have h32a : (refCells a.ref).length = 32 := by simp [refCells, h.len]
  have h32b : (refCells b.ref).length = 32 := by simp [refCells, hlb]
  have HDIA : Hid ((Tryz.prog.info? 34).map (·.size) = some (refCells a.ref).length) := Lib.hid (by rw [h32a]; kernel_rfl)
  have HDIB : Hid ((Tryz.prog.info? 34).map (·.size) = some (refCells b.ref).length) := Lib.hid (by rw [h32b]; kernel_rfl)
  have HDA : Hid (World.rangeAt _ w.heap.size 30 (refCells a.ref)) := Lib.hid fun j v hv => (HRA.out.2 (30 + j)).trans ((lt_getRef a _ _ _ j).trans hv)
  have HDB : Hid (World.rangeAt _ (w.heap.size + 1) 30 (refCells b.ref)) := Lib.hid fun j v hv => (HRB.out.2 (30 + j)).trans ((lt_getRef b _ _ _ j).trans hv)
  have HLA := Lib.hid h.len
  have HLB := Lib.hid hlb
  clear hc hs h h32a h32b hlb
  go_enter Tryz.func16, Tryz.ntmps16
  go_wp2_with (first
    | (with_reducible refine g_load 34 ?_; refine wpList_load_at rfl _ _ rfl w.heap.size 30 rfl (refCells a.ref) HDA.out _ Tryz.underlying34 rfl HDIA.out ?_)
    | (with_reducible refine g_load 34 ?_; refine wpList_load_at rfl _ _ rfl (w.heap.size + 1) 30 rfl (refCells b.ref) HDB.out _ Tryz.underlying34 rfl HDIB.out ?_))
  have HT0 := Lib.hid (TwoLt.mk HRA.out HRB.out HB0.out)
  obtain ⟨W0, hW0⟩ : ∃ W, (w.alloc (.cells (ltVal a s) 36)).alloc (.cells (ltVal b t) 36) = W := ⟨_, rfl⟩
  rw [hW0] at HT0 ⊢
  clear hW0 HRA HRB HB0 HDA HDB
  go_loopw [5] (fun i wr => ∃ k : Nat, k ≤ 17 ∧ i = I k ∧ TwoLt w a b s t wr ∧ ∀ j, j < k → ((numOff j).isNone || (numF a j == numF b j)) = true) (fun i _ => 17 - (intOf i).toNat)
  case atStart => exact ⟨0, Nat.zero_le _, rfl, HT0.out, fun j hj => absurd hj (Nat.not_lt_zero _)⟩
  case round =>
    obtain ⟨k, hk, rfl, hS, hall⟩ := hrel
    have HS := Lib.hid hS
    have HALL := Lib.hid hall
    clear hS hall HT0
    by_cases hlt : (k : Int) < 17
    · have hk17 : k < 17 := by omega
      obtain ⟨u, hu⟩ : ∃ u, numB k = u := ⟨_, rfl⟩
      have HU := Lib.hid hu
      clear hu
      cases u with
      | false =>
        go_wp2_with fail
        have hS1 := HS.out.drew
        refine wp_region_held_drew (S := TwoLt w a b s t) (by kernel_rfl) hS1 (fun hH0 => ?_)
        refine wpAnyH_take_dst (i := 0) (v := ?v0q2) (d := 50) rfl rfl (by kernel_rfl) (by kernel_rfl) (by kernel_rfl) (fun _ _ _ h => h) (Or.inl ⟨by rfl, ?hy0q2⟩) (by assumption) ?r0q2
        case hy0q2 => intro w' hSw; first | (go_simp; done) | (go_simp; with_reducible rfl)
        try simp only [Act.put, List.setIfInBounds_toArray, List.set_cons_zero, List.set_cons_succ]
        refine wpAnyH_ready (rs := [1]) (by kernel_rfl) (by simp) ?_
        refine AllReadyH.cons rfl (fun K hK => ?_) AllReadyH.nil
        go_simp
        refine (numeric_any k _).mono ?_
        rintro x w2 ⟨rfl, hw2⟩
        subst hw2
        rw [HU.out]
        refine hK.out _ _ hS1 (fun hHeld => ?_)
        clear hHeld
        clear hK K
        try simp only [Act.put, List.setIfInBounds_toArray, List.set_cons_zero, List.set_cons_succ]
        refine wpAnyH_take_dst (i := 2) (v := ?v2q2) (d := 52) rfl rfl (by kernel_rfl) (by kernel_rfl) (by kernel_rfl) (fun _ _ _ h => h) (Or.inl ⟨by rfl, ?hy2q2⟩) (by assumption) ?r2q2
        case hy2q2 => intro w' hSw; first | (go_simp; done) | (go_simp; with_reducible rfl)
        try simp only [Act.put, List.setIfInBounds_toArray, List.set_cons_zero, List.set_cons_succ]
        refine wpAnyH_take_dst (i := 3) (v := undef) (d := 53) rfl rfl (by kernel_rfl) (by kernel_rfl) (by kernel_rfl) (fun _ _ _ h => h) (Or.inr ⟨by rfl, rfl⟩) (by assumption) ?r3q2
        try simp only [Act.put, List.setIfInBounds_toArray, List.set_cons_zero, List.set_cons_succ]
        refine wpAnyH_take_dst (i := 4) (v := undef) (d := 54) rfl rfl (by kernel_rfl) (by kernel_rfl) (by kernel_rfl) (fun _ _ _ h => h) (Or.inr ⟨by rfl, rfl⟩) (by assumption) ?r4q2
        try simp only [Act.put, List.setIfInBounds_toArray, List.set_cons_zero, List.set_cons_succ]
        refine wpAnyH_take_dst (i := 5) (v := undef) (d := 55) rfl rfl (by kernel_rfl) (by kernel_rfl) (by kernel_rfl) (fun _ _ _ h => h) (Or.inr ⟨by rfl, rfl⟩) (by assumption) ?r5q2
        try simp only [Act.put, List.setIfInBounds_toArray, List.set_cons_zero, List.set_cons_succ]
        refine wpAnyH_take_dst (i := 6) (v := undef) (d := 56) rfl rfl (by kernel_rfl) (by kernel_rfl) (by kernel_rfl) (fun _ _ _ h => h) (Or.inr ⟨by rfl, rfl⟩) (by assumption) ?r6q2
        try simp only [Act.put, List.setIfInBounds_toArray, List.set_cons_zero, List.set_cons_succ]
        refine wpAnyH_take_dst (i := 7) (v := undef) (d := 57) rfl rfl (by kernel_rfl) (by kernel_rfl) (by kernel_rfl) (fun _ _ _ h => h) (Or.inr ⟨by rfl, rfl⟩) (by assumption) ?r7q2
        try simp only [Act.put, List.setIfInBounds_toArray, List.set_cons_zero, List.set_cons_succ]
        refine wpAnyH_take_dst (i := 8) (v := undef) (d := 58) rfl rfl (by kernel_rfl) (by kernel_rfl) (by kernel_rfl) (fun _ _ _ h => h) (Or.inr ⟨by rfl, rfl⟩) (by assumption) ?r8q2
        try simp only [Act.put, List.setIfInBounds_toArray, List.set_cons_zero, List.set_cons_succ]
        refine wpAnyH_take_dst (i := 9) (v := undef) (d := 59) rfl rfl (by kernel_rfl) (by kernel_rfl) (by kernel_rfl) (fun _ _ _ h => h) (Or.inr ⟨by rfl, rfl⟩) (by assumption) ?r9q2
        try simp only [Act.put, List.setIfInBounds_toArray, List.set_cons_zero, List.set_cons_succ]
        refine wpAnyH_take_dst (i := 10) (v := ?v10q2) (d := 60) rfl rfl (by kernel_rfl) (by kernel_rfl) (by kernel_rfl) (fun _ _ _ h => h) (Or.inl ⟨by rfl, ?hy10q2⟩) (by assumption) ?r10q2
        case hy10q2 => intro w' hSw; first | (go_simp; done) | (go_simp; with_reducible rfl)
        try simp only [Act.put, List.setIfInBounds_toArray, List.set_cons_zero, List.set_cons_succ]
        refine wpAnyH_done (by kernel_rfl) ?_ _
        clear hH0
        go_wp2_with fail
        go_roundw
        case rel => exact ⟨k + 1, by omega, by go_num, hS1, fun j hj => by
            by_cases e : j = k
            · subst e
              have h1 := numB_off j hk17
              rw [HU.out] at h1
              cases h2 : numOff j with
              | none => rfl
              | some o => rw [h2] at h1; cases h1
            · exact HALL.out j (by omega)⟩
        case measure => simp [intOf]; omega
      | true =>
        obtain ⟨v, hv⟩ : ∃ v, (numF a k == numF b k) = v := ⟨_, rfl⟩
        have HV := Lib.hid hv
        have hv' : (numF a k != numF b k) = !v := by rw [← hv]; rfl
        clear hv
        cases v with
        | true =>
          go_wp2_with fail
          have hS1 := HS.out.drew
          refine wp_region_held_drew (S := TwoLt w a b s t) (by kernel_rfl) hS1 (fun hH0 => ?_)
          refine wpAnyH_take_dst (i := 0) (v := ?v0q3) (d := 50) rfl rfl (by kernel_rfl) (by kernel_rfl) (by kernel_rfl) (fun _ _ _ h => h) (Or.inl ⟨by rfl, ?hy0q3⟩) (by assumption) ?r0q3
          case hy0q3 => intro w' hSw; first | (go_simp; done) | (go_simp; with_reducible rfl)
          try simp only [Act.put, List.setIfInBounds_toArray, List.set_cons_zero, List.set_cons_succ]
          refine wpAnyH_ready (rs := [1]) (by kernel_rfl) (by simp) ?_
          refine AllReadyH.cons rfl (fun K hK => ?_) AllReadyH.nil
          go_simp
          refine (numeric_any k _).mono ?_
          rintro x w2 ⟨rfl, hw2⟩
          subst hw2
          rw [HU.out]
          refine hK.out _ _ hS1 (fun hHeld => ?_)
          clear hHeld
          clear hK K
          try simp only [Act.put, List.setIfInBounds_toArray, List.set_cons_zero, List.set_cons_succ]
          refine wpAnyH_take_dst (i := 2) (v := ?v2q3) (d := 52) rfl rfl (by kernel_rfl) (by kernel_rfl) (by kernel_rfl) (fun _ _ _ h => h) (Or.inl ⟨by rfl, ?hy2q3⟩) (by assumption) ?r2q3
          case hy2q3 => intro w' hSw; first | (go_simp; done) | (go_simp; with_reducible rfl)
          try simp only [Act.put, List.setIfInBounds_toArray, List.set_cons_zero, List.set_cons_succ]
          refine wpAnyH_take_dst (i := 3) (v := _) (d := 53) rfl rfl (by kernel_rfl) (by kernel_rfl) (by kernel_rfl) (fun _ _ _ h => h) (yieldsIf_load_Row (by rfl) _ _ rfl w.heap.size rfl (ltVal a s) _ (fun w' h => h.ra) Tryz.underlying36 rfl (size62 _ _ HLA.out)) (by assumption) ?r3q3
          try simp only [Act.put, List.setIfInBounds_toArray, List.set_cons_zero, List.set_cons_succ]
          refine wpAnyH_take_dst (i := 4) (v := ?v4q3) (d := 54) rfl rfl (by kernel_rfl) (by kernel_rfl) (by kernel_rfl) (fun _ _ _ h => h) (Or.inl ⟨by rfl, ?hy4q3⟩) (by assumption) ?r4q3
          case hy4q3 => intro w' hSw; first | (go_simp; done) | (go_simp; with_reducible rfl)
          try simp only [Act.put, List.setIfInBounds_toArray, List.set_cons_zero, List.set_cons_succ]
          refine wpAnyH_take_dst (i := 6) (v := _) (d := 56) rfl rfl (by kernel_rfl) (by kernel_rfl) (by kernel_rfl) (fun _ _ _ h => h) (yieldsIf_load_Row (by rfl) _ _ rfl (w.heap.size + 1) rfl (ltVal b t) _ (fun w' h => h.rb) Tryz.underlying36 rfl (size62 _ _ HLB.out)) (by assumption) ?r6q3
          try simp only [Act.put, List.setIfInBounds_toArray, List.set_cons_zero, List.set_cons_succ]
          refine wpAnyH_take_dst (i := 7) (v := ?v7q3) (d := 57) rfl rfl (by kernel_rfl) (by kernel_rfl) (by kernel_rfl) (fun _ _ _ h => h) (Or.inl ⟨by rfl, ?hy7q3⟩) (by assumption) ?r7q3
          case hy7q3 => intro w' hSw; first | (go_simp; done) | (go_simp; with_reducible rfl)
          try simp only [Act.put, List.setIfInBounds_toArray, List.set_cons_zero, List.set_cons_succ]
          refine wpAnyH_ready (rs := [5]) (by kernel_rfl) (by simp) ?_
          refine AllReadyH.cons rfl (fun K hK => ?_) AllReadyH.nil
          go_simp
          refine (refNumber_any a s k hk17 HU.out _).mono ?_
          rintro x w3 ⟨rfl, hb3⟩
          have hS3 := hS1.below hb3
          clear hb3
          refine hK.out _ _ hS3 (fun hHeld => ?_)
          clear hHeld
          clear hK K
          try simp only [Act.put, List.setIfInBounds_toArray, List.set_cons_zero, List.set_cons_succ]
          refine wpAnyH_ready (rs := [8]) (by kernel_rfl) (by simp) ?_
          refine AllReadyH.cons rfl (fun K hK => ?_) AllReadyH.nil
          go_simp
          refine (refNumber_any b t k hk17 HU.out _).mono ?_
          rintro x w4 ⟨rfl, hb4⟩
          have hS4 := hS3.below hb4
          clear hb4
          refine hK.out _ _ hS4 (fun hHeld => ?_)
          clear hHeld
          clear hK K
          try simp only [Act.put, List.setIfInBounds_toArray, List.set_cons_zero, List.set_cons_succ]
          refine wpAnyH_take_dst (i := 9) (v := ?v9q3) (d := 59) rfl rfl (by kernel_rfl) (by kernel_rfl) (by kernel_rfl) (fun _ _ _ h => h) (Or.inl ⟨by rfl, ?hy9q3⟩) (by assumption) ?r9q3
          case hy9q3 => intro w' hSw; first | (go_simp; done) | (go_simp; with_reducible rfl)
          try simp only [Act.put, List.setIfInBounds_toArray, List.set_cons_zero, List.set_cons_succ]
          refine wpAnyH_take_dst (i := 10) (v := ?v10q3) (d := 60) rfl rfl (by kernel_rfl) (by kernel_rfl) (by kernel_rfl) (fun _ _ _ h => h) (Or.inl ⟨by rfl, ?hy10q3⟩) (by assumption) ?r10q3
          case hy10q3 => intro w' hSw; first | (go_simp; done) | (go_simp; with_reducible rfl)
          try simp only [Act.put, List.setIfInBounds_toArray, List.set_cons_zero, List.set_cons_succ]
          refine wpAnyH_done (by kernel_rfl) ?_ _
          clear hH0
          go_wp2_with fail
          go_roundw
          case rel => exact ⟨k + 1, by omega, by go_num, hS4, fun j hj => by
            by_cases e : j = k
            · subst e; rw [HV.out, Bool.or_true]
            · exact HALL.out j (by omega)⟩
          case measure => simp [intOf]; omega
        | false =>
          go_wp2_with fail
          have hS1 := HS.out.drew
          refine wp_region_held_drew (S := TwoLt w a b s t) (by kernel_rfl) hS1 (fun hH0 => ?_)
          refine wpAnyH_take_dst (i := 0) (v := ?v0q4) (d := 50) rfl rfl (by kernel_rfl) (by kernel_rfl) (by kernel_rfl) (fun _ _ _ h => h) (Or.inl ⟨by rfl, ?hy0q4⟩) (by assumption) ?r0q4
          case hy0q4 => intro w' hSw; first | (go_simp; done) | (go_simp; with_reducible rfl)
          try simp only [Act.put, List.setIfInBounds_toArray, List.set_cons_zero, List.set_cons_succ]
          refine wpAnyH_ready (rs := [1]) (by kernel_rfl) (by simp) ?_
          refine AllReadyH.cons rfl (fun K hK => ?_) AllReadyH.nil
          go_simp
          refine (numeric_any k _).mono ?_
          rintro x w2 ⟨rfl, hw2⟩
          subst hw2
          rw [HU.out]
          refine hK.out _ _ hS1 (fun hHeld => ?_)
          clear hHeld
          clear hK K
          try simp only [Act.put, List.setIfInBounds_toArray, List.set_cons_zero, List.set_cons_succ]
          refine wpAnyH_take_dst (i := 2) (v := ?v2q4) (d := 52) rfl rfl (by kernel_rfl) (by kernel_rfl) (by kernel_rfl) (fun _ _ _ h => h) (Or.inl ⟨by rfl, ?hy2q4⟩) (by assumption) ?r2q4
          case hy2q4 => intro w' hSw; first | (go_simp; done) | (go_simp; with_reducible rfl)
          try simp only [Act.put, List.setIfInBounds_toArray, List.set_cons_zero, List.set_cons_succ]
          refine wpAnyH_take_dst (i := 3) (v := _) (d := 53) rfl rfl (by kernel_rfl) (by kernel_rfl) (by kernel_rfl) (fun _ _ _ h => h) (yieldsIf_load_Row (by rfl) _ _ rfl w.heap.size rfl (ltVal a s) _ (fun w' h => h.ra) Tryz.underlying36 rfl (size62 _ _ HLA.out)) (by assumption) ?r3q4
          try simp only [Act.put, List.setIfInBounds_toArray, List.set_cons_zero, List.set_cons_succ]
          refine wpAnyH_take_dst (i := 4) (v := ?v4q4) (d := 54) rfl rfl (by kernel_rfl) (by kernel_rfl) (by kernel_rfl) (fun _ _ _ h => h) (Or.inl ⟨by rfl, ?hy4q4⟩) (by assumption) ?r4q4
          case hy4q4 => intro w' hSw; first | (go_simp; done) | (go_simp; with_reducible rfl)
          try simp only [Act.put, List.setIfInBounds_toArray, List.set_cons_zero, List.set_cons_succ]
          refine wpAnyH_take_dst (i := 6) (v := _) (d := 56) rfl rfl (by kernel_rfl) (by kernel_rfl) (by kernel_rfl) (fun _ _ _ h => h) (yieldsIf_load_Row (by rfl) _ _ rfl (w.heap.size + 1) rfl (ltVal b t) _ (fun w' h => h.rb) Tryz.underlying36 rfl (size62 _ _ HLB.out)) (by assumption) ?r6q4
          try simp only [Act.put, List.setIfInBounds_toArray, List.set_cons_zero, List.set_cons_succ]
          refine wpAnyH_take_dst (i := 7) (v := ?v7q4) (d := 57) rfl rfl (by kernel_rfl) (by kernel_rfl) (by kernel_rfl) (fun _ _ _ h => h) (Or.inl ⟨by rfl, ?hy7q4⟩) (by assumption) ?r7q4
          case hy7q4 => intro w' hSw; first | (go_simp; done) | (go_simp; with_reducible rfl)
          try simp only [Act.put, List.setIfInBounds_toArray, List.set_cons_zero, List.set_cons_succ]
          refine wpAnyH_ready (rs := [5]) (by kernel_rfl) (by simp) ?_
          refine AllReadyH.cons rfl (fun K hK => ?_) AllReadyH.nil
          go_simp
          refine (refNumber_any a s k hk17 HU.out _).mono ?_
          rintro x w3 ⟨rfl, hb3⟩
          have hS3 := hS1.below hb3
          clear hb3
          refine hK.out _ _ hS3 (fun hHeld => ?_)
          clear hHeld
          clear hK K
          try simp only [Act.put, List.setIfInBounds_toArray, List.set_cons_zero, List.set_cons_succ]
          refine wpAnyH_ready (rs := [8]) (by kernel_rfl) (by simp) ?_
          refine AllReadyH.cons rfl (fun K hK => ?_) AllReadyH.nil
          go_simp
          refine (refNumber_any b t k hk17 HU.out _).mono ?_
          rintro x w4 ⟨rfl, hb4⟩
          have hS4 := hS3.below hb4
          clear hb4
          refine hK.out _ _ hS4 (fun hHeld => ?_)
          clear hHeld
          clear hK K
          try simp only [Act.put, List.setIfInBounds_toArray, List.set_cons_zero, List.set_cons_succ]
          refine wpAnyH_take_dst (i := 9) (v := ?v9q4) (d := 59) rfl rfl (by kernel_rfl) (by kernel_rfl) (by kernel_rfl) (fun _ _ _ h => h) (Or.inl ⟨by rfl, ?hy9q4⟩) (by assumption) ?r9q4
          case hy9q4 => intro w' hSw; first | (go_simp; done) | (go_simp; with_reducible rfl)
          try simp only [Act.put, List.setIfInBounds_toArray, List.set_cons_zero, List.set_cons_succ]
          refine wpAnyH_take_dst (i := 10) (v := ?v10q4) (d := 60) rfl rfl (by kernel_rfl) (by kernel_rfl) (by kernel_rfl) (fun _ _ _ h => h) (Or.inl ⟨by rfl, ?hy10q4⟩) (by assumption) ?r10q4
          case hy10q4 => intro w' hSw; first | (go_simp; done) | (go_simp; with_reducible rfl)
          try simp only [Act.put, List.setIfInBounds_toArray, List.set_cons_zero, List.set_cons_succ]
          refine wpAnyH_done (by kernel_rfl) ?_ _
          clear hH0
          go_wp2_with fail
          go_ret
          have h1 := numB_off k hk17
          rw [HU.out] at h1
          obtain ⟨o, ho⟩ := Option.isSome_iff_exists.1 h1.symm
          rw [numsEq_no hk17 ho HV.out]
          exact ⟨rfl, hS4.lo⟩
    · have hk17 : k = 17 := by omega
      subst hk17
      have hcells : a.cells.length = a.cells.length := rfl
      have fa : ∀ i, wr.cell? ⟨w.heap.size, i, none⟩ = (ltVal a s)[i]? := HS.out.ra.2
      have fb : ∀ i, wr.cell? ⟨w.heap.size + 1, i, none⟩ = (ltVal b t)[i]? := HS.out.rb.2
      go_wp2_with fail
      refine (HC.out _ HS.out.lo).mono ?_
      rintro x w1 ⟨rfl, hb1⟩
      have HS1 := Lib.hid (HS.out.below hb1)
      clear fa fb hb1
      have fa : ∀ i, w1.cell? ⟨w.heap.size, i, none⟩ = (ltVal a s)[i]? := HS1.out.ra.2
      have fb : ∀ i, w1.cell? ⟨w.heap.size + 1, i, none⟩ = (ltVal b t)[i]? := HS1.out.rb.2
      go_wp2_with fail
      refine (HSR.out _ HS1.out.lo).mono ?_
      rintro x w2 ⟨rfl, hb2⟩
      have HS2 := Lib.hid (HS1.out.below hb2)
      clear fa fb hb2
      go_wp2_with fail
      go_ret
      rw [numsEq_yes HALL.out]
      exact ⟨rfl, HS2.out.lo⟩
end Go.Proofs.YtenbgpcdoljkgaaGreatDoor
