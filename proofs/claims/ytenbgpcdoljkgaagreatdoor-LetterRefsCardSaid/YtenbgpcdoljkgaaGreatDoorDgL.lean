/- A loop over an iterator that makes its elements in memory of its own: the iterator's contract tells each round what its element is; no round leaves early. -/
import Derived.RangeFuncNested
import Derived.RangeFuncBound
import Derived.RangeFuncCalls
import Derived.RangeFuncLeaves
import Derived.RangeFuncBox
import Derived.Test.YtenbgpcdoljkgaaGreatDoorAid
namespace Go.Proofs.YtenbgpcdoljkgaaGreatDoor
open Go Go.RowKit

/-- What is not older than block B lies as it lay. -/
structure KeepsUp (B : Nat) (W W' : World) : Prop where
  size : W.heap.size ≤ W'.heap.size
  block : ∀ k, B ≤ k → k < W.heap.size → W'.heap[k]? = W.heap[k]?
/-- The iterator's contract, called in W at the yield of loop l. -/
def SeqTells {α : Type} (F : Fence) (n : Nat) (P : Program) (g : Nat) (lb : Array Value) (encs : α → Array Value) (R : α → World → Prop) (S : List α → Prop) (W : World) : Prop :=
  ∀ (l : Nat) (J : List α → World → Prop), l < W.heap.size → (∀ xs A B, J xs A → Below W.heap.size A B → J xs B) →
    (∀ pre x A, J pre A → W.heap.size ≤ A.heap.size → R x A → YieldAt F (n - 1) P l (encs x) A fun e B => e = .returned (.bool true) ∧ J (pre ++ [x]) B ∧ KeepsUp W.heap.size A B) →
    J [] W → CallsIn F n P g (#[.func (.yield l) #[] #[]] ++ lb) W fun e W' => (∃ v, e = .returned v) ∧ ∃ xs, S xs ∧ J xs W'
theorem below_put {B l : Nat} {W : World} {o : Obj} (h : B ≤ l) : Below B W (W.putObj l o) :=
  ⟨rfl, rfl, rfl, by simp [World.putObj], fun k hk => World.putObj_heap_other (by omega)⟩
section
variable {F : Fence} {n : Nat} {P : Program}
theorem wpIn_range_tells {α : Type} {g : Operand} {ps : Array Tmp} {assign body : Code} {Q : Exit → Act → World → Prop} {a : Act} {w : World}
    (hro : F.round = none) (h1 : 1 ≤ n) {gf : Nat} {lb : Array Value} (hg : a.eval g = .func (.func gf) #[] lb) (hFg : F.fn gf) (eg : ∀ args w, (callFunc gf args).run P w = .ok (.enter gf args) w)
    {encs : α → Array Value} {R : α → World → Prop} {S : List α → Prop} (hseq : ∀ W, Below w.heap.size w W → SeqTells F (n - 1) P gf lb encs R S W) (hps : ∀ x, (encs x).size = ps.size)
    (I : List α → World → Prop) (hI : ∀ xs A B, I xs A → Below w.heap.size A B → I xs B) (h0 : I [] w) (a₁ : α → Act)
    (hR : ∀ x A l o o', R x A → A.heap[l]? = some o → o.isCells = false → R x (A.putObj l o'))
    (hassign : ∀ (l : Nat) (x : α) (W : World) (K : Act → World → Prop), K (a₁ x) W →
      assign.wpIn (F.inRound l) (n - 1 - 1) P (Exit.then K (fun _ _ _ => False)) { tmps := (ps.zip (encs x)).foldl (fun t (p, v) => t.setIfInBounds p v) a.tmps, defers := [] } W)
    (hbody : ∀ (l : Nat) (pre : List α) (x : α) (W : World), I pre W → w.heap.size ≤ W.heap.size → R x W → body.wpIn (F.inRound l) (n - 1 - 1) P (fun e _ W' => e = .normal ∧ I (pre ++ [x]) W' ∧ KeepsUp w.heap.size W W') (a₁ x) W)
    (hdone : ∀ (D : Nat) (xs : List α) (W : World), w.heap.size ≤ D → S xs → I xs W → W.heap[D]? = some (.deferred (some [])) → Q .normal { a with defers := { target := .collected D, args := #[] } :: a.defers } W) :
    (Code.rangeFunc g ps assign body).wpIn F n P Q a w := by
  refine wpIn_rangeFunc ?_
  intro fn hfn
  rw [hro]
  obtain ⟨rec, hrec⟩ : ∃ rec : LoopState → Option Code → Loop, rec = fun st pe => { state := st, pending := pe, fn, tmps := a.tmps, params := ps, assign, body, defers := w.heap.size } := ⟨_, rfl⟩
  obtain ⟨W1, hW1⟩ : ∃ W1, (w.alloc (.deferred (some []))).alloc (.loop (rec .ready none)) = W1 := ⟨_, rfl⟩
  have hL1 : W1.heap[w.heap.size + 1]? = some (.loop (rec .ready none)) := by rw [← hW1]; exact heap_alloc2_new w _ _
  have hK1 : W1.heap[w.heap.size]? = some (.deferred (some [])) := by rw [← hW1]; exact heap_alloc2_old w _ _
  have hs1 : W1.heap.size = w.heap.size + 2 := by rw [← hW1]; simp
  have hb1 : Below w.heap.size w W1 := by rw [← hW1]; exact ((Below.refl _ w).alloc (Nat.le_refl _) _).alloc (by simp) _
  refine ⟨w.heap.size + 1, [{ target := .collected w.heap.size, args := #[] }], W1, { target := .fn (.func gf) lb, args := #[.func (.yield (w.heap.size + 1)) #[] #[]] }, W1, gf, #[.func (.yield (w.heap.size + 1)) #[] #[]] ++ lb, W1, ?_, ?_, ?_, ?_, fun _ => h1, ?_⟩
  · rw [← hW1, hrec]; exact run_enterLoop_outer _ _ _ _ _
  · simp only [resolve, hg]
    simp [go_sem]
  · intro f' hf'; simp [Target.leads] at hf'; subst hf'; exact hFg
  · simp [invoke, go_sem, eg]
  · refine (hseq W1 hb1 (w.heap.size + 1) (fun pre W => I pre W ∧ w.heap.size + 2 ≤ W.heap.size ∧ W.heap[w.heap.size + 1]? = some (.loop (rec .ready none)) ∧ W.heap[w.heap.size]? = some (.deferred (some []))) (by omega) ?_ ?_ ⟨hI _ _ _ h0 hb1, by omega, hL1, hK1⟩).mono ?_
    · rintro xs A B ⟨hi, hs, hl, hk⟩ hb
      exact ⟨hI _ _ _ hi (hb.mono (by omega)), Nat.le_trans hs hb.size, (hb.block _ (by omega)).trans hl, (hb.block _ (by omega)).trans hk⟩
    · rintro pre x A ⟨hi, hs, hl, hk⟩ _ hrx
      have hlt : w.heap.size + 1 < A.heap.size := (Array.getElem?_eq_some_iff.1 hl).1
      have hy := run_yield (P := P) (args := encs x) hl (by rw [hrec]; exact hps x)
      rw [hrec] at hy
      refine ⟨fn, _, assign, body, hy, roundIn_of_wpIn hfn (hassign _ x A _ ⟨_, run_beginRound hl (by rw [hrec]), ?_⟩)⟩
      obtain ⟨A2, hA2⟩ : ∃ A2, A.putObj (w.heap.size + 1) (.loop { rec .ready none with state := .busy }) = A2 := ⟨_, rfl⟩
      have hs2 : A2.heap.size = A.heap.size := by rw [← hA2]; simp [World.putObj]
      have hl2 : A2.heap[w.heap.size + 1]? = some (.loop { rec .ready none with state := .busy }) := by rw [← hA2]; exact World.putObj_heap_same hlt
      have hk2 : A2.heap[w.heap.size]? = some (.deferred (some [])) := by rw [← hA2]; exact (World.putObj_heap_other (by omega)).trans hk
      have hi2 : I pre A2 := by rw [← hA2]; exact hI _ _ _ hi (below_put (by omega))
      have hr2 : R x A2 := by rw [← hA2]; exact hR _ _ _ _ _ hrx hl rfl
      have hu2 : ∀ k, w.heap.size + 2 ≤ k → A2.heap[k]? = A.heap[k]? := fun k h => by rw [← hA2]; exact World.putObj_heap_other (by omega)
      rw [hA2]
      refine wpIn_mono (hbody _ pre x A2 hi2 (by omega) hr2) ?_
      rintro e a3 A3 ⟨rfl, hi3, hk3⟩
      have hl3 : A3.heap[w.heap.size + 1]? = some (.loop { rec .ready none with state := .busy }) := (hk3.block _ (by omega) (by omega)).trans hl2
      have hk4 : A3.heap[w.heap.size]? = some (.deferred (some [])) := (hk3.block _ (Nat.le_refl _) (by omega)).trans hk2
      have hlt3 : w.heap.size + 1 < A3.heap.size := (Array.getElem?_eq_some_iff.1 hl3).1
      have hr := run_endRound (P := P) none hl3
      refine ⟨_, _, hr, rfl, ⟨hI _ _ _ hi3 (below_put (by omega)), by have := hk3.size; simp [World.putObj]; omega, ?_, (World.putObj_heap_other (by omega)).trans hk4⟩, ⟨by have := hk3.size; simp [World.putObj]; omega, fun k h2 h3 => ?_⟩⟩
      · rw [World.putObj_heap_same hlt3, hrec]
        rfl
      · rw [World.putObj_heap_other (by omega), hk3.block k (by omega) (by omega)]
        exact hu2 k (by omega)
    · rintro e W2 ⟨⟨v, rfl⟩, xs, hS, hi, hs, hl, hk⟩
      exact ⟨none, _, by have := run_endLoop (P := P) hl (by rw [hrec]; simp); rw [hrec] at this; exact this, hdone _ xs _ (Nat.le_refl _) hS (hI _ _ _ hi (below_put (by omega))) ((World.putObj_heap_other (by omega)).trans hk)⟩
end
end Go.Proofs.YtenbgpcdoljkgaaGreatDoor
