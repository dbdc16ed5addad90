/- The texts SvP, SvQ, SvR, SvN, in this order. -/
import Derived.Test.YtdakcbddlempfaaGreatG04
/- A rule that was made is as rule.Valid asks for (plain). -/
namespace Go.Proofs.YtdakcbddlempfaaGreat
open Go Go.RowKit

def MvGood (m : Mv) : Prop := 0 ≤ m.day ∧ m.day ≤ 1099511627776 ∧ ((m.drop = true ∧ m.toDay = 0 ∧ m.minute = 0 ∧ m.length = 0) ∨ (m.drop = false ∧ 0 ≤ m.toDay ∧ m.toDay ≤ 1099511627776 ∧ 0 ≤ m.minute ∧ m.minute ≤ 1439 ∧ 1 ≤ m.length ∧ m.length ≤ 10080))
/-- A series whose other parts are sound. -/
structure SerGood (s : Ser) : Prop where
  mi : 0 ≤ s.minute ∧ s.minute ≤ 1439
  le : 1 ≤ s.length ∧ s.length ≤ 10080
  ga : 0 ≤ s.gap ∧ s.gap ≤ 2
  fo : 0 ≤ s.fold ∧ s.fold ≤ 2
  zo : 1 ≤ s.zone.size ∧ s.zone.size ≤ 32
  ml : s.moves.length ≤ 64
  mv : ∀ x ∈ s.moves, MvGood x
  up : s.moves.Pairwise fun a b => a.day < b.day
theorem Rising.upIn {a b lo hi : Int} {zs : List Int} (h : Rising a b zs) (h1 : lo ≤ a) (h2 : b ≤ hi) (h3 : lo < 0 → a < 0) : UpIn lo hi zs :=
  ⟨List.length_pos_iff.2 h.1, fun z hz => by have := h.2.2.2 z hz; omega, h.2.2.1, fun hl z hz => (h.2.2.2 z hz).2.2 (h3 hl)⟩
theorem Rising.len64 {a b : Int} {zs : List Int} (h : Rising a b zs) : zs.length ≤ 64 := by have := h.2.1; omega
theorem kindTo {d : Nd} {k : Nat} (h : d.kind = k) : d.kind.toNat = k := by omega
theorem numsOther {d : Nd} (k : Int) (hk : d.kind = k) (hne : k ≠ 1 ∧ k ≠ 2 ∧ k ≠ 7 ∧ k ≠ 11 ∧ k ≠ 12 ∧ k ≠ 13 ∧ k ≠ 16 ∧ k ≠ 17) (hn : d.n = 0) (hm : d.m = 0) : NumsOK d := by
  subst hk
  exact .inr (.inr (.inr (.inr (.inr (.inr (.inr ⟨hne.1, hne.2.1, hne.2.2.1, hne.2.2.2.1, hne.2.2.2.2.1, hne.2.2.2.2.2.1, hne.2.2.2.2.2.2.1, hne.2.2.2.2.2.2.2, hn, hm⟩))))))
set_option maxHeartbeats 1000000 in
theorem leaf_node (d : Nd) (h : LeafOK 3 d) : NodeOK 0 d.kind.toNat d := by
  obtain ⟨hr, h⟩ := h
  rcases h with ⟨hk, hc, hl, n1, n2, m1, m2, hL, hN⟩ | ⟨hk, c1, c2, hl, n1, n2, m1, m2, hL, hN⟩ | ⟨hk, c1, c2, hl, n1, m1, hL, hN⟩ | ⟨hk, c1, c2, hl, n1, m1, hL, hN⟩ | ⟨hk, hc, hl, n1, m1, hL, hN⟩ | ⟨hk, c1, c2, hl, n1, m1, hL, hN⟩ | ⟨hk, c1, c2, l1, l2, n1, m1, m2, hL, hN⟩ | ⟨hk, hc, hl, n1, m1, hL, k, k1, k2, hN⟩
  · rw [kindTo (k := 1) hk]
    exact ⟨hk, by decide, by decide, by rw [hL]; decide, .inr ⟨rfl, .inl hl⟩, .inr ⟨by decide, hr⟩, .inr ⟨rfl, hc⟩, .inr ⟨by decide, hN⟩, .inl ⟨rfl, rfl, hL⟩, .inl ⟨hk, by omega, by omega, by omega, by omega⟩⟩
  · rw [kindTo (k := 2) hk]
    exact ⟨hk, by decide, by decide, by rw [hL]; decide, .inr ⟨rfl, .inl hl⟩, .inr ⟨by decide, hr⟩, .inl ⟨rfl, by omega, by omega⟩, .inr ⟨by decide, hN⟩, .inl ⟨rfl, rfl, hL⟩, .inr (.inl ⟨hk, by omega, by omega, by omega, by omega⟩)⟩
  · rw [kindTo (k := 3) hk]
    exact ⟨hk, by decide, by decide, hL.len64, .inr ⟨rfl, .inl hl⟩, .inr ⟨by decide, hr⟩, .inl ⟨rfl, by omega, by omega⟩, .inr ⟨by decide, hN⟩, .inr ⟨.inl (by decide), hL.upIn (by decide) (by decide) (by decide)⟩, numsOther 3 hk (by decide) n1 m1⟩
  · rw [kindTo (k := 4) hk]
    exact ⟨hk, by decide, by decide, hL.len64, .inr ⟨rfl, .inl hl⟩, .inr ⟨by decide, hr⟩, .inl ⟨rfl, by omega, by omega⟩, .inr ⟨by decide, hN⟩, .inr ⟨.inl (by decide), hL.upIn (by decide) (by decide) (by decide)⟩, numsOther 4 hk (by decide) n1 m1⟩
  · rw [kindTo (k := 5) hk]
    exact ⟨hk, by decide, by decide, hL.len64, .inr ⟨rfl, .inl hl⟩, .inr ⟨by decide, hr⟩, .inr ⟨rfl, hc⟩, .inr ⟨by decide, hN⟩, .inr ⟨.inr (by decide), hL.upIn (by decide) (by decide) (by decide)⟩, numsOther 5 hk (by decide) n1 m1⟩
  · rw [kindTo (k := 6) hk]
    exact ⟨hk, by decide, by decide, hL.len64, .inr ⟨rfl, .inl hl⟩, .inr ⟨by decide, hr⟩, .inl ⟨rfl, by omega, by omega⟩, .inr ⟨by decide, hN⟩, .inr ⟨.inl (by decide), hL.upIn (by decide) (by decide) (by decide)⟩, numsOther 6 hk (by decide) n1 m1⟩
  · rw [kindTo (k := 7) hk]
    exact ⟨hk, by decide, by decide, by rw [hL]; decide, .inr ⟨rfl, .inr rfl⟩, .inr ⟨by decide, hr⟩, .inl ⟨rfl, by omega, by omega⟩, .inr ⟨by decide, hN⟩, .inl ⟨rfl, rfl, hL⟩, .inr (.inr (.inl ⟨hk, by omega, by omega, by omega, by omega, by omega, by omega, by omega⟩))⟩
  · rw [kindTo (k := 18) hk]
    exact ⟨hk, by decide, by decide, by rw [hL]; decide, .inr ⟨rfl, .inl hl⟩, .inr ⟨by decide, hr⟩, .inr ⟨rfl, hc⟩, .inl ⟨rfl, k, by omega, hN⟩, .inl ⟨rfl, rfl, hL⟩, numsOther 18 hk (by decide) n1 m1⟩
set_option maxHeartbeats 1000000 in
theorem one_node (d : Nd) (h : OneOK 3 d) (n : Nat) (hn : 1 ≤ n) : NodeOK n d.kind.toNat { d with l := (n : Int) - 1 } := by
  obtain ⟨hr, hN, h⟩ := h
  rcases h with ⟨hk, hc, n1, n2, m1, hL⟩ | ⟨hk | hk, hc, n1, n2, m1, hL⟩ | ⟨hk | hk, hc, n1, m1, hL⟩ | ⟨hk, c1, c2, n1, m1, m2, hL⟩
  · rw [kindTo (k := 11) hk]
    exact ⟨hk, by decide, by decide, by show d.list.length ≤ 64; rw [hL]; decide, .inl ⟨by decide, by show 0 ≤ (n : Int) - 1; omega, by show (n : Int) - 1 < n; omega⟩, .inr ⟨by decide, hr⟩, .inr ⟨rfl, hc⟩, .inr ⟨by decide, hN⟩, .inl ⟨rfl, rfl, hL⟩, .inr (.inr (.inr (.inl ⟨hk, by show -1099511627776 ≤ d.n; omega, by show d.n ≤ 1099511627776; omega, m1⟩)))⟩
  · rw [kindTo (k := 12) hk]
    exact ⟨hk, by decide, by decide, by show d.list.length ≤ 64; rw [hL]; decide, .inl ⟨by decide, by show 0 ≤ (n : Int) - 1; omega, by show (n : Int) - 1 < n; omega⟩, .inr ⟨by decide, hr⟩, .inr ⟨rfl, hc⟩, .inr ⟨by decide, hN⟩, .inl ⟨rfl, rfl, hL⟩, .inr (.inr (.inr (.inr (.inl ⟨.inl hk, by show 0 ≤ d.n; omega, by show d.n ≤ 1099511627776; omega, m1⟩))))⟩
  · rw [kindTo (k := 13) hk]
    exact ⟨hk, by decide, by decide, by show d.list.length ≤ 64; rw [hL]; decide, .inl ⟨by decide, by show 0 ≤ (n : Int) - 1; omega, by show (n : Int) - 1 < n; omega⟩, .inr ⟨by decide, hr⟩, .inr ⟨rfl, hc⟩, .inr ⟨by decide, hN⟩, .inl ⟨rfl, rfl, hL⟩, .inr (.inr (.inr (.inr (.inl ⟨.inr hk, by show 0 ≤ d.n; omega, by show d.n ≤ 1099511627776; omega, m1⟩))))⟩
  · rw [kindTo (k := 14) hk]
    exact ⟨hk, by decide, by decide, hL.len64, .inl ⟨by decide, by show 0 ≤ (n : Int) - 1; omega, by show (n : Int) - 1 < n; omega⟩, .inr ⟨by decide, hr⟩, .inr ⟨rfl, hc⟩, .inr ⟨by decide, hN⟩, .inr ⟨.inr (by decide), hL.upIn (by decide) (by decide) (by decide)⟩, numsOther (d := { d with l := (n : Int) - 1 }) 14 hk (by decide) n1 m1⟩
  · rw [kindTo (k := 15) hk]
    exact ⟨hk, by decide, by decide, hL.len64, .inl ⟨by decide, by show 0 ≤ (n : Int) - 1; omega, by show (n : Int) - 1 < n; omega⟩, .inr ⟨by decide, hr⟩, .inr ⟨rfl, hc⟩, .inr ⟨by decide, hN⟩, .inr ⟨.inr (by decide), hL.upIn (by decide) (by decide) (by decide)⟩, numsOther (d := { d with l := (n : Int) - 1 }) 15 hk (by decide) n1 m1⟩
  · rw [kindTo (k := 16) hk]
    exact ⟨hk, by decide, by decide, hL.len64, .inl ⟨by decide, by show 0 ≤ (n : Int) - 1; omega, by show (n : Int) - 1 < n; omega⟩, .inr ⟨by decide, hr⟩, .inl ⟨rfl, by show 0 ≤ d.cal; omega, by show d.cal ≤ 2; omega⟩, .inr ⟨by decide, hN⟩, .inr ⟨.inl (by decide), hL.upIn (by decide) (by decide) (by decide)⟩, .inr (.inr (.inr (.inr (.inr (.inl ⟨hk, n1, m1, by show d.m ≤ 1; omega⟩)))))⟩
theorem two_node (d : Nd) (h : TwoOK d) (n m : Nat) (hn : 1 ≤ n) (hm : 1 ≤ m) : NodeOK (n + m) d.kind.toNat { d with l := (n : Int) - 1, r := (n : Int) + m - 1 } := by
  obtain ⟨hc, m1, hL, hN, h⟩ := h
  have key : ∀ k : Nat, (k = 8 ∨ k = 9 ∨ k = 10 ∨ k = 17) → d.kind = k → NumsOK { d with l := (n : Int) - 1, r := (n : Int) + m - 1 } → NodeOK (n + m) d.kind.toNat { d with l := (n : Int) - 1, r := (n : Int) + m - 1 } := by
    intro k hk4 hk hnums
    rw [kindTo (k := k) hk]
    have o : 1 < opn k ∧ calB k = false ∧ shLo k = 0 ∧ shHi k = 0 := by rcases hk4 with rfl | rfl | rfl | rfl <;> exact ⟨by decide, rfl, rfl, rfl⟩
    exact ⟨hk, by omega, by omega, by show d.list.length ≤ 64; rw [hL]; decide, .inl ⟨by have := o.1; omega, by show 0 ≤ (n : Int) - 1; omega, by show (n : Int) - 1 < ((n + m : Nat) : Int); omega⟩, .inl ⟨o.1, by show 0 ≤ (n : Int) + m - 1; omega, by show (n : Int) + m - 1 < ((n + m : Nat) : Int); omega⟩, .inr ⟨o.2.1, hc⟩, .inr ⟨by omega, hN⟩, .inl ⟨o.2.2.1, o.2.2.2, hL⟩, hnums⟩
  rcases h with ⟨hk | hk | hk, n1⟩ | ⟨hk, n1, n2⟩
  · exact key 8 (by omega) hk (numsOther (d := { d with l := (n : Int) - 1, r := (n : Int) + m - 1 }) 8 hk (by decide) n1 m1)
  · exact key 9 (by omega) hk (numsOther (d := { d with l := (n : Int) - 1, r := (n : Int) + m - 1 }) 9 hk (by decide) n1 m1)
  · exact key 10 (by omega) hk (numsOther (d := { d with l := (n : Int) - 1, r := (n : Int) + m - 1 }) 10 hk (by decide) n1 m1)
  · exact key 17 (by omega) hk (.inr (.inr (.inr (.inr (.inr (.inr (.inl ⟨hk, n1, by show d.n ≤ 400; omega, m1⟩)))))))
theorem kinds18 {k : Nat} (h1 : 1 ≤ k) (h2 : k ≤ 18) : k = 1 ∨ k = 2 ∨ k = 3 ∨ k = 4 ∨ k = 5 ∨ k = 6 ∨ k = 7 ∨ k = 8 ∨ k = 9 ∨ k = 10 ∨ k = 11 ∨ k = 12 ∨ k = 13 ∨ k = 14 ∨ k = 15 ∨ k = 16 ∨ k = 17 ∨ k = 18 := by omega
theorem opB_opn {k : Nat} (h1 : 1 ≤ k) (h2 : k ≤ 18) : opB (k : Int) = decide (0 < opn k) ∧ twoB (k : Int) = decide (1 < opn k) := by
  rcases kinds18 h1 h2 with rfl | rfl | rfl | rfl | rfl | rfl | rfl | rfl | rfl | rfl | rfl | rfl | rfl | rfl | rfl | rfl | rfl | rfl <;> exact ⟨by decide, by decide⟩
/-- A node that is moved by b nodes is right b places later. -/
theorem moved_node (b i : Nat) (y : NdV) (h : NodeOK i y.d.kind.toNat y.d) : NodeOK (b + i) (mvd b y).d.kind.toNat (mvd b y).d := by
  obtain ⟨h1, h2, h3, h4, h5, h6, h7, h8, h9, h10⟩ := h
  obtain ⟨e1, e2⟩ := opB_opn h2 h3
  rw [← h1] at e1 e2
  have ek : (mvd b y).d.kind = y.d.kind := rfl
  rw [ek]
  refine ⟨h1, h2, h3, h4, ?_, ?_, h7, h8, h9, ?_⟩
  · rcases h5 with ⟨a, c, d⟩ | ⟨a, c⟩
    · left
      refine ⟨a, ?_, ?_⟩ <;> (show _; unfold mvd; dsimp only; rw [e1, decide_eq_true a, if_pos rfl]; omega)
    · right
      refine ⟨a, ?_⟩
      have hd : decide (0 < opn y.d.kind.toNat) = false := decide_eq_false (by omega)
      unfold mvd; dsimp only; rw [e1, hd]
      simpa using c
  · rcases h6 with ⟨a, c, d⟩ | ⟨a, c⟩
    · left
      refine ⟨a, ?_, ?_⟩ <;> (show _; unfold mvd; dsimp only; rw [e2, decide_eq_true a, if_pos rfl]; omega)
    · right
      refine ⟨a, ?_⟩
      have hd : decide (1 < opn y.d.kind.toNat) = false := decide_eq_false (by omega)
      unfold mvd; dsimp only; rw [e2, hd]
      simpa using c
  · unfold NumsOK mvd at *
    dsimp only at *
    rcases h10 with h | h | h | h | h | h | h | h
    · exact .inl h
    · exact .inr (.inl h)
    · refine .inr (.inr (.inl ⟨h.1, h.2.1, h.2.2.1, h.2.2.2.1, h.2.2.2.2.1, h.2.2.2.2.2.1, ?_⟩))
      have : opB y.d.kind = false := by rw [h.1]; decide
      rw [this]
      exact h.2.2.2.2.2.2
    · exact .inr (.inr (.inr (.inl h)))
    · exact .inr (.inr (.inr (.inr (.inl h))))
    · exact .inr (.inr (.inr (.inr (.inr (.inl h)))))
    · exact .inr (.inr (.inr (.inr (.inr (.inr (.inl h))))))
    · exact .inr (.inr (.inr (.inr (.inr (.inr (.inr h))))))
/-- How often a node names place j. -/
def refsTo (d : Nd) (j : Nat) : Int := (if 0 < opn d.kind.toNat ∧ d.l.toNat = j then 1 else 0) + (if 1 < opn d.kind.toNat ∧ d.r.toNat = j then 1 else 0)
def refSum (ds : List Nd) (j : Nat) : Int := (ds.map fun d => refsTo d j).sum
theorem refSum_app (xs ys : List Nd) (j : Nat) : refSum (xs ++ ys) j = refSum xs j + refSum ys j := by unfold refSum; rw [List.map_append, List.sum_append]
theorem refSum_one (d : Nd) (j : Nat) : refSum [d] j = refsTo d j := by unfold refSum; simp
theorem bump_get (us : List Int) (i j : Nat) (hj : j < us.length) : (bump us i)[j]? = some (us[j]?.getD 0 + if i = j then 1 else 0) := by
  unfold bump
  by_cases h : i = j
  · subst h
    rw [List.getElem?_set_self hj, if_pos rfl]
  · rw [List.getElem?_set_ne h, if_neg h, List.getElem?_eq_getElem hj]
    simp
theorem bump_len (us : List Int) (i : Nat) : (bump us i).length = us.length := by unfold bump; simp
theorem use0_get (d : Nd) (us : List Int) (j : Nat) (hj : j < us.length) : (use0 d us)[j]? = some (us[j]?.getD 0 + if 0 < opn d.kind.toNat ∧ d.l.toNat = j then 1 else 0) := by
  unfold use0
  split
  · rename_i h
    rw [bump_get us _ j hj]
    simp [h]
  · rename_i h
    rw [List.getElem?_eq_getElem hj]
    simp [h]
theorem use0_len (d : Nd) (us : List Int) : (use0 d us).length = us.length := by unfold use0; split; exact bump_len _ _; rfl
theorem use1_get (d : Nd) (us : List Int) (j : Nat) (hj : j < us.length) : (use1 d us)[j]? = some (us[j]?.getD 0 + if 1 < opn d.kind.toNat ∧ d.r.toNat = j then 1 else 0) := by
  unfold use1
  split
  · rename_i h
    rw [bump_get us _ j hj]
    simp [h]
  · rename_i h
    rw [List.getElem?_eq_getElem hj]
    simp [h]
theorem usesTo_sum (ds : List Nd) (n j : Nat) (hj : j < n) (i : Nat) (hi : i ≤ ds.length) : (usesTo ds n i)[j]? = some (refSum (ds.take i) j) := by
  induction i with
  | zero => unfold usesTo refSum; simp [hj]
  | succ i ih =>
    have h := ih (by omega)
    have hx : ds[i]? = some ds[i] := List.getElem?_eq_getElem (by omega)
    have hl : j < (usesTo ds n i).length := by rw [usesTo_len]; exact hj
    rw [usesTo_succ hx, use1_get _ _ _ (by rw [use0_len]; exact hl), use0_get _ _ _ hl, h, List.take_add_one, hx, refSum_app]
    simp only [Option.getD_some, Option.toList_some, refSum_one]
    unfold refsTo
    congr 1
    omega
theorem refsTo_mv (b i : Nat) (y : NdV) (h : NodeOK i y.d.kind.toNat y.d) (j : Nat) : refsTo (mvd b y).d j = if b ≤ j then refsTo y.d (j - b) else 0 := by
  obtain ⟨h1, h2, h3, _, h5, h6, _⟩ := h
  obtain ⟨e1, e2⟩ := opB_opn h2 h3
  rw [← h1] at e1 e2
  have ek : (mvd b y).d.kind = y.d.kind := rfl
  unfold refsTo
  rw [ek]
  have el : (mvd b y).d.l = if opB y.d.kind = true then y.d.l + b else y.d.l := rfl
  have er : (mvd b y).d.r = if twoB y.d.kind = true then y.d.r + b else y.d.r := rfl
  rw [el, er, e1, e2]
  by_cases a : 0 < opn y.d.kind.toNat
  · by_cases c : 1 < opn y.d.kind.toNat
    · have q1 : 0 ≤ y.d.l := by rcases h5 with h | h <;> omega
      have q2 : 0 ≤ y.d.r := by rcases h6 with h | h <;> omega
      simp only [a, c, decide_true, if_true, true_and]
      split <;> split <;> split <;> (try split) <;> (try split) <;> omega
    · have q1 : 0 ≤ y.d.l := by rcases h5 with h | h <;> omega
      simp only [a, c, decide_true, if_true, true_and, false_and, if_false]
      split <;> split <;> (try split) <;> omega
  · have c : ¬ 1 < opn y.d.kind.toNat := by omega
    simp only [a, c, false_and, if_false]
    split <;> rfl
theorem refSum_mv (b : Nat) (ms : List NdV) (h : ∀ y ∈ ms, ∃ i, NodeOK i y.d.kind.toNat y.d) (j : Nat) : refSum ((movedN b ms).map (·.d)) j = if b ≤ j then refSum (ms.map (·.d)) (j - b) else 0 := by
  induction ms with
  | nil => unfold refSum movedN; simp
  | cons y ms ih =>
    have ih := ih fun z hz => h z (List.mem_cons_of_mem _ hz)
    obtain ⟨i, hy⟩ := h y List.mem_cons_self
    have e := refsTo_mv b i y hy j
    unfold movedN at ih ⊢
    unfold refSum at ih ⊢
    simp only [List.map_cons, List.sum_cons] at ih ⊢
    rw [ih, e]
    split <;> rfl
/-- The rules that a maker makes are well-formed. -/
theorem MRule.good {ns : List NdV} (h : MRule 3 ns) : 1 ≤ ns.length ∧ (∀ i x, ns[i]? = some x → NodeOK i x.d.kind.toNat x.d) ∧ ∀ j, refSum (ns.map (·.d)) j = if j + 1 < ns.length then 1 else 0 := by
  induction h with
  | leaf x h =>
    have hn := leaf_node x.d h
    refine ⟨by simp, fun i y hy => ?_, fun j => ?_⟩
    · cases i with
      | zero => simp at hy; subst hy; exact hn
      | succ i => simp at hy
    · rw [List.map_singleton, refSum_one]
      have ho : opn x.d.kind.toNat = 0 := by
        rcases hn.opl with ⟨_, a, b⟩ | h
        · omega
        · exact h.1
      unfold refsTo
      rw [ho]
      simp
  | one ns x _ h ih =>
    obtain ⟨i1, i2, i3⟩ := ih
    have hn := one_node x.d h ns.length i1
    refine ⟨by unfold overN; simp, fun i y hy => ?_, fun j => ?_⟩
    · unfold overN at hy
      by_cases hi : i < ns.length
      · rw [List.getElem?_append_left hi] at hy
        exact i2 i y hy
      · rw [List.getElem?_append_right (by omega)] at hy
        have : i - ns.length = 0 := by
          rcases Nat.eq_zero_or_pos (i - ns.length) with h | h
          · exact h
          · rw [List.getElem?_eq_none (by simp; omega)] at hy; cases hy
        rw [this] at hy
        simp at hy
        subst hy
        have e : i = ns.length := by omega
        rw [e]
        exact hn
    · unfold overN
      rw [List.map_append, refSum_app, i3 j, List.map_singleton, refSum_one, List.length_append]
      have o : opn x.d.kind.toNat = 1 := by
        rcases h.2.2 with h | h | h | h
        · rw [kindTo (k := 11) h.1]; rfl
        · rcases h.1 with h | h
          · rw [kindTo (k := 12) h]; rfl
          · rw [kindTo (k := 13) h]; rfl
        · rcases h.1 with h | h
          · rw [kindTo (k := 14) h]; rfl
          · rw [kindTo (k := 15) h]; rfl
        · rw [kindTo (k := 16) h.1]; rfl
      unfold refsTo
      dsimp only
      rw [o]
      simp only [List.length_singleton]
      split <;> split <;> split <;> (try split) <;> omega
  | two ns ms x _ _ h ih1 ih2 =>
    obtain ⟨i1, i2, i3⟩ := ih1
    obtain ⟨m1, m2, m3⟩ := ih2
    have hn := two_node x.d h ns.length ms.length i1 m1
    have hm : ∀ y ∈ ms, ∃ i, NodeOK i y.d.kind.toNat y.d := fun y hy => by
      obtain ⟨i, hi⟩ := List.mem_iff_getElem?.1 hy
      exact ⟨i, m2 i y hi⟩
    refine ⟨by unfold bothN; simp; omega, fun i y hy => ?_, fun j => ?_⟩
    · unfold bothN at hy
      by_cases hi : i < ns.length
      · rw [List.append_assoc, List.getElem?_append_left hi] at hy
        exact i2 i y hy
      · by_cases hj : i < ns.length + ms.length
        · rw [List.append_assoc, List.getElem?_append_right (by omega), List.getElem?_append_left (by unfold movedN; rw [List.length_map]; omega)] at hy
          unfold movedN at hy
          rw [List.getElem?_map] at hy
          obtain ⟨z, hz, rfl⟩ := Option.map_eq_some_iff.1 hy
          have := moved_node ns.length (i - ns.length) z (m2 _ z hz)
          rw [show ns.length + (i - ns.length) = i by omega] at this
          exact this
        · have e : (ns ++ movedN ns.length ms).length = ns.length + ms.length := by unfold movedN; simp
          rw [List.getElem?_append_right (by omega), e] at hy
          have : i - (ns.length + ms.length) = 0 := by
            rcases Nat.eq_zero_or_pos (i - (ns.length + ms.length)) with h | h
            · exact h
            · rw [List.getElem?_eq_none (by simp; omega)] at hy; cases hy
          rw [this] at hy
          simp at hy
          subst hy
          have e : i = ns.length + ms.length := by omega
          rw [e]
          exact hn
    · unfold bothN
      have o : opn x.d.kind.toNat = 2 := by
        rcases h.2.2.2.2 with ⟨h | h | h, _⟩ | ⟨h, _⟩
        · rw [kindTo (k := 8) h]; rfl
        · rw [kindTo (k := 9) h]; rfl
        · rw [kindTo (k := 10) h]; rfl
        · rw [kindTo (k := 17) h]; rfl
      rw [List.map_append, List.map_append, refSum_app, refSum_app, i3 j, refSum_mv _ _ hm, m3, List.map_singleton, refSum_one, List.length_append, List.length_append]
      have e : (movedN ns.length ms).length = ms.length := by unfold movedN; simp
      rw [e]
      unfold refsTo
      dsimp only
      rw [o]
      simp only [List.length_singleton]
      by_cases c1 : j + 1 < ns.length
      · rw [if_pos c1, if_neg (by omega), if_neg (by omega), if_neg (by omega), if_pos (by omega)]; rfl
      · by_cases c2 : j + 1 = ns.length
        · rw [if_neg c1, if_neg (by omega), if_pos (by omega), if_neg (by omega), if_pos (by omega)]; rfl
        · by_cases c3 : j + 1 < ns.length + ms.length
          · rw [if_neg c1, if_pos (by omega), if_pos (by omega), if_neg (by omega), if_neg (by omega), if_pos (by omega)]; rfl
          · by_cases c4 : j + 1 = ns.length + ms.length
            · rw [if_neg c1, if_pos (by omega), if_neg (by omega), if_neg (by omega), if_pos (by omega), if_pos (by omega)]; rfl
            · rw [if_neg c1, if_pos (by omega), if_neg (by omega), if_neg (by omega), if_neg (by omega), if_neg (by omega)]; rfl
theorem MRule.ruleOK {ns : List NdV} (h : MRule 3 ns) (hl : ns.length ≤ 16) : RuleOK ns := by
  obtain ⟨h1, h2, h3⟩ := h.good
  refine ⟨h1, by omega, h2, fun j hj => ?_⟩
  rw [usesTo_sum _ _ _ (by omega) _ (by simp), List.take_of_length_le (by simp), h3 j, if_pos hj]
end Go.Proofs.YtdakcbddlempfaaGreat

/- A letter that was made is valid, in plain words. -/
namespace Go.Proofs.YtdakcbddlempfaaGreat
open Go Go.RowKit

theorem SerOK.good {ns : List NdV} {s : Ser} (h : SerOK ns s) : SerGood s := by
  obtain ⟨dd, h1, h2⟩ := h.mok
  refine ⟨by have := h.min; omega, by have := h.lng; omega, by have := h.gap; omega, by have := h.fold; omega, ?_, by have := h.mlen; omega, fun m hm => ?_, h2.up⟩
  · rcases h.zone with h | h | h | h <;> rw [h] <;> decide
  · obtain ⟨h3, h4, h5⟩ := h2.ok m hm
    refine ⟨h4, by omega, ?_⟩
    rcases h3.2 with ⟨a, b, c, d⟩ | ⟨a, b, c, d, e, f, g⟩
    · exact .inl ⟨a, b, c, d⟩
    · exact .inr ⟨a, b, by omega, d, by omega, f, by omega⟩
theorem SerOK.rulesOK {ns : List NdV} {s : Ser} (h : SerOK ns s) : RuleOK ns := h.made.ruleOK h.len
section
variable {l l' : Lt} {ns ns' : List NdV} {f : Nat}
theorem MadeF.kind2 (h : MadeF l ns f l' ns') : l'.kind = l.kind := by
  rcases h with ⟨_, x, _, _, _, rfl, rfl⟩ | ⟨_, rfl, ⟨_, m, rfl, _⟩ | ⟨_, _, rfl⟩⟩ | ⟨_, ⟨_, se, rfl, h⟩ | ⟨_, _, rfl, rfl⟩⟩ | ⟨_, rfl, a, b, _, _, _, rfl⟩ | ⟨_, rfl, zs, rfl, h⟩ | ⟨_, rfl, r, _, rfl⟩
  · exact setNum_kind _ _ _
  all_goals rfl
theorem MadeF.move (h : MadeF l ns f l' ns') (hf : f ≠ 9) : l'.move = l.move := by
  rcases h with ⟨_, x, _, _, _, rfl, rfl⟩ | ⟨e, _⟩ | ⟨_, ⟨_, se, rfl, h⟩ | ⟨_, _, rfl, rfl⟩⟩ | ⟨_, rfl, a, b, _, _, _, rfl⟩ | ⟨_, rfl, zs, rfl, h⟩ | ⟨_, rfl, r, _, rfl⟩
  · exact setNum_move _ _ _
  · exact absurd e hf
  all_goals rfl
theorem MadeF.series (h : MadeF l ns f l' ns') (hf : f ≠ 10) : l'.series = l.series ∧ ns' = ns := by
  rcases h with ⟨_, x, _, _, _, rfl, rfl⟩ | ⟨_, rfl, ⟨_, m, rfl, _⟩ | ⟨_, _, rfl⟩⟩ | ⟨e, _⟩ | ⟨_, rfl, a, b, _, _, _, rfl⟩ | ⟨_, rfl, zs, rfl, h⟩ | ⟨_, rfl, r, _, rfl⟩
  · exact ⟨setNum_series _ _ _, rfl⟩
  · exact ⟨rfl, rfl⟩
  · exact ⟨rfl, rfl⟩
  · exact absurd e hf
  all_goals exact ⟨rfl, rfl⟩
theorem MadeF.window (h : MadeF l ns f l' ns') (hf : f ≠ 14) : l'.wfrom = l.wfrom ∧ l'.wto = l.wto := by
  rcases h with ⟨_, x, _, _, _, rfl, rfl⟩ | ⟨_, rfl, ⟨_, m, rfl, _⟩ | ⟨_, _, rfl⟩⟩ | ⟨_, ⟨_, se, rfl, h⟩ | ⟨_, _, rfl, rfl⟩⟩ | ⟨e, _⟩ | ⟨_, rfl, zs, rfl, h⟩ | ⟨_, rfl, r, _, rfl⟩
  · exact ⟨setNum_wfrom _ _ _, setNum_wto _ _ _⟩
  · exact ⟨rfl, rfl⟩
  · exact ⟨rfl, rfl⟩
  · exact ⟨rfl, rfl⟩
  · exact ⟨rfl, rfl⟩
  · exact absurd e hf
  all_goals exact ⟨rfl, rfl⟩
theorem MadeF.cells2 (h : MadeF l ns f l' ns') (hf : f ≠ 15) : l'.cells = l.cells := by
  rcases h with ⟨_, x, _, _, _, rfl, rfl⟩ | ⟨_, rfl, ⟨_, m, rfl, _⟩ | ⟨_, _, rfl⟩⟩ | ⟨_, ⟨_, se, rfl, h⟩ | ⟨_, _, rfl, rfl⟩⟩ | ⟨_, rfl, a, b, _, _, _, rfl⟩ | ⟨e, _⟩ | ⟨_, rfl, r, _, rfl⟩
  · exact setNum_cellsL _ _ _
  · rfl
  · rfl
  · rfl
  · rfl
  · rfl
  · exact absurd e hf
  · rfl
theorem MadeF.ref2 (h : MadeF l ns f l' ns') (hf : f ≠ 16) : l'.ref = l.ref := by
  rcases h with ⟨_, x, _, _, _, rfl, rfl⟩ | ⟨_, rfl, ⟨_, m, rfl, _⟩ | ⟨_, _, rfl⟩⟩ | ⟨_, ⟨_, se, rfl, h⟩ | ⟨_, _, rfl, rfl⟩⟩ | ⟨_, rfl, a, b, _, _, _, rfl⟩ | ⟨_, rfl, zs, rfl, h⟩ | ⟨e, _⟩
  · exact setNum_ref _ _ _
  · rfl
  · rfl
  · rfl
  · rfl
  · rfl
  · rfl
  · exact absurd e hf
theorem MadeF.scope (h : MadeF l ns f l' ns') (hf : f ≠ 7) : l'.scope = l.scope := h.numF 7 (by omega) hf
theorem MadeF.day (h : MadeF l ns f l' ns') (hf : f ≠ 8) : l'.day = l.day := h.numF 8 (by omega) hf
end
def InB (k : Int) (f : Nat) (x : Int) : Prop := (bnd k f).1 ≤ x ∧ x ≤ (bnd k f).2 ∧ x < (bnd k f).1 + 40
theorem numB_lit (f : Nat) (h : numB f = true) : f ≠ 9 ∧ f ≠ 10 ∧ f ≠ 14 ∧ f ≠ 15 ∧ f ≠ 16 := by
  refine ⟨?_, ?_, ?_, ?_, ?_⟩ <;> (rintro rfl; revert h; decide)
/-- The numbers of a letter under way. -/
theorem MadeTo.nums {bare : Bool} {l0 l : Lt} {j : Nat} {ns : List NdV} (h : MadeTo bare l0 j l ns) : l.kind = l0.kind ∧ (∀ k, j ≤ k → k < 17 → numF l k = numF l0 k) ∧ ∀ k, k < j → k < 17 → (skipB l0.kind bare k = true → numF l k = numF l0 k) ∧ (skipB l0.kind bare k = false → numB k = true → InB l0.kind k (numF l k)) := by
  induction h with
  | zero => exact ⟨rfl, fun _ _ _ => rfl, fun k hk => absurd hk (Nat.not_lt_zero k)⟩
  | @skip j l ns _ hs ih =>
    obtain ⟨h1, h2, h3⟩ := ih
    refine ⟨h1, fun k hk hk2 => h2 k (by omega) hk2, fun k hk hk2 => ?_⟩
    by_cases e : k = j
    · subst e
      exact ⟨fun _ => h2 k (Nat.le_refl _) hk2, fun hn => by rw [hs] at hn; cases hn⟩
    · exact h3 k (by omega) hk2
  | @step j l l' ns ns' _ hs hf ih =>
    obtain ⟨h1, h2, h3⟩ := ih
    refine ⟨hf.kind2.trans h1, fun k hk hk2 => (hf.numF k hk2 (by omega)).trans (h2 k (by omega) hk2), fun k hk hk2 => ?_⟩
    by_cases e : k = j
    · subst e
      refine ⟨fun hn => absurd (hs.symm.trans hn) (by decide), fun _ hn => ?_⟩
      obtain ⟨n1, n2, n3, n4, n5⟩ := numB_lit k hn
      rcases hf with ⟨_, x, a, b, c, rfl, _⟩ | ⟨e, _⟩ | ⟨e, _⟩ | ⟨e, _⟩ | ⟨e, _⟩ | ⟨e, _⟩
      · have ho : (numOff k).isSome = true := all17 (p := fun k => numB k = true → (numOff k).isSome = true) (by refine ⟨?_, ?_, ?_, ?_, ?_, ?_, ?_, ?_, ?_, ?_, ?_, ?_, ?_, ?_, ?_, ?_, ?_⟩ <;> decide) k hk2 hn
        rw [numF_same l x k hk2 ho]
        rw [h1] at a b c
        exact ⟨a, b, c⟩
      · exact absurd e n1
      · exact absurd e n2
      · exact absurd e n3
      · exact absurd e n4
      · exact absurd e n5
    · obtain ⟨g1, g2⟩ := h3 k (by omega) hk2
      have e2 := hf.numF k hk2 (fun h => e h.symm)
      rw [e2]
      exact ⟨g1, g2⟩
theorem uses9 {k : Int} (h1 : 1 ≤ k) (h2 : k ≤ 18) : usesB k (9 : Nat) = true ↔ k = 4 ∨ k = 6 := by
  obtain ⟨n, rfl⟩ : ∃ n : Nat, k = n := ⟨k.toNat, by omega⟩
  have h : ∀ n : Nat, n < 19 → (usesB (n : Int) (9 : Nat) = true ↔ (n : Int) = 4 ∨ (n : Int) = 6) := by decide +kernel
  exact h n (by omega)
theorem uses10 {k : Int} (h1 : 1 ≤ k) (h2 : k ≤ 18) : usesB k (10 : Nat) = true ↔ k = 1 ∨ k = 6 ∨ k = 8 := by
  obtain ⟨n, rfl⟩ : ∃ n : Nat, k = n := ⟨k.toNat, by omega⟩
  have h : ∀ n : Nat, n < 19 → (usesB (n : Int) (10 : Nat) = true ↔ (n : Int) = 1 ∨ (n : Int) = 6 ∨ (n : Int) = 8) := by decide +kernel
  exact h n (by omega)
theorem skipB_f {k : Int} {bare : Bool} {f : Nat} (h : bareF f = false) : skipB k bare f = !(usesB k f) := by unfold skipB; rw [h]; simp
def MvInv (k : Int) (l : Lt) : Prop :=
  (k = 4 ∧ MoveOK l.move.day l.move ∧ 0 ≤ l.move.day ∧ l.move.day < 40) ∨ (k = 6 ∧ l.scope = 1 ∧ MoveOK l.move.day l.move ∧ l.move.day = l.day) ∨ (k ≠ 4 ∧ (k = 6 → l.scope ≠ 1) ∧ l.move = zMv)
theorem MadeTo.mv {bare : Bool} {l0 l : Lt} {j : Nat} {ns : List NdV} (h : MadeTo bare l0 j l ns) (h0 : l0.move = zMv) (k1 : 1 ≤ l0.kind) (k2 : l0.kind ≤ 18) : (j ≤ 9 → l.move = zMv) ∧ (9 < j → MvInv l0.kind l) := by
  induction h with
  | zero => exact ⟨fun _ => h0, fun h => absurd h (by omega)⟩
  | @skip j l ns _ hs ih =>
    obtain ⟨h1, h2⟩ := ih
    refine ⟨fun hj => h1 (by omega), fun hj => ?_⟩
    by_cases e : j = 9
    · subst e
      rw [skipB_f (by decide)] at hs
      have hn : ¬ (l0.kind = 4 ∨ l0.kind = 6) := fun hc => by rw [(uses9 k1 k2).2 hc] at hs; cases hs
      exact .inr (.inr ⟨fun h => hn (.inl h), fun h => absurd (.inr h) hn, h1 (by omega)⟩)
    · exact h2 (by omega)
  | @step j l l' ns ns' hm hs hf ih =>
    obtain ⟨h1, h2⟩ := ih
    have hk : l.kind = l0.kind := hm.nums.1
    refine ⟨fun hj => (hf.move (by omega)).trans (h1 (by omega)), fun hj => ?_⟩
    by_cases e : j = 9
    · subst e
      rw [skipB_f (by decide)] at hs
      have hu : l0.kind = 4 ∨ l0.kind = 6 := (uses9 k1 k2).1 (by simpa using hs)
      rcases hf with ⟨e, _⟩ | ⟨_, _, ⟨a, m, rfl, b, c⟩ | ⟨a, b, rfl⟩⟩ | ⟨e, _⟩ | ⟨e, _⟩ | ⟨e, _⟩ | ⟨e, _⟩
      · cases e
      · rw [hk] at a c
        rcases c with ⟨c1, c2, c3⟩ | ⟨c1, c2⟩
        · exact .inl ⟨c1, b, c2, c3⟩
        · refine .inr (.inl ⟨by omega, by show l.scope = 1; omega, b, c2⟩)
      · rw [hk] at a
        exact .inr (.inr ⟨a, fun _ => b, h1 (by omega)⟩)
      all_goals cases e
    · have hi := h2 (by omega)
      unfold MvInv at hi ⊢
      rw [hf.move e, hf.scope (by omega), hf.day (by omega)]
      exact hi
def SeInv (k : Int) (bare : Bool) (l : Lt) (ns : List NdV) : Prop :=
  ((k = 1 ∨ k = 6 ∨ k = 8) ∧ bare = false ∧ (k = 6 → l.scope ≠ 1) ∧ SerOK ns l.series) ∨ ((k = 1 → bare = true) ∧ (k = 8 → bare = true) ∧ (k = 6 → bare = true ∨ l.scope = 1) ∧ l.series = zSer)
theorem MadeTo.se {bare : Bool} {l0 l : Lt} {j : Nat} {ns : List NdV} (h : MadeTo bare l0 j l ns) (h0 : l0.series = zSer) (k1 : 1 ≤ l0.kind) (k2 : l0.kind ≤ 18) : (j ≤ 10 → l.series = zSer) ∧ (10 < j → SeInv l0.kind bare l ns) := by
  induction h with
  | zero => exact ⟨fun _ => h0, fun h => absurd h (by omega)⟩
  | @skip j l ns _ hs ih =>
    obtain ⟨h1, h2⟩ := ih
    refine ⟨fun hj => h1 (by omega), fun hj => ?_⟩
    by_cases e : j = 10
    · subst e
      have hb : bareF ((10 : Nat) : Int) = true := by decide
      unfold skipB at hs
      rw [hb] at hs
      right
      have key : (l0.kind = 1 ∨ l0.kind = 6 ∨ l0.kind = 8) → bare = true := fun hc => by
        rw [(uses10 k1 k2).2 hc] at hs
        simpa using hs
      exact ⟨fun h => key (by omega), fun h => key (by omega), fun h => .inl (key (by omega)), h1 (by omega)⟩
    · exact h2 (by omega)
  | @step j l l' ns ns' hm hs hf ih =>
    obtain ⟨h1, h2⟩ := ih
    have hk : l.kind = l0.kind := hm.nums.1
    refine ⟨fun hj => (hf.series (by omega)).1.trans (h1 (by omega)), fun hj => ?_⟩
    by_cases e : j = 10
    · subst e
      have hb : bareF ((10 : Nat) : Int) = true := by decide
      unfold skipB at hs
      rw [hb, Bool.or_eq_false_iff] at hs
      obtain ⟨s1, s2⟩ := hs
      have hu : l0.kind = 1 ∨ l0.kind = 6 ∨ l0.kind = 8 := (uses10 k1 k2).1 (by simpa using s1)
      have hbr : bare = false := by simpa using s2
      rcases hf with ⟨e, _⟩ | ⟨e, _⟩ | ⟨_, ⟨a, se, rfl, b⟩ | ⟨a, b, rfl, rfl⟩⟩ | ⟨e, _⟩ | ⟨e, _⟩ | ⟨e, _⟩
      · cases e
      · cases e
      · rw [hk] at a
        refine .inl ⟨hu, hbr, fun h6 => ?_, b⟩
        rcases a with a | a
        · exact absurd h6 a
        · exact a
      · rw [hk] at a
        exact .inr ⟨fun h => by omega, fun h => by omega, fun _ => .inr b, h1 (by omega)⟩
      all_goals cases e
    · have hi := h2 (by omega)
      unfold SeInv at hi ⊢
      rw [(hf.series e).1, (hf.series e).2, hf.scope (by omega)]
      exact hi
theorem MadeTo.win {bare : Bool} {l0 l : Lt} {j : Nat} {ns : List NdV} (h : MadeTo bare l0 j l ns) (h0 : l0.wfrom = 0 ∧ l0.wto = 0) : (j ≤ 14 → l.wfrom = 0 ∧ l.wto = 0) ∧ (14 < j → (l.wfrom = 0 ∧ l.wto = 0) ∨ (usesB l0.kind (14 : Nat) = true ∧ -1000 ≤ l.wfrom ∧ l.wfrom ≤ l.wto ∧ l.wto ≤ 9000)) := by
  induction h with
  | zero => exact ⟨fun _ => h0, fun h => absurd h (by omega)⟩
  | @skip j l ns _ hs ih =>
    obtain ⟨h1, h2⟩ := ih
    refine ⟨fun hj => h1 (by omega), fun hj => ?_⟩
    by_cases e : j = 14
    · exact .inl (h1 (by omega))
    · exact h2 (by omega)
  | @step j l l' ns ns' hm hs hf ih =>
    obtain ⟨h1, h2⟩ := ih
    refine ⟨fun hj => by rw [(hf.window (by omega)).1, (hf.window (by omega)).2]; exact h1 (by omega), fun hj => ?_⟩
    by_cases e : j = 14
    · subst e
      rw [skipB_f (by decide)] at hs
      rcases hf with ⟨e, _⟩ | ⟨e, _⟩ | ⟨e, _⟩ | ⟨_, _, a, b, c1, c2, c3, rfl⟩ | ⟨e, _⟩ | ⟨e, _⟩
      · cases e
      · cases e
      · cases e
      · exact .inr ⟨by simpa using hs, c1, c2, c3⟩
      all_goals cases e
    · rw [(hf.window e).1, (hf.window e).2]
      exact h2 (by omega)
theorem MadeTo.cel {bare : Bool} {l0 l : Lt} {j : Nat} {ns : List NdV} (h : MadeTo bare l0 j l ns) (h0 : l0.cells = []) : (j ≤ 15 → l.cells = []) ∧ (15 < j → (usesB l0.kind (15 : Nat) = false ∧ l.cells = []) ∨ (usesB l0.kind (15 : Nat) = true ∧ CellsOK l.cells)) := by
  induction h with
  | zero => exact ⟨fun _ => h0, fun h => absurd h (by omega)⟩
  | @skip j l ns _ hs ih =>
    obtain ⟨h1, h2⟩ := ih
    refine ⟨fun hj => h1 (by omega), fun hj => ?_⟩
    by_cases e : j = 15
    · subst e
      rw [skipB_f (by decide)] at hs
      exact .inl ⟨by simpa using hs, h1 (by omega)⟩
    · exact h2 (by omega)
  | @step j l l' ns ns' hm hs hf ih =>
    obtain ⟨h1, h2⟩ := ih
    refine ⟨fun hj => by rw [hf.cells2 (by omega)]; exact h1 (by omega), fun hj => ?_⟩
    by_cases e : j = 15
    · subst e
      rw [skipB_f (by decide)] at hs
      rcases hf with ⟨e, _⟩ | ⟨e, _⟩ | ⟨e, _⟩ | ⟨e, _⟩ | ⟨_, _, zs, rfl, hz⟩ | ⟨e, _⟩
      · cases e
      · cases e
      · cases e
      · cases e
      · exact .inr ⟨by simpa using hs, hz⟩
      · cases e
    · rw [hf.cells2 e]
      exact h2 (by omega)
theorem MadeTo.rf {bare : Bool} {l0 l : Lt} {j : Nat} {ns : List NdV} (h : MadeTo bare l0 j l ns) (h0 : l0.ref = zero32) : (j ≤ 16 → l.ref = zero32) ∧ (16 < j → usesB l0.kind (16 : Nat) = true ∨ l.ref = zero32) := by
  induction h with
  | zero => exact ⟨fun _ => h0, fun h => absurd h (by omega)⟩
  | @skip j l ns _ hs ih =>
    obtain ⟨h1, h2⟩ := ih
    refine ⟨fun hj => h1 (by omega), fun hj => ?_⟩
    by_cases e : j = 16
    · exact .inr (h1 (by omega))
    · exact h2 (by omega)
  | @step j l l' ns ns' hm hs hf ih =>
    obtain ⟨h1, h2⟩ := ih
    refine ⟨fun hj => by rw [hf.ref2 (by omega)]; exact h1 (by omega), fun hj => ?_⟩
    by_cases e : j = 16
    · subst e
      rw [skipB_f (by decide)] at hs
      exact .inl (by simpa using hs)
    · rw [hf.ref2 e]
      exact h2 (by omega)
theorem lim_bnd {k : Int} (h1 : 1 ≤ k) (h2 : k ≤ 18) (f : Nat) (hf : f < 17) (hn : numB f = true) : limLow k f = (bnd k f).1 ∧ limHigh k f = (bnd k f).2 := by
  obtain ⟨n, rfl⟩ : ∃ n : Nat, k = n := ⟨k.toNat, by omega⟩
  have h : ∀ n : Nat, n < 19 → ∀ f : Nat, f < 17 → numB (f : Int) = true → limLow (n : Int) (f : Int) = (bnd (n : Int) f).1 ∧ limHigh (n : Int) (f : Int) = (bnd (n : Int) f).2 := by decide +kernel
  exact h n (by omega) f hf hn
theorem numB_offs {f : Nat} (hf : f < 17) : (∃ o, numOff f = some o ∧ numB f = true ∧ bareF f = specialB f) ∨ numOff f = none :=
  all17 (p := fun f => (∃ o, numOff f = some o ∧ numB f = true ∧ bareF f = specialB f) ∨ numOff f = none) (by
    refine ⟨?_, ?_, ?_, ?_, ?_, ?_, ?_, ?_, ?_, ?_, ?_, ?_, ?_, ?_, ?_, ?_, ?_⟩ <;> first | exact .inr rfl | exact .inl ⟨_, rfl, by decide, by decide⟩) f hf
theorem numOK_skip {l : Lt} {bare : Bool} {k o : Nat} (ho : numOff k = some o) (hb : bareF k = specialB k) (hs : skipB l.kind bare k = true) (h : numF l k = 0) : numOK l bare k = true := by
  unfold skipB at hs
  rw [hb] at hs
  rw [numOK_zero ho (by cases h1 : usesB l.kind k <;> cases h2 : (bare && specialB k) <;> simp_all), h]
  rfl
theorem numOK_in {l : Lt} {bare : Bool} {k o : Nat} (ho : numOff k = some o) (hb : bareF k = specialB k) (hs : skipB l.kind bare k = false) (h1 : limLow l.kind k ≤ numF l k) (h2 : numF l k ≤ limHigh l.kind k) : numOK l bare k = true := by
  unfold skipB at hs
  rw [hb] at hs
  rw [numOK_lim ho (by cases h1 : usesB l.kind k <;> cases h2 : (bare && specialB k) <;> simp_all), decide_eq_true h1, decide_eq_true h2]
  rfl
theorem adjust_cases (l : Lt) : adjust l = l ∧ ¬ (l.kind = 6 ∧ l.scope = 3) ∧ ¬ (l.kind = 5 ∧ l.other = l.person) ∨ (l.kind = 6 ∧ l.scope = 3 ∧ adjust l = setNum l 8 0) ∨ (l.kind = 5 ∧ l.other = l.person ∧ adjust l = setNum l 5 (l.other + 1)) := by
  unfold adjust
  split
  · rename_i h; exact .inr (.inl ⟨h.1, h.2, rfl⟩)
  · rename_i h
    split
    · rename_i h2; exact .inr (.inr ⟨h2.1, h2.2, rfl⟩)
    · rename_i h2; exact .inl ⟨rfl, h, h2⟩
theorem cellsOK_v {zs : List Int} (h : CellsOK zs) (k : Int) : vCells k zs = true := by
  rw [vCells_end]
  · have := h.ne
    simp only [Bool.or_eq_true, decide_eq_true_eq]
    omega
  · intro j hj
    have hz : zs[j]?.getD 0 = zs[j] := by rw [List.getElem?_eq_getElem hj]; rfl
    have hr := h.rng zs[j] (List.getElem_mem hj)
    cases srvB k with
    | false => rw [cellOK_f hz]; exact decide_eq_true (by omega)
    | true =>
      rw [cellOK_t hz rfl]
      refine decide_eq_true ⟨by omega, by omega, by omega, ?_⟩
      by_cases e : j = 0
      · exact .inl e
      · right
        rw [List.getElem?_eq_getElem (by omega)]
        exact List.pairwise_iff_getElem.1 h.up (j - 1) j (by omega) hj (by omega)
theorem vMove_ok {d : Int} {m : Mv} (h : MoveOK d m) (h1 : 0 ≤ m.day) (h2 : m.day ≤ 1099511627776) : vMove m = true := by
  obtain ⟨_, h⟩ := h
  unfold vMove
  rcases h with ⟨e, a, b, c⟩ | ⟨e, a, b, c, d, f, g⟩
  · rw [e, if_pos rfl]; exact decide_eq_true ⟨h1, h2, a, b, c⟩
  · rw [e, if_neg (by decide)]; exact decide_eq_true ⟨h1, h2, a, by omega, c, by omega, f, by omega⟩
theorem numOff_num {f o : Nat} (hf : f < 17) (h : numOff f = some o) : numB f = true ∧ bareF f = specialB f := by
  rcases numB_offs hf with ⟨o', _, h1, h2⟩ | h1
  · exact ⟨h1, h2⟩
  · rw [h1] at h; cases h
/-- What a letter that was made holds: everything that letter.Valid asks for. -/
structure MadeV (l : Lt) (ns : List NdV) : Prop where
  k1 : 1 ≤ l.kind
  k2 : l.kind ≤ 18
  body : bodyOK l = true
  ser : noSerB l = true ∨ (usesB l.kind (10 : Nat) = true ∧ nzOf l = false ∧ SerOK ns l.series)
theorem MadeLt.v {l : Lt} {ns : List NdV} (h : MadeLt l ns) : MadeV l ns := by
  obtain ⟨bare, k, f, t, l1, h1, h2, h3, h4, h5, h6, h7, hbk, hm, hadj⟩ := h.made
  have hk0 : (startLt k f t).kind = k := rfl
  obtain ⟨ek, _, hnum⟩ := hm.nums
  rw [hk0] at ek hnum
  have hmv := (hm.mv rfl (by rw [hk0]; exact h1) (by rw [hk0]; exact h2)).2 (by omega)
  have hse := (hm.se rfl (by rw [hk0]; exact h1) (by rw [hk0]; exact h2)).2 (by omega)
  have hwi := (hm.win ⟨rfl, rfl⟩).2 (by omega)
  have hce := (hm.cel rfl).2 (by omega)
  have hrf := (hm.rf rfl).2 (by omega)
  rw [hk0] at hmv hse hwi hce hrf
  have z0 : ∀ i, i < 17 → numF (startLt k f t) i = 0 := fun i hi => start_numF k f t i hi
  -- the letter behind the adjustment
  have a_kind : l.kind = k := by rw [hadj, adjust_kind]; exact ek
  have a_ser : l.series = l1.series := by rw [hadj]; exact adjust_series l1
  have a_cel : l.cells = l1.cells := by rw [hadj]; exact adjust_cells l1
  have a_ref : l.ref = l1.ref := by rw [hadj]; exact adjust_ref l1
  have hac := adjust_cases l1
  have a_mv : l.move = l1.move := by
    rw [hadj]
    rcases hac with ⟨e, _⟩ | ⟨_, _, e⟩ | ⟨_, _, e⟩ <;> rw [e]
    · exact setNum_move _ _ _
    · exact setNum_move _ _ _
  have a_wf : l.wfrom = l1.wfrom := by
    rw [hadj]
    rcases hac with ⟨e, _⟩ | ⟨_, _, e⟩ | ⟨_, _, e⟩ <;> rw [e]
    · exact setNum_wfrom _ _ _
    · exact setNum_wfrom _ _ _
  have a_wt : l.wto = l1.wto := by
    rw [hadj]
    rcases hac with ⟨e, _⟩ | ⟨_, _, e⟩ | ⟨_, _, e⟩ <;> rw [e]
    · exact setNum_wto _ _ _
    · exact setNum_wto _ _ _
  have a_num : ∀ i, i < 17 → i ≠ 8 → i ≠ 5 → numF l i = numF l1 i := fun i hi n8 n5 => by
    rw [hadj]
    rcases hac with ⟨e, _⟩ | ⟨_, _, e⟩ | ⟨_, _, e⟩ <;> rw [e]
    · exact numF_ne _ _ _ _ hi (fun h => n8 h.symm)
    · exact numF_ne _ _ _ _ hi (fun h => n5 h.symm)
  have a_sc : l.scope = l1.scope := a_num 7 (by omega) (by omega) (by omega)
  have bnd8 : (bnd k 8) = (0, 1099511627776) := rfl
  -- all numbers
  have hN : ∀ i, i < 17 → numOK l bare i = true := by
    intro i hi
    cases ho : numOff i with
    | none => exact numOK_nil ho
    | some o =>
      obtain ⟨hnb, hsp⟩ := numOff_num hi ho
      obtain ⟨g1, g2⟩ := hnum i hi hi
      obtain ⟨b1, b2⟩ := lim_bnd h1 h2 i hi hnb
      cases hs : skipB k bare i with
      | true =>
        refine numOK_skip ho hsp (by rw [a_kind]; exact hs) ?_
        have e0 : numF l1 i = 0 := (g1 hs).trans (z0 i hi)
        by_cases n8 : i = 8
        · subst n8
          rcases hac with ⟨e, _⟩ | ⟨_, _, e⟩ | ⟨_, _, e⟩ <;> rw [hadj, e]
          · exact e0
          · rfl
          · rw [numF_ne _ _ _ _ hi (by omega)]; exact e0
        · by_cases n5 : i = 5
          · subst n5
            rcases hac with ⟨e, _⟩ | ⟨_, _, e⟩ | ⟨hk5, _, e⟩ <;> rw [hadj, e]
            · exact e0
            · rw [numF_ne _ _ _ _ hi (by omega)]; exact e0
            · exfalso
              rw [ek] at hk5
              have hb : bare = false := by
                cases bare with
                | false => rfl
                | true => have := hbk rfl; omega
              rw [hk5, hb] at hs
              revert hs
              decide
          · rw [a_num i hi n8 n5]; exact e0
      | false =>
        obtain ⟨c1, c2, c3⟩ := g2 hs hnb
        refine numOK_in ho hsp (by rw [a_kind]; exact hs) ?_ ?_
        all_goals
          rw [a_kind]
          first | rw [b1] | rw [b2]
          by_cases n8 : i = 8
          · subst n8
            rcases hac with ⟨e, _⟩ | ⟨_, _, e⟩ | ⟨_, _, e⟩ <;> rw [hadj, e]
            · first | exact c1 | exact c2
            · rw [bnd8]; first | exact Int.le_refl _ | exact (show (0 : Int) ≤ 1099511627776 by decide)
            · rw [numF_ne _ _ _ _ hi (by omega)]; first | exact c1 | exact c2
          · by_cases n5 : i = 5
            · subst n5
              rcases hac with ⟨e, _⟩ | ⟨_, _, e⟩ | ⟨hk5, _, e⟩ <;> rw [hadj, e]
              · first | exact c1 | exact c2
              · rw [numF_ne _ _ _ _ hi (by omega)]; first | exact c1 | exact c2
              · rw [ek] at hk5
                subst hk5
                have e5 : bnd 5 5 = (0, 511) := rfl
                rw [e5] at c1 c2 c3 ⊢
                rw [numF_same _ _ _ hi rfl]
                have : numF l1 5 = l1.other := rfl
                rw [this] at c1 c2 c3
                dsimp only at c1 c2 c3 ⊢
                omega
            · rw [a_num i hi n8 n5]; first | exact c1 | exact c2
  have hday : k = 6 → 0 ≤ l.day ∧ l.day ≤ 1099511627776 := by
    intro hk
    have h := hN 8 (by omega)
    have hb : bare = false := by
      cases bare with
      | false => rfl
      | true => have := hbk rfl; omega
    rw [hb, numOK_lim (o := 11) rfl (by rw [a_kind, hk]; decide), Bool.and_eq_true, decide_eq_true_eq, decide_eq_true_eq, a_kind, hk] at h
    exact h
  have hop : (decide (l.kind ≠ 5) || decide (l.other ≠ l.person)) = true := by
    rw [Bool.or_eq_true, decide_eq_true_eq, decide_eq_true_eq]
    by_cases hk : l.kind = 5
    · right
      rw [hadj]
      rcases hac with ⟨e, _, n⟩ | ⟨k6, _, _⟩ | ⟨_, he, e⟩
      · rw [e]; intro hc; exact n ⟨by rw [ek, ← a_kind]; exact hk, hc⟩
      · omega
      · rw [e]; show l1.other + 1 ≠ l1.person; omega
    · exact .inl hk
  -- the series
  have hnz : (nzOf l = true ∧ l.series = zSer) ∨ (nzOf l = false ∧ SerOK ns l.series) := by
    rcases hse with ⟨_, _, _, hs⟩ | ⟨_, _, _, hs⟩
    · right
      rw [← a_ser] at hs
      refine ⟨?_, hs⟩
      unfold nzOf noSer
      exact decide_eq_false (by have := hs.lng; omega)
    · left
      rw [← a_ser] at hs
      exact ⟨by unfold nzOf; rw [hs]; rfl, hs⟩
  have hbare : bareB l.kind l.series.rule.length l.series.moves.length l.series = bare := by
    unfold bareB
    rw [a_kind]
    change (decide (k = 8) && nzOf l) = bare
    rcases hse with ⟨_, hb, _, hs⟩ | ⟨_, k8, _, hs⟩
    · rcases hnz with ⟨_, hz⟩ | ⟨hz, _⟩
      · exfalso; rw [← a_ser, hz] at hs; have := hs.lng; simp [zSer] at this
      · rw [hz, hb, Bool.and_false]
    · rcases hnz with ⟨hz, _⟩ | ⟨_, hz⟩
      · rw [hz, Bool.and_true]
        cases bare with
        | true => exact decide_eq_true (hbk rfl)
        | false => exact decide_eq_false fun h => by have := k8 h; cases this
      · exfalso; rw [a_ser, hs] at hz; have := hz.lng; simp [zSer] at this
  have hV : vNums l (bareB l.kind l.series.rule.length l.series.moves.length l.series) = true := by
    rw [hbare, vNums_end hN]
    exact hop
  -- the move
  have hmz : l.move = zMv → mvZ l.move = true := fun e => by rw [e]; rfl
  have hO : oth l = true := by
    unfold oth
    rw [vOthers_rest]
    · rw [Bool.and_eq_true, Bool.and_eq_true, Bool.and_eq_true, Bool.or_eq_true, Bool.or_eq_true, decide_eq_true_eq, decide_eq_true_eq, a_kind]
      refine ⟨⟨⟨?_, ?_⟩, ?_⟩, ?_⟩
      · rcases hmv with ⟨e, g1, g2, g3⟩ | ⟨e, _⟩ | ⟨e, _⟩
        · right; rw [a_mv]; exact vMove_ok g1 g2 (by omega)
        · left; omega
        · exact .inl e
      · by_cases k6 : k = 6
        · right
          unfold vChange
          rcases hmv with ⟨e, _⟩ | ⟨_, hsc, g1, g2⟩ | ⟨_, hsc, g⟩
          · omega
          · have e1 : l.scope = 1 := by rw [a_sc]; exact hsc
            have ed : l.day = l1.day := by
              rw [hadj]
              rcases hac with ⟨e, _⟩ | ⟨_, e3, _⟩ | ⟨e5, _⟩
              · rw [e]
              · omega
              · omega
            have hd := hday k6
            have hz : nzOf l = true := by
              rcases hse with ⟨_, _, n, _⟩ | ⟨_, _, _, hs⟩
              · exact absurd hsc (n k6)
              · rcases hnz with ⟨h, _⟩ | ⟨_, h⟩
                · exact h
                · exfalso; rw [a_ser, hs] at h; have := h.lng; simp [zSer] at this
            rw [if_pos e1, a_mv, vMove_ok g1 (by omega) (by omega), hz, decide_eq_true (by omega)]
            rfl
          · have n1 : ¬ l.scope = 1 := by rw [a_sc]; exact hsc k6
            rw [if_neg n1, hmz (a_mv.trans g)]
            split
            · rename_i e3
              have : l.day = 0 := by
                rw [hadj]
                rcases hac with ⟨_, e, _⟩ | ⟨_, _, e⟩ | ⟨e5, _⟩
                · exact absurd ⟨by omega, by rw [← a_sc]; exact e3⟩ e
                · rw [e]; rfl
                · omega
              rw [this]; rfl
            · rfl
        · exact .inl k6
      · unfold spanB
        rw [a_wf, a_wt]
        refine decide_eq_true ?_
        rcases hwi with ⟨e1, e2⟩ | ⟨_, e1, e2, e3⟩
        · rw [e1, e2]; decide
        · omega
      · rw [a_cel]
        rcases hce with ⟨hu, e⟩ | ⟨_, e⟩
        · rw [e]
          unfold vCells
          rw [decide_eq_true (show k ≠ 17 by rintro rfl; revert hu; decide)]
          rfl
        · exact cellsOK_v e k
    · refine zerosOK_yes fun i hi => ?_
      rw [a_kind]
      have hi' : i = 0 ∨ i = 1 ∨ i = 2 ∨ i = 3 ∨ i = 4 := by omega
      rcases hi' with rfl | rfl | rfl | rfl | rfl
      · show (usesB k ((9 : Nat) : Int) || mvZ l.move) = true
        rw [Bool.or_eq_true]
        rcases hmv with ⟨e, _⟩ | ⟨e, _⟩ | ⟨_, _, g⟩
        · exact .inl ((uses9 h1 h2).2 (.inl e))
        · exact .inl ((uses9 h1 h2).2 (.inr e))
        · exact .inr (hmz (a_mv.trans g))
      · show (usesB k ((10 : Nat) : Int) || nzOf l) = true
        rw [Bool.or_eq_true]
        rcases hse with ⟨e, _⟩ | ⟨_, _, _, hs⟩
        · exact .inl ((uses10 h1 h2).2 e)
        · rcases hnz with ⟨h, _⟩ | ⟨_, h⟩
          · exact .inr h
          · exfalso; rw [a_ser, hs] at h; have := h.lng; simp [zSer] at this
      · show (usesB k ((14 : Nat) : Int) || (decide (l.wfrom = 0) && decide (l.wto = 0))) = true
        rw [Bool.or_eq_true, a_wf, a_wt]
        rcases hwi with ⟨e1, e2⟩ | ⟨e, _⟩
        · right; rw [e1, e2]; rfl
        · exact .inl e
      · show (usesB k ((15 : Nat) : Int) || ((l.cells.length : Int) == 0)) = true
        rw [Bool.or_eq_true, a_cel]
        rcases hce with ⟨_, e⟩ | ⟨e, _⟩
        · right; rw [e]; rfl
        · exact .inl e
      · show (usesB k ((16 : Nat) : Int) || (l.ref == zero32)) = true
        rw [Bool.or_eq_true, a_ref]
        rcases hrf with e | e
        · exact .inl e
        · right; rw [e]; decide
  refine ⟨by omega, by omega, by unfold bodyOK; rw [hV, hO]; rfl, ?_⟩
  rcases hnz with ⟨hz, _⟩ | ⟨hz, hs⟩
  · left
    unfold noSerB
    rw [hz, a_kind, a_sc]
    change (!usesB k ((10 : Nat) : Int) || _) = true
    cases hu : usesB k ((10 : Nat) : Int) with
    | false => rfl
    | true =>
      have hk := (uses10 h1 h2).1 hu
      rcases hse with ⟨_, _, _, hs⟩ | ⟨a, b, c, _⟩
      · exfalso
        unfold nzOf noSer at hz
        rw [a_ser, decide_eq_true_eq] at hz
        have := hs.lng
        omega
      · simp only [Bool.not_true, Bool.false_or, Bool.true_and, Bool.or_eq_true, decide_eq_true_eq]
        rcases hk with hk | hk | hk
        · have := hbk (a hk); omega
        · rcases c hk with c | c
          · have := hbk c; omega
          · exact .inr c
        · exact .inl hk
  · right
    refine ⟨?_, hz, hs⟩
    rw [a_kind]
    rcases hse with ⟨e, _⟩ | ⟨_, _, _, hs'⟩
    · exact (uses10 h1 h2).2 e
    · exfalso; rw [a_ser, hs'] at hs; have := hs.lng; simp [zSer] at this
end Go.Proofs.YtdakcbddlempfaaGreat

/- letter.Valid where series.Valid is reached. -/
namespace Go.Proofs.YtdakcbddlempfaaGreat
open Go Go.RowKit

/-- The letter's box, and what was there before. -/
structure VS (w : World) (l : Lt) (s : Sl) (W : World) : Prop where
  row : Row W w.heap.size (ltVal l s)
  lo : Below w.heap.size w W
theorem VS.below {w W W' : World} {l : Lt} {s : Sl} (h : VS w l s W) (hb : Below W.heap.size W W') : VS w l s W' := ⟨h.row.keep hb, below_trans h.lo hb⟩
theorem VS.drew {w W : World} {l : Lt} {s : Sl} (h : VS w l s W) : VS w l s W.drew := h.below (Below.refl _ W).drew
attribute [local go_sem] ltVal_get lt_get0 lt_get1 lt_get2 lt_get10 lt_get17 lt_get18 lt_get19 lt_get20 lt_get21 lt_get22 lt_get23 lt_get29
def serVal (l : Lt) (s : Sl) : Value := .agg #[.slice s.A l.series.rule.length s.c, I l.series.minute, I l.series.length, .string l.series.zone, I l.series.gap, I l.series.fold, .slice s.B l.series.moves.length s.d]
set_option maxRecDepth 10000 in
set_option maxHeartbeats 4000000 in
theorem valid_ser (l : Lt) (s : Sl) (w : World) (r : Int) (hok : LtOK l) (hi : IntsAt w w.heap.size s.C l.cells) (hh : headOK l = true) (hbo : bodyOK l = true) (hcl : l.cells.length ≤ 65536) (hu : usesB l.kind 10 = true)
    (hnb : nzOf l = false ∨ (nzOf l = true ∧ (l.kind == 8) = false ∧ (l.scope == 1) = false))
    (hsv : ∀ w' cb cc xs, Below w.heap.size w w' → CalsAt w' w'.heap.size cb xs → Calls Tryz.prog 42 #[serVal l s, .slice (some ⟨cb, 0, none⟩) 3 cc] w' (Gives (I r) w')) :
    Calls Tryz.prog 12 #[.agg (ltVal l s)] w (Gives (I r) w) := by
  obtain ⟨⟨hk1, hk2⟩, h1, h2, he⟩ := headOK_iff hh
  have H1 := Lib.hid h1
  have H2 := Lib.hid h2
  have HR0 := Lib.hid (Row.new w (ltVal l s) 37)
  have HB0 := Lib.hid (below_var w (.cells (ltVal l s) 37))
  have HSZ : Hid ((Tryz.prog.info? 37).map (·.size) = some (ltVal l s).size) := Lib.hid (by unfold ltVal; rw [lt_size _ _ _ _ hok.ref]; kernel_rfl)
  have hbb : vNums l (bareB l.kind l.series.rule.length l.series.moves.length l.series) = true ∧ oth l = true := by unfold bodyOK at hbo; exact Bool.and_eq_true_iff.1 hbo
  have HB1 := Lib.hid hbb.1
  have HB2 := Lib.hid hbb.2
  have HOK := Lib.hid hok
  have HI := Lib.hid hi
  have HU := Lib.hid hu
  have HSV := Lib.hid hsv
  have hcl' : ¬ 65536 < l.cells.length := by omega
  clear hh h1 h2 hbb hok hi hu hbo hcl hsv
  rcases hnb with hnz | ⟨hnz, h8, h1'⟩
  · as_aux_lemma =>
    have HNZ := Lib.hid hnz
    clear hnz
    go_enter Tryz.func12, Tryz.ntmps12
    go_wp2_with (first
      | (go_at_call 38; refine (server_any _ _).mono ?_; rintro e w' ⟨rfl, rfl⟩; first | rw [H1.out] | rw [H2.out])
      | (with_reducible refine g_load 37 ?_; refine wpList_load_Row rfl _ _ rfl w.heap.size rfl (ltVal l s) (by first | with_reducible exact HRb.out | with_reducible exact HR0.out) _ Tryz.underlying37 rfl HSZ.out ?_)
      | (go_at_call 39; refine (validNumbers_lt l s _ HOK.out).mono ?_; rintro e w1 ⟨rfl, hb1⟩; have HRb := Lib.hid (HR0.out.keep hb1); have HBb := Lib.hid (below_trans HB0.out hb1); have HCb := Lib.hid ((HI.out.keep HBb.out).more HBb.out.size); have hrb := HRb.out.2; rw [HB1.out]; clear hb1)
      | (go_at_call 40; refine (validOthers_lt l s _ HOK.out HCb.out).mono ?_; rintro e w2 ⟨rfl, hb2⟩; have HRc := Lib.hid (HRb.out.keep hb2); have HBc := Lib.hid (below_trans HBb.out hb2); have hrc := HRc.out.2; rw [HB2.out]; clear hb2)
      | (go_at_call 29; refine (uses_any _ _ _ (by omega) (by omega)).mono ?_; rintro e w3 ⟨rfl, hb3⟩; have HRd := Lib.hid (HRc.out.keep hb3); have HBd := Lib.hid (below_trans HBc.out hb3); have hrd := HRd.out.2; rw [HU.out]; clear hb3)
      | (go_at_call 41; refine (noSeries_lt l s _ HOK.out).mono ?_; rintro e w4 ⟨rfl, hb4⟩; have HRe := Lib.hid (HRd.out.keep hb4); have HBe := Lib.hid (below_trans HBd.out hb4); have hre := HRe.out.2; rw [HNZ.out]; clear hb4))
    have hS4 : VS w l s w4.drew := VS.drew ⟨HRe.out, HBe.out⟩
    refine wp_region_held_drew (S := VS w l s) (by kernel_rfl) hS4 (fun hH0 => ?_)
    refine wpAnyH_take_dst (i := 0) (v := ?v0a) (d := 66) rfl rfl (by kernel_rfl) (by kernel_rfl) (by kernel_rfl) (fun _ _ _ h => h) (Or.inl ⟨by rfl, ?hy0a⟩) (by assumption) ?r0a
    case hy0a => intro w' hSw; have k0 := hSw.row.2; clear hSw; first | (go_simp; done) | (go_simp; with_reducible rfl)
    try simp only [Act.put, List.setIfInBounds_toArray, List.set_cons_zero, List.set_cons_succ]
    refine wpAnyH_take_dst (i := 1) (v := ?v1a) (d := 67) rfl rfl (by kernel_rfl) (by kernel_rfl) (by kernel_rfl) (fun _ _ _ h => h) (Or.inl ⟨by rfl, ?hy1a⟩) (by assumption) ?r1a
    case hy1a => intro w' hSw; have k0 := hSw.row.2; clear hSw; first | (go_simp; done) | (go_simp; with_reducible rfl)
    try simp only [Act.put, List.setIfInBounds_toArray, List.set_cons_zero, List.set_cons_succ]
    refine wpAnyH_ready (rs := [2]) (by kernel_rfl) (by simp) ?_
    refine AllReadyH.cons rfl (fun K hK => ?_) AllReadyH.nil
    go_simp
    refine (calendars_any _).mono ?_
    rintro x w5 ⟨xs, rfl, hcs⟩
    have hS5 := hS4.below hcs.lo
    have hCA := hcs.cals
    clear hcs
    refine hK.out _ _ hS5 (fun hHeld => ?_)
    clear hHeld
    clear hK K
    try simp only [Act.put, List.setIfInBounds_toArray, List.set_cons_zero, List.set_cons_succ]
    refine wpAnyH_ready (rs := [3]) (by kernel_rfl) (by simp) ?_
    refine AllReadyH.cons rfl (fun K hK => ?_) AllReadyH.nil
    go_simp
    refine (HSV.out _ _ _ xs hS5.lo hCA).mono ?_
    rintro x w6 ⟨rfl, hb6⟩
    have hS6 := hS5.below hb6
    clear hb6
    refine hK.out _ _ hS6 (fun hHeld => ?_)
    clear hHeld
    clear hK K
    try simp only [Act.put, List.setIfInBounds_toArray, List.set_cons_zero, List.set_cons_succ]
    refine wpAnyH_take_dst (i := 4) (v := ?v4a) (d := 2) rfl rfl (by kernel_rfl) (by kernel_rfl) (by kernel_rfl) (fun _ _ _ h => h) (Or.inl ⟨by rfl, ?hy4a⟩) (by assumption) ?r4a
    case hy4a => intro w' hSw; first | (go_simp; done) | (go_simp; with_reducible rfl)
    try simp only [Act.put, List.setIfInBounds_toArray, List.set_cons_zero, List.set_cons_succ]
    refine wpAnyH_done (by kernel_rfl) ?_ _
    clear hH0
    go_wp2_with fail
    go_ret
    exact ⟨rfl, hS6.lo⟩
  · as_aux_lemma =>
    have HNZ := Lib.hid hnz
    clear hnz
    go_enter Tryz.func12, Tryz.ntmps12
    go_wp2_with (first
      | (go_at_call 38; refine (server_any _ _).mono ?_; rintro e w' ⟨rfl, rfl⟩; first | rw [H1.out] | rw [H2.out])
      | (with_reducible refine g_load 37 ?_; refine wpList_load_Row rfl _ _ rfl w.heap.size rfl (ltVal l s) (by first | with_reducible exact HRb.out | with_reducible exact HR0.out) _ Tryz.underlying37 rfl HSZ.out ?_)
      | (go_at_call 39; refine (validNumbers_lt l s _ HOK.out).mono ?_; rintro e w1 ⟨rfl, hb1⟩; have HRb := Lib.hid (HR0.out.keep hb1); have HBb := Lib.hid (below_trans HB0.out hb1); have HCb := Lib.hid ((HI.out.keep HBb.out).more HBb.out.size); have hrb := HRb.out.2; rw [HB1.out]; clear hb1)
      | (go_at_call 40; refine (validOthers_lt l s _ HOK.out HCb.out).mono ?_; rintro e w2 ⟨rfl, hb2⟩; have HRc := Lib.hid (HRb.out.keep hb2); have HBc := Lib.hid (below_trans HBb.out hb2); have hrc := HRc.out.2; rw [HB2.out]; clear hb2)
      | (go_at_call 29; refine (uses_any _ _ _ (by omega) (by omega)).mono ?_; rintro e w3 ⟨rfl, hb3⟩; have HRd := Lib.hid (HRc.out.keep hb3); have HBd := Lib.hid (below_trans HBc.out hb3); have hrd := HRd.out.2; rw [HU.out]; clear hb3)
      | (go_at_call 41; refine (noSeries_lt l s _ HOK.out).mono ?_; rintro e w4 ⟨rfl, hb4⟩; have HRe := Lib.hid (HRd.out.keep hb4); have HBe := Lib.hid (below_trans HBd.out hb4); have hre := HRe.out.2; rw [HNZ.out]; clear hb4))
    have hS4 : VS w l s w4.drew := VS.drew ⟨HRe.out, HBe.out⟩
    refine wp_region_held_drew (S := VS w l s) (by kernel_rfl) hS4 (fun hH0 => ?_)
    refine wpAnyH_take_dst (i := 0) (v := ?v0b) (d := 66) rfl rfl (by kernel_rfl) (by kernel_rfl) (by kernel_rfl) (fun _ _ _ h => h) (Or.inl ⟨by rfl, ?hy0b⟩) (by assumption) ?r0b
    case hy0b => intro w' hSw; have k0 := hSw.row.2; clear hSw; first | (go_simp; done) | (go_simp; with_reducible rfl)
    try simp only [Act.put, List.setIfInBounds_toArray, List.set_cons_zero, List.set_cons_succ]
    refine wpAnyH_take_dst (i := 1) (v := ?v1b) (d := 67) rfl rfl (by kernel_rfl) (by kernel_rfl) (by kernel_rfl) (fun _ _ _ h => h) (Or.inl ⟨by rfl, ?hy1b⟩) (by assumption) ?r1b
    case hy1b => intro w' hSw; have k0 := hSw.row.2; clear hSw; first | (go_simp; done) | (go_simp; with_reducible rfl)
    try simp only [Act.put, List.setIfInBounds_toArray, List.set_cons_zero, List.set_cons_succ]
    refine wpAnyH_ready (rs := [2]) (by kernel_rfl) (by simp) ?_
    refine AllReadyH.cons rfl (fun K hK => ?_) AllReadyH.nil
    go_simp
    refine (calendars_any _).mono ?_
    rintro x w5 ⟨xs, rfl, hcs⟩
    have hS5 := hS4.below hcs.lo
    have hCA := hcs.cals
    clear hcs
    refine hK.out _ _ hS5 (fun hHeld => ?_)
    clear hHeld
    clear hK K
    try simp only [Act.put, List.setIfInBounds_toArray, List.set_cons_zero, List.set_cons_succ]
    refine wpAnyH_ready (rs := [3]) (by kernel_rfl) (by simp) ?_
    refine AllReadyH.cons rfl (fun K hK => ?_) AllReadyH.nil
    go_simp
    refine (HSV.out _ _ _ xs hS5.lo hCA).mono ?_
    rintro x w6 ⟨rfl, hb6⟩
    have hS6 := hS5.below hb6
    clear hb6
    refine hK.out _ _ hS6 (fun hHeld => ?_)
    clear hHeld
    clear hK K
    try simp only [Act.put, List.setIfInBounds_toArray, List.set_cons_zero, List.set_cons_succ]
    refine wpAnyH_take_dst (i := 4) (v := ?v4b) (d := 2) rfl rfl (by kernel_rfl) (by kernel_rfl) (by kernel_rfl) (fun _ _ _ h => h) (Or.inl ⟨by rfl, ?hy4b⟩) (by assumption) ?r4b
    case hy4b => intro w' hSw; first | (go_simp; done) | (go_simp; with_reducible rfl)
    try simp only [Act.put, List.setIfInBounds_toArray, List.set_cons_zero, List.set_cons_succ]
    refine wpAnyH_done (by kernel_rfl) ?_ _
    clear hH0
    go_wp2_with fail
    go_ret
    exact ⟨rfl, hS6.lo⟩
theorem noSerB_no {l : Lt} (h : noSerB l = false) : usesB l.kind 10 = true ∧ (nzOf l = false ∨ (nzOf l = true ∧ (l.kind == 8) = false ∧ (l.scope == 1) = false)) := by
  unfold noSerB at h
  rw [Bool.or_eq_false_iff] at h
  obtain ⟨h1, h2⟩ := h
  refine ⟨by simpa using h1, ?_⟩
  cases hz : nzOf l with
  | false => exact .inl rfl
  | true =>
    rw [hz, Bool.true_and, Bool.or_eq_false_iff] at h2
    exact .inr ⟨rfl, by rw [beq_dec]; exact h2.1, by rw [beq_dec]; exact h2.2⟩
end Go.Proofs.YtdakcbddlempfaaGreat

/- series.moveOK, series.sound, series.Valid (where the series is valid). -/
namespace Go.Proofs.YtdakcbddlempfaaGreat
open Go Go.RowKit

theorem eql_mv_same (d t n l : Int) (b : Bool) (W : World) : (binOp .eql 26 (.agg #[I d, .bool b, I t, I n, I l]) (.agg #[I d, .bool b, I t, I n, I l])).run Tryz.prog W = .ok (.bool true) W := by
  simp [go_sem]
set_option maxRecDepth 10000 in
set_option maxHeartbeats 2000000 in
theorem moveOK_yes (m : Mv) (w : World) (h : MvGood m) : Calls Tryz.prog 89 #[.agg #[I m.day, .bool m.drop, I m.toDay, I m.minute, I m.length]] w (Gives (.bool true) w) := by
  have HB := Lib.hid (below_var w (.cells #[I m.day, .bool m.drop, I m.toDay, I m.minute, I m.length] 26))
  obtain ⟨d, b, t, n, l⟩ := m
  obtain ⟨h1, h2, h⟩ := h
  simp only at h1 h2 h
  rcases h with ⟨rfl, rfl, rfl, rfl⟩ | ⟨rfl, h3, h4, h5, h6, h7, h8⟩
  · have he := eql_mv_same d 0 0 0 true
    go_enter Tryz.func89, Tryz.ntmps89
    go_wp2_with (go_at_call 88; refine (seWithin_yes _ _ _ _ (by omega) (by omega)).mono ?_; rintro e w' ⟨rfl, rfl⟩)
    go_ret
    exact ⟨rfl, HB.out⟩
  · go_enter Tryz.func89, Tryz.ntmps89
    go_wp2_with (go_at_call 88; refine (seWithin_yes _ _ _ _ (by omega) (by omega)).mono ?_; rintro e w' ⟨rfl, rfl⟩)
    go_ret
    exact ⟨rfl, HB.out⟩
theorem mvOne {w wr : World} {B : Option Addr} {ms : List Mv} {n k : Nat} (hB : MovesAt w w.heap.size B ms) (hl : ms.length = n) (hb : Below w.heap.size w wr) (hk : k < n) :
    ∃ b m, B = some ⟨b, 0, none⟩ ∧ b < wr.heap.size ∧ ms[k]? = some m ∧ wr.rangeAt b (k * 5) (mvCells m).toList := by
  rcases (hB.keep hb) with h | ⟨b1, h1, h2, h3⟩
  · omega
  have hx : ms[k]? = some ms[k] := List.getElem?_eq_getElem (by omega)
  exact ⟨b1, ms[k], h1, Nat.lt_of_lt_of_le h2 hb.size, hx, h3 k _ hx⟩
/-- Inside the loop: the series' box and the move's variable. -/
structure SoS (w : World) (sc : Array Value) (W : World) : Prop where
  box : Row W w.heap.size sc
  lo : Below w.heap.size w W
theorem SoS.below {w W W' : World} {sc : Array Value} (h : SoS w sc W) (hb : Below W.heap.size W W') : SoS w sc W' := ⟨h.box.keep hb, below_trans h.lo hb⟩
structure SoL (w : World) (sc : Array Value) (mb : Nat) (mc : Array Value) (pvF : World → Prop) (W : World) : Prop where
  box : Row W w.heap.size sc
  mv : Row W mb mc
  pv : pvF W
  lo : Below w.heap.size w W
theorem SoL.grow {w W W' : World} {sc : Array Value} {mb : Nat} {mc : Array Value} {F : World → Prop} (h : SoL w sc mb mc F W) (hb : Below W.heap.size W W') (hp : F W') : SoL w sc mb mc F W' := ⟨h.box.keep hb, h.mv.keep hb, hp, below_trans h.lo hb⟩
theorem mvv_size (m : Mv) : (Tryz.prog.info? 26).map (·.size) = some (#[I m.day, .bool m.drop, I m.toDay, I m.minute, I m.length] : Array Value).size := by kernel_rfl
set_option maxRecDepth 10000 in
set_option maxHeartbeats 2000000 in
theorem sound_yes (s : Ser) (A B : Option Addr) (c e n mn : Nat) (ns : List NdV) (w : World) (hA : RulesAt w w.heap.size A ns) (hl : ns.length = n) (hok : RuleOK ns) (hB : MovesAt w w.heap.size B s.moves) (hml : s.moves.length = mn) (h : SerGood s) :
    Calls Tryz.prog 66 #[.agg #[.slice A n c, I s.minute, I s.length, .string s.zone, I s.gap, I s.fold, .slice B mn e]] w (Gives (.bool true) w) := by
  have HS0 : Hid (SoS w #[.slice A n c, I s.minute, I s.length, .string s.zone, I s.gap, I s.fold, .slice B mn e] (w.alloc (.cells #[.slice A n c, I s.minute, I s.length, .string s.zone, I s.gap, I s.fold, .slice B mn e] 31))) := Lib.hid ⟨Row.new w _ _, below_var w _⟩
  have HP := Lib.hid (fun w' (hb : Below w.heap.size w w') => part_yes A n c ns w' ((hA.keep hb).more hb.size) hl hok)
  have HB := Lib.hid hB
  have HML := Lib.hid hml
  have HG := Lib.hid h
  obtain ⟨⟨q1, q2⟩, ⟨q3, q4⟩, ⟨q5, q6⟩, ⟨q7, q8⟩, ⟨q9, q10⟩, q11, _, _⟩ := h
  obtain ⟨rule, mi, le, zo, ga, fo, ms⟩ := s
  simp only at q1 q2 q3 q4 q5 q6 q7 q8 q9 q10 q11 HS0 HB HML ⊢
  have q12 : ¬ (64 : Int) < (mn : Int) := by have := HML.out; omega
  clear hA hl hok hB hml q11
  go_enter Tryz.func66, Tryz.ntmps66
  go_wp2_with fail
  refine (HP.out _ HS0.out.lo).mono ?_
  rintro e1 w1 ⟨⟨v, rfl⟩, hb1⟩
  have HS1 := Lib.hid (HS0.out.below hb1)
  have g0 := HS1.out.box.2
  clear hb1 HP HS0
  go_wp2_with (go_at_call 88; refine (seWithin_yes _ _ _ _ (by omega) (by omega)).mono ?_; rintro e w' ⟨rfl, rfl⟩)
  clear g0
  go_loopw [53] (fun i wr => ∃ k : Nat, k ≤ mn ∧ i = I k ∧ SoS w #[.slice A n c, I mi, I le, .string zo, I ga, I fo, .slice B mn e] wr) (fun i _ => mn - (intOf i).toNat)
  case atStart => exact ⟨0, by omega, rfl, HS1.out⟩
  case round =>
    obtain ⟨k, hk, rfl, hso⟩ := hrel
    have HSO := Lib.hid hso
    clear hso HS1
    by_cases hlt : (k : Int) < (mn : Int)
    · have i0 : (0 : Int) ≤ (k : Int) := by omega
      have i1 : k < mn := by omega
      obtain ⟨b, m, hBe, hbl, hx, hr⟩ := mvOne HB.out HML.out HSO.out.lo i1
      have f0 : wr.cell? ⟨b, k * 5, none⟩ = some (I m.day) := hr 0 _ rfl
      have f1 : wr.cell? ⟨b, k * 5 + 1, none⟩ = some (.bool m.drop) := hr 1 _ rfl
      have f2 : wr.cell? ⟨b, k * 5 + 2, none⟩ = some (I m.toDay) := hr 2 _ rfl
      have f3 : wr.cell? ⟨b, k * 5 + 3, none⟩ = some (I m.minute) := hr 3 _ rfl
      have f4 : wr.cell? ⟨b, k * 5 + 4, none⟩ = some (I m.length) := hr 4 _ rfl
      have HGD : Hid (MvGood m) := Lib.hid (HG.out.mv m (List.mem_of_getElem? hx))
      have hne : ¬ b = wr.heap.size := by omega
      have HBV := Lib.hid (below_var wr (.cells #[I m.day, .bool m.drop, I m.toDay, I m.minute, I m.length] 26))
      have HSV := Lib.hid (HSO.out.below HBV.out)
      have HRV := Lib.hid (Row.new wr #[I m.day, .bool m.drop, I m.toDay, I m.minute, I m.length] 26)
      by_cases hk0 : k = 0
      · have hq : ¬ (0 : Int) < (k : Int) := by omega
        subst hBe
        clear hr hx hk0
        go_wp2_with fail
        have hS1 : SoL w #[.slice A n c, I mi, I le, .string zo, I ga, I fo, .slice (some ⟨b, 0, none⟩) mn e] wr.heap.size #[I m.day, .bool m.drop, I m.toDay, I m.minute, I m.length] (fun _ => True) (wr.alloc (.cells #[I m.day, .bool m.drop, I m.toDay, I m.minute, I m.length] 26)).drew := ⟨HSV.out.box, HRV.out, trivial, HSV.out.lo.drew⟩
        refine wp_region_held_drew (S := SoL w #[.slice A n c, I mi, I le, .string zo, I ga, I fo, .slice (some ⟨b, 0, none⟩) mn e] wr.heap.size #[I m.day, .bool m.drop, I m.toDay, I m.minute, I m.length] (fun _ => True)) (by kernel_rfl) hS1 (fun hH0 => ?_)
        refine wpAnyH_take_dst (i := 0) (v := _) (d := 58) rfl rfl (by kernel_rfl) (by kernel_rfl) (by kernel_rfl) (fun _ _ _ h => h) (yieldsIf_load_Row (by rfl) _ _ rfl wr.heap.size rfl #[I m.day, .bool m.drop, I m.toDay, I m.minute, I m.length] _ (fun w' h => h.mv) Tryz.underlying26 rfl (mvv_size m)) (by assumption) ?r0a
        try simp only [Act.put, List.setIfInBounds_toArray, List.set_cons_zero, List.set_cons_succ]
        refine wpAnyH_ready (rs := [1]) (by kernel_rfl) (by simp) ?_
        refine AllReadyH.cons rfl (fun K hK => ?_) AllReadyH.nil
        go_simp
        refine (moveOK_yes m _ HGD.out).mono ?_
        rintro v5 w5 ⟨rfl, hb5⟩
        have hS5 := hS1.grow hb5 trivial
        clear hb5
        refine hK.out _ _ hS5 (fun hHeld => ?_)
        clear hHeld
        clear hK K
        try simp only [Act.put, List.setIfInBounds_toArray, List.set_cons_zero, List.set_cons_succ]
        refine wpAnyH_take_dst (i := 2) (v := ?v2a) (d := 60) rfl rfl (by kernel_rfl) (by kernel_rfl) (by kernel_rfl) (fun _ _ _ h => h) (Or.inl ⟨by rfl, ?hy2a⟩) (by assumption) ?r2a
        case hy2a => intro w' hSw; have k0 := hSw.mv.2; have k1 := hSw.box.2; have k2 := hSw.pv; clear hSw; first | (go_simp; done) | (go_simp; with_reducible rfl)
        try simp only [Act.put, List.setIfInBounds_toArray, List.set_cons_zero, List.set_cons_succ]
        refine wpAnyH_take_dst (i := 3) (v := ?v3a) (d := 61) rfl rfl (by kernel_rfl) (by kernel_rfl) (by kernel_rfl) (fun _ _ _ h => h) (Or.inl ⟨by rfl, ?hy3a⟩) (by assumption) ?r3a
        case hy3a => intro w' hSw; have k0 := hSw.mv.2; have k1 := hSw.box.2; have k2 := hSw.pv; clear hSw; first | (go_simp; done) | (go_simp; with_reducible rfl)
        try simp only [Act.put, List.setIfInBounds_toArray, List.set_cons_zero, List.set_cons_succ]
        refine wpAnyH_take_dst (i := 4) (v := ?v4a) (d := 62) rfl rfl (by kernel_rfl) (by kernel_rfl) (by kernel_rfl) (fun _ _ _ h => h) (Or.inl ⟨by rfl, ?hy4a⟩) (by assumption) ?r4a
        case hy4a => intro w' hSw; have k0 := hSw.mv.2; have k1 := hSw.box.2; have k2 := hSw.pv; clear hSw; first | (go_simp; done) | (go_simp; with_reducible rfl)
        try simp only [Act.put, List.setIfInBounds_toArray, List.set_cons_zero, List.set_cons_succ]
        refine wpAnyH_take_dst (i := 5) (v := .bool false) (d := 63) rfl rfl (by kernel_rfl) (by kernel_rfl) (by kernel_rfl) (fun _ _ _ h => h) (Or.inl ⟨by rfl, ?hy5a⟩) (by assumption) ?r5a
        case hy5a => intro w' hSw; clear hSw; first | (go_simp; done) | (go_simp; omega) | (go_simp; rw [decide_eq_false hq]; done) | (go_simp; rw [decide_eq_false hq]; rfl)
        try simp only [Act.put, List.setIfInBounds_toArray, List.set_cons_zero, List.set_cons_succ]
        refine wpAnyH_take_dst (i := 6) (v := ?v6a) (d := 64) rfl rfl (by kernel_rfl) (by kernel_rfl) (by kernel_rfl) (fun _ _ _ h => h) (Or.inl ⟨by rfl, ?hy6a⟩) (by assumption) ?r6a
        case hy6a => intro w' hSw; have k0 := hSw.mv.2; have k1 := hSw.box.2; have k2 := hSw.pv; clear hSw; first | (go_simp; done) | (go_simp; with_reducible rfl)
        try simp only [Act.put, List.setIfInBounds_toArray, List.set_cons_zero, List.set_cons_succ]
        refine wpAnyH_take_dst (i := 7) (v := undef) (d := 65) rfl rfl (by kernel_rfl) (by kernel_rfl) (by kernel_rfl) (fun _ _ _ h => h) (Or.inr ⟨by rfl, rfl⟩) (by assumption) ?r7a
        try simp only [Act.put, List.setIfInBounds_toArray, List.set_cons_zero, List.set_cons_succ]
        refine wpAnyH_take_dst (i := 8) (v := undef) (d := 66) rfl rfl (by kernel_rfl) (by kernel_rfl) (by kernel_rfl) (fun _ _ _ h => h) (Or.inr ⟨by rfl, rfl⟩) (by assumption) ?r8a
        try simp only [Act.put, List.setIfInBounds_toArray, List.set_cons_zero, List.set_cons_succ]
        refine wpAnyH_take_dst (i := 9) (v := undef) (d := 67) rfl rfl (by kernel_rfl) (by kernel_rfl) (by kernel_rfl) (fun _ _ _ h => h) (Or.inr ⟨by rfl, rfl⟩) (by assumption) ?r9a
        try simp only [Act.put, List.setIfInBounds_toArray, List.set_cons_zero, List.set_cons_succ]
        refine wpAnyH_take_dst (i := 10) (v := undef) (d := 68) rfl rfl (by kernel_rfl) (by kernel_rfl) (by kernel_rfl) (fun _ _ _ h => h) (Or.inr ⟨by rfl, rfl⟩) (by assumption) ?r10a
        try simp only [Act.put, List.setIfInBounds_toArray, List.set_cons_zero, List.set_cons_succ]
        refine wpAnyH_take_dst (i := 11) (v := undef) (d := 69) rfl rfl (by kernel_rfl) (by kernel_rfl) (by kernel_rfl) (fun _ _ _ h => h) (Or.inr ⟨by rfl, rfl⟩) (by assumption) ?r11a
        try simp only [Act.put, List.setIfInBounds_toArray, List.set_cons_zero, List.set_cons_succ]
        refine wpAnyH_take_dst (i := 12) (v := undef) (d := 70) rfl rfl (by kernel_rfl) (by kernel_rfl) (by kernel_rfl) (fun _ _ _ h => h) (Or.inr ⟨by rfl, rfl⟩) (by assumption) ?r12a
        try simp only [Act.put, List.setIfInBounds_toArray, List.set_cons_zero, List.set_cons_succ]
        refine wpAnyH_take_dst (i := 13) (v := undef) (d := 71) rfl rfl (by kernel_rfl) (by kernel_rfl) (by kernel_rfl) (fun _ _ _ h => h) (Or.inr ⟨by rfl, rfl⟩) (by assumption) ?r13a
        try simp only [Act.put, List.setIfInBounds_toArray, List.set_cons_zero, List.set_cons_succ]
        refine wpAnyH_take_dst (i := 14) (v := undef) (d := 72) rfl rfl (by kernel_rfl) (by kernel_rfl) (by kernel_rfl) (fun _ _ _ h => h) (Or.inr ⟨by rfl, rfl⟩) (by assumption) ?r14a
        try simp only [Act.put, List.setIfInBounds_toArray, List.set_cons_zero, List.set_cons_succ]
        refine wpAnyH_take_dst (i := 15) (v := undef) (d := 73) rfl rfl (by kernel_rfl) (by kernel_rfl) (by kernel_rfl) (fun _ _ _ h => h) (Or.inr ⟨by rfl, rfl⟩) (by assumption) ?r15a
        try simp only [Act.put, List.setIfInBounds_toArray, List.set_cons_zero, List.set_cons_succ]
        refine wpAnyH_take_dst (i := 16) (v := undef) (d := 74) rfl rfl (by kernel_rfl) (by kernel_rfl) (by kernel_rfl) (fun _ _ _ h => h) (Or.inr ⟨by rfl, rfl⟩) (by assumption) ?r16a
        try simp only [Act.put, List.setIfInBounds_toArray, List.set_cons_zero, List.set_cons_succ]
        refine wpAnyH_take_dst (i := 17) (v := ?v17a) (d := 75) rfl rfl (by kernel_rfl) (by kernel_rfl) (by kernel_rfl) (fun _ _ _ h => h) (Or.inl ⟨by rfl, ?hy17a⟩) (by assumption) ?r17a
        case hy17a => intro w' hSw; have k0 := hSw.mv.2; have k1 := hSw.box.2; have k2 := hSw.pv; clear hSw; first | (go_simp; done) | (go_simp; with_reducible rfl)
        try simp only [Act.put, List.setIfInBounds_toArray, List.set_cons_zero, List.set_cons_succ]
        refine wpAnyH_take_dst (i := 18) (v := ?v18a) (d := 76) rfl rfl (by kernel_rfl) (by kernel_rfl) (by kernel_rfl) (fun _ _ _ h => h) (Or.inl ⟨by rfl, ?hy18a⟩) (by assumption) ?r18a
        case hy18a => intro w' hSw; have k0 := hSw.mv.2; have k1 := hSw.box.2; have k2 := hSw.pv; clear hSw; first | (go_simp; done) | (go_simp; with_reducible rfl)
        try simp only [Act.put, List.setIfInBounds_toArray, List.set_cons_zero, List.set_cons_succ]
        refine wpAnyH_done (by kernel_rfl) ?_ _
        clear hH0
        go_wp2_with fail
        go_roundw
        case rel => exact ⟨k + 1, by omega, by go_num, ⟨hS5.box, hS5.lo⟩⟩
        case measure => simp [intOf]; omega
      · have hq : (0 : Int) < (k : Int) := by omega
        obtain ⟨b', p, hBe', hbl', hx', hr'⟩ := mvOne (k := k - 1) HB.out HML.out HSO.out.lo (by omega)
        have hbb : b = b' := by rw [hBe] at hBe'; injection hBe' with h; injection h with h _ _
        subst hbb
        subst hBe
        have hpd : ¬ m.day ≤ p.day := by
          have h1 : k - 1 < ms.length := by have := HML.out; omega
          have h2 : k < ms.length := by have := HML.out; omega
          have h3 := List.pairwise_iff_getElem.1 HG.out.up (k - 1) k h1 h2 (by omega)
          rw [List.getElem?_eq_getElem h1] at hx'
          rw [List.getElem?_eq_getElem h2] at hx
          injection hx with hx
          injection hx' with hx'
          subst hx hx'
          simp only at h3
          omega
        have HPR : Hid (wr.cell? ⟨b, (k - 1) * 5, none⟩ = some (I p.day)) := Lib.hid (hr' 0 _ rfl)
        have hwk : IntKind.i64.wrap ((k : Int) - 1) = ((k - 1 : Nat) : Int) := by rw [IntKind.wrap_i64]; omega
        have i2 : (0 : Int) ≤ ((k - 1 : Nat) : Int) := by omega
        have i3 : ((k - 1 : Nat) : Int) < (mn : Int) := by omega
        have i4 : k - 1 < mn := by omega
        clear hr hr' hx hx' hk0
        go_wp2_with fail
        have hS1 : SoL w #[.slice A n c, I mi, I le, .string zo, I ga, I fo, .slice (some ⟨b, 0, none⟩) mn e] wr.heap.size #[I m.day, .bool m.drop, I m.toDay, I m.minute, I m.length] (fun w' => w'.cell? ⟨b, (k - 1) * 5, none⟩ = some (I p.day)) (wr.alloc (.cells #[I m.day, .bool m.drop, I m.toDay, I m.minute, I m.length] 26)).drew := ⟨HSV.out.box, HRV.out, (World.cell?_of_block (a := ⟨b, (k - 1) * 5, none⟩) (HBV.out.block b hbl)).trans HPR.out, HSV.out.lo.drew⟩
        refine wp_region_held_drew (S := SoL w #[.slice A n c, I mi, I le, .string zo, I ga, I fo, .slice (some ⟨b, 0, none⟩) mn e] wr.heap.size #[I m.day, .bool m.drop, I m.toDay, I m.minute, I m.length] (fun w' => w'.cell? ⟨b, (k - 1) * 5, none⟩ = some (I p.day))) (by kernel_rfl) hS1 (fun hH0 => ?_)
        refine wpAnyH_take_dst (i := 0) (v := _) (d := 58) rfl rfl (by kernel_rfl) (by kernel_rfl) (by kernel_rfl) (fun _ _ _ h => h) (yieldsIf_load_Row (by rfl) _ _ rfl wr.heap.size rfl #[I m.day, .bool m.drop, I m.toDay, I m.minute, I m.length] _ (fun w' h => h.mv) Tryz.underlying26 rfl (mvv_size m)) (by assumption) ?r0b
        try simp only [Act.put, List.setIfInBounds_toArray, List.set_cons_zero, List.set_cons_succ]
        refine wpAnyH_ready (rs := [1]) (by kernel_rfl) (by simp) ?_
        refine AllReadyH.cons rfl (fun K hK => ?_) AllReadyH.nil
        go_simp
        refine (moveOK_yes m _ HGD.out).mono ?_
        rintro v5 w5 ⟨rfl, hb5⟩
        have hS5 := hS1.grow hb5 ((World.cell?_of_block (a := ⟨b, (k - 1) * 5, none⟩) (hb5.block b (by show b < (wr.alloc _).heap.size; simp; omega))).trans hS1.pv)
        clear hb5
        refine hK.out _ _ hS5 (fun hHeld => ?_)
        clear hHeld
        clear hK K
        try simp only [Act.put, List.setIfInBounds_toArray, List.set_cons_zero, List.set_cons_succ]
        refine wpAnyH_take_dst (i := 2) (v := ?v2b) (d := 60) rfl rfl (by kernel_rfl) (by kernel_rfl) (by kernel_rfl) (fun _ _ _ h => h) (Or.inl ⟨by rfl, ?hy2b⟩) (by assumption) ?r2b
        case hy2b => intro w' hSw; have k0 := hSw.mv.2; have k1 := hSw.box.2; have k2 := hSw.pv; clear hSw; first | (go_simp; done) | (go_simp; with_reducible rfl)
        try simp only [Act.put, List.setIfInBounds_toArray, List.set_cons_zero, List.set_cons_succ]
        refine wpAnyH_take_dst (i := 3) (v := ?v3b) (d := 61) rfl rfl (by kernel_rfl) (by kernel_rfl) (by kernel_rfl) (fun _ _ _ h => h) (Or.inl ⟨by rfl, ?hy3b⟩) (by assumption) ?r3b
        case hy3b => intro w' hSw; have k0 := hSw.mv.2; have k1 := hSw.box.2; have k2 := hSw.pv; clear hSw; first | (go_simp; done) | (go_simp; with_reducible rfl)
        try simp only [Act.put, List.setIfInBounds_toArray, List.set_cons_zero, List.set_cons_succ]
        refine wpAnyH_take_dst (i := 4) (v := ?v4b) (d := 62) rfl rfl (by kernel_rfl) (by kernel_rfl) (by kernel_rfl) (fun _ _ _ h => h) (Or.inl ⟨by rfl, ?hy4b⟩) (by assumption) ?r4b
        case hy4b => intro w' hSw; have k0 := hSw.mv.2; have k1 := hSw.box.2; have k2 := hSw.pv; clear hSw; first | (go_simp; done) | (go_simp; with_reducible rfl)
        try simp only [Act.put, List.setIfInBounds_toArray, List.set_cons_zero, List.set_cons_succ]
        refine wpAnyH_take_dst (i := 5) (v := .bool true) (d := 63) rfl rfl (by kernel_rfl) (by kernel_rfl) (by kernel_rfl) (fun _ _ _ h => h) (Or.inl ⟨by rfl, ?hy5b⟩) (by assumption) ?r5b
        case hy5b => intro w' hSw; clear hSw; first | (go_simp; done) | (go_simp; omega) | (go_simp; rw [decide_eq_true hq]; done) | (go_simp; rw [decide_eq_true hq]; rfl)
        try simp only [Act.put, List.setIfInBounds_toArray, List.set_cons_zero, List.set_cons_succ]
        refine wpAnyH_take_dst (i := 6) (v := ?v6b) (d := 64) rfl rfl (by kernel_rfl) (by kernel_rfl) (by kernel_rfl) (fun _ _ _ h => h) (Or.inl ⟨by rfl, ?hy6b⟩) (by assumption) ?r6b
        case hy6b => intro w' hSw; have k0 := hSw.mv.2; have k1 := hSw.box.2; have k2 := hSw.pv; clear hSw; first | (go_simp; done) | (go_simp; with_reducible rfl)
        try simp only [Act.put, List.setIfInBounds_toArray, List.set_cons_zero, List.set_cons_succ]
        refine wpAnyH_take_dst (i := 7) (v := ?v7b) (d := 65) rfl rfl (by kernel_rfl) (by kernel_rfl) (by kernel_rfl) (fun _ _ _ h => h) (Or.inl ⟨by rfl, ?hy7b⟩) (by assumption) ?r7b
        case hy7b => intro w' hSw; have k0 := hSw.mv.2; have k1 := hSw.box.2; have k2 := hSw.pv; clear hSw; first | (go_simp; done) | (go_simp; with_reducible rfl)
        try simp only [Act.put, List.setIfInBounds_toArray, List.set_cons_zero, List.set_cons_succ]
        refine wpAnyH_take_dst (i := 8) (v := ?v8b) (d := 66) rfl rfl (by kernel_rfl) (by kernel_rfl) (by kernel_rfl) (fun _ _ _ h => h) (Or.inl ⟨by rfl, ?hy8b⟩) (by assumption) ?r8b
        case hy8b => intro w' hSw; have k0 := hSw.mv.2; have k1 := hSw.box.2; have k2 := hSw.pv; clear hSw; first | (go_simp; done) | (go_simp; with_reducible rfl)
        try simp only [Act.put, List.setIfInBounds_toArray, List.set_cons_zero, List.set_cons_succ]
        refine wpAnyH_take_dst (i := 9) (v := ?v9b) (d := 67) rfl rfl (by kernel_rfl) (by kernel_rfl) (by kernel_rfl) (fun _ _ _ h => h) (Or.inl ⟨by rfl, ?hy9b⟩) (by assumption) ?r9b
        case hy9b => intro w' hSw; have k0 := hSw.mv.2; have k1 := hSw.box.2; have k2 := hSw.pv; clear hSw; first | (go_simp; done) | (go_simp; with_reducible rfl)
        try simp only [Act.put, List.setIfInBounds_toArray, List.set_cons_zero, List.set_cons_succ]
        refine wpAnyH_take_dst (i := 10) (v := ?v10b) (d := 68) rfl rfl (by kernel_rfl) (by kernel_rfl) (by kernel_rfl) (fun _ _ _ h => h) (Or.inl ⟨by rfl, ?hy10b⟩) (by assumption) ?r10b
        case hy10b => intro w' hSw; have k0 := hSw.mv.2; have k1 := hSw.box.2; have k2 := hSw.pv; clear hSw; first | (go_simp; done) | (go_simp; with_reducible rfl)
        try simp only [Act.put, List.setIfInBounds_toArray, List.set_cons_zero, List.set_cons_succ]
        refine wpAnyH_take_dst (i := 11) (v := ?v11b) (d := 69) rfl rfl (by kernel_rfl) (by kernel_rfl) (by kernel_rfl) (fun _ _ _ h => h) (Or.inl ⟨by rfl, ?hy11b⟩) (by assumption) ?r11b
        case hy11b => intro w' hSw; have k0 := hSw.mv.2; have k1 := hSw.box.2; have k2 := hSw.pv; clear hSw; first | (go_simp; done) | (go_simp; with_reducible rfl)
        try simp only [Act.put, List.setIfInBounds_toArray, List.set_cons_zero, List.set_cons_succ]
        refine wpAnyH_take_dst (i := 12) (v := ?v12b) (d := 70) rfl rfl (by kernel_rfl) (by kernel_rfl) (by kernel_rfl) (fun _ _ _ h => h) (Or.inl ⟨by rfl, ?hy12b⟩) (by assumption) ?r12b
        case hy12b => intro w' hSw; have k0 := hSw.mv.2; have k1 := hSw.box.2; have k2 := hSw.pv; clear hSw; first | (go_simp; done) | (go_simp; with_reducible rfl)
        try simp only [Act.put, List.setIfInBounds_toArray, List.set_cons_zero, List.set_cons_succ]
        refine wpAnyH_take_dst (i := 13) (v := ?v13b) (d := 71) rfl rfl (by kernel_rfl) (by kernel_rfl) (by kernel_rfl) (fun _ _ _ h => h) (Or.inl ⟨by rfl, ?hy13b⟩) (by assumption) ?r13b
        case hy13b => intro w' hSw; have k0 := hSw.mv.2; have k1 := hSw.box.2; have k2 := hSw.pv; clear hSw; first | (go_simp; done) | (go_simp; with_reducible rfl)
        try simp only [Act.put, List.setIfInBounds_toArray, List.set_cons_zero, List.set_cons_succ]
        refine wpAnyH_take_dst (i := 14) (v := ?v14b) (d := 72) rfl rfl (by kernel_rfl) (by kernel_rfl) (by kernel_rfl) (fun _ _ _ h => h) (Or.inl ⟨by rfl, ?hy14b⟩) (by assumption) ?r14b
        case hy14b => intro w' hSw; have k0 := hSw.mv.2; have k1 := hSw.box.2; have k2 := hSw.pv; clear hSw; first | (go_simp; done) | (go_simp; with_reducible rfl)
        try simp only [Act.put, List.setIfInBounds_toArray, List.set_cons_zero, List.set_cons_succ]
        refine wpAnyH_take_dst (i := 15) (v := ?v15b) (d := 73) rfl rfl (by kernel_rfl) (by kernel_rfl) (by kernel_rfl) (fun _ _ _ h => h) (Or.inl ⟨by rfl, ?hy15b⟩) (by assumption) ?r15b
        case hy15b => intro w' hSw; have k0 := hSw.mv.2; have k1 := hSw.box.2; have k2 := hSw.pv; clear hSw; first | (go_simp; done) | (go_simp; with_reducible rfl)
        try simp only [Act.put, List.setIfInBounds_toArray, List.set_cons_zero, List.set_cons_succ]
        refine wpAnyH_take_dst (i := 16) (v := .bool false) (d := 74) rfl rfl (by kernel_rfl) (by kernel_rfl) (by kernel_rfl) (fun _ _ _ h => h) (Or.inl ⟨by rfl, ?hy16b⟩) (by assumption) ?r16b
        case hy16b => intro w' hSw; clear hSw; first | (go_simp; done) | (go_simp; with_reducible rfl) | (go_simp; simp [hpd]; done) | (go_simp; simp; omega)
        try simp only [Act.put, List.setIfInBounds_toArray, List.set_cons_zero, List.set_cons_succ]
        refine wpAnyH_take_dst (i := 17) (v := ?v17b) (d := 75) rfl rfl (by kernel_rfl) (by kernel_rfl) (by kernel_rfl) (fun _ _ _ h => h) (Or.inl ⟨by rfl, ?hy17b⟩) (by assumption) ?r17b
        case hy17b => intro w' hSw; have k0 := hSw.mv.2; have k1 := hSw.box.2; have k2 := hSw.pv; clear hSw; first | (go_simp; done) | (go_simp; with_reducible rfl)
        try simp only [Act.put, List.setIfInBounds_toArray, List.set_cons_zero, List.set_cons_succ]
        refine wpAnyH_take_dst (i := 18) (v := ?v18b) (d := 76) rfl rfl (by kernel_rfl) (by kernel_rfl) (by kernel_rfl) (fun _ _ _ h => h) (Or.inl ⟨by rfl, ?hy18b⟩) (by assumption) ?r18b
        case hy18b => intro w' hSw; have k0 := hSw.mv.2; have k1 := hSw.box.2; have k2 := hSw.pv; clear hSw; first | (go_simp; done) | (go_simp; with_reducible rfl)
        try simp only [Act.put, List.setIfInBounds_toArray, List.set_cons_zero, List.set_cons_succ]
        refine wpAnyH_done (by kernel_rfl) ?_ _
        clear hH0
        go_wp2_with fail
        go_roundw
        case rel => exact ⟨k + 1, by omega, by go_num, ⟨hS5.box, hS5.lo⟩⟩
        case measure => simp [intOf]; omega
    · go_wp2_with fail
      go_ret
      exact ⟨rfl, HSO.out.lo⟩
set_option maxRecDepth 10000 in
set_option maxHeartbeats 2000000 in
theorem seriesValid_yes (s : Ser) (A B : Option Addr) (c e n mn cb cc : Nat) (ns : List NdV) (xs : List CalV) (w : World) (hA : RulesAt w w.heap.size A ns) (hl : ns.length = n) (hok : RuleOK ns) (hB : MovesAt w w.heap.size B s.moves) (hml : s.moves.length = mn) (h : SerGood s) (hc : CalsAt w w.heap.size cb xs) :
    Calls Tryz.prog 42 #[.agg #[.slice A n c, I s.minute, I s.length, .string s.zone, I s.gap, I s.fold, .slice B mn e], .slice (some ⟨cb, 0, none⟩) 3 cc] w (Gives (I 0) w) := by
  have HS0 : Hid (SoS w #[.slice A n c, I s.minute, I s.length, .string s.zone, I s.gap, I s.fold, .slice B mn e] (w.alloc (.cells #[.slice A n c, I s.minute, I s.length, .string s.zone, I s.gap, I s.fold, .slice B mn e] 31))) := Lib.hid ⟨Row.new w _ _, below_var w _⟩
  have HV := Lib.hid (fun w' (hb : Below w.heap.size w w') => ruleValid_yes A n c cb cc ns xs w' ((hA.keep hb).more hb.size) hl hok ((hc.keep hb).more hb.size))
  have HSD := Lib.hid (fun w' (hb : Below w.heap.size w w') => sound_yes s A B c e n mn ns w' ((hA.keep hb).more hb.size) hl hok ((hB.keep hb).more hb.size) hml h)
  have q9 : ¬ (32 : Int) < (s.zone.size : Int) := by have := h.zo; omega
  have q10 : ¬ (64 : Int) < (mn : Int) := by have := h.ml; omega
  obtain ⟨rule, mi, le, zo, ga, fo, ms⟩ := s
  simp only at q9 HS0 HSD ⊢
  clear hA hl hok hB hml h hc
  go_enter Tryz.func42, Tryz.ntmps42
  go_wp2_with fail
  refine (HV.out _ HS0.out.lo).mono ?_
  rintro e1 w1 ⟨rfl, hb1⟩
  have HS1 := Lib.hid (HS0.out.below hb1)
  have g0 := HS1.out.box.2
  clear hb1 HV HS0
  go_wp2_with fail
  refine (HSD.out _ HS1.out.lo).mono ?_
  rintro e1 w2 ⟨rfl, hb2⟩
  have HS2 := Lib.hid (HS1.out.below hb2)
  clear hb2 HSD g0
  go_wp2_with fail
  go_ret
  exact ⟨rfl, HS2.out.lo⟩
end Go.Proofs.YtdakcbddlempfaaGreat
