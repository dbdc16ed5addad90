/- The texts RfP, RfE, RfS, DgB, DgH, DgK, DgU, UnR, RfR, in this order. -/
import Derived.Test.YtenbgpcdoljkgaaGreatDoorG10
import Derived.Test.YtenbgpcdoljkgaaGreatDoorDgL
import Derived.OwnWalkIn
import Derived.Test.YtenbgpcdoljkgaaGreatDoorDgA
import Derived.Test.YtenbgpcdoljkgaaGreatDoorG09
/- The encoding of a letter that can be read back determines the letter. -/
namespace Go.Proofs.YtenbgpcdoljkgaaGreatDoor
open Go Go.RowKit

theorem le_inj8 {x y : Int} {R R' : List UInt8} (hx : fits x) (hy : fits y) (h : le x 8 ++ R = le y 8 ++ R') : x = y ∧ R = R' := by
  have h1 := num8_le x hx R
  rw [h, num8_le y hy R'] at h1
  have h2 := drop_le x 8 R
  rw [h, drop_le] at h2
  exact ⟨h1.symm, h2.symm⟩
theorem le_inj4 {x y : Int} {R R' : List UInt8} (hx : 0 ≤ x ∧ x < 4294967296) (hy : 0 ≤ y ∧ y < 4294967296) (h : le x 4 ++ R = le y 4 ++ R') : x = y ∧ R = R' := by
  have h1 := rdN_4 x hx.1 hx.2 R
  rw [h, rdN_4 y hy.1 hy.2 R'] at h1
  have h2 := drop_le x 4 R
  rw [h, drop_le] at h2
  exact ⟨h1.symm, h2.symm⟩
theorem le_inj1 {x y : Int} {R R' : List UInt8} (hx : 0 ≤ x ∧ x < 256) (hy : 0 ≤ y ∧ y < 256) (h : le x 1 ++ R = le y 1 ++ R') : x = y ∧ R = R' := by
  have h1 := rdN_1 x hx.1 hx.2 R
  rw [h, rdN_1 y hy.1 hy.2 R'] at h1
  have h2 := drop_le x 1 R
  rw [h, drop_le] at h2
  exact ⟨h1.symm, h2.symm⟩
theorem leAll_inj (xs : List Int) : ∀ (ys : List Int) (R R' : List UInt8), xs.length = ys.length → (∀ z ∈ xs, fits z) → (∀ z ∈ ys, fits z) → leAll xs ++ R = leAll ys ++ R' → xs = ys ∧ R = R' := by
  induction xs with
  | nil =>
    intro ys R R' hl _ _ h
    have : ys = [] := List.eq_nil_of_length_eq_zero hl.symm
    subst this
    exact ⟨rfl, h⟩
  | cons x xs ih =>
    intro ys R R' hl hx hy h
    cases ys with
    | nil => cases hl
    | cons y ys =>
      have e1 : leAll (x :: xs) = le x 8 ++ leAll xs := by simp [leAll]
      have e2 : leAll (y :: ys) = le y 8 ++ leAll ys := by simp [leAll]
      rw [e1, e2, List.append_assoc, List.append_assoc] at h
      obtain ⟨h1, h2⟩ := le_inj8 (hx x (List.mem_cons_self ..)) (hy y (List.mem_cons_self ..)) h
      obtain ⟨h3, h4⟩ := ih ys R R' (by simpa using hl) (fun z hz => hx z (List.mem_cons_of_mem _ hz)) (fun z hz => hy z (List.mem_cons_of_mem _ hz)) h2
      exact ⟨by rw [h1, h3], h4⟩
theorem text_inj {s t : ByteArray} {R R' : List UInt8} (hs : s.size ≤ 1000000) (ht : t.size ≤ 1000000) (h : textBytes s ++ R = textBytes t ++ R') : s = t ∧ R = R' := by
  unfold textBytes at h
  rw [List.append_assoc, List.append_assoc] at h
  obtain ⟨e, h⟩ := le_inj8 (by unfold fits; omega) (by unfold fits; omega) h
  have l1 : s.data.toList.length = s.size := Array.length_toList
  have l2 : t.data.toList.length = t.size := Array.length_toList
  obtain ⟨h1, h2⟩ := List.append_inj h (by omega)
  refine ⟨?_, h2⟩
  obtain ⟨a⟩ := s
  obtain ⟨b⟩ := t
  have h1 : a.toList = b.toList := h1
  rw [Array.toList_inj.1 h1]
theorem nd_inj {d e : Nd} {R R' : List UInt8} (hd : NdFit d) (he : NdFit e) (h : ndBytes d ++ R = ndBytes e ++ R') : d = e ∧ R = R' := by
  unfold ndBytes at h
  rw [List.append_assoc, List.append_assoc, List.append_assoc, List.append_assoc] at h
  obtain ⟨h1, h⟩ := leAll_inj (ndNums d) (ndNums e) _ _ rfl hd.nums he.nums h
  unfold ndNums at h1
  simp only [List.cons.injEq, and_true] at h1
  obtain ⟨a1, a2, a3, a4, a5, a6, a7⟩ := h1
  obtain ⟨h2, h⟩ := leAll_inj _ _ _ _ (by omega) hd.list he.list h
  obtain ⟨h3, h⟩ := text_inj (by have := hd.name; omega) (by have := he.name; omega) h
  refine ⟨?_, h⟩
  obtain ⟨d1, d2, d3, d4, d5, d6, d7, d8⟩ := d
  obtain ⟨e1, e2, e3, e4, e5, e6, e7, e8⟩ := e
  simp only at a1 a2 a3 a4 a5 a6 h2 h3
  rw [a1, a2, a3, a4, a5, a6, h2, h3]
theorem rule_inj (ds : List Nd) : ∀ (es : List Nd) (R R' : List UInt8), ds.length = es.length → (∀ d ∈ ds, NdFit d) → (∀ d ∈ es, NdFit d) → seRule ds ++ R = seRule es ++ R' → ds = es ∧ R = R' := by
  induction ds with
  | nil =>
    intro ys R R' hl _ _ h
    have : ys = [] := List.eq_nil_of_length_eq_zero hl.symm
    subst this
    exact ⟨rfl, h⟩
  | cons x xs ih =>
    intro ys R R' hl hx hy h
    cases ys with
    | nil => cases hl
    | cons y ys =>
      have e1 : seRule (x :: xs) = ndBytes x ++ seRule xs := by simp [seRule]
      have e2 : seRule (y :: ys) = ndBytes y ++ seRule ys := by simp [seRule]
      rw [e1, e2, List.append_assoc, List.append_assoc] at h
      obtain ⟨h1, h2⟩ := nd_inj (hx x (List.mem_cons_self ..)) (hy y (List.mem_cons_self ..)) h
      obtain ⟨h3, h4⟩ := ih ys R R' (by simpa using hl) (fun z hz => hx z (List.mem_cons_of_mem _ hz)) (fun z hz => hy z (List.mem_cons_of_mem _ hz)) h2
      exact ⟨by rw [h1, h3], h4⟩
theorem mv_inj {a b : Mv} (h : mvNums a = mvNums b) : a = b := by
  unfold mvNums at h
  simp only [List.cons.injEq, and_true] at h
  obtain ⟨h1, h2, h3, h4, h5⟩ := h
  obtain ⟨a1, a2, a3, a4, a5⟩ := a
  obtain ⟨b1, b2, b3, b4, b5⟩ := b
  simp only at h1 h2 h3 h4 h5
  have e2 : a2 = b2 := by cases a2 <;> cases b2 <;> first | rfl | (simp at h2; done)
  rw [h1, e2, h3, h4, h5]
theorem mvs_inj (ds : List Mv) : ∀ (es : List Mv) (R R' : List UInt8), ds.length = es.length → (∀ x ∈ ds, ∀ z ∈ mvNums x, fits z) → (∀ x ∈ es, ∀ z ∈ mvNums x, fits z) → seMoves ds ++ R = seMoves es ++ R' → ds = es ∧ R = R' := by
  induction ds with
  | nil =>
    intro ys R R' hl _ _ h
    have : ys = [] := List.eq_nil_of_length_eq_zero hl.symm
    subst this
    exact ⟨rfl, h⟩
  | cons x xs ih =>
    intro ys R R' hl hx hy h
    cases ys with
    | nil => cases hl
    | cons y ys =>
      have e1 : seMoves (x :: xs) = leAll (mvNums x) ++ seMoves xs := by simp [seMoves]
      have e2 : seMoves (y :: ys) = leAll (mvNums y) ++ seMoves ys := by simp [seMoves]
      rw [e1, e2, List.append_assoc, List.append_assoc] at h
      obtain ⟨h1, h2⟩ := leAll_inj (mvNums x) (mvNums y) _ _ rfl (hx x (List.mem_cons_self ..)) (hy y (List.mem_cons_self ..)) h
      obtain ⟨h3, h4⟩ := ih ys R R' (by simpa using hl) (fun z hz => hx z (List.mem_cons_of_mem _ hz)) (fun z hz => hy z (List.mem_cons_of_mem _ hz)) h2
      exact ⟨by rw [mv_inj h1, h3], h4⟩
theorem se_inj {s t : Ser} (gs : SerGood s) (gt : SerGood t) (n1 : s.rule.length ≤ 64) (n2 : t.rule.length ≤ 64) (f1 : ∀ d ∈ s.rule, NdFit d) (f2 : ∀ d ∈ t.rule, NdFit d) (m1 : ∀ x ∈ s.moves, ∀ z ∈ mvNums x, fits z) (m2 : ∀ x ∈ t.moves, ∀ z ∈ mvNums x, fits z)
    (h : seBytes s = seBytes t) : s = t := by
  rw [seBytes_split, seBytes_split] at h
  obtain ⟨a1, h⟩ := le_inj8 (by unfold fits; omega) (by unfold fits; omega) h
  obtain ⟨a2, h⟩ := rule_inj _ _ _ _ (by omega) f1 f2 h
  unfold seTail at h
  obtain ⟨a3, h⟩ := leAll_inj [s.minute, s.length] [t.minute, t.length] _ _ rfl (by have := gs.mi; have := gs.le; intro z hz; simp only [List.mem_cons, List.not_mem_nil, or_false] at hz; unfold fits; rcases hz with rfl | rfl <;> omega) (by have := gt.mi; have := gt.le; intro z hz; simp only [List.mem_cons, List.not_mem_nil, or_false] at hz; unfold fits; rcases hz with rfl | rfl <;> omega) h
  simp only [List.cons.injEq, and_true] at a3
  obtain ⟨a4, h⟩ := text_inj (by have := gs.zo; omega) (by have := gt.zo; omega) h
  obtain ⟨a5, h⟩ := leAll_inj [s.gap, s.fold] [t.gap, t.fold] _ _ rfl (by have := gs.ga; have := gs.fo; intro z hz; simp only [List.mem_cons, List.not_mem_nil, or_false] at hz; unfold fits; rcases hz with rfl | rfl <;> omega) (by have := gt.ga; have := gt.fo; intro z hz; simp only [List.mem_cons, List.not_mem_nil, or_false] at hz; unfold fits; rcases hz with rfl | rfl <;> omega) h
  simp only [List.cons.injEq, and_true] at a5
  obtain ⟨a6, h⟩ := le_inj8 (by have := gs.ml; unfold fits; omega) (by have := gt.ml; unfold fits; omega) h
  obtain ⟨a7, _⟩ := mvs_inj _ _ _ _ (by omega) m1 m2 h
  obtain ⟨s1, s2, s3, s4, s5, s6, s7⟩ := s
  obtain ⟨t1, t2, t3, t4, t5, t6, t7⟩ := t
  simp only at a2 a3 a4 a5 a7
  rw [a2, a3.1, a3.2, a4, a5.1, a5.2, a7]
theorem cells_inj (xs : List Int) : ∀ (ys : List Int) (R R' : List UInt8), xs.length = ys.length → (∀ z ∈ xs, 0 ≤ z ∧ z ≤ 255) → (∀ z ∈ ys, 0 ≤ z ∧ z ≤ 255) → cellBytes xs ++ R = cellBytes ys ++ R' → xs = ys ∧ R = R' := by
  induction xs with
  | nil =>
    intro ys R R' hl _ _ h
    have : ys = [] := List.eq_nil_of_length_eq_zero hl.symm
    subst this
    exact ⟨rfl, h⟩
  | cons x xs ih =>
    intro ys R R' hl hx hy h
    cases ys with
    | nil => cases hl
    | cons y ys =>
      have e1 : cellBytes (x :: xs) = le x 1 ++ cellBytes xs := by simp [cellBytes]
      have e2 : cellBytes (y :: ys) = le y 1 ++ cellBytes ys := by simp [cellBytes]
      rw [e1, e2, List.append_assoc, List.append_assoc] at h
      obtain ⟨h1, h2⟩ := le_inj1 (by have := hx x (List.mem_cons_self ..); omega) (by have := hy y (List.mem_cons_self ..); omega) h
      obtain ⟨h3, h4⟩ := ih ys R R' (by simpa using hl) (fun z hz => hx z (List.mem_cons_of_mem _ hz)) (fun z hz => hy z (List.mem_cons_of_mem _ hz)) h2
      exact ⟨by rw [h1, h3], h4⟩
/-- Two letters agree in a field. -/
def FldEq (L M : Lt) (k : Nat) : Prop :=
  if (numOff k).isSome = true then numF L k = numF M k else if k = 9 then L.move = M.move else if k = 10 then L.series = M.series else if k = 14 then L.wfrom = M.wfrom ∧ L.wto = M.wto else if k = 15 then L.cells = M.cells else L.ref = M.ref
theorem FldZ.eq {L M : Lt} {k : Nat} (h : FldZ L k) (h' : FldZ M k) : FldEq L M k := by
  unfold FldZ at h h'
  unfold FldEq
  split at h
  · rename_i e; rw [if_pos e] at h' ⊢; rw [h, h']
  · rename_i e; rw [if_neg e] at h' ⊢
    split at h
    · rename_i e; rw [if_pos e] at h' ⊢; rw [h, h']
    · rename_i e; rw [if_neg e] at h' ⊢
      split at h
      · rename_i e; rw [if_pos e] at h' ⊢; rw [h, h']
      · rename_i e; rw [if_neg e] at h' ⊢
        split at h
        · rename_i e; rw [if_pos e] at h' ⊢; rw [h.1, h.2, h'.1, h'.2]; exact ⟨rfl, rfl⟩
        · rename_i e; rw [if_neg e] at h' ⊢
          split at h
          · rename_i e; rw [if_pos e] at h' ⊢; rw [h, h']
          · rename_i e; rw [if_neg e] at h' ⊢; rw [h, h']
theorem low_step {L M : Lt} (k : Nat) (hk : k < 17) (e : lowTo L k = lowTo M k) (f : FldEq L M k) : lowTo L (k + 1) = lowTo M (k + 1) :=
  all17 (p := fun k => lowTo L k = lowTo M k → FldEq L M k → lowTo L (k + 1) = lowTo M (k + 1)) (by
    refine ⟨?_, ?_, ?_, ?_, ?_, ?_, ?_, ?_, ?_, ?_, ?_, ?_, ?_, ?_, ?_, ?_, ?_⟩ <;> (intro e f; simp [FldEq, numOff, numF] at f; simp [lowTo] at e ⊢; simp only [e, f, and_self])) k hk e f
section
variable {L M : Lt} {a b : List UInt8}
theorem mvb_inj {m m' : Mv} {R R' : List UInt8} (h1 : fits m.day ∧ fits m.toDay ∧ fits m.minute ∧ fits m.length) (h2 : fits m'.day ∧ fits m'.toDay ∧ fits m'.minute ∧ fits m'.length)
    (h : le m.day 8 ++ (le (if m.drop then 1 else 0) 1 ++ (le m.toDay 8 ++ (le m.minute 8 ++ (le m.length 8 ++ R)))) = le m'.day 8 ++ (le (if m'.drop then 1 else 0) 1 ++ (le m'.toDay 8 ++ (le m'.minute 8 ++ (le m'.length 8 ++ R'))))) : m = m' ∧ R = R' := by
  obtain ⟨a1, h⟩ := le_inj8 h1.1 h2.1 h
  obtain ⟨a2, h⟩ := le_inj1 (by split <;> omega) (by split <;> omega) h
  obtain ⟨a3, h⟩ := le_inj8 h1.2.1 h2.2.1 h
  obtain ⟨a4, h⟩ := le_inj8 h1.2.2.1 h2.2.2.1 h
  obtain ⟨a5, h⟩ := le_inj8 h1.2.2.2 h2.2.2.2 h
  exact ⟨mv_inj (by unfold mvNums; rw [a1, a2, a3, a4, a5]), h⟩
theorem fld_step (hL : RdOK L a) (hM : RdOK M b) (hkd : L.kind = M.kind) (k : Nat) (hk : k < 17) (h : fldsFrom L a k = fldsFrom M b k) : FldEq L M k ∧ fldsFrom L a (k + 1) = fldsFrom M b (k + 1) := by
  cases hu : usesB L.kind k with
  | false =>
    have hu' : usesB M.kind k = false := by rw [← hkd]; exact hu
    rw [fldsFrom_skip L a k hk hu, fldsFrom_skip M b k hk hu'] at h
    exact ⟨(hL.zero k hk hu).eq (hM.zero k hk hu'), h⟩
  | true =>
    have hu' : usesB M.kind k = true := by rw [← hkd]; exact hu
    cases ho : numOff k with
    | some o =>
      have hs : (numOff k).isSome = true := by rw [ho]; rfl
      rw [fldsFrom_num L a k hk hu hs, fldsFrom_num M b k hk hu' hs] at h
      obtain ⟨h1, h2⟩ := le_inj8 (hL.fit.num k hk) (hM.fit.num k hk) h
      exact ⟨by unfold FldEq; rw [if_pos hs]; exact h1, h2⟩
    | none =>
      rcases none_at k hk ho with rfl | rfl | rfl | rfl | rfl
      · rw [fldsFrom_9 L a hu, fldsFrom_9 M b hu'] at h
        exact mvb_inj hL.fit.mv hM.fit.mv h
      · rw [fldsFrom_10 L a hu, fldsFrom_10 M b hu'] at h
        rcases hL.ser with ⟨e1, e2⟩ | ⟨N, e1, hN, hN0, hN2, h64, hg, _, hfit, hmf⟩
        · rcases hM.ser with ⟨e1', e2'⟩ | ⟨N', e1', hN', hN0', hN2', _⟩
          · rw [e1, e1'] at h
            exact ⟨e2.trans e2'.symm, (le_inj4 (by omega) (by omega) h).2⟩
          · rw [e1, e1', List.append_assoc] at h
            have := (le_inj4 (by omega) (by omega) h).1
            omega
        · rcases hM.ser with ⟨e1', e2'⟩ | ⟨N', e1', hN', hN0', hN2', h64', hg', _, hfit', hmf'⟩
          · rw [e1, e1', List.append_assoc] at h
            have := (le_inj4 (by omega) (by omega) h).1
            omega
          · rw [e1, e1', List.append_assoc, List.append_assoc] at h
            obtain ⟨h1, h2⟩ := le_inj4 (by omega) (by omega) h
            obtain ⟨h3, h4⟩ := List.append_inj h2 (by omega)
            exact ⟨se_inj hg hg' h64 h64' hfit hfit' hmf hmf' h3, h4⟩
      · rw [fldsFrom_14 L a hu, fldsFrom_14 M b hu'] at h
        obtain ⟨h1, h⟩ := le_inj8 hL.fit.wf.1 hM.fit.wf.1 h
        obtain ⟨h2, h⟩ := le_inj8 hL.fit.wf.2 hM.fit.wf.2 h
        exact ⟨⟨h1, h2⟩, h⟩
      · rw [fldsFrom_15 L a hu, fldsFrom_15 M b hu'] at h
        obtain ⟨h1, h⟩ := le_inj4 (by have := hL.clen; omega) (by have := hM.clen; omega) h
        exact cells_inj _ _ _ _ (by omega) hL.cells hM.cells h
      · rw [fldsFrom_16 L a hu, fldsFrom_16 M b hu'] at h
        exact List.append_inj h (by rw [hL.ref, hM.ref])
/-- Two letters with the same encoding are the same. -/
theorem lt_inj (hL : RdOK L a) (hM : RdOK M b) (h : ltBytes L a = ltBytes M b) : L = M := by
  rw [ltBytes_read, ltBytes_read] at h
  obtain ⟨k1, h⟩ := le_inj1 hL.kind hM.kind h
  obtain ⟨k2, h⟩ := le_inj1 hL.src hM.src h
  obtain ⟨k3, h⟩ := le_inj1 hL.dst hM.dst h
  have hall : ∀ k, k ≤ 17 → lowTo L k = lowTo M k ∧ fldsFrom L a k = fldsFrom M b k := by
    intro k
    induction k with
    | zero => exact fun _ => ⟨by simp [lowTo, k1, k2, k3], h⟩
    | succ k ih =>
      intro hk
      obtain ⟨i1, i2⟩ := ih (by omega)
      obtain ⟨f1, f2⟩ := fld_step hL hM k1 k (by omega) i2
      exact ⟨low_step k (by omega) i1 f1, f2⟩
  have := (hall 17 (Nat.le_refl _)).1
  rwa [lowTo_17, lowTo_17] at this
end
end Go.Proofs.YtenbgpcdoljkgaaGreatDoor

/- Equality of nodes, of rules and of moves: letter.sameNode, slices.EqualFunc, slices.Equal, whatever they hold (printed by gen_rfe.py). -/
namespace Go.Proofs.YtenbgpcdoljkgaaGreatDoor
open Go Go.RowKit

theorem ex_bool (p : Prop) : ∃ b : Bool, (b = true ↔ p) := by
  by_cases h : p
  · exact ⟨true, ⟨fun _ => h, fun _ => rfl⟩⟩
  · exact ⟨false, ⟨(fun e => by cases e), fun e => absurd e h⟩⟩
theorem bool_no {b : Bool} {p : Prop} (hb : b = true ↔ p) (h : ¬ p) : b = false := by
  cases b with
  | false => rfl
  | true => exact absurd (hb.1 rfl) h
theorem bool_yes {b : Bool} {p : Prop} (hb : b = true ↔ p) (h : p) : b = true := hb.2 h
section
attribute [local go_sem] ndCells
set_option maxRecDepth 10000 in
set_option maxHeartbeats 2000000 in
theorem sameNode_gen (d d' : Nd) (A B : Option Addr) (c e : Nat) (w : World) (hA : IntsAt w w.heap.size A d.list) (hB : IntsAt w w.heap.size B d'.list) (hn : d.list.length ≤ 140737488355328) (b : Bool) (hb : b = true ↔ d = d') :
    Calls Tryz.prog 40 #[.agg (ndCells d A c), .agg (ndCells d' B e)] w (Gives (.bool b) w) := by
  have HE : Hid (∀ w', Below w.heap.size w w' → Calls Tryz.prog 37 #[.slice A d.list.length c, .slice B d'.list.length e] w' (Gives (.bool (d.list == d'.list)) w')) := Lib.hid fun w' hb => eqInts_any A B c e d.list d'.list w' ((hA.keep hb).more hb.size) ((hB.keep hb).more hb.size) hn
  have HB := Lib.hid (below_trans (below_var w (.cells (ndCells d A c) 85)) (below_var _ (.cells (ndCells d' B e) 85)))
  have HBB := Lib.hid hb
  clear hA hB hn hb
  cases h1 : (d.kind == d'.kind) with
  | false =>
    have e0 : b = false := bool_no HBB.out (fun e => by rw [e] at h1; simp at h1)
    subst e0
    go_enter Tryz.func40, Tryz.ntmps40
    go_wp2_with fail
    go_ret
    exact ⟨rfl, HB.out⟩
  | true =>
  cases h2 : (d.cal == d'.cal) with
  | false =>
    have e0 : b = false := bool_no HBB.out (fun e => by rw [e] at h2; simp at h2)
    subst e0
    go_enter Tryz.func40, Tryz.ntmps40
    go_wp2_with fail
    go_ret
    exact ⟨rfl, HB.out⟩
  | true =>
  cases h3 : (d.l == d'.l) with
  | false =>
    have e0 : b = false := bool_no HBB.out (fun e => by rw [e] at h3; simp at h3)
    subst e0
    go_enter Tryz.func40, Tryz.ntmps40
    go_wp2_with fail
    go_ret
    exact ⟨rfl, HB.out⟩
  | true =>
  cases h4 : (d.r == d'.r) with
  | false =>
    have e0 : b = false := bool_no HBB.out (fun e => by rw [e] at h4; simp at h4)
    subst e0
    go_enter Tryz.func40, Tryz.ntmps40
    go_wp2_with fail
    go_ret
    exact ⟨rfl, HB.out⟩
  | true =>
  cases h5 : (d.n == d'.n) with
  | false =>
    have e0 : b = false := bool_no HBB.out (fun e => by rw [e] at h5; simp at h5)
    subst e0
    go_enter Tryz.func40, Tryz.ntmps40
    go_wp2_with fail
    go_ret
    exact ⟨rfl, HB.out⟩
  | true =>
  cases h6 : (d.m == d'.m) with
  | false =>
    have e0 : b = false := bool_no HBB.out (fun e => by rw [e] at h6; simp at h6)
    subst e0
    go_enter Tryz.func40, Tryz.ntmps40
    go_wp2_with fail
    go_ret
    exact ⟨rfl, HB.out⟩
  | true =>
  cases h7 : (d.name.toList == d'.name.toList) with
  | false =>
    have e0 : b = false := bool_no HBB.out (fun e => by rw [e] at h7; simp at h7)
    subst e0
    go_enter Tryz.func40, Tryz.ntmps40
    go_wp2_with fail
    go_ret
    exact ⟨rfl, HB.out⟩
  | true =>
  have e0 : b = (d.list == d'.list) := by
    cases h8 : (d.list == d'.list) with
    | false => exact bool_no HBB.out (fun e => by rw [e] at h8; simp at h8)
    | true =>
      refine bool_yes HBB.out ?_
      rw [beq_iff_eq] at h1 h2 h3 h4 h5 h6 h7 h8
      obtain ⟨d1, d2, d3, d4, d5, d6, d7, d8⟩ := d
      obtain ⟨f1, f2, f3, f4, f5, f6, f7, f8⟩ := d'
      simp only at h1 h2 h3 h4 h5 h6 h7 h8
      have e8 : d8 = f8 := by
        rw [Lib.toList_data, Lib.toList_data] at h7
        obtain ⟨a⟩ := d8
        obtain ⟨a'⟩ := f8
        have h7 : a.toList = a'.toList := h7
        rw [Array.toList_inj.1 h7]
      rw [h1, h2, h3, h4, h5, h6, h8, e8]
  obtain ⟨q, hq⟩ : ∃ q, (d.list == d'.list) = q := ⟨_, rfl⟩
  rw [hq] at e0 HE
  subst e0
  go_enter Tryz.func40, Tryz.ntmps40
  clear hq
  go_wp2_with fail
  refine (HE.out _ HB.out).mono ?_
  rintro x w1 ⟨rfl, hb1⟩
  have HB1 := Lib.hid hb1
  clear hb1 HE
  go_wp2_with fail
  go_ret
  exact ⟨rfl, below_trans HB.out HB1.out⟩
end
/-- The k-th nodes of two rules, as they lie. -/
structure TwoNd2 (wr : World) (b1 b2 k : Nat) (d d' : Nd) (A B : Option Addr) (c e : Nat) : Prop where
  ra : wr.rangeAt b1 (k * 8) (ndCells d A c).toList
  rb : wr.rangeAt b2 (k * 8) (ndCells d' B e).toList
  ia : IntsAt wr wr.heap.size A d.list
  ib : IntsAt wr wr.heap.size B d'.list
  len : d.list.length ≤ 140737488355328
  la : b1 < wr.heap.size
  lb : b2 < wr.heap.size
theorem two_nd2 {w wr : World} {A B : Option Addr} {ns ms : List NdV} {n k : Nat} (hA : RulesAt w w.heap.size A ns) (hB : RulesAt w w.heap.size B ms) (hl : ns.length = n) (hm : ms.length = n) (hb : Below w.heap.size w wr) (hk : k < n) :
    ∃ b1 b2 d d' A' B' c e, A = some ⟨b1, 0, none⟩ ∧ B = some ⟨b2, 0, none⟩ ∧ (ns.map (·.d))[k]? = some d ∧ (ms.map (·.d))[k]? = some d' ∧ TwoNd2 wr b1 b2 k d d' A' B' c e := by
  rcases (hA.keep hb) with h | ⟨b1, h1, h2, h3⟩
  · omega
  rcases (hB.keep hb) with h | ⟨b2, g1, g2, g3⟩
  · omega
  have hx : ns[k]? = some ns[k] := List.getElem?_eq_getElem (by omega)
  have hy : ms[k]? = some ms[k] := List.getElem?_eq_getElem (by omega)
  obtain ⟨p1, p2, p3⟩ := h3 k _ hx
  obtain ⟨q1, q2, q3⟩ := g3 k _ hy
  exact ⟨b1, b2, (ns[k]).d, (ms[k]).d, (ns[k]).A, (ms[k]).A, (ns[k]).c, (ms[k]).c, h1, g1, by rw [List.getElem?_map, hx]; rfl, by rw [List.getElem?_map, hy]; rfl, ⟨p1, q1, p2.more hb.size, q2.more hb.size, p3, Nat.lt_of_lt_of_le h2 hb.size, Nat.lt_of_lt_of_le g2 hb.size⟩⟩
theorem list_all {α : Type} {xs ys : List α} {n : Nat} (hx : xs.length = n) (hy : ys.length = n) (h : ∀ j, j < n → xs[j]? = ys[j]?) : xs = ys := by
  apply List.ext_getElem?
  intro j
  by_cases hj : j < n
  · exact h j hj
  · rw [List.getElem?_eq_none (by omega), List.getElem?_eq_none (by omega)]
def EqRel {α : Type} (xs ys : List α) (n : Nat) (w : World) (i : Value) (wr : World) : Prop := ∃ k : Nat, k ≤ n ∧ i = I k ∧ Below w.heap.size w wr ∧ ∀ j, j < k → xs[j]? = ys[j]?
set_option maxRecDepth 10000 in
set_option maxHeartbeats 2000000 in
theorem eqRule_gen (A B : Option Addr) (c e n m : Nat) (ns ms : List NdV) (w : World) (hA : RulesAt w w.heap.size A ns) (hB : RulesAt w w.heap.size B ms) (hn : ns.length ≤ 1000000) (hm0 : ms.length ≤ 1000000) (hl : ns.length = n) (hm : ms.length = m) (b : Bool) (hb : b = true ↔ ns.map (·.d) = ms.map (·.d)) :
    Calls Tryz.prog 39 #[.slice A n c, .slice B m e, .func (.func 40) #[] #[]] w (Gives (.bool b) w) := by
  have HBB := Lib.hid hb
  have HA := Lib.hid hA
  have HB := Lib.hid hB
  have HL := Lib.hid hl
  have HM := Lib.hid hm
  rw [hl] at hn
  rw [hm] at hm0
  have hln : (ns.map (·.d)).length = n := by rw [List.length_map, hl]
  have hlm : (ms.map (·.d)).length = m := by rw [List.length_map, hm]
  have HLN := Lib.hid hln
  have HLM := Lib.hid hlm
  clear hA hB hl hm hb hln hlm
  by_cases hnm : n = m
  · subst hnm
    have h8 := ints_same n
    go_enter Tryz.func39, Tryz.ntmps39
    go_wp2_with fail
    go_loopw [17] (fun i wr => EqRel (ns.map (·.d)) (ms.map (·.d)) n w i wr) (fun i _ => n - (intOf i).toNat)
    case atStart => exact ⟨0, Nat.zero_le _, rfl, Below.refl _ _, fun j hj => absurd hj (Nat.not_lt_zero j)⟩
    case round =>
      obtain ⟨k, hk, rfl, hbe, hall⟩ := hrel
      have HBE := Lib.hid hbe
      have HALL := Lib.hid hall
      clear hbe hall
      by_cases hlt : k < n
      · have i0 : (0 : Int) ≤ (k : Int) := by omega
        have i1 : (k : Int) < (n : Int) := by omega
        obtain ⟨b1, b2, d, d', A', B', c', e', rfl, rfl, hd, hd', htw⟩ := two_nd2 HA.out HB.out HL.out HM.out HBE.out hlt
        have HTW := Lib.hid htw
        have HD := Lib.hid hd
        have HD' := Lib.hid hd'
        obtain ⟨q, hq⟩ := ex_bool (d = d')
        have HQ := Lib.hid hq
        have f0 : wr.cell? ⟨b1, k * 8, none⟩ = some (I d.kind) := htw.ra 0 _ rfl
        have g0 : wr.cell? ⟨b2, k * 8, none⟩ = some (I d'.kind) := htw.rb 0 _ rfl
        have f1 : wr.cell? ⟨b1, k * 8 + 1, none⟩ = some (I d.cal) := htw.ra 1 _ rfl
        have g1 : wr.cell? ⟨b2, k * 8 + 1, none⟩ = some (I d'.cal) := htw.rb 1 _ rfl
        have f2 : wr.cell? ⟨b1, k * 8 + 2, none⟩ = some (I d.l) := htw.ra 2 _ rfl
        have g2 : wr.cell? ⟨b2, k * 8 + 2, none⟩ = some (I d'.l) := htw.rb 2 _ rfl
        have f3 : wr.cell? ⟨b1, k * 8 + 3, none⟩ = some (I d.r) := htw.ra 3 _ rfl
        have g3 : wr.cell? ⟨b2, k * 8 + 3, none⟩ = some (I d'.r) := htw.rb 3 _ rfl
        have f4 : wr.cell? ⟨b1, k * 8 + 4, none⟩ = some (I d.n) := htw.ra 4 _ rfl
        have g4 : wr.cell? ⟨b2, k * 8 + 4, none⟩ = some (I d'.n) := htw.rb 4 _ rfl
        have f5 : wr.cell? ⟨b1, k * 8 + 5, none⟩ = some (I d.m) := htw.ra 5 _ rfl
        have g5 : wr.cell? ⟨b2, k * 8 + 5, none⟩ = some (I d'.m) := htw.rb 5 _ rfl
        have f6 : wr.cell? ⟨b1, k * 8 + 6, none⟩ = some (.slice A' d.list.length c') := htw.ra 6 _ rfl
        have g6 : wr.cell? ⟨b2, k * 8 + 6, none⟩ = some (.slice B' d'.list.length e') := htw.rb 6 _ rfl
        have f7 : wr.cell? ⟨b1, k * 8 + 7, none⟩ = some (.string d.name) := htw.ra 7 _ rfl
        have g7 : wr.cell? ⟨b2, k * 8 + 7, none⟩ = some (.string d'.name) := htw.rb 7 _ rfl
        have hl1 := htw.la
        have hl2 := htw.lb
        have hne1 : ¬ b1 = wr.heap.size := by omega
        have hne2 : ¬ b2 = wr.heap.size := by omega
        clear htw hq hd hd'
        have HB2 := Lib.hid (below_trans (below_var wr (.cells (ndCells d A' c') 85)) (below_var _ (.cells (ndCells d' B' e') 85)))
        go_wp2_with fail
        refine (sameNode_gen d d' A' B' c' e' _ ((HTW.out.ia.keep HB2.out).more HB2.out.size) ((HTW.out.ib.keep HB2.out).more HB2.out.size) HTW.out.len q HQ.out).mono ?_
        rintro v w5 ⟨rfl, hb5⟩
        have HB5 := Lib.hid (below_trans HB2.out hb5)
        clear hb5
        cases q with
        | true =>
          go_wp2_with fail
          go_roundw
          case rel => exact ⟨k + 1, by omega, by go_num, below_trans HBE.out HB5.out, fun j hj => by
            rcases Nat.lt_succ_iff_lt_or_eq.1 hj with h | h
            · exact HALL.out j h
            · subst h; rw [HD.out, HD'.out]; have := HQ.out; simp at this; rw [this]⟩
          case measure => simp [intOf]; omega
        | false =>
          have e0 : b = false := bool_no HBB.out (fun h => by
            have h1 := HD.out
            rw [h, HD'.out] at h1
            have h2 := HQ.out
            simp at h2
            exact h2 (Option.some.inj h1).symm)
          subst e0
          go_wp2_with fail
          go_ret
          exact ⟨rfl, below_trans HBE.out HB5.out⟩
      · have e0 : b = true := bool_yes HBB.out (list_all HLN.out HLM.out fun j hj => HALL.out j (by omega))
        subst e0
        go_wp2_with fail
        go_ret
        exact ⟨rfl, HBE.out⟩
  · have e0 : b = false := bool_no HBB.out (fun h => by have := congrArg List.length h; rw [HLN.out, HLM.out] at this; exact hnm this)
    subst e0
    have h8 : ((n : Int) != (m : Int)) = true := by rw [neq_dec]; exact decide_eq_true (by omega)
    go_enter Tryz.func39, Tryz.ntmps39
    go_wp2_with fail
    go_ret
    exact ⟨rfl, Below.refl _ _⟩
theorem mv_at2 {w wr : World} {A B : Option Addr} {ms ms' : List Mv} {n k : Nat} (hA : MovesAt w w.heap.size A ms) (hB : MovesAt w w.heap.size B ms') (hl : ms.length = n) (hl' : ms'.length = n) (hb : Below w.heap.size w wr) (hk : k < n) :
    ∃ b1 b2 m m', A = some ⟨b1, 0, none⟩ ∧ B = some ⟨b2, 0, none⟩ ∧ ms[k]? = some m ∧ ms'[k]? = some m' ∧ b1 < wr.heap.size ∧ b2 < wr.heap.size ∧ wr.rangeAt b1 (k * 5) (mvCells m).toList ∧ wr.rangeAt b2 (k * 5) (mvCells m').toList := by
  rcases (hA.keep hb) with h | ⟨b1, h1, h2, h3⟩
  · omega
  rcases (hB.keep hb) with h | ⟨b2, g1, g2, g3⟩
  · omega
  have hx : ms[k]? = some ms[k] := List.getElem?_eq_getElem (by omega)
  have hy : ms'[k]? = some ms'[k] := List.getElem?_eq_getElem (by omega)
  exact ⟨b1, b2, ms[k], ms'[k], h1, g1, hx, hy, Nat.lt_of_lt_of_le h2 hb.size, Nat.lt_of_lt_of_le g2 hb.size, h3 k _ hx, g3 k _ hy⟩
theorem neq_mv_ne (m m' : Mv) (h : m ≠ m') (W : World) : (binOp .neq 25 (.agg #[I m.day, .bool m.drop, I m.toDay, I m.minute, I m.length]) (.agg #[I m'.day, .bool m'.drop, I m'.toDay, I m'.minute, I m'.length])).run Tryz.prog W = .ok (.bool true) W := by
  have e : (decide (m.day = m'.day) && (m.drop == m'.drop) && decide (m.toDay = m'.toDay) && decide (m.minute = m'.minute) && decide (m.length = m'.length)) = false := by
    rw [Bool.eq_false_iff]
    intro h'
    simp only [Bool.and_eq_true, decide_eq_true_eq, beq_iff_eq] at h'
    obtain ⟨⟨⟨⟨a1, a2⟩, a3⟩, a4⟩, a5⟩ := h'
    apply h
    obtain ⟨m1, m2, m3, m4, m5⟩ := m
    obtain ⟨n1, n2, n3, n4, n5⟩ := m'
    simp only at a1 a2 a3 a4 a5
    rw [a1, a2, a3, a4, a5]
  rw [neq_move, e]
  rfl
attribute [local go_sem] neq_mv_same
set_option maxRecDepth 10000 in
set_option maxHeartbeats 2000000 in
theorem eqMoves_gen (A B : Option Addr) (c e n n' : Nat) (ms ms' : List Mv) (w : World) (hA : MovesAt w w.heap.size A ms) (hB : MovesAt w w.heap.size B ms') (hn : ms.length ≤ 1000000) (hn' : ms'.length ≤ 1000000) (hl : ms.length = n) (hl' : ms'.length = n') (b : Bool) (hb : b = true ↔ ms = ms') :
    Calls Tryz.prog 38 #[.slice A n c, .slice B n' e] w (Gives (.bool b) w) := by
  have HBB := Lib.hid hb
  have HA := Lib.hid hA
  have HB := Lib.hid hB
  have HL := Lib.hid hl
  have HL' := Lib.hid hl'
  rw [hl] at hn
  rw [hl'] at hn'
  clear hA hB hl hl' hb
  by_cases hnm : n = n'
  · subst hnm
    have h8 := ints_same n
    go_enter Tryz.func38, Tryz.ntmps38
    go_wp2_with fail
    go_loopw [13] (fun i wr => EqRel ms ms' n w i wr) (fun i _ => n - (intOf i).toNat)
    case atStart => exact ⟨0, Nat.zero_le _, rfl, Below.refl _ _, fun j hj => absurd hj (Nat.not_lt_zero j)⟩
    case round =>
      obtain ⟨k, hk, rfl, hbe, hall⟩ := hrel
      have HBE := Lib.hid hbe
      have HALL := Lib.hid hall
      clear hall
      by_cases hlt : k < n
      · have i0 : (0 : Int) ≤ (k : Int) := by omega
        have i1 : (k : Int) < (n : Int) := by omega
        obtain ⟨b1, b2, m, m', rfl, rfl, hx, hx', hl1, hl2, hr1, hr2⟩ := mv_at2 HA.out HB.out HL.out HL'.out hbe hlt
        have HX := Lib.hid hx
        have HX' := Lib.hid hx'
        clear hbe hx hx'
        by_cases hmm : m = m'
        · subst hmm
          have f0 : wr.cell? ⟨b1, k * 5, none⟩ = some (I m.day) := hr1 0 _ rfl
          have g0 : wr.cell? ⟨b2, k * 5, none⟩ = some (I m.day) := hr2 0 _ rfl
          have f1 : wr.cell? ⟨b1, k * 5 + 1, none⟩ = some (.bool m.drop) := hr1 1 _ rfl
          have g1 : wr.cell? ⟨b2, k * 5 + 1, none⟩ = some (.bool m.drop) := hr2 1 _ rfl
          have f2 : wr.cell? ⟨b1, k * 5 + 2, none⟩ = some (I m.toDay) := hr1 2 _ rfl
          have g2 : wr.cell? ⟨b2, k * 5 + 2, none⟩ = some (I m.toDay) := hr2 2 _ rfl
          have f3 : wr.cell? ⟨b1, k * 5 + 3, none⟩ = some (I m.minute) := hr1 3 _ rfl
          have g3 : wr.cell? ⟨b2, k * 5 + 3, none⟩ = some (I m.minute) := hr2 3 _ rfl
          have f4 : wr.cell? ⟨b1, k * 5 + 4, none⟩ = some (I m.length) := hr1 4 _ rfl
          have g4 : wr.cell? ⟨b2, k * 5 + 4, none⟩ = some (I m.length) := hr2 4 _ rfl
          clear hr1 hr2
          go_wp2_with fail
          go_quiet (fail)
          go_wp2_with fail
          go_roundw
          case rel => exact ⟨k + 1, by omega, by go_num, below_trans HBE.out (below_drewN' _ _), fun j hj => by
            rcases Nat.lt_succ_iff_lt_or_eq.1 hj with h | h
            · exact HALL.out j h
            · subst h; rw [HX.out, HX'.out]⟩
          case measure => simp [intOf]; omega
        · have e0 : b = false := bool_no HBB.out (fun h => by
            have h1 := HX.out
            rw [h, HX'.out] at h1
            exact hmm (Option.some.inj h1).symm)
          subst e0
          have hne := neq_mv_ne m m' hmm
          have f0 : wr.cell? ⟨b1, k * 5, none⟩ = some (I m.day) := hr1 0 _ rfl
          have g0 : wr.cell? ⟨b2, k * 5, none⟩ = some (I m'.day) := hr2 0 _ rfl
          have f1 : wr.cell? ⟨b1, k * 5 + 1, none⟩ = some (.bool m.drop) := hr1 1 _ rfl
          have g1 : wr.cell? ⟨b2, k * 5 + 1, none⟩ = some (.bool m'.drop) := hr2 1 _ rfl
          have f2 : wr.cell? ⟨b1, k * 5 + 2, none⟩ = some (I m.toDay) := hr1 2 _ rfl
          have g2 : wr.cell? ⟨b2, k * 5 + 2, none⟩ = some (I m'.toDay) := hr2 2 _ rfl
          have f3 : wr.cell? ⟨b1, k * 5 + 3, none⟩ = some (I m.minute) := hr1 3 _ rfl
          have g3 : wr.cell? ⟨b2, k * 5 + 3, none⟩ = some (I m'.minute) := hr2 3 _ rfl
          have f4 : wr.cell? ⟨b1, k * 5 + 4, none⟩ = some (I m.length) := hr1 4 _ rfl
          have g4 : wr.cell? ⟨b2, k * 5 + 4, none⟩ = some (I m'.length) := hr2 4 _ rfl
          clear hr1 hr2
          go_wp2_with fail
          go_quiet (fail)
          go_wp2_with fail
          go_ret
          exact ⟨rfl, below_trans HBE.out (below_drewN' _ _)⟩
      · have e0 : b = true := bool_yes HBB.out (list_all HL.out HL'.out fun j hj => HALL.out j (by omega))
        subst e0
        go_wp2_with fail
        go_ret
        exact ⟨rfl, HBE.out⟩
  · have e0 : b = false := bool_no HBB.out (fun h => by have := congrArg List.length h; rw [HL.out, HL'.out] at this; exact hnm this)
    subst e0
    have h8 : ((n : Int) != (n' : Int)) = true := by rw [neq_dec]; exact decide_eq_true (by omega)
    go_enter Tryz.func38, Tryz.ntmps38
    go_wp2_with fail
    go_ret
    exact ⟨rfl, Below.refl _ _⟩
end Go.Proofs.YtenbgpcdoljkgaaGreatDoor

/- letter.Same of two letters that were made: whether they are the same letter. -/
namespace Go.Proofs.YtenbgpcdoljkgaaGreatDoor
open Go Go.RowKit

theorem same_iff {l m : Lt} {cq mq rq : Bool} (hc : cq = true ↔ l.cells = m.cells) (hm : mq = true ↔ l.series.moves = m.series.moves) (hr : rq = true ↔ l.series.rule = m.series.rule) : ((numsEq l m && headEq l m && serEq l.series m.series && (cq && mq && rq)) = true) ↔ l = m := by
  constructor
  · intro h
    simp only [Bool.and_eq_true] at h
    obtain ⟨⟨⟨h1, h2⟩, h3⟩, ⟨h4, h5⟩, h6⟩ := h
    have hc := hc.1 h4
    have hm := hm.1 h5
    have hr := hr.1 h6
    unfold headEq moveEq at h2
    simp only [Bool.and_eq_true, decide_eq_true_eq, beq_iff_eq] at h2
    obtain ⟨⟨⟨⟨⟨k1, k2⟩, k3⟩, ⟨⟨⟨a1, a2⟩, a3⟩, a4⟩, a5⟩, ⟨w1, w2⟩⟩, r1⟩ := h2
    unfold serEq at h3
    simp only [Bool.and_eq_true, beq_iff_eq] at h3
    obtain ⟨⟨⟨⟨s1, s2⟩, s3⟩, s4⟩, s5⟩ := h3
    have hmv : l.move = m.move := by
      obtain ⟨b1, b2, b3, b4, b5⟩ : ∃ x, l.move = x := ⟨_, rfl⟩
      generalize l.move = p at *
      generalize m.move = q at *
      obtain ⟨p1, p2, p3, p4, p5⟩ := p
      obtain ⟨q1, q2, q3, q4, q5⟩ := q
      simp only at a1 a2 a3 a4 a5
      rw [a1, a2, a3, a4, a5]
    have hse : l.series = m.series := by
      generalize l.series = p at *
      generalize m.series = q at *
      obtain ⟨p1, p2, p3, p4, p5, p6, p7⟩ := p
      obtain ⟨q1, q2, q3, q4, q5, q6, q7⟩ := q
      simp only at hm hr s1 s2 s3 s4 s5
      rw [Lib.toList_data, Lib.toList_data] at s3
      have e4 : p4 = q4 := by
        obtain ⟨a⟩ := p4
        obtain ⟨b⟩ := q4
        have s3 : a.toList = b.toList := s3
        rw [Array.toList_inj.1 s3]
      rw [hm, hr, s1, s2, e4, s4, s5]
    unfold numsEq at h1
    rw [List.all_eq_true] at h1
    have hall : ∀ k, k ≤ 17 → lowTo l k = lowTo m k := by
      intro k
      induction k with
      | zero => exact fun _ => by simp [lowTo, k1, k2, k3]
      | succ k ih =>
        intro hk
        refine low_step k (by omega) (ih (by omega)) ?_
        have hn := h1 k (List.mem_range.2 (by omega))
        unfold FldEq
        split
        · rename_i e
          obtain ⟨o, ho⟩ := Option.isSome_iff_exists.1 e
          rw [ho] at hn
          simpa using hn
        · split
          · exact hmv
          · split
            · exact hse
            · split
              · exact ⟨w1, w2⟩
              · split
                · exact hc
                · exact r1
    have := hall 17 (Nat.le_refl _)
    rwa [lowTo_17, lowTo_17] at this
  · intro e
    subst e
    have e1 : headEq l l = true := by unfold headEq moveEq; simp
    rw [numsEq_self, e1, serEq_same, hc.2 rfl, hm.2 rfl, hr.2 rfl]
    rfl
theorem same_made {l m : Lt} {ns ms : List NdV} {s t : Sl} {lo lo' : Nat} {W : World} (hl : MadeLt l ns) (hm : MadeLt m ms) (h1 : LtMem lo W l s ns) (h2 : LtMem lo' W m t ms) (hlo : 0 < lo) (hlo' : 0 < lo') (b : Bool) (hb : b = true ↔ l = m) :
    Calls Tryz.prog 12 #[.agg (ltVal l s), .agg (ltVal m t)] W (Gives (.bool b) W) := by
  have n1 := hl.lens
  have n2 := hm.lens
  obtain ⟨mq, hmq⟩ := ex_bool (l.series.moves = m.series.moves)
  obtain ⟨rq, hrq⟩ := ex_bool (l.series.rule = m.series.rule)
  have hcq : (l.cells == m.cells) = true ↔ l.cells = m.cells := beq_iff_eq
  have h := same_any l m s t W hl.ok hm.ok (l.cells == m.cells) mq rq
    (fun w' hb => eqInts_any s.C t.C s.e t.e l.cells m.cells w' (h1.grow hb hlo).ints (h2.grow hb hlo').ints (by omega))
    (fun w' hb => eqMoves_gen s.B t.B s.d t.d _ _ l.series.moves m.series.moves w' (h1.grow hb hlo).mvs (h2.grow hb hlo').mvs (by omega) (by omega) rfl rfl mq hmq)
    (fun w' hb => eqRule_gen s.A t.A s.c t.c _ _ ns ms w' ((h1.grow hb hlo).rules n1.2.2.2) ((h2.grow hb hlo').rules n2.2.2.2) (by have := n1.1; rw [h1.names, List.length_map] at this; omega) (by have := n2.1; rw [h2.names, List.length_map] at this; omega) (by rw [h1.names, List.length_map]) (by rw [h2.names, List.length_map]) rq (by rw [hrq, h1.names, h2.names]))
  have e : (numsEq l m && headEq l m && serEq l.series m.series && ((l.cells == m.cells) && mq && rq)) = b := by
    rw [Bool.eq_iff_iff, hb]
    exact same_iff hcq hmq hrq
  rw [e] at h
  exact h
end Go.Proofs.YtenbgpcdoljkgaaGreatDoor

/- kalends/digest.blocks: its contract as an iterator over the blocks of one part's padded bytes. -/
namespace Go.Proofs.YtenbgpcdoljkgaaGreatDoor
open Go Go.RowKit Go.Shelf
attribute [local go_sem] Oper.semAt_some

/-- The length's bytes. -/
def sizeB (s : Int) : List UInt8 := upto (fun j => byteOf (s / 2 ^ (56 - 8 * j))) 8
def zpad (n : Nat) : Nat := (119 - n % 64) % 64
def padTo (bs : List UInt8) (z : Nat) : List UInt8 := bs ++ [128] ++ List.replicate z 0
theorem padTo_length (bs : List UInt8) (z : Nat) : (padTo bs z).length = bs.length + 1 + z := by simp [padTo]; omega
theorem padTo_succ (bs : List UInt8) (z : Nat) : padTo bs (z + 1) = padTo bs z ++ [0] := by simp [padTo, List.replicate_succ']
theorem zpad_le (n : Nat) : zpad n ≤ 63 := by unfold zpad; omega
theorem zpad_eq (n : Nat) : ((n + 1 + zpad n : Nat) : Int) % 64 = 56 := by unfold zpad; omega
theorem zpad_ne {n z : Nat} (h : z < zpad n) : ¬ ((n + 1 + z : Nat) : Int) % 64 = 56 := by unfold zpad at h; omega
/-- The padded message. -/
def padB (bs : List UInt8) : List UInt8 := padTo bs (zpad bs.length) ++ sizeB (8 * (bs.length : Int))
def chunk (bs : List UInt8) (i : Nat) : List UInt8 := (bs.drop (64 * i)).take 64
/-- A block: where it lies, and its bytes. -/
structure El where
  b : Nat
  off : Nat
  cap : Nat
  bs : List UInt8
structure ElAt (x : El) (W : World) : Prop where
  lt : x.b < W.heap.size
  len : x.bs.length = 64
  at_ : ∀ j, j < 64 → W.cell? ⟨x.b, x.off + j, none⟩ = some (Extern.Stop.cell (x.bs[j]?.getD 0))
def encEl (x : El) : Array Value := #[.slice (some ⟨x.b, x.off, none⟩) 64 x.cap]
/-- The message under way: in a row that is not older than block B. -/
structure MsgS (B : Nat) (W0 : World) (ms : List UInt8) (v : Value) (wr : World) : Prop where
  own : wr.ownsRow B 5 1 v ms.length (ms.map Extern.Stop.cell)
  lo : Below B W0 wr
theorem MsgS.app {B n : Nat} {W0 wr w1 : World} {ms xs : List UInt8} {v v' : Value} {o : Obj} {ys : List Value} (h : MsgS B W0 ms v wr) (hB : B ≤ W0.heap.size) (hn : n = (ms ++ xs).length) (hys : ys = (ms ++ xs).map Extern.Stop.cell) (hown : w1.ownsRow B 5 1 v' n ys) (hg : (wr.alloc o).grownBy w1 v.ownBlock) : MsgS B W0 (ms ++ xs) v' w1 := by
  subst hn hys
  have hs := h.lo.size
  have hz := hg.size
  rw [World.size_alloc] at hz
  exact ⟨hown, ⟨hg.os.trans h.lo.os, hg.tape.trans h.lo.tape, hg.output.trans h.lo.output, by omega, fun k hk => by
    rw [hg.block k (by rw [World.size_alloc]; omega) (own_ge h.own k hk), Below.heap_alloc wr o k (by omega)]
    exact h.lo.block k hk⟩⟩
/-- The message's block while the rounds run. -/
structure BlkS (W : World) (g r : Nat) (ms : List UInt8) (wx : World) : Prop where
  lt : g < wx.heap.size
  new : W.heap.size ≤ g
  ge : W.heap.size ≤ wx.heap.size
  cells : ∀ i, i < r → wx.cell? ⟨g, i, none⟩ = some (Extern.Stop.cell (ms[i]?.getD 0))
theorem chunk_at (ms : List UInt8) (i j : Nat) (hj : j < 64) : (chunk ms i)[j]? = ms[64 * i + j]? := by
  unfold chunk
  rw [List.getElem?_take_of_lt hj, List.getElem?_drop]
theorem BlkS.el {W wx : World} {g r : Nat} {ms : List UInt8} (h : BlkS W g r ms wx) (i o cc : Nat) (bs : List UInt8) (ho : o = 64 * i) (hi : 64 * i + 64 ≤ r) (hbs : bs = chunk ms i) (hl : ms.length = r) : ElAt ⟨g, o, cc, bs⟩ wx := by
  subst ho hbs
  refine ⟨h.lt, ?_, fun j hj => ?_⟩
  · unfold chunk; simp; omega
  · rw [chunk_at ms i j hj]; exact h.cells (64 * i + j) (by omega)
theorem BlkS.keep {W wx w2 : World} {g r : Nat} {ms : List UInt8} (h : BlkS W g r ms wx) (hk : KeepsUp W.heap.size wx w2) : BlkS W g r ms w2 :=
  ⟨Nat.lt_of_lt_of_le h.lt hk.size, h.new, Nat.le_trans h.ge hk.size, fun i hi => (World.cell?_of_block (a := ⟨g, i, none⟩) (hk.block g h.new h.lt)).trans (h.cells i hi)⟩
theorem byte_new {w : World} {t : TypeId} (x : UInt8) (v : Value) (hv : v = Extern.Stop.cell x) : ∀ j u, [Extern.Stop.cell x][j]? = some u → (w.alloc (.cells #[v] t)).cell? ((⟨w.heap.size, 0, none⟩ : Addr).add j) = some u := by
  subst hv
  intro j u hu
  rw [addr_add, (Row.new w _ t).2 j]
  simpa using hu
theorem byte_ones (x : UInt8) : ∀ u ∈ [Extern.Stop.cell x], u.oneCell' = true := fun u hu => by rw [List.mem_singleton.1 hu]; rfl
set_option maxRecDepth 100000 in
set_option maxHeartbeats 1000000 in
theorem blocks_tells (F : Fence) (n : Nat) (h7 : F.fn 103) (hro : F.round = none) (hn : 1 ≤ n) (bs : List UInt8) (hb0 : 0 < bs.length) (hlen : bs.length ≤ 1000000000) (W : World) (box pb ab off c : Nat) (hbox : W.cell? ⟨box, 0, none⟩ = some (.slice (some ⟨pb, 0, none⟩) 1 1)) (hp : W.cell? ⟨pb, 0, none⟩ = some (.slice (some ⟨ab, off, none⟩) bs.length c))
    (hlb : box < W.heap.size) (hlp : pb < W.heap.size) (hla : ab < W.heap.size) (hby : ∀ j, j < bs.length → W.cell? ⟨ab, off + j, none⟩ = some (Extern.Stop.cell (bs[j]?.getD 0))) :
    SeqTells F n Tryz.prog 103 #[.pointer (some ⟨box, 0, none⟩)] encEl ElAt (fun xs => xs.map (·.bs) = upto (chunk (padB bs)) ((padB bs).length / 64)) W := by
  intro l J hl hJ hY h0
  have HJ := Lib.hid hJ
  have HY := Lib.hid hY
  have HB := Lib.hid hby
  obtain ⟨N, hN⟩ : ∃ N, bs.length = N := ⟨_, rfl⟩
  rw [hN] at hp hb0 hlen
  have HN := Lib.hid hN
  clear hJ hY hby hN
  refine callsIn_of_wp Tryz.func103 rfl h7 ?_ hro
  simp only [Tryz.ntmps103, List.size_toArray, List.length_cons, List.length_nil, Nat.reduceAdd, Nat.reduceSub, Array.replicate_succ, Array.replicate_zero, List.push_toArray, List.append_toArray, List.nil_append, List.cons_append]
  obtain ⟨i0, hi, hq0, hq1, hq2⟩ := info_parts info_u8
  gi_wp2
  gi_loopw [3, 10] (fun m i wr => (i = .int .i64 0 ∧ m = .slice none 0 0 ∧ wr = W) ∨ (∃ g cap, i = .int .i64 1 ∧ m = .slice (some ⟨g, 0, none⟩) N cap ∧ MsgS W.heap.size W bs m wr)) (fun _ i _ => (1 - intOf i).toNat)
  case atStart => exact .inl ⟨rfl, rfl, rfl⟩
  case round =>
    rcases hrel with h | h
    · obtain ⟨rfl, rfl, rfl⟩ := h
      have hne : ∀ j u, (bs.map Extern.Stop.cell)[j]? = some u → wr.cell? ((⟨ab, off, none⟩ : Addr).add j) = some u := fun j u hu => by
        have hj : j < bs.length := by have := (List.getElem?_eq_some_iff.1 hu).1; simpa using this
        rw [Addr.add_mid, HB.out j hj]
        rw [List.getElem?_map, List.getElem?_eq_getElem hj] at hu
        rw [List.getElem?_eq_getElem hj]
        simpa using hu
      have HNE := Lib.hid hne
      clear hne
      gi_wp2_with (gi_at_builtin; refine wpListIn_append_own _ rfl _ _ 38 rfl wr.heap.size 5 i0 (.int .u8 0) 1 1 Tryz.underlying38 hi hq0 hq1 hq2 rfl (by omega) _ _ _ rfl (World.ownsRow_nil _ _ _ _) ⟨ab, off, none⟩ N c (bs.map Extern.Stop.cell) rfl (by rw [List.length_map, HN.out, Nat.mul_one]) HNE.out (ref_one2 bs) (by unfold maxLen; omega) (by omega) (Nat.le_refl _) ?_; intro v1 w1 hown1 hg1 _; rw [Nat.zero_add, List.nil_append] at hown1; obtain ⟨gg, cap, rfl, _⟩ := own_form hown1 hb0; have HO1 := Lib.hid hown1; have HG1 := Lib.hid hg1; clear hown1 hg1)
      go_roundw
      case rel => exact .inr ⟨gg, cap, by go_num, rfl, ⟨by rw [HN.out]; exact HO1.out, ⟨HG1.out.os, HG1.out.tape, HG1.out.output, HG1.out.size, fun k hk => HG1.out.block k hk (fun e => nomatch e)⟩⟩⟩
      case measure => simp [intOf]
    · obtain ⟨g, cap, rfl, rfl, hm⟩ := h
      have HM := Lib.hid hm
      have HO : Hid (wr.ownsRow W.heap.size 5 1 (.slice (some ⟨g, 0, none⟩) N cap) N (bs.map Extern.Stop.cell)) := Lib.hid (by have h := hm.own; rw [HN.out] at h; exact h)
      have hge := hm.lo.size
      have HL1 : Hid (N + 1 = (bs ++ [(128 : UInt8)]).length) := Lib.hid (by rw [List.length_append, HN.out]; rfl)
      have HL2 : Hid (bs.map Extern.Stop.cell ++ [Extern.Stop.cell 128] = (bs ++ [(128 : UInt8)]).map Extern.Stop.cell) := Lib.hid (by simp)
      clear hm
      gi_wp2_with (gi_at_builtin; refine wpListIn_append_own _ rfl _ _ 38 rfl W.heap.size 5 i0 (.int .u8 0) 1 1 Tryz.underlying38 hi hq0 hq1 hq2 rfl (by omega) (.slice (some ⟨g, 0, none⟩) N cap) N (bs.map Extern.Stop.cell) rfl (HO.out.alloc _) ⟨wr.heap.size, 0, none⟩ 1 1 [Extern.Stop.cell 128] rfl rfl (byte_new 128 _ rfl) (byte_ones 128) (by unfold maxLen; omega) (by omega) (by first | (simp; done) | (simp; omega)) ?_; intro v1 w1 hown1 hg1 _; have hm1 : MsgS W.heap.size W (bs ++ [(128 : UInt8)]) v1 w1 := HM.out.app (Nat.le_refl _) HL1.out HL2.out hown1 hg1; obtain ⟨gg, cap1, rfl, _⟩ := own_form hown1 (Nat.succ_pos _); have HM1 := Lib.hid hm1; clear hown1 hg1 hm1)
      gi_loopw [3] (fun m wx => ∃ z g cap q, z ≤ zpad N ∧ q = N + 1 + z ∧ m = .slice (some ⟨g, 0, none⟩) q cap ∧ MsgS W.heap.size W (padTo bs z) m wx) (fun m _ => (N + 1 + zpad N) - (match m with | .slice _ q _ => q | _ => 0))
      case atStart => exact ⟨0, gg, cap1, N + 1, Nat.zero_le _, rfl, rfl, by have h := HM1.out; simpa [padTo] using h⟩
      case round =>
        obtain ⟨z, g, cap, q, hz, hq, rfl, hm⟩ := hrel
        have HM2 := Lib.hid hm
        have HQ := Lib.hid hq
        have hqb : q ≤ 1000000200 := by have : zpad N ≤ 63 := zpad_le N; omega
        have hge2 := hm.lo.size
        have hlq : (padTo bs z).length = q := by rw [padTo_length, HN.out, hq]
        have HO2 : Hid (wr.ownsRow W.heap.size 5 1 (.slice (some ⟨g, 0, none⟩) q cap) q ((padTo bs z).map Extern.Stop.cell)) := Lib.hid (by have h := hm.own; rw [hlq] at h; exact h)
        clear hm HM1 HM HO HL1 HL2
        by_cases hlt : z < zpad N
        · have h56 : ((q : Int) % 64 != 56) = true := by rw [neq_dec]; exact decide_eq_true (by rw [hq]; exact zpad_ne hlt)
          have HL1 : Hid (q + 1 = (padTo bs z ++ [(0 : UInt8)]).length) := Lib.hid (by rw [List.length_append, hlq]; rfl)
          have HL2 : Hid ((padTo bs z).map Extern.Stop.cell ++ [Extern.Stop.cell 0] = (padTo bs z ++ [(0 : UInt8)]).map Extern.Stop.cell) := Lib.hid (by simp)
          clear hq hlq
          gi_wp2_with (gi_at_builtin; refine wpListIn_append_own _ rfl _ _ 38 rfl W.heap.size 5 i0 (.int .u8 0) 1 1 Tryz.underlying38 hi hq0 hq1 hq2 rfl (by omega) (.slice (some ⟨g, 0, none⟩) q cap) q ((padTo bs z).map Extern.Stop.cell) rfl (HO2.out.alloc _) ⟨wr.heap.size, 0, none⟩ 1 1 [Extern.Stop.cell 0] rfl rfl (byte_new 0 _ rfl) (byte_ones 0) (by unfold maxLen; omega) (by omega) (by first | (simp; done) | (simp; omega)) ?_; intro v2 w2 hown2 hg2 _; have hm2 : MsgS W.heap.size W (padTo bs z ++ [(0 : UInt8)]) v2 w2 := HM2.out.app (Nat.le_refl _) HL1.out HL2.out hown2 hg2; obtain ⟨g2, cap2, rfl, _⟩ := own_form hown2 (Nat.succ_pos _); have HM3 := Lib.hid hm2; clear hown2 hg2 hm2)
          go_roundw
          case rel => exact ⟨z + 1, g2, cap2, q + 1, hlt, by have := HQ.out; omega, rfl, by rw [padTo_succ]; exact HM3.out⟩
          case measure => have := HQ.out; show N + 1 + zpad N - (q + 1) < N + 1 + zpad N - q; omega
        · have hze : z = zpad N := by omega
          have h56 : ((q : Int) % 64 != 56) = false := by rw [neq_dec]; exact decide_eq_false (by rw [hq, hze]; have := zpad_eq N; omega)
          have HZE := Lib.hid hze
          clear hq hze hlq hlt hz
          obtain ⟨pm, hpm⟩ : ∃ pm, padTo bs (zpad N) = pm := ⟨_, rfl⟩
          have HPM := Lib.hid hpm
          have HPL : Hid (pm.length = q) := Lib.hid (by rw [← hpm, padTo_length, HN.out]; have := HQ.out; have := HZE.out; omega)
          have HM4 : Hid (MsgS W.heap.size W pm (.slice (some ⟨g, 0, none⟩) q cap) wr) := Lib.hid (by have h := HM2.out; rw [HZE.out, hpm] at h; exact h)
          clear hpm HM2 HO2
          gi_wp2_with fail
          gi_loopw [3, 7] (fun m i wx => ∃ j g cap r, j ≤ 8 ∧ r = q + j ∧ i = .int .i64 (56 - 8 * (j : Int)) ∧ m = .slice (some ⟨g, 0, none⟩) r cap ∧ MsgS W.heap.size W (pm ++ upto (fun j => byteOf ((8 * (N : Int)) / 2 ^ (56 - 8 * j))) j) m wx) (fun _ i _ => (intOf i + 8).toNat)
          case atStart => exact ⟨0, g, cap, q, Nat.zero_le _, rfl, by go_num, rfl, by have h := HM4.out; simpa [upto] using h⟩
          case round =>
            obtain ⟨j, g, cap, r, hj, hr, rfl, rfl, hm⟩ := hrel
            have HM5 := Lib.hid hm
            have HR := Lib.hid hr
            have hge3 := hm.lo.size
            have hrb : r ≤ 1000000300 := by omega
            obtain ⟨ms, hms⟩ : ∃ ms, pm ++ upto (fun j => byteOf ((8 * (N : Int)) / 2 ^ (56 - 8 * j))) j = ms := ⟨_, rfl⟩
            have hml : ms.length = r := by rw [← hms, List.length_append, HPL.out, upto_length, hr]
            rw [hms] at HM5 hm
            have HMS := Lib.hid hms
            have HO5 : Hid (wr.ownsRow W.heap.size 5 1 (.slice (some ⟨g, 0, none⟩) r cap) r (ms.map Extern.Stop.cell)) := Lib.hid (by have h := hm.own; rw [hml] at h; exact h)
            clear hm hr hms HM4
            by_cases hlt : j < 8
            · obtain ⟨s, hs⟩ : ∃ s : Nat, 56 - 8 * j = s := ⟨_, rfl⟩
              have hs2 : 56 - 8 * (j : Int) = (s : Int) := by omega
              have hs0 : (0 : Int) ≤ (s : Int) := by omega
              have hs1 : (s : Int) ≤ 56 := by omega
              obtain ⟨y, hy⟩ : ∃ y : Int, (8 * (N : Int)) / 2 ^ s = y := ⟨_, rfl⟩
              have HL1 : Hid (r + 1 = (ms ++ [byteOf y]).length) := Lib.hid (by rw [List.length_append, hml]; rfl)
              have HL2 : Hid (ms.map Extern.Stop.cell ++ [Extern.Stop.cell (byteOf y)] = (ms ++ [byteOf y]).map Extern.Stop.cell) := Lib.hid (by simp)
              have HYY := Lib.hid hy
              have HSS := Lib.hid hs
              have HS2 := Lib.hid hs2
              have hby8 : IntKind.u8.wrap y = y % 256 := by rw [IntKind.wrap_u8]
              rw [hs2]
              clear hml hs hs2
              gi_wp2_with (gi_at_builtin; refine wpListIn_append_own _ rfl _ _ 38 rfl W.heap.size 5 i0 (.int .u8 0) 1 1 Tryz.underlying38 hi hq0 hq1 hq2 rfl (by omega) (.slice (some ⟨g, 0, none⟩) r cap) r (ms.map Extern.Stop.cell) rfl (HO5.out.alloc _) ⟨wr.heap.size, 0, none⟩ 1 1 [Extern.Stop.cell (byteOf y)] rfl rfl (byte_new (byteOf y) _ (byteOf_cell y).symm) (byte_ones _) (by unfold maxLen; omega) (by omega) (by first | (simp; done) | (simp; omega)) ?_; intro v2 w2 hown2 hg2 _; have hm2 : MsgS W.heap.size W (ms ++ [byteOf y]) v2 w2 := HM5.out.app (Nat.le_refl _) HL1.out HL2.out hown2 hg2; obtain ⟨g2, cap2, rfl, _⟩ := own_form hown2 (Nat.succ_pos _); have HM6 := Lib.hid hm2; clear hown2 hg2 hm2)
              go_roundw
              case rel => exact ⟨j + 1, g2, cap2, r + 1, hlt, by have := HR.out; omega, by have := HS2.out; congr 1; omega, rfl, by rw [upto_succ, ← List.append_assoc, HMS.out, HSS.out, HYY.out]; exact HM6.out⟩
              case measure => have := HS2.out; simp [intOf]; omega
            · have hj8 : j = 8 := by omega
              have hs2 : 56 - 8 * (j : Int) = -8 := by omega
              have hms2 : ms = padB bs := by
                rw [← HMS.out, hj8, ← HPM.out]
                unfold padB sizeB
                rw [HN.out]
              have hT : r = q + 8 := by have := HR.out; omega
              obtain ⟨k, hk⟩ : ∃ k, r = 64 * k := ⟨r / 64, by have h1 := zpad_eq N; have h2 := HQ.out; have h3 := HZE.out; omega⟩
              have HTT := Lib.hid hk
              have HMM := Lib.hid hms2
              have HML := Lib.hid hml
              have HC0 : Hid (∀ i, i < r → wr.cell? ⟨g, i, none⟩ = some (Extern.Stop.cell (ms[i]?.getD 0))) := Lib.hid fun i hi => by
                have h := HO5.out.cells (g := g) rfl i (Extern.Stop.cell (ms[i]?.getD 0)) (by rw [List.getElem?_map, List.getElem?_eq_getElem (by omega)]; rfl)
                rw [addr_add] at h
                exact h
              have hcap : r ≤ cap ∧ cap ≤ 9223372036854775807 := by
                rcases HO5.out.2 with ⟨h1, _⟩ | ⟨g', cap', cur, h1, _, _, h2, h3, _⟩
                · cases h1
                · injection h1 with _ _ h1; subst h1; exact ⟨h2, by unfold maxLen at h3; omega⟩
              have hgl := own_lt HO5.out g rfl
              have hgw : W.heap.size ≤ g := by
                rcases HO5.out.2 with ⟨h1, _⟩ | ⟨g', cap', cur, h1, h2, _⟩
                · cases h1
                · injection h1 with h1 _ _; injection h1 with h1; injection h1 with h1; omega
              have HJ0 : Hid (J [] wr) := Lib.hid (HJ.out _ _ _ h0 HM5.out.lo)
              rw [hs2]
              clear hs2 hj8 hms2 hT hml
              gi_wp2_with fail
              gi_loopw [3] (fun m wx => ∃ i a q cc o xs, i ≤ k ∧ q = 64 * (k - i) ∧ o = 64 * i ∧ m = .slice a q cc ∧ xs.map (·.bs) = upto (chunk ms) i ∧ J xs wx ∧ BlkS W g r ms wx ∧ (i < k → a = some ⟨g, o, none⟩ ∧ q ≤ cc ∧ cc ≤ 9223372036854775807)) (fun m _ => match m with | .slice _ q _ => q | _ => 0)
              case atStart => exact ⟨0, some ⟨g, 0, none⟩, r, cap, 0, [], Nat.zero_le _, by rw [hk]; rfl, rfl, rfl, rfl, HJ0.out, ⟨hgl, hgw, hge3, HC0.out⟩, fun _ => ⟨rfl, hcap.1, hcap.2⟩⟩
              case round =>
                obtain ⟨i, a, q, cc, o, xs, hi, hq, ho, rfl, hxs, hjx, hbk, hlast⟩ := hrel
                have HBK := Lib.hid hbk
                have HXS := Lib.hid hxs
                have HJX := Lib.hid hjx
                clear hbk hxs hjx
                by_cases hlt : i < k
                · obtain ⟨rfl, hqc, hcm⟩ := hlast hlt
                  have hq64 : 64 ≤ q := by omega
                  have hxe : ElAt ⟨g, o, cc, chunk ms i⟩ wr := HBK.out.el i o cc (chunk ms i) ho (by have := HTT.out; omega) rfl HML.out
                  obtain ⟨fn, tmps, assign, body, hy, hR⟩ := HY.out xs ⟨g, o, cc, chunk ms i⟩ wr HJX.out HBK.out.ge hxe
                  dsimp only [encEl] at hy
                  have hq0 : (0 : Int) < (q : Int) := by omega
                  have HQ6 := Lib.hid hq
                  have HO6 := Lib.hid ho
                  clear hq ho hlast hxe
                  gi_wp2_with fail
                  refine hR.mono ?_
                  rintro e W3 ⟨rfl, hJ3, hk3⟩
                  have HJ3 := Lib.hid hJ3
                  have HB3 := Lib.hid (HBK.out.keep hk3)
                  have HX3 : Hid ((xs ++ [(⟨g, o, cc, chunk ms i⟩ : El)]).map (·.bs) = upto (chunk ms) (i + 1)) := Lib.hid (by rw [List.map_append, HXS.out, upto_succ]; rfl)
                  clear hJ3 hk3 hy hR HJX HBK
                  by_cases hcc : cc = 64
                  · have HCC := Lib.hid hcc
                    have hqe : q = 64 := by omega
                    have hke : i + 1 = k := by have := HQ6.out; omega
                    have HKE := Lib.hid hke
                    subst hcc
                    subst hqe
                    clear hke
                    gi_wp2_with fail
                    go_roundw
                    case rel => exact ⟨i + 1, _, 0, _, 64 * (i + 1), _, by omega, by have := HKE.out; omega, rfl, rfl, HX3.out, HJ3.out, HB3.out, fun h => by have := HKE.out; omega⟩
                    case measure => simp
                  · have hc64 : 64 < cc := by omega
                    gi_wp2_with fail
                    go_roundw
                    case rel => exact ⟨i + 1, _, q - 64, cc - 64, o + 64, _, hlt, by have := HQ6.out; omega, by have := HO6.out; omega, rfl, HX3.out, HJ3.out, HB3.out, fun _ => ⟨rfl, by omega, by omega⟩⟩
                    case measure => simp; omega
                · have hie : i = k := by omega
                  have hq0 : q = 0 := by omega
                  have HIE := Lib.hid hie
                  subst hq0
                  clear hie hlast
                  gi_wp2_with fail
                  go_end0
                  refine ⟨⟨_, rfl⟩, xs, ?_, HJX.out⟩
                  rw [HXS.out, HIE.out, ← HMM.out, HML.out, HTT.out, Nat.mul_div_cancel_left _ (by decide)]
end Go.Proofs.YtenbgpcdoljkgaaGreatDoor

/- kalends/digest.hash, kalends/digest.Sum: functions of the bytes alone. -/
namespace Go.Proofs.YtenbgpcdoljkgaaGreatDoor
open Go Go.RowKit Go.Shelf
attribute [local go_sem] Oper.semAt_some

section
variable {F : Fence} {n : Nat} {P : Program} {ops : Array Oper} {rest : List Oper} {o : Oper} {a : Act} {w : World} {Q : Exit → Act → World → Prop}
theorem wpListIn_load_nm (hg : o.guard = none) (ty : TypeId) (x : Operand) (ho : o.op = .load ty x) (g : Nat) (hx : a.eval x = .pointer (some ⟨g, 0, none⟩)) (cs : Array Value) (hr : RowU w g cs)
    (d : TypeDesc) (hu : P.underlying ty = some d) (hd : d.isRow = true) (hi : (P.info? ty).map (·.size) = some cs.size) (h : wpListIn F n P ops Q rest (a.put o.dst (.agg cs)) w) : wpListIn F n P ops Q (o :: rest) a w := by
  refine wpListIn_plain hg fun K hK => ?_
  have hc : w.rangeAt g 0 cs.toList := fun j v hv => by rw [Nat.zero_add, hr.2 j]; simpa using hv
  unfold Oper.wpIn
  refine ⟨?_, ?_⟩
  · simp [Oper.about, ho]
  · rw [Oper.semAt_plain F _ _ (by rw [ho]; intro c hc'; cases hc')]
    unfold execOp
    simp only [ho, hx, Instr.loadAt, Instr.sureAddr, Sem.run_bind, Sem.run_pure, Result.andThen_ok, run_loadVar_mid w g 0 ty cs.toList d hc hu hd (by rw [hi]; simp)]
    exact hK _ _ (by simpa using h)
theorem wpListIn_store_nm (hg : o.guard = none) (ty : TypeId) (x y : Operand) (ho : o.op = .store ty x y) (g : Nat) (cells : Array Value) (hx : a.eval x = .pointer (some ⟨g, 0, none⟩)) (hy : a.eval y = .agg cells)
    (t : TypeId) (old : Array Value) (hb : w.heap[g]? = some (.cells old t (0, 0))) (hi : (P.info? ty).map (·.size) = some cells.size) (hold : old.size = cells.size) (h1 : cells.all (·.oneCell') = true)
    (h : wpListIn F n P ops Q rest (a.put o.dst undef) (w.setRow g cells)) : wpListIn F n P ops Q (o :: rest) a w := by
  refine wpListIn_plain hg fun K hK => ?_
  unfold Oper.wpIn
  refine ⟨?_, ?_⟩
  · simp [Oper.about, ho]
  · rw [Oper.semAt_plain F _ _ (by rw [ho]; intro c hc'; cases hc')]
    unfold execOp
    simp only [ho, hx, hy, Instr.storeAt, Instr.sureAddr, Sem.run_bind, Sem.run_pure, Result.andThen_ok, run_storeVar_row w g t ty old cells hb hi hold h1]
    exact hK _ _ h
theorem wpListIn_alloc_nm (hg : o.guard = none) (t : TypeId) (ho : o.op = .alloc t) (cells : Array Value) (hz : (P.info? t).map (fun i => (i.zero, i.size)) = some (some (.agg cells), cells.size))
    (h : wpListIn F n P ops Q rest (a.put o.dst (.pointer (some ⟨w.heap.size, 0, none⟩))) (w.alloc (.cells cells t))) : wpListIn F n P ops Q (o :: rest) a w := by
  refine wpListIn_plain hg fun K hK => ?_
  unfold Oper.wpIn
  refine ⟨?_, ?_⟩
  · simp [Oper.about, ho]
  · rw [Oper.semAt_plain F _ _ (by rw [ho]; intro c hc'; cases hc')]
    unfold execOp
    simp only [ho, Sem.run_bind, run_alloc_var w t (.agg cells) _ hz, Result.andThen_ok]
    exact hK _ _ h
end
/-- The digest's variable, as it lies. -/
def cellsB (bs : List UInt8) : Array Value := (refCells bs).toArray
theorem cellsB_size (bs : List UInt8) : (cellsB bs).size = bs.length := by simp [cellsB, refCells]
theorem cellsB_one (bs : List UInt8) : (cellsB bs).all (·.oneCell') = true := by
  rw [Array.all_eq_true_iff_forall_mem]
  intro v hv
  exact ref_one2 bs v (by simpa [cellsB] using hv)
theorem cellsB_set (bs : List UInt8) (i : Nat) (x : UInt8) : (cellsB bs).setIfInBounds i (Extern.Stop.cell x) = cellsB (bs.set i x) := by
  simp [cellsB, refCells, List.map_set]
theorem cellsB_get (bs : List UInt8) (i : Nat) (h : i < bs.length) : (cellsB bs)[i]? = some (Extern.Stop.cell (bs[i]?.getD 0)) := by
  simp [cellsB, refCells, h]
def z32 : List UInt8 := List.replicate 32 0
theorem zero32_info : (Tryz.prog.info? 34).map (fun i => (i.zero, i.size)) = some (some (.agg (cellsB z32)), (cellsB z32).size) := by kernel_rfl
/-- The state at the start. -/
def shaIV : List Int := [1779033703, 3144134277, 1013904242, 2773480762, 1359893119, 2600822924, 528734635, 1541459225]
def foldS (KR st : List Int) (l : List (List UInt8)) : List Int := l.foldl (addF KR) st
theorem addF_length (KR st : List Int) (xs : List UInt8) (h : st.length = 8) : (addF KR st xs).length = 8 := by unfold addF; rw [sumT_length]; exact h
theorem foldS_length (KR : List Int) (l : List (List UInt8)) : ∀ st : List Int, st.length = 8 → (foldS KR st l).length = 8 := by
  induction l with
  | nil => exact fun _ h => h
  | cons x l ih => exact fun st h => ih _ (addF_length KR st x h)
theorem foldS_snoc (KR st : List Int) (l : List (List UInt8)) (x : List UInt8) : foldS KR st (l ++ [x]) = addF KR (foldS KR st l) x := by simp [foldS]
/-- The digest of a state. -/
def outTo (st : List Int) : Nat → List UInt8
  | 0 => z32
  | i + 1 => (outTo st i).set i (byteOf ((st[i / 4]?.getD 0) / 2 ^ (24 - 8 * (i % 4))))
theorem outTo_length (st : List Int) (i : Nat) : (outTo st i).length = 32 := by
  induction i with
  | zero => simp [outTo, z32]
  | succ i ih => simp [outTo, ih]
def digF (KR : List Int) (bs : List UInt8) : List UInt8 := outTo (foldS KR shaIV (upto (chunk (padB bs)) ((padB bs).length / 64))) 32
theorem digF_length (KR : List Int) (bs : List UInt8) : (digF KR bs).length = 32 := outTo_length _ _
theorem blocks_any (a : Option Addr) (n c : Nat) (w : World) : CallsIn Fence.wide 2 Tryz.prog 72 #[.slice a n c] w fun e w' => e = .returned (.func (.func 103) #[] #[.pointer (some ⟨w.heap.size, 0, none⟩)]) ∧ w' = w.alloc (.cells #[.slice a n c] 124) := by
  refine callsIn_of_wp Tryz.func72 rfl trivial ?_ rfl
  simp only [Tryz.ntmps72, List.size_toArray, List.length_cons, List.length_nil, Nat.reduceAdd, Nat.reduceSub, Array.replicate_succ, Array.replicate_zero, List.push_toArray, List.append_toArray, List.nil_append, List.cons_append]
  gi_wp2
  go_ret
  exact ⟨rfl, rfl⟩
end Go.Proofs.YtenbgpcdoljkgaaGreatDoor

/- kalends/digest.hash of one part. -/
namespace Go.Proofs.YtenbgpcdoljkgaaGreatDoor
open Go Go.RowKit Go.Shelf
attribute [local go_sem] Oper.semAt_some

/-- The state under way. -/
structure HashS (w : World) (KR : List Int) (l : List (List UInt8)) (W : World) : Prop where
  res : AV w.heap.size 34 (cellsB z32) W
  st : AV (w.heap.size + 1) 127 (cellsU (foldS KR shaIV l)) W
  lo : Below w.heap.size w W
theorem HashS.grow {w W W' : World} {KR : List Int} {l : List (List UInt8)} (h : HashS w KR l W) (hb : Below (w.heap.size + 3) W W') : HashS w KR l W' :=
  ⟨⟨(hb.block _ (by omega)).trans h.res.var⟩, ⟨(hb.block _ (by omega)).trans h.st.var⟩, h.lo.trans (hb.mono (by omega))⟩
theorem hash_start {w w3 : World} {KR : List Int} {B : Obj} {v : Value} {t : TypeId} (hB : ∃ cs, B = .cells cs 127 (0, 0)) (h : w3 = (((w.alloc (.cells (cellsB z32) 34)).alloc B).setRow (w.heap.size + 1) (cellsU shaIV)).alloc (.cells #[v] t)) :
    HashS w KR [] w3 ∧ w3.heap.size = w.heap.size + 3 ∧ w3.cell? ⟨w.heap.size + 2, 0, none⟩ = some v := by
  obtain ⟨cs, rfl⟩ := hB
  obtain ⟨W2, hW2⟩ : ∃ W, ((w.alloc (.cells (cellsB z32) 34)).alloc (.cells cs 127 (0, 0))).setRow (w.heap.size + 1) (cellsU shaIV) = W := ⟨_, rfl⟩
  have hs2 : W2.heap.size = w.heap.size + 2 := by rw [← hW2]; simp
  have h0 : W2.heap[w.heap.size]? = some (.cells (cellsB z32) 34 (0, 0)) := by rw [← hW2, setRow_other _ _ _ _ (by omega)]; exact heap_alloc2_old w _ _
  have h1 : W2.heap[w.heap.size + 1]? = some (.cells (cellsU shaIV) 127 (0, 0)) := by rw [← hW2]; exact setRow_heap _ _ _ _ _ _ (heap_alloc2_new w _ _)
  have hb : Below w.heap.size w W2 := by rw [← hW2]; exact below_setRow' (((Below.refl _ w).alloc (Nat.le_refl _) _).alloc (by simp) _) (Nat.le_succ _) _
  rw [hW2] at h
  subst h
  have hb2 := below_var W2 (.cells #[v] t)
  refine ⟨⟨⟨(hb2.block _ (by omega)).trans h0⟩, ⟨(hb2.block _ (by omega)).trans h1⟩, hb.trans (hb2.mono (by omega))⟩, by simp; omega, ?_⟩
  rw [← hs2]
  exact cell_of_row _ _ 0 _ _ _ (heap_alloc_last W2 _)
def slEl (x : El) : Value := .slice (some ⟨x.b, x.off, none⟩) 64 x.cap
theorem ElAt.put {x : El} {A : World} {l : Nat} {o o' : Obj} (h : ElAt x A) (ho : A.heap[l]? = some o) (hc : o.isCells = false) : ElAt x (A.putObj l o') := by
  have hne : x.b ≠ l := fun e => by
    have h1 := h.at_ 0 (by omega)
    subst e
    cases o with
    | cells cs t fr => cases hc
    | _ => simp [World.cell?, ho] at h1
  exact ⟨by simp [World.putObj]; exact h.lt, h.len, fun j hj => (World.cell?_of_block (a := ⟨x.b, x.off + j, none⟩) (World.putObj_heap_other hne)).trans (h.at_ j hj)⟩
set_option maxRecDepth 100000 in
set_option maxHeartbeats 2000000 in
theorem hash_any (KR : List Int) (hK : KR.length = 64) (w : World) (hG : RowU w 0 (cellsU KR)) (bs : List UInt8) (hb0 : 0 < bs.length) (hlen : bs.length ≤ 1000000000) (pb ab off c : Nat) (hp : w.cell? ⟨pb, 0, none⟩ = some (.slice (some ⟨ab, off, none⟩) bs.length c)) (hlp : pb < w.heap.size) (hla : ab < w.heap.size)
    (hby : ∀ j, j < bs.length → w.cell? ⟨ab, off + j, none⟩ = some (Extern.Stop.cell (bs[j]?.getD 0))) :
    Calls Tryz.prog 36 #[.slice (some ⟨pb, 0, none⟩) 1 1] w fun e w' => e = .returned (.agg (cellsB (digF KR bs))) ∧ Below w.heap.size w w' := by
  refine (callsIn_wide (n := 3)).1 ?_
  have hro : Fence.wide.round = none := rfl
  have h1 : 1 ≤ 3 := by omega
  have HK := Lib.hid hK
  have HG := Lib.hid hG
  have HBY := Lib.hid hby
  have HP := Lib.hid hp
  clear hK hG hby hp
  refine callsIn_of_wp_marks Tryz.func36 rfl trivial ?_ hro
  simp only [Tryz.ntmps36, List.size_toArray, List.length_cons, List.length_nil, Nat.reduceAdd, Nat.reduceSub, Array.replicate_succ, Array.replicate_zero, List.push_toArray, List.append_toArray, List.nil_append, List.cons_append]
  gi_wp2_with (first
    | (refine wpListIn_alloc_nm rfl _ rfl (cellsB z32) zero32_info ?_)
    | (refine wpListIn_alloc_nm rfl _ rfl (cellsU (List.replicate 8 0)) zero8_info ?_; refine wpListIn_store_nm rfl 127 _ _ rfl (w.alloc (.cells (cellsB z32) 34)).heap.size (cellsU shaIV) rfl rfl 127 (cellsU (List.replicate 8 0)) (heap_alloc_last _ _) (by kernel_rfl) rfl (cellsU_one _) ?_)
    | (refine ⟨trivial, ?_⟩; gi_at_call 72; refine (blocks_any _ _ _ _).mono ?_; rintro e w3 ⟨rfl, hw3⟩; obtain ⟨hs3, hz3, hbx3⟩ := hash_start (KR := KR) ⟨_, rfl⟩ hw3; have HS3 := Lib.hid hs3; have HX3 := Lib.hid hbx3; have HZ3 := Lib.hid hz3; clear hw3 hs3 hbx3 hz3))
  have hseq : ∀ W, Below w3.heap.size w3 W → SeqTells Fence.wide (3 - 1) Tryz.prog 103 #[.pointer (some ⟨w.heap.size + 1 + 1, 0, none⟩)] encEl ElAt (fun xs => xs.map (·.bs) = upto (chunk (padB bs)) ((padB bs).length / 64)) W := fun W hW => by
    have hz := HZ3.out
    have hsz := hW.size
    have hlo := HS3.out.lo
    exact blocks_tells Fence.wide 2 trivial rfl (by omega) bs hb0 hlen W (w.heap.size + 1 + 1) pb ab off c ((hW.cell (p := ⟨w.heap.size + 2, 0, none⟩) (by show w.heap.size + 2 < w3.heap.size; omega)).trans HX3.out)
      (((hW.mono (by omega)).cell (p := ⟨pb, 0, none⟩) hlp).trans ((hlo.cell (p := ⟨pb, 0, none⟩) hlp).trans HP.out)) (by omega) (by omega) (by omega) (fun j hj => ((hW.mono (by omega)).cell (p := ⟨ab, off + j, none⟩) hla).trans ((hlo.cell (p := ⟨ab, off + j, none⟩) hla).trans (HBY.out j hj)))
  have HSEQ := Lib.hid hseq
  clear hseq
  refine wpIn_range_tells hro h1 (gf := 103) (lb := #[.pointer (some ⟨w.heap.size + 1 + 1, 0, none⟩)]) rfl trivial (enters_of Tryz.func103 (by kernel_rfl) rfl) HSEQ.out (fun _ => rfl)
    (fun (xs : List El) W => HashS w KR (xs.map (fun x : El => x.bs)) W) (fun xs A B h hb => h.grow (hb.mono (by rw [HZ3.out]; exact Nat.le_refl _))) HS3.out
    (fun x => { tmps := #[.slice (some ⟨pb, 0, none⟩) 1 1, undef, .pointer (some ⟨w.heap.size, 0, none⟩), .pointer (some ⟨w.heap.size + 1, 0, none⟩), slEl x, undef, undef, .agg (cellsU shaIV), .slice (some ⟨pb, 0, none⟩) 1 1, .func (.func 103) #[] #[.pointer (some ⟨w.heap.size + 1 + 1, 0, none⟩)], slEl x, undef, undef, undef, undef, undef, undef, undef, undef, undef, undef, undef, undef, undef, undef, undef, undef, undef, undef, undef], defers := [] })
    (fun x A l o o' h1 h2 h3 => h1.put h2 h3) ?assign ?body ?done
  case assign =>
    intro l x W K hK
    unfold encEl
    gi_wp2
    exact hK
  case body =>
    intro l pre x W hI hsz hx
    have hGW : RowU W 0 (cellsU KR) := ⟨Nat.lt_of_lt_of_le HG.out.1 hI.lo.size, fun i => (hI.lo.cell (p := ⟨0, i, none⟩) HG.out.1).trans (HG.out.2 i)⟩
    have HC : Hid (Calls Tryz.prog 73 #[.pointer (some ⟨w.heap.size + 1, 0, none⟩), slEl x] W fun e w' => e = .returned (.tuple #[]) ∧ AV (w.heap.size + 1) 127 (cellsU (addF KR (foldS KR shaIV (pre.map (fun x : El => x.bs))) x.bs)) w' ∧ SKeep (w.heap.size + 1) W w') :=
      Lib.hid (add_any KR HK.out W hGW (w.heap.size + 1) x.b x.off x.cap (foldS KR shaIV (pre.map (fun x : El => x.bs))) x.bs (foldS_length _ _ _ rfl) hI.st hx.len hx.lt hx.at_)
    have HI := Lib.hid hI
    clear hGW hI hx
    gi_wp2_with (refine ⟨trivial, ?_⟩; gi_at_call 73; refine (CallsIn.inRound l (callsIn_wide.2 HC.out)).mono ?_; rintro e W2 ⟨rfl, hav, hkp⟩)
    have hl := HI.out.lo
    have hz3 := HZ3.out
    refine ⟨⟨⟨(hkp.block _ (by have := hl.size; omega) (by omega)).trans HI.out.res.var⟩, ?_, ⟨hkp.os.trans hl.os, hkp.tape.trans hl.tape, hkp.output.trans hl.output, Nat.le_trans hl.size hkp.size, fun k hk => (hkp.block k (by have := hl.size; omega) (by omega)).trans (hl.block k hk)⟩⟩, ⟨hkp.size, fun k h1 h2 => hkp.block k h2 (by omega)⟩⟩
    rw [foldS_snoc]
    exact hav
  case done =>
    intro D xs W hD hS hI hD0
    rw [hS] at hI
    obtain ⟨st, hst⟩ : ∃ st, foldS KR shaIV (upto (chunk (padB bs)) ((padB bs).length / 64)) = st := ⟨_, rfl⟩
    have hsl : st.length = 8 := by rw [← hst]; exact foldS_length _ _ _ rfl
    have hI2 : AV (w.heap.size + 1) 127 (cellsU st) W := by rw [← hst]; exact hI.st
    have HI := Lib.hid hI
    have HI2 := Lib.hid hI2
    have HD0 := Lib.hid hD0
    have HST := Lib.hid hst
    have HSL := Lib.hid hsl
    clear hI hI2 hD0 hst hsl hS
    have HA0 := Lib.hid (AV.new W (cellsB (outTo st 0)) 34)
    have HB0 := Lib.hid (below_var W (.cells (cellsB (outTo st 0)) 34))
    have hstl := HI2.out.lt
    have hdl : D < W.heap.size := (Array.getElem?_eq_some_iff.1 HD0.out).1
    gi_wp2_with (refine wpListIn_alloc_nm rfl _ rfl (cellsB z32) zero32_info ?_)
    gi_loopw [13] (fun i wx => ∃ k : Nat, k ≤ 32 ∧ i = .int .i64 (k : Int) ∧ AV W.heap.size 34 (cellsB (outTo st k)) wx ∧ Below W.heap.size W wx) (fun i _ => 32 - (intOf i).toNat)
    case atStart => exact ⟨0, Nat.zero_le _, rfl, HA0.out, HB0.out⟩
    case round =>
      obtain ⟨k, hk, rfl, hd, hb⟩ := hrel
      have HDV := Lib.hid hd
      have HBL := Lib.hid hb
      have HOL := Lib.hid (outTo_length st k)
      clear hd hb HA0 HB0
      by_cases hlt : k < 32
      · have i1 : (k : Int) < 32 := by omega
        obtain ⟨q4, hq4⟩ : ∃ q : Nat, k / 4 = q := ⟨_, rfl⟩
        obtain ⟨r4, hr4⟩ : ∃ q : Nat, k % 4 = q := ⟨_, rfl⟩
        obtain ⟨s4, hs4⟩ : ∃ q : Nat, 24 - 8 * r4 = q := ⟨_, rfl⟩
        obtain ⟨v, hv⟩ : ∃ v, st[q4]?.getD 0 = v := ⟨_, rfl⟩
        have cs : wr.cell? ⟨w.heap.size + 1, q4, none⟩ = some (.int .u32 v) := ((HBL.out.cell (p := ⟨w.heap.size + 1, q4, none⟩) hstl).trans (HI2.out.cell q4)).trans (by rw [cellsU_get _ _ (by rw [HSL.out]; omega), hv])
        have cd : wr.cell? ⟨W.heap.size, k, none⟩ = some (Extern.Stop.cell ((outTo st k)[k]?.getD 0)) := (HDV.out.cell k).trans (cellsB_get _ _ (by rw [HOL.out]; exact hlt))
        have cf := HDV.out.froz k
        obtain ⟨y, hy⟩ : ∃ y, v / 2 ^ s4 = y := ⟨_, rfl⟩
        have g4 : (k : Int) / 4 = (q4 : Int) := by omega
        have g5 : (k : Int) % 4 = (r4 : Int) := by omega
        have g6 : 24 - 8 * (r4 : Int) = (s4 : Int) := by omega
        have b4 : (q4 : Int) < 8 := by omega
        have b5 : (r4 : Int) < 4 := by omega
        have b6 : (s4 : Int) ≤ 24 := by omega
        have hw8 : IntKind.u8.wrap y = y % 256 := by rw [IntKind.wrap_u8]
        have HN : Hid (AV W.heap.size 34 (cellsB (outTo st (k + 1))) (wr.setCell ⟨W.heap.size, k, none⟩ (.int .u8 (y % 256)))) := Lib.hid (by
          have h := HDV.out.put k (Extern.Stop.cell (byteOf y))
          rw [cellsB_set, byteOf_cell] at h
          have e : outTo st (k + 1) = (outTo st k).set k (byteOf y) := by
            show (outTo st k).set k (byteOf ((st[k / 4]?.getD 0) / 2 ^ (24 - 8 * (k % 4)))) = _
            rw [hq4, hr4, hs4, hv, hy]
          rw [e]
          exact h)
        clear hq4 hr4 hs4 hv
        gi_wp2_with fail
        go_roundw
        case rel => exact ⟨k + 1, by omega, by go_num, HN.out, HBL.out.setCell (p := ⟨W.heap.size, k, none⟩) (Nat.le_refl _) _⟩
        case measure => simp [intOf]; omega
      · have HKE : Hid (k = 32) := Lib.hid (by omega)
        have i1 : ¬ (k : Int) < 32 := by omega
        have i2 : ((k : Int) < 32) = False := by simp; omega
        have HRW : Hid (RowU wr W.heap.size (cellsB (outTo st k))) := Lib.hid ⟨HDV.out.lt, HDV.out.cell⟩
        have HSZ : Hid ((Tryz.prog.info? 34).map (·.size) = some (cellsB (outTo st k)).size) := Lib.hid (by rw [cellsB_size, HOL.out]; kernel_rfl)
        have HSO : Hid ((cellsB z32).size = (cellsB (outTo st k)).size) := Lib.hid (by rw [cellsB_size, cellsB_size, HOL.out]; rfl)
        have HRS : Hid (wr.heap[w.heap.size]? = some (.cells (cellsB z32) 34 (0, 0))) := Lib.hid ((HBL.out.block _ (by omega)).trans HI.out.res.var)
        have HDD : Hid ((wr.setRow w.heap.size (cellsB (outTo st k))).heap[D]? = some (.deferred (some []))) := Lib.hid ((setRow_other _ _ _ _ (by have := HZ3.out; omega)).trans ((HBL.out.block _ hdl).trans HD0.out))
        clear hlt
        gi_wp2_with (first
          | (refine wpListIn_load_nm rfl _ _ rfl W.heap.size rfl (cellsB (outTo st k)) HRW.out _ Tryz.underlying34 rfl HSZ.out ?_; refine wpListIn_store_nm rfl _ _ _ rfl w.heap.size (cellsB (outTo st k)) rfl rfl 34 (cellsB z32) HRS.out HSZ.out HSO.out (cellsB_one _) ?_))
        have hz3 := HZ3.out
        have hlo := HI.out.lo
        refine ⟨by simp, .inl ⟨_, _, rfl, run_takeDeferred HDD.out, ?_⟩⟩
        refine ⟨_, results_cell_row rfl _ _ w.heap.size _ (cellsB (outTo st k)) (0, 0) _ rfl ((World.putObj_heap_other (by omega)).trans (setRow_heap _ _ _ _ _ _ HRS.out)) Tryz.underlying34 rfl HSZ.out, ?_⟩
        refine ⟨?_, (below_setRow' (hlo.trans (HBL.out.mono hlo.size)) (Nat.le_refl _) _).trans (below_put (by omega))⟩
        rw [HKE.out, ← HST.out]
        rfl
end Go.Proofs.YtenbgpcdoljkgaaGreatDoor

/- kalends/digest.Sum is a function of the bytes alone; letter.Ref. -/
namespace Go.Proofs.YtenbgpcdoljkgaaGreatDoor
open Go Go.RowKit

set_option maxRecDepth 10000 in
set_option maxHeartbeats 1000000 in
theorem sum_some (KR : List Int) (hK : KR.length = 64) (w : World) (hG : RowU w 0 (cellsU KR)) (bs : List UInt8) (hb0 : 0 < bs.length) (hlen : bs.length ≤ 1000000000) (ab off c : Nat) (hla : ab < w.heap.size) (hby : ∀ j, j < bs.length → w.cell? ⟨ab, off + j, none⟩ = some (Extern.Stop.cell (bs[j]?.getD 0))) :
    Calls Tryz.prog 10 #[.slice (some ⟨ab, off, none⟩) bs.length c] w (Gives (.agg (cellsB (digF KR bs))) w) := by
  obtain ⟨W1, hW1⟩ : ∃ W, (w.alloc (.cells (cellsB z32) 34)).alloc (.cells #[.slice (some ⟨ab, off, none⟩) bs.length c] 38) = W := ⟨_, rfl⟩
  have hs1 : W1.heap.size = w.heap.size + 2 := by rw [← hW1]; simp
  have hb1 : Below w.heap.size w W1 := by rw [← hW1]; exact ((Below.refl _ w).alloc (Nat.le_refl _) _).alloc (by simp) _
  have hr1 : W1.heap[w.heap.size]? = some (.cells (cellsB z32) 34 (0, 0)) := by rw [← hW1]; exact heap_alloc2_old w _ _
  have hp1 : W1.heap[w.heap.size + 1]? = some (.cells #[.slice (some ⟨ab, off, none⟩) bs.length c] 38 (0, 0)) := by rw [← hW1]; exact heap_alloc2_new w _ _
  have HC : Hid (Calls Tryz.prog 36 #[.slice (some ⟨w.heap.size + 1, 0, none⟩) 1 1] W1 fun e w' => e = .returned (.agg (cellsB (digF KR bs))) ∧ Below W1.heap.size W1 w') :=
    Lib.hid (hash_any KR hK W1 ⟨Nat.lt_of_lt_of_le hG.1 hb1.size, fun i => (hb1.cell (p := ⟨0, i, none⟩) hG.1).trans (hG.2 i)⟩ bs hb0 hlen (w.heap.size + 1) ab off c (cell_of_row _ _ 0 _ _ _ hp1) (by omega) (by omega) fun j hj => (hb1.cell (p := ⟨ab, off + j, none⟩) hla).trans (hby j hj))
  have HW1 := Lib.hid hW1
  have HB1 := Lib.hid hb1
  have HR1 := Lib.hid hr1
  have HSZ : Hid ((Tryz.prog.info? 34).map (·.size) = some (cellsB (digF KR bs)).size) := Lib.hid (by rw [cellsB_size, digF_length]; kernel_rfl)
  have HSO : Hid ((cellsB z32).size = (cellsB (digF KR bs)).size) := Lib.hid (by rw [cellsB_size, cellsB_size, digF_length]; rfl)
  obtain ⟨N, hN⟩ : ∃ N, bs.length = N := ⟨_, rfl⟩
  rw [hN] at HW1 ⊢
  clear hs1 hb1 hr1 hp1 hW1 hby hG hK hN
  go_enter Tryz.func10, Tryz.ntmps10
  go_wp2_with (first
    | (refine wpList_alloc_nm rfl _ rfl (cellsB z32) zero32_info ?_)
    | (go_at_call 36; rw [HW1.out]; refine HC.out.mono ?_; rintro e w2 ⟨rfl, hb2⟩; have HB2 := Lib.hid hb2; have HR2 : Hid (w2.heap[w.heap.size]? = some (.cells (cellsB z32) 34 (0, 0))) := Lib.hid ((hb2.block _ (Array.getElem?_eq_some_iff.1 HR1.out).1).trans HR1.out); clear hb2)
    | (with_reducible refine g_st 34 ?_; refine wpList_store_row rfl _ _ _ rfl w.heap.size (cellsB (digF KR bs)) rfl rfl 34 (cellsB z32) HR2.out HSZ.out HSO.out (cellsB_one _) ?_))
  refine bodyPost_ret (v := .agg (cellsB (digF KR bs))) (results_cell_row rfl _ _ w.heap.size _ (cellsB (digF KR bs)) (0, 0) _ rfl (setRow_heap _ _ _ _ _ _ HR2.out) Tryz.underlying34 rfl HSZ.out) rfl ?_
  exact ⟨rfl, below_setRow (HB1.out.trans (HB2.out.mono HB1.out.size)) (Nat.le_refl _) _⟩
end Go.Proofs.YtenbgpcdoljkgaaGreatDoor

/- letter.Ref where the letter is not valid. -/
namespace Go.Proofs.YtenbgpcdoljkgaaGreatDoor
open Go Go.RowKit

def zDig : Array Value := (refCells zero32).toArray
theorem zDig_info : (Tryz.prog.info? 34).map (fun i => (i.zero, i.size)) = some (some (.agg zDig), zDig.size) := by kernel_rfl
theorem zDig_size : (Tryz.prog.info? 34).map (·.size) = some zDig.size := by kernel_rfl
theorem zDig_built : Tryz.prog.built 34 [] = some zDig := by kernel_rfl
theorem zDig_one : zDig.all (·.oneCell') = true := by kernel_rfl
set_option maxRecDepth 10000 in
set_option maxHeartbeats 2000000 in
theorem ref_bad (m : Lt) (s : Sl) (W : World) (hr : m.ref.length = 32) (hby : ∀ w', Below W.heap.size W w' → Calls Tryz.prog 8 #[.agg (ltVal m s)] w' (Gives (.tuple #[.slice none 0 0, I 1]) w')) :
    Calls Tryz.prog 9 #[.agg (ltVal m s)] W (Gives (.tuple #[.agg zDig, I 1]) W) := by
  have HR0 := Lib.hid ((Row.new W (ltVal m s) 36).keep (below_var _ (.cells zDig 34)))
  have HB0 := Lib.hid (below_trans (below_var W (.cells (ltVal m s) 36)) (below_var _ (.cells zDig 34)))
  have HRES := Lib.hid (heap_alloc2_new W (.cells (ltVal m s) 36) (.cells zDig 34))
  have HV := Lib.hid hby
  have HR := Lib.hid hr
  clear hby hr
  go_enter Tryz.func9, Tryz.ntmps9
  go_wp2_with (first
    | (with_reducible refine g_alloc 34 ?_; refine wpList_alloc_as rfl _ rfl zDig zDig_info ?_)
    | (with_reducible refine g_load 36 ?_; refine wpList_load_Row rfl _ _ rfl W.heap.size rfl (ltVal m s) HR0.out _ Tryz.underlying36 rfl (size62 _ _ HR.out) ?_))
  refine (HV.out _ HB0.out).mono ?_
  rintro e w1 ⟨rfl, hb1⟩
  have HB1 := Lib.hid (below_trans HB0.out hb1)
  have HRES1 := Lib.hid ((hb1.block _ (by simp)).trans HRES.out)
  clear hb1 HRES
  go_wp2_with (first
    | (with_reducible refine at_build 34 ?_; refine wpList_build_as rfl _ rfl zDig (by exact zDig_built) ?_)
    | (with_reducible refine g_store 34 ?_; refine wpList_store_row rfl _ _ _ rfl (W.heap.size + 1) zDig rfl rfl 34 zDig HRES1.out zDig_size rfl zDig_one ?_))
  refine bodyPost_ret (v := .tuple #[.agg zDig, I 1]) (results_row_tmp rfl _ _ (W.heap.size + 1) _ zDig (0, 0) _ rfl (setRow_heap _ _ _ _ _ _ HRES1.out) Tryz.underlying34 rfl zDig_size _ rfl) rfl ?_
  exact ⟨rfl, below_setRow HB1.out (Nat.le_succ _) _⟩
end Go.Proofs.YtenbgpcdoljkgaaGreatDoor

/- letter.Ref of a made letter: the digest of its encoding. -/
namespace Go.Proofs.YtenbgpcdoljkgaaGreatDoor
open Go Go.RowKit

theorem RowU.keep {w w' : World} {b : Nat} {cs : Array Value} (h : RowU w b cs) (hb : Below w.heap.size w w') : RowU w' b cs :=
  ⟨Nat.lt_of_lt_of_le h.1 hb.size, fun i => (hb.cell (p := ⟨b, i, none⟩) h.1).trans (h.2 i)⟩
/-- The encoding of a made letter. -/
def encOf (l : Lt) : List UInt8 := ltBytes l (sbOf l)
theorem encOf_len {l : Lt} {ns : List NdV} (h : MadeLt l ns) : 0 < (encOf l).length ∧ (encOf l).length ≤ 1000000000 := by
  have h1 : (sbOf l).length ≤ 1000004 := by
    unfold sbOf
    split
    · rw [le_length]; omega
    · rename_i hn
      rcases h.se with hs | hs
      · exfalso; apply hn; unfold nzOf; rw [hs]; rfl
      · have := seBytes_len hs
        rw [List.length_append, le_length]
        omega
  have h2 := fldsTo_le l (sbOf l) 17 (by have := h.lens; omega) h.ref
  have h3 := hd_length l
  unfold encOf ltBytes
  rw [List.length_append]
  omega
theorem enc_inj {l m : Lt} {ns ms : List NdV} (hl : MadeLt l ns) (hm : MadeLt m ms) (h : encOf l = encOf m) : l = m :=
  lt_inj (VarOf.rd hl (VarOf.same hl) hl.vc) (VarOf.rd hm (VarOf.same hm) hm.vc) h
/-- digest.Sum of bytes that lie. -/
theorem sum_at (KR : List Int) (hK : KR.length = 64) (w : World) (hG : RowU w 0 (cellsU KR)) (A : Option Addr) (bs : List UInt8) (c : Nat) (h0 : 0 < bs.length) (h1 : bs.length ≤ 1000000000) (hby : BytesAt w w.heap.size A bs) :
    Calls Tryz.prog 10 #[.slice A bs.length c] w (Gives (.agg (cellsB (digF KR bs))) w) := by
  obtain ⟨b, off, rfl, hb, hc⟩ := bytes_some hby h0
  exact sum_some KR hK w hG bs h0 h1 b off c hb hc
/-- letter.Bytes of a made letter. -/
theorem bytes_enc {l : Lt} {ns : List NdV} {s : Sl} {lo : Nat} {w : World} (hl : MadeLt l ns) (hm : LtMem lo w l s ns) (hlo : 0 < lo) :
    Calls Tryz.prog 8 #[.agg (ltVal l s)] w fun e w' => ∃ A c, e = .returned (.tuple #[.slice A (encOf l).length c, I 0]) ∧ BytesAt w' w'.heap.size A (encOf l) ∧ Below w.heap.size w w' := by
  refine (bytes_var hl hm hlo (VarOf.same hl)).mono ?_
  intro e w1 hp
  unfold BytesPost at hp
  obtain ⟨hp, hb1⟩ := hp
  rw [hl.vc, if_pos rfl] at hp
  obtain ⟨v1, rfl, hown⟩ := hp
  obtain ⟨A, c, rfl, _, _, _, hby⟩ := bytesAt_own hown
  exact ⟨A, c, rfl, hby, hb1⟩
attribute [local go_sem] ltVal_get lt_get0 lt_get1 lt_get2
set_option maxRecDepth 10000 in
set_option maxHeartbeats 1000000 in
theorem ref_made (KR : List Int) (hK : KR.length = 64) {l : Lt} {ns : List NdV} {s : Sl} {lo : Nat} {W : World} (hG : RowU W 0 (cellsU KR)) (hl : MadeLt l ns) (hm : LtMem lo W l s ns) (hlo : 0 < lo) :
    Calls Tryz.prog 9 #[.agg (ltVal l s)] W (Gives (.tuple #[.agg (cellsB (digF KR (encOf l))), I 0]) W) := by
  have HR0 := Lib.hid ((Row.new W (ltVal l s) 36).keep (below_var _ (.cells zDig 34)))
  have hb0 := below_trans (below_var W (.cells (ltVal l s) 36)) (below_var _ (.cells zDig 34))
  have HRES := Lib.hid (heap_alloc2_new W (.cells (ltVal l s) 36) (.cells zDig 34))
  have HV := Lib.hid (bytes_enc hl (hm.grow hb0 hlo) hlo)
  have HG0 := Lib.hid (hG.keep hb0)
  have HB0 := Lib.hid hb0
  have HR := Lib.hid hl.ref
  have HL := Lib.hid (encOf_len hl)
  have HK := Lib.hid hK
  have HSZ : Hid ((Tryz.prog.info? 34).map (·.size) = some (cellsB (digF KR (encOf l))).size) := Lib.hid (by rw [cellsB_size, digF_length]; kernel_rfl)
  have HSO : Hid (zDig.size = (cellsB (digF KR (encOf l))).size) := Lib.hid (by rw [cellsB_size, digF_length]; rfl)
  clear hb0 hK hG hm hlo hl
  go_enter Tryz.func9, Tryz.ntmps9
  go_wp2_with (first
    | (with_reducible refine g_alloc 34 ?_; refine wpList_alloc_as rfl _ rfl zDig zDig_info ?_)
    | (with_reducible refine g_load 36 ?_; refine wpList_load_Row rfl _ _ rfl W.heap.size rfl (ltVal l s) HR0.out _ Tryz.underlying36 rfl (size62 _ _ HR.out) ?_))
  refine HV.out.mono ?_
  rintro e w1 ⟨A, c, rfl, hby, hb1⟩
  have HB1 := Lib.hid (below_trans HB0.out hb1)
  have HRES1 := Lib.hid ((hb1.block _ (by simp)).trans HRES.out)
  have HS := Lib.hid (sum_at KR HK.out w1 (HG0.out.keep hb1) A (encOf l) c HL.out.1 HL.out.2 hby)
  obtain ⟨N, hN⟩ : ∃ N, (encOf l).length = N := ⟨_, rfl⟩
  rw [hN] at HS ⊢
  clear hb1 hby hN HRES HV HG0 HL
  go_wp2_with fail
  refine HS.out.mono ?_
  rintro e w2 ⟨rfl, hb2⟩
  have HB2 := Lib.hid (below_trans HB1.out hb2)
  have HRES2 := Lib.hid ((hb2.block _ (Array.getElem?_eq_some_iff.1 HRES1.out).1).trans HRES1.out)
  clear hb2 HRES1 HS
  go_wp2_with (with_reducible refine g_store 34 ?_; refine wpList_store_row rfl _ _ _ rfl (W.heap.size + 1) (cellsB (digF KR (encOf l))) rfl rfl 34 zDig HRES2.out HSZ.out HSO.out (cellsB_one _) ?_)
  refine bodyPost_ret (v := .tuple #[.agg (cellsB (digF KR (encOf l))), I 0]) (results_row_tmp rfl _ _ (W.heap.size + 1) _ (cellsB (digF KR (encOf l))) (0, 0) _ rfl (setRow_heap _ _ _ _ _ _ HRES2.out) Tryz.underlying34 rfl HSZ.out _ rfl) rfl ?_
  exact ⟨rfl, below_setRow HB2.out (Nat.le_succ _) _⟩
end Go.Proofs.YtenbgpcdoljkgaaGreatDoor
