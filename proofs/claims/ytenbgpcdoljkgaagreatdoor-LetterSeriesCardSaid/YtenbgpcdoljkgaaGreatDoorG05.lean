/- The texts SvC, SvD, SvE, SvF, SvG, SvH, SvI, in this order. -/
import Derived.Test.YtenbgpcdoljkgaaGreatDoorG04
import Derived.Laws.MakeOwn
/- slices.ContainsFunc over numbers and over nodes, where no element meets the test. -/
namespace Go.Proofs.YtenbgpcdoljkgaaGreatDoor
open Go Go.RowKit

set_option maxRecDepth 10000 in
theorem isOne (w : World) : Calls Tryz.prog 127 #[I 1] w fun e w' => e = .returned (.bool false) ∧ w' = w := by
  go_enter Tryz.func127, Tryz.ntmps127
  go_wp2
  go_ret
  exact ⟨rfl, rfl⟩
/-- A list of ones. -/
def Ones (w : World) (A : Option Addr) (n : Nat) : Prop := n = 0 ∨ ∃ b, A = some ⟨b, 0, none⟩ ∧ ∀ j, j < n → w.cell? ⟨b, j, none⟩ = some (I 1)
set_option maxRecDepth 10000 in
set_option maxHeartbeats 2000000 in
theorem idxOnes (A : Option Addr) (n c : Nat) (w : World) (h : Ones w A n) (hn : n ≤ 1000000) :
    Calls Tryz.prog 136 #[.slice A n c, .func (.func 127) #[] #[]] w fun e w' => e = .returned (I (-1)) ∧ w' = w := by
  have H := Lib.hid h
  clear h
  go_enter Tryz.func136, Tryz.ntmps136
  go_wp2_with fail
  go_loopw [8] (fun i wr => ∃ k : Nat, k ≤ n ∧ i = I k ∧ wr = w) (fun i _ => n - (intOf i).toNat)
  case atStart => exact ⟨0, Nat.zero_le _, rfl, rfl⟩
  case round =>
    obtain ⟨k, hk, rfl, rfl⟩ := hrel
    by_cases hlt : k < n
    · have i0 : (0 : Int) ≤ (k : Int) := by omega
      have i1 : (k : Int) < (n : Int) := by omega
      obtain ⟨b, rfl, hc⟩ : ∃ b, A = some ⟨b, 0, none⟩ ∧ ∀ j, j < n → wr.cell? ⟨b, j, none⟩ = some (I 1) := by
        rcases H.out with h | h
        · omega
        · exact h
      have c1 := hc k hlt
      clear hc
      go_wp2_with fail
      refine (isOne _).mono ?_
      rintro x w5 ⟨rfl, rfl⟩
      go_wp2_with fail
      go_roundw
      case rel => exact ⟨k + 1, by omega, by go_num, by first | trivial | rfl⟩
      case measure => simp [intOf]; omega
    · go_wp2_with fail
      go_ret
      exact ⟨rfl, rfl⟩
set_option maxRecDepth 10000 in
theorem hasOnes (A : Option Addr) (n c : Nat) (w : World) (h : Ones w A n) (hn : n ≤ 1000000) :
    Calls Tryz.prog 126 #[.slice A n c, .func (.func 127) #[] #[]] w fun e w' => e = .returned (.bool false) ∧ w' = w := by
  have H := Lib.hid (idxOnes A n c w h hn)
  clear h
  go_enter Tryz.func126, Tryz.ntmps126
  go_wp2_with fail
  refine H.out.mono ?_
  rintro x w5 ⟨rfl, rfl⟩
  go_wp2_with fail
  go_ret
  exact ⟨rfl, rfl⟩
section
attribute [local go_sem] ndCells
set_option maxRecDepth 10000 in
theorem notBig (d : Nd) (A : Option Addr) (c : Nat) (w : World) (h1 : d.list.length ≤ 64) (h2 : d.name.size ≤ 32) : Calls Tryz.prog 91 #[.agg (ndCells d A c)] w (Gives (.bool false) w) := by
  have HB := Lib.hid (below_var w (.cells (ndCells d A c) 85))
  have h3 : ¬ (64 : Int) < d.list.length := by omega
  have h4 : ¬ (32 : Int) < d.name.size := by omega
  go_enter Tryz.func91, Tryz.ntmps91
  go_wp2
  go_ret
  exact ⟨rfl, HB.out⟩
end
/-- The k-th node, as it lies. -/
structure OneNd (wr : World) (b k : Nat) (x : NdV) : Prop where
  ra : wr.rangeAt b (k * 8) (ndCells x.d x.A x.c).toList
  ia : IntsAt wr wr.heap.size x.A x.d.list
  la : b < wr.heap.size
theorem one_nd {w wr : World} {A : Option Addr} {ns : List NdV} {n k : Nat} (hA : RulesAt w w.heap.size A ns) (hl : ns.length = n) (hb : Below w.heap.size w wr) (hk : k < n) :
    ∃ b x, A = some ⟨b, 0, none⟩ ∧ ns[k]? = some x ∧ x ∈ ns ∧ OneNd wr b k x := by
  rcases (hA.keep hb) with h | ⟨b1, h1, h2, h3⟩
  · omega
  have hx : ns[k]? = some ns[k] := List.getElem?_eq_getElem (by omega)
  obtain ⟨p1, p2, _⟩ := h3 k _ hx
  exact ⟨b1, ns[k], h1, hx, List.getElem_mem (by omega), ⟨p1, p2.more hb.size, Nat.lt_of_lt_of_le h2 hb.size⟩⟩
theorem OneNd.cells {wr : World} {b k : Nat} {x : NdV} (h : OneNd wr b k x) : wr.cell? ⟨b, k * 8, none⟩ = some (I x.d.kind) ∧ wr.cell? ⟨b, k * 8 + 1, none⟩ = some (I x.d.cal) ∧ wr.cell? ⟨b, k * 8 + 2, none⟩ = some (I x.d.l) ∧ wr.cell? ⟨b, k * 8 + 3, none⟩ = some (I x.d.r) ∧ wr.cell? ⟨b, k * 8 + 4, none⟩ = some (I x.d.n) ∧ wr.cell? ⟨b, k * 8 + 5, none⟩ = some (I x.d.m) ∧ wr.cell? ⟨b, k * 8 + 6, none⟩ = some (.slice x.A x.d.list.length x.c) ∧ wr.cell? ⟨b, k * 8 + 7, none⟩ = some (.string x.d.name) :=
  ⟨h.ra 0 _ rfl, h.ra 1 _ rfl, h.ra 2 _ rfl, h.ra 3 _ rfl, h.ra 4 _ rfl, h.ra 5 _ rfl, h.ra 6 _ rfl, h.ra 7 _ rfl⟩
set_option maxRecDepth 10000 in
set_option maxHeartbeats 2000000 in
theorem idxBig (A : Option Addr) (n c : Nat) (ns : List NdV) (w : World) (hA : RulesAt w w.heap.size A ns) (hl : ns.length = n) (hn : n ≤ 1000000) (hs : ∀ x ∈ ns, x.d.list.length ≤ 64 ∧ x.d.name.size ≤ 32) :
    Calls Tryz.prog 121 #[.slice A n c, .func (.func 91) #[] #[]] w (Gives (I (-1)) w) := by
  have HA := Lib.hid hA
  have HL := Lib.hid hl
  have HS := Lib.hid hs
  clear hA hl hs
  go_enter Tryz.func121, Tryz.ntmps121
  go_wp2_with fail
  go_loopw [8] (fun i wr => ∃ k : Nat, k ≤ n ∧ i = I k ∧ Below w.heap.size w wr) (fun i _ => n - (intOf i).toNat)
  case atStart => exact ⟨0, Nat.zero_le _, rfl, Below.refl _ _⟩
  case round =>
    obtain ⟨k, hk, rfl, hbe⟩ := hrel
    have HBE := Lib.hid hbe
    clear hbe
    by_cases hlt : k < n
    · have i0 : (0 : Int) ≤ (k : Int) := by omega
      have i1 : (k : Int) < (n : Int) := by omega
      obtain ⟨b, x, rfl, hx, hm, ho⟩ := one_nd HA.out HL.out HBE.out hlt
      have HX := Lib.hid (HS.out x hm)
      obtain ⟨f0, f1, f2, f3, f4, f5, f6, f7⟩ := ho.cells
      clear ho hx hm
      go_wp2_with fail
      refine (notBig x.d x.A x.c _ HX.out.1 HX.out.2).mono ?_
      rintro v w5 ⟨rfl, hb5⟩
      have HB5 := Lib.hid hb5
      clear hb5
      go_wp2_with fail
      go_roundw
      case rel => exact ⟨k + 1, by omega, by go_num, below_trans HBE.out HB5.out⟩
      case measure => simp [intOf]; omega
    · go_wp2_with fail
      go_ret
      exact ⟨rfl, HBE.out⟩
set_option maxRecDepth 10000 in
theorem hasBig (A : Option Addr) (n c : Nat) (ns : List NdV) (w : World) (hA : RulesAt w w.heap.size A ns) (hl : ns.length = n) (hn : n ≤ 1000000) (hs : ∀ x ∈ ns, x.d.list.length ≤ 64 ∧ x.d.name.size ≤ 32) :
    Calls Tryz.prog 92 #[.slice A n c, .func (.func 91) #[] #[]] w (Gives (.bool false) w) := by
  have H := Lib.hid (idxBig A n c ns w hA hl hn hs)
  clear hA hl hs
  go_enter Tryz.func92, Tryz.ntmps92
  go_wp2_with fail
  refine H.out.mono ?_
  rintro x w5 ⟨rfl, hb5⟩
  have HB5 := Lib.hid hb5
  clear hb5
  go_wp2_with fail
  go_ret
  exact ⟨rfl, HB5.out⟩
end Go.Proofs.YtenbgpcdoljkgaaGreatDoor

/- rule.wellFormed, where the rule is well-formed. -/
namespace Go.Proofs.YtenbgpcdoljkgaaGreatDoor
open Go Go.RowKit

/-- A node is as its kind requires, at place i. -/
structure NodeOK (i : Nat) (k : Nat) (d : Nd) : Prop where
  kind : d.kind = k
  k1 : 1 ≤ k
  k2 : k ≤ 18
  len : d.list.length ≤ 64
  opl : (0 < opn k ∧ 0 ≤ d.l ∧ d.l < i) ∨ (opn k = 0 ∧ (d.l = 0 ∨ k = 7))
  opr : (1 < opn k ∧ 0 ≤ d.r ∧ d.r < i) ∨ (opn k ≤ 1 ∧ d.r = 0)
  cal : (calB k = true ∧ 0 ≤ d.cal ∧ d.cal ≤ 2) ∨ (calB k = false ∧ d.cal = 0)
  name : (k = 18 ∧ ∃ j : Int, (j = 0 ∨ j = 1) ∧ d.name = ⟨#[110]⟩ ++ digit j) ∨ (k ≠ 18 ∧ d.name = ⟨#[]⟩)
  list : (shLo k = 0 ∧ shHi k = 0 ∧ d.list = []) ∨ ((shLo k ≠ 0 ∨ shHi k ≠ 0) ∧ UpIn (shLo k) (shHi k) d.list)
  nums : NumsOK d
def bump (us : List Int) (j : Nat) : List Int := us.set j (us[j]?.getD 0 + 1)
def use0 (d : Nd) (us : List Int) : List Int := if 0 < opn d.kind.toNat then bump us d.l.toNat else us
def use1 (d : Nd) (us : List Int) : List Int := if 1 < opn d.kind.toNat then bump us d.r.toNat else us
def usesTo (ds : List Nd) (n : Nat) : Nat → List Int
  | 0 => List.replicate n 0
  | i + 1 => match ds[i]? with
    | some d => use1 d (use0 d (usesTo ds n i))
    | none => usesTo ds n i
/-- The table and the counts, as they lie. -/
structure WfS (w : World) (n tb ub : Nat) (us : List Int) (W : World) : Prop where
  tab : Row W tb shC
  uses : W.heap[ub]? = some (.cells (us.map I).toArray 3 (0, 0))
  ne : tb ≠ ub
  tlo : w.heap.size ≤ tb
  ulo : w.heap.size ≤ ub
  lo : Below w.heap.size w W
  len : us.length = n
section
variable {w W W' : World} {n tb ub : Nat} {us : List Int}
theorem WfS.below (h : WfS w n tb ub us W) (hb : Below W.heap.size W W') : WfS w n tb ub us W' :=
  ⟨h.tab.keep hb, (hb.block _ (Array.getElem?_eq_some_iff.1 h.uses).1).trans h.uses, h.ne, h.tlo, h.ulo, below_trans h.lo hb, h.len⟩
theorem WfS.cell (h : WfS w n tb ub us W) (j : Nat) (hj : j < n) : W.cell? ⟨ub, j, none⟩ = some (I (us[j]?.getD 0)) := by
  rw [cell_of_row W ub j _ _ _ h.uses]
  have : j < us.length := by rw [h.len]; exact hj
  simp [this]
theorem WfS.froz (h : WfS w n tb ub us W) (j : Nat) : W.frozen? ⟨ub, j, none⟩ = false := frozen_of_row W ub j _ _ h.uses
theorem WfS.put (h : WfS w n tb ub us W) (j : Nat) (v : Int) : WfS w n tb ub (us.set j v) (W.setCell ⟨ub, j, none⟩ (I v)) := by
  refine ⟨⟨by simpa [World.setCell] using h.tab.1, fun i => ?_⟩, ?_, h.ne, h.tlo, h.ulo, h.lo.setCell (p := ⟨ub, j, none⟩) h.ulo _, by rw [List.length_set]; exact h.len⟩
  · rw [World.cell?_of_block (heap_setCell_other W _ _ (I v) h.ne)]
    exact h.tab.2 i
  · rw [heap_setCell_same W ub j _ _ (I v) h.uses]
    congr 2
    apply Array.ext'
    simp [List.map_set]
theorem WfS.small (h : WfS w n tb ub us W) : ub < W.heap.size ∧ tb < W.heap.size := ⟨(Array.getElem?_eq_some_iff.1 h.uses).1, h.tab.1⟩
end
theorem make_ints (n : Nat) (hn : n ≤ 1000000) (W : World) : (Instr.makeSlice 22 (.int .i64 (n : Int)) (.int .i64 (n : Int))).run Tryz.prog W = .ok (.slice (some ⟨W.heap.size, 0, none⟩) n n) (W.alloc (.cells (Array.replicate n (I 0)) 3)) := by
  have h0 : (Tryz.prog.info? 3).map (fun i => (i.zero, i.size, i.bytes)) = some (some (I 0), 1, 8) := by kernel_rfl
  obtain ⟨i, hi, he⟩ := Option.map_eq_some_iff.1 h0
  simp only [Prod.mk.injEq] at he
  obtain ⟨hz, hs, hb⟩ := he
  have h := run_make (P := Tryz.prog) W 22 3 i (I 0) Tryz.underlying22 hi hz .i64 .i64 n n (by omega) (by omega) (by rw [hb]; omega) (by omega)
  rw [h, hs]
  have e : madeCells (I 0).cells (((n : Int).toNat) * 1) = Array.replicate n (I 0) := by
    apply Array.ext'
    simp [madeCells, Value.cells, Nat.mod_one]
    apply List.ext_getElem
    · simp
    · intro j h1 h2; simp
  rw [e]
  simp
theorem usesTo_len (ds : List Nd) (n i : Nat) : (usesTo ds n i).length = n := by
  induction i with
  | zero => simp [usesTo]
  | succ i ih =>
    unfold usesTo
    split
    · unfold use1 use0 bump
      split <;> split <;> simp [ih]
    · exact ih
theorem bump_le {us : List Int} {B : Int} (h : ∀ j : Nat, 0 ≤ us[j]?.getD 0 ∧ us[j]?.getD 0 ≤ B) (i : Nat) : ∀ j : Nat, 0 ≤ (bump us i)[j]?.getD 0 ∧ (bump us i)[j]?.getD 0 ≤ B + 1 := by
  intro j
  unfold bump
  have hj := h j
  have hi := h i
  rw [List.getElem?_set]
  split
  · split <;> simp <;> omega
  · omega
theorem use0_le {us : List Int} {B : Int} (d : Nd) (h : ∀ j : Nat, 0 ≤ us[j]?.getD 0 ∧ us[j]?.getD 0 ≤ B) : ∀ j : Nat, 0 ≤ (use0 d us)[j]?.getD 0 ∧ (use0 d us)[j]?.getD 0 ≤ B + 1 := by
  unfold use0
  split
  · exact bump_le h _
  · intro j; have := h j; omega
theorem use1_le {us : List Int} {B : Int} (d : Nd) (h : ∀ j : Nat, 0 ≤ us[j]?.getD 0 ∧ us[j]?.getD 0 ≤ B) : ∀ j : Nat, 0 ≤ (use1 d us)[j]?.getD 0 ∧ (use1 d us)[j]?.getD 0 ≤ B + 1 := by
  unfold use1
  split
  · exact bump_le h _
  · intro j; have := h j; omega
theorem usesTo_le (ds : List Nd) (n i : Nat) : ∀ j : Nat, 0 ≤ (usesTo ds n i)[j]?.getD 0 ∧ (usesTo ds n i)[j]?.getD 0 ≤ 2 * (i : Int) := by
  induction i with
  | zero =>
    intro j
    simp only [usesTo, List.getElem?_replicate]
    split <;> simp
  | succ i ih =>
    intro j
    unfold usesTo
    split
    · rename_i d _
      have := use1_le d (use0_le d ih) j; omega
    · have := ih j; omega
theorem natOf {x : Int} (h0 : 0 ≤ x) : ∃ n : Nat, x = n := ⟨x.toNat, by omega⟩
theorem rule_ints {w : World} {A : Option Addr} {ns : List NdV} {k : Nat} {x : NdV} (h : RulesAt w w.heap.size A ns) (hx : ns[k]? = some x) : IntsAt w w.heap.size x.A x.d.list := by
  rcases h with h | ⟨b, _, _, h3⟩
  · rw [List.eq_nil_of_length_eq_zero h] at hx; cases hx
  · exact (h3 k x hx).2.1
theorem usesTo_succ {ds : List Nd} {n i : Nat} {d : Nd} (h : ds[i]? = some d) : usesTo ds n (i + 1) = use1 d (use0 d (usesTo ds n i)) := by
  show (match ds[i]? with | some d => use1 d (use0 d (usesTo ds n i)) | none => usesTo ds n i) = _
  rw [h]
theorem WfS.start {w w1 : World} (n : Nat) (hb : Below w.heap.size w w1) : WfS w n w1.heap.size (w1.heap.size + 1) (List.replicate n 0) ((w1.alloc (.cells shC 164)).alloc (.cells (Array.replicate n (I 0)) 3)) := by
  have h1 := below_var w1 (.cells shC 164)
  have h2 := below_var (w1.alloc (.cells shC 164)) (.cells (Array.replicate n (I 0)) 3)
  have e : ((List.replicate n (0 : Int)).map I).toArray = Array.replicate n (I 0) := by simp
  refine ⟨(Row.new w1 shC _).keep h2, ?_, by omega, hb.size, by have := hb.size; omega, below_trans (below_trans hb h1) h2, by simp⟩
  rw [e]
  exact heap_alloc2_new w1 _ _
def usAt (d : Nd) (us : List Int) : Nat → List Int
  | 0 => us
  | 1 => use0 d us
  | _ => use1 d (use0 d us)
/-- Inside the round: the node, its shape and its operands, as they lie. -/
structure WI (w : World) (n tb ub : Nat) (us : List Int) (nb : Nat) (nc : Array Value) (sb : Nat) (sc : Array Value) (ob : Nat) (oc : Array Value) (W : World) : Prop where
  wf : WfS w n tb ub us W
  nd : Row W nb nc
  sh : Row W sb sc
  op : Row W ob oc
  n1 : nb ≠ ub
  n2 : sb ≠ ub
  n3 : ob ≠ ub
section
variable {w W W' : World} {n tb ub nb sb ob : Nat} {us : List Int} {nc sc oc : Array Value}
theorem WI.below (h : WI w n tb ub us nb nc sb sc ob oc W) (hb : Below W.heap.size W W') : WI w n tb ub us nb nc sb sc ob oc W' := ⟨h.wf.below hb, h.nd.keep hb, h.sh.keep hb, h.op.keep hb, h.n1, h.n2, h.n3⟩
theorem Row.far {cs : Array Value} {b g : Nat} (h : Row W b cs) (hn : b ≠ g) (o : Nat) (v : Value) : Row (W.setCell ⟨g, o, none⟩ v) b cs :=
  ⟨by simpa [World.setCell] using h.1, fun i => by rw [World.cell?_of_block (heap_setCell_other W _ _ v hn)]; exact h.2 i⟩
theorem WI.put (h : WI w n tb ub us nb nc sb sc ob oc W) (j : Nat) (v : Int) : WI w n tb ub (us.set j v) nb nc sb sc ob oc (W.setCell ⟨ub, j, none⟩ (I v)) := ⟨h.wf.put j v, h.nd.far h.n1 _ _, h.sh.far h.n2 _ _, h.op.far h.n3 _ _, h.n1, h.n2, h.n3⟩
end
set_option maxRecDepth 10000 in
set_option maxHeartbeats 2000000 in
theorem wellFormed_yes (A : Option Addr) (n c : Nat) (ns : List NdV) (w : World) (hA : RulesAt w w.heap.size A ns) (hl : ns.length = n) (h1 : 1 ≤ n) (h64 : n ≤ 64)
    (hok : ∀ i x, ns[i]? = some x → NodeOK i x.d.kind.toNat x.d) (ds : List Nd) (hds : ns.map (·.d) = ds) (hu : ∀ j, j + 1 < n → (usesTo ds n n)[j]? = some 1) :
    Calls Tryz.prog 93 #[.slice A n c] w (Gives (.bool true) w) := by
  have HA := Lib.hid hA
  have HL := Lib.hid hl
  have HOK := Lib.hid hok
  have HU := Lib.hid hu
  have HDS := Lib.hid hds
  have hmk := make_ints n (by omega)
  clear hA hl hok hu hds
  go_enter Tryz.func93, Tryz.ntmps93
  go_wp2_with fail
  refine (shapes_any _).mono ?_
  rintro e w1 ⟨rfl, hb1⟩
  have HB1 := Lib.hid hb1
  clear hb1
  go_wp2_with (refine wpList_var_row rfl rfl _ _ _ rfl rfl rfl rfl _ shC sh_info' rfl rfl rfl sh_one ?_)
  have HW0 := Lib.hid (WfS.start n HB1.out)
  have htb : w.heap.size ≤ w1.heap.size := HB1.out.size
  obtain ⟨tb, htb'⟩ : ∃ tb, w1.heap.size = tb := ⟨_, rfl⟩
  rw [htb'] at HW0 htb ⊢
  clear HB1 hmk
  go_loopw [26] (fun i wr => ∃ k : Nat, k ≤ n ∧ i = I k ∧ WfS w n tb (tb + 1) (usesTo ds n k) wr) (fun i _ => n - (intOf i).toNat)
  case atStart => exact ⟨0, Nat.zero_le _, rfl, by rw [← htb']; exact htb' ▸ HW0.out⟩
  case round =>
    obtain ⟨k, hk, rfl, hS⟩ := hrel
    have HS := Lib.hid hS
    obtain ⟨ub, hub⟩ : ∃ ub, tb + 1 = ub := ⟨_, rfl⟩
    rw [hub] at HS ⊢
    clear hS HW0 htb'
    by_cases hlt : k < n
    · have i0 : (0 : Int) ≤ (k : Int) := by omega
      have i1 : (k : Int) < (n : Int) := by omega
      obtain ⟨b, ⟨⟨kind, cal, l, r, nn, m, list, name⟩, A', c'⟩, rfl, hx, hm, ho⟩ := one_nd HA.out HL.out HS.out.lo hlt
      have hN := HOK.out k _ hx
      have hdk : ds[k]? = some ⟨kind, cal, l, r, nn, m, list, name⟩ := by rw [← HDS.out, List.getElem?_map, hx]; rfl
      obtain ⟨us, hus⟩ : ∃ us, usesTo ds n k = us := ⟨_, rfl⟩
      have hnx := usesTo_succ (n := n) hdk
      rw [hus] at hnx
      have HLE := Lib.hid (fun j => by have := usesTo_le ds n k j; rw [hus] at this; exact this)
      rw [hus] at HS
      obtain ⟨f0, f1, f2, f3, f4, f5, f6, f7⟩ := ho.cells
      simp only at hN f0 f1 f2 f3 f4 f5 f6 f7
      obtain ⟨kd, hkd⟩ : ∃ kd, kind.toNat = kd := ⟨_, rfl⟩
      rw [hkd] at hN
      have hkk : kind = (kd : Int) := hN.kind
      subst hkk
      have HNX := Lib.hid hnx
      have HIA : Hid (IntsAt w w.heap.size A' list) := Lib.hid (rule_ints HA.out hx)
      have HN := Lib.hid hN
      have hbl := ho.la
      have hk1 := hN.k1
      have hk2 := hN.k2
      have hl64 : ¬ (64 : Int) < (list.length : Int) := by have := hN.len; simp only at this; omega
      obtain ⟨t0, t1, t2, t3⟩ := shC_at kd (by omega)
      rw [← HS.out.tab.2] at t0 t1 t2 t3
      obtain ⟨hs1, hs2⟩ := HS.out.small
      have hne1 : ¬ b = wr.heap.size := by omega
      have hne2 : ¬ tb = wr.heap.size := by omega
      have hne3 : ¬ tb = wr.heap.size + 1 := by omega
      clear ho hx hm hdk hus hnx hN hkd
      have HW1 : Hid (WI w n tb ub us wr.heap.size #[I kd, I cal, I l, I r, I nn, I m, .slice A' list.length c', .string name] (wr.heap.size + 1) #[I (opn kd), .bool (calB kd), I (shLo kd), I (shHi kd)] (wr.heap.size + 2) #[I l, I r] (((wr.alloc (.cells #[I kd, I cal, I l, I r, I nn, I m, .slice A' list.length c', .string name] 85)).alloc (.cells #[I (opn kd), .bool (calB kd), I (shLo kd), I (shHi kd)] 163)).alloc (.cells #[I l, I r] 3))) := Lib.hid (by
        have b1 := below_var wr (.cells #[I kd, I cal, I l, I r, I nn, I m, .slice A' list.length c', .string name] 85)
        have r1 := Row.new wr #[I kd, I cal, I l, I r, I nn, I m, .slice A' list.length c', .string name] 85
        have b2 := below_var (wr.alloc (.cells #[I kd, I cal, I l, I r, I nn, I m, .slice A' list.length c', .string name] 85)) (.cells #[I (opn kd), .bool (calB kd), I (shLo kd), I (shHi kd)] 163)
        have r2 := Row.new (wr.alloc (.cells #[I kd, I cal, I l, I r, I nn, I m, .slice A' list.length c', .string name] 85)) #[I (opn kd), .bool (calB kd), I (shLo kd), I (shHi kd)] 163
        have b3 := below_var ((wr.alloc (.cells #[I kd, I cal, I l, I r, I nn, I m, .slice A' list.length c', .string name] 85)).alloc (.cells #[I (opn kd), .bool (calB kd), I (shLo kd), I (shHi kd)] 163)) (.cells #[I l, I r] 3)
        have r3 := Row.new ((wr.alloc (.cells #[I kd, I cal, I l, I r, I nn, I m, .slice A' list.length c', .string name] 85)).alloc (.cells #[I (opn kd), .bool (calB kd), I (shLo kd), I (shHi kd)] 163)) #[I l, I r] 3
        simp only [World.size_alloc] at r2 r3
        exact ⟨((HS.out.below b1).below b2).below b3, (r1.keep b2).keep b3, r2.keep b3, r3, by omega, by omega, by omega⟩)
      go_wp2_with (go_at_call 122; refine (ruWithin_yes _ _ _ _ (by omega) (by omega)).mono ?_; rintro e w9 ⟨rfl, rfl⟩)
      have HLO : Hid (∀ W', Below w.heap.size w W' → Calls Tryz.prog 124 #[.slice A' list.length c', .agg #[I (shLo kd), I (shHi kd)]] W' (Gives (.bool true) W')) := Lib.hid (fun W' hb => by
        rcases HN.out.list with ⟨e1, e2, e3⟩ | ⟨e1, e2⟩
        · have e4 : list.length = 0 := by have e5 : list = [] := e3; rw [e5]; rfl
          rw [e1, e2, e4]
          exact listOK_none A' c' W'
        · exact listOK_yes A' c' list.length _ _ list W' ((HIA.out.keep hb).more hb.size) e2 e1 rfl (by have := HN.out.len; simp only at this; omega))
      have HNU : Hid (∀ W', Calls Tryz.prog 125 #[.agg #[I kd, I cal, I l, I r, I nn, I m, .slice A' list.length c', .string name]] W' (Gives (.bool true) W')) := Lib.hid (fun W' => numbersOK_yes ⟨kd, cal, l, r, nn, m, list, name⟩ A' c' W' HN.out.nums)
      have hop0 : 0 ≤ opn kd := by rcases HN.out.opl with h | h <;> omega
      obtain ⟨WX, hWX⟩ : ∃ WX, ((wr.alloc (.cells #[I kd, I cal, I l, I r, I nn, I m, .slice A' list.length c', .string name] 85)).alloc (.cells #[I (opn kd), .bool (calB kd), I (shLo kd), I (shHi kd)] 163)).alloc (.cells #[I l, I r] 3) = WX := ⟨_, rfl⟩
      rw [hWX] at HW1 ⊢
      obtain ⟨nb, hnb⟩ : ∃ nb, wr.heap.size = nb := ⟨_, rfl⟩
      have hnbu : ub < nb := by omega
      rw [hnb] at HW1 ⊢
      have HWR := Lib.hid hnb
      clear f0 f1 f2 f3 f4 f5 f6 f7 t0 t1 t2 t3 hne1 hne2 hne3 hs1 hs2 hbl hWX HS hub hnb hl64
      go_loopw [51] (fun i wr' => ∃ q : Nat, q ≤ 2 ∧ i = I q ∧ WI w n tb ub (usAt ⟨kd, cal, l, r, nn, m, list, name⟩ us q) nb #[I kd, I cal, I l, I r, I nn, I m, .slice A' list.length c', .string name] (nb + 1) #[I (opn kd), .bool (calB kd), I (shLo kd), I (shHi kd)] (nb + 2) #[I l, I r] wr') (fun i _ => 2 - (intOf i).toNat)
      case atStart => exact ⟨0, by omega, rfl, HW1.out⟩
      case round =>
        obtain ⟨q, hq, rfl, hI⟩ := hrel
        have HWI := Lib.hid hI
        clear hI HW1
        have hq3 : q = 0 ∨ q = 1 ∨ q = 2 := by omega
        clear hq
        rcases hq3 with rfl | rfl | rfl
        · have o1 : wr.cell? ⟨nb + 2, 0, none⟩ = some (I l) := HWI.out.op.2 0
          have s1 : wr.cell? ⟨nb + 1, 0, none⟩ = some (I (opn kd)) := HWI.out.sh.2 0
          have n1 : wr.cell? ⟨nb, 0, none⟩ = some (I kd) := HWI.out.nd.2 0
          have HWI : Hid (WI w n tb ub us nb #[I kd, I cal, I l, I r, I nn, I m, .slice A' list.length c', .string name] (nb + 1) #[I (opn kd), .bool (calB kd), I (shLo kd), I (shHi kd)] (nb + 2) #[I l, I r] wr) := HWI
          rcases HN.out.opl with ⟨ho0, ho1, ho2⟩ | ⟨ho0, ho1⟩
          · simp only at ho1 ho2
            obtain ⟨on, hon⟩ := natOf ho1
            have u1 := HWI.out.wf.cell on (by omega)
            have uf := HWI.out.wf.froz on
            obtain ⟨u, hu⟩ : ∃ u, us[on]?.getD 0 = u := ⟨_, rfl⟩
            have hub2 : 0 ≤ u ∧ u ≤ 200 := by have := HLE.out on; rw [← hu]; omega
            have u1' : wr.cell? ⟨ub, on, none⟩ = some (I u) := by rw [← hu]; exact u1
            have hwu : IntKind.i64.wrap (u + 1) = u + 1 := by rw [IntKind.wrap_i64]; omega
            have hwk : IntKind.i64.wrap ((k : Int) - 1) = (k : Int) - 1 := by rw [IntKind.wrap_i64]; omega
            have i2 : (0 : Int) ≤ (on : Int) := by omega
            have i3 : (on : Int) < (n : Int) := by omega
            have HW2 := Lib.hid (HWI.out.put on (u + 1))
            have HU2 : Hid (us.set on (u + 1) = use0 ⟨kd, cal, l, r, nn, m, list, name⟩ us) := Lib.hid (by
              have e : use0 ⟨kd, cal, l, r, nn, m, list, name⟩ us = bump us on := by
                show (if 0 < opn ((kd : Int).toNat) then bump us l.toNat else us) = _
                rw [if_pos (by simpa using ho0), hon]; simp
              rw [e]; unfold bump; rw [hu])
            rw [hon] at o1 ho1 ho2
            clear hu u1 hon
            go_wp2_with (go_at_call 122; refine (ruWithin_yes _ _ _ _ (by omega) (by first | omega | (rw [IntKind.wrap_i64]; omega))).mono ?_; rintro e w9 ⟨rfl, rfl⟩)
            go_roundw
            case rel => exact ⟨1, by omega, by go_num, by have := HW2.out; rw [HU2.out] at this; exact this⟩
            case measure => simp [intOf]
          · simp only at ho1
            have HU2 : Hid (us = use0 ⟨kd, cal, l, r, nn, m, list, name⟩ us) := Lib.hid (by
              show _ = (if 0 < opn ((kd : Int).toNat) then bump us l.toNat else us)
              rw [if_neg (by simp; omega)])
            rcases ho1 with ho1 | ho1
            · rw [ho1] at o1
              rw [ho0] at s1
              go_wp2_with fail
              go_roundw
              case rel => exact ⟨1, by omega, by go_num, by have := HWI.out; rw [HU2.out] at this; exact this⟩
              case measure => simp [intOf]
            · by_cases hl0 : l = 0
              · rw [hl0] at o1
                rw [ho0] at s1
                go_wp2_with fail
                go_roundw
                case rel => exact ⟨1, by omega, by go_num, by have := HWI.out; rw [HU2.out] at this; exact this⟩
                case measure => simp [intOf]
              · have hl1 : (l != 0) = true := by simp [hl0]
                rw [ho0] at s1
                rw [ho1] at n1
                go_wp2_with fail
                go_roundw
                case rel => exact ⟨1, by omega, by go_num, by have := HWI.out; rw [HU2.out] at this; exact this⟩
                case measure => simp [intOf]
        · have o1 : wr.cell? ⟨nb + 2, 1, none⟩ = some (I r) := HWI.out.op.2 1
          have s1 : wr.cell? ⟨nb + 1, 0, none⟩ = some (I (opn kd)) := HWI.out.sh.2 0
          have n1 : wr.cell? ⟨nb, 0, none⟩ = some (I kd) := HWI.out.nd.2 0
          have HWI : Hid (WI w n tb ub (use0 ⟨kd, cal, l, r, nn, m, list, name⟩ us) nb #[I kd, I cal, I l, I r, I nn, I m, .slice A' list.length c', .string name] (nb + 1) #[I (opn kd), .bool (calB kd), I (shLo kd), I (shHi kd)] (nb + 2) #[I l, I r] wr) := HWI
          rcases HN.out.opr with ⟨ho0, ho1, ho2⟩ | ⟨ho0, ho1⟩
          · simp only at ho1 ho2
            obtain ⟨on, hon⟩ := natOf ho1
            have u1 := HWI.out.wf.cell on (by omega)
            have uf := HWI.out.wf.froz on
            obtain ⟨u, hu⟩ : ∃ u, (use0 ⟨kd, cal, l, r, nn, m, list, name⟩ us)[on]?.getD 0 = u := ⟨_, rfl⟩
            have hub2 : 0 ≤ u ∧ u ≤ 200 := by have := use0_le ⟨kd, cal, l, r, nn, m, list, name⟩ HLE.out on; rw [← hu]; omega
            have u1' : wr.cell? ⟨ub, on, none⟩ = some (I u) := by rw [← hu]; exact u1
            have hwu : IntKind.i64.wrap (u + 1) = u + 1 := by rw [IntKind.wrap_i64]; omega
            have hwk : IntKind.i64.wrap ((k : Int) - 1) = (k : Int) - 1 := by rw [IntKind.wrap_i64]; omega
            have i2 : (0 : Int) ≤ (on : Int) := by omega
            have i3 : (on : Int) < (n : Int) := by omega
            have HW2 := Lib.hid (HWI.out.put on (u + 1))
            have HU2 : Hid ((use0 ⟨kd, cal, l, r, nn, m, list, name⟩ us).set on (u + 1) = use1 ⟨kd, cal, l, r, nn, m, list, name⟩ (use0 ⟨kd, cal, l, r, nn, m, list, name⟩ us)) := Lib.hid (by
              have e : use1 ⟨kd, cal, l, r, nn, m, list, name⟩ (use0 ⟨kd, cal, l, r, nn, m, list, name⟩ us) = bump (use0 ⟨kd, cal, l, r, nn, m, list, name⟩ us) on := by
                show (if 1 < opn ((kd : Int).toNat) then bump (use0 ⟨kd, cal, l, r, nn, m, list, name⟩ us) r.toNat else (use0 ⟨kd, cal, l, r, nn, m, list, name⟩ us)) = _
                rw [if_pos (by simpa using ho0), hon]; simp
              rw [e]; unfold bump; rw [hu])
            rw [hon] at o1 ho1 ho2
            clear hu u1 hon
            go_wp2_with (go_at_call 122; refine (ruWithin_yes _ _ _ _ (by omega) (by first | omega | (rw [IntKind.wrap_i64]; omega))).mono ?_; rintro e w9 ⟨rfl, rfl⟩)
            go_roundw
            case rel => exact ⟨2, by omega, by go_num, by have := HW2.out; rw [HU2.out] at this; exact this⟩
            case measure => simp [intOf]
          · simp only at ho1
            have HU2 : Hid ((use0 ⟨kd, cal, l, r, nn, m, list, name⟩ us) = use1 ⟨kd, cal, l, r, nn, m, list, name⟩ (use0 ⟨kd, cal, l, r, nn, m, list, name⟩ us)) := Lib.hid (by
              show _ = (if 1 < opn ((kd : Int).toNat) then bump (use0 ⟨kd, cal, l, r, nn, m, list, name⟩ us) r.toNat else (use0 ⟨kd, cal, l, r, nn, m, list, name⟩ us))
              rw [if_neg (by simp; omega)])
            rw [ho1] at o1
            have ho3 : ¬ (1 : Int) < opn kd := by omega
            go_wp2_with fail
            go_roundw
            case rel => exact ⟨2, by omega, by go_num, by have := HWI.out; rw [HU2.out] at this; exact this⟩
            case measure => simp [intOf]
        · have HWI : Hid (WI w n tb ub (use1 ⟨kd, cal, l, r, nn, m, list, name⟩ (use0 ⟨kd, cal, l, r, nn, m, list, name⟩ us)) nb #[I kd, I cal, I l, I r, I nn, I m, .slice A' list.length c', .string name] (nb + 1) #[I (opn kd), .bool (calB kd), I (shLo kd), I (shHi kd)] (nb + 2) #[I l, I r] wr) := HWI
          rw [← HNX.out] at HWI
          have g0 : wr.cell? ⟨nb, 0, none⟩ = some (I kd) := HWI.out.nd.2 0
          have g1 : wr.cell? ⟨nb, 1, none⟩ = some (I cal) := HWI.out.nd.2 1
          have g6 : wr.cell? ⟨nb, 6, none⟩ = some (.slice A' list.length c') := HWI.out.nd.2 6
          have g7 : wr.cell? ⟨nb, 7, none⟩ = some (.string name) := HWI.out.nd.2 7
          have s1 : wr.cell? ⟨nb + 1, 1, none⟩ = some (.bool (calB kd)) := HWI.out.sh.2 1
          have s2 : wr.cell? ⟨nb + 1, 2, none⟩ = some (I (shLo kd)) := HWI.out.sh.2 2
          have s3 : wr.cell? ⟨nb + 1, 3, none⟩ = some (I (shHi kd)) := HWI.out.sh.2 3
          have HQ : Hid (∀ n', WI w n tb ub (usesTo ds n (k + 1)) nb #[I kd, I cal, I l, I r, I nn, I m, .slice A' list.length c', .string name] (nb + 1) #[I (opn kd), .bool (calB kd), I (shLo kd), I (shHi kd)] (nb + 2) #[I l, I r] (wr.drewN n')) := Lib.hid (fun n' => HWI.out.below (below_drewN' _ _))
          rcases HN.out.name with ⟨hk18, jj, hj, hnm⟩ | ⟨hk18, hnm⟩
          · simp only at hnm
            have hcb : calB kd = false := by rw [hk18]; rfl
            have hc0 : cal = 0 := by
              rcases HN.out.cal with ⟨h, _⟩ | ⟨_, h⟩
              · rw [hcb] at h; cases h
              · exact h
            rw [hcb] at s1
            rw [hc0] at g1
            have HNM := Lib.hid (fun W' => (nameOK_made jj hj W').mono fun e w' h => (show Gives (.bool true) W' e w' from h))
            rw [← hnm] at HNM
            have g0' : wr.cell? ⟨nb, 0, none⟩ = some (I 18) := by rw [g0, hk18]; rfl
            clear hnm hj g0 hk18 hcb hc0
            go_wp2_with fail
            go_quiet (fail)
            go_wp2_with fail
            refine (HNM.out _).mono ?_
            rintro e w4 ⟨rfl, hb4⟩
            have H4 := Lib.hid ((HQ.out _).below hb4)
            have g6' : w4.cell? ⟨nb, 6, none⟩ = some (.slice A' list.length c') := H4.out.nd.2 6
            have s2' : w4.cell? ⟨nb + 1, 2, none⟩ = some (I (shLo kd)) := H4.out.sh.2 2
            have s3' : w4.cell? ⟨nb + 1, 3, none⟩ = some (I (shHi kd)) := H4.out.sh.2 3
            clear hb4
            go_wp2_with fail
            refine (HLO.out _ H4.out.wf.lo).mono ?_
            rintro e w5 ⟨rfl, hb5⟩
            have H5 := Lib.hid (H4.out.below hb5)
            have p0 : w5.cell? ⟨nb, 0, none⟩ = some (I kd) := H5.out.nd.2 0
            have p1 : w5.cell? ⟨nb, 1, none⟩ = some (I cal) := H5.out.nd.2 1
            have p2 : w5.cell? ⟨nb, 2, none⟩ = some (I l) := H5.out.nd.2 2
            have p3 : w5.cell? ⟨nb, 3, none⟩ = some (I r) := H5.out.nd.2 3
            have p4 : w5.cell? ⟨nb, 4, none⟩ = some (I nn) := H5.out.nd.2 4
            have p5 : w5.cell? ⟨nb, 5, none⟩ = some (I m) := H5.out.nd.2 5
            have p6 : w5.cell? ⟨nb, 6, none⟩ = some (.slice A' list.length c') := H5.out.nd.2 6
            have p7 : w5.cell? ⟨nb, 7, none⟩ = some (.string name) := H5.out.nd.2 7
            clear hb5
            go_wp2_with fail
            refine (HNU.out _).mono ?_
            rintro e w6 ⟨rfl, hb6⟩
            have H6 := Lib.hid (H5.out.below hb6)
            clear hb6
            go_wp2_with fail
            go_roundw
            case rel => exact ⟨k + 1, by omega, by go_num, H6.out.wf⟩
            case measure => simp [intOf]; omega
          · simp only at hnm
            have hk18' : ¬ (kd : Int) = 18 := by omega
            rw [hnm] at g7
            clear hnm hk18
            rcases HN.out.cal with ⟨hcb, hc1, hc2⟩ | ⟨hcb, hc0⟩
            · simp only at hc1 hc2
              rw [hcb] at s1
              clear hcb
              go_wp2_with fail
              go_quiet (fail)
              go_wp2_with (go_at_call 122; refine (ruWithin_yes _ _ _ _ (by omega) (by omega)).mono ?_; rintro e w9 ⟨rfl, rfl⟩)
              refine (HLO.out _ (HQ.out _).wf.lo).mono ?_
              rintro e w5 ⟨rfl, hb5⟩
              have H5 := Lib.hid ((HQ.out _).below hb5)
              have p0 : w5.cell? ⟨nb, 0, none⟩ = some (I kd) := H5.out.nd.2 0
              have p1 : w5.cell? ⟨nb, 1, none⟩ = some (I cal) := H5.out.nd.2 1
              have p2 : w5.cell? ⟨nb, 2, none⟩ = some (I l) := H5.out.nd.2 2
              have p3 : w5.cell? ⟨nb, 3, none⟩ = some (I r) := H5.out.nd.2 3
              have p4 : w5.cell? ⟨nb, 4, none⟩ = some (I nn) := H5.out.nd.2 4
              have p5 : w5.cell? ⟨nb, 5, none⟩ = some (I m) := H5.out.nd.2 5
              have p6 : w5.cell? ⟨nb, 6, none⟩ = some (.slice A' list.length c') := H5.out.nd.2 6
              have p7 : w5.cell? ⟨nb, 7, none⟩ = some (.string name) := H5.out.nd.2 7
              clear hb5
              go_wp2_with fail
              refine (HNU.out _).mono ?_
              rintro e w6 ⟨rfl, hb6⟩
              have H6 := Lib.hid (H5.out.below hb6)
              clear hb6
              go_wp2_with fail
              go_roundw
              case rel => exact ⟨k + 1, by omega, by go_num, H6.out.wf⟩
              case measure => simp [intOf]; omega
            · simp only at hc0
              rw [hcb] at s1
              rw [hc0] at g1
              clear hcb hc0
              go_wp2_with fail
              go_quiet (fail)
              go_wp2_with fail
              refine (HLO.out _ (HQ.out _).wf.lo).mono ?_
              rintro e w5 ⟨rfl, hb5⟩
              have H5 := Lib.hid ((HQ.out _).below hb5)
              have p0 : w5.cell? ⟨nb, 0, none⟩ = some (I kd) := H5.out.nd.2 0
              have p1 : w5.cell? ⟨nb, 1, none⟩ = some (I cal) := H5.out.nd.2 1
              have p2 : w5.cell? ⟨nb, 2, none⟩ = some (I l) := H5.out.nd.2 2
              have p3 : w5.cell? ⟨nb, 3, none⟩ = some (I r) := H5.out.nd.2 3
              have p4 : w5.cell? ⟨nb, 4, none⟩ = some (I nn) := H5.out.nd.2 4
              have p5 : w5.cell? ⟨nb, 5, none⟩ = some (I m) := H5.out.nd.2 5
              have p6 : w5.cell? ⟨nb, 6, none⟩ = some (.slice A' list.length c') := H5.out.nd.2 6
              have p7 : w5.cell? ⟨nb, 7, none⟩ = some (.string name) := H5.out.nd.2 7
              clear hb5
              go_wp2_with fail
              refine (HNU.out _).mono ?_
              rintro e w6 ⟨rfl, hb6⟩
              have H6 := Lib.hid (H5.out.below hb6)
              clear hb6
              go_wp2_with fail
              go_roundw
              case rel => exact ⟨k + 1, by omega, by go_num, H6.out.wf⟩
              case measure => simp [intOf]; omega
    · have hkn : k = n := by omega
      subst hkn
      have hwn : IntKind.i64.wrap ((k : Int) - 1) = ((k - 1 : Nat) : Int) := by rw [IntKind.wrap_i64]; omega
      have i2 : (0 : Int) ≤ ((k - 1 : Nat) : Int) := by omega
      have i3 : ((k - 1 : Nat) : Int) ≤ (k : Int) := by omega
      have HON : Hid (Ones wr (some ⟨ub, 0, none⟩) (k - 1)) := Lib.hid (.inr ⟨ub, rfl, fun j hj => by
        rw [HS.out.cell j (by omega), HU.out j (by omega)]; rfl⟩)
      go_wp2_with fail
      refine (hasOnes _ (k - 1) _ _ HON.out (by omega)).mono ?_
      rintro e w5 ⟨rfl, rfl⟩
      go_wp2_with fail
      go_ret
      exact ⟨rfl, HS.out.lo⟩
end Go.Proofs.YtenbgpcdoljkgaaGreatDoor

/- number.Gcd, number.Lcm, civil.period, civil.Valid (where a calendar is valid). -/
namespace Go.Proofs.YtenbgpcdoljkgaaGreatDoor
open Go Go.RowKit

set_option maxRecDepth 10000 in
theorem magnitude_nat (a : Nat) (ha : a ≤ 1000000) (w : World) : Calls Tryz.prog 143 #[I a] w fun e w' => e = .returned (.int .u64 a) ∧ w' = w := by
  have h0 : ¬ (a : Int) < 0 := by omega
  have hw : IntKind.u64.wrap (a : Int) = a := by rw [IntKind.wrap_u64]; omega
  go_enter Tryz.func143, Tryz.ntmps143
  go_wp2
  go_ret
  exact ⟨rfl, rfl⟩
def natOfU : Value → Nat
  | .int _ n => n.toNat
  | _ => 0
set_option maxRecDepth 10000 in
set_option maxHeartbeats 2000000 in
theorem gcd_nat (a b : Nat) (ha : a ≤ 1000000) (hb : b ≤ 1000000) (w : World) : Calls Tryz.prog 140 #[I a, I b] w fun e w' => e = .returned (I (Nat.gcd a b)) ∧ Below w.heap.size w w' := by
  go_enter Tryz.func140, Tryz.ntmps140
  go_wp2_with fail
  refine (magnitude_nat a ha _).mono ?_
  rintro e w1 ⟨rfl, rfl⟩
  go_wp2_with fail
  refine (magnitude_nat b hb _).mono ?_
  rintro e w2 ⟨rfl, rfl⟩
  go_wp2_with fail
  go_loopw [5, 6] (fun u v wr => ∃ x y : Nat, u = .int .u64 x ∧ v = .int .u64 y ∧ x ≤ 1000000 ∧ y ≤ 1000000 ∧ Nat.gcd x y = Nat.gcd a b ∧ Below w2.heap.size w2 wr) (fun _ v _ => natOfU v)
  case atStart => exact ⟨a, b, rfl, rfl, ha, hb, rfl, Below.refl _ _⟩
  case round =>
    obtain ⟨x, y, rfl, rfl, hx, hy, hg, hbe⟩ := hrel
    have HG := Lib.hid hg
    have HBE := Lib.hid hbe
    clear hg hbe
    by_cases hy0 : y = 0
    · subst hy0
      have hq : ¬ (9223372036854775807 : Int) < (x : Int) := by omega
      have hw : IntKind.i64.wrap (x : Int) = x := by rw [IntKind.wrap_i64]; omega
      go_wp2_with fail
      go_ret
      refine ⟨?_, HBE.out⟩
      have := HG.out
      rw [Nat.gcd_zero_right] at this
      rw [this]; rfl
    · have hy1 : ¬ (y : Int) = 0 := by omega
      have hy2 : ((y : Int) != 0) = true := by simp [hy0]
      have hlt : x % y < y := Nat.mod_lt _ (by omega)
      obtain ⟨z, hz⟩ : ∃ z, x % y = z := ⟨_, rfl⟩
      have hm : (x : Int) % (y : Int) = (z : Int) := by omega
      have hm2 : Int.tmod (x : Int) (y : Int) = (z : Int) := by rw [Int.tmod_eq_emod_of_nonneg (by omega)]; exact hm
      rw [hz] at hlt
      have HZ := Lib.hid hz
      have hw : IntKind.u64.wrap (z : Int) = (z : Int) := by rw [IntKind.wrap_u64]; omega
      clear hz
      go_wp2_with fail
      go_quiet (fail)
      go_wp2_with fail
      go_roundw
      case rel => exact ⟨y, z, rfl, by first | rfl | go_num, hy, by omega, by rw [← HG.out, Nat.gcd_comm x y, Nat.gcd_rec y x, Nat.gcd_comm, HZ.out], below_trans HBE.out (below_drewN' _ _)⟩
      case measure => simp [natOfU]; omega
set_option maxRecDepth 10000 in
set_option maxHeartbeats 2000000 in
theorem lcm_nat (a b : Nat) (ha : 1 ≤ a) (ha2 : a ≤ 400) (hb : 1 ≤ b) (hb2 : b ≤ 400) (w : World) : Calls Tryz.prog 137 #[I a, I b] w fun e w' => e = .returned (.tuple #[I (Nat.lcm a b), I 0]) ∧ Below w.heap.size w w' := by
  have HG := Lib.hid (gcd_nat a b (by omega) (by omega) w)
  have h1 : ¬ (a : Int) < 1 := by omega
  have h2 : ¬ (b : Int) < 1 := by omega
  have hgp : 0 < Nat.gcd a b := Nat.gcd_pos_of_pos_left _ ha
  have hl : a / Nat.gcd a b * b = Nat.lcm a b := by
    have e := Nat.lcm_eq_mul_div a b
    rw [e, Nat.div_mul_right_comm (Nat.gcd_dvd_left a b)]
  obtain ⟨g, hg⟩ : ∃ g, Nat.gcd a b = g := ⟨_, rfl⟩
  rw [hg] at HG hgp hl
  obtain ⟨r, hr⟩ : ∃ r, a / g = r := ⟨_, rfl⟩
  have hr4 : r ≤ 400 := by rw [← hr]; exact Nat.le_trans (Nat.div_le_self _ _) ha2
  have hq : Int.tdiv (a : Int) (g : Int) = (r : Int) := by rw [← hr]; rfl
  have hq' : (a : Int) / (g : Int) = (r : Int) := by rw [← hr]; rfl
  obtain ⟨t, ht⟩ : ∃ t, 1099511627776 / b = t := ⟨_, rfl⟩
  have ht4 : 400 ≤ t := by rw [← ht, Nat.le_div_iff_mul_le (by omega)]; omega
  have hq2 : Int.tdiv 1099511627776 (b : Int) = (t : Int) := by rw [← ht]; rfl
  have hq2' : (1099511627776 : Int) / (b : Int) = (t : Int) := by rw [← ht]; rfl
  have hbig : ¬ (t : Int) < (r : Int) := by omega
  have hwr : IntKind.i64.wrap (r : Int) = r := by rw [IntKind.wrap_i64]; omega
  have ht5 : t ≤ 1099511627776 := by rw [← ht]; exact Nat.div_le_self _ _
  have hwt : IntKind.i64.wrap (t : Int) = t := by rw [IntKind.wrap_i64]; omega
  rw [hr] at hl
  have hp : (r : Int) * (b : Int) = ((Nat.lcm a b : Nat) : Int) := by rw [← hl]; exact (Int.natCast_mul r b).symm
  have hlb : Nat.lcm a b ≤ 160000 := by rw [← hl]; exact Nat.mul_le_mul hr4 hb2
  obtain ⟨m, hm⟩ : ∃ m, Nat.lcm a b = m := ⟨_, rfl⟩
  rw [hm] at hp hlb ⊢
  have hwm : IntKind.i64.wrap (m : Int) = m := by rw [IntKind.wrap_i64]; omega
  have hg0 : ¬ (g : Int) = 0 := by omega
  have hb0 : ¬ (b : Int) = 0 := by omega
  clear hr ht hl hm hg
  go_enter Tryz.func137, Tryz.ntmps137
  go_wp2_with fail
  refine HG.out.mono ?_
  rintro e w1 ⟨rfl, hb1⟩
  have HB1 := Lib.hid hb1
  clear hb1
  go_wp2_with fail
  go_ret2
  exact ⟨rfl, HB1.out⟩
structure Lr where
  every : Int
  rest : Int
  yes : Bool
def Lr.cells (r : Lr) : List Value := [I r.every, I r.rest, .bool r.yes]
def LrsAt (w : World) (B : Nat) (A : Option Addr) (rs : List Lr) : Prop :=
  rs.length = 0 ∨ ∃ b, A = some ⟨b, 0, none⟩ ∧ b < B ∧ ∀ k x, rs[k]? = some x → w.rangeAt b (k * 3) x.cells
theorem LrsAt.keep {w w' : World} {B : Nat} {A : Option Addr} {rs : List Lr} (h : LrsAt w B A rs) (hb : Below B w w') : LrsAt w' B A rs := by
  rcases h with h | ⟨b, h1, h2, h3⟩
  · exact .inl h
  · exact .inr ⟨b, h1, h2, fun k x hx => rangeAt_keep (h3 k x hx) hb h2⟩
theorem LrsAt.more {w : World} {B B' : Nat} {A : Option Addr} {rs : List Lr} (h : LrsAt w B A rs) (hB : B ≤ B') : LrsAt w B' A rs := by
  rcases h with h | ⟨b, h1, h2, h3⟩
  · exact .inl h
  · exact .inr ⟨b, h1, by omega, h3⟩
def PerOK : Nat → List Lr → Prop
  | _, [] => True
  | y, r :: rs => ∃ e : Nat, r.every = e ∧ 1 ≤ e ∧ e ≤ 400 ∧ 0 ≤ r.rest ∧ r.rest < e ∧ 1 ≤ Nat.lcm y e ∧ Nat.lcm y e ≤ 400 ∧ PerOK (Nat.lcm y e) rs
set_option maxRecDepth 10000 in
set_option maxHeartbeats 2000000 in
theorem period_yes (A : Option Addr) (n c : Nat) (rs : List Lr) (w : World) (hA : LrsAt w w.heap.size A rs) (hl : rs.length = n) (hn : n ≤ 1000) (hp : PerOK 1 rs) :
    Calls Tryz.prog 128 #[.slice A n c] w fun e w' => (∃ y, e = .returned (.tuple #[I y, .bool true])) ∧ Below w.heap.size w w' := by
  have HA := Lib.hid hA
  have HL := Lib.hid hl
  have HP := Lib.hid hp
  clear hA hl hp
  go_enter Tryz.func128, Tryz.ntmps128
  go_wp2_with fail
  go_loopw [4, 11] (fun u i wr => ∃ k y : Nat, k ≤ n ∧ i = I k ∧ u = I y ∧ 1 ≤ y ∧ y ≤ 400 ∧ PerOK y (rs.drop k) ∧ Below w.heap.size w wr) (fun _ i _ => n - (intOf i).toNat)
  case atStart => exact ⟨0, 1, Nat.zero_le _, rfl, rfl, by omega, by omega, by simpa using HP.out, Below.refl _ _⟩
  case round =>
    obtain ⟨k, y, hk, rfl, rfl, hy1, hy2, hper, hbe⟩ := hrel
    have HBE := Lib.hid hbe
    by_cases hlt : k < n
    · have i0 : (0 : Int) ≤ (k : Int) := by omega
      have i1 : (k : Int) < (n : Int) := by omega
      have hkl : k < rs.length := by rw [HL.out]; exact hlt
      rw [List.drop_eq_getElem_cons hkl] at hper
      obtain ⟨e, he, h1, h2, h3, h4, h5, h6, h7⟩ := hper
      have hx : rs[k]? = some rs[k] := List.getElem?_eq_getElem hkl
      rcases (HA.out.keep hbe) with h | ⟨b, rfl, hb, hc⟩
      · omega
      have hr := hc k _ hx
      have hbl : b < wr.heap.size := Nat.lt_of_lt_of_le hb hbe.size
      generalize rs[k] = rk at he h3 h4 hr
      obtain ⟨ev, re, ye⟩ := rk
      simp only at he h3 h4
      subst he
      have f0 : wr.cell? ⟨b, k * 3, none⟩ = some (I e) := hr 0 _ rfl
      have f1 : wr.cell? ⟨b, k * 3 + 1, none⟩ = some (I re) := hr 1 _ rfl
      have f2 : wr.cell? ⟨b, k * 3 + 2, none⟩ = some (.bool ye) := hr 2 _ rfl
      have hne : ¬ b = wr.heap.size := by omega
      have q1 : ¬ (e : Int) < 1 := by omega
      have q2 : ¬ (400 : Int) < (e : Int) := by omega
      have q3 : ¬ re < 0 := by omega
      have q4 : ¬ (e : Int) ≤ re := by omega
      have H7 := Lib.hid h7
      have HB2 := Lib.hid (below_var wr (.cells #[I e, I re, .bool ye] 155))
      clear hr hc hx hbe h7
      go_wp2_with fail
      refine (lcm_nat y e hy1 hy2 h1 h2 _).mono ?_
      rintro x w5 ⟨rfl, hb5⟩
      have HB5 := Lib.hid (below_trans HB2.out hb5)
      obtain ⟨m, hm⟩ : ∃ m, Nat.lcm y e = m := ⟨_, rfl⟩
      rw [hm] at h5 h6 H7 ⊢
      have q5 : ¬ (400 : Int) < (m : Int) := by omega
      clear hb5 hm
      go_wp2_with fail
      go_roundw
      case rel => exact ⟨k + 1, m, by omega, by go_num, rfl, h5, h6, H7.out, below_trans HBE.out HB5.out⟩
      case measure => simp [intOf]; omega
    · clear hper hbe
      go_wp2_with fail
      go_ret2
      exact ⟨⟨_, rfl⟩, HBE.out⟩
end Go.Proofs.YtenbgpcdoljkgaaGreatDoor

/- civil.Valid (where a calendar is valid). -/
namespace Go.Proofs.YtenbgpcdoljkgaaGreatDoor
open Go Go.RowKit

structure Cal where
  epoch : Int
  months : List Int
  leap : Int
  rules : List Lr
structure CalOK (c : Cal) : Prop where
  ep : 0 ≤ c.epoch ∧ c.epoch ≤ 1048576
  mo : 1 ≤ c.months.length ∧ c.months.length ≤ 16
  le : 0 ≤ c.leap ∧ c.leap < c.months.length
  ru : c.rules.length ≤ 16
  all : ∀ m ∈ c.months, 1 ≤ m ∧ m ≤ 40
  per : PerOK 1 c.rules
def calCells (c : Cal) (A : Option Addr) (ca : Nat) (B : Option Addr) (cb : Nat) : Array Value := #[I c.epoch, .slice A c.months.length ca, I c.leap, .slice B c.rules.length cb]
attribute [local go_sem] calCells
set_option maxRecDepth 10000 in
set_option maxHeartbeats 2000000 in
theorem civilValid_yes (c : Cal) (A : Option Addr) (ca : Nat) (B : Option Addr) (cb : Nat) (w : World) (hA : IntsAt w w.heap.size A c.months) (hB : LrsAt w w.heap.size B c.rules) (h : CalOK c) :
    Calls Tryz.prog 94 #[.agg (calCells c A ca B cb)] w (Gives (.bool true) w) := by
  have HB0 := Lib.hid (below_var w (.cells (calCells c A ca B cb) 106))
  have HRW := Lib.hid (Row.new w (calCells c A ca B cb) 106)
  obtain ⟨ep, mo, le, ru⟩ := c
  have HPER := Lib.hid (fun w' hb => period_yes B ru.length cb ru w' ((hB.keep hb).more hb.size) rfl (by have := h.ru; simp only at this; omega) h.per)
  obtain ⟨⟨e1, e2⟩, ⟨m1, m2⟩, ⟨l1, l2⟩, r1, hall, hper⟩ := h
  simp only at e1 e2 m1 m2 l1 l2 r1 hall hA
  obtain ⟨b, off, rfl, hb, hc⟩ : ∃ b off, A = some ⟨b, off, none⟩ ∧ b < w.heap.size ∧ ∀ j, j < mo.length → w.cell? ⟨b, off + j, none⟩ = some (I (mo[j]?.getD 0)) := by
    rcases hA with h | h
    · omega
    · exact h
  have HC := Lib.hid hc
  have HALL := Lib.hid (fun k (hk : k < mo.length) => hall _ (List.getElem_mem hk))
  have q1 : ¬ ep < 0 := by omega
  have q2 : ¬ (1048576 : Int) < ep := by omega
  obtain ⟨n, hn⟩ : ∃ n, mo.length = n := ⟨_, rfl⟩
  obtain ⟨nr, hnr⟩ : ∃ nr, ru.length = nr := ⟨_, rfl⟩
  have q3 : ¬ (n : Int) < 1 := by omega
  have q4 : ¬ (16 : Int) < (n : Int) := by omega
  have q5 : ¬ le < -1 := by omega
  have q6 : ¬ (n : Int) ≤ le := by omega
  have q7 : ¬ (16 : Int) < (nr : Int) := by omega
  have q8 : (le == -1) = false := by simp; omega
  have hne : ¬ b = w.heap.size := by omega
  have HN := Lib.hid hn
  have e0 : (calCells ⟨ep, mo, le, ru⟩ (some ⟨b, off, none⟩) ca B cb) = #[I ep, .slice (some ⟨b, off, none⟩) n ca, I le, .slice B nr cb] := by rw [← hn, ← hnr]; rfl
  rw [e0] at HB0 HRW ⊢
  rw [hnr] at HPER
  clear hc hall hper hB hA e0 hn hnr
  go_enter Tryz.func94, Tryz.ntmps94
  go_wp2_with fail
  go_loopw [52] (fun i wr => ∃ k : Nat, k ≤ n ∧ i = I k ∧ wr = w.alloc (.cells #[I ep, .slice (some ⟨b, off, none⟩) n ca, I le, .slice B nr cb] 106)) (fun i _ => n - (intOf i).toNat)
  case atStart => exact ⟨0, Nat.zero_le _, rfl, rfl⟩
  case round =>
    obtain ⟨k, hk, rfl, rfl⟩ := hrel
    by_cases hlt : k < n
    · have i0 : (0 : Int) ≤ (k : Int) := by omega
      have i1 : (k : Int) < (n : Int) := by omega
      have hkm : k < mo.length := by rw [HN.out]; exact hlt
      have c1 := HC.out k hkm
      have hz := HALL.out k hkm
      rw [List.getElem?_eq_getElem hkm] at c1
      generalize mo[k] = z at c1 hz
      have c2 : w.cell? ⟨b, off + k, none⟩ = some (I z) := c1
      have q9 : ¬ z < 1 := by omega
      have q10 : ¬ (40 : Int) < z := by omega
      clear c1 hz
      go_wp2_with fail
      go_roundw
      case rel => exact ⟨k + 1, by omega, by go_num, by first | trivial | rfl⟩
      case measure => simp [intOf]; omega
    · go_wp2_with fail
      refine (HPER.out _ HB0.out).mono ?_
      rintro x w5 ⟨⟨y, rfl⟩, hb5⟩
      have HB5 := Lib.hid (below_trans HB0.out hb5)
      clear hb5
      go_wp2_with fail
      go_ret
      exact ⟨rfl, HB5.out⟩
end Go.Proofs.YtenbgpcdoljkgaaGreatDoor

/- civil.Known for the three known calendars. -/
namespace Go.Proofs.YtenbgpcdoljkgaaGreatDoor
open Go Go.RowKit

def solar : List Int := [31, 28, 31, 30, 31, 30, 31, 31, 30, 31, 30, 31]
def cal0 : Cal := ⟨7, solar, 1, [⟨4, 0, true⟩, ⟨100, 0, false⟩, ⟨400, 0, true⟩]⟩
def cal1 : Cal := ⟨5, solar, 1, [⟨4, 0, true⟩]⟩
def rests : List Int := [2, 5, 7, 10, 13, 16, 18, 21, 24, 26, 29]
def lunar : List Int := [30, 29, 30, 29, 30, 29, 30, 29, 30, 29, 30, 29]
def cal2 : Cal := ⟨227021, lunar, 11, rests.map fun r => ⟨30, r, true⟩⟩
theorem solar_ok : ∀ m ∈ solar, 1 ≤ m ∧ m ≤ 40 := by decide
theorem cal0_ok : CalOK cal0 := ⟨by decide, by decide, by decide, by decide, solar_ok, ⟨4, rfl, by decide, by decide, by decide, by decide, by decide, by decide, 100, rfl, by decide, by decide, by decide, by decide, by decide, by decide, 400, rfl, by decide, by decide, by decide, by decide, by decide, by decide, trivial⟩⟩
theorem cal1_ok : CalOK cal1 := ⟨by decide, by decide, by decide, by decide, solar_ok, ⟨4, rfl, by decide, by decide, by decide, by decide, by decide, by decide, trivial⟩⟩
theorem per30 : ∀ (l : List Int) (y : Nat), (y = 1 ∨ y = 30) → (∀ r ∈ l, 0 ≤ r ∧ r < 30) → PerOK y (l.map fun r => ⟨30, r, true⟩)
  | [], _, _, _ => trivial
  | r :: l, y, hy, h => by
    have hr := h r (by simp)
    have e : Nat.lcm y 30 = 30 := by rcases hy with rfl | rfl <;> decide
    exact ⟨30, rfl, by omega, by omega, hr.1, hr.2, by rw [e]; omega, by rw [e]; omega, by rw [e]; exact per30 l 30 (.inr rfl) (fun x hx => h x (by simp [hx]))⟩
theorem cal2_ok : CalOK cal2 := ⟨by decide, by decide, by decide, by decide, by decide, per30 rests 1 (.inl rfl) (by decide)⟩
/-- Rules in memory that is not older than block lo. -/
def LL (lo : Nat) (w : World) (A : Option Addr) (rs : List Lr) : Prop :=
  rs.length = 0 ∨ ∃ b, A = some ⟨b, 0, none⟩ ∧ lo ≤ b ∧ b < w.heap.size ∧ ∀ k x, rs[k]? = some x → w.rangeAt b (k * 3) x.cells
theorem LL.of_blocks {lo : Nat} {w w' : World} {A : Option Addr} {rs : List Lr} (h : LL lo w A rs) (hs : w.heap.size ≤ w'.heap.size) (hb : ∀ k, lo ≤ k → k < w.heap.size → w'.heap[k]? = w.heap[k]?) : LL lo w' A rs := by
  rcases h with h | ⟨b, hA, h1, h2, hc⟩
  · exact .inl h
  · exact .inr ⟨b, hA, h1, Nat.lt_of_lt_of_le h2 hs, fun k x hx j v hj => (World.cell?_of_block (a := ⟨b, k * 3 + j, none⟩) (hb b h1 h2)).trans (hc k x hx j v hj)⟩
theorem LL.lrs {lo : Nat} {w : World} {A : Option Addr} {rs : List Lr} (h : LL lo w A rs) : LrsAt w w.heap.size A rs := by
  rcases h with h | ⟨b, hA, h1, h2, hc⟩
  · exact .inl h
  · exact .inr ⟨b, hA, h2, hc⟩
theorem LL.lower {lo lo' : Nat} {w : World} {A : Option Addr} {rs : List Lr} (h : LL lo w A rs) (hl : lo' ≤ lo) : LL lo' w A rs := by
  rcases h with h | ⟨b, hA, h1, h2, hc⟩
  · exact .inl h
  · exact .inr ⟨b, hA, Nat.le_trans hl h1, h2, hc⟩
def KnownP (c : Cal) (w : World) (e : Ending) (w' : World) : Prop :=
  ∃ A ca B cb, e = .returned (.tuple #[.agg (calCells c A ca B cb), I 0]) ∧ LI w.heap.size w' A c.months ∧ LL w.heap.size w' B c.rules ∧ Below w.heap.size w w'
theorem ints_of_row {W : World} {lo b : Nat} {cs : Array Value} {zs : List Int} (h : Row W b cs) (hc : cs = (zs.map I).toArray) (hl : lo ≤ b) : LI lo W (some ⟨b, 0, none⟩) zs :=
  .inr ⟨b, 0, rfl, hl, h.1, fun j hj => by rw [Nat.zero_add, h.2 j, hc]; simp [hj]⟩
theorem lrs_get (rs : List Lr) (k i : Nat) (hi : i < 3) : (rs.flatMap Lr.cells)[k * 3 + i]? = (rs[k]?).bind fun x => x.cells[i]? := by
  induction rs generalizing k with
  | nil => simp
  | cons x r ih =>
    have hl : x.cells.length = 3 := rfl
    rw [List.flatMap_cons]
    cases k with
    | zero => rw [List.getElem?_append_left (by rw [hl]; omega)]; simp
    | succ k => rw [List.getElem?_append_right (by rw [hl]; omega), hl, show (k + 1) * 3 + i - 3 = k * 3 + i by omega, ih k]; simp
theorem lrs_of_row {W : World} {lo b : Nat} {cs : Array Value} {rs : List Lr} (h : Row W b cs) (hc : cs = (rs.flatMap Lr.cells).toArray) (hl : lo ≤ b) : LL lo W (some ⟨b, 0, none⟩) rs :=
  .inr ⟨b, rfl, hl, h.1, fun k x hx j v hv => by
    have hj : j < 3 := (List.getElem?_eq_some_iff.1 hv).1
    rw [h.2, hc, List.getElem?_toArray, lrs_get rs k j hj, hx]
    exact hv⟩
theorem cal_size (A B : Option Addr) (n ca m cb : Nat) (e l : Int) : (Tryz.prog.info? 106).map (·.size) = some (#[I e, .slice A n ca, I l, .slice B m cb] : Array Value).size := by kernel_rfl
theorem four (w : World) (c0 c1 c2 c3 : Array Value) (t0 t1 t2 t3 : TypeId) :
    ((((w.alloc (.cells c0 t0)).alloc (.cells c1 t1)).alloc (.cells c2 t2)).alloc (.cells c3 t3)).heap[w.heap.size]? = some (.cells c0 t0 (0, 0)) ∧
    Row ((((w.alloc (.cells c0 t0)).alloc (.cells c1 t1)).alloc (.cells c2 t2)).alloc (.cells c3 t3)) (w.heap.size + 1) c1 ∧
    ((((w.alloc (.cells c0 t0)).alloc (.cells c1 t1)).alloc (.cells c2 t2)).alloc (.cells c3 t3)).heap[w.heap.size + 1 + 1 + 1]? = some (.cells c3 t3 (0, 0)) ∧
    Row ((((w.alloc (.cells c0 t0)).alloc (.cells c1 t1)).alloc (.cells c2 t2)).alloc (.cells c3 t3)) (w.heap.size + 1 + 1 + 1) c3 ∧
    Below w.heap.size w ((((w.alloc (.cells c0 t0)).alloc (.cells c1 t1)).alloc (.cells c2 t2)).alloc (.cells c3 t3)) := by
  have b0 := below_var w (.cells c0 t0)
  have b1 := below_var (w.alloc (.cells c0 t0)) (.cells c1 t1)
  have b2 := below_var ((w.alloc (.cells c0 t0)).alloc (.cells c1 t1)) (.cells c2 t2)
  have b3 := below_var (((w.alloc (.cells c0 t0)).alloc (.cells c1 t1)).alloc (.cells c2 t2)) (.cells c3 t3)
  have r1 := Row.new (w.alloc (.cells c0 t0)) c1 t1
  have r3 := Row.new (((w.alloc (.cells c0 t0)).alloc (.cells c1 t1)).alloc (.cells c2 t2)) c3 t3
  have h3 := heap_alloc_last (((w.alloc (.cells c0 t0)).alloc (.cells c1 t1)).alloc (.cells c2 t2)) (.cells c3 t3)
  simp only [World.size_alloc] at r1 r3 h3 b1 b2 b3
  refine ⟨?_, (r1.keep (by simpa using b2)).keep (by simpa using b3), h3, r3, below_trans (below_trans (below_trans b0 (by simpa using b1)) (by simpa using b2)) (by simpa using b3)⟩
  rw [b3.block _ (by omega), b2.block _ (by omega), b1.block _ (by omega)]
  exact heap_alloc_last w _
set_option maxRecDepth 10000 in
set_option maxHeartbeats 2000000 in
theorem known0 (w : World) : Calls Tryz.prog 65 #[I 0] w (KnownP cal0 w) := by
  go_enter Tryz.func65, Tryz.ntmps65
  go_wp2_with fail
  obtain ⟨h0, r1, _, r3, hb⟩ := four w #[I 7, .slice (some ⟨w.heap.size + 1, 0, none⟩) 12 12, I 1, .slice (some ⟨w.heap.size + 1 + 1 + 1, 0, none⟩) 3 3] (solar.map I).toArray #[I 4, I 0, .bool true] (cal0.rules.flatMap Lr.cells).toArray 106 3 155 155
  refine bodyPost_ret (v := .tuple #[.agg (calCells cal0 (some ⟨w.heap.size + 1, 0, none⟩) 12 (some ⟨w.heap.size + 1 + 1 + 1, 0, none⟩) 3), I 0]) (results_row_tmp rfl _ _ w.heap.size _ #[I 7, .slice (some ⟨w.heap.size + 1, 0, none⟩) 12 12, I 1, .slice (some ⟨w.heap.size + 1 + 1 + 1, 0, none⟩) 3 3] (0, 0) _ rfl h0 Tryz.underlying106 rfl (cal_size _ _ _ _ _ _ _ _) _ rfl) rfl ?_
  exact ⟨_, _, _, _, rfl, ints_of_row r1 rfl (by omega), lrs_of_row r3 rfl (by omega), hb⟩
set_option maxRecDepth 10000 in
set_option maxHeartbeats 2000000 in
theorem known1 (w : World) : Calls Tryz.prog 65 #[I 1] w (KnownP cal1 w) := by
  go_enter Tryz.func65, Tryz.ntmps65
  go_wp2_with fail
  obtain ⟨h0, r1, _, r3, hb⟩ := four w #[I 5, .slice (some ⟨w.heap.size + 1, 0, none⟩) 12 12, I 1, .slice (some ⟨w.heap.size + 1 + 1 + 1, 0, none⟩) 1 1] (solar.map I).toArray #[I 4, I 0, .bool true] (cal1.rules.flatMap Lr.cells).toArray 106 3 155 155
  refine bodyPost_ret (v := .tuple #[.agg (calCells cal1 (some ⟨w.heap.size + 1, 0, none⟩) 12 (some ⟨w.heap.size + 1 + 1 + 1, 0, none⟩) 1), I 0]) (results_row_tmp rfl _ _ w.heap.size _ #[I 5, .slice (some ⟨w.heap.size + 1, 0, none⟩) 12 12, I 1, .slice (some ⟨w.heap.size + 1 + 1 + 1, 0, none⟩) 1 1] (0, 0) _ rfl h0 Tryz.underlying106 rfl (cal_size _ _ _ _ _ _ _ _) _ rfl) rfl ?_
  exact ⟨_, _, _, _, rfl, ints_of_row r1 rfl (by omega), lrs_of_row r3 rfl (by omega), hb⟩
end Go.Proofs.YtenbgpcdoljkgaaGreatDoor

/- civil.Known for the third calendar. -/
namespace Go.Proofs.YtenbgpcdoljkgaaGreatDoor
open Go Go.RowKit

theorem grown_old {W w' : World} {o : Obj} {base e size n : Nat} {v : Value} {ys : List Value} (hown : W.ownsRow base e size v n ys) (hg : (W.alloc o).grownBy w' v.ownBlock) (k : Nat) (hk : k < W.heap.size) (hkb : k < base) : w'.heap[k]? = W.heap[k]? := by
  rw [hg.block k (by simp; omega) (own_ge hown k hkb), Below.heap_alloc W o k hk]
theorem info_lr : (Tryz.prog.info? 155).map (fun i => (i.zero, i.size, i.bytes)) = some (some (.agg #[.int .i64 0, .int .i64 0, .bool false]), 3, 24) := by kernel_rfl
theorem lr_new {w : World} {t : TypeId} (x : Lr) : ∀ j u, x.cells[j]? = some u → (w.alloc (.cells x.cells.toArray t)).cell? ((⟨w.heap.size, 0, none⟩ : Addr).add j) = some u := by
  intro j u hu
  rw [addr_add, (Row.new w _ t).2 j]
  simpa using hu
theorem lr_ok (x : Lr) : ∀ u ∈ x.cells, u.oneCell' = true := by
  intro u hu
  simp [Lr.cells] at hu
  rcases hu with rfl | rfl | rfl <;> rfl
/-- append of one rule to a row of the call's own. -/
theorem wpList_app_lr {ops : Array Oper} {rest : List Oper} {o : Oper} {a : Act} {Q : Exit → Act → World → Prop} {w : World} (hgd : o.guard = none) (s x : Operand)
    (ho : o.op = .call { callee := .builtin .append, args := #[s, x], argTypes := #[104, 104] }) (base : Nat) (v : Value) (n : Nat) (xs : List Value) (hs : a.eval s = v) (hown : w.ownsRow base 155 3 v n xs) (z : Lr)
    (hx : a.eval x = .slice (some ⟨w.heap.size, 0, none⟩) 1 1) (hn : n ≤ 1000000) (hb : base ≤ w.heap.size)
    (h : ∀ v' w', w'.ownsRow base 155 3 v' (n + 1) (xs ++ z.cells) → (w.alloc (.cells z.cells.toArray 155)).grownBy w' v.ownBlock → wpList Tryz.prog ops Q rest (a.put o.dst v') w') :
    wpList Tryz.prog ops Q (o :: rest) a (w.alloc (.cells z.cells.toArray 155)) := by
  obtain ⟨i0, hi, hz0, hz1, hz2⟩ := info_parts info_lr
  refine wpList_append_own_at _ hgd s x 104 ho base 155 i0 _ 3 24 Tryz.underlying104 hi hz0 hz1 hz2 rfl (by decide) v n xs hs (hown.alloc _) ⟨w.heap.size, 0, none⟩ 1 1 z.cells hx rfl (lr_new z) (lr_ok z) (by unfold maxLen; omega) (by omega) (by simp; omega) (fun v' w' h1 h2 _ _ => h v' w' h1 h2)
def zCal : Array Value := #[I 0, .slice none 0 0, I 0, .slice none 0 0]
def vCal (A : Option Addr) (n ca : Nat) (B : Option Addr) (m cb : Nat) : Array Value := #[I 227021, .slice A n ca, I 11, .slice B m cb]
structure KS1 (w : World) (A : Option Addr) (n ca : Nat) (zs : List Int) (W : World) : Prop where
  res : W.heap[w.heap.size]? = some (.cells zCal 106 (0, 0))
  var : W.heap[w.heap.size + 3]? = some (.cells (vCal A n ca none 0 0) 106 (0, 0))
  own : W.ownsRow (w.heap.size + 4) 3 1 (.slice A n ca) n (zs.map I)
  lo : Below w.heap.size w W
  sz : w.heap.size + 4 ≤ W.heap.size
theorem KS1.grown {w W w' : World} {A : Option Addr} {n ca g cap : Nat} {zs : List Int} {z : Int} {o : Obj} (h : KS1 w A n ca zs W) (hown : w'.ownsRow (w.heap.size + 4) 3 1 (.slice (some ⟨g, 0, none⟩) (n + 1) cap) (n + 1) (zs.map I ++ [I z])) (hg : (W.alloc o).grownBy w' (Value.slice A n ca).ownBlock) :
    KS1 w (some ⟨g, 0, none⟩) (n + 1) cap (zs ++ [z]) (w'.setCell ⟨w.heap.size + 3, 1, none⟩ (.slice (some ⟨g, 0, none⟩) (n + 1) cap)) ∧ w'.heap[w.heap.size + 3]? = some (.cells (vCal A n ca none 0 0) 106 (0, 0)) := by
  have hs := h.sz
  have hB : ∀ k, k < w.heap.size + 4 → w'.heap[k]? = W.heap[k]? := fun k hk => grown_old h.own hg k (by omega) hk
  have hv := (hB (w.heap.size + 3) (by omega)).trans h.var
  have hlo : Below w.heap.size w w' := ⟨hg.os.trans h.lo.os, hg.tape.trans h.lo.tape, hg.output.trans h.lo.output, by have := hg.size; simp at this; omega, fun k hk => (hB k (by omega)).trans (h.lo.block k hk)⟩
  refine ⟨⟨?_, ?_, ?_, hlo.setCell (p := ⟨w.heap.size + 3, 1, none⟩) (by show w.heap.size ≤ w.heap.size + 3; omega) _, ?_⟩, hv⟩
  · exact (heap_setCell_other w' _ _ _ (by show w.heap.size ≠ w.heap.size + 3; omega)).trans ((hB _ (by omega)).trans h.res)
  · exact heap_setCell_same w' _ 1 _ _ _ hv
  · rw [List.map_append]
    exact ownsRow_setCell_below (a := ⟨w.heap.size + 3, 1, none⟩) hown (by show w.heap.size + 3 < _; omega) _
  · have := hg.size; simp [World.setCell] at this ⊢; omega
structure KS2 (w : World) (base mb : Nat) (X : Obj) (ca : Nat) (B : Option Addr) (m cb rb : Nat) (rs : List Lr) (W : World) : Prop where
  res : W.heap[w.heap.size]? = some (.cells zCal 106 (0, 0))
  var : W.heap[w.heap.size + 3]? = some (.cells (vCal (some ⟨mb, 0, none⟩) 12 ca B m cb) 106 (0, 0))
  mon : W.heap[mb]? = some X
  m1 : w.heap.size + 4 ≤ mb
  m2 : mb < base
  lit : W.heap[rb]? = some (.cells (rests.map I).toArray 3 (0, 0))
  r1 : w.heap.size + 4 ≤ rb
  r2 : rb < base
  own : W.ownsRow base 155 3 (.slice B m cb) m (rs.flatMap Lr.cells)
  lo : Below w.heap.size w W
  sz : base ≤ W.heap.size
theorem KS2.grown {w W w' : World} {base mb ca m cb rb g cap : Nat} {X : Obj} {B : Option Addr} {rs : List Lr} {z : Lr} {o : Obj} (h : KS2 w base mb X ca B m cb rb rs W) (hown : w'.ownsRow base 155 3 (.slice (some ⟨g, 0, none⟩) (m + 1) cap) (m + 1) (rs.flatMap Lr.cells ++ z.cells)) (hg : (W.alloc o).grownBy w' (Value.slice B m cb).ownBlock) :
    KS2 w base mb X ca (some ⟨g, 0, none⟩) (m + 1) cap rb (rs ++ [z]) (w'.setCell ⟨w.heap.size + 3, 3, none⟩ (.slice (some ⟨g, 0, none⟩) (m + 1) cap)) ∧ w'.heap[w.heap.size + 3]? = some (.cells (vCal (some ⟨mb, 0, none⟩) 12 ca B m cb) 106 (0, 0)) := by
  have hs := h.sz
  have h1 := h.m1
  have h2 := h.m2
  have h3 := h.r1
  have h4 := h.r2
  have hB : ∀ k, k < base → w'.heap[k]? = W.heap[k]? := fun k hk => grown_old h.own hg k (by omega) hk
  have hv := (hB (w.heap.size + 3) (by omega)).trans h.var
  have hlo : Below w.heap.size w w' := ⟨hg.os.trans h.lo.os, hg.tape.trans h.lo.tape, hg.output.trans h.lo.output, by have := hg.size; simp at this; omega, fun k hk => (hB k (by omega)).trans (h.lo.block k hk)⟩
  have hne : ∀ k, k ≠ w.heap.size + 3 → k < base → (w'.setCell ⟨w.heap.size + 3, 3, none⟩ (.slice (some ⟨g, 0, none⟩) (m + 1) cap)).heap[k]? = W.heap[k]? := fun k hk hb => (heap_setCell_other w' _ _ _ hk).trans (hB k hb)
  refine ⟨⟨(hne _ (by omega) (by omega)).trans h.res, heap_setCell_same w' _ 3 _ _ _ hv, (hne _ (by omega) (by omega)).trans h.mon, h.m1, h.m2, (hne _ (by omega) (by omega)).trans h.lit, h.r1, h.r2, ?_, hlo.setCell (p := ⟨w.heap.size + 3, 3, none⟩) (by show w.heap.size ≤ w.heap.size + 3; omega) _, ?_⟩, hv⟩
  · rw [List.flatMap_append, List.flatMap_cons, List.flatMap_nil, List.append_nil]
    exact ownsRow_setCell_below (a := ⟨w.heap.size + 3, 3, none⟩) hown (by show w.heap.size + 3 < _; omega) _
  · have := hg.size; simp [World.setCell] at this ⊢; omega
theorem vCal_size (A B : Option Addr) (n ca m cb : Nat) : (Tryz.prog.info? 106).map (·.size) = some (vCal A n ca B m cb).size := by kernel_rfl
theorem vCal_one (A B : Option Addr) (n ca m cb : Nat) : (vCal A n ca B m cb).all (·.oneCell') = true := by simp [vCal, Value.oneCell']
theorem zvCal (A B : Option Addr) (n ca m cb : Nat) : zCal.size = (vCal A n ca B m cb).size := rfl
theorem take_succ_get (zs : List Int) (n : Nat) (h : n < zs.length) : zs.take (n + 1) = zs.take n ++ [zs[n]?.getD 0] := by
  rw [List.take_add_one, List.getElem?_eq_getElem h]; rfl
theorem lunar_at : ∀ n : Nat, n < 12 → lunar[n]?.getD 0 = 30 - ((n : Int) % 2) := by decide
theorem known2_done {w wr : World} {base mb ca cb rb : Nat} {X : Array Value} {B : Option Addr} (HK : KS2 w base mb (.cells X 3 (0, 0)) ca B 11 cb rb cal2.rules wr) (HX : X.toList.take 12 = lunar.map I) :
    LI w.heap.size (wr.setRow w.heap.size (vCal (some ⟨mb, 0, none⟩) 12 ca B 11 cb)) (some ⟨mb, 0, none⟩) cal2.months ∧
    LL w.heap.size (wr.setRow w.heap.size (vCal (some ⟨mb, 0, none⟩) 12 ca B 11 cb)) B cal2.rules ∧
    Below w.heap.size w (wr.setRow w.heap.size (vCal (some ⟨mb, 0, none⟩) 12 ca B 11 cb)) := by
  have hm1' := HK.m1
  have hm2' := HK.m2
  have hs' := HK.sz
  have hmb := (setRow_other wr w.heap.size mb (vCal (some ⟨mb, 0, none⟩) 12 ca B 11 cb) (by omega)).trans HK.mon
  have hsz' : (wr.setRow w.heap.size (vCal (some ⟨mb, 0, none⟩) 12 ca B 11 cb)).heap.size = wr.heap.size := by simp [World.setRow]
  refine ⟨.inr ⟨mb, 0, rfl, by omega, by omega, fun j hj => ?_⟩, ?_, below_setRow HK.lo (Nat.le_refl _) _⟩
  · rw [cell_of_row _ mb _ _ _ _ hmb, Nat.zero_add]
    have h1 : (X.toList.take 12)[j]? = (lunar.map I)[j]? := by rw [HX]
    have hj' : j < 12 := hj
    rw [List.getElem?_take_of_lt hj', List.getElem?_map] at h1
    rw [← Array.getElem?_toList, h1]
    show Option.map I (lunar[j]?) = some (I (lunar[j]?.getD 0))
    rw [List.getElem?_eq_getElem (show j < lunar.length from hj)]
    rfl
  · obtain ⟨_, ⟨_, h⟩ | ⟨g, cap, cur, hv, hg, hb, _, _, _, h4⟩⟩ := HK.own
    · cases h
    · injection hv with hv _ _
      have hg' := (setRow_other wr w.heap.size g (vCal (some ⟨mb, 0, none⟩) 12 ca B 11 cb) (by omega)).trans hb
      refine .inr ⟨g, hv, by omega, by rw [hsz']; exact (Array.getElem?_eq_some_iff.1 hb).1, fun k x hx j v hj => ?_⟩
      have h5 : j < 3 := (List.getElem?_eq_some_iff.1 hj).1
      rw [cell_of_row _ g _ _ _ _ hg']
      have h6 : (cal2.rules.flatMap Lr.cells)[k * 3 + j]? = some v := by rw [lrs_get _ k j h5, hx]; exact hj
      rw [← h4, List.getElem?_take] at h6
      split at h6
      · simpa using h6
      · cases h6
attribute [local go_sem] vCal zCal
set_option maxRecDepth 10000 in
set_option maxHeartbeats 4000000 in
theorem known2 (w : World) : Calls Tryz.prog 65 #[I 2] w (KnownP cal2 w) := by
  go_enter Tryz.func65, Tryz.ntmps65
  go_wp2_with fail
  have HF := Lib.hid (four w zCal (solar.map I).toArray #[I 4, I 0, .bool true] (vCal none 0 0 none 0 0) 106 3 155 106)
  have hsz := HF.out.2.2.2.1.1
  go_loopw [32] (fun i wr => ∃ (n : Nat) (A : Option Addr) (ca : Nat), n ≤ 12 ∧ i = I n ∧ KS1 w A n ca (lunar.take n) wr) (fun i _ => 12 - (intOf i).toNat)
  case atStart => exact ⟨0, none, 0, by omega, rfl, ⟨HF.out.1, HF.out.2.2.1, World.ownsRow_nil _ _ _ _, HF.out.2.2.2.2, hsz⟩⟩
  case round =>
    obtain ⟨n, A, ca, hn, rfl, hks⟩ := hrel
    have HK := Lib.hid hks
    have c1 : wr.cell? ⟨w.heap.size + 1 + 1 + 1, 1, none⟩ = some (.slice A n ca) := cell_of_row wr _ 1 _ _ _ hks.var
    clear hks HF hsz
    by_cases hlt : (n : Int) < 12
    · have hsz := HK.out.sz
      have hm : Int.tmod (n : Int) 2 = (n : Int) % 2 := by rw [Int.tmod_eq_emod_of_nonneg (by omega)]
      obtain ⟨z, hz⟩ : ∃ z, (30 : Int) - (n : Int) % 2 = z := ⟨_, rfl⟩
      have HZ := Lib.hid hz
      have hw1 : IntKind.i64.wrap ((n : Int) % 2) = (n : Int) % 2 := by rw [IntKind.wrap_i64]; omega
      have hw2 : IntKind.i64.wrap (30 - (n : Int) % 2) = 30 - (n : Int) % 2 := by rw [IntKind.wrap_i64]; omega
      clear hz
      go_wp2_with (at_builtin; refine wpList_app_int rfl _ _ rfl (w.heap.size + 4) _ n ((lunar.take n).map I) rfl HK.out.own (30 - (n : Int) % 2) rfl (by omega) (by omega) ?_)
      intro v' w4 hown' hgrow
      rw [← List.map_take] at hown'
      obtain ⟨gg, cap, rfl⟩ := ownsRow_succ hown'
      obtain ⟨hk4, hv4⟩ := HK.out.grown hown' hgrow
      have HK4 := Lib.hid hk4
      have c4 : ∀ i, w4.cell? ⟨w.heap.size + 1 + 1 + 1, i, none⟩ = (vCal A n ca none 0 0)[i]? := fun i => cell_of_row w4 _ i _ _ _ hv4
      have f4 : ∀ i, w4.frozen? ⟨w.heap.size + 1 + 1 + 1, i, none⟩ = false := fun i => frozen_of_row w4 _ i _ _ hv4
      clear hown' hgrow hk4 hv4 c1
      go_wp2_with fail
      go_roundw
      case rel => exact ⟨n + 1, some ⟨gg, 0, none⟩, cap, by omega, by go_num, by rw [take_succ_get lunar n (by show n < 12; omega), lunar_at n (by omega)]; exact HK4.out⟩
      case measure => simp [intOf]; omega
    · have HK : Hid (KS1 w A 12 ca lunar wr) := Lib.hid (by
        have hn12 : n = 12 := by omega
        have := HK.out
        rw [hn12] at this
        exact this)
      obtain ⟨mb, rfl, hm1, X, hmX, hXc⟩ : ∃ mb, A = some ⟨mb, 0, none⟩ ∧ w.heap.size + 4 ≤ mb ∧ ∃ cur, wr.heap[mb]? = some (.cells cur 3 (0, 0)) ∧ cur.toList.take 12 = lunar.map I := by
        obtain ⟨_, ⟨_, h⟩ | ⟨g, cap, cur, hv, hg, hb, _, _, _, h4⟩⟩ := HK.out.own
        · cases h
        · injection hv with hv _ _
          exact ⟨g, hv, hg, cur, hb, h4⟩
      have HX := Lib.hid hXc
      have HS2 : Hid (KS2 w (wr.heap.size + 1) mb (.cells X 3 (0, 0)) ca none 0 0 wr.heap.size [] (wr.alloc (.cells (rests.map I).toArray 3))) := Lib.hid (by
        have hb := below_var wr (.cells (rests.map I).toArray 3)
        have hs := HK.out.sz
        have hml : mb < wr.heap.size := (Array.getElem?_eq_some_iff.1 hmX).1
        exact ⟨(hb.block _ (by omega)).trans HK.out.res, (hb.block _ (by omega)).trans HK.out.var, (hb.block _ hml).trans hmX, hm1, by omega, heap_alloc_last wr _, by omega, by omega, World.ownsRow_nil _ _ _ _, below_trans HK.out.lo hb, by simp⟩)
      clear hXc hmX c1
      go_wp2_with fail
      obtain ⟨rb, hrb⟩ : ∃ rb, wr.heap.size = rb := ⟨_, rfl⟩
      rw [hrb] at HS2 ⊢
      clear HK hrb
      go_loopw [46] (fun i wr => ∃ (m : Nat) (B : Option Addr) (cb : Nat), m ≤ 11 ∧ i = I m ∧ KS2 w (rb + 1) mb (.cells X 3 (0, 0)) ca B m cb rb ((rests.take m).map fun r => ⟨30, r, true⟩) wr) (fun i _ => 11 - (intOf i).toNat)
      case atStart => exact ⟨0, none, 0, by omega, rfl, HS2.out⟩
      case round =>
        obtain ⟨m, B, cb, hm, rfl, hks⟩ := hrel
        have HK := Lib.hid hks
        have c1 : ∀ i, wr.cell? ⟨w.heap.size + 1 + 1 + 1, i, none⟩ = (vCal (some ⟨mb, 0, none⟩) 12 ca B m cb)[i]? := fun i => cell_of_row wr _ i _ _ _ hks.var
        clear hks HS2
        by_cases hlt : (m : Int) < 11
        · have hsz := HK.out.sz
          have i0 : (0 : Int) ≤ (m : Int) := by omega
          obtain ⟨r, hr⟩ : ∃ r, rests[m]?.getD 0 = r := ⟨_, rfl⟩
          have c2 : wr.cell? ⟨rb, m, none⟩ = some (I r) := by
            rw [cell_of_row wr _ m _ _ _ HK.out.lit, ← hr]
            have : m < rests.length := by show m < 11; omega
            simp [this]
          have HRR := Lib.hid hr
          clear hr
          go_wp2_with (at_builtin; refine wpList_app_lr rfl _ _ rfl (rb + 1) _ m _ rfl HK.out.own ⟨30, r, true⟩ rfl (by omega) (by omega) ?_)
          intro v' w4 hown' hgrow
          rw [← List.map_take] at hown'
          obtain ⟨gg, cap, rfl⟩ := ownsRow_succ hown'
          obtain ⟨hk4, hv4⟩ := HK.out.grown hown' hgrow
          have HK4 := Lib.hid hk4
          have c4 : ∀ i, w4.cell? ⟨w.heap.size + 1 + 1 + 1, i, none⟩ = (vCal (some ⟨mb, 0, none⟩) 12 ca B m cb)[i]? := fun i => cell_of_row w4 _ i _ _ _ hv4
          have f4 : ∀ i, w4.frozen? ⟨w.heap.size + 1 + 1 + 1, i, none⟩ = false := fun i => frozen_of_row w4 _ i _ _ hv4
          clear hown' hgrow hk4 hv4 c1
          go_wp2_with fail
          go_roundw
          case rel => exact ⟨m + 1, some ⟨gg, 0, none⟩, cap, by omega, by go_num, by rw [take_succ_get rests m (by show m < 11; omega), HRR.out, List.map_append]; exact HK4.out⟩
          case measure => simp [intOf]; omega
        · have hm11 : m = 11 := by omega
          subst hm11
          go_wp2_with (with_reducible refine g_store 106 ?_; refine wpList_store_row rfl _ _ _ rfl w.heap.size (vCal (some ⟨mb, 0, none⟩) 12 ca B 11 cb) rfl rfl 106 zCal HK.out.res (vCal_size _ _ _ _ _ _) (zvCal _ _ _ _ _ _) (vCal_one _ _ _ _ _ _) ?_)
          refine bodyPost_ret (v := .tuple #[.agg (calCells cal2 (some ⟨mb, 0, none⟩) ca B cb), I 0]) (results_row_tmp rfl _ _ w.heap.size _ (vCal (some ⟨mb, 0, none⟩) 12 ca B 11 cb) (0, 0) _ rfl (setRow_heap _ _ _ _ _ _ HK.out.res) Tryz.underlying106 rfl (vCal_size _ _ _ _ _ _) _ rfl) rfl ?_
          obtain ⟨e1, e2, e3⟩ := known2_done HK.out HX.out
          exact ⟨_, _, _, _, rfl, e1, e2, e3⟩
end Go.Proofs.YtenbgpcdoljkgaaGreatDoor

/- letter.calendars. -/
namespace Go.Proofs.YtenbgpcdoljkgaaGreatDoor
open Go Go.RowKit

structure CalV where
  c : Cal
  A : Option Addr
  ca : Nat
  B : Option Addr
  cb : Nat
def CalV.cells (x : CalV) : List Value := (calCells x.c x.A x.ca x.B x.cb).toList
def zCal3 : Array Value := #[I 0, .slice none 0 0, I 0, .slice none 0 0, I 0, .slice none 0 0, I 0, .slice none 0 0, I 0, .slice none 0 0, I 0, .slice none 0 0]
theorem make_cals (W : World) : (Instr.makeSlice 63 (.int .i64 3) (.int .i64 3)).run Tryz.prog W = .ok (.slice (some ⟨W.heap.size, 0, none⟩) 3 3) (W.alloc (.cells zCal3 106)) := by
  have h0 : (Tryz.prog.info? 106).map (fun i => (i.zero, i.size, i.bytes)) = some (some (.agg zCal), 4, 64) := by kernel_rfl
  obtain ⟨i, hi, he⟩ := Option.map_eq_some_iff.1 h0
  simp only [Prod.mk.injEq] at he
  obtain ⟨hz, hs, hb⟩ := he
  have h := run_make (P := Tryz.prog) W 63 106 i (.agg zCal) Tryz.underlying63 hi hz .i64 .i64 3 3 (by omega) (by omega) (by rw [hb]; omega) (by omega)
  have e : madeCells (Value.agg zCal).cells (Int.toNat 3 * 4) = zCal3 := by kernel_rfl
  rw [h, hs, e]
  rfl
/-- The calendars' row: those that are laid, and zeros. -/
structure CS (w : World) (k : Nat) (xs : List CalV) (W : World) : Prop where
  row : W.heap[w.heap.size]? = some (.cells (xs.flatMap CalV.cells ++ (List.replicate (3 - k) zCal.toList).flatten).toArray 106 (0, 0))
  len : xs.length = k
  mem : ∀ x ∈ xs, LI (w.heap.size + 1) W x.A x.c.months ∧ LL (w.heap.size + 1) W x.B x.c.rules ∧ CalOK x.c
  lo : Below w.heap.size w W
  sz : w.heap.size + 1 ≤ W.heap.size
def CalsP (w : World) (e : Ending) (w' : World) : Prop := ∃ xs, e = .returned (.slice (some ⟨w.heap.size, 0, none⟩) 3 3) ∧ CS w 3 xs w'
theorem known_any (k : Nat) (hk : k < 3) (w : World) : ∃ c, CalOK c ∧ Calls Tryz.prog 65 #[I k] w (KnownP c w) := by
  have h : k = 0 ∨ k = 1 ∨ k = 2 := by omega
  rcases h with rfl | rfl | rfl
  · exact ⟨cal0, cal0_ok, known0 w⟩
  · exact ⟨cal1, cal1_ok, known1 w⟩
  · exact ⟨cal2, cal2_ok, known2 w⟩
theorem CS.grow {w W W' : World} {k : Nat} {xs : List CalV} (h : CS w k xs W) (hb : Below W.heap.size W W') : CS w k xs W' :=
  ⟨(hb.block _ (by have := h.sz; omega)).trans h.row, h.len, fun x hx => ⟨(h.mem x hx).1.of_blocks hb.size fun k _ h2 => hb.block k h2, (h.mem x hx).2.1.of_blocks hb.size fun k _ h2 => hb.block k h2, (h.mem x hx).2.2⟩, below_trans h.lo hb, by have := h.sz; have := hb.size; omega⟩
theorem flat_len (xs : List CalV) : (xs.flatMap CalV.cells).length = xs.length * 4 := by
  induction xs with
  | nil => rfl
  | cons x r ih => rw [List.flatMap_cons, List.length_append, ih]; show 4 + _ = _; simp; omega
theorem CS.at {w W : World} {k : Nat} {xs : List CalV} (h : CS w k xs W) (hk : k < 3) (j : Nat) (hj : j < 4) : ∃ v, W.cell? ⟨w.heap.size, k * 4 + j, none⟩ = some v := by
  rw [cell_of_row W _ _ _ _ _ h.row]
  have hl : (xs.flatMap CalV.cells).length = k * 4 := by rw [flat_len, h.len]
  have hz : ((List.replicate (3 - k) zCal.toList).flatten).length = (3 - k) * 4 := by simp [zCal]
  exact ⟨_, Array.getElem?_eq_getElem (by simp only [List.size_toArray, List.length_append, hl, hz]; omega)⟩
theorem CS.froz {w W : World} {k : Nat} {xs : List CalV} (h : CS w k xs W) (j : Nat) : W.frozen? ⟨w.heap.size, j, none⟩ = false := frozen_of_row W _ j _ _ h.row
theorem set4 (pre rest : List Value) (n : Nat) (hn : pre.length = n) (z0 z1 z2 z3 a b c d : Value) :
    (((((pre ++ ([z0, z1, z2, z3] ++ rest)).toArray.setIfInBounds n a).setIfInBounds (n + 1) b).setIfInBounds (n + 2) c).setIfInBounds (n + 3) d) = (pre ++ [a, b, c, d] ++ rest).toArray := by
  subst hn
  apply Array.ext'
  simp
theorem CS.put {w W : World} {k : Nat} {xs : List CalV} (h : CS w k xs W) (hk : k < 3) (x : CalV) (hm : LI (w.heap.size + 1) W x.A x.c.months ∧ LL (w.heap.size + 1) W x.B x.c.rules ∧ CalOK x.c) :
    CS w (k + 1) (xs ++ [x]) ((((W.setCell ⟨w.heap.size, k * 4, none⟩ (I x.c.epoch)).setCell ⟨w.heap.size, k * 4 + 1, none⟩ (.slice x.A x.c.months.length x.ca)).setCell ⟨w.heap.size, k * 4 + 2, none⟩ (I x.c.leap)).setCell ⟨w.heap.size, k * 4 + 3, none⟩ (.slice x.B x.c.rules.length x.cb)) := by
  have hl : (xs.flatMap CalV.cells).length = k * 4 := by rw [flat_len, h.len]
  have hrep : (List.replicate (3 - k) zCal.toList).flatten = [I 0, .slice none 0 0, I 0, .slice none 0 0] ++ (List.replicate (3 - (k + 1)) zCal.toList).flatten := by
    rw [show 3 - k = (3 - (k + 1)) + 1 by omega, List.replicate_succ, List.flatten_cons]; rfl
  have h1 := heap_setCell_same W _ (k * 4) _ _ (I x.c.epoch) h.row
  have h2 := heap_setCell_same _ _ (k * 4 + 1) _ _ (.slice x.A x.c.months.length x.ca) h1
  have h3 := heap_setCell_same _ _ (k * 4 + 2) _ _ (I x.c.leap) h2
  have h4 := heap_setCell_same _ _ (k * 4 + 3) _ _ (.slice x.B x.c.rules.length x.cb) h3
  have hother : ∀ b, b ≠ w.heap.size → ((((W.setCell ⟨w.heap.size, k * 4, none⟩ (I x.c.epoch)).setCell ⟨w.heap.size, k * 4 + 1, none⟩ (.slice x.A x.c.months.length x.ca)).setCell ⟨w.heap.size, k * 4 + 2, none⟩ (I x.c.leap)).setCell ⟨w.heap.size, k * 4 + 3, none⟩ (.slice x.B x.c.rules.length x.cb)).heap[b]? = W.heap[b]? := fun b hb => by
    rw [heap_setCell_other _ _ _ _ hb, heap_setCell_other _ _ _ _ hb, heap_setCell_other _ _ _ _ hb, heap_setCell_other _ _ _ _ hb]
  have hsz : ((((W.setCell ⟨w.heap.size, k * 4, none⟩ (I x.c.epoch)).setCell ⟨w.heap.size, k * 4 + 1, none⟩ (.slice x.A x.c.months.length x.ca)).setCell ⟨w.heap.size, k * 4 + 2, none⟩ (I x.c.leap)).setCell ⟨w.heap.size, k * 4 + 3, none⟩ (.slice x.B x.c.rules.length x.cb)).heap.size = W.heap.size := by simp [World.setCell]
  have hlo := (((h.lo.setCell (p := ⟨w.heap.size, k * 4, none⟩) (Nat.le_refl _) (I x.c.epoch)).setCell (p := ⟨w.heap.size, k * 4 + 1, none⟩) (Nat.le_refl _) (.slice x.A x.c.months.length x.ca)).setCell (p := ⟨w.heap.size, k * 4 + 2, none⟩) (Nat.le_refl _) (I x.c.leap)).setCell (p := ⟨w.heap.size, k * 4 + 3, none⟩) (Nat.le_refl _) (.slice x.B x.c.rules.length x.cb)
  have hmem : ∀ y : CalV, LI (w.heap.size + 1) W y.A y.c.months ∧ LL (w.heap.size + 1) W y.B y.c.rules ∧ CalOK y.c → LI (w.heap.size + 1) _ y.A y.c.months ∧ LL (w.heap.size + 1) _ y.B y.c.rules ∧ CalOK y.c := fun y hy =>
    ⟨hy.1.of_blocks (by rw [hsz]; exact Nat.le_refl _) fun b hb _ => hother b (by omega), hy.2.1.of_blocks (by rw [hsz]; exact Nat.le_refl _) fun b hb _ => hother b (by omega), hy.2.2⟩
  refine ⟨?_, by rw [List.length_append, h.len]; rfl, fun y hy => ?_, hlo, by rw [hsz]; exact h.sz⟩
  · rw [h4, hrep, set4 _ _ _ hl]
    rw [List.flatMap_append, List.flatMap_cons, List.flatMap_nil, List.append_nil]
    rfl
  · rcases List.mem_append.1 hy with hy | hy
    · exact hmem y (h.mem y hy)
    · rw [List.mem_singleton.1 hy]; exact hmem x hm
set_option maxRecDepth 10000 in
set_option maxHeartbeats 2000000 in
theorem calendars_any (w : World) : Calls Tryz.prog 51 #[] w (CalsP w) := by
  have hmk := make_cals w
  have HC0 : Hid (CS w 0 [] (w.alloc (.cells zCal3 106))) := Lib.hid ⟨heap_alloc_last w _, rfl, (fun x hx => nomatch hx), below_var w _, by simp⟩
  go_enter Tryz.func51, Tryz.ntmps51
  go_wp2_with fail
  go_loopw [6] (fun i wr => ∃ (k : Nat) (xs : List CalV), k ≤ 3 ∧ i = I k ∧ CS w k xs wr) (fun i _ => 3 - (intOf i).toNat)
  case atStart => exact ⟨0, [], by omega, rfl, HC0.out⟩
  case round =>
    obtain ⟨k, xs, hk, rfl, hcs⟩ := hrel
    have HC := Lib.hid hcs
    clear hcs HC0 hmk
    by_cases hlt : (k : Int) < 3
    · have i0 : (0 : Int) ≤ (k : Int) := by omega
      obtain ⟨c, hok, hkn⟩ := known_any k (by omega) wr
      have HOK := Lib.hid hok
      have HKN := Lib.hid hkn
      clear hok hkn
      go_wp2_with fail
      refine HKN.out.mono ?_
      rintro e w2 ⟨A, ca, B, cb, rfl, hA, hB, hb2⟩
      have hsz := HC.out.sz
      have HC2 := Lib.hid (HC.out.grow hb2)
      have HC3 := Lib.hid (HC2.out.put (by omega) ⟨c, A, ca, B, cb⟩ ⟨hA.lower hsz, hB.lower hsz, HOK.out⟩)
      obtain ⟨v0, c0⟩ := HC2.out.at (by omega) 0 (by omega)
      obtain ⟨v1, c1⟩ := HC2.out.at (by omega) 1 (by omega)
      obtain ⟨v2, c2⟩ := HC2.out.at (by omega) 2 (by omega)
      obtain ⟨v3, c3⟩ := HC2.out.at (by omega) 3 (by omega)
      have hf := HC2.out.froz
      have c0' : w2.cell? ⟨w.heap.size, k * 4, none⟩ = some v0 := c0
      have e0 : calCells c A ca B cb = #[I c.epoch, .slice A c.months.length ca, I c.leap, .slice B c.rules.length cb] := rfl
      rw [e0]
      clear hA hB hb2 c0 e0
      go_wp2_with fail
      go_roundw
      case rel => exact ⟨k + 1, _, by omega, by go_num, HC3.out⟩
      case measure => simp [intOf]; omega
    · have HC' : Hid (CS w 3 xs wr) := Lib.hid (by
        have hk3 : k = 3 := by omega
        have := HC.out
        rw [hk3] at this
        exact this)
      go_wp2_with fail
      go_ret
      exact ⟨xs, rfl, HC'.out⟩
end Go.Proofs.YtenbgpcdoljkgaaGreatDoor
