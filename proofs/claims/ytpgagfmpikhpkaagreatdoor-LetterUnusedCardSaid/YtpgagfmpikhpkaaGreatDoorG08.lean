/- The texts ReadNum, BytesD, BytesW, BEq, ReadD, ReadI, in this order. -/
import Derived.Test.YtpgagfmpikhpkaaGreatDoorG07
import Derived.Shelf.Bytes.SlSmallAll
/- (*letter.reader).number. -/
namespace Go.Proofs.YtpgagfmpikhpkaaGreatDoor
open Go Go.RowKit Go.Shelf
attribute [local go_sem] Oper.semAt_some

/-- n<<8 | int(c), as the program reckons it. -/
def rstep (s : Int) (c : UInt8) : Int := bits BinOp.or IntKind.i64 (wrap64 (s * 256)) c.toNat
def unle (l : List (Nat × UInt8)) : Int := l.foldl (fun s x => rstep s x.2) 0
theorem unle_snoc (pre : List (Nat × UInt8)) (x : Nat × UInt8) : unle (pre ++ [x]) = rstep (unle pre) x.2 := by simp [unle]

theorem RSt.below {M : Nat} {w w' : World} {N b B : Nat} {rest : List UInt8} {bad : Bool} (h : RSt w N b B rest bad) (hb : Below M w w') (hB : B ≤ N) (hN : N + 2 < M) : RSt w' N b B rest bad := by
  obtain ⟨A, c, hr, h1, h2, h3, h4⟩ := h
  exact ⟨A, c, ⟨(hb.block N (by omega)).trans hr.rest, (hb.block (N + 1) (by omega)).trans hr.rd, (hb.block (N + 2) (by omega)).trans hr.var⟩, h1, h2, h3.keep (hb.mono (by omega)), h4⟩
theorem rkeep_mix {N : Nat} {w w1 w2 W : World} (h0 : Below w.heap.size w w1) (hk : RKeep N w1 w2) (h2 : Below w.heap.size w2 W) : RKeep N w W :=
  ⟨h2.os.trans (hk.os.trans h0.os), h2.tape.trans (hk.tape.trans h0.tape), h2.output.trans (hk.output.trans h0.output), Nat.le_trans h0.size (Nat.le_trans hk.size h2.size),
   fun k hb h3 h4 => (h2.block k hb).trans ((hk.block k (Nat.lt_of_lt_of_le hb h0.size) h3 h4).trans (h0.block k hb))⟩
/-- What 'take' gives, what it leaves, and whether the reader has failed behind it. -/
def tkB (rest : List UInt8) (bad : Bool) (size : Nat) : Bool := bad || decide (rest.length < size)
def tk (rest : List UInt8) (bad : Bool) (size : Nat) : List UInt8 := if tkB rest bad size = true then [] else rest.take size
def tkR (rest : List UInt8) (bad : Bool) (size : Nat) : List UInt8 := if tkB rest bad size = true then rest else rest.drop size
theorem tk_le (rest : List UInt8) (bad : Bool) (size : Nat) : (tk rest bad size).length ≤ size := by unfold tk; split <;> simp; omega
theorem take_gen (w : World) (N b B : Nat) (rest : List UInt8) (bad : Bool) (size : Nat) (hB : B ≤ N) (hN : N < w.heap.size) (hr : RSt w N b B rest bad) :
    Calls Tryz.prog 66 #[I size, pt (N + 2), pt N] w fun e w' => ∃ A c, e = .returned (.slice A (tk rest bad size).length c) ∧ BytesAt w' B A (tk rest bad size) ∧ RSt w' N b B (tkR rest bad size) (tkB rest bad size) ∧ RKeep N w w' := by
  refine (take_any w N b B rest bad size hB hN hr).mono fun e w' h => ?_
  unfold TakePost at h
  by_cases ht : bad = true ∨ rest.length < size
  · rw [if_pos ht] at h
    have e1 : tkB rest bad size = true := by unfold tkB; simpa using ht
    have e2 : tk rest bad size = [] := by unfold tk; rw [if_pos e1]
    have e3 : tkR rest bad size = rest := by unfold tkR; rw [if_pos e1]
    rw [e1, e2, e3]
    exact ⟨none, 0, h.1, .inl rfl, h.2.1, h.2.2⟩
  · rw [if_neg ht] at h
    have e1 : tkB rest bad size = false := by unfold tkB; simpa using ht
    have e2 : tk rest bad size = rest.take size := by unfold tk; rw [e1]; simp
    have e3 : tkR rest bad size = rest.drop size := by unfold tkR; rw [e1]; simp
    have e4 : (rest.take size).length = size := by have := not_or.1 ht; simp; omega
    rw [e1, e2, e3, e4]
    obtain ⟨A, c, h1, _, _, h4, h5, h6⟩ := h
    exact ⟨A, c, h1, h4, h5, h6⟩
/-- The number that 'number(size)' reads. -/
def rdN (rest : List UInt8) (bad : Bool) (size : Nat) : Int := unle (upto (bk (tk rest bad size)) (tk rest bad size).length)
def NumGot (w : World) (N b B : Nat) (rest : List UInt8) (bad : Bool) (size : Nat) (e : Ending) (w' : World) : Prop :=
  e = .returned (I (rdN rest bad size)) ∧ RSt w' N b B (tkR rest bad size) (tkB rest bad size) ∧ RKeep N w w'

set_option maxRecDepth 100000 in
set_option maxHeartbeats 2000000 in
theorem rnumber_any (w : World) (N b B size : Nat) (rest : List UInt8) (bad : Bool) (hBN : B ≤ N) (hN : N + 2 < w.heap.size) (hr : RSt w N b B rest bad) (h8 : size ≤ 8) :
    Calls Tryz.prog 46 #[pt (N + 1), I size] w (NumGot w N b B rest bad size) := by
  refine (callsIn_wide (n := 3)).1 ?_
  have hro : Fence.wide.round = none := rfl
  have h1 : 1 ≤ 3 := by omega
  have hB0 : Below w.heap.size w (w.alloc (.cells #[.int .i64 0] 3)) := (Below.refl _ w).alloc (Nat.le_refl _) _
  have hr1 : RSt (w.alloc (.cells #[.int .i64 0] 3)) N b B rest bad := hr.below hB0 hBN hN
  have hf1 : (w.alloc (.cells #[.int .i64 0] 3)).cell? ⟨N + 1, 1, none⟩ = some (.func (.func 66) #[] #[pt (N + 2), pt N]) := by obtain ⟨A, c, h, _⟩ := hr1; exact cell_of_row _ (N + 1) 1 _ _ _ h.rd
  have bS := Boxed.new w 3 (.int .i64 0)
  have HT0 := take_gen (w.alloc (.cells #[.int .i64 0] 3)) N b B rest bad size hBN (by simp; omega) hr1
  obtain ⟨bs, hbs⟩ : ∃ bs, tk rest bad size = bs := ⟨_, rfl⟩
  have HL := Lib.hid (show bs.length ≤ size from hbs ▸ tk_le rest bad size)
  rw [hbs] at HT0
  have HBS2 := Lib.hid hbs
  have HT := Lib.hid HT0
  have HR := Lib.hid hr
  have HR1 := Lib.hid hr1
  have HB0 := Lib.hid hB0
  have HBS := Lib.hid bS
  clear hr hr1 hB0 bS HT0 hbs
  refine callsIn_of_wp_marks Tryz.func46 rfl trivial ?_ hro
  simp only [Tryz.ntmps46, List.size_toArray, List.length_cons, List.length_nil, Nat.reduceAdd, Nat.reduceSub, Array.replicate_succ, Array.replicate_zero, List.push_toArray, List.append_toArray, List.nil_append, List.cons_append]
  gi_wp2_with first
    | (refine ⟨trivial, ?_⟩; gi_at_call 66; refine (callsIn_wide.2 HT.out).mono ?_; rintro e w2 ⟨A, c, rfl, hby, hrs, hk⟩; have HBY := Lib.hid hby; have HRS := Lib.hid hrs; have HK := Lib.hid hk; clear hby hrs hk)
    | (refine ⟨trivial, ?_⟩; gi_at_call 68; refine (back_in Fence.wide 2 trivial hro _ _ _ _).mono ?_; rintro e w' ⟨rfl, rfl⟩)
  have hw2 : w.heap.size < w2.heap.size := Nat.lt_of_lt_of_le (by simp) HK.out.size
  have bS2 : Boxed w2 w.heap.size 3 (.int .i64 0) := (HK.out.block w.heap.size (by simp) (by omega) (by omega)).trans HBS.out
  have bN := Boxed.new w2 42 (.slice A bs.length c)
  have hB1 : Below w.heap.size w2 (w2.alloc (.cells #[.slice A bs.length c] 42)) := ((Below.refl _ w2).alloc (Nat.le_refl _) _).mono (by omega)
  have hby1 : BytesAt (w2.alloc (.cells #[.slice A bs.length c] 42)) w.heap.size A bs := (HBY.out.more (by omega)).keep hB1
  have hcl : (w2.alloc (.cells #[.slice A bs.length c] 42)).cell? ⟨w2.heap.size, 0, none⟩ = some (.slice A bs.length c) := bN.cell
  have hst := back_stops Fence.wide (3 - 1) trivial hro (by omega) w2.heap.size w.heap.size A c bs (by have := HL.out; omega) (w2.alloc (.cells #[.slice A bs.length c] 42)) (by simp) (by simp; omega) hcl hby1
  refine wpIn_rangeFunc_ownG hro h1 (gf := 85) (lb := #[.pointer (some ⟨w2.heap.size, 0, none⟩)]) rfl trivial (enters_of Tryz.func85 (by kernel_rfl) rfl)
    hst (fun h k => h.trans k) (bk_b (by simp; omega) (by simp)) (Below.refl _ _) (fun _ => rfl)
    (fun pre W => Boxed W w.heap.size 3 (I (unle pre)) ∧ Below w.heap.size w2 W)
    (fun _ _ _ => False)
    (OwnFrom.and (Own.from (boxed_own _ _ _) _) (ownFrom_below (by omega) (by simp; omega)))
    (fun _ _ _ _ _ hs _ _ => hs)
    ⟨bS2.alloc _, hB1⟩
    (fun x => { tmps := #[pt (N + 1), I size, undef, undef, .int .i64 0, .pointer (some ⟨w.heap.size, 0, none⟩), undef, Extern.Stop.cell x.2, pt (N + 1), .pointer (some ⟨N + 1, 0, none⟩), .pointer (some ⟨N + 1, 1, none⟩), .func (.func 66) #[] #[pt (N + 2), pt N], I size, .slice A bs.length c, .func (.func 85) #[] #[.pointer (some ⟨w2.heap.size, 0, none⟩)], .int .i64 (x.1 : Int), Extern.Stop.cell x.2, undef, undef, undef, undef, undef, undef], defers := [] }) ?assign ?body ?done ?stop
  case assign =>
    intro l x W K hK
    gi_wp2
    exact hK
  case body =>
    rintro l pre ⟨xi, xc⟩ W ⟨hbx, hB⟩ _
    have hc := hbx.cell
    have hx1 : (xc.toNat : Int) < 256 := by have := xc.toNat_lt; omega
    have hx2 : (0 : Int) ≤ xc.toNat := by omega
    simp only [Extern.Stop.cell]
    have hf := hbx.frozen
    gi_wp2
    exact ⟨(KeepsOthers.setCell _ _ _).from _, ⟨(Below.refl w.heap.size W).setCell (p := ⟨w.heap.size, 0, none⟩) (Nat.le_refl _) _, World.cell?_setCell_other _ _ _ _ (by intro e; have := congrArg Addr.block e; simp only at this; omega)⟩, by rw [unle_snoc]; exact hbx.set _, hB.setCell (p := ⟨w.heap.size, 0, none⟩) (Nat.le_refl _) _⟩
  case done =>
    rintro D ys W hD rfl ⟨hbx, hB⟩ hK
    have hc := hbx.cell
    gi_wp2
    refine ⟨by simp, .inl ⟨_, _, rfl, run_takeDeferred hK, ?_⟩⟩
    refine ⟨_, results_tmp rfl _ _ _, ?_⟩
    have hB2 := hB.trans (belowK_b (w := w2) (n₀ := w.heap.size) (by omega) W D _ (.deferred none) (by simp at hD; omega) hK rfl rfl)
    unfold NumGot rdN
    rw [HBS2.out]
    exact ⟨rfl, HRS.out.below hB2 hBN hN, rkeep_mix HB0.out HK.out hB2⟩
  case stop =>
    rintro D c pre W _ _ h _
    exact h.elim
end Go.Proofs.YtpgagfmpikhpkaaGreatDoor

/- letter.Bytes: the data, and words for the writer in memory. -/
namespace Go.Proofs.YtpgagfmpikhpkaaGreatDoor
open Go Go.RowKit

/-- A field's bytes; sb: the series' bytes. -/
def fldBytes (l : Lt) (sb : List UInt8) (k : Nat) : List UInt8 :=
  if (numOff k).isSome then le (numF l k) 8 else if k = 9 then mvBytes l.move else if k = 10 then sb else if k = 14 then le l.wfrom 8 ++ le l.wto 8 else if k = 15 then le l.cells.length 4 ++ cellBytes l.cells else l.ref
def fldsTo (l : Lt) (sb : List UInt8) : Nat → List UInt8
  | 0 => []
  | k + 1 => fldsTo l sb k ++ (if usesB l.kind k then fldBytes l sb k else [])
def hdBytes (l : Lt) : List UInt8 := cellBytes [l.kind, l.src, l.dst]
def ltBytes (l : Lt) (sb : List UInt8) : List UInt8 := hdBytes l ++ fldsTo l sb 17
theorem mvBytes_length (m : Mv) : (mvBytes m).length = 33 := by simp [mvBytes, le_length]
theorem fldBytes_le (l : Lt) (sb : List UInt8) (k : Nat) (h1 : l.cells.length ≤ 65536) (h2 : l.ref.length = 32) : (fldBytes l sb k).length ≤ sb.length + 70000 := by
  unfold fldBytes
  repeat' split
  all_goals (try simp only [le_length, mvBytes_length, List.length_append, cellBytes_length])
  all_goals omega
theorem fldsTo_le (l : Lt) (sb : List UInt8) (k : Nat) (h1 : l.cells.length ≤ 65536) (h2 : l.ref.length = 32) : (fldsTo l sb k).length ≤ k * (sb.length + 70000) := by
  induction k with
  | zero => simp [fldsTo]
  | succ k ih =>
    have := fldBytes_le l sb k h1 h2
    simp only [fldsTo, List.length_append]
    rw [Nat.succ_mul]
    split
    · exact Nat.add_le_add ih this
    · rw [List.length_nil, Nat.add_zero]; exact Nat.le_trans ih (Nat.le_add_right _ _)
theorem hd_length (l : Lt) : (hdBytes l).length = 3 := by rw [hdBytes, cellBytes_length]; rfl
theorem pre_le (l : Lt) (sb : List UInt8) (k : Nat) (h1 : l.cells.length ≤ 65536) (h2 : l.ref.length = 32) (h3 : sb.length ≤ 1000000000) (hk : k ≤ 17) : (hdBytes l ++ fldsTo l sb k).length ≤ 100000000000 := by
  have := fldsTo_le l sb k h1 h2
  have h4 : k * (sb.length + 70000) ≤ 17 * (sb.length + 70000) := Nat.mul_le_mul_right _ hk
  rw [List.length_append, hd_length]
  omega

theorem ownsRow_below {M : Nat} {w w' : World} {base e size n : Nat} {v : Value} {xs : List Value} (h : w.ownsRow base e size v n xs) (hb : Below M w w') (hM : w.heap.size ≤ M) : w'.ownsRow base e size v n xs := by
  refine ⟨h.1, ?_⟩
  rcases h.2 with h | ⟨g, cap, cur, rfl, hg, hh, h1, h2, h3, h4⟩
  · exact .inl h
  · refine .inr ⟨g, cap, cur, rfl, hg, ?_, h1, h2, h3, h4⟩
    rw [hb.block g (Nat.lt_of_lt_of_le (Array.getElem?_eq_some_iff.1 hh).1 hM)]
    exact hh
theorem WIn.grow {w w' : World} {g b : Nat} {cs : Array Value} {v : Value} {bs : List UInt8} (h : WIn w g b cs v bs) (hb : Below w.heap.size w w') : WIn w' g b cs v bs :=
  ⟨⟨(hb.block g h.gl).trans h.st.1, ownsRow_below h.st.2 hb (Nat.le_refl _)⟩, h.row.keep hb, h.lt, Nat.lt_of_lt_of_le h.gl hb.size⟩
theorem Far.grow {w w' : World} {g k : Nat} {v : Value} {cs : Array Value} (h : Far w g v k cs) (hb : Below w.heap.size w w') : Far w' g v k cs := ⟨h.row.keep hb, h.ne, h.nv⟩
theorem WKeep.below {M g b : Nat} {cs : Array Value} {v v' : Value} {w w' : World} {bs : List UInt8} (h : WKeep g v w v' w') (hin : WIn w g b cs v bs) (hM : M ≤ b) : Below M w w' :=
  ⟨h.os, h.tape, h.output, h.size, fun k hk => h.block k (by have := hin.gl; have := hin.lt; omega) (by have := hin.lt; omega) (own_ge hin.st.2 k (by have := hin.lt; omega))⟩
theorem NumPost.out {w w' : World} {g b : Nat} {cs : Array Value} {v : Value} {bs bs' : List UInt8} {e : Ending} (h : NumPost w g (pt b) v bs' e w') (hin : WIn w g b cs v bs) :
    e = .returned (.tuple #[]) ∧ ∃ v', WIn w' g b cs v' bs' ∧ WKeep g v w v' w' := by
  obtain ⟨he, v', hs, hk⟩ := h
  exact ⟨he, v', hin.next hs hk, hk⟩
end Go.Proofs.YtpgagfmpikhpkaaGreatDoor

/- letter.Bytes, walked. -/
namespace Go.Proofs.YtpgagfmpikhpkaaGreatDoor
open Go Go.RowKit

/-- What Bytes gives: nothing and the code, or the bytes in a row of their own. -/
def BytesPost (w : World) (code : Int) (bs : List UInt8) (e : Ending) (w' : World) : Prop :=
  (if code = 0 then ∃ v, e = .returned (.tuple #[v, I 0]) ∧ w'.ownsRow w.heap.size 5 1 v bs.length (bs.map Extern.Stop.cell) else e = .returned (.tuple #[.slice none 0 0, I code])) ∧ Below w.heap.size w w'
attribute [local go_sem] ltVal_get lt_get0 lt_get1 lt_get2
set_option maxRecDepth 10000 in
set_option maxHeartbeats 2000000 in
theorem bytes_no (l : Lt) (s : Sl) (sb : List UInt8) (w : World) (code : Int) (hr : l.ref.length = 32) (hc : (code == 0) = false)
    (hv : ∀ w', Below w.heap.size w w' → Calls Tryz.prog 13 #[.agg (ltVal l s)] w' (Gives (I code) w')) :
    Calls Tryz.prog 11 #[.agg (ltVal l s)] w (BytesPost w code (ltBytes l sb)) := by
  have HR0 := Lib.hid (Row.new w (ltVal l s) 36)
  have HB0 := Lib.hid (below_var w (.cells (ltVal l s) 36))
  have HSZ : Hid ((Tryz.prog.info? 36).map (·.size) = some (ltVal l s).size) := Lib.hid (by unfold ltVal; rw [lt_size _ _ _ _ hr]; kernel_rfl)
  have HV := Lib.hid hv
  have HC := Lib.hid hc
  clear hv
  go_enter Tryz.func11, Tryz.ntmps11
  go_wp2_with (first
    | (refine wpList_load_Row rfl _ _ rfl w.heap.size rfl (ltVal l s) HR0.out _ Tryz.underlying36 rfl HSZ.out ?_)
    | (go_at_call 13; refine (HV.out _ HB0.out).mono ?_; rintro e w1 ⟨rfl, hb1⟩; have HB1 := Lib.hid (below_trans HB0.out hb1); clear hb1))
  go_ret2
  unfold BytesPost
  rw [if_neg (by have := HC.out; rw [beq_dec] at this; exact of_decide_eq_false this)]
  exact ⟨rfl, HB1.out⟩

/-- The table of the writer's methods, as it lies. -/
def wFns (g : Nat) : Array Value := #[.nilFunc, .nilFunc, .nilFunc, .nilFunc, .nilFunc, .nilFunc, .nilFunc, .nilFunc, .nilFunc, .func (.func 32) #[pt g] #[], .func (.func 33) #[pt g] #[], .nilFunc, .nilFunc, .nilFunc, .func (.func 34) #[pt g] #[], .func (.func 35) #[pt g] #[], .func (.func 36) #[pt g] #[]]
theorem wFns_one (g : Nat) : (wFns g).all (·.oneCell') = true := by kernel_rfl
theorem wFns_info (g : Nat) : (Tryz.prog.info? 79).map (fun i => (i.zero, i.size)) = some (some (.agg (Array.replicate 17 .nilFunc)), (wFns g).size) := by kernel_rfl
def FlRel (l : Lt) (s : Sl) (sb : List UInt8) (w : World) (g fa : Nat) (i : Value) (wr : World) : Prop :=
  ∃ k : Nat, k ≤ 17 ∧ i = .int .i64 k ∧ ∃ v, WIn wr g w.heap.size (ltVal l s) v (hdBytes l ++ fldsTo l sb k) ∧ Far wr g v fa (wFns g) ∧ Below w.heap.size w wr
structure BHyp (l : Lt) (s : Sl) (sb : List UInt8) (w : World) : Prop where
  ref : l.ref.length = 32
  cells : l.cells.length ≤ 65536
  sbl : sb.length ≤ 1000000000
  kind : fits l.kind
  src : fits l.src
  dst : fits l.dst
  num : ∀ k, k < 17 → fits (numF l k)
  mday : fits l.move.day
  mto : fits l.move.toDay
  mmin : fits l.move.minute
  mlen : fits l.move.length
  wfrom : fits l.wfrom
  wto : fits l.wto
  fit : ∀ j, j < l.cells.length → fits (l.cells[j]?.getD 0)
  ints : IntsAt w w.heap.size s.C l.cells
  valid : ∀ w', Below w.heap.size w w' → Calls Tryz.prog 13 #[.agg (ltVal l s)] w' (Gives (I 0) w')
  ser : usesB l.kind 10 = true → ∀ w' g b v bs, Below w.heap.size w w' → w.heap.size ≤ b → WIn w' g b (ltVal l s) v bs → bs.length ≤ 100000000000 → Calls Tryz.prog 33 #[pt g] w' (NumPost w' g (pt b) v (bs ++ sb))

theorem WIn.start {w1 : World} {b : Nat} {cs : Array Value} (h : Row w1 b cs) (o : Obj) : WIn ((w1.alloc (.cells #[pt b, .slice none 0 0] 77)).alloc o) w1.heap.size b cs (.slice none 0 0) [] :=
  WIn.grow (w := w1.alloc (.cells #[pt b, .slice none 0 0] 77)) ⟨⟨heap_alloc_last w1 _, by simp [World.ownsRow]⟩, h.keep (below_var _ _), h.1, by simp⟩ (below_var _ _)
theorem hd_at (l : Lt) (k : Nat) (hk : k < 3) (h0 : fits l.kind) (h1 : fits l.src) (h2 : fits l.dst) : (#[I l.kind, I l.src, I l.dst] : Array Value)[k]? = some (I ([l.kind, l.src, l.dst][k]?.getD 0)) ∧ fits ([l.kind, l.src, l.dst][k]?.getD 0) := by
  match k, hk with
  | 0, _ => exact ⟨rfl, h0⟩
  | 1, _ => exact ⟨rfl, h1⟩
  | 2, _ => exact ⟨rfl, h2⟩
  | n + 3, h => exact absurd h (by omega)
theorem none_at (k : Nat) (hk : k < 17) (h : numOff k = none) : k = 9 ∨ k = 10 ∨ k = 14 ∨ k = 15 ∨ k = 16 :=
  all17 (p := fun k => numOff k = none → k = 9 ∨ k = 10 ∨ k = 14 ∨ k = 15 ∨ k = 16) (by refine ⟨?_, ?_, ?_, ?_, ?_, ?_, ?_, ?_, ?_, ?_, ?_, ?_, ?_, ?_, ?_, ?_, ?_⟩ <;> (intro e; first | (cases e; done) | omega)) k hk h
theorem ownsRow_base {w : World} {base base' e size n : Nat} {v : Value} {xs : List Value} (h : w.ownsRow base e size v n xs) (hb : base' ≤ base) : w.ownsRow base' e size v n xs := by
  refine ⟨h.1, ?_⟩
  rcases h.2 with h | ⟨g, cap, cur, rfl, hg, hh⟩
  · exact .inl h
  · exact .inr ⟨g, cap, cur, rfl, Nat.le_trans hb hg, hh⟩
def HdRel (l : Lt) (s : Sl) (w : World) (g : Nat) (i : Value) (wr : World) : Prop :=
  ∃ k : Nat, k ≤ 3 ∧ i = .int .i64 k ∧ ∃ v, WIn wr g w.heap.size (ltVal l s) v (cellBytes ([l.kind, l.src, l.dst].take k)) ∧ Far wr g v (g + 1) #[I l.kind, I l.src, I l.dst] ∧ Below w.heap.size w wr
set_option maxRecDepth 10000 in
set_option maxHeartbeats 8000000 in
theorem bytes_yes (l : Lt) (s : Sl) (sb : List UInt8) (w : World) (h : BHyp l s sb w) :
    Calls Tryz.prog 11 #[.agg (ltVal l s)] w (BytesPost w 0 (ltBytes l sb)) := by
  have HR0 := Lib.hid (Row.new w (ltVal l s) 36)
  have HB0 := Lib.hid (below_var w (.cells (ltVal l s) 36))
  have HSZ : Hid ((Tryz.prog.info? 36).map (·.size) = some (ltVal l s).size) := Lib.hid (by unfold ltVal; rw [lt_size _ _ _ _ h.ref]; kernel_rfl)
  have HH := Lib.hid h
  clear h
  go_enter Tryz.func11, Tryz.ntmps11
  go_wp2_with (first
    | (refine wpList_load_Row rfl _ _ rfl w.heap.size rfl (ltVal l s) HR0.out _ Tryz.underlying36 rfl HSZ.out ?_)
    | (go_at_call 13; refine (HH.out.valid _ HB0.out).mono ?_; rintro e w1 ⟨rfl, hb1⟩; have HB1 := Lib.hid (below_trans HB0.out hb1); have HR1 := Lib.hid (HR0.out.keep hb1); have hr1 := HR1.out.2; have hlt1 : w.heap.size < w1.heap.size := HR1.out.1; clear hb1))
  have HW1 : Hid (WIn ((w1.alloc (.cells #[pt w.heap.size, .slice none 0 0] 77)).alloc (.cells #[I l.kind, I l.src, I l.dst] 3)) w1.heap.size w.heap.size (ltVal l s) (.slice none 0 0) []) := Lib.hid (WIn.start HR1.out _)
  have HF1 : Hid (Far ((w1.alloc (.cells #[pt w.heap.size, .slice none 0 0] 77)).alloc (.cells #[I l.kind, I l.src, I l.dst] 3)) w1.heap.size (.slice none 0 0) (w1.heap.size + 1) #[I l.kind, I l.src, I l.dst]) := Lib.hid ⟨by have := Row.new (w1.alloc (.cells #[pt w.heap.size, .slice none 0 0] 77)) #[I l.kind, I l.src, I l.dst] 3; rwa [World.size_alloc] at this, by omega, by simp [Value.ownBlock]⟩
  have HB2 := Lib.hid (below_trans HB1.out (((Below.refl _ w1).alloc (Nat.le_refl _) (.cells #[pt w.heap.size, .slice none 0 0] 77)).alloc (by simp) (.cells #[I l.kind, I l.src, I l.dst] 3)))
  clear HB1 HR1 hr1 HB0 HR0
  go_loopw [26] (fun i wr => HdRel l s w w1.heap.size i wr) (fun i _ => 3 - (intOf i).toNat)
  case atStart => exact ⟨0, by omega, rfl, _, HW1.out, HF1.out, HB2.out⟩
  case round =>
    obtain ⟨k, hk, rfl, v, hw2, hf2, hb2⟩ := hrel
    have HW2 := Lib.hid hw2
    have HF2 := Lib.hid hf2
    have HB2 := Lib.hid hb2
    clear hw2 hb2 HW1 HF1
    by_cases hlt : k < 3
    · obtain ⟨z, hz0⟩ : ∃ z, [l.kind, l.src, l.dst][k]?.getD 0 = z := ⟨_, rfl⟩
      have hzz := hd_at l k hlt HH.out.kind HH.out.src HH.out.dst
      rw [hz0] at hzz
      have hcell : wr.cell? ⟨w1.heap.size + 1, k, none⟩ = some (I z) := (hf2.row.2 k).trans hzz.1
      have hfz : fits z := hzz.2
      have HZ0 := Lib.hid hz0
      clear hz0 hzz hf2
      go_wp2_with fail
      refine (number1 _ _ _ _ _ _ hfz (by rw [cellBytes_length, List.length_take]; omega) HW2.out.gl HW2.out.st).mono ?_
      intro e w3 hp
      obtain ⟨rfl, v3, hi3, hk3⟩ := hp.out HW2.out
      have HI3 := Lib.hid hi3
      have HF3 := Lib.hid (HF2.out.next hk3)
      have HB3 := Lib.hid (HB2.out.trans (hk3.below HW2.out (Nat.le_refl _)))
      clear hp hi3 hk3
      go_wp2
      go_roundw
      case rel => exact ⟨k + 1, by omega, by go_num, v3, by rw [take_snoc' _ _ hlt, HZ0.out, cellBytes_snoc]; exact HI3.out, HF3.out, HB3.out⟩
      case measure => simp [intOf]; omega
    · have hke : cellBytes ([l.kind, l.src, l.dst].take k) = hdBytes l := by rw [List.take_of_length_le (by simp; omega)]; rfl
      rw [hke] at HW2
      clear hke HF2 hf2
      have HW4 := Lib.hid (HW2.out.grow (below_var wr (.cells (wFns w1.heap.size) 79)))
      have HF4 : Hid (Far (wr.alloc (.cells (wFns w1.heap.size) 79)) w1.heap.size v wr.heap.size (wFns w1.heap.size)) := Lib.hid ⟨Row.new _ _ _, by have := HW2.out.gl; omega, fun e => by have := own_lt HW2.out.st.2 _ e.symm; omega⟩
      have HB4 := Lib.hid (below_trans HB2.out (below_var wr (.cells (wFns w1.heap.size) 79)))
      clear HW2 HB2
      go_wp2_with (first
        | (refine wpList_build_as rfl _ rfl (wFns w1.heap.size) (by kernel_rfl) ?_)
        | (refine wpList_var_row rfl rfl _ _ _ rfl rfl rfl rfl _ (wFns w1.heap.size) (wFns_info _) rfl rfl rfl (wFns_one _) ?_)
        | (go_at_call 26; refine (numbers_any _ _).mono ?_; rintro e w5 ⟨rfl, hb5⟩))
      have HW5 := Lib.hid (HW4.out.grow hb5)
      have HF5 := Lib.hid (HF4.out.grow hb5)
      have HB5 := Lib.hid (below_trans HB4.out hb5)
      clear HW4 HF4 HB4 hb5
      obtain ⟨fa, hfa⟩ : ∃ x, wr.heap.size = x := ⟨_, rfl⟩
      rw [hfa] at HF5 ⊢
      clear hfa hlt
      go_loopw [46] (fun i wx => FlRel l s sb w w1.heap.size fa i wx) (fun i _ => 17 - (intOf i).toNat)
      case atStart => exact ⟨0, by omega, rfl, v, by rw [fldsTo, List.append_nil]; exact HW5.out, HF5.out, HB5.out⟩
      case round =>
        clear HW5 HF5 HB5
        obtain ⟨k, hk, rfl, v, hw2, hf2, hb2⟩ := hrel
        have HW := Lib.hid hw2
        have HF := Lib.hid hf2
        have HB := Lib.hid hb2
        have hr2 := hw2.row.2
        have HL := Lib.hid (pre_le l sb k HH.out.cells HH.out.ref HH.out.sbl hk)
        clear hw2 hf2 hb2
        by_cases hlt : k < 17
        · have hix := fun W => index_nums w.heap.size k hlt W
          cases hu : usesB l.kind k
          · have HU := Lib.hid hu
            clear hu
            obtain ⟨q, hq⟩ : ∃ q, ptrAt w.heap.size k = q := ⟨_, rfl⟩
            rw [hq] at hix
            clear hq
            go_wp2_with (go_at_call 37; refine (uses_any _ _ _ (by omega) (by omega)).mono ?_; rintro e w6 ⟨rfl, hb6⟩; have HW6 := Lib.hid (HW.out.grow hb6); have HF6 := Lib.hid (HF.out.grow hb6); have HB6 := Lib.hid (below_trans HB.out hb6); rw [HU.out]; clear hb6)
            go_roundw
            case rel => exact ⟨k + 1, by omega, by go_num, v, by rw [fldsTo, HU.out, if_neg (by decide), List.append_nil]; exact HW6.out, HF6.out, HB6.out⟩
            case measure => simp [intOf]; omega
          have HU := Lib.hid hu
          clear hu
          cases ho : numOff k with
          | some o =>
            have hp : ptrAt w.heap.size k = .pointer (some ⟨w.heap.size, o, none⟩) := by unfold ptrAt; rw [ho]; rfl
            rw [hp] at hix
            have hcell := lt_num l (.slice s.A l.series.rule.length s.c) (.slice s.B l.series.moves.length s.d) (.slice s.C l.cells.length s.e) k o hlt ho
            have HFB : Hid (fldBytes l sb k = le (numF l k) 8) := Lib.hid (by unfold fldBytes; rw [ho]; rfl)
            have hfx := HH.out.num k hlt
            clear ho hp
            obtain ⟨x, hx⟩ : ∃ x, numF l k = x := ⟨_, rfl⟩
            rw [hx] at hcell HFB hfx
            have HFX := Lib.hid hfx
            clear hx hfx
            go_wp2_with (first
              | (go_at_call 37; refine (uses_any _ _ _ (by omega) (by omega)).mono ?_; rintro e w6 ⟨rfl, hb6⟩; have HW6 := Lib.hid (HW.out.grow hb6); have HF6 := Lib.hid (HF.out.grow hb6); have HB6 := Lib.hid (below_trans HB.out hb6); have hr6 := HW6.out.row.2; rw [HU.out]; clear hb6)
              | (go_at_call 31; refine (number8 _ _ _ _ _ _ HFX.out (Nat.le_trans HL.out (by omega)) HW6.out.gl HW6.out.st).mono ?_; intro e w7 hp; obtain ⟨rfl, v7, hi7, hk7⟩ := hp.out HW6.out; have HW7 := Lib.hid hi7; have HF7 := Lib.hid (HF6.out.next hk7); have HB7 := Lib.hid (HB6.out.trans (hk7.below HW6.out (Nat.le_refl _))); clear hp hi7 hk7))
            go_roundw
            case rel => exact ⟨k + 1, by omega, by go_num, v7, by rw [fldsTo, if_pos HU.out, HFB.out, ← List.append_assoc]; exact HW7.out, HF7.out, HB7.out⟩
            case measure => simp [intOf]; omega
          | none =>
            have hp : ptrAt w.heap.size k = .pointer none := by unfold ptrAt; rw [ho]
            rw [hp] at hix
            have hks : k = 9 ∨ k = 10 ∨ k = 14 ∨ k = 15 ∨ k = 16 := none_at k hlt ho
            clear ho hp
            rcases hks with rfl | rfl | rfl | rfl | rfl
            · -- field 9: move
              have hix' : ∀ W, (Instr.index 66 (.agg (numPtrs w.heap.size)) (.int .i64 9)).run Tryz.prog W = .ok (.pointer none) W := hix
              clear hix
              go_wp2_with (first
                | (go_at_call 37; refine (uses_any _ _ _ (by omega) (by omega)).mono ?_; rintro e w6 ⟨rfl, hb6⟩; have HW6 := Lib.hid (HW.out.grow hb6); have HF6 := Lib.hid (HF.out.grow hb6); have HB6 := Lib.hid (below_trans HB.out hb6); have hr6 := HW6.out.row.2; have hf6 : w6.cell? ⟨fa, 9, none⟩ = some (.func (.func 32) #[pt w1.heap.size] #[]) := HF6.out.row.2 9; first | rw [HU.out] | rw [show usesB l.kind 9 = true from HU.out]; clear hb6)
                | (go_at_call 32; refine (moveW_any _ _ _ l _ _ _ _ _ HW6.out (Nat.le_trans HL.out (by omega)) HH.out.mday HH.out.mto HH.out.mmin HH.out.mlen).mono ?_; intro e w7 hp; obtain ⟨rfl, v7, hi7, hk7⟩ := hp.out HW6.out; have HW7 := Lib.hid hi7; have HF7 := Lib.hid (HF6.out.next hk7); have HB7 := Lib.hid (HB6.out.trans (hk7.below HW6.out (Nat.le_refl _))); clear hp hi7 hk7))
              go_roundw
              case rel => exact ⟨10, by omega, by go_num, v7, by rw [fldsTo, if_pos HU.out, ← List.append_assoc]; exact HW7.out, HF7.out, HB7.out⟩
              case measure => simp [intOf]
            · -- field 10: series
              have hix' : ∀ W, (Instr.index 66 (.agg (numPtrs w.heap.size)) (.int .i64 10)).run Tryz.prog W = .ok (.pointer none) W := hix
              clear hix
              go_wp2_with (first
                | (go_at_call 37; refine (uses_any _ _ _ (by omega) (by omega)).mono ?_; rintro e w6 ⟨rfl, hb6⟩; have HW6 := Lib.hid (HW.out.grow hb6); have HF6 := Lib.hid (HF.out.grow hb6); have HB6 := Lib.hid (below_trans HB.out hb6); have hr6 := HW6.out.row.2; have hf6 : w6.cell? ⟨fa, 10, none⟩ = some (.func (.func 33) #[pt w1.heap.size] #[]) := HF6.out.row.2 10; first | rw [HU.out] | rw [show usesB l.kind 10 = true from HU.out]; clear hb6)
                | (go_at_call 33; refine (HH.out.ser HU.out _ _ _ _ _ HB6.out (Nat.le_refl _) HW6.out HL.out).mono ?_; intro e w7 hp; obtain ⟨rfl, v7, hi7, hk7⟩ := hp.out HW6.out; have HW7 := Lib.hid hi7; have HF7 := Lib.hid (HF6.out.next hk7); have HB7 := Lib.hid (HB6.out.trans (hk7.below HW6.out (Nat.le_refl _))); clear hp hi7 hk7))
              go_roundw
              case rel => exact ⟨11, by omega, by go_num, v7, by rw [fldsTo, if_pos HU.out, ← List.append_assoc]; exact HW7.out, HF7.out, HB7.out⟩
              case measure => simp [intOf]
            · -- field 14: window
              have hix' : ∀ W, (Instr.index 66 (.agg (numPtrs w.heap.size)) (.int .i64 14)).run Tryz.prog W = .ok (.pointer none) W := hix
              clear hix
              go_wp2_with (first
                | (go_at_call 37; refine (uses_any _ _ _ (by omega) (by omega)).mono ?_; rintro e w6 ⟨rfl, hb6⟩; have HW6 := Lib.hid (HW.out.grow hb6); have HF6 := Lib.hid (HF.out.grow hb6); have HB6 := Lib.hid (below_trans HB.out hb6); have hr6 := HW6.out.row.2; have hf6 : w6.cell? ⟨fa, 14, none⟩ = some (.func (.func 34) #[pt w1.heap.size] #[]) := HF6.out.row.2 14; first | rw [HU.out] | rw [show usesB l.kind 14 = true from HU.out]; clear hb6)
                | (go_at_call 34; refine (window_any _ _ _ l _ _ _ _ _ HW6.out (Nat.le_trans HL.out (by omega)) HH.out.wfrom HH.out.wto).mono ?_; intro e w7 hp; obtain ⟨rfl, v7, hi7, hk7⟩ := hp.out HW6.out; have HW7 := Lib.hid hi7; have HF7 := Lib.hid (HF6.out.next hk7); have HB7 := Lib.hid (HB6.out.trans (hk7.below HW6.out (Nat.le_refl _))); clear hp hi7 hk7))
              go_roundw
              case rel => exact ⟨15, by omega, by go_num, v7, by rw [fldsTo, if_pos HU.out, ← List.append_assoc]; exact HW7.out, HF7.out, HB7.out⟩
              case measure => simp [intOf]
            · -- field 15: cells
              have hix' : ∀ W, (Instr.index 66 (.agg (numPtrs w.heap.size)) (.int .i64 15)).run Tryz.prog W = .ok (.pointer none) W := hix
              clear hix
              go_wp2_with (first
                | (go_at_call 37; refine (uses_any _ _ _ (by omega) (by omega)).mono ?_; rintro e w6 ⟨rfl, hb6⟩; have HW6 := Lib.hid (HW.out.grow hb6); have HF6 := Lib.hid (HF.out.grow hb6); have HB6 := Lib.hid (below_trans HB.out hb6); have hr6 := HW6.out.row.2; have hf6 : w6.cell? ⟨fa, 15, none⟩ = some (.func (.func 35) #[pt w1.heap.size] #[]) := HF6.out.row.2 15; first | rw [HU.out] | rw [show usesB l.kind 15 = true from HU.out]; clear hb6)
                | (go_at_call 35; refine (cellsW_any _ _ _ l _ _ _ _ _ _ HW6.out (Nat.le_trans HL.out (by omega)) HH.out.cells (HH.out.ints.keep HB6.out) HH.out.fit).mono ?_; intro e w7 hp; obtain ⟨rfl, v7, hi7, hk7⟩ := hp.out HW6.out; have HW7 := Lib.hid hi7; have HF7 := Lib.hid (HF6.out.next hk7); have HB7 := Lib.hid (HB6.out.trans (hk7.below HW6.out (Nat.le_refl _))); clear hp hi7 hk7))
              go_roundw
              case rel => exact ⟨16, by omega, by go_num, v7, by rw [fldsTo, if_pos HU.out, ← List.append_assoc]; exact HW7.out, HF7.out, HB7.out⟩
              case measure => simp [intOf]
            · -- field 16: ref
              have hix' : ∀ W, (Instr.index 66 (.agg (numPtrs w.heap.size)) (.int .i64 16)).run Tryz.prog W = .ok (.pointer none) W := hix
              clear hix
              go_wp2_with (first
                | (go_at_call 37; refine (uses_any _ _ _ (by omega) (by omega)).mono ?_; rintro e w6 ⟨rfl, hb6⟩; have HW6 := Lib.hid (HW.out.grow hb6); have HF6 := Lib.hid (HF.out.grow hb6); have HB6 := Lib.hid (below_trans HB.out hb6); have hr6 := HW6.out.row.2; have hf6 : w6.cell? ⟨fa, 16, none⟩ = some (.func (.func 36) #[pt w1.heap.size] #[]) := HF6.out.row.2 16; first | rw [HU.out] | rw [show usesB l.kind 16 = true from HU.out]; clear hb6)
                | (go_at_call 36; refine (refW_any _ _ _ l _ _ _ _ _ HW6.out (Nat.le_trans HL.out (by omega)) HH.out.ref).mono ?_; intro e w7 hp; obtain ⟨rfl, v7, hi7, hk7⟩ := hp.out HW6.out; have HW7 := Lib.hid hi7; have HF7 := Lib.hid (HF6.out.next hk7); have HB7 := Lib.hid (HB6.out.trans (hk7.below HW6.out (Nat.le_refl _))); clear hp hi7 hk7))
              go_roundw
              case rel => exact ⟨17, by omega, by go_num, v7, by rw [fldsTo, if_pos HU.out, ← List.append_assoc]; exact HW7.out, HF7.out, HB7.out⟩
              case measure => simp [intOf]
        · have hke : k = 17 := by omega
          subst hke
          have hcv : wr.cell? ⟨w1.heap.size, 1, none⟩ = some v := cell_of_row wr w1.heap.size 1 _ _ _ HW.out.st.1
          clear hr2
          go_wp2
          go_ret2
          unfold BytesPost
          rw [if_pos rfl]
          exact ⟨⟨v, rfl, ownsRow_base HW.out.st.2 (by omega)⟩, HB.out⟩
end Go.Proofs.YtpgagfmpikhpkaaGreatDoor

/- bytes.Equal. -/
namespace Go.Proofs.YtpgagfmpikhpkaaGreatDoor
open Go Go.RowKit

def strB (bs : List UInt8) : ByteArray := ⟨bs.toArray⟩
theorem strB_toList (xs : List UInt8) : (strB xs).toList = xs := by rw [Lib.toList_data]; rfl
theorem conv_bytes (A : Option Addr) (bs : List UInt8) (c : Nat) (w : World) (B : Nat) (h : BytesAt w B A bs) :
    (convert 42 9 (.slice A bs.length c)).run Tryz.prog w = .ok (.string (strB bs)) w := by
  have e : strB bs = strOfNums (bs.map fun x => (x.toNat : Int)) := by
    unfold strB strOfNums
    congr 1
    rw [List.map_map]
    congr 1
    rw [show ((fun n : Int => UInt8.ofNat n.toNat) ∘ fun x : UInt8 => (x.toNat : Int)) = id from by funext x; simp]
    simp
  rcases h with h | ⟨b, off, rfl, _, hc⟩
  · obtain rfl := List.eq_nil_of_length_eq_zero h
    exact run_convert_bytes_zero w _ _ Tryz.underlying42 Tryz.underlying5 A c _ Tryz.underlying9
  · rw [e]
    refine run_convert_bytes_arg w _ _ Tryz.underlying42 Tryz.underlying5 b off bs.length c _ (by simp) (fun i hi => ?_) _ Tryz.underlying9
    rw [hc i hi]
    simp [List.getD, hi, Extern.Stop.cell]
set_option maxRecDepth 10000 in
set_option maxHeartbeats 1000000 in
theorem bytesEqual_any (w : World) (A A' : Option Addr) (xs ys : List UInt8) (c d B B' : Nat) (h1 : BytesAt w B A xs) (h2 : BytesAt w B' A' ys) :
    Calls Tryz.prog 52 #[.slice A xs.length c, .slice A' ys.length d] w fun e w' => e = .returned (.bool (xs == ys)) ∧ w' = w := by
  have e1 := conv_bytes A xs c w B h1
  have e2 := conv_bytes A' ys d w B' h2
  clear h1 h2
  go_enter Tryz.func52, Tryz.ntmps52
  go_wp2
  go_ret
  exact ⟨by show Ending.returned (.bool ((strB xs).toList == (strB ys).toList)) = _; rw [strB_toList, strB_toList], rfl⟩
end Go.Proofs.YtpgagfmpikhpkaaGreatDoor

/- letter.Read: the data. -/
namespace Go.Proofs.YtpgagfmpikhpkaaGreatDoor
open Go Go.RowKit

def setNum (l : Lt) (k : Nat) (x : Int) : Lt :=
  match k with
  | 0 => { l with meeting := x }
  | 1 => { l with edition := x }
  | 2 => { l with issuer := x }
  | 3 => { l with version := x }
  | 4 => { l with person := x }
  | 5 => { l with other := x }
  | 6 => { l with resource := x }
  | 7 => { l with scope := x }
  | 8 => { l with day := x }
  | 11 => { l with deadline := x }
  | 12 => { l with state := x }
  | 13 => { l with grain := x }
  | _ => l
theorem setNum_cells (l : Lt) (vr vm vc : Value) (x : Int) (k o : Nat) (hk : k < 17) (h : numOff k = some o) : ltCells (setNum l k x) vr vm vc = (ltCells l vr vm vc).setIfInBounds o (I x) :=
  all17 (p := fun k => ∀ o, numOff k = some o → ltCells (setNum l k x) vr vm vc = (ltCells l vr vm vc).setIfInBounds o (I x)) (by refine ⟨?_, ?_, ?_, ?_, ?_, ?_, ?_, ?_, ?_, ?_, ?_, ?_, ?_, ?_, ?_, ?_, ?_⟩ <;> (intro o h; first | (cases h; done) | (cases h; rfl))) k hk o h
theorem Row.set {w : World} {b o : Nat} {cs : Array Value} {u v : Value} (h : Row w b cs) (ho : cs[o]? = some u) : Row (w.setCell ⟨b, o, none⟩ v) b (cs.setIfInBounds o v) := by
  refine ⟨by simpa [World.setCell] using h.1, fun i => ?_⟩
  by_cases e : i = o
  · subst e
    rw [World.cell?_setCell_same' _ _ _ (by rw [h.2, ho]; rfl), Array.getElem?_setIfInBounds]
    have : i < cs.size := (Array.getElem?_eq_some_iff.1 ho).1
    simp [this]
  · rw [World.cell?_setCell_other _ _ _ _ (by intro h'; injection h' with h1 h2; exact e h2.symm), h.2, Array.getElem?_setIfInBounds_ne (fun h' => e h'.symm)]
/-- The letter read so far, what is left, and whether the reader has failed. -/
structure RS where
  l : Lt
  rest : List UInt8
  bad : Bool
def RS.num (r : RS) (size : Nat) : Int := rdN r.rest r.bad size
def RS.after (r : RS) (size : Nat) (l : Lt) : RS := ⟨l, tkR r.rest r.bad size, tkB r.rest r.bad size⟩
def rdKind (r : RS) : RS := r.after 1 { r.l with kind := r.num 1 }
def rdSrc (r : RS) : RS := r.after 1 { r.l with src := r.num 1 }
def rdDst (r : RS) : RS := r.after 1 { r.l with dst := r.num 1 }
def rdNum (r : RS) (k : Nat) : RS := r.after 8 (setNum r.l k (r.num 8))
def zMv : Mv := ⟨0, false, 0, 0, 0⟩
def zSer : Ser := ⟨[], 0, 0, ByteArray.empty, 0, 0, []⟩
def zLt : Lt := ⟨0, 0, 0, 0, 0, 0, 0, 0, 0, 0, 0, 0, zMv, zSer, 0, 0, 0, 0, 0, [], List.replicate 32 0⟩
def zSl : Sl := ⟨none, none, none, 0, 0, 0⟩
def rdHead (bs : List UInt8) : RS := rdDst (rdSrc (rdKind ⟨zLt, bs, false⟩))
/-- The fields of a letter that has numbers alone. -/
def rdTo (r : RS) : Nat → RS
  | 0 => r
  | k + 1 => if usesB r.l.kind k = true then rdNum (rdTo r k) k else rdTo r k
theorem setNum_kind (l : Lt) (k : Nat) (x : Int) : (setNum l k x).kind = l.kind := by unfold setNum; split <;> rfl
theorem rdTo_kind (r : RS) (k : Nat) : (rdTo r k).l.kind = r.l.kind := by
  induction k with
  | zero => rfl
  | succ k ih =>
    unfold rdTo
    split
    · exact (setNum_kind _ _ _).trans ih
    · exact ih
end Go.Proofs.YtpgagfmpikhpkaaGreatDoor

/- letter.Read: what holds between its steps. -/
namespace Go.Proofs.YtpgagfmpikhpkaaGreatDoor
open Go Go.RowKit

theorem lt_of_blk {w : World} {b : Nat} {o : Obj} (h : w.heap[b]? = some o) : b < w.heap.size := (Array.getElem?_eq_some_iff.1 h).1
theorem Row.of_blk {w : World} {b : Nat} {cs : Array Value} {t : TypeId} {fr : Nat × Nat} (h : w.heap[b]? = some (.cells cs t fr)) : Row w b cs :=
  ⟨lt_of_blk h, fun i => cell_of_row w b i cs t fr h⟩
/-- The letter under way in the variable, the reader, and what has not been touched. -/
structure RIn (w w' : World) (r : RS) : Prop where
  blk : w'.heap[w.heap.size + 1]? = some (.cells (ltVal r.l zSl) 36 (0, 0))
  st : RSt w' (w.heap.size + 2) (w.heap.size + 1) w.heap.size r.rest r.bad
  res : w'.heap[w.heap.size]? = some (.cells (ltVal zLt zSl) 36 (0, 0))
  lo : Below w.heap.size w w'
  sz : w.heap.size + 4 < w'.heap.size
theorem RIn.row {w w' : World} {r : RS} (h : RIn w w' r) : Row w' (w.heap.size + 1) (ltVal r.l zSl) := Row.of_blk h.blk
theorem RIn.froz {w w' : World} {r : RS} (h : RIn w w' r) (i : Nat) : w'.frozen? ⟨w.heap.size + 1, i, none⟩ = false := frozen_of_row w' (w.heap.size + 1) i _ _ h.blk
theorem RIn.grow {w w1 w2 : World} {r : RS} (h : RIn w w1 r) (hb : Below w1.heap.size w1 w2) : RIn w w2 r :=
  have hs := h.sz
  ⟨(hb.block _ (by omega)).trans h.blk, h.st.below hb (by omega) (by omega), (hb.block _ (by omega)).trans h.res, below_trans h.lo hb, Nat.lt_of_lt_of_le h.sz hb.size⟩
theorem RIn.call {w w1 w2 : World} {r : RS} {size : Nat} {e : Ending} (h : RIn w w1 r) (hg : NumGot w1 (w.heap.size + 2) (w.heap.size + 1) w.heap.size r.rest r.bad size e w2) :
    e = .returned (I (r.num size)) ∧ RIn w w2 (r.after size r.l) := by
  have hs := h.sz
  obtain ⟨h1, h2, h3⟩ := hg
  refine ⟨h1, (h3.block _ (by omega) (by omega) (by omega)).trans h.blk, h2, (h3.block _ (by omega) (by omega) (by omega)).trans h.res, ?_, Nat.lt_of_lt_of_le h.sz h3.size⟩
  exact ⟨h3.os.trans h.lo.os, h3.tape.trans h.lo.tape, h3.output.trans h.lo.output, Nat.le_trans h.lo.size h3.size, fun k hk => (h3.block k (by omega) (by omega) (by omega)).trans (h.lo.block k hk)⟩
theorem RIn.number {w w1 : World} {r : RS} (h : RIn w w1 r) (size : Nat) (h8 : size ≤ 8) :
    Calls Tryz.prog 46 #[pt (w.heap.size + 3), I size] w1 fun e w2 => e = .returned (I (r.num size)) ∧ RIn w w2 (r.after size r.l) :=
  (rnumber_any w1 (w.heap.size + 2) (w.heap.size + 1) w.heap.size size r.rest r.bad (by omega) (by have := h.sz; omega) h.st h8).mono fun _ _ hg => h.call hg
theorem RIn.store {w w1 : World} {r : RS} (h : RIn w w1 r) {o : Nat} {v : Value} {l' : Lt} (hl : ltVal l' zSl = (ltVal r.l zSl).setIfInBounds o v) :
    RIn w (w1.setCell ⟨w.heap.size + 1, o, none⟩ v) ⟨l', r.rest, r.bad⟩ := by
  have hs := h.sz
  have hb : Below (w.heap.size + 1) w1 (w1.setCell ⟨w.heap.size + 1, o, none⟩ v) := (Below.refl _ w1).setCell (p := ⟨w.heap.size + 1, o, none⟩) (Nat.le_refl _) _
  refine ⟨?_, ?_, (hb.block _ (by omega)).trans h.res, h.lo.trans (hb.mono (by omega)), Nat.lt_of_lt_of_le h.sz hb.size⟩
  · rw [heap_setCell_same w1 _ o _ _ _ h.blk]
    show _ = some (Obj.cells (ltVal l' zSl) _ _)
    rw [hl]
  · obtain ⟨A, c, hr, h1, h2, h3, h4⟩ := h.st
    exact ⟨A, c, ⟨(heap_setCell_other w1 _ _ _ (by simp)).trans hr.rest, (heap_setCell_other w1 _ _ _ (by simp)).trans hr.rd, (heap_setCell_other w1 _ _ _ (by simp)).trans hr.var⟩, h1, h2, h3.keep (hb.mono (by omega)), h4⟩
theorem RIn.draw {w w1 : World} {r : RS} (h : RIn w w1 r) : RIn w w1.drew r :=
  ⟨h.blk, by obtain ⟨A, c, hr, h1, h2, h3, h4⟩ := h.st; exact ⟨A, c, hr.draw, h1, h2, h3, h4⟩, h.res, ⟨h.lo.os, h.lo.tape, h.lo.output, h.lo.size, h.lo.block⟩, h.sz⟩

section
variable {P : Program} {ops : Array Oper} {Q : Exit → Act → World → Prop} {a : Act} {w : World} {rest : List Oper} {o : Oper}
/-- 'var x T' of a struct whose zero's cells have a name. -/
theorem wpList_alloc_as (hg : o.guard = none) (t : TypeId) (ho : o.op = .alloc t) (cells : Array Value) (hz : (P.info? t).map (fun i => (i.zero, i.size)) = some (some (.agg cells), cells.size))
    (h : wpList P ops Q rest (a.put o.dst (.pointer (some ⟨w.heap.size, 0, none⟩))) (w.alloc (.cells cells t))) : wpList P ops Q (o :: rest) a w := by
  refine wpList_plain hg fun K hK => ?_
  unfold Oper.wp execOp
  simp only [ho, Sem.run_bind, run_alloc_var w t (.agg cells) _ hz, Result.andThen_ok]
  exact hK _ _ h
end
/-- The table of the reader's methods, as it lies. -/
def rFns (g : Nat) : Array Value := #[.nilFunc, .nilFunc, .nilFunc, .nilFunc, .nilFunc, .nilFunc, .nilFunc, .nilFunc, .nilFunc, .func (.func 47) #[pt g] #[], .func (.func 48) #[pt g] #[], .nilFunc, .nilFunc, .nilFunc, .func (.func 49) #[pt g] #[], .func (.func 50) #[pt g] #[], .func (.func 51) #[pt g] #[]]
theorem rFns_one (g : Nat) : (rFns g).all (·.oneCell') = true := by kernel_rfl
theorem rFns_info (g : Nat) : (Tryz.prog.info? 79).map (fun i => (i.zero, i.size)) = some (some (.agg (Array.replicate 17 .nilFunc)), (rFns g).size) := by kernel_rfl
theorem lt_zero : (Tryz.prog.info? 36).map (fun i => (i.zero, i.size)) = some (some (.agg (ltVal zLt zSl)), (ltVal zLt zSl).size) := by kernel_rfl
end Go.Proofs.YtpgagfmpikhpkaaGreatDoor
