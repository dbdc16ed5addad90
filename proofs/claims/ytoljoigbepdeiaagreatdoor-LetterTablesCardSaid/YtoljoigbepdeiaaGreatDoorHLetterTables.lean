/- LetterTables: for every wire (a key, an issuer, a list of offsets) and every byte the law returns true, and the arguments read afterwards as before; then its tied card. No condition but the row's own: the listed variable kalends/digest.rounds starts as the program's text lays it (the tie is given). (The row's frame began as the print of the kit's proof-skeleton; the laid part follows the kit's worked example Mapy, the card its worked card.) -/
import Derived.Test.YtoljoigbepdeiaaGreatDoorRows
import Derived.Test.YtoljoigbepdeiaaGreatDoorTie
import Derived.Test.YtoljoigbepdeiaaGreatDoorCards
import Derived.Test.YtoljoigbepdeiaaGreatDoorG12
import Derived.Below
import Derived.BigQuiet
import Derived.ChangeOld
import Derived.Deep.AppendLies
import Derived.Deep.CutBlock
import Derived.Deep.DeepCutAuto
import Derived.Deep.DrawnRows
import Derived.Deep.MidRow
import Derived.Deep.QuietTactic
import Derived.Deep.RegionHeld3
import Derived.Deep.RegionLaw
import Derived.Deep.Strs
import Derived.WideShapes
import Derived.ChangeShapes
import Derived.Deep.WholeRow
import Derived.Defers
import Derived.Great.BuildSlice
import Derived.LaidMore
import Derived.Laws.AppendOwnNone
import Derived.Laws.BitsAllLaws
import Derived.Laws.BytesArg
import Derived.Laws.BytesString
import Derived.Laws.CopyOwn
import Derived.Laws.Cover3
import Derived.Laws.EntriesVeiled
import Derived.Laws.MakeOwn
import Derived.Laws.ResultCell
import Derived.Laws.Rows
import Derived.Laws.Tables
import Derived.Lib.AppendStr
import Derived.Lib.ByteType
import Derived.Lib.Hide
import Derived.LoopIn
import Derived.LoopNIn
import Derived.MapKept
import Derived.Maps.AppendAt
import Derived.OpenShut
import Derived.Outline
import Derived.OwnWalkIn
import Derived.ProofKit
import Derived.RangeFuncBound
import Derived.RangeFuncBox
import Derived.RangeFuncCalls
import Derived.RangeFuncLeaves
import Derived.RangeFuncNested
import Derived.Recover
import Derived.SevenTiedAt
import Derived.Shelf.Abstract
import Derived.Shelf.Bytes.SlSmallAll
import Derived.Shelf.RegionOpen
import Derived.ShutString
import Derived.StillTailTactics
import Derived.Stop.BytesEq
import Derived.Stop.Joined
import Derived.TacticsInMore
import Derived.WalkKit
import Derived.WalkLawsBesides
import Derived.WalkSpells
namespace Go.Proofs.YtoljoigbepdeiaaGreatDoor.letterTables
open Go Go.ChangeShapes Go.WideShapes Go.ChangeAt Go.RowKit
set_option linter.unusedVariables false

theorem own : ownKnob Tryz.prog.godebug = none := by kernel_rfl
theorem laidOut : laidOutB Tryz.prog = true := by kernel_rfl
/-- What the walk is told of the slice that came in. -/
def IsRow (k : IntKind) (w : World) (a : Option Addr) (len cap : Nat) (zs : List Int) : Prop :=
  (a = none ∧ len = 0 ∧ cap = 0 ∧ zs = []) ∨
  ∃ x, a = some x ∧ len ≤ cap ∧ cap ≤ maxLen ∧ zs.length = cap ∧ (∀ i, i < zs.length → w.cell? (x.add i) = some (.int k (zs.getD i 0))) ∧ ∀ n ∈ zs, (Lit.int k n).wf = true
theorem isRow_u8 {w : World} {a : Option Addr} {len cap : Nat} {zs : List Int} (h : IsRow .u8 w a len cap zs) :
    ∃ os : List Int, os.length = len ∧ (∀ z ∈ os, 0 ≤ z ∧ z < 256) ∧ (os.length = 0 ∨ ∃ b off, a = some ⟨b, off, none⟩ ∧ b < w.heap.size ∧ ∀ j z, os[j]? = some z → w.cell? ⟨b, off + j, none⟩ = some (.int .u8 z)) := by
  rcases h with ⟨rfl, rfl, rfl, rfl⟩ | ⟨x, rfl, hl, hm, hz, hc, hw⟩
  · exact ⟨[], rfl, (fun _ h => nomatch h), .inl rfl⟩
  · have hlen : (zs.take len).length = len := by rw [List.length_take]; omega
    refine ⟨zs.take len, hlen, fun z h => ?_, ?_⟩
    · have := bounds_u8 (hw z (List.mem_of_mem_take h))
      omega
    · by_cases h0 : len = 0
      · exact .inl (by rw [hlen, h0])
      · obtain ⟨b, off, rfl, hcell⟩ := ints_at hc (by omega)
        have hb : b < w.heap.size := by
          have h1 := hcell 0 (by omega)
          apply Classical.byContradiction
          intro hn
          have h2 : w.heap[b]? = none := Array.getElem?_eq_none (by omega)
          simp [World.cell?, h2] at h1
        refine .inr ⟨b, off, rfl, hb, fun j z hj => ?_⟩
        have hj2 := (List.getElem?_eq_some_iff.1 hj).1
        rw [hlen] at hj2
        rw [List.getElem?_take_of_lt hj2] at hj
        rw [hcell j (by omega), List.getD_eq_getElem?_getD, hj]
        rfl
theorem u8_cells (cs : List Value) (h : ∀ i, i < cs.length → ∃ n, (cs.drop i).take 1 = [Value.int .u8 n] ∧ (Lit.int .u8 n).wf = true) : ∃ key : List UInt8, cs = refCells key := by
  induction cs with
  | nil => exact ⟨[], rfl⟩
  | cons c cs ih =>
    obtain ⟨n, hn, hw⟩ := h 0 (by simp)
    obtain ⟨zs, hz⟩ := ih fun i hi => by
      obtain ⟨m, hm⟩ := h (i + 1) (by simpa using hi)
      exact ⟨m, by simpa using hm⟩
    refine ⟨n.toNat.toUInt8 :: zs, ?_⟩
    have hc : c = .int .u8 n := by simpa using hn
    have hb := bounds_u8 hw
    rw [hc, hz]
    have e : ((n.toNat.toUInt8).toNat : Int) = n := by
      have : n.toNat < 256 := by omega
      simp
      omega
    show _ = Extern.Stop.cell (n.toNat.toUInt8) :: _
    rw [show Extern.Stop.cell (n.toNat.toUInt8) = .int .u8 ((n.toNat.toUInt8).toNat : Int) from rfl, e]
    rfl
theorem open_wire {H : Type} {enc : TypeId × Value → H} {W : World} {spare : Nat → Bool} {held : Bool} {fuel : Nat} {cs : Array Value} {x : DataW H × List MemPlace} (hf : DataW.trod enc Tryz.prog W 0 spare held fuel 26 cs.toList = some x) (hsp : ∀ b, spare b = true) :
    ∃ (key : List UInt8) (iss : Int) (a : Option Addr) (len cap : Nat) (zs : List Int), key.length = 32 ∧ (0 ≤ iss ∧ iss < 256) ∧ cs = wireC key iss (.slice a len cap) ∧ IsRow .u8 W a len cap zs := by
  obtain ⟨y0, y1, y2, n, _, hl, t0, t1, t2⟩ := Go.Deep.trod_struct3 Tryz.underlying26 hf
  have c34 : Tryz.prog.cellsOf 26 = 34 := by kernel_rfl
  have c32 : Tryz.prog.cellsOf 23 = 32 := by kernel_rfl
  have c1 : Tryz.prog.cellsOf 5 = 1 := by kernel_rfl
  have c1' : Tryz.prog.cellsOf 24 = 1 := by kernel_rfl
  rw [c34] at hl
  obtain ⟨L, hL⟩ : ∃ L, cs.toList = L := ⟨_, rfl⟩
  rw [hL] at hl t0 t1 t2
  simp only [c32, c1, c1', List.drop_zero] at t0 t1 t2
  obtain ⟨xs, m1, _, _, hk, hn, hel⟩ := DataW.trod_array Tryz.underlying23 t0
  rw [c32] at hk
  obtain ⟨key, hkey⟩ := u8_cells (L.take 32) fun i hi => by
    have h1 := hel i (by omega)
    rw [c1, Nat.mul_one, List.getElem?_eq_getElem (by omega)] at h1
    obtain ⟨n, e, _, hw⟩ := DataW.trod_int Tryz.underlying5 h1
    exact ⟨n, e, hw⟩
  obtain ⟨iss, e1, _, hw1⟩ := DataW.trod_int Tryz.underlying5 t1
  have hkl : key.length = 32 := by
    have h := congrArg List.length hkey
    simpa [hl, refCells] using h.symm
  have hsplit : L = L.take 32 ++ ((L.drop 32).take 1 ++ (L.drop 33).take 1) := by
    have h1 : (L.drop 33).take 1 = L.drop 33 := List.take_of_length_le (by rw [List.length_drop]; omega)
    have h2 : L.drop 33 = (L.drop 32).drop 1 := by rw [List.drop_drop]
    rw [h1, h2, List.take_append_drop, List.take_append_drop]
  have hb := bounds_u8 hw1
  rcases open_ints Tryz.underlying24 Tryz.underlying5 (by kernel_rfl) t2 with ⟨hcs, _⟩ | ⟨a, len, cap, zs, hcs, _, h1, h2, h3, _, h4, h5⟩
  · refine ⟨key, iss, none, 0, 0, [], hkl, by omega, ?_, .inl ⟨rfl, rfl, rfl, rfl⟩⟩
    rw [hkey, e1, hcs] at hsplit
    rw [← Array.toArray_toList (xs := cs), hL, hsplit]
    rfl
  · refine ⟨key, iss, some a, len, cap, zs, hkl, by omega, ?_, .inr ⟨a, rfl, h1, h2, by rw [h3, hsp]; rfl, h4, h5⟩⟩
    rw [hkey, e1, hcs] at hsplit
    rw [← Array.toArray_toList (xs := cs), hL, hsplit]
    rfl
theorem u32_cells (cs : List Value) (h : ∀ i, i < cs.length → ∃ n, (cs.drop i).take 1 = [Value.int .u32 n]) : ∃ zs : List Int, cs = zs.map (Value.int .u32) := by
  induction cs with
  | nil => exact ⟨[], rfl⟩
  | cons c cs ih =>
    obtain ⟨n, hn⟩ := h 0 (by simp)
    obtain ⟨zs, hz⟩ := ih fun i hi => by
      obtain ⟨m, hm⟩ := h (i + 1) (by simpa using hi)
      exact ⟨m, by simpa using hm⟩
    refine ⟨n :: zs, ?_⟩
    have : c = .int .u32 n := by simpa using hn
    rw [this, hz]
    rfl
theorem gRounds : Tryz.prog.globalNamed "kalends/digest.rounds" = some 0 := by kernel_rfl
theorem tRounds : (Tryz.prog.globals[0]?).map (·.type) = some 209 := by kernel_rfl
/-- What the condition gives the walk: sixty-four numbers. -/
theorem of_laid {W : World} (h : laidMetH Tryz.prog Rows.letterTablesRow.laid W) : ∃ KR : List Int, KR.length = 64 ∧ RowU W 0 (cellsU KR) := by
  rw [MakeChecks.laidMetH_plain _ _ _ (by kernel_rfl)] at h
  obtain ⟨ps, ⟨g0, t0, cs0, f0, p0, q0, hg0, ht0, hv0, hd0, _, _⟩, _, _⟩ := h
  obtain rfl := Option.some.inj (gRounds.symm.trans hg0)
  obtain rfl := Option.some.inj (tRounds.symm.trans ht0)
  obtain ⟨xs, m1, rfl, hx1, hlen, hn, hel⟩ := DataW.trod_array Tryz.underlying209 hd0
  have c1 : Tryz.prog.cellsOf 145 = 1 := by kernel_rfl
  have c2 : Tryz.prog.cellsOf 209 = 64 := by kernel_rfl
  rw [c2] at hlen
  obtain ⟨zs, hz⟩ := u32_cells cs0.toList fun i hi => by
    have h1 := hel i (by omega)
    rw [c1, Nat.mul_one, List.getElem?_eq_getElem (by omega)] at h1
    obtain ⟨n, e, _, _⟩ := DataW.trod_int Tryz.underlying145 h1
    exact ⟨n, e⟩
  have hcs : cs0 = cellsU zs := by
    rw [← Array.toArray_toList (xs := cs0), hz]
    rfl
  have hcell := World.var?_cell hg0 hv0
  rw [hcs] at hcell
  have hl : zs.length = 64 := by rw [hz] at hlen; simpa using hlen
  refine ⟨zs, hl, ?_, hcell⟩
  have h0 := hcell 0
  apply Classical.byContradiction
  intro hn
  have h2 : W.heap[0]? = none := Array.getElem?_eq_none (by omega)
  rw [cellsU_get zs 0 (by omega)] at h0
  simp [World.cell?, h2] at h0

theorem walk (key : List UInt8) (iss : Int) (a0 : Option Addr) (len0 cap0 : Nat) (z0 : List Int) (bit : Int) (w : World) (hk : key.length = 32) (hi : 0 ≤ iss ∧ iss < 256) (w0 : IsRow .u8 w a0 len0 cap0 z0) (hb : (Lit.int .u8 bit).wf = true) (hL : ∃ KR : List Int, KR.length = 64 ∧ RowU w 0 (cellsU KR)) :
    Calls Tryz.prog 3 #[.agg (wireC key iss (.slice a0 len0 cap0)), .int .u8 bit] w fun e w' => e = .returned (.bool true) ∧ Below w.heap.size w w' := by
  obtain ⟨os, h1, h2, h3⟩ := isRow_u8 w0
  obtain ⟨KR, hK, hG⟩ := hL
  exact law_front KR hK w hG (Nat.lt_of_le_of_lt (Nat.zero_le _) hG.1) key hk iss hi bit (bounds_u8 hb).1 a0 len0 cap0 os h1 h2 h3

/-- The door's own heap meets the condition. -/
theorem door_met (os : Os) (args : Array Value) : laidMetH Tryz.prog Rows.letterTablesRow.laid ((World.doorLaid Tryz.prog 400 os).forCall (fun _ _ => 0) ⟨#[], args, []⟩).memory :=
  laidMetH_of_parts3 (fuel := 8) (laidMet_of_run' 8 (by kernel_rfl) (by kernel_rfl)) (by kernel_rfl) (by kernel_rfl)

set_option maxRecDepth 100000 in
theorem lifted (os : Os) (started : os.Started) (H : Type) (enc : TypeId × Value → H) :
    ReturnsInHanded {} Tryz.checked os 3 .any (fun w args => (Rows.letterTablesSpec.pre enc Tryz.prog Tryz.f3 [] false w args ∧ laidMetH Tryz.prog Rows.letterTablesRow.laid w) ∧ sizedMet enc Tryz.prog Tryz.f3 (OpenSpec.ofChange Rows.letterTablesSpec) false w args)
      (Rows.letterTablesSpec.post enc Tryz.prog Tryz.f3 false true false false) := by
  refine returnsInHanded_of_change_and (C := Tryz.checked) (X := fun w _ => laidMetH Tryz.prog Rows.letterTablesRow.laid w) (fun _ _ _ hh h => h.of_heap hh) own started (by kernel_rfl) Tryz.func3
    (ChangeSpec.witness_shaped (enc := enc) (C := Tryz.checked) (os := os) (X := fun w _ => laidMetH Tryz.prog Rows.letterTablesRow.laid w) false (World.doorLaid Tryz.prog 400 os) #[.agg (wireC (List.replicate 32 0) 0 (.slice none 0 0)), .int .u8 0] 8 rfl (World.shaped_of_RefB (by kernel_rfl) (by kernel_rfl)) (by kernel_rfl) (by kernel_rfl) (by kernel_rfl) (door_met os _)) ?_
  intro W base args ds gs before hval0 hW _ _ hL _
  have hval : ∀ (j : Nat) t v, Tryz.f3.params[j]? = some t → args[j]? = some v → Value.okWide Tryz.prog W .any base t v := hval0
  have hW' := hW
  obtain ⟨p, q, hA0, hV, rfl, hfz, hnd⟩ := hW
  have hA : DataW.TrodAll enc Tryz.prog W 0 (fun _ => true) true Tryz.f3.params.toList args.toList ds p := hA0
  rw [Tryz.params3] at hA hval
  obtain ⟨v0, vs0, d0, ds0, p0, q0, hargs, rfl, rfl, h0, r0⟩ := trodAll_cons hA
  obtain ⟨v1, vs1, d1, ds1, p1, q1, rfl, rfl, rfl, h1, r1⟩ := trodAll_cons r0
  obtain ⟨rfl, rfl, rfl⟩ := trodAll_nil r1
  obtain rfl : args = #[v0, v1] := by cases args; simp_all
  obtain ⟨rfl, rfl⟩ := trodVars_none hV
  obtain ⟨cs, rfl, _⟩ := okWide_struct Tryz.underlying26 (hval 0 26 v0 rfl rfl)
  have k0 := h0
  have lt0 : ∀ x ∈ p0, x.block < W.heap.size := by obtain ⟨m, hm⟩ := k0; exact DataW.trod_lt m _ _ _ hm
  obtain ⟨fuel, hf⟩ := h0
  obtain ⟨key, iss, a0, len0, cap0, z0, hk, hi, rfl, w0⟩ := open_wire hf (fun _ => rfl)
  obtain ⟨a1, rfl, rfl, rfl, w1⟩ := open_int Tryz.underlying5 (hval 1 5 v1 rfl rfl) h1
  clear hA0 hval0
  refine (walk key iss a0 len0 cap0 z0 a1 W hk hi w0 w1 (of_laid hL)).mono fun e W' ⟨he, bel⟩ => ?_
  subst he
  exact ⟨_, rfl, _, _, _, [], _, [], hW', trodAll_mk1 (shut_bool Tryz.underlying4 _), (trodAll_cons_mk (Below.trod laidOut (by kernel_rfl) (of_decide_eq_true (by kernel_rfl)) k0 bel lt0) (trodAll_cons_mk (shut_int Tryz.underlying5 w1) trodAll_mk0)), rfl, bel.frame _, fun h => by cases h⟩

theorem over : Rows.LetterTablesSaid :=
  OpenClaim.holds_of_wide 3 Tryz.f3 rfl rfl rfl rfl rfl rfl rfl ⟨rfl, rfl, rfl, rfl, rfl⟩ rfl rfl rfl rfl rfl (by kernel_rfl) Tryz.func3 (by kernel_rfl)
    (of_decide_eq_true (by kernel_rfl)) (by unfold Func.isWrapper; first | (rw [if_pos (by decide +kernel)]; kernel_rfl) | (rw [if_neg (by decide +kernel)]; exact ⟨rfl, rfl⟩))
    (fun os started H enc _ => lifted os started H enc)

/-- The card. -/
theorem proved : Rows.LetterTablesCardSaid :=
  Claim7.holds_tied_plain_at .later [] [.data] true Rows.letterTablesCard.stood.harness true
    over (fun _ h => by cases h) (by kernel_rfl) (fun _ h => by cases h) letterTables_row_tie rfl ⟨rfl, rfl⟩ (by kernel_rfl) rfl
    (fun f fn hf hfn => by
      obtain rfl : f = 3 := Option.some.inj ((show Tryz.prog.funcNamed "kalends/kalendslaw20.LetterTables" = some 3 by kernel_rfl).symm.trans hf) |>.symm
      obtain rfl : fn = Tryz.f3 := (Option.some.inj (Tryz.func3.symm.trans hfn)).symm
      exact ⟨by kernel_rfl, fun j t ht => by
        rw [Tryz.params3] at ht
        have hm : t ∈ [26, 5] := by simpa using Array.mem_of_getElem? ht
        have hall : ([26, 5].all fun u => !Tryz.prog.wantsStandIn u) = true := by kernel_rfl
        exact (show Tryz.prog.wantsStandIn t = false by simpa using List.all_eq_true.1 hall t hm)⟩)
    (by kernel_rfl)
#print axioms proved
end Go.Proofs.YtoljoigbepdeiaaGreatDoor.letterTables
