/- The texts SwT, RsF, RsG, SwB, RsS, RsD, RsM, RsE, in this order. -/
import Derived.Test.YtenbgpcdoljkgaaGreatDoorG06
import Derived.Lib.AppendStr
import Derived.Laws.BytesArg
/- (*series.writer).text: a string's length and its bytes, appended. -/
namespace Go.Proofs.YtenbgpcdoljkgaaGreatDoor
open Go Go.RowKit

set_option maxRecDepth 10000 in
theorem run_app_str (w : World) (base : Nat) (ty : TypeId) (v : Value) (n : Nat) (xs : List Value) (hown : w.ownsRow base 5 1 v n xs) (s : ByteArray) (hlen : n + s.size ≤ 1000000000000) (hbase : base ≤ w.heap.size) :
    ∃ v' w', (Builtin.append_ #[38, 9] ty #[v, .string s]).run Tryz.prog w = .ok v' w' ∧ w'.ownsRow base 5 1 v' (n + s.size) (xs ++ Lib.strCells s) ∧ w.grownBy w' v.ownBlock ∧ (v'.ownBlock = v.ownBlock ∨ v'.ownBlock = some w.heap.size) := by
  obtain ⟨i0, hi, hz0, hz1, hz2⟩ := info_parts info_u8
  obtain ⟨v', w', hr, h2, h3, h4⟩ := Lib.run_append_own_string (P := Tryz.prog) w base 38 9 ty 5 i0 Tryz.underlying38 Tryz.underlying9 hi hz0 hz1 hz2 v n xs hown s (by unfold maxLen; omega) (by omega) hbase
  refine ⟨v', w', hr, h2, h3, ?_⟩
  have hxl : xs.length = n := by simpa using hown.1
  rcases hown.2 with ⟨rfl, rfl⟩ | ⟨g, cap, cur, rfl, hbg, hg, hnc, hcm, hcs, htake⟩
  · by_cases h0 : s.size = 0
    · left; rw [h4.2 ⟨rfl, h0⟩]
    · right
      have hr' := run_append_nil_string (P := Tryz.prog) w 38 9 ty 5 i0 (.int .u8 0) Tryz.underlying38 Tryz.underlying9 hi hz0 s (by omega) (by omega) (by rw [hz2]; omega)
      rw [hr] at hr'
      injection hr' with hv _
      rw [hv]; rfl
  · by_cases hroom : n + s.size ≤ cap
    · left
      have hr' := Lib.run_append_room_string (P := Tryz.prog) w 38 9 ty 5 i0 Tryz.underlying38 Tryz.underlying9 hi hz1 g n cap cur hg s hroom (by omega)
      rw [hr] at hr'
      injection hr' with hv _
      rw [hv]; rfl
    · right
      have holds : ∀ j u, xs[j]? = some u → w.cell? ((⟨g, 0, none⟩ : Addr).add j) = some u := hown.cells (g := g) rfl
      have hr' := Lib.run_append_grow_string (P := Tryz.prog) w 38 9 ty 5 i0 (.int .u8 0) Tryz.underlying38 Tryz.underlying9 hi hz0 ⟨g, 0, none⟩ n cap xs (by rw [hz1]; omega) holds s (by omega) (by omega) (by rw [hz2]; exact growslice_fits (by omega) (by omega))
      rw [hr] at hr'
      injection hr' with hv _
      rw [hv]; rfl
set_option maxRecDepth 10000 in
theorem wpList_app_str {ops : Array Oper} {rest : List Oper} {o : Oper} {a : Act} {Q : Exit → Act → World → Prop} {w : World} (hgd : o.guard = none) (sl x : Operand)
    (ho : o.op = .call { callee := .builtin .append, args := #[sl, x], argTypes := #[38, 9] }) (base : Nat) (v : Value) (n : Nat) (xs : List Value) (hs : a.eval sl = v) (hown : w.ownsRow base 5 1 v n xs) (s : ByteArray) (hx : a.eval x = .string s)
    (hlen : n + s.size ≤ 1000000000000) (hbase : base ≤ w.heap.size)
    (h : ∀ v' w', w'.ownsRow base 5 1 v' (n + s.size) (xs ++ Lib.strCells s) → w.grownBy w' v.ownBlock → (v'.ownBlock = v.ownBlock ∨ v'.ownBlock = some w.heap.size) → wpList Tryz.prog ops Q rest (a.put o.dst v') w') : wpList Tryz.prog ops Q (o :: rest) a w := by
  refine wpList_plain hgd fun K hK => ?_
  obtain ⟨v', w', hr, h2, h3, h4⟩ := run_app_str w base o.type v n xs hown s hlen hbase
  unfold Oper.wp execOp
  simp only [ho, resolve, invoke, builtin, Sem.run_bind, Sem.run_pure, Result.andThen_ok, List.map_toArray, List.map_cons, List.map_nil, hs, hx, hr]
  exact hK _ _ (h v' w' h2 h3 h4)
theorem SWt.alloc {w : World} {g : Nat} {v : Value} {bs : List UInt8} (h : SWt w g v bs) (hg : g < w.heap.size) (o : Obj) : SWt (w.alloc o) g v bs ∧ WKeep g v w v (w.alloc o) :=
  ⟨⟨(Below.heap_alloc w o g hg).trans h.1, h.2.alloc o⟩, ⟨rfl, rfl, rfl, by simp, fun k hk _ _ => Below.heap_alloc w o k hk, .inl rfl⟩⟩
theorem ints_new {w : World} {g : Nat} {v : Value} {bs : List UInt8} (h : SWt w g v bs) (hg : g < w.heap.size) (zs : List Int) : IntsFar (w.alloc (.cells (zs.map I).toArray 3)) g v (some ⟨w.heap.size, 0, none⟩) zs := by
  refine .inr ⟨w.heap.size, 0, rfl, by simp, by omega, fun e => ?_, fun j hj => ?_⟩
  · have := own_lt h.2 w.heap.size e.symm; omega
  · rw [(Row.new w _ _).2 (0 + j)]
    simp [List.getElem?_eq_getElem hj]
/-- numbers of a list that was just made. -/
theorem snumbers_new (w : World) (g : Nat) (v : Value) (bs : List UInt8) (zs : List Int) (hfit : ∀ z ∈ zs, fits z) (hl : bs.length ≤ 1000000000) (hn2 : zs.length ≤ 1000000) (hg : g < w.heap.size) (hst : SWt w g v bs) :
    Calls Tryz.prog 63 #[.pointer (some ⟨g, 0, none⟩), .slice (some ⟨w.heap.size, 0, none⟩) zs.length zs.length] (w.alloc (.cells (zs.map I).toArray 3)) fun e w' => e = .returned (.tuple #[]) ∧ ∃ v', SWt w' g v' (bs ++ leAll zs) ∧ WKeep g v w v' w' := by
  obtain ⟨h1, h2⟩ := hst.alloc hg (.cells (zs.map I).toArray 3)
  refine (snumbers_any _ g v bs _ zs.length zs.length zs rfl (ints_new hst hg zs) (fun j hj => ?_) hl hn2 (by simp; omega) h1).mono fun e w' ⟨he, v', h3, h4⟩ => ⟨he, v', h3, h2.trans h4⟩
  rw [List.getElem?_eq_getElem hj]
  exact hfit _ (List.getElem_mem hj)
def textBytes (s : ByteArray) : List UInt8 := le s.size 8 ++ s.data.toList
theorem leAll_one (z : Int) : leAll [z] = le z 8 := by simp [leAll]
set_option maxRecDepth 10000 in
set_option maxHeartbeats 2000000 in
theorem stext_any (w : World) (g : Nat) (v : Value) (bs : List UInt8) (s : ByteArray) (hs : s.size ≤ 1000000) (hl : bs.length ≤ 900000000) (hg : g < w.heap.size) (hst : SWt w g v bs) :
    Calls Tryz.prog 64 #[.pointer (some ⟨g, 0, none⟩), .string s] w (SNum w g v (bs ++ textBytes s)) := by
  have HC := Lib.hid (snumbers_new w g v bs [(s.size : Int)] (by intro z hz; rw [List.mem_singleton.1 hz]; unfold fits; omega) (by omega) (by simp) hg hst)
  clear hst
  go_enter Tryz.func64, Tryz.ntmps64
  go_wp2_with fail
  refine HC.out.mono ?_
  rintro e w1 ⟨rfl, v1, hw1, hk1⟩
  rw [leAll_one] at hw1
  have hlen : (bs ++ le (s.size : Int) 8).length ≤ 900000008 := by rw [List.length_append, le_length]; omega
  obtain ⟨B, hB⟩ : ∃ B, bs ++ le (s.size : Int) 8 = B := ⟨_, rfl⟩
  rw [hB] at hw1 hlen
  have HB := Lib.hid hB
  have HW := Lib.hid hw1
  have HK := Lib.hid hk1
  have hc1 := cell_of_row w1 g 0 _ _ _ hw1.1
  have hg1 : g < w1.heap.size := Nat.lt_of_lt_of_le hg hk1.size
  clear hB hw1 hk1 HC
  go_wp2_with (at_builtin; refine wpList_app_str rfl _ _ rfl (g + 1) v1 B.length (B.map Extern.Stop.cell) rfl HW.out.2 s rfl ?c1 ?c2 ?_)
  case c1 => omega
  case c2 => omega
  intro v' w2 hown hgrow hat
  have hS := swt_app (m := B.length + s.size) (xs := s.data.toList) HW.out hg1 (Nat.le_refl _) (fun k _ => rfl) rfl rfl rfl (by rw [Array.length_toList]; rfl) hown hgrow (hat.elim .inl fun e => .inr ⟨_, e, Nat.le_refl _⟩)
  have hf : ∃ g' cap', v' = .slice (some ⟨g', 0, none⟩) (B.length + s.size) cap' := by
    have hb8 : B.length = bs.length + 8 := by rw [← HB.out, List.length_append, le_length]
    obtain ⟨g', cap', h, _⟩ := own_form hown (by omega)
    exact ⟨g', cap', h⟩
  obtain ⟨g', cap', rfl⟩ := hf
  have HSS := Lib.hid hS
  have hc2 : w2.cell? ⟨g, 0, none⟩ = some v1 := cell_of_row w2 g 0 _ _ _ hS.1
  have hf2 := frozen_of_row w2 g 0 _ _ hS.1
  clear hown hgrow hat hS hc1
  go_wp2_with fail
  go_end0
  exact ⟨rfl, _, by unfold textBytes; rw [← List.append_assoc, HB.out]; exact HSS.out.2.1, HK.out.trans HSS.out.2.2⟩
end Go.Proofs.YtenbgpcdoljkgaaGreatDoor

/- The series' reader: numbers, counts, texts, several numbers at once (where the bytes are there). -/
namespace Go.Proofs.YtenbgpcdoljkgaaGreatDoor
open Go Go.RowKit

def SNumR (w : World) (rb : Nat) (x : Int) (R : List UInt8) (e : Ending) (w' : World) : Prop := e = .returned (I x) ∧ SRd w' rb R ∧ MKeep rb w w'
theorem snum_le (w : World) (rb : Nat) (x : Int) (R : List UInt8) (hx : fits x) (hr : SRd w rb (le x 8 ++ R)) : Calls Tryz.prog 133 #[pt rb] w (SNumR w rb x R) :=
  (snumber_yes w rb _ hr (by rw [List.length_append, le_length]; omega)).mono fun e w' ⟨h1, h2, h3⟩ => by
    rw [num8_le x hx R] at h1
    rw [drop_le] at h2
    exact ⟨h1, h2, h3⟩
set_option maxRecDepth 10000 in
set_option maxHeartbeats 1000000 in
theorem count_yes (w : World) (rb n : Nat) (R : List UInt8) (hn : n ≤ R.length) (hb : n ≤ 1000000000) (hr : SRd w rb (le n 8 ++ R)) : Calls Tryz.prog 113 #[pt rb] w (SNumR w rb n R) := by
  have HN := Lib.hid (snum_le w rb n R (by unfold fits; omega) hr)
  clear hr
  go_enter Tryz.func113, Tryz.ntmps113
  go_wp2_with fail
  refine HN.out.mono ?_
  rintro e w1 ⟨rfl, hr1, hk1⟩
  have HR1 := Lib.hid hr1
  have HK1 := Lib.hid hk1
  obtain ⟨bb, off, c, h1, _⟩ := hr1
  obtain ⟨m, hm⟩ : ∃ m, R.length = m := ⟨_, rfl⟩
  rw [hm] at h1 hn
  have hc0 : w1.cell? ⟨rb, 0, none⟩ = some (.slice (some ⟨bb, off, none⟩) m c) := cell_of_row w1 rb 0 _ _ _ h1
  have n0 : ¬ (n : Int) < 0 := by omega
  have n1 : ¬ (m : Int) < (n : Int) := by omega
  clear hk1 h1 hm
  go_wp2_with fail
  go_ret
  exact ⟨rfl, HR1.out, HK1.out⟩
theorem rconv_bytes (w : World) (bb off c : Nat) (s : ByteArray) (h : ∀ j, j < s.size → w.cell? ⟨bb, off + j, none⟩ = some (Extern.Stop.cell (s.data.toList[j]?.getD 0))) :
    (convert 38 9 (.slice (some ⟨bb, off, none⟩) s.size c)).run Tryz.prog w = .ok (.string s) w := by
  have e : strOfNums (s.data.toList.map fun (b : UInt8) => ((b.toNat : Nat) : Int)) = s := by
    unfold strOfNums
    rw [List.map_map]
    have : ((fun n : Int => UInt8.ofNat n.toNat) ∘ fun (b : UInt8) => ((b.toNat : Nat) : Int)) = id := by
      funext b
      simp
    rw [this, List.map_id]
  have hl : s.data.toList.length = s.size := Array.length_toList
  have hr := run_convert_bytes_arg (P := Tryz.prog) w 38 5 Tryz.underlying38 Tryz.underlying5 bb off s.size c (s.data.toList.map fun (b : UInt8) => ((b.toNat : Nat) : Int)) (by rw [List.length_map, hl]) (fun i hi => by
    rw [h i hi]
    have hx : s.data.toList[i]? = some s.data.toList[i] := List.getElem?_eq_getElem (by omega)
    rw [hx, List.getD_eq_getElem?_getD, List.getElem?_map, hx]
    rfl) 9 Tryz.underlying9
  rw [e] at hr
  exact hr
def STextR (w : World) (rb : Nat) (s : ByteArray) (R : List UInt8) (e : Ending) (w' : World) : Prop := e = .returned (.string s) ∧ SRd w' rb R ∧ MKeep rb w w'
set_option maxRecDepth 10000 in
set_option maxHeartbeats 1000000 in
theorem text_yes (w : World) (rb : Nat) (s : ByteArray) (R : List UInt8) (hs : s.size ≤ 1000000) (hr : SRd w rb (textBytes s ++ R)) : Calls Tryz.prog 116 #[pt rb] w (STextR w rb s R) := by
  unfold textBytes at hr
  rw [List.append_assoc] at hr
  have HN := Lib.hid (snum_le w rb s.size (s.data.toList ++ R) (by unfold fits; omega) hr)
  have hl : s.data.toList.length = s.size := Array.length_toList
  have HL := Lib.hid hl
  clear hr hl
  go_enter Tryz.func116, Tryz.ntmps116
  go_wp2_with fail
  refine HN.out.mono ?_
  rintro e w1 ⟨rfl, hr1, hk1⟩
  have HR1 := Lib.hid hr1
  have HK1 := Lib.hid hk1
  clear hr1 hk1
  go_wp2_with fail
  refine (rbytes_some w1 rb s.size (s.data.toList ++ R) HR1.out (by rw [List.length_append, HL.out]; omega)).mono ?_
  rintro e w2 ⟨bb, off, c, rfl, hc1, hc2, hby, hr2, hk2⟩
  have e1 : (s.data.toList ++ R).take s.size = s.data.toList := by rw [← HL.out, List.take_append_of_le_length (Nat.le_refl _), List.take_of_length_le (Nat.le_refl _)]
  have e2 : (s.data.toList ++ R).drop s.size = R := by rw [← HL.out, List.drop_append_of_le_length (Nat.le_refl _), List.drop_of_length_le (Nat.le_refl _)]; rfl
  rw [e1] at hby
  rw [e2] at hr2
  have hcv := rconv_bytes w2 bb off c s (fun j hj => by
    rcases hby with h | ⟨b, o, hA, _, hcl⟩
    · rw [HL.out] at h; omega
    · injection hA with hA
      injection hA with h3 h4
      subst h3 h4
      exact hcl j (by rw [HL.out]; exact hj))
  have HR2 := Lib.hid hr2
  have HK2 := Lib.hid hk2
  clear hby hr2 hk2 e1 e2
  go_wp2_with fail
  go_ret
  exact ⟨rfl, HR2.out, HK1.out.trans HK2.out⟩
end Go.Proofs.YtenbgpcdoljkgaaGreatDoor

/- (*series.reader).fill: numbers read into given places. -/
namespace Go.Proofs.YtenbgpcdoljkgaaGreatDoor
open Go Go.RowKit

def setO (x : Option Obj) (o : Nat) (v : Value) : Option Obj :=
  match x with
  | some (.cells cs t fr) => some (.cells (cs.setIfInBounds o v) t fr)
  | y => y
/-- A block after the numbers are put: the places are (block, offset). -/
def putsB (b : Nat) (l : List ((Nat × Nat) × Int)) (x : Option Obj) : Option Obj := l.foldl (fun x p => if p.1.1 = b then setO x p.1.2 (I p.2) else x) x
theorem putsB_snoc (b : Nat) (l : List ((Nat × Nat) × Int)) (p : (Nat × Nat) × Int) (x : Option Obj) : putsB b (l ++ [p]) x = if p.1.1 = b then setO (putsB b l x) p.1.2 (I p.2) else putsB b l x := by simp [putsB]
/-- No cell of it is a byte. -/
def notByte (v : Value) : Bool := match v with | .int .u8 _ => false | _ => true
def NB (cs : Array Value) : Prop := cs.all notByte = true
theorem NB.set {cs : Array Value} (h : NB cs) (o : Nat) (v : Value) (hv : notByte v = true) : NB (cs.setIfInBounds o v) := by
  unfold NB at *
  rw [Array.all_eq_true_iff_forall_mem] at *
  intro u hu
  rcases Array.mem_or_eq_of_mem_setIfInBounds hu with h1 | h1
  · exact h u h1
  · rw [h1]; exact hv
theorem NB.get {cs : Array Value} (h : NB cs) (i : Nat) (x : UInt8) : cs[i]? ≠ some (Extern.Stop.cell x) := by
  intro e
  unfold NB at h
  rw [Array.all_eq_true_iff_forall_mem] at h
  have h1 := h _ (Array.mem_of_getElem? e)
  cases h1
theorem putsB_cells (b : Nat) (l : List ((Nat × Nat) × Int)) : ∀ (cs : Array Value) (t : TypeId), NB cs → ∃ cs' : Array Value, putsB b l (some (.cells cs t (0, 0))) = some (.cells cs' t (0, 0)) ∧ cs'.size = cs.size ∧ NB cs' := by
  induction l with
  | nil => intro cs t h; exact ⟨cs, rfl, rfl, h⟩
  | cons p l ih =>
    intro cs t hnb
    unfold putsB at *
    rw [List.foldl_cons]
    by_cases h : p.1.1 = b
    · rw [if_pos h]
      obtain ⟨cs', h1, h2, h3⟩ := ih (cs.setIfInBounds p.1.2 (I p.2)) t (hnb.set _ _ rfl)
      exact ⟨cs', h1, by rw [h2, Array.size_setIfInBounds], h3⟩
    · rw [if_neg h]
      exact ih cs t hnb
theorem putsB_none (b : Nat) (l : List ((Nat × Nat) × Int)) (h : ∀ p ∈ l, p.1.1 ≠ b) (x : Option Obj) : putsB b l x = x := by
  induction l with
  | nil => rfl
  | cons p l ih =>
    unfold putsB at *
    rw [List.foldl_cons, if_neg (h p List.mem_cons_self)]
    exact ih fun q hq => h q (List.mem_cons_of_mem _ hq)
structure FPut (w : World) (rb : Nat) (l : List ((Nat × Nat) × Int)) (w' : World) : Prop where
  os : w'.os = w.os
  tape : w'.tape = w.tape
  output : w'.output = w.output
  size : w.heap.size ≤ w'.heap.size
  block : ∀ k, k < w.heap.size → k ≠ rb → w'.heap[k]? = putsB k l w.heap[k]?
structure TgtOK (w : World) (rb ab : Nat) (t : Nat × Nat) : Prop where
  rb : t.1 ≠ rb
  ab : t.1 ≠ ab
  lies : ∃ cs ty, w.heap[t.1]? = some (.cells cs ty (0, 0)) ∧ t.2 < cs.size ∧ NB cs
theorem TgtOK.lt {w : World} {rb ab : Nat} {t : Nat × Nat} (h : TgtOK w rb ab t) : t.1 < w.heap.size := by
  obtain ⟨cs, ty, h1, _⟩ := h.lies
  exact (Array.getElem?_eq_some_iff.1 h1).1
theorem FPut.refl (w : World) (rb : Nat) : FPut w rb [] w := ⟨rfl, rfl, rfl, Nat.le_refl _, fun _ _ _ => rfl⟩
theorem FPut.keep {w w1 w2 : World} {rb : Nat} {l : List ((Nat × Nat) × Int)} (h : FPut w rb l w1) (k : MKeep rb w1 w2) : FPut w rb l w2 :=
  ⟨k.os.trans h.os, k.tape.trans h.tape, k.output.trans h.output, Nat.le_trans h.size k.size, fun b hb hn => (k.block b (Nat.lt_of_lt_of_le hb h.size) hn).trans (h.block b hb hn)⟩
theorem FPut.row {w w1 : World} {rb ab : Nat} {l : List ((Nat × Nat) × Int)} {t : Nat × Nat} (h : FPut w rb l w1) (ht : TgtOK w rb ab t) : ∃ cs ty, w1.heap[t.1]? = some (.cells cs ty (0, 0)) ∧ t.2 < cs.size ∧ NB cs := by
  obtain ⟨cs, ty, h1, h2, h0⟩ := ht.lies
  obtain ⟨cs', h3, h4, h5⟩ := putsB_cells t.1 l cs ty h0
  exact ⟨cs', ty, by rw [h.block t.1 ht.lt ht.rb, h1, h3], by omega, h5⟩
theorem FPut.put {w w1 : World} {rb ab : Nat} {l : List ((Nat × Nat) × Int)} {p : (Nat × Nat) × Int} (h : FPut w rb l w1) (ht : TgtOK w rb ab p.1) : FPut w rb (l ++ [p]) (w1.setCell ⟨p.1.1, p.1.2, none⟩ (I p.2)) := by
  refine ⟨h.os, h.tape, h.output, by simpa [World.setCell] using h.size, fun k hk hn => ?_⟩
  rw [putsB_snoc]
  by_cases e : p.1.1 = k
  · obtain ⟨cs, ty, h1, h2, _⟩ := h.row ht
    rw [if_pos e, ← e, heap_setCell_same w1 p.1.1 p.1.2 cs ty _ h1, ← h.block p.1.1 (by rw [e]; exact hk) ht.rb, h1]
    rfl
  · rw [if_neg e, heap_setCell_other w1 _ k _ (fun h => e h.symm)]
    exact h.block k hk hn
theorem SRd.put {w : World} {rb t : Nat} {R : List UInt8} {cs : Array Value} {ty : TypeId} (h : SRd w rb R) (hb : w.heap[t]? = some (.cells cs ty (0, 0))) (hnb : NB cs) (ht : t ≠ rb) (o : Nat) (v : Value) : SRd (w.setCell ⟨t, o, none⟩ v) rb R := by
  obtain ⟨bb, off, c, h1, h2, h3, h4, h5⟩ := h
  refine ⟨bb, off, c, (heap_setCell_other w _ rb v (fun e => ht e.symm)).trans h1, h2, h3, h4, fun j hj => ?_⟩
  have hne : bb ≠ t := by
    rintro rfl
    have h6 := h5 j hj
    rw [cell_of_row w bb _ _ _ _ hb] at h6
    exact hnb.get _ _ h6
  exact (World.cell?_of_block (a := ⟨bb, off + j, none⟩) (heap_setCell_other w _ bb v hne)).trans (h5 j hj)
def FillP (w : World) (rb : Nat) (l : List ((Nat × Nat) × Int)) (R : List UInt8) (e : Ending) (w' : World) : Prop := e = .returned (.tuple #[]) ∧ SRd w' rb R ∧ FPut w rb l w'
def FillRel (w : World) (rb : Nat) (l : List ((Nat × Nat) × Int)) (R : List UInt8) (n : Nat) (i : Value) (wr : World) : Prop :=
  ∃ k : Nat, k ≤ n ∧ i = I k ∧ SRd wr rb (leAll ((l.drop k).map (·.2)) ++ R) ∧ FPut w rb (l.take k) wr
set_option maxRecDepth 10000 in
set_option maxHeartbeats 2000000 in
theorem fill_yes (w : World) (rb ab n c : Nat) (l : List ((Nat × Nat) × Int)) (R : List UInt8) (hr : SRd w rb (leAll (l.map (·.2)) ++ R)) (hn : l.length = n) (hn2 : n ≤ 1000) (hab : rb < ab) (habs : ab < w.heap.size)
    (hA : ∀ j p, l[j]? = some p → w.cell? ⟨ab, j, none⟩ = some (.pointer (some ⟨p.1.1, p.1.2, none⟩))) (hT : ∀ p ∈ l, TgtOK w rb ab p.1) (hf : ∀ p ∈ l, fits p.2) :
    Calls Tryz.prog 115 #[pt rb, .slice (some ⟨ab, 0, none⟩) n c] w (FillP w rb l R) := by
  have HR := Lib.hid hr
  have HN := Lib.hid hn
  have HA := Lib.hid hA
  have HT := Lib.hid hT
  have HF := Lib.hid hf
  clear hr hn hA hT hf
  go_enter Tryz.func115, Tryz.ntmps115
  go_wp2_with fail
  go_loopw [8] (fun i wr => FillRel w rb l R n i wr) (fun i _ => n - (intOf i).toNat)
  case atStart => exact ⟨0, Nat.zero_le _, rfl, HR.out, FPut.refl _ _⟩
  case round =>
    obtain ⟨k, hk, rfl, hs, hp⟩ := hrel
    have HS := Lib.hid hs
    have HP := Lib.hid hp
    clear hs hp
    by_cases hlt : (k : Int) < (n : Int)
    · have i0 : (0 : Int) ≤ (k : Int) := by omega
      have hkl : k < l.length := by have := HN.out; omega
      have hx : l[k]? = some l[k] := List.getElem?_eq_getElem hkl
      obtain ⟨⟨⟨tb, tu⟩, z⟩, hp⟩ : ∃ p, l[k] = p := ⟨_, rfl⟩
      rw [hp] at hx
      have hmem := List.mem_of_getElem? hx
      have HTK : Hid (TgtOK w rb ab (tb, tu)) := Lib.hid (HT.out _ hmem)
      have hfz : fits z := HF.out _ hmem
      have HX := Lib.hid hx
      have hck : wr.cell? ⟨ab, k, none⟩ = some (.pointer (some ⟨tb, tu, none⟩)) := by
        rw [← HA.out k _ hx]
        refine World.cell?_of_block (a := ⟨ab, k, none⟩) ?_
        rw [HP.out.block ab habs (by omega)]
        exact putsB_none ab _ (fun p hp => (HT.out p (List.mem_of_mem_take hp)).ab) _
      have hd : l.drop k = ((tb, tu), z) :: l.drop (k + 1) := by
        rw [List.drop_eq_getElem_cons hkl, hp]
      have hs2 : SRd wr rb (le z 8 ++ (leAll ((l.drop (k + 1)).map (·.2)) ++ R)) := by
        have h := HS.out
        rw [hd] at h
        simpa [leAll] using h
      have HS2 := Lib.hid hs2
      have HFZ := Lib.hid hfz
      clear hx hp hmem hd hs2 hfz hkl
      go_wp2_with fail
      refine (snum_le wr rb z _ HFZ.out HS2.out).mono ?_
      rintro e w1 ⟨rfl, hs3, hk3⟩
      obtain ⟨cs, ty, h1, h2, h6⟩ := (HP.out.keep hk3).row HTK.out
      have HPT := Lib.hid (hs3.put h1 h6 HTK.out.rb tu (I z))
      have HP3 := Lib.hid (HP.out.keep hk3)
      have hcv : w1.cell? ⟨tb, tu, none⟩ = some cs[tu] := by rw [cell_of_row w1 tb tu _ _ _ h1]; exact Array.getElem?_eq_getElem h2
      have hfv := frozen_of_row w1 tb tu _ _ h1
      obtain ⟨v0, hv0⟩ : ∃ v, cs[tu] = v := ⟨_, rfl⟩
      rw [hv0] at hcv
      clear hs3 hk3 hv0 h1 h2 h6
      go_wp2_with fail
      go_roundw
      case rel =>
        refine ⟨k + 1, by omega, by go_num, HPT.out, ?_⟩
        rw [List.take_add_one, HX.out]
        exact HP3.out.put HTK.out
      case measure => simp [intOf]; omega
    · have hkn : k = n := by omega
      have HKN := Lib.hid hkn
      clear hkn
      go_wp2_with fail
      go_end0
      refine ⟨rfl, ?_, ?_⟩
      · have h := HS.out
        rw [HKN.out, List.drop_of_length_le (by rw [HN.out]; exact Nat.le_refl _)] at h
        exact h
      · have h := HP.out
        rw [HKN.out, List.take_of_length_le (by rw [HN.out]; exact Nat.le_refl _)] at h
        exact h
end Go.Proofs.YtenbgpcdoljkgaaGreatDoor

/- series.Bytes of a series that is sound: its bytes. -/
namespace Go.Proofs.YtenbgpcdoljkgaaGreatDoor
open Go Go.RowKit

def ndNums (d : Nd) : List Int := [d.kind, d.cal, d.l, d.r, d.n, d.m, (d.list.length : Int)]
def ndBytes (d : Nd) : List UInt8 := leAll (ndNums d) ++ (leAll d.list ++ textBytes d.name)
def mvNums (m : Mv) : List Int := [m.day, if m.drop then 1 else 0, m.toDay, m.minute, m.length]
def seHead (se : Ser) : List UInt8 := leAll [(se.rule.length : Int)]
def seMid (se : Ser) : List UInt8 := leAll [se.minute, se.length] ++ (textBytes se.zone ++ leAll [se.gap, se.fold, (se.moves.length : Int)])
def seMoves (ms : List Mv) : List UInt8 := ms.flatMap fun m => leAll (mvNums m)
def seRule (ds : List Nd) : List UInt8 := ds.flatMap ndBytes
def seBytes (se : Ser) : List UInt8 := (seHead se ++ seRule se.rule) ++ (seMid se ++ seMoves se.moves)
/-- Numbers that fit, short lists. -/
structure NdFit (d : Nd) : Prop where
  nums : ∀ z ∈ ndNums d, fits z
  list : ∀ z ∈ d.list, fits z
  len : d.list.length ≤ 64
  name : d.name.size ≤ 32
theorem NodeOK.fit {i : Nat} {d : Nd} (h : NodeOK i d.kind.toNat d) (hi : i ≤ 100000) : NdFit d := by
  obtain ⟨h1, h2, h3, h4, h5, h6, h7, h8, h9, h10⟩ := h
  have q : -1099511627776 ≤ d.n ∧ d.n ≤ 1099511627776 ∧ -1099511627776 ≤ d.m ∧ d.m ≤ 1099511627776 ∧ (d.kind = 7 → 0 ≤ d.l ∧ d.l ≤ 1) := by
    clear h1 h2 h3 h4 h5 h6 h7 h8 h9
    unfold NumsOK at h10
    omega
  obtain ⟨q1, q2, q3, q4, q5⟩ := q
  have q6 : 0 ≤ d.l ∧ d.l ≤ 100001 := by
    rcases h5 with ⟨_, a, b⟩ | ⟨_, a | a⟩
    · omega
    · omega
    · have := q5 (by omega); omega
  have q7 : 0 ≤ d.r ∧ d.r ≤ 100001 := by rcases h6 with ⟨_, a, b⟩ | ⟨_, a⟩ <;> omega
  have q8 : 0 ≤ d.cal ∧ d.cal ≤ 2 := by rcases h7 with ⟨_, a, b⟩ | ⟨_, a⟩ <;> omega
  have q9 : 1 ≤ d.kind ∧ d.kind ≤ 18 := by omega
  clear h5 h6 h7 h10
  refine ⟨?_, ?_, h4, ?_⟩
  · intro z hz
    unfold ndNums at hz
    simp only [List.mem_cons, List.not_mem_nil, or_false] at hz
    unfold fits
    clear h9 h8
    rcases hz with rfl | rfl | rfl | rfl | rfl | rfl | rfl <;> omega
  · intro z hz
    rcases h9 with ⟨_, _, h⟩ | ⟨_, h⟩
    · rw [h] at hz; cases hz
    · have hb : ∀ k : Nat, k < 19 → -1099511627776 ≤ shLo k ∧ shHi k ≤ 1099511627776 := by decide +kernel
      have := hb d.kind.toNat (by omega)
      have := h.rng z hz
      unfold fits
      omega
  · rcases h8 with ⟨_, j, hj, hn⟩ | ⟨_, hn⟩
    · rw [hn]; rcases hj with rfl | rfl <;> decide
    · rw [hn]; decide
theorem WKeep.low {g : Nat} {v v' : Value} {w w' : World} {bs : List UInt8} (h : WKeep g v w v' w') (hst : SWt w g v bs) (hg : g < w.heap.size) : Below g w w' :=
  ⟨h.os, h.tape, h.output, h.size, fun k hk => h.block k (by omega) (by omega) (own_ge hst.2 k (by omega))⟩
theorem far_new {w : World} {g : Nat} {v : Value} {bs : List UInt8} (h : SWt w g v bs) (hg : g < w.heap.size) (cs : Array Value) (t : TypeId) : Far (w.alloc (.cells cs t)) g v w.heap.size cs :=
  ⟨Row.new w cs t, by omega, fun e => by have := own_lt h.2 w.heap.size e.symm; omega⟩
theorem ndNums_cells (d : Nd) : #[I d.kind, I d.cal, I d.l, I d.r, I d.n, I d.m, I (d.list.length : Int)] = ((ndNums d).map I).toArray := rfl
theorem seRule_snoc (ds : List Nd) (d : Nd) : seRule (ds ++ [d]) = seRule ds ++ ndBytes d := by simp [seRule]
theorem seMoves_snoc (ms : List Mv) (m : Mv) : seMoves (ms ++ [m]) = seMoves ms ++ leAll (mvNums m) := by simp [seMoves]
theorem ndBytes_len {d : Nd} (h : NdFit d) : (ndBytes d).length ≤ 1000 := by
  unfold ndBytes textBytes
  rw [List.length_append, List.length_append, List.length_append, leAll_length, leAll_length, le_length]
  have h1 := h.len
  have h2 : d.name.data.size ≤ 32 := h.name
  have h3 : (ndNums d).length = 7 := rfl
  rw [h3]
  have h4 : d.name.data.toList.length = d.name.data.size := Array.length_toList
  omega
theorem seRule_len {ds : List Nd} (h : ∀ d ∈ ds, NdFit d) : (seRule ds).length ≤ 1000 * ds.length := by
  induction ds with
  | nil => exact Nat.le_refl _
  | cons d ds ih =>
    have := ih fun x hx => h x (List.mem_cons_of_mem _ hx)
    have := ndBytes_len (h d List.mem_cons_self)
    unfold seRule at *
    rw [List.flatMap_cons, List.length_append, List.length_cons]
    omega
theorem seMoves_len (ms : List Mv) : (seMoves ms).length = 40 * ms.length := by
  induction ms with
  | nil => rfl
  | cons m ms ih => unfold seMoves at *; rw [List.flatMap_cons, List.length_append, List.length_cons, ih, leAll_length]; show 8 * 5 + _ = _; omega
/-- The writer under way: the series' box and everything older than the writer as they were. -/
structure SwS (w : World) (g : Nat) (sc : Array Value) (v : Value) (bs : List UInt8) (W : World) : Prop where
  st : SWt W g v bs
  box : Row W w.heap.size sc
  lo : Below w.heap.size w W
  wg : w.heap.size < g
  gl : g < W.heap.size
theorem SwS.next {w W W' : World} {g : Nat} {sc : Array Value} {v v' : Value} {bs bs' : List UInt8} (h : SwS w g sc v bs W) (hs : SWt W' g v' bs') (hk : WKeep g v W v' W') : SwS w g sc v' bs' W' := by
  have hl := hk.low h.st h.gl
  refine ⟨hs, ⟨Nat.lt_of_lt_of_le h.box.1 hk.size, fun i => (hl.cell (p := ⟨w.heap.size, i, none⟩) h.wg).trans (h.box.2 i)⟩, ?_, h.wg, Nat.lt_of_lt_of_le h.gl hk.size⟩
  exact ⟨hl.os.trans h.lo.os, hl.tape.trans h.lo.tape, hl.output.trans h.lo.output, Nat.le_trans h.lo.size hl.size, fun k hk => (hl.block k (by have := h.wg; omega)).trans (h.lo.block k hk)⟩
theorem SwS.more {w W : World} {g : Nat} {sc : Array Value} {v : Value} {bs : List UInt8} (h : SwS w g sc v bs W) (o : Obj) : SwS w g sc v bs (W.alloc o) :=
  have ⟨h1, h2⟩ := h.st.alloc h.gl o
  h.next h1 h2
/-- numbers of a list that was just made: as the writer goes on. -/
theorem SwS.nums {w W : World} {g : Nat} {sc : Array Value} {v : Value} {bs : List UInt8} (h : SwS w g sc v bs W) (zs : List Int) (H m : Nat) (hH : W.heap.size = H) (hm : zs.length = m) (hfit : ∀ z ∈ zs, fits z) (hl : bs.length ≤ 100000000) (hn : zs.length ≤ 1000) :
    Calls Tryz.prog 63 #[.pointer (some ⟨g, 0, none⟩), .slice (some ⟨H, 0, none⟩) m m] (W.alloc (.cells (zs.map I).toArray 3)) fun e W' => e = .returned (.tuple #[]) ∧ ∃ v', WKeep g v W v' W' ∧ SwS w g sc v' (bs ++ leAll zs) W' :=
  hH ▸ hm ▸ (snumbers_new W g v bs zs hfit (by omega) (by omega) h.gl h.st).mono fun _ _ ⟨he, v', h1, h2⟩ => ⟨he, v', h2, h.next h1 h2⟩
theorem SwS.list {w W : World} {g : Nat} {sc : Array Value} {v : Value} {bs : List UInt8} (h : SwS w g sc v bs W) (A : Option Addr) (c : Nat) (zs : List Int) (hA : IntsAt w w.heap.size A zs) (hfit : ∀ z ∈ zs, fits z) (hl : bs.length ≤ 100000000) (hn : zs.length ≤ 1000) :
    Calls Tryz.prog 63 #[.pointer (some ⟨g, 0, none⟩), .slice A zs.length c] W fun e W' => e = .returned (.tuple #[]) ∧ ∃ v', WKeep g v W v' W' ∧ SwS w g sc v' (bs ++ leAll zs) W' :=
  (snumbers_any W g v bs A zs.length c zs rfl (IntsAt.far (hA.keep h.lo) (by have := h.wg; omega) h.gl h.st) (fun j hj => by rw [List.getElem?_eq_getElem hj]; exact hfit _ (List.getElem_mem hj)) (by omega) (by omega) h.gl h.st).mono
    fun _ _ ⟨he, v', h1, h2⟩ => ⟨he, v', h2, h.next h1 h2⟩
theorem SwS.text {w W : World} {g : Nat} {sc : Array Value} {v : Value} {bs : List UInt8} (h : SwS w g sc v bs W) (s : ByteArray) (hs : s.size ≤ 1000) (hl : bs.length ≤ 100000000) :
    Calls Tryz.prog 64 #[.pointer (some ⟨g, 0, none⟩), .string s] W fun e W' => e = .returned (.tuple #[]) ∧ ∃ v', WKeep g v W v' W' ∧ SwS w g sc v' (bs ++ textBytes s) W' :=
  (stext_any W g v bs s (by omega) (by omega) h.gl h.st).mono fun _ _ ⟨he, v', h1, h2⟩ => ⟨he, v', h2, h.next h1 h2⟩
/-- What series.Bytes gives: its bytes in a row of the call's own. -/
def SbPost (w : World) (bs : List UInt8) (e : Ending) (w' : World) : Prop :=
  ∃ v, e = .returned (.tuple #[v, I 0]) ∧ w'.ownsRow w.heap.size 5 1 v bs.length (bs.map Extern.Stop.cell) ∧ Below w.heap.size w w'
def SbRel (w : World) (g : Nat) (sc : Array Value) (hd : List UInt8) (ds : List Nd) (n : Nat) (i : Value) (wr : World) : Prop :=
  ∃ k : Nat, k ≤ n ∧ i = I k ∧ ∃ v, SwS w g sc v (hd ++ seRule (ds.take k)) wr
def SbRel2 (w : World) (g : Nat) (sc : Array Value) (hd : List UInt8) (ms : List Mv) (n : Nat) (i : Value) (wr : World) : Prop :=
  ∃ k : Nat, k ≤ n ∧ i = I k ∧ ∃ v, SwS w g sc v (hd ++ seMoves (ms.take k)) wr
theorem nd_old {w wr : World} {A : Option Addr} {ns : List NdV} {n k : Nat} (hA : RulesAt w w.heap.size A ns) (hl : ns.length = n) (hb : Below w.heap.size w wr) (hk : k < n) :
    ∃ b x, A = some ⟨b, 0, none⟩ ∧ ns[k]? = some x ∧ b < w.heap.size ∧ wr.rangeAt b (k * 8) (ndCells x.d x.A x.c).toList ∧ IntsAt w w.heap.size x.A x.d.list := by
  rcases hA with h | ⟨b, h1, h2, h3⟩
  · omega
  have hx : ns[k]? = some ns[k] := List.getElem?_eq_getElem (by omega)
  obtain ⟨p1, p2, _⟩ := h3 k _ hx
  exact ⟨b, ns[k], h1, hx, h2, rangeAt_keep p1 hb h2, p2⟩
theorem mv_old {w wr : World} {B : Option Addr} {ms : List Mv} {n k : Nat} (hB : MovesAt w w.heap.size B ms) (hl : ms.length = n) (hb : Below w.heap.size w wr) (hk : k < n) :
    ∃ b m, B = some ⟨b, 0, none⟩ ∧ b < w.heap.size ∧ ms[k]? = some m ∧ wr.rangeAt b (k * 5) (mvCells m).toList := by
  rcases hB with h | ⟨b, h1, h2, h3⟩
  · omega
  have hx : ms[k]? = some ms[k] := List.getElem?_eq_getElem (by omega)
  exact ⟨b, ms[k], h1, h2, hx, rangeAt_keep (h3 k _ hx) hb h2⟩
theorem take_next {α : Type} (xs : List α) (k : Nat) (x : α) (h : xs[k]? = some x) : xs.take (k + 1) = xs.take k ++ [x] := by rw [List.take_add_one, h]; rfl
set_option maxRecDepth 10000 in
set_option maxHeartbeats 4000000 in
theorem sbytes_any (s : Ser) (A B : Option Addr) (c e n mn : Nat) (ns : List NdV) (w : World) (hA : RulesAt w w.heap.size A ns) (hl : ns.length = n) (hd : s.rule = ns.map (·.d)) (hfit : ∀ d ∈ s.rule, NdFit d) (hn : n ≤ 64) (hB : MovesAt w w.heap.size B s.moves) (hml : s.moves.length = mn) (h : SerGood s)
    (hsound : ∀ w', Below w.heap.size w w' → Calls Tryz.prog 62 #[.agg #[.slice A n c, I s.minute, I s.length, .string s.zone, I s.gap, I s.fold, .slice B mn e]] w' (Gives (.bool true) w')) :
    Calls Tryz.prog 20 #[.agg #[.slice A n c, I s.minute, I s.length, .string s.zone, I s.gap, I s.fold, .slice B mn e]] w (SbPost w (seBytes s)) := by
  obtain ⟨sc, hsc⟩ : ∃ sc : Array Value, #[.slice A n c, I s.minute, I s.length, .string s.zone, I s.gap, I s.fold, .slice B mn e] = sc := ⟨_, rfl⟩
  have HX0 := Lib.hid (Row.new w #[.slice A n c, I s.minute, I s.length, .string s.zone, I s.gap, I s.fold, .slice B mn e] 30)
  have HB0 := Lib.hid (below_var w (.cells #[.slice A n c, I s.minute, I s.length, .string s.zone, I s.gap, I s.fold, .slice B mn e] 30))
  have HSD := Lib.hid hsound
  have HA := Lib.hid hA
  have HB := Lib.hid hB
  have HG := Lib.hid h
  have HD := Lib.hid hd
  have HF := Lib.hid hfit
  have HL := Lib.hid hl
  have HML := Lib.hid hml
  have hmn : mn ≤ 64 := by rw [← hml]; exact h.ml
  have g0 := HX0.out.2
  clear hA hB hd hfit hl hml h hsound hsc
  go_enter Tryz.func20, Tryz.ntmps20
  go_wp2_with fail
  refine (HSD.out _ HB0.out).mono ?_
  rintro e1 w1 ⟨rfl, hb1⟩
  have HS1 : Hid (SwS w w1.heap.size #[.slice A n c, I s.minute, I s.length, .string s.zone, I s.gap, I s.fold, .slice B mn e] (.slice none 0 0) [] (w1.alloc (.cells #[.slice none 0 0] 101))) := Lib.hid (by
    have h1 := HX0.out.keep hb1
    have h2 := below_var w1 (.cells #[.slice none 0 0] 101)
    exact ⟨⟨heap_alloc_last w1 _, World.ownsRow_nil _ _ _ _⟩, h1.keep h2, below_trans (below_trans HB0.out hb1) h2, h1.1, by simp⟩)
  obtain ⟨g, hg⟩ : ∃ g, w1.heap.size = g := ⟨_, rfl⟩
  have HGG := Lib.hid hg
  rw [hg] at HS1
  have g1 := HS1.out.box.2
  have f1 : fits (n : Int) := by unfold fits; omega
  obtain ⟨g', hg'⟩ : ∃ g', (w1.alloc (.cells #[.slice none 0 0] 101)).heap.size = g' := ⟨_, rfl⟩
  clear hb1 HSD HX0 HB0 g0
  go_wp2_with fail
  refine (HS1.out.nums [(n : Int)] g' 1 hg' rfl (by intro z hz; rw [List.mem_singleton.1 hz]; exact f1) (by simp) (by simp)).mono ?_
  rintro e2 w2 ⟨rfl, v2, -, hs2⟩
  rw [List.nil_append] at hs2
  have HS2 := Lib.hid hs2
  have g2 := hs2.box.2
  clear hs2 HS1 g1
  go_wp2_with fail
  go_loopw [24] (fun i wr => SbRel w g #[.slice A n c, I s.minute, I s.length, .string s.zone, I s.gap, I s.fold, .slice B mn e] (leAll [(n : Int)]) s.rule n i wr) (fun i _ => n - (intOf i).toNat)
  case atStart => exact ⟨0, Nat.zero_le _, rfl, v2, by simpa [seRule] using HS2.out⟩
  case round =>
    obtain ⟨k, hk, rfl, v3, hs3⟩ := hrel
    have HS3 := Lib.hid hs3
    clear hs3 HS2 g2
    by_cases hlt : (k : Int) < (n : Int)
    · have i0 : (0 : Int) ≤ (k : Int) := by omega
      obtain ⟨b, x, hAe, hx, hbl, hra, hia⟩ := nd_old HA.out HL.out HS3.out.lo (by omega : k < n)
      subst hAe
      have hxr : s.rule[k]? = some x.d := by rw [HD.out, List.getElem?_map, hx]; rfl
      have hfx : NdFit x.d := HF.out x.d (List.mem_of_getElem? hxr)
      have HXR := Lib.hid hxr
      have HFX := Lib.hid hfx
      have HIA := Lib.hid hia
      have f0 : wr.cell? ⟨b, k * 8, none⟩ = some (I x.d.kind) := hra 0 _ rfl
      have f1 : wr.cell? ⟨b, k * 8 + 1, none⟩ = some (I x.d.cal) := hra 1 _ rfl
      have f2 : wr.cell? ⟨b, k * 8 + 2, none⟩ = some (I x.d.l) := hra 2 _ rfl
      have f3 : wr.cell? ⟨b, k * 8 + 3, none⟩ = some (I x.d.r) := hra 3 _ rfl
      have f4 : wr.cell? ⟨b, k * 8 + 4, none⟩ = some (I x.d.n) := hra 4 _ rfl
      have f5 : wr.cell? ⟨b, k * 8 + 5, none⟩ = some (I x.d.m) := hra 5 _ rfl
      have f6 : wr.cell? ⟨b, k * 8 + 6, none⟩ = some (.slice x.A x.d.list.length x.c) := hra 6 _ rfl
      have f7 : wr.cell? ⟨b, k * 8 + 7, none⟩ = some (.string x.d.name) := hra 7 _ rfl
      have hne : ¬ b = wr.heap.size := by have := HS3.out.lo.size; omega
      have HR3 : Hid ((leAll [(n : Int)] ++ seRule (s.rule.take k)).length ≤ 100000) := Lib.hid (by
        rw [List.length_append, leAll_length]
        have h1 := seRule_len (ds := s.rule.take k) fun d hd => HF.out d (List.mem_of_mem_take hd)
        have h2 : (s.rule.take k).length ≤ k := by rw [List.length_take]; omega
        have h3 : [(n : Int)].length = 1 := rfl
        omega)
      obtain ⟨D, hD⟩ : ∃ D, leAll [(n : Int)] ++ seRule (s.rule.take k) = D := ⟨_, rfl⟩
      have HDD := Lib.hid hD
      rw [hD] at HR3 HS3
      have HS4 := Lib.hid (HS3.out.more (.cells (ndCells x.d x.A x.c) 85))
      have HF4 := Lib.hid (far_new HS3.out.st HS3.out.gl (ndCells x.d x.A x.c) 85)
      clear hra hx hxr hfx hia hD
      go_wp2_with fail
      refine (HS4.out.nums (ndNums x.d) (wr.heap.size + 1) 7 (by simp) rfl HFX.out.nums (by have := HR3.out; omega) (by show 7 ≤ 1000; omega)).mono ?_
      rintro e5 w5 ⟨rfl, v5, hk5, hs5⟩
      have HS5 := Lib.hid hs5
      have HF5 := Lib.hid (HF4.out.next hk5)
      have n5 : w5.cell? ⟨wr.heap.size, 6, none⟩ = some (.slice x.A x.d.list.length x.c) := HF5.out.row.2 6
      clear hk5 hs5 HS4 HF4 HS3 f0 f1 f2 f3 f4 f5 f6 f7
      go_wp2_with fail
      refine (HS5.out.list x.A x.c x.d.list HIA.out HFX.out.list (by rw [List.length_append, leAll_length]; have := HR3.out; show _ + 8 * 7 ≤ _; omega) (by have := HFX.out.len; omega)).mono ?_
      rintro e6 w6 ⟨rfl, v6, hk6, hs6⟩
      have HS6 := Lib.hid hs6
      have HF6 := Lib.hid (HF5.out.next hk6)
      have n6 : w6.cell? ⟨wr.heap.size, 7, none⟩ = some (.string x.d.name) := HF6.out.row.2 7
      clear hk6 hs6 HS5 HF5 n5
      go_wp2_with fail
      refine (HS6.out.text x.d.name (by have := HFX.out.name; omega) (by rw [List.length_append, List.length_append, leAll_length, leAll_length]; have := HR3.out; have := HFX.out.len; show _ + 8 * 7 + _ ≤ _; omega)).mono ?_
      rintro e7 w7 ⟨rfl, v7, hk7, hs7⟩
      have HS7 := Lib.hid hs7
      clear hk7 hs7 HS6 HF6 n6
      go_wp2_with fail
      go_roundw
      case rel =>
        refine ⟨k + 1, by omega, by go_num, v7, ?_⟩
        have h := HS7.out
        rw [← HDD.out] at h
        rw [take_next _ k x.d HXR.out, seRule_snoc]
        unfold ndBytes
        simpa only [List.append_assoc] using h
      case measure => simp [intOf]; omega
    · have hke : k = n := by omega
      have hrk : s.rule.take k = s.rule := by rw [List.take_of_length_le]; rw [HD.out, List.length_map, HL.out]; omega
      rw [hrk] at HS3
      obtain ⟨D, hD⟩ : ∃ D, leAll [(n : Int)] ++ seRule s.rule = D := ⟨_, rfl⟩
      have HDD := Lib.hid hD
      have HR3 : Hid (D.length ≤ 100000) := Lib.hid (by
        rw [← hD, List.length_append, leAll_length]
        have h1 := seRule_len (ds := s.rule) HF.out
        have h2 : s.rule.length = n := by rw [HD.out, List.length_map, HL.out]
        have h3 : [(n : Int)].length = 1 := rfl
        omega)
      rw [hD] at HS3
      have g3 := HS3.out.box.2
      have fz := HG.out.mi
      have fl := HG.out.le
      have fg := HG.out.ga
      have ff := HG.out.fo
      have fo := HG.out.zo
      have HN2 : Hid (∀ z ∈ [s.minute, s.length], fits z) := Lib.hid (by intro z hz; simp only [List.mem_cons, List.not_mem_nil, or_false] at hz; unfold fits; rcases hz with rfl | rfl <;> omega)
      have HN3 : Hid (∀ z ∈ [s.gap, s.fold, (mn : Int)], fits z) := Lib.hid (by intro z hz; simp only [List.mem_cons, List.not_mem_nil, or_false] at hz; unfold fits; rcases hz with rfl | rfl | rfl <;> omega)
      have HZO := Lib.hid fo
      clear hrk hD fz fl fg ff fo hke
      go_wp2_with fail
      refine (HS3.out.nums [s.minute, s.length] wr.heap.size 2 rfl rfl HN2.out (by have := HR3.out; omega) (by show 2 ≤ 1000; omega)).mono ?_
      rintro e4 w4 ⟨rfl, v4, -, hs4⟩
      have HS4 := Lib.hid hs4
      have g4 := hs4.box.2
      clear hs4 HS3 g3
      go_wp2_with fail
      refine (HS4.out.text s.zone (by have := HZO.out; omega) (by rw [List.length_append, leAll_length]; have := HR3.out; show _ + 8 * 2 ≤ _; omega)).mono ?_
      rintro e5 w5 ⟨rfl, v5, -, hs5⟩
      have HS5 := Lib.hid hs5
      have g5 := hs5.box.2
      clear hs5 HS4 g4
      go_wp2_with fail
      refine (HS5.out.nums [s.gap, s.fold, (mn : Int)] w5.heap.size 3 rfl rfl HN3.out (by unfold textBytes; rw [List.length_append, List.length_append, List.length_append, leAll_length, le_length]; have := HR3.out; have := HZO.out; have : s.zone.data.toList.length = s.zone.size := Array.length_toList; show _ + 8 * 2 + _ ≤ _; omega) (by show 3 ≤ 1000; omega)).mono ?_
      rintro e6 w6 ⟨rfl, v6, -, hs6⟩
      obtain ⟨E, hE⟩ : ∃ E, D ++ leAll [s.minute, s.length] ++ textBytes s.zone ++ leAll [s.gap, s.fold, (mn : Int)] = E := ⟨_, rfl⟩
      have HEE := Lib.hid hE
      have HRE : Hid (E.length ≤ 110000) := Lib.hid (by
        rw [← hE]
        unfold textBytes
        rw [List.length_append, List.length_append, List.length_append, List.length_append, leAll_length, leAll_length, le_length]
        have := HR3.out
        have := HZO.out
        have : s.zone.data.toList.length = s.zone.size := Array.length_toList
        show _ + 8 * 2 + _ + 8 * 3 ≤ _
        omega)
      rw [hE] at hs6
      have HS6 := Lib.hid hs6
      have g6 := hs6.box.2
      clear hs6 HS5 g5 hE
      go_wp2_with fail
      go_loopw [79] (fun i wr => SbRel2 w g #[.slice A n c, I s.minute, I s.length, .string s.zone, I s.gap, I s.fold, .slice B mn e] E s.moves mn i wr) (fun i _ => mn - (intOf i).toNat)
      case atStart => exact ⟨0, Nat.zero_le _, rfl, v6, by simpa [seMoves] using HS6.out⟩
      case round =>
        obtain ⟨j, hj, rfl, v7, hs7⟩ := hrel
        have HS7 := Lib.hid hs7
        clear hs7 HS6 g6
        by_cases hlt2 : (j : Int) < (mn : Int)
        · have j0 : (0 : Int) ≤ (j : Int) := by omega
          obtain ⟨b, m, hBe, hbl, hx, hr⟩ := mv_old HB.out HML.out HS7.out.lo (by omega : j < mn)
          subst hBe
          have HX := Lib.hid hx
          have HMV : Hid (MvGood m) := Lib.hid (HG.out.mv m (List.mem_of_getElem? hx))
          have f0 : wr.cell? ⟨b, j * 5, none⟩ = some (I m.day) := hr 0 _ rfl
          have f1 : wr.cell? ⟨b, j * 5 + 1, none⟩ = some (.bool m.drop) := hr 1 _ rfl
          have f2 : wr.cell? ⟨b, j * 5 + 2, none⟩ = some (I m.toDay) := hr 2 _ rfl
          have f3 : wr.cell? ⟨b, j * 5 + 3, none⟩ = some (I m.minute) := hr 3 _ rfl
          have f4 : wr.cell? ⟨b, j * 5 + 4, none⟩ = some (I m.length) := hr 4 _ rfl
          have hne : ¬ b = wr.heap.size := by have := HS7.out.lo.size; omega
          have HR7 : Hid ((E ++ seMoves (s.moves.take j)).length ≤ 120000) := Lib.hid (by
            rw [List.length_append, seMoves_len]
            have h2 : (s.moves.take j).length ≤ j := by rw [List.length_take]; omega
            have := HRE.out
            omega)
          obtain ⟨D7, hD7⟩ : ∃ D, E ++ seMoves (s.moves.take j) = D := ⟨_, rfl⟩
          have HD7 := Lib.hid hD7
          rw [hD7] at HR7 HS7
          have HS8 := Lib.hid (HS7.out.more (.cells (mvCells m) 25))
          have HFT : Hid (∀ z ∈ mvNums m, fits z) := Lib.hid (by
            obtain ⟨a1, a2, h⟩ := HMV.out
            intro z hz
            unfold mvNums at hz
            simp only [List.mem_cons, List.not_mem_nil, or_false] at hz
            unfold fits
            rcases h with ⟨e0, e1, e2, e3⟩ | ⟨e0, e1, e2, e3, e4, e5, e6⟩
            · rw [e0, if_pos rfl] at hz
              rcases hz with rfl | rfl | rfl | rfl | rfl <;> omega
            · rw [e0, if_neg (by decide)] at hz
              rcases hz with rfl | rfl | rfl | rfl | rfl <;> omega)
          obtain ⟨dr, hdr⟩ : ∃ dr, m.drop = dr := ⟨_, rfl⟩
          have HNM0 : Hid (dr = false → mvNums m = [m.day, 0, m.toDay, m.minute, m.length]) := Lib.hid (fun e => by unfold mvNums; rw [hdr, e]; rfl)
          have HNM1 : Hid (dr = true → mvNums m = [m.day, 1, m.toDay, m.minute, m.length]) := Lib.hid (fun e => by unfold mvNums; rw [hdr, e]; rfl)
          have HE8 : Hid (SwS w g #[.slice A n c, I s.minute, I s.length, .string s.zone, I s.gap, I s.fold, .slice (some ⟨b, 0, none⟩) mn e] v7 D7 (wr.alloc (.cells #[I m.day, .bool dr, I m.toDay, I m.minute, I m.length] 25))) := Lib.hid (by have := HS8.out; unfold mvCells at this; rw [hdr] at this; exact this)
          rw [hdr] at f1
          clear hr hx hdr hD7 HS8 HS7
          cases dr with
          | false =>
            have HNM := Lib.hid (HNM0.out rfl)
            rw [HNM.out] at HFT
            clear HNM0 HNM1
            go_wp2_with fail
            refine (HE8.out.nums [m.day, 0, m.toDay, m.minute, m.length] (wr.heap.size + 1) 5 (by simp) rfl HFT.out (by have := HR7.out; omega) (by show 5 ≤ 1000; omega)).mono ?_
            rintro e9 w9 ⟨rfl, v9, -, hs9⟩
            have HS9 := Lib.hid hs9
            clear hs9
            go_wp2_with fail
            go_roundw
            case rel =>
              refine ⟨j + 1, by omega, by go_num, v9, ?_⟩
              have h := HS9.out
              rw [← HD7.out] at h
              rw [take_next _ j m HX.out, seMoves_snoc, HNM.out]
              simpa only [List.append_assoc] using h
            case measure => simp [intOf]; omega
          | true =>
            have HNM := Lib.hid (HNM1.out rfl)
            rw [HNM.out] at HFT
            clear HNM0 HNM1
            go_wp2_with fail
            refine (HE8.out.nums [m.day, 1, m.toDay, m.minute, m.length] (wr.heap.size + 1) 5 (by simp) rfl HFT.out (by have := HR7.out; omega) (by show 5 ≤ 1000; omega)).mono ?_
            rintro e9 w9 ⟨rfl, v9, -, hs9⟩
            have HS9 := Lib.hid hs9
            clear hs9
            go_wp2_with fail
            go_roundw
            case rel =>
              refine ⟨j + 1, by omega, by go_num, v9, ?_⟩
              have h := HS9.out
              rw [← HD7.out] at h
              rw [take_next _ j m HX.out, seMoves_snoc, HNM.out]
              simpa only [List.append_assoc] using h
            case measure => simp [intOf]; omega
        · have hje : j = mn := by omega
          have hmt : s.moves.take j = s.moves := by rw [List.take_of_length_le]; rw [HML.out]; omega
          rw [hmt] at HS7
          have hc7 := cell_of_row wr g 0 _ _ _ HS7.out.st.1
          have HLN : Hid (s.rule.length = n) := Lib.hid (by rw [HD.out, List.length_map, HL.out])
          clear hmt hje
          go_wp2_with fail
          go_ret2
          refine ⟨v7, rfl, ?_, HS7.out.lo⟩
          have h := ownsRow_base' (base' := w.heap.size) HS7.out.st.2 (by have := HS7.out.wg; omega)
          rw [← HEE.out, ← HDD.out] at h
          unfold seBytes seHead seMid
          rw [HLN.out, HML.out]
          simpa only [List.append_assoc] using h
end Go.Proofs.YtenbgpcdoljkgaaGreatDoor

/- The reader at work: a variable that is filled, the result's box. -/
namespace Go.Proofs.YtenbgpcdoljkgaaGreatDoor
open Go Go.RowKit

structure RdS (t : TypeId) (z : Array Value) (w0 : World) (rb : Nat) (R : List UInt8) (b4 b6 : Nat) (cs : Array Value) (W : World) : Prop where
  hm : rb < w0.heap.size
  rd : SRd W rb R
  keep : MKeep rb w0 W
  lo : w0.heap.size ≤ b4
  ne : b4 < b6
  res : W.heap[b4]? = some (.cells z t (0, 0))
  var : W.heap[b6]? = some (.cells cs t (0, 0))
section
variable {t : TypeId} {z : Array Value} {w0 W W' : World} {rb b4 b6 : Nat} {R R' : List UInt8} {cs cs' : Array Value}
theorem RdS.lt (h : RdS t z w0 rb R b4 b6 cs W) : b6 < W.heap.size := (Array.getElem?_eq_some_iff.1 h.var).1
theorem RdS.cell (h : RdS t z w0 rb R b4 b6 cs W) : ∀ i, W.cell? ⟨b6, i, none⟩ = cs[i]? := fun i => cell_of_row W b6 i _ _ _ h.var
theorem RdS.froz (h : RdS t z w0 rb R b4 b6 cs W) : ∀ i, W.frozen? ⟨b6, i, none⟩ = false := fun i => frozen_of_row W b6 i _ _ h.var
theorem RdS.row (h : RdS t z w0 rb R b4 b6 cs W) : Row W b6 cs := ⟨h.lt, h.cell⟩
theorem RdS.step (h : RdS t z w0 rb R b4 b6 cs W) (hr : SRd W' rb R') (hk : MKeep rb W W') : RdS t z w0 rb R' b4 b6 cs W' :=
  have h1 := h.hm
  have h2 := h.lo
  have h3 := h.ne
  have h4 := h.lt
  ⟨h.hm, hr, h.keep.trans hk, h.lo, h.ne, (hk.block b4 (by omega) (by omega)).trans h.res, (hk.block b6 (by omega) (by omega)).trans h.var⟩
theorem RdS.more (h : RdS t z w0 rb R b4 b6 cs W) (o : Obj) : RdS t z w0 rb R b4 b6 cs (W.alloc o) :=
  have h1 := h.hm
  have h2 := h.keep.size
  h.step (h.rd.below (below_var W o) (by omega)) (MKeep.of_below (below_var W o))
theorem RdS.drew (h : RdS t z w0 rb R b4 b6 cs W) : RdS t z w0 rb R b4 b6 cs W.drew := ⟨h.hm, h.rd, h.keep.draw, h.lo, h.ne, h.res, h.var⟩
theorem RdS.store (h : RdS t z w0 rb R b4 b6 cs W) (o : Nat) (v : Value) : RdS t z w0 rb R b4 b6 (cs.setIfInBounds o v) (W.setCell ⟨b6, o, none⟩ v) := by
  have h1 := h.hm
  have h2 := h.lo
  have h3 := h.ne
  have hb : Below b6 W (W.setCell ⟨b6, o, none⟩ v) := (Below.refl b6 W).setCell (p := ⟨b6, o, none⟩) (Nat.le_refl _) _
  refine ⟨h.hm, h.rd.below hb (by omega), ?_, h.lo, h.ne, (hb.block b4 (by omega)).trans h.res, heap_setCell_same W b6 o _ _ _ h.var⟩
  exact ⟨hb.os.trans h.keep.os, hb.tape.trans h.keep.tape, hb.output.trans h.keep.output, Nat.le_trans h.keep.size hb.size, fun k hk hn => (hb.block k (by omega)).trans (h.keep.block k hk hn)⟩
theorem RdS.start (hr : SRd W rb R) (z cs : Array Value) : RdS t z W rb R W.heap.size (W.heap.size + 1) cs ((W.alloc (.cells z t)).alloc (.cells cs t)) := by
  have hb := below_trans (below_var W (.cells z t)) (below_var _ (.cells cs t))
  exact ⟨hr.lt, hr.below hb hr.lt, MKeep.of_below hb, Nat.le_refl _, by omega, heap_alloc2_old W _ _, heap_alloc2_new W _ _⟩
/-- The numbers put into the variable. -/
theorem RdS.filled {l : List ((Nat × Nat) × Int)} (h : RdS t z w0 rb R b4 b6 cs W) (o : Obj) (hr : SRd W' rb R') (hp : FPut (W.alloc o) rb l W') (hl : ∀ p ∈ l, b6 ≤ p.1.1) (hcs : putsB b6 l (some (.cells cs t (0, 0))) = some (.cells cs' t (0, 0))) : RdS t z w0 rb R' b4 b6 cs' W' := by
  have h1 := h.hm
  have h2 := h.lo
  have h3 := h.ne
  have h4 := h.lt
  have h5 := h.keep.size
  have h6 := (h.more o)
  have hn : ∀ k, k < b6 → k < W.heap.size → k ≠ rb → W'.heap[k]? = (W.alloc o).heap[k]? := fun k hk hlt hne => by
    rw [hp.block k (by simp; omega) hne, putsB_none k l (fun p hpm => by have := hl p hpm; omega)]
  refine ⟨h.hm, hr, ⟨hp.os.trans h.keep.os, hp.tape.trans h.keep.tape, hp.output.trans h.keep.output, by have := hp.size; simp at this; omega, fun k hk hne => ?_⟩, h.lo, h.ne, ?_, ?_⟩
  · rw [hn k (by omega) (by omega) hne]; exact h6.keep.block k hk hne
  · rw [hn b4 (by omega) (by omega) (by omega)]; exact h6.res
  · rw [hp.block b6 (by simp; omega) (by omega), h6.var, hcs]
/-- A row grown. -/
theorem RdS.grown {base e size n : Nat} {v : Value} {ys : List Value} {o : Obj} (h : RdS t z w0 rb R b4 b6 cs W) (hown : W.ownsRow base e size v n ys) (hb : b6 < base) (hg : (W.alloc o).grownBy W' v.ownBlock) : RdS t z w0 rb R b4 b6 cs W' := by
  have h1 := h.hm
  have h2 := h.lo
  have h3 := h.ne
  have h4 := h.lt
  have hs := h.keep.size
  have hB : ∀ k, k < W.heap.size → k < base → W'.heap[k]? = W.heap[k]? := fun k hk hkb => by rw [hg.block k (by simp; omega) (own_ge hown k hkb), Below.heap_alloc W o k hk]
  have hlow : Below (rb + 1) W W' := ⟨hg.os, hg.tape, hg.output, by have := hg.size; simp at this; omega, fun k hk => hB k (by omega) (by omega)⟩
  refine ⟨h.hm, h.rd.below hlow (by omega), ⟨hg.os.trans h.keep.os, hg.tape.trans h.keep.tape, hg.output.trans h.keep.output, by have := hg.size; simp at this; omega, fun k hk hn => (hB k (by omega) (by omega)).trans (h.keep.block k hk hn)⟩, h.lo, h.ne, (hB b4 (by omega) (by omega)).trans h.res, (hB b6 h4 hb).trans h.var⟩
/-- The result stored. -/
theorem RdS.done (h : RdS t z w0 rb R b4 b6 cs W) (ds : Array Value) : SRd (W.setRow b4 ds) rb R ∧ MKeep rb w0 (W.setRow b4 ds) := by
  have h1 := h.hm
  have h2 := h.lo
  have h3 := h.ne
  have hb : Below b4 W (W.setRow b4 ds) := below_setRow (Below.refl b4 W) (Nat.le_refl _) _
  refine ⟨h.rd.below hb (by omega), ⟨hb.os.trans h.keep.os, hb.tape.trans h.keep.tape, hb.output.trans h.keep.output, Nat.le_trans h.keep.size hb.size, fun k hk hn => (setRow_other W b4 k _ (by omega)).trans (h.keep.block k hk hn)⟩⟩
theorem RdS.tgt (h : RdS t z w0 rb R b4 b6 cs W) (o : Obj) (i ab : Nat) (hab : W.heap.size = ab) (hi : i < cs.size) (hnb : NB cs) : TgtOK (W.alloc o) rb ab (b6, i) := by
  subst hab
  have h1 := h.hm
  have h2 := h.lo
  have h3 := h.ne
  have h4 := h.lt
  exact ⟨by show b6 ≠ rb; omega, by show b6 ≠ W.heap.size; omega, cs, t, (h.more o).var, hi, hnb⟩
end
end Go.Proofs.YtenbgpcdoljkgaaGreatDoor

/- (*series.reader).node. -/
namespace Go.Proofs.YtenbgpcdoljkgaaGreatDoor
open Go Go.RowKit

def Ndd (w : World) (rb : Nat) (d : Nd) (R : List UInt8) (e : Ending) (w' : World) : Prop :=
  ∃ A c, e = .returned (.agg (ndCells d A c)) ∧ LI w.heap.size w' A d.list ∧ SRd w' rb R ∧ MKeep rb w w'
def ndPart (d : Nd) (v : Value) : Array Value := #[I d.kind, I d.cal, I d.l, I d.r, I d.n, I d.m, v, .string ⟨#[]⟩]
def NdRel (w : World) (rb : Nat) (d : Nd) (R : List UInt8) (n : Nat) (i : Value) (wr : World) : Prop :=
  ∃ (k : Nat) (v : Value), k ≤ n ∧ i = I k ∧ RdS 85 zNode w rb (leAll (d.list.drop k) ++ (textBytes d.name ++ R)) w.heap.size (w.heap.size + 1) (ndPart d v) wr ∧ wr.ownsRow (w.heap.size + 2) 3 1 v k ((d.list.take k).map I)
theorem ndBytes_split (d : Nd) (R : List UInt8) : ndBytes d ++ R = leAll [d.kind, d.cal, d.l, d.r, d.n, d.m] ++ (le (d.list.length : Int) 8 ++ (leAll d.list ++ (textBytes d.name ++ R))) := by
  simp [ndBytes, ndNums, leAll]
theorem nb_node : NB zNode := by unfold NB; kernel_rfl
theorem ptrs_new (W : World) (H : Nat) (hH : W.heap.size = H) (l : List ((Nat × Nat) × Int)) (t : TypeId) (cs : Array Value) (hcs : cs = (l.map fun p => Value.pointer (some ⟨p.1.1, p.1.2, none⟩)).toArray) :
    ∀ j p, l[j]? = some p → (W.alloc (.cells cs t)).cell? ⟨H, j, none⟩ = some (.pointer (some ⟨p.1.1, p.1.2, none⟩)) := by
  intro j p hp
  rw [← hH, (Row.new W cs t).2 j, hcs]
  simp [hp]
set_option maxRecDepth 10000 in
set_option maxHeartbeats 2000000 in
theorem node_yes (w : World) (rb : Nat) (d : Nd) (R : List UInt8) (hf : NdFit d) (hr : SRd w rb (ndBytes d ++ R)) : Calls Tryz.prog 114 #[pt rb] w (Ndd w rb d R) := by
  rw [ndBytes_split] at hr
  have hml := hr.lt
  have H0 : Hid (RdS 85 zNode w rb _ w.heap.size (w.heap.size + 1) zNode ((w.alloc (.cells zNode 85)).alloc (.cells zNode 85))) := Lib.hid (RdS.start hr zNode zNode)
  have HF := Lib.hid hf
  clear hr hf
  obtain ⟨i0, hi, hz0, hz1, hz2⟩ := info_parts info_int
  go_enter Tryz.func114, Tryz.ntmps114
  go_wp2_with fail
  refine (fill_yes _ rb (w.heap.size + 2) 6 6 [((w.heap.size + 1, 0), d.kind), ((w.heap.size + 1, 1), d.cal), ((w.heap.size + 1, 2), d.l), ((w.heap.size + 1, 3), d.r), ((w.heap.size + 1, 4), d.n), ((w.heap.size + 1, 5), d.m)] (le (d.list.length : Int) 8 ++ (leAll d.list ++ (textBytes d.name ++ R))) ?hr rfl (by omega) (by omega) (by simp) ?hA ?hT ?hf).mono ?_
  case hr => exact (H0.out.more _).rd
  case hA => exact ptrs_new _ _ (by simp) _ _ _ rfl
  case hT =>
    intro p hp
    simp only [List.mem_cons, List.not_mem_nil, or_false] at hp
    rcases hp with rfl | rfl | rfl | rfl | rfl | rfl <;> (refine H0.out.tgt _ _ _ (by simp) ?_ nb_node; decide)
  case hf =>
    intro p hp
    have h := HF.out.nums
    unfold ndNums at h
    simp only [List.mem_cons, List.not_mem_nil, or_false] at hp
    rcases hp with rfl | rfl | rfl | rfl | rfl | rfl <;> exact h _ (by simp)
  rintro e w1 ⟨rfl, hr1, hp1⟩
  have H1 : Hid (RdS 85 zNode w rb (le (d.list.length : Int) 8 ++ (leAll d.list ++ (textBytes d.name ++ R))) w.heap.size (w.heap.size + 1) (ndPart d (.slice none 0 0)) w1) := Lib.hid (H0.out.filled _ hr1 hp1 (by
    intro p hp
    simp only [List.mem_cons, List.not_mem_nil, or_false] at hp
    rcases hp with rfl | rfl | rfl | rfl | rfl | rfl <;> exact Nat.le_refl _) (by simp [putsB, setO, zNode, ndPart]))
  clear hr1 hp1 H0
  go_wp2_with fail
  have hln : (leAll d.list).length = 8 * d.list.length := leAll_length _
  refine (count_yes w1 rb d.list.length _ (by rw [List.length_append]; omega) (by have := HF.out.len; omega) H1.out.rd).mono ?_
  rintro e w2 ⟨rfl, hr2, hk2⟩
  have H2 := Lib.hid (H1.out.step hr2 hk2)
  obtain ⟨n, hn⟩ : ∃ n, d.list.length = n := ⟨_, rfl⟩
  have HN := Lib.hid hn
  rw [hn] at ⊢
  have hn64 : n ≤ 64 := by rw [← hn]; exact HF.out.len
  clear hln hr2 hk2 H1 hn
  go_wp2_with fail
  go_loopw [15] (fun i wr => NdRel w rb d R n i wr) (fun i _ => n - (intOf i).toNat)
  case atStart => exact ⟨0, .slice none 0 0, Nat.zero_le _, rfl, H2.out, World.ownsRow_nil _ _ _ _⟩
  case round =>
    obtain ⟨k, v, hk, rfl, hs, hown⟩ := hrel
    have HS := Lib.hid hs
    have HO := Lib.hid hown
    clear hs hown
    by_cases hlt : (k : Int) < (n : Int)
    · have hkl : k < d.list.length := by have := HN.out; omega
      obtain ⟨z, hz⟩ : ∃ z, d.list[k] = z := ⟨_, rfl⟩
      have hx : d.list[k]? = some z := by rw [← hz]; exact List.getElem?_eq_getElem hkl
      have hd : d.list.drop k = z :: d.list.drop (k + 1) := by rw [List.drop_eq_getElem_cons hkl, hz]
      have hs2 : RdS 85 zNode w rb (le z 8 ++ (leAll (d.list.drop (k + 1)) ++ (textBytes d.name ++ R))) w.heap.size (w.heap.size + 1) (ndPart d v) wr := by
        have h := HS.out
        rw [hd] at h
        simpa [leAll] using h
      have HSD := Lib.hid hs2.drew
      have HOD : Hid (wr.drew.ownsRow (w.heap.size + 2) 3 1 v k ((d.list.take k).map I)) := Lib.hid HO.out
      have hc6 : wr.cell? ⟨w.heap.size + 1, 6, none⟩ = some v := HS.out.cell 6
      have HFZ : Hid (fits z) := Lib.hid (HF.out.list z (List.mem_of_getElem? hx))
      have HX := Lib.hid hx
      clear hkl hz hx hd hs2 HS HO
      go_wp2_with fail
      go_region_law (first
        | (refine step_append_lies _ (by rfl) _ _ _ (by rfl) (w.heap.size + 2) 3 i0 (.int .i64 0) 1 8 Tryz.underlying22 hi hz0 hz1 hz2 rfl (by omega) v k ((d.list.take k).map I) (by rfl) (HO5.out.alloc _) ⟨w5.heap.size, 0, none⟩ 1 1 [I z] (by rfl) rfl (cell_one_new _ _ _) (by intro u hu; simp at hu; subst hu; rfl) (by omega) (by unfold maxLen; omega) (by omega) (by simp; omega) _ rfl ?_; intro gg cap w6 hown6 hgrow6 hat6 hlt6'; have HG6 := Lib.hid (HS5.out.grown HO5.out (Nat.lt_succ_self _) hgrow6); have HO6 := Lib.hid hown6; have hc66 : w6.cell? ⟨w.heap.size + 1, 6, none⟩ = some v := HG6.out.cell 6; have hf66 := HG6.out.froz 6; clear hown6 hgrow6 hat6)
        | (go_simp; go_at_call 133; refine (snum_le _ rb z _ HFZ.out HSD.out.rd).mono ?_; rintro e w5 ⟨rfl, hr5, hk5⟩; have HS5 := Lib.hid (HSD.out.step hr5 hk5); have hc5 : w5.cell? ⟨w.heap.size + 1, 6, none⟩ = some v := HS5.out.cell 6; have hl5 := HS5.out.lt; have HO5 := Lib.hid (ownsRow_mkeep HOD.out hk5 (by omega)); clear hr5 hk5))
      all_goals
        go_wp2_with fail
        go_roundw
        case rel => exact ⟨k + 1, .slice (some ⟨gg, 0, none⟩) (k + 1) cap, by omega, by go_num, HG6.out.store 6 (.slice (some ⟨gg, 0, none⟩) (k + 1) cap), by rw [List.take_add_one, HX.out, List.map_append]; exact ownsRow_setCell_below (a := ⟨w.heap.size + 1, 6, none⟩) HO6.out (Nat.lt_succ_self _) _⟩
        case measure => simp [intOf]; omega
    · have hkn : k = n := by omega
      have hl : w.heap.size + 1 < wr.heap.size := HS.out.lt
      have ho := HO.out
      have hs := HS.out
      rw [hkn, ← HN.out, List.take_length] at ho
      rw [hkn, ← HN.out, List.drop_length] at hs
      obtain ⟨A, c, rfl, hli⟩ := LI.of_owns ho
      have HLI := Lib.hid hli
      have HS1 : Hid (RdS 85 zNode w rb (textBytes d.name ++ R) w.heap.size (w.heap.size + 1) (ndPart d (.slice A d.list.length c)) wr) := Lib.hid hs
      clear hkn ho hs hli HS HO
      go_wp2_with fail
      refine (text_yes wr rb d.name R (by have := HF.out.name; omega) HS1.out.rd).mono ?_
      rintro e w3 ⟨rfl, hr3, hk3⟩
      have HS3 := Lib.hid (HS1.out.step hr3 hk3)
      have hc3 := HS3.out.cell
      have hf3 := HS3.out.froz
      have HLI3 := Lib.hid (HLI.out.mkeep hk3 (by omega))
      have hl3 := HS3.out.lt
      clear hr3 hk3 HS1 HLI
      have HS4 : Hid (RdS 85 zNode w rb R w.heap.size (w.heap.size + 1) (ndCells d A c) (w3.setCell ⟨w.heap.size + 1, 7, none⟩ (.string d.name))) := Lib.hid (HS3.out.store 7 (.string d.name))
      have HRW := Lib.hid HS4.out.row
      go_wp2_with (first
        | (with_reducible refine g_load 85 ?_; refine wpList_load_Row rfl _ _ rfl (w.heap.size + 1) rfl (ndCells d A c) HRW.out _ Tryz.underlying85 rfl (nd_size _ _ _) ?_)
        | (with_reducible refine g_store 85 ?_; refine wpList_store_row rfl _ _ _ rfl w.heap.size (ndCells d A c) rfl rfl 85 zNode HS4.out.res (nd_size _ _ _) rfl (nd_one _ _ _) ?_))
      have hfin := HS4.out.done (ndCells d A c)
      exact bodyPost_ret (v := .agg (ndCells d A c)) (results_cell_row rfl _ _ w.heap.size _ (ndCells d A c) (0, 0) _ rfl (setRow_heap _ _ _ _ _ _ HS4.out.res) Tryz.underlying85 rfl (nd_size _ _ _)) rfl ⟨A, c, rfl, ((HLI3.out.of_blocks (by simp [World.setCell]) fun k h1 h2 => (setRow_other _ _ k _ (by omega)).trans (heap_setCell_other _ _ k _ (by show k ≠ w.heap.size + 1; omega))).lower (by omega)), hfin.1, hfin.2⟩
end Go.Proofs.YtenbgpcdoljkgaaGreatDoor

/- (*series.reader).move. -/
namespace Go.Proofs.YtenbgpcdoljkgaaGreatDoor
open Go Go.RowKit

def Mvd (w : World) (rb : Nat) (m : Mv) (R : List UInt8) (e : Ending) (w' : World) : Prop :=
  e = .returned (.agg (mvCells m)) ∧ SRd w' rb R ∧ MKeep rb w w'
def drZ (m : Mv) : Int := if m.drop then 1 else 0
def mvTo (h : Nat) (m : Mv) : List ((Nat × Nat) × Int) := [((h + 1, 0), m.day), ((h + 2, 0), drZ m), ((h + 1, 2), m.toDay), ((h + 1, 3), m.minute), ((h + 1, 4), m.length)]
theorem nb_move : NB zMove := by unfold NB; kernel_rfl
theorem nb_one (z : Int) : NB #[I z] := by unfold NB; kernel_rfl
theorem mvTo_var (h : Nat) (m : Mv) : putsB (h + 1) (mvTo h m) (some (.cells zMove 25 (0, 0))) = some (.cells #[I m.day, .bool false, I m.toDay, I m.minute, I m.length] 25 (0, 0)) := by
  simp [putsB, setO, zMove, mvTo]
theorem mvTo_drop (h : Nat) (m : Mv) : putsB (h + 2) (mvTo h m) (some (.cells #[I 0] 3 (0, 0))) = some (.cells #[I (drZ m)] 3 (0, 0)) := by
  simp [putsB, setO, mvTo]
set_option maxRecDepth 10000 in
set_option maxHeartbeats 2000000 in
theorem smove_yes (w : World) (rb : Nat) (m : Mv) (R : List UInt8) (hf : ∀ z ∈ mvNums m, fits z) (hr : SRd w rb (leAll (mvNums m) ++ R)) : Calls Tryz.prog 117 #[pt rb] w (Mvd w rb m R) := by
  have hml := hr.lt
  have H0 : Hid (RdS 25 zMove w rb (leAll (mvNums m) ++ R) w.heap.size (w.heap.size + 1) zMove (((w.alloc (.cells zMove 25)).alloc (.cells zMove 25)).alloc (.cells #[I 0] 3))) := Lib.hid ((RdS.start hr zMove zMove).more _)
  have HD : Hid ((((w.alloc (.cells zMove 25)).alloc (.cells zMove 25)).alloc (.cells #[I 0] 3)).heap[w.heap.size + 2]? = some (.cells #[I 0] 3 (0, 0))) := Lib.hid (by
    have h := heap_alloc_last ((w.alloc (.cells zMove 25)).alloc (.cells zMove 25)) (.cells #[I 0] 3)
    simpa using h)
  have HF := Lib.hid hf
  clear hr hf
  go_enter Tryz.func117, Tryz.ntmps117
  go_wp2_with fail
  refine (fill_yes _ rb (w.heap.size + 3) 5 5 (mvTo w.heap.size m) R ?hr rfl (by omega) (by omega) (by simp) ?hA ?hT ?hf).mono ?_
  case hr => exact (H0.out.more _).rd
  case hA => exact ptrs_new _ _ (by simp) _ _ _ rfl
  case hT =>
    intro p hp
    unfold mvTo at hp
    simp only [List.mem_cons, List.not_mem_nil, or_false] at hp
    have hd : TgtOK ((((w.alloc (.cells zMove 25)).alloc (.cells zMove 25)).alloc (.cells #[I 0] 3)).alloc (.cells #[.pointer (some ⟨w.heap.size + 1, 0, none⟩), .pointer (some ⟨w.heap.size + 2, 0, none⟩), .pointer (some ⟨w.heap.size + 1, 2, none⟩), .pointer (some ⟨w.heap.size + 1, 3, none⟩), .pointer (some ⟨w.heap.size + 1, 4, none⟩)] 76)) rb (w.heap.size + 3) (w.heap.size + 2, 0) :=
      ⟨by show w.heap.size + 2 ≠ rb; omega, by show w.heap.size + 2 ≠ w.heap.size + 3; omega, _, _, (Below.heap_alloc _ _ _ (by simp)).trans HD.out, by show 0 < 1; decide, nb_one _⟩
    rcases hp with rfl | rfl | rfl | rfl | rfl
    · refine H0.out.tgt _ _ _ (by simp) ?_ nb_move; decide
    · exact hd
    · refine H0.out.tgt _ _ _ (by simp) ?_ nb_move; decide
    · refine H0.out.tgt _ _ _ (by simp) ?_ nb_move; decide
    · refine H0.out.tgt _ _ _ (by simp) ?_ nb_move; decide
  case hf =>
    intro p hp
    have h := HF.out
    unfold mvNums at h
    unfold mvTo drZ at hp
    simp only [List.mem_cons, List.not_mem_nil, or_false] at hp
    rcases hp with rfl | rfl | rfl | rfl | rfl <;> exact h _ (by simp)
  rintro e w1 ⟨rfl, hr1, hp1⟩
  have H1 : Hid (RdS 25 zMove w rb R w.heap.size (w.heap.size + 1) #[I m.day, .bool false, I m.toDay, I m.minute, I m.length] w1) := Lib.hid (H0.out.filled _ hr1 hp1 (by
    intro p hp
    unfold mvTo at hp
    simp only [List.mem_cons, List.not_mem_nil, or_false] at hp
    rcases hp with rfl | rfl | rfl | rfl | rfl <;> (dsimp only; omega)) (mvTo_var _ _))
  have hd1 : w1.heap[w.heap.size + 2]? = some (.cells #[I (drZ m)] 3 (0, 0)) := by
    rw [hp1.block (w.heap.size + 2) (by simp) (by omega), Below.heap_alloc _ _ _ (by simp)]
    exact (congrArg _ HD.out).trans (mvTo_drop _ _)
  have hcd : w1.cell? ⟨w.heap.size + 2, 0, none⟩ = some (I (drZ m)) := cell_of_row w1 _ 0 _ _ _ hd1
  have hc1 := H1.out.cell
  have hf1 := H1.out.froz
  clear hr1 hp1 H0 HD hd1 HF
  have HS4 : Hid (RdS 25 zMove w rb R w.heap.size (w.heap.size + 1) (mvCells m) (w1.setCell ⟨w.heap.size + 1, 1, none⟩ (.bool m.drop))) := Lib.hid (H1.out.store 1 (.bool m.drop))
  have HRW := Lib.hid HS4.out.row
  have hdz : ∀ y : Bool, m.drop = y → drZ m = if y then 1 else 0 := fun y hy => by unfold drZ; rw [hy]
  obtain ⟨dr, hdr⟩ : ∃ dr, m.drop = dr := ⟨_, rfl⟩
  rw [hdz dr hdr] at hcd
  rw [hdr] at HS4 HRW
  clear hdz hdr
  cases dr
  all_goals
    simp only [if_true, if_false, Bool.false_eq_true] at hcd
    go_wp2_with (first
      | (with_reducible refine g_load 25 ?_; refine wpList_load_Row rfl _ _ rfl (w.heap.size + 1) rfl (mvCells m) HRW.out _ Tryz.underlying25 rfl (mv_size _) ?_)
      | (with_reducible refine g_store 25 ?_; refine wpList_store_row rfl _ _ _ rfl w.heap.size (mvCells m) rfl rfl 25 zMove HS4.out.res (mv_size _) rfl (mv_one _) ?_))
    have hfin := HS4.out.done (mvCells m)
    exact bodyPost_ret (v := .agg (mvCells m)) (results_cell_row rfl _ _ w.heap.size _ (mvCells m) (0, 0) _ rfl (setRow_heap _ _ _ _ _ _ HS4.out.res) Tryz.underlying25 rfl (mv_size _)) rfl ⟨rfl, hfin.1, hfin.2⟩
end Go.Proofs.YtenbgpcdoljkgaaGreatDoor

/- slices.Clone and slices.Equal of bytes. -/
namespace Go.Proofs.YtenbgpcdoljkgaaGreatDoor
open Go Go.RowKit Go.WideShapes

theorem own_noneB (w : World) : (w.alloc (.cells #[] 5)).ownsRow w.heap.size 5 1 (.slice (some ⟨w.heap.size, 0, none⟩) 0 0) 0 [] :=
  ⟨rfl, .inr ⟨w.heap.size, 0, #[], rfl, Nat.le_refl _, heap_alloc_last w _, Nat.le_refl _, Nat.zero_le _, rfl, rfl⟩⟩
def ClB (w : World) (bs : List UInt8) (e : Ending) (w' : World) : Prop :=
  ∃ g c, e = .returned (.slice (some ⟨g, 0, none⟩) bs.length c) ∧ w'.ownsRow w.heap.size 5 1 (.slice (some ⟨g, 0, none⟩) bs.length c) bs.length (bs.map Extern.Stop.cell) ∧ Below w.heap.size w w'
set_option maxRecDepth 10000 in
set_option maxHeartbeats 2000000 in
theorem cloneB_some (b off c : Nat) (bs : List UInt8) (n : Nat) (w : World) (hA : ∀ j, j < n → w.cell? ⟨b, off + j, none⟩ = some (Extern.Stop.cell (bs[j]?.getD 0))) (hb : b < w.heap.size) (hl : bs.length = n) (h0 : 0 < n) (hn : n ≤ 10000000) :
    Calls Tryz.prog 112 #[.slice (some ⟨b, off, none⟩) n c] w (ClB w bs) := by
  have HN : Hid (∀ j u, (bs.map Extern.Stop.cell)[j]? = some u → (w.alloc (.cells #[] 5)).cell? ((⟨b, off, none⟩ : Addr).add j) = some u) := Lib.hid fun j u hu => by
    rw [List.getElem?_map] at hu
    obtain ⟨z, hz, rfl⟩ := Option.map_eq_some_iff.1 hu
    have hj : j < bs.length := (List.getElem?_eq_some_iff.1 hz).1
    rw [add_plain, World.cell?_of_block (Below.heap_alloc w _ b hb), hA j (by omega), hz]; rfl
  have HO := Lib.hid (own_noneB w)
  have HL := Lib.hid hl
  have HB := Lib.hid (below_var w (.cells #[] 5))
  obtain ⟨i0, hi, hz0, hz1, hz2⟩ := info_parts info_u8
  have HI := Lib.hid hi
  have HZ0 := Lib.hid hz0
  have HZ1 := Lib.hid hz1
  have HZ2 := Lib.hid hz2
  have heq : ∀ W, (binOp .eql 38 (.slice (some ⟨b, off, none⟩) n c) (.slice none 0 0)).run Tryz.prog W = .ok (.bool false) W := fun W => by simp [binOp, run_equal_slice_nil W 38 5 (some ⟨b, off, none⟩) n c Tryz.underlying38]
  clear hA hl hi hz0 hz1 hz2
  go_enter Tryz.func112, Tryz.ntmps112
  go_wp2_with (at_builtin; refine wpList_append_own_at _ rfl _ _ 38 rfl w.heap.size 5 i0 (.int .u8 0) 1 1 Tryz.underlying38 HI.out HZ0.out HZ1.out HZ2.out rfl (by decide) _ 0 [] rfl HO.out ⟨b, off, none⟩ n c (bs.map Extern.Stop.cell) rfl (by rw [List.length_map, HL.out]; omega) HN.out (by intro u hu; obtain ⟨z, _, rfl⟩ := List.mem_map.1 hu; rfl) (by unfold maxLen; omega) (by omega) (by simp) ?_)
  intro v' w' hown hg _ _
  have HB2 := Lib.hid (below_grown HB.out HO.out (by simp) hg)
  obtain ⟨g, cap, rfl, _⟩ := own_form hown h0
  have HOW := Lib.hid hown
  clear hown hg
  go_wp2_with fail
  go_ret
  exact ⟨g, cap, by rw [HL.out]; rfl, by rw [HL.out]; exact HOW.out, HB2.out⟩
set_option maxRecDepth 10000 in
set_option maxHeartbeats 1000000 in
theorem eqBs_some (b1 o1 b2 o2 n c d : Nat) (xs : List UInt8) (hx : xs.length = n) (w : World) (hA : ∀ j, j < n → w.cell? ⟨b1, o1 + j, none⟩ = some (Extern.Stop.cell (xs[j]?.getD 0))) (hB : ∀ j, j < n → w.cell? ⟨b2, o2 + j, none⟩ = some (Extern.Stop.cell (xs[j]?.getD 0))) (hn : n ≤ 140737488355328) :
    Calls Tryz.prog 118 #[.slice (some ⟨b1, o1, none⟩) n c, .slice (some ⟨b2, o2, none⟩) n d] w (Gives (.bool true) w) := by
  have hb : ((n : Int) != (n : Int)) = false := by rw [neq_dec]; exact decide_eq_false (by omega)
  have HX := Lib.hid hx
  have HA := Lib.hid hA
  have HB := Lib.hid hB
  clear hx hA hB
  go_enter Tryz.func118, Tryz.ntmps118
  go_wp2
  go_loopw [13] (fun i wr => SameRel n xs xs i ∧ ∃ q, wr = w.drewN q) (fun i _ => n - (intOf i).toNat)
  case atStart => exact ⟨⟨0, Nat.zero_le _, rfl, fun j hj => absurd hj (by omega)⟩, 0, rfl⟩
  case round =>
    obtain ⟨⟨k, hk, rfl, hall⟩, q, rfl⟩ := hrel
    clear hall
    by_cases hlt : k < n
    · have h1 := HA.out k hlt
      have h2 := HB.out k hlt
      obtain ⟨x, hx⟩ : ∃ x, xs[k]?.getD 0 = x := ⟨_, rfl⟩
      rw [hx] at h1 h2
      rw [cell_int] at h1 h2
      clear hx
      have i0 : (0 : Int) ≤ (k : Int) := by omega
      have i1 : (k : Int) < (n : Int) := by omega
      have hne := cells_same x
      go_wp2
      go_quiet (fail)
      go_wp2
      go_roundw
      case rel => exact ⟨⟨k + 1, by omega, by go_num, fun j hj => rfl⟩, _, rfl⟩
      case measure => simp [intOf]; omega
    · go_wp2
      go_ret
      exact ⟨rfl, below_drewN' _ _⟩
end Go.Proofs.YtenbgpcdoljkgaaGreatDoor
