/- The texts RdV, RdC, RdG, SwL, SwZ, Var, RdY, RdZ, DirsP, RtP, in this order. -/
import Derived.Test.YtenbgpcdoljkgaaGreatDoorG09
import Derived.Laws.CopyOwn
import Derived.Deep.AppendLies
import Derived.Deep.MidRow
import Derived.StillTailTactics
import Derived.Test.YtenbgpcdoljkgaaGreatDoorG07
import Derived.Test.YtenbgpcdoljkgaaGreatDoorG08
import Derived.Laws.AppendOwnNone
import Derived.Test.YtenbgpcdoljkgaaGreatDoorBytesW
/- (*letter.reader).ref on known bytes. -/
namespace Go.Proofs.YtenbgpcdoljkgaaGreatDoor
open Go Go.RowKit

/-- copy into a row, as one step of a region that draws its order. -/
theorem step_copy_row {P : Program} {ops : Array Oper} {o : Oper} {a : Act} {w : World} {K : Act → World → Prop} {Q : Exit → Act → World → Prop} {E : Prop} (hgd : o.guard = none) (d s : Operand) (dT sT : TypeId)
    (ho : o.op = .call { callee := .builtin .copy, args := #[d, s], argTypes := #[dT, sT] }) (elem : TypeId) (hu : P.underlying dT = some (.slice elem)) (hsz : (P.info? elem).map (·.size) = some 1)
    (g off dLen dCap : Nat) (ad : Addr) (sLen sCap : Nat) (hd : a.eval d = .slice (some ⟨g, off, none⟩) dLen dCap) (hs : a.eval s = .slice (some ad) sLen sCap)
    (cur : Array Value) (t : TypeId) (hg : w.heap[g]? = some (.cells cur t (0, 0))) (cs : List Value) (hn : cs.length = Nat.min sLen dLen)
    (hsrc : ∀ j v, cs[j]? = some v → w.cell? (ad.add j) = some v) (hfit : off + cs.length ≤ cur.size) (h1 : ∀ v ∈ cs, v.oneCell' = true)
    (new : Array Value) (hnew : new = (splice cur.toList off cs).toArray) (h : K (a.put o.dst (goInt cs.length)) (w.setRow g new)) :
    if Region.wanted o (yielded ops a.tmps) = true then Oper.wp P o a w K Q else E := by
  have hw : Region.wanted o (yielded ops a.tmps) = true := by simp [Region.wanted, hgd]
  rw [if_pos hw]
  have hrun := run_copy_row (P := P) w dT sT o.type elem g off dLen dCap ad sLen sCap cur t cs hu hsz hg hn hsrc hfit h1
  have e : (cur.toList.take off ++ cs ++ cur.toList.drop (off + cs.length)).toArray = new := by rw [hnew]; simp [splice]
  rw [e] at hrun
  unfold Oper.wp
  simp [execOp, ho, resolve, invoke, builtin, hd, hs, hrun, Result.andThen]
  exact h
theorem ref_splice (l : Lt) (s : Sl) (xs : List UInt8) (hl : l.ref.length = 32) (hx : xs.length = 32) : ltVal { l with ref := xs } s = (splice (ltVal l s).toList 30 (refCells xs)).toArray := by
  unfold ltVal ltCells splice
  have h1 : (refCells xs).length = 32 := by simp [refCells, hx]
  have h2 : (refCells l.ref).length = 32 := by simp [refCells, hl]
  rw [h1]
  dsimp only
  rw [List.drop_eq_nil_of_le (by simp [h2]), List.append_nil, List.take_append_of_le_length (by simp)]
  rfl
theorem bytes_some {w : World} {B : Nat} {A : Option Addr} {bs : List UInt8} (h : BytesAt w B A bs) (h0 : 0 < bs.length) : ∃ b off, A = some ⟨b, off, none⟩ ∧ b < B ∧ ∀ j, j < bs.length → w.cell? ⟨b, off + j, none⟩ = some (Extern.Stop.cell (bs[j]?.getD 0)) := by
  rcases h with h | h
  · omega
  · exact h
theorem LIn.take32 {w wm w1 : World} {l : Lt} {s : Sl} {xs R : List UInt8} (h : LIn w wm w1 l s (xs ++ R)) (hn : xs.length = 32) :
    Calls Tryz.prog 84 #[I 32, pt (w.heap.size + 4), pt (w.heap.size + 2)] w1 fun e w2 => ∃ b off c, e = .returned (.slice (some ⟨b, off, none⟩) 32 c) ∧ (∀ j u, (refCells xs)[j]? = some u → w2.cell? ((⟨b, off, none⟩ : Addr).add j) = some u) ∧ LIn w wm w2 l s R :=
  (h.take hn).mono fun e w2 ⟨A, c, h1, _, _, h4, h5⟩ => by
    obtain ⟨b, off, rfl, _, hc⟩ := bytes_some h4 (by omega)
    refine ⟨b, off, c, h1, fun j u hu => ?_, h5⟩
    have hj : j < xs.length := by
      have := (List.getElem?_eq_some_iff.1 hu).1
      simpa [refCells] using this
    rw [Addr.add_mid, hc j hj]
    unfold refCells at hu
    rw [List.getElem?_map, List.getElem?_eq_getElem hj] at hu
    rw [List.getElem?_eq_getElem hj]
    simpa using hu
theorem ref_ones (xs : List UInt8) : ∀ v ∈ refCells xs, v.oneCell' = true := ref_one2 xs
set_option maxRecDepth 10000 in
set_option maxHeartbeats 2000000 in
theorem rref_yes (w wm w1 : World) (l : Lt) (s : Sl) (R xs : List UInt8) (hx : xs.length = 32) (hl : l.ref.length = 32) (h : LIn w wm w1 l s (xs ++ R)) :
    Calls Tryz.prog 60 #[pt (w.heap.size + 3)] w1 fun e w2 => e = .returned (.tuple #[]) ∧ LIn w wm w2 { l with ref := xs } s R := by
  have HD := Lib.hid h.draw
  have hc := h.rdr
  have hf := h.fn
  have hsz := h.sz
  have HX := Lib.hid hx
  have HS : Hid ((refCells xs).length = 32) := Lib.hid (by simp [refCells, hx])
  have HZ : Hid ((ltVal l s).size = 62) := Lib.hid (lt_size _ _ _ _ hl)
  have HN := Lib.hid (ref_splice l s xs hl hx)
  clear h hx hl
  go_enter Tryz.func60, Tryz.ntmps60
  go_wp2_with fail
  go_region_law (first
    | (go_simp; go_at_call 84; refine (HD.out.take32 HX.out).mono ?_; rintro e w5 ⟨b5, o5, c5, rfl, hb5, h5⟩; have H5 := Lib.hid h5; have HB5 := Lib.hid hb5; have hc5 := h5.rdr; have hv5 := h5.fn; have hs5 := h5.sz; clear h5 hb5)
    | (refine step_copy_row (by rfl) _ _ _ _ (by rfl) 5 Tryz.underlying38 (by kernel_rfl) (w.heap.size + 1) 30 32 32 ⟨b5, o5, none⟩ 32 c5 (by rfl) (by rfl) (ltVal l s) 36 H5.out.blk (refCells xs) (by rw [HS.out]; rfl) HB5.out (by rw [HS.out, HZ.out]; decide) (ref_ones xs) (ltVal { l with ref := xs } s) HN.out ?_))
  all_goals
    have H6 : Hid (LIn w wm (w5.setRow (w.heap.size + 1) (ltVal { l with ref := xs } s)) { l with ref := xs } s R) := Lib.hid H5.out.setRow
    go_wp2_with fail
    go_end0
    exact ⟨rfl, H6.out⟩
end Go.Proofs.YtenbgpcdoljkgaaGreatDoor

/- (*letter.reader).cells on known bytes. -/
namespace Go.Proofs.YtenbgpcdoljkgaaGreatDoor
open Go Go.RowKit

theorem LIn.cast {w wm w1 : World} {l l' : Lt} {s s' : Sl} {R : List UInt8} (h : LIn w wm w1 l s R) (e : ltVal l' s' = ltVal l s) : LIn w wm w1 l' s' R :=
  ⟨by rw [e]; exact h.blk, h.st, h.res, h.lo, h.sz, h.msz, h.mem⟩
theorem LIn.grown {w wm w1 w2 : World} {l : Lt} {s : Sl} {R : List UInt8} {e size n : Nat} {v : Value} {ys : List Value} {o : Obj} (h : LIn w wm w1 l s R) (hwm : w.heap.size + 4 < wm.heap.size) (hown : w1.ownsRow wm.heap.size e size v n ys) (hg : (w1.drew.alloc o).grownBy w2 v.ownBlock) : LIn w wm w2 l s R := by
  have hm := h.msz
  have hs : w1.heap.size ≤ w2.heap.size := by have h1 := hg.size; rw [World.size_alloc] at h1; have h2 : w1.drew.heap.size = w1.heap.size := rfl; omega
  have hb : ∀ k, k < wm.heap.size → w2.heap[k]? = w1.heap[k]? := fun k hk => grown_low (W := w1.drew) hown hg k (by show k < w1.heap.size; omega) hk
  exact h.turn ((hb _ (by omega)).trans h.blk) hg.os hg.tape hg.output hs fun k h1 _ => hb k (by omega)
theorem cellBytes_map (zs : List Int) : cellBytes zs = zs.map byteOf := by
  induction zs with
  | nil => rfl
  | cons z zs ih => unfold cellBytes at *; rw [List.flatMap_cons, ih]; rfl
theorem byte_z {z : Int} (h : 0 ≤ z ∧ z ≤ 255) : Extern.Stop.cell (byteOf z) = .int .u8 z := by rw [byteOf_cell, Int.emod_eq_of_lt h.1 (by omega)]
theorem cells_newI {w : World} {t : TypeId} (z : Int) : ∀ j u, [I z][j]? = some u → (w.alloc (.cells #[I z] t)).cell? ((⟨w.heap.size, 0, none⟩ : Addr).add j) = some u := by
  intro j u hu
  rw [addr_add, (Row.new w _ t).2 j]
  simpa using hu
theorem int_ones (z : Int) : ∀ u ∈ [I z], u.oneCell' = true := fun u hu => by rw [List.mem_singleton.1 hu]; rfl
def RcRel (w wm : World) (l : Lt) (s : Sl) (R : List UInt8) (zs : List Int) (N : Nat) (i : Value) (wr : World) : Prop :=
  ∃ (j : Nat) (C : Option Addr) (e : Nat), j ≤ N ∧ i = I j ∧ LIn w wm wr { l with cells := zs.take j } { s with C := C, e := e } R ∧ wr.ownsRow wm.heap.size 3 1 (.slice C j e) j ((zs.take j).map I)
set_option maxRecDepth 10000 in
set_option maxHeartbeats 2000000 in
theorem rcells_yes (w wm w1 : World) (l : Lt) (s : Sl) (R : List UInt8) (zs : List Int) (N : Nat) (hN : zs.length = N) (hN2 : N ≤ 65536) (hz : ∀ z ∈ zs, 0 ≤ z ∧ z ≤ 255) (hwm : w.heap.size + 4 < wm.heap.size) (hc0 : l.cells = []) (hC : s.C = none) (he : s.e = 0)
    (h : LIn w wm w1 l s (le (N : Int) 4 ++ (cellBytes zs ++ R))) :
    Calls Tryz.prog 59 #[pt (w.heap.size + 3)] w1 fun e w2 => e = .returned (.tuple #[]) ∧ ∃ C e', LIn w wm w2 { l with cells := zs } { s with C := C, e := e' } R ∧ w2.ownsRow wm.heap.size 3 1 (.slice C N e') N (zs.map I) := by
  have H0 := Lib.hid h
  have HN := Lib.hid hN
  have HZ := Lib.hid hz
  have HE : Hid (ltVal { l with cells := zs.take 0 } { s with C := none, e := 0 } = ltVal l s) := Lib.hid (by unfold ltVal; rw [List.take_zero, hc0, hC, he]; rfl)
  clear h hN hz hc0 hC he
  go_enter Tryz.func59, Tryz.ntmps59
  go_wp2_with fail
  refine (H0.out.number4 (by omega) (by omega)).mono ?_
  rintro e w2 ⟨rfl, h2⟩
  have H2 := Lib.hid h2
  have hc2 := h2.rdr
  have hf2 := h2.fn
  clear h2 H0
  go_wp2_with fail
  refine (H2.out.take (by rw [cellBytes_length]; exact HN.out)).mono ?_
  rintro e w3 ⟨A, c, rfl, hnc, hcm, hby, h3⟩
  have H3 := Lib.hid h3
  have HY := Lib.hid hby
  clear h3 hby H2 hc2 hf2
  go_wp2_with fail
  go_loopw [14] (fun i wr => RcRel w wm l s R zs N i wr) (fun i _ => N - (intOf i).toNat)
  case atStart => exact ⟨0, none, 0, Nat.zero_le _, rfl, H3.out.cast HE.out, World.ownsRow_nil _ _ _ _⟩
  case round =>
    obtain ⟨j, C, e, hj, rfl, hs, ho⟩ := hrel
    have HS := Lib.hid hs
    have HO := Lib.hid ho
    clear hs ho
    by_cases hlt : (j : Int) < (N : Int)
    · have hjl : j < zs.length := by have := HN.out; omega
      obtain ⟨z, hzd⟩ : ∃ z, zs[j] = z := ⟨_, rfl⟩
      have hx : zs[j]? = some z := by rw [← hzd]; exact List.getElem?_eq_getElem hjl
      have hz2 := HZ.out z (List.mem_of_getElem? hx)
      have hyr := HY.out.via H3.out.lo HS.out.lo
      obtain ⟨b, off, rfl, hbw, hcl⟩ := bytes_some hyr (by rw [cellBytes_length]; omega)
      have hcell : wr.cell? ⟨b, off + j, none⟩ = some (.int .u8 z) := by
        rw [hcl j (by rw [cellBytes_length]; exact hjl), cellBytes_map, List.getElem?_map, hx]
        exact congrArg some (byte_z hz2)
      obtain ⟨hz0, hz1⟩ := hz2
      have hcr := HS.out.rdr
      have hlz : (zs.take j).length = j := by rw [List.length_take]; omega
      have hcv : wr.cell? ⟨w.heap.size + 1, 29, none⟩ = some (.slice C j e) := by
        have h := HS.out.row.2 29
        rw [h, ltVal_get, lt_get29]
        show some (Value.slice C (zs.take j).length e) = _
        rw [hlz]
      have hfv := HS.out.froz 29
      have hsz := HS.out.sz
      have hmz := HS.out.msz
      have hwz : IntKind.i64.wrap z = z := by rw [IntKind.wrap_i64]; omega
      have hlw : w.heap.size + 1 < wr.heap.size := by omega
      have hlw3 : w.heap.size + 3 < wr.heap.size := by omega
      have HX := Lib.hid hx
      have HOD : Hid (wr.drew.ownsRow wm.heap.size 3 1 (.slice C j e) j ((zs.take j).map I)) := Lib.hid HO.out
      have hdw : wm.heap.size ≤ wr.drew.heap.size := hmz
      obtain ⟨i0, hi, hq0, hq1, hq2⟩ := info_parts info_int
      clear hjl hzd hx hyr hcl hlz
      go_wp2_with fail
      go_region_law (refine step_append_lies _ (by rfl) _ _ _ (by rfl) wm.heap.size 3 i0 (.int .i64 0) 1 8 Tryz.underlying22 hi hq0 hq1 hq2 rfl (by omega) (.slice C j e) j ((zs.take j).map I) (by rfl) (HOD.out.alloc _) ⟨wr.heap.size, 0, none⟩ 1 1 [I z] (by rfl) rfl (cells_newI (w := wr.drew) z) (int_ones z) (by omega) (by unfold maxLen; omega) (by omega) (by first | (simp; done) | (simp; omega)) _ rfl ?_; intro gg cap w6 hown6 hgrow6 hat6 hlt6; have hg6 := HS.out.grown hwm HO.out hgrow6; have H6 := Lib.hid hg6; have HO6 := Lib.hid hown6; have hcr6 := hg6.rdr; have hcv6 : w6.cell? ⟨w.heap.size + 1, 29, none⟩ = some (.slice C (zs.take j).length e) := hg6.row.2 29; have hfv6 := hg6.froz 29; clear hg6 hown6 hgrow6 hat6)
      all_goals
        have hlen7 : (zs.take (j + 1)).length = j + 1 := by have := HN.out; rw [List.length_take]; omega
        have H7 : Hid (LIn w wm (w6.setCell ⟨w.heap.size + 1, 29, none⟩ (.slice (some ⟨gg, 0, none⟩) (j + 1) cap)) { l with cells := zs.take (j + 1) } { s with C := some ⟨gg, 0, none⟩, e := cap } R) := Lib.hid (H6.out.store (by rw [put_cells _ _ (zs.take (j + 1)) _ _ _ hlen7]))
        have HO7 := Lib.hid (ownsRow_setCell_below (a := ⟨w.heap.size + 1, 29, none⟩) HO6.out (by show w.heap.size + 1 < wm.heap.size; omega) (.slice (some ⟨gg, 0, none⟩) (j + 1) cap))
        clear hlen7
        go_wp2_with fail
        go_roundw
        case rel => exact ⟨j + 1, some ⟨gg, 0, none⟩, cap, by omega, by go_num, H7.out, by rw [take_next _ _ _ HX.out, List.map_append]; exact HO7.out⟩
        case measure => simp [intOf]; omega
    · have HF : Hid (zs.take j = zs) := Lib.hid (List.take_of_length_le (by have := HN.out; omega))
      have hje : j = N := by omega
      subst hje
      go_wp2_with fail
      go_end0
      have h1 := HS.out
      have h2 := HO.out
      rw [HF.out] at h1 h2
      exact ⟨rfl, C, e, h1, h2⟩
end Go.Proofs.YtenbgpcdoljkgaaGreatDoor

/- (*letter.reader).series on known bytes. -/
namespace Go.Proofs.YtenbgpcdoljkgaaGreatDoor
open Go Go.RowKit

section
variable {P : Program} {ops : Array Oper} {rest : List Oper} {o : Oper} {a : Act} {w : World} {Q : Exit → Act → World → Prop}
/-- A store of a whole struct into the newest variable. -/
theorem wpList_store_newrow {ob : Obj} (hgd : o.guard = none) (ty : TypeId) (x y : Operand) (ho : o.op = .store ty x y) (cells : Array Value) (hx : a.eval x = .pointer (some ⟨w.heap.size, 0, none⟩)) (hy : a.eval y = .agg cells) (t : TypeId) (old : Array Value) (hob : ob = .cells old t (0, 0)) (hi : (P.info? ty).map (·.size) = some cells.size) (hold : old.size = cells.size) (h1 : cells.all (·.oneCell') = true)
    (h : ∀ W, Below w.heap.size w W → w.heap.size < W.heap.size → Row W w.heap.size cells → wpList P ops Q rest (a.put o.dst undef) W) : wpList P ops Q (o :: rest) a (w.alloc ob) := by
  subst hob
  refine wpList_store_row hgd ty x y ho w.heap.size cells hx hy t old (heap_alloc_last w _) hi hold h1 (h _ (below_setRow (below_var w _) (Nat.le_refl _) _) (by simp [World.setRow]) (Row.of_blk (setRow_heap _ _ _ _ _ _ (heap_alloc_last w _))))
theorem wpList_store_midG (hgd : o.guard = none) (ty : TypeId) (x y : Operand) (ho : o.op = .store ty x y) (b off : Nat) (cells : Array Value) (hx : a.eval x = .pointer (some ⟨b, off, none⟩)) (hy : a.eval y = .agg cells) (ht : w.there b off cells.size) (hi : (P.info? ty).map (·.size) = some cells.size) (h1 : cells.all (·.oneCell') = true)
    (h : ∀ W, W = w.setCells b off cells.toList → wpList P ops Q rest (a.put o.dst undef) W) : wpList P ops Q (o :: rest) a w :=
  wpList_store_mid hgd ty x y ho b off cells hx hy ht hi h1 (h _ rfl)
/-- A load of a whole struct, in a region that draws and only reads. -/
theorem wpStill_load_Row {Q : Act → Prop} (hw : Region.wanted o (yielded ops a.tmps) = true) (ty : TypeId) (x : Operand) (ho : o.op = .load ty x) (g : Nat) (hx : a.eval x = .pointer (some ⟨g, 0, none⟩)) (cs : Array Value) (hr : Row w g cs)
    (d : TypeDesc) (hu : P.underlying ty = some d) (hd : d.isRow = true) (hi : (P.info? ty).map (·.size) = some cs.size)
    (h : wpStill P ops w Q rest (a.put o.dst (.agg cs))) : wpStill P ops w Q (o :: rest) a := by
  refine wpStill_step fun K hK => ?_
  rw [if_pos hw]
  have hc : w.rangeAt g 0 cs.toList := fun j v hv => by rw [Nat.zero_add, hr.2 j]; simpa using hv
  unfold Oper.still execOp
  simp only [ho, hx, Instr.loadAt, Instr.sureAddr, Sem.run_bind, Sem.run_pure, Result.andThen_ok, run_loadVar_mid w g 0 ty cs.toList d hc hu hd (by rw [hi]; simp)]
  exact ⟨rfl, hK _ (by simpa using h)⟩
end
theorem setCells_blk : ∀ (vs : List Value) (w : World) (b o : Nat) (cs : Array Value) (t : TypeId), w.heap[b]? = some (.cells cs t (0, 0)) → (w.setCells b o vs).heap[b]? = some (.cells (putAll cs o vs) t (0, 0))
  | [], _, _, _, _, _, h => h
  | v :: r, w, b, o, _, t, h => setCells_blk r _ b (o + 1) _ t (heap_setCell_same w b o _ _ v h)
theorem setCells_env : ∀ (vs : List Value) (w : World) (b o : Nat), (w.setCells b o vs).os = w.os ∧ (w.setCells b o vs).tape = w.tape ∧ (w.setCells b o vs).output = w.output
  | [], _, _, _ => ⟨rfl, rfl, rfl⟩
  | v :: r, w, b, o => setCells_env r (w.setCell ⟨b, o, none⟩ v) b (o + 1)
section
variable {w wm w1 w2 : World} {l l' : Lt} {s s' : Sl} {R : List UInt8}
theorem LIn.setAll (h : LIn w wm w1 l s R) {vs : List Value} {o : Nat} (e : putAll (ltVal l s) o vs = ltVal l' s') : LIn w wm (w1.setCells (w.heap.size + 1) o vs) l' s' R := by
  obtain ⟨e1, e2, e3⟩ := setCells_env vs w1 (w.heap.size + 1) o
  exact h.turn (by rw [setCells_blk vs w1 (w.heap.size + 1) o _ _ h.blk, e]) e1 e2 e3 (Nat.le_of_eq (setCells_size vs w1 (w.heap.size + 1) o).symm) fun k _ hk => setCells_other vs w1 (w.heap.size + 1) o k hk
theorem LIn.there (h : LIn w wm w1 l s R) (o n : Nat) (hn : o + n ≤ (ltVal l s).size) : w1.there (w.heap.size + 1) o n := by
  intro j hj
  refine ⟨?_, h.froz _⟩
  rw [h.row.2, Array.getElem?_eq_getElem (by omega)]; rfl
theorem LIn.take0 (h : LIn w wm w1 l s R) :
    Calls Tryz.prog 84 #[I 0, pt (w.heap.size + 4), pt (w.heap.size + 2)] w1 fun e w2 => ∃ A c, e = .returned (.slice A 0 c) ∧ LIn w wm w2 l s R :=
  (LIn.take (xs := []) (n := 0) h rfl).mono fun _ _ ⟨A, c, h1, _, _, _, h5⟩ => ⟨A, c, h1, h5⟩
theorem LIn.takeN {N : Nat} {bs : List UInt8} (h : LIn w wm w1 l s (bs ++ R)) (hN : bs.length = N) (h0 : 0 < N) :
    Calls Tryz.prog 84 #[I N, pt (w.heap.size + 4), pt (w.heap.size + 2)] w1 fun e w2 => ∃ b off c, e = .returned (.slice (some ⟨b, off, none⟩) N c) ∧ b < w.heap.size ∧ (∀ j, j < N → w2.cell? ⟨b, off + j, none⟩ = some (Extern.Stop.cell (bs[j]?.getD 0))) ∧ LIn w wm w2 l s R :=
  (h.take hN).mono fun e w2 ⟨A, c, h1, _, _, h4, h5⟩ => by
    obtain ⟨b, off, rfl, hb, hc⟩ := bytes_some h4 (by omega)
    exact ⟨b, off, c, h1, hb, fun j hj => hc j (by omega), h5⟩
end
set_option maxRecDepth 10000 in
set_option maxHeartbeats 2000000 in
theorem rseries_none (w wm w1 : World) (l : Lt) (s : Sl) (R : List UInt8) (h : LIn w wm w1 l s (le 0 4 ++ R)) :
    Calls Tryz.prog 57 #[pt (w.heap.size + 3)] w1 fun e w2 => e = .returned (.tuple #[]) ∧ LIn w wm w2 l s R := by
  have H0 := Lib.hid h
  clear h
  go_enter Tryz.func57, Tryz.ntmps57
  go_wp2_with fail
  refine (H0.out.number4 (by omega) (by omega)).mono ?_
  rintro e w2 ⟨rfl, h2⟩
  have H2 := Lib.hid h2
  have hc2 := h2.rdr
  have hf2 := h2.fn
  clear h2 H0
  go_wp2_with fail
  refine H2.out.take0.mono ?_
  rintro e w3 ⟨A, c, rfl, h3⟩
  have H3 := Lib.hid h3
  clear h3 H2 hc2 hf2
  go_wp2_with fail
  go_end0
  exact ⟨rfl, H3.out⟩
def RgPost (w wm : World) (l : Lt) (s : Sl) (se : Ser) (R : List UInt8) (e : Ending) (w2 : World) : Prop :=
  e = .returned (.tuple #[]) ∧ ∃ A c B d ns, LIn w wm w2 { l with series := se } { s with A := A, c := c, B := B, d := d } R ∧ ns.map (·.d) = se.rule ∧ RuleIs wm.heap.size w2 (.slice A se.rule.length c) ns ∧ w2.ownsRow wm.heap.size 25 5 (.slice B se.moves.length d) se.moves.length (mvsCells se.moves)
set_option maxRecDepth 10000 in
set_option maxHeartbeats 2000000 in
theorem rseries_some (w wm w1 : World) (l : Lt) (s : Sl) (R : List UInt8) (se : Ser) (N : Nat) (hn64 : se.rule.length ≤ 64) (hg : SerGood se) (hok : ∀ ns : List NdV, ns.map (·.d) = se.rule → RuleOK ns) (hfit : ∀ d ∈ se.rule, NdFit d) (hmf2 : ∀ x ∈ se.moves, ∀ z ∈ mvNums x, fits z) (hN : (seBytes se).length = N) (hN0 : 0 < N) (hN2 : N ≤ 10000000)
    (hwm : w.heap.size + 4 < wm.heap.size) (hl : l.ref.length = 32) (h : LIn w wm w1 l s (le (N : Int) 4 ++ (seBytes se ++ R))) :
    Calls Tryz.prog 57 #[pt (w.heap.size + 3)] w1 (RgPost w wm l s se R) := by
  have H0 := Lib.hid h
  have HN := Lib.hid hN
  have HZ : Hid ((ltVal l s).size = 62) := Lib.hid (lt_size _ _ _ _ hl)
  have HR : Hid (∀ W b off c, b < W.heap.size → (∀ j, j < N → W.cell? ⟨b, off + j, none⟩ = some (Extern.Stop.cell ((seBytes se)[j]?.getD 0))) → Calls Tryz.prog 87 #[.slice (some ⟨b, off, none⟩) N c] W (SrPost W se)) :=
    Lib.hid fun W b off c hb hA => seriesRead_yes W se b off c _ _ N rfl rfl hn64 hg hok hfit hmf2 hN hN0 hN2 hb hA
  have hNp : (0 : Int) < (N : Int) := by omega
  clear h hN hg hok hfit hmf2 hl hn64
  go_enter Tryz.func57, Tryz.ntmps57
  go_wp2_with fail
  refine (H0.out.number4 (by omega) (by omega)).mono ?_
  rintro e w2 ⟨rfl, h2⟩
  have H2 := Lib.hid h2
  have hc2 := h2.rdr
  have hf2 := h2.fn
  clear h2 H0
  go_wp2_with fail
  refine (H2.out.takeN HN.out hN0).mono ?_
  rintro e w3 ⟨b, off, c, rfl, hb, hcl, h3⟩
  have H3 := Lib.hid h3
  have HRD : Hid (Calls Tryz.prog 87 #[.slice (some ⟨b, off, none⟩) N c] w3 (SrPost w3 se)) := Lib.hid (HR.out w3 b off c (Nat.lt_of_lt_of_le hb h3.lo.size) hcl)
  clear h3 H2 hc2 hf2 hcl HR hb
  go_wp2_with fail
  refine HRD.out.mono ?_
  rintro e w4 ⟨A, n, c2, B, m, ec, ns, rfl, rfl, rfl, hmap, hrule, hmov, hb4⟩
  have HM := Lib.hid hmap
  have HRU := Lib.hid hrule
  have HMV := Lib.hid hmov
  have H4 := Lib.hid (H3.out.grow hb4)
  have HMS : Hid (wm.heap.size ≤ w3.heap.size) := Lib.hid H3.out.msz
  have HSZ4 : Hid (w3.heap.size ≤ w4.heap.size) := Lib.hid hb4.size
  clear hmap hrule hmov hb4 H3 HRD
  rw [show serP (.slice A se.rule.length c2) se.minute se.length se.zone se.gap se.fold (.slice B se.moves.length ec) = seC se A B c2 ec from rfl]
  go_wp2_with (first
    | (with_reducible refine g_alloc 30 ?_; refine wpList_alloc_as rfl _ rfl zSerC (by kernel_rfl) ?_)
    | (with_reducible refine g_store 30 ?_; refine wpList_store_newrow rfl _ _ _ rfl (seC se A B c2 ec) rfl rfl 30 zSerC rfl (se_size _ _ _ _ _) rfl (se_one _ _ _ _ _) ?_; intro W5 hb5 hl5 hr5; have H5 := Lib.hid (H4.out.grow hb5); have HB5 := Lib.hid hb5; have HR5 := Lib.hid hr5; have hc5 := H5.out.rdr; clear hb5 hr5))
  go_still_tail 7, (by kernel_rfl)
  have HT : Hid (W5.drew.there (w.heap.size + 1) 17 (seC se A B c2 ec).size) := Lib.hid (H5.out.draw.there 17 7 (by rw [HZ.out]; omega))
  have HRD5 : Hid (Row W5.drew w4.heap.size (seC se A B c2 ec)) := Lib.hid ⟨HR5.out.1, HR5.out.2⟩
  refine wpStill_load_Row rfl _ _ rfl w4.heap.size rfl (seC se A B c2 ec) HRD5.out _ Tryz.underlying30 rfl (se_size _ _ _ _ _) ?_
  repeat still_step
  refine wpStill_nil ?_
  change wpList _ _ _ _ _ W5.drew
  go_wp2_with (first
    | (with_reducible refine g_store 30 ?_; refine wpList_store_midG rfl _ _ _ rfl (w.heap.size + 1) 17 (seC se A B c2 ec) rfl rfl HT.out (se_size _ _ _ _ _) (se_one _ _ _ _ _) ?_; intro W6 e6; have H6 : Hid (LIn w wm W6 { l with series := se } { s with A := A, c := c2, B := B, d := ec } R) := Lib.hid (by rw [e6]; exact H5.out.draw.setAll (put_series _ _ _ _ _ _ _)); have HE6 := Lib.hid e6; have hc6 := H6.out.fine; have hf6 := H6.out.rfroz 2; have hr6 := H6.out.rdr; clear e6))
  go_end0
  have hsz6 : w4.heap.size ≤ W6.heap.size := by rw [HE6.out, setCells_size]; exact HB5.out.size
  have hsz7 : w4.heap.size ≤ (W6.setCell ⟨w.heap.size + 3, 2, none⟩ (.bool false)).heap.size := by simpa [World.setCell] using hsz6
  have hbl : ∀ k, wm.heap.size ≤ k → k < w4.heap.size → (W6.setCell ⟨w.heap.size + 3, 2, none⟩ (.bool false)).heap[k]? = w4.heap[k]? := fun k h1 h2 => by
    rw [heap_setCell_other _ _ k _ (by show k ≠ w.heap.size + 3; omega), HE6.out, setCells_other _ _ _ _ k (by omega)]
    exact HB5.out.block k h2
  have hms := HMS.out
  refine ⟨rfl, A, c2, B, ec, ns, H6.out.setFine, HM.out, ?_, ?_⟩
  · exact (HRU.out.of_blocks hsz7 fun k h1 h2 => hbl k (by omega) h2).lower hms
  · exact ownsRow_base' (ownsRow_blocks HMV.out fun k h1 h2 => hbl k (by omega) h2) hms
end Go.Proofs.YtenbgpcdoljkgaaGreatDoor

/- (*letter.writer).series. -/
namespace Go.Proofs.YtenbgpcdoljkgaaGreatDoor
open Go Go.RowKit

attribute [local go_sem] ltVal_get lt_get17 lt_get18 lt_get19 lt_get20 lt_get21 lt_get22 lt_get23
set_option maxRecDepth 10000 in
set_option maxHeartbeats 2000000 in
theorem serW_no (w : World) (g b : Nat) (l : Lt) (s : Sl) (v : Value) (bs : List UInt8) (hin : WIn w g b (ltVal l s) v bs) (hok : LtOK l) (hnz : nzOf l = true) (hl : bs.length ≤ 100000000000) :
    Calls Tryz.prog 30 #[pt g] w (NumPost w g (pt b) v (bs ++ le 0 4)) := by
  have HI := Lib.hid hin
  have HOK := Lib.hid hok
  have HZ := Lib.hid hnz
  have hr0 := hin.row.2
  have hc0 : w.cell? ⟨g, 0, none⟩ = some (pt b) := cell_of_row w g 0 _ _ _ hin.st.1
  obtain ⟨i0, hi, hz0, hz1, hz2⟩ := info_parts info_u8
  have HIF := Lib.hid hi
  clear hin hok hnz hi hz0 hz1 hz2
  go_enter Tryz.func30, Tryz.ntmps30
  go_wp2_with fail
  refine (noSeries_lt l s _ HOK.out).mono ?_
  rintro e w1 ⟨rfl, hb1⟩
  rw [HZ.out]
  have HI1 := Lib.hid (HI.out.grow hb1)
  have HK1 : Hid (WKeep g v w v w1) := Lib.hid ⟨hb1.os, hb1.tape, hb1.output, hb1.size, fun k hk _ _ => hb1.block k hk, .inl rfl⟩
  clear hb1 hr0 hc0
  go_wp2_with fail
  refine (number4 _ _ _ _ bs 0 (by omega) (by omega) HI1.out.gl HI1.out.st).mono ?_
  intro e w3 hp
  obtain ⟨rfl, v3, hi3, hk3⟩ := hp.out HI1.out
  have hc3 : w3.cell? ⟨g, 1, none⟩ = some v3 := cell_of_row w3 g 1 _ _ _ hi3.st.1
  have hf3 := frozen_of_row w3 g 1 _ _ hi3.st.1
  have hl3 : 0 < (bs ++ le 0 4).length := by rw [List.length_append, le_length]; omega
  obtain ⟨B, hB⟩ : ∃ B, bs ++ le 0 4 = B := ⟨_, rfl⟩
  rw [hB] at hi3 hl3
  have HBB := Lib.hid hB
  clear hB
  obtain ⟨g', cap', rfl, _⟩ := own_form hi3.st.2 hl3
  have HI3 := Lib.hid hi3
  have HK3 := Lib.hid hk3
  clear hp hi3 hk3
  go_wp2_with (at_builtin; refine wpList_append_own_none rfl _ _ 38 rfl (g + 1) 5 i0 1 Tryz.underlying38 HIF.out _ _ _ rfl HI3.out.st.2 rfl ?_)
  have hS : WSt (w3.setCell ⟨g, 1, none⟩ (.slice (some ⟨g', 0, none⟩) B.length cap')) g (pt b) (.slice (some ⟨g', 0, none⟩) B.length cap') B ∧ WKeep g (.slice (some ⟨g', 0, none⟩) B.length cap') w3 (.slice (some ⟨g', 0, none⟩) B.length cap') (w3.setCell ⟨g, 1, none⟩ (.slice (some ⟨g', 0, none⟩) B.length cap')) := by
    have h := HI3.out.st
    refine ⟨⟨by rw [heap_setCell_same w3 g 1 _ _ _ h.1]; rfl, ownsRow_far (p := ⟨g, 1, none⟩) h.2 (own_ge h.2 g (Nat.lt_succ_self g))⟩, ⟨rfl, rfl, rfl, by simp [World.setCell], fun k _ hk _ => heap_setCell_other w3 _ k _ hk, .inl rfl⟩⟩
  have HSS := Lib.hid hS
  clear hS
  go_wp2_with fail
  go_end0
  exact ⟨rfl, _, by rw [HBB.out]; exact HSS.out.1, (HK1.out.trans HK3.out).trans HSS.out.2⟩
set_option maxRecDepth 10000 in
set_option maxHeartbeats 2000000 in
theorem serW_yes (w : World) (g b : Nat) (l : Lt) (s : Sl) (v : Value) (bs sb : List UInt8) (hin : WIn w g b (ltVal l s) v bs) (hok : LtOK l) (hnz : nzOf l = false) (hl : bs.length ≤ 100000000000) (hs0 : 0 < sb.length) (hs1 : sb.length ≤ 10000000)
    (hby : ∀ w', Below w.heap.size w w' → Calls Tryz.prog 20 #[serVal l s] w' (SbPost w' sb)) :
    Calls Tryz.prog 30 #[pt g] w (NumPost w g (pt b) v (bs ++ (le sb.length 4 ++ sb))) := by
  have HI := Lib.hid hin
  have HOK := Lib.hid hok
  have HZ := Lib.hid hnz
  have HBY := Lib.hid hby
  have hr0 := hin.row.2
  have hc0 : w.cell? ⟨g, 0, none⟩ = some (pt b) := cell_of_row w g 0 _ _ _ hin.st.1
  obtain ⟨i0, hi, hz0, hz1, hz2⟩ := info_parts info_u8
  have HIF := Lib.hid hi
  have HIZ0 := Lib.hid hz0
  have HIZ1 := Lib.hid hz1
  have HIZ2 := Lib.hid hz2
  clear hin hok hnz hi hz0 hz1 hz2 hby
  go_enter Tryz.func30, Tryz.ntmps30
  go_wp2_with fail
  refine (noSeries_lt l s _ HOK.out).mono ?_
  rintro e w1 ⟨rfl, hb1⟩
  rw [HZ.out]
  have HI1 := Lib.hid (HI.out.grow hb1)
  have HB1 := Lib.hid hb1
  have hr1 := HI1.out.row.2
  have hc1 : w1.cell? ⟨g, 0, none⟩ = some (pt b) := cell_of_row w1 g 0 _ _ _ HI1.out.st.1
  clear hb1 hr0 hc0
  go_wp2_with fail
  refine (HBY.out _ HB1.out).mono ?_
  rintro e w2 ⟨vb, rfl, hown, hb2⟩
  obtain ⟨gb, cb, rfl, hgb⟩ := own_form hown hs0
  have hgb1 := (hown.lt gb rfl).1
  have HI2 := Lib.hid (HI1.out.grow hb2)
  have HK2 : Hid (WKeep g v w v w2) := Lib.hid (by
    have hb := below_trans HB1.out hb2
    exact ⟨hb.os, hb.tape, hb.output, hb.size, fun k hk _ _ => hb.block k hk, .inl rfl⟩)
  have HOW := Lib.hid hown
  have hne1 : gb ≠ g := by have := HI1.out.gl; omega
  have HNE : Hid (some gb ≠ v.ownBlock) := Lib.hid fun e => by have := own_lt HI1.out.st.2 gb e.symm; omega
  clear hown hb2 hr1 hc1 HI1
  obtain ⟨n, hn⟩ : ∃ n, sb.length = n := ⟨_, rfl⟩
  have HN := Lib.hid hn
  rw [hn] at hs0 hs1 ⊢
  clear hn
  go_wp2_with fail
  refine (number4 _ _ _ _ bs n (by omega) (by omega) HI2.out.gl HI2.out.st).mono ?_
  intro e w3 hp
  obtain ⟨rfl, v3, hi3, hk3⟩ := hp.out HI2.out
  have hc3 : w3.cell? ⟨g, 1, none⟩ = some v3 := cell_of_row w3 g 1 _ _ _ hi3.st.1
  obtain ⟨B, hB⟩ : ∃ B, bs ++ le (n : Int) 4 = B := ⟨_, rfl⟩
  have hlB : B.length ≤ 100000000004 := by rw [← hB, List.length_append, le_length]; omega
  rw [hB] at hi3
  have HBB := Lib.hid hB
  have HNW : Hid (∀ j u, (sb.map Extern.Stop.cell)[j]? = some u → w3.cell? ((⟨gb, 0, none⟩ : Addr).add j) = some u) := Lib.hid fun j u hu => by
    have h := HOW.out.cells (g := gb) rfl j u hu
    rw [addr_add] at h ⊢
    exact (World.cell?_of_block (a := ⟨gb, j, none⟩) (hk3.block gb hgb hne1 HNE.out)).trans h
  have HI3 := Lib.hid hi3
  have HK3 := Lib.hid hk3
  have hg3 := hi3.gl
  clear hp hi3 hk3 hB
  go_wp2_with (at_builtin; refine wpList_append_lies (w := w3) rfl _ _ 38 rfl (g + 1) 5 i0 (.int .u8 0) 1 1 Tryz.underlying38 HIF.out HIZ0.out HIZ1.out HIZ2.out rfl (by decide) v3 B.length (B.map Extern.Stop.cell) rfl HI3.out.st.2 ⟨gb, 0, none⟩ n cb (sb.map Extern.Stop.cell) rfl ?c1 HNW.out ?c2 hs0 ?c3 ?c4 ?c5 w3.heap.size rfl ?_)
  case c1 => rw [List.length_map, HN.out]; omega
  case c2 => intro u hu; obtain ⟨z, _, rfl⟩ := List.mem_map.1 hu; rfl
  case c3 => unfold maxLen; omega
  case c4 => omega
  case c5 => omega
  intro gg cap w4 hown4 hgrow hat hlt4
  have hS := wst_app (w := w3) (W := w3) (xs := sb) HI3.out.st hg3 rfl rfl rfl rfl (by rw [HN.out]; exact hown4) hgrow hat
  rw [HN.out] at hS
  have HSS := Lib.hid hS
  have hc4 : w4.cell? ⟨g, 1, none⟩ = some v3 := cell_of_row w4 g 1 _ _ _ hS.1
  have hf4 := frozen_of_row w4 g 1 _ _ hS.1
  clear hown4 hgrow hat hS hc3
  go_wp2_with fail
  go_end0
  exact ⟨rfl, _, by rw [HN.out, ← List.append_assoc, HBB.out]; exact HSS.out.2.1, (HK2.out.trans HK3.out).trans HSS.out.2.2⟩
end Go.Proofs.YtenbgpcdoljkgaaGreatDoor

/- series.Valid at the zero series: ErrArg. -/
namespace Go.Proofs.YtenbgpcdoljkgaaGreatDoor
open Go Go.RowKit

set_option maxRecDepth 10000 in
set_option maxHeartbeats 1000000 in
theorem wellFormed_none (A : Option Addr) (c : Nat) (w : World) : Calls Tryz.prog 93 #[.slice A 0 c] w (Gives (.bool false) w) := by
  go_enter Tryz.func93, Tryz.ntmps93
  go_wp2_with fail
  go_ret
  first | exact ⟨rfl, Below.refl _ _⟩ | exact ⟨rfl, below_var _ _⟩
set_option maxRecDepth 10000 in
set_option maxHeartbeats 2000000 in
theorem ruleValid_none (A : Option Addr) (c cb cc : Nat) (w : World) :
    Calls Tryz.prog 66 #[.slice A 0 c, .slice (some ⟨cb, 0, none⟩) 3 cc] w (Gives (I 1) w) := by
  have HBIG := Lib.hid (hasBig A 0 c [] w (.inl rfl) rfl (by omega) (fun x hx => by cases hx))
  have HWF := Lib.hid (fun w' => wellFormed_none A c w')
  go_enter Tryz.func66, Tryz.ntmps66
  go_wp2_with fail
  refine HBIG.out.mono ?_
  rintro e w1 ⟨rfl, hb1⟩
  have HB1 := Lib.hid hb1
  clear hb1 HBIG
  go_wp2_with fail
  refine (HWF.out _).mono ?_
  rintro e w2 ⟨rfl, hb2⟩
  have HB2 := Lib.hid (below_trans HB1.out hb2)
  clear hb2 HWF HB1
  go_wp2_with fail
  go_ret
  exact ⟨rfl, HB2.out⟩
set_option maxRecDepth 10000 in
set_option maxHeartbeats 2000000 in
theorem seriesValid_none (A B : Option Addr) (c e cb cc : Nat) (w : World) :
    Calls Tryz.prog 22 #[.agg #[.slice A 0 c, I 0, I 0, .string ⟨#[]⟩, I 0, I 0, .slice B 0 e], .slice (some ⟨cb, 0, none⟩) 3 cc] w (Gives (I 1) w) := by
  have HX0 := Lib.hid (Row.new w #[.slice A 0 c, I 0, I 0, .string ⟨#[]⟩, I 0, I 0, .slice B 0 e] 30)
  have HB0 := Lib.hid (below_var w (.cells #[.slice A 0 c, I 0, I 0, .string ⟨#[]⟩, I 0, I 0, .slice B 0 e] 30))
  have HV := Lib.hid (fun w' => ruleValid_none A c cb cc w')
  go_enter Tryz.func22, Tryz.ntmps22
  go_wp2_with fail
  refine (HV.out _).mono ?_
  rintro e1 w1 ⟨rfl, hb1⟩
  have HX1 := Lib.hid (HX0.out.keep hb1)
  have HB1 := Lib.hid (below_trans HB0.out hb1)
  have k3 : w1.cell? ⟨w.heap.size, 3, none⟩ = some (.string ⟨#[]⟩) := HX1.out.2 3
  have k6 : w1.cell? ⟨w.heap.size, 6, none⟩ = some (.slice B 0 e) := HX1.out.2 6
  clear hb1 HV HX0 HB0
  go_wp2_with fail
  go_ret
  exact ⟨rfl, HB1.out⟩
end Go.Proofs.YtenbgpcdoljkgaaGreatDoor

/- Letters with the series and the cells of a letter that was made: letter.Valid and letter.Bytes. -/
namespace Go.Proofs.YtenbgpcdoljkgaaGreatDoor
open Go Go.RowKit

theorem vMove_fits {m : Mv} (h : vMove m = true) : fits m.day ∧ fits m.toDay ∧ fits m.minute ∧ fits m.length := by
  unfold vMove at h
  unfold fits
  split at h
  · have := of_decide_eq_true h; omega
  · have := of_decide_eq_true h; omega
theorem mvZ_fits {m : Mv} (h : mvZ m = true) : fits m.day ∧ fits m.toDay ∧ fits m.minute ∧ fits m.length := by
  unfold mvZ at h
  simp only [Bool.and_eq_true, decide_eq_true_eq] at h
  unfold fits
  omega
/-- The numbers of a letter fit. -/
structure LtFits (l : Lt) : Prop where
  num : ∀ k, k < 17 → fits (numF l k)
  mv : fits l.move.day ∧ fits l.move.toDay ∧ fits l.move.minute ∧ fits l.move.length
  wf : fits l.wfrom ∧ fits l.wto
  cel : ∀ j, j < l.cells.length → fits (l.cells[j]?.getD 0)
theorem numF_none (l : Lt) (k : Nat) (hk : k < 17) (h : numOff k = none) : numF l k = 0 :=
  all17 (p := fun k => numOff k = none → numF l k = 0) (by refine ⟨?_, ?_, ?_, ?_, ?_, ?_, ?_, ?_, ?_, ?_, ?_, ?_, ?_, ?_, ?_, ?_, ?_⟩ <;> (intro h; first | rfl | cases h)) k hk h
theorem body_fits {l : Lt} (hh : headOK l = true) (hb : bodyOK l = true) : LtFits l := by
  obtain ⟨⟨k1, k2⟩, _⟩ := headOK_iff hh
  unfold bodyOK at hb
  rw [Bool.and_eq_true] at hb
  obtain ⟨hn, ho⟩ := hb
  unfold vNums at hn
  rw [Bool.and_eq_true, List.all_eq_true] at hn
  have ho' := ho
  unfold oth vOthers at ho
  simp only [Bool.and_eq_true] at ho
  obtain ⟨⟨⟨⟨hz, h4⟩, h6⟩, hs⟩, hc⟩ := ho
  refine ⟨fun k hk => ?_, ?_, ?_, ?_⟩
  · cases hof : numOff k with
    | none => rw [numF_none l k hk hof]; unfold fits; omega
    | some o =>
      have h := hn.1 k (List.mem_range.2 hk)
      obtain ⟨hnb, _⟩ := numOff_num hk hof
      obtain ⟨e1, e2⟩ := lim_bnd k1 k2 k hk hnb
      obtain ⟨b1, b2, b3⟩ := bnd_ok l.kind k
      unfold numOK numLow numHigh at h
      rw [hof] at h
      simp only [Option.isNone_some, Bool.false_or, Bool.and_eq_true, decide_eq_true_eq] at h
      obtain ⟨h1, h2⟩ := h
      unfold fits
      split at h1
      · rename_i hc
        rw [if_pos hc] at h2
        omega
      · rename_i hc
        rw [if_neg hc] at h2
        omega
  · cases hu : usesB l.kind ((9 : Nat) : Int) with
    | false =>
      unfold zerosOK at hz
      rw [List.all_eq_true] at hz
      have h := hz 0 (List.mem_range.2 (by omega))
      change (usesB l.kind ((9 : Nat) : Int) || mvZ l.move) = true at h
      rw [hu, Bool.false_or] at h
      exact mvZ_fits h
    | true =>
      rcases (uses9 k1 k2).1 hu with hk | hk
      · rw [hk] at h4
        exact vMove_fits (by simpa using h4)
      · rw [hk] at h6
        have h6 : vChange l (nzOf l) = true := by simpa using h6
        unfold vChange at h6
        split at h6
        · rw [Bool.and_eq_true, Bool.and_eq_true] at h6
          exact vMove_fits h6.1.1
        · split at h6
          · rw [Bool.and_eq_true] at h6
            exact mvZ_fits h6.1
          · exact mvZ_fits h6
  · unfold spanB at hs
    have := of_decide_eq_true hs
    unfold fits
    omega
  · intro j hj
    unfold vCells at hc
    rw [Bool.and_eq_true, List.all_eq_true] at hc
    have h := hc.1 j (List.mem_range.2 hj)
    obtain ⟨z, hz⟩ : ∃ z, l.cells[j]?.getD 0 = z := ⟨_, rfl⟩
    rw [hz]
    cases hsr : srvB l.kind with
    | true => rw [hsr, cellOK_t hz rfl] at h; have := of_decide_eq_true h; unfold fits; omega
    | false => rw [hsr, cellOK_f hz] at h; have := of_decide_eq_true h; unfold fits; omega
/-- A letter with the same series and cells. -/
structure VarOf (l L : Lt) : Prop where
  ser : L.series = l.series
  cells : L.cells = l.cells
  ref : L.ref.length = 32
def vc (L : Lt) : Int := if headOK L = false then 1 else if bodyOK L = false then 1 else if noSerB L = true then 0 else if nzOf L = true then 1 else 0
theorem vc_cases (L : Lt) : vc L = 1 ∨ (vc L = 0 ∧ headOK L = true ∧ bodyOK L = true) := by
  unfold vc
  cases headOK L <;> cases bodyOK L <;> cases noSerB L <;> cases nzOf L <;> simp
theorem MadeLt.se {l : Lt} {ns : List NdV} (h : MadeLt l ns) : l.series = zSer ∨ SerOK ns l.series := by
  obtain ⟨k, f, t, _, _, _, _, _, _, _, hv, _⟩ := h.inv
  rcases hv.ser with ⟨h, _⟩ | h
  · exact .inl h
  · exact .inr h
theorem SerOK.nz {l : Lt} {ns : List NdV} (h : SerOK ns l.series) : nzOf l = false := by
  unfold nzOf noSer
  exact decide_eq_false (by have := h.lng; omega)
section
variable {l L : Lt} {ns : List NdV} {s : Sl} {lo : Nat} {w : World}
theorem VarOf.ok (hv : VarOf l L) (hl : MadeLt l ns) : LtOK L := by
  have h := hl.ok
  exact ⟨by rw [hv.ser]; exact h.rule, by rw [hv.ser]; exact h.moves, by rw [hv.ser]; exact h.zone, hv.ref, by rw [hv.cells]; exact h.cells⟩
theorem VarOf.nz (hv : VarOf l L) : nzOf L = nzOf l := by unfold nzOf; rw [hv.ser]
theorem VarOf.sv (hv : VarOf l L) : serVal L s = serVal l s := by unfold serVal; rw [hv.ser]
theorem sound_made (hl : MadeLt l ns) (hs : SerOK ns l.series) (hm : LtMem lo w l s ns) :
    Calls Tryz.prog 62 #[serVal l s] w (Gives (.bool true) w) :=
  sound_yes l.series s.A s.B s.c s.d l.series.rule.length l.series.moves.length ns w (hm.rules hl.lens.2.2.2) (by rw [hm.names, List.length_map]) hs.rulesOK hm.mvs rfl hs.good
theorem valid_var (hl : MadeLt l ns) (hm : LtMem lo w l s ns) (hlo : 0 < lo) (hv : VarOf l L) : Calls Tryz.prog 17 #[.agg (ltVal L s)] w (Gives (I (vc L)) w) := by
  have hok := hv.ok hl
  have hlen := hl.lens
  have hi : IntsAt w w.heap.size s.C L.cells := by rw [hv.cells]; exact hm.ints
  have hcl : L.cells.length ≤ 65536 := by rw [hv.cells]; omega
  cases hh : headOK L with
  | false =>
    have e : vc L = 1 := by unfold vc; rw [hh]; rfl
    rw [e]
    exact valid_head L s w hh
  | true =>
    cases hb : bodyOK L with
    | false =>
      have e : vc L = 1 := by unfold vc; rw [hh, hb]; rfl
      rw [e]
      exact valid_bad L s w hok hi hh hb
    | true =>
      cases hn : noSerB L with
      | true =>
        have e : vc L = 0 := by unfold vc; rw [hh, hb, hn]; rfl
        have h := valid_nos L s w hok hi hh (fun _ _ => hn)
        have e2 : vCode L 0 = 0 := by unfold vCode; rw [hh, hb, hn, if_neg (by decide), if_neg (by decide), if_neg (by omega), if_pos rfl]
        rw [e2] at h
        rw [e]
        exact h
      | false =>
        obtain ⟨hu, hz⟩ := noSerB_no hn
        rcases hl.se with hs | hs
        · have hnz : nzOf L = true := by unfold nzOf; rw [hv.ser, hs]; rfl
          have e : vc L = 1 := by unfold vc; rw [hh, hb, hn, hnz]; rfl
          rw [e]
          refine valid_ser L s w 1 hok hi hh hb hcl hu hz (fun w' cb cc xs _ _ => ?_)
          have e3 : serVal L s = .agg #[.slice s.A 0 s.c, I 0, I 0, .string ⟨#[]⟩, I 0, I 0, .slice s.B 0 s.d] := by unfold serVal; rw [hv.ser, hs]; rfl
          rw [e3]
          exact seriesValid_none s.A s.B s.c s.d cb cc w'
        · have hnz : nzOf L = false := hv.nz.trans hs.nz
          have e : vc L = 0 := by unfold vc; rw [hh, hb, hn, hnz]; rfl
          rw [e]
          refine valid_ser L s w 0 hok hi hh hb hcl hu hz (fun w' cb cc xs hb' hc => ?_)
          have m' := hm.grow hb' hlo
          rw [hv.sv]
          exact seriesValid_yes l.series s.A s.B s.c s.d l.series.rule.length l.series.moves.length cb cc ns xs w' (m'.rules hlen.2.2.2) (by rw [m'.names, List.length_map]) hs.rulesOK m'.mvs rfl hs.good hc
def sbOf (L : Lt) : List UInt8 := if nzOf L = true then le 0 4 else le (seBytes L.series).length 4 ++ seBytes L.series
theorem rule_fits (hs : RuleOK ns) : ∀ d ∈ ns.map (·.d), NdFit d := by
  intro d hd
  obtain ⟨x, hx, rfl⟩ := List.mem_map.1 hd
  obtain ⟨i, hi⟩ := List.mem_iff_getElem?.1 hx
  have h1 := (List.getElem?_eq_some_iff.1 hi).1
  have := hs.n64
  exact (hs.nodes i x hi).fit (by omega)
theorem seBytes_len {se : Ser} (hs : SerOK ns se) : 0 < (seBytes se).length ∧ (seBytes se).length ≤ 1000000 := by
  have h1 := seRule_len (ds := se.rule) (by rw [hs.names]; exact rule_fits hs.rulesOK)
  have h2 := seMoves_len se.moves
  have h3 : se.rule.length ≤ 16 := by rw [hs.names, List.length_map]; exact hs.len
  have h4 := hs.mlen
  have h5 : se.zone.data.toList.length ≤ 32 := by
    have : se.zone.data.toList.length = se.zone.size := Array.length_toList
    have := hs.good.zo
    omega
  unfold seBytes seHead seMid textBytes
  simp only [List.length_append, leAll_length, le_length, List.length_cons, List.length_nil, h2]
  omega
theorem sbOf_len (hl : MadeLt l ns) (hv : VarOf l L) : (sbOf L).length ≤ 1000000000 := by
  unfold sbOf
  split
  · rw [le_length]; omega
  · rename_i h
    rcases hl.se with hs | hs
    · exfalso; apply h; unfold nzOf; rw [hv.ser, hs]; rfl
    · have := seBytes_len hs
      rw [hv.ser, List.length_append, le_length]
      omega
theorem bytes_var (hl : MadeLt l ns) (hm : LtMem lo w l s ns) (hlo : 0 < lo) (hv : VarOf l L) : Calls Tryz.prog 8 #[.agg (ltVal L s)] w (BytesPost w (vc L) (ltBytes L (sbOf L))) := by
  have hok := hv.ok hl
  have hlen := hl.lens
  have hval : ∀ w', Below w.heap.size w w' → Calls Tryz.prog 17 #[.agg (ltVal L s)] w' (Gives (I (vc L)) w') := fun w' hb => valid_var hl (hm.grow hb hlo) hlo hv
  rcases vc_cases L with e | ⟨e, hh, hb⟩
  · rw [e] at hval ⊢
    exact bytes_no L s _ w 1 hv.ref rfl hval
  · rw [e] at hval ⊢
    have hf := body_fits hh hb
    obtain ⟨⟨k1, k2⟩, hsrc, hdst, _⟩ := headOK_iff hh
    have hsr : 0 ≤ L.src ∧ L.src < 16 := by unfold srvIn at hsrc; exact of_decide_eq_true hsrc
    have hds : 0 ≤ L.dst ∧ L.dst < 16 := by unfold srvIn at hdst; exact of_decide_eq_true hdst
    refine bytes_yes L s (sbOf L) w
      { ref := hv.ref, cells := by rw [hv.cells]; omega, sbl := sbOf_len hl hv, kind := by unfold fits; omega, src := by unfold fits; omega, dst := by unfold fits; omega
        num := hf.num, mday := hf.mv.1, mto := hf.mv.2.1, mmin := hf.mv.2.2.1, mlen := hf.mv.2.2.2, wfrom := hf.wf.1, wto := hf.wf.2, fit := hf.cel
        ints := by rw [hv.cells]; exact hm.ints
        valid := hval, ser := ?_ }
    intro _ w' g b v bs hbl _ hin hlb
    rcases hl.se with hs | hs
    · have hnz : nzOf L = true := by unfold nzOf; rw [hv.ser, hs]; rfl
      have es : sbOf L = le 0 4 := by unfold sbOf; rw [hnz]; rfl
      rw [es]
      exact serW_no w' g b L s v bs hin hok hnz hlb
    · have hnz : nzOf L = false := hv.nz.trans hs.nz
      have es : sbOf L = le (seBytes l.series).length 4 ++ seBytes l.series := by unfold sbOf; rw [hnz, hv.ser]; rfl
      rw [es]
      have hsl := seBytes_len hs
      refine serW_yes w' g b L s v bs (seBytes l.series) hin hok hnz hlb hsl.1 (by omega) (fun w2 hb2 => ?_)
      have m2 := hm.grow (below_trans hbl hb2) hlo
      rw [hv.sv]
      exact sbytes_any l.series s.A s.B s.c s.d l.series.rule.length l.series.moves.length ns w2 (m2.rules hlen.2.2.2) (by rw [m2.names, List.length_map]) m2.names (by rw [m2.names]; exact rule_fits hs.rulesOK) (by omega) m2.mvs rfl hs.good (fun w3 hb3 => sound_made hl hs (m2.grow hb3 hlo))
end
end Go.Proofs.YtenbgpcdoljkgaaGreatDoor

/- letter.Read of known bytes: what holds between its steps. -/
namespace Go.Proofs.YtenbgpcdoljkgaaGreatDoor
open Go Go.RowKit

/-- A letter that can be read back from ltBytes L sb. -/
structure RdOK (L : Lt) (sb : List UInt8) : Prop where
  kind : 0 ≤ L.kind ∧ L.kind < 256
  src : 0 ≤ L.src ∧ L.src < 256
  dst : 0 ≤ L.dst ∧ L.dst < 256
  fit : LtFits L
  ref : L.ref.length = 32
  cells : ∀ z ∈ L.cells, 0 ≤ z ∧ z ≤ 255
  clen : L.cells.length ≤ 65536
  zero : ∀ k : Nat, k < 17 → usesB L.kind k = false → FldZ L k
  ser : (sb = le 0 4 ∧ L.series = zSer) ∨ (∃ N : Nat, sb = le (N : Int) 4 ++ seBytes L.series ∧ (seBytes L.series).length = N ∧ 0 < N ∧ N ≤ 10000000 ∧ L.series.rule.length ≤ 64 ∧ SerGood L.series ∧ (∀ ns : List NdV, ns.map (·.d) = L.series.rule → RuleOK ns) ∧ (∀ d ∈ L.series.rule, NdFit d) ∧ ∀ x ∈ L.series.moves, ∀ z ∈ mvNums x, fits z)
theorem LtMem.of_blocks {lo : Nat} {w w' : World} {l : Lt} {s : Sl} {ns : List NdV} (h : LtMem lo w l s ns) (hs : w.heap.size ≤ w'.heap.size) (hb : ∀ k, lo ≤ k → k < w.heap.size → w'.heap[k]? = w.heap[k]?) : LtMem lo w' l s ns :=
  ⟨h.rule.of_blocks hs hb, h.names, ownsRow_blocks h.moves hb, ownsRow_blocks h.cells hb⟩
theorem LtMem.lower {lo lo' : Nat} {w : World} {l : Lt} {s : Sl} {ns : List NdV} (h : LtMem lo w l s ns) (hl : lo' ≤ lo) : LtMem lo' w l s ns :=
  ⟨h.rule.lower hl, h.names, ownsRow_base' h.moves hl, ownsRow_base' h.cells hl⟩
theorem LtMem.other {lo : Nat} {w : World} {l l' : Lt} {s : Sl} {ns : List NdV} (h : LtMem lo w l s ns) (h1 : l'.series = l.series) (h2 : l'.cells = l.cells) : LtMem lo w l' s ns :=
  ⟨by rw [h1]; exact h.rule, by rw [h1]; exact h.names, by rw [h1]; exact h.moves, by rw [h2]; exact h.cells⟩
/-- The fields below k are read; the reader's methods lie at block fa. -/
structure RyAt (w : World) (L : Lt) (sb : List UInt8) (fa k : Nat) (s : Sl) (ns : List NdV) (wr : World) : Prop where
  inn : LIn w wr wr (lowTo L k) s (fldsFrom L sb k)
  mem : LtMem (w.heap.size + 5) wr (lowTo L k) s ns
  row : Row wr fa (rFns (w.heap.size + 3))
  far : w.heap.size + 5 ≤ fa
  nil : k ≤ 15 → s.C = none ∧ s.e = 0
section
variable {w wr w2 : World} {L : Lt} {sb : List UInt8} {fa k : Nat} {s s' : Sl} {ns ns' : List NdV}
theorem Row.of_blocks {b : Nat} {cs : Array Value} (h : Row wr b cs) (hs : wr.heap.size ≤ w2.heap.size) (hb : w2.heap[b]? = wr.heap[b]?) : Row w2 b cs :=
  ⟨Nat.lt_of_lt_of_le h.1 hs, fun i => (World.cell?_of_block (a := ⟨b, i, none⟩) hb).trans (h.2 i)⟩
theorem RyAt.turn (h : RyAt w L sb fa k s ns wr) (h2 : LIn w wr w2 (lowTo L (k + 1)) s (fldsFrom L sb (k + 1))) (hm : LtMem (w.heap.size + 5) w2 (lowTo L (k + 1)) s ns) (hk : k + 1 ≤ 15 → s.C = none ∧ s.e = 0) : RyAt w L sb fa (k + 1) s ns w2 :=
  ⟨h2.rebase, hm, h.row.of_blocks h2.msz (h2.mem _ h.far h.row.1), h.far, hk⟩
theorem RyAt.grow (h : RyAt w L sb fa k s ns wr) (hb : Below wr.heap.size wr w2) : RyAt w L sb fa k s ns w2 :=
  ⟨(h.inn.grow hb).rebase, h.mem.of_blocks hb.size fun j _ h2 => hb.block j h2, h.row.keep hb, h.far, h.nil⟩
theorem lowTo_ser (L : Lt) (k : Nat) (h : k ≠ 10) : (lowTo L (k + 1)).series = (lowTo L k).series := by
  unfold lowTo
  dsimp only
  by_cases h1 : 10 < k
  · rw [if_pos h1, if_pos (by omega)]
  · rw [if_neg h1, if_neg (by omega)]
theorem lowTo_cel (L : Lt) (k : Nat) (h : k ≠ 15) : (lowTo L (k + 1)).cells = (lowTo L k).cells := by
  unfold lowTo
  dsimp only
  by_cases h1 : 15 < k
  · rw [if_pos h1, if_pos (by omega)]
  · rw [if_neg h1, if_neg (by omega)]
/-- A field that is no slice has been read. -/
theorem RyAt.next (h : RyAt w L sb fa k s ns wr) (h1 : k ≠ 10) (h2 : k ≠ 15) (h3 : LIn w wr w2 (lowTo L (k + 1)) s (fldsFrom L sb (k + 1))) : RyAt w L sb fa (k + 1) s ns w2 :=
  h.turn h3 ((h.mem.of_blocks h3.msz h3.mem).other (lowTo_ser L k h1) (lowTo_cel L k h2)) fun hk => h.nil (by omega)
theorem RyAt.skip (hr : RdOK L sb) (h : RyAt w L sb fa k s ns wr) (hk : k < 17) (hu : usesB L.kind k = false) : RyAt w L sb fa (k + 1) s ns wr := by
  have e := lowTo_skip L k hk (hr.zero k hk hu)
  have e2 := fldsFrom_skip L sb k hk hu
  refine ⟨?_, ?_, h.row, h.far, fun hk => h.nil (by omega)⟩
  · rw [← e, ← e2]; exact h.inn
  · rw [← e]; exact h.mem
theorem RyAt.num (hr : RdOK L sb) (h : RyAt w L sb fa k s ns wr) (hk : k < 17) (hu : usesB L.kind k = true) {o : Nat} (ho : numOff k = some o) :
    Calls Tryz.prog 55 #[pt (w.heap.size + 3), I 8] wr fun e w2 => e = .returned (I (numF L k)) ∧ (∃ u, w2.cell? ⟨w.heap.size + 1, o, none⟩ = some u) ∧ w2.frozen? ⟨w.heap.size + 1, o, none⟩ = false ∧ RyAt w L sb fa (k + 1) s ns (w2.setCell ⟨w.heap.size + 1, o, none⟩ (I (numF L k))) := by
  have hi := h.inn
  rw [fldsFrom_num L sb k hk hu (by rw [ho]; rfl)] at hi
  refine (hi.number8 (hr.fit.num k hk)).mono fun e w2 ⟨h1, h2⟩ => ⟨h1, ?_, h2.froz o, ?_⟩
  · exact ⟨_, (h2.row.2 o).trans (lt_num (lowTo L k) _ _ _ k o hk ho)⟩
  · refine h.next ?_ ?_ (h2.store ?_)
    · rintro rfl; cases ho
    · rintro rfl; cases ho
    · rw [← lowTo_num L k hk (by rw [ho]; rfl)]
      exact ltVal_setNum _ _ _ k o hk ho
theorem RyAt.f9 (hr : RdOK L sb) (h : RyAt w L sb fa 9 s ns wr) (hu : usesB L.kind (9 : Nat) = true) :
    Calls Tryz.prog 56 #[pt (w.heap.size + 3)] wr fun e w2 => e = .returned (.tuple #[]) ∧ RyAt w L sb fa 10 s ns w2 := by
  have hi := h.inn
  rw [fldsFrom_9 L sb hu] at hi
  obtain ⟨f1, f2, f3, f4⟩ := hr.fit.mv
  have e9 := lowTo_9 L
  obtain ⟨m, hm⟩ : ∃ m, L.move = m := ⟨_, rfl⟩
  rw [hm] at hi f1 f2 f3 f4 e9
  obtain ⟨dy, dr, td, mi, ln⟩ := m
  cases dr with
  | false => exact (rmove_no w wr wr (lowTo L 9) s _ dy td mi ln f1 f2 f3 f4 hi).mono fun e w2 ⟨h1, h2⟩ => ⟨h1, h.next (by decide) (by decide) (by rw [e9] at h2; exact h2)⟩
  | true => exact (rmove_drop w wr wr (lowTo L 9) s _ dy td mi ln f1 f2 f3 f4 hi).mono fun e w2 ⟨h1, h2⟩ => ⟨h1, h.next (by decide) (by decide) (by rw [e9] at h2; exact h2)⟩
theorem RyAt.f14 (hr : RdOK L sb) (h : RyAt w L sb fa 14 s ns wr) (hu : usesB L.kind (14 : Nat) = true) :
    Calls Tryz.prog 58 #[pt (w.heap.size + 3)] wr fun e w2 => e = .returned (.tuple #[]) ∧ RyAt w L sb fa 15 s ns w2 := by
  have hi := h.inn
  rw [fldsFrom_14 L sb hu] at hi
  exact (rwindow_yes w wr wr (lowTo L 14) s _ L.wfrom L.wto hr.fit.wf.1 hr.fit.wf.2 hi).mono fun e w2 ⟨h1, h2⟩ => ⟨h1, h.next (by decide) (by decide) (by rw [lowTo_14] at h2; exact h2)⟩
theorem RyAt.f16 (hr : RdOK L sb) (h : RyAt w L sb fa 16 s ns wr) (hu : usesB L.kind (16 : Nat) = true) :
    Calls Tryz.prog 60 #[pt (w.heap.size + 3)] wr fun e w2 => e = .returned (.tuple #[]) ∧ RyAt w L sb fa 17 s ns w2 := by
  have hi := h.inn
  rw [fldsFrom_16 L sb hu] at hi
  exact (rref_yes w wr wr (lowTo L 16) s _ L.ref hr.ref (lowTo_ref L 16 hr.ref) hi).mono fun e w2 ⟨h1, h2⟩ => ⟨h1, h.next (by decide) (by decide) (by rw [lowTo_16] at h2; exact h2)⟩
theorem RyAt.f15 (hr : RdOK L sb) (h : RyAt w L sb fa 15 s ns wr) (hu : usesB L.kind (15 : Nat) = true) :
    Calls Tryz.prog 59 #[pt (w.heap.size + 3)] wr fun e w2 => e = .returned (.tuple #[]) ∧ ∃ s', RyAt w L sb fa 16 s' ns w2 := by
  have hi := h.inn
  rw [fldsFrom_15 L sb hu] at hi
  obtain ⟨n1, n2⟩ := h.nil (Nat.le_refl _)
  have hc0 : (lowTo L 15).cells = [] := by simp [lowTo]
  refine (rcells_yes w wr wr (lowTo L 15) s _ L.cells _ rfl hr.clen hr.cells hi.sz hc0 n1 n2 hi).mono fun e w2 ⟨h1, C, e', h2, h3⟩ => ⟨h1, { s with C := C, e := e' }, ?_⟩
  rw [lowTo_15] at h2
  have hs := hi.sz
  have hm := h.mem.of_blocks h2.msz h2.mem
  have hse := lowTo_ser L 15 (by decide)
  have hcc : (lowTo L 16).cells = L.cells := by simp [lowTo]
  refine ⟨h2.rebase, ⟨?_, ?_, ?_, ?_⟩, h.row.of_blocks h2.msz (h2.mem _ h.far h.row.1), h.far, fun hk => absurd hk (by decide)⟩
  · rw [hse]; exact hm.rule
  · rw [hse]; exact hm.names
  · rw [hse]; exact hm.moves
  · rw [hcc]; exact ownsRow_base' h3 (by omega)
theorem RyAt.f10 (hr : RdOK L sb) (h : RyAt w L sb fa 10 s ns wr) (hu : usesB L.kind (10 : Nat) = true) :
    Calls Tryz.prog 57 #[pt (w.heap.size + 3)] wr fun e w2 => e = .returned (.tuple #[]) ∧ ∃ s' ns', RyAt w L sb fa 11 s' ns' w2 := by
  have hi := h.inn
  rw [fldsFrom_10 L sb hu] at hi
  have hs := hi.sz
  rcases hr.ser with ⟨e1, e2⟩ | ⟨N, e1, hN, hN0, hN2, h64, hg, hok, hfit, hmf⟩
  · rw [e1] at hi
    have el : lowTo L 10 = lowTo L 11 := lowTo_skip L 10 (by decide) (by unfold FldZ; exact e2)
    refine (rseries_none w wr wr (lowTo L 10) s _ hi).mono fun e w2 ⟨h1, h2⟩ => ⟨h1, s, ns, ?_⟩
    rw [el] at h2
    refine h.turn h2 ?_ fun hk => h.nil (by omega)
    rw [← el]
    exact h.mem.of_blocks h2.msz h2.mem
  · rw [e1, List.append_assoc] at hi
    refine (rseries_some w wr wr (lowTo L 10) s _ L.series N h64 hg hok hfit hmf hN hN0 hN2 hs (lowTo_ref L 10 hr.ref) hi).mono fun e w2 ⟨h1, A, c, B, d, ns', h2, h3, h4, h5⟩ => ⟨h1, { s with A := A, c := c, B := B, d := d }, ns', ?_⟩
    rw [lowTo_10] at h2
    have hm := h.mem.of_blocks h2.msz h2.mem
    have hss : (lowTo L 11).series = L.series := by simp [lowTo]
    have hcc := lowTo_cel L 10 (by decide)
    refine ⟨h2.rebase, ⟨?_, ?_, ?_, ?_⟩, h.row.of_blocks h2.msz (h2.mem _ h.far h.row.1), h.far, fun hk => h.nil (by omega)⟩
    · rw [hss]; exact h4.lower (by omega)
    · rw [hss]; exact h3.symm
    · rw [hss]; exact ownsRow_base' h5 (by omega)
    · rw [hcc]; exact hm.cells
end
end Go.Proofs.YtenbgpcdoljkgaaGreatDoor

/- letter.Read of the bytes of a letter that can be read back gives the letter. -/
namespace Go.Proofs.YtenbgpcdoljkgaaGreatDoor
open Go Go.RowKit

theorem LIn.start {w w1 : World} {o : Obj} {A : Option Addr} {bs : List UInt8} {c : Nat} (ho : o = .cells (ltVal zLt zSl) 36 (0, 0)) (hrb : RBlk w1 (w.heap.size + 2) (w.heap.size + 1) A bs.length c false) (hsz : w.heap.size + 2 + 3 ≤ w1.heap.size)
    (hb : Below (w.heap.size + 2) ((w.alloc o).alloc o) w1) (hl : bs.length ≤ c) (hc : c ≤ 9223372036854775807) (hby : BytesAt w w.heap.size A bs) (hn : A = none → c = 0) : LIn w w1 w1 zLt zSl bs := by
  subst ho
  have h2 : Below w.heap.size w w1 := (((Below.refl _ w).alloc (Nat.le_refl _) _).alloc (by simp) _).trans (hb.mono (by omega))
  exact ⟨(hb.block _ (by omega)).trans (heap_alloc2_new w _ _), ⟨A, c, hrb, hl, hc, hby.keep h2, hn⟩, (hb.block _ (by omega)).trans (heap_alloc2_old w _ _), h2, by omega, Nat.le_refl _, fun _ _ _ => rfl⟩
theorem newReader_rdL (w : World) (A : Option Addr) (bs : List UInt8) (c : Nat) (hl : bs.length ≤ c) (hc : c ≤ 9223372036854775807) (hby : BytesAt w w.heap.size A bs) (hn : A = none → c = 0) :
    Calls Tryz.prog 54 #[pt (w.heap.size + 1), .slice A bs.length c] ((w.alloc (.cells (ltVal zLt zSl) 36)).alloc (.cells (ltVal zLt zSl) 36)) fun e w1 =>
      e = .returned (.tuple #[pt (w.heap.size + 3), .func (.func 85) #[] #[pt (w.heap.size + 4), pt (w.heap.size + 2)]]) ∧ LIn w w1 w1 zLt zSl bs := by
  refine (newReader_any (w.heap.size + 1) A bs.length c _).mono fun e w1 ⟨h1, h2, h3, h4⟩ => ?_
  have hs : ((w.alloc (.cells (ltVal zLt zSl) 36)).alloc (.cells (ltVal zLt zSl) 36)).heap.size = w.heap.size + 2 := by rw [World.size_alloc, World.size_alloc]
  rw [hs] at h1 h2 h3 h4
  exact ⟨h1, LIn.start rfl h2 h3 h4 hl hc hby hn⟩
theorem LIn.done {w wm w1 : World} {l : Lt} {s : Sl} (h : LIn w wm w1 l s []) : Calls Tryz.prog 85 #[pt (w.heap.size + 4), pt (w.heap.size + 2)] w1 fun e w' => e = .returned (.bool true) ∧ w1 = w' := by
  obtain ⟨A, c, hr, _⟩ := h.st
  exact done_any w1 (w.heap.size + 2) (w.heap.size + 1) A _ c false hr
def RyRel (w : World) (L : Lt) (sb : List UInt8) (fa : Nat) (i : Value) (wr : World) : Prop :=
  ∃ (k : Nat) (s : Sl) (ns : List NdV), k ≤ 17 ∧ i = .int .i64 k ∧ RyAt w L sb fa k s ns wr
def RyPost (w : World) (L : Lt) (e : Ending) (w' : World) : Prop := ∃ s ns, e = .returned (.tuple #[.agg (ltVal L s), I 0]) ∧ LtMem w.heap.size w' L s ns ∧ Below w.heap.size w w'
theorem RyAt.start {w w1 : World} {L : Lt} {sb : List UInt8} {fns : Array Value} {t : TypeId} (hf : fns = rFns (w.heap.size + 3)) (h : LIn w w1 w1 (lowTo L 0) zSl (fldsFrom L sb 0)) : RyAt w L sb w1.heap.size 0 zSl [] (w1.alloc (.cells fns t)) := by
  subst hf
  have hs := h.sz
  exact ⟨(h.grow (below_var w1 _)).rebase, ⟨⟨World.ownsRow_nil _ _ _ _, fun _ hx => nomatch hx⟩, rfl, World.ownsRow_nil _ _ _ _, World.ownsRow_nil _ _ _ _⟩, Row.new w1 _ _, by omega, fun _ => ⟨rfl, rfl⟩⟩
theorem zero_low (L : Lt) : { zLt with kind := L.kind, src := L.src, dst := L.dst } = lowTo L 0 := by simp [lowTo, zLt]
attribute [local go_sem] ltVal_get lt_get0 lt_get1 lt_get2
set_option maxRecDepth 10000 in
set_option maxHeartbeats 8000000 in
theorem read_yes (w : World) (A : Option Addr) (bs : List UInt8) (c : Nat) (L : Lt) (sb : List UInt8) (hl : bs.length ≤ c) (hc : c ≤ 9223372036854775807) (hby : BytesAt w w.heap.size A bs) (hn : A = none → c = 0) (hbs : bs = ltBytes L sb) (hr : RdOK L sb)
    (hB : ∀ w' s ns, LtMem (w.heap.size + 5) w' L s ns → Calls Tryz.prog 8 #[.agg (ltVal L s)] w' (BytesPost w' 0 bs)) :
    Calls Tryz.prog 19 #[.slice A bs.length c] w (RyPost w L) := by
  have HN := Lib.hid (newReader_rdL w A bs c hl hc hby hn)
  have HY := Lib.hid hby
  have HR := Lib.hid hr
  have HBC := Lib.hid hB
  have HBS : Hid (bs = le L.kind 1 ++ (le L.src 1 ++ (le L.dst 1 ++ fldsFrom L sb 0))) := Lib.hid (hbs.trans (ltBytes_read L sb))
  clear hby hn hB hr hbs
  go_enter Tryz.func19, Tryz.ntmps19
  go_wp2_with (first
    | (refine wpList_alloc_as rfl _ rfl (ltVal zLt zSl) lt_zero ?_)
    | (go_at_call 54; refine HN.out.mono ?_; rintro e w1 ⟨rfl, hi1⟩; rw [HBS.out] at hi1; have HI1 := Lib.hid hi1; clear hi1))
  refine (HI1.out.number1 HR.out.kind.1 HR.out.kind.2).mono ?_
  rintro e w2 ⟨rfl, hi2⟩
  have hr2 := hi2.row.2
  have hf2 := hi2.froz
  obtain ⟨x, hx⟩ : ∃ x, L.kind = x := ⟨_, rfl⟩
  have HI2 : Hid (LIn w w1 (w2.setCell ⟨w.heap.size + 1, 0, none⟩ (I x)) { zLt with kind := x } zSl (le L.src 1 ++ (le L.dst 1 ++ fldsFrom L sb 0))) := Lib.hid (hi2.store (set_kind zLt zSl x))
  have HX := Lib.hid hx
  rw [hx]
  clear hi2 HI1 hx
  go_wp2_with fail
  clear hr2 hf2
  refine (HI2.out.number1 HR.out.src.1 HR.out.src.2).mono ?_
  rintro e w3 ⟨rfl, hi3⟩
  have hr3 := hi3.row.2
  have hf3 := hi3.froz
  obtain ⟨y, hy⟩ : ∃ y, L.src = y := ⟨_, rfl⟩
  have HI3 : Hid (LIn w w1 (w3.setCell ⟨w.heap.size + 1, 1, none⟩ (I y)) { zLt with kind := x, src := y } zSl (le L.dst 1 ++ fldsFrom L sb 0)) := Lib.hid (hi3.store (set_src { zLt with kind := x } zSl y))
  have HYY := Lib.hid hy
  rw [hy]
  clear hi3 HI2 hy
  go_wp2_with fail
  clear hr3 hf3
  refine (HI3.out.number1 HR.out.dst.1 HR.out.dst.2).mono ?_
  rintro e w4 ⟨rfl, hi4⟩
  have hr4 := hi4.row.2
  have hf4 := hi4.froz
  obtain ⟨z, hz⟩ : ∃ z, L.dst = z := ⟨_, rfl⟩
  have hi4s : LIn w w1 (w4.setCell ⟨w.heap.size + 1, 2, none⟩ (I z)) { zLt with kind := x, src := y, dst := z } zSl (fldsFrom L sb 0) := hi4.store (set_dst { zLt with kind := x, src := y } zSl z)
  rw [← HX.out, ← HYY.out, ← hz, zero_low] at hi4s
  rw [hz]
  have HI4 : Hid (LIn w (w4.setCell ⟨w.heap.size + 1, 2, none⟩ (I z)) (w4.setCell ⟨w.heap.size + 1, 2, none⟩ (I z)) (lowTo L 0) zSl (fldsFrom L sb 0)) := Lib.hid (by rw [hz] at hi4s; exact hi4s.rebase)
  have hs4 : (w4.setCell ⟨w.heap.size + 1, 2, none⟩ (I z)).heap.size = w4.heap.size := by simp [World.setCell]
  have HG4 : Hid (RyAt w L sb w4.heap.size 0 zSl [] ((w4.setCell ⟨w.heap.size + 1, 2, none⟩ (I z)).alloc (.cells (rFns (w.heap.size + 3)) 75))) := Lib.hid (by rw [← hs4]; exact RyAt.start rfl HI4.out)
  clear hi4 hi4s HI3 HI4 hz hs4 HX HYY
  go_wp2_with (first
    | (refine wpList_build_as rfl _ rfl (rFns (w.heap.size + 3)) (by kernel_rfl) ?_)
    | (refine wpList_var_row rfl rfl _ _ _ rfl rfl rfl rfl _ (rFns (w.heap.size + 3)) (rFns_info _) rfl rfl rfl (rFns_one _) ?_)
    | (go_at_call 34; refine (numbers_any _ _).mono ?_; rintro e w5 ⟨rfl, hb5⟩; have HY5 := Lib.hid (HG4.out.grow hb5); clear hb5))
  clear hr4 hf4 HG4
  obtain ⟨fa, hfa⟩ : ∃ x, w4.heap.size = x := ⟨_, rfl⟩
  rw [hfa] at HY5 ⊢
  clear hfa
  go_loopw [38] (fun i wr => RyRel w L sb fa i wr) (fun i _ => 17 - (intOf i).toNat)
  case atStart => exact ⟨0, zSl, [], by omega, rfl, HY5.out⟩
  case round =>
    obtain ⟨k, s, ns, hk, rfl, hi⟩ := hrel
    have HI := Lib.hid hi
    clear hi HY5
    by_cases hlt : k < 17
    · have hk0 : wr.cell? ⟨w.heap.size + 1, 0, none⟩ = some (I L.kind) := HI.out.inn.row.2 0
      have hix := fun W => index_nums (w.heap.size + 1) k hlt W
      cases hu : usesB L.kind k
      · have HU := Lib.hid hu
        clear hu
        obtain ⟨q, hq⟩ : ∃ q, ptrAt (w.heap.size + 1) k = q := ⟨_, rfl⟩
        rw [hq] at hix
        clear hq
        go_wp2_with (go_at_call 35; refine (uses_any _ _ _ (by omega) (by omega)).mono ?_; rintro e w6 ⟨rfl, hb6⟩; have HI6 := Lib.hid (HI.out.grow hb6); rw [HU.out]; clear hb6)
        go_roundw
        case rel => exact ⟨k + 1, s, ns, by omega, by go_num, HI6.out.skip HR.out hlt HU.out⟩
        case measure => simp [intOf]; omega
      have HU := Lib.hid hu
      clear hu
      cases ho : numOff k with
      | some o =>
        have hp : ptrAt (w.heap.size + 1) k = .pointer (some ⟨w.heap.size + 1, o, none⟩) := by unfold ptrAt; rw [ho]; rfl
        rw [hp] at hix
        have HO := Lib.hid ho
        clear ho hp
        go_wp2_with (go_at_call 35; refine (uses_any _ _ _ (by omega) (by omega)).mono ?_; rintro e w6 ⟨rfl, hb6⟩; have HI6 := Lib.hid (HI.out.grow hb6); rw [HU.out]; clear hb6)
        refine (HI6.out.num HR.out hlt HU.out HO.out).mono ?_
        rintro e w7 ⟨rfl, ⟨v0, hc7⟩, hf7, hi7⟩
        have HI7 := Lib.hid hi7
        obtain ⟨v, hv⟩ : ∃ v, numF L k = v := ⟨_, rfl⟩
        rw [hv] at HI7 ⊢
        clear hi7 hv hk0
        go_wp2
        go_roundw
        case rel => exact ⟨k + 1, s, ns, by omega, by go_num, HI7.out⟩
        case measure => simp [intOf]; omega
      | none =>
        have hp : ptrAt (w.heap.size + 1) k = .pointer none := by unfold ptrAt; rw [ho]
        rw [hp] at hix
        have hks : k = 9 ∨ k = 10 ∨ k = 14 ∨ k = 15 ∨ k = 16 := none_at k hlt ho
        clear ho hp
        rcases hks with rfl | rfl | rfl | rfl | rfl
        · -- field 9: move
          have hix' : ∀ W, (Instr.index 77 (.agg (numPtrs (w.heap.size + 1))) (.int .i64 9)).run Tryz.prog W = .ok (.pointer none) W := hix
          clear hix
          go_wp2_with (first
            | (go_at_call 35; refine (uses_any _ _ _ (by omega) (by omega)).mono ?_; rintro e w6 ⟨rfl, hb6⟩; have HI6 := Lib.hid (HI.out.grow hb6); have hf6 : w6.cell? ⟨fa, 9, none⟩ = some (.func (.func 56) #[pt (w.heap.size + 3)] #[]) := HI6.out.row.2 9; first | rw [HU.out] | rw [show usesB L.kind 9 = true from HU.out]; clear hb6)
            | (go_at_call 56; refine (HI6.out.f9 HR.out HU.out).mono ?_; rintro e w7 ⟨rfl, h7⟩; have HI7 := Lib.hid h7; clear h7))
          go_roundw
          case rel => exact ⟨10, _, _, by omega, by go_num, HI7.out⟩
          case measure => simp [intOf]
        · -- field 10: series
          have hix' : ∀ W, (Instr.index 77 (.agg (numPtrs (w.heap.size + 1))) (.int .i64 10)).run Tryz.prog W = .ok (.pointer none) W := hix
          clear hix
          go_wp2_with (first
            | (go_at_call 35; refine (uses_any _ _ _ (by omega) (by omega)).mono ?_; rintro e w6 ⟨rfl, hb6⟩; have HI6 := Lib.hid (HI.out.grow hb6); have hf6 : w6.cell? ⟨fa, 10, none⟩ = some (.func (.func 57) #[pt (w.heap.size + 3)] #[]) := HI6.out.row.2 10; first | rw [HU.out] | rw [show usesB L.kind 10 = true from HU.out]; clear hb6)
            | (go_at_call 57; refine (HI6.out.f10 HR.out HU.out).mono ?_; rintro e w7 ⟨rfl, s7, ns7, h7⟩; have HI7 := Lib.hid h7; clear h7))
          go_roundw
          case rel => exact ⟨11, _, _, by omega, by go_num, HI7.out⟩
          case measure => simp [intOf]
        · -- field 14: window
          have hix' : ∀ W, (Instr.index 77 (.agg (numPtrs (w.heap.size + 1))) (.int .i64 14)).run Tryz.prog W = .ok (.pointer none) W := hix
          clear hix
          go_wp2_with (first
            | (go_at_call 35; refine (uses_any _ _ _ (by omega) (by omega)).mono ?_; rintro e w6 ⟨rfl, hb6⟩; have HI6 := Lib.hid (HI.out.grow hb6); have hf6 : w6.cell? ⟨fa, 14, none⟩ = some (.func (.func 58) #[pt (w.heap.size + 3)] #[]) := HI6.out.row.2 14; first | rw [HU.out] | rw [show usesB L.kind 14 = true from HU.out]; clear hb6)
            | (go_at_call 58; refine (HI6.out.f14 HR.out HU.out).mono ?_; rintro e w7 ⟨rfl, h7⟩; have HI7 := Lib.hid h7; clear h7))
          go_roundw
          case rel => exact ⟨15, _, _, by omega, by go_num, HI7.out⟩
          case measure => simp [intOf]
        · -- field 15: cells
          have hix' : ∀ W, (Instr.index 77 (.agg (numPtrs (w.heap.size + 1))) (.int .i64 15)).run Tryz.prog W = .ok (.pointer none) W := hix
          clear hix
          go_wp2_with (first
            | (go_at_call 35; refine (uses_any _ _ _ (by omega) (by omega)).mono ?_; rintro e w6 ⟨rfl, hb6⟩; have HI6 := Lib.hid (HI.out.grow hb6); have hf6 : w6.cell? ⟨fa, 15, none⟩ = some (.func (.func 59) #[pt (w.heap.size + 3)] #[]) := HI6.out.row.2 15; first | rw [HU.out] | rw [show usesB L.kind 15 = true from HU.out]; clear hb6)
            | (go_at_call 59; refine (HI6.out.f15 HR.out HU.out).mono ?_; rintro e w7 ⟨rfl, s7, h7⟩; have HI7 := Lib.hid h7; clear h7))
          go_roundw
          case rel => exact ⟨16, _, _, by omega, by go_num, HI7.out⟩
          case measure => simp [intOf]
        · -- field 16: ref
          have hix' : ∀ W, (Instr.index 77 (.agg (numPtrs (w.heap.size + 1))) (.int .i64 16)).run Tryz.prog W = .ok (.pointer none) W := hix
          clear hix
          go_wp2_with (first
            | (go_at_call 35; refine (uses_any _ _ _ (by omega) (by omega)).mono ?_; rintro e w6 ⟨rfl, hb6⟩; have HI6 := Lib.hid (HI.out.grow hb6); have hf6 : w6.cell? ⟨fa, 16, none⟩ = some (.func (.func 60) #[pt (w.heap.size + 3)] #[]) := HI6.out.row.2 16; first | rw [HU.out] | rw [show usesB L.kind 16 = true from HU.out]; clear hb6)
            | (go_at_call 60; refine (HI6.out.f16 HR.out HU.out).mono ?_; rintro e w7 ⟨rfl, h7⟩; have HI7 := Lib.hid h7; clear h7))
          go_roundw
          case rel => exact ⟨17, _, _, by omega, by go_num, HI7.out⟩
          case measure => simp [intOf]
    · have hke : k = 17 := by omega
      subst hke
      clear hlt hk HN
      have HIN : Hid (LIn w wr wr L s []) := Lib.hid (by have h := HI.out.inn; rw [lowTo_17, fldsFrom_end] at h; exact h)
      have HM : Hid (LtMem (w.heap.size + 5) wr L s ns) := Lib.hid (by have h := HI.out.mem; rw [lowTo_17] at h; exact h)
      have HW := Lib.hid HIN.out.row
      have HSZ := Lib.hid (size62 L s HR.out.ref)
      have HQE : Hid ((bs == bs) = true) := Lib.hid (by simp)
      clear HI
      go_wp2_with (first
        | (go_at_call 85; refine HIN.out.done.mono ?_; rintro e w8 ⟨rfl, rfl⟩)
        | (with_reducible refine g_load 36 ?_; refine wpList_load_Row rfl _ _ rfl (w.heap.size + 1) rfl (ltVal L s) HW.out _ Tryz.underlying36 rfl HSZ.out ?_)
        | (with_reducible refine g_load 36 ?_; refine wpList_load_Row rfl _ _ rfl (w.heap.size + 1) rfl (ltVal L s) HI9.out.row _ Tryz.underlying36 rfl HSZ.out ?_)
        | (go_at_call 8; refine (HBC.out _ _ _ HM.out).mono ?_; rintro e w9 ⟨h9, hb9⟩; rw [if_pos rfl] at h9; obtain ⟨v, rfl, hv⟩ := h9; obtain ⟨A9, c9, rfl, _, _, _, hby9⟩ := bytesAt_own hv; have HY9 := Lib.hid hby9; have HI9 := Lib.hid (HIN.out.grow hb9); have HB9 := Lib.hid hb9; clear hb9 hv hby9)
        | (go_at_call 61; refine (bytesEqual_any _ A9 A bs bs c9 c _ _ HY9.out (HY.out.keep HI9.out.lo)).mono ?_; rintro e w10 ⟨rfl, rfl⟩; rw [HQE.out])
        | (with_reducible refine g_store 36 ?_; refine wpList_store_row rfl _ _ _ rfl w.heap.size (ltVal L s) rfl rfl 36 (ltVal zLt zSl) HI9.out.res HSZ.out (sz_eq L s HR.out.ref) (ltVal_one _ _) ?_))
      refine bodyPost_ret (v := .tuple #[.agg (ltVal L s), I 0]) (results_row_tmp rfl _ _ w.heap.size _ (ltVal L s) (0, 0) _ rfl (setRow_heap _ _ _ _ _ _ HI9.out.res) Tryz.underlying36 rfl (size62 _ _ HR.out.ref) _ rfl) rfl ?_
      refine ⟨s, ns, rfl, (LtMem.of_blocks HM.out ?_ fun j h1 h2 => ?_).lower (by omega), below_setRow HI9.out.lo (Nat.le_refl _) _⟩
      · have h := HB9.out.size
        simpa [World.setRow] using h
      · rw [setRow_other _ _ j _ (by omega)]
        exact HB9.out.block j h2
end Go.Proofs.YtenbgpcdoljkgaaGreatDoor

/- LetterDirection: the plain part, and words for the walk. -/
namespace Go.Proofs.YtenbgpcdoljkgaaGreatDoor
open Go Go.RowKit

section
variable {P : Program} {ops : Array Oper} {o : Oper} {a : Act} {w : World} {K : Act → World → Prop} {Q : Exit → Act → World → Prop} {E : Prop}
/-- An alloc, as a step of a region that draws. -/
theorem step_alloc_as (hgd : o.guard = none) (t : TypeId) (ho : o.op = .alloc t) (cells : Array Value) (hz : (P.info? t).map (fun i => (i.zero, i.size)) = some (some (.agg cells), cells.size))
    (h : K (a.put o.dst (.pointer (some ⟨w.heap.size, 0, none⟩))) (w.alloc (.cells cells t))) : if Region.wanted o (yielded ops a.tmps) = true then Oper.wp P o a w K Q else E := by
  have hw : Region.wanted o (yielded ops a.tmps) = true := by simp [Region.wanted, hgd]
  rw [if_pos hw]
  unfold Oper.wp execOp
  simp only [ho, Sem.run_bind, run_alloc_var w t (.agg cells) _ hz, Result.andThen_ok]
  exact h
/-- A whole row stored, as a step of a region that draws. -/
theorem step_store_row (hgd : o.guard = none) (ty : TypeId) (x y : Operand) (ho : o.op = .store ty x y) (g : Nat) (cells : Array Value) (hx : a.eval x = .pointer (some ⟨g, 0, none⟩)) (hy : a.eval y = .agg cells)
    (t : TypeId) (old : Array Value) (hg : w.heap[g]? = some (.cells old t (0, 0))) (hi : (P.info? ty).map (·.size) = some cells.size) (hold : old.size = cells.size) (h1 : cells.all (·.oneCell') = true)
    (h : K (a.put o.dst undef) (w.setRow g cells)) : if Region.wanted o (yielded ops a.tmps) = true then Oper.wp P o a w K Q else E := by
  have hw : Region.wanted o (yielded ops a.tmps) = true := by simp [Region.wanted, hgd]
  rw [if_pos hw]
  exact wp_store_row ty x y ho g cells hx hy t old hg hi hold h1 h
end
/-- The pair's box and what was there before. -/
structure XS (w : World) (bc : Array Value) (W : World) : Prop where
  bx : Row W w.heap.size bc
  lo : Below w.heap.size w W
theorem XS.below {w W W' : World} {bc : Array Value} (h : XS w bc W) (hb : Below W.heap.size W W') : XS w bc W' := ⟨h.bx.keep hb, below_trans h.lo hb⟩
theorem XS.drew {w W : World} {bc : Array Value} (h : XS w bc W) : XS w bc W.drew := h.below (Below.refl _ W).drew
theorem XS.alloc {w W : World} {bc : Array Value} (h : XS w bc W) (o : Obj) : XS w bc (W.alloc o) := h.below (below_var W o)
theorem XS.row {w W : World} {bc : Array Value} (h : XS w bc W) (b : Nat) (ds : Array Value) (hb : w.heap.size < b) : XS w bc (W.setRow b ds) :=
  ⟨⟨by simpa using h.bx.1, fun i => (World.cell?_of_block (a := ⟨w.heap.size, i, none⟩) (setRow_other W b w.heap.size ds (by omega))).trans (h.bx.2 i)⟩, below_setRow h.lo (by omega) _⟩
/-- Behind the law's second statement: the letter's variable. -/
def DCut (w : World) (x : Int) (p : Value) (wx : World) : Prop :=
  ∃ (l : Lt) (s : Sl) (ns : List NdV) (k lo lb : Nat), p = pt lb ∧ MadeLt l ns ∧ k < 17 ∧ LtMem lo wx l s ns ∧ 0 < lo ∧ wx.heap[lb]? = some (.cells (ltVal (setNum l k x) s) 36 (0, 0)) ∧ Below w.heap.size w wx
theorem dcut_mk {w W : World} {l : Lt} {s : Sl} {ns : List NdV} {k lo : Nat} {x : Int} {bc : Array Value} {z : Array Value} (hml : MadeLt l ns) (hk : k < 17) (hm : LtMem lo W l s ns) (hlo : 0 < lo) (hS : XS w bc W) :
    DCut w x (pt W.heap.size) ((W.alloc (.cells z 36)).setRow W.heap.size (ltVal (setNum l k x) s)) := by
  have hb : Below W.heap.size W ((W.alloc (.cells z 36)).setRow W.heap.size (ltVal (setNum l k x) s)) := below_setRow (below_var W _) (Nat.le_refl _) _
  exact ⟨l, s, ns, k, lo, W.heap.size, rfl, hml, hk, hm.grow hb hlo, hlo, setRow_heap _ _ _ _ _ _ (heap_alloc_last W _), below_trans hS.lo hb⟩
/-- A letter's variable. -/
structure Lv (b : Nat) (cs : Array Value) (W : World) : Prop where
  var : W.heap[b]? = some (.cells cs 36 (0, 0))
section
variable {b g : Nat} {cs : Array Value} {W W' : World}
theorem Lv.lt (h : Lv b cs W) : b < W.heap.size := (Array.getElem?_eq_some_iff.1 h.var).1
theorem Lv.cell (h : Lv b cs W) : ∀ i, W.cell? ⟨b, i, none⟩ = cs[i]? := fun i => cell_of_row W _ i _ _ _ h.var
theorem Lv.froz (h : Lv b cs W) : ∀ i, W.frozen? ⟨b, i, none⟩ = false := fun i => frozen_of_row W _ i _ _ h.var
theorem Lv.row (h : Lv b cs W) : Row W b cs := ⟨h.lt, h.cell⟩
theorem Lv.below (h : Lv b cs W) (hb : Below W.heap.size W W') : Lv b cs W' := ⟨(hb.block _ h.lt).trans h.var⟩
theorem Lv.put (h : Lv b cs W) (o : Nat) (v : Value) : Lv b (cs.setIfInBounds o v) (W.setCell ⟨b, o, none⟩ v) := ⟨heap_setCell_same W _ o _ _ _ h.var⟩
theorem Lv.far (h : Lv b cs W) (hn : b ≠ g) (o : Nat) (v : Value) : Lv b cs (W.setCell ⟨g, o, none⟩ v) := ⟨(heap_setCell_other W _ b v hn).trans h.var⟩
theorem Lv.new (W : World) (cs : Array Value) : Lv W.heap.size cs (W.alloc (.cells cs 36)) := ⟨heap_alloc_last W _⟩
end
/-- The three letters, as they lie. -/
structure DS (wc : World) (lb : Nat) (L M F : Lt) (s : Sl) (W : World) : Prop where
  l : Lv lb (ltVal L s) W
  m : Lv wc.heap.size (ltVal M s) W
  f : Lv (wc.heap.size + 1) (ltVal F s) W
  up : Below wc.heap.size wc W
theorem DS.below {wc W W' : World} {lb : Nat} {L M F : Lt} {s : Sl} (h : DS wc lb L M F s W) (hb : Below W.heap.size W W') : DS wc lb L M F s W' := ⟨h.l.below hb, h.m.below hb, h.f.below hb, below_trans h.up hb⟩
def turned (L : Lt) : Lt := { L with src := L.dst, dst := L.src }
def toSelf (L : Lt) : Lt := { L with dst := L.src }
theorem ds_start (wc : World) (lb : Nat) (L : Lt) (s : Sl) (h : Lv lb (ltVal L s) wc) :
    DS wc lb L (turned L) (toSelf L) s (((((wc.alloc (.cells (ltVal L s) 36)).setCell ⟨wc.heap.size, 1, none⟩ (I L.dst)).setCell ⟨wc.heap.size, 2, none⟩ (I L.src)).alloc (.cells (ltVal L s) 36)).setCell ⟨wc.heap.size + 1, 2, none⟩ (I L.src)) := by
  have hlt := h.lt
  have u4 := below_var wc (.cells (ltVal L s) 36)
  have l4 := h.below u4
  have m4 := Lv.new wc (ltVal L s)
  have l5 := (l4.far (g := wc.heap.size) (by omega) 1 (I L.dst)).far (g := wc.heap.size) (by omega) 2 (I L.src)
  have m5 := (m4.put 1 (I L.dst)).put 2 (I L.src)
  rw [put_src, put_dst] at m5
  have u5 := (u4.setCell (p := ⟨wc.heap.size, 1, none⟩) (Nat.le_refl _) (I L.dst)).setCell (p := ⟨wc.heap.size, 2, none⟩) (Nat.le_refl _) (I L.src)
  obtain ⟨W5, hW5⟩ : ∃ W, ((wc.alloc (.cells (ltVal L s) 36)).setCell ⟨wc.heap.size, 1, none⟩ (I L.dst)).setCell ⟨wc.heap.size, 2, none⟩ (I L.src) = W := ⟨_, rfl⟩
  have hs5 : W5.heap.size = wc.heap.size + 1 := by rw [← hW5]; simp [World.setCell]
  rw [hW5] at l5 m5 u5 ⊢
  have u6 := below_var W5 (.cells (ltVal L s) 36)
  have f6 := Lv.new W5 (ltVal L s)
  rw [hs5] at f6
  have l6 := l5.below u6
  have m6 := m5.below u6
  refine ⟨l6.far (by omega) _ _, m6.far (by omega) _ _, ?_, (below_trans u5 u6).setCell (p := ⟨wc.heap.size + 1, 2, none⟩) (Nat.le_succ _) _⟩
  have := f6.put 2 (I L.src)
  rw [put_dst] at this
  exact this
theorem turned_head {L : Lt} (h : headOK L = true) : headOK (turned L) = true := by
  unfold headOK turned at *
  simp only [Bool.and_eq_true, decide_eq_true_eq] at *
  obtain ⟨⟨⟨h1, h2⟩, h3⟩, h4⟩ := h
  exact ⟨⟨⟨h1, h3⟩, h2⟩, fun e => h4 e.symm⟩
theorem self_head (L : Lt) : headOK (toSelf L) = false := by
  unfold headOK toSelf
  simp
theorem turned_nums (L : Lt) (b : Bool) : vNums (turned L) b = vNums L b := by
  have h1 : numOK (turned L) b = numOK L b := funext fun k => rfl
  unfold vNums
  rw [h1]
  rfl
theorem turned_oth (L : Lt) : oth (turned L) = oth L := by
  have h1 : ∀ z, vChange (turned L) z = vChange L z := fun z => by unfold vChange; rfl
  unfold oth vOthers
  simp only [h1]
  rfl
theorem turned_body (L : Lt) : bodyOK (turned L) = bodyOK L := by
  unfold bodyOK
  rw [turned_nums, turned_oth]
  rfl
theorem turned_nos (L : Lt) : noSerB (turned L) = noSerB L := by unfold noSerB; rfl
theorem turned_nz (L : Lt) : nzOf (turned L) = nzOf L := by unfold nzOf; rfl
theorem turned_vc {L : Lt} (h : headOK L = true) : vc (turned L) = vc L := by
  unfold vc
  rw [turned_head h, h, turned_body, turned_nos, turned_nz]
theorem self_vc (L : Lt) : vc (toSelf L) = 1 := by
  unfold vc
  rw [if_pos (self_head L)]
theorem turned_flds (L : Lt) (sb : List UInt8) (k : Nat) : fldsTo (turned L) sb k = fldsTo L sb k := by
  induction k with
  | zero => rfl
  | succ k ih =>
    have h1 : fldBytes (turned L) sb k = fldBytes L sb k := by unfold fldBytes; rfl
    have h2 : (turned L).kind = L.kind := rfl
    unfold fldsTo
    rw [ih, h1, h2]
theorem cellBytes3 (a b c : Int) : cellBytes [a, b, c] = [byteOf a, byteOf b, byteOf c] := rfl
/-- The encodings: the first one, the two servers, the rest. -/
theorem lt_split (L : Lt) : ∃ R, ltBytes L (sbOf L) = byteOf L.kind :: byteOf L.src :: byteOf L.dst :: R ∧ ltBytes (turned L) (sbOf (turned L)) = byteOf L.kind :: byteOf L.dst :: byteOf L.src :: R := by
  have h1 : sbOf (turned L) = sbOf L := by unfold sbOf; rw [turned_nz]; rfl
  have h2 := turned_flds L (sbOf L) 17
  obtain ⟨R, hR⟩ : ∃ R, fldsTo L (sbOf L) 17 = R := ⟨_, rfl⟩
  rw [hR] at h2
  refine ⟨R, ?_, ?_⟩
  · unfold ltBytes hdBytes
    rw [hR, cellBytes3]
    rfl
  · unfold ltBytes hdBytes
    rw [h1, h2, cellBytes3]
    rfl
theorem VarOf.turn {l L : Lt} (h : VarOf l L) : VarOf l (turned L) := ⟨h.ser, h.cells, h.ref⟩
theorem VarOf.self {l L : Lt} (h : VarOf l L) : VarOf l (toSelf L) := ⟨h.ser, h.cells, h.ref⟩
theorem VarOf.num {l : Lt} {ns : List NdV} (hl : MadeLt l ns) (k : Nat) (x : Int) : VarOf l (setNum l k x) := ⟨setNum_series _ _ _, setNum_cellsL _ _ _, by rw [setNum_ref]; exact hl.ref⟩
theorem turn_at (a b c : UInt8) (R : List UInt8) (j : Nat) (hj : j < R.length + 3) : ∃ p q, (a :: b :: c :: R)[j]? = some p ∧ (a :: c :: b :: R)[j]? = some q ∧ (j = 1 ∨ j = 2 ∨ p = q) := by
  match j, hj with
  | 0, _ => exact ⟨a, a, rfl, rfl, .inr (.inr rfl)⟩
  | 1, _ => exact ⟨b, c, rfl, rfl, .inl rfl⟩
  | 2, _ => exact ⟨c, b, rfl, rfl, .inr (.inl rfl)⟩
  | i + 3, h =>
    have hx : R[i]? = some R[i] := List.getElem?_eq_getElem (by omega)
    exact ⟨R[i], R[i], hx, hx, .inr (.inr rfl)⟩
/-- Bytes in a row, as cells. -/
theorem bytes_cell {w : World} {base g n cap : Nat} {bs : List UInt8} (h : w.ownsRow base 5 1 (.slice (some ⟨g, 0, none⟩) n cap) n (bs.map Extern.Stop.cell)) (k : Nat) (c : UInt8) (hk : bs[k]? = some c) : w.cell? ⟨g, k, none⟩ = some (.int .u8 c.toNat) := by
  have := h.cells (g := g) rfl k (Extern.Stop.cell c) (by rw [List.getElem?_map, hk]; rfl)
  rw [addr_add] at this
  exact this
end Go.Proofs.YtenbgpcdoljkgaaGreatDoor

/- LetterRoundTrip: the plain part: a made letter's rule in other memory; letter.Read of the bytes of a letter with a made series; letter.Read of no bytes; kalendsref20.Same of one letter in two memories. -/
namespace Go.Proofs.YtenbgpcdoljkgaaGreatDoor
open Go Go.RowKit

theorem movedN_swap (k : Int) (ms : List NdV) : ∀ b : List NdV, b.map (·.d) = (movedN k ms).map (·.d) → ∃ ms', movedN k ms' = b ∧ ms'.map (·.d) = ms.map (·.d) := by
  induction ms with
  | nil =>
    intro b h
    have : b = [] := by simpa [movedN] using h
    exact ⟨[], by rw [this]; rfl, rfl⟩
  | cons m ms ih =>
    intro b h
    cases b with
    | nil => simp [movedN] at h
    | cons y b =>
      unfold movedN at h
      rw [List.map_cons, List.map_cons, List.map_cons] at h
      injection h with h1 h2
      obtain ⟨ms', e1, e2⟩ := ih b h2
      refine ⟨⟨m.d, y.A, y.c⟩ :: ms', ?_, by rw [List.map_cons, List.map_cons, e2]⟩
      unfold movedN at *
      rw [List.map_cons, e1]
      congr 1
      obtain ⟨yd, yA, yc⟩ := y
      have h1 : yd = (mvd k m).d := h1
      rw [h1]
      rfl
theorem one_swap {b : List NdV} {d : Nd} (h : b.map (·.d) = [d]) : ∃ A c, b = [⟨d, A, c⟩] := by
  match b, h with
  | [y], h =>
    obtain ⟨yd, yA, yc⟩ := y
    have e : yd = d := by simpa using h
    exact ⟨yA, yc, by rw [e]⟩
theorem MRule.swap {cals : Int} {ns : List NdV} (h : MRule cals ns) : ∀ ns2 : List NdV, ns2.map (·.d) = ns.map (·.d) → MRule cals ns2 := by
  induction h with
  | leaf x h =>
    intro ns2 he
    obtain ⟨A, c, rfl⟩ := one_swap (d := x.d) he
    exact .leaf _ h
  | one ns x hn h ih =>
    intro ns2 he
    unfold overN at he
    rw [List.map_append] at he
    obtain ⟨a, b, rfl, ha, hb⟩ := List.map_eq_append_iff.1 he
    obtain ⟨A, c, rfl⟩ := one_swap hb
    have hl : a.length = ns.length := by have := congrArg List.length ha; simpa using this
    have h2 := MRule.one a ⟨x.d, A, c⟩ (ih a ha) h
    unfold overN at h2
    rw [hl] at h2
    exact h2
  | two ns ms x hn hm h ih1 ih2 =>
    intro ns2 he
    unfold bothN at he
    rw [List.map_append, List.map_append] at he
    obtain ⟨ab, c, rfl, hab, hc⟩ := List.map_eq_append_iff.1 he
    obtain ⟨a, b, rfl, ha, hb⟩ := List.map_eq_append_iff.1 hab
    obtain ⟨A, cc, rfl⟩ := one_swap hc
    obtain ⟨ms', rfl, hms⟩ := movedN_swap _ _ _ hb
    have hl : a.length = ns.length := by have := congrArg List.length ha; simpa using this
    have hl2 : ms'.length = ms.length := by have := congrArg List.length hms; simpa using this
    have h2 := MRule.two a ms' ⟨x.d, A, cc⟩ (ih1 a ha) (ih2 ms' hms) h
    unfold bothN at h2
    rw [hl, hl2] at h2
    exact h2
theorem mem_swap {ns ns2 : List NdV} (he : ns2.map (·.d) = ns.map (·.d)) {x : NdV} (hx : x ∈ ns2) : ∃ y ∈ ns, y.d = x.d := by
  have h : x.d ∈ ns.map (·.d) := by rw [← he]; exact List.mem_map_of_mem hx
  obtain ⟨y, hy, e⟩ := List.mem_map.1 h
  exact ⟨y, hy, e⟩
theorem SerOK.swap {ns ns2 : List NdV} {se : Ser} (h : SerOK ns se) (he : ns2.map (·.d) = ns.map (·.d)) : SerOK ns2 se :=
  { h with
    names := h.names.trans he.symm
    made := h.made.swap ns2 he
    len := by have := congrArg List.length he; have := h.len; simp at *; omega
    within := fun x hx => by obtain ⟨y, hy, e⟩ := mem_swap he hx; have := h.within y hy; rw [e] at this; exact this }
theorem MadeTo.names {bare : Bool} {l0 l : Lt} {j : Nat} {ns : List NdV} (h : MadeTo bare l0 j l ns) : ∀ ns2 : List NdV, ns2.map (·.d) = ns.map (·.d) → MadeTo bare l0 j l ns2 := by
  induction h with
  | zero =>
    intro ns2 he
    have : ns2 = [] := by simpa using he
    subst this
    exact .zero
  | skip _ hs ih => exact fun ns2 he => .skip (ih ns2 he) hs
  | @step j l l' ns ns' hm hs hf ih =>
    intro ns2 he
    rcases hf with ⟨a, x, b1, b2, b3, rfl, rfl⟩ | ⟨a, rfl, b⟩ | ⟨a, ⟨b, se, rfl, c⟩ | ⟨b1, b2, rfl, rfl⟩⟩ | ⟨a, rfl, b⟩ | ⟨a, rfl, b⟩ | ⟨a, rfl, b⟩
    · exact .step (ih ns2 he) hs (.inl ⟨a, x, b1, b2, b3, rfl, rfl⟩)
    · exact .step (ih ns2 he) hs (.inr (.inl ⟨a, rfl, b⟩))
    · exact .step hm hs (.inr (.inr (.inl ⟨a, .inl ⟨b, se, rfl, c.swap he⟩⟩)))
    · exact .step (ih ns2 he) hs (.inr (.inr (.inl ⟨a, .inr ⟨b1, b2, rfl, rfl⟩⟩)))
    · exact .step (ih ns2 he) hs (.inr (.inr (.inr (.inl ⟨a, rfl, b⟩))))
    · exact .step (ih ns2 he) hs (.inr (.inr (.inr (.inr (.inl ⟨a, rfl, b⟩)))))
    · exact .step (ih ns2 he) hs (.inr (.inr (.inr (.inr (.inr ⟨a, rfl, b⟩)))))
section
variable {l L : Lt} {ns ns2 : List NdV} {s t : Sl} {lo lo2 : Nat} {w : World}
theorem MadeLt.swap (h : MadeLt l ns) (he : ns2.map (·.d) = ns.map (·.d)) : MadeLt l ns2 := by
  obtain ⟨bare, k, f, t, l1, h1, h2, h3, h4, h5, h6, h7, h8, h9, h10⟩ := h.made
  exact ⟨⟨bare, k, f, t, l1, h1, h2, h3, h4, h5, h6, h7, h8, h9.names ns2 he, h10⟩, h.ref⟩
theorem MadeLt.names (h : MadeLt l ns) : l.series.rule = ns.map (·.d) := by
  obtain ⟨k, f, t, _, _, _, _, _, _, _, hv, _⟩ := h.inv
  rcases hv.ser with ⟨h1, h2⟩ | h1
  · rw [h1, h2]; rfl
  · exact h1.names
theorem VarOf.same (h : MadeLt l ns) : VarOf l l := ⟨rfl, rfl, h.ref⟩
theorem MadeLt.vc (h : MadeLt l ns) : vc l = 0 := by
  have hv := h.v
  unfold Go.Proofs.YtenbgpcdoljkgaaGreatDoor.vc
  rw [h.head, hv.body, if_neg (by decide), if_neg (by decide)]
  rcases hv.ser with h1 | ⟨_, h2, _⟩
  · rw [h1, if_pos rfl]
  · rw [h2]; simp
/-- A valid letter with a made series can be read back. -/
theorem VarOf.rd (hl : MadeLt l ns) (hv : VarOf l L) (h0 : Go.Proofs.YtenbgpcdoljkgaaGreatDoor.vc L = 0) : RdOK L (sbOf L) := by
  rcases vc_cases L with e | ⟨_, hh, hb⟩
  · rw [h0] at e; cases e
  obtain ⟨⟨k1, k2⟩, hsrc, hdst, _⟩ := headOK_iff hh
  have hsr : 0 ≤ L.src ∧ L.src < 16 := by unfold srvIn at hsrc; exact of_decide_eq_true hsrc
  have hds : 0 ≤ L.dst ∧ L.dst < 16 := by unfold srvIn at hdst; exact of_decide_eq_true hdst
  have hlen := hl.lens
  refine ⟨by omega, by omega, by omega, body_fits hh hb, hv.ref, body_cells hb, by rw [hv.cells]; omega, fun k hk hu => body_unused hb k hk hu, ?_⟩
  rcases hl.se with hs | hs
  · refine .inl ⟨?_, by rw [hv.ser, hs]⟩
    have hnz : nzOf L = true := by unfold nzOf; rw [hv.ser, hs]; rfl
    unfold sbOf
    rw [hnz]
    rfl
  · have hnz : nzOf L = false := hv.nz.trans hs.nz
    have hbl := seBytes_len hs
    rw [hv.ser]
    refine .inr ⟨(seBytes l.series).length, ?_, rfl, hbl.1, by omega, by omega, hs.good, fun ns2 he => (hs.swap (ns2 := ns2) (by rw [he]; exact hs.names)).rulesOK, by rw [hs.names]; exact rule_fits hs.rulesOK, fun x hx z hz => ?_⟩
    · unfold sbOf
      rw [hnz, hv.ser]
      rfl
    · obtain ⟨dd, d1, d2⟩ := hs.mok
      obtain ⟨⟨_, hm⟩, m1, m2⟩ := d2.ok x hx
      unfold mvNums at hz
      unfold fits
      simp only [List.mem_cons, List.not_mem_nil, or_false] at hz
      rcases hm with ⟨e, a, b, c⟩ | ⟨e, a, b, c, d, f, g⟩
      · rw [e, a, b, c] at hz
        rcases hz with rfl | rfl | rfl | rfl | rfl <;> first | omega | (simp; done) | (simp; omega)
      · rw [e] at hz
        rcases hz with rfl | rfl | rfl | rfl | rfl <;> first | omega | (simp; done) | (simp; omega)
/-- letter.Read of the bytes of a valid letter with a made series. -/
theorem read_var (hl : MadeLt l ns) (hv : VarOf l L) (h0 : Go.Proofs.YtenbgpcdoljkgaaGreatDoor.vc L = 0) (A : Option Addr) (bs : List UInt8) (c : Nat) (hlen : bs.length ≤ c) (hc : c ≤ 9223372036854775807) (hby : BytesAt w w.heap.size A bs) (hn : A = none → c = 0) (hbs : bs = ltBytes L (sbOf L)) :
    Calls Tryz.prog 19 #[.slice A bs.length c] w (RyPost w L) :=
  read_yes w A bs c L (sbOf L) hlen hc hby hn hbs (hv.rd hl h0) fun w' s ns2 hm => by
    have hl2 := hl.swap (ns2 := ns2) (by rw [← hm.names, hv.ser, hl.names])
    have hm2 : LtMem (w.heap.size + 5) w' l s ns2 := hm.other hv.ser.symm hv.cells.symm
    have h := bytes_var hl2 hm2 (by omega) hv
    rw [h0, ← hbs] at h
    exact h
theorem rdTo_none (r : RS) (h : r.l.kind = 0) (k : Nat) : rdTo r k = r := by
  induction k with
  | zero => rfl
  | succ k ih =>
    unfold rdTo
    rw [h, if_neg (by unfold usesB; simp), ih]
theorem head_nil : (rdHead []).l.kind = 0 ∧ rdOK (rdHead []) = false := ⟨by kernel_rfl, by kernel_rfl⟩
/-- letter.Read of no bytes: ErrForm. -/
theorem read_nil (w : World) : Calls Tryz.prog 19 #[.slice none 0 0] w (ReadGot w 3 zLt) := by
  have e := rdTo_none (rdHead []) head_nil.1 17
  have h := read_nums w none [] 0 (Nat.le_refl _) (by omega) (.inl rfl) (fun _ => rfl) (fun k _ hu => by rw [head_nil.1] at hu; unfold usesB at hu; simp at hu) 0 [] (fun hr => by rw [e, head_nil.2] at hr; cases hr) false (by rw [e, head_nil.2]; rfl)
  exact h
theorem numsEq_self (L : Lt) : numsEq L L = true := numsEq_yes fun _ _ => by simp
/-- kalendsref20.Same: one letter in two memories. -/
theorem refSame_self (hl : MadeLt l ns) (hl2 : MadeLt l ns2) (hv : VarOf l L) (h1 : LtMem lo w L s ns) (h2 : LtMem lo2 w L t ns2) (hlo : 0 < lo) (hlo2 : 0 < lo2) :
    Calls Tryz.prog 16 #[.agg (ltVal L s), .agg (ltVal L t)] w (Gives (.bool true) w) := by
  have hlen := hl.lens
  have hlen2 := hl2.lens
  have h := refSame_twin L L s t w ⟨rfl, rfl, rfl, rfl, rfl, rfl, rfl, rfl, rfl, hv.ref⟩
    (fun w' hb => by
      have m1 := h1.grow hb hlo
      have m2 := h2.grow hb hlo2
      have := sameInts_any s.C t.C s.e t.e L.cells L.cells w' m1.ints m2.ints (by rw [hv.cells]; omega)
      rw [beq_self_eq_true] at this
      exact this)
    (fun w' hb => by
      have m1 := h1.grow hb hlo
      have m2 := h2.grow hb hlo2
      exact refSeries_eq L.series s.A t.A s.B t.B s.c t.c s.d t.d ns ns2 w' h1.names h2.names (m1.rules hlen.2.2.2) (m2.rules hlen2.2.2.2) m1.mvs m2.mvs (by rw [hv.ser]; omega) (by rw [hv.ser]; omega))
  rw [numsEq_self] at h
  exact h
end
end Go.Proofs.YtenbgpcdoljkgaaGreatDoor
