/- The texts GfI, GfB, GfP, GfQ, GfL, GfN, GfM, in this order. -/
import Derived.Test.YtenbgpcdoljkgaaGreatDoorUses
import Derived.Shelf.Strconv.Itoa3
import Derived.Test.YtenbgpcdoljkgaaGreatDoorG07
import Derived.Lib.Builder
import Derived.Lib.UnsafeStr
import Derived.Laws.Externs
import Derived.Lib.ItoaLen
/- strconv.Itoa: the decimal numeral of an int: the shelf's contract at this program. (Printed by gen_itoa.py.) -/
namespace Go.Proofs.YtenbgpcdoljkgaaGreatDoor
open Go Go.RowKit Go.Shelf

def itoaRen : Ren := ⟨fun | 129 => 149 | 171 => 130 | 243 => 139 | 246 => 142 | 283 => 144 | 284 => 145 | 285 => 146 | 286 => 147 | 317 => 148 | 318 => 150 | 319 => 151 | 320 => 152 | 337 => 153 | 338 => 154 | n => n, fun | 0 => 0 | 2 => 2 | 3 => 3 | 4 => 4 | 5 => 5 | 9 => 9 | 20 => 20 | 37 => 38 | 46 => 122 | 51 => 125 | 53 => 153 | 171 => 214 | 173 => 217 | 212 => 220 | 213 => 221 | 232 => 33 | 233 => 224 | n => n, fun | 17 => 1 | 18 => 2 | 19 => 3 | n => n⟩
theorem itoaLays : LaysM.n171 Tryz.prog itoaRen :=
  { mixed := by kernel_rfl
    f129 := Tryz.func149.trans (congrArg some (by kernel_rfl))
    f171 := Tryz.func130.trans (congrArg some (by kernel_rfl))
    f243 := Tryz.func139.trans (congrArg some (by kernel_rfl))
    f246 := Tryz.func142.trans (congrArg some (by kernel_rfl))
    f283 := Tryz.func144.trans (congrArg some (by kernel_rfl))
    f284 := Tryz.func145.trans (congrArg some (by kernel_rfl))
    f285 := Tryz.func146.trans (congrArg some (by kernel_rfl))
    f286 := Tryz.func147.trans (congrArg some (by kernel_rfl))
    f317 := Tryz.func148.trans (congrArg some (by kernel_rfl))
    f318 := Tryz.func150.trans (congrArg some (by kernel_rfl))
    f319 := Tryz.func151.trans (congrArg some (by kernel_rfl))
    f320 := Tryz.func152.trans (congrArg some (by kernel_rfl))
    f337 := Tryz.func153.trans (congrArg some (by kernel_rfl))
    f338 := Tryz.func154.trans (congrArg some (by kernel_rfl))
    t0 := Tryz.underlying0
    a0 := Tryz.isAgg0
    z0 := Tryz.sizeOf0
    v0 := Tryz.zeroValue0
    t2 := Tryz.underlying2
    a2 := Tryz.isAgg2
    z2 := Tryz.sizeOf2
    v2 := Tryz.zeroValue2
    t3 := Tryz.underlying3
    a3 := Tryz.isAgg3
    z3 := Tryz.sizeOf3
    v3 := Tryz.zeroValue3
    t4 := Tryz.underlying4
    a4 := Tryz.isAgg4
    z4 := Tryz.sizeOf4
    v4 := Tryz.zeroValue4
    t5 := Tryz.underlying5
    a5 := Tryz.isAgg5
    z5 := Tryz.sizeOf5
    v5 := Tryz.zeroValue5
    t9 := Tryz.underlying9
    a9 := Tryz.isAgg9
    z9 := Tryz.sizeOf9
    v9 := Tryz.zeroValue9
    t20 := Tryz.underlying20
    a20 := Tryz.isAgg20
    z20 := Tryz.sizeOf20
    v20 := Tryz.zeroValue20
    t37 := Tryz.underlying38
    a37 := Tryz.isAgg38
    z37 := Tryz.sizeOf38
    v37 := Tryz.zeroValue38
    t46 := Tryz.underlying122
    a46 := Tryz.isAgg122
    z46 := Tryz.sizeOf122
    v46 := Tryz.zeroValue122
    t51 := Tryz.underlying125
    a51 := Tryz.isAgg125
    z51 := Tryz.sizeOf125
    v51 := Tryz.zeroValue125
    t53 := Tryz.underlying153
    a53 := Tryz.isAgg153
    z53 := Tryz.sizeOf153
    v53 := Tryz.zeroValue153
    t171 := Tryz.underlying214
    a171 := Tryz.isAgg214
    z171 := Tryz.sizeOf214
    v171 := Tryz.zeroValue214
    t173 := Tryz.underlying217
    a173 := Tryz.isAgg217
    z173 := Tryz.sizeOf217
    v173 := Tryz.zeroValue217
    t212 := Tryz.underlying220
    a212 := Tryz.isAgg220
    z212 := Tryz.sizeOf220
    v212 := Tryz.zeroValue220
    t213 := Tryz.underlying221
    a213 := Tryz.isAgg221
    z213 := Tryz.sizeOf221
    t232 := Tryz.underlying33
    a232 := Tryz.isAgg33
    z232 := Tryz.sizeOf33
    v232 := Tryz.zeroValue33
    t233 := Tryz.underlying224
    a233 := Tryz.isAgg224
    z233 := Tryz.sizeOf224
    v233 := Tryz.zeroValue224
    g17 := by kernel_rfl
    g18 := by kernel_rfl
    g19 := by kernel_rfl
    i0 := by kernel_rfl
    i2 := by kernel_rfl
    i3 := by kernel_rfl
    i4 := by kernel_rfl
    i5 := by kernel_rfl
    i9 := by kernel_rfl
    i20 := by kernel_rfl
    i37 := by kernel_rfl
    i46 := by kernel_rfl
    i51 := by kernel_rfl
    i53 := by kernel_rfl
    i171 := by kernel_rfl
    i173 := by kernel_rfl
    i212 := by kernel_rfl
    i232 := by kernel_rfl
    i233 := by kernel_rfl
    m17 := by kernel_rfl
    m18 := by kernel_rfl
    m19 := by kernel_rfl }
theorem itoa_any (n : Int) (h0 : -9223372036854775808 ≤ n) (h1 : n ≤ 9223372036854775807) (w : World) (htab : Lib.TabIs Tryz.prog w "internal/strconv.uint64pow10" .u64 Lib.pow10Tab) :
    Calls Tryz.prog 130 #[.int .i64 n] w fun e w' => e = .returned (.string ⟨(Lib.itoa n).toArray⟩) ∧ ∃ k os, w' = Sort.grow (w.drewN k) os :=
  Any.strconv_Itoa itoaLays n h0 h1 w htab
end Go.Proofs.YtenbgpcdoljkgaaGreatDoor

/- The printer's builder (strings.Builder as the first field of grammar.printer): copyCheck, WriteString, Len, String. -/
namespace Go.Proofs.YtenbgpcdoljkgaaGreatDoor
open Go Go.RowKit

/-- The printer at block g: the bytes written so far in a row of their own; the rule. -/
def PrS (w : World) (g : Nat) (rv v : Value) (bs : List UInt8) : Prop :=
  (∃ p, (p = .pointer none ∨ p = pt g) ∧ w.heap[g]? = some (.cells #[p, v, rv] 115 (0, 0))) ∧ w.ownsRow (g + 1) 5 1 v bs.length (bs.map Extern.Stop.cell)
/-- .. that has been written. -/
def PrU (w : World) (g : Nat) (rv v : Value) (bs : List UInt8) : Prop :=
  w.heap[g]? = some (.cells #[pt g, v, rv] 115 (0, 0)) ∧ w.ownsRow (g + 1) 5 1 v bs.length (bs.map Extern.Stop.cell)
section
variable {w w' : World} {g : Nat} {rv v v' : Value} {bs bs' : List UInt8}
theorem PrU.s (h : PrU w g rv v bs) : PrS w g rv v bs := ⟨⟨_, .inr rfl, h.1⟩, h.2⟩
theorem PrS.lt (h : PrS w g rv v bs) : g < w.heap.size := by obtain ⟨⟨p, _, h⟩, _⟩ := h; exact (Array.getElem?_eq_some_iff.1 h).1
theorem PrS.c1 (h : PrS w g rv v bs) : w.cell? ⟨g, 1, none⟩ = some v := by obtain ⟨⟨p, _, h⟩, _⟩ := h; exact cell_of_row w g 1 _ _ _ h
theorem PrS.c2 (h : PrS w g rv v bs) : w.cell? ⟨g, 2, none⟩ = some rv := by obtain ⟨⟨p, _, h⟩, _⟩ := h; exact cell_of_row w g 2 _ _ _ h
theorem PrS.low (h : PrS w g rv v bs) (hk : WKeep g v w v' w') : Below g w w' :=
  ⟨hk.os, hk.tape, hk.output, hk.size, fun k hkg => hk.block k (by have := h.lt; omega) (by omega) (own_ge h.2 k (by omega))⟩
theorem PrS.keep (h : PrS w g rv v bs) (hb : Below w.heap.size w w') : PrS w' g rv v bs ∧ WKeep g v w v w' := by
  obtain ⟨⟨p, hp, h1⟩, h2⟩ := h
  have hlt := (Array.getElem?_eq_some_iff.1 h1).1
  exact ⟨⟨⟨p, hp, (hb.block g hlt).trans h1⟩, ownsRow_blocks h2 fun k _ hk => hb.block k hk⟩, ⟨hb.os, hb.tape, hb.output, hb.size, fun k hk _ _ => hb.block k hk, .inl rfl⟩⟩
end
theorem printer_size : (Tryz.prog.info? 113).map (·.size) = some 2 := by kernel_rfl
theorem printer_lies : liesAt Tryz.prog Tryz.prog.depth 115 (3 / Tryz.prog.cellsOf 115) 0 113 1 = true := by kernel_rfl
set_option maxRecDepth 10000 in
set_option maxHeartbeats 1000000 in
theorem ccheck_used (w : World) (g : Nat) (h0 : w.cell? ⟨g, 0, none⟩ = some (pt g)) :
    Calls Tryz.prog 138 #[pt g] w fun e w' => e = .returned (.tuple #[]) ∧ w' = w := by
  obtain ⟨j, hj, _⟩ := Option.map_eq_some_iff.1 printer_size
  go_enter Tryz.func138, Tryz.ntmps138
  go_wp2
  rw [Lib.run_neq_ptr_same w _ Tryz.underlying111 hj]
  go_wp2
  go_end0
  exact ⟨rfl, rfl⟩
set_option maxRecDepth 10000 in
set_option maxHeartbeats 1000000 in
theorem ccheck_fresh (w : World) (g : Nat) (h0 : w.cell? ⟨g, 0, none⟩ = some (.pointer none)) (hsh : w.shape? g = some (115, 3)) (hfz : w.frozen? ⟨g, 0, none⟩ = false) :
    Calls Tryz.prog 138 #[pt g] w fun e w' => e = .returned (.tuple #[]) ∧ w' = w.setCell ⟨g, 0, none⟩ (pt g) := by
  obtain ⟨j, hj, hjs⟩ := Option.map_eq_some_iff.1 printer_size
  go_enter Tryz.func138, Tryz.ntmps138
  go_wp2
  rw [Lib.run_to_unsafe w ⟨g, 0, none⟩ Tryz.underlying111 Tryz.underlying210 hj (by rw [hjs]; decide) hsh (Nat.zero_lt_succ 2)]
  simp only [Result.andThen]
  rw [Oper.upon_value]
  go_wp2
  rw [run_callFunc_extern Tryz.func141 (by kernel_rfl) (by kernel_rfl) (by kernel_rfl) (e := Extern.AbiNoEscape.same) (by kernel_rfl)]
  rw [Lib.run_noEscape]
  simp only [Result.andThen]
  rw [Oper.upon_value]
  go_wp2
  rw [Lib.run_from_unsafe w ⟨g, 0, none⟩ Tryz.underlying210 Tryz.underlying111 hj hsh printer_lies]
  simp only [Result.andThen]
  rw [Oper.upon_value]
  go_wp2
  go_end0
  exact ⟨rfl, rfl⟩
theorem ccheck_any (w : World) (g : Nat) (rv v : Value) (bs : List UInt8) (h : PrS w g rv v bs) :
    Calls Tryz.prog 138 #[pt g] w fun e w' => e = .returned (.tuple #[]) ∧ PrU w' g rv v bs ∧ WKeep g v w v w' := by
  have hlt := h.lt
  obtain ⟨⟨p, rfl | rfl, h1⟩, h2⟩ := h
  · refine (ccheck_fresh w g (cell_of_row w g 0 _ _ _ h1) (by simp [World.shape?, h1]) (frozen_of_row w g 0 _ _ h1)).mono ?_
    rintro e w' ⟨rfl, rfl⟩
    refine ⟨rfl, ⟨?_, ?_⟩, ⟨rfl, rfl, rfl, by simp [World.setCell], fun k hk hkg _ => heap_setCell_other w ⟨g, 0, none⟩ k _ hkg, .inl rfl⟩⟩
    · rw [heap_setCell_same w g 0 _ _ (pt g) h1]; rfl
    · exact ownsRow_far (p := ⟨g, 0, none⟩) h2 (own_ge h2 g (Nat.lt_succ_self g))
  · refine (ccheck_used w g (cell_of_row w g 0 _ _ _ h1)).mono ?_
    rintro e w' ⟨rfl, rfl⟩
    exact ⟨rfl, ⟨h1, h2⟩, WKeep.refl _ _ _⟩
/-- What a call that writes gives. -/
def PrP (w : World) (g : Nat) (rv v : Value) (bs : List UInt8) (r : Value) (e : Ending) (w' : World) : Prop :=
  e = .returned r ∧ ∃ v', PrU w' g rv v' bs ∧ WKeep g v w v' w'
/-- Bytes more, stored back. -/
theorem pru_app {w w1 : World} {g m : Nat} {rv v v' : Value} {bs xs : List UInt8} (h : PrU w g rv v bs)
    (hm : m = bs.length + xs.length) (hown : w1.ownsRow (g + 1) 5 1 v' m (bs.map Extern.Stop.cell ++ xs.map Extern.Stop.cell)) (hgrow : w.grownBy w1 v.ownBlock)
    (hat : v'.ownBlock = v.ownBlock ∨ v'.ownBlock = some w.heap.size) :
    w1.heap[g]? = some (.cells #[pt g, v, rv] 115 (0, 0)) ∧ PrU (w1.setCell ⟨g, 1, none⟩ v') g rv v' (bs ++ xs) ∧ WKeep g v w v' (w1.setCell ⟨g, 1, none⟩ v') := by
  subst hm
  have hg := h.s.lt
  have hne : some g ≠ v.ownBlock := own_ge h.2 g (Nat.lt_succ_self g)
  have hg1 : w1.heap[g]? = some (.cells #[pt g, v, rv] 115 (0, 0)) := by
    rw [hgrow.block g hg hne]; exact h.1
  refine ⟨hg1, ⟨?_, ?_⟩, ?_⟩
  · rw [heap_setCell_same w1 g 1 _ _ v' hg1]; rfl
  · have := ownsRow_far (u := v') (p := ⟨g, 1, none⟩) hown (own_ge hown g (Nat.lt_succ_self g))
    simpa using this
  · refine ⟨hgrow.os, hgrow.tape, hgrow.output, ?_, fun k hk hkg hkv => ?_, ?_⟩
    · have := hgrow.size; simp [World.setCell]; omega
    · rw [heap_setCell_other w1 _ k v' hkg, hgrow.block k hk hkv]
    · rcases hat with e | e
      · exact .inl e
      · exact .inr ⟨_, e, Nat.le_refl _⟩
set_option maxRecDepth 10000 in
set_option maxHeartbeats 1000000 in
theorem wstr_any (w : World) (g : Nat) (rv v : Value) (bs : List UInt8) (s : ByteArray) (h : PrS w g rv v bs) (hl : bs.length + s.size ≤ 100000000000) :
    Calls Tryz.prog 129 #[pt g, .string s] w (PrP w g rv v (bs ++ s.data.toList) (.tuple #[I s.size, .nilIface])) := by
  have HC := Lib.hid (ccheck_any w g rv v bs h)
  clear h
  go_enter Tryz.func129, Tryz.ntmps129
  go_wp2_with fail
  refine HC.out.mono ?_
  rintro e w1 ⟨rfl, hu, hk⟩
  have HU := Lib.hid hu
  have HK := Lib.hid hk
  have hc1 := hu.s.c1
  have hlt := hu.s.lt
  clear hu hk HC
  go_wp2_with (at_builtin; refine wpList_app_str rfl _ _ rfl (g + 1) v bs.length (bs.map Extern.Stop.cell) rfl HU.out.2 s rfl ?c1 ?c2 ?_)
  case c1 => omega
  case c2 => omega
  intro v' w2 hown hgrow hat
  have hS := pru_app (m := bs.length + s.size) (xs := s.data.toList) HU.out (by rw [Array.length_toList]; rfl) hown hgrow hat
  have HSS := Lib.hid hS
  have hc2 : w2.cell? ⟨g, 1, none⟩ = some v := cell_of_row w2 g 1 _ _ _ hS.1
  have hf2 := frozen_of_row w2 g 1 _ _ hS.1
  obtain ⟨A, n, c, rfl⟩ : ∃ A n c, v' = .slice A n c := by
    rcases hown.2 with ⟨rfl, _⟩ | ⟨g, cap, cur, rfl, _⟩
    · exact ⟨_, _, _, rfl⟩
    · exact ⟨_, _, _, rfl⟩
  clear hown hgrow hat hS hc1
  go_wp2_with fail
  go_ret2
  exact ⟨rfl, _, HSS.out.2.1, HK.out.trans HSS.out.2.2⟩
set_option maxRecDepth 10000 in
set_option maxHeartbeats 1000000 in
theorem blen_any (w : World) (g : Nat) (rv v : Value) (bs : List UInt8) (h : PrS w g rv v bs) :
    Calls Tryz.prog 68 #[pt g] w fun e w' => e = .returned (I bs.length) ∧ w' = w := by
  obtain ⟨ao, cap, rfl⟩ : ∃ ao cap, v = .slice ao bs.length cap := by
    rcases h.2.2 with ⟨hv, h0⟩ | ⟨g, cap, cur, hv, _⟩
    · exact ⟨none, 0, by rw [hv, h0]⟩
    · exact ⟨_, _, hv⟩
  have hc1 := h.c1
  clear h
  go_enter Tryz.func68, Tryz.ntmps68
  go_wp2
  go_ret
  exact ⟨rfl, rfl⟩
set_option maxRecDepth 10000 in
set_option maxHeartbeats 1000000 in
theorem bstr_any (w : World) (g : Nat) (rv v : Value) (l : List UInt8) (h : PrS w g rv v l) (h0 : l ≠ []) :
    Calls Tryz.prog 69 #[pt g] w fun e w' => e = .returned (.string ⟨l.toArray⟩) ∧ Below g w w' := by
  have hl0 : l.length ≠ 0 := by simpa using h0
  have hown := h.2
  have hc1 := h.c1
  obtain ⟨b, cap, cur, rfl, hbg, hg, hnc, hcm, hcs, htake⟩ : ∃ b cap cur, v = .slice (some ⟨b, 0, none⟩) l.length cap ∧ g + 1 ≤ b ∧ w.heap[b]? = some (.cells cur 5 (0, 0)) ∧ l.length ≤ cap ∧ cap ≤ maxLen ∧ cur.size = cap * 1 ∧ cur.toList.take (l.length * 1) = l.map Extern.Stop.cell := by
    rcases hown.2 with ⟨_, hz⟩ | ⟨b, cap, cur, hv, r⟩
    · exact absurd hz hl0
    · exact ⟨b, cap, cur, hv, r⟩
  have c1 : w.drew.cell? ⟨g, 1, none⟩ = some (.slice (some ⟨b, 0, none⟩) l.length cap) := hc1
  have hSD : (Builtin.unsafeSliceData_ #[38] 172 #[.slice (some ⟨b, 0, none⟩) l.length cap]).run Tryz.prog w.drew = .ok (.pointer (some ⟨b, 0, none⟩)) w.drew :=
    Lib.run_unsafeSliceData_row _ _ _ _ _ _ (by omega)
  have hUS : (Builtin.unsafeString_ #[172, 3] 9 #[.pointer (some ⟨b, 0, none⟩), .int .i64 l.length]).run Tryz.prog w.drew = .ok (.string ⟨l.toArray⟩) (w.drew.freeze ⟨b, 0, none⟩ l.length) := by
    refine Lib.run_unsafeString_row w.drew 172 3 9 5 Tryz.underlying172 (by kernel_rfl) b cur.size (by have hg' : w.drew.heap[b]? = some (.cells cur 5 (0, 0)) := hg; simp [World.shape?, hg']) l h0 (by omega) (by unfold maxLen at hcm; omega) ?_
    intro j x hx
    exact hown.cells (g := b) rfl j (.int .u8 x.toNat) (by rw [List.getElem?_map, hx]; rfl)
  have HB : Hid (Below g w (w.drew.freeze ⟨b, 0, none⟩ l.length)) := Lib.hid (Lib.below_freeze (Below.drew (Below.refl g w)) (p := ⟨b, 0, none⟩) (by show g ≤ b; omega) _)
  clear h hown hc1 hg hnc hcm hcs htake hl0 h0
  go_enter Tryz.func69, Tryz.ntmps69
  go_wp2
  go_region
  all_goals (go_wp2; go_ret; exact ⟨rfl, HB.out⟩)
end Go.Proofs.YtenbgpcdoljkgaaGreatDoor

/- What the printer writes: the words of a rule as plain lists of bytes; strconv.Itoa below; level, operators, scope. -/
namespace Go.Proofs.YtenbgpcdoljkgaaGreatDoor
open Go Go.RowKit

def nd0 : Nd := ⟨0, 0, 0, 0, 0, 0, [], ⟨#[]⟩⟩
def putB (s : List UInt8) (l : List Int) : List UInt8 := s ++ l.flatMap fun n => 32 :: Lib.itoa n
def sepB (i : Nat) : List UInt8 := if i = 0 then [32, 40] else [32]
def listTo (l : List Int) : Nat → List UInt8
  | 0 => []
  | i + 1 => listTo l i ++ (sepB i ++ Lib.itoa (l[i]?.getD 0))
def listB (l : List Int) : List UInt8 := listTo l l.length ++ [41]
def scopeB (n : Int) : List UInt8 := if n = 0 then [32, 109, 111, 110, 116, 104] else [32, 121, 101, 97, 114]
def lev (k : Int) : Int := if k = 9 then 1 else if k = 10 then 2 else if k = 8 then 3 else if 11 ≤ k ∧ k ≤ 17 then 4 else 5
def wordB (x : Int) : List UInt8 := if x = 1 then [111, 114] else if x = 2 then [109, 105, 110, 117, 115] else [97, 110, 100]
def leafB (d : Nd) : List UInt8 :=
  if d.kind = 1 then putB [100, 97, 121, 115] [d.n, d.m]
  else if d.kind = 2 then putB [121, 101, 97, 114, 115] [d.cal, d.n, d.m]
  else if d.kind = 3 then putB [109, 111, 110, 116, 104, 115] [d.cal] ++ listB d.list
  else if d.kind = 4 then putB [109, 111, 110, 116, 104, 100, 97, 121, 115] [d.cal] ++ listB d.list
  else if d.kind = 5 then putB [119, 101, 101, 107, 100, 97, 121, 115] [] ++ listB d.list
  else if d.kind = 6 then putB [119, 101, 101, 107, 115] [d.cal] ++ listB d.list
  else if d.kind = 7 then putB [110, 116, 104] [d.cal, d.n, d.m] ++ scopeB d.l
  else 64 :: d.name.data.toList
def sufB (d : Nd) : List UInt8 :=
  if d.kind = 11 then putB [32, 115, 104, 105, 102, 116] [d.n]
  else if d.kind = 12 then putB [32, 102, 114, 111, 109] [d.n]
  else if d.kind = 13 then putB [32, 117, 110, 116, 105, 108] [d.n]
  else if d.kind = 14 then putB [32, 97, 108, 115, 111] [] ++ listB d.list
  else if d.kind = 15 then putB [32, 101, 120, 99, 101, 112, 116] [] ++ listB d.list
  else if d.kind = 16 then putB [32, 112, 111, 115] [d.cal] ++ (scopeB d.m ++ listB d.list)
  else putB [32, 98, 101, 104, 105, 110, 100] [d.n] ++ [32, 111, 102, 32]
def opdB (ds : List Nd) (T : Nat → List UInt8) (j req : Int) : List UInt8 :=
  if req ≤ lev (ds[j.toNat]?.getD nd0).kind then T j.toNat else [40] ++ T j.toNat ++ [41]
def ndTxt (ds : List Nd) : Nat → Nat → List UInt8
  | 0, _ => []
  | f + 1, i =>
    if lev (ds[i]?.getD nd0).kind < 4 then opdB ds (ndTxt ds f) (ds[i]?.getD nd0).l (lev (ds[i]?.getD nd0).kind) ++ ((32 :: wordB (lev (ds[i]?.getD nd0).kind) ++ [32]) ++ opdB ds (ndTxt ds f) (ds[i]?.getD nd0).r (lev (ds[i]?.getD nd0).kind + 1))
    else if lev (ds[i]?.getD nd0).kind = 4 then opdB ds (ndTxt ds f) (ds[i]?.getD nd0).l 4 ++ (sufB (ds[i]?.getD nd0) ++ (if (ds[i]?.getD nd0).kind = 17 then opdB ds (ndTxt ds f) (ds[i]?.getD nd0).r 5 else []))
    else leafB (ds[i]?.getD nd0)
/-- The table that strconv reads. -/
def Tab10 (B : Nat) (w : World) : Prop := ∀ w', Below B w w' → Lib.TabIs Tryz.prog w' "internal/strconv.uint64pow10" .u64 Lib.pow10Tab
theorem Tab10.keep {B : Nat} {w w' : World} (h : Tab10 B w) (hb : Below B w w') : Tab10 B w' := fun _ h2 => h _ (hb.trans h2)
theorem Tab10.more {B B' : Nat} {w : World} (h : Tab10 B w) (hB : B ≤ B') : Tab10 B' w := fun _ h2 => h _ (h2.mono hB)
theorem Tab10.now {B : Nat} {w : World} (h : Tab10 B w) : Lib.TabIs Tryz.prog w "internal/strconv.uint64pow10" .u64 Lib.pow10Tab := h _ (Below.refl _ _)
theorem below_grows (w : World) (k : Nat) (os : Array Obj) : Below w.heap.size w (Sort.grow (w.drewN k) os) := by
  refine ⟨rfl, rfl, rfl, by simp [Sort.grow], fun b hb => ?_⟩
  show (w.heap ++ os)[b]? = w.heap[b]?
  rw [Array.getElem?_append_left hb]
theorem itoa_b (n : Int) (hn : fits n) (B : Nat) (w : World) (h : Tab10 B w) :
    Calls Tryz.prog 130 #[I n] w (Gives (.string ⟨(Lib.itoa n).toArray⟩) w) := by
  refine (itoa_any n hn.1 hn.2 w h.now).mono ?_
  rintro e w' ⟨rfl, k, os, rfl⟩
  exact ⟨rfl, below_grows w k os⟩
theorem itoa_len (n : Int) (hn : fits n) : (Lib.itoa n).length ≤ 21 := Lib.itoa_length_le n hn.1 hn.2
/-- The table of the operators, as it lies. -/
def opsCells : Array Value := #[.string ⟨#[111, 114]⟩, I 9, .string ⟨#[109, 105, 110, 117, 115]⟩, I 10, .string ⟨#[97, 110, 100]⟩, I 8]
set_option maxRecDepth 10000 in
set_option maxHeartbeats 1000000 in
theorem operators_any (w : World) :
    Calls Tryz.prog 99 #[] w fun e w' => e = .returned (.slice (some ⟨w.heap.size, 0, none⟩) 3 3) ∧ Row w' w.heap.size opsCells ∧ Below w.heap.size w w' := by
  have HR := Lib.hid (Row.new w opsCells 168)
  have HB := Lib.hid (below_var w (.cells opsCells 168))
  unfold opsCells at HR HB
  go_enter Tryz.func99, Tryz.ntmps99
  go_wp2
  go_ret
  exact ⟨rfl, HR.out, HB.out⟩
set_option maxRecDepth 10000 in
set_option maxHeartbeats 1000000 in
theorem scope_any (n : Int) (hn : n = 0 ∨ n = 1) (w : World) : Calls Tryz.prog 132 #[I n] w (Gives (.string ⟨(scopeB n).toArray⟩) w) := by
  have HB := Lib.hid (below_var w (.cells #[.string ⟨#[32, 109, 111, 110, 116, 104]⟩, .string ⟨#[32, 121, 101, 97, 114]⟩] 9))
  rcases hn with rfl | rfl
  · go_enter Tryz.func132, Tryz.ntmps132
    go_wp2
    go_ret
    exact ⟨rfl, HB.out⟩
  · go_enter Tryz.func132, Tryz.ntmps132
    go_wp2
    go_ret
    exact ⟨rfl, HB.out⟩
end Go.Proofs.YtenbgpcdoljkgaaGreatDoor

/- The printer: level, put, list. -/
namespace Go.Proofs.YtenbgpcdoljkgaaGreatDoor
open Go Go.RowKit

structure LvRel (w : World) (b : Nat) (k : Int) (i : Value) (wr : World) : Prop where
  row : Row wr b opsCells
  lo : Below w.heap.size w wr
  at_ : i = I 0 ∨ (i = I 1 ∧ k ≠ 9) ∨ (i = I 2 ∧ k ≠ 9 ∧ k ≠ 10) ∨ (i = I 3 ∧ k ≠ 9 ∧ k ≠ 10 ∧ k ≠ 8)
theorem lv_more {w wr : World} {cs : Array Value} {t : TypeId} (h : Below w.heap.size w wr) (v : Value) (o : Nat) : Below w.heap.size w ((wr.alloc (.cells cs t)).setCell ⟨wr.heap.size, o, none⟩ v) :=
  (below_trans h (below_var wr _)).setCell (p := ⟨wr.heap.size, o, none⟩) h.size _
set_option maxRecDepth 10000 in
set_option maxHeartbeats 1000000 in
theorem level_any (k : Int) (w : World) : Calls Tryz.prog 96 #[I k] w (Gives (I (lev k)) w) := by
  go_enter Tryz.func96, Tryz.ntmps96
  go_wp2_with fail
  refine (operators_any w).mono ?_
  rintro e w1 ⟨rfl, hrow, hb1⟩
  have HR := Lib.hid hrow
  have HB := Lib.hid hb1
  obtain ⟨b, hbe⟩ : ∃ b, w.heap.size = b := ⟨_, rfl⟩
  rw [hbe] at HR ⊢
  clear hrow hb1 hbe
  go_wp2_with fail
  go_loopw [7] (fun i wr => LvRel w b k i wr) (fun i _ => 3 - (intOf i).toNat)
  case atStart => exact ⟨HR.out, HB.out, .inl rfl⟩
  case round =>
    obtain ⟨hrow, hlo, hat⟩ := hrel
    have HROW := Lib.hid hrow
    have HLO := Lib.hid hlo
    clear HR HB
    rcases hat with rfl | ⟨rfl, n9⟩ | ⟨rfl, n9, n10⟩ | ⟨rfl, n9, n10, n8⟩
    · have h0 : wr.cell? ⟨b, 0, none⟩ = some (.string ⟨#[111, 114]⟩) := hrow.2 0
      have h1 : wr.cell? ⟨b, 1, none⟩ = some (I 9) := hrow.2 1
      clear hrow hlo
      by_cases hk : k = 9
      · subst hk
        go_wp2
        go_ret
        exact ⟨rfl, below_trans HLO.out (below_var wr _)⟩
      · have hn : ((9 : Int) == k) = false := by rw [beq_eq_false_iff_ne]; omega
        have HN := Lib.hid (show k ≠ 9 from hk)
        clear hk 
        go_wp2
        go_roundw
        case rel => exact ⟨HROW.out.keep (below_var wr _), below_trans HLO.out (below_var wr _), .inr (.inl ⟨rfl, HN.out⟩)⟩
        case measure => simp [intOf]
    · have h0 : wr.cell? ⟨b, 2, none⟩ = some (.string ⟨#[109, 105, 110, 117, 115]⟩) := hrow.2 2
      have h1 : wr.cell? ⟨b, 3, none⟩ = some (I 10) := hrow.2 3
      clear hrow hlo
      by_cases hk : k = 10
      · subst hk
        go_wp2
        go_ret
        exact ⟨rfl, below_trans HLO.out (below_var wr _)⟩
      · have hn : ((10 : Int) == k) = false := by rw [beq_eq_false_iff_ne]; omega
        have HN := Lib.hid (show k ≠ 10 from hk)
        have Hn9 := Lib.hid n9
        clear hk n9
        go_wp2
        go_roundw
        case rel => exact ⟨HROW.out.keep (below_var wr _), below_trans HLO.out (below_var wr _), .inr (.inr (.inl ⟨rfl, Hn9.out, HN.out⟩))⟩
        case measure => simp [intOf]
    · have h0 : wr.cell? ⟨b, 4, none⟩ = some (.string ⟨#[97, 110, 100]⟩) := hrow.2 4
      have h1 : wr.cell? ⟨b, 5, none⟩ = some (I 8) := hrow.2 5
      clear hrow hlo
      by_cases hk : k = 8
      · subst hk
        go_wp2
        go_ret
        exact ⟨rfl, below_trans HLO.out (below_var wr _)⟩
      · have hn : ((8 : Int) == k) = false := by rw [beq_eq_false_iff_ne]; omega
        have HN := Lib.hid (show k ≠ 8 from hk)
        have Hn9 := Lib.hid n9
        have Hn10 := Lib.hid n10
        clear hk n9 n10
        go_wp2
        go_roundw
        case rel => exact ⟨HROW.out.keep (below_var wr _), below_trans HLO.out (below_var wr _), .inr (.inr (.inr ⟨rfl, Hn9.out, Hn10.out, HN.out⟩))⟩
        case measure => simp [intOf]
    · have HL : Hid (lev k = if 11 ≤ k ∧ k ≤ 17 then 4 else 5) := Lib.hid (by unfold lev; rw [if_neg n9, if_neg n10, if_neg n8])
      clear hrow hlo n9 n10 n8
      by_cases h1 : 11 ≤ k
      · by_cases h2 : k ≤ 17
        · rw [if_pos ⟨h1, h2⟩] at HL
          go_wp2
          go_ret
          exact ⟨by rw [HL.out]; rfl, HLO.out⟩
        · rw [if_neg (fun h => h2 h.2)] at HL
          go_wp2
          go_ret
          exact ⟨by rw [HL.out]; rfl, HLO.out⟩
      · rw [if_neg (fun h => h1 h.1)] at HL
        go_wp2
        go_ret
        exact ⟨by rw [HL.out]; rfl, HLO.out⟩
theorem cat_list (a b : List UInt8) : ((⟨a.toArray⟩ : ByteArray) ++ (⟨b.toArray⟩ : ByteArray)).data.toList = a ++ b := by simp
theorem cat_size (a b : List UInt8) : ((⟨a.toArray⟩ : ByteArray) ++ (⟨b.toArray⟩ : ByteArray)).size = a.length + b.length := by
  have h := congrArg List.length (cat_list a b)
  rw [Array.length_toList, List.length_append] at h
  exact h
/-- What a function of the printer gives. -/
def PrG (w : World) (g : Nat) (rv v : Value) (bs : List UInt8) (e : Ending) (w' : World) : Prop := e = .returned (.tuple #[]) ∧ ∃ v', PrS w' g rv v' bs ∧ WKeep g v w v' w'
/-- A loop of the printer under way. -/
structure PrL (w : World) (g : Nat) (rv v : Value) (A : Option Addr) (zs : List Int) (bs : List UInt8) (wr : World) (v' : Value) : Prop where
  pr : PrS wr g rv v' bs
  far : IntsFar wr g v' A zs
  keep : WKeep g v w v' wr
  tab : Tab10 g wr
section
variable {w wr w' : World} {g : Nat} {rv v v' v2 : Value} {A : Option Addr} {zs : List Int} {bs bs2 : List UInt8}
theorem PrL.next (h : PrL w g rv v A zs bs wr v') (hu : PrS w' g rv v2 bs2) (hk : WKeep g v' wr v2 w') : PrL w g rv v A zs bs2 w' v2 :=
  ⟨hu, h.far.next hk, h.keep.trans hk, h.tab.keep (h.pr.low hk)⟩
theorem PrL.grow (h : PrL w g rv v A zs bs wr v') (hb : Below wr.heap.size wr w') : PrL w g rv v A zs bs w' v' :=
  h.next (h.pr.keep hb).1 (h.pr.keep hb).2
theorem PrL.drew (h : PrL w g rv v A zs bs wr v') : PrL w g rv v A zs bs wr.drew v' := h.grow (Below.refl _ _).drew
end
theorem PrL.cell {w wr : World} {g : Nat} {rv v v' : Value} {b off : Nat} {zs : List Int} {bs : List UInt8} (h : PrL w g rv v (some ⟨b, off, none⟩) zs bs wr v') (k : Nat) (hk : k < zs.length) : wr.cell? ⟨b, off + k, none⟩ = some (I (zs[k]?.getD 0)) := by
  rcases h.far with h0 | ⟨b2, off2, e, _, _, _, hc⟩
  · omega
  · injection e with e
    injection e with e1 e2
    subst e1 e2
    exact hc k hk
theorem putB_snoc (s : List UInt8) (zs : List Int) (k : Nat) (z : Int) (hz : zs[k]? = some z) : putB s (zs.take (k + 1)) = putB s (zs.take k) ++ (32 :: Lib.itoa z) := by
  unfold putB
  rw [List.take_add_one, hz, List.flatMap_append, ← List.append_assoc]
  simp
theorem putB_len (s : List UInt8) (zs : List Int) (hf : ∀ z ∈ zs, fits z) : (putB s zs).length ≤ s.length + 22 * zs.length := by
  unfold putB
  rw [List.length_append]
  induction zs with
  | nil => simp
  | cons z zs ih =>
    have := ih fun y hy => hf y (List.mem_cons_of_mem _ hy)
    have := itoa_len z (hf z (List.mem_cons_self ..))
    rw [List.flatMap_cons, List.length_append, List.length_cons, List.length_cons]
    omega
theorem take_fits {zs : List Int} (h : ∀ z ∈ zs, fits z) (k : Nat) : ∀ z ∈ zs.take k, fits z := fun z hz => h z (List.mem_of_mem_take hz)
set_option maxRecDepth 10000 in
set_option maxHeartbeats 1000000 in
theorem put_any (w : World) (g : Nat) (rv v : Value) (bs s : List UInt8) (A : Option Addr) (c : Nat) (zs : List Int) (h : PrS w g rv v bs) (ht : Tab10 g w) (hA : IntsFar w g v A zs) (hf : ∀ z ∈ zs, fits z) (hl : bs.length + s.length + 22 * zs.length ≤ 90000000000) (hn : zs.length ≤ 1000) :
    Calls Tryz.prog 98 #[pt g, .string ⟨s.toArray⟩, .slice A zs.length c] w (PrG w g rv v (bs ++ putB s zs)) := by
  obtain ⟨n, hN⟩ : ∃ n, zs.length = n := ⟨_, rfl⟩
  rw [hN] at hl hn ⊢
  have HN := Lib.hid hN
  have HF := Lib.hid hf
  have HL : Hid (PrL w g rv v A zs bs w v) := Lib.hid ⟨h, hA, WKeep.refl _ _ _, ht⟩
  have hc1 := h.c1
  have hss : (⟨s.toArray⟩ : ByteArray).size = s.length := by show s.toArray.size = _; simp
  have HW := Lib.hid (wstr_any w g rv v bs ⟨s.toArray⟩ h (by rw [hss]; omega))
  clear h ht hA hf hN hss
  go_enter Tryz.func98, Tryz.ntmps98
  go_wp2_with fail
  refine HW.out.mono ?_
  rintro e w1 ⟨rfl, v1, hu1, hk1⟩
  have HL1 := Lib.hid (HL.out.next hu1.s hk1)
  clear hu1 hk1 HW HL hc1
  go_wp2_with fail
  go_loopw [15] (fun i wr => ∃ (k : Nat) (v' : Value), k ≤ n ∧ i = I k ∧ PrL w g rv v A zs (bs ++ putB s (zs.take k)) wr v') (fun i _ => n - (intOf i).toNat)
  case atStart => exact ⟨0, v1, Nat.zero_le _, rfl, by rw [List.take_zero]; unfold putB; rw [List.flatMap_nil, List.append_nil]; exact HL1.out⟩
  case round =>
    obtain ⟨k, v2, hk, rfl, hl2⟩ := hrel
    have HL2 := Lib.hid hl2
    clear HL1
    by_cases hlt : k < n
    · have hkz : k < zs.length := by rw [HN.out]; exact hlt
      obtain ⟨b, off, rfl⟩ : ∃ b off, A = some ⟨b, off, none⟩ := by
        rcases HL2.out.far with h0 | ⟨b, off, e, _⟩
        · omega
        · exact ⟨b, off, e⟩
      obtain ⟨z, hz⟩ : ∃ z, zs[k]? = some z := ⟨_, List.getElem?_eq_getElem hkz⟩
      have hcell := HL2.out.cell k hkz
      rw [hz] at hcell
      have hcell : wr.cell? ⟨b, off + k, none⟩ = some (I z) := hcell
      have HFZ : Hid (fits z) := Lib.hid (HF.out z (List.mem_of_getElem? hz))
      have HZ := Lib.hid hz
      have HIL := Lib.hid (itoa_len z HFZ.out)
      have HPL := Lib.hid (putB_len s (zs.take k) (take_fits HF.out k))
      have HD := Lib.hid HL2.out.drew
      have h9 : (9223372036854775807 < 1 + (Lib.itoa z).length) = False := by have := HIL.out; simp; omega
      clear hl2 hz hkz
      go_wp2_with fail
      go_region_law (first
        | (go_simp; go_at_call 130; refine (itoa_b z HFZ.out g _ HD.out.tab).mono ?_; rintro e w5 ⟨rfl, hb5⟩; have HL5 := Lib.hid (HD.out.grow hb5); clear hb5)
        | (go_simp; go_at_call 129; refine (wstr_any _ g rv v2 _ _ HL5.out.pr (by have h1 := HPL.out; have h2 := HIL.out; have h3 := List.length_take_le k zs; have h4 : ((⟨#[32]⟩ : ByteArray) ++ ⟨(Lib.itoa z).toArray⟩).size = 1 + (Lib.itoa z).length := cat_size [32] _; rw [List.length_append, h4]; omega)).mono ?_; rintro e w6 ⟨rfl, v6, hu6, hk6⟩; have HL6 := Lib.hid (HL5.out.next hu6.s hk6); clear hu6 hk6))
      all_goals
        go_wp2_with fail
        go_roundw
        case rel => exact ⟨k + 1, v6, by omega, by go_num, by rw [putB_snoc s zs k z HZ.out, ← List.append_assoc]; have e : ((⟨#[32]⟩ : ByteArray) ++ ⟨(Lib.itoa z).toArray⟩).data.toList = 32 :: Lib.itoa z := cat_list [32] _; rw [← e]; exact HL6.out⟩
        case measure => simp [intOf]; omega
    · have hkn : k = n := by omega
      have HE : Hid (bs ++ putB s (zs.take k) = bs ++ putB s zs) := Lib.hid (by rw [hkn, ← HN.out, List.take_length])
      clear hl2 hkn
      go_wp2_with fail
      go_end0
      rw [← HE.out]
      exact ⟨rfl, v2, HL2.out.pr, HL2.out.keep⟩
end Go.Proofs.YtenbgpcdoljkgaaGreatDoor

/- The printer: a list. -/
namespace Go.Proofs.YtenbgpcdoljkgaaGreatDoor
open Go Go.RowKit

theorem sepB_len (k : Nat) : (sepB k).length ≤ 2 := by unfold sepB; split <;> simp
theorem listTo_len (zs : List Int) (hf : ∀ z ∈ zs, fits z) (k : Nat) (hk : k ≤ zs.length) : (listTo zs k).length ≤ 23 * k := by
  induction k with
  | zero => simp [listTo]
  | succ k ih =>
    have h1 := ih (by omega)
    have h2 := sepB_len k
    obtain ⟨z, hz⟩ : ∃ z, zs[k]? = some z := ⟨_, List.getElem?_eq_getElem (by omega)⟩
    have h3 := itoa_len z (hf z (List.mem_of_getElem? hz))
    unfold listTo
    rw [hz, List.length_append, List.length_append]
    simp only [Option.getD_some]
    omega
theorem listTo_snoc (zs : List Int) (k : Nat) (z : Int) (hz : zs[k]? = some z) : listTo zs (k + 1) = listTo zs k ++ (sepB k ++ Lib.itoa z) := by
  rw [listTo, hz]
  rfl
theorem listB_len (zs : List Int) (hf : ∀ z ∈ zs, fits z) : (listB zs).length ≤ 23 * zs.length + 1 := by
  have := listTo_len zs hf zs.length (Nat.le_refl _)
  unfold listB
  rw [List.length_append, List.length_singleton]
  omega
set_option maxRecDepth 10000 in
set_option maxHeartbeats 1000000 in
theorem list_any (w : World) (g : Nat) (rv v : Value) (bs : List UInt8) (A : Option Addr) (c : Nat) (zs : List Int) (h : PrS w g rv v bs) (ht : Tab10 g w) (hA : IntsFar w g v A zs) (hf : ∀ z ∈ zs, fits z) (hl : bs.length + 23 * zs.length ≤ 90000000000) (hn : zs.length ≤ 1000) :
    Calls Tryz.prog 131 #[pt g, .slice A zs.length c] w (PrG w g rv v (bs ++ listB zs)) := by
  obtain ⟨n, hN⟩ : ∃ n, zs.length = n := ⟨_, rfl⟩
  rw [hN] at hl hn ⊢
  have HN := Lib.hid hN
  have HF := Lib.hid hf
  have HL : Hid (PrL w g rv v A zs bs w v) := Lib.hid ⟨h, hA, WKeep.refl _ _ _, ht⟩
  have hc1 := h.c1
  clear h ht hA hf hN
  go_enter Tryz.func131, Tryz.ntmps131
  go_wp2_with fail
  go_loopw [8] (fun i wr => ∃ (k : Nat) (v' : Value), k ≤ n ∧ i = I k ∧ PrL w g rv v A zs (bs ++ listTo zs k) wr v') (fun i _ => n - (intOf i).toNat)
  case atStart => exact ⟨0, v, Nat.zero_le _, rfl, by unfold listTo; rw [List.append_nil]; exact HL.out⟩
  case round =>
    obtain ⟨k, v2, hk, rfl, hl2⟩ := hrel
    have HL2 := Lib.hid hl2
    clear HL
    by_cases hlt : k < n
    · have hkz : k < zs.length := by rw [HN.out]; exact hlt
      obtain ⟨b, off, rfl⟩ : ∃ b off, A = some ⟨b, off, none⟩ := by
        rcases HL2.out.far with h0 | ⟨b, off, e, _⟩
        · omega
        · exact ⟨b, off, e⟩
      obtain ⟨z, hz⟩ : ∃ z, zs[k]? = some z := ⟨_, List.getElem?_eq_getElem hkz⟩
      have hcell := HL2.out.cell k hkz
      rw [hz] at hcell
      have hcell : wr.cell? ⟨b, off + k, none⟩ = some (I z) := hcell
      have HFZ : Hid (fits z) := Lib.hid (HF.out z (List.mem_of_getElem? hz))
      have HZ := Lib.hid hz
      have HIL := Lib.hid (itoa_len z HFZ.out)
      have HPL := Lib.hid (listTo_len zs HF.out k (by rw [HN.out]; omega))
      have HD := Lib.hid HL2.out.drew
      have h91 : (9223372036854775807 < 1 + (Lib.itoa z).length) = False := by have := HIL.out; simp; omega
      have h92 : (9223372036854775807 < 2 + (Lib.itoa z).length) = False := by have := HIL.out; simp; omega
      clear hl2 hz hkz
      rcases Nat.eq_zero_or_pos k with h0 | h0
      · subst h0
        have hmin : min (0 : Int) 1 = 0 := rfl
        have hcell : wr.cell? ⟨b, off, none⟩ = some (I z) := hcell
        go_wp2_with fail
        go_region_law (first
          | (go_simp; go_at_call 130; first | (refine (itoa_b z HFZ.out g _ HD.out.tab).mono ?_; rintro e w5 ⟨rfl, hb5⟩; have HL5 := Lib.hid (HD.out.grow hb5); clear hb5) | (refine (itoa_b z HFZ.out g _ (HD.out.grow (below_var _ _)).tab).mono ?_; rintro e w5 ⟨rfl, hb5⟩; have hk1 := Row.new wr.drew #[.string ⟨#[32, 40]⟩, .string ⟨#[32]⟩] 9; have hk3 : w5.cell? ⟨wr.heap.size, 0, none⟩ = some (.string ⟨#[32, 40]⟩) := (hk1.keep hb5).2 0; have HL5 := Lib.hid ((HD.out.grow (below_var _ _)).grow hb5); clear hb5))
          | (go_simp; go_at_call 129; first | (refine (wstr_any _ g rv v2 _ _ HL5.out.pr (by have h1 := HPL.out; have h2 := HIL.out; have h4 : ((⟨#[32, 40]⟩ : ByteArray) ++ ⟨(Lib.itoa z).toArray⟩).size = 2 + (Lib.itoa z).length := cat_size [32, 40] _; rw [List.length_append, h4]; omega)).mono ?_; rintro e w6 ⟨rfl, v6, hu6, hk6⟩; have HL6 := Lib.hid (HL5.out.next hu6.s hk6); clear hu6 hk6) | (refine (wstr_any _ g rv v2 _ _ (HL5.out.grow (below_var _ _)).pr (by have h1 := HPL.out; have h2 := HIL.out; have h4 : ((⟨#[32, 40]⟩ : ByteArray) ++ ⟨(Lib.itoa z).toArray⟩).size = 2 + (Lib.itoa z).length := cat_size [32, 40] _; rw [List.length_append, h4]; omega)).mono ?_; rintro e w6 ⟨rfl, v6, hu6, hk6⟩; have HL6 := Lib.hid ((HL5.out.grow (below_var _ _)).next hu6.s hk6); clear hu6 hk6)))
        all_goals
          go_wp2_with fail
          go_roundw
          case rel => exact ⟨1, v6, by omega, rfl, by rw [listTo_snoc zs 0 z HZ.out, ← List.append_assoc]; have e : ((⟨#[32, 40]⟩ : ByteArray) ++ ⟨(Lib.itoa z).toArray⟩).data.toList = sepB 0 ++ Lib.itoa z := cat_list [32, 40] _; rw [← e]; exact HL6.out⟩
          case measure => simp [intOf]; omega
      · have hmin : min (k : Int) 1 = 1 := Int.min_eq_right (by omega)
        have H0 := Lib.hid h0
        go_wp2_with fail
        go_region_law (first
          | (go_simp; go_at_call 130; first | (refine (itoa_b z HFZ.out g _ HD.out.tab).mono ?_; rintro e w5 ⟨rfl, hb5⟩; have HL5 := Lib.hid (HD.out.grow hb5); clear hb5) | (refine (itoa_b z HFZ.out g _ (HD.out.grow (below_var _ _)).tab).mono ?_; rintro e w5 ⟨rfl, hb5⟩; have hk1 := Row.new wr.drew #[.string ⟨#[32, 40]⟩, .string ⟨#[32]⟩] 9; have hk3 : w5.cell? ⟨wr.heap.size, 1, none⟩ = some (.string ⟨#[32]⟩) := (hk1.keep hb5).2 1; have HL5 := Lib.hid ((HD.out.grow (below_var _ _)).grow hb5); clear hb5))
          | (go_simp; go_at_call 129; first | (refine (wstr_any _ g rv v2 _ _ HL5.out.pr (by have h1 := HPL.out; have h2 := HIL.out; have h4 : ((⟨#[32]⟩ : ByteArray) ++ ⟨(Lib.itoa z).toArray⟩).size = 1 + (Lib.itoa z).length := cat_size [32] _; rw [List.length_append, h4]; omega)).mono ?_; rintro e w6 ⟨rfl, v6, hu6, hk6⟩; have HL6 := Lib.hid (HL5.out.next hu6.s hk6); clear hu6 hk6) | (refine (wstr_any _ g rv v2 _ _ (HL5.out.grow (below_var _ _)).pr (by have h1 := HPL.out; have h2 := HIL.out; have h4 : ((⟨#[32]⟩ : ByteArray) ++ ⟨(Lib.itoa z).toArray⟩).size = 1 + (Lib.itoa z).length := cat_size [32] _; rw [List.length_append, h4]; omega)).mono ?_; rintro e w6 ⟨rfl, v6, hu6, hk6⟩; have HL6 := Lib.hid ((HL5.out.grow (below_var _ _)).next hu6.s hk6); clear hu6 hk6)))
        all_goals
          go_wp2_with fail
          go_roundw
          case rel =>
            have e : ((⟨#[32]⟩ : ByteArray) ++ ⟨(Lib.itoa z).toArray⟩).data.toList = sepB k ++ Lib.itoa z := by
              unfold sepB
              rw [if_neg (Nat.ne_of_gt H0.out)]
              exact cat_list [32] _
            refine ⟨k + 1, v6, by omega, by go_num, ?_⟩
            rw [listTo_snoc zs k z HZ.out, ← List.append_assoc, ← e]
            exact HL6.out
          case measure => simp [intOf]; omega
    · have hkn : k = n := by omega
      have HE : Hid (listTo zs k ++ [41] = listB zs) := Lib.hid (by rw [hkn, ← HN.out]; rfl)
      have HPL := Lib.hid (listTo_len zs HF.out k (by rw [HN.out]; omega))
      have HW := Lib.hid (wstr_any wr g rv v2 (bs ++ listTo zs k) ⟨#[41]⟩ hl2.pr (by have := HPL.out; rw [List.length_append]; have : (⟨#[41]⟩ : ByteArray).size = 1 := rfl; omega))
      clear hl2 hkn
      go_wp2_with fail
      refine HW.out.mono ?_
      rintro e w3 ⟨rfl, v3, hu3, hk3⟩
      have HK := Lib.hid (HL2.out.keep.trans hk3)
      have HU := Lib.hid hu3.s
      clear hu3 hk3
      go_wp2_with fail
      go_end0
      rw [← HE.out, ← List.append_assoc]
      exact ⟨rfl, v3, HU.out, HK.out⟩
end Go.Proofs.YtenbgpcdoljkgaaGreatDoor

/- The printer's leaf and suffix, kind by kind. (Printed by gen_gf.py.) -/
namespace Go.Proofs.YtenbgpcdoljkgaaGreatDoor
open Go Go.RowKit

/-- What the printer asks of a node. -/
structure NdPr (d : Nd) : Prop where
  cal : fits d.cal
  n : fits d.n
  m : fits d.m
  lf : ∀ z ∈ d.list, fits z
  ll : d.list.length ≤ 64
  name : d.name.size ≤ 32
theorem NdFit.pr {d : Nd} (h : NdFit d) : NdPr d :=
  ⟨h.nums _ (by simp [ndNums]), h.nums _ (by simp [ndNums]), h.nums _ (by simp [ndNums]), h.list, h.len, h.name⟩
/-- The printer under way, and the box of the node in hand. -/
structure PgS (w : World) (g : Nat) (rv v0 : Value) (b : Nat) (cs : Array Value) (v : Value) (bs : List UInt8) (W : World) : Prop where
  pr : PrS W g rv v bs
  box : Far W g v b cs
  keep : WKeep g v0 w v W
  low : Below g w W
  tab : Tab10 g W
section
variable {w W W' : World} {g b : Nat} {rv v0 v v' : Value} {cs : Array Value} {bs bs' : List UInt8}
theorem PgS.start (h : PrS w g rv v bs) (ht : Tab10 g w) (cs : Array Value) : PgS w g rv v w.heap.size cs v bs (w.alloc (.cells cs 85)) := by
  have hb := below_var w (.cells cs 85)
  obtain ⟨h1, h2⟩ := h.keep hb
  exact ⟨h1, ⟨Row.new w cs _, by have := h.lt; omega, fun e => by have := own_lt h.2 w.heap.size e.symm; omega⟩, h2, h.low h2, ht.keep (h.low h2)⟩
theorem PgS.next (h : PgS w g rv v0 b cs v bs W) (hs : PrS W' g rv v' bs') (hk : WKeep g v W v' W') : PgS w g rv v0 b cs v' bs' W' :=
  ⟨hs, h.box.next hk, h.keep.trans hk, h.low.trans (h.pr.low hk), h.tab.keep (h.pr.low hk)⟩
theorem PgS.grow (h : PgS w g rv v0 b cs v bs W) (hb : Below W.heap.size W W') : PgS w g rv v0 b cs v bs W' := h.next (h.pr.keep hb).1 (h.pr.keep hb).2
/-- put, of numbers in a slice that was just made. -/
theorem PgS.put (h : PgS w g rv v0 b cs v bs W) (s : List UInt8) (zs : List Int) (H m : Nat) (hH : W.heap.size = H) (hm : zs.length = m) (hf : ∀ z ∈ zs, fits z) (hl : bs.length + s.length + 22 * zs.length ≤ 90000000000) (hn : zs.length ≤ 1000) :
    Calls Tryz.prog 98 #[pt g, .string ⟨s.toArray⟩, .slice (some ⟨H, 0, none⟩) m m] (W.alloc (.cells (zs.map I).toArray 3)) fun e W' => e = .returned (.tuple #[]) ∧ ∃ v', PgS w g rv v0 b cs v' (bs ++ putB s zs) W' := by
  subst hH hm
  have hg := h.grow (below_var W (.cells (zs.map I).toArray 3))
  refine (put_any _ g rv v bs s _ zs.length zs hg.pr hg.tab (.inr ⟨W.heap.size, 0, rfl, by simp, by have := h.pr.lt; omega, fun e => by have := own_lt h.pr.2 W.heap.size e.symm; omega, fun j hj => ?_⟩) hf hl hn).mono fun e W' ⟨he, v', h1, h2⟩ => ⟨he, v', hg.next h1 h2⟩
  rw [(Row.new W _ _).2 (0 + j)]
  simp [List.getElem?_eq_getElem hj]
theorem PgS.put0 (h : PgS w g rv v0 b cs v bs W) (s : List UInt8) (hl : bs.length + s.length ≤ 90000000000) :
    Calls Tryz.prog 98 #[pt g, .string ⟨s.toArray⟩, .slice none 0 0] W fun e W' => e = .returned (.tuple #[]) ∧ ∃ v', PgS w g rv v0 b cs v' (bs ++ putB s []) W' :=
  (put_any _ g rv v bs s none 0 [] h.pr h.tab (.inl rfl) (fun z hz => nomatch hz) (by simp; omega) (by simp)).mono fun e W' ⟨he, v', h1, h2⟩ => ⟨he, v', h.next h1 h2⟩
theorem PgS.scope (h : PgS w g rv v0 b cs v bs W) (n : Int) (_hn : n = 0 ∨ n = 1) (hl : bs.length ≤ 89000000000) (W2 : World) (hb : Below W.heap.size W W2) :
    Calls Tryz.prog 98 #[pt g, .string ⟨(scopeB n).toArray⟩, .slice none 0 0] W2 fun e W' => e = .returned (.tuple #[]) ∧ ∃ v', PgS w g rv v0 b cs v' (bs ++ scopeB n) W' := by
  have hs : (scopeB n).length ≤ 10 := by unfold scopeB; split <;> simp
  have h2 := (h.grow hb).put0 (scopeB n) (by omega)
  have e : putB (scopeB n) [] = scopeB n := by simp [putB]
  rw [e] at h2
  exact h2
theorem PgS.list (h : PgS w g rv v0 b cs v bs W) (A : Option Addr) (c : Nat) (zs : List Int) (hA : IntsAt w g A zs) (hf : ∀ z ∈ zs, fits z) (hl : bs.length + 23 * zs.length ≤ 90000000000) (hn : zs.length ≤ 1000) :
    Calls Tryz.prog 131 #[pt g, .slice A zs.length c] W fun e W' => e = .returned (.tuple #[]) ∧ ∃ v', PgS w g rv v0 b cs v' (bs ++ listB zs) W' := by
  refine (list_any W g rv v bs A c zs h.pr h.tab ?_ hf hl hn).mono fun e W' ⟨he, v', h1, h2⟩ => ⟨he, v', h.next h1 h2⟩
  rcases hA.keep h.low with h0 | ⟨b, off, h1, h2, h3⟩
  · exact .inl h0
  · exact .inr ⟨b, off, h1, by have := h.pr.lt; omega, by omega, own_ge h.pr.2 b (by omega), h3⟩
end
attribute [local go_sem] ndCells
set_option maxRecDepth 10000 in
set_option maxHeartbeats 1000000 in
theorem leaf_1 (w : World) (g : Nat) (rv v : Value) (bs : List UInt8) (x : NdV) (d : Nd) (h : PrS w g rv v bs) (ht : Tab10 g w) (hA : IntsAt w g x.A d.list) (hf : NdPr d) (hl : bs.length ≤ 80000000000) (he : d.kind = 1) :
    Calls Tryz.prog 101 #[pt g, .agg (ndCells d x.A x.c)] w (PrG w g rv v (bs ++ leafB d)) := by
  obtain ⟨W0, hW0⟩ : ∃ W, w.alloc (.cells (ndCells d x.A x.c) 85) = W := ⟨_, rfl⟩
  have HP : Hid (PgS w g rv v w.heap.size (ndCells d x.A x.c) v bs W0) := Lib.hid (hW0 ▸ PgS.start h ht _)
  have HA := Lib.hid hA
  have HFT := Lib.hid hf
  have HW0 := Lib.hid hW0
  clear h ht hA hf hW0
  go_enter Tryz.func101, Tryz.ntmps101
  have HE : Hid (leafB d = putB [100, 97, 121, 115] [d.n, d.m]) := Lib.hid (by unfold leafB; simp [he])
  have hbx := HP.out.box.row.2
  have q0 : W0.cell? ⟨w.heap.size, 0, none⟩ = some (I 1) := (hbx 0).trans (congrArg (fun z => some (I z)) he)
  have qn : W0.cell? ⟨w.heap.size, 4, none⟩ = some (I d.n) := hbx 4
  have qm : W0.cell? ⟨w.heap.size, 5, none⟩ = some (I d.m) := hbx 5
  clear hbx
  have HC := Lib.hid (HP.out.put [100, 97, 121, 115] [d.n, d.m] W0.heap.size 2 rfl rfl (by intro z hz; simp only [List.mem_cons, List.not_mem_nil, or_false] at hz; rcases hz with rfl | rfl <;> first | exact HFT.out.cal | exact HFT.out.n | exact HFT.out.m) (by simp; omega) (by simp))
  unfold ndCells at HW0
  clear he
  go_upto_region 1 with fail
  rw [HW0.out]
  go_wp2_with fail
  refine HC.out.mono ?_
  rintro e W1 ⟨rfl, v1, hp1⟩
  have HP1 := Lib.hid hp1
  clear hp1 HC HP
  go_wp2_with fail
  go_end0
  exact ⟨rfl, v1, by rw [HE.out]; exact HP1.out.pr, HP1.out.keep⟩
set_option maxRecDepth 10000 in
set_option maxHeartbeats 1000000 in
theorem leaf_2 (w : World) (g : Nat) (rv v : Value) (bs : List UInt8) (x : NdV) (d : Nd) (h : PrS w g rv v bs) (ht : Tab10 g w) (hA : IntsAt w g x.A d.list) (hf : NdPr d) (hl : bs.length ≤ 80000000000) (he : d.kind = 2) :
    Calls Tryz.prog 101 #[pt g, .agg (ndCells d x.A x.c)] w (PrG w g rv v (bs ++ leafB d)) := by
  obtain ⟨W0, hW0⟩ : ∃ W, w.alloc (.cells (ndCells d x.A x.c) 85) = W := ⟨_, rfl⟩
  have HP : Hid (PgS w g rv v w.heap.size (ndCells d x.A x.c) v bs W0) := Lib.hid (hW0 ▸ PgS.start h ht _)
  have HA := Lib.hid hA
  have HFT := Lib.hid hf
  have HW0 := Lib.hid hW0
  clear h ht hA hf hW0
  go_enter Tryz.func101, Tryz.ntmps101
  have HE : Hid (leafB d = putB [121, 101, 97, 114, 115] [d.cal, d.n, d.m]) := Lib.hid (by unfold leafB; simp [he])
  have hbx := HP.out.box.row.2
  have q0 : W0.cell? ⟨w.heap.size, 0, none⟩ = some (I 2) := (hbx 0).trans (congrArg (fun z => some (I z)) he)
  have qcal : W0.cell? ⟨w.heap.size, 1, none⟩ = some (I d.cal) := hbx 1
  have qn : W0.cell? ⟨w.heap.size, 4, none⟩ = some (I d.n) := hbx 4
  have qm : W0.cell? ⟨w.heap.size, 5, none⟩ = some (I d.m) := hbx 5
  clear hbx
  have HC := Lib.hid (HP.out.put [121, 101, 97, 114, 115] [d.cal, d.n, d.m] W0.heap.size 3 rfl rfl (by intro z hz; simp only [List.mem_cons, List.not_mem_nil, or_false] at hz; rcases hz with rfl | rfl | rfl <;> first | exact HFT.out.cal | exact HFT.out.n | exact HFT.out.m) (by simp; omega) (by simp))
  unfold ndCells at HW0
  clear he
  go_upto_region 1 with fail
  rw [HW0.out]
  go_wp2_with fail
  refine HC.out.mono ?_
  rintro e W1 ⟨rfl, v1, hp1⟩
  have HP1 := Lib.hid hp1
  clear hp1 HC HP
  go_wp2_with fail
  go_end0
  exact ⟨rfl, v1, by rw [HE.out]; exact HP1.out.pr, HP1.out.keep⟩
set_option maxRecDepth 10000 in
set_option maxHeartbeats 1000000 in
theorem leaf_3 (w : World) (g : Nat) (rv v : Value) (bs : List UInt8) (x : NdV) (d : Nd) (h : PrS w g rv v bs) (ht : Tab10 g w) (hA : IntsAt w g x.A d.list) (hf : NdPr d) (hl : bs.length ≤ 80000000000) (he : d.kind = 3) :
    Calls Tryz.prog 101 #[pt g, .agg (ndCells d x.A x.c)] w (PrG w g rv v (bs ++ leafB d)) := by
  obtain ⟨W0, hW0⟩ : ∃ W, w.alloc (.cells (ndCells d x.A x.c) 85) = W := ⟨_, rfl⟩
  have HP : Hid (PgS w g rv v w.heap.size (ndCells d x.A x.c) v bs W0) := Lib.hid (hW0 ▸ PgS.start h ht _)
  have HA := Lib.hid hA
  have HFT := Lib.hid hf
  have HW0 := Lib.hid hW0
  clear h ht hA hf hW0
  go_enter Tryz.func101, Tryz.ntmps101
  have HE : Hid (leafB d = putB [109, 111, 110, 116, 104, 115] [d.cal] ++ listB d.list) := Lib.hid (by unfold leafB; simp [he])
  have hbx := HP.out.box.row.2
  have q0 : W0.cell? ⟨w.heap.size, 0, none⟩ = some (I 3) := (hbx 0).trans (congrArg (fun z => some (I z)) he)
  have qcal : W0.cell? ⟨w.heap.size, 1, none⟩ = some (I d.cal) := hbx 1
  clear hbx
  have HC := Lib.hid (HP.out.put [109, 111, 110, 116, 104, 115] [d.cal] W0.heap.size 1 rfl rfl (by intro z hz; simp only [List.mem_cons, List.not_mem_nil, or_false] at hz; rcases hz with rfl <;> first | exact HFT.out.cal | exact HFT.out.n | exact HFT.out.m) (by simp; omega) (by simp))
  unfold ndCells at HW0
  clear he
  go_upto_region 1 with fail
  rw [HW0.out]
  go_wp2_with fail
  refine HC.out.mono ?_
  rintro e W1 ⟨rfl, v1, hp1⟩
  have hpl : (putB [109, 111, 110, 116, 104, 115] [d.cal]).length ≤ 100 := by have := putB_len [109, 111, 110, 116, 104, 115] [d.cal] (by intro z hz; simp only [List.mem_cons, List.not_mem_nil, or_false] at hz; rcases hz with rfl <;> first | exact HFT.out.cal | exact HFT.out.n | exact HFT.out.m); simp at this ⊢; omega
  obtain ⟨B, hB⟩ : ∃ B, bs ++ putB [109, 111, 110, 116, 104, 115] [d.cal] = B := ⟨_, rfl⟩
  have hBl : B.length ≤ bs.length + 100 := by rw [← hB, List.length_append]; omega
  rw [hB] at hp1
  have HBB := Lib.hid hB
  have HP1 := Lib.hid hp1
  clear hp1 HC HP hB hpl q0 qcal
  have ql : W1.cell? ⟨w.heap.size, 6, none⟩ = some (.slice x.A d.list.length x.c) := HP1.out.box.row.2 6
  have HLS := Lib.hid (HP1.out.list x.A x.c d.list HA.out HFT.out.lf (by have := HFT.out.ll; omega) (by have := HFT.out.ll; omega))
  obtain ⟨N, hN⟩ : ∃ N, d.list.length = N := ⟨_, rfl⟩
  rw [hN] at ql HLS
  clear hN
  go_wp2_with fail
  refine HLS.out.mono ?_
  rintro e W5 ⟨rfl, v5, hp5⟩
  have HP5 := Lib.hid hp5
  clear hp5 HP1
  go_wp2_with fail
  go_end0
  exact ⟨rfl, v5, by rw [HE.out, ← List.append_assoc, HBB.out]; exact HP5.out.pr, HP5.out.keep⟩
set_option maxRecDepth 10000 in
set_option maxHeartbeats 1000000 in
theorem leaf_4 (w : World) (g : Nat) (rv v : Value) (bs : List UInt8) (x : NdV) (d : Nd) (h : PrS w g rv v bs) (ht : Tab10 g w) (hA : IntsAt w g x.A d.list) (hf : NdPr d) (hl : bs.length ≤ 80000000000) (he : d.kind = 4) :
    Calls Tryz.prog 101 #[pt g, .agg (ndCells d x.A x.c)] w (PrG w g rv v (bs ++ leafB d)) := by
  obtain ⟨W0, hW0⟩ : ∃ W, w.alloc (.cells (ndCells d x.A x.c) 85) = W := ⟨_, rfl⟩
  have HP : Hid (PgS w g rv v w.heap.size (ndCells d x.A x.c) v bs W0) := Lib.hid (hW0 ▸ PgS.start h ht _)
  have HA := Lib.hid hA
  have HFT := Lib.hid hf
  have HW0 := Lib.hid hW0
  clear h ht hA hf hW0
  go_enter Tryz.func101, Tryz.ntmps101
  have HE : Hid (leafB d = putB [109, 111, 110, 116, 104, 100, 97, 121, 115] [d.cal] ++ listB d.list) := Lib.hid (by unfold leafB; simp [he])
  have hbx := HP.out.box.row.2
  have q0 : W0.cell? ⟨w.heap.size, 0, none⟩ = some (I 4) := (hbx 0).trans (congrArg (fun z => some (I z)) he)
  have qcal : W0.cell? ⟨w.heap.size, 1, none⟩ = some (I d.cal) := hbx 1
  clear hbx
  have HC := Lib.hid (HP.out.put [109, 111, 110, 116, 104, 100, 97, 121, 115] [d.cal] W0.heap.size 1 rfl rfl (by intro z hz; simp only [List.mem_cons, List.not_mem_nil, or_false] at hz; rcases hz with rfl <;> first | exact HFT.out.cal | exact HFT.out.n | exact HFT.out.m) (by simp; omega) (by simp))
  unfold ndCells at HW0
  clear he
  go_upto_region 1 with fail
  rw [HW0.out]
  go_wp2_with fail
  refine HC.out.mono ?_
  rintro e W1 ⟨rfl, v1, hp1⟩
  have hpl : (putB [109, 111, 110, 116, 104, 100, 97, 121, 115] [d.cal]).length ≤ 100 := by have := putB_len [109, 111, 110, 116, 104, 100, 97, 121, 115] [d.cal] (by intro z hz; simp only [List.mem_cons, List.not_mem_nil, or_false] at hz; rcases hz with rfl <;> first | exact HFT.out.cal | exact HFT.out.n | exact HFT.out.m); simp at this ⊢; omega
  obtain ⟨B, hB⟩ : ∃ B, bs ++ putB [109, 111, 110, 116, 104, 100, 97, 121, 115] [d.cal] = B := ⟨_, rfl⟩
  have hBl : B.length ≤ bs.length + 100 := by rw [← hB, List.length_append]; omega
  rw [hB] at hp1
  have HBB := Lib.hid hB
  have HP1 := Lib.hid hp1
  clear hp1 HC HP hB hpl q0 qcal
  have ql : W1.cell? ⟨w.heap.size, 6, none⟩ = some (.slice x.A d.list.length x.c) := HP1.out.box.row.2 6
  have HLS := Lib.hid (HP1.out.list x.A x.c d.list HA.out HFT.out.lf (by have := HFT.out.ll; omega) (by have := HFT.out.ll; omega))
  obtain ⟨N, hN⟩ : ∃ N, d.list.length = N := ⟨_, rfl⟩
  rw [hN] at ql HLS
  clear hN
  go_wp2_with fail
  refine HLS.out.mono ?_
  rintro e W5 ⟨rfl, v5, hp5⟩
  have HP5 := Lib.hid hp5
  clear hp5 HP1
  go_wp2_with fail
  go_end0
  exact ⟨rfl, v5, by rw [HE.out, ← List.append_assoc, HBB.out]; exact HP5.out.pr, HP5.out.keep⟩
set_option maxRecDepth 10000 in
set_option maxHeartbeats 1000000 in
theorem leaf_5 (w : World) (g : Nat) (rv v : Value) (bs : List UInt8) (x : NdV) (d : Nd) (h : PrS w g rv v bs) (ht : Tab10 g w) (hA : IntsAt w g x.A d.list) (hf : NdPr d) (hl : bs.length ≤ 80000000000) (he : d.kind = 5) :
    Calls Tryz.prog 101 #[pt g, .agg (ndCells d x.A x.c)] w (PrG w g rv v (bs ++ leafB d)) := by
  obtain ⟨W0, hW0⟩ : ∃ W, w.alloc (.cells (ndCells d x.A x.c) 85) = W := ⟨_, rfl⟩
  have HP : Hid (PgS w g rv v w.heap.size (ndCells d x.A x.c) v bs W0) := Lib.hid (hW0 ▸ PgS.start h ht _)
  have HA := Lib.hid hA
  have HFT := Lib.hid hf
  have HW0 := Lib.hid hW0
  clear h ht hA hf hW0
  go_enter Tryz.func101, Tryz.ntmps101
  have HE : Hid (leafB d = putB [119, 101, 101, 107, 100, 97, 121, 115] [] ++ listB d.list) := Lib.hid (by unfold leafB; simp [he])
  have hbx := HP.out.box.row.2
  have q0 : W0.cell? ⟨w.heap.size, 0, none⟩ = some (I 5) := (hbx 0).trans (congrArg (fun z => some (I z)) he)
  clear hbx
  have HC := Lib.hid (HP.out.put0 [119, 101, 101, 107, 100, 97, 121, 115] (by simp; omega))
  unfold ndCells at HW0
  clear he
  go_upto_region 1 with fail
  rw [HW0.out]
  go_wp2_with fail
  refine HC.out.mono ?_
  rintro e W1 ⟨rfl, v1, hp1⟩
  have hpl : (putB [119, 101, 101, 107, 100, 97, 121, 115] []).length ≤ 100 := by simp [putB]
  obtain ⟨B, hB⟩ : ∃ B, bs ++ putB [119, 101, 101, 107, 100, 97, 121, 115] [] = B := ⟨_, rfl⟩
  have hBl : B.length ≤ bs.length + 100 := by rw [← hB, List.length_append]; omega
  rw [hB] at hp1
  have HBB := Lib.hid hB
  have HP1 := Lib.hid hp1
  clear hp1 HC HP hB hpl q0 
  have ql : W1.cell? ⟨w.heap.size, 6, none⟩ = some (.slice x.A d.list.length x.c) := HP1.out.box.row.2 6
  have HLS := Lib.hid (HP1.out.list x.A x.c d.list HA.out HFT.out.lf (by have := HFT.out.ll; omega) (by have := HFT.out.ll; omega))
  obtain ⟨N, hN⟩ : ∃ N, d.list.length = N := ⟨_, rfl⟩
  rw [hN] at ql HLS
  clear hN
  go_wp2_with fail
  refine HLS.out.mono ?_
  rintro e W5 ⟨rfl, v5, hp5⟩
  have HP5 := Lib.hid hp5
  clear hp5 HP1
  go_wp2_with fail
  go_end0
  exact ⟨rfl, v5, by rw [HE.out, ← List.append_assoc, HBB.out]; exact HP5.out.pr, HP5.out.keep⟩
set_option maxRecDepth 10000 in
set_option maxHeartbeats 1000000 in
theorem leaf_6 (w : World) (g : Nat) (rv v : Value) (bs : List UInt8) (x : NdV) (d : Nd) (h : PrS w g rv v bs) (ht : Tab10 g w) (hA : IntsAt w g x.A d.list) (hf : NdPr d) (hl : bs.length ≤ 80000000000) (he : d.kind = 6) :
    Calls Tryz.prog 101 #[pt g, .agg (ndCells d x.A x.c)] w (PrG w g rv v (bs ++ leafB d)) := by
  obtain ⟨W0, hW0⟩ : ∃ W, w.alloc (.cells (ndCells d x.A x.c) 85) = W := ⟨_, rfl⟩
  have HP : Hid (PgS w g rv v w.heap.size (ndCells d x.A x.c) v bs W0) := Lib.hid (hW0 ▸ PgS.start h ht _)
  have HA := Lib.hid hA
  have HFT := Lib.hid hf
  have HW0 := Lib.hid hW0
  clear h ht hA hf hW0
  go_enter Tryz.func101, Tryz.ntmps101
  have HE : Hid (leafB d = putB [119, 101, 101, 107, 115] [d.cal] ++ listB d.list) := Lib.hid (by unfold leafB; simp [he])
  have hbx := HP.out.box.row.2
  have q0 : W0.cell? ⟨w.heap.size, 0, none⟩ = some (I 6) := (hbx 0).trans (congrArg (fun z => some (I z)) he)
  have qcal : W0.cell? ⟨w.heap.size, 1, none⟩ = some (I d.cal) := hbx 1
  clear hbx
  have HC := Lib.hid (HP.out.put [119, 101, 101, 107, 115] [d.cal] W0.heap.size 1 rfl rfl (by intro z hz; simp only [List.mem_cons, List.not_mem_nil, or_false] at hz; rcases hz with rfl <;> first | exact HFT.out.cal | exact HFT.out.n | exact HFT.out.m) (by simp; omega) (by simp))
  unfold ndCells at HW0
  clear he
  go_upto_region 1 with fail
  rw [HW0.out]
  go_wp2_with fail
  refine HC.out.mono ?_
  rintro e W1 ⟨rfl, v1, hp1⟩
  have hpl : (putB [119, 101, 101, 107, 115] [d.cal]).length ≤ 100 := by have := putB_len [119, 101, 101, 107, 115] [d.cal] (by intro z hz; simp only [List.mem_cons, List.not_mem_nil, or_false] at hz; rcases hz with rfl <;> first | exact HFT.out.cal | exact HFT.out.n | exact HFT.out.m); simp at this ⊢; omega
  obtain ⟨B, hB⟩ : ∃ B, bs ++ putB [119, 101, 101, 107, 115] [d.cal] = B := ⟨_, rfl⟩
  have hBl : B.length ≤ bs.length + 100 := by rw [← hB, List.length_append]; omega
  rw [hB] at hp1
  have HBB := Lib.hid hB
  have HP1 := Lib.hid hp1
  clear hp1 HC HP hB hpl q0 qcal
  have ql : W1.cell? ⟨w.heap.size, 6, none⟩ = some (.slice x.A d.list.length x.c) := HP1.out.box.row.2 6
  have HLS := Lib.hid (HP1.out.list x.A x.c d.list HA.out HFT.out.lf (by have := HFT.out.ll; omega) (by have := HFT.out.ll; omega))
  obtain ⟨N, hN⟩ : ∃ N, d.list.length = N := ⟨_, rfl⟩
  rw [hN] at ql HLS
  clear hN
  go_wp2_with fail
  refine HLS.out.mono ?_
  rintro e W5 ⟨rfl, v5, hp5⟩
  have HP5 := Lib.hid hp5
  clear hp5 HP1
  go_wp2_with fail
  go_end0
  exact ⟨rfl, v5, by rw [HE.out, ← List.append_assoc, HBB.out]; exact HP5.out.pr, HP5.out.keep⟩
set_option maxRecDepth 10000 in
set_option maxHeartbeats 1000000 in
theorem leaf_7 (w : World) (g : Nat) (rv v : Value) (bs : List UInt8) (x : NdV) (d : Nd) (h : PrS w g rv v bs) (ht : Tab10 g w) (hA : IntsAt w g x.A d.list) (hf : NdPr d) (hl : bs.length ≤ 80000000000) (he : d.kind = 7) (hsc : d.l = 0 ∨ d.l = 1) :
    Calls Tryz.prog 101 #[pt g, .agg (ndCells d x.A x.c)] w (PrG w g rv v (bs ++ leafB d)) := by
  obtain ⟨W0, hW0⟩ : ∃ W, w.alloc (.cells (ndCells d x.A x.c) 85) = W := ⟨_, rfl⟩
  have HP : Hid (PgS w g rv v w.heap.size (ndCells d x.A x.c) v bs W0) := Lib.hid (hW0 ▸ PgS.start h ht _)
  have HA := Lib.hid hA
  have HFT := Lib.hid hf
  have HSC := Lib.hid hsc
  have HW0 := Lib.hid hW0
  clear h ht hA hf hW0 hsc
  go_enter Tryz.func101, Tryz.ntmps101
  have HE : Hid (leafB d = putB [110, 116, 104] [d.cal, d.n, d.m] ++ scopeB d.l) := Lib.hid (by unfold leafB; simp [he])
  have hbx := HP.out.box.row.2
  have q0 : W0.cell? ⟨w.heap.size, 0, none⟩ = some (I 7) := (hbx 0).trans (congrArg (fun z => some (I z)) he)
  have qcal : W0.cell? ⟨w.heap.size, 1, none⟩ = some (I d.cal) := hbx 1
  have qn : W0.cell? ⟨w.heap.size, 4, none⟩ = some (I d.n) := hbx 4
  have qm : W0.cell? ⟨w.heap.size, 5, none⟩ = some (I d.m) := hbx 5
  clear hbx
  have HC := Lib.hid (HP.out.put [110, 116, 104] [d.cal, d.n, d.m] W0.heap.size 3 rfl rfl (by intro z hz; simp only [List.mem_cons, List.not_mem_nil, or_false] at hz; rcases hz with rfl | rfl | rfl <;> first | exact HFT.out.cal | exact HFT.out.n | exact HFT.out.m) (by simp; omega) (by simp))
  unfold ndCells at HW0
  clear he
  go_upto_region 1 with fail
  rw [HW0.out]
  go_wp2_with fail
  refine HC.out.mono ?_
  rintro e W1 ⟨rfl, v1, hp1⟩
  have hpl : (putB [110, 116, 104] [d.cal, d.n, d.m]).length ≤ 100 := by have := putB_len [110, 116, 104] [d.cal, d.n, d.m] (by intro z hz; simp only [List.mem_cons, List.not_mem_nil, or_false] at hz; rcases hz with rfl | rfl | rfl <;> first | exact HFT.out.cal | exact HFT.out.n | exact HFT.out.m); simp at this ⊢; omega
  obtain ⟨B, hB⟩ : ∃ B, bs ++ putB [110, 116, 104] [d.cal, d.n, d.m] = B := ⟨_, rfl⟩
  have hBl : B.length ≤ bs.length + 100 := by rw [← hB, List.length_append]; omega
  rw [hB] at hp1
  have HBB := Lib.hid hB
  have HP1 := Lib.hid hp1
  clear hp1 HC HP hB hpl q0 qcal qn qm
  have qs : W1.cell? ⟨w.heap.size, 2, none⟩ = some (I d.l) := HP1.out.box.row.2 2
  have hsc := HSC.out
  have HSP := Lib.hid (HP1.out.scope d.l hsc (by omega))
  clear hsc
  go_wp2_with (go_at_call 132; refine (scope_any d.l HSC.out _).mono ?_; rintro e W2 ⟨rfl, hb2⟩; have HB2 := Lib.hid hb2; clear hb2)
  refine (HSP.out _ HB2.out).mono ?_
  rintro e W3 ⟨rfl, v3, hp3⟩
  have HP3 := Lib.hid hp3
  clear hp3 HP1
  go_wp2_with fail
  go_end0
  exact ⟨rfl, v3, by rw [HE.out, ← List.append_assoc, HBB.out]; exact HP3.out.pr, HP3.out.keep⟩
set_option maxRecDepth 10000 in
set_option maxHeartbeats 1000000 in
theorem suffix_11 (w : World) (g : Nat) (rv v : Value) (bs : List UInt8) (x : NdV) (d : Nd) (h : PrS w g rv v bs) (ht : Tab10 g w) (hA : IntsAt w g x.A d.list) (hf : NdPr d) (hl : bs.length ≤ 80000000000) (he : d.kind = 11) :
    Calls Tryz.prog 100 #[pt g, .agg (ndCells d x.A x.c)] w (PrG w g rv v (bs ++ sufB d)) := by
  obtain ⟨W0, hW0⟩ : ∃ W, w.alloc (.cells (ndCells d x.A x.c) 85) = W := ⟨_, rfl⟩
  have HP : Hid (PgS w g rv v w.heap.size (ndCells d x.A x.c) v bs W0) := Lib.hid (hW0 ▸ PgS.start h ht _)
  have HA := Lib.hid hA
  have HFT := Lib.hid hf
  have HW0 := Lib.hid hW0
  clear h ht hA hf hW0
  go_enter Tryz.func100, Tryz.ntmps100
  have HE : Hid (sufB d = putB [32, 115, 104, 105, 102, 116] [d.n]) := Lib.hid (by unfold sufB; simp [he])
  have hbx := HP.out.box.row.2
  have q0 : W0.cell? ⟨w.heap.size, 0, none⟩ = some (I 11) := (hbx 0).trans (congrArg (fun z => some (I z)) he)
  have qn : W0.cell? ⟨w.heap.size, 4, none⟩ = some (I d.n) := hbx 4
  clear hbx
  have HC := Lib.hid (HP.out.put [32, 115, 104, 105, 102, 116] [d.n] W0.heap.size 1 rfl rfl (by intro z hz; simp only [List.mem_cons, List.not_mem_nil, or_false] at hz; rcases hz with rfl <;> first | exact HFT.out.cal | exact HFT.out.n | exact HFT.out.m) (by simp; omega) (by simp))
  unfold ndCells at HW0
  clear he
  go_upto_region 1 with fail
  rw [HW0.out]
  go_wp2_with fail
  refine HC.out.mono ?_
  rintro e W1 ⟨rfl, v1, hp1⟩
  have HP1 := Lib.hid hp1
  clear hp1 HC HP
  go_wp2_with fail
  go_end0
  exact ⟨rfl, v1, by rw [HE.out]; exact HP1.out.pr, HP1.out.keep⟩
set_option maxRecDepth 10000 in
set_option maxHeartbeats 1000000 in
theorem suffix_12 (w : World) (g : Nat) (rv v : Value) (bs : List UInt8) (x : NdV) (d : Nd) (h : PrS w g rv v bs) (ht : Tab10 g w) (hA : IntsAt w g x.A d.list) (hf : NdPr d) (hl : bs.length ≤ 80000000000) (he : d.kind = 12) :
    Calls Tryz.prog 100 #[pt g, .agg (ndCells d x.A x.c)] w (PrG w g rv v (bs ++ sufB d)) := by
  obtain ⟨W0, hW0⟩ : ∃ W, w.alloc (.cells (ndCells d x.A x.c) 85) = W := ⟨_, rfl⟩
  have HP : Hid (PgS w g rv v w.heap.size (ndCells d x.A x.c) v bs W0) := Lib.hid (hW0 ▸ PgS.start h ht _)
  have HA := Lib.hid hA
  have HFT := Lib.hid hf
  have HW0 := Lib.hid hW0
  clear h ht hA hf hW0
  go_enter Tryz.func100, Tryz.ntmps100
  have HE : Hid (sufB d = putB [32, 102, 114, 111, 109] [d.n]) := Lib.hid (by unfold sufB; simp [he])
  have hbx := HP.out.box.row.2
  have q0 : W0.cell? ⟨w.heap.size, 0, none⟩ = some (I 12) := (hbx 0).trans (congrArg (fun z => some (I z)) he)
  have qn : W0.cell? ⟨w.heap.size, 4, none⟩ = some (I d.n) := hbx 4
  clear hbx
  have HC := Lib.hid (HP.out.put [32, 102, 114, 111, 109] [d.n] W0.heap.size 1 rfl rfl (by intro z hz; simp only [List.mem_cons, List.not_mem_nil, or_false] at hz; rcases hz with rfl <;> first | exact HFT.out.cal | exact HFT.out.n | exact HFT.out.m) (by simp; omega) (by simp))
  unfold ndCells at HW0
  clear he
  go_upto_region 1 with fail
  rw [HW0.out]
  go_wp2_with fail
  refine HC.out.mono ?_
  rintro e W1 ⟨rfl, v1, hp1⟩
  have HP1 := Lib.hid hp1
  clear hp1 HC HP
  go_wp2_with fail
  go_end0
  exact ⟨rfl, v1, by rw [HE.out]; exact HP1.out.pr, HP1.out.keep⟩
set_option maxRecDepth 10000 in
set_option maxHeartbeats 1000000 in
theorem suffix_13 (w : World) (g : Nat) (rv v : Value) (bs : List UInt8) (x : NdV) (d : Nd) (h : PrS w g rv v bs) (ht : Tab10 g w) (hA : IntsAt w g x.A d.list) (hf : NdPr d) (hl : bs.length ≤ 80000000000) (he : d.kind = 13) :
    Calls Tryz.prog 100 #[pt g, .agg (ndCells d x.A x.c)] w (PrG w g rv v (bs ++ sufB d)) := by
  obtain ⟨W0, hW0⟩ : ∃ W, w.alloc (.cells (ndCells d x.A x.c) 85) = W := ⟨_, rfl⟩
  have HP : Hid (PgS w g rv v w.heap.size (ndCells d x.A x.c) v bs W0) := Lib.hid (hW0 ▸ PgS.start h ht _)
  have HA := Lib.hid hA
  have HFT := Lib.hid hf
  have HW0 := Lib.hid hW0
  clear h ht hA hf hW0
  go_enter Tryz.func100, Tryz.ntmps100
  have HE : Hid (sufB d = putB [32, 117, 110, 116, 105, 108] [d.n]) := Lib.hid (by unfold sufB; simp [he])
  have hbx := HP.out.box.row.2
  have q0 : W0.cell? ⟨w.heap.size, 0, none⟩ = some (I 13) := (hbx 0).trans (congrArg (fun z => some (I z)) he)
  have qn : W0.cell? ⟨w.heap.size, 4, none⟩ = some (I d.n) := hbx 4
  clear hbx
  have HC := Lib.hid (HP.out.put [32, 117, 110, 116, 105, 108] [d.n] W0.heap.size 1 rfl rfl (by intro z hz; simp only [List.mem_cons, List.not_mem_nil, or_false] at hz; rcases hz with rfl <;> first | exact HFT.out.cal | exact HFT.out.n | exact HFT.out.m) (by simp; omega) (by simp))
  unfold ndCells at HW0
  clear he
  go_upto_region 1 with fail
  rw [HW0.out]
  go_wp2_with fail
  refine HC.out.mono ?_
  rintro e W1 ⟨rfl, v1, hp1⟩
  have HP1 := Lib.hid hp1
  clear hp1 HC HP
  go_wp2_with fail
  go_end0
  exact ⟨rfl, v1, by rw [HE.out]; exact HP1.out.pr, HP1.out.keep⟩
set_option maxRecDepth 10000 in
set_option maxHeartbeats 1000000 in
theorem suffix_14 (w : World) (g : Nat) (rv v : Value) (bs : List UInt8) (x : NdV) (d : Nd) (h : PrS w g rv v bs) (ht : Tab10 g w) (hA : IntsAt w g x.A d.list) (hf : NdPr d) (hl : bs.length ≤ 80000000000) (he : d.kind = 14) :
    Calls Tryz.prog 100 #[pt g, .agg (ndCells d x.A x.c)] w (PrG w g rv v (bs ++ sufB d)) := by
  obtain ⟨W0, hW0⟩ : ∃ W, w.alloc (.cells (ndCells d x.A x.c) 85) = W := ⟨_, rfl⟩
  have HP : Hid (PgS w g rv v w.heap.size (ndCells d x.A x.c) v bs W0) := Lib.hid (hW0 ▸ PgS.start h ht _)
  have HA := Lib.hid hA
  have HFT := Lib.hid hf
  have HW0 := Lib.hid hW0
  clear h ht hA hf hW0
  go_enter Tryz.func100, Tryz.ntmps100
  have HE : Hid (sufB d = putB [32, 97, 108, 115, 111] [] ++ listB d.list) := Lib.hid (by unfold sufB; simp [he])
  have hbx := HP.out.box.row.2
  have q0 : W0.cell? ⟨w.heap.size, 0, none⟩ = some (I 14) := (hbx 0).trans (congrArg (fun z => some (I z)) he)
  clear hbx
  have HC := Lib.hid (HP.out.put0 [32, 97, 108, 115, 111] (by simp; omega))
  unfold ndCells at HW0
  clear he
  go_upto_region 1 with fail
  rw [HW0.out]
  go_wp2_with fail
  refine HC.out.mono ?_
  rintro e W1 ⟨rfl, v1, hp1⟩
  have hpl : (putB [32, 97, 108, 115, 111] []).length ≤ 100 := by simp [putB]
  obtain ⟨B, hB⟩ : ∃ B, bs ++ putB [32, 97, 108, 115, 111] [] = B := ⟨_, rfl⟩
  have hBl : B.length ≤ bs.length + 100 := by rw [← hB, List.length_append]; omega
  rw [hB] at hp1
  have HBB := Lib.hid hB
  have HP1 := Lib.hid hp1
  clear hp1 HC HP hB hpl q0 
  have ql : W1.cell? ⟨w.heap.size, 6, none⟩ = some (.slice x.A d.list.length x.c) := HP1.out.box.row.2 6
  have HLS := Lib.hid (HP1.out.list x.A x.c d.list HA.out HFT.out.lf (by have := HFT.out.ll; omega) (by have := HFT.out.ll; omega))
  obtain ⟨N, hN⟩ : ∃ N, d.list.length = N := ⟨_, rfl⟩
  rw [hN] at ql HLS
  clear hN
  go_wp2_with fail
  refine HLS.out.mono ?_
  rintro e W5 ⟨rfl, v5, hp5⟩
  have HP5 := Lib.hid hp5
  clear hp5 HP1
  go_wp2_with fail
  go_end0
  exact ⟨rfl, v5, by rw [HE.out, ← List.append_assoc, HBB.out]; exact HP5.out.pr, HP5.out.keep⟩
set_option maxRecDepth 10000 in
set_option maxHeartbeats 1000000 in
theorem suffix_15 (w : World) (g : Nat) (rv v : Value) (bs : List UInt8) (x : NdV) (d : Nd) (h : PrS w g rv v bs) (ht : Tab10 g w) (hA : IntsAt w g x.A d.list) (hf : NdPr d) (hl : bs.length ≤ 80000000000) (he : d.kind = 15) :
    Calls Tryz.prog 100 #[pt g, .agg (ndCells d x.A x.c)] w (PrG w g rv v (bs ++ sufB d)) := by
  obtain ⟨W0, hW0⟩ : ∃ W, w.alloc (.cells (ndCells d x.A x.c) 85) = W := ⟨_, rfl⟩
  have HP : Hid (PgS w g rv v w.heap.size (ndCells d x.A x.c) v bs W0) := Lib.hid (hW0 ▸ PgS.start h ht _)
  have HA := Lib.hid hA
  have HFT := Lib.hid hf
  have HW0 := Lib.hid hW0
  clear h ht hA hf hW0
  go_enter Tryz.func100, Tryz.ntmps100
  have HE : Hid (sufB d = putB [32, 101, 120, 99, 101, 112, 116] [] ++ listB d.list) := Lib.hid (by unfold sufB; simp [he])
  have hbx := HP.out.box.row.2
  have q0 : W0.cell? ⟨w.heap.size, 0, none⟩ = some (I 15) := (hbx 0).trans (congrArg (fun z => some (I z)) he)
  clear hbx
  have HC := Lib.hid (HP.out.put0 [32, 101, 120, 99, 101, 112, 116] (by simp; omega))
  unfold ndCells at HW0
  clear he
  go_upto_region 1 with fail
  rw [HW0.out]
  go_wp2_with fail
  refine HC.out.mono ?_
  rintro e W1 ⟨rfl, v1, hp1⟩
  have hpl : (putB [32, 101, 120, 99, 101, 112, 116] []).length ≤ 100 := by simp [putB]
  obtain ⟨B, hB⟩ : ∃ B, bs ++ putB [32, 101, 120, 99, 101, 112, 116] [] = B := ⟨_, rfl⟩
  have hBl : B.length ≤ bs.length + 100 := by rw [← hB, List.length_append]; omega
  rw [hB] at hp1
  have HBB := Lib.hid hB
  have HP1 := Lib.hid hp1
  clear hp1 HC HP hB hpl q0 
  have ql : W1.cell? ⟨w.heap.size, 6, none⟩ = some (.slice x.A d.list.length x.c) := HP1.out.box.row.2 6
  have HLS := Lib.hid (HP1.out.list x.A x.c d.list HA.out HFT.out.lf (by have := HFT.out.ll; omega) (by have := HFT.out.ll; omega))
  obtain ⟨N, hN⟩ : ∃ N, d.list.length = N := ⟨_, rfl⟩
  rw [hN] at ql HLS
  clear hN
  go_wp2_with fail
  refine HLS.out.mono ?_
  rintro e W5 ⟨rfl, v5, hp5⟩
  have HP5 := Lib.hid hp5
  clear hp5 HP1
  go_wp2_with fail
  go_end0
  exact ⟨rfl, v5, by rw [HE.out, ← List.append_assoc, HBB.out]; exact HP5.out.pr, HP5.out.keep⟩
set_option maxRecDepth 10000 in
set_option maxHeartbeats 1000000 in
theorem suffix_16 (w : World) (g : Nat) (rv v : Value) (bs : List UInt8) (x : NdV) (d : Nd) (h : PrS w g rv v bs) (ht : Tab10 g w) (hA : IntsAt w g x.A d.list) (hf : NdPr d) (hl : bs.length ≤ 80000000000) (he : d.kind = 16) (hsc : d.m = 0 ∨ d.m = 1) :
    Calls Tryz.prog 100 #[pt g, .agg (ndCells d x.A x.c)] w (PrG w g rv v (bs ++ sufB d)) := by
  obtain ⟨W0, hW0⟩ : ∃ W, w.alloc (.cells (ndCells d x.A x.c) 85) = W := ⟨_, rfl⟩
  have HP : Hid (PgS w g rv v w.heap.size (ndCells d x.A x.c) v bs W0) := Lib.hid (hW0 ▸ PgS.start h ht _)
  have HA := Lib.hid hA
  have HFT := Lib.hid hf
  have HSC := Lib.hid hsc
  have HW0 := Lib.hid hW0
  clear h ht hA hf hW0 hsc
  go_enter Tryz.func100, Tryz.ntmps100
  have HE : Hid (sufB d = putB [32, 112, 111, 115] [d.cal] ++ (scopeB d.m ++ listB d.list)) := Lib.hid (by unfold sufB; simp [he])
  have hbx := HP.out.box.row.2
  have q0 : W0.cell? ⟨w.heap.size, 0, none⟩ = some (I 16) := (hbx 0).trans (congrArg (fun z => some (I z)) he)
  have qcal : W0.cell? ⟨w.heap.size, 1, none⟩ = some (I d.cal) := hbx 1
  clear hbx
  have HC := Lib.hid (HP.out.put [32, 112, 111, 115] [d.cal] W0.heap.size 1 rfl rfl (by intro z hz; simp only [List.mem_cons, List.not_mem_nil, or_false] at hz; rcases hz with rfl <;> first | exact HFT.out.cal | exact HFT.out.n | exact HFT.out.m) (by simp; omega) (by simp))
  unfold ndCells at HW0
  clear he
  go_upto_region 1 with fail
  rw [HW0.out]
  go_wp2_with fail
  refine HC.out.mono ?_
  rintro e W1 ⟨rfl, v1, hp1⟩
  have hpl : (putB [32, 112, 111, 115] [d.cal]).length ≤ 100 := by have := putB_len [32, 112, 111, 115] [d.cal] (by intro z hz; simp only [List.mem_cons, List.not_mem_nil, or_false] at hz; rcases hz with rfl <;> first | exact HFT.out.cal | exact HFT.out.n | exact HFT.out.m); simp at this ⊢; omega
  obtain ⟨B, hB⟩ : ∃ B, bs ++ putB [32, 112, 111, 115] [d.cal] = B := ⟨_, rfl⟩
  have hBl : B.length ≤ bs.length + 100 := by rw [← hB, List.length_append]; omega
  rw [hB] at hp1
  have HBB := Lib.hid hB
  have HP1 := Lib.hid hp1
  clear hp1 HC HP hB hpl q0 qcal
  have qs : W1.cell? ⟨w.heap.size, 5, none⟩ = some (I d.m) := HP1.out.box.row.2 5
  have hsc := HSC.out
  have HSP := Lib.hid (HP1.out.scope d.m hsc (by omega))
  clear hsc
  go_wp2_with (go_at_call 132; refine (scope_any d.m HSC.out _).mono ?_; rintro e W2 ⟨rfl, hb2⟩; have HB2 := Lib.hid hb2; clear hb2)
  refine (HSP.out _ HB2.out).mono ?_
  rintro e W3 ⟨rfl, v3, hp3⟩
  obtain ⟨B3, hB3⟩ : ∃ B3, B ++ scopeB d.m = B3 := ⟨_, rfl⟩
  have h10 : (scopeB d.m).length ≤ 10 := by unfold scopeB; split <;> simp
  have hBl3 : B3.length ≤ bs.length + 200 := by rw [← hB3, List.length_append]; omega
  clear h10
  rw [hB3] at hp3
  have HBB3 := Lib.hid hB3
  have HP3 := Lib.hid hp3
  clear hp3 HP1 hB3 qs
  have ql : W3.cell? ⟨w.heap.size, 6, none⟩ = some (.slice x.A d.list.length x.c) := HP3.out.box.row.2 6
  have HLS := Lib.hid (HP3.out.list x.A x.c d.list HA.out HFT.out.lf (by have := HFT.out.ll; omega) (by have := HFT.out.ll; omega))
  obtain ⟨N, hN⟩ : ∃ N, d.list.length = N := ⟨_, rfl⟩
  rw [hN] at ql HLS
  clear hN
  go_wp2_with fail
  refine HLS.out.mono ?_
  rintro e W5 ⟨rfl, v5, hp5⟩
  have HP5 := Lib.hid hp5
  clear hp5 HP3
  go_wp2_with fail
  go_end0
  exact ⟨rfl, v5, by rw [HE.out, ← List.append_assoc, ← List.append_assoc, HBB.out, HBB3.out]; exact HP5.out.pr, HP5.out.keep⟩
end Go.Proofs.YtenbgpcdoljkgaaGreatDoor

/- The printer: operand; leaf and suffix of any node. -/
namespace Go.Proofs.YtenbgpcdoljkgaaGreatDoor
open Go Go.RowKit

theorem cat_bytes (a b : List UInt8) : (⟨a.toArray⟩ : ByteArray) ++ (⟨b.toArray⟩ : ByteArray) = ⟨(a ++ b).toArray⟩ := by
  apply ByteArray.ext
  simp
theorem bytes_eta (s : ByteArray) : s = ⟨s.data.toList.toArray⟩ := by
  obtain ⟨a⟩ := s
  simp
/-- The contract of node at an index, with fuel. -/
def NdC (ns : List NdV) (A : Option Addr) (n c f j : Nat) : Prop :=
  ∀ (w : World) (g : Nat) (v : Value) (bs : List UInt8), PrS w g (.slice A n c) v bs → Tab10 g w → RulesAt w g A ns → bs.length + (ndTxt (ns.map (·.d)) f j).length ≤ 70000000000 →
    Calls Tryz.prog 67 #[pt g, I j] w (PrG w g (.slice A n c) v (bs ++ ndTxt (ns.map (·.d)) f j))
theorem nd_at {w : World} {g : Nat} {A : Option Addr} {ns : List NdV} {n j : Nat} (hA : RulesAt w g A ns) (hl : ns.length = n) (hj : j < n) :
    ∃ b x, A = some ⟨b, 0, none⟩ ∧ ns[j]? = some x ∧ b < g ∧ w.rangeAt b (j * 8) (ndCells x.d x.A x.c).toList ∧ IntsAt w g x.A x.d.list := by
  rcases hA with h | ⟨b, h1, h2, h3⟩
  · omega
  have hx : ns[j]? = some ns[j] := List.getElem?_eq_getElem (by omega)
  obtain ⟨p1, p2, _⟩ := h3 j _ hx
  exact ⟨b, ns[j], h1, hx, h2, p1, p2⟩
theorem nd_get {ns : List NdV} {j : Nat} {x : NdV} (h : ns[j]? = some x) : (ns.map (·.d))[j]?.getD nd0 = x.d := by rw [List.getElem?_map, h]; rfl
set_option maxRecDepth 10000 in
set_option maxHeartbeats 1000000 in
theorem operand_of (ns : List NdV) (A : Option Addr) (n c f j : Nat) (hn : ns.length = n) (hj : j < n) (IH : NdC ns A n c f j) (req : Int) (w : World) (g : Nat) (v : Value) (bs : List UInt8) (h : PrS w g (.slice A n c) v bs) (ht : Tab10 g w) (hr : RulesAt w g A ns)
    (hl : bs.length + (opdB (ns.map (·.d)) (ndTxt (ns.map (·.d)) f) j req).length ≤ 70000000000) :
    Calls Tryz.prog 97 #[pt g, I j, I req] w (PrG w g (.slice A n c) v (bs ++ opdB (ns.map (·.d)) (ndTxt (ns.map (·.d)) f) j req)) := by
  obtain ⟨rb, x, hAe, hx, hbl, hra, hia⟩ := nd_at hr hn hj
  subst hAe
  obtain ⟨T, hT⟩ : ∃ T, ndTxt (ns.map (·.d)) f j = T := ⟨_, rfl⟩
  have hop : opdB (ns.map (·.d)) (ndTxt (ns.map (·.d)) f) j req = if req ≤ lev x.d.kind then T else [40] ++ T ++ [41] := by
    unfold opdB
    rw [Int.toNat_natCast, nd_get hx, hT]
  rw [hop] at hl ⊢
  obtain ⟨R, hR⟩ : ∃ R, (if req ≤ lev x.d.kind then T else [40] ++ T ++ [41]) = R := ⟨_, rfl⟩
  rw [hR] at hl ⊢
  have HRR := Lib.hid hR
  have f0 : w.cell? ⟨rb, j * 8, none⟩ = some (I x.d.kind) := hra 0 _ rfl
  have hc2 := h.c2
  have i0 : (0 : Int) ≤ (j : Int) := by omega
  have i1 : (j : Int) < (n : Int) := by omega
  have HP := Lib.hid h
  have HT := Lib.hid ht
  have HR := Lib.hid hr
  have HIH : Hid (∀ w' v' bs', PrS w' g (.slice (some ⟨rb, 0, none⟩) n c) v' bs' → Tab10 g w' → RulesAt w' g (some ⟨rb, 0, none⟩) ns → bs'.length + T.length ≤ 70000000000 → Calls Tryz.prog 67 #[pt g, I j] w' (PrG w' g (.slice (some ⟨rb, 0, none⟩) n c) v' (bs' ++ T))) := Lib.hid fun w' v' bs' a1 a2 a3 a4 => by rw [← hT]; exact IH w' g v' bs' a1 a2 a3 (by rw [hT]; exact a4)
  clear h ht hr IH hx hra hia hop hT hj hn hR
  go_enter Tryz.func97, Tryz.ntmps97
  go_wp2_with fail
  refine (level_any x.d.kind w).mono ?_
  rintro e w1 ⟨rfl, hb1⟩
  obtain ⟨p1, k1⟩ := HP.out.keep hb1
  have HP1 := Lib.hid p1
  have HK1 := Lib.hid k1
  have hlow := HP.out.low k1
  have HT1 := Lib.hid (HT.out.keep hlow)
  have HR1 := Lib.hid (HR.out.keep hlow)
  have hlt1 := p1.lt
  have hc1 := p1.c1
  clear p1 k1 hlow hb1 HP HT HR f0 hc2
  by_cases hq : req ≤ lev x.d.kind
  · have HE : Hid (T = R) := Lib.hid (by have := HRR.out; rwa [if_pos hq] at this)
    rw [← HE.out] at hl
    go_wp2_with fail
    refine (HIH.out w1 v bs HP1.out HT1.out HR1.out hl).mono ?_
    rintro e w2 ⟨rfl, v2, hp2, hk2⟩
    have HP2 := Lib.hid hp2
    have HK2 := Lib.hid hk2
    clear hp2 hk2
    go_wp2_with fail
    go_end0
    exact ⟨rfl, v2, by rw [← HE.out]; exact HP2.out, HK1.out.trans HK2.out⟩
  · have HE : Hid ([40] ++ T ++ [41] = R) := Lib.hid (by have := HRR.out; rwa [if_neg hq] at this)
    rw [← HE.out] at hl
    rw [List.length_append, List.length_append, List.length_singleton, List.length_singleton] at hl
    have HW := Lib.hid (wstr_any w1 g (.slice (some ⟨rb, 0, none⟩) n c) v bs ⟨#[40]⟩ HP1.out (by have : (⟨#[40]⟩ : ByteArray).size = 1 := rfl; omega))
    go_wp2_with fail
    refine HW.out.mono ?_
    rintro e w2 ⟨rfl, v2, hp2, hk2⟩
    have HP2 : Hid (PrS w2 g (.slice (some ⟨rb, 0, none⟩) n c) v2 (bs ++ [40])) := Lib.hid hp2.s
    have HK2 := Lib.hid hk2
    have hlow := HP1.out.low hk2
    have HT2 := Lib.hid (HT1.out.keep hlow)
    have HR2 := Lib.hid (HR1.out.keep hlow)
    clear hp2 hk2 hlow HW HP1 HT1 HR1
    go_wp2_with fail
    refine (HIH.out w2 v2 (bs ++ [40]) HP2.out HT2.out HR2.out (by rw [List.length_append, List.length_singleton]; omega)).mono ?_
    rintro e w3 ⟨rfl, v3, hp3, hk3⟩
    have HP3 := Lib.hid hp3
    have HK3 := Lib.hid hk3
    have hlt3 := hp3.lt
    have HW := Lib.hid (wstr_any w3 g (.slice (some ⟨rb, 0, none⟩) n c) v3 (bs ++ [40] ++ T) ⟨#[41]⟩ hp3 (by have : (⟨#[41]⟩ : ByteArray).size = 1 := rfl; rw [List.length_append, List.length_append, List.length_singleton]; omega))
    clear hp3 hk3 HP2 HT2 HR2
    go_wp2_with fail
    refine HW.out.mono ?_
    rintro e w4 ⟨rfl, v4, hp4, hk4⟩
    have HP4 : Hid (PrS w4 g (.slice (some ⟨rb, 0, none⟩) n c) v4 (bs ++ ([40] ++ T ++ [41]))) := Lib.hid (by have := hp4.s; rw [← List.append_assoc, ← List.append_assoc]; exact this)
    have HK4 := Lib.hid hk4
    clear hp4 hk4 HW
    go_wp2_with fail
    go_end0
    exact ⟨rfl, v4, by rw [← HE.out]; exact HP4.out, HK1.out.trans (HK2.out.trans (HK3.out.trans HK4.out))⟩
end Go.Proofs.YtenbgpcdoljkgaaGreatDoor
