/- Tables as data, and how they lie in memory; a load of a part of a row under a guard that is met. -/
import Derived.Test.YtbdkalpljhpnmaaGreatTbZ
import Derived.Test.YtbdkalpljhpnmaaGreatQa
import Derived.BigQuiet
import Derived.Deep.AppendLies
import Derived.Deep.CutBlock
import Derived.Deep.DeepCutAuto
import Derived.Deep.DrawnRows
import Derived.Deep.MidRow
import Derived.Deep.QuietTactic
import Derived.Deep.RegionHeld3
import Derived.Deep.RegionLaw
import Derived.Deep.WholeRow
import Derived.Great.BuildSlice
import Derived.Laws.BytesString
import Derived.Laws.CopyOwn
import Derived.Laws.EntriesVeiled
import Derived.Laws.MakeOwn
import Derived.Laws.ResultCell
import Derived.Laws.Rows
import Derived.Laws.Tables
import Derived.Lib.Hide
import Derived.LoopIn
import Derived.LoopNIn
import Derived.Maps.AppendAt
import Derived.Outline
import Derived.OwnWalkIn
import Derived.RangeFuncBound
import Derived.RangeFuncBox
import Derived.RangeFuncCalls
import Derived.RangeFuncLeaves
import Derived.RangeFuncNested
import Derived.Shelf.Abstract
import Derived.Shelf.Bytes.SlSmallAll
import Derived.Shelf.RegionOpen
import Derived.StillTailTactics
import Derived.Stop.BytesEq
import Derived.TacticsInMore
import Derived.WalkKit
import Derived.WalkLawsBesides
import Derived.WalkSpells
namespace Go.Proofs.YtbdkalpljhpnmaaGreat
open Go Go.RowKit

structure Ze where
  name : ByteArray
  z : Zn
structure ZeV where
  e : Ze
  s : Zs
def ZeV.cells (x : ZeV) : Array Value := #[.string x.e.name, I x.e.z.cal.epoch, .slice x.s.A x.e.z.cal.months.length x.s.a, I x.e.z.cal.leap, .slice x.s.B x.e.z.cal.rules.length x.s.b, I x.e.z.start, .slice x.s.C x.e.z.trans.length x.s.c, I x.e.z.hor, .slice x.s.D x.e.z.yearly.length x.s.d]
structure Tb where
  issuer : Int
  version : Int
  withdraws : Int
  prev : List UInt8
  mac : List UInt8
  zones : List Ze
def tbList (t : Tb) (vz : Value) : List Value := [I t.issuer, I t.version, I t.withdraws, vz] ++ (refCells t.prev ++ refCells t.mac)
def tbVal (t : Tb) (vz : Value) : Array Value := (tbList t vz).toArray
section
variable (t : Tb) (vz : Value)
theorem tb_get0 : (tbVal t vz)[0]? = some (I t.issuer) := rfl
theorem tb_get1 : (tbVal t vz)[1]? = some (I t.version) := rfl
theorem tb_get2 : (tbVal t vz)[2]? = some (I t.withdraws) := rfl
theorem tb_get3 : (tbVal t vz)[3]? = some vz := rfl
theorem tb_size (h : t.prev.length = 32) (h2 : t.mac.length = 32) : (tbVal t vz).size = 68 := by simp [tbVal, tbList, refCells, h, h2]
theorem tb_info (h : t.prev.length = 32) (h2 : t.mac.length = 32) : (Tryz.prog.info? 47).map (·.size) = some (tbVal t vz).size := by rw [tb_size t vz h h2]; kernel_rfl
theorem tb_prev {W : World} {b : Nat} (hr : Row W b (tbVal t vz)) : W.rangeAt b 4 (refCells t.prev) := fun j v hv => by
  rw [hr.2 (4 + j)]
  unfold tbVal tbList
  rw [List.getElem?_toArray, List.getElem?_append_right (by simp)]
  have hj := (List.getElem?_eq_some_iff.1 hv).1
  rw [show 4 + j - [I t.issuer, I t.version, I t.withdraws, vz].length = j by simp, List.getElem?_append_left hj]
  exact hv
theorem tb_mac {W : World} {b : Nat} (hr : Row W b (tbVal t vz)) (hp : t.prev.length = 32) : W.rangeAt b 36 (refCells t.mac) := fun j v hv => by
  rw [hr.2 (36 + j)]
  unfold tbVal tbList
  have hl : (refCells t.prev).length = 32 := by simp [refCells, hp]
  rw [List.getElem?_toArray, List.getElem?_append_right (by simp; omega), List.getElem?_append_right (by simp [hl]; omega)]
  rw [show 36 + j - [I t.issuer, I t.version, I t.withdraws, vz].length - (refCells t.prev).length = j by simp [hl]; omega]
  exact hv
end
/-- The zones in memory older than block B. -/
def ZesAt (w : World) (B : Nat) (A : Option Addr) (zs : List ZeV) : Prop :=
  zs.length = 0 ∨ ∃ b, A = some ⟨b, 0, none⟩ ∧ b < B ∧ ∀ k x, zs[k]? = some x → w.rangeAt b (k * 9) x.cells.toList ∧ IntsAt w B x.s.A x.e.z.cal.months
theorem ZesAt.keep {w w' : World} {B : Nat} {A : Option Addr} {zs : List ZeV} (h : ZesAt w B A zs) (hb : Below B w w') : ZesAt w' B A zs := by
  rcases h with h | ⟨b, h1, h2, h3⟩
  · exact .inl h
  · exact .inr ⟨b, h1, h2, fun k x hx => ⟨rangeAt_keep (h3 k x hx).1 hb h2, (h3 k x hx).2.keep hb⟩⟩
theorem ZesAt.more {w : World} {B B' : Nat} {A : Option Addr} {zs : List ZeV} (h : ZesAt w B A zs) (hB : B ≤ B') : ZesAt w B' A zs := by
  rcases h with h | ⟨b, h1, h2, h3⟩
  · exact .inl h
  · exact .inr ⟨b, h1, by omega, fun k x hx => ⟨(h3 k x hx).1, (h3 k x hx).2.more hB⟩⟩
section
variable {P : Program} {ops : Array Oper} {Q : Exit → Act → World → Prop} {a : Act} {w : World} {rest : List Oper} {o : Oper}
theorem wpList_load_Mid (hw : Region.wanted o (yielded ops a.tmps) = true) (ty : TypeId) (x : Operand) (ho : o.op = .load ty x) (g off : Nat) (hx : a.eval x = .pointer (some ⟨g, off, none⟩)) (cs : List Value) (hr : w.rangeAt g off cs)
    (d : TypeDesc) (hu : P.underlying ty = some d) (hd : d.isRow = true) (hi : (P.info? ty).map (·.size) = some cs.length)
    (h : wpList P ops Q rest (a.put o.dst (.agg cs.toArray)) w) : wpList P ops Q (o :: rest) a w := by
  unfold wpList
  rw [if_pos hw]
  exact .inl (wp_load_mid ty x ho g off hx cs d hr hu hd hi h)
end
/-- A table whose zones are flat, with its head in order. -/
structure TbFlat (t : Tb) : Prop where
  issuer : 0 ≤ t.issuer ∧ t.issuer < 16
  version : 1 ≤ t.version ∧ t.version ≤ 64
  withdraws : 0 ≤ t.withdraws ∧ t.withdraws < t.version
  prev : t.prev.length = 32
  mac : t.mac.length = 32
  first : t.version = 1 → t.prev = zero32
  num : t.zones.length ≤ 128
  flat : ∀ e ∈ t.zones, ZnFlat e.z
  short : ∀ e ∈ t.zones, e.name.size ≤ 32
end Go.Proofs.YtbdkalpljhpnmaaGreat
