/- The texts Kj, in this order. -/
import Derived.Test.YtbaehbbonkljpaaGreatDoorT10
set_option maxRecDepth 10000
set_option maxHeartbeats 8000000
namespace Go.Proofs.YtbaehbbonkljpaaGreatDoor
open Go Go.RowKit
def UQ (lo:Nat)(A:aj Addr)(cs:ag ah):Prop:=cs.length=0\/∃b off,A=some ⟨b,off,none⟩/\lo<=b
theorem LZ.low {lo lo' B g:Nat}{w:ae}{A:aj Addr}{cs:ag ah}(h:LZ lo B g w A cs)(hlo:lo'<=lo):UQ lo' A cs:=by
 rcases h with h|⟨b,off,h1,h0,_⟩
 ·exact .inl h
 ·exact .inr ⟨b,off,h1,aO hlo h0⟩
def adA (lo:Nat)(s:Zs)(z:Zn):Prop:=UQ lo s.A (z.cal.JQ.map I)/\UQ lo s.B (z.cal.rules.flatMap Lr.cells)/\UQ lo s.C (z.trans.flatMap Tr.cells)/\UQ lo s.D (z.J6.flatMap Yr.cells)
def apR (w:ae)(z:Zn)(e:Ending)(w':ae):Prop:=∃s,e=.returned (.agg (JV z s))/\N7 w' w'.heap.size s z/\adA w.heap.size s z/\ai w.heap.size w w'
end Go.Proofs.YtbaehbbonkljpaaGreatDoor
