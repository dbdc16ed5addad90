/- TableChains: for every raw chain and every byte the law returns true, and the arguments read afterwards as before; then its tied card. No condition but the row's own: the listed variable kalends/digest.rounds starts as the program's text lays it (the tie is given). (The row's frame began as LetterTables' row.) -/
import Derived.Test.YtdibbemgpikgjaaGreatDoorV00
import Derived.Test.YtdibbemgpikgjaaGreatDoorRows
import Derived.Test.YtdibbemgpikgjaaGreatDoorTie
import Derived.Test.YtdibbemgpikgjaaGreatDoorCards
import Derived.Below
import Derived.ChangeOld
import Derived.Deep.Strs
import Derived.WideShapes
import Derived.ChangeShapes
import Derived.Defers
import Derived.LaidMore
import Derived.Laws.AppendOwnNone
import Derived.Laws.BitsAllLaws
import Derived.Laws.BytesArg
import Derived.Laws.Cover3
import Derived.Lib.AppendStr
import Derived.Lib.ByteType
import Derived.MapKept
import Derived.OpenShut
import Derived.ProofKit
import Derived.Recover
import Derived.SevenTiedAt
import Derived.ShutString
import Derived.Stop.Joined
import Derived.Test.YtdibbemgpikgjaaGreatDoorV43
import Derived.Test.YtdibbemgpikgjaaGreatDoorV44
namespace Go.Proofs.YtdibbemgpikgjaaGreatDoor.tableChains
open Go Go.ChangeShapes Go.WideShapes Go.ChangeAt Go.RowKit
set_option linter.unusedVariables false
theorem own:ownKnob Tryz.prog.godebug=none:=by kernel_rfl
theorem laidOut:laidOutB Tryz.prog=true:=by kernel_rfl
theorem NV (cs:List Value) (h:∀i,i<cs.length→∃n,(cs.drop i).take 1= [Value.int .u32 n]):∃zs:List Int,cs=zs.map (Value.int .u32):=by
 induction cs with
 |nil=>exact ⟨[],rfl⟩
 |cons c cs ih=>
  obtain ⟨n,hn⟩:=h 0 (by simp)
  obtain ⟨zs,hz⟩:=ih fun i hi=>by
   obtain ⟨m,hm⟩:=h (i+1) (by simpa using hi)
   exact ⟨m,by simpa using hm⟩
  refine ⟨n::zs,?_⟩
  have:c= .int .u32 n:=by simpa using hn
  rw [this,hz]
  rfl
theorem Tt:Tryz.prog.globalNamed "kalends/digest.rounds" =some 0:=by kernel_rfl
theorem Un:(Tryz.prog.globals[0]?).map (·.type)=some 170:=by kernel_rfl
theorem of_laid {W:World} (h:laidMetH Tryz.prog Rows.tableChainsRow.laid W):∃KR:List Int,KR.length=64∧fA W 0 (aA KR):=by
 rw [MakeChecks.laidMetH_plain _ _ _ (by kernel_rfl)] at h
 obtain ⟨ps,⟨g0,t0,cs0,f0,p0,q0,hg0,ht0,hv0,hd0,_,_⟩,_,_⟩:=h
 obtain rfl:=Option.some.inj (Tt.symm.trans hg0)
 obtain rfl:=Option.some.inj (Un.symm.trans ht0)
 obtain ⟨xs,m1,rfl,hx1,hlen,hn,hel⟩:=DataW.trod_array Tryz.underlying170 hd0
 have c1:Tryz.prog.cellsOf 116=1:=by kernel_rfl
 have c2:Tryz.prog.cellsOf 170=64:=by kernel_rfl
 rw [c2] at hlen
 obtain ⟨zs,hz⟩:=NV cs0.toList fun i hi=>by
  have h1:=hel i (by omega)
  rw [c1,Nat.mul_one,List.getElem?_eq_getElem (by omega)] at h1
  obtain ⟨n,e,_,_⟩:=DataW.trod_int Tryz.underlying116 h1
  exact ⟨n,e⟩
 have hcs:cs0=aA zs:=by
  rw [←Array.toArray_toList (xs:=cs0),hz]
  rfl
 have hcell:=World.var?_cell hg0 hv0
 rw [hcs] at hcell
 have hl:zs.length=64:=by rw [hz] at hlen;simpa using hlen
 refine ⟨zs,hl,?_,hcell⟩
 have h0:=hcell 0
 apply Classical.byContradiction
 intro hn
 have h2:W.heap[0]? =none:=Array.getElem?_eq_none (by omega)
 rw [dV zs 0 (by omega)] at h0
 simp [World.cell?,h2] at h0
theorem walk (r:kQ) (again:Int) (w:World) (hr:vC w w.heap.size r) (hb:(Lit.int .u8 again).wf=true) (hL:∃KR:List Int,KR.length=64∧fA w 0 (aA KR)):
  Calls Tryz.prog 5 #[.agg r.cells.toArray, .int .u8 again] w fun e w'=>e= .returned (.bool true)∧Below w.heap.size w w':=by
 obtain ⟨KR,hK,hG⟩:=hL
 have h:=bounds_u8 hb
 exact yH KR hK w hG (Nat.lt_of_le_of_lt (Nat.zero_le _) hG.1) r again ⟨h.1,by omega⟩ hr
theorem door_met (os:Os) (args:Array Value):laidMetH Tryz.prog Rows.tableChainsRow.laid ((World.doorLaid Tryz.prog 400 os).forCall (fun _ _=>0) ⟨#[],args,[]⟩).memory:=
 laidMetH_of_parts3 (fuel:=8) (laidMet_of_run' 8 (by kernel_rfl) (by kernel_rfl)) (by kernel_rfl) (by kernel_rfl)
set_option maxRecDepth 100000 in
theorem lifted (os:Os) (started:os.Started) (H:Type) (enc:TypeId×Value→H):
  ReturnsInHanded {} Tryz.checked os 5 .any (fun w args=>(Rows.tableChainsSpec.pre enc Tryz.prog Tryz.f5 [] false w args∧laidMetH Tryz.prog Rows.tableChainsRow.laid w)∧sizedMet enc Tryz.prog Tryz.f5 (OpenSpec.ofChange Rows.tableChainsSpec) false w args)
   (Rows.tableChainsSpec.post enc Tryz.prog Tryz.f5 false true false false):=by
 refine returnsInHanded_of_change_and (C:=Tryz.checked) (X:=fun w _=>laidMetH Tryz.prog Rows.tableChainsRow.laid w) (fun _ _ _ hh h=>h.of_heap hh) own started (by kernel_rfl) Tryz.func5
  (ChangeSpec.witness_shaped (enc:=enc) (C:=Tryz.checked) (os:=os) (X:=fun w _=>laidMetH Tryz.prog Rows.tableChainsRow.laid w) false (World.doorLaid Tryz.prog 400 os) #[.agg (kQ.cells ⟨0,List.replicate 32 0,none,0,[]⟩).toArray, .int .u8 0] 8 rfl (World.shaped_of_RefB (by kernel_rfl) (by kernel_rfl)) (by kernel_rfl) (by kernel_rfl) (by kernel_rfl) (door_met os _)) ?_
 intro W base args ds gs before hval0 hW _ _ hL _
 have hval:∀(j:Nat) t v,Tryz.f5.params[j]? =some t→args[j]? =some v→Value.okWide Tryz.prog W .any base t v:=hval0
 have hW':=hW
 obtain ⟨p,q,hA0,hV,rfl,hfz,hnd⟩:=hW
 have hA:DataW.TrodAll enc Tryz.prog W 0 (fun _=>true) true Tryz.f5.params.toList args.toList ds p:=hA0
 rw [Tryz.params5] at hA hval
 obtain ⟨v0,vs0,d0,ds0,p0,q0,hargs,rfl,rfl,h0,r0⟩:=trodAll_cons hA
 obtain ⟨v1,vs1,d1,ds1,p1,q1,rfl,rfl,rfl,h1,r1⟩:=trodAll_cons r0
 obtain ⟨rfl,rfl,rfl⟩:=trodAll_nil r1
 obtain rfl:args= #[v0,v1]:=by cases args;simp_all
 obtain ⟨rfl,rfl⟩:=trodVars_none hV
 obtain ⟨cs,rfl,_⟩:=okWide_struct Tryz.underlying26 (hval 0 26 v0 rfl rfl)
 have k0:=h0
 have lt0:∀x∈p0,x.block<W.heap.size:=by obtain ⟨m,hm⟩:=k0;exact DataW.trod_lt m _ _ _ hm
 obtain ⟨fuel,hf⟩:=h0
 obtain ⟨r,er,hr⟩:=Ya hf
 obtain rfl:cs=r.cells.toArray:=by rw [←er];simp [Value.cells]
 obtain ⟨a1,rfl,rfl,rfl,w1⟩:=open_int Tryz.underlying5 (hval 1 5 v1 rfl rfl) h1
 clear hA0 hval0
 refine (walk r a1 W hr w1 (of_laid hL)).mono fun e W' ⟨he,bel⟩=>?_
 subst he
 exact ⟨_,rfl,_,_,_,[],_,[],hW',trodAll_mk1 (shut_bool Tryz.underlying4 _),(trodAll_cons_mk (Below.trod laidOut (by kernel_rfl) (of_decide_eq_true (by kernel_rfl)) k0 bel lt0) (trodAll_cons_mk (shut_int Tryz.underlying5 w1) trodAll_mk0)),rfl,bel.frame _,fun h=>by cases h⟩
theorem over:Rows.TableChainsSaid:=
 OpenClaim.holds_of_wide 5 Tryz.f5 rfl rfl rfl rfl rfl rfl rfl ⟨rfl,rfl,rfl,rfl,rfl⟩ rfl rfl rfl rfl rfl (by kernel_rfl) Tryz.func5 (by kernel_rfl)
  (of_decide_eq_true (by kernel_rfl)) (by unfold Func.isWrapper;first|(rw [if_pos (by decide+kernel)];kernel_rfl)|(rw [if_neg (by decide+kernel)];exact ⟨rfl,rfl⟩))
  (fun os started H enc _=>lifted os started H enc)
theorem proved:Rows.TableChainsCardSaid:=
 Claim7.holds_tied_plain_at .later [] [.data] true Rows.tableChainsCard.stood.harness true
  over (fun _ h=>by cases h) (by kernel_rfl) (fun _ h=>by cases h) tableChains_row_tie rfl ⟨rfl,rfl⟩ (by kernel_rfl) rfl
  (fun f fn hf hfn=>by
   obtain rfl:f=5:=Option.some.inj ((show Tryz.prog.funcNamed "kalends/kalendslaw14.TableChains" =some 5 by kernel_rfl).symm.trans hf) |>.symm
   obtain rfl:fn=Tryz.f5:=(Option.some.inj (Tryz.func5.symm.trans hfn)).symm
   exact ⟨by kernel_rfl,fun j t ht=>by
    rw [Tryz.params5] at ht
    have hm:t∈ [26,5]:=by simpa using Array.mem_of_getElem? ht
    have hall:([26,5].all fun u=> !Tryz.prog.wantsStandIn u)=true:=by kernel_rfl
    exact (show Tryz.prog.wantsStandIn t=false by simpa using List.all_eq_true.1 hall t hm)⟩)
  (by kernel_rfl)
#print axioms proved
end Go.Proofs.YtdibbemgpikgjaaGreatDoor.tableChains
