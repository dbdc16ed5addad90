/- TableMatchesReference: for every table, every raw chain and every name the law returns true, and the arguments read afterwards as before; then its tied card. No condition but the row's own: the listed variable kalends/digest.rounds starts as the program's text lays it (the tie is given). (The row's frame began as that of the law before.) -/
import Derived.Test.YtbaehbbonkljpaaGreatDoorS00
import Derived.Test.YtbaehbbonkljpaaGreatDoorRows
import Derived.Test.YtbaehbbonkljpaaGreatDoorTie
import Derived.Test.YtbaehbbonkljpaaGreatDoorCards
import Derived.Below
import Derived.ChangeOld
import Derived.Deep.Strs
import Derived.WideShapes
import Derived.ChangeShapes
import Derived.Defers
import Derived.LaidMore
import Derived.Laws.AppendOwnNone
import Derived.Laws.BitsAllLaws
import Derived.Laws.BytesArg
import Derived.Laws.Cover3
import Derived.Lib.AppendStr
import Derived.Lib.ByteType
import Derived.MapKept
import Derived.OpenShut
import Derived.ProofKit
import Derived.Recover
import Derived.SevenTiedAt
import Derived.ShutString
import Derived.Stop.Joined
import Derived.Test.YtbaehbbonkljpaaGreatDoorS50
namespace Go.Proofs.YtbaehbbonkljpaaGreatDoor.tableMatchesReference
open Go Go.ChangeShapes Go.WideShapes Go.ChangeAt Go.RowKit
set_option maxRecDepth 100000
set_option linter.unusedVariables false
theorem own:ownKnob Tryz.prog.godebug=none:=by kernel_rfl
theorem laidOut:laidOutB Tryz.prog=true:=by kernel_rfl
theorem XM:Tryz.prog.globalNamed "kalends/digest.rounds" =some 0:=by kernel_rfl
theorem YH:(Tryz.prog.globals[0]?).map (·.type)=some 190:=by kernel_rfl
set_option maxRecDepth 100000 in
theorem of_laid {W:World} (h:laidMetH Tryz.prog Rows.tableMatchesReferenceRow.laid W):gK W 0 (aj qx):=by
 rw [MakeChecks.laidMetH_plain _ _ _ (by kernel_rfl)] at h;obtain ⟨ps,⟨g0,t0,cs0,f0,p0,q0,hg0,ht0,hv0,hd0,_,_⟩,_,_⟩:=h;obtain rfl:=Option.some.inj (XM.symm.trans hg0);obtain rfl:=Option.some.inj (YH.symm.trans ht0);obtain ⟨xs,m1,rfl,hx1,hlen,hn,hel⟩:=DataW.trod_array Tryz.underlying190 hd0;have c1:Tryz.prog.cellsOf 154=1:=by kernel_rfl
 have c2:Tryz.prog.cellsOf 190=64:=by kernel_rfl
 rw [c2] at hlen;have hl:xs.map (·.1)=qx.map (fun n=>(DataW.lit (.int .u32 n):DataW Unit)):=by
  have h1:=congrArg Prod.fst hx1;have h2:(DataW.agg (qx.map (fun n=>(DataW.lit (.int .u32 n):DataW Unit))):DataW Unit)= .agg (xs.map (·.1)):=Eq.trans (by rfl) h1;injection h2 with h3;exact h3.symm
 have hrl:qx.length=64:=by rfl
 generalize qx=L at hl hrl ⊢;have hcs:cs0=aj L:=by
  rw [<-Array.toArray_toList (xs:=cs0)];unfold aj;congr 1;apply List.ext_getElem?;intro i;by_cases hi:i<64
  ·have h1:=hel i (by omega);rw [c1,Nat.mul_one,bK (by omega)] at h1;obtain ⟨n,e,ex,_⟩:=DataW.trod_int Tryz.underlying154 h1;have h3:(xs.map (·.1))[i]? =some (DataW.lit (.int .u32 n)):=by rw [List.getElem?_map,bK (by omega),ex];rfl
   rw [hl,List.getElem?_map,bK (by omega)] at h3;have h4:L[i]'(by omega)=n:=by simpa using h3
   have h5:((cs0.toList.drop i).take 1)[0]? =cs0.toList[i]? :=by rw [List.getElem?_take_of_lt (by omega),List.getElem?_drop,Nat.add_zero]
   rw [<-h5,e,List.getElem?_map,bK (show i<L.length by omega),h4];rfl
  ·rw [List.getElem?_eq_none (by omega),List.getElem?_eq_none (by rw [List.length_map];omega)]
 have hcell:=World.var?_cell hg0 hv0;rw [hcs] at hcell;refine ⟨?_,hcell⟩;have h0:=hcell 0;apply Classical.byContradiction;intro hn;have h2:W.heap[0]? =none:=Array.getElem?_eq_none (by omega);rw [bU L 0 (by omega)] at h0;simp [World.cell?,h2] at h0
theorem walk (x:dF) (r:lK) (name:ByteArray) (w:World) (hx:fV w w.heap.size x) (hr:vS w w.heap.size r) (hL:gK w 0 (aj qx)):
  Calls Tryz.prog 3 #[.agg (ai x.t (.slice x.A x.zs.length x.c)), .agg r.cells.toArray, .string name] w fun e w'=>e= .returned (.bool true)/\Below w.heap.size w w':=
 yM w hL (Nat.lt_of_le_of_lt (Nat.zero_le _) hL.1) x r name hx hr
theorem door_met (os:Os) (args:Array Value):laidMetH Tryz.prog Rows.tableMatchesReferenceRow.laid ((World.doorLaid Tryz.prog 400 os).forCall (fun _ _=>0) ⟨#[],args,[]⟩).memory:=
 laidMetH_of_parts3 (fuel:=8) (laidMet_of_run' 8 (by kernel_rfl) (by kernel_rfl)) (by kernel_rfl) (by kernel_rfl)
set_option maxRecDepth 100000 in
theorem lifted (os:Os) (started:os.Started) (H:Type) (enc:TypeId×Value->H):
  ReturnsInHanded {} Tryz.checked os 3 .any (fun w args=>(Rows.tableMatchesReferenceSpec.pre enc Tryz.prog Tryz.f3 [] false w args/\laidMetH Tryz.prog Rows.tableMatchesReferenceRow.laid w)/\sizedMet enc Tryz.prog Tryz.f3 (OpenSpec.ofChange Rows.tableMatchesReferenceSpec) false w args)
   (Rows.tableMatchesReferenceSpec.post enc Tryz.prog Tryz.f3 false true false false):=by
 refine returnsInHanded_of_change_and (C:=Tryz.checked) (X:=fun w _=>laidMetH Tryz.prog Rows.tableMatchesReferenceRow.laid w) (fun _ _ _ hh h=>h.of_heap hh) own started (by kernel_rfl) Tryz.func3
  (ChangeSpec.witness_shaped (enc:=enc) (C:=Tryz.checked) (os:=os) (X:=fun w _=>laidMetH Tryz.prog Rows.tableMatchesReferenceRow.laid w) false (World.doorLaid Tryz.prog 400 os) #[.agg (ai bu (.slice none 0 0)), .agg (lK.cells ⟨0,List.replicate 32 0,none,0,[]⟩).toArray, .string ⟨#[]⟩] 8 rfl (World.shaped_of_RefB (by kernel_rfl) (by kernel_rfl)) (by kernel_rfl) (by kernel_rfl) (by kernel_rfl) (door_met os _)) ?_
 intro W base args ds gs before hval0 hW _ _ hL _;have hval:∀(j:Nat) t v,Tryz.f3.params[j]? =some t->args[j]? =some v->Value.okWide Tryz.prog W .any base t v:=hval0;have hW':=hW;obtain ⟨p,q,hA0,hV,rfl,hfz,hnd⟩:=hW;have hA:DataW.TrodAll enc Tryz.prog W 0 (fun _=>true) true Tryz.f3.params.toList args.toList ds p:=hA0;rw [Tryz.params3] at hA hval;obtain ⟨v0,vs0,d0,ds0,p0,q0,hargs,rfl,rfl,h0,r0⟩:=trodAll_cons hA;obtain ⟨v1,vs1,d1,ds1,p1,q1,rfl,rfl,rfl,h1,r1⟩:=trodAll_cons r0;obtain ⟨v2,vs2,d2,ds2,p2,q2,rfl,rfl,rfl,h2,r2⟩:=trodAll_cons r1;obtain ⟨rfl,rfl,rfl⟩:=trodAll_nil r2;obtain rfl:args= #[v0,v1,v2]:=by cases args;simp_all
 obtain ⟨rfl,rfl⟩:=trodVars_none hV;obtain ⟨ct,rfl,_⟩:=okWide_struct Tryz.underlying26 (hval 0 26 v0 rfl rfl);obtain ⟨cs,rfl,_⟩:=okWide_struct Tryz.underlying29 (hval 1 29 v1 rfl rfl);have k0:=h0;have k1:=h1;have k2:=h2;have lt0:∀x∈p0,x.block<W.heap.size:=by obtain ⟨m,hm⟩:=k0;exact DataW.trod_lt m _ _ _ hm
 have lt1:∀x∈p1,x.block<W.heap.size:=by obtain ⟨m,hm⟩:=k1;exact DataW.trod_lt m _ _ _ hm
 have lt2:∀x∈p2,x.block<W.heap.size:=by obtain ⟨m,hm⟩:=k2;exact DataW.trod_lt m _ _ _ hm
 obtain ⟨fuel0,hf0⟩:=h0;obtain ⟨x,ex,hx⟩:=op_tab hf0;obtain rfl:ct=ai x.t (.slice x.A x.zs.length x.c):=by
  have h:ct.toList=(ai x.t (.slice x.A x.zs.length x.c)).toList:=by rw [<-ex];simp [Value.cells]
  rw [<-Array.toArray_toList (xs:=ct),h,Array.toArray_toList]
 obtain ⟨fuel,hf⟩:=h1;obtain ⟨r,er,hr⟩:=op_raw hf;obtain rfl:cs=r.cells.toArray:=by rw [<-er];simp [Value.cells]
 obtain ⟨name,rfl⟩:=okWide_string Tryz.underlying9 (hval 2 9 v2 rfl rfl);clear hA0 hval0;refine (walk x r name W hx hr (of_laid hL)).mono fun e W' ⟨he,bel⟩=>?_;subst he;exact ⟨_,rfl,_,_,_,[],_,[],hW',trodAll_mk1 (shut_bool Tryz.underlying4 _),(trodAll_cons_mk (Below.trod laidOut (by kernel_rfl) (of_decide_eq_true (by kernel_rfl)) k0 bel lt0) (trodAll_cons_mk (Below.trod laidOut (by kernel_rfl) (of_decide_eq_true (by kernel_rfl)) k1 bel lt1) (trodAll_cons_mk (Below.trod laidOut (by kernel_rfl) (of_decide_eq_true (by kernel_rfl)) k2 bel lt2) trodAll_mk0))),rfl,bel.frame _,fun h=>by cases h⟩
theorem over:Rows.TableMatchesReferenceSaid:=
 OpenClaim.holds_of_wide 3 Tryz.f3 rfl rfl rfl rfl rfl rfl rfl ⟨rfl,rfl,rfl,rfl,rfl⟩ rfl rfl rfl rfl rfl (by kernel_rfl) Tryz.func3 (by kernel_rfl)
  (of_decide_eq_true (by kernel_rfl)) (by unfold Func.isWrapper;first|(rw [if_pos (by decide+kernel)];kernel_rfl)|(rw [if_neg (by decide+kernel)];exact ⟨rfl,rfl⟩))
  (fun os started H enc _=>lifted os started H enc)
theorem proved:Rows.TableMatchesReferenceCardSaid:=
 Claim7.holds_tied_plain_at .later [] [.data] true Rows.tableMatchesReferenceCard.stood.harness true
  over (fun _ h=>by cases h) (by kernel_rfl) (fun _ h=>by cases h) tableMatchesReference_row_tie rfl ⟨rfl,rfl⟩ (by kernel_rfl) rfl
  (fun f fn hf hfn=>by
   obtain rfl:f=3:=Option.some.inj ((show Tryz.prog.funcNamed "kalends/kalendslaw14.TableMatchesReference" =some 3 by kernel_rfl).symm.trans hf) |>.symm;obtain rfl:fn=Tryz.f3:=(Option.some.inj (Tryz.func3.symm.trans hfn)).symm;exact ⟨by kernel_rfl,fun j t ht=>by
    rw [Tryz.params3] at ht;have hm:t∈ [26,29,9]:=by simpa using Array.mem_of_getElem? ht
    have hall:([26,29,9].all fun u=> !Tryz.prog.wantsStandIn u)=true:=by kernel_rfl
    exact (show Tryz.prog.wantsStandIn t=false by simpa using List.all_eq_true.1 hall t hm)⟩)
  (by kernel_rfl)
#print axioms proved
end Go.Proofs.YtbaehbbonkljpaaGreatDoor.tableMatchesReference
