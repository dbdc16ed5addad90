/- TableTampering: for every raw chain, every place and every two bytes the law returns true, and the arguments read afterwards as before; then its tied card. No condition but the row's own: the listed variable kalends/digest.rounds starts as the program's text lays it (the tie is given). (The row's frame began as TableTampering' row.) -/
import Derived.Test.YtdibbemgpikgjaaGreatDoorY00
import Derived.Test.YtdibbemgpikgjaaGreatDoorRows
import Derived.Test.YtdibbemgpikgjaaGreatDoorTie
import Derived.Test.YtdibbemgpikgjaaGreatDoorCards
import Derived.Below
import Derived.ChangeOld
import Derived.Deep.Strs
import Derived.WideShapes
import Derived.ChangeShapes
import Derived.Defers
import Derived.LaidMore
import Derived.Laws.AppendOwnNone
import Derived.Laws.BitsAllLaws
import Derived.Laws.BytesArg
import Derived.Laws.Cover3
import Derived.Lib.AppendStr
import Derived.Lib.ByteType
import Derived.MapKept
import Derived.OpenShut
import Derived.ProofKit
import Derived.Recover
import Derived.SevenTiedAt
import Derived.ShutString
import Derived.Stop.Joined
import Derived.Test.YtdibbemgpikgjaaGreatDoorY44
import Derived.Test.YtdibbemgpikgjaaGreatDoorY45
namespace Go.Proofs.YtdibbemgpikgjaaGreatDoor.tableTampering
open Go Go.ChangeShapes Go.WideShapes Go.ChangeAt Go.RowKit
set_option maxRecDepth 100000
set_option linter.unusedVariables false
theorem own:ownKnob Tryz.prog.godebug=none:=by kernel_rfl
theorem laidOut:laidOutB Tryz.prog=true:=by kernel_rfl
theorem V4:Tryz.prog.globalNamed "kalends/digest.rounds" =some 0:=by kernel_rfl
theorem Xr:(Tryz.prog.globals[0]?).map (·.type)=some 170:=by kernel_rfl
set_option maxRecDepth 100000 in
theorem of_laid {W:World} (h:laidMetH Tryz.prog Rows.tableTamperingRow.laid W):fD W 0 (au um):=by
 rw [MakeChecks.laidMetH_plain _ _ _ (by kernel_rfl)] at h;obtain ⟨ps,⟨g0,t0,cs0,f0,p0,q0,hg0,ht0,hv0,hd0,_,_⟩,_,_⟩:=h;obtain rfl:=Option.some.inj (V4.symm.trans hg0);obtain rfl:=Option.some.inj (Xr.symm.trans ht0);obtain ⟨xs,m1,rfl,hx1,hlen,hn,hel⟩:=DataW.trod_array Tryz.underlying170 hd0;have c1:Tryz.prog.cellsOf 116=1:=by kernel_rfl
 have c2:Tryz.prog.cellsOf 170=64:=by kernel_rfl
 rw [c2] at hlen;have hl:xs.map (·.1)=um.map (fun n=>(DataW.lit (.int .u32 n):DataW Unit)):=by
  have h1:=congrArg Prod.fst hx1;have h2:(DataW.agg (um.map (fun n=>(DataW.lit (.int .u32 n):DataW Unit))):DataW Unit)= .agg (xs.map (·.1)):=Eq.trans (by rfl) h1;injection h2 with h3;exact h3.symm
 have hrl:um.length=64:=by rfl
 generalize um=L at hl hrl ⊢;have hcs:cs0=au L:=by
  rw [←Array.toArray_toList (xs:=cs0)];unfold au;congr 1;apply List.ext_getElem?;intro i;by_cases hi:i<64
  ·have h1:=hel i (by omega);rw [c1,Nat.mul_one,bZ (by omega)] at h1;obtain ⟨n,e,ex,_⟩:=DataW.trod_int Tryz.underlying116 h1;have h3:(xs.map (·.1))[i]? =some (DataW.lit (.int .u32 n)):=by rw [List.getElem?_map,bZ (by omega),ex];rfl
   rw [hl,List.getElem?_map,bZ (by omega)] at h3;have h4:L[i]'(by omega)=n:=by simpa using h3
   have h5:((cs0.toList.drop i).take 1)[0]? =cs0.toList[i]? :=by rw [List.getElem?_take_of_lt (by omega),List.getElem?_drop,Nat.add_zero]
   rw [←h5,e,List.getElem?_map,bZ (show i<L.length by omega),h4];rfl
  ·rw [List.getElem?_eq_none (by omega),List.getElem?_eq_none (by rw [List.length_map];omega)]
 have hcell:=World.var?_cell hg0 hv0;rw [hcs] at hcell;refine ⟨?_,hcell⟩;have h0:=hcell 0;apply Classical.byContradiction;intro hn;have h2:W.heap[0]? =none:=Array.getElem?_eq_none (by omega);rw [bY L 0 (by omega)] at h0;simp [World.cell?,h2] at h0
theorem okWide_arr {P:Program} {w:World} {r:Reach} {base:Nat} {t:TypeId} {v:Value} {n:Nat} {e:TypeId} (ht:P.underlying t=some (.array n e)) (h:Value.okWide P w r base t v):∃cs,v= .agg cs:=by
 simp only [Value.okWide,ht] at h;obtain ⟨cs,h1,_⟩:=h;exact ⟨cs,h1⟩
theorem walk (r:l9) (a1:Int) (ys:List UInt8) (w:World) (hr:vw w w.heap.size r) (hb:(Lit.int .u8 a1).wf=true) (hk:ys.length=2) (hL:fD w 0 (au um)):
  Calls Tryz.prog 4 #[.agg r.cells.toArray, .int .u8 a1, .agg (cellsB ys)] w fun e w'=>e= .returned (.bool true)∧Below w.heap.size w w':=by
 obtain ⟨u,v,rfl⟩:∃u v,ys= [u,v]:=by
  match ys,hk with
  | [u,v],_=>exact ⟨u,v,rfl⟩
 have h:=bounds_u8 hb;obtain ⟨m,rfl⟩:=Int.eq_ofNat_of_zero_le h.1;exact Ec w hL (Nat.lt_of_le_of_lt (Nat.zero_le _) hL.1) r hr m u.toNat v.toNat (by omega) u.toNat_lt v.toNat_lt
theorem door_met (os:Os) (args:Array Value):laidMetH Tryz.prog Rows.tableTamperingRow.laid ((World.doorLaid Tryz.prog 400 os).forCall (fun _ _=>0) ⟨#[],args,[]⟩).memory:=
 laidMetH_of_parts3 (fuel:=8) (laidMet_of_run' 8 (by kernel_rfl) (by kernel_rfl)) (by kernel_rfl) (by kernel_rfl)
set_option maxRecDepth 100000 in
theorem lifted (os:Os) (started:os.Started) (H:Type) (enc:TypeId×Value→H):
  ReturnsInHanded {} Tryz.checked os 4 .any (fun w args=>(Rows.tableTamperingSpec.pre enc Tryz.prog Tryz.f4 [] false w args∧laidMetH Tryz.prog Rows.tableTamperingRow.laid w)∧sizedMet enc Tryz.prog Tryz.f4 (OpenSpec.ofChange Rows.tableTamperingSpec) false w args)
   (Rows.tableTamperingSpec.post enc Tryz.prog Tryz.f4 false true false false):=by
 refine returnsInHanded_of_change_and (C:=Tryz.checked) (X:=fun w _=>laidMetH Tryz.prog Rows.tableTamperingRow.laid w) (fun _ _ _ hh h=>h.of_heap hh) own started (by kernel_rfl) Tryz.func4
  (ChangeSpec.witness_shaped (enc:=enc) (C:=Tryz.checked) (os:=os) (X:=fun w _=>laidMetH Tryz.prog Rows.tableTamperingRow.laid w) false (World.doorLaid Tryz.prog 400 os) #[.agg (l9.cells ⟨0,List.replicate 32 0,none,0,[]⟩).toArray, .int .u8 0, .agg (cellsB (List.replicate 2 0))] 8 rfl (World.shaped_of_RefB (by kernel_rfl) (by kernel_rfl)) (by kernel_rfl) (by kernel_rfl) (by kernel_rfl) (door_met os _)) ?_
 intro W base args ds gs before hval0 hW _ _ hL _;have hval:∀(j:Nat) t v,Tryz.f4.params[j]? =some t→args[j]? =some v→Value.okWide Tryz.prog W .any base t v:=hval0;have hW':=hW;obtain ⟨p,q,hA0,hV,rfl,hfz,hnd⟩:=hW;have hA:DataW.TrodAll enc Tryz.prog W 0 (fun _=>true) true Tryz.f4.params.toList args.toList ds p:=hA0;rw [Tryz.params4] at hA hval;obtain ⟨v0,vs0,d0,ds0,p0,q0,hargs,rfl,rfl,h0,r0⟩:=trodAll_cons hA;obtain ⟨v1,vs1,d1,ds1,p1,q1,rfl,rfl,rfl,h1,r1⟩:=trodAll_cons r0;obtain ⟨v2,vs2,d2,ds2,p2,q2,rfl,rfl,rfl,h2,r2⟩:=trodAll_cons r1;obtain ⟨rfl,rfl,rfl⟩:=trodAll_nil r2;obtain rfl:args= #[v0,v1,v2]:=by cases args;simp_all
 obtain ⟨rfl,rfl⟩:=trodVars_none hV;obtain ⟨cs,rfl,_⟩:=okWide_struct Tryz.underlying26 (hval 0 26 v0 rfl rfl);have k0:=h0;have k2:=h2;have lt2:∀x∈p2,x.block<W.heap.size:=by obtain ⟨m,hm⟩:=k2;exact DataW.trod_lt m _ _ _ hm
 have lt0:∀x∈p0,x.block<W.heap.size:=by obtain ⟨m,hm⟩:=k0;exact DataW.trod_lt m _ _ _ hm
 obtain ⟨fuel,hf⟩:=h0;obtain ⟨r,er,hr⟩:=op_raw hf;obtain rfl:cs=r.cells.toArray:=by rw [←er];simp [Value.cells]
 obtain ⟨a1,rfl,rfl,rfl,w1⟩:=open_int Tryz.underlying5 (hval 1 5 v1 rfl rfl) h1;obtain ⟨cs1,rfl⟩:=okWide_arr Tryz.underlying40 (hval 2 40 v2 rfl rfl);obtain ⟨fuel1,hf1⟩:=h2;obtain ⟨ky,hk,ek⟩:=Gp Tryz.underlying40 (by kernel_rfl) hf1;obtain rfl:cs1=cellsB ky:=by
  unfold cellsB aj;rw [←ek];simp [Value.cells]
 clear hA0 hval0;refine (walk r a1 ky W hr w1 hk (of_laid hL)).mono fun e W' ⟨he,bel⟩=>?_;subst he;exact ⟨_,rfl,_,_,_,[],_,[],hW',trodAll_mk1 (shut_bool Tryz.underlying4 _),(trodAll_cons_mk (Below.trod laidOut (by kernel_rfl) (of_decide_eq_true (by kernel_rfl)) k0 bel lt0) (trodAll_cons_mk (shut_int Tryz.underlying5 w1) (trodAll_cons_mk (Below.trod laidOut (by kernel_rfl) (of_decide_eq_true (by kernel_rfl)) k2 bel lt2) trodAll_mk0))),rfl,bel.frame _,fun h=>by cases h⟩
theorem over:Rows.TableTamperingSaid:=
 OpenClaim.holds_of_wide 4 Tryz.f4 rfl rfl rfl rfl rfl rfl rfl ⟨rfl,rfl,rfl,rfl,rfl⟩ rfl rfl rfl rfl rfl (by kernel_rfl) Tryz.func4 (by kernel_rfl)
  (of_decide_eq_true (by kernel_rfl)) (by unfold Func.isWrapper;first|(rw [if_pos (by decide+kernel)];kernel_rfl)|(rw [if_neg (by decide+kernel)];exact ⟨rfl,rfl⟩))
  (fun os started H enc _=>lifted os started H enc)
theorem proved:Rows.TableTamperingCardSaid:=
 Claim7.holds_tied_plain_at .later [] [.data] true Rows.tableTamperingCard.stood.harness true
  over (fun _ h=>by cases h) (by kernel_rfl) (fun _ h=>by cases h) tableTampering_row_tie rfl ⟨rfl,rfl⟩ (by kernel_rfl) rfl
  (fun f fn hf hfn=>by
   obtain rfl:f=4:=Option.some.inj ((show Tryz.prog.funcNamed "kalends/kalendslaw14.TableTampering" =some 4 by kernel_rfl).symm.trans hf) |>.symm;obtain rfl:fn=Tryz.f4:=(Option.some.inj (Tryz.func4.symm.trans hfn)).symm;exact ⟨by kernel_rfl,fun j t ht=>by
    rw [Tryz.params4] at ht;have hm:t∈ [26,5,40]:=by simpa using Array.mem_of_getElem? ht
    have hall:([26,5,40].all fun u=> !Tryz.prog.wantsStandIn u)=true:=by kernel_rfl
    exact (show Tryz.prog.wantsStandIn t=false by simpa using List.all_eq_true.1 hall t hm)⟩)
  (by kernel_rfl)
#print axioms proved
end Go.Proofs.YtdibbemgpikgjaaGreatDoor.tableTampering
