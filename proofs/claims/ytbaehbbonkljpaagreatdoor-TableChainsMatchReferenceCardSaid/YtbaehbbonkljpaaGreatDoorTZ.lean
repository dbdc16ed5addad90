/- TableChainsMatchReference: for every raw chain, every table and every three bytes the law returns true, and the arguments read afterwards as before; then its tied card. No condition but the row's own: the listed variable kalends/digest.rounds starts as the program's text lays it (the tie is given). (The row's frame began as that of the law before.) -/
import Derived.Test.YtbaehbbonkljpaaGreatDoorRows
import Derived.Test.YtbaehbbonkljpaaGreatDoorTie
import Derived.Test.YtbaehbbonkljpaaGreatDoorCards
import Derived.Below
import Derived.ChangeOld
import Derived.Deep.Strs
import Derived.WideShapes
import Derived.ChangeShapes
import Derived.LaidMore
import Derived.ProofKit
import Derived.SevenTiedAt
import Derived.ShutString
import Derived.Stop.Joined
import Derived.Test.YtbaehbbonkljpaaGreatDoorT49
import Derived.Test.YtbaehbbonkljpaaGreatDoorT50
namespace Go.Proofs.YtbaehbbonkljpaaGreatDoor.tableChainsMatchReference
open Go Go.ChangeShapes Go.WideShapes Go.ChangeAt Go.RowKit
set_option maxRecDepth 100000
set_option linter.unusedVariables false
theorem own:ownKnob Tryz.prog.godebug=none:=by kernel_rfl
theorem laidOut:laidOutB Tryz.prog=true:=by kernel_rfl
theorem anN:Tryz.prog.globalNamed "kalends/digest.rounds" =some 0:=by kernel_rfl
theorem aoE:(Tryz.prog.globals[0]?).map (·.type)=some 190:=by kernel_rfl
set_option maxRecDepth 100000 in
theorem of_laid {W:ae}(h:laidMetH Tryz.prog Rows.tableChainsMatchReferenceRow.laid W):MS W 0 (JP Qm):=by
 rw[MakeChecks.laidMetH_plain _ _ _ (by kernel_rfl)] at h;obtain⟨ps,⟨g0,t0,cs0,f0,p0,q0,hg0,ht0,hv0,hd0,_,_⟩,_,_⟩:=h;obtain rfl:=iO (anN.symm.trans hg0);obtain rfl:=iO (aoE.symm.trans ht0);obtain⟨xs,m1,rfl,hx1,hlen,hn,hel⟩:=mJ iD hd0;have c1:Tryz.prog.cellsOf 154=1:=by kernel_rfl
 have c2:Tryz.prog.cellsOf 190=64:=by kernel_rfl
 rw[c2] at hlen;have hl:xs.map (·.1)=Qm.map (fun n=>(DataW.lit (.int .u32 n):DataW Unit)):=by
  have h1:=dA Prod.fst hx1;have h2:(DataW.agg (Qm.map (fun n=>(DataW.lit (.int .u32 n):DataW Unit))):DataW Unit)=.agg (xs.map (·.1)):=Eq.trans (by rfl) h1;injection h2 with h3;exact h3.symm
 have hrl:Qm.length=64:=by rfl
 generalize Qm=L at hl hrl⊢;have hcs:cs0=JP L:=by
  rw[<-lh (xs:=cs0)];unfold JP;congr 1;apply lU;intro i;by_cases hi:i<64
  ·have h1:=hel i (by omega);rw[c1,fA,KL (by omega)] at h1;obtain⟨n,e,ex,_⟩:=nV Tryz.underlying154 h1;have h3:(xs.map (·.1))[i]? =some (DataW.lit (.int .u32 n)):=by rw[aJ,KL (by omega),ex];rfl
   rw[hl,aJ,KL (by omega)] at h3;have h4:L[i]'(by omega)=n:=by simpa using h3
   have h5:((cs0.toList.drop i).take 1)[0]? =cs0.toList[i]? :=by rw[dK (by omega),jL,jX]
   rw[<-h5,e,aJ,KL (show i<L.length by omega),h4];rfl
  ·rw[jP (by omega),jP (by rw[aI];omega)]
 have hcell:=World.var?_cell hg0 hv0;rw[hcs] at hcell;refine⟨?_,hcell⟩;have h0:=hcell 0;apply fZ;intro hn;have h2:W.heap[0]? =none:=iI (by omega);rw[KT L 0 (by omega)] at h0;simp[World.cell?,h2] at h0
theorem okWide_arr {P:Program}{w:ae}{r:Reach}{base:Nat}{t:TypeId}{v:ah}{n:Nat}{e:TypeId}(ht:P.underlying t=some (.array n e))(h:Value.okWide P w r base t v):∃cs,v=.agg cs:=by
 simp only[Value.okWide,ht] at h;obtain⟨cs,h1,_⟩:=h;exact⟨cs,h1⟩
theorem walk (r:OB)(x:Kv)(ys:ag au)(w:ae)(hr:VT w w.heap.size r)(hx:Ld w w.heap.size x)(hk:ys.length=3)(hL:MS w 0 (JP Qm)):
  Calls Tryz.prog 4 #[.agg r.cells.toArray,.agg (JK x.t (.slice x.A x.zs.length x.c)),.agg (cellsB ys)] w fun e w'=>e=.returned (.bool true)/\ai w.heap.size w w':=by
 obtain⟨t,u,v,rfl⟩:∃t u v,ys= [t,u,v]:=by
  match ys,hk with
  | [t,u,v],_=>exact⟨t,u,v,rfl⟩
 exact WA w hL (Nat.lt_of_le_of_lt (aG _) hL.1) r x t.toNat u.toNat v.toNat t.toNat_lt u.toNat_lt v.toNat_lt hx hr
theorem door_met (os:Os)(args:ax ah):laidMetH Tryz.prog Rows.tableChainsMatchReferenceRow.laid ((World.doorLaid Tryz.prog 400 os).forCall (fun _ _=>0) ⟨#[],args,[]⟩).memory:=
 laidMetH_of_parts3 (fuel:=8) (laidMet_of_run' 8 (by kernel_rfl) (by kernel_rfl)) (by kernel_rfl) (by kernel_rfl)
set_option maxRecDepth 100000 in
theorem lifted (os:Os)(started:os.Started)(H:Type)(enc:TypeId×ah->H):
  ReturnsInHanded {} Tryz.checked os 4 .any (fun w args=>(Rows.tableChainsMatchReferenceSpec.pre enc Tryz.prog Tryz.f4 [] false w args/\laidMetH Tryz.prog Rows.tableChainsMatchReferenceRow.laid w)/\sizedMet enc Tryz.prog Tryz.f4 (OpenSpec.ofChange Rows.tableChainsMatchReferenceSpec) false w args)
   (Rows.tableChainsMatchReferenceSpec.post enc Tryz.prog Tryz.f4 false true false false):=by
 refine returnsInHanded_of_change_and (C:=Tryz.checked) (X:=fun w _=>laidMetH Tryz.prog Rows.tableChainsMatchReferenceRow.laid w) (fun _ _ _ hh h=>h.of_heap hh) own started (by kernel_rfl) Tryz.func4
  (ChangeSpec.witness_shaped (enc:=enc) (C:=Tryz.checked) (os:=os) (X:=fun w _=>laidMetH Tryz.prog Rows.tableChainsMatchReferenceRow.laid w) false (World.doorLaid Tryz.prog 400 os) #[.agg (OB.cells ⟨0,List.replicate 32 0,none,0,[]⟩).toArray,.agg (JK J8 (.slice none 0 0)),.agg (cellsB (List.replicate 3 0))] 8 rfl (World.shaped_of_RefB (by kernel_rfl) (by kernel_rfl)) (by kernel_rfl) (by kernel_rfl) (by kernel_rfl) (door_met os _)) ?_
 intro W base args ds gs before hval0 hW _ _ hL _;have hval:∀(j:Nat) t v,Tryz.f4.params[j]? =some t->args[j]? =some v->Value.okWide Tryz.prog W .any base t v:=hval0;have hW':=hW;obtain⟨p,q,hA0,hV,rfl,hfz,hnd⟩:=hW;have hA:DataW.TrodAll enc Tryz.prog W 0 (fun _=>true) true Tryz.f4.params.toList args.toList ds p:=hA0;rw[Tryz.params4] at hA hval;obtain⟨v0,vs0,d0,ds0,p0,q0,hargs,rfl,rfl,h0,r0⟩:=trodAll_cons hA;obtain⟨v1,vs1,d1,ds1,p1,q1,rfl,rfl,rfl,h1,r1⟩:=trodAll_cons r0;obtain⟨v2,vs2,d2,ds2,p2,q2,rfl,rfl,rfl,h2,r2⟩:=trodAll_cons r1;obtain⟨rfl,rfl,rfl⟩:=trodAll_nil r2;obtain rfl:args= #[v0,v1,v2]:=by cases args;simp_all
 obtain⟨rfl,rfl⟩:=trodVars_none hV;obtain⟨cs,rfl,_⟩:=okWide_struct lX (hval 0 29 v0 rfl rfl);obtain⟨ct,rfl,_⟩:=okWide_struct az (hval 1 26 v1 rfl rfl);obtain⟨cs1,rfl⟩:=okWide_arr Tryz.underlying36 (hval 2 36 v2 rfl rfl);have k0:=h0;have k1:=h1;have k2:=h2;have lt0:∀x∈p0,x.block<W.heap.size:=by obtain⟨m,hm⟩:=k0;exact oG m _ _ _ hm
 have lt1:∀x∈p1,x.block<W.heap.size:=by obtain⟨m,hm⟩:=k1;exact oG m _ _ _ hm
 have lt2:∀x∈p2,x.block<W.heap.size:=by obtain⟨m,hm⟩:=k2;exact oG m _ _ _ hm
 obtain⟨fuel,hf⟩:=h0;obtain⟨r,er,hr⟩:=asG hf;obtain rfl:cs=r.cells.toArray:=by rw[<-er];simp[Value.cells]
 obtain⟨fuel0,hf0⟩:=h1;obtain⟨x,ex,hx⟩:=asI hf0;obtain rfl:ct=JK x.t (.slice x.A x.zs.length x.c):=by
  have h:ct.toList=(JK x.t (.slice x.A x.zs.length x.c)).toList:=by rw[<-ex];simp[Value.cells]
  rw[<-lh (xs:=ct),h,lh]
 obtain⟨fuel1,hf1⟩:=h2;obtain⟨ky,hk,ek⟩:=XO Tryz.underlying36 (by kernel_rfl) hf1;obtain rfl:cs1=cellsB ky:=by
  unfold cellsB JO;rw[<-ek];simp[Value.cells]
 clear hA0 hval0;refine(walk r x ky W hr hx hk (of_laid hL)).mono fun e W' ⟨he,bel⟩=>?_;subst he;exact⟨_,rfl,_,_,_,[],_,[],hW',trodAll_mk1 (shut_bool je _),(ni (Below.trod laidOut (by kernel_rfl) (gZ (by kernel_rfl)) k0 bel lt0) (ni (Below.trod laidOut (by kernel_rfl) (gZ (by kernel_rfl)) k1 bel lt1) (ni (Below.trod laidOut (by kernel_rfl) (gZ (by kernel_rfl)) k2 bel lt2) trodAll_mk0))),rfl,bel.frame _,fun h=>by cases h⟩
theorem over:Rows.TableChainsMatchReferenceSaid:=
 OpenClaim.holds_of_wide 4 Tryz.f4 rfl rfl rfl rfl rfl rfl rfl ⟨rfl,rfl,rfl,rfl,rfl⟩ rfl rfl rfl rfl rfl (by kernel_rfl) Tryz.func4 (by kernel_rfl)
  (gZ (by kernel_rfl)) (by unfold Func.isWrapper;first|(rw[bD (by decide+kernel)];kernel_rfl)|(rw[bP (by decide+kernel)];exact⟨rfl,rfl⟩))
  (fun os started H enc _=>lifted os started H enc)
theorem proved:Rows.TableChainsMatchReferenceCardSaid:=
 Claim7.holds_tied_plain_at .later [] [.data] true Rows.tableChainsMatchReferenceCard.stood.harness true
  over (fun _ h=>by cases h) (by kernel_rfl) (fun _ h=>by cases h) tableChainsMatchReference_row_tie rfl ⟨rfl,rfl⟩ (by kernel_rfl) rfl
  (fun f fn hf hfn=>by
   obtain rfl:f=4:=iO ((show Tryz.prog.funcNamed "kalends/kalendslaw14.TableChainsMatchReference" =some 4 by kernel_rfl).symm.trans hf) |>.symm;obtain rfl:fn=Tryz.f4:=(iO (Tryz.func4.symm.trans hfn)).symm;exact ⟨by kernel_rfl,fun j t ht=>by
    rw[Tryz.params4] at ht;have hm:t∈ [29,26,36]:=by simpa using Array.mem_of_getElem? ht
    have hall:([29,26,36].all fun u=> !Tryz.prog.wantsStandIn u)=true:=by kernel_rfl
    exact(show Tryz.prog.wantsStandIn t=false by simpa using iF.1 hall t hm)⟩)
  (by kernel_rfl)
#print axioms proved
end Go.Proofs.YtbaehbbonkljpaaGreatDoor.tableChainsMatchReference
