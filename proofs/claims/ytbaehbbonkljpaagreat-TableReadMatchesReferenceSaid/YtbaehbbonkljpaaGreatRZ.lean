/- TableReadMatchesReference: for all bytes, every raw chain and every two numbers the law returns true, and the arguments read afterwards as before. No condition. (The row's frame began as that of the law before.) -/
import Derived.Test.YtbaehbbonkljpaaGreatR00
import Derived.Test.YtbaehbbonkljpaaGreatRows
import Derived.Below
import Derived.ChangeOld
import Derived.Defers
import Derived.Laws.AppendOwnNone
import Derived.Laws.BitsAllLaws
import Derived.Laws.BytesArg
import Derived.Laws.Cover3
import Derived.Lib.AppendStr
import Derived.Lib.ByteType
import Derived.Lib.SmallJoins
import Derived.MapKept
import Derived.OpenShut
import Derived.ProofKit
import Derived.Recover
import Derived.Test.YtbaehbbonkljpaaGreatR49
namespace Go.Proofs.YtbaehbbonkljpaaGreat.tableReadMatchesReference
open Go Go.ChangeShapes Go.WideShapes Go.ChangeAt Go.RowKit
set_option maxRecDepth 100000
set_option linter.unusedVariables false
theorem own:ownKnob Tryz.prog.godebug=none:=by kernel_rfl
theorem laidOut:laidOutB Tryz.prog=true:=by kernel_rfl
def Q7 (k:IntKind) (w:World) (a:Option Addr) (len cap:Nat) (zs:List Int):Prop:=
 (a=none∧len=0∧cap=0∧zs= [])∨
 ∃x,a=some x∧len≤cap∧cap≤maxLen∧zs.length=cap∧(∀i,i<zs.length→w.cell? (x.add i)=some (.int k (zs.getD i 0)))∧∀n∈zs,(Lit.int k n).wf=true
theorem Iz {w:World} {a:Option Addr} {len cap:Nat} {zs:List Int} (h:Q7 .u8 w a len cap zs):
  ∃bs:List UInt8,bs.length=len∧BytesAt w w.heap.size a bs∧len≤cap∧cap≤9223372036854775807∧(a=none→cap=0):=by
 rcases h with ⟨rfl,rfl,rfl,rfl⟩|⟨x,rfl,hl,hm,hz,hc,hw⟩
 ·exact ⟨[],rfl, .inl rfl,Nat.le_refl _,by omega,fun _=>rfl⟩
 ·refine ⟨(zs.take len).map byteOf,by rw [List.length_map,List.length_take];omega,?_,hl,by unfold maxLen at hm;omega,fun h=>by cases h⟩;by_cases h0:len=0
  ·exact .inl (by rw [h0];rfl)
  ·obtain ⟨b,off,rfl,hcell⟩:=ints_at hc (by omega);have hb:b<w.heap.size:=by
    have h1:=hcell 0 (by omega);apply Classical.byContradiction;intro hn;have h2:w.heap[b]? =none:=Array.getElem?_eq_none (by omega);simp [World.cell?,h2] at h1
   refine .inr ⟨b,off,rfl,hb,fun j hj=>?_⟩;rw [List.length_map,List.length_take] at hj;have hjl:j<zs.length:=by omega
   obtain ⟨z,hzj⟩:∃z,zs[j]? =some z:=⟨_,bZ hjl⟩;have hr:=bounds_u8 (hw z (gU hzj));have e1:zs.getD j 0=z:=by rw [List.getD_eq_getElem?_getD,hzj];rfl
   have e2:(((zs.take len).map byteOf)[j]?.getD 0)=byteOf z:=by rw [List.getElem?_map,List.getElem?_take_of_lt (by omega),hzj];rfl
   rw [hcell j hjl,e1,e2,fQ,Int.emod_eq_of_lt hr.1 (by omega)]
theorem okWide_arr {P:Program} {w:World} {r:Reach} {base:Nat} {t:TypeId} {v:Value} {n:Nat} {e:TypeId} (ht:P.underlying t=some (.array n e)) (h:Value.okWide P w r base t v):∃cs,v= .agg cs:=by
 simp only [Value.okWide,ht] at h;obtain ⟨cs,h1,_⟩:=h;exact ⟨cs,h1⟩
theorem XA {H:Type} {enc:TypeId×Value→H} {W:World} {fuel:Nat} {cs:List Value} {x:DataW H×List MemPlace} (h:DataW.trod enc Tryz.prog W 0 (fun _=>true) true fuel 29 cs=some x):
  ∃u v:Int,cs= [.int .u16 u, .int .u16 v]∧(Lit.int .u16 u).wf=true∧(Lit.int .u16 v).wf=true:=by
 obtain ⟨xs,m,_,_,hlen,hxl,hi⟩:=DataW.trod_array Tryz.underlying29 h;have h1:Tryz.prog.cellsOf 28=1:=by kernel_rfl
 have h2:Tryz.prog.cellsOf 29=2:=by kernel_rfl
 rw [h2] at hlen
 match cs,hlen with
 | [p,q],_=>
  have e0:=hi 0 (by omega);have e1:=hi 1 (by omega);rw [h1,bZ (by omega)] at e0 e1;obtain ⟨u,hu,_,wu⟩:=DataW.trod_int Tryz.underlying28 e0;obtain ⟨v,hv,_,wv⟩:=DataW.trod_int Tryz.underlying28 e1;simp at hu hv;exact ⟨u,v,by rw [hu,hv],wu,wv⟩
theorem walk (a0:Option Addr) (len0 cap0:Nat) (z0:List Int) (r:nU) (x y:Int) (w:World) (w0:Q7 .u8 w a0 len0 cap0 z0) (hr:uN w w.heap.size r) (h2:(Lit.int .u16 x).wf=true):
  Calls Tryz.prog 3 #[.slice a0 len0 cap0, .agg r.cells.toArray, .agg #[.int .u16 x, .int .u16 y]] w fun e w'=>e= .returned (.bool true)∧Below w.heap.size w w':=by
 obtain ⟨bs,b1,b2,b3,b4,_⟩:=Iz w0;have g2:=bounds_u16 h2;exact tq w a0 bs len0 cap0 r x y b1 b3 b4 b2 hr g2.1 (by omega)
set_option maxRecDepth 100000 in
theorem lifted (os:Os) (started:os.Started) (H:Type) (enc:TypeId×Value→H):
  ReturnsInHanded {} Tryz.checked os 3 .any (Rows.tableReadMatchesReferenceSpec.pre6 enc Tryz.prog Tryz.f3 Rows.tableReadMatchesReferenceRow.domain false) (Rows.tableReadMatchesReferenceSpec.post enc Tryz.prog Tryz.f3 false true false false):=by
 refine returnsInHanded_of_change (C:=Tryz.checked) own started (by kernel_rfl) Tryz.func3
  (ChangeSpec.witness6 (enc:=enc) (C:=Tryz.checked) false ⟨#[],#[.slice none 0 0, .agg (nU.cells ⟨0,List.replicate 32 0,none,0,[]⟩).toArray, .agg #[.int .u16 0, .int .u16 0]],[]⟩ 8 (by kernel_rfl) (by kernel_rfl) (by kernel_rfl) (by kernel_rfl)) ?_
 intro W base args ds gs before hval0 hW hcnd _;have hval:∀(j:Nat) t v,Tryz.f3.params[j]? =some t→args[j]? =some v→Value.okWide Tryz.prog W .any base t v:=hval0;have hW':=hW;obtain ⟨p,q,hA0,hV,rfl,hfz,hnd⟩:=hW;have hA:DataW.TrodAll enc Tryz.prog W 0 (fun _=>true) true Tryz.f3.params.toList args.toList ds p:=hA0;rw [Tryz.params3] at hA hval;obtain ⟨v0,vs0,d0,ds0,p0,q0,hargs,rfl,rfl,h0,r0⟩:=trodAll_cons hA;obtain ⟨v1,vs1,d1,ds1,p1,q1,rfl,rfl,rfl,h1,r1⟩:=trodAll_cons r0;obtain ⟨v2,vs2,d2,ds2,p2,q2,rfl,rfl,rfl,h2,r2⟩:=trodAll_cons r1;obtain ⟨rfl,rfl,rfl⟩:=trodAll_nil r2;obtain rfl:args= #[v0,v1,v2]:=by cases args;simp_all
 obtain ⟨rfl,rfl⟩:=trodVars_none hV;obtain ⟨a0,len0,cap0,rfl⟩:=okWide_slice Tryz.underlying22 (hval 0 22 v0 rfl rfl);obtain ⟨cs,rfl,_⟩:=okWide_struct Tryz.underlying27 (hval 1 27 v1 rfl rfl);have k0:=h0;have k1:=h1;have lt0:∀x∈p0,x.block<W.heap.size:=by obtain ⟨m,hm⟩:=k0;exact DataW.trod_lt m _ _ _ hm
 have lt1:∀x∈p1,x.block<W.heap.size:=by obtain ⟨m,hm⟩:=k1;exact DataW.trod_lt m _ _ _ hm
 obtain ⟨z0,w0⟩:∃zs,Q7 .u8 W a0 len0 cap0 zs:=by
  obtain ⟨fuel,hf⟩:=h0;rcases open_ints Tryz.underlying22 Tryz.underlying5 (by kernel_rfl) hf with ⟨hcs,_⟩|⟨x,l,c,zs,hcs,_,hl,hm,hz,_,hcell,hwz⟩
  ·simp [Value.cells] at hcs;obtain ⟨rfl,rfl,rfl⟩:=hcs;exact ⟨[], .inl ⟨rfl,rfl,rfl,rfl⟩⟩
  ·simp [Value.cells] at hcs;obtain ⟨rfl,rfl,rfl⟩:=hcs;exact ⟨zs, .inr ⟨_,rfl,hl,hm,by simpa using hz,hcell,hwz⟩⟩
 obtain ⟨fuel,hf⟩:=h1;obtain ⟨r,er,hr⟩:=op_raw hf;obtain rfl:cs=r.cells.toArray:=by rw [←er];simp [Value.cells]
 obtain ⟨cs2,rfl⟩:=okWide_arr Tryz.underlying29 (hval 2 29 v2 rfl rfl);have k2:=h2;have lt2:∀x∈p2,x.block<W.heap.size:=by obtain ⟨m,hm⟩:=k2;exact DataW.trod_lt m _ _ _ hm
 obtain ⟨fuel2,hf2⟩:=h2;obtain ⟨x2,y2,e2,w2,_⟩:=XA hf2;obtain rfl:cs2= #[.int .u16 x2, .int .u16 y2]:=by
  have h:cs2.toList= [.int .u16 x2, .int .u16 y2]:=by rw [←e2];simp [Value.cells]
  rw [←Array.toArray_toList (xs:=cs2),h]
 clear hA0 hval0;refine (walk a0 len0 cap0 z0 r x2 y2 W w0 hr w2).mono fun e W' ⟨he,bel⟩=>?_;subst he;exact ⟨_,rfl,_,_,_,[],_,[],hW',trodAll_mk1 (shut_bool Tryz.underlying4 _),(trodAll_cons_mk (Below.trod laidOut (by kernel_rfl) (of_decide_eq_true (by kernel_rfl)) k0 bel lt0) (trodAll_cons_mk (Below.trod laidOut (by kernel_rfl) (of_decide_eq_true (by kernel_rfl)) k1 bel lt1) (trodAll_cons_mk (Below.trod laidOut (by kernel_rfl) (of_decide_eq_true (by kernel_rfl)) k2 bel lt2) trodAll_mk0))),rfl,bel.frame _,fun h=>by cases h⟩
theorem over:Rows.tableReadMatchesReferenceRow.holds Tryz.pinned (OpenSpec.ofChange Rows.tableReadMatchesReferenceSpec):=
 OpenClaim.holds_of_wide 3 Tryz.f3 rfl rfl rfl rfl rfl rfl rfl ⟨rfl,rfl,rfl,rfl,rfl⟩ rfl rfl rfl rfl rfl (by kernel_rfl) Tryz.func3 (by kernel_rfl)
  (of_decide_eq_true (by kernel_rfl)) (by unfold Func.isWrapper;first|(rw [if_pos (by decide+kernel)];kernel_rfl)|(rw [if_neg (by decide+kernel)];exact ⟨rfl,rfl⟩))
  (fun os started H enc _=>lifted os started H enc)
theorem proved:Rows.TableReadMatchesReferenceSaid:=
 over
#print axioms proved
end Go.Proofs.YtbaehbbonkljpaaGreat.tableReadMatchesReference
