/- The texts Ns0, Na, Nb, in this order. -/
import Derived.Test.YtdibbemgpikgjaaGreatDoorY00
import Derived.Shelf.SlSortCmp.WholeK
import Derived.Shelf.SlicesG.Cmp
import Derived.Sort.QuietTacIn
import Derived.Test.YtdibbemgpikgjaaGreatDoorY01
import Derived.Test.YtdibbemgpikgjaaGreatDoorY03
import Derived.Test.YtdibbemgpikgjaaGreatDoorY10
set_option maxRecDepth 10000
set_option maxHeartbeats 8000000
namespace Go.Proofs.YtdibbemgpikgjaaGreatDoor
open Go Go.RowKit
section
open Go.Shelf
def MQ:Go.Shelf.Ren:=⟨fun|6=>106|15=>123|14=>122|28=>137|29=>138|20=>129|21=>130|22=>131|23=>132|24=>133|25=>134|26=>135|27=>136|46=>142|47=>143|48=>144|49=>145|50=>146|57=>149|n=>n,fun|22=>64|24=>127|25=>208|3=>3|39=>197|0=>0|53=>116|55=>168|4=>4|46=>229|45=>228|50=>97|5=>5|9=>9|66=>237|70=>109|76=>245|77=>222|n=>n,fun|n=>n⟩
theorem Ui:SlLaysF0.n6 Tryz.prog MQ:= {
 mixed:=by kernel_rfl
 f6:=⟨Tryz.f106.name,by decide,Tryz.func106.trans (congrArg some (by kernel_rfl))⟩
 f14:=⟨Tryz.f122.name,by decide,Tryz.func122.trans (congrArg some (by kernel_rfl))⟩
 f15:=Tryz.func123.trans (congrArg some (by kernel_rfl))
 f20:=⟨Tryz.f129.name,by decide,Tryz.func129.trans (congrArg some (by kernel_rfl))⟩
 f21:=⟨Tryz.f130.name,by decide,Tryz.func130.trans (congrArg some (by kernel_rfl))⟩
 f22:=⟨Tryz.f131.name,by decide,Tryz.func131.trans (congrArg some (by kernel_rfl))⟩
 f23:=⟨Tryz.f132.name,by decide,Tryz.func132.trans (congrArg some (by kernel_rfl))⟩
 f24:=⟨Tryz.f133.name,by decide,Tryz.func133.trans (congrArg some (by kernel_rfl))⟩
 f25:=⟨Tryz.f134.name,by decide,Tryz.func134.trans (congrArg some (by kernel_rfl))⟩
 f26:=⟨Tryz.f135.name,by decide,Tryz.func135.trans (congrArg some (by kernel_rfl))⟩
 f27:=⟨Tryz.f136.name,by decide,Tryz.func136.trans (congrArg some (by kernel_rfl))⟩
 f28:=Tryz.func137.trans (congrArg some (by kernel_rfl))
 f29:=Tryz.func138.trans (congrArg some (by kernel_rfl))
 f46:=⟨Tryz.f142.name,by decide,Tryz.func142.trans (congrArg some (by kernel_rfl))⟩
 f47:=Tryz.func143.trans (congrArg some (by kernel_rfl))
 f48:=Tryz.func144.trans (congrArg some (by kernel_rfl))
 f49:=⟨Tryz.f145.name,by decide,Tryz.func145.trans (congrArg some (by kernel_rfl))⟩
 f50:=⟨Tryz.f146.name,by decide,Tryz.func146.trans (congrArg some (by kernel_rfl))⟩
 f57:=⟨Tryz.f149.name,by decide,Tryz.func149.trans (congrArg some (by kernel_rfl))⟩
 t0:=Tryz.underlying0
 a0:=Tryz.isAgg0
 z0:=Tryz.sizeOf0
 v0:=Tryz.zeroValue0
 t3:=Tryz.underlying3
 a3:=Tryz.isAgg3
 z3:=Tryz.sizeOf3
 v3:=Tryz.zeroValue3
 t4:=Tryz.underlying4
 a4:=Tryz.isAgg4
 z4:=Tryz.sizeOf4
 v4:=Tryz.zeroValue4
 t5:=Tryz.underlying5
 a5:=Tryz.isAgg5
 z5:=Tryz.sizeOf5
 v5:=Tryz.zeroValue5
 t9:=Tryz.underlying9
 a9:=Tryz.isAgg9
 z9:=Tryz.sizeOf9
 v9:=Tryz.zeroValue9
 t22:=Tryz.underlying64
 a22:=Tryz.isAgg64
 z22:=Tryz.sizeOf64
 v22:=Tryz.zeroValue64
 t25:=Tryz.underlying208
 a25:=Tryz.isAgg208
 z25:=Tryz.sizeOf208
 v25:=Tryz.zeroValue208
 t39:=Tryz.underlying197
 a39:=Tryz.isAgg197
 z39:=Tryz.sizeOf197
 v39:=Tryz.zeroValue197
 t45:=Tryz.underlying228
 a45:=Tryz.isAgg228
 z45:=Tryz.sizeOf228
 v45:=Tryz.zeroValue228
 t46:=Tryz.underlying229
 a46:=Tryz.isAgg229
 z46:=Tryz.sizeOf229
 v46:=Tryz.zeroValue229
 t50:=Tryz.underlying97
 a50:=Tryz.isAgg97
 z50:=Tryz.sizeOf97
 v50:=Tryz.zeroValue97
 t53:=Tryz.underlying116
 a53:=Tryz.isAgg116
 z53:=Tryz.sizeOf116
 v53:=Tryz.zeroValue116
 t55:=Tryz.underlying168
 a55:=Tryz.isAgg168
 z55:=Tryz.sizeOf168
 v55:=Tryz.zeroValue168
 t66:=Tryz.underlying237
 a66:=Tryz.isAgg237
 z66:=Tryz.sizeOf237
 v66:=Tryz.zeroValue237
 t70:=Tryz.underlying109
 a70:=Tryz.isAgg109
 z70:=Tryz.sizeOf109
 v70:=Tryz.zeroValue109
 t76:=Tryz.underlying245
 a76:=Tryz.isAgg245
 z76:=Tryz.sizeOf245
 v76:=Tryz.zeroValue245
 t77:=Tryz.underlying222
 a77:=Tryz.isAgg222
 z77:=Tryz.sizeOf222
 v77:=Tryz.zeroValue222}
def Lc:Go.Shelf.Ren:=⟨fun|5=>108|7=>124|n=>n,fun|22=>3|3=>3|4=>4|n=>n,fun|n=>n⟩
theorem cmpInt:SlLaysC2.n5 Tryz.prog Lc:= {
 mixed:=by kernel_rfl
 f5:=⟨Tryz.f108.name,by decide,Tryz.func108.trans (congrArg some (by kernel_rfl))⟩
 f7:=⟨Tryz.f124.name,by decide,Tryz.func124.trans (congrArg some (by kernel_rfl))⟩
 t3:=Tryz.underlying3
 a3:=Tryz.isAgg3
 z3:=Tryz.sizeOf3
 v3:=Tryz.zeroValue3
 t4:=Tryz.underlying4
 a4:=Tryz.isAgg4
 z4:=Tryz.sizeOf4
 v4:=Tryz.zeroValue4
 t22:=Tryz.underlying3
 a22:=Tryz.isAgg3
 z22:=Tryz.sizeOf3
 v22:=Tryz.zeroValue3}
end
instance:Inhabited Tr:=⟨⟨0,0⟩⟩
def EI (x y:Tr):Int:=Lib.compareInt x.at_ y.at_
theorem WT (x y:Tr):Go.Proofs.ltOf EI x y=decide (x.at_<y.at_):=by
 unfold Go.Proofs.ltOf EI Lib.compareInt;by_cases h1:x.at_<y.at_
 ·simp [h1]
 ·by_cases h2:y.at_<x.at_<;>simp [h1,h2]
theorem swoTr:Go.Sort.SWO (Go.Proofs.ltOf EI) where
 irrefl x:=by rw [WT];simp
 trans x y z h1 h2:=by rw [WT] at*;simp at*;omega
 ntrans x y z h1 h2:=by rw [WT] at*;simp at*;omega
theorem Xv (x y:Tr) (W:World):Calls Tryz.prog 107 #[.agg #[I x.at_,I x.off], .agg #[I y.at_,I y.off]] W fun e w'=>e= .returned (I (EI x y))∧∃q os',w'=Go.Sort.grow (W.drewN q) os':=by
 have hcon:=fun W'=>Go.Proofs.AnyG.cmp_Compare_int cmpInt x.at_ y.at_ W';change∀W',Calls Tryz.prog 108 _ _ _ at hcon;have HC:=ae hcon;clear hcon;unfold EI;generalize Lib.compareInt x.at_ y.at_=r at HC ⊢;go_enter Tryz.func107,Tryz.ntmps107;go_wp2_with fail;refine (HC.out _).mono ?_;rintro e w1 ⟨rfl,rfl⟩;go_wp2_with fail;go_ret;exact ⟨rfl,0,_,by rw [Go.Sort.alloc_eq_grow,Go.Sort.alloc_eq_grow,Go.Sort.grow_grow];rfl⟩
theorem Qd {w:World} {g m:Nat} {d:Array Tr} {os:Array Obj} {cur:Array Value} {t:TypeId} (h:w.heap[g]? =some (.cells cur t (0,0))):
  (Go.Proofs.sortWorldK Tr.cells 2 w g 0 m d os).heap[g]? =some (.cells (Go.Sort.putCells id 0 (Go.Sort.flatK Tr.cells 2 d) cur) t (0,0)):=by
 have hg:=(bT.1 h).1;unfold Go.Proofs.sortWorldK Go.Sort.grow Go.Sort.putRowK Go.Sort.putRow Go.Sort.mapBlock Go.Sort.ahead;simp only;rw [Array.getElem?_append_left (by simpa using hg),Array.getElem?_modify,if_pos rfl,h];rfl
theorem MR {w:World} {g m:Nat} {d:Array Tr} {os:Array Obj}:w.grownBy (Go.Proofs.sortWorldK Tr.cells 2 w g 0 m d os) (some g):=by
 refine ⟨rfl,rfl,rfl,?_,fun k hk hn=>?_⟩
 ·unfold Go.Proofs.sortWorldK Go.Sort.grow Go.Sort.putRowK Go.Sort.putRow Go.Sort.mapBlock Go.Sort.ahead;simp
 ·have hne:g≠k:=fun e=>hn (by rw [e]);unfold Go.Proofs.sortWorldK Go.Sort.grow Go.Sort.putRowK Go.Sort.putRow Go.Sort.mapBlock Go.Sort.ahead;simp only;rw [Array.getElem?_append_left (by simpa using hk),Array.getElem?_modify,if_neg hne]
theorem EJ (d:Array Tr) (j:Nat) (hj:j<d.size*2):(Go.Sort.flatK Tr.cells 2 d)[j]? =(d.toList.flatMap Tr.cells)[j]? :=by
 have hq:j / 2<d.size:=by omega
 have hx:d.toList[j / 2]? =some d[j / 2]! :=by
  rw [Array.getElem?_toList,Array.getElem?_eq_getElem hq,getElem!_pos d (j / 2) hq]
 have h1:=flat_get (s:=2) Tr.cells d.toList (fun _ _=>rfl) (j / 2) (j%2) d[j / 2]! hx (by omega);rw [show j / 2*2+j%2=j by omega] at h1;rw [h1];unfold Go.Sort.flatK;rw [Array.getElem?_map,Array.getElem?_range,if_pos hj];have h2:j%2=0∨j%2=1:=by omega
 rcases h2 with h2|h2<;>rw [Option.map_some,h2]<;>rfl
theorem Uj {lo g n c m:Nat} {w:World} {ts:List Tr} {d:Array Tr} {os:Array Obj} (h:iE lo w (some ⟨g,0,none⟩) n c ts) (hd:d.size=n):
  iE lo (Go.Proofs.sortWorldK Tr.cells 2 w g 0 m d os) (some ⟨g,0,none⟩) n c d.toList:=by
 obtain ⟨h0,⟨hv,hn⟩|⟨g',cap,cur,hv,hg,hh,hc,hm,hs,ht⟩⟩:=h
 ·cases hv
 ·injection hv with h1 h2 h3;injection h1 with h1;injection h1 with h1;subst h1 h3;have hfl:(d.toList.flatMap Tr.cells).length=n*2:=by rw [dD (s:=2) Tr.cells _ (fun _ _=>rfl),Array.length_toList,hd]
  refine ⟨hfl, .inr ⟨g,c,_,rfl,hg,Qd hh,hc,hm,by rw [←hs];simp [Go.Sort.putCells],?_⟩⟩;apply List.ext_getElem?;intro j;rw [List.getElem?_take];by_cases hj:j<n*2
  ·rw [if_pos hj,Array.getElem?_toList,←EJ d j (by rw [hd];exact hj)];have hfs:(Go.Sort.flatK Tr.cells 2 d).size=n*2:=by simp [Go.Sort.flatK,hd]
   have hcs:j<cur.size:=by rw [hs];exact dP hj (Nat.mul_le_mul_right 2 hc)
   unfold Go.Sort.putCells;rw [Array.getElem?_mapIdx,Array.getElem?_eq_getElem hcs,Option.map_some,if_pos ⟨Nat.zero_le _,by rw [hfs];omega⟩,Nat.sub_zero,Array.getElem?_eq_getElem (by rw [hfs];exact hj),getElem!_pos _ j (by rw [hfs];exact hj)];rfl
  ·rw [if_neg hj,List.getElem?_eq_none (by rw [hfl];omega)]
theorem MP {lo g n c:Nat} {w:World} {ts:List Tr} (h:iE lo w (some ⟨g,0,none⟩) n c ts) (hl:ts.length=n) (hn:n≤1000):
  Calls Tryz.prog 106 #[.slice (some ⟨g,0,none⟩) n c, .func (.func 107) #[] #[]] w fun e w'=>
   e= .returned (.tuple #[])∧∃us:List Tr,us.Perm ts∧us.Pairwise (fun a b=>a.at_≤b.at_)∧iE lo w' (some ⟨g,0,none⟩) n c us∧w.grownBy w' (some g):=by
 have hH:Go.Sort.HoldsK Tr.cells 2 w g 0 ts.toArray:=by
  intro j hj;have hj2:j<n*2:=by
   have:(Go.Sort.flatK Tr.cells 2 ts.toArray).size=n*2:=by simp [Go.Sort.flatK,hl]
   omega
  have h3:=EJ ts.toArray j (by simpa [hl] using hj2);rw [getElem!_pos _ j hj];rw [Array.getElem?_eq_getElem hj] at h3;rw [Nat.zero_add];exact ⟨oW h j _ h3.symm,xw h j⟩
 have hg:=kG h;have eg:∀args w,(callFunc 107 args).run Tryz.prog w= .ok (.enter 107 args) w:=enters_of Tryz.func107 (by kernel_rfl) rfl;have hcon:=Go.Proofs.AnyQ.slices_SortFunc Ui 2 Tryz.isAgg127 Tryz.sizeOf127 Tr.cells (fun _=>rfl) (fun x v hv=>by simp [Tr.cells] at hv;rcases hv with rfl|rfl<;>rfl) EI swoTr 107 #[] g 0 c ts.toArray w eg (fun _ _ _ _ x y=>Xv x y _) hH hg.2 (by simp [hl];omega);rw [show ts.toArray.size=n by simpa using hl] at hcon;refine hcon.mono ?_;rintro e w' ⟨rfl,d',m,os,hp,hs,rfl⟩;obtain ⟨hsz,_,hpm⟩:=hp;have hdn:d'.size=n:=by rw [hsz];simpa using hl
 have e1:d'.extract 0 n=d':=by rw [←hdn];exact Array.extract_size
 have e2:ts.toArray.extract 0 n=ts.toArray:=by
  have:ts.toArray.size=n:=by simpa using hl
  rw [←this];exact Array.extract_size
 rw [e1,e2] at hpm;refine ⟨rfl,d'.toList,hpm,?_,Uj h hdn,MR⟩;rw [List.pairwise_iff_getElem];intro i j hi hj hij;have hi':i<d'.size:=by simpa using hi
 have hj':j<d'.size:=by simpa using hj
 have h4:=hs i j (Nat.zero_le _) hij (by omega);rw [WT,getElem!_pos d' i hi',getElem!_pos d' j hj'] at h4;have h5:=of_decide_eq_false h4;simp only [Array.getElem_toList];omega
theorem VW (a b:Int) (hb:0<b):(a.tmod b<0→a%b=a.tmod b+b)∧(¬a.tmod b<0→a%b=a.tmod b):=by
 have h0:=Int.emod_nonneg a (show b≠0 by omega);have h1:=Int.emod_lt_of_pos a hb;have hn:((b.natAbs:Nat):Int)=b:=Int.natAbs_of_nonneg (by omega);by_cases hc:0≤a∨b∣a
 ·have e:=Int.tmod_eq_emod (a:=a) (b:=b);rw [if_pos hc] at e;constructor<;>intro h<;>omega
 ·have e:=Int.tmod_eq_emod (a:=a) (b:=b);rw [if_neg hc,hn] at e;constructor<;>intro h<;>omega
theorem Md (a b:Int) (w:World) (hb:0<b) (hb2:b≤1000000000):
  Calls Tryz.prog 148 #[I a,I b] w fun e w'=>e= .returned (I (a%b))∧w'=w:=by
 have h0:=Int.emod_nonneg a (show b≠0 by omega);have h1:=Int.emod_lt_of_pos a hb;have hb0:b≠0:=by omega
 have hb1:b≠ -1:=by omega
 obtain ⟨e1,e2⟩:=VW a b hb;obtain ⟨q,hq⟩:∃q,a.tmod b=q:=⟨_,rfl⟩;obtain ⟨p,hp⟩:∃p,a%b=p:=⟨_,rfl⟩;rw [hq] at e1 e2;rw [hp] at e1 e2 h0 h1 ⊢;by_cases hs:q<0
 ·have e3:=e1 hs;have hw:IntKind.i64.wrap (q+b)=q+b:=by rw [IntKind.wrap_i64];omega
  subst e3;clear e1 e2 hp;go_enter Tryz.func148,Tryz.ntmps148
  go_wp2
  go_ret;exact ⟨rfl,rfl⟩
 ·have e3:=e2 hs;subst e3;clear e1 e2 hp;go_enter Tryz.func148,Tryz.ntmps148
  go_wp2
  go_ret;exact ⟨rfl,rfl⟩
theorem Mc (a b:Int) (w:World) (hb:0<b) (hb2:b≤1000000000):
  Calls Tryz.prog 141 #[I a,I b] w fun e w'=>e= .returned (.tuple #[I (a%b),I 0])∧w'=w:=by
 have hb1:¬b<1:=by omega
 have HM:=ae (Md a b w hb hb2);go_enter Tryz.func141,Tryz.ntmps141;go_wp2_with fail;refine HM.out.mono ?_;rintro e w1 ⟨rfl,rfl⟩;go_wp2_with fail;go_ret2;exact ⟨rfl,rfl⟩
theorem BH (a b:Int) (w:World) (hb:0<b) (hb2:b≤1000000000):
  Calls Tryz.prog 128 #[I a,I b] w fun e w'=>e= .returned (I (a%b))∧w'=w:=by
 have HM:=ae (Mc a b w hb hb2);go_enter Tryz.func128,Tryz.ntmps128;go_wp2_with fail;refine HM.out.mono ?_;rintro e w1 ⟨rfl,rfl⟩;go_wp2_with fail;go_ret;exact ⟨rfl,rfl⟩
theorem qi (a:Int) (w:World):
  Calls Tryz.prog 120 #[I a] w fun e w'=>e= .returned (I (a%7))∧w'=w:=by
 have HM:=ae (BH a 7 w (by omega) (by omega));go_enter Tryz.func120,Tryz.ntmps120;go_wp2_with fail;refine HM.out.mono ?_;rintro e w1 ⟨rfl,rfl⟩;go_wp2_with fail;go_ret;exact ⟨rfl,rfl⟩
theorem lcm12:Nat.lcm 1 2=2:=by decide
theorem I8 (c:Cal) (R:Option Addr) (r n:Nat) (w:World) (hc:gW c) (h:aA w w.heap.size R (c.rules.flatMap Lr.cells)) (hn:c.rules.length=n):Calls Tryz.prog 102 #[.slice R n r] w (Gives (.tuple #[I (rH c), .bool true]) w):=by
 obtain ⟨ep,m0,m1,lp,rs,rfl,b1,b2,b3,b4,hrs⟩:=hc.form;rcases hrs with rfl|⟨q,yy,rfl,q1,q2,_⟩
 ·have hn0:n=0:=hn.symm;subst hn0;clear hc h hn;go_enter Tryz.func102,Tryz.ntmps102;go_wp2_with fail
  go_rounds 1
  go_ret2;exact ⟨rfl,Below.refl _ _⟩
 ·have hn1:n=1:=hn.symm;subst hn1;obtain ⟨b,off,rfl,hb,hcl⟩:=h.there (by show 0<3;omega);have f0:w.cell? ⟨b,off,none⟩=some (I 2):=hcl 0 _ rfl;have f1:w.cell? ⟨b,off+1,none⟩=some (I q):=hcl 1 _ rfl;have f2:w.cell? ⟨b,off+2,none⟩=some (.bool yy):=hcl 2 _ rfl;have hne:¬b=w.heap.size:=by omega
  have i3:¬q<0:=by omega
  have i4:¬(2:Int)≤q:=by omega
  have HB2:=ae (ag w (.cells #[I 2,I q, .bool yy] 125));have HL:=ae (fun W=>Oq 1 2 (by omega) (by omega) (by omega) (by omega) W);rw [lcm12] at HL;clear hc h hn hcl q1 q2 b1 b2 b3 b4;go_enter Tryz.func102,Tryz.ntmps102;go_wp2_with fail;refine wp_loop_rounds 2 ?_;rw [rounds_succ];go_wp2_with fail;refine (HL.out _).mono ?_;rintro e w5 ⟨rfl,hb5⟩;have pO:=ae (ah HB2.out hb5);clear hb5 HB2 HL f0 f1 f2;go_wp2_with fail;rw [rounds_succ];go_wp2_with fail;go_ret2;exact ⟨rfl,pO.out⟩
theorem nZ (c:Cal) (A R:Option Addr) (a r:Nat) (w:World) (hc:gW c) (h:nX w w.heap.size A R c):Calls Tryz.prog 84 #[.agg (aG c A a R r)] w (Gives (.bool true) w):=by
 obtain ⟨n,hn⟩:∃n,c.rules.length=n:=⟨_,rfl⟩;have Hw:=ae (fun (W:World) (hb:Below w.heap.size w W)=>I8 c R r n W hc ((h.rules.keep hb).more hb.size) hn);have hnl:=hc.nl;have hru:=hc.ru;obtain ⟨ep,m0,m1,lp,rs,rfl,b1,b2,b3,b4,hrs⟩:=hc.form;simp only at hn hnl hru;rw [hn] at hnl hru;obtain ⟨b,off,rfl,hb,hcl⟩:=h.az.there (by show 0<2;omega);have f0:w.cell? ⟨b,off,none⟩=some (I m0):=hcl 0 _ rfl;have f1:w.cell? ⟨b,off+1,none⟩=some (I m1):=hcl 1 _ rfl;have hne:¬b=w.heap.size:=by omega
 have HV:=ae (jW.start w #[I ep, .slice (some ⟨b,off,none⟩) 2 a,I lp, .slice R n r] 63);have e0:(aG ⟨ep,[m0,m1],lp,rs⟩ (some ⟨b,off,none⟩) a R r)= #[I ep, .slice (some ⟨b,off,none⟩) 2 a,I lp, .slice R n r]:=by rw [←hn];rfl
 rw [e0];have q1:¬ep<0:=by omega
 have q2:¬(1048576:Int)<ep:=by omega
 have q3:¬lp< -1:=by omega
 have q4:¬(2:Int)≤lp:=by omega
 have q5:¬(16:Int)<(n:Int):=by omega
 have q6:¬m0<1:=by omega
 have q7:¬(40:Int)<m0:=by omega
 have q8:¬m1<1:=by omega
 have q9:¬(40:Int)<m1:=by omega
 have hsp:lp= -1∧n=0∨¬lp= -1:=by omega
 clear hc h hcl hn hrs e0;rcases hsp with ⟨rfl,rfl⟩|hlp
 all_goals
  go_enter Tryz.func84,Tryz.ntmps84;go_wp2_with fail;refine wp_loop_rounds 3 ?_;rw [rounds_succ];go_wp2_with fail;rw [rounds_succ];go_wp2_with fail;rw [rounds_succ];go_wp2_with fail;refine (Hw.out _ HV.out.up).mono ?_;rintro e w1 ⟨rfl,hb1⟩;have HW:=ae (HV.out.grow hb1);clear hb1 HV Hw;go_wp2_with fail;go_ret;exact ⟨rfl,HW.out.up⟩
def ElR (ts:List Lr):Type:= {x:Nat×Lr // ts[x.1]? =some x.2}
def Sv (ts:List Lr) (m:Nat):List (ElR ts):=if h:m<ts.length then [⟨(m,ts[m]),bZ h⟩] else []
def PE (ts:List Lr):Nat→List (ElR ts)
 |0=> []
 |k+1=>PE ts k++Sv ts (ts.length - 1 - k)
theorem Iw (ts:List Lr) (k m:Nat) (x:Lr) (hx:ts[m]? =some x) (hm:m=ts.length - 1 - k):PE ts (k+1)=PE ts k++ [⟨(m,x),hx⟩]:=by
 subst hm;obtain ⟨h1,h2⟩:=eG.1 hx;subst h2;show PE ts k++Sv ts (ts.length - 1 - k)=_;unfold Sv;rw [dif_pos h1]
theorem KU (ts:List Lr) (k:Nat) (hk:k≤ts.length):(PE ts k).length=k:=by
 induction k with
 |zero=>rfl
 |succ k ih=>
  show (PE ts k++Sv ts (ts.length - 1 - k)).length=k+1;unfold Sv;rw [aZ,ih (by omega),dif_pos (by omega)];rfl
def RG (w:World) (b off:Nat) (ts:List Lr):Prop:=∀j x,ts[j]? =some x→w.rangeAt b (off+j*3) x.cells∧x.cells.length=3
theorem Py (F:Fence) (n:Nat) (h7:F.fn 150) (hro:F.round=none) (hn:1≤n) (l Bs n₀ b off cap:Nat) (bs:List Lr) (hreach:bs.length≤100000) (hb:b<n₀) (J Jx:List (ElR bs)→World→Prop)
  (hY:∀pre x W,J pre W→pre.length<bs.length→YieldAt F (n - 1) Tryz.prog l #[.int .i64 (x.1.1:Int), .agg x.1.2.cells.toArray] W fun e W'=>
   (e= .returned (.bool true)∧J (pre++ [x]) W'∧BK n₀ Bs W W')∨(e= .returned (.bool false)∧Jx (pre++ [x]) W'))
  (W:World) (hBs:W.cell? ⟨Bs,0,none⟩=some (.slice (some ⟨b,off,none⟩) bs.length cap)) (hc:RG W b off bs) (h0:J [] W):
  CallsIn F n Tryz.prog 150 #[.func (.yield l) #[] #[], .pointer (some ⟨Bs,0,none⟩)] W fun e W'=>(∃v,e= .returned v)∧
   ((∃ys,ys=PE bs bs.length∧J ys W')∨(∃pre,(∃k,k≤bs.length∧pre=PE bs k)∧Jx pre W')):=by
 refine callsIn_of_wp Tryz.func150 rfl h7 ?_ hro;simp only [Tryz.ntmps150,List.size_toArray,List.length_cons,List.length_nil,Nat.reduceAdd,Nat.reduceSub,Array.replicate_succ,Array.replicate_zero,List.push_toArray,List.append_toArray,List.nil_append,List.cons_append]
 gi_wp2
 gi_loopw [3] (fun i wr=>∃k:Nat,k≤bs.length∧i= .int .i64 ((bs.length:Int) - 1 - k)∧J (PE bs k) wr∧BK n₀ Bs W wr)
  (fun i _=>((intOf i)+1).toNat)
 case atStart=>exact ⟨0,Nat.zero_le _,by go_num,h0,BK.refl _ _ _⟩
 case round=>
  obtain ⟨k,hk,rfl,hJs,hnx⟩:=hrel;by_cases hlt:k<bs.length
  ·obtain ⟨m,hm⟩:∃m:Nat,m=bs.length - 1 - k:=⟨_,rfl⟩;have Tm:(bs.length:Int) - 1 - k=(m:Int):=by omega
   have hml:m<bs.length:=by omega
   obtain ⟨x,hxx⟩:∃x,bs[m]? =some x:=⟨_,bZ hml⟩;have hcx:wr.rangeAt b (off+m*3) x.cells∧x.cells.length=3:=⟨aQ (hc m x hxx).1 hnx.lo hb,(hc m x hxx).2⟩;obtain ⟨hcx,hc3⟩:=hcx;have Ej:=ae hcx;have H3:Hid ((Tryz.prog.info? 125).map (·.size)=some x.cells.length):=ae (by rw [hc3];kernel_rfl);have hbx:wr.cell? ⟨Bs,0,none⟩=some (.slice (some ⟨b,off,none⟩) bs.length cap):=hnx.box.trans hBs;obtain ⟨fn,tmps,assign,body,hy,hR⟩:=hY _ ⟨(m,x),hxx⟩ wr hJs (by rw [KU _ _ hk];exact hlt);dsimp only at hy;rw [Tm];have HM:=ae hm;have Vq:=ae Tm;have HX:Hid (PE bs (k+1)=PE bs k++ [⟨(m,x),hxx⟩]):=ae (Iw bs k m x hxx hm);clear hm Tm hcx hc3
   gi_wp2_with (with_reducible refine F7 125 ?_;refine nP rfl _ _ rfl b (off+m*3) rfl x.cells _ Ej.out Tryz.underlying125 rfl H3.out ?_)
   refine hR.mono ?_;rintro e W3 (⟨rfl,hJ3,hk3⟩|⟨rfl,hJx3⟩)
   ·gi_wp2
    go_roundw
    case rel=>exact ⟨k+1,by omega,by have:=Vq.out;congr 1;omega,by rw [HX.out];exact hJ3,hnx.trans hk3⟩
    case measure=>simp [intOf]
   ·gi_wp2
    refine bodyPost_ret (results_none rfl _ _ _) rfl ?_;exact ⟨⟨_,rfl⟩, .inr ⟨_,⟨k+1,by omega,by rw [HX.out]⟩,hJx3⟩⟩
  ·have hke:k=bs.length:=by omega
   have AU:=ae hke;clear hke
   gi_wp2
   go_end0
   exact ⟨⟨_,rfl⟩, .inl ⟨_,by rw [AU.out],hJs⟩⟩
theorem DT (F:Fence) (n:Nat) (h7:F.fn 150) (hro:F.round=none) (l Bs:Nat) (A:Option Addr) (c:Nat) {α:Type} (J:List α→World→Prop) (W:World) (hBs:W.cell? ⟨Bs,0,none⟩=some (.slice A 0 c)) (h0:J [] W):
  CallsIn F n Tryz.prog 150 #[.func (.yield l) #[] #[], .pointer (some ⟨Bs,0,none⟩)] W fun e W'=>(∃v,e= .returned v)∧J [] W':=by
 refine callsIn_of_wp Tryz.func150 rfl h7 ?_ hro;simp only [Tryz.ntmps150,List.size_toArray,List.length_cons,List.length_nil,Nat.reduceAdd,Nat.reduceSub,Array.replicate_succ,Array.replicate_zero,List.push_toArray,List.append_toArray,List.nil_append,List.cons_append]
 gi_wp2
 gi_loopw [3] (fun i wr=>i= .int .i64 (-1)∧J [] wr) (fun _ _=>0)
 case atStart=>exact ⟨rfl,h0⟩
 case round=>
  obtain ⟨rfl,hJs⟩:=hrel
  gi_wp2
  go_end0
  exact ⟨⟨_,rfl⟩,hJs⟩
theorem RP (F:Fence) (n:Nat) (h5:F.fn 147) (hro:F.round=none) (a:Option Addr) (len cap:Nat) (w:World):
  CallsIn F n Tryz.prog 147 #[.slice a len cap] w fun e w'=>e= .returned (.func (.func 150) #[] #[.pointer (some ⟨w.heap.size,0,none⟩)])∧w'=w.alloc (.cells #[.slice a len cap] 61):=by
 refine callsIn_of_wp Tryz.func147 rfl h5 ?_ hro;simp only [Tryz.ntmps147,List.size_toArray,List.length_cons,List.length_nil,Nat.reduceAdd,Nat.reduceSub,Array.replicate_succ,Array.replicate_zero,List.push_toArray,List.append_toArray,List.nil_append,List.cons_append]
 gi_wp2
 go_ret;exact ⟨rfl,rfl⟩
theorem Ir (F:Fence) (n:Nat) (h7:F.fn 150) (hro:F.round=none) (hn:1≤n) (Bs n₀:Nat) (A:Option Addr) (cap:Nat) (bs:List Lr) (hreach:bs.length≤100000) (w:World) (hBs:Bs<w.heap.size) (hn₀:n₀≤w.heap.size)
  (hc:w.cell? ⟨Bs,0,none⟩=some (.slice A bs.length cap)) (hI:bs.length=0∨∃b off,A=some ⟨b,off,none⟩∧b<n₀∧RG w b off bs):
  SeqStopsK F n Tryz.prog 150 #[.pointer (some ⟨Bs,0,none⟩)] (fun x:ElR bs=> #[Value.int .i64 (x.1.1:Int), .agg x.1.2.cells.toArray]) (BK n₀ Bs) (fun ys=>ys=PE bs bs.length)
   (fun pre=>∃k,k≤bs.length∧pre=PE bs k) bs.length w:=fun l J Jx W hW _ _ hY h0=>by
 have hc':=(hW.cell (p:=⟨Bs,0,none⟩) hBs).trans hc;rcases hI with h|⟨b,off,rfl,hb,hcs0⟩
 ·rw [h] at hc';exact (DT F n h7 hro l Bs A cap J W hc' h0).mono fun e W' ⟨he,hj⟩=>⟨he, .inl ⟨_,by rw [h];rfl,hj⟩⟩
 ·exact Py F n h7 hro hn l Bs n₀ b off cap bs hreach hb J Jx hY W hc' (fun j x hx=>⟨aQ (hcs0 j x hx).1 (hW.mono hn₀) hb,(hcs0 j x hx).2⟩) h0
section
variable {F : Fence} {n : Nat} {P : Program} {ops : Array Oper} {Q : Exit → Act → World → Prop} {md : Region.Mode}
theorem vO (l0 : Nat) (hd : ∀ (i : Nat) (o : Oper), ops[i]? = some o → ∀ c, o.op ≠ .defer c) : ∀ (fuel : Nat) (listed : Array Bool) (a : Act) (w : World), wpAnyIn F n P md ops Q fuel listed a w → wpAnyIn (F.inRound l0) n P md ops Q fuel listed a w := by
  intro fuel
  induction fuel with
  | zero => intro listed a w h; exact h
  | succ fuel ih =>
    intro listed a w h
    refine ⟨h.1, fun i hi => ?_⟩
    have h2 := wpOpIn_mono (fun a w => ih _ a w) (h.2 i hi)
    unfold wpOpIn at h2 ⊢
    cases ho : ops[i]? with
    | none => rw [ho] at h2; exact h2
    | some o =>
      rw [ho] at h2
      simp only at h2 ⊢
      split
      · rename_i hw
        rw [if_pos hw] at h2
        unfold Oper.wpIn at h2 ⊢
        rw [Oper.semAt_eq _ _ _ (hd i o ho)] at h2 ⊢
        exact h2
      · rename_i hw
        rw [if_neg hw] at h2
        exact h2
theorem qX {l0 id : Nat} {a : Act} {w : World} {l : List Oper} (hd : (l.all fun o => match o.op with | .defer _ => false | _ => true) = true) (hm : P.follows .mixedOrders = true) (hB : Region.lexB .any l.toArray = true)
    (h : wpQuietIn Fence.wide n P l.toArray (fun w' => ∃ n, w' = w.drewN n) (fun a' => ∀ w', (∃ n, w' = w.drewN n) → Q .normal a' w') l a) : (Code.region id l.toArray true).wpIn (Fence.wide.inRound l0) n P Q a w := by
  simp only [Region.lexB, Bool.and_eq_true] at hB
  refine wpIn_region_any hm (vO l0 (fun i o ho c hc => ?_) _ _ _ _ (wpAnyIn_of_quiet (C := fun w' => ∃ n, w' = w.drewN n) (Q := fun a' => ∀ w', (∃ n, w' = w.drewN n) → Q .normal a' w') rfl (fun _ w' hw' h => h w' hw') _ _ _ _ ⟨1, rfl⟩ ?_))
  · have hm2 : o ∈ l := by
      rw [List.getElem?_toArray] at ho
      exact dS ho
    have h3 := List.all_eq_true.1 hd o hm2
    rw [hc] at h3
    cases h3
  · have := wpAnyQIn_lex (F := Fence.wide) (n := n) (C := fun w' => ∃ n, w' = w.drewN n) (md := .any) hB.1 l.toArray.toList 0 (Array.replicate l.toArray.size false) a (by simp) (by simpa using hB.2) (by simpa using h)
    simpa using this
end
theorem vJ {P : Program} {fn : Func} {p : Tmp} {ty : TypeId} (h : fn.results = #[.cell p ty]) (tmps : Array Value) (w : World) (g : Nat) (t : TypeId) (v : Value) (hp : tmps.getD p undef = .pointer (some ⟨g, 0, none⟩)) (hg : w.heap[g]? = some (.cells #[v] t (0, 0))) (hu : P.underlying ty = some .bool) : (results fn tmps).run P w = .ok v w := by
  have hp' : tmps[p]?.getD undef = .pointer (some ⟨g, 0, none⟩) := by simpa using hp
  have hc : w.cell? ⟨g, 0, none⟩ = some v := cell_of_row w g 0 _ _ _ hg
  have ha : (isAgg ty).run P w = .ok false w := by simp [isAgg, underlying, go_sem, hu]
  simp [results, h, hp', asAddr, loadVar, go_sem, ha, hc]
theorem foldl2 (t : Array Value) (p q : Tmp) (u v : Value) : (#[p, q].zip #[u, v]).foldl (fun t (x : Tmp × Value) => t.setIfInBounds x.1 x.2) t = (t.setIfInBounds p u).setIfInBounds q v := by simp
def jw (c : Cal) (A : Option Addr) (a : Nat) (R : Option Addr) (r : Nat) (S : Value) : Array Value := #[I c.aX, .slice A c.az.length a, I c.dM, .slice R c.rules.length r, S]
structure Ii (w : World) (y : Int) (b : Bool) (W : World) : Prop where
  yr : W.heap[w.heap.size + 1]? = some (.cells #[I y] 3 (0, 0))
  res : W.heap[w.heap.size + 2]? = some (.cells #[.bool b] 4 (0, 0))
  up : Below w.heap.size w W
theorem Ii.grow {w W W' : World} {y : Int} {b : Bool} (h : Ii w y b W) (hb : Below W.heap.size W W') : Ii w y b W' :=
  ⟨(hb.block _ (bT.1 h.yr).1).trans h.yr, (hb.block _ (bT.1 h.res).1).trans h.res, ah h.up hb⟩
theorem Ii.start (w : World) (y : Int) (cs : Array Value) (t : TypeId) : Ii w y false (((w.alloc (.cells cs t)).alloc (.cells #[I y] 3)).alloc (.cells #[.bool false] 4)) := by
  have h1 := heap_alloc_last (w.alloc (.cells cs t)) (.cells #[I y] 3)
  have h2 := heap_alloc_last ((w.alloc (.cells cs t)).alloc (.cells #[I y] 3)) (.cells #[.bool false] 4)
  rw [World.size_alloc] at h1
  rw [World.size_alloc, World.size_alloc] at h2
  exact ⟨(Below.heap_alloc _ _ _ (by simp)).trans h1, h2, (((Below.refl _ w).alloc (Nat.le_refl _) _).alloc (by simp) _).alloc (by simp; omega) _⟩
theorem Ii.set {w W : World} {y : Int} {b : Bool} (h : Ii w y b W) (v : Bool) : Ii w y v (W.setCell ⟨w.heap.size + 2, 0, none⟩ (.bool v)) := by
  refine ⟨(heap_setCell_other W _ _ _ (by show w.heap.size + 1 ≠ w.heap.size + 2; omega)).trans h.yr, ?_, h.up.setCell (p := ⟨w.heap.size + 2, 0, none⟩) (by show w.heap.size ≤ w.heap.size + 2; omega) _⟩
  rw [heap_setCell_same W _ 0 _ _ _ h.res]
  rfl
theorem Ou {w X Y : World} {y : Int} {b : Bool} {B : Nat} {row : Option Nat} (hB : w.heap.size ≤ B) (hs : Ii w y b X) (hg : X.grownBy Y row) (hr : ∀ r, row = some r → B ≤ r ∧ ∃ o : Obj, X.heap[r]? = some o ∧ o.isCells = false) : Ii w y b Y := by
  have key : ∀ k cs t, X.heap[k]? = some (Obj.cells cs t (0, 0)) → Y.heap[k]? = X.heap[k]? := fun k cs t hk =>
    hg.block k (bT.1 hk).1 fun e => by
      obtain ⟨_, o, ho, hc⟩ := hr k e.symm
      rw [hk] at ho; cases ho; cases hc
  exact ⟨(key _ _ _ hs.yr).trans hs.yr, (key _ _ _ hs.res).trans hs.res, hs.up.grown hg hs.up.size (fun k e => Nat.le_trans hB (hr k e).1)⟩
theorem lp_own {w : World} {y : Int} {B : Nat} (hB : w.heap.size ≤ B) {β : Type} (f : β → Prop) : OwnFrom B (fun s W => Ii w y false W ∧ w.heap.size + 3 < W.heap.size ∧ f s) := fun _ _ _ _ hs hg hr => ⟨Ou hB hs.1 hg hr, dP hs.2.1 hg.size, hs.2.2⟩
theorem WO {w : World} {y : Int} {B : Nat} (hB : w.heap.size ≤ B) {rs : List Lr} (c : Code) : OwnFrom B (fun (pre : List (ElR rs)) W => c = .ret ∧ ∃ x ∈ pre, (y % 2 == x.1.2.rest) = true ∧ Ii w y x.1.2.yes W) := fun _ _ _ _ hs hg hr => by
  obtain ⟨h1, x, h2, h3, h4⟩ := hs
  exact ⟨h1, x, h2, h3, Ou hB h4 hg hr⟩
theorem leapA (c : Cal) (A R : Option Addr) (a r : Nat) (S : Value) (y : Int) (w : World) (hc : gW c) (h : nX w w.heap.size A R c) : Calls Tryz.prog 140 #[.agg (jw c A a R r S), I y] w (Gives (.bool (pW c y)) w) := by
  refine (callsIn_wide (n := 3)).1 ?_
  have hro : Fence.wide.round = none := rfl
  have h1 : 1 ≤ 3 := by omega
  obtain ⟨n, hn⟩ : ∃ n, c.rules.length = n := ⟨_, rfl⟩
  have hru := hc.ru
  obtain ⟨ep, m0, m1, lp, rs, rfl, b1, b2, b3, b4, hrs⟩ := hc.form
  simp only at hn hru
  have QL := ae hrs
  have HH := ae h
  have HN := ae hn
  have HV := ae (ag w (.cells #[I ep, .slice A 2 a, I lp, .slice R n r, S] (219)))
  have e0 : jw ⟨ep, [m0, m1], lp, rs⟩ A a R r S = #[I ep, .slice A 2 a, I lp, .slice R n r, S] := by rw [← hn]; rfl
  rw [e0]
  clear hc h hn hrs e0 b1 b2 b3 b4
  refine callsIn_of_wp_marks Tryz.func140 rfl trivial ?_ hro
  simp only [Tryz.ntmps140, List.size_toArray, List.length_cons, List.length_nil, Nat.reduceAdd, Nat.reduceSub, Array.replicate_succ, Array.replicate_zero, List.push_toArray, List.append_toArray, List.nil_append, List.cons_append]
  gi_wp2_with (refine ⟨trivial, ?_⟩; gi_at_call 147; refine (RP Fence.wide 2 trivial hro _ _ _ _).mono ?_; rintro e w' ⟨rfl, rfl⟩)
  obtain ⟨Wx, S9⟩ : ∃ Wx, ((w.alloc (.cells #[I ep, .slice A 2 a, I lp, .slice R n r, S] (219))).alloc (.cells #[I y] 3)).alloc (.cells #[.bool false] 4) = Wx := ⟨_, rfl⟩
  have hV3 : Ii w y false Wx := by rw [← S9]; exact Ii.start _ _ _ _
  have hsz0 : Wx.heap.size = w.heap.size + 3 := by rw [← S9]; simp
  rw [S9]
  have bS := Boxed.new Wx 61 (.slice R n r)
  have hb4 := ag Wx (.cells #[.slice R n r] 61)
  obtain ⟨W0, hW0⟩ : ∃ W0, Wx.alloc (.cells #[.slice R n r] 61) = W0 := ⟨_, rfl⟩
  have hsz4 : W0.heap.size = w.heap.size + 4 := by rw [← hW0, World.size_alloc, hsz0]
  rw [hW0] at bS hb4 ⊢
  rw [hsz0] at bS hb4
  have hV4 : Ii w y false W0 := hV3.grow (by rw [hsz0]; exact hb4)
  have hrul : rs.length = 0 ∨ ∃ b off, R = some ⟨b, off, none⟩ ∧ b < w.heap.size ∧ RG W0 b off rs := by
    rcases HH.out.rules with h0 | ⟨b, off, e, hb, hc⟩
    · refine .inl ?_
      rw [dD (s := 3) Lr.cells rs (fun _ _ => rfl)] at h0
      omega
    · exact .inr ⟨b, off, e, hb, fun j x hx => ⟨aQ (aA.elem (s := 3) (f := Lr.cells) (fun _ _ => rfl) hc j x hx) hV4.up hb, rfl⟩⟩
  have hst := Ir Fence.wide (3 - 1) trivial hro (by omega) (w.heap.size + 3) w.heap.size R r rs (by omega) W0 (by omega) (by omega) (by rw [HN.out]; exact bS.cell) hrul
  rw [HN.out] at hst
  clear S9 hb4 hW0 hsz0 hrul hV3 bS
  refine wpIn_rangeFunc_ownH hro h1 (gf := 150) (lb := #[.pointer (some ⟨w.heap.size + 3, 0, none⟩)]) rfl trivial (enters_of Tryz.func150 (by kernel_rfl) rfl)
    hst (fun h k => h.trans k) (Z5 (by omega) (by omega)) (Below.refl _ _) (fun _ => rfl)
    (fun pre W => Ii w y false W ∧ w.heap.size + 3 < W.heap.size ∧ ∀ x ∈ pre, (y % 2 == x.1.2.rest) = false)
    (fun c pre W => c = .ret ∧ ∃ x ∈ pre, (y % 2 == x.1.2.rest) = true ∧ Ii w y x.1.2.yes W)
    (lp_own (by omega) _)
    (fun c => WO (by omega) c)
    ⟨hV4, by omega, fun _ h => nomatch h⟩
    (fun x a' W => ∃ B, w.heap.size + 3 < B ∧ W.heap[B]? = some (.cells x.1.2.cells.toArray 125 (0, 0)) ∧ a' = ({ tmps := #[.agg #[I ep, .slice A 2 a, I lp, .slice R n r, S], I y, .pointer (some ⟨w.heap.size, 0, none⟩), .pointer (some ⟨w.heap.size + 1, 0, none⟩), .pointer (some ⟨w.heap.size + 1 + 1, 0, none⟩), undef, .pointer (some ⟨B, 0, none⟩), .pointer (some ⟨w.heap.size, 0, none⟩), .pointer (some ⟨w.heap.size, 3, none⟩), .slice R n r, .func (.func 150) #[] #[.pointer (some ⟨w.heap.size + 1 + 1 + 1, 0, none⟩)], I (x.1.1 : Int), .agg x.1.2.cells.toArray, undef, undef, undef, undef, undef, undef, undef, undef, undef], defers := [] } : Act))
    (fun x a' _ X Y row hs hg hr => by obtain ⟨B, h1, h2, h3⟩ := hs; exact ⟨B, h1, Ai B _ _ () X Y row h2 hg hr, h3⟩)
    ?assign ?body ?done ?stop
  case assign =>
    rintro l pre ⟨⟨i, ⟨ev, re, ye⟩⟩, hx⟩ W K hci hK
    have JU := ae hci
    have hsz := hci.2.1
    clear hci
    rw [foldl2]
    simp only [Lr.cells, List.setIfInBounds_toArray, List.set_cons_succ, List.set_cons_zero]
    gi_wp2_with (first | ((with_reducible refine BP 125 ?_); refine nO rfl _ rfl #[I 0, I 0, .bool false] (by kernel_rfl) ?_) | ((with_reducible refine tY 125 ?_); go_must (refine iH rfl _ _ _ rfl #[I ev, I re, .bool ye] rfl rfl 125 #[I 0, I 0, .bool false] rfl (by kernel_rfl) rfl (by kernel_rfl) ?_); intro W5 hb5 hs5 hh5 uH hk5; have pO := ae hb5; have Y7 := ae hh5; have xP := ae hk5; clear hb5 hs5 hh5 uH hk5))
    exact hK _ _ (xP.out.from _) ⟨pO.out.mono (by omega), pO.out.cell (p := ⟨w.heap.size + 3, 0, none⟩) (by show w.heap.size + 3 < _; omega)⟩ ⟨JU.out.1.grow pO.out, dP hsz pO.out.size, JU.out.2.2⟩ ⟨W.heap.size, by omega, Y7.out, rfl⟩
  case body =>
    rintro l pre x a' W hl _ hci ⟨B, hB, hblk, rfl⟩ hlt2
    obtain ⟨⟨i, ⟨ev, re, ye⟩⟩, hx⟩ := x
    simp only [Lr.cells] at hblk ⊢
    have hev : ev = 2 ∧ 0 ≤ re ∧ re < 2 := by
      rcases QL.out with h0 | ⟨q, yy, h0, q1, q2, _⟩
      · rw [h0] at hx; cases hx
      · rw [h0] at hx
        have hi : i = 0 := by have := (eG.1 hx).1; simp at this; omega
        subst hi
        injection hx with hx
        injection hx with e1 e2 e3
        subst e1 e2 e3
        exact ⟨rfl, q1, q2⟩
    obtain ⟨rfl, r1, r2⟩ := hev
    have hc0 : W.cell? ⟨B, 0, none⟩ = some (I 2) := cell_of_row W B 0 _ _ _ hblk
    have hc1 : W.cell? ⟨B, 1, none⟩ = some (I re) := cell_of_row W B 1 _ _ _ hblk
    have hc2 : W.cell? ⟨B, 2, none⟩ = some (.bool ye) := cell_of_row W B 2 _ _ _ hblk
    have hcy : W.cell? ⟨w.heap.size + 1, 0, none⟩ = some (I y) := cell_of_row W _ 0 _ _ _ hci.1.yr
    have hcr : W.cell? ⟨w.heap.size + 1 + 1, 0, none⟩ = some (.bool false) := cell_of_row W (w.heap.size + 2) 0 _ _ _ hci.1.res
    have hfr : W.frozen? ⟨w.heap.size + 1 + 1, 0, none⟩ = false := frozen_of_row _ (w.heap.size + 2) 0 _ _ hci.1.res
    have JU := ae hci
    have Zg := ae (fun W' => BH y 2 W' (by omega) (by omega))
    clear hci hblk r1 r2
    gi_wp2_with fail
    refine qX (by kernel_rfl) (by kernel_rfl) (by kernel_rfl) ?_
    iterate 7 (
      refine wpQuietIn_step (by first | (go_simp; done) | exact fun _ _ _ _ => True.intro) (fun K hK => ?_)
      go_simp
      first
        | (refine hK _ ?_; clear hK K)
        | (apply Exists.intro
           refine ⟨fun _ => ?_, hK _ ?_⟩
           (gi_at_call 128; exact CallsIn.quiet_of_same (callsIn_wide.2 (Zg.out _)))
           clear hK K))
    refine wpQuietIn_nil ?_
    rintro _ ⟨k, rfl⟩
    obtain ⟨t, ht⟩ : ∃ t, (y % 2 == re) = t := ⟨_, rfl⟩
    have HT := ae ht
    rw [ht]
    clear ht hc0 hc1 hcy
    have HCK := ae (JU.out.1.grow (below_drewN' W k))
    cases t
    · gi_wp2
      exact ⟨(show KeepsOthers W (W.drewN k) from ⟨Nat.le_refl _, fun _ _ h _ => h⟩).from _, ⟨(below_drewN' W k).mono JU.out.1.up.size, rfl⟩, HCK.out, JU.out.2.1, fun x hx => by
        rcases List.mem_append.1 hx with h1 | h1
        · exact JU.out.2.2 x h1
        · rw [List.mem_singleton.1 h1]
          exact HT.out⟩
    · gi_wp2
      iterate 4 (try (rw [Oper.semAt_eq _ _ _ (fun c h => by cases h)]; go_simp; gi_wp2))
      exact ⟨((show KeepsOthers W (W.drewN k) from ⟨Nat.le_refl _, fun _ _ h _ => h⟩).trans (KeepsOthers.setCell _ _ _)).from _, rfl, _, List.mem_append_right _ (List.mem_singleton.2 rfl), HT.out, HCK.out.set ye⟩
  case done =>
    rintro D ys W hD rfl ⟨hlp, hsz, hall⟩ hK
    have hcr : W.cell? ⟨w.heap.size + 1 + 1, 0, none⟩ = some (.bool false) := cell_of_row W (w.heap.size + 2) 0 _ _ _ hlp.res
    have hfr : W.frozen? ⟨w.heap.size + 1 + 1, 0, none⟩ = false := frozen_of_row _ (w.heap.size + 2) 0 _ _ hlp.res
    have Ht := ae hlp
    have jX := ae hall
    clear hlp hall
    gi_wp2
    have hK2 : (W.setCell ⟨w.heap.size + 1 + 1, 0, none⟩ (.bool false)).heap[D]? = some (.deferred (some [])) := (heap_setCell_other W _ _ _ (by show D ≠ w.heap.size + 1 + 1; omega)).trans hK
    refine ⟨by simp, .inl ⟨_, _, rfl, run_takeDeferred hK2, ?_⟩⟩
    have HS := ae (Ht.out.set false)
    refine ⟨_, vJ rfl _ _ (w.heap.size + 2) _ (.bool false) rfl ((World.putObj_heap_other (by omega)).trans HS.out.res) Tryz.underlying4, ?_⟩
    have hF : pW ⟨ep, [m0, m1], lp, rs⟩ y = false := by
      rcases QL.out with h0 | ⟨q, yy, h0, q1, q2, _⟩
      · subst h0
        rfl
      · subst h0
        have hn1 : n = 1 := HN.out.symm
        subst hn1
        have h5 := jX.out ⟨(0, ⟨2, q, yy⟩), rfl⟩ (by rw [Iw _ 0 0 ⟨2, q, yy⟩ rfl rfl]; exact List.mem_append_right _ (List.mem_singleton.2 rfl))
        show ((y % 2 == q) && yy) = false
        rw [show (y % 2 == q) = false from h5]
        rfl
    rw [hF]
    exact ⟨rfl, HS.out.up.trans (belowK_b (w := W0) (n₀ := w.heap.size) (by omega) _ D _ (.deferred none) hD hK2 rfl rfl)⟩
  case stop =>
    rintro D c pre W hD hpre ⟨rfl, x, hx, ht, hlp⟩ hK
    have Ht := ae hlp
    have HT := ae ht
    clear hlp ht
    gi_wp2
    refine ⟨by simp, .inl ⟨_, _, rfl, run_takeDeferred hK, ?_⟩⟩
    refine ⟨_, vJ rfl _ _ (w.heap.size + 2) _ (.bool x.1.2.yes) rfl ((World.putObj_heap_other (by omega)).trans Ht.out.res) Tryz.underlying4, ?_⟩
    have hF : pW ⟨ep, [m0, m1], lp, rs⟩ y = x.1.2.yes := by
      obtain ⟨⟨i, v⟩, hv⟩ := x
      rcases QL.out with h0 | ⟨q, yy, h0, q1, q2, _⟩
      · subst h0
        cases hv
      · subst h0
        have hi : i = 0 := by have := (eG.1 hv).1; simp at this; omega
        subst hi
        have hv2 : some (⟨2, q, yy⟩ : Lr) = some v := hv
        injection hv2 with hv2
        subst hv2
        have h5 := HT.out
        show ((y % 2 == q) && yy) = yy
        rw [show (y % 2 == q) = true from h5]
        rfl
    rw [hF]
    exact ⟨rfl, Ht.out.up.trans (belowK_b (w := W0) (n₀ := w.heap.size) (by omega) _ D _ (.deferred none) hD hK rfl rfl)⟩
end Go.Proofs.YtdibbemgpikgjaaGreatDoor
