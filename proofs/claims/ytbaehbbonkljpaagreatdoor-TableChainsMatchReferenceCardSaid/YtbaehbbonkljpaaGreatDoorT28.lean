/- The texts TrN, TrL, TrI, TrC, in this order. -/
import Derived.Test.YtbaehbbonkljpaaGreatDoorT27
set_option maxRecDepth 10000
set_option maxHeartbeats 8000000
namespace Go.Proofs.YtbaehbbonkljpaaGreatDoor
open Go Go.RowKit Go.Shelf
attribute [local go_sem] iM
structure PW (w:ae)(pb:Nat)(t:TypeId)(cs:ax ah)(W:ae):Prop where
 os:W.os=w.os
 tape:W.tape=w.tape
 output:W.output=w.output
 size:w.heap.size<=W.heap.size
 block:∀k,k<w.heap.size->k≠pb->W.heap[k]? =w.heap[k]?
 tgt:W.heap[pb]? =some (.cells cs t (0,0))
 lt:pb<w.heap.size
theorem PW.grow {w W W':ae}{pb:Nat}{t:TypeId}{cs:ax ah}(h:PW w pb t cs W)(hb:ai W.heap.size W W'):PW w pb t cs W':=
 ⟨hb.os.trans h.os,hb.tape.trans h.tape,hb.output.trans h.output,aO h.size hb.size,fun k hk hp=>(hb.block k (LK hk h.size)).trans (h.block k hk hp),(hb.block pb (LK h.lt h.size)).trans h.tgt,h.lt⟩
theorem PW.put {w W:ae}{pb:Nat}{t:TypeId}{cs:ax ah}(h:PW w pb t cs W)(o:Nat)(v:ah):PW w pb t (cs.setIfInBounds o v) (W.setCell ⟨pb,o,none⟩ v):=
 ⟨h.os,h.tape,h.output,by simpa[World.setCell] using h.size,fun k hk hp=>(aN W _ k v hp).trans (h.block k hk hp),bJ W pb o _ _ _ h.tgt,h.lt⟩
theorem PW.drew {w W:ae}{pb:Nat}{t:TypeId}{cs:ax ah}(h:PW w pb t cs W):PW w pb t cs W.drew:=⟨h.os,h.tape,h.output,h.size,h.block,h.tgt,h.lt⟩
theorem PW.cell {w W:ae}{pb:Nat}{t:TypeId}{cs:ax ah}(h:PW w pb t cs W)(i:Nat):W.cell? ⟨pb,i,none⟩=cs[i]? :=aC W pb i _ _ _ h.tgt
theorem PW.Oo {w W:ae}{pb:Nat}{t:TypeId}{cs:ax ah}(h:PW w pb t cs W)(i:Nat):W.frozen? ⟨pb,i,none⟩=false:=aP W pb i _ _ h.tgt
theorem aoI {β:Type}{w:ae}{pb B:Nat}{t:TypeId}(f:β->ax ah)(hB:w.heap.size<=B):OwnFrom B (fun s W=>PW w pb t (f s) W):=
 fun s W W' row hs hg hr=>⟨hg.os.trans hs.os,hg.tape.trans hs.tape,hg.output.trans hs.output,aO hs.size hg.size,
  fun k hk hp=>(hg.block k (LK hk hs.size) (fun e=>by have:=(hr k e.symm).1;omega)).trans (hs.block k hk hp),
  (hg.block pb (LK hs.lt hs.size) (fun e=>by have:=(hr pb e.symm).1;have:=hs.lt;omega)).trans hs.tgt,hs.lt⟩
structure Md (w:ae)(rb pb:Nat)(t:TypeId)(cs:ax ah)(w':ae):Prop where
 os:w'.os=w.os
 tape:w'.tape=w.tape
 output:w'.output=w.output
 size:w.heap.size<=w'.heap.size
 block:∀k,k<w.heap.size->k≠pb->k≠rb->w'.heap[k]? =w.heap[k]?
 tgt:w'.heap[pb]? =some (.cells cs t (0,0))
theorem alT {w w2 W:ae}{M pb po B:Nat}{t:TypeId}{cs:ax ah}{pre:ag (Nat×au)}{xi:Nat}{xc:au}{v u:Int}(hMp:M<=pb)(hpb:pb<w.heap.size)(hw2:w.heap.size<w2.heap.size)
  (hbx:Boxed W w.heap.size 125 (.pointer (some ⟨pb,po,none⟩)))(hB:PW w2 pb t (cs.setIfInBounds po (I (WH pre))) W)(hu:WH pre=u)(hv:v=Ye u xc):
  KeepsFrom B W (W.setCell ⟨pb,po,none⟩ (I v)).drew/\BK M w2.heap.size W (W.setCell ⟨pb,po,none⟩ (I v)).drew/\Boxed (W.setCell ⟨pb,po,none⟩ (I v)).drew w.heap.size 125 (.pointer (some ⟨pb,po,none⟩))/\PW w2 pb t (cs.setIfInBounds po (I (WH (pre++ [(xi,xc)])))) (W.setCell ⟨pb,po,none⟩ (I v)).drew:=by
 have hk:KeepsOthers W (W.setCell ⟨pb,po,none⟩ (I v)):=gu _ _ _;have hk2:KeepsOthers W (W.setCell ⟨pb,po,none⟩ (I v)).drew:=⟨hk.size,hk.same⟩;refine⟨hk2.from _,⟨((aW M W).setCell (p:=⟨pb,po,none⟩) hMp _).drew,?_⟩,?_,?_⟩
 ·exact bI (a:=⟨w2.heap.size,0,none⟩) (aN W _ _ _ (by show w2.heap.size≠pb;omega))
 ·exact(aN W _ _ _ (by show w.heap.size≠pb;omega)).trans hbx
 ·have h:=hB.put po (I v);rw[gq] at h;rw[ai2,hu,<-hv];exact h.drew
def azV (M:Nat)(w:ae)(rb pb po:Nat)(t:TypeId)(cs:ax ah)(rest:ag au)(size:Nat)(e:Ending)(w':ae):Prop:=
 e=.returned (.tuple #[])/\PV M w' rb (rest.drop size)/\Md w rb pb t (cs.setIfInBounds po (I (rdN rest false size))) w'
theorem acN (M:Nat)(w:ae)(rb pb po size:Nat)(t:TypeId)(cs:ax ah)(rest:ag au)(hr:PV M w rb rest)(h8:size<=8)(hn:size<=rest.length)(hp:w.heap[pb]? =some (.cells cs t (0,0)))(hpo:po<cs.size)(hMp:M<=pb)(hne:pb≠rb):
  Calls Tryz.prog 183 #[pt rb,.pointer (some ⟨pb,po,none⟩),I size] w (azV M w rb pb po t cs rest size):=by
 refine(gX (n:=3)).1 ?_;have hro:Fence.wide.round=none:=rfl;have h1:1<=3:=by omega
 have hlt:=hr.lt;have hpl:pb<w.heap.size:=(KY.1 hp).1;have hMl:=hr.lo;have hc0:w.cell? ⟨pb,po,none⟩=some cs[po]:=by rw[aC w pb po _ _ _ hp];exact fC hpo
 have hf0:w.frozen? ⟨pb,po,none⟩=false:=aP w pb po _ _ hp;obtain⟨WS,hWS⟩:∃W,w.setCell ⟨pb,po,none⟩ (I 0)=W:=⟨_,rfl⟩;have hsS:WS.heap.size=w.heap.size:=by rw[<-hWS];simp[World.setCell]
 have hTS:PW w pb t (cs.setIfInBounds po (I 0)) WS:=by
  rw[<-hWS];exact⟨rfl,rfl,rfl,by simp[World.setCell],fun k _ hk2=>aN _ _ k _ hk2,bJ _ pb po _ _ _ hp,hpl⟩
 obtain⟨W1,hW1⟩:∃W,WS.alloc (.cells #[.pointer (some ⟨pb,po,none⟩)] 125)=W:=⟨_,rfl⟩;have hs1:W1.heap.size=w.heap.size+1:=by rw[<-hW1];simp[hsS]
 have hT1:PW w pb t (cs.setIfInBounds po (I 0)) W1:=by rw[<-hW1];exact hTS.grow (JM WS _)
 have ap2:Boxed W1 w.heap.size 125 (.pointer (some ⟨pb,po,none⟩)):=by
  rw[<-hW1,<-hsS];exact qw WS 125 (.pointer (some ⟨pb,po,none⟩))
 rw[<-hWS] at hW1;have hr1:PV M W1 rb rest:=hr.of (hT1.block rb hlt (fun e=>hne e.symm)) fun k hk=>hT1.block k (by omega) (by omega);have HT0:=WE M W1 rb size rest hr1 hn;obtain⟨bs,hbs⟩:∃bs,rest.take size=bs:=⟨_,rfl⟩;have hbl:bs.length=size:=by rw[<-hbs,bn];omega
 unfold atX at HT0;rw[hbs] at HT0;have hrd:rdN rest false size=WH (upto (bk bs) bs.length):=by
  have e1:tkB rest false size=false:=by unfold tkB;simp;omega
  unfold rdN tk;rw[e1];simp only[kC,sG,hbs]
 have HL:=JJ hbl;have HRD:=JJ hrd;have HT:=JJ HT0;have HT1:=JJ hT1;have auk:=JJ ap2;have HW1:=JJ hW1;have HP:=JJ hp;clear hr hr1 HT0 hbs hbl hrd hT1 ap2 hW1 hWS hsS hTS hp;refine iK Tryz.func183 rfl trivial ?_ hro;simp only[Tryz.ntmps183,bZ,bG,dE,Nat.reduceAdd,Nat.reduceSub,df,dh,dL,dw,bU,dn]
 gi_wp2_with first
  |(refine⟨trivial,?_⟩;gi_at_call 186;rw[HW1.out];refine(gX.2 HT.out).mono ?_;rintro e w2 ⟨bb,off,c,rfl,hcl,hcc,hbM,hby,hrs,hk⟩;have SY:=JJ hby;have HRS:=JJ hrs;have HK:=JJ hk;clear hby hrs hk)
  |(refine⟨trivial,?_⟩;gi_at_call 187;refine(anx Fence.wide 2 trivial hro _ _ _ _).mono ?_;rintro e w' ⟨rfl,rfl⟩)
 have hsk:=HK.out.size;have hT2:PW w2 pb t (cs.setIfInBounds po (I 0)) w2:=⟨rfl,rfl,rfl,ay _,fun _ _ _=>rfl,(HK.out.block pb (by omega) hne).trans HT1.out.tgt,by omega⟩;have ap3:Boxed w2 w.heap.size 125 (.pointer (some ⟨pb,po,none⟩)):=(HK.out.block w.heap.size (by omega) (by omega)).trans auk.out;have hB1:ai w.heap.size w2 (w2.alloc (.cells #[.slice (some ⟨bb,off,none⟩) size c] 55)):=((aW _ w2).alloc (ay _) _).mono (by omega);have adV:BytesAt (w2.alloc (.cells #[.slice (some ⟨bb,off,none⟩) size c] 55)) M (some ⟨bb,off,none⟩) bs:=.inr ⟨bb,off,rfl,hbM,fun j hj=>(hB1.cell (p:=⟨bb,off+j,none⟩) (by show bb<w.heap.size;omega)).trans (SY.out j (by have:=HL.out;omega))⟩;have bN:=qw w2 55 (.slice (some ⟨bb,off,none⟩) size c);have awz:(w2.alloc (.cells #[.slice (some ⟨bb,off,none⟩) size c] 55)).cell? ⟨w2.heap.size,0,none⟩=some (.slice (some ⟨bb,off,none⟩) size c):=bN.cell;have hst:=afw Fence.wide (3 - 1) trivial hro (by omega) w2.heap.size M (some ⟨bb,off,none⟩) c bs (by have:=HL.out;omega) (w2.alloc (.cells #[.slice (some ⟨bb,off,none⟩) size c] 55)) (by simp) (by simp;omega) (by rw[HL.out];exact awz) adV;have hI0:PW w2 pb t (cs.setIfInBounds po (I 0)) (w2.alloc (.cells #[.slice (some ⟨bb,off,none⟩) size c] 55)):=hT2.grow (JM w2 _);refine wpIn_rangeFunc_ownG hro h1 (gf:=188) (lb:= #[.pointer (some ⟨w2.heap.size,0,none⟩)]) rfl trivial (lK Tryz.func188 (by kernel_rfl) rfl)
  hst (fun h k=>h.trans k) (ary (by simp;omega) (by simp)) (aW _ _) (fun _=>rfl)
  (fun pre W=>Boxed W w.heap.size 125 (.pointer (some ⟨pb,po,none⟩))/\PW w2 pb t (cs.setIfInBounds po (I (WH pre))) W)
  (fun _ _ _=>False)
  (OwnFrom.and (Own.from (boxed_own _ _ _) _) (aoI _ (by simp)))
  (fun _ _ _ _ _ hs _ _=>hs)
  ⟨ap3.alloc _,hI0⟩
  (fun x=> {tmps:= #[pt rb,.pointer (some ⟨pb,po,none⟩),I size,undef,.pointer (some ⟨w.heap.size,0,none⟩),undef,undef,Extern.Stop.cell x.2,.pointer (some ⟨pb,po,none⟩),.pointer (some ⟨pb,po,none⟩),pt rb,I size,.slice (some ⟨bb,off,none⟩) size c,.func (.func 188) #[] #[.pointer (some ⟨w2.heap.size,0,none⟩)],.int .i64 (x.1:Int),Extern.Stop.cell x.2,undef,undef,undef,undef,undef,undef,undef,undef,undef],defers:= []}) ?assign ?body ?done ?stop
 case assign=>
  intro l x W K hK
  gi_wp2
  exact hK
 case body=>
  rintro l pre ⟨xi,xc⟩ W ⟨hbx,hB⟩ _;have hc:=hbx.cell;have hx1:(xc.toNat:Int)<256:=by have:=xc.toNat_lt;omega
  have hx2:(0:Int)<=xc.toNat:=by omega
  simp only[Extern.Stop.cell];have hcp:W.cell? ⟨pb,po,none⟩=some (I (WH pre)):=(hB.cell po).trans (by simp[hpo]);have hfp:=hB.Oo po;have HBX:=JJ hbx;have HBB:=JJ hB;have hwl:w.heap.size<w2.heap.size:=by omega
  obtain⟨u,hu⟩:∃u,WH pre=u:=⟨_,rfl⟩;rw[hu] at hcp;have HU:=JJ hu;have HV:Hid (bits BinOp.or IntKind.i64 (IntKind.i64.wrap (u*256)) xc.toNat=Ye u xc):=JJ (by unfold Ye;rw[show IntKind.i64.wrap (u*256)=wrap64 (u*256) from by rw[aA];unfold wrap64;omega]);have hxw:IntKind.i64.wrap (xc.toNat:Int)=(xc.toNat:Int):=by rw[aA];omega
  clear hbx hB hT2 ap3 hB1 adV bN awz hst hI0 hc0 hf0 hu SY HRS HT HT1 auk HW1 HP HRD HL
  gi_wp2
  gi_region
  all_goals exact alT hMp hpl hwl HBX.out HBB.out HU.out HV.out
 case done=>
  rintro D ys W hD rfl ⟨hbx,hB⟩ hK;have hc:=hbx.cell
  gi_wp2
  refine⟨by simp,.inl ⟨_,_,rfl,jd hK,?_⟩⟩;refine⟨.tuple #[],by simp[results,Tryz.results183],?_⟩;have hD2:w2.heap.size+1<=D:=by simpa using hD
  have hpo:∀k,k<w2.heap.size->(W.putObj D (.deferred none)).heap[k]? =W.heap[k]? :=fun k hk=>bQ (by omega);refine⟨rfl,HRS.out.of ((hpo rb (by omega)).trans (hB.block rb (by omega) (fun e=>hne e.symm))) (fun k hk=>(hpo k (by omega)).trans (hB.block k (by omega) (by omega))),?_⟩;rw[HRD.out];have hT1:=HT1.out;refine⟨hB.os.trans (HK.out.os.trans hT1.os),hB.tape.trans (HK.out.tape.trans hT1.tape),hB.output.trans (HK.out.output.trans hT1.output),?_,fun k hk h2 h3=>?_,?_⟩
  ·have h1:=hB.size;simp only[World.putObj,di];omega
  ·exact(hpo k (by omega)).trans ((hB.block k (by omega) h2).trans ((HK.out.block k (by omega) h3).trans (hT1.block k hk h2)))
  ·refine(hpo pb (by omega)).trans ?_;exact hB.tgt
 case stop=>
  rintro D c pre W _ _ h _;exact h.elim
end Go.Proofs.YtbaehbbonkljpaaGreatDoor
namespace Go.Proofs.YtbaehbbonkljpaaGreatDoor
open Go Go.RowKit
theorem Md.trans {w w1 w2:ae}{rb pb:Nat}{t:TypeId}{cs cs2:ax ah}(h:Md w rb pb t cs w1)(k:Md w1 rb pb t cs2 w2):Md w rb pb t cs2 w2:=
 ⟨k.os.trans h.os,k.tape.trans h.tape,k.output.trans h.output,aO h.size k.size,fun b hb h1 h2=>(k.block b (LK hb h.size) h1 h2).trans (h.block b hb h1 h2),k.tgt⟩
theorem Md.refl {w:ae}{rb pb:Nat}{t:TypeId}{cs:ax ah}(h:w.heap[pb]? =some (.cells cs t (0,0))):Md w rb pb t cs w:=⟨rfl,rfl,rfl,ay _,fun _ _ _ _=>rfl,h⟩
theorem Md.Vd {w w1 w2:ae}{rb pb:Nat}{t:TypeId}{cs:ax ah}(h:Md w rb pb t cs w1)(hk:NL rb w1 w2)(hl:pb<w1.heap.size)(hne:pb≠rb):Md w rb pb t cs w2:=
 ⟨hk.os.trans h.os,hk.tape.trans h.tape,hk.output.trans h.output,aO h.size hk.size,fun b hb h1 h2=>(hk.block b (LK hb h.size) h2).trans (h.block b hb h1 h2),(hk.block pb hl hne).trans h.tgt⟩
theorem Md.grow {w w1 w2:ae}{rb pb:Nat}{t:TypeId}{cs:ax ah}(h:Md w rb pb t cs w1)(hb:ai w1.heap.size w1 w2)(hl:pb<w1.heap.size)(hne:pb≠rb):Md w rb pb t cs w2:=h.Vd (NL.of_below hb) hl hne
theorem Md.put {w w1:ae}{rb pb:Nat}{t:TypeId}{cs:ax ah}(h:Md w rb pb t cs w1)(o:Nat)(v:ah):Md w rb pb t (cs.setIfInBounds o v) (w1.setCell ⟨pb,o,none⟩ v):=
 ⟨h.os,h.tape,h.output,by simpa[World.setCell] using h.size,fun b hb h1 h2=>(aN w1 _ b v h1).trans (h.block b hb h1 h2),bJ w1 pb o _ _ _ h.tgt⟩
theorem Md.drew {w w1:ae}{rb pb:Nat}{t:TypeId}{cs:ax ah}(h:Md w rb pb t cs w1):Md w rb pb t cs w1.drew:=⟨h.os,h.tape,h.output,h.size,h.block,h.tgt⟩
theorem Md.NP {w w1:ae}{rb pb:Nat}{t:TypeId}{cs:ax ah}(h:Md w.drew rb pb t cs w1):Md w rb pb t cs w1:=⟨h.os,h.tape,h.output,h.size,h.block,h.tgt⟩
theorem Md.cell {w w1:ae}{rb pb:Nat}{t:TypeId}{cs:ax ah}(h:Md w rb pb t cs w1)(i:Nat):w1.cell? ⟨pb,i,none⟩=cs[i]? :=aC w1 pb i _ _ _ h.tgt
theorem Md.Oo {w w1:ae}{rb pb:Nat}{t:TypeId}{cs:ax ah}(h:Md w rb pb t cs w1)(i:Nat):w1.frozen? ⟨pb,i,none⟩=false:=aP w1 pb i _ _ h.tgt
theorem PV.put {M pb o:Nat}{w:ae}{rb:Nat}{rest:ag au}(h:PV M w rb rest)(hp:M<=pb)(hne:pb≠rb)(v:ah):PV M (w.setCell ⟨pb,o,none⟩ v) rb rest:=
 h.of (aN w _ rb v (fun e=>hne e.symm)) fun k hk=>aN w _ k v (by show k≠pb;omega)
def aj7 (M:Nat)(w:ae)(rb pb po:Nat)(t:TypeId)(cs:ax ah)(n:Int)(R:ag au)(e:Ending)(w':ae):Prop:=
 e=.returned (.tuple #[])/\PV M w' rb R/\Md w rb pb t (cs.setIfInBounds po (I n)) w'
theorem Ot (M:Nat)(w:ae)(rb pb po size:Nat)(t:TypeId)(cs:ax ah)(n v:Int)(R:ag au)(hr:PV M w rb (le n size++R))(h8:size<=8)(hv:rdN (le n size++R) false size=v)(hp:w.heap[pb]? =some (.cells cs t (0,0)))(hpo:po<cs.size)(hMp:M<=pb)(hne:pb≠rb):
  Calls Tryz.prog 183 #[pt rb,.pointer (some ⟨pb,po,none⟩),I size] w (aj7 M w rb pb po t cs v R):=
 (acN M w rb pb po size t cs _ hr h8 (by rw[KN,J4];omega) hp hpo hMp hne).mono fun e w' ⟨h1,h2,h3⟩=>by
  rw[ag1] at h2;rw[hv] at h3;exact⟨h1,h2,h3⟩
theorem aAI (x:Int):wrap64 (hvs 0 (upto (bk (le x 2)) 2))=x%65536:=by
 have e:hvs 0 (upto (bk (le x 2)) 2)=((0*256+((byteOf (x / 256)).toNat:Int))*256+((byteOf x).toNat:Int)):=rfl;rw[e];simp only[Un];unfold wrap64;omega
theorem aqm (x:Int)(R:ag au):rdN (le x 2++R) false 2=x%65536:=by
 unfold rdN WH;rw[(acJ x 2 R).1,J4,ag7 _ 0 0 (by unfold wrap64;omega)];exact aAI x
def avY (M:Nat)(w:ae)(rb:Nat)(n:Int)(R:ag au)(e:Ending)(w':ae):Prop:=e=.returned (I n)/\PV M w' rb R/\NL rb w w'
theorem Px (M:Nat)(w:ae)(rb size:Nat)(m n v:Int)(R:ag au)(hr:PV M w rb (le n size++R))(h8:size<=8)(hv:rdN (le n size++R) false size=v):
  Calls Tryz.prog 182 #[pt rb,I m,I size] w (avY M w rb v R):=by
 have hl:=hr.lt;have hlo:=hr.lo;have hb:=JM w (.cells #[I 0] 3);have hpl:=aF w (.cells #[I 0] 3);have HC:=JJ (Ot M (w.alloc (.cells #[I 0] 3)) rb w.heap.size 0 size 3 #[I 0] n v R (hr.below hb hl) h8 hv hpl (by decide) (by omega) (by omega));have HB:=JJ hb;clear hr hb hpl hv;go_enter Tryz.func182,Tryz.ntmps182;go_wp2_with fail;refine HC.out.mono ?_;rintro e w1 ⟨rfl,hr1,hp1⟩;have hc1:w1.cell? ⟨w.heap.size,0,none⟩=some (I v):=hp1.cell 0;have HR1:=JJ hr1;have Pz:Hid (NL rb w w1):=JJ ⟨hp1.os,hp1.tape,hp1.output,by have:=hp1.size;simp at this;omega,fun k hk hkr=>(hp1.block k (by simp;omega) (by omega) hkr).trans (HB.out.block k hk)⟩;clear hr1 hp1 HC;go_wp2_with fail;go_ret;exact⟨rfl,HR1.out,Pz.out⟩
theorem ai9 (n:Int):IntKind.i16.wrap n=(n+32768)%65536 - 32768:=by
 simp[IntKind.wrap,IntKind.bits,IntKind.signed];omega
theorem Yk (M:Nat)(w:ae)(rb pb po:Nat)(t:TypeId)(cs:ax ah)(n:Int)(R:ag au)(hr:PV M w rb (le n 2++R))(hn0: -32768<=n)(hn1:n<=32767)(hp:w.heap[pb]? =some (.cells cs t (0,0)))(hpo:po<cs.size)(hMp:M<=pb)(hne:pb≠rb):
  Calls Tryz.prog 184 #[pt rb,.pointer (some ⟨pb,po,none⟩)] w (aj7 M w rb pb po t cs n R):=by
 obtain⟨u,hu⟩:∃u,n%65536=u:=⟨_,rfl⟩;have HC:=JJ (Ot M w rb pb po 2 t cs n u R hr (by omega) ((aqm n R).trans hu) hp hpo hMp hne);have hu0:0<=u:=by omega
 have hu1:u<65536:=by omega
 have hw16:IntKind.i16.wrap u=n:=by
  rw[ai9];omega
 clear hr hp;go_enter Tryz.func184,Tryz.ntmps184;go_wp2_with fail;refine HC.out.mono ?_;rintro e w1 ⟨rfl,hr1,hp1⟩;have hc1:w1.cell? ⟨pb,po,none⟩=some (I u):=(hp1.cell po).trans (by simp[hpo]);have hf1:=hp1.Oo po;have HR1:=JJ (hr1.put (o:=po) hMp hne (I n));have WZ:=JJ (hp1.put po (I n));clear hr1 hp1 HC hu;go_wp2_with fail
 go_end0
 exact⟨rfl,HR1.out,by have h:=WZ.out;rwa [gq] at h⟩
theorem aon {w:ae}{b o:Nat}{xs:ag au}(h:∀j,j<32->w.cell? ⟨b,o+j,none⟩=some (Extern.Stop.cell (xs[j]?.getD 0)))(hl:(JO xs).length=32):∀j u,(JO xs)[j]? =some u->w.cell? ((⟨b,o,none⟩:Addr).add j)=some u:=fun j u hu=>by
 have hj:=(MF.1 hu).1;rw[jb,h j (by omega)];unfold JO at hu hl hj;rw[aI] at hl hj;rw[aJ,KL (by omega)] at hu;rw[KL (by omega)];simpa using hu
def avZ (M:Nat)(w:ae)(rb pb po:Nat)(t:TypeId)(cs:ax ah)(v:ah)(R:ag au)(e:Ending)(w':ae):Prop:=
 e=.returned (.tuple #[])/\PV M w' rb R/\Md w rb pb t (cs.setIfInBounds po v) w'
theorem abN (M:Nat)(w:ae)(rb pb po:Nat)(t:TypeId)(cs:ax ah)(s0 s:ByteArray)(R:ag au)(hr:PV M w rb ((le s.size 1++s.data.toList)++R))(hs:s.size<256)(hp:w.heap[pb]? =some (.cells cs t (0,0)))(hpo:cs[po]? =some (.string s0))(hMp:M<=pb)(hne:pb≠rb):
  Calls Tryz.prog 185 #[pt rb,.pointer (some ⟨pb,po,none⟩)] w (avZ M w rb pb po t cs (.string s) R):=by
 rw[aH] at hr;have hpl:pb<w.heap.size:=(KY.1 hp).1;have HC:=JJ (Px M w rb 1 0 s.size s.size (s.data.toList++R) hr (by omega) (Td _ (by omega) (by omega) _));have HP:=JJ hp;have HPO:=JJ hpo;have HL:=JJ (show s.data.toList.length=s.size from dF);clear hr hp hpo;go_enter Tryz.func185,Tryz.ntmps185;go_wp2_with fail;refine HC.out.mono ?_;rintro e w1 ⟨rfl,hr1,hk1⟩;have HR1:=JJ hr1;have Pz:=JJ hk1;have hs1:=hk1.size;clear hr1 hk1 HC;go_wp2_with fail;refine(WE M w1 rb s.size (s.data.toList++R) HR1.out (by rw[KN,HL.out];omega)).mono ?_;rintro e w2 ⟨bb,off,c,rfl,hc1,hc2,hbM,hby,hr2,hk2⟩;have e1:(s.data.toList++R).take s.size=s.data.toList:=by rw[<-HL.out,fV (ay _),aU (ay _)]
 have e2:(s.data.toList++R).drop s.size=R:=by rw[<-HL.out,jD (ay _),dW (ay _)];rfl
 rw[e1] at hby;rw[e2] at hr2;have hcv:=aef w2 bb off c s hby;have hp2:w2.heap[pb]? =some (.cells cs t (0,0)):=(hk2.block pb (by omega) hne).trans ((Pz.out.block pb hpl hne).trans HP.out);have hcp:w2.cell? ⟨pb,po,none⟩=some (.string s0):=(aC w2 pb po _ _ _ hp2).trans HPO.out;have hfp:=aP w2 pb po _ _ hp2;have HR2:=JJ (hr2.put (o:=po) hMp hne (.string s));have HP2:Hid (Md w rb pb t (cs.setIfInBounds po (.string s)) (w2.setCell ⟨pb,po,none⟩ (.string s))):=JJ ((((Md.refl HP.out).Vd Pz.out hpl hne).Vd hk2 (by omega) hne).put po (.string s));clear hby hr2 hk2 e1 e2 hp2;go_wp2_with fail
 go_end0
 exact⟨rfl,HR2.out,HP2.out⟩
def putRow (cs:ax ah)(o:Nat)(vs:ag ah):ax ah:=(splice cs.toList o vs).toArray
theorem Yj (M:Nat)(w:ae)(rb pb po:Nat)(t:TypeId)(cs:ax ah)(xs R:ag au)(hr:PV M w rb (xs++R))(h32:xs.length=32)(hp:w.heap[pb]? =some (.cells cs t (0,0)))(hpo:po+32<=cs.size)(hMp:M<=pb)(hne:pb≠rb):
  Calls Tryz.prog 180 #[pt rb,.pointer (some ⟨pb,po,none⟩)] w fun e w'=>e=.returned (.tuple #[])/\PV M w' rb R/\Md w rb pb t (putRow cs po (JO xs)) w':=by
 have hpl:pb<w.heap.size:=(KY.1 hp).1;have HC:=JJ (WE M w.drew rb 32 (xs++R) hr.drew (by rw[KN,h32];omega));have HP:=JJ hp;have HX:Hid ((JO xs).length=32):=JJ (by simp[JO,h32]);have HE:Hid ((xs++R).take 32=xs/\(xs++R).drop 32=R):=JJ ⟨by rw[<-h32,fV (ay _),aU (ay _)],by rw[<-h32,jD (ay _),dW (ay _)];rfl⟩;clear hr hp h32;go_enter Tryz.func180,Tryz.ntmps180;go_wp2_with fail
 go_region_law (first|(go_simp;go_at_call 186;refine HC.out.mono ?_;rintro e w5 ⟨b5,o5,c5,rfl,hl5,hm5,hbM,hb5,VX,hk5⟩;rw[HE.out.1] at hb5;rw[HE.out.2] at VX;have Tv:=JJ VX;have HK5:=JJ hk5;have VI:Hid (∀j u,(JO xs)[j]? =some u->w5.cell? ((⟨b5,o5,none⟩:Addr).add j)=some u):=JJ (aon hb5 HX.out);have Zc:Hid (w5.heap[pb]? =some (.cells cs t (0,0))):=JJ ((hk5.block pb hpl hne).trans HP.out);clear hb5 VX hk5)|(refine V7 (by rfl) _ _ _ _ (by rfl) 5 bC (by kernel_rfl) pb po 32 32 ⟨b5,o5,none⟩ 32 c5 (by rfl) (by rfl) cs t Zc.out (JO xs) (by rw[HX.out];rfl) VI.out (by rw[HX.out];exact hpo) (aeg xs) (putRow cs po (JO xs)) rfl ?_))
 all_goals
  have H6:Hid (PV M (w5.setRow pb (putRow cs po (JO xs))) rb R):=JJ (Tv.out.of (cZ _ _ _ _ (fun e=>hne e.symm)) fun k hk=>cZ _ _ _ _ (by omega));have H7:Hid (Md w rb pb t (putRow cs po (JO xs)) (w5.setRow pb (putRow cs po (JO xs)))):=JJ ⟨HK5.out.os,HK5.out.tape,HK5.out.output,by simpa[World.setRow] using HK5.out.size,fun k hk h1 h2=>(cZ _ _ k _ h1).trans (HK5.out.block k hk h2),aQ _ _ _ _ _ _ Zc.out⟩;go_wp2_with fail
  go_end0
  exact⟨rfl,H6.out,H7.out⟩
end Go.Proofs.YtbaehbbonkljpaaGreatDoor
namespace Go.Proofs.YtbaehbbonkljpaaGreatDoor
open Go Go.RowKit
section
attribute [local go_sem] Oa Og Ob Oh PX PZ N8 Oc N9 Oe
theorem agm (M:Nat)(w:ae)(rb pb po:Nat)(t:TypeId)(cs:ax ah)(n:Int)(R:ag au)(hr:PV M w rb (le n 1++R))(h0:0<=n)(h1:n<256)(hp:w.heap[pb]? =some (.cells cs t (0,0)))(hpo:po<cs.size)(hMp:M<=pb)(hne:pb≠rb):
  Calls Tryz.prog 104 #[.iface 134 (pt rb),.pointer (some ⟨pb,po,none⟩)] w (aj7 M w rb pb po t cs n R):=by
 have HC:=JJ (Ot M w rb pb po 1 t cs n n R hr (by omega) (Td n h0 h1 R) hp hpo hMp hne);clear hr hp;go_enter Tryz.func104,Tryz.ntmps104;go_wp2_with fail;refine HC.out.mono ?_;rintro e w1 ⟨rfl,h⟩;have H:=JJ h;clear h HC;go_wp2_with fail
 go_end0
 exact⟨rfl,H.out⟩
theorem alp {W W':ae}{lo e size g n m cap rb o:Nat}{xs:ag ah}{v:ah}{cur:ax ah}(h:W.ownsRow lo e size (.slice (some ⟨g,0,none⟩) n cap) m xs)(hg:W.heap[g]? =some (.cells cur e (0,0)))(hp:Md W rb g e (cur.setIfInBounds o v) W'):
  W'.ownsRow lo e size (.slice (some ⟨g,0,none⟩) n cap) m (xs.set o v):=by
 obtain⟨cur',h1,h2,h3,h4,h5,h6,h7,rfl⟩:=RH h;rw[hg] at h1;injection h1 with h1;injection h1 with h1;subst h1;exact af4 hp.tgt h2 h3 h4 (by rw[di];exact h5) (by rw[jR,oC,h6]) (by rw[eu];exact h7)
theorem ints_set (zs:ag Int)(z:Int):((zs.map I)++ [I 0]).set zs.length (I z)=(zs++ [z]).map I:=by
 rw[eY _ _ (by simp)];simp
def avV (M:Nat)(w:ae)(rb pb po:Nat)(t:TypeId)(cs:ax ah)(n:Nat)(zs:ag Int)(R:ag au)(i:ah)(wr:ae):Prop:=
 ∃(k:Nat) (A:aj Addr) (c:Nat),k<=n/\i=.int .i64 k/\PV M wr rb (Ls (zs.drop k)++R)/\Md w rb pb t (cs.setIfInBounds po (.slice A k c)) wr/\wr.ownsRow w.heap.size 3 1 (.slice A k c) k ((zs.take k).map I)
def azU (M:Nat)(w:ae)(rb pb po:Nat)(t:TypeId)(cs:ax ah)(zs:ag Int)(n:Nat)(R:ag au)(e:Ending)(w':ae):Prop:=
 e=.returned (.tuple #[])/\∃A c,PV M w' rb R/\Md w rb pb t (cs.setIfInBounds po (.slice A n c)) w'/\w'.ownsRow w.heap.size 3 1 (.slice A n c) n (zs.map I)
theorem aiZ (M:Nat)(w:ae)(rb pb po n:Nat)(t:TypeId)(cs:ax ah)(zs:ag Int)(R:ag au)(hn:zs.length=n)(hn2:n<=100)(hfit:∀z∈zs,0<=z/\z<256)(hr:PV M w rb ((le n 1++Ls zs)++R))(hp:w.heap[pb]? =some (.cells cs t (0,0)))(hpo:cs[po]? =some (.slice none 0 0))(hMp:M<=pb)(hne:pb≠rb):
  Calls Tryz.prog 103 #[.iface 134 (pt rb),.pointer (some ⟨pb,po,none⟩),I 1,.func (.func 104) #[] #[]] w (azU M w rb pb po t cs zs n R):=by
 rw[aH] at hr;have hpl:pb<w.heap.size:=(KY.1 hp).1;have hlo:=hr.lo;have hrl:=hr.lt;have hcs:cs.setIfInBounds po (.slice none 0 0)=cs:=by
  apply jG;intro i;rw[iZ];split
  ·rename_i e;subst e;split
   ·exact hpo.symm
   ·rename_i e2;rw[iI (by omega)] at hpo;cases hpo
  ·rfl
 have hc0:w.cell? ⟨pb,po,none⟩=some (.slice none 0 0):=(aC w pb po _ _ _ hp).trans hpo;have hpos:po<cs.size:=(KY.1 hpo).1;have HC:=JJ (Px M w.drew rb 1 0 n n (Ls zs++R) hr.drew (by omega) (Td _ (by omega) (by omega) _));have HP:Hid (Md w rb pb t (cs.setIfInBounds po (.slice none 0 0)) w):=JJ (by rw[hcs];exact Md.refl hp);have HN:=JJ hn;have HF:=JJ hfit;clear hr hp hpo hcs hn hfit;obtain⟨i0,hi,hz0,hz1,hz2⟩:=dN Xh;go_enter Tryz.func103,Tryz.ntmps103;go_wp2_with fail;go_still_tail 9,(by kernel_rfl);go_wp2_with fail;refine HC.out.mono ?_;rintro e w1 ⟨rfl,hr1,hk1⟩;have HR1:=JJ hr1;have WZ:=JJ (HP.out.drew.Vd hk1 hpl hne);clear hr1 hk1 HC hc0;go_wp2_with fail
 go_loopw [22] (fun i wr=>avV M w rb pb po t cs n zs R i wr) (fun i _=>n - (intOf i).toNat)
 case atStart=>exact⟨0,none,0,aG _,rfl,HR1.out,WZ.out,dD _ _ _ _⟩
 case round=>
  obtain⟨k,A,c,hk,rfl,hr,hp,hown⟩:=hrel;have HR:=JJ hr;have Zd:=JJ hp;have HO:=JJ hown;have hcp:wr.cell? ⟨pb,po,none⟩=some (.slice A k c):=(hp.cell po).trans (by simp[hpos]);have hsw:=hp.size;clear hr hp hown HR1 WZ HP;by_cases hlt:k<n
  ·have i0':(0:Int)<=(k:Int):=by omega
   have i1:(k:Int)<(n:Int):=by omega
   have hkz:k<zs.length:=by rw[HN.out];exact hlt
   obtain⟨z,hz⟩:∃z,zs[k]? =some z:=⟨_,KL hkz⟩;have hzr:=HF.out z (LQ hz);have HZ:=JJ hz;have hbase:w.heap.size<=(wr.alloc (.cells #[I 0] 3)).heap.size:=by simp;omega
   clear hz;go_wp2_with(at_builtin;refine bK _ rfl _ _ 62 rfl w.heap.size 3 i0 (.int .i64 0) 1 8 iW hi hz0 hz1 hz2 rfl (by decide) _ _ _ rfl (HO.out.alloc _) ⟨wr.heap.size,0,none⟩ 1 1 [I 0] rfl rfl ?c1 ?c2 ?c3 ?c4 ?c5 ?_)
   case c1=>exact jk _ _ _
   case c2=>intro u hu;simp at hu;subst hu;rfl
   case c3=>unfold maxLen;omega
   case c4=>omega
   case c5=>exact hbase
   intro v' w2 hown2 hgrow2 _ afK;rw[<-lZ] at hown2;obtain⟨g2,c2,rfl,hg2⟩:=LW hown2 (jl _);have hbw:∀b,b<w.heap.size->w2.heap[b]? =wr.heap[b]? :=fun b hb=>by rw[hgrow2.block b (by simp;omega) (MV HO.out b hb),aV wr _ b (by omega)]
   have hs2:wr.heap.size<=w2.heap.size:=by have:=hgrow2.size;rw[dO] at this;omega
   have hp2:w2.heap[pb]? =some (.cells (cs.setIfInBounds po (.slice A k c)) t (0,0)):=(hbw pb hpl).trans Zd.out.tgt;have hcp2:w2.cell? ⟨pb,po,none⟩=some (.slice A k c):=(aC w2 pb po _ _ _ hp2).trans (by simp[hpos]);have anV:=aP w2 pb po _ _ hp2;have hlo2:=Qx hown2;have hP3:Md w rb pb t (cs.setIfInBounds po (.slice (some ⟨g2,0,none⟩) (k+1) c2)) (w2.setCell ⟨pb,po,none⟩ (.slice (some ⟨g2,0,none⟩) (k+1) c2)):=by
    have h:Md w rb pb t (cs.setIfInBounds po (.slice A k c)) w2:=⟨hgrow2.os.trans Zd.out.os,hgrow2.tape.trans Zd.out.tape,hgrow2.output.trans Zd.out.output,aO Zd.out.size hs2,fun b hb h1 h2=>(hbw b hb).trans (Zd.out.block b hb h1 h2),hp2⟩;have h:=h.put po (.slice (some ⟨g2,0,none⟩) (k+1) c2)
    rwa [gq] at h
   have hR3:PV M (w2.setCell ⟨pb,po,none⟩ (.slice (some ⟨g2,0,none⟩) (k+1) c2)) rb (Ls (zs.drop k)++R):=(HR.out.of (hbw rb hrl) fun b hb=>hbw b (by omega)).put hMp hne _;have hO3:(w2.setCell ⟨pb,po,none⟩ (.slice (some ⟨g2,0,none⟩) (k+1) c2)).ownsRow w.heap.size 3 1 (.slice (some ⟨g2,0,none⟩) (k+1) c2) (k+1) ((zs.take k).map I++ [I 0]):=Nl (p:=⟨pb,po,none⟩) hown2 (by intro e;injection e with e;simp only at e;omega);have SG:=JJ hP3;have HR3:=JJ hR3;have VJ:=JJ hO3;clear hown2 hgrow2 afK hbw hp2 hP3 hR3 hO3 hg2 hcp;go_wp2_with fail;obtain⟨w3,hw3⟩:∃W,w2.setCell ⟨pb,po,none⟩ (.slice (some ⟨g2,0,none⟩) (k+1) c2)=W:=⟨_,rfl⟩;rw[hw3] at SG HR3 VJ⊢;obtain⟨cur,q1,q2,q3,q4,q5,q6,q7,_⟩:=RH VJ.out;have hcz:Ls (zs.drop k)++R=le z 1++(Ls (zs.drop (k+1))++R):=by
    have hd:zs.drop k=z::zs.drop (k+1):=by
     rw[eF hkz];have h:=HZ.out;rw[KL hkz] at h;injection h with h;rw[h]
    rw[hd];simp[Ls]
   have hr3:=HR3.out;rw[hcz] at hr3;refine(agm M w3 rb g2 k 3 cur z _ hr3 hzr.1 hzr.2 q1 (by rw[q5];omega) (by omega) (by omega)).mono ?_;rintro e w4 ⟨rfl,hr4,U0⟩;have hO4:=alp VJ.out q1 U0;have hlen:((zs.take k).map I).length=k:=by rw[aI,bn];omega
   have hset:((zs.take k).map I++ [I 0]).set k (I z)=(zs.take (k+1)).map I:=by
    have h:=ints_set (zs.take k) z;rw[show(zs.take k).length=k by rw[bn];omega] at h;rw[h,Oq zs k z HZ.out]
   rw[hset] at hO4;have hP4:Md w rb pb t (cs.setIfInBounds po (.slice (some ⟨g2,0,none⟩) (k+1) c2)) w4:=⟨U0.os.trans SG.out.os,U0.tape.trans SG.out.tape,U0.output.trans SG.out.output,aO SG.out.size U0.size,fun b hb h1 h2=>(U0.block b (LK hb SG.out.size) (by omega) h2).trans (SG.out.block b hb h1 h2),(U0.block pb (LK hpl SG.out.size) (by omega) hne).trans SG.out.tgt⟩;have HR4:=JJ hr4;have HP4:=JJ hP4;have HO4:=JJ hO4;clear hr4 U0 hO4 hP4 hset hlen hr3 hcz q1 q2 q3 q4 q5 q6 q7 hw3 hcp2 anV;go_wp2_with fail;go_roundw
   case rel=>exact⟨k+1,some ⟨g2,0,none⟩,c2,by omega,by go_num,HR4.out,HP4.out,HO4.out⟩
   case measure=>simp[intOf];omega
  ·have hkn:k=n:=by omega
   have WY:=JJ hkn;have hlt':¬(k:Int)<(n:Int):=by omega
   clear hkn hlt hcp;go_wp2_with fail
   go_end0
   refine⟨rfl,A,c,?_,?_,?_⟩
   ·have h:=HR.out;rw[WY.out,dW (by rw[HN.out];exact ay _)] at h;exact h
   ·have h:=Zd.out
    rwa [WY.out] at h
   ·have h:=HO.out
    rwa [WY.out,aU (by rw[HN.out];exact ay _)] at h
end
end Go.Proofs.YtbaehbbonkljpaaGreatDoor
namespace Go.Proofs.YtbaehbbonkljpaaGreatDoor
open Go Go.RowKit
section
attribute [local go_sem] Oa Og Ob Oh PX PZ N8 Oc N9 Oe
def afr (M:Nat)(w:ae)(rb:Nat)(R:ag au)(e:Ending)(w':ae):Prop:=e=.returned (.tuple #[])/\PV M w' rb R/\NL rb w w'
theorem Ws {rb:Nat}{w w':ae}(h:NL rb w.drew w'):NL rb w w':=⟨h.os,h.tape,h.output,h.size,h.block⟩
theorem YB (M:Nat)(w:ae)(rb lb lo:Nat)(A:aj Addr)(c:Nat)(R:ag au)(hp:w.cell? ⟨lb,lo,none⟩=some (.slice A 0 c))(hr:PV M w rb (le 0 1++R)):
  Calls Tryz.prog 105 #[.iface 134 (pt rb),.pointer (some ⟨lb,lo,none⟩),I 1,.func (.func 106) #[] #[]] w (afr M w rb R):=by
 have HC:=JJ (Px M w.drew rb 1 0 0 0 R hr.drew (by omega) (Td 0 (by omega) (by omega) R));clear hr;go_enter Tryz.func105,Tryz.ntmps105;go_wp2_with fail;go_still_tail 9,(by kernel_rfl);go_wp2_with fail;refine HC.out.mono ?_;rintro e w1 ⟨rfl,hr1,hk1⟩;have HR1:=JJ hr1;have Pz:=JJ (Ws hk1);clear hr1 hk1 HC hp;go_wp2_with fail
 go_loop [22] (fun i=>i=.int .i64 0) (fun _=>0)
 case atStart=>rfl
 case round=>
  subst hrel;go_wp2_with fail
  go_end0
  exact⟨rfl,HR1.out,Pz.out⟩
theorem TT (M:Nat)(w:ae)(rb lb lo:Nat)(A:aj Addr)(c:Nat)(R:ag au)(hp:w.cell? ⟨lb,lo,none⟩=some (.slice A 0 c))(hr:PV M w rb (le 0 2++R)):
  Calls Tryz.prog 84 #[.iface 134 (pt rb),.pointer (some ⟨lb,lo,none⟩),I 2,.func (.func 85) #[] #[]] w (afr M w rb R):=by
 have HC:=JJ (Px M w.drew rb 2 0 0 0 R hr.drew (by omega) ((aqm 0 R).trans (by decide)));clear hr;go_enter Tryz.func84,Tryz.ntmps84;go_wp2_with fail;go_still_tail 9,(by kernel_rfl);go_wp2_with fail;refine HC.out.mono ?_;rintro e w1 ⟨rfl,hr1,hk1⟩;have HR1:=JJ hr1;have Pz:=JJ (Ws hk1);clear hr1 hk1 HC hp;go_wp2_with fail
 go_loop [22] (fun i=>i=.int .i64 0) (fun _=>0)
 case atStart=>rfl
 case round=>
  subst hrel;go_wp2_with fail
  go_end0
  exact⟨rfl,HR1.out,Pz.out⟩
theorem YD (M:Nat)(w:ae)(rb lb lo:Nat)(A:aj Addr)(c:Nat)(R:ag au)(hp:w.cell? ⟨lb,lo,none⟩=some (.slice A 0 c))(hr:PV M w rb (le 0 1++R)):
  Calls Tryz.prog 86 #[.iface 134 (pt rb),.pointer (some ⟨lb,lo,none⟩),I 1,.func (.func 87) #[] #[]] w (afr M w rb R):=by
 have HC:=JJ (Px M w.drew rb 1 0 0 0 R hr.drew (by omega) (Td 0 (by omega) (by omega) R));clear hr;go_enter Tryz.func86,Tryz.ntmps86;go_wp2_with fail;go_still_tail 9,(by kernel_rfl);go_wp2_with fail;refine HC.out.mono ?_;rintro e w1 ⟨rfl,hr1,hk1⟩;have HR1:=JJ hr1;have Pz:=JJ (Ws hk1);clear hr1 hk1 HC hp;go_wp2_with fail
 go_loop [22] (fun i=>i=.int .i64 0) (fun _=>0)
 case atStart=>rfl
 case round=>
  subst hrel;go_wp2_with fail
  go_end0
  exact⟨rfl,HR1.out,Pz.out⟩
def apV (M:Nat)(w:ae)(rb cb co:Nat)(t:TypeId)(cs:ax ah)(c:Cal)(R:ag au)(e:Ending)(w':ae):Prop:=
 e=.returned (.tuple #[])/\∃A a,PV M w' rb R/\Md w rb cb t (((cs.setIfInBounds co (I c.KI)).setIfInBounds (co+1) (.slice A c.JQ.length a)).setIfInBounds (co+2) (I (-1))) w'/\w'.ownsRow w.heap.size 3 1 (.slice A c.JQ.length a) c.JQ.length (c.JQ.map I)
theorem UK (M:Nat)(w:ae)(rb cb co:Nat)(t:TypeId)(cs:ax ah)(c:Cal)(R:ag au)(hc:agF c)(hr:PV M w rb (TL c++R))(hp:w.heap[cb]? =some (.cells cs t (0,0)))(h0:co<cs.size)(h1:cs[co+1]? =some (.slice none 0 0))(h2:cs[co+2]? =some (I 0))(h3:cs[co+3]? =some (.slice none 0 0))
  (hM:M<=cb)(hne:cb≠rb):
  Calls Tryz.prog 83 #[.iface 134 (pt rb),.pointer (some ⟨cb,co,none⟩)] w (apV M w rb cb co t cs c R):=by
 have hcl:cb<w.heap.size:=(KY.1 hp).1;have hlo:=hr.lo;have hrw:=hr.lt;have e1:co+1<cs.size:=(KY.1 h1).1;have e2:co+2<cs.size:=(KY.1 h2).1;have e3:co+3<cs.size:=(KY.1 h3).1;obtain⟨n,hn⟩:∃n,c.JQ.length=n:=⟨_,rfl⟩;have hn2:n<=16:=by have:=hc.mo.2;omega
 have hr':PV M w.drew rb (le c.KI 4++((le n 1++Ls c.JQ)++(le 0 1++(le 0 1++R)))):=by
  have h:=hr.drew;unfold TL at h;rw[hn] at h;simpa only[aH] using h
 have Rj:=JJ (Ot M w.drew rb cb co 4 t cs c.KI c.KI _ hr' (by omega) (axr _ hc.ep.1 (by have:=hc.ep.2;omega) _) hp h0 hM hne);have HN:=JJ hn;have HM:Hid (∀z∈c.JQ,0<=z/\z<256):=JJ fun z hz=>by have:=hc.all z hz;omega
 have HX:Hid (cs[co+1]? =some (.slice none 0 0)/\cs[co+2]? =some (I 0)/\cs[co+3]? =some (.slice none 0 0)):=JJ ⟨h1,h2,h3⟩;clear hc hr hr' hp hn h1 h2 h3;unfold apV;go_enter Tryz.func83,Tryz.ntmps83;go_wp2_with fail;go_still_tail 7,(by kernel_rfl);go_wp2_with fail;refine Rj.out.mono ?_;rintro e w1 ⟨rfl,hr1,hp1⟩;have WZ:=JJ hp1.NP;have HL:=JJ (aiZ M w1 rb cb (co+1) n t (cs.setIfInBounds co (I c.KI)) c.JQ _ HN.out (by omega) HM.out hr1 hp1.tgt (by rw[bf (by omega)];exact HX.out.1) hM hne);clear hr1 hp1 Rj;go_wp2_with fail;refine HL.out.mono ?_;rintro e w2 ⟨rfl,A,a,hr2,hp2,ho2⟩;obtain⟨C2,hC2⟩:∃C,(cs.setIfInBounds co (I c.KI)).setIfInBounds (co+1) (.slice A n a)=C:=⟨_,rfl⟩;rw[hC2] at hp2;have g2:C2[co+2]? =some (I 0):=by rw[<-hC2,bf (by omega),bf (by omega)];exact HX.out.2.1
 have g3:C2[co+3]? =some (.slice none 0 0):=by rw[<-hC2,bf (by omega),bf (by omega)];exact HX.out.2.2
 have HP2:=JJ (WZ.out.trans hp2);have SI:=JJ (KD ho2 WZ.out.size);have PR:=JJ hC2;have d2:w2.cell? ⟨cb,co+2,none⟩=some (I 0):=(hp2.cell (co+2)).trans g2;have hs2:=hp2.size;have hs1:=WZ.out.size;have hb2:=JM w2 (.cells #[I 1] 3);have HB2:=JJ hb2;have hrl:=hr2.lt;have HC2:=JJ (Ot M (w2.alloc (.cells #[I 1] 3)) rb w2.heap.size 0 1 3 #[I 1] 0 0 _ (hr2.below hb2 hrl) (by omega) (Td 0 (by omega) (by omega) _) (aF w2 _) (by decide) (by omega) (by omega));clear hr2 hp2 ho2 hC2 HL hb2;go_wp2_with fail;refine HC2.out.mono ?_;rintro e w3 ⟨rfl,hr3,hp3⟩;have d3:w3.cell? ⟨w2.heap.size,0,none⟩=some (I 0):=hp3.cell 0;have hs3:=hp3.size;rw[dO] at hs3;have hk3:NL rb w2 w3:=⟨hp3.os,hp3.tape,hp3.output,by omega,fun b hb hbr=>(hp3.block b (by simp;omega) (by omega) hbr).trans (HB2.out.block b hb)⟩;have anZ:Md w rb cb t C2 w3:=HP2.out.Vd hk3 (by omega) hne;have e3':w3.cell? ⟨cb,co+2,none⟩=some (I 0):=(anZ.cell (co+2)).trans g2;have f3:=anZ.Oo (co+2);have HP4:=JJ (anZ.put (co+2) (I (-1)));have HR4:=JJ (hr3.put (o:=co+2) hM hne (I (-1)));have ho3:w3.ownsRow w.heap.size 3 1 (.slice A n a) n (c.JQ.map I):=P7 SI.out hk3 hrw;have HO4:=JJ (Nl (u:=I (-1)) (p:=⟨cb,co+2,none⟩) ho3 (MV ho3 cb hcl));clear hr3 hp3 hk3 anZ HC2 ho3 d2;go_wp2_with fail;obtain⟨w4,hw4⟩:∃W,w3.setCell ⟨cb,co+2,none⟩ (I (-1))=W:=⟨_,rfl⟩;rw[hw4] at HP4 HR4 HO4⊢;refine(YB M w4 rb cb (co+3) none 0 R ((HP4.out.cell (co+3)).trans (by rw[bf (by omega)];exact g3)) HR4.out).mono ?_;rintro e w5 ⟨rfl,VX,hk5⟩;have Tv:=JJ VX;have Zc:=JJ (HP4.out.Vd hk5 (LK hcl HP4.out.size) hne);have RP:=JJ (P7 HO4.out hk5 hrw);clear VX hk5 hw4 d3 e3' f3 g2 g3;go_wp2_with fail
 go_end0
 refine⟨rfl,A,a,Tv.out,?_,?_⟩
 ·have h:=Zc.out;rw[<-PR.out] at h;rw[HN.out];exact h
 ·rw[HN.out];exact RP.out
def U9 (cs:ax ah)(eo:Nat)(e:Ze)(A:aj Addr)(a:Nat):ax ah:=
 (((((cs.setIfInBounds eo (.string e.name)).setIfInBounds (eo+1) (I e.z.cal.KI)).setIfInBounds (eo+1+1) (.slice A e.z.cal.JQ.length a)).setIfInBounds (eo+1+2) (I (-1))).setIfInBounds (eo+1+4) (I e.z.start)).setIfInBounds (eo+1+6) (I e.z.hor)
def apW (M:Nat)(w:ae)(rb eb eo:Nat)(t:TypeId)(cs:ax ah)(x:Ze)(R:ag au)(e:Ending)(w':ae):Prop:=
 e=.returned (.tuple #[])/\∃A a,PV M w' rb R/\Md w rb eb t (U9 cs eo x A a) w'/\w'.ownsRow w.heap.size 3 1 (.slice A x.z.cal.JQ.length a) x.z.cal.JQ.length (x.z.cal.JQ.map I)
theorem acM (M:Nat)(w:ae)(rb eb eo:Nat)(t:TypeId)(cs:ax ah)(x:Ze)(R:ag au)(hf:Tz x.z)(hs:x.name.size<=32)(hr:PV M w rb (Y3 x++R))(hp:w.heap[eb]? =some (.cells cs t (0,0)))(hz:∀j,j<9->cs[eo+j]? =Qr[j]?)(hM:M<=eb)(hne:eb≠rb):
  Calls Tryz.prog 65 #[.iface 134 (pt rb),.pointer (some ⟨eb,eo,none⟩)] w (apW M w rb eb eo t cs x R):=by
 have hel:eb<w.heap.size:=(KY.1 hp).1;have hrw:=hr.lt;have hz0:cs[eo]? =some (.string ⟨#[]⟩):=hz 0 (by decide);have hz8:eo+8<cs.size:=(KY.1 ((hz 8 (by decide)).trans (rfl:Qr[8]? =some (.slice none 0 0)))).1;have hr':PV M w.drew rb ((le x.name.size 1++x.name.data.toList)++(TL x.z.cal++(le x.z.start 2++(le 0 2++(le x.z.hor 8++(le 0 1++R)))))):=by
  have h:=hr.drew;unfold Y3 at h;simpa only[aH] using h
 have Rj:=JJ (abN M w.drew rb eb eo t cs ⟨#[]⟩ x.name _ hr' (by omega) hp hz0 hM hne);have HZ:Hid (∀j,1<=j->j<9->cs[eo+j]? =Qr[j]?):=JJ fun j _ hj=>hz j hj;have HF:=JJ hf;have asc:=hf.start;have aAn:=hf.hor;clear hf hs hr hr' hp hz hz0;unfold apW;go_enter Tryz.func65,Tryz.ntmps65;go_wp2_with fail;go_still_tail 7,(by kernel_rfl);go_wp2_with fail;refine Rj.out.mono ?_;rintro e w1 ⟨rfl,hr1,hp1⟩;obtain⟨C1,hC1⟩:∃C,cs.setIfInBounds eo (.string x.name)=C:=⟨_,rfl⟩;rw[hC1] at hp1;have k1:∀j,1<=j->j<9->C1[eo+j]? =Qr[j]? :=fun j h1 h2=>by rw[<-hC1,bf (by omega)];exact HZ.out j h1 h2
 have l1:C1.size=cs.size:=by rw[<-hC1,di]
 have WZ:=JJ hp1.NP;have Ri:=JJ hC1;have HC2:=JJ (UK M w1 rb eb (eo+1) t C1 x.z.cal _ HF.out.cal hr1 hp1.tgt (by omega) (k1 2 (by decide) (by decide)) (k1 3 (by decide) (by decide)) (k1 4 (by decide) (by decide)) hM hne);have Pz:=JJ k1;clear hr1 hp1 Rj hC1 k1;go_wp2_with fail;refine HC2.out.mono ?_;rintro e w2 ⟨rfl,A,a,hr2,hp2,ho2⟩;obtain⟨C2,hC2⟩:∃C,((C1.setIfInBounds (eo+1) (I x.z.cal.KI)).setIfInBounds (eo+1+1) (.slice A x.z.cal.JQ.length a)).setIfInBounds (eo+1+2) (I (-1))=C:=⟨_,rfl⟩;rw[hC2] at hp2;have k2:∀j,4<=j->j<9->C2[eo+j]? =Qr[j]? :=fun j h1 h2=>by rw[<-hC2,bf (by omega),bf (by omega),bf (by omega)];exact Pz.out j (by omega) h2
 have l2:C2.size=cs.size:=by rw[<-hC2,di,di,di];exact l1
 have HP2:=JJ (WZ.out.trans hp2);have SI:=JJ (KD ho2 WZ.out.size);have PR:=JJ hC2;have Wh:=JJ (Yk M w2.drew rb eb (eo+1+4) t C2 x.z.start _ hr2.drew (by omega) (by omega) hp2.tgt (by omega) hM hne);have OZ:=JJ k2;clear hr2 hp2 ho2 HC2 hC2 k2;go_wp2_with fail;go_still_tail 7,(by kernel_rfl);go_wp2_with fail;refine Wh.out.mono ?_;rintro e w3 ⟨rfl,hr3,hp3⟩;obtain⟨C3,hC3⟩:∃C,C2.setIfInBounds (eo+1+4) (I x.z.start)=C:=⟨_,rfl⟩;rw[hC3] at hp3;have k3:∀j,6<=j->j<9->C3[eo+j]? =Qr[j]? :=fun j h1 h2=>by rw[<-hC3,bf (by omega)];exact OZ.out j (by omega) h2
 have l3:C3.size=cs.size:=by rw[<-hC3,di];exact l2
 have hk3:∀b,w.heap.size<=b->b<w2.heap.size->w3.heap[b]? =w2.heap[b]? :=fun b h1 h2=>hp3.block b h2 (by omega) (by omega);have VJ:=JJ (MK SI.out hk3);have SG:=JJ (HP2.out.trans hp3.NP);have Zf:=JJ hC3;have WT:=JJ (TT M w3 rb eb (eo+1+5) none 0 _ ((hp3.cell _).trans (k3 6 (by decide) (by decide))) hr3);have SE:=JJ k3;clear hr3 hp3 Wh hC3 k3 hk3;go_wp2_with fail;refine WT.out.mono ?_;rintro e w4 ⟨rfl,hr4,hk4⟩;have HP4:=JJ (SG.out.Vd hk4 (LK hel SG.out.size) hne);have HO4:=JJ (P7 VJ.out hk4 hrw);have HC5:=JJ (Ot M w4.drew rb eb (eo+1+6) 8 t C3 x.z.hor x.z.hor _ hr4.drew (by omega) (aqn _ (by unfold fits;omega) _) HP4.out.tgt (by omega) hM hne);clear hr4 hk4 WT;go_wp2_with fail;go_still_tail 7,(by kernel_rfl);go_wp2_with fail;refine HC5.out.mono ?_;rintro e w5 ⟨rfl,VX,hp5⟩;have hk5:∀b,w.heap.size<=b->b<w4.heap.size->w5.heap[b]? =w4.heap[b]? :=fun b h1 h2=>hp5.block b h2 (by omega) (by omega);have RP:=JJ (MK HO4.out hk5);have Zc:=JJ (HP4.out.trans hp5.NP);have Ug:=JJ (YD M w5 rb eb (eo+1+7) none 0 R ((hp5.cell _).trans (by rw[bf (by omega)];exact SE.out 8 (by decide) (by decide))) VX);clear VX hp5 HC5 hk5;go_wp2_with fail;refine Ug.out.mono ?_;rintro e w6 ⟨rfl,hr6,hk6⟩;have HR6:=JJ hr6;have HP6:=JJ (Zc.out.Vd hk6 (LK hel Zc.out.size) hne);have Xy:=JJ (P7 RP.out hk6 hrw);clear hr6 hk6 Ug;go_wp2_with fail
 go_end0
 refine⟨rfl,A,a,HR6.out,?_,Xy.out⟩;have h:=HP6.out;rw[<-Zf.out,<-PR.out,<-Ri.out] at h;exact h
end
end Go.Proofs.YtbaehbbonkljpaaGreatDoor
