/- The texts Nm, Oa, TbB, Od, in this order. -/
import Derived.Test.YtdibbemgpikgjaaGreatZ00
import Derived.Test.YtdibbemgpikgjaaGreatZ05
import Derived.Test.YtdibbemgpikgjaaGreatZ07
import Derived.Test.YtdibbemgpikgjaaGreatZ12
import Derived.Test.YtdibbemgpikgjaaGreatZ16
import Derived.Test.YtdibbemgpikgjaaGreatZ26
set_option maxRecDepth 10000
set_option maxHeartbeats 8000000
namespace Go.Proofs.YtdibbemgpikgjaaGreat
open Go Go.RowKit
theorem sZ (z:Zn) (s:Zs) (w:World) (hm:nO z) (h:gW w w.heap.size s z) (hv:vJ z=0):Calls Tryz.prog 39 #[.agg (aj z s)] w (Gives (I 0) w):=by
 have HO:Hid (∀w',Below w.heap.size w w'→Calls Tryz.prog 30 #[.agg (aj z s)] w' fun e w2=>(∃b:Nat,e= .returned (.tuple #[pt b, .bool true]))∧Below w'.heap.size w' w2):=ae fun w' hb=>Lc z s w' hm (h.grow hb) hv;have HR0:=ae (Row.new w (aj z s) 51);have HB0:=ae (ag w (.cells (aj z s) 51));have hT:¬(512:Int)<(z.trans.length:Int):=by have:=hm.MV;omega
 obtain ⟨m,hmm⟩:∃m,z.trans.length=m:=⟨_,rfl⟩;rw [hmm] at hT;have e0:aj z s= #[I z.cal.aN, .slice s.A z.cal.au.length s.a,I z.cal.bu, .slice s.B z.cal.rules.length s.b,I z.start, .slice s.C m s.c,I z.hor, .slice s.D z.ay.length s.d]:=by unfold aj;rw [hmm]
 rw [e0] at HO HR0 HB0 ⊢;clear h e0 hm hmm hv;go_enter Tryz.func39,Tryz.ntmps39;go_wp2_with fail;refine (HO.out _ HB0.out).mono ?_;rintro e w1 ⟨⟨b,rfl⟩,hb1⟩;have HB1:=ae (ah HB0.out hb1);clear hb1;go_wp2_with fail;go_ret;exact ⟨rfl,HB1.out⟩
structure P8 (t:Tb):Prop where
 bz:0≤t.bz∧t.bz<16
 version:1≤t.version∧t.version≤64
 aJ:0≤t.aJ∧t.aJ<t.version
 prev:t.prev.length=32
 bK:t.bK.length=32
 first:t.version=1→t.prev=aO
 num:t.aS.length≤128
 good:∀e∈t.aS,nO e.z∧vJ e.z=0
 short:∀e∈t.aS,e.name.size≤32
theorem nX.at {w:World} {B:Nat} {A:Option Addr} {zs:List dm} {k:Nat} {x:dm} (h:nX w B A zs) (hx:zs[k]? =some x):∃b off,A=some ⟨b,off,none⟩∧b<B∧w.rangeAt b (off+k*9) x.cells.toList:=by
 have hk:=(iU.1 hx).1;obtain ⟨b,off,e,hb,hc⟩:=h.row.there (by rw [dG];omega);exact ⟨b,off,e,hb,aB.elem (s:=9) (f:=fun x:dm=>x.cells.toList) (fun _ _=>rfl) hc k x hx⟩
structure TG (w:World) (cs:Array Value) (A:Option Addr) (zs:List dm) (W:World):Prop where
 row:Row W w.heap.size cs
 mem:nX W w.heap.size A zs
 up:Below w.heap.size w W
theorem TG.below {w W W':World} {cs:Array Value} {A:Option Addr} {zs:List dm} (h:TG w cs A zs W) (hb:Below W.heap.size W W'):TG w cs A zs W':=
 ⟨h.row.keep hb,h.mem.keep (hb.mono h.up.size),ah h.up hb⟩
attribute [local go_sem] jY jZ ku bH
theorem zk (t:Tb) (A:Option Addr) (n c:Nat) (zs:List dm) (w:World) (h:P8 t) (hz:t.aS=zs.map (·.e)) (hn:zs.length=n) (hA:nX w w.heap.size A zs) (hup:oO zs):
  Calls Tryz.prog 19 #[.agg (ai t (.slice A n c))] w (Gives (I 0) w):=by
 have HR0:=ae (Row.new w (ai t (.slice A n c)) 32);have HB0:=ae (ag w (.cells (ai t (.slice A n c)) 32));have k0:=HR0.out.2;have q1:=h.bz.1;have q2:=h.bz.2;have q3:=h.version.1;have q4:=h.version.2;have q5:=h.aJ.1;have q6:=h.aJ.2;have q7:¬(128:Int)<(n:Int):=by
  have:=h.num;rw [hz,List.length_map,hn] at this;omega
 have HF:=ae h;have HZ:=ae hz;have Jd:Hid (TG w (ai t (.slice A n c)) A zs (w.alloc (.cells (ai t (.slice A n c)) 32))):=ae ⟨HR0.out,hA.keep HB0.out,HB0.out⟩;have zX:=ae hn;have um:=ae hup;clear h hz hA hn HR0 HB0 hup;by_cases hv:t.version=1
 ·have hpz:t.prev=aO:=HF.out.first hv;have hneq:∀W,(binOp .neq 24 (.agg (az t.prev).toArray) (.agg (az aO).toArray)).run Tryz.prog W= .ok (.bool false) W:=fun W=>by
   rw [hpz];unfold az;rw [run_neq_struct,Go.Proofs.YtdibbemgpikgjaaGreat.oh W aO rfl];simp [Result.andThen]
  have h32:(Tryz.prog.info? 24).map (·.size)=some (az t.prev).length:=by rw [show (az t.prev).length=32 by simp [az,HF.out.prev]];kernel_rfl
  have HP:=ae (pg t (.slice A n c) Jd.out.row);have SL:=ae h32;clear hpz h32;rw [qO] at hneq;go_enter Tryz.func19,Tryz.ntmps19;go_wp2_with (with_reducible refine dI 24 ?_;refine bC rfl _ _ rfl w.heap.size 4 rfl (az t.prev) HP.out _ Tryz.underlying24 rfl SL.out ?_);clear hneq
  go_loopw [3,56] (fun l i wr=>∃k:Nat,k≤n∧l= .string (gK zs k)∧i=I k∧TG w (ai t (.slice A n c)) A zs wr) (fun _ i _=>n - (intOf i).toNat)
  case atStart=>exact ⟨0,Nat.zero_le _,rfl,rfl,Jd.out⟩
  case round=>
   obtain ⟨k,hk,rfl,rfl,BX⟩:=hrel;have HV:=ae BX;have k1:=BX.row.2;have hlt1:=BX.row.1;clear BX Jd k0;by_cases hlt:k<n
   ·have hkz:k<zs.length:=by rw [zX.out];exact hlt
    obtain ⟨x,hx⟩:∃x,zs[k]? =some x:=⟨_,dE hkz⟩;obtain ⟨b,off,rfl,hbl,hr⟩:=nX.at HV.out.mem hx;have hi:=HV.out.mem.each x (fK hx);have i0:(0:Int)≤(k:Int):=by omega
    have i1:(k:Int)<(n:Int):=by omega
    have c0:wr.cell? ⟨b,off+k*9,none⟩=some (.string x.e.name):=hr 0 _ rfl;have c1:wr.cell? ⟨b,off+k*9+1,none⟩=some (I x.e.z.cal.aN):=hr 1 _ rfl;have c2:wr.cell? ⟨b,off+k*9+2,none⟩=some (.slice x.s.A x.e.z.cal.au.length x.s.a):=hr 2 _ rfl;have c3:wr.cell? ⟨b,off+k*9+3,none⟩=some (I x.e.z.cal.bu):=hr 3 _ rfl;have c4:wr.cell? ⟨b,off+k*9+4,none⟩=some (.slice x.s.B x.e.z.cal.rules.length x.s.b):=hr 4 _ rfl;have c5:wr.cell? ⟨b,off+k*9+5,none⟩=some (I x.e.z.start):=hr 5 _ rfl;have c6:wr.cell? ⟨b,off+k*9+6,none⟩=some (.slice x.s.C x.e.z.trans.length x.s.c):=hr 6 _ rfl;have c7:wr.cell? ⟨b,off+k*9+7,none⟩=some (I x.e.z.hor):=hr 7 _ rfl;have c8:wr.cell? ⟨b,off+k*9+8,none⟩=some (.slice x.s.D x.e.z.ay.length x.s.d):=hr 8 _ rfl;have HX:=ae hx;have HI:=ae hi;have hxm:x.e∈t.aS:=by rw [HZ.out];exact List.mem_map_of_mem (fK hx)
    have F7:=ae (HF.out.good _ hxm);have q8:¬(32:Int)<(x.e.name.size:Int):=by have:=HF.out.short _ hxm;omega
    obtain ⟨s1,s2⟩:=um.out k x hx;obtain ⟨L,hL⟩:∃L,gK zs k=L:=⟨_,rfl⟩;have Jo:Hid (∀w',Below wr.heap.size wr w'→Calls Tryz.prog 39 #[.agg #[I x.e.z.cal.aN, .slice x.s.A x.e.z.cal.au.length x.s.a,I x.e.z.cal.bu, .slice x.s.B x.e.z.cal.rules.length x.s.b,I x.e.z.start, .slice x.s.C x.e.z.trans.length x.s.c,I x.e.z.hor, .slice x.s.D x.e.z.ay.length x.s.d]] w' (Gives (I 0) w')):=ae fun w' hb=>
     sZ x.e.z x.s w' F7.out.1 (((HI.out.more HV.out.up.size).keep hb).more hb.size) F7.out.2
    rw [hL] at s1 s2 ⊢;have hlb:b<wr.heap.size:=by omega
    have HB2:=ae (ag wr (.cells x.cells 55));have Ll:Hid (gK zs (k+1)=x.e.name):=ae (by show (zs[k]?.map (·.e.name)).getD ⟨#[]⟩=_;rw [hx];rfl);clear hx hr hi hxm hkz hL;go_wp2_with fail;refine (Jo.out _ HB2.out).mono ?_;rintro e w2 ⟨rfl,hb2⟩;have ni:=ae (HV.out.below (ah HB2.out hb2));have d0:w2.cell? ⟨wr.heap.size,0,none⟩=some (.string x.e.name):=((Row.new wr x.cells 55).keep hb2).2 0;clear hb2 c0 c1 c2 c3 c4 c5 c6 c7 c8 k1 Jo;go_wp2_with fail;go_roundw
    case rel=>exact ⟨k+1,by omega,by rw [Ll.out],by go_num,ni.out⟩
    case measure=>simp [intOf];omega
   ·go_wp2_with fail;go_ret;exact ⟨rfl,HV.out.up⟩
 ·go_enter Tryz.func19,Tryz.ntmps19;go_wp2_with fail
  go_loopw [3,56] (fun l i wr=>∃k:Nat,k≤n∧l= .string (gK zs k)∧i=I k∧TG w (ai t (.slice A n c)) A zs wr) (fun _ i _=>n - (intOf i).toNat)
  case atStart=>exact ⟨0,Nat.zero_le _,rfl,rfl,Jd.out⟩
  case round=>
   obtain ⟨k,hk,rfl,rfl,BX⟩:=hrel;have HV:=ae BX;have k1:=BX.row.2;have hlt1:=BX.row.1;clear BX Jd k0;by_cases hlt:k<n
   ·have hkz:k<zs.length:=by rw [zX.out];exact hlt
    obtain ⟨x,hx⟩:∃x,zs[k]? =some x:=⟨_,dE hkz⟩;obtain ⟨b,off,rfl,hbl,hr⟩:=nX.at HV.out.mem hx;have hi:=HV.out.mem.each x (fK hx);have i0:(0:Int)≤(k:Int):=by omega
    have i1:(k:Int)<(n:Int):=by omega
    have c0:wr.cell? ⟨b,off+k*9,none⟩=some (.string x.e.name):=hr 0 _ rfl;have c1:wr.cell? ⟨b,off+k*9+1,none⟩=some (I x.e.z.cal.aN):=hr 1 _ rfl;have c2:wr.cell? ⟨b,off+k*9+2,none⟩=some (.slice x.s.A x.e.z.cal.au.length x.s.a):=hr 2 _ rfl;have c3:wr.cell? ⟨b,off+k*9+3,none⟩=some (I x.e.z.cal.bu):=hr 3 _ rfl;have c4:wr.cell? ⟨b,off+k*9+4,none⟩=some (.slice x.s.B x.e.z.cal.rules.length x.s.b):=hr 4 _ rfl;have c5:wr.cell? ⟨b,off+k*9+5,none⟩=some (I x.e.z.start):=hr 5 _ rfl;have c6:wr.cell? ⟨b,off+k*9+6,none⟩=some (.slice x.s.C x.e.z.trans.length x.s.c):=hr 6 _ rfl;have c7:wr.cell? ⟨b,off+k*9+7,none⟩=some (I x.e.z.hor):=hr 7 _ rfl;have c8:wr.cell? ⟨b,off+k*9+8,none⟩=some (.slice x.s.D x.e.z.ay.length x.s.d):=hr 8 _ rfl;have HX:=ae hx;have HI:=ae hi;have hxm:x.e∈t.aS:=by rw [HZ.out];exact List.mem_map_of_mem (fK hx)
    have F7:=ae (HF.out.good _ hxm);have q8:¬(32:Int)<(x.e.name.size:Int):=by have:=HF.out.short _ hxm;omega
    obtain ⟨s1,s2⟩:=um.out k x hx;obtain ⟨L,hL⟩:∃L,gK zs k=L:=⟨_,rfl⟩;have Jo:Hid (∀w',Below wr.heap.size wr w'→Calls Tryz.prog 39 #[.agg #[I x.e.z.cal.aN, .slice x.s.A x.e.z.cal.au.length x.s.a,I x.e.z.cal.bu, .slice x.s.B x.e.z.cal.rules.length x.s.b,I x.e.z.start, .slice x.s.C x.e.z.trans.length x.s.c,I x.e.z.hor, .slice x.s.D x.e.z.ay.length x.s.d]] w' (Gives (I 0) w')):=ae fun w' hb=>
     sZ x.e.z x.s w' F7.out.1 (((HI.out.more HV.out.up.size).keep hb).more hb.size) F7.out.2
    rw [hL] at s1 s2 ⊢;have hlb:b<wr.heap.size:=by omega
    have HB2:=ae (ag wr (.cells x.cells 55));have Ll:Hid (gK zs (k+1)=x.e.name):=ae (by show (zs[k]?.map (·.e.name)).getD ⟨#[]⟩=_;rw [hx];rfl);clear hx hr hi hxm hkz hL;go_wp2_with fail;refine (Jo.out _ HB2.out).mono ?_;rintro e w2 ⟨rfl,hb2⟩;have ni:=ae (HV.out.below (ah HB2.out hb2));have d0:w2.cell? ⟨wr.heap.size,0,none⟩=some (.string x.e.name):=((Row.new wr x.cells 55).keep hb2).2 0;clear hb2 c0 c1 c2 c3 c4 c5 c6 c7 c8 k1 Jo;go_wp2_with fail;go_roundw
    case rel=>exact ⟨k+1,by omega,by rw [Ll.out],by go_num,ni.out⟩
    case measure=>simp [intOf];omega
   ·go_wp2_with fail;go_ret;exact ⟨rfl,HV.out.up⟩
end Go.Proofs.YtdibbemgpikgjaaGreat
namespace Go.Proofs.YtdibbemgpikgjaaGreat
open Go Go.RowKit
def Jr (w:World) (bs:List UInt8) (e:Ending) (w':World):Prop:=
 (∃g c,e= .returned (.tuple #[.slice (some ⟨g,0,none⟩) bs.length c,I 0])∧w'.ownsRow w.heap.size 5 1 (.slice (some ⟨g,0,none⟩) bs.length c) bs.length (bs.map Extern.Stop.cell))∧Below w.heap.size w w'
theorem qV (t:Tb) (A:Option Addr) (n c lo:Nat) (zs:List dm) (w:World) (h:kG t) (hzz:t.aS=zs.map (·.e)) (hn:zs.length=n) (hO:gX lo w (.slice A n c) zs) (hup:oO zs):
  Calls Tryz.prog 7 #[.agg (ai t (.slice A n c))] w (Jr w (ed t)):=by
 have HR0:=ae (Row.new w (ai t (.slice A n c)) 32);have HB0:=ae (ag w (.cells (ai t (.slice A n c)) 32));have HH0:=ae (heap_alloc_last w (.cells (ai t (.slice A n c)) 32));have dM:Hid (∀v,(Tryz.prog.info? 32).map (·.size)=some (ai t v).size):=ae fun v=>cu t v h.prev h.bK;have Jc:Hid (∀u v,(ai t u).size=(ai t v).size):=ae fun u v=>by rw [bG _ _ h.prev h.bK,bG _ _ h.prev h.bK]
 have HV:Hid (∀W,Below w.heap.size w W→Calls Tryz.prog 19 #[.agg (ai t (.slice A n c))] W (Gives (I 0) W)):=ae fun W hb=>
  zi t A n c zs W h hzz hn ((hO.below hb).zes) hup
 have fU:Hid (∀W,Below w.heap.size w W→Calls Tryz.prog 22 #[.agg (ai t (.slice A n c))] W (ClT W t zs)):=ae fun W hb=>by
  have h2:zs.length≤128:=by have:=h.num;rw [hzz,List.length_map] at this;exact this
  subst hn;exact Jz t A c lo zs W (fun x hx=>h.flat _ (by rw [hzz];exact List.mem_map_of_mem hx)) h2 h.prev h.bK (hO.below hb)
 have HF:=ae h;have Yj:=ae hzz;have HN:=ae hn;clear h hzz hn hO hup;go_enter Tryz.func7,Tryz.ntmps7;go_wp2_with (with_reducible refine dI 32 ?_;refine aV rfl _ _ rfl w.heap.size rfl (ai t (.slice A n c)) HR0.out _ Tryz.underlying32 rfl (dM.out _) ?_);refine (HV.out _ HB0.out).mono ?_;rintro e w1 ⟨rfl,hb1⟩;have HR1:=ae (HR0.out.keep hb1);have HB1:=ae (ah HB0.out hb1);have HH1:Hid (w1.heap[w.heap.size]? =some (.cells (ai t (.slice A n c)) 32 (0,0))):=ae ((hb1.block _ (by simp)).trans HH0.out);clear hb1 HR0 HB0 HH0 HV;go_wp2_with (with_reducible refine dI 32 ?_;refine aV rfl _ _ rfl w.heap.size rfl (ai t (.slice A n c)) HR1.out _ Tryz.underlying32 rfl (dM.out _) ?_);refine (fU.out _ HB1.out).mono ?_;rintro e w2 ⟨A2,c2,zs2,rfl,hO2,he2,hb2⟩;have kW:=ae hO2;have HE2:=ae he2;have HH2:Hid (w2.heap[w.heap.size]? =some (.cells (ai t (.slice A n c)) 32 (0,0))):=ae ((hb2.block _ HR1.out.1).trans HH1.out);have HB2:=ae (ah HB1.out hb2);have hl1:w.heap.size<w1.heap.size:=HR1.out.1;rw [HN.out];clear hO2 he2 hb2 fU;go_wp2_with (with_reducible refine bT 32 ?_;refine wpList_store_row rfl _ _ _ rfl w.heap.size (ai t (.slice A2 n c2)) rfl rfl 32 (ai t (.slice A n c)) HH2.out (dM.out _) (Jc.out _ _) (bf _ _ _ _) ?_);have hw3:(w2.setRow w.heap.size (ai t (.slice A2 n c2))).heap[w.heap.size]? =some (.cells (ai t (.slice A2 n c2)) 32 (0,0)):=setRow_heap _ _ _ _ _ _ HH2.out;have hs3:(w2.setRow w.heap.size (ai t (.slice A2 n c2))).heap.size=w2.heap.size:=by simp [World.setRow]
 have hb3:Below w.heap.size w (w2.setRow w.heap.size (ai t (.slice A2 n c2))):=below_setRow HB2.out (Nat.le_refl _) _;have hz3:gX (w.heap.size+1) (w2.setRow w.heap.size (ai t (.slice A2 n c2))) (.slice A2 n c2) zs2:=by
  have h1:=kW.out;rw [HN.out] at h1;exact (h1.lower (by omega)).aQ (by rw [hs3];exact Nat.le_refl _) fun k hk _=>setRow_other _ _ k _ (by omega)
 generalize w2.setRow w.heap.size (ai t (.slice A2 n c2))=w3 at hw3 hs3 hb3 hz3 ⊢;rw [←hs3];have hba:=ag w3 (.cells #[.slice none 0 0] 73);have hst:eu (w3.alloc (.cells #[.slice none 0 0] 73)) w3.heap.size (.slice none 0 0) []:=⟨heap_alloc_last w3 _,World.ownsRow_nil _ _ _ _⟩;have hn2:zs2.length=n:=by have:=congrArg List.length HE2.out;simpa [HN.out] using this
 have hl3:w.heap.size<w3.heap.size:=(aZ.1 hw3).1;refine (IJ (w3.alloc (.cells #[.slice none 0 0] 73)) w3.heap.size w.heap.size n c2 t A2 zs2 (.slice none 0 0) HF.out (by rw [HE2.out];exact Yj.out) hn2 hl3 ⟨by simp;omega,fun i=>(hba.cell (p:=⟨w.heap.size,i,none⟩) hl3).trans (cell_of_row w3 _ i _ _ _ hw3)⟩ (hz3.low.keep hba) hst).mono ?_;rintro e w4 ⟨rfl,v4,hs4,hk4⟩;have hb4:Below w.heap.size w w4:=(ah hb3 hba).trans ((bD hst hk4).mono (by omega));have hc4:w4.cell? ⟨w3.heap.size,0,none⟩=some v4:=cell_of_row w4 _ 0 _ _ _ hs4.1;have hlen:=Ij t HF.out;obtain ⟨g4,c4,rfl,hg4⟩:=gV hs4.2 (by omega);have HB4:=ae hb4;have uF:=ae (aX hs4.2 (base':=w.heap.size) (by omega));clear hw3 hs3 hb3 hz3 hba hst hn2 hs4 hk4 hb4 hlen hg4;go_wp2_with fail;go_ret2;exact ⟨⟨g4,c4,rfl,uF.out⟩,HB4.out⟩
attribute [local go_sem] lV lZ lW l7 pY qc lT lX lU lY
def Eg (zs:List Ze):List UInt8:=zs.flatMap VE
theorem SH (zs:List Ze) (x:Ze):Eg (zs++ [x])=Eg zs++VE x:=by simp [Eg]
theorem Nk (zs:List Ze) (h:∀e∈zs,nO e.z∧e.name.size≤32):(Eg zs).length≤zs.length*140:=by
 induction zs with
 |nil=>exact Nat.zero_le _
 |cons x zs ih=>
  have h1:=ih fun e he=>h e (List.mem_cons_of_mem _ he);have h2:=VF (h x List.mem_cons_self).1 (h x List.mem_cons_self).2;unfold Eg at h1 ⊢;rw [List.flatMap_cons,bJ,List.length_cons];omega
def WyRel (w:World) (g:Nat) (v:Value) (bs:List UInt8) (n:Nat) (zs:List Ze) (i:Value) (wr:World):Prop:=
 ∃k:Nat,k≤n∧i= .int .i64 k∧∃v',eu wr g v' (bs++(le n 1++Eg (zs.take k)))∧iy g v w v' wr
theorem FB (w:World) (g lb lo zg zo n c:Nat) (zs:List dm) (v:Value) (bs:List UInt8) (hn:zs.length=n) (hn2:n≤128) (hp:w.cell? ⟨lb,lo,none⟩=some (.slice (some ⟨zg,zo,none⟩) n c)) (JG:lb<g) (hzg:zg<g)
  (hcl:∀j u,(aP zs)[j]? =some u→w.cell? ⟨zg,zo+j,none⟩=some u) (hfz:∀j,w.frozen? ⟨zg,zo+j,none⟩=false) (hfl:∀x∈zs,nO x.e.z∧x.e.name.size≤32) (hI:∀x∈zs,gW w g x.s x.e.z)
  (hl:bs.length≤1000000) (hst:eu w g v bs):
  Calls Tryz.prog 42 #[.iface 71 (pt g), .pointer (some ⟨lb,lo,none⟩),I 1, .func (.func 43) #[] #[]] w (eG w g v (bs++(le n 1++Eg (zs.map (·.e))))):=by
 have HC:=ae (fG w.drew g v bs n 1 (by omega) (by omega) (by omega) (by omega) hst.drew);have HST:=ae hst;have HN:=ae hn;have HF:=ae hfl;have fU:=ae hcl;have HFZ:=ae hfz;have HI:=ae hI;have HP:=ae hp;have hgl:=hst.lt;clear hst hn hfl hcl hfz hI;go_enter Tryz.func42,Tryz.ntmps42;go_wp2_with fail;go_still_tail 9,(by kernel_rfl);go_wp2_with fail;refine HC.out.mono ?_;rintro e w1 ⟨rfl,v1,hs1,hk1⟩;have jQ:=ae hs1;have iP:=ae (aI hk1);clear hs1 hk1 HC hp;go_wp2_with fail
 go_loopw [22] (fun i wr=>WyRel w g v bs n (zs.map (·.e)) i wr) (fun i _=>n - (intOf i).toNat)
 case atStart=>exact ⟨0,Nat.zero_le _,rfl,v1,by simpa [Eg] using jQ.out,iP.out⟩
 case round=>
  obtain ⟨k,hk,rfl,v2,hs2,hk2⟩:=hrel;have hb2:=bD HST.out hk2;have HB2:=ae hb2;have HS2:=ae hs2;have jc:=ae hk2;have hp2:wr.cell? ⟨lb,lo,none⟩=some (.slice (some ⟨zg,zo,none⟩) n c):=(hb2.cell (p:=⟨lb,lo,none⟩) JG).trans HP.out;clear hs2 hk2 hb2 jQ iP;by_cases hlt:k<n
  ·have hkz:k<zs.length:=by rw [HN.out];exact hlt
   obtain ⟨x,hx⟩:∃x,zs[k]? =some x:=⟨_,dE hkz⟩;have hxm:=fK hx;have hlen:(bs++(le (n:Int) 1++Eg ((zs.map (·.e)).take k))).length≤9000000:=by
    have h1:=Nk ((zs.map (·.e)).take k) fun e he=>by
     obtain ⟨y,hy,rfl⟩:=List.mem_map.1 (List.mem_of_mem_take he);exact HF.out y hy
    have h2:((zs.map (·.e)).take k).length≤128:=by rw [List.length_take,List.length_map,HN.out];omega
    simp only [bJ,aA];omega
   have HM:=ae (IE wr g zg (zo+k*9) x v2 _ (HF.out x hxm).1 (HF.out x hxm).2 (aB.elem (w:=wr) (s:=9) (f:=fun x:dm=>x.cells.toList) (fun _ _=>rfl) (fun j u hu=>(HB2.out.cell (p:=⟨zg,zo+j,none⟩) hzg).trans (fU.out j u hu)) k x hx) (by
    have hf:=(HB2.out.frozen (p:=⟨zg,zo+(k*9+3),none⟩) hzg).trans (HFZ.out (k*9+3));rw [show zo+k*9+1+2=zo+(k*9+3) by omega];exact hf) hzg ((HI.out x hxm).keep HB2.out) hlen HS2.out)
   have HX:=ae hx;have i0:(0:Int)≤(k:Int):=by omega
   have i1:(k:Int)<(n:Int):=by omega
   have i2:((k:Int)==(n:Int))=false:=by simp;omega
   clear hkz hx hlen hxm;go_wp2_with fail;refine HM.out.mono ?_;rintro e w3 ⟨rfl,v3,hs3,hk3⟩;have mZ:=ae hs3;have kU:=ae (jc.out.trans hk3);clear hs3 hk3 hp2;go_wp2_with fail;go_roundw
   case rel=>exact ⟨k+1,by omega,by go_num,v3,by rw [iw (zs.map (·.e)) k x.e (by rw [List.getElem?_map,HX.out];rfl),SH,←List.append_assoc (le _ _),←List.append_assoc];exact mZ.out,kU.out⟩
   case measure=>simp [intOf];omega
  ·have hkn:k=n:=by omega
   have lG:=ae hkn;clear hkn;go_wp2_with fail
   go_end0
   exact ⟨rfl,v2,by have h:=HS2.out;rwa [lG.out,List.take_of_length_le (by rw [List.length_map,HN.out];exact Nat.le_refl _)] at h,jc.out⟩
structure DC (g:Nat) (w:World) (A:Option Addr) (zs:List dm):Prop where
 row:zs.length=0∨∃zg zo,A=some ⟨zg,zo,none⟩∧zg<g∧(∀j u,(aP zs)[j]? =some u→w.cell? ⟨zg,zo+j,none⟩=some u)∧∀j,w.frozen? ⟨zg,zo+j,none⟩=false
 each:∀x∈zs,gW w g x.s x.e.z
theorem DC.keep {g:Nat} {w w':World} {A:Option Addr} {zs:List dm} (h:DC g w A zs) (hb:Below g w w'):DC g w' A zs:=
 ⟨h.row.elim .inl fun ⟨zg,zo,h1,h2,h3,h4⟩=> .inr ⟨zg,zo,h1,h2,fun j u hu=>(hb.cell (p:=⟨zg,zo+j,none⟩) h2).trans (h3 j u hu),fun j=>(hb.frozen (p:=⟨zg,zo+j,none⟩) h2).trans (h4 j)⟩,fun x hx=>(h.each x hx).keep hb⟩
theorem Ai.low {lo:Nat} {w:World} {A:Option Addr} {zs:List dm} (h:Ai lo w A zs):DC w.heap.size w A zs:=by
 refine ⟨?_,fun x hx=>(h.each x hx).at⟩;rcases h.free with h1|⟨b,off,h1,_,h2,h3⟩
 ·exact .inl h1
 ·rcases h.row with h4|⟨b',off',h4,_,_,h5⟩
  ·rw [dG] at h4;exact .inl (by omega)
  ·rw [h1] at h4;injection h4 with h4;injection h4 with e1 e2;subst e1 e2;exact .inr ⟨b,off,h1,h2,h5,h3⟩
def Bq (t:Tb):List UInt8:=le t.bz 1++(le t.version 1++(le t.aJ 1++(t.prev++(le t.aS.length 1++Eg t.aS))))
theorem MO (t:Tb) (h:P8 t):36≤(Bq t).length∧(Bq t).length≤18000:=by
 have h1:=Nk t.aS fun e he=>⟨(h.good e he).1,h.short e he⟩;have h2:=h.num;have h3:=h.prev;simp only [Bq,bJ,aA];omega
theorem II (w:World) (g lb lo n c:Nat) (A:Option Addr) (zs:List dm) (v:Value) (bs:List UInt8) (hn:zs.length=n) (hn2:n≤128) (hp:w.cell? ⟨lb,lo,none⟩=some (.slice A n c)) (JG:lb<g) (hz:DC g w A zs) (hfl:∀x∈zs,nO x.e.z∧x.e.name.size≤32)
  (hl:bs.length≤1000000) (hst:eu w g v bs):
  Calls Tryz.prog 42 #[.iface 71 (pt g), .pointer (some ⟨lb,lo,none⟩),I 1, .func (.func 43) #[] #[]] w (eG w g v (bs++(le n 1++Eg (zs.map (·.e))))):=by
 by_cases h0:n=0
 ·subst h0;have:=wS w g lb lo A c v bs hp (by omega) hst;rw [List.eq_nil_of_length_eq_zero hn];simpa [Eg] using this
 ·rcases hz.row with h|⟨zg,zo,rfl,h2,h3,h4⟩
  ·omega
  ·exact FB w g lb lo zg zo n c zs v bs hn hn2 hp JG h2 h3 h4 hfl hz.each hl hst
attribute [local go_sem] jY jZ ku bH
theorem IK (w:World) (g tb n c:Nat) (t:Tb) (A:Option Addr) (zs:List dm) (v:Value) (h:P8 t) (hzz:t.aS=zs.map (·.e)) (hn:zs.length=n) (htb:tb<g) (hr:Row w tb (ai t (.slice A n c))) (hz:DC g w A zs) (hst:eu w g v []):
  Calls Tryz.prog 23 #[.iface 71 (pt g), .pointer (some ⟨tb,0,none⟩)] w (eG w g v (Bq t)):=by
 have hgl:=hst.lt;have c0:=hr.2 0;have c1:w.cell? ⟨tb,1,none⟩=some (I t.version):=(hr.2 1).trans (jZ _ _);have c2:w.cell? ⟨tb,2,none⟩=some (I t.aJ):=(hr.2 2).trans (ku _ _);have c3:w.cell? ⟨tb,3,none⟩=some (.slice A n c):=(hr.2 3).trans (bH _ _);have hn2:n≤128:=by have:=h.num;rw [hzz,List.length_map] at this;omega
 have q1:=h.bz;have q2:=h.version;have q3:=h.aJ;have jf:=ae (bP w.drew g ⟨tb,0,none⟩ v [] t.bz 1 (by omega) (by omega) (by omega) (by decide) hst.lt hst.drew (c0.trans (jY _ _)));have ZZ:=ae (pg t (.slice A n c) hr);have HST:=ae hst;have HF:=ae h;have HZ:=ae hz;have Yj:=ae hzz;have HN:=ae hn;have zU:Hid (∀j u,Below g w u→u.cell? ⟨tb,j,none⟩=w.cell? ⟨tb,j,none⟩):=ae fun j u hb=>hb.cell (p:=⟨tb,j,none⟩) htb;have F7:Hid (∀x∈zs,nO x.e.z∧x.e.name.size≤32):=ae fun x hx=>by
  have hm:x.e∈t.aS:=by rw [hzz];exact List.mem_map_of_mem hx
  exact ⟨(h.good _ hm).1,h.short _ hm⟩
 clear h hr hst hz hzz hn c0;go_enter Tryz.func23,Tryz.ntmps23;go_wp2_with fail;go_still_tail 7,(by kernel_rfl);go_wp2_with fail;refine jf.out.mono ?_;rintro e w1 ⟨rfl,v1,hs1,hk1⟩;obtain ⟨B1,hB1⟩:∃B,[]++le t.bz 1=B:=⟨_,rfl⟩;have hl1:B1.length≤1:=by rw [←hB1];simp [aA]
 rw [hB1] at hs1;have hb1:=bD HST.out (aI hk1);have HB1:=ae hb1;have jQ:=ae hs1;have iP:=ae (aI hk1);have oG:=ae hB1;have HC2:=ae (bP w1.drew g ⟨tb,1,none⟩ v1 B1 t.version 1 (by omega) (by omega) (by omega) (by omega) hs1.lt hs1.drew ((zU.out _ _ hb1).trans c1));clear hs1 hk1 hb1 jf hB1 c1;go_wp2_with fail;go_still_tail 7,(by kernel_rfl);go_wp2_with fail;refine HC2.out.mono ?_;rintro e w2 ⟨rfl,v2,hs2,hk2⟩;obtain ⟨B2,hB2⟩:∃B,B1++le t.version 1=B:=⟨_,rfl⟩;have hl2:B2.length≤2:=by rw [←hB2,bJ,aA];omega
 rw [hB2] at hs2;have hb2:=HB1.out.trans (bD jQ.out (aI hk2));have HB2:=ae hb2;have HS2:=ae hs2;have jc:=ae (iP.out.trans (aI hk2));have lL:=ae hB2;have oD:=ae (bP w2.drew g ⟨tb,2,none⟩ v2 B2 t.aJ 1 (by omega) (by omega) (by omega) (by omega) hs2.lt hs2.drew ((zU.out _ _ hb2).trans c2));clear hs2 hk2 hb2 HC2 hB2 c2;go_wp2_with fail;go_still_tail 7,(by kernel_rfl);go_wp2_with fail;refine oD.out.mono ?_;rintro e w3 ⟨rfl,v3,hs3,hk3⟩;obtain ⟨B3,hB3⟩:∃B,B2++le t.aJ 1=B:=⟨_,rfl⟩;have hl3:B3.length≤3:=by rw [←hB3,bJ,aA];omega
 rw [hB3] at hs3;have hb3:=HB2.out.trans (bD HS2.out (aI hk3));have HB3:=ae hb3;have mZ:=ae hs3;have kU:=ae (jc.out.trans (aI hk3));have zZ:=ae hB3;have oM:=ae (yJ w3.drew g tb 4 v3 B3 t.prev (by omega) (fun j u hu=>(zU.out _ _ hb3).trans (ZZ.out j u hu)) HF.out.prev hs3.drew);clear hs3 hk3 hb3 oD hB3;go_wp2_with fail;go_still_tail 7,(by kernel_rfl);go_wp2_with fail;refine oM.out.mono ?_;rintro e w4 ⟨rfl,v4,hs4,hk4⟩;obtain ⟨B4,hB4⟩:∃B,B3++t.prev=B:=⟨_,rfl⟩;have hl4:B4.length≤35:=by rw [←hB4,bJ,HF.out.prev];omega
 rw [hB4] at hs4;have hb4:=HB3.out.trans (bD mZ.out (aI hk4));have yf:=ae hs4;have IX:=ae (kU.out.trans (aI hk4));have S9:=ae hB4;have wW:=ae (II w4 g tb 3 n c A zs v4 B4 HN.out hn2 ((zU.out _ _ hb4).trans c3) htb (HZ.out.keep hb4) F7.out (by omega) hs4);clear hs4 hk4 hb4 oM hB4 c3;go_wp2_with fail;refine wW.out.mono ?_;rintro e w5 ⟨rfl,v5,hs5,hk5⟩;have rC:=ae hs5;have tu:=ae (IX.out.trans hk5);clear hs5 hk5 wW;go_wp2_with fail
 go_end0
 refine ⟨rfl,v5,?_,tu.out⟩;have hh:=rC.out;rw [←S9.out,←zZ.out,←lL.out,←oG.out] at hh;unfold Bq;rw [Yj.out,List.length_map,HN.out];simpa only [List.append_assoc,List.nil_append] using hh
theorem qW (t:Tb) (A:Option Addr) (n c:Nat) (zs:List dm) (w:World) (h:P8 t) (hzz:t.aS=zs.map (·.e)) (hn:zs.length=n) (hA:nX w w.heap.size A zs) (hup:oO zs):
  Calls Tryz.prog 7 #[.agg (ai t (.slice A n c))] w (Jr w (Bq t)):=by
 have HR0:=ae (Row.new w (ai t (.slice A n c)) 32);have HB0:=ae (ag w (.cells (ai t (.slice A n c)) 32));have HH0:=ae (heap_alloc_last w (.cells (ai t (.slice A n c)) 32));have dM:Hid (∀v,(Tryz.prog.info? 32).map (·.size)=some (ai t v).size):=ae fun v=>cu t v h.prev h.bK;have Jc:Hid (∀u v,(ai t u).size=(ai t v).size):=ae fun u v=>by rw [bG _ _ h.prev h.bK,bG _ _ h.prev h.bK]
 have HV:Hid (∀W,Below w.heap.size w W→Calls Tryz.prog 19 #[.agg (ai t (.slice A n c))] W (Gives (I 0) W)):=ae fun W hb=>
  zk t A n c zs W h hzz hn (hA.grow hb) hup
 have fU:Hid (∀W,Below w.heap.size w W→Calls Tryz.prog 22 #[.agg (ai t (.slice A n c))] W (ClV W ⟨t,A,c,zs⟩)):=ae fun W hb=>by
  have h2:zs.length≤128:=by have:=h.num;rw [hzz,List.length_map] at this;exact this
  exact Aw ⟨t,A,c,zs⟩ n W hn (by omega) (fun y hy=>(h.good _ (by rw [hzz];exact List.mem_map_of_mem hy)).1.len) ⟨hzz,h.prev,h.bK,hA.grow hb⟩
 have HF:=ae h;have Yj:=ae hzz;have HN:=ae hn;clear h hzz hn hA hup;go_enter Tryz.func7,Tryz.ntmps7;go_wp2_with (with_reducible refine dI 32 ?_;refine aV rfl _ _ rfl w.heap.size rfl (ai t (.slice A n c)) HR0.out _ Tryz.underlying32 rfl (dM.out _) ?_);refine (HV.out _ HB0.out).mono ?_;rintro e w1 ⟨rfl,hb1⟩;have HR1:=ae (HR0.out.keep hb1);have HB1:=ae (ah HB0.out hb1);have HH1:Hid (w1.heap[w.heap.size]? =some (.cells (ai t (.slice A n c)) 32 (0,0))):=ae ((hb1.block _ (by simp)).trans HH0.out);clear hb1 HR0 HB0 HH0 HV;go_wp2_with (with_reducible refine dI 32 ?_;refine aV rfl _ _ rfl w.heap.size rfl (ai t (.slice A n c)) HR1.out _ Tryz.underlying32 rfl (dM.out _) ?_);refine (fU.out _ HB1.out).mono ?_;rintro e w2 ⟨⟨t2,A2,c2,zs2⟩,ht2,he2,rfl,hO2,hb2⟩;have ht3:t=t2:=ht2.symm;subst ht3;have he2:zs2.map (·.e)=zs.map (·.e):=he2;have kW:=ae (show Ai w1.heap.size w2 A2 zs2 from hO2.aS);have hy2:zs2.length=n:=by have:=congrArg List.length he2;simpa [HN.out] using this
 have HE2:=ae he2;have HH2:Hid (w2.heap[w.heap.size]? =some (.cells (ai t (.slice A n c)) 32 (0,0))):=ae ((hb2.block _ HR1.out.1).trans HH1.out);have HB2:=ae (ah HB1.out hb2);have hl1:w.heap.size<w1.heap.size:=HR1.out.1;dsimp only;rw [hy2];clear hO2 he2 hb2 fU;go_wp2_with (with_reducible refine bT 32 ?_;refine wpList_store_row rfl _ _ _ rfl w.heap.size (ai t (.slice A2 n c2)) rfl rfl 32 (ai t (.slice A n c)) HH2.out (dM.out _) (Jc.out _ _) (bf _ _ _ _) ?_);have hw3:(w2.setRow w.heap.size (ai t (.slice A2 n c2))).heap[w.heap.size]? =some (.cells (ai t (.slice A2 n c2)) 32 (0,0)):=setRow_heap _ _ _ _ _ _ HH2.out;have hs3:(w2.setRow w.heap.size (ai t (.slice A2 n c2))).heap.size=w2.heap.size:=by simp [World.setRow]
 have hb3:Below w.heap.size w (w2.setRow w.heap.size (ai t (.slice A2 n c2))):=below_setRow HB2.out (Nat.le_refl _) _;have hz3:Ai (w.heap.size+1) (w2.setRow w.heap.size (ai t (.slice A2 n c2))) A2 zs2:=
  (kW.out.lower (by omega)).aQ (by rw [hs3];exact Nat.le_refl _) fun k hk _=>setRow_other _ _ k _ (by omega)
 generalize w2.setRow w.heap.size (ai t (.slice A2 n c2))=w3 at hw3 hs3 hb3 hz3 ⊢;rw [←hs3];have hba:=ag w3 (.cells #[.slice none 0 0] 73);have hst:eu (w3.alloc (.cells #[.slice none 0 0] 73)) w3.heap.size (.slice none 0 0) []:=⟨heap_alloc_last w3 _,World.ownsRow_nil _ _ _ _⟩;have hl3:w.heap.size<w3.heap.size:=(aZ.1 hw3).1;refine (IK (w3.alloc (.cells #[.slice none 0 0] 73)) w3.heap.size w.heap.size n c2 t A2 zs2 (.slice none 0 0) HF.out (by rw [HE2.out];exact Yj.out) hy2 hl3 ⟨by simp;omega,fun i=>(hba.cell (p:=⟨w.heap.size,i,none⟩) hl3).trans (cell_of_row w3 _ i _ _ _ hw3)⟩ (hz3.low.keep hba) hst).mono ?_;rintro e w4 ⟨rfl,v4,hs4,hk4⟩;have hb4:Below w.heap.size w w4:=(ah hb3 hba).trans ((bD hst hk4).mono (by omega));have hc4:w4.cell? ⟨w3.heap.size,0,none⟩=some v4:=cell_of_row w4 _ 0 _ _ _ hs4.1;have hlen:=MO t HF.out;obtain ⟨g4,c4,rfl,hg4⟩:=gV hs4.2 (by omega);have HB4:=ae hb4;have uF:=ae (aX hs4.2 (base':=w.heap.size) (by omega));clear hw3 hs3 hb3 hz3 hba hst hs4 hk4 hb4 hlen hg4;go_wp2_with fail;go_ret2;exact ⟨⟨g4,c4,rfl,uF.out⟩,HB4.out⟩
end Go.Proofs.YtdibbemgpikgjaaGreat
