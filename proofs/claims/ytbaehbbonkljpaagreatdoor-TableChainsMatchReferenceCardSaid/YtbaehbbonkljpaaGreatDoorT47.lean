/- The texts Wp, Ww, Wx, Wh, Wc, TrSq, in this order. -/
import Derived.Test.YtbaehbbonkljpaaGreatDoorT43
import Derived.Test.YtbaehbbonkljpaaGreatDoorT46
set_option maxRecDepth 10000
set_option maxHeartbeats 8000000
namespace Go.Proofs.YtbaehbbonkljpaaGreatDoor
open Go Go.RowKit
theorem af8 (w:ae)(key:ag au)(hk:key.length=32)
  (C:aj Addr)(m cc:Nat)(ts:ag Kv)(hm:ts.length=m)(hm1:m<=64)(hcc:m<=cc)(hC:LJ w w.heap.size C ts)(F:Nat->Int)
  (HAD:Hid (∀k x,ts[k]? =some x->(∀j y,j<k->ts[j]? =some y->F j=0)->∀W,ai w.heap.size w W->Calls Tryz.prog 37 #[.slice C k cc,.agg (JO key).toArray,.agg x.cells.toArray] W (Gives (I (F k)) W))):
  Calls Tryz.prog 20 #[.slice C m cc,.agg (cellsB key)] w (fun e w'=>∃r,e=.returned (I r)/\CkG ts F r/\ai w.heap.size w w'):=by
 have H0:Hid (CkW w key (w.alloc (.cells (cellsB key) 24))):=JJ ⟨AV.new w _ _,JM w _⟩;have HI2:Hid ((Tryz.prog.info? 24).map (·.size)=some (JO key).length):=JJ (by have:=Na key hk;rw[this];simp[cellsB]);have QJ:Hid ((JO key).length=32):=JJ (by simp[JO,hk]);have HUD:Hid (Tryz.prog.underlying 24=some (.array 32 5)):=JJ aK;have Qc:=JJ hm;have HC:=JJ hC;have HTA:=JJ (OG hC);clear hk hm hC;go_enter Tryz.func20,Tryz.ntmps20;go_upto_region 1 with fail;generalize w.alloc (.cells (cellsB key) 24)=W0 at H0⊢;go_wp2_with fail
 go_loopw [5,6] (fun i _ wr=>∃k:Nat,k<=m/\i=I k/\(∀j y,j<k->ts[j]? =some y->F j=0)/\CkW w key wr) (fun i _ _=>m - (intOf i).toNat)
 case atStart=>exact⟨0,aG _,rfl,fun _ _ h=>absurd h (fD _),H0.out⟩
 case round=>
  obtain⟨k,hk,rfl,hz,hp⟩:=hrel;have HP:=JJ hp;have HZ:=JJ hz;have hlt0:=hp.bx.lt;clear hp H0;by_cases hlt:k<m
  ·have hkl:k<ts.length:=by rw[Qc.out];exact hlt
   obtain⟨x,hx⟩:∃x,ts[k]? =some x:=⟨_,KL hkl⟩;have hxm:=LQ hx;obtain⟨cb,co,rfl,hcb,hTA⟩:∃b off,C=some ⟨b,off,none⟩/\b<w.heap.size/\OC w b off ts:=by
    rcases HTA.out with h1|h1
    ·omega
    ·exact h1
   have hxa:=HC.out.each x hxm;have HX:=JJ hx;have PU:=JJ (HAD.out k x hx hz);have Uj:Hid (wr.rangeAt cb (co+k*68) x.cells):=JJ (JY (hTA k x hx).1 HP.out.lo hcb);have Ud:Hid ((Tryz.prog.info? 26).map (·.size)=some x.cells.length):=JJ (by rw[(hTA k x hx).2];kernel_rfl);have HXL:=JJ (hTA k x hx).2;have hcw:Hid (cb<wr.heap.size):=JJ (LK hcb HP.out.lo.size);have i1:(0:Int)<=(k:Int):=by omega
   have i2:(k:Int)<(m:Int):=by omega
   have i3:(k:Int)<=(cc:Int):=by omega
   have i4:¬(cc:Int)<(k:Int):=by omega
   clear hx hxm hTA hxa hkl hz;go_upto_region 4 with fail;have HS:Hid (wr.drew.rangeAt w.heap.size 0 (JO key)/\wr.drew.rangeAt cb (co+k*68) x.cells):=JJ ⟨fun j v hv=>by rw[aT];exact(HP.out.bx.cell j).trans (by simpa[cellsB] using hv),Uj.out⟩;have hud:=HUD.out;have hi2:=HI2.out;have hi3:=Ud.out;have hl1:=QJ.out;have hl2:=HXL.out;refine dG (S:=(fun W=>W.rangeAt w.heap.size 0 (JO key)/\W.rangeAt cb (co+k*68) x.cells)) (by kernel_rfl) HS.out (fun hH=>?_);refine JZ 0 (.slice (some ⟨cb,co,none⟩) m cc) 13 hH ?_;refine JZ 1 (I k) 14 hH ?_;refine JZ 2 (.slice (some ⟨cb,co,none⟩) k cc) 15 hH ?_;refine LG 3 _ 16 rfl rfl hH (bF (by rfl) _ _ rfl w.heap.size 0 rfl (JO key) _ (fun _ hW=>hW.1) hud rfl hi2) ?_;refine JZ 4 (.slice (some ⟨cb,co,none⟩) m cc) 17 hH ?_;refine JZ 5 (I k) 18 hH ?_;refine JZ 6 (.pointer (some ⟨cb,co+k*68,none⟩)) 19 hH ?_;refine LG 7 _ 20 rfl rfl hH (bF (by rfl) _ _ rfl cb (co+k*68) rfl x.cells _ (fun _ hW=>hW.2) az rfl hi3) ?_;clear hH;refine KX 8 (fun K hK=>?_);go_simp;go_at_call 37;refine(PU.out wr.drew HP.out.lo.drew).mono ?_;obtain⟨r,hr⟩:∃r,F k=r:=⟨_,rfl⟩;rw[hr];have HR:=JJ hr;clear hr;rintro e w3 ⟨rfl,hb3⟩;have Zf:Hid (CkW w key w3):=JJ (HP.out.grow (lg ((aW _ wr).drew) hb3));have Qi:Hid (w3.rangeAt w.heap.size 0 (JO key)/\w3.rangeAt cb (co+k*68) x.cells):=JJ ⟨JY HS.out.1 hb3 HP.out.bx.lt,JY HS.out.2 hb3 hcw.out⟩;clear hb3;refine hK.out _ _ Qi.out (fun hH=>?_);clear hK K;refine JZ 9 (I r) 6 hH ?_;clear hH;refine dC (by kernel_rfl) ?_ _;clear Qi HS Uj hud hi2 hi3 hl1 hl2;by_cases h0:r=0
   ·subst h0;go_wp2_with fail;go_roundw
    case rel=>exact⟨k+1,by omega,by go_num,fun j y hj hy=>by
     by_cases hjk:j<k
     ·exact HZ.out j y hjk hy
     ·obtain rfl:j=k:=by omega
      exact HR.out,Zf.out⟩
    case measure=>simp[intOf];omega
   ·have hrb:(r !=0)=true:=by simpa using h0
    go_wp2_with fail;go_ret;exact⟨r,rfl,.inr ⟨h0,k,x,HX.out,HR.out,HZ.out⟩,Zf.out.lo⟩
  ·have hlt':¬(k:Int)<(m:Int):=by omega
   go_wp2_with fail;go_ret;exact⟨0,rfl,.inl ⟨rfl,fun j y hy=>HZ.out j y (by have:=(MF.1 hy).1;have:=Qc.out;omega) hy⟩,HP.out.lo⟩
theorem alv (w:ae)(key:ag au)(hk:key.length=32)(C:aj Addr)(m cc:Nat)(ts:ag Kv)(hm:ts.length=m)(hm1:m<=64)(hcc:m<=cc)(hC:LJ w w.heap.size C ts)(hT:∀x∈ts,Ry x):
  Calls Tryz.prog 20 #[.slice C m cc,.agg (cellsB key)] w (fun e w'=>∃r,e=.returned (I r)/\CkG ts (afu Qm key ts) r/\ai w.heap.size w w'):=
 af8 w key hk C m cc ts hm hm1 hcc hC (afu Qm key ts) (JJ fun k x hx _ W hb=>by
  have hkl:=(MF.1 hx).1;have hxm:=LQ hx;exact TA W key hk x ((hC.each x hxm).grow hb) ((hT x hxm).bytes (hC.each x hxm)) C k cc (ts.take k) (by rw[bn];omega) (by omega) ((hC.take k).grow hb) (fun y hy=>(hT y (dP hy)).bytes (hC.each y (dP hy))) _ (by unfold afu;rw[hx]))
theorem Ry.of {x y:Kv}(h:Ry x)(he:Pq y=Pq x):Ry y:=by
 have h5:y.zs.map (·.e)=x.zs.map (·.e):=dA Prod.snd he;refine⟨by have:=dA List.length h5;simp only[aI] at this;rw[this];exact h.num,fun v hv=>?_⟩;have h1:v.e∈x.zs.map (·.e):=by rw[<-h5];exact fM hv
 obtain⟨z,hz,he⟩:=fJ.1 h1;rw[<-he];exact h.len z hz
theorem Ry.ofs {xs ys:ag Kv}(h:∀x∈xs,Ry x)(he:ys.map Pq=xs.map Pq):∀y∈ys,Ry y:=by
 intro y hy;have h1:Pq y∈xs.map Pq:=by rw[<-he];exact fM hy
 obtain⟨x,hx,hxe⟩:=fJ.1 h1;exact(h x hx).of hxe.symm
def ApU (w:ae)(X:ag Kv)(r:Int)(e:Ending)(w':ae):Prop:=
 ∃A n c ys,e=.returned (.tuple #[.slice A n c,I r])/\ys.length=n/\ys.map Pq=X.map Pq/\LJ w' w'.heap.size A ys/\ai w.heap.size w w'
def Wj (key:ag au)(os:ag Kv)(u:Kv):ag Kv:=if Rk Qm key os u.t=0 then os++ [u] else []
theorem ApU.ofG {w:ae}{n:Nat}{key:ag au}{os:ag Kv}{u:Kv}{e:Ending}{w':ae}(hn:os.length+1=n)(h:aqu w n (os++ [u]) (Rk Qm key os u.t) e w'):ApU w (Wj key os u) (Rk Qm key os u.t) e w':=by
 rcases h with ⟨h0,A,c,ys,he,hnc,hys,hC,hb⟩|⟨h0,he,hb⟩
 ·rw[h0];refine⟨A,n,c,ys,he,?_,?_,hC,hb⟩
  ·have:=dA List.length hys;simp only[aI,KN,nC] at this;omega
  ·rw[hys];unfold Wj;rw[bD h0]
 ·refine⟨none,0,0,[],he,rfl,?_,⟨.inl rfl,fun _ h=>nomatch h⟩,hb⟩;unfold Wj;rw[bP h0]
theorem akc {key:ag au}{os:ag Kv}{u:Kv}(h:∀x∈os,Ry x)(hu:Ry u):∀x∈Wj key os u,Ry x:=by
 unfold Wj;split
 ·intro x hx;rcases dm.1 hx with h1|h1
  ·exact h x h1
  ·obtain rfl:=aY.1 h1;exact hu
 ·exact fun _ h=>nomatch h
theorem adB {key:ag au}{os:ag Kv}{u:Kv}(h:os.length<=5):(Wj key os u).length<=6:=by
 unfold Wj;split
 ·simp;omega
 ·exact aG _
theorem alD (x y:Kv)(w:ae)(hx:Ld w w.heap.size x)(hy:Ld w w.heap.size y)(he:Pq x=Pq y)(hR:Ry x):
  Calls Tryz.prog 21 #[.agg (JK x.t (.slice x.A x.zs.length x.c)),.agg (JK y.t (.slice y.A y.zs.length y.c))] w (Gives (.bool true) w):=by
 have h4:x.t=y.t:=dA Prod.fst he;have h5:x.zs.map (·.e)=y.zs.map (·.e):=dA Prod.snd he;have h6:x.zs.length=y.zs.length:=by simpa using dA List.length h5
 rw[<-h4,<-h6];exact aac x.t x.A y.A x.c y.c x.zs.length x.zs y.zs (x.zs.map (·.e)) w hx.prev hx.Ku rfl h5.symm (by simp) (by have:=hR.num;omega) (fun e he=>by
  obtain⟨v,hv,rfl⟩:=fJ.1 he;exact hR.len v hv) hx.JX hy.JX
theorem Yg (A A2:aj Addr)(n n2 c c2:Nat)(xs ys:ag Kv)(X:ag Kv)(w:ae)(h1:xs.length=n)(h2:ys.length=n2)(e1:xs.map Pq=X.map Pq)(e2:ys.map Pq=X.map Pq)(hC:LJ w w.heap.size A xs)(hC2:LJ w w.heap.size A2 ys)(hR:∀x∈X,Ry x)(hl:X.length<=64):
  Calls Tryz.prog 18 #[.slice A n c,.slice A2 n2 c2] w (Gives (.bool true) w):=by
 have l1:xs.length=X.length:=by simpa using dA List.length e1
 have l2:ys.length=X.length:=by simpa using dA List.length e2
 obtain rfl:n=n2:=by omega
 exact aem A A2 n c c2 xs ys w h1 (e1.trans e2.symm) hC hC2 (Ry.ofs hR e1) (by omega)
theorem asB {ts:ag Kv}(h:∀x∈ts,Ry x)(y:Kv)(hy:Pq y=(VN ts).1):Ry y:=by
 have hz:∀y:Kv,Pq y=(J8,[])->Ry y:=fun y hy=>by
  have h1:y.zs.map (·.e)= []:=dA Prod.snd hy;have h2:y.zs= []:=ja.1 h1;exact⟨by rw[h2];exact aG _,fun v hv=>by rw[h2] at hv;exact nomatch hv⟩
 unfold VN at hy;split at hy
 ·split at hy
  ·split at hy
   ·rename_i x hx;exact(h x (LQ hx)).of hy
   ·exact hz y hy
  ·exact hz y hy
 ·exact hz y hy
theorem asY {ts:ag Kv}{v:Int}(h:∀x∈ts,Ry x)(y:Kv)(hy:Pq y=(UT ts v).1):Ry y:=by
 have hz:∀y:Kv,Pq y=(J8,[])->Ry y:=fun y hy=>by
  have h1:y.zs.map (·.e)= []:=dA Prod.snd hy;have h2:y.zs= []:=ja.1 h1;exact⟨by rw[h2];exact aG _,fun v hv=>by rw[h2] at hv;exact nomatch hv⟩
 unfold UT at hy;split at hy
 ·exact hz y hy
 ·split at hy
  ·rename_i x hx;exact(h x (LQ hx)).of hy
  ·exact hz y hy
def TbU (w:ae)(r:Int)(e:Ending)(w':ae):Prop:=
 ∃u:Kv,e=.returned (.tuple #[.agg (JK u.t (.slice u.A u.zs.length u.c)),I r])/\Ld w' w'.heap.size u/\Ry u/\u.zs= []/\ai w.heap.size w w'
theorem Ld.bare {w w':ae}{B B':Nat}{u:Kv}(h:Ld w B u)(hz:u.zs= []):Ld w' B' u:=
 ⟨h.names,h.prev,h.Ku,⟨.inl (by rw[hz];rfl),fun v hv=>by rw[hz] at hv;exact nomatch hv⟩⟩
theorem aot (key:ag au)(hk:key.length=32)(y:Kv)(hR:Ry y)(h0:y.zs= [])(w:ae)(hy:Ld w w.heap.size y):
  Calls Tryz.prog 12 #[.agg (cellsB key),.agg (JK y.t (.slice y.A y.zs.length y.c))] w (TbU w (O0 y.t)):=by
 refine(ahu key hk y w hy (hR.bytes hy)).mono fun e w' h=>?_;obtain⟨A,c,ys,he,hz,hm,hb⟩:=h;have hl:(VR key y.t).JX.length=ys.length:=by rw[<-hm,aI]
 have h2:=aeo key y hy;refine⟨⟨VR key y.t,A,c,ys⟩,by rw[he,hl],⟨hm.symm,h2.1,h2.2,hz⟩,?_⟩;have h3:(VR key y.t).JX=y.t.JX\/(VR key y.t).JX= []:=by
  unfold VR;split
  ·exact .inl rfl
  ·exact .inr rfl
 have h4:ys= []:=by
  rcases h3 with h3|h3
  ·rw[h3,hy.names,h0] at hm;exact ja.1 hm
  ·rw[h3] at hm;exact ja.1 hm
 subst h4;exact⟨⟨aG _,fun v hv=>nomatch hv⟩,rfl,hb⟩
def NxU (w:ae)(e:Ending)(w':ae):Prop:=
 ∃y:Kv,e=.returned (.agg (JK y.t (.slice y.A y.zs.length y.c)))/\Ld w' w'.heap.size y/\Ry y/\y.zs= []/\ai w.heap.size w w'
theorem asC (wd QQ:au)(CA:aj Addr)(cc n:Nat)(ts:ag Kv)(w:ae)(hn:ts.length=n)(hn4:n<=5)(hc:LJ w w.heap.size CA ts)(htm:∀y∈ts,YP y.t):
  Calls Tryz.prog 13 #[.slice CA n cc,.int .u8 (QQ.toNat:Int),.agg #[.slice none 0 0,Extern.Stop.cell wd]] w (NxU w):=by
 have h0:Zk w w.heap.size ⟨none,0,[],wd⟩:=⟨aG _,.inl rfl,fun _ h=>nomatch h⟩;refine(show Calls Tryz.prog _ #[_,_,.agg (ItV.cells ⟨none,0,[],wd⟩)] w _ from alj ⟨none,0,[],wd⟩ QQ CA cc n ts w h0 hn hn4 hc htm).mono fun e w' h=>?_;obtain⟨y,he,hy,_,_,_,_,hz,_,hb,_⟩:=h;have h1:y.t.JX= []:=by rw[hz];rfl
 have h2:y.zs= []:=by
  have:=hy.names;rw[h1] at this;exact ja.1 this.symm
 exact⟨y,he,hy,⟨by rw[h2];exact aG _,fun v hv=>by rw[h2] at hv;exact nomatch hv⟩,h2,hb⟩
def SmE (e:Ze):Prop:=e.name.size<=100/\e.z.cal.JQ.length<=40/\e.z.cal.rules.length<=40/\e.z.trans.length<=40/\e.z.J6.length<=10
def SmP (w:ae)(zs:ag L9)(e:Ending)(w':ae):Prop:=∃q,e=.returned (.bool q)/\(q=true->zs.length<=6/\∀y∈zs,SmE y.e)/\ai w.heap.size w w'
theorem aiS (x:Kv)(w:ae)(h:Ld w w.heap.size x):
  Calls Tryz.prog 6 #[.agg (JK x.t (.slice x.A x.zs.length x.c))] w (SmP w x.zs):=by
 obtain⟨t,A,c,zs⟩:=x;simp only at h⊢;obtain⟨n,hn⟩:∃n,zs.length=n:=⟨_,rfl⟩;have HN:=JJ hn;have HC:=JJ h.JX;have HR0:=JJ (Row.new w (JK t (.slice A n c)) 26);have HB0:=JJ (JM w (.cells (JK t (.slice A n c)) 26));rw[hn];clear h hn;go_enter Tryz.func6,Tryz.ntmps6;go_upto_region 1 with fail;generalize w.alloc (.cells (JK t (.slice A n c)) 26)=W0 at HR0 HB0⊢;have c3:W0.cell? ⟨w.heap.size,3,none⟩=some (.slice A n c):=HR0.out.2 3;by_cases h6:6<n
 ·have h6':(6:Int)<(n:Int):=by omega
  go_wp2_with fail;go_ret;exact⟨false,rfl,(fun h=>by cases h),HB0.out⟩
 have h6':¬(6:Int)<(n:Int):=by omega
 go_wp2_with fail;have HRK:Hid (∀W,ai W0.heap.size W0 W->Row W w.heap.size (JK t (.slice A n c))):=JJ fun W hb=>HR0.out.keep hb;have HLO:=HB0;clear c3 HR0 HB0
 go_loopw [3,4] (fun i _ wr=>∃k:Nat,k<=n/\i=.int .i64 k/\(∀(j:Nat) (y:L9),j<k->zs[j]? =some y->SmE y.e)/\ai W0.heap.size W0 wr) (fun i _ _=>n - (intOf i).toNat)
 case atStart=>exact⟨0,aG _,rfl,fun j y hj=>absurd hj (fD _),aW _ _⟩
 case round=>
  obtain⟨k,hk,rfl,hall,hbl⟩:=hrel;have Ox:=JJ hall;have HB:=JJ hbl;have c3:wr.cell? ⟨w.heap.size,3,none⟩=some (.slice A n c):=(HRK.out wr hbl).2 3;clear hall hbl;by_cases hlt:k<n
  ·have hkl:k<zs.length:=by rw[HN.out];exact hlt
   obtain⟨x,hx⟩:∃x,zs[k]? =some x:=⟨_,KL hkl⟩;obtain⟨b,off,rfl,hbw,hcl⟩:=HC.out.row.there (by rw[MB];omega);have HXX:=JJ hx;have hb0:=JL HLO.out HB.out;have HCX:Hid (∀W,ai w.heap.size w W->W.rangeAt b (off+k*9) x.cells.toList):=JJ fun W hW j u hu=>by
    have hj:j<9:=(MF.1 hu).1;rw[fE];refine(hW.cell (p:=⟨b,off+(k*9+j),none⟩) hbw).trans (hcl _ u ?_);rw[Tu zs k j x hx hj];simpa using hu
   have HCZ:Hid (wr.rangeAt b (off+k*9+1) (JV x.e.z x.s).toList):=JJ fun j u hu=>by
    rw[fE];exact HCX.out wr hb0 (1+j) u (by rw[kP];exact hu)
   have i0:(0:Int)<=(k:Int):=by omega
   have i1:(k:Int)<(n:Int):=by omega
   have hsw:=HB.out.size;have Rx:=JJ hb0;clear hkl hx hcl hb0;go_upto_region 7 with (first
    |((with_reducible refine Nb 69 ?_);refine jM rfl _ _ rfl b (off+k*9+1) rfl (JV x.e.z x.s).toList _ HCZ.out cu rfl (amm x.e.z x.s) ?_)
    |((with_reducible refine Kz 69 ?_);refine Py rfl rfl _ _ _ rfl rfl rfl rfl (.agg OQ) (JV x.e.z x.s) (by kernel_rfl) rfl rfl rfl (ao3 _ _) ?_))
   have hx:=JM wr (.cells (JV x.e.z x.s) 69);have hr:=(Row.new wr (JV x.e.z x.s) 69).2;have adq:=JJ (JL HB.out hx);have c3':(wr.alloc (.cells (JV x.e.z x.s) 69)).cell? ⟨w.heap.size,3,none⟩=some (.slice (some ⟨b,off,none⟩) n c):=(HRK.out _ adq.out).2 3;have hnm:(wr.alloc (.cells (JV x.e.z x.s) 69)).cell? ⟨b,off+k*9,none⟩=some (.string x.e.name):=HCX.out _ (JL Rx.out hx) 0 _ rfl;obtain⟨m0,e0⟩:∃m,x.e.name.size=m:=⟨_,rfl⟩;obtain⟨m1,e1⟩:∃m,x.e.z.cal.JQ.length=m:=⟨_,rfl⟩;obtain⟨m2,e2⟩:∃m,x.e.z.cal.rules.length=m:=⟨_,rfl⟩;obtain⟨m3,e3⟩:∃m,x.e.z.trans.length=m:=⟨_,rfl⟩;obtain⟨m4,e4⟩:∃m,x.e.z.J6.length=m:=⟨_,rfl⟩;have HM:Hid (x.e.name.size=m0/\x.e.z.cal.JQ.length=m1/\x.e.z.cal.rules.length=m2/\x.e.z.trans.length=m3/\x.e.z.J6.length=m4):=JJ ⟨e0,e1,e2,e3,e4⟩;have q1:=hr 1;have q3:=hr 3;have q5:=hr 5;have q7:=hr 7;rw[ahM,e1] at q1;rw[ahN,e2] at q3;rw[ahO,e3] at q5;rw[ahP,e4] at q7;obtain⟨zb,hzb⟩:∃b,wr.heap.size=b:=⟨_,rfl⟩;rw[hzb] at q1 q3 q5 q7;try rw[hzb]
   generalize wr.alloc (.cells (JV x.e.z x.s) 69)=W1 at adq c3' hnm q1 q3 q5 q7⊢;clear hx hr c3 HCZ HCX e1 e2 e3 e4 hzb Rx;by_cases t0:100<m0
   ·have u0:(100:Int)<(m0:Int):=by omega
    go_wp2_with fail;go_ret;exact⟨false,rfl,(fun h=>by cases h),JL HLO.out adq.out⟩
   ·have u0:¬(100:Int)<(m0:Int):=by omega
    by_cases t1:40<m1
    ·have u1:(40:Int)<(m1:Int):=by omega
     go_wp2_with fail;go_ret;exact⟨false,rfl,(fun h=>by cases h),JL HLO.out adq.out⟩
    ·have u1:¬(40:Int)<(m1:Int):=by omega
     by_cases t2:40<m2
     ·have u2:(40:Int)<(m2:Int):=by omega
      go_wp2_with fail;go_ret;exact⟨false,rfl,(fun h=>by cases h),JL HLO.out adq.out⟩
     ·have u2:¬(40:Int)<(m2:Int):=by omega
      by_cases t3:40<m3
      ·have u3:(40:Int)<(m3:Int):=by omega
       go_wp2_with fail;go_ret;exact⟨false,rfl,(fun h=>by cases h),JL HLO.out adq.out⟩
      ·have u3:¬(40:Int)<(m3:Int):=by omega
       by_cases t4:10<m4
       ·have u4:(10:Int)<(m4:Int):=by omega
        go_wp2_with fail;go_ret;exact⟨false,rfl,(fun h=>by cases h),JL HLO.out adq.out⟩
       ·have u4:¬(10:Int)<(m4:Int):=by omega
        go_wp2_with fail;go_roundw
        case rel=>
         refine⟨k+1,by omega,by go_num,fun j y hj hy=>?_,adq.out⟩;by_cases e:j=k
         ·subst e;have h1:=HXX.out;rw[hy] at h1;injection h1 with h1;subst h1;exact⟨by have:=HM.out.1;omega,by have:=HM.out.2.1;omega,by have:=HM.out.2.2.1;omega,by have:=HM.out.2.2.2.1;omega,by have:=HM.out.2.2.2.2;omega⟩
         ·exact Ox.out j y (by omega) hy
        case measure=>simp[intOf];omega
  ·have hke:k=n:=by omega
   have Yw:Hid (∀y∈zs,SmE y.e):=JJ fun y hy=>by
    obtain⟨j,hj⟩:=fU hy;exact Ox.out j y (by have h1:=(MF.1 hj).1;have:=HN.out;omega) hj
   have hnl:¬(k:Int)<(n:Int):=by omega
   clear hke hlt;go_wp2_with fail;go_ret;exact⟨true,rfl,fun _=>⟨by rw[HN.out];omega,Yw.out⟩,JL HLO.out HB.out⟩
theorem aoX {z:Zn}(hy:z.J6= []):UW z= []:=by
 unfold UW Vg;rw[hy];simp only[oO]
theorem axD:VH z0=0:=by
 have e:UW z0= []:=aoX rfl;unfold VH ZW;rw[e];decide+kernel
theorem asZ:O0 (vt 1 0 true)=0:=by
 unfold O0;rw[bP (by decide+kernel),bP (by decide+kernel),bP (by decide+kernel)];show Mc ⟨#[]⟩ [XX]=0;rw[Si,bP (by decide+kernel),bD (show VH XX.z=0 from axD)];rfl
def aqr:ag au:=([2,1,0]++List.replicate 32 0)++ [1,1,97,0,0,0,0,1,3,0,0,60,0,0,0]++List.replicate 9 0
theorem aeH:PN (vt 1 0 true)=aqr:=by decide+kernel
def ant (w:ae)(t:Tb)(n:Nat)(e:Ending)(w':ae):Prop:=
 ∃A c ys,e=.returned (.tuple #[.agg (JK {t with Ku:=KA} (.slice A n c)),I 0])/\OI w.heap.size w' (.slice A n c) ys/\ys.map (·.e)=t.JX/\ai w.heap.size w w'
theorem RY.aAS {t:Tb}(h:RY t):RY {t with Ku:=KA}:=⟨h.J5,h.version,h.JU,h.prev,rfl,h.first,h.num,h.flat,h.short⟩
theorem acF (w:ae)(t:Tb)(n N b off c:Nat)(h:RY t)(hv:O0 {t with Ku:=KA}=0)(htb:PN {t with Ku:=KA}=NR {t with Ku:=KA})(hzc:∀(W:ae) (lo:Nat) (A:aj Addr) (c:Nat) (ys:ag L9),OI lo W (.slice A n c) ys->ys.map (·.e)=t.JX->O3 W W.heap.size A ys)(hn:t.JX.length=n)(hN:(NR t).length=N)(hup:∀ys:ag L9,ys.map (·.e)=t.JX->OV ys)(hbl:b<w.heap.size)(hc1:N<=c)(hc2:c<=9223372036854775807)
  (hA:∀j,j<N->w.cell? ⟨b,off+j,none⟩=some (Extern.Stop.cell ((NR t)[j]?.getD 0))):
  Calls Tryz.prog 24 #[.slice (some ⟨b,off,none⟩) N c] w (ant w t n):=by
 have HF:=JJ h.aAS;have HTV:=JJ hv;have HTB:=JJ htb;have HZC:=JJ hzc;clear hv htb hzc;have L6:Hid (∀v,(Tryz.prog.info? 26).map (·.size)=some (JK {t with Ku:=KA} v).size):=JJ fun v=>Ky _ v h.prev rfl;have Uc:Hid (∀v,(JK J8 (.slice none 0 0)).size=(JK {t with Ku:=KA} v).size):=JJ fun v=>by exact(Kq J8 _ rfl rfl).trans (Kq {t with Ku:=KA} v h.prev rfl).symm
 have HN:=JJ hn;have HNN:=JJ hN;have HUP:=JJ hup;obtain⟨W,hW⟩:∃W,w.alloc (.cells (JK J8 (.slice none 0 0)) 26)=W:=⟨_,rfl⟩;have hB:ai w.heap.size w W:=by rw[<-hW];exact(aW _ w).alloc (ay _) _
 have hs:W.heap.size=w.heap.size+1:=by rw[<-hW];simp
 have ht:W.heap[w.heap.size]? =some (.cells (JK J8 (.slice none 0 0)) 26 (0,0)):=by rw[<-hW];exact aF w _
 have HA:=JJ hA;have HB:=JJ hB;have HS:=JJ hs;have HT:=JJ ht;have HC:=JJ (agk W t n N b off c h hn hN (by omega) hc1 hc2 fun j hj=>(hB.cell (p:=⟨b,off+j,none⟩) hbl).trans (hA j hj));have SY:Hid (NR {t with Ku:=KA}=NR t):=JJ rfl;clear h hn hN hA hB hs ht hup;go_enter Tryz.func24,Tryz.ntmps24;go_wp2_with fail;rw[RU,hW];refine HC.out.mono ?_;rintro e w2 ⟨A,c2,ys,rfl,hz2,he2,hb2⟩;have hs0:=HS.out;have HZ2:=JJ hz2;have HE2:=JJ he2;have Rx:=JJ (JL HB.out hb2);have HT2:Hid (w2.heap[w.heap.size]? =some (.cells (JK J8 (.slice none 0 0)) 26 (0,0))):=JJ ((hb2.block _ (by omega)).trans HT.out);have hl2:w.heap.size+1<=w2.heap.size:=by have:=hb2.size;omega
 clear hz2 he2 hb2 hW HC HB HS HT;go_wp2_with(first
  |(with_reducible refine Kz 26 ?_;refine Ll rfl _ rfl (JK J8 (.slice none 0 0)) RU ?_)
  |(with_reducible refine Lj 26 ?_;refine Nh rfl _ _ _ rfl (JK {t with Ku:=KA} (.slice A n c2)) rfl rfl 26 (JK J8 (.slice none 0 0)) rfl (L6.out _) (Uc.out _) (J9 _ _ _ _) ?_;intro W3 hb3 hl3 hr3;have HB3:=JJ hb3;have HR3:=JJ hr3;have HZ3:=JJ (HZ2.out.below hb3);clear hb3 hr3)
  |(with_reducible refine Nb 26 ?_;refine KF rfl _ _ rfl w2.heap.size rfl (JK {t with Ku:=KA} (.slice A n c2)) HR3.out _ az rfl (L6.out _) ?_))
 refine(QB {t with Ku:=KA} A n c2 ys W3 (aan HTV.out HF.out.prev HF.out.Ku) HE2.out.symm (by rw[<-HN.out,<-HE2.out,aI]) (HZC.out W3 _ A c2 ys HZ3.out HE2.out) HTV.out).mono ?_;rintro e w4 ⟨⟨g4,c4,rfl,ho4⟩,hb4⟩;rw[HTB.out] at ho4⊢;rw[SY.out,HNN.out] at ho4⊢;have awx:=Rx.out.trans (HB3.out.mono (by omega));have arV:=awx.trans (hb4.mono (by omega));have HB4:=JJ arV;have HR4:Hid (Row w4 w2.heap.size (JK {t with Ku:=KA} (.slice A n c2))):=JJ (HR3.out.keep hb4);have HZ4:Hid (OI W.heap.size w4 (.slice A n c2) ys):=JJ (HZ3.out.below hb4);have HT4:Hid (w4.heap[w.heap.size]? =some (.cells (JK J8 (.slice none 0 0)) 26 (0,0))):=JJ ((hb4.block _ (by omega)).trans ((HB3.out.block _ (by omega)).trans HT2.out));have h1:BytesAt w4 w4.heap.size (some ⟨g4,0,none⟩) (NR t):=by
  obtain⟨A',c',hv,_,_,_,hy⟩:=adJ (bs:=NR t) (by rw[HNN.out];exact ho4);injection hv with e1 e2 e3;subst e1;exact hy
 have h2:BytesAt w4 w.heap.size (some ⟨b,off,none⟩) (NR t):=.inr ⟨b,off,rfl,hbl,fun j hj=>(arV.cell (p:=⟨b,off+j,none⟩) hbl).trans (HA.out j (by have:=HNN.out;omega))⟩;have WU:Hid (Calls Tryz.prog 46 #[.slice (some ⟨g4,0,none⟩) N c4,.slice (some ⟨b,off,none⟩) N c] w4 fun e w'=>e=.returned (.bool true)/\w'=w4):=JJ (by
  have h:=Zz w4 (some ⟨g4,0,none⟩) (some ⟨b,off,none⟩) (NR t) (NR t) c4 c _ _ h1 h2;rw[HNN.out] at h;simpa using h)
 clear ho4 hb4 awx arV h1 h2 HB3 HR3 HZ3 HT2 HZ2 Rx;go_wp2_with fail;refine WU.out.mono ?_;rintro e w5 ⟨rfl,rfl⟩;go_wp2_with(first
  |(with_reducible refine Nb 26 ?_;refine KF rfl _ _ rfl w2.heap.size rfl (JK {t with Ku:=KA} (.slice A n c2)) HR4.out _ az rfl (L6.out _) ?_)
  |(with_reducible refine Lj 26 ?_;refine aB rfl _ _ _ rfl w.heap.size (JK {t with Ku:=KA} (.slice A n c2)) rfl rfl 26 (JK J8 (.slice none 0 0)) HT4.out (L6.out _) (Uc.out _) (J9 _ _ _ _) ?_))
 refine aX (v:=.tuple #[.agg (JK {t with Ku:=KA} (.slice A n c2)),I 0]) (Ko rfl _ _ w.heap.size _ (JK {t with Ku:=KA} (.slice A n c2)) (0,0) _ rfl (aQ _ _ _ _ _ _ HT4.out) az rfl (L6.out _) _ rfl) rfl ?_;refine⟨A,c2,ys,rfl,(HZ4.out.Kr ?_ fun k h1 h2=>cZ _ _ k _ (by omega)).lower (by omega),HE2.out,eH HB4.out (ay _) _⟩;simp[World.setRow]
end Go.Proofs.YtbaehbbonkljpaaGreatDoor
