/- The texts Jg, Ke, Kf, Ng2, Ns0, Nh, Js, Jh, Jy, in this order. -/
import Derived.Shelf.SlSortCmp.WholeK
import Derived.Shelf.SlicesG.Cmp
import Derived.Shelf.SlSortCmp.NoneTotal
import Derived.Test.YtbaehbbonkljpaaGreatDoorT08
set_option maxRecDepth 10000
set_option maxHeartbeats 8000000
namespace Go.Proofs.YtbaehbbonkljpaaGreatDoor
open Go Go.RowKit
structure U5 (n:Nat)(r:Yr):Prop where
 mo:1<=r.month/\r.month<=(n:Int)
 wk:1<=r.La/\r.La<=5
 wd:0<=r.Lh/\r.Lh<=6
 mi:0<=r.minute/\r.minute<1440
 of: -1080<=r.off/\r.off<=1080
def ydG (c:Cal)(bg y:Int)(r:Yr):Int×Bool:=aik r.Lh r.La (bg+PQ c y (r.month - 1).toNat) (VM c y (r.month - 1).toNat)
theorem al9 (c:Cal)(A R:aj Addr)(a r:Nat)(bg y:Int)(x:Yr)(w:ae)(hc:MR c)(h:Rw w w.heap.size A R c)(hb:0<=bg)(hb2:bg<=100000000)(hr:U5 c.JQ.length x):
  Calls Tryz.prog 109 #[.agg (J7 c A a R r),I bg,I y,.agg #[I x.month,I x.La,I x.Lh,I x.minute,I x.off]] w (Gives (.tuple #[I (ydG c bg y x).1,.bool (ydG c bg y x).2]) w):=by
 have hm:=hr.mo;have hwk:=hr.wk;have hwd:=hr.wd;clear hr;obtain⟨mo,wk,wd,mi,of⟩:=x;simp only at hm hwk hwd⊢;obtain⟨M,rfl⟩:∃M:Nat,mo=(M:Int)+1:=⟨(mo - 1).toNat,by omega⟩;have h16:=hc.ml;have hMn:M<c.JQ.length:=by omega
 have Qc:Hid (∀m,m<c.JQ.length->∀W,ai w.heap.size w W->Calls Tryz.prog 126 #[.agg (J7 c A a R r),I y,I ((m:Int)+1)] W (Gives (I (VM c y m)) W)):=JJ fun m hm W hb=>aiD c A R a r y m W hc (h.grow hb) hm;have SK:=JJ (fun k (hk:k<=c.JQ.length)=>UD c y hc k hk);have HMB:=JJ (fun k (hk:k<c.JQ.length)=>Wu c y k hc hk);have h1:=SK.out M (by omega);have h2:=HMB.out M (by omega);obtain⟨res,hres⟩:∃res,ydG c bg y ⟨(M:Int)+1,wk,wd,mi,of⟩=res:=⟨_,rfl⟩;rw[hres];unfold ydG aik at hres;simp only at hres;rw[show((M:Int)+1 - 1).toNat=M by omega] at hres;obtain⟨b0,hb0⟩:∃b,bg+PQ c y M=b:=⟨_,rfl⟩;obtain⟨n,hn⟩:∃n,VM c y M=n:=⟨_,rfl⟩;have Uc:=JJ hb0;have HQ:=JJ hn;rw[hb0,hn] at hres;rw[hn] at h2;have aEb:0<=b0/\b0<=100001000:=by omega
 obtain⟨nm,hnm⟩:∃n,c.JQ.length=n:=⟨_,rfl⟩;rw[hnm] at hMn h16 Qc;simp only[hnm] at SK HMB;obtain⟨ep,lp,A',R',n0,n1,hcs⟩:∃ep lp,∃A' R':aj Addr,∃n m:Nat,J7 c A a R r= #[I ep,.slice A' n a,I lp,.slice R' m r]:=⟨_,_,_,_,_,_,rfl⟩;rw[hcs] at Qc⊢;obtain⟨p,hp⟩:∃p,(wd - b0)%7=p:=⟨_,rfl⟩;have hp0:0<=p/\p<7:=by omega
 obtain⟨p2,hp2⟩:∃p,(b0+n - 1 - wd)%7=p:=⟨_,rfl⟩;have hp3:0<=p2/\p2<7:=by omega
 have HWD:=JJ (fun W=>Yl (wd - b0) W);have HWE:=JJ (fun W=>Yl (b0+n - 1 - wd) W);rw[hp] at HWD hres;rw[hp2] at HWE hres;clear hcs hn hc h hnm hb0 hp hp2 h1 hm;by_cases h5:wk=5
 ·subst h5;rw[bD rfl] at hres;have Uh:=JJ hres;clear hres;have XE:=JJ (SS.agi w 0 65 110 #[I ep,.slice A' n0 a,I lp,.slice R' n1 r] #[I ((M:Int)+1),I 5,I wd,I mi,I of]);go_enter Tryz.func109,Tryz.ntmps109;go_wp2_with fail;generalize (w.alloc (.cells #[I ep,.slice A' n0 a,I lp,.slice R' n1 r] 65)).alloc (.cells #[I ((M:Int)+1),I 5,I wd,I mi,I of] 110)=W0 at XE⊢
  go_loopw [1,10] (fun s i wr=>∃k:Nat,k<=M/\s=I (bg+PQ c y k)/\i=I ((k:Int)+1)/\SS w 0 #[I ep,.slice A' n0 a,I lp,.slice R' n1 r] #[I ((M:Int)+1),I 5,I wd,I mi,I of] wr) (fun _ i _=>M+1 - (intOf i).toNat)
  case atStart=>exact⟨0,aG _,by rw[show bg+PQ c y 0=bg from kM bg],rfl,XE.out⟩
  case round=>
   obtain⟨k,hk,rfl,rfl,hv⟩:=hrel;have HV:=JJ hv;clear hv XE;by_cases hlt:k<M
   ·have i1:(k:Int)+1<(M:Int)+1:=by omega
    have b1:=SK.out k (by omega);have b2:=HMB.out k (by omega);have HC:=JJ (Qc.out k (by omega) wr HV.out.up);have YL:Hid (PQ c y (k+1)=PQ c y k+VM c y k):=JJ rfl;obtain⟨s,hs⟩:∃s,PQ c y k=s:=⟨_,rfl⟩;obtain⟨q,hq⟩:∃s,VM c y k=s:=⟨_,rfl⟩;rw[hs,hq] at YL;rw[hq] at HC b2;rw[hs] at b1⊢;have sw:IntKind.i64.wrap (bg+s+q)=bg+s+q:=by rw[aA];omega
    have sw2:IntKind.i64.wrap ((k:Int)+1+1)=(k:Int)+1+1:=by rw[aA];omega
    clear hs hq;have v0:wr.cell? ⟨w.heap.size,0,none⟩=some (I ep):=HV.out.a.2 0;have v1:wr.cell? ⟨w.heap.size,1,none⟩=some (.slice A' n0 a):=HV.out.a.2 1;have v2:wr.cell? ⟨w.heap.size,2,none⟩=some (I lp):=HV.out.a.2 2;have v3:wr.cell? ⟨w.heap.size,3,none⟩=some (.slice R' n1 r):=HV.out.a.2 3;have u0:wr.cell? ⟨w.heap.size+1,0,none⟩=some (I ((M:Int)+1)):=HV.out.b.2 0;have u1:wr.cell? ⟨w.heap.size+1,1,none⟩=some (I 5):=HV.out.b.2 1;have u2:wr.cell? ⟨w.heap.size+1,2,none⟩=some (I wd):=HV.out.b.2 2;go_wp2_with fail;refine HC.out.mono ?_;rintro e w1 ⟨rfl,hb1⟩;have Qd:=JJ (HV.out.below hb1);clear hb1 HV v0 v1 v2 v3 u0 u1 u2 HC;go_wp2_with fail;go_roundw
    case rel=>exact⟨k+1,by omega,by rw[YL.out];go_num,by go_num,Qd.out⟩
    case measure=>simp[intOf];omega
   ·have hkM:k=M:=by omega
    have hlt':¬(k:Int)+1<(M:Int)+1:=by omega
    have HC:=JJ (Qc.out M hMn wr HV.out.up);rw[hkM,Uc.out];rw[hkM] at hlt';rw[HQ.out] at HC;clear hlt hkM hk;have v0:wr.cell? ⟨w.heap.size,0,none⟩=some (I ep):=HV.out.a.2 0;have v1:wr.cell? ⟨w.heap.size,1,none⟩=some (.slice A' n0 a):=HV.out.a.2 1;have v2:wr.cell? ⟨w.heap.size,2,none⟩=some (I lp):=HV.out.a.2 2;have v3:wr.cell? ⟨w.heap.size,3,none⟩=some (.slice R' n1 r):=HV.out.a.2 3;have u0:wr.cell? ⟨w.heap.size+1,0,none⟩=some (I ((M:Int)+1)):=HV.out.b.2 0;have u1:wr.cell? ⟨w.heap.size+1,1,none⟩=some (I 5):=HV.out.b.2 1;have u2:wr.cell? ⟨w.heap.size+1,2,none⟩=some (I wd):=HV.out.b.2 2;go_wp2_with fail;refine HC.out.mono ?_;rintro e w2 ⟨rfl,hb2⟩;have HX:=JJ (HV.out.below hb2);clear v0 v1 v2 v3 u0 u1 u2 hb2 HV HC;have u1:w2.cell? ⟨w.heap.size+1,1,none⟩=some (I 5):=HX.out.b.2 1;have u2:w2.cell? ⟨w.heap.size+1,2,none⟩=some (I wd):=HX.out.b.2 2;go_wp2_with fail;refine(HWD.out _).mono ?_;rintro e w3 ⟨rfl,rfl⟩;go_wp2_with fail;refine(HWE.out _).mono ?_;rintro e w4 ⟨rfl,rfl⟩;go_wp2_with fail;go_ret2;exact⟨by rw[<-Uh.out];rfl,HX.out.up⟩
 ·rw[bP h5] at hres;have Uh:=JJ hres;clear hres;have XE:=JJ (SS.agi w 0 65 110 #[I ep,.slice A' n0 a,I lp,.slice R' n1 r] #[I ((M:Int)+1),I wk,I wd,I mi,I of]);go_enter Tryz.func109,Tryz.ntmps109;go_wp2_with fail;generalize (w.alloc (.cells #[I ep,.slice A' n0 a,I lp,.slice R' n1 r] 65)).alloc (.cells #[I ((M:Int)+1),I wk,I wd,I mi,I of] 110)=W0 at XE⊢
  go_loopw [1,10] (fun s i wr=>∃k:Nat,k<=M/\s=I (bg+PQ c y k)/\i=I ((k:Int)+1)/\SS w 0 #[I ep,.slice A' n0 a,I lp,.slice R' n1 r] #[I ((M:Int)+1),I wk,I wd,I mi,I of] wr) (fun _ i _=>M+1 - (intOf i).toNat)
  case atStart=>exact⟨0,aG _,by rw[show bg+PQ c y 0=bg from kM bg],rfl,XE.out⟩
  case round=>
   obtain⟨k,hk,rfl,rfl,hv⟩:=hrel;have HV:=JJ hv;clear hv XE;by_cases hlt:k<M
   ·have i1:(k:Int)+1<(M:Int)+1:=by omega
    have b1:=SK.out k (by omega);have b2:=HMB.out k (by omega);have HC:=JJ (Qc.out k (by omega) wr HV.out.up);have YL:Hid (PQ c y (k+1)=PQ c y k+VM c y k):=JJ rfl;obtain⟨s,hs⟩:∃s,PQ c y k=s:=⟨_,rfl⟩;obtain⟨q,hq⟩:∃s,VM c y k=s:=⟨_,rfl⟩;rw[hs,hq] at YL;rw[hq] at HC b2;rw[hs] at b1⊢;have sw:IntKind.i64.wrap (bg+s+q)=bg+s+q:=by rw[aA];omega
    have sw2:IntKind.i64.wrap ((k:Int)+1+1)=(k:Int)+1+1:=by rw[aA];omega
    clear hs hq;have v0:wr.cell? ⟨w.heap.size,0,none⟩=some (I ep):=HV.out.a.2 0;have v1:wr.cell? ⟨w.heap.size,1,none⟩=some (.slice A' n0 a):=HV.out.a.2 1;have v2:wr.cell? ⟨w.heap.size,2,none⟩=some (I lp):=HV.out.a.2 2;have v3:wr.cell? ⟨w.heap.size,3,none⟩=some (.slice R' n1 r):=HV.out.a.2 3;have u0:wr.cell? ⟨w.heap.size+1,0,none⟩=some (I ((M:Int)+1)):=HV.out.b.2 0;have u1:wr.cell? ⟨w.heap.size+1,1,none⟩=some (I wk):=HV.out.b.2 1;have u2:wr.cell? ⟨w.heap.size+1,2,none⟩=some (I wd):=HV.out.b.2 2;go_wp2_with fail;refine HC.out.mono ?_;rintro e w1 ⟨rfl,hb1⟩;have Qd:=JJ (HV.out.below hb1);clear hb1 HV v0 v1 v2 v3 u0 u1 u2 HC;go_wp2_with fail;go_roundw
    case rel=>exact⟨k+1,by omega,by rw[YL.out];go_num,by go_num,Qd.out⟩
    case measure=>simp[intOf];omega
   ·have hkM:k=M:=by omega
    have hlt':¬(k:Int)+1<(M:Int)+1:=by omega
    have HC:=JJ (Qc.out M hMn wr HV.out.up);rw[hkM,Uc.out];rw[hkM] at hlt';rw[HQ.out] at HC;clear hlt hkM hk;have v0:wr.cell? ⟨w.heap.size,0,none⟩=some (I ep):=HV.out.a.2 0;have v1:wr.cell? ⟨w.heap.size,1,none⟩=some (.slice A' n0 a):=HV.out.a.2 1;have v2:wr.cell? ⟨w.heap.size,2,none⟩=some (I lp):=HV.out.a.2 2;have v3:wr.cell? ⟨w.heap.size,3,none⟩=some (.slice R' n1 r):=HV.out.a.2 3;have u0:wr.cell? ⟨w.heap.size+1,0,none⟩=some (I ((M:Int)+1)):=HV.out.b.2 0;have u1:wr.cell? ⟨w.heap.size+1,1,none⟩=some (I wk):=HV.out.b.2 1;have u2:wr.cell? ⟨w.heap.size+1,2,none⟩=some (I wd):=HV.out.b.2 2;go_wp2_with fail;refine HC.out.mono ?_;rintro e w2 ⟨rfl,hb2⟩;have HX:=JJ (HV.out.below hb2);clear v0 v1 v2 v3 u0 u1 u2 hb2 HV HC;have u1:w2.cell? ⟨w.heap.size+1,1,none⟩=some (I wk):=HX.out.b.2 1;have u2:w2.cell? ⟨w.heap.size+1,2,none⟩=some (I wd):=HX.out.b.2 2;go_wp2_with fail;refine(HWD.out _).mono ?_;rintro e w3 ⟨rfl,rfl⟩;go_wp2_with fail;go_ret2;exact⟨by rw[<-Uh.out];rfl,HX.out.up⟩
def Pn (ts:ag Tr)(i:Nat):Int:=(ts[i]?.map (·.off)).getD 0
def TU (ts:ag Tr)(size t:Int):Int:=if Nz ts 0<t then (t - Nz ts 0).tdiv size else 0
def MH (ts:ag Tr)(size t:Int):Tr×Bool:=
 if ts.length=0 then (⟨0,0⟩,false)
 else match (List.range ts.length).find? (fun j=>decide (t<=Nz ts j+TU ts size t*size)) with
  |some j=>(⟨Nz ts j+TU ts size t*size,Pn ts j⟩,true)
  |none=>(⟨Nz ts 0+(TU ts size t+1)*size,Pn ts 0⟩,true)
theorem XK {ts:ag Tr}{size t q:Int}{n k:Nat}(hq:TU ts size t=q)(hl:ts.length=n)(hk:k<n)(h:∀j,j<k->Nz ts j+q*size<t)(h1:t<=Nz ts k+q*size):MH ts size t=(⟨Nz ts k+q*size,Pn ts k⟩,true):=by
 have hf:(List.range ts.length).find? (fun j=>decide (t<=Nz ts j+q*size))=some k:=by
  rw[List.find?_range_eq_some];exact⟨aZ h1,iU.2 (by omega),fun j hj=>by have:=h j hj;simp;omega⟩
 unfold MH;rw[bP (by omega),hq,hf]
theorem Zu {ts:ag Tr}{size t q:Int}{n:Nat}(hq:TU ts size t=q)(hl:ts.length=n)(hk:0<n)(h:∀j,j<n->Nz ts j+q*size<t):MH ts size t=(⟨Nz ts 0+(q+1)*size,Pn ts 0⟩,true):=by
 have hf:(List.range ts.length).find? (fun j=>decide (t<=Nz ts j+q*size))=none:=by
  rw[List.find?_range_eq_none];intro j hj;have:=h j (by omega);simp;omega
 unfold MH;rw[bP (by omega),hq,hf]
theorem VC {lo g n cp:Nat}{W:ae}{ts:ag Tr}(h:Om lo W (some ⟨g,0,none⟩) n cp ts)(hl:ts.length=n)(k:Nat)(hk:k<n):W.cell? ⟨g,k*2+1,none⟩=some (I (Pn ts k)):=by
 have hx:ts[k]? =some ts[k]:=KL (by omega);rw[World.ownsRow.cellAt h (k*2+1) (by omega),flat_get (s:=2) Tr.cells ts (fun _ _=>rfl) k 1 _ hx (by omega)];unfold Pn;rw[hx];rfl
theorem ags (n l:Int)(w:ae)(hl:0<=l)(hl2:l<=4000000000000000):Calls Tryz.prog 75 #[I n,I l] w fun e w'=>e=.returned (.bool (decide (-l<=n)&&decide (n<=l)))/\w'=w:=by
 by_cases h: -l<=n
 ·have HH:=JJ h;go_enter Tryz.func75,Tryz.ntmps75;go_wp2_with fail;go_ret;exact⟨by simp[HH.out],rfl⟩
 ·have HH:=JJ h;go_enter Tryz.func75,Tryz.ntmps75;go_wp2_with fail;go_ret;exact⟨by rw[bT (show¬ -l<=n by have:=HH.out;omega)];rfl,rfl⟩
structure ZnM (z:Zn):Prop where
 cal:afc z.cal
 start: -1080<=z.start/\z.start<=1080
 hor:0<=z.hor/\z.hor<=1000000
 trl:z.trans.length<=3
 tr:∀x∈z.trans,(-1080<=x.off/\x.off<=1080)/\0<=x.at_/\x.at_<z.hor
 gap:∀i,i+1<z.trans.length->Nz z.trans i+2160<=Nz z.trans (i+1)
 yr:z.J6= []\/∃r0 r1,z.J6= [r0,r1]/\YrS r0/\YrS r1
theorem Xq {w W:ae}{C:aj Addr}{ts:ag Tr}(h:JS w w.heap.size C (ts.flatMap Tr.cells))(hb:ai w.heap.size w W)(h0:0<ts.length):∃b off,C=some ⟨b,off,none⟩/\∀k,k<ts.length->W.cell? ⟨b,off+k*2,none⟩=some (I (Nz ts k))/\W.cell? ⟨b,off+k*2+1,none⟩=some (I (Pn ts k)):=by
 obtain⟨b,off,e,hb1,hcl⟩:=h.there (by rw[KW (s:=2) Tr.cells _ fun _ _=>rfl];omega);refine⟨b,off,e,fun k hk=>?_⟩;have hx:ts[k]? =some ts[k]:=KL hk;have hr:=JY (JS.elem (s:=2) (fun _ _=>rfl) hcl k _ hx) hb hb1;have e1:Nz ts k=ts[k].at_:=by unfold Nz;rw[hx];rfl
 have e2:Pn ts k=ts[k].off:=by unfold Pn;rw[hx];rfl
 rw[e1,e2];exact⟨hr 0 _ rfl,hr 1 _ rfl⟩
theorem ZnM.awd {z:Zn}(h:ZnM z)(k:Nat)(hk:k<z.trans.length):(-1080<=Pn z.trans k/\Pn z.trans k<=1080)/\0<=Nz z.trans k/\Nz z.trans k<z.hor:=by
 have hx:z.trans[k]? =some z.trans[k]:=KL hk;have e1:Nz z.trans k=z.trans[k].at_:=by unfold Nz;rw[hx];rfl
 have e2:Pn z.trans k=z.trans[k].off:=by unfold Pn;rw[hx];rfl
 rw[e1,e2];exact h.tr _ (jV hk)
theorem aiu (ts:ag Tr)(t:Tr):(Ux ts t).Perm (ts++ [t]):=by
 unfold Ux;refine(List.perm_middle).trans ?_;rw[dR];exact(List.perm_append_comm (l₁:= [t]) (l₂:=ts))
theorem afS {ts us:ag Tr}(t:Tr)(h:ts.Perm us):(Ux ts t).Perm (us++ [t]):=(aiu ts t).trans (List.Perm.append_right [t] h)
theorem aci {ts:ag Tr}{size:Int}(h:Me ts size=true)(i:Nat)(hi:i<ts.length):2160<=Qj ts size i:=by
 unfold Me at h;rw[iF] at h;exact gZ (h i (iU.2 hi))
theorem anO {ts:ag Tr}{size:Int}(h:Me ts size=true):∀(k i:Nat),i+k+1<ts.length->Nz ts i<Nz ts (i+k+1):=by
 intro k
 induction k with
 |zero=>
  intro i hi;have:=aci h i (by omega);unfold Qj at this;rw[bD (by omega)] at this;rw[jX];omega
 |succ k ih=>
  intro i hi;have h1:=ih i (by omega);have h2:=aci h (i+k+1) (by omega);unfold Qj at h2;rw[bD (by omega)] at h2;rw[show i+(k+1)+1=i+k+1+1 by omega];omega
theorem ab8 {ts:ag Tr}{i:Nat}(hi:i<ts.length):Nz ts i=ts[i].at_:=by
 unfold Nz;rw[KL hi];rfl
theorem aip {ts:ag Tr}{size:Int}(h:Me ts size=true):ts.Pairwise (fun a b=>a.at_<b.at_):=by
 rw[jh];intro i j hi hj hij;have:=anO h (j - i - 1) i (by omega);rw[show i+(j - i - 1)+1=j by omega,ab8 hi,ab8 hj] at this;exact this
theorem VA {ts us:ag Tr}{size:Int}(h:Me ts size=true)(hp:us.Perm ts)(hs:us.Pairwise (fun a b=>a.at_<=b.at_)):us=ts:=by
 have hw:=aip h;refine List.Perm.eq_of_pairwise (le:=fun a b=>a.at_<=b.at_) ?_ hs (hw.imp (fun h=>by omega)) hp;intro a b ha hb h1 h2;obtain⟨i,hi,rfl⟩:=jT.1 (hp.mem_iff.1 ha);obtain⟨j,hj,rfl⟩:=jT.1 hb;rw[jh] at hw;rcases Nat.lt_trichotomy i j with h3|h3|h3
 ·have:=hw i j hi hj h3;omega
 ·subst h3;rfl
 ·have:=hw j i hj hi h3;omega
section
open Go.Shelf
def agf:Go.Shelf.Ren:=⟨fun|6=>111|15=>130|14=>129|28=>144|29=>145|20=>136|21=>137|22=>138|23=>139|24=>140|25=>141|26=>142|27=>143|46=>149|47=>150|48=>151|49=>152|50=>153|57=>156|n=>n,fun|22=>66|24=>108|25=>207|3=>3|39=>216|0=>0|53=>154|55=>143|4=>4|46=>230|45=>229|50=>87|5=>5|9=>9|66=>238|70=>125|76=>246|77=>223|n=>n,fun|n=>n⟩
theorem alK:SlLaysF0.n6 Tryz.prog agf:= {
 mixed:=by kernel_rfl
 f6:=⟨Tryz.f111.name,by decide,Tryz.func111.trans (dA some (by kernel_rfl))⟩
 f14:=⟨Tryz.f129.name,by decide,Tryz.func129.trans (dA some (by kernel_rfl))⟩
 f15:=Tryz.func130.trans (dA some (by kernel_rfl))
 f20:=⟨Tryz.f136.name,by decide,Tryz.func136.trans (dA some (by kernel_rfl))⟩
 f21:=⟨Tryz.f137.name,by decide,Tryz.func137.trans (dA some (by kernel_rfl))⟩
 f22:=⟨Tryz.f138.name,by decide,Tryz.func138.trans (dA some (by kernel_rfl))⟩
 f23:=⟨Tryz.f139.name,by decide,Tryz.func139.trans (dA some (by kernel_rfl))⟩
 f24:=⟨Tryz.f140.name,by decide,Tryz.func140.trans (dA some (by kernel_rfl))⟩
 f25:=⟨Tryz.f141.name,by decide,Tryz.func141.trans (dA some (by kernel_rfl))⟩
 f26:=⟨Tryz.f142.name,by decide,Tryz.func142.trans (dA some (by kernel_rfl))⟩
 f27:=⟨Tryz.f143.name,by decide,Tryz.func143.trans (dA some (by kernel_rfl))⟩
 f28:=Tryz.func144.trans (dA some (by kernel_rfl))
 f29:=Tryz.func145.trans (dA some (by kernel_rfl))
 f46:=⟨Tryz.f149.name,by decide,Tryz.func149.trans (dA some (by kernel_rfl))⟩
 f47:=Tryz.func150.trans (dA some (by kernel_rfl))
 f48:=Tryz.func151.trans (dA some (by kernel_rfl))
 f49:=⟨Tryz.f152.name,by decide,Tryz.func152.trans (dA some (by kernel_rfl))⟩
 f50:=⟨Tryz.f153.name,by decide,Tryz.func153.trans (dA some (by kernel_rfl))⟩
 f57:=⟨Tryz.f156.name,by decide,Tryz.func156.trans (dA some (by kernel_rfl))⟩
 t0:=Tryz.underlying0
 a0:=Tryz.isAgg0
 z0:=Tryz.sizeOf0
 v0:=Tryz.zeroValue0
 t3:=jC
 a3:=Tryz.isAgg3
 z3:=Tryz.sizeOf3
 v3:=mY
 t4:=je
 a4:=Tryz.isAgg4
 z4:=Tryz.sizeOf4
 v4:=Tryz.zeroValue4
 t5:=gW
 a5:=Tryz.isAgg5
 z5:=Tryz.sizeOf5
 v5:=Tryz.zeroValue5
 t9:=gV
 a9:=Tryz.isAgg9
 z9:=Tryz.sizeOf9
 v9:=Tryz.zeroValue9
 t22:=fQ
 a22:=Tryz.isAgg66
 z22:=Tryz.sizeOf66
 v22:=Tryz.zeroValue66
 t25:=Tryz.underlying207
 a25:=Tryz.isAgg207
 z25:=Tryz.sizeOf207
 v25:=Tryz.zeroValue207
 t39:=Tryz.underlying216
 a39:=Tryz.isAgg216
 z39:=Tryz.sizeOf216
 v39:=Tryz.zeroValue216
 t45:=Tryz.underlying229
 a45:=Tryz.isAgg229
 z45:=Tryz.sizeOf229
 v45:=Tryz.zeroValue229
 t46:=Tryz.underlying230
 a46:=Tryz.isAgg230
 z46:=Tryz.sizeOf230
 v46:=Tryz.zeroValue230
 t50:=Tryz.underlying87
 a50:=Tryz.isAgg87
 z50:=Tryz.sizeOf87
 v50:=Tryz.zeroValue87
 t53:=Tryz.underlying154
 a53:=Tryz.isAgg154
 z53:=Tryz.sizeOf154
 v53:=Tryz.zeroValue154
 t55:=Tryz.underlying143
 a55:=Tryz.isAgg143
 z55:=Tryz.sizeOf143
 v55:=Tryz.zeroValue143
 t66:=Tryz.underlying238
 a66:=Tryz.isAgg238
 z66:=Tryz.sizeOf238
 v66:=Tryz.zeroValue238
 t70:=Tryz.underlying125
 a70:=Tryz.isAgg125
 z70:=Tryz.sizeOf125
 v70:=Tryz.zeroValue125
 t76:=Tryz.underlying246
 a76:=Tryz.isAgg246
 z76:=Tryz.sizeOf246
 v76:=Tryz.zeroValue246
 t77:=Tryz.underlying223
 a77:=Tryz.isAgg223
 z77:=Tryz.sizeOf223
 v77:=Tryz.zeroValue223}
def afC:Go.Shelf.Ren:=⟨fun|5=>113|7=>131|n=>n,fun|22=>3|3=>3|4=>4|n=>n,fun|n=>n⟩
theorem cmpInt:SlLaysC2.n5 Tryz.prog afC:= {
 mixed:=by kernel_rfl
 f5:=⟨Tryz.f113.name,by decide,Tryz.func113.trans (dA some (by kernel_rfl))⟩
 f7:=⟨Tryz.f131.name,by decide,Tryz.func131.trans (dA some (by kernel_rfl))⟩
 t3:=jC
 a3:=Tryz.isAgg3
 z3:=Tryz.sizeOf3
 v3:=mY
 t4:=je
 a4:=Tryz.isAgg4
 z4:=Tryz.sizeOf4
 v4:=Tryz.zeroValue4
 t22:=jC
 a22:=Tryz.isAgg3
 z22:=Tryz.sizeOf3
 v22:=mY}
end
instance:Inhabited Tr:=⟨⟨0,0⟩⟩
def abr (x y:Tr):Int:=Lib.compareInt x.at_ y.at_
theorem aoc (x y:Tr):Go.Proofs.ltOf abr x y=decide (x.at_<y.at_):=by
 unfold Go.Proofs.ltOf abr Lib.compareInt;by_cases h1:x.at_<y.at_
 ·simp[h1]
 ·by_cases h2:y.at_<x.at_<;>simp[h1,h2]
theorem axu:Go.Sort.SWO (Go.Proofs.ltOf abr) where
 irrefl x:=by rw[aoc];simp
 trans x y z h1 h2:=by rw[aoc] at*;simp at*;omega
 ntrans x y z h1 h2:=by rw[aoc] at*;simp at*;omega
theorem aoJ (x y:Tr)(W:ae):Calls Tryz.prog 112 #[.agg #[I x.at_,I x.off],.agg #[I y.at_,I y.off]] W fun e w'=>e=.returned (I (abr x y))/\∃q os',w'=Go.Sort.grow (W.drewN q) os':=by
 have hcon:=fun W'=>Go.Proofs.AnyG.cmp_Compare_int cmpInt x.at_ y.at_ W';change∀W',Calls Tryz.prog 113 _ _ _ at hcon;have HC:=JJ hcon;clear hcon;unfold abr;generalize Lib.compareInt x.at_ y.at_=r at HC⊢;go_enter Tryz.func112,Tryz.ntmps112;go_wp2_with fail;refine(HC.out _).mono ?_;rintro e w1 ⟨rfl,rfl⟩;go_wp2_with fail;go_ret;exact⟨rfl,0,_,by rw[Go.Sort.alloc_eq_grow,Go.Sort.alloc_eq_grow,Go.Sort.grow_grow];rfl⟩
theorem aiT {w:ae}{g m:Nat}{d:ax Tr}{os:ax Obj}{cur:ax ah}{t:TypeId}(h:w.heap[g]? =some (.cells cur t (0,0))):
  (Go.Proofs.sortWorldK Tr.cells 2 w g 0 m d os).heap[g]? =some (.cells (Go.Sort.putCells id 0 (Go.Sort.flatK Tr.cells 2 d) cur) t (0,0)):=by
 have hg:=(KY.1 h).1;unfold Go.Proofs.sortWorldK Go.Sort.grow Go.Sort.putRowK Go.Sort.putRow Go.Sort.mapBlock Go.Sort.ahead;simp only;rw[lN (by simpa using hg),kV,bD rfl,h];rfl
theorem agh {w:ae}{g m:Nat}{d:ax Tr}{os:ax Obj}:w.grownBy (Go.Proofs.sortWorldK Tr.cells 2 w g 0 m d os) (some g):=by
 refine⟨rfl,rfl,rfl,?_,fun k hk hn=>?_⟩
 ·unfold Go.Proofs.sortWorldK Go.Sort.grow Go.Sort.putRowK Go.Sort.putRow Go.Sort.mapBlock Go.Sort.ahead;simp
 ·have hne:g≠k:=fun e=>hn (by rw[e]);unfold Go.Proofs.sortWorldK Go.Sort.grow Go.Sort.putRowK Go.Sort.putRow Go.Sort.mapBlock Go.Sort.ahead;simp only;rw[lN (by simpa using hk),kV,bP hne]
theorem abu (d:ax Tr)(j:Nat)(hj:j<d.size*2):(Go.Sort.flatK Tr.cells 2 d)[j]? =(d.toList.flatMap Tr.cells)[j]? :=by
 have hq:j / 2<d.size:=by omega
 have hx:d.toList[j / 2]? =some d[j / 2]! :=by
  rw[eQ,fC hq,lH d (j / 2) hq]
 have h1:=flat_get (s:=2) Tr.cells d.toList (fun _ _=>rfl) (j / 2) (j%2) d[j / 2]! hx (by omega);rw[show j / 2*2+j%2=j by omega] at h1;rw[h1];unfold Go.Sort.flatK;rw[Array.getElem?_map,Array.getElem?_range,bD hj];have h2:j%2=0\/j%2=1:=by omega
 rcases h2 with h2|h2<;>rw[mZ,h2]<;>rfl
theorem alL {lo g n c m:Nat}{w:ae}{ts:ag Tr}{d:ax Tr}{os:ax Obj}(h:Om lo w (some ⟨g,0,none⟩) n c ts)(hd:d.size=n):
  Om lo (Go.Proofs.sortWorldK Tr.cells 2 w g 0 m d os) (some ⟨g,0,none⟩) n c d.toList:=by
 obtain⟨h0,⟨hv,hn⟩|⟨g',cap,cur,hv,hg,hh,hc,hm,hs,ht⟩⟩:=h
 ·cases hv
 ·injection hv with h1 h2 h3;injection h1 with h1;injection h1 with h1;subst h1 h3;have hfl:(d.toList.flatMap Tr.cells).length=n*2:=by rw[KW (s:=2) Tr.cells _ (fun _ _=>rfl),dF,hd]
  refine⟨hfl,.inr ⟨g,c,_,rfl,hg,aiT hh,hc,hm,by rw[<-hs];simp[Go.Sort.putCells],?_⟩⟩;apply lU;intro j;rw[lL];by_cases hj:j<n*2
  ·rw[bD hj,eQ,<-abu d j (by rw[hd];exact hj)];have hfs:(Go.Sort.flatK Tr.cells 2 d).size=n*2:=by simp[Go.Sort.flatK,hd]
   have hcs:j<cur.size:=by rw[hs];exact LK hj (nJ 2 hc)
   unfold Go.Sort.putCells;rw[Array.getElem?_mapIdx,fC hcs,mZ,bD ⟨aG _,by rw[hfs];omega⟩,Nat.sub_zero,fC (by rw[hfs];exact hj),lH _ j (by rw[hfs];exact hj)];rfl
  ·rw[bP hj,jP (by rw[hfl];omega)]
structure TB (w:ae)(zc:ag ah)(cy:Int)(A:aj Addr)(n c:Nat)(ts:ag Tr)(W:ae):Prop where
 lo:ai w.heap.size w W
 z:AV w.heap.size 69 zc.toArray W
 k:AV (w.heap.size+1) 205 (zc++ [Value.slice A n c,I cy]).toArray W
 own:Om (w.heap.size+2) W A n c ts
 len:ts.length=n
section
variable {w W W':ae}{zc:ag ah}{cy:Int}{A:aj Addr}{n c:Nat}{ts:ag Tr}
theorem TB.grow (h:TB w zc cy A n c ts W)(hb:ai W.heap.size W W'):TB w zc cy A n c ts W':=⟨JL h.lo hb,h.z.below hb,h.k.below hb,h.own.below hb,h.len⟩
theorem TB.drew (h:TB w zc cy A n c ts W):TB w zc cy A n c ts W.drew:=h.grow ((aW _ W).drew)
theorem TB.drewN (h:TB w zc cy A n c ts W)(q:Nat):TB w zc cy A n c ts (W.drewN q):=h.grow (below_drewN' _ _)
theorem TB.aqo (h:TB w zc cy A n c ts W)(h8:zc.length=8)(v:Int):TB w zc v A n c ts (W.setCell ⟨w.heap.size+1,9,none⟩ (I v)):=by
 refine⟨h.lo.setCell (p:=⟨w.heap.size+1,9,none⟩) (by show w.heap.size<=w.heap.size+1;omega) _,h.z.far (by omega) 9 _,?_,Nl (p:=⟨w.heap.size+1,9,none⟩) h.own (MV h.own _ (by show w.heap.size+1<_;omega)),h.len⟩;have h2:=h.k.put 9 (I v);have e:(zc++ [Value.slice A n c,I cy]).toArray.setIfInBounds 9 (I v)=(zc++ [Value.slice A n c,I v]).toArray:=by
  match zc,h8 with
  | [_,_,_,_,_,_,_,_],_=>rfl
 rw[e] at h2;exact h2
theorem TB.add {Wb w6:ae}{gg cap:Nat}{x:Tr}(h:TB w zc cy A n c ts W)(h8:zc.length=8)(Xg:Wb=W.alloc (.cells #[I x.at_,I x.off] 108))
  (hown:w6.ownsRow (w.heap.size+2) 108 2 (.slice (Option.some ⟨gg,0,none⟩) (n+1) cap) (n+1) (ts.flatMap Tr.cells++ [I x.at_,I x.off]))(hg:Wb.grownBy w6 (Value.slice A n c).ownBlock):
  TB w zc cy (Option.some ⟨gg,0,none⟩) (n+1) cap (ts++ [x]) (w6.setCell ⟨w.heap.size+1,8,none⟩ (.slice (Option.some ⟨gg,0,none⟩) (n+1) cap)):=by
 have hsb:Wb.heap.size=W.heap.size+1:=by rw[Xg];simp
 have hlt:=h.k.lt;have hbl:∀b,b<W.heap.size->Option.some b≠(Value.slice A n c).ownBlock->w6.heap[b]? =W.heap[b]? :=fun b hb hn=>
  (hg.block b (by omega) hn).trans (by rw[Xg];exact aV W _ b hb)
 have hlow:=MV h.own;have hset:∀b,b≠w.heap.size+1->(w6.setCell ⟨w.heap.size+1,8,none⟩ (.slice (Option.some ⟨gg,0,none⟩) (n+1) cap)).heap[b]? =w6.heap[b]? :=fun b hb=>aN w6 ⟨w.heap.size+1,8,none⟩ b _ hb;have h1:ai w.heap.size w Wb:=by rw[Xg];exact JL h.lo (JM W _)
 have hob:Wb.ownsRow (w.heap.size+2) 108 2 (.slice A n c) n (ts.flatMap Tr.cells):=by rw[Xg];exact own_below h.own (JM W _)
 have hk6:AV (w.heap.size+1) 205 (zc++ [Value.slice A n c,I cy]).toArray w6:=⟨(hbl _ hlt (hlow _ (by omega))).trans h.k.var⟩;have hup:ai w.heap.size w w6:=KJ h1 (KD hob (by omega)) h1.size hg;have hgl:=Qx hown;refine⟨hup.setCell (p:=⟨w.heap.size+1,8,none⟩) (by show w.heap.size<=w.heap.size+1;omega) _,⟨(hset _ (by omega)).trans ((hbl _ (by omega) (hlow _ (by omega))).trans h.z.var)⟩,?_,?_,by rw[KN,h.len];rfl⟩
 ·have h2:=hk6.put 8 (.slice (Option.some ⟨gg,0,none⟩) (n+1) cap);have e:(zc++ [Value.slice A n c,I cy]).toArray.setIfInBounds 8 (.slice (Option.some ⟨gg,0,none⟩) (n+1) cap)=(zc++ [Value.slice (Option.some ⟨gg,0,none⟩) (n+1) cap,I cy]).toArray:=by
   match zc,h8 with
   | [_,_,_,_,_,_,_,_],_=>rfl
  rw[e] at h2;exact h2
 ·unfold Om;have e:(ts++ [x]).flatMap Tr.cells=ts.flatMap Tr.cells++ [I x.at_,I x.off]:=by simp[Tr.cells]
  rw[e];exact Nl (p:=⟨w.heap.size+1,8,none⟩) hown (fun e=>by
   have:w.heap.size+1=gg:=by simpa[Value.ownBlock] using e
   omega)
theorem TB.sorted {us:ag Tr}(h:TB w zc cy A n c ts W)(hl:us.length=n)(ho:Om (w.heap.size+2) W' A n c us)(hg:W.grownBy W' (Value.slice A n c).ownBlock):TB w zc cy A n c us W':=by
 have hlow:=MV h.own;have hlt:=h.k.lt;exact⟨KJ h.lo (KD h.own (by omega)) h.lo.size hg,⟨(hg.block _ (by omega) (hlow _ (by omega))).trans h.z.var⟩,⟨(hg.block _ hlt (hlow _ (by omega))).trans h.k.var⟩,ho,hl⟩
end
def TkS (rb zb yb yo:Nat)(mi of of2:Int)(yv:ah)(W:ae):Prop:=
 W.cell? ⟨rb,3,none⟩=some (I mi)/\W.cell? ⟨rb,4,none⟩=some (I of)/\W.cell? ⟨zb,7,none⟩=some yv/\W.cell? ⟨yb,yo,none⟩=some (I of2)
theorem aes {lo g n c:Nat}{w:ae}{ts:ag Tr}(h:Om lo w (some ⟨g,0,none⟩) n c ts)(hl:ts.length=n)(hn:n<=10000000):
  Calls Tryz.prog 111 #[.slice (some ⟨g,0,none⟩) n c,.func (.func 112) #[] #[]] w fun e w'=>
   e=.returned (.tuple #[])/\∃us:ag Tr,us.Perm ts/\us.Pairwise (fun a b=>a.at_<=b.at_)/\Om lo w' (some ⟨g,0,none⟩) n c us/\w.grownBy w' (some g):=by
 have hH:Go.Sort.HoldsK Tr.cells 2 w g 0 ts.toArray:=by
  intro j hj;have hj2:j<n*2:=by
   have:(Go.Sort.flatK Tr.cells 2 ts.toArray).size=n*2:=by simp[Go.Sort.flatK,hl]
   omega
  have h3:=abu ts.toArray j (by simpa[hl] using hj2);rw[lH _ j hj];rw[fC hj] at h3;rw[aT];exact⟨Vf h j _ h3.symm,ZZ h j⟩
 have hg:=Qx h;have eg:∀args w,(callFunc 112 args).run Tryz.prog w=.ok (.enter 112 args) w:=lK Tryz.func112 (by kernel_rfl) rfl;have hcon:=Go.Proofs.AnyQ.slices_SortFunc alK 2 Tryz.isAgg108 Tryz.sizeOf108 Tr.cells (fun _=>rfl) (fun x v hv=>by simp[Tr.cells] at hv;rcases hv with rfl|rfl<;>rfl) abr axu 112 #[] g 0 c ts.toArray w eg (fun _ _ _ _ x y=>aoJ x y _) hH hg.2 (by simp[hl];omega);rw[show ts.toArray.size=n by simpa using hl] at hcon;refine hcon.mono ?_;rintro e w' ⟨rfl,d',m,os,hp,hs,rfl⟩;obtain⟨hsz,_,hpm⟩:=hp;have hdn:d'.size=n:=by rw[hsz];simpa using hl
 have e1:d'.extract 0 n=d':=by rw[<-hdn];exact oM
 have e2:ts.toArray.extract 0 n=ts.toArray:=by
  have:ts.toArray.size=n:=by simpa using hl
  rw[<-this];exact oM
 rw[e1,e2] at hpm;refine⟨rfl,d'.toList,hpm,?_,alL h hdn,agh⟩;rw[jh];intro i j hi hj hij;have hi':i<d'.size:=by simpa using hi
 have hj':j<d'.size:=by simpa using hj
 have h4:=hs i j (aG _) hij (by omega);rw[aoc,lH d' i hi',lH d' j hj'] at h4;have h5:=oN h4;simp only[Array.getElem_toList];omega
theorem aer {lo n c:Nat}{A:aj Addr}{w:ae}{ts:ag Tr}(h:Om lo w A n c ts)(hl:ts.length=n)(hn:n<=10000000):
  Calls Tryz.prog 111 #[.slice A n c,.func (.func 112) #[] #[]] w fun e w'=>
   e=.returned (.tuple #[])/\∃us:ag Tr,us.Perm ts/\us.Pairwise (fun a b=>a.at_<=b.at_)/\Om lo w' A n c us/\w.grownBy w' (Value.slice A n c).ownBlock:=by
 by_cases h0:n=0
 ·subst h0;have ht:ts= []:=bu hl;subst ht;refine(Go.Proofs.AnyF.slices_SortFunc_none {alK with} A c _ w).mono ?_;rintro e w' ⟨rfl,rfl⟩;exact⟨rfl,[],List.Perm.refl _,List.Pairwise.nil,h,⟨rfl,rfl,rfl,ay _,fun _ _ _=>rfl⟩⟩
 ·obtain⟨g,rfl⟩:∃g,A=some ⟨g,0,none⟩:=by
   rcases h.2 with ⟨hv,hz⟩|⟨g,cap,cur,hv,_⟩
   ·exact absurd hz h0
   ·injection hv with h1 _ _;exact⟨g,h1⟩
  exact aes h hl hn
def Su (c:Cal)(bg y:Int)(r r':Yr)(out:ag Tr):ag Tr:=if (ydG c bg y r).2=true then out++ [⟨(ydG c bg y r).1*1440+r.minute - r'.off,r.off⟩] else out
def Sv (c:Cal)(r0 r1:Yr)(stop:Int):Nat->Int->Int->ag Tr->ag Tr
 |0,_,_,out=>out
 |n+1,bg,y,out=>if bg<stop then Sv c r0 r1 stop n (bg+VE c y) (y+1) (Su c bg y r1 r0 (Su c bg y r0 r1 out)) else out
theorem alu {c:Cal}{r0 r1:Yr}{stop bg y:Int}{f:Nat}{ts res:ag Tr}(h:Sv c r0 r1 stop f bg y ts=res)(hb:bg<stop)(hf:(stop - bg).toNat<=f)(hy:1<=VE c y):
  ∃f',(stop - (bg+VE c y)).toNat<=f'/\Sv c r0 r1 stop f' (bg+VE c y) (y+1) (Su c bg y r1 r0 (Su c bg y r0 r1 ts))=res:=by
 cases f with
 |zero=>omega
 |succ f=>exact⟨f,by omega,by rw[Sv,bD hb] at h;exact h⟩
theorem aiI {c:Cal}{r0 r1:Yr}{stop bg y:Int}{f:Nat}{ts res:ag Tr}(h:Sv c r0 r1 stop f bg y ts=res)(hb:¬bg<stop):ts=res:=by
 cases f with
 |zero=>exact h
 |succ f=>rw[Sv,bP hb] at h;exact h
def Nr (z:Zn):Int:=match z.J6 with| []=>1|_::_=>adQ (dyG z.cal)
def Vg (z:Zn):ag Tr:=match z.J6 with
 | [r0,r1]=>Sv z.cal r0 r1 (z.cal.KI+Nr z) (Nr z).toNat z.cal.KI 1 []
 |_=> []
def UW (z:Zn):ag Tr:=(Vg z).mergeSort (fun a b=>decide (a.at_<=b.at_))
theorem Vs (z:Zn):(UW z).Perm (Vg z):=List.mergeSort_perm _ _
theorem aax (z:Zn):(UW z).Pairwise (fun a b=>a.at_<=b.at_):=by
 have h:=List.pairwise_mergeSort (le:=fun (a b:Tr)=>decide (a.at_<=b.at_)) (fun a b c h1 h2=>by simp only[eP] at*;omega) (fun a b=>by simp only[Bool.or_eq_true,eP];omega) (Vg z);exact h.imp (fun h=>by simpa using h)
theorem abv {ts us:ag Tr}{size:Int}(hp:us.Perm ts)(hs:us.Pairwise (fun a b=>a.at_<=b.at_))(ht:ts.Pairwise (fun a b=>a.at_<=b.at_)):Me us size=Me ts size:=by
 cases h:Me ts size with
 |true=>rw[VA h hp hs,h]
 |false=>
  cases h2:Me us size with
  |false=>rfl
  |true=>
   rw[VA h2 hp.symm ht,h2] at h;cases h
theorem adR {ts:ag Tr}{size:Int}{k:Nat}(hk:k<ts.length)(h:Qj ts size k<2160):Me ts size=false:=by
 cases e:Me ts size with
 |false=>rfl
 |true=>
  have:=aci e k hk;omega
theorem Xv (z:Zn)(hc:MR z.cal):1<=Nr z/\Nr z<=1836800:=by
 have h1:=afF hc;unfold Nr adQ;split
 ·omega
 ·split<;>omega
theorem al8 (c:Cal)(bg y:Int)(r:Yr)(hc:MR c)(hr:U5 c.JQ.length r):bg - 10<=(ydG c bg y r).1/\(ydG c bg y r).1<=bg+800:=by
 have h1:=hr.mo;have h2:=UD c y hc (r.month - 1).toNat (by omega);have h3:=Wu c y (r.month - 1).toNat hc (by omega);have h4:=hc.ml;have h5:=hr.wk;unfold ydG aik;split
 ·simp only;omega
 ·simp only;omega
def Rz (ts:ag Tr):Prop:=∀x∈ts, -100000<=x.at_/\x.at_<=10000000000
theorem QT {ts:ag Tr}(k:Nat)(h:Rz ts): -100000<=Nz ts k/\Nz ts k<=10000000000:=by
 unfold Nz;cases e:ts[k]? with
 |none=>simp
 |some x=>exact h x (LQ e)
theorem Z8 (c:Cal)(bg y:Int)(r r':Yr)(ts:ag Tr)(hc:MR c)(hr:U5 c.JQ.length r)(hr':U5 c.JQ.length r')(hb:0<=bg)(hb2:bg<=4000000)(h:Rz ts):Rz (Su c bg y r r' ts):=by
 have h1:=al8 c bg y r hc hr;have h2:=hr.mi;have h3:=hr'.of;unfold Su;split
 ·intro x hx;rcases dm.1 hx with hx|hx
  ·exact h x hx
  ·rw[aY.1 hx];simp only;omega
 ·exact h
theorem Rz.perm {ts us:ag Tr}(h:Rz ts)(hp:us.Perm ts):Rz us:=fun x hx=>h x (hp.mem_iff.1 hx)
theorem abB (kb:Nat)(cy:Int)(w:ae)(h:w.cell? ⟨kb,9,none⟩=some (I cy))(h0:0<=cy)(h1:cy<=2000000):Calls Tryz.prog 114 #[.pointer (some ⟨kb,0,none⟩)] w fun e w'=>e=.returned (I (cy*1440))/\w'=w:=by
 go_enter Tryz.func114,Tryz.ntmps114;go_wp2_with fail;go_ret;exact⟨rfl,rfl⟩
theorem Wq (kb:Nat)(cy:Int)(w:ae)(h:w.cell? ⟨kb,9,none⟩=some (I cy))(h0:0<=cy)(h1:cy<=2000000)(k:Nat):Calls Tryz.prog 114 #[.pointer (some ⟨kb,0,none⟩)] (w.drewN k) fun e w'=>e=.returned (I (cy*1440))/\∃m,w'=w.drewN m:=
 (abB kb cy (w.drewN k) h h0 h1).mono fun _ _ ⟨h2,h3⟩=>⟨h2,k,h3⟩
def SV (z:Zn):Prop:=z.J6= []\/∃r0 r1,z.J6= [r0,r1]/\U5 z.cal.JQ.length r0/\U5 z.cal.JQ.length r1
def Qo (z:Zn)(i:Nat):Prop:=(-1080<=Pn z.trans i/\Pn z.trans i<=1080)/\(-2251799813685248<=Nz z.trans i/\Nz z.trans i<=2251799813685248)/\Nz z.trans i<z.hor/\(i=0\/2160<=Nz z.trans i - Nz z.trans (i - 1))
def Tm (z:Zn)(i:Nat):Bool:=decide (-1080<=Pn z.trans i/\Pn z.trans i<=1080)&&(decide (-2251799813685248<=Nz z.trans i/\Nz z.trans i<=2251799813685248)&&(decide (Nz z.trans i<z.hor)&&decide (i=0\/2160<=Nz z.trans i - Nz z.trans (i - 1))))
theorem Ns (z:Zn)(i:Nat):Tm z i=true↔Qo z i:=by
 unfold Tm Qo;simp only[eX,eP]
def WJ (n:Nat)(r:Yr):Bool:=decide (1<=r.month/\r.month<=(n:Int))&&(decide (1<=r.La/\r.La<=5)&&(decide (0<=r.Lh/\r.Lh<=6)&&(decide (0<=r.minute/\r.minute<1440)&&decide (-1080<=r.off/\r.off<=1080))))
theorem NV (n:Nat)(r:Yr):WJ n r=true↔U5 n r:=by
 unfold WJ;simp only[eX,eP];exact⟨fun ⟨h1,h2,h3,h4,h5⟩=>⟨h1,h2,h3,h4,h5⟩,fun ⟨h1,h2,h3,h4,h5⟩=>⟨h1,h2,h3,h4,h5⟩⟩
def amc (z:Zn):Bool:=match z.J6 with
 | []=>true
 | [r0,r1]=>WJ z.cal.JQ.length r0&&WJ z.cal.JQ.length r1
 |_=>false
theorem ajd (z:Zn):amc z=true↔SV z:=by
 unfold amc SV;split
 ·rename_i e;exact⟨fun _=>.inl e,fun _=>rfl⟩
 ·rename_i r0 r1 e;rw[eX,NV,NV];refine⟨fun ⟨h1,h2⟩=>.inr ⟨r0,r1,e,h1,h2⟩,fun h=>?_⟩;rcases h with h|⟨a,b,e2,h1,h2⟩
  ·rw[e] at h;cases h
  ·rw[e] at e2;injection e2 with e3 e4;injection e4 with e5 _;subst e3 e5;exact⟨h1,h2⟩
 ·rename_i h1 h2;refine⟨(fun h=>by cases h),fun h=>?_⟩;rcases h with h|⟨a,b,e2,_⟩
  ·exact absurd h h1
  ·exact absurd e2 (h2 a b)
def X3 (z:Zn):Prop:=0<z.trans.length->(UW z).length≠0->2160<=(MH (UW z) (Nr z*1440) z.hor).1.at_ - Nz z.trans (z.trans.length - 1)
structure YR (z:Zn):Prop where
 trl:z.trans.length<=512
 cal:MR z.cal
 st: -1080<=z.start/\z.start<=1080
 ho: -2251799813685248<=z.hor/\z.hor<=2251799813685248
 tr:∀i,i<z.trans.length->Qo z i
 yr:SV z
 LM:Me (UW z) (Nr z*1440)=true
 late:X3 z
def ZW (z:Zn):Bool:=decide (z.trans.length<=512)&&(vC z.cal&&(decide (-1080<=z.start/\z.start<=1080)&&(decide (-2251799813685248<=z.hor/\z.hor<=2251799813685248)&&((List.range z.trans.length).all (Tm z)&&(amc z&&(Me (UW z) (Nr z*1440)&&decide (0<z.trans.length->(UW z).length≠0->2160<=(MH (UW z) (Nr z*1440) z.hor).1.at_ - Nz z.trans (z.trans.length - 1))))))))
theorem acv (z:Zn):ZW z=true↔YR z:=by
 unfold ZW;simp only[eX,eP,iF,iU,aao,Ns,ajd];exact⟨fun ⟨h1,h2,h3,h4,h5,h6,h7,h8⟩=>⟨h1,h2,h3,h4,h5,h6,h7,h8⟩,fun ⟨h1,h2,h3,h4,h5,h6,h7,h8⟩=>⟨h1,h2,h3,h4,h5,h6,h7,h8⟩⟩
theorem acw {z:Zn}(h:YR z):ZW z=true:=(acv z).2 h
def VH (z:Zn):Int:=if 512<z.trans.length then 2 else if ZW z=true then 0 else 1
end Go.Proofs.YtbaehbbonkljpaaGreatDoor
