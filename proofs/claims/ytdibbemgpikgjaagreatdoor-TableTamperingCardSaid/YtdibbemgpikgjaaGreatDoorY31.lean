/- The texts Oi, Oj, Fa, Ko, in this order. -/
import Derived.Test.YtdibbemgpikgjaaGreatDoorY00
import Derived.Test.YtdibbemgpikgjaaGreatDoorY05
import Derived.Test.YtdibbemgpikgjaaGreatDoorY30
set_option maxRecDepth 10000
set_option maxHeartbeats 8000000
namespace Go.Proofs.YtdibbemgpikgjaaGreatDoor
open Go Go.RowKit
theorem aA.pre {w:World} {B:Nat} {A:Option Addr} {cs ds:List Value} (h:aA w B A (cs++ds)):aA w B A cs:=by
 rcases h with h|⟨b,off,h1,h2,h3⟩
 ·exact .inl (by rw [aZ] at h;omega)
 ·exact .inr ⟨b,off,h1,h2,fun j u hu=>h3 j u (by rw [List.getElem?_append_left (eG.1 hu).1];exact hu)⟩
theorem gq.take {w:World} {B:Nat} {A:Option Addr} {ts:List bI} (h:gq w B A ts) (k:Nat):gq w B A (ts.take k):=by
 refine ⟨aA.pre (ds:=(ts.drop k).flatMap bI.cells) ?_,fun x hx=>h.each x (List.mem_of_mem_take hx)⟩;rw [←List.flatMap_append,List.take_append_drop];exact h.row
def CkF (KR:List Int) (key:List UInt8) (ts:List bI) (r:Int):Prop:=
 (r=0∧∀k x,ts[k]? =some x→kK KR key (ts.take k) x.t=0)∨
 (¬r=0∧∃k x,ts[k]? =some x∧kK KR key (ts.take k) x.t=r∧∀j y,j<k→ts[j]? =some y→kK KR key (ts.take j) y.t=0)
def CkP (w:World) (KR:List Int) (key:List UInt8) (ts:List bI) (e:Ending) (w':World):Prop:=∃r,e= .returned (I r)∧CkF KR key ts r∧Below w.heap.size w w'
structure CkW (w:World) (key:List UInt8) (W:World):Prop where
 bx:AV w.heap.size 23 (cellsB key) W
 lo:Below w.heap.size w W
theorem CkW.grow {w W W':World} {key:List UInt8} (h:CkW w key W) (hb:Below W.heap.size W W'):CkW w key W':=⟨h.bx.below hb,ah h.lo hb⟩
def CkG (ts:List bI) (F:Nat→Int) (r:Int):Prop:=
 (r=0∧∀k x,ts[k]? =some x→F k=0)∨
 (¬r=0∧∃k x,ts[k]? =some x∧F k=r∧∀j y,j<k→ts[j]? =some y→F j=0)
theorem EH (w:World) (key:List UInt8) (hk:key.length=32)
  (C:Option Addr) (m cc:Nat) (ts:List bI) (hm:ts.length=m) (hm1:m≤64) (hcc:m≤cc) (hC:gq w w.heap.size C ts) (F:Nat→Int)
  (HAD:Hid (∀k x,ts[k]? =some x→(∀j y,j<k→ts[j]? =some y→F j=0)→∀W,Below w.heap.size w W→Calls Tryz.prog 28 #[.slice C k cc, .agg (aj key).toArray, .agg x.cells.toArray] W (Gives (I (F k)) W))):
  Calls Tryz.prog 8 #[.slice C m cc, .agg (cellsB key)] w (fun e w'=>∃r,e= .returned (I r)∧CkG ts F r∧Below w.heap.size w w'):=by
 have H0:Hid (CkW w key (w.alloc (.cells (cellsB key) 23))):=ae ⟨AV.new w _ _,ag w _⟩;have HI2:Hid ((Tryz.prog.info? 23).map (·.size)=some (aj key).length):=ae (by have:=lG key hk;rw [this];simp [cellsB]);have oJ:Hid ((aj key).length=32):=ae (by simp [aj,hk]);have HUD:Hid (Tryz.prog.underlying 23=some (.array 32 5)):=ae Tryz.underlying23;have kH:=ae hm;have HC:=ae hC;have Vy:=ae (oz hC);clear hk hm hC;go_enter Tryz.func8,Tryz.ntmps8;go_upto_region 1 with fail;generalize w.alloc (.cells (cellsB key) 23)=W0 at H0 ⊢;go_wp2_with fail
 go_loopw [10] (fun i wr=>∃k:Nat,k≤m∧i=I k∧(∀j y,j<k→ts[j]? =some y→F j=0)∧CkW w key wr) (fun i _=>m - (intOf i).toNat)
 case atStart=>exact ⟨0,Nat.zero_le _,rfl,fun _ _ h=>absurd h (Nat.not_lt_zero _),H0.out⟩
 case round=>
  obtain ⟨k,hk,rfl,hz,hp⟩:=hrel;have HP:=ae hp;have HZ:=ae hz;have hlt0:=hp.bx.lt;clear hp H0;by_cases hlt:k<m
  ·have hkl:k<ts.length:=by rw [kH.out];exact hlt
   obtain ⟨x,hx⟩:∃x,ts[k]? =some x:=⟨_,bZ hkl⟩;have hxm:=dS hx;obtain ⟨cb,co,rfl,hcb,hTA⟩:∃b off,C=some ⟨b,off,none⟩∧b<w.heap.size∧mf w b off ts:=by
    rcases Vy.out with h1|h1
    ·omega
    ·exact h1
   have hxa:=HC.out.each x hxm;have HX:=ae hx;have gQ:=ae (HAD.out k x hx hz);have UZ:Hid (wr.rangeAt cb (co+k*68) x.cells):=ae (aQ (hTA k x hx).1 HP.out.lo hcb);have xZ:Hid ((Tryz.prog.info? 37).map (·.size)=some x.cells.length):=ae (by rw [(hTA k x hx).2];kernel_rfl);have NU:=ae (hTA k x hx).2;have Dx:Hid ((Tryz.prog.info? 37).map (·.size)=some x.cells.toArray.size):=ae (bU x.t _ hxa.prev hxa.bn);have HXZ:Hid ((ai bQ (.slice none 0 0)).size=x.cells.toArray.size):=ae ((bF bQ _ rfl rfl).trans (bF x.t (.slice x.A x.zs.length x.c) hxa.prev hxa.bn).symm);have HXO:Hid (x.cells.toArray.all (·.oneCell')=true):=ae (bz _ _ _ _);have XV:=ae (heap_alloc_last wr (.cells (ai bQ (.slice none 0 0)) 37));have QT:Hid (AV wr.heap.size 37 x.cells.toArray ((wr.alloc (.cells (ai bQ (.slice none 0 0)) 37)).setRow wr.heap.size x.cells.toArray)):=ae ⟨setRow_heap _ _ _ _ _ _ XV.out⟩;have HQ:=ae (HP.out.grow (aB (ag wr (.cells (ai bQ (.slice none 0 0)) 37)) (Nat.le_refl _) x.cells.toArray));have i1:(0:Int)≤(k:Int):=by omega
   have i2:(k:Int)<(m:Int):=by omega
   have i3:(k:Int)≤(cc:Int):=by omega
   have i4:¬(cc:Int)<(k:Int):=by omega
   clear hx hxm hTA hxa hkl hz;go_wp2_with (first
    |((with_reducible refine fU 37 ?_);go_must (refine bP rfl _ _ rfl cb (co+k*68) rfl x.cells UZ.out _ Tryz.underlying37 rfl xZ.out ?_))
    |((with_reducible refine bC 37 ?_);go_must (refine aH rfl _ rfl (ai bQ (.slice none 0 0)) tabZ ?_))
    |((with_reducible refine eF 37 ?_);go_must (refine wpList_store_row rfl _ _ _ rfl wr.heap.size x.cells.toArray rfl rfl 37 (ai bQ (.slice none 0 0)) XV.out Dx.out HXZ.out HXO.out ?_)))
   generalize (wr.alloc (.cells (ai bQ (.slice none 0 0)) 37)).setRow wr.heap.size x.cells.toArray=wq at QT HQ ⊢;have HS:Hid (wq.drew.rangeAt w.heap.size 0 (aj key)∧wq.drew.rangeAt wr.heap.size 0 x.cells):=ae ⟨fun j v hv=>by rw [Nat.zero_add];exact (HQ.out.bx.cell j).trans (by simpa [cellsB] using hv),fun j v hv=>by rw [Nat.zero_add];exact (QT.out.cell j).trans (by simpa using hv)⟩;have hud:=HUD.out;have hi2:=HI2.out;have hi3:=xZ.out;have hl1:=oJ.out;have hl2:=NU.out;refine wp_region_held_drew (S:=fun w'=>w'.rangeAt w.heap.size 0 (aj key)∧w'.rangeAt wr.heap.size 0 x.cells) (by kernel_rfl) HS.out (fun hH=>?_);refine fC 0 ( .slice (some ⟨cb,co,none⟩) m cc) 15 rfl rfl hH (fun W hW=>by obtain ⟨_,_⟩:=hW;go_simp) ?_;refine ax ?_;refine fC 1 (I k) 16 rfl rfl hH (fun W hW=>by obtain ⟨_,_⟩:=hW;go_simp) ?_;refine ax ?_;refine fC 2 ( .slice (some ⟨cb,co,none⟩) k cc) 17 rfl rfl hH (fun W hW=>by obtain ⟨_,_⟩:=hW;go_simp) ?_;refine ax ?_;refine gI 3 _ 18 rfl rfl hH (yieldsIf_load_mid (by rfl) _ _ rfl w.heap.size 0 rfl (aj key) _ (fun _ hW=>hW.1) hud rfl hi2) ?_;refine ax ?_;refine gI 4 _ 19 rfl rfl hH (yieldsIf_load_mid (by rfl) _ _ rfl wr.heap.size 0 rfl x.cells _ (fun _ hW=>hW.2) Tryz.underlying37 rfl hi3) ?_;refine ax ?_;clear hH;refine aW 5 (fun K hK=>?_);go_simp;go_at_call 28;refine (gQ.out wq.drew HQ.out.lo.drew).mono ?_;obtain ⟨r,hr⟩:∃r,F k=r:=⟨_,rfl⟩;rw [hr];have HR:=ae hr;clear hr;rintro e w3 ⟨rfl,hb3⟩;have Ac:Hid (CkW w key w3):=ae (HQ.out.grow (Below.trans ((Below.refl _ wq).drew) hb3));have jU:Hid (w3.rangeAt w.heap.size 0 (aj key)∧w3.rangeAt wr.heap.size 0 x.cells):=ae ⟨aQ HS.out.1 hb3 HQ.out.bx.lt,aQ HS.out.2 hb3 QT.out.lt⟩;clear hb3;refine hK.out _ _ jU.out (fun hH=>?_);clear hK K;refine fC 6 (I r) 7 rfl rfl hH (fun W hW=>by obtain ⟨_,_⟩:=hW;go_simp) ?_;refine ax ?_;clear hH;refine wpAnyH_done (by kernel_rfl) ?_ _;clear jU HS QT HQ UZ XV hud hi2 hi3 hl1 hl2;by_cases h0:r=0
   ·subst h0;go_wp2_with fail;go_roundw
    case rel=>exact ⟨k+1,by omega,by go_num,fun j y hj hy=>by
     by_cases hjk:j<k
     ·exact HZ.out j y hjk hy
     ·obtain rfl:j=k:=by omega
      exact HR.out,Ac.out⟩
    case measure=>simp [intOf];omega
   ·go_wp2_with fail;go_ret;exact ⟨r,rfl, .inr ⟨h0,k,x,HX.out,HR.out,HZ.out⟩,Ac.out.lo⟩
  ·have hlt':¬(k:Int)<(m:Int):=by omega
   go_wp2_with fail;go_ret;exact ⟨0,rfl, .inl ⟨rfl,fun j y hy=>HZ.out j y (by have:=(eG.1 hy).1;have:=kH.out;omega) hy⟩,HP.out.lo⟩
theorem KZ (KR:List Int) (hK:KR.length=64) (w:World) (hG:fD w 0 (au KR)) (hw1:0<w.heap.size) (key:List UInt8) (hk:key.length=32)
  (C:Option Addr) (m cc:Nat) (ts:List bI) (hm:ts.length=m) (hm1:m≤64) (hcc:m≤cc) (hC:gq w w.heap.size C ts) (hT:∀x∈ts,jr x):
  Calls Tryz.prog 8 #[.slice C m cc, .agg (cellsB key)] w (CkP w KR key ts):=by
 refine (EH w key hk C m cc ts hm hm1 hcc hC (fun k=>match ts[k]? with|some x=>kK KR key (ts.take k) x.t|none=>0) (ae fun k x hx _ W hb=>?_)).mono ?_
 ·have hkl:=(eG.1 hx).1;have hxm:=dS hx;simp only [hx];exact Bv KR hK W (hG.via hb hw1) (dP hw1 hb.size) key hk x.t x.A x.zs.length x.c x.zs (hT x hxm).1 (hC.each x hxm).names rfl ((hC.each x hxm).aK.grow hb) (hT x hxm).2 C k cc (ts.take k) (by rw [List.length_take];omega) (by omega) ((hC.take k).grow hb) (fun y hy=>hT y (List.mem_of_mem_take hy)) _ rfl
 ·rintro e w' ⟨r,he,hc,hb⟩;refine ⟨r,he,?_,hb⟩;rcases hc with ⟨h1,h2⟩|⟨h1,k,x,hx,h2,h3⟩
  ·exact .inl ⟨h1,fun k x hx=>by have:=h2 k x hx;simpa only [hx] using this⟩
  ·exact .inr ⟨h1,k,x,hx,by simpa only [hx] using h2,fun j y hj hy=>by have:=h3 j y hj hy;simpa only [hy] using this⟩
def jT (KR:List Int) (key:List UInt8) (ts:List bI):Prop:=∀k x,ts[k]? =some x→kK KR key (ts.take k) x.t=0
theorem jT.nil {KR:List Int} {key:List UInt8}:jT KR key []:=fun _ _ h=>nomatch h
theorem jT.snoc {KR:List Int} {key:List UInt8} {ts:List bI} {u:bI} (h:jT KR key ts) (hu:kK KR key ts u.t=0):jT KR key (ts++ [u]):=by
 intro k x hx;by_cases hk:k<ts.length
 ·rw [List.getElem?_append_left hk] at hx;rw [List.take_append_of_le_length (by omega)];exact h k x hx
 ·have hk2:=(eG.1 hx).1;rw [aZ,List.length_singleton] at hk2;obtain rfl:k=ts.length:=by omega
  rw [List.getElem?_append_right (Nat.le_refl _),Nat.sub_self] at hx;injection hx with hx;subst hx;rw [List.take_append_of_le_length (Nat.le_refl _),List.take_length];exact hu
theorem Ip {KR:List Int} {key:List UInt8} {ts:List bI} {t:Tb} (h1:t.bn=sN KR key (mQ t)) (h2:t.version=(ts.length:Int)+1) (h3:∀x,ts[ts.length - 1]? =some x→fH KR (mQ x.t++x.t.bn)=t.prev∧x.t.aP=t.aP):kK KR key ts t=0:=by
 unfold kK;rw [←h1,if_neg (by simp),if_neg (by simp [h2])];cases hx:ts[ts.length - 1]? with
 |none=>rfl
 |some x=>simp [(h3 x hx).1,(h3 x hx).2]
def jb (t:Tb):List UInt8:=mQ t++t.bn
theorem uf (z:Int):le z 1= [byteOf z]:=rfl
theorem xm {t:Tb} (h:t.prev.length=32):((jb t).drop 3).take 32=t.prev:=by
 unfold jb mQ;rw [uf,uf,uf];simp only [List.cons_append,List.nil_append,List.append_assoc,List.drop_succ_cons,List.drop_zero];rw [List.take_append_of_le_length (by omega),List.take_of_length_le (by omega)]
theorem Bz {KR:List Int} {key:List UInt8} {ts:List bI} {x z:bI} {i:Nat} (h:jT KR key ts) (hx:ts[i+1]? =some x) (hz:ts[i]? =some z):fH KR (jb z.t)=x.t.prev:=by
 have h1:=h (i+1) x hx;have hl:(ts.take (i+1)).length=i+1:=by
  have:=(eG.1 hx).1;rw [List.length_take];omega
 unfold kK at h1;split at h1
 ·cases h1
 split at h1
 ·cases h1
 rw [hl,show i+1 - 1=i by omega,List.getElem?_take_of_lt (by omega),hz] at h1;simp only at h1;split at h1
 ·cases h1
 rename_i h2;have h3:(fH KR (mQ z.t++z.t.bn)==x.t.prev)=true:=by simpa using h2
 exact eq_of_beq h3
theorem tamper {KR:List Int} {key:List UInt8} {ts os:List bI} {n:Nat} (ha:jT KR key ts) (hb:jT KR key os) (ht:ts.length=n) (ho:os.length=n) (hp:∀x∈ts,x.t.prev.length=32) (hq:∀x∈os,x.t.prev.length=32)
  (hlast:∀x y:bI,ts[n - 1]? =some x→os[n - 1]? =some y→fH KR (jb x.t)=fH KR (jb y.t))
  (Wn:∀(i:Nat) (x y:bI),ts[i]? =some x→os[i]? =some y→fH KR (jb x.t)=fH KR (jb y.t)→jb x.t=jb y.t):
  ∀(i:Nat) (x y:bI),ts[i]? =some x→os[i]? =some y→jb x.t=jb y.t:=by
 have key:∀d i,i+d+1=n→∀x y:bI,ts[i]? =some x→os[i]? =some y→jb x.t=jb y.t:=by
  intro d
  induction d with
  |zero=>
   intro i hi x y hx hy;have e:i=n - 1:=by omega
   exact Wn i x y hx hy (hlast x y (e▸hx) (e▸hy))
  |succ d ih=>
   intro i hi x y hx hy;obtain ⟨x2,hx2⟩:∃z,ts[i+1]? =some z:=⟨_,bZ (by omega)⟩;obtain ⟨y2,hy2⟩:∃z,os[i+1]? =some z:=⟨_,bZ (by omega)⟩;have h2:=ih (i+1) (by omega) x2 y2 hx2 hy2;have h3:x2.t.prev=y2.t.prev:=by
    rw [←xm (hp x2 (dS hx2)),←xm (hq y2 (dS hy2)),h2]
   exact Wn i x y hx hy ((Bz ha hx2 hx).trans (h3.trans (Bz hb hy2 hy).symm))
 intro i x y hx hy;have hi:=(eG.1 hx).1;exact key (n - 1 - i) i (by omega) x y hx hy
section
variable {t:Tb}
theorem rC {a b:Int} (ha:0≤a∧a<256) (hb:0≤b∧b<256) (h:byteOf a=byteOf b):a=b:=by
 have h1:Extern.Stop.cell (byteOf a)=Extern.Stop.cell (byteOf b):=by rw [h]
 rw [dF,dF] at h1;have h2:a%256=b%256:=by simpa using h1
 omega
theorem PW {v:Int} (h0:0≤t.aP∧t.aP<256) (h1:0≤v∧v<256) (h:jb t=jb {t with aP:=v}):v=t.aP:=by
 unfold jb mQ at h;rw [uf,uf] at h;simp only [List.cons_append,List.nil_append,List.append_assoc] at h;injection h with h2 _;exact (rC h0 h1 h2).symm
theorem LY {v:Int} (h0:0≤t.version∧t.version<256) (h1:0≤v∧v<256) (h:jb t=jb {t with version:=v}):v=t.version:=by
 unfold jb mQ at h;simp only [uf,List.cons_append,List.nil_append,List.append_assoc] at h;injection h with _ h;injection h with h2 _;exact (rC h0 h1 h2).symm
theorem Gm {v:Int} (h0:0≤t.aC∧t.aC<256) (h1:0≤v∧v<256) (h:jb t=jb {t with aC:=v}):v=t.aC:=by
 unfold jb mQ at h;simp only [uf,List.cons_append,List.nil_append,List.append_assoc] at h;injection h with _ h;injection h with _ h;injection h with h2 _;exact (rC h0 h1 h2).symm
theorem WJ {p:List UInt8} (h0:t.prev.length=32) (h1:p.length=32) (h:jb t=jb {t with prev:=p}):p=t.prev:=by
 have h2:=xm (t:= {t with prev:=p}) h1;rw [←h,xm h0] at h2;exact h2.symm
theorem lk_mac {m:List UInt8} (h:jb t=jb {t with bn:=m}):m=t.bn:=by
 unfold jb at h;have h2:mQ {t with bn:=m}=mQ t:=by
  unfold mQ;rfl
 rw [h2] at h;exact (List.append_cancel_left h).symm
theorem TL {k:Nat} (h0:t.aK.length<256) (h:jb t=jb {t with aK:=t.aK.take k}):t.aK.take k=t.aK:=by
 unfold jb mQ at h;simp only [uf,List.cons_append,List.nil_append,List.append_assoc] at h;injection h with _ h;injection h with _ h;injection h with _ h;have h2:=List.append_cancel_left h;injection h2 with h3 _;have h4:=rC ⟨by omega,by omega⟩ ⟨by omega,by rw [List.length_take];omega⟩ h3;rw [List.length_take] at h4;exact List.take_of_length_le (by omega)
end
def U5 (r:Lr):List UInt8:=le r.every 2++(le r.rest 2++le (Oh r.yes) 1)
def tK (c:Cal):List UInt8:=le c.aX 4++(le c.az.length 1++(c.az.flatMap (le · 1)++(le (c.dM+1) 1++(le c.rules.length 1++c.rules.flatMap U5))))
structure C14 (c:Cal):Prop where
 ep:fits c.aX
 mo:c.az.length≤1000
 all:∀x∈c.az,fits x
 le: -1≤c.dM∧c.dM≤1000
 ru:c.rules.length≤1000
 rl:∀r∈c.rules,fits r.every∧fits r.rest
theorem qJ {α β:Type} (f:α→List β) (l:List α) (k:Nat) (x:α) (hx:l[k]? =some x):(l.take (k+1)).flatMap f=(l.take k).flatMap f++f x:=by
 rw [List.take_add_one,hx,List.flatMap_append];simp
theorem iw {α β:Type} (f:α→List β) (l:List α) (s k:Nat) (h:∀x,(f x).length=s):((l.take k).flatMap f).length≤l.length*s:=by
 have e:∀m:List α,(m.flatMap f).length=m.length*s:=by
  intro m
  induction m with
  |nil=>simp
  |cons x m ih=>rw [List.flatMap_cons,aZ,h,ih,List.length_cons,Nat.succ_mul,Nat.add_comm]
 rw [e,List.length_take];exact Nat.mul_le_mul_right s (by omega)
theorem Gn (r:Lr):(U5 r).length=5:=by simp [U5,aF]
structure CB (lo:Nat) (v0:Value) (w:World) (cs:Array Value) (bs:List UInt8) (A:Option Addr) (n c:Nat) (W:World):Prop where
 row:Row W w.heap.size cs
 own:nH lo W A n c bs
 len:bs.length=n
 keep:uD v0 w (.slice A n c) W
 far:some w.heap.size≠(Value.slice A n c).ownBlock
theorem CB.start {lo n c:Nat} {A:Option Addr} {w:World} {bs:List UInt8} (cs:Array Value) (t:TypeId) (hO:nH lo w A n c bs) (hl:bs.length=n):CB lo (.slice A n c) w cs bs A n c (w.alloc (.cells cs t)):=
 ⟨Row.new w cs t,nH.below hO (ag w _),hl,(uD.refl _ w).below (ag w _),fun e=>by have:=(World.ownsRow.lt hO _ e.symm).2;omega⟩
theorem CB.next {lo n c n' c':Nat} {v0:Value} {A A':Option Addr} {w W W':World} {cs:Array Value} {bs bs':List UInt8} (h:CB lo v0 w cs bs A n c W) (hO:nH lo W' A' n' c' bs') (hl:bs'.length=n') (hk:uD (.slice A n c) W (.slice A' n' c') W'):CB lo v0 w cs bs' A' n' c' W':=by
 have hlt:=h.row.1;refine ⟨⟨dP hlt hk.size,fun i=>(World.cell?_of_block (a:=⟨w.heap.size,i,none⟩) (hk.block _ hlt h.far)).trans (h.row.2 i)⟩,hO,hl,h.keep.trans hk,?_⟩;rcases hk.own with e|⟨b,e,hb⟩
 ·rw [e];exact h.far
 ·rw [e];intro h';injection h' with h';omega
theorem CB.low {lo n c n0 c0:Nat} {A A0:Option Addr} {w W:World} {cs:Array Value} {bs bs0:List UInt8} (h:CB lo (.slice A0 n0 c0) w cs bs A n c W) (hO:nH lo w A0 n0 c0 bs0) (hlo:lo≤w.heap.size):Below lo w W:=h.keep.uX (nH.base hO) hlo
def Hg (lo:Nat) (v0:Value) (w:World) (cs:Array Value) (pre:Nat→List UInt8) (m:Nat) (b i:Value) (wr:World):Prop:=
 ∃(k n c:Nat) (A:Option Addr),k≤m∧b= .slice A n c∧i= .int .i64 k∧CB lo v0 w cs (pre k) A n c wr
theorem KW (lo n c0:Nat) (A0:Option Addr) (bs:List UInt8) (c:Cal) (A R:Option Addr) (a r:Nat) (w:World) (hl:bs.length=n) (hn:n≤100000) (hc:C14 c) (hm:nX w lo A R c) (hlo:lo≤w.heap.size) (hO:nH lo w A0 n c0 bs):
  Calls Tryz.prog 89 #[.slice A0 n c0, .agg (aG c A a R r)] w (XQ lo (.slice A0 n c0) w (bs++tK c)):=by
 obtain ⟨ep,mo,lp,ru⟩:=c;obtain ⟨x0,x1,x2,x3,x4,x5⟩:=hc;obtain ⟨y0,y1⟩:=hm;simp only at x0 x1 x2 x3 x4 x5 y0 y1;unfold aG;simp only;obtain ⟨nm,hnm⟩:∃n,mo.length=n:=⟨_,rfl⟩;obtain ⟨nr,hnr⟩:∃n,ru.length=n:=⟨_,rfl⟩;have FM:=ae (fun k=>iw (le · 1) mo 1 k (fun _=>aF _ _));have FR:=ae (fun k=>iw U5 ru 5 k Gn);have wS:=ae x2;have xY:=ae x5;have HY0:=ae y0;have Rq:=ae y1;have Ba:=ae hO;have Yc:=ae hnm;have HNR:=ae hnr;rw [hnm] at x1 FM ⊢;rw [hnr] at x4 FR ⊢;have HB:=ae (CB.start #[I ep, .slice A nm a,I lp, .slice R nr r] 63 hO hl);have wl:IntKind.i64.wrap (lp+1)=lp+1:=by rw [IntKind.wrap_i64];omega
 clear x2 x5 y0 y1 hO hnm hnr;go_enter Tryz.func89,Tryz.ntmps89;go_wp2_with fail;refine (dQ lo _ _ 4 _ _ ep _ HB.out.len (by have h:=HB.out.len;(try simp only [aZ,aF] at h);omega) (by omega) x0 (Nat.le_trans hlo HB.out.keep.size) HB.out.own).mono ?_;rintro e w1 ⟨A1,n1,c1,l1,rfl,o1,k1⟩;have H1:=ae (HB.out.next o1 l1 k1);clear l1 o1 k1;have q0:(w1).cell? ⟨w.heap.size,0,none⟩=some (I ep):=H1.out.row.2 0;have q1:(w1).cell? ⟨w.heap.size,1,none⟩=some (.slice A nm a):=H1.out.row.2 1;have q2:(w1).cell? ⟨w.heap.size,2,none⟩=some (I lp):=H1.out.row.2 2;have q3:(w1).cell? ⟨w.heap.size,3,none⟩=some (.slice R nr r):=H1.out.row.2 3;go_wp2_with fail;refine (dQ lo _ _ 1 _ _ nm _ H1.out.len (by have h:=H1.out.len;(try simp only [aZ,aF] at h);omega) (by omega) ⟨by omega,by omega⟩ (Nat.le_trans hlo H1.out.keep.size) H1.out.own).mono ?_;rintro e w2 ⟨A2,n2,c2,l1,rfl,o1,k1⟩;have H2:=ae (H1.out.next o1 l1 k1);clear l1 o1 k1;clear q0 q1 q2 q3;have q0:(w2).cell? ⟨w.heap.size,0,none⟩=some (I ep):=H2.out.row.2 0;have q1:(w2).cell? ⟨w.heap.size,1,none⟩=some (.slice A nm a):=H2.out.row.2 1;have q2:(w2).cell? ⟨w.heap.size,2,none⟩=some (I lp):=H2.out.row.2 2;have q3:(w2).cell? ⟨w.heap.size,3,none⟩=some (.slice R nr r):=H2.out.row.2 3;go_wp2_with fail
 go_loopw [0,5] (fun b i wr=>Hg lo (.slice A0 n c0) w #[I ep, .slice A nm a,I lp, .slice R nr r] (fun k=>bs++le ep 4++le nm 1++(mo.take k).flatMap (le · 1)) nm b i wr) (fun _ i _=>nm - (intOf i).toNat)
 case atStart=>exact ⟨0,n2,c2,A2,Nat.zero_le _,rfl,by go_num,by simpa using H2.out⟩
 case round=>
  obtain ⟨k,n3,c3,A3,hk,rfl,rfl,hb3⟩:=hrel;have HB3:=ae hb3;clear hb3 q0 q1 q2 q3;have q0:(wr).cell? ⟨w.heap.size,0,none⟩=some (I ep):=HB3.out.row.2 0;have q1:(wr).cell? ⟨w.heap.size,1,none⟩=some (.slice A nm a):=HB3.out.row.2 1;have q2:(wr).cell? ⟨w.heap.size,2,none⟩=some (I lp):=HB3.out.row.2 2;have q3:(wr).cell? ⟨w.heap.size,3,none⟩=some (.slice R nr r):=HB3.out.row.2 3;by_cases hlt:(k:Int)<(nm:Int)
  ·obtain ⟨b,off,rfl,nN,hcl⟩:=(HY0.out.keep (HB3.out.low Ba.out hlo)).there (by rw [List.length_map,Yc.out];omega);have hx:mo[k]? =some (mo[k]'(by rw [Yc.out];omega)):=bZ _;obtain ⟨x,hxx⟩:∃x,mo[k]'(by rw [Yc.out];omega)=x:=⟨_,rfl⟩;rw [hxx] at hx;have v0:wr.cell? ⟨b,off+k,none⟩=some (I x):=hcl k _ (by rw [List.getElem?_map,hx];rfl);have HX:=ae hx;have hfx:=wS.out x (dS hx);clear hcl hx hxx;go_wp2_with fail;refine (dQ lo _ _ 1 _ _ x _ HB3.out.len (by have h:=HB3.out.len;have g:=FM.out k;(try simp only [aZ,aF] at h);omega) (by omega) hfx (Nat.le_trans hlo HB3.out.keep.size) HB3.out.own).mono ?_;rintro e w4 ⟨A4,n4,c4,l1,rfl,o1,k1⟩;have H4:=ae (HB3.out.next o1 l1 k1);clear l1 o1 k1;go_wp2_with fail;go_roundw
   case rel=>exact ⟨k+1,n4,c4,A4,by omega,rfl,by go_num,by show CB _ _ _ _ (_++(mo.take (k+1)).flatMap (le · 1)) _ _ _ _;rw [qJ _ _ _ _ HX.out,←List.append_assoc];exact H4.out⟩
   case measure=>simp [intOf];omega
  ·have hk2:k=nm:=by omega
   subst hk2;clear hlt;go_wp2_with fail;refine (dQ lo _ _ 1 _ _ (lp+1) _ HB3.out.len (by have h:=HB3.out.len;have g:=FM.out k;(try simp only [aZ,aF] at h);omega) (by omega) ⟨by omega,by omega⟩ (Nat.le_trans hlo HB3.out.keep.size) HB3.out.own).mono ?_;rintro e w5 ⟨A5,n5,c5,l1,rfl,o1,k1⟩;have H5:=ae (HB3.out.next o1 l1 k1);clear l1 o1 k1;clear q0 q1 q2 q3;have q0:(w5).cell? ⟨w.heap.size,0,none⟩=some (I ep):=H5.out.row.2 0;have q1:(w5).cell? ⟨w.heap.size,1,none⟩=some (.slice A k a):=H5.out.row.2 1;have q2:(w5).cell? ⟨w.heap.size,2,none⟩=some (I lp):=H5.out.row.2 2;have q3:(w5).cell? ⟨w.heap.size,3,none⟩=some (.slice R nr r):=H5.out.row.2 3;go_wp2_with fail;refine (dQ lo _ _ 1 _ _ nr _ H5.out.len (by have h:=H5.out.len;have g:=FM.out k;(try simp only [aZ,aF] at h);omega) (by omega) ⟨by omega,by omega⟩ (Nat.le_trans hlo H5.out.keep.size) H5.out.own).mono ?_;rintro e w6 ⟨A6,n6,c6,l1,rfl,o1,k1⟩;have H6:=ae (H5.out.next o1 l1 k1);clear l1 o1 k1;clear q0 q1 q2 q3;have q0:(w6).cell? ⟨w.heap.size,0,none⟩=some (I ep):=H6.out.row.2 0;have q1:(w6).cell? ⟨w.heap.size,1,none⟩=some (.slice A k a):=H6.out.row.2 1;have q2:(w6).cell? ⟨w.heap.size,2,none⟩=some (I lp):=H6.out.row.2 2;have q3:(w6).cell? ⟨w.heap.size,3,none⟩=some (.slice R nr r):=H6.out.row.2 3;go_wp2_with fail
   go_loopw [0,6] (fun b i wr=>Hg lo (.slice A0 n c0) w #[I ep, .slice A k a,I lp, .slice R nr r] (fun j=>(bs++le ep 4++le k 1++(mo.take k).flatMap (le · 1))++le (lp+1) 1++le nr 1++(ru.take j).flatMap U5) nr b i wr) (fun _ i _=>nr - (intOf i).toNat)
   case atStart=>exact ⟨0,n6,c6,A6,Nat.zero_le _,rfl,by go_num,by simpa using H6.out⟩
   case round=>
    obtain ⟨j,n7,c7,A7,hj,rfl,rfl,hb7⟩:=hrel;have qC:=ae hb7;clear hb7 q0 q1 q2 q3;have q0:(wr).cell? ⟨w.heap.size,0,none⟩=some (I ep):=qC.out.row.2 0;have q1:(wr).cell? ⟨w.heap.size,1,none⟩=some (.slice A k a):=qC.out.row.2 1;have q2:(wr).cell? ⟨w.heap.size,2,none⟩=some (I lp):=qC.out.row.2 2;have q3:(wr).cell? ⟨w.heap.size,3,none⟩=some (.slice R nr r):=qC.out.row.2 3;by_cases hlt:(j:Int)<(nr:Int)
    ·obtain ⟨b,off,rfl,nN,hcl⟩:=Rq.out.there (by rw [dD (s:=3) Lr.cells ru (fun _ _=>rfl),HNR.out];omega);have hx:ru[j]? =some (ru[j]'(by rw [HNR.out];omega)):=bZ _;obtain ⟨x,hxx⟩:∃x,ru[j]'(by rw [HNR.out];omega)=x:=⟨_,rfl⟩;rw [hxx] at hx;have Ep:Hid (∀i u,x.cells[i]? =some u→w.cell? ⟨b,off+j*3+i,none⟩=some u):=ae (fun i u hu=>by rw [Nat.add_assoc];exact hcl _ _ (by rw [flat_get (s:=3) Lr.cells ru (fun _ _=>rfl) j i x hx (by have:=(eG.1 hu).1;simpa [Lr.cells] using this)];exact hu));have HX:=ae hx;have hfx:=xY.out x (dS hx);clear hcl hx hxx;have z0:(wr).cell? ⟨b,off+j*3,none⟩=some (I x.every):=((qC.out.low Ba.out hlo).cell (p:=⟨b,off+j*3,none⟩) nN).trans (Ep.out 0 _ rfl);have z1:(wr).cell? ⟨b,off+j*3+1,none⟩=some (I x.rest):=((qC.out.low Ba.out hlo).cell (p:=⟨b,off+j*3+1,none⟩) nN).trans (Ep.out 1 _ rfl);have z2:(wr).cell? ⟨b,off+j*3+2,none⟩=some (.bool x.yes):=((qC.out.low Ba.out hlo).cell (p:=⟨b,off+j*3+2,none⟩) nN).trans (Ep.out 2 _ rfl);go_wp2_with fail;refine (dQ lo _ _ 2 _ _ x.every _ qC.out.len (by have h:=qC.out.len;have g:=FM.out k;have g2:=FR.out j;(try simp only [aZ,aF] at h);omega) (by omega) hfx.1 (Nat.le_trans hlo qC.out.keep.size) qC.out.own).mono ?_;rintro e w8 ⟨A8,n8,c8,l1,rfl,o1,k1⟩;have H8:=ae (qC.out.next o1 l1 k1);clear l1 o1 k1;clear q0 q1 q2 q3 z0 z1 z2;have q0:(w8).cell? ⟨w.heap.size,0,none⟩=some (I ep):=H8.out.row.2 0;have q1:(w8).cell? ⟨w.heap.size,1,none⟩=some (.slice A k a):=H8.out.row.2 1;have q2:(w8).cell? ⟨w.heap.size,2,none⟩=some (I lp):=H8.out.row.2 2;have q3:(w8).cell? ⟨w.heap.size,3,none⟩=some (.slice (some ⟨b,off,none⟩) nr r):=H8.out.row.2 3;have z0:(w8).cell? ⟨b,off+j*3,none⟩=some (I x.every):=((H8.out.low Ba.out hlo).cell (p:=⟨b,off+j*3,none⟩) nN).trans (Ep.out 0 _ rfl);have z1:(w8).cell? ⟨b,off+j*3+1,none⟩=some (I x.rest):=((H8.out.low Ba.out hlo).cell (p:=⟨b,off+j*3+1,none⟩) nN).trans (Ep.out 1 _ rfl);have z2:(w8).cell? ⟨b,off+j*3+2,none⟩=some (.bool x.yes):=((H8.out.low Ba.out hlo).cell (p:=⟨b,off+j*3+2,none⟩) nN).trans (Ep.out 2 _ rfl);go_wp2_with fail;refine (dQ lo _ _ 2 _ _ x.rest _ H8.out.len (by have h:=H8.out.len;have g:=FM.out k;have g2:=FR.out j;(try simp only [aZ,aF] at h);omega) (by omega) hfx.2 (Nat.le_trans hlo H8.out.keep.size) H8.out.own).mono ?_;rintro e w9 ⟨A9,n9,c9,l1,rfl,o1,k1⟩;have H9:=ae (H8.out.next o1 l1 k1);clear l1 o1 k1;clear q0 q1 q2 q3 z0 z1 z2;have q0:(w9).cell? ⟨w.heap.size,0,none⟩=some (I ep):=H9.out.row.2 0;have q1:(w9).cell? ⟨w.heap.size,1,none⟩=some (.slice A k a):=H9.out.row.2 1;have q2:(w9).cell? ⟨w.heap.size,2,none⟩=some (I lp):=H9.out.row.2 2;have q3:(w9).cell? ⟨w.heap.size,3,none⟩=some (.slice (some ⟨b,off,none⟩) nr r):=H9.out.row.2 3;have z0:(w9).cell? ⟨b,off+j*3,none⟩=some (I x.every):=((H9.out.low Ba.out hlo).cell (p:=⟨b,off+j*3,none⟩) nN).trans (Ep.out 0 _ rfl);have z1:(w9).cell? ⟨b,off+j*3+1,none⟩=some (I x.rest):=((H9.out.low Ba.out hlo).cell (p:=⟨b,off+j*3+1,none⟩) nN).trans (Ep.out 1 _ rfl);have z2:(w9).cell? ⟨b,off+j*3+2,none⟩=some (.bool x.yes):=((H9.out.low Ba.out hlo).cell (p:=⟨b,off+j*3+2,none⟩) nN).trans (Ep.out 2 _ rfl);go_wp2_with fail;refine (flag_r x.yes _).mono ?_;rintro e wf ⟨rfl,rfl⟩;go_wp2_with fail;refine (dQ lo _ _ 1 _ _ (Oh x.yes) _ H9.out.len (by have h:=H9.out.len;have g:=FM.out k;have g2:=FR.out j;(try simp only [aZ,aF] at h);omega) (by omega) (by unfold Oh;split<;>exact ⟨by omega,by omega⟩) (Nat.le_trans hlo H9.out.keep.size) H9.out.own).mono ?_;rintro e w10 ⟨A10,n10,c10,l1,rfl,o1,k1⟩;have YU:=ae (H9.out.next o1 l1 k1);clear l1 o1 k1;go_wp2_with fail;go_roundw
     case rel=>exact ⟨j+1,n10,c10,A10,by omega,rfl,by go_num,by show CB _ _ _ _ (_++(ru.take (j+1)).flatMap U5) _ _ _ _;rw [qJ _ _ _ _ HX.out,←List.append_assoc];simpa [U5,List.append_assoc] using YU.out⟩
     case measure=>simp [intOf];omega
    ·have hj2:j=nr:=by omega
     have HJ:=ae hj2;clear hj2;go_wp2_with fail;go_ret;have hb:=qC.out;rw [HJ.out,List.take_of_length_le (Nat.le_of_eq HNR.out),List.take_of_length_le (Nat.le_of_eq Yc.out)] at hb;refine ⟨A7,n7,c7,?_,rfl,?_,hb.keep⟩
     ·rw [←hb.len];simp [tK,Yc.out,HNR.out,List.append_assoc]
     ·have:=hb.own;simpa [tK,Yc.out,HNR.out,List.append_assoc] using this
end Go.Proofs.YtdibbemgpikgjaaGreatDoor
