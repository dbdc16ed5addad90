/- The texts Um, Lk, Ll, Lm, in this order. -/
import Derived.Test.YtdibbemgpikgjaaGreatW00
import Derived.Lib.AppendZerosOnto
import Derived.Test.YtdibbemgpikgjaaGreatW32
import Derived.Test.YtdibbemgpikgjaaGreatW41
set_option maxRecDepth 10000
set_option maxHeartbeats 8000000
namespace Go.Proofs.YtdibbemgpikgjaaGreat
open Go Go.RowKit
theorem iR.good {c:Cal} (hc:iR c):kZ c:=by
 have h1:=hc.ep;have h2:=hc.mo;have h3:=hc.le;have h4:=hc.ru;refine ⟨by omega,by omega,by omega,by omega,hc.nl,fun m hm=>by have:=hc.all m hm;omega,?_⟩;have h5:=hc.rl;cases hr:c.rules with
 |nil=>rfl
 |cons r rs=>
  rw [hr] at h4 h5;have hn:rs= []:=by
   cases rs with
   |nil=>rfl
   |cons _ _=>simp at h4
  subst hn;obtain ⟨e1,e2,e3⟩:=h5 r List.mem_cons_self;unfold ng;rw [if_neg (by omega),e1];rfl
theorem yN.good {r:Yr} (h:yN r):En 2 r:=by
 have h1:=h.mo;have h2:=h.wk;have h3:=h.wd;have h4:=h.mi;have h5:=h.of;exact ⟨by omega,by omega,by omega,by omega,by omega⟩
theorem Zo {c:Cal} (hc:iR c) (y:Int):Qk c.rules y=o9 c y:=by
 have h4:=hc.ru;have h5:=hc.rl;unfold Qk o9;cases hr:c.rules with
 |nil=>rfl
 |cons r rs=>
  rw [hr] at h4 h5;have hn:rs= []:=by
   cases rs with
   |nil=>rfl
   |cons _ _=>simp at h4
  subst hn;obtain ⟨e1,_,_⟩:=h5 r List.mem_cons_self;simp only [List.reverse_cons,List.reverse_nil,List.nil_append,List.find?_cons,List.find?_nil,e1];cases h:(y%2==r.rest)<;>simp
theorem Xn {c:Cal} (hc:iR c) {y:Int} (h:o9 c y=true):c.aY=0∨c.aY=1:=by
 have h1:=hc.le;have h2:=hc.nl;have h3:c.aY≠ -1:=by
  intro e;have h4:=List.eq_nil_of_length_eq_zero (h2 e);unfold o9 at h;rw [h4] at h;cases h
 omega
theorem Uw {c:Cal} (hc:iR c) (y:Int) (m:Nat):zF c y m=ik c y ((m:Int)+1):=by
 unfold zF ik;rw [Zo hc,show ((m:Int)+1 - 1).toNat=m by omega];congr 1;by_cases h1:(m:Int)=c.aY
 ·have e1:((m:Int)==c.aY)=true:=by simp [h1]
  rw [e1];cases h2:o9 c y with
  |true=>rw [if_pos ⟨by omega,rfl⟩];rfl
  |false=>rw [if_neg (by rintro ⟨_,h⟩;cases h)];rfl
 ·have e1:((m:Int)==c.aY)=false:=by simp [h1]
  rw [e1,if_neg (by rintro ⟨h,_⟩;omega)];rfl
theorem Pq {c:Cal} (hc:iR c) (y:Int):Bh c y=je c y:=by
 unfold Bh;rw [hc.mo];show 0+zF c y 0+zF c y 1=_;unfold zF je nz;rw [Zo hc];cases h:o9 c y with
 |false=>simp
 |true=>
  rcases Xn hc h with e|e<;>rw [e]<;>simp<;>omega
theorem dyG_S {c:Cal} (hc:iR c):KR c=CJ c:=by
 have h4:=hc.ru;have h5:=hc.rl;unfold KR Oy CJ;cases hr:c.rules with
 |nil=>
  show 0+Bh c ((0:Nat)+1:Int)=_;rw [Pq hc];simp
 |cons r rs=>
  rw [hr] at h4 h5;have hn:rs= []:=by
   cases rs with
   |nil=>rfl
   |cons _ _=>simp at h4
  subst hn;obtain ⟨e1,e2,e3⟩:=h5 r List.mem_cons_self;have hp:ng [r] 1=some 2:=by
   unfold ng;rw [if_neg (by omega),e1];rfl
  rw [hp];show 0+Bh c ((0:Nat)+1:Int)+Bh c ((1:Nat)+1:Int)=_;rw [Pq hc,Pq hc];simp
theorem NT {z:Zn} (hc:iR z.cal):lH z=kW z:=by
 unfold lH kW;cases z.az with
 |nil=>rfl
 |cons _ _=>show Ai _=Ai _;rw [dyG_S hc]
theorem ydG_S {c:Cal} (hc:iR c) (bg y:Int) {r:Yr} (hr:yN r):QP c bg y r=ydF c bg y r:=by
 unfold QP ydF oW;rcases hr.mo with e|e
 ·rw [e,if_neg (by omega)];rw [show ((1:Int) - 1).toNat=0 by rfl,Uw hc];simp [oh]
 ·rw [e,if_pos rfl];rw [show ((2:Int) - 1).toNat=1 by rfl,Uw hc];show Aj _ _ (bg+(0+zF c y 0)) _=_;rw [Uw hc];simp
theorem OY {c:Cal} (hc:iR c) (bg y:Int) {r:Yr} (hr:yN r) (r':Yr) (out:List Tr):pg c bg y r r' out=FU c bg y r r' out:=by
 unfold pg FU;rw [ydG_S hc bg y hr]
theorem O4 {c:Cal} (hc:iR c) {r0 r1:Yr} (h0:yN r0) (h1:yN r1) (stop:Int):∀(f g:Nat) (bg y:Int) (ts:List Tr),(stop - bg).toNat≤f→(stop - bg).toNat≤g→ou c r0 r1 stop f bg y ts=Dp c r0 r1 stop g bg y ts
 |0,0,_,_,_,_,_=>rfl
 |0,g+1,bg,y,ts,hf,_=>by
  show ts=_;rw [Dp,if_neg (by omega)]
 |f+1,0,bg,y,ts,_,hg=>by
  show _=ts;rw [ou,if_neg (by omega)]
 |f+1,g+1,bg,y,ts,hf,hg=>by
  rw [ou,Dp];by_cases hb:bg<stop
  ·have h12:=qo c y hc;rw [if_pos hb,if_pos hb,Pq hc,OY hc bg y h1,OY hc bg y h0];exact O4 hc h0 h1 stop f g _ _ _ (by omega) (by omega)
  ·rw [if_neg hb,if_neg hb]
theorem ysG_S {z:Zn} (h:tZ z) (hg:dZ (ry z) (kW z*1440)=true):Bj z=ry z:=by
 have hc:=h.cal;rcases h.yr with e|⟨r0,r1,e,h0,h1⟩
 ·have h2:ry z= []:=by unfold ry;rw [e]
  have h3:tu z= []:=by unfold tu;rw [e]
  have h4:=rf z;rw [h3] at h4;rw [h2,h4.eq_nil]
 ·have h2:=UH hc e h0 h1;have h3:tu z=XR z r0 r1:=by
   unfold tu XR;rw [e];simp only;rw [NT hc];have h5:=yh z hc;exact O4 hc h0 h1 _ _ _ _ _ _ (by omega) (by omega)
  have h4:=rf z;rw [h3] at h4;exact uU hg (h4.trans h2.symm) (DZ z)
theorem Qm {z:Zn} (h:tZ z) (hv:yV z=0):Ja z:=by
 have hc:=h.cal;have hg:dZ (ry z) (kW z*1440)=true:=by
  unfold yV at hv;split at hv
  ·omega
  ·rename_i h1;simpa using h1
 have hl:qO z=false:=by
  unfold yV at hv;split at hv
  ·omega
  ·split at hv
   ·omega
   ·rename_i h1;simpa using h1
 have hy:=ysG_S h hg;refine ⟨by have:=h.Nw;omega,hc.good,h.start,by have:=h.hor;omega,fun i hi=>?_,?_,?_,?_⟩
 ·obtain ⟨h1,h2,h3⟩:=h.BV i hi;have h4:=h.hor;refine ⟨h1,by omega,h3,?_⟩;cases i with
  |zero=>exact .inl rfl
  |succ j=>
   have h5:=h.gap j hi;exact .inr (by rw [Nat.add_sub_cancel];omega)
 ·rcases h.yr with e|⟨r0,r1,e,h0,h1⟩
  ·exact .inl e
  ·exact .inr ⟨r0,r1,e,by rw [hc.mo];exact h0.good,by rw [hc.mo];exact h1.good⟩
 ·rw [hy,NT hc];exact hg
 ·intro h1 h2;rw [hy] at h2 ⊢;rw [NT hc];exact Xk hl h2 h1
theorem Xw {z:Zn} (h:tZ z) (hv:yV z=0):QT z=0:=by
 unfold QT;rw [if_neg (by have:=h.Nw;omega),if_pos (OQ (Qm h hv))]
theorem Fq:∀(es:List Ze) (last:ByteArray),(∀e∈es,tZ e.z∧yV e.z=0∧e.name.size≤32)→(∀k e,es[k]? =some e→zG e.name (if k=0 then last else (es[k - 1]?.map (·.name)).getD ⟨#[]⟩)=false)→lJ last es=0
 | [],_,_,_=>rfl
 |x::es,last,h,hn=>by
  obtain ⟨h1,h2,h3⟩:=h x List.mem_cons_self;have h4:zG x.name last=false:=hn 0 x rfl;rw [wo,if_neg (by rw [h4];rintro (h|h);omega;cases h),if_pos (Xw h1 h2)];refine Fq es x.name (fun e he=>h e (List.mem_cons_of_mem _ he)) fun k e hk=>?_;have h5:=hn (k+1) e hk;rw [if_neg (by omega),Nat.add_sub_cancel] at h5;cases k with
  |zero=>exact h5
  |succ j=>exact h5
theorem GZ {t:Tb} (h:TbG t) {zs:List dA} (hz:t.aK=zs.map (·.e)) (hu:rF zs):Bg t=0:=by
 have h1:tv1 t=false:=by
  have:=h.bC;have:=h.version;exact decide_eq_false (by omega)
 have h2:tv2 t=false:=by
  have:=h.aH;refine decide_eq_false fun hh=>?_;rcases hh with hh|hh|⟨hh,hp⟩
  ·omega
  ·omega
  ·rw [h.first hh] at hp;have:(aS==aS)=true:=by rfl
   rw [this] at hp;cases hp
 unfold Bg;rw [h1,h2,if_neg (by decide),if_neg (by decide),if_neg (by have:=h.num;omega)];refine Fq _ _ (fun e he=>⟨(h.good e he).1,(h.good e he).2,h.short e he⟩) fun k e hk=>?_;rw [hz,List.getElem?_map] at hk;cases hx:zs[k]? with
 |none=>rw [hx] at hk;cases hk
 |some y=>
  rw [hx] at hk;injection hk with hk;obtain ⟨u1,u2⟩:=hu k y hx;have e1:(if k=0 then (⟨#[]⟩:ByteArray) else (t.aK[k - 1]?.map (·.name)).getD ⟨#[]⟩)=iF zs k:=by
   cases k with
   |zero=>rfl
   |succ j=>
    rw [if_neg (by omega),Nat.add_sub_cancel,hz,List.getElem?_map];show _=(zs[j]?.map (·.e.name)).getD ⟨#[]⟩;cases zs[j]? <;>rfl
  rw [e1];unfold zG;rw [←hk,u1,u2];rfl
theorem Xv (t:Tb):Bg {t with bJ:=aS}=Bg t:=rfl
theorem JF {t:Tb} (h:TbG t) {zs:List dA} (hz:t.aK=zs.map (·.e)) (hu:rF zs):uf (pU t)=some {t with bJ:=aS}:=by
 have h1:=G9 t h [];rw [List.append_nil] at h1;exact Jb h1 (by rw [Xv];exact GZ h hz hu) rfl
def z0:Zn:=⟨⟨0,[3], -1,[]⟩,60,[],0,[]⟩
def zs0 (mb:Nat):Zs:=⟨some ⟨mb,0,none⟩,1,none,0,none,0,none,0⟩
def AU:Ze:=⟨⟨#[97]⟩,z0⟩
def vt (n wd:Int) (b:Bool):Tb:=⟨2,n,wd,aS,aS,if b then [AU] else []⟩
def SimP (w:World) (e:Ending) (w':World):Prop:=∃mb,w.heap.size≤mb∧e= .returned (.agg (ax z0 (zs0 mb)))∧w'.heap[mb]? =some (.cells #[I 3] 3 (0,0))∧Below w.heap.size w w'
def VerP (w:World) (n wd:Int) (b:Bool) (e:Ending) (w':World):Prop:=
 ∃A c ys,e= .returned (.agg (ai (vt n wd b) (.slice A ys.length c)))∧gX w.heap.size w' (.slice A ys.length c) ys∧ys.map (·.e)=(vt n wd b).aK∧Below w.heap.size w w'
theorem li_z0 {lo mb:Nat} {w:World} (h:w.heap[mb]? =some (.cells #[I 3] 3 (0,0))) (hl:lo≤mb):LI lo w (some ⟨mb,0,none⟩) [3]:=
 .inr ⟨mb,0,rfl,hl,(bY.1 h).1,fun j hj=>by
  have e:j=0:=by simp at hj;omega
  subst e;exact cell_of_row w mb 0 _ _ _ h⟩
theorem Yz {lo g mb:Nat} {w:World} (hg:w.heap[g]? =some (.cells (⟨AU,zs0 mb⟩:dA).cells 55 (0,0))) (hl:lo≤g) (hm:w.heap[mb]? =some (.cells #[I 3] 3 (0,0))) (hm2:lo≤mb):gX lo w (.slice (some ⟨g,0,none⟩) 1 1) [⟨AU,zs0 mb⟩]:=
 ⟨⟨rfl, .inr ⟨g,1,_,rfl,hl,hg,Nat.le_refl _,by unfold maxLen;omega,rfl,rfl⟩⟩,fun x hx=>by rw [List.mem_singleton.1 hx];exact li_z0 hm hm2,fun x hx=>by rw [List.mem_singleton.1 hx];exact ⟨⟨rfl,rfl⟩,⟨rfl,rfl⟩,⟨rfl,rfl⟩⟩,fun h=>by cases h⟩
theorem Yy (lo:Nat) (w:World):gX lo w (.slice none 0 0) []:=⟨World.ownsRow_nil _ _ _ _,(fun _ h=>nomatch h),(fun _ h=>nomatch h),fun _=>rfl⟩
theorem Px:ig z0:=⟨⟨⟨by decide,by decide⟩,⟨by decide,by decide⟩,rfl,rfl,fun m hm=>by rw [List.mem_singleton.1 hm];decide⟩,⟨by decide,by decide⟩,rfl,⟨by decide,by decide⟩,rfl⟩
theorem Yi (n wd:Int) (b:Bool) (h1:1≤n) (h2:n≤64) (h3:0≤wd) (h4:wd<n):lF (vt n wd b):=by
 refine ⟨⟨show (0:Int)≤2 by decide,show (2:Int)<16 by decide⟩,⟨h1,h2⟩,⟨h3,h4⟩,rfl,rfl,fun _=>rfl,by cases b<;>exact Nat.le_of_ble_eq_true rfl,fun e he=>?_,fun e he=>?_⟩
 ·cases b with
  |false=>cases he
  |true=>rw [List.mem_singleton.1 he];exact Px
 ·cases b with
  |false=>cases he
  |true=>rw [List.mem_singleton.1 he];decide
theorem Hz {lo:Nat} {w:World} {n wd:Int} {b:Bool} {A:Option Addr} {c:Nat} {ys:List dA} (h:gX lo w (.slice A ys.length c) ys) (he:ys.map (·.e)=(vt n wd b).aK):lS w w.heap.size ⟨vt n wd b,A,c,ys⟩:=by
 refine ⟨he.symm,rfl,rfl,⟨aB.fA h.row,fun x hx=>?_⟩⟩;have h0:x.e=AU:=by
  have hm:x.e∈(vt n wd b).aK:=by rw [←he];exact List.mem_map_of_mem hx
  cases b with
  |false=>cases hm
  |true=>exact List.mem_singleton.1 hm
 have hz:x.e.z=z0:=by rw [h0];rfl
 refine ⟨?_,?_,?_,?_⟩
 ·have hl:=h.aj x hx;rcases hl with hl|⟨b2,off,e1,_,h2,h3⟩
  ·exact .inl (by rw [List.length_map];exact hl)
  ·refine .inr ⟨b2,off,e1,h2,fun j u hu=>?_⟩;rw [List.getElem?_map] at hu;cases hj:x.e.z.cal.aj[j]? with
   |none=>rw [hj] at hu;cases hu
   |some m=>
    rw [hj] at hu;injection hu with hu;rw [h3 j (iP.1 hj).1,hj,←hu];rfl
 ·rw [hz];exact .inl rfl
 ·rw [hz];exact .inl rfl
 ·rw [hz];exact .inl rfl
theorem UQ (w:World):Calls Tryz.prog 36 #[] w (SimP w):=by
 go_enter Tryz.func36,Tryz.ntmps36;have h1:AV w.heap.size 51 jM (w.alloc (.cells jM 51)):=AV.new w _ _;have h2:=h1.below (ag _ (.cells #[I 3] 3));have h3:AV (w.heap.size+1) 3 #[I 3] ((w.alloc (.cells jM 51)).alloc (.cells #[I 3] 3)):=⟨heap_alloc2_new w _ _⟩;have H2:=ae h2;have H3:=ae h3;clear h1 h2 h3;go_wp2_with (first
  |((with_reducible refine bu 51 ?_);go_must (refine bH rfl _ rfl jM (by kernel_rfl) ?_))
  |((with_reducible refine eQ 51 ?_);go_must (refine wpList_store_row rfl _ _ _ rfl w.heap.size (ax z0 (zs0 (w.heap.size+1))) rfl rfl 51 jM H2.out.var (by kernel_rfl) rfl (by kernel_rfl) ?_)))
 refine bodyPost_ret (v:= .agg (ax z0 (zs0 (w.heap.size+1)))) (results_cell_row rfl _ _ w.heap.size _ (ax z0 (zs0 (w.heap.size+1))) (0,0) _ rfl (setRow_heap _ _ _ _ _ _ H2.out.var) Tryz.underlying51 rfl (by kernel_rfl)) rfl ?_;exact ⟨w.heap.size+1,Nat.le_succ _,rfl,(setRow_other _ _ _ _ (by omega)).trans H3.out.var,aC (ah (ag w _) (ag _ _)) (Nat.le_refl _) _⟩
theorem QL (n wd:Int) (w:World):Calls Tryz.prog 15 #[I n,I wd, .bool false] w (VerP w n wd false):=by
 obtain ⟨T,hT⟩:∃T,vt n wd false=T:=⟨_,rfl⟩;have hTp:T.prev.length=32:=by rw [←hT];rfl
 have hTm:T.bJ.length=32:=by rw [←hT];rfl
 have HT:=ae hT;have H1:Hid (AV w.heap.size 32 (ai bn (.slice none 0 0)) (((w.alloc (.cells (ai bn (.slice none 0 0)) 32)).alloc (.cells (ai bn (.slice none 0 0)) 32)).setRow (w.heap.size+1) (ai T (.slice none 0 0)))):=ae ⟨(setRow_other _ _ _ _ (by omega)).trans (heap_alloc2_old w _ _)⟩;have H2:Hid (AV (w.heap.size+1) 32 (ai T (.slice none 0 0)) (((w.alloc (.cells (ai bn (.slice none 0 0)) 32)).alloc (.cells (ai bn (.slice none 0 0)) 32)).setRow (w.heap.size+1) (ai T (.slice none 0 0)))):=ae ⟨setRow_heap _ _ _ _ _ _ (heap_alloc2_new w _ _)⟩;have HB1:Hid (Below w.heap.size w (((w.alloc (.cells (ai bn (.slice none 0 0)) 32)).alloc (.cells (ai bn (.slice none 0 0)) 32)).setRow (w.heap.size+1) (ai T (.slice none 0 0)))):=ae (aC (ah (ag w _) (ag _ _)) (Nat.le_succ _) _);have dR:Hid (∀v,(Tryz.prog.info? 32).map (·.size)=some (ai T v).size):=ae fun v=>bP _ v hTp hTm;have yw:Hid (∀v,(ai bn (.slice none 0 0)).size=(ai T v).size):=ae fun v=>(aZ bn _ rfl rfl).trans (aZ T v hTp hTm).symm;clear hT hTp hTm;go_enter Tryz.func15,Tryz.ntmps15;go_upto_region 2 with (first
  |((with_reducible refine bu 32 ?_);go_must (refine aN rfl _ rfl (ai bn (.slice none 0 0)) eP ?_))
  |((with_reducible refine gu 32 ?_);go_must (refine bW rfl _ rfl (ai T (.slice none 0 0)) (by rw [←HT.out];kernel_rfl) ?_))
  |((with_reducible refine eQ 32 ?_);go_must (refine wpList_store_row rfl _ _ _ rfl (w.heap.size+1) (ai T (.slice none 0 0)) (congrArg (fun b=>Value.pointer (some ⟨b,0,none⟩)) (oV w _)) rfl 32 (ai bn (.slice none 0 0)) (heap_alloc2_new w _ _) (dR.out _) (yw.out _) (aT _ _ _ _) ?_)))
 generalize ((w.alloc (.cells (ai bn (.slice none 0 0)) 32)).alloc (.cells (ai bn (.slice none 0 0)) 32)).setRow (w.heap.size+1) (ai T (.slice none 0 0))=W1 at H1 H2 HB1 ⊢;have hw1:=H2.out.lt;refine ay ?_
 (try rw [oV w])
 go_wp2_with (first
  |((with_reducible refine jy 32 ?_);go_must (refine bG rfl _ _ rfl (w.heap.size+1) rfl (ai T (.slice none 0 0)) H2.out.lu _ Tryz.underlying32 rfl (dR.out _) ?_))
  |((with_reducible refine eQ 32 ?_);go_must (refine wpList_store_row rfl _ _ _ rfl w.heap.size (ai T (.slice none 0 0)) rfl rfl 32 (ai bn (.slice none 0 0)) H1.out.var (dR.out _) (yw.out _) (aT _ _ _ _) ?_)))
 refine bodyPost_ret (v:= .agg (ai T (.slice none 0 0))) (results_cell_row rfl _ _ w.heap.size _ (ai T (.slice none 0 0)) (0,0) _ rfl (setRow_heap _ _ _ _ _ _ H1.out.var) Tryz.underlying32 rfl (dR.out _)) rfl ?_;exact ⟨none,0,[],by rw [HT.out];rfl,Yy _ _,rfl,aC HB1.out (Nat.le_refl _) _⟩
theorem Gf (n wd:Int) (w:World):Calls Tryz.prog 15 #[I n,I wd, .bool true] w (VerP w n wd true):=by
 obtain ⟨T,hT⟩:∃T,vt n wd false=T:=⟨_,rfl⟩;have hTp:T.prev.length=32:=by rw [←hT];rfl
 have hTm:T.bJ.length=32:=by rw [←hT];rfl
 have HT:=ae hT;have H1:Hid (AV w.heap.size 32 (ai bn (.slice none 0 0)) (((w.alloc (.cells (ai bn (.slice none 0 0)) 32)).alloc (.cells (ai bn (.slice none 0 0)) 32)).setRow (w.heap.size+1) (ai T (.slice none 0 0)))):=ae ⟨(setRow_other _ _ _ _ (by omega)).trans (heap_alloc2_old w _ _)⟩;have H2:Hid (AV (w.heap.size+1) 32 (ai T (.slice none 0 0)) (((w.alloc (.cells (ai bn (.slice none 0 0)) 32)).alloc (.cells (ai bn (.slice none 0 0)) 32)).setRow (w.heap.size+1) (ai T (.slice none 0 0)))):=ae ⟨setRow_heap _ _ _ _ _ _ (heap_alloc2_new w _ _)⟩;have HB1:Hid (Below w.heap.size w (((w.alloc (.cells (ai bn (.slice none 0 0)) 32)).alloc (.cells (ai bn (.slice none 0 0)) 32)).setRow (w.heap.size+1) (ai T (.slice none 0 0)))):=ae (aC (ah (ag w _) (ag _ _)) (Nat.le_succ _) _);have dR:Hid (∀v,(Tryz.prog.info? 32).map (·.size)=some (ai T v).size):=ae fun v=>bP _ v hTp hTm;have yw:Hid (∀v,(ai bn (.slice none 0 0)).size=(ai T v).size):=ae fun v=>(aZ bn _ rfl rfl).trans (aZ T v hTp hTm).symm;clear hT hTp hTm;go_enter Tryz.func15,Tryz.ntmps15;go_upto_region 2 with (first
  |((with_reducible refine bu 32 ?_);go_must (refine aN rfl _ rfl (ai bn (.slice none 0 0)) eP ?_))
  |((with_reducible refine gu 32 ?_);go_must (refine bW rfl _ rfl (ai T (.slice none 0 0)) (by rw [←HT.out];kernel_rfl) ?_))
  |((with_reducible refine eQ 32 ?_);go_must (refine wpList_store_row rfl _ _ _ rfl (w.heap.size+1) (ai T (.slice none 0 0)) (congrArg (fun b=>Value.pointer (some ⟨b,0,none⟩)) (oV w _)) rfl 32 (ai bn (.slice none 0 0)) (heap_alloc2_new w _ _) (dR.out _) (yw.out _) (aT _ _ _ _) ?_)))
 generalize ((w.alloc (.cells (ai bn (.slice none 0 0)) 32)).alloc (.cells (ai bn (.slice none 0 0)) 32)).setRow (w.heap.size+1) (ai T (.slice none 0 0))=W1 at H1 H2 HB1 ⊢;have hw1:=H2.out.lt;refine ay ?_
 (try rw [oV w])
 go_wp2_with fail;refine (UQ W1).mono ?_;rintro e w2 ⟨mb,hmb,rfl,hm2,hb2⟩;rw [show ax z0 (zs0 mb)= #[I 0, .slice (some ⟨mb,0,none⟩) 1 1,I (-1), .slice none 0 0,I 60, .slice none 0 0,I 0, .slice none 0 0] from rfl];have h1:=H1.out.below hb2;have h2:=H2.out.below hb2;have HB2:=ae (ah HB1.out hb2);have hl2:W1.heap.size≤w2.heap.size:=hb2.size;have hml:mb<w2.heap.size:=(bY.1 hm2).1;have hbv:=ag w2 (.cells #[.string ⟨#[97]⟩,I 0, .slice (some ⟨mb,0,none⟩) 1 1,I (-1), .slice none 0 0,I 60, .slice none 0 0,I 0, .slice none 0 0] 55);have h1':=(h1.below hbv).far (g:=w.heap.size+1) (by omega) 3 (.slice (some ⟨w2.heap.size,0,none⟩) 1 1);have h2':=(h2.below hbv).put 3 (.slice (some ⟨w2.heap.size,0,none⟩) 1 1);rw [lM] at h2';have c3:(w2.alloc (.cells #[.string ⟨#[97]⟩,I 0, .slice (some ⟨mb,0,none⟩) 1 1,I (-1), .slice none 0 0,I 60, .slice none 0 0,I 0, .slice none 0 0] 55)).cell? ⟨w.heap.size+1,3,none⟩=some (.slice none 0 0):=((h2.below hbv).cell 3).trans (bK _ _);have f3:(w2.alloc (.cells #[.string ⟨#[97]⟩,I 0, .slice (some ⟨mb,0,none⟩) 1 1,I (-1), .slice none 0 0,I 60, .slice none 0 0,I 0, .slice none 0 0] 55)).frozen? ⟨w.heap.size+1,3,none⟩=false:=(h2.below hbv).gG 3;have HO:Hid (gX (w.heap.size+1) ((w2.alloc (.cells #[.string ⟨#[97]⟩,I 0, .slice (some ⟨mb,0,none⟩) 1 1,I (-1), .slice none 0 0,I 60, .slice none 0 0,I 0, .slice none 0 0] 55)).setCell ⟨w.heap.size+1,3,none⟩ (.slice (some ⟨w2.heap.size,0,none⟩) 1 1)) (.slice (some ⟨w2.heap.size,0,none⟩) 1 1) [⟨AU,zs0 mb⟩]):=ae (Yz ((heap_setCell_other _ ⟨w.heap.size+1,3,none⟩ _ _ (by show w2.heap.size≠w.heap.size+1;omega)).trans (heap_alloc_last w2 _)) (by omega) ((heap_setCell_other _ ⟨w.heap.size+1,3,none⟩ _ _ (by show mb≠w.heap.size+1;omega)).trans ((hbv.block _ hml).trans hm2)) (by omega));have HB3:Hid (Below w.heap.size w ((w2.alloc (.cells #[.string ⟨#[97]⟩,I 0, .slice (some ⟨mb,0,none⟩) 1 1,I (-1), .slice none 0 0,I 60, .slice none 0 0,I 0, .slice none 0 0] 55)).setCell ⟨w.heap.size+1,3,none⟩ (.slice (some ⟨w2.heap.size,0,none⟩) 1 1))):=ae ((ah HB2.out hbv).setCell (p:=⟨w.heap.size+1,3,none⟩) (show w.heap.size≤w.heap.size+1 by omega) _);clear H1 H2 h1 h2 hm2 hb2 HB1 hbv;have H1:=ae h1';have H2:=ae h2';clear h1' h2';go_wp2_with (first
  |((with_reducible refine jy 32 ?_);go_must (refine bG rfl _ _ rfl (w.heap.size+1) rfl (ai T (.slice (some ⟨w2.heap.size,0,none⟩) 1 1)) H2.out.lu _ Tryz.underlying32 rfl (dR.out _) ?_))
  |((with_reducible refine eQ 32 ?_);go_must (refine wpList_store_row rfl _ _ _ rfl w.heap.size (ai T (.slice (some ⟨w2.heap.size,0,none⟩) 1 1)) rfl rfl 32 (ai bn (.slice none 0 0)) H1.out.var (dR.out _) (yw.out _) (aT _ _ _ _) ?_)))
 refine bodyPost_ret (v:= .agg (ai T (.slice (some ⟨w2.heap.size,0,none⟩) 1 1))) (results_cell_row rfl _ _ w.heap.size _ (ai T (.slice (some ⟨w2.heap.size,0,none⟩) 1 1)) (0,0) _ rfl (setRow_heap _ _ _ _ _ _ H1.out.var) Tryz.underlying32 rfl (dR.out _)) rfl ?_;exact ⟨some ⟨w2.heap.size,0,none⟩,1,[⟨AU,zs0 mb⟩],by rw [←HT.out];rfl,(HO.out.aQ (by simp [World.setRow]) fun k h1 h2=>setRow_other _ _ k _ (by omega)).lower (Nat.le_succ _),rfl,aC HB3.out (Nat.le_refl _) _⟩
attribute [local go_sem] jm jo jq bK
theorem sD (k:Nat):Builtin.zeroCells (Value.cells (.int .u8 0)) k=(List.replicate k (Value.int .u8 0)).toArray:=by
 apply Array.ext
 ·simp [Builtin.zeroCells,Value.cells]
 ·intro i h1 h2;have e:i%1=0:=Nat.mod_one i;simp [Builtin.zeroCells,Value.cells,e]
theorem Ez (w:World) (ty:TypeId) (lo n c k:Nat) (A:Option Addr) (bs:List UInt8) (hown:oq lo w A n c bs) (h0:0<n) (hk:0<k) (hn:n+k≤1000000) (hbase:lo≤w.heap.size):
  ∃A' c' w',(Builtin.append_ #[22,3] ty #[.slice A n c, .int .i64 (k:Int)]).run Tryz.prog w= .ok (.slice A' (n+k) c') w'∧oq lo w' A' (n+k) c' (bs++List.replicate k 0)∧uM (.slice A n c) w (.slice A' (n+k) c') w':=by
 obtain ⟨i0,hi,hz0,hz1,hz2⟩:=info_parts lZ;have hl:bs.length=n:=by have:=hown.1;rw [List.length_map] at this;omega
 rcases hown.2 with ⟨_,h⟩|⟨g,cap,cur,hv,hg,hh,hnc,hcm,hcs,htk⟩
 ·omega
 injection hv with hA _ hC;subst hA hC;have hcsz:cur.size=c:=by rw [hcs,Nat.mul_one]
 have hnews:(List.replicate k (Value.int .u8 0)).length=k:=List.length_replicate;have hcell:(List.replicate k (0:UInt8)).map Extern.Stop.cell=List.replicate k (Value.int .u8 0):=by rw [List.map_replicate];rfl
 by_cases hroom:n+k≤c
 ·have hst:=run_storeCells_at Tryz.prog g (n*i0.size) 5 (List.replicate k (Value.int .u8 0)) 0 cur w hh (by rw [hz1,hnews,hcsz];omega) (fun u hu=>by rw [(List.mem_replicate.1 hu).2];rfl);simp only [Nat.add_zero] at hst;have hw:IntKind.i64.wrap (k:Int)=k:=by rw [IntKind.wrap_i64];omega
  have hneg:¬((k:Int)<0):=by omega
  have hkz:¬(k*i0.size=0):=by rw [hz1];omega
  have h48:¬(281474976710656<(k:Int)*(i0.bytes:Int)):=by rw [hz2];omega
  have hrun:(Builtin.append_ #[22,3] ty #[.slice (some ⟨g,0,none⟩) n c, .int .i64 (k:Int)]).run Tryz.prog w= .ok (.slice (some ⟨g,0,none⟩) (n+k) c) (w.setRow g (cur.toList.take (n*i0.size)++List.replicate k (Value.int .u8 0)++cur.toList.drop (n*i0.size+(List.replicate k (Value.int .u8 0)).length)).toArray):=by
   simp [Builtin.append_,run_underlying Tryz.underlying22,run_underlying Tryz.underlying3,sizeOf,typeInfo,zeroValue,hi,hz0,asInt,asIntOf,hw,hneg,hkz,h48,hroom,sD,Addr.add_lit,hst]
  rw [hz1,Nat.mul_one,hnews] at hrun;rw [Nat.mul_one] at htk;refine ⟨_,_,_,hrun,⟨by rw [List.length_map,bF,List.length_replicate,hl,Nat.mul_one], .inr ⟨g,c,_,rfl,hg,setRow_heap w g cur _ _ _ hh,hroom,hcm,?_,?_⟩⟩,⟨rfl,rfl,rfl,by simp [World.setRow],fun b _ hb=>setRow_other w g b _ (fun e=>hb (by rw [e];rfl)), .inl rfl⟩⟩
  ·simp only [List.size_toArray,bF,List.length_take,List.length_drop,List.length_replicate,Array.length_toList];omega
  ·rw [htk,Nat.mul_one,List.map_append,hcell,List.append_assoc,←List.append_assoc];exact List.take_left' (by rw [bF,List.length_map,List.length_replicate,hl])
 ·have holds:∀j u,(bs.map Extern.Stop.cell)[j]? =some u→w.drew.cell? ((⟨g,0,none⟩:Addr).add j)=some u:=World.ownsRow.cells hown (g:=g) rfl;have hf:=run_firstCells_some (P:=Tryz.prog) w.drew i0.size n ⟨g,0,none⟩ n c (bs.map Extern.Stop.cell) (by rw [List.length_map,hl,hz1,Nat.mul_one]) holds;have hrun:=Lib.run_append_grow_zeros (P:=Tryz.prog) w 22 3 ty 5 i0 (.int .u8 0) .i64 .i64 Tryz.underlying22 Tryz.underlying3 hi hz0 (some ⟨g,0,none⟩) n c (bs.map Extern.Stop.cell) hf k hk (by rw [hz1];omega) (by omega) (by omega) (by rw [hz2];omega) (growslice_fits (by omega) (by rw [hz2];omega));have hge:=grownCap_ge w (n+k) c 5;have hcm2:=grownCap_le_maxLen w (n+k) c 5 (by unfold maxLen;omega);refine ⟨_,_,_,hrun,⟨by rw [List.length_map,bF,List.length_replicate,hl,Nat.mul_one], .inr ⟨w.heap.size,_,_,rfl,hbase,heap_alloc_new w.drew _,hge,hcm2,?_,?_⟩⟩,⟨rfl,rfl,rfl,by simp,fun b hb _=>heap_alloc_old w.drew _ hb, .inr ⟨w.heap.size,rfl,Nat.le_refl _⟩⟩⟩
  ·simp only [sD,Array.size_append,List.size_toArray,List.length_map,List.length_replicate,hl];omega
  ·rw [sD,sD];simp only [Array.toList_append,List.map_append,hcell];exact List.take_left' (by rw [bF,List.length_map,List.length_replicate,hl,Nat.mul_one])
theorem qZ {ops:Array Oper} {rest:List Oper} {o:Oper} {a:Act} {Q:Exit→Act→World→Prop} {w:World} (hgd:o.guard=none) (sl x:Operand)
  (ho:o.op= .call {callee:= .builtin .append,args:= #[sl,x],argTypes:= #[22,3]}) (lo n c k:Nat) (A:Option Addr) (bs:List UInt8) (hs:a.eval sl= .slice A n c) (hx:a.eval x= .int .i64 (k:Int)) (hown:oq lo w A n c bs)
  (h0:0<n) (hk:0<k) (hn:n+k≤1000000) (hbase:lo≤w.heap.size)
  (h:∀A' c' w',oq lo w' A' (n+k) c' (bs++List.replicate k 0)→uM (.slice A n c) w (.slice A' (n+k) c') w'→wpList Tryz.prog ops Q rest (a.put o.dst (.slice A' (n+k) c')) w'):wpList Tryz.prog ops Q (o::rest) a w:=by
 obtain ⟨A',c',w',hr,h1,h2⟩:=Ez w o.type lo n c k A bs hown h0 hk hn hbase;exact Lib.wpList_append_run w hgd sl x _ _ ho _ _ hs hx _ _ hr (h A' c' w' h1 h2)
theorem ED (A A2:Option Addr) (n c c2:Nat) (bs:List UInt8) (w:World) (hl:bs.length=n) (hn:n≤1000000) (h1:aB w w.heap.size A (bs.map Extern.Stop.cell)) (h2:aB w w.heap.size A2 (bs.map Extern.Stop.cell)):
  Calls Tryz.prog 8 #[.slice A n c, .slice A2 n c2] w (Gives (.bool true) w):=by
 have H1:=ae h1;have H2:=ae h2;have HL:=ae hl;clear h1 h2 hl;go_enter Tryz.func8,Tryz.ntmps8;go_wp2_with fail
 go_loopw [5] (fun i wr=>∃k:Nat,k≤n∧i=I k∧∃m,wr=w.drewN m) (fun i _=>n - (intOf i).toNat)
 case atStart=>exact ⟨0,Nat.zero_le _,rfl,0,rfl⟩
 case round=>
  obtain ⟨k,hk,rfl,m,rfl⟩:=hrel;by_cases hlt:(k:Int)<(n:Int)
  ·have hk2:k<n:=by omega
   obtain ⟨b,off,rfl,hb,hc⟩:=H1.out.there (by rw [List.length_map,HL.out];omega);obtain ⟨b2,xH,rfl,hb2,hc2⟩:=H2.out.there (by rw [List.length_map,HL.out];omega);obtain ⟨x,hx⟩:∃x,bs[k]? =some x:=⟨_,dK (by rw [HL.out];exact hk2)⟩;have e1:w.cell? ⟨b,off+k,none⟩=some (.int .u8 (x.toNat:Int)):=hc k _ (by rw [List.getElem?_map,hx];rfl);have e2:w.cell? ⟨b2,xH+k,none⟩=some (.int .u8 (x.toNat:Int)):=hc2 k _ (by rw [List.getElem?_map,hx];rfl);clear hc hc2 hx;go_wp2_with fail;go_quiet (fail);go_wp2_with fail;go_roundw
   case rel=>exact ⟨k+1,by omega,by go_num,_,rfl⟩
   case measure=>simp [intOf];omega
  ·go_wp2_with fail;go_ret;exact ⟨rfl,rfl,rfl,rfl,Nat.le_refl _,fun _ _=>rfl⟩
theorem ND (A:Option Addr) (n c:Nat) (w:World) (hn:n≤4):Calls Tryz.prog 18 #[.slice A n c,I 5] w (Gives (.tuple #[.agg (ai bn (.slice none 0 0)), .int .i64 4]) w):=by
 have HW0:=ae (AV.new w (ai bn (.slice none 0 0)) 32);have HB0:=ae (ag w (.cells (ai bn (.slice none 0 0)) 32));have Iz:Hid ((Tryz.prog.info? 32).map (·.size)=some (ai bn (.slice none 0 0)).size):=ae (bP bn _ rfl rfl);have i1:(n:Int)<5:=by omega
 go_enter Tryz.func18,Tryz.ntmps18;go_wp2_with (first
  |((with_reducible refine bu 32 ?_);go_must (refine aN rfl _ rfl (ai bn (.slice none 0 0)) eP ?_))
  |((with_reducible refine gu 32 ?_);go_must (refine bW rfl _ rfl (ai bn (.slice none 0 0)) (by kernel_rfl) ?_))
  |((with_reducible refine eQ 32 ?_);go_must (refine wpList_store_row rfl _ _ _ rfl w.heap.size (ai bn (.slice none 0 0)) rfl rfl 32 (ai bn (.slice none 0 0)) HW0.out.var Iz.out rfl (aT _ _ _ _) ?_)))
 refine bodyPost_ret (v:= .tuple #[.agg (ai bn (.slice none 0 0)),I 4]) (bQ rfl _ _ w.heap.size _ (ai bn (.slice none 0 0)) (0,0) _ rfl (setRow_heap _ _ _ _ _ _ HW0.out.var) Tryz.underlying32 rfl Iz.out _ rfl) rfl ?_;exact ⟨rfl,aC HB0.out (Nat.le_refl _) _⟩
theorem Vb (t:Tb) (A:Option Addr) (n c:Nat) (w:World) (hi:0≤t.bC∧t.bC<16) (hv:t.version<1):Calls Tryz.prog 19 #[.agg (ai t (.slice A n c))] w (Gives (.int .i64 1) w):=by
 obtain ⟨is,his⟩:∃i,t.bC=i:=⟨_,rfl⟩;obtain ⟨ve,hve⟩:∃i,t.version=i:=⟨_,rfl⟩;have HA:=ae (AV.new w (ai t (.slice A n c)) 32);have c0:(w.alloc (.cells (ai t (.slice A n c)) 32)).cell? ⟨w.heap.size,0,none⟩=some (I is):=(HA.out.cell 0).trans (by rw [←his];rfl);have c1:(w.alloc (.cells (ai t (.slice A n c)) 32)).cell? ⟨w.heap.size,1,none⟩=some (I ve):=(HA.out.cell 1).trans (by rw [←hve];rfl);rw [his] at hi;rw [hve] at hv;obtain ⟨i0,i1⟩:=hi;have i2:¬is<0:=by omega
 have i3:¬(16:Int)≤is:=by omega
 have HB:=ae (ag w (.cells (ai t (.slice A n c)) 32));clear his hve;go_enter Tryz.func19,Tryz.ntmps19;go_wp2_with fail;go_ret;exact ⟨rfl,HB.out⟩
def oZ (ts:List fH):Int:=if (vZ ts).2=false then -1 else if (vZ ts).1<0 then -4 else ((ts[(vZ ts).1.toNat]?).map (·.t.version)).getD 0
theorem uO (A:Option Addr) (c n:Nat) (ts:List fH) (w:World) (hn:ts.length=n) (hn1:n≤1000) (hl:zn ts) (h:kU w w.heap.size A ts) (hp:∀x∈ts,x.t.prev.length=32∧x.t.bJ.length=32):
  Calls Tryz.prog 16 #[.slice A n c] w (Gives (.int .i64 (oZ ts)) w):=by
 have HC:=ae (MR A c n ts w hn hn1 hl h);have RS:=ae hp;obtain ⟨F,hF⟩:∃F,oZ ts=F:=⟨_,rfl⟩;rw [hF];have HF:=ae hF;clear hn hl h hp hF;go_enter Tryz.func16,Tryz.ntmps16;go_wp2_with fail;refine HC.out.mono ?_;rintro e w2 ⟨hb2,p,b,hpb,⟨rfl,rfl⟩|⟨rfl,hp0,rfl⟩|⟨rfl,i,x,y,rfl,hx,hy,_,rfl,hO⟩⟩
 ·have HE:Hid (F= -1):=ae (by rw [←HF.out];unfold oZ;rw [hpb];rfl);clear hpb;have ni:=ae (AV.new w2 (ai bn (.slice none 0 0)) 32);have HB2:=ae (ah hb2 (ag w2 (.cells (ai bn (.slice none 0 0)) 32)));have HW:=ae hb2.size;clear hb2;rw [fK];go_wp2_with (first
   |((with_reducible refine bu 32 ?_);go_must (refine aN rfl _ rfl (ai bn (.slice none 0 0)) eP ?_))
   |((with_reducible refine eQ 32 ?_);go_must (refine wpList_store_row rfl _ _ _ rfl w2.heap.size (ai bn (.slice none 0 0)) rfl rfl 32 (ai bn (.slice none 0 0)) ni.out.var (bP bn _ rfl rfl) rfl (aT _ _ _ _) ?_)))
  go_ret;exact ⟨by rw [HE.out];rfl,aC HB2.out HW.out _⟩
 ·have HE:Hid (F= -4):=ae (by rw [←HF.out];unfold oZ;rw [hpb];simp [hp0]);clear hpb hp0;have ni:=ae (AV.new w2 (ai bn (.slice none 0 0)) 32);have HB2:=ae (ah hb2 (ag w2 (.cells (ai bn (.slice none 0 0)) 32)));have HW:=ae hb2.size;clear hb2;rw [fK];go_wp2_with (first
   |((with_reducible refine bu 32 ?_);go_must (refine aN rfl _ rfl (ai bn (.slice none 0 0)) eP ?_))
   |((with_reducible refine eQ 32 ?_);go_must (refine wpList_store_row rfl _ _ _ rfl w2.heap.size (ai bn (.slice none 0 0)) rfl rfl 32 (ai bn (.slice none 0 0)) ni.out.var (bP bn _ rfl rfl) rfl (aT _ _ _ _) ?_)))
  go_ret;exact ⟨by rw [HE.out];rfl,aC HB2.out HW.out _⟩
 ·have HE:Hid (F=x.t.version):=ae (by rw [←HF.out];unfold oZ;rw [hpb];simp [hx];intro h;omega);have hq:=RS.out x (gz hx);obtain ⟨T,hT⟩:∃T,y.t=T:=⟨_,rfl⟩;have hTx:T=x.t:=hT.symm.trans hy;rw [hT];have dR:Hid ((Tryz.prog.info? 32).map (·.size)=some (ai T (.slice y.A y.zs.length y.c)).size):=ae (bP T _ (by rw [hTx];exact hq.1) (by rw [hTx];exact hq.2));have yw:Hid ((ai bn (.slice none 0 0)).size=(ai T (.slice y.A y.zs.length y.c)).size):=ae ((aZ bn _ rfl rfl).trans (aZ T _ (by rw [hTx];exact hq.1) (by rw [hTx];exact hq.2)).symm);obtain ⟨ve,hve⟩:∃v,T.version=v:=⟨_,rfl⟩;have HVE:Hid (F=ve):=ae (by rw [HE.out,←hve,hTx]);have ni:=ae ((AV.new w2 (ai bn (.slice none 0 0)) 32));have HB2:=ae (aC (ah hb2 (ag w2 (.cells (ai bn (.slice none 0 0)) 32))) hb2.size (ai T (.slice y.A y.zs.length y.c)));have tN:=ae (ni.out.oH (ai T (.slice y.A y.zs.length y.c)));have c1:((w2.alloc (.cells (ai bn (.slice none 0 0)) 32)).setRow w2.heap.size (ai T (.slice y.A y.zs.length y.c))).cell? ⟨w2.heap.size,1,none⟩=some (I ve):=(tN.out.cell 1).trans (by rw [←hve];rfl);clear hb2 hpb hx hy hO hq hT hTx hve;go_wp2_with (first
   |((with_reducible refine bu 32 ?_);go_must (refine aN rfl _ rfl (ai bn (.slice none 0 0)) eP ?_))
   |((with_reducible refine eQ 32 ?_);go_must (refine wpList_store_row rfl _ _ _ rfl w2.heap.size (ai T (.slice y.A y.zs.length y.c)) rfl rfl 32 (ai bn (.slice none 0 0)) ni.out.var dR.out yw.out (aT _ _ _ _) ?_)))
  go_ret;exact ⟨by rw [HVE.out];rfl,HB2.out⟩
end Go.Proofs.YtdibbemgpikgjaaGreat
namespace Go.Proofs.YtdibbemgpikgjaaGreat
open Go Go.RowKit
attribute [local go_sem] jm jo jq bK
section
variable {P:Program} {ops:Array Oper} {a:Act} {w:World} {rest:List Oper} {o:Oper}
theorem pJ {Q:Act→Prop} (hw:Region.wanted o (yielded ops a.tmps)=true) (ty:TypeId) (x:Operand) (ho:o.op= .load ty x) (g off:Nat) (hx:a.eval x= .pointer (some ⟨g,off,none⟩)) (cs:List Value) (hr:w.rangeAt g off cs)
  (d:TypeDesc) (hu:P.underlying ty=some d) (hd:d.isRow=true) (hi:(P.info? ty).map (·.size)=some cs.length)
  (h:wpStill P ops w Q rest (a.put o.dst (.agg cs.toArray))):wpStill P ops w Q (o::rest) a:=by
 refine wpStill_step fun K hK=>?_;rw [if_pos hw];unfold Oper.still execOp;simp only [ho,hx,Instr.loadAt,Instr.sureAddr,Sem.run_bind,Sem.run_pure,Result.andThen_ok,run_loadVar_mid w g off ty cs d hr hu hd hi];exact ⟨rfl,hK _ h⟩
end
theorem FN (r:List UInt8) (h:r.length=32) (W:World):(binOp .neq 24 (.agg (au r).toArray) (.agg (au r).toArray)).run Tryz.prog W= .ok (.bool false) W:=by
 unfold au;rw [run_neq_struct,Go.Proofs.YtdibbemgpikgjaaGreat.oz W r h];simp [Result.andThen]
theorem PE (x:dA):∀j u,(ax x.e.z x.s).toList[j]? =some u→x.cells.toList[1+j]? =some u:=fun j u hu=>by
 rw [Nat.add_comm];exact hu
theorem Dv (t:Tb) (A1 A2:Option Addr) (c1 c2 n:Nat) (ys1 ys2:List dA) (zs:List Ze) (w:World) (hp:t.prev.length=32) (hm:t.bJ.length=32) (h1:ys1.map (·.e)=zs) (h2:ys2.map (·.e)=zs) (hn:zs.length=n) (hn1:n≤1000) (hl:∀e∈zs,oU e.z) (m1:oD w w.heap.size A1 ys1) (m2:oD w w.heap.size A2 ys2):
  Calls Tryz.prog 10 #[.agg (ai t (.slice A1 n c1)), .agg (ai t (.slice A2 n c2))] w (Gives (.bool true) w):=by
 have HV:=ae (pY.start w 32 (ai t (.slice A1 n c1)) (ai t (.slice A2 n c2)));have l1:ys1.length=n:=by rw [←hn,←h1,List.length_map]
 have l2:ys2.length=n:=by rw [←hn,←h2,List.length_map]
 obtain ⟨W0,hW0⟩:∃W0,(w.alloc (.cells (ai t (.slice A1 n c1)) 32)).alloc (.cells (ai t (.slice A2 n c2)) 32)=W0:=⟨_,rfl⟩;rw [hW0] at HV;have HW0:=ae hW0;have PH:=ae l1;have HL2:=ae l2;have Gj:=ae h1;have HE2:=ae h2;have RD:=ae m1;have Vz:=ae m2;have Rz:=ae hl;have nq1:=FN t.prev hp;have nq2:=FN t.bJ hm;have lU:=ae (qh t _ HV.out.a);have HP2:=ae (qh t _ HV.out.b);have jS:=ae (Ho t _ HV.out.a hp);have jr:=ae (Ho t _ HV.out.b hp);have Rl:Hid ((Tryz.prog.info? 24).map (·.size)=some (au t.prev).length):=ae (by simp only [au,List.length_map,hp];kernel_rfl);have H33:Hid ((Tryz.prog.info? 24).map (·.size)=some (au t.bJ).length):=ae (by simp only [au,List.length_map,hm];kernel_rfl);have p0:=HV.out.a.2;have p1:=HV.out.b.2;clear hn h1 h2 m1 m2 hl hp hm l1 l2 hW0;go_enter Tryz.func10,Tryz.ntmps10;go_upto_region 1 with fail;rw [HW0.out];go_wp2_with (first
  |((with_reducible refine dM 24 ?_);go_must (first
    |(refine bU rfl _ _ rfl w.heap.size 4 rfl (au t.prev) lU.out _ Tryz.underlying24 rfl Rl.out ?_)
    |(refine bU rfl _ _ rfl (w.heap.size+1) 4 rfl (au t.prev) HP2.out _ Tryz.underlying24 rfl Rl.out ?_)
    |(refine bU rfl _ _ rfl w.heap.size 36 rfl (au t.bJ) jS.out _ Tryz.underlying24 rfl H33.out ?_)
    |(refine bU rfl _ _ rfl (w.heap.size+1) 36 rfl (au t.bJ) jr.out _ Tryz.underlying24 rfl H33.out ?_))))
 go_loopw [5] (fun i wr=>BO w 32 (ai t (.slice A1 n c1)) (ai t (.slice A2 n c2)) n i wr) (fun i _=>n - (intOf i).toNat)
 case atStart=>exact ⟨0,Nat.zero_le _,rfl,HV.out⟩
 case round=>
  clear p0 p1 nq1 nq2;obtain ⟨k,hk,rfl,hv⟩:=hrel;have YX:=ae hv;have p3:wr.cell? ⟨w.heap.size,3,none⟩=some (.slice A1 n c1):=(hv.a.2 3).trans (bK _ _);have q3:wr.cell? ⟨w.heap.size+1,3,none⟩=some (.slice A2 n c2):=(hv.b.2 3).trans (bK _ _);clear hv;by_cases hlt:(k:Int)<(n:Int)
  ·have hk2:k<n:=by omega
   obtain ⟨x1,hx1⟩:∃x,ys1[k]? =some x:=⟨_,dK (by rw [PH.out];exact hk2)⟩;obtain ⟨x2,hx2⟩:∃x,ys2[k]? =some x:=⟨_,dK (by rw [HL2.out];exact hk2)⟩;have he:x1.e=x2.e:=by
    have a1:zs[k]? =some x1.e:=by rw [←Gj.out,List.getElem?_map,hx1];rfl
    have a2:zs[k]? =some x2.e:=by rw [←HE2.out,List.getElem?_map,hx2];rfl
    rw [a1] at a2;injection a2
   have hel:oU x1.e.z:=Rz.out _ (by rw [←Gj.out];exact List.mem_map_of_mem (gz hx1));have z1:=RD.out.each x1 (gz hx1);have z2:=Vz.out.each x2 (gz hx2);obtain ⟨b,off,rfl,hb,hc⟩:=RD.out.row.there (by rw [dN,PH.out];omega);obtain ⟨b2,xH,rfl,hb2,hc2⟩:=Vz.out.row.there (by rw [dN,HL2.out];omega);have r1:wr.rangeAt b (off+k*9) x1.cells.toList:=aW (aB.elem (s:=9) (f:=fun x:dA=>x.cells.toList) (fun _ _=>rfl) hc k x1 hx1) YX.out.up hb;have r2:wr.rangeAt b2 (xH+k*9) x2.cells.toList:=aW (aB.elem (s:=9) (f:=fun x:dA=>x.cells.toList) (fun _ _=>rfl) hc2 k x2 hx2) YX.out.up hb2;obtain ⟨nm,hnm⟩:∃s,x1.e.name=s:=⟨_,rfl⟩;have e1:wr.cell? ⟨b,off+k*9,none⟩=some (.string nm):=by rw [←hnm];exact r1 0 _ rfl
   have e2:wr.cell? ⟨b2,xH+k*9,none⟩=some (.string nm):=by rw [←hnm,he];exact r2 0 _ rfl
   have R1:Hid (wr.drew.rangeAt b (off+k*9+1) (ax x1.e.z x1.s).toList):=ae (fun j u hu=>by rw [Nat.add_assoc];exact r1 (1+j) u (PE x1 j u hu));have R2:Hid (wr.drew.rangeAt b2 (xH+k*9+1) (ax x1.e.z x2.s).toList):=ae (fun j u hu=>by rw [he] at hu;rw [Nat.add_assoc];exact r2 (1+j) u (PE x2 j u hu));have ZI:Hid (∀s,(Tryz.prog.info? 51).map (·.size)=some (ax x1.e.z s).toList.length):=ae (fun s=>by kernel_rfl);have HS:Hid (Calls Tryz.prog 26 #[.agg (ax x1.e.z x1.s), .agg (ax x1.e.z x2.s)] wr.drew (Gives (.bool true) wr.drew)):=ae (EE x1.e.z x1.s x2.s _ _ wr.drew hel rfl rfl ((z1.keep (YX.out.drew 1).up).more (YX.out.drew 1).up.size) (by rw [he];exact (z2.keep (YX.out.drew 1).up).more (YX.out.drew 1).up.size));clear hx1 hx2 he hel z1 z2 hc hc2 r1 r2 hnm;go_wp2_with fail;refine wp_region_still_tail 26 (by kernel_rfl) (by kernel_rfl) ?_;simp only [List.take_succ_cons,List.take_zero,List.drop_succ_cons,List.drop_zero]
   iterate 19 still_step
   refine pJ rfl _ _ rfl b (off+k*9+1) rfl (ax x1.e.z x1.s).toList R1.out _ Tryz.underlying51 rfl (ZI.out _) ?_
   iterate 5 still_step
   refine pJ rfl _ _ rfl b2 (xH+k*9+1) rfl (ax x1.e.z x2.s).toList R2.out _ Tryz.underlying51 rfl (ZI.out _) ?_;refine wpStill_nil ?_;change wpList _ _ _ _ _ wr.drew;go_wp2_with fail;refine HS.out.mono ?_;rintro e w3 ⟨rfl,hb3⟩;have tN:Hid (pY w 32 (ai t (.slice (some ⟨b,off,none⟩) n c1)) (ai t (.slice (some ⟨b2,xH,none⟩) n c2)) w3):=ae ((YX.out.drew 1).below hb3);clear hb3 e1 e2 p3 q3;go_wp2_with fail;go_roundw
   case rel=>exact ⟨k+1,by omega,by go_num,tN.out⟩
   case measure=>simp [intOf];omega
  ·go_wp2_with fail;go_ret;exact ⟨rfl,YX.out.up⟩
end Go.Proofs.YtdibbemgpikgjaaGreat
