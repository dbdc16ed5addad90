/- The texts Kd, in this order. -/
import Derived.Test.YtdibbemgpikgjaaGreatW00
import Derived.Test.YtdibbemgpikgjaaGreatW13
set_option maxRecDepth 10000
set_option maxHeartbeats 8000000
namespace Go.Proofs.YtdibbemgpikgjaaGreat
open Go Go.RowKit
def Gg (c:Cal) (bg y:Int) (r r':Yr) (out:List Tr):List Tr:=if (findF c bg y r).2=true then vJ out ⟨(findF c bg y r).1*1440+r.minute - r'.off,r.off⟩ else out
def mr (c:Cal) (r0 r1:Yr) (stop:Int):Nat→Int→Int→List Tr→List Tr
 |0,_,_,out=>out
 |n+1,bg,y,out=>if bg<stop then mr c r0 r1 stop n (bg+je c y) (y+1) (Gg c bg y r1 r0 (Gg c bg y r0 r1 out)) else out
def ry (z:Zn):List Tr:=match z.az with
 | [r0,r1]=>mr z.cal r0 r1 (z.cal.aI+kW z) 1400 z.cal.aI 1 []
 |_=> []
def fU (ts:List Tr) (i:Nat):Int:=(ts[i]?.map (·.at_)).getD 0
def lK (ts:List Tr) (size:Int) (i:Nat):Int:=(if i+1<ts.length then fU ts (i+1) else fU ts 0+size) - fU ts i
def dZ (ts:List Tr) (size:Int):Bool:=(List.range ts.length).all fun i=>decide (2160≤lK ts size i)
structure yN (r:Yr):Prop where
 mo:r.month=1∨r.month=2
 wk:1≤r.di∧r.di≤5
 wd:0≤r.dm∧r.dm≤6
 mi:0≤r.minute∧r.minute≤1439
 of: -1080≤r.off∧r.off≤1080
theorem qo (c:Cal) (y:Int) (hc:iR c):12≤je c y:=by
 obtain ⟨ep,m0,m1,lp,rs,rfl,b1,b2,b3,b4,_⟩:=hc.form;simp only [je,nz,List.getElem?_cons_zero,List.getElem?_cons_succ,Option.getD_some];split<;>omega
theorem XY (wd wk:Int) (n:Nat):∀d cn la:Int, -1≤la→la≤d→ -1≤(gZ wd wk n d cn la).1∧(gZ wd wk n d cn la).1≤d+n∨(gZ wd wk n d cn la).1=d:=by
 induction n with
 |zero=>intro d cn la h1 h2;exact .inl ⟨h1,by show la≤_;omega⟩
 |succ n ih=>
  intro d cn la h1 h2;unfold gZ;split
  ·split
   ·exact .inr rfl
   ·rcases ih (d+1) (cn+1) d (by omega) (by omega) with h|h
    ·exact .inl ⟨h.1,by omega⟩
    ·exact .inl ⟨by omega,by omega⟩
  ·rcases ih (d+1) cn la h1 (by omega) with h|h
   ·exact .inl ⟨h.1,by omega⟩
   ·exact .inl ⟨by omega,by omega⟩
theorem Bd (c:Cal) (bg y:Int) (r:Yr) (hc:iR c) (hr:yN r) (hb:0≤bg): -1≤(findF c bg y r).1∧(findF c bg y r).1≤bg+30:=by
 have h1:=qP c y 1 hc (.inl rfl);have h2:=qP c y r.month hc hr.mo;have h3:bg≤oW c bg y r.month∧oW c bg y r.month≤bg+9:=by unfold oW;split<;>omega
 unfold findF;rcases XY r.dm r.di (ik c y r.month).toNat (oW c bg y r.month) 0 (-1) (by omega) (by omega) with h|h
 ·omega
 ·omega
theorem Un {ts:List Tr} {t x:Tr} (h:x∈vJ ts t):x=t∨x∈ts:=by
 unfold vJ at h;rcases List.mem_append.1 h with h|h
 ·exact .inr (List.mem_of_mem_take h)
 ·rcases List.mem_cons.1 h with h|h
  ·exact .inl h
  ·exact .inr (List.mem_of_mem_drop h)
theorem iO.below {lo n c:Nat} {w w':World} {A:Option Addr} {ts:List Tr} (h:iO lo w A n c ts) (hb:Below w.heap.size w w'):iO lo w' A n c ts:=
 World.ownsRow.kept (row:=none) h ⟨hb.os,hb.tape,hb.output,hb.size,fun k hk _=>hb.block k hk⟩ (by cases (Value.slice A n c).ownBlock<;>simp)
structure YS (w:World) (cs:Array Value) (W:World) (A:Option Addr) (n c:Nat) (ts:List Tr):Prop where
 row:Row W w.heap.size cs
 own:iO (w.heap.size+1) W A n c ts
 up:Below w.heap.size w W
 len:ts.length=n
theorem YS.call {w W W':World} {cs:Array Value} {A:Option Addr} {n c:Nat} {ts:List Tr} (h:YS w cs W A n c ts) (hb:Below W.heap.size W W'):YS w cs W' A n c ts:=
 ⟨h.row.keep hb,h.own.below hb,ah h.up hb,h.len⟩
theorem YS.ins {w W W':World} {cs:Array Value} {A A':Option Addr} {n c c':Nat} {ts ts':List Tr} (h:YS w cs W A n c ts) (hb:Below (w.heap.size+1) W W') (ho:iO (w.heap.size+1) W' A' (n+1) c' ts') (hl:ts'.length=n+1):YS w cs W' A' (n+1) c' ts':=
 ⟨⟨dS h.row.1 hb.size,fun i=>(hb.cell (p:=⟨w.heap.size,i,none⟩) (Nat.lt_succ_self _)).trans (h.row.2 i)⟩,ho,h.up.trans (hb.mono (Nat.le_succ _)),hl⟩
theorem YS.lo {w W:World} {cs:Array Value} {A:Option Addr} {n c:Nat} {ts:List Tr} (h:YS w cs W A n c ts):w.heap.size+1≤W.heap.size:=h.row.1
def Q8 (ts:List Tr):Prop:=∀x∈ts, -10000000≤x.at_∧x.at_≤100000000
theorem xW {c:Cal} {bg y:Int} {r r':Yr} {ts:List Tr} (h:Q8 ts) (hc:iR c) (hr:yN r) (hr':yN r') (hb:0≤bg) (hb2:bg≤10000):Q8 (Gg c bg y r r' ts):=by
 have h1:=Bd c bg y r hc hr hb;have h2:=hr.mi;have h3:=hr'.of;unfold Gg;split
 ·intro x hx;rcases Un hx with rfl|hx
  ·constructor<;>(simp only;omega)
  ·exact h x hx
 ·exact h
def YRel (w:World) (cs:Array Value) (c:Cal) (r0 r1:Yr) (ep stop:Int) (res:List Tr) (o b y:Value) (wr:World):Prop:=
 ∃(f:Nat) (bg yy:Int) (A:Option Addr) (n cp:Nat) (ts:List Tr),o= .slice A n cp∧b= .int .i64 bg∧y= .int .i64 yy∧1≤yy∧ep+12*(yy - 1)≤bg∧0≤bg∧bg≤stop+100∧(n:Int)≤2*(yy - 1)∧(stop - bg).toNat≤f∧mr c r0 r1 stop f bg yy ts=res∧Q8 ts∧YS w cs wr A n cp ts
structure YC (W:World) (b off:Nat) (r0 r1:Yr):Prop where
 a:W.rangeAt b off r0.cells
 b:W.rangeAt b (off+5) r1.cells
def SN (w:World) (ts:List Tr) (ok:Bool) (e:Ending) (w':World):Prop:=∃A n c,ts.length=n∧e= .returned (.tuple #[.slice A n c, .bool ok])∧iO w.heap.size w' A n c ts∧Below w.heap.size w w'
theorem iO.lower {lo lo' n c:Nat} {w:World} {A:Option Addr} {ts:List Tr} (h:iO lo w A n c ts) (hl:lo'≤lo):iO lo' w A n c ts:=by
 rcases h.2 with h2|⟨g,cap,cur,h1,h2,h3⟩
 ·exact ⟨h.1, .inl h2⟩
 ·exact ⟨h.1, .inr ⟨g,cap,cur,h1,Nat.le_trans hl h2,h3⟩⟩
def GRel (w:World) (cs:Array Value) (A:Option Addr) (n cp:Nat) (ts:List Tr) (size:Int) (i:Value) (wr:World):Prop:=
 ∃k:Nat,k≤n∧i= .int .i64 k∧(∀j,j<k→2160≤lK ts size j)∧YS w cs wr A n cp ts
theorem yh (z:Zn) (hc:iR z.cal):0≤kW z∧kW z≤1400:=by
 have h1:=Oz z.cal hc;unfold kW Ai;split
 ·omega
 ·split<;>omega
theorem uY {c:Cal} {r0 r1:Yr} {stop bg y:Int} {f:Nat} {ts res:List Tr} (h:mr c r0 r1 stop f bg y ts=res) (hb:bg<stop) (hf:(stop - bg).toNat≤f) (hy:12≤je c y):
  ∃f',(stop - (bg+je c y)).toNat≤f'∧mr c r0 r1 stop f' (bg+je c y) (y+1) (Gg c bg y r1 r0 (Gg c bg y r0 r1 ts))=res:=by
 cases f with
 |zero=>omega
 |succ f=>exact ⟨f,by omega,by rw [mr,if_pos hb] at h;exact h⟩
theorem NP {c:Cal} {r0 r1:Yr} {stop bg y:Int} {f:Nat} {ts res:List Tr} (h:mr c r0 r1 stop f bg y ts=res) (hb:¬bg<stop):ts=res:=by
 cases f with
 |zero=>exact h
 |succ f=>rw [mr,if_neg hb] at h;exact h
theorem BU {ts:List Tr} (k:Nat) (h:Q8 ts): -10000000≤fU ts k∧fU ts k≤100000000:=by
 unfold fU;cases e:ts[k]? with
 |none=>simp
 |some x=>exact h x (gz e)
theorem rY {lo g n cp:Nat} {W:World} {ts:List Tr} (h:iO lo W (some ⟨g,0,none⟩) n cp ts) (hl:ts.length=n) (k:Nat) (hk:k<n):W.cell? ⟨g,k*2,none⟩=some (I (fU ts k)):=by
 have hx:ts[k]? =some ts[k]:=dK (by omega);rw [World.ownsRow.cellAt h (k*2) (by omega),show k*2=k*2+0 from rfl,flat_get (s:=2) Tr.cells ts (fun _ _=>rfl) k 0 _ hx (by omega)];unfold fU;rw [hx];rfl
theorem Jt {ts:List Tr} {n:Nat} {size:Int} (hl:ts.length=n) (h:∀j,j<n→2160≤lK ts size j):dZ ts size=true:=by
 unfold dZ;rw [List.all_eq_true];intro j hj;exact decide_eq_true (h j (by rw [←hl];exact List.mem_range.1 hj))
theorem OG {ts:List Tr} {n k:Nat} {size:Int} (hl:ts.length=n) (hk:k<n) (h:lK ts size k<2160):dZ ts size=false:=by
 unfold dZ;rw [List.all_eq_false];exact ⟨k,List.mem_range.2 (by omega),by simp;omega⟩
theorem Fz {ts:List Tr} {k:Nat} {size:Int} (h:∀j,j<k→2160≤lK ts size j) (h1:2160≤lK ts size k):∀j,j<k+1→2160≤lK ts size j:=by
 intro j hj;rcases Nat.lt_succ_iff_lt_or_eq.1 hj with h2|rfl
 ·exact h j h2
 ·exact h1
theorem NM (z:Zn) (s:Zs) (r0 r1:Yr) (w:World) (hc:iR z.cal) (h:jR w w.heap.size s z) (hy:z.az= [r0,r1]) (hr0:yN r0) (hr1:yN r1) (hlt:z.trans.length≤1000):Calls Tryz.prog 95 #[.agg (ax z s)] w (SN w (ry z) (dZ (ry z) (kW z*1440))):=by
 have vK:Hid (∀W,Below w.heap.size w W→Calls Tryz.prog 97 #[.agg (ax z s)] W (Gives (I (kW z)) W)):=ae fun W hb=>D5 z s W hc (h.grow hb);have HFI:Hid (∀(bg y:Int) (x:Yr) W,yN x→0≤bg→bg≤100000→0≤y→Below w.heap.size w W→Calls Tryz.prog 111 #[.agg (aG z.cal s.A s.a s.B s.b),I bg,I y, .agg #[I x.month,I x.di,I x.dm,I x.minute,I x.off]] W (Gives (.tuple #[I (findF z.cal bg y x).1, .bool (findF z.cal bg y x).2]) W)):=
  ae fun bg y x W hx h1 h2 h3 hb=>TI z.cal s.A s.B s.a s.b bg y x W hc ⟨h.aj.grow hb,h.rules.grow hb⟩ h1 h2 h3 hx.mo
 have lW:Hid (∀(y:Int) W,0≤y→Below w.heap.size w W→Calls Tryz.prog 113 #[.agg (aG z.cal s.A s.a s.B s.b),I y] W (Gives (I (je z.cal y)) W)):=
  ae fun y W h1 hb=>DX z.cal s.A s.B s.a s.b y W hc ⟨h.aj.grow hb,h.rules.grow hb⟩ h1
 have hbd:=yh z hc;have rO:=hc.ep;have HC:=ae hc;obtain ⟨yb,yo,hD,hyb,Jz⟩:=h.az.there (by rw [hy];simp [Yr.cells]);have HY:Hid (∀W,Below w.heap.size w W→YC W yb yo r0 r1):=ae fun W hb=>by
  rw [hy] at Jz;exact ⟨aW (aB.elem (s:=5) (f:=Yr.cells) (xs:= [r0,r1]) (fun _ _=>rfl) Jz 0 r0 rfl) hb hyb,aW (aB.elem (s:=5) (f:=Yr.cells) (xs:= [r0,r1]) (fun _ _=>rfl) Jz 1 r1 rfl) hb hyb⟩
 clear Jz;obtain ⟨res,hres⟩:∃res,ry z=res:=⟨_,rfl⟩;rw [hres];have hres2:mr z.cal r0 r1 (z.cal.aI+kW z) 1400 z.cal.aI 1 []=res:=by rw [←hres];unfold ry;rw [hy]
 clear hres;obtain ⟨q,hq⟩:∃q,kW z=q:=⟨_,rfl⟩;rw [hq] at vK hbd hres2 ⊢;have lh:=ae hres2;have HR0:=ae hr0;have HR1:=ae hr1;clear hres2 hq hr0 hr1 hc h;obtain ⟨cal,st,tr,ho,yr⟩:=z;obtain ⟨A0,a,R0,r,C0,c0,D0,d0⟩:=s;simp only at hy hD vK HFI lW rO HC lh hlt ⊢;subst hy hD;obtain ⟨ep,vG⟩:∃ep,cal.aI=ep:=⟨_,rfl⟩;rw [vG] at rO lh;obtain ⟨lp,xu⟩:∃lp,cal.aY=lp:=⟨_,rfl⟩;obtain ⟨n0,hn0⟩:∃n,cal.aj.length=n:=⟨_,rfl⟩;obtain ⟨n1,hn1⟩:∃n,cal.rules.length=n:=⟨_,rfl⟩;obtain ⟨n2,hn2⟩:∃n,tr.length=n:=⟨_,rfl⟩;unfold ax aG at*;simp only [vG,xu,hn0,hn1,hn2,List.length_cons,List.length_nil,Nat.zero_add,Nat.reduceAdd] at vK HFI lW ⊢;clear vG xu hn0 hn1 hn2 hlt;have HV:Hid (YS w #[I ep, .slice A0 n0 a,I lp, .slice R0 n1 r,I st, .slice C0 n2 c0,I ho, .slice (some ⟨yb,yo,none⟩) 2 d0] ((w.alloc (.cells #[I ep, .slice A0 n0 a,I lp, .slice R0 n1 r,I st, .slice C0 n2 c0,I ho, .slice (some ⟨yb,yo,none⟩) 2 d0] 51)).alloc (.cells #[] 100)) (some ⟨w.heap.size+1,0,none⟩) 0 0 []):=
  ae ⟨(Row.new w _ _).keep (ag _ _),by have h:=gV (w.alloc (.cells #[I ep, .slice A0 n0 a,I lp, .slice R0 n1 r,I st, .slice C0 n2 c0,I ho, .slice (some ⟨yb,yo,none⟩) 2 d0] 51)) 100 2;simpa [iO] using h,ah (ag w _) (ag _ _),rfl⟩
 go_enter Tryz.func95,Tryz.ntmps95;go_wp2_with fail;refine (vK.out _ HV.out.up).mono ?_;rintro e w1 ⟨rfl,hb1⟩;have HW:=ae (HV.out.call hb1);clear hb1 HV vK;have v0:w1.cell? ⟨w.heap.size,0,none⟩=some (I ep):=HW.out.row.2 0;go_wp2_with fail;clear v0
 go_loopw [4,6,7] (fun o b y wr=>YRel w #[I ep, .slice A0 n0 a,I lp, .slice R0 n1 r,I st, .slice C0 n2 c0,I ho, .slice (some ⟨yb,yo,none⟩) 2 d0] cal r0 r1 ep (ep+q) res o b y wr) (fun _ b _ _=>((ep+q) - intOf b).toNat)
 case atStart=>exact ⟨1400,ep,1,_,0,_,[],rfl,by go_num,by go_num,by omega,by omega,by omega,by omega,by omega,by omega,lh.out,(fun _ h=>nomatch h),HW.out⟩
 case round=>
  obtain ⟨f,bg,yy,A,n,cp,ts,rfl,rfl,rfl,hy1,hy2,hb0,hbs,hn2',hf,hyf,htb,hys⟩:=hrel;have HF:=ae hyf;have tK:=ae htb;have HW:=ae hys;have YN:=ae hf;clear hyf htb hys hf;have v0:wr.cell? ⟨w.heap.size,0,none⟩=some (I ep):=HW.out.row.2 0;by_cases hlt:bg<ep+q
  ·clear v0;have v0:wr.cell? ⟨w.heap.size,0,none⟩=some (I ep):=HW.out.row.2 0;have v1:wr.cell? ⟨w.heap.size,1,none⟩=some (.slice A0 n0 a):=HW.out.row.2 1;have v2:wr.cell? ⟨w.heap.size,2,none⟩=some (I lp):=HW.out.row.2 2;have v3:wr.cell? ⟨w.heap.size,3,none⟩=some (.slice R0 n1 r):=HW.out.row.2 3;have v7:wr.cell? ⟨w.heap.size,7,none⟩=some (.slice (some ⟨yb,yo,none⟩) 2 d0):=HW.out.row.2 7;have dQ:=ae (HY.out wr HW.out.up);have yY:wr.cell? ⟨yb,yo,none⟩=some (I r0.month):=dQ.out.a 0 _ rfl;have yZ:wr.cell? ⟨yb,yo+1,none⟩=some (I r0.di):=dQ.out.a 1 _ rfl;have y7:wr.cell? ⟨yb,yo+2,none⟩=some (I r0.dm):=dQ.out.a 2 _ rfl;have y8:wr.cell? ⟨yb,yo+3,none⟩=some (I r0.minute):=dQ.out.a 3 _ rfl;have y9:wr.cell? ⟨yb,yo+4,none⟩=some (I r0.off):=dQ.out.a 4 _ rfl;have zf:wr.cell? ⟨yb,yo+5,none⟩=some (I r1.month):=dQ.out.b 0 _ rfl;have zh:wr.cell? ⟨yb,yo+6,none⟩=some (I r1.di):=dQ.out.b 1 _ rfl;have zi:wr.cell? ⟨yb,yo+7,none⟩=some (I r1.dm):=dQ.out.b 2 _ rfl;have y13:wr.cell? ⟨yb,yo+8,none⟩=some (I r1.minute):=dQ.out.b 3 _ rfl;have zk:wr.cell? ⟨yb,yo+9,none⟩=some (I r1.off):=dQ.out.b 4 _ rfl;go_wp2_with fail;refine wp_loop_rounds 3 ?_;rw [rounds_succ];go_upto_region 12 with fail;have rM:=HFI.out bg yy r0 wr.drew HR0.out (by omega) (by omega) (by omega) HW.out.up.drew;have hfb0:=Bd cal bg yy r0 HC.out HR0.out (by omega);obtain ⟨pr0,MF⟩:∃pr,findF cal bg yy r0=pr:=⟨_,rfl⟩;rw [MF] at rM hfb0;have HPR0:=ae MF;obtain ⟨fd0,fb0⟩:=pr0;simp only at rM hfb0;have Rq:=ae rM;clear rM MF
   go_cut [9,10] (fun d ok wx=>d=I fd0∧ok= .bool fb0∧YS w #[I ep, .slice A0 n0 a,I lp, .slice R0 n1 r,I st, .slice C0 n2 c0,I ho, .slice (some ⟨yb,yo,none⟩) 2 d0] wx A n cp ts)
   case first=>
    go_region_law (go_simp;go_at_call 111;refine Rq.out.mono ?_;rintro e wf ⟨rfl,hb⟩;have HCF:=ae (HW.out.call (ah (Below.refl _ wr).drew hb));clear hb)
    all_goals
     go_wp2_with fail;go_meet;exact ⟨rfl,rfl,HCF.out⟩
   case rest=>
    obtain ⟨rfl,rfl,hys0⟩:=hcut;have yC:=ae hys0;clear v0 v1 v2 v3 v7 dQ yY yZ y7 y8 y9 zf zh zi y13 zk;clear hys0 Rq;obtain ⟨wZ,Qh⟩:∃t,Gg cal bg yy r0 r1 ts=t:=⟨_,rfl⟩;have QU:=ae Qh;have HTB0:Hid (Q8 wZ):=ae (by rw [←QU.out];exact xW tK.out HC.out HR0.out HR1.out (by omega) (by omega));clear Qh;cases fb0 with
    |false=>
     have hte:wZ=ts:=by rw [←QU.out];unfold Gg;rw [HPR0.out];rfl
     have HB0:Hid (YS w #[I ep, .slice A0 n0 a,I lp, .slice R0 n1 r,I st, .slice C0 n2 c0,I ho, .slice (some ⟨yb,yo,none⟩) 2 d0] wc A n cp wZ):=ae (by rw [hte];exact yC.out);clear hte;have v0:wc.cell? ⟨w.heap.size,0,none⟩=some (I ep):=HB0.out.row.2 0;have v1:wc.cell? ⟨w.heap.size,1,none⟩=some (.slice A0 n0 a):=HB0.out.row.2 1;have v2:wc.cell? ⟨w.heap.size,2,none⟩=some (I lp):=HB0.out.row.2 2;have v3:wc.cell? ⟨w.heap.size,3,none⟩=some (.slice R0 n1 r):=HB0.out.row.2 3;have v7:wc.cell? ⟨w.heap.size,7,none⟩=some (.slice (some ⟨yb,yo,none⟩) 2 d0):=HB0.out.row.2 7;have dQ:=ae (HY.out wc HB0.out.up);have yY:wc.cell? ⟨yb,yo,none⟩=some (I r0.month):=dQ.out.a 0 _ rfl;have yZ:wc.cell? ⟨yb,yo+1,none⟩=some (I r0.di):=dQ.out.a 1 _ rfl;have y7:wc.cell? ⟨yb,yo+2,none⟩=some (I r0.dm):=dQ.out.a 2 _ rfl;have y8:wc.cell? ⟨yb,yo+3,none⟩=some (I r0.minute):=dQ.out.a 3 _ rfl;have y9:wc.cell? ⟨yb,yo+4,none⟩=some (I r0.off):=dQ.out.a 4 _ rfl;have zf:wc.cell? ⟨yb,yo+5,none⟩=some (I r1.month):=dQ.out.b 0 _ rfl;have zh:wc.cell? ⟨yb,yo+6,none⟩=some (I r1.di):=dQ.out.b 1 _ rfl;have zi:wc.cell? ⟨yb,yo+7,none⟩=some (I r1.dm):=dQ.out.b 2 _ rfl;have y13:wc.cell? ⟨yb,yo+8,none⟩=some (I r1.minute):=dQ.out.b 3 _ rfl;have zk:wc.cell? ⟨yb,yo+9,none⟩=some (I r1.off):=dQ.out.b 4 _ rfl;go_wp2_with fail;rw [rounds_succ];go_upto_region 12 with fail;have lX:=HFI.out bg yy r1 wc.drew HR1.out (by omega) (by omega) (by omega) HB0.out.up.drew;have Ub:=Bd cal bg yy r1 HC.out HR1.out (by omega);obtain ⟨pr1,CV⟩:∃pr,findF cal bg yy r1=pr:=⟨_,rfl⟩;rw [CV] at lX Ub;have RU:=ae CV;obtain ⟨fd1,VK⟩:=pr1;simp only at lX Ub;have BA:=ae lX;clear lX CV
     go_cut [9,10] (fun d ok wx=>d=I fd1∧ok= .bool VK∧YS w #[I ep, .slice A0 n0 a,I lp, .slice R0 n1 r,I st, .slice C0 n2 c0,I ho, .slice (some ⟨yb,yo,none⟩) 2 d0] wx A n cp wZ)
     case first=>
      go_region_law (go_simp;go_at_call 111;refine BA.out.mono ?_;rintro e wf ⟨rfl,hb⟩;have HCF:=ae (HB0.out.call (ah (Below.refl _ wc).drew hb));clear hb)
      all_goals
       go_wp2_with fail;go_meet;exact ⟨rfl,rfl,HCF.out⟩
     case rest=>
      obtain ⟨rfl,rfl,Ul⟩:=hcut;have HA1:=ae Ul;clear v0 v1 v2 v3 v7 dQ yY yZ y7 y8 y9 zf zh zi y13 zk;clear Ul BA;obtain ⟨DI,GU⟩:∃t,Gg cal bg yy r1 r0 wZ=t:=⟨_,rfl⟩;have Gj:=ae GU;have RZ:Hid (Q8 DI):=ae (by rw [←Gj.out];exact xW HTB0.out HC.out HR1.out HR0.out (by omega) (by omega));clear GU;cases VK with
      |false=>
       have hte:DI=wZ:=by rw [←Gj.out];unfold Gg;rw [RU.out];rfl
       have HB1:Hid (YS w #[I ep, .slice A0 n0 a,I lp, .slice R0 n1 r,I st, .slice C0 n2 c0,I ho, .slice (some ⟨yb,yo,none⟩) 2 d0] wc A n cp DI):=ae (by rw [hte];exact HA1.out);clear hte;have v0:wc.cell? ⟨w.heap.size,0,none⟩=some (I ep):=HB1.out.row.2 0;have v1:wc.cell? ⟨w.heap.size,1,none⟩=some (.slice A0 n0 a):=HB1.out.row.2 1;have v2:wc.cell? ⟨w.heap.size,2,none⟩=some (I lp):=HB1.out.row.2 2;have v3:wc.cell? ⟨w.heap.size,3,none⟩=some (.slice R0 n1 r):=HB1.out.row.2 3;have v7:wc.cell? ⟨w.heap.size,7,none⟩=some (.slice (some ⟨yb,yo,none⟩) 2 d0):=HB1.out.row.2 7;have dQ:=ae (HY.out wc HB1.out.up);have yY:wc.cell? ⟨yb,yo,none⟩=some (I r0.month):=dQ.out.a 0 _ rfl;have yZ:wc.cell? ⟨yb,yo+1,none⟩=some (I r0.di):=dQ.out.a 1 _ rfl;have y7:wc.cell? ⟨yb,yo+2,none⟩=some (I r0.dm):=dQ.out.a 2 _ rfl;have y8:wc.cell? ⟨yb,yo+3,none⟩=some (I r0.minute):=dQ.out.a 3 _ rfl;have y9:wc.cell? ⟨yb,yo+4,none⟩=some (I r0.off):=dQ.out.a 4 _ rfl;have zf:wc.cell? ⟨yb,yo+5,none⟩=some (I r1.month):=dQ.out.b 0 _ rfl;have zh:wc.cell? ⟨yb,yo+6,none⟩=some (I r1.di):=dQ.out.b 1 _ rfl;have zi:wc.cell? ⟨yb,yo+7,none⟩=some (I r1.dm):=dQ.out.b 2 _ rfl;have y13:wc.cell? ⟨yb,yo+8,none⟩=some (I r1.minute):=dQ.out.b 3 _ rfl;have zk:wc.cell? ⟨yb,yo+9,none⟩=some (I r1.off):=dQ.out.b 4 _ rfl;go_wp2_with fail;rw [rounds_succ];go_wp2_with fail;clear v0 v1 v2 v3 v7 dQ yY yZ y7 y8 y9 zf zh zi y13 zk;have hge:=qo cal yy HC.out;have hbd2:=nI cal yy HC.out;obtain ⟨f',hf1,hf2⟩:=uY HF.out hlt YN.out hge;rw [QU.out,Gj.out] at hf2;have hcy:=lW.out yy wc (by omega) HB1.out.up;obtain ⟨yl,hyl⟩:∃v,je cal yy=v:=⟨_,rfl⟩;rw [hyl] at hf1 hf2 hcy hge hbd2;have VX:=ae hf1;have HF2:=ae hf2;refine hcy.mono ?_;clear hcy hyl hf1 hf2;rintro e wz ⟨rfl,hb⟩;have HZ:=ae (HB1.out.call hb);clear hb;go_wp2_with fail;go_roundw
       case rel=>exact ⟨f',bg+yl,yy+1,_,n,_,DI,by first|rfl|go_num,by go_num,by go_num,by omega,by omega,by omega,by omega,by omega,VX.out,HF2.out,RZ.out,HZ.out⟩
       case measure=>simp [intOf];omega
      |true=>
       have hte:DI=vJ wZ ⟨fd1*1440+r1.minute - r0.off,r1.off⟩:=by rw [←Gj.out];unfold Gg;rw [RU.out];rfl
       have aab:=ae hte;have Xe:=HR1.out.mi;have Xg:=HR0.out.of;clear hte;have v0:wc.cell? ⟨w.heap.size,0,none⟩=some (I ep):=HA1.out.row.2 0;have v1:wc.cell? ⟨w.heap.size,1,none⟩=some (.slice A0 n0 a):=HA1.out.row.2 1;have v2:wc.cell? ⟨w.heap.size,2,none⟩=some (I lp):=HA1.out.row.2 2;have v3:wc.cell? ⟨w.heap.size,3,none⟩=some (.slice R0 n1 r):=HA1.out.row.2 3;have v7:wc.cell? ⟨w.heap.size,7,none⟩=some (.slice (some ⟨yb,yo,none⟩) 2 d0):=HA1.out.row.2 7;have dQ:=ae (HY.out wc HA1.out.up);have yY:wc.cell? ⟨yb,yo,none⟩=some (I r0.month):=dQ.out.a 0 _ rfl;have yZ:wc.cell? ⟨yb,yo+1,none⟩=some (I r0.di):=dQ.out.a 1 _ rfl;have y7:wc.cell? ⟨yb,yo+2,none⟩=some (I r0.dm):=dQ.out.a 2 _ rfl;have y8:wc.cell? ⟨yb,yo+3,none⟩=some (I r0.minute):=dQ.out.a 3 _ rfl;have y9:wc.cell? ⟨yb,yo+4,none⟩=some (I r0.off):=dQ.out.a 4 _ rfl;have zf:wc.cell? ⟨yb,yo+5,none⟩=some (I r1.month):=dQ.out.b 0 _ rfl;have zh:wc.cell? ⟨yb,yo+6,none⟩=some (I r1.di):=dQ.out.b 1 _ rfl;have zi:wc.cell? ⟨yb,yo+7,none⟩=some (I r1.dm):=dQ.out.b 2 _ rfl;have y13:wc.cell? ⟨yb,yo+8,none⟩=some (I r1.minute):=dQ.out.b 3 _ rfl;have zk:wc.cell? ⟨yb,yo+9,none⟩=some (I r1.off):=dQ.out.b 4 _ rfl;have hw0:IntKind.i64.wrap 0=0:=by rw [IntKind.wrap_i64];omega
       have hw1:IntKind.i64.wrap 1=1:=by rw [IntKind.wrap_i64];omega
       have hw2:IntKind.i64.wrap (fd1*1440)=fd1*1440:=by rw [IntKind.wrap_i64];omega
       have hw3:IntKind.i64.wrap (fd1*1440+r1.minute)=fd1*1440+r1.minute:=by rw [IntKind.wrap_i64];omega
       have hw4:IntKind.i64.wrap (fd1*1440+r1.minute - r0.off)=fd1*1440+r1.minute - r0.off:=by rw [IntKind.wrap_i64];omega
       go_wp2_with fail;go_still_tail 25,(by kernel_rfl);change wpList _ _ _ _ _ wc.drew;go_wp2_with fail;clear v0 v1 v2 v3 v7 dQ yY yZ y7 y8 y9 zf zh zi y13 zk;have hown1:iO (w.heap.size+1) wc.drew A n cp wZ:=HA1.out.own;refine (wG (w.heap.size+1) n cp A wZ ⟨fd1*1440+r1.minute - r0.off,r1.off⟩ wc.drew HA1.out.len (by omega) HA1.out.lo hown1).mono ?_;clear hown1 Xe Xg hw0 hw1 hw2 hw3 hw4;rintro e tH ⟨A1',cp1',rfl,hown,hb⟩;have HB1:Hid (YS w #[I ep, .slice A0 n0 a,I lp, .slice R0 n1 r,I st, .slice C0 n2 c0,I ho, .slice (some ⟨yb,yo,none⟩) 2 d0] tH A1' (n+1) cp1' DI):=ae (by
        rw [aab.out];exact (HA1.out.call (Below.refl _ wc).drew).ins hb hown (by rw [xC,HA1.out.len]))
       clear hb hown;have v0:tH.cell? ⟨w.heap.size,0,none⟩=some (I ep):=HB1.out.row.2 0;have v1:tH.cell? ⟨w.heap.size,1,none⟩=some (.slice A0 n0 a):=HB1.out.row.2 1;have v2:tH.cell? ⟨w.heap.size,2,none⟩=some (I lp):=HB1.out.row.2 2;have v3:tH.cell? ⟨w.heap.size,3,none⟩=some (.slice R0 n1 r):=HB1.out.row.2 3;have v7:tH.cell? ⟨w.heap.size,7,none⟩=some (.slice (some ⟨yb,yo,none⟩) 2 d0):=HB1.out.row.2 7;have dQ:=ae (HY.out tH HB1.out.up);have yY:tH.cell? ⟨yb,yo,none⟩=some (I r0.month):=dQ.out.a 0 _ rfl;have yZ:tH.cell? ⟨yb,yo+1,none⟩=some (I r0.di):=dQ.out.a 1 _ rfl;have y7:tH.cell? ⟨yb,yo+2,none⟩=some (I r0.dm):=dQ.out.a 2 _ rfl;have y8:tH.cell? ⟨yb,yo+3,none⟩=some (I r0.minute):=dQ.out.a 3 _ rfl;have y9:tH.cell? ⟨yb,yo+4,none⟩=some (I r0.off):=dQ.out.a 4 _ rfl;have zf:tH.cell? ⟨yb,yo+5,none⟩=some (I r1.month):=dQ.out.b 0 _ rfl;have zh:tH.cell? ⟨yb,yo+6,none⟩=some (I r1.di):=dQ.out.b 1 _ rfl;have zi:tH.cell? ⟨yb,yo+7,none⟩=some (I r1.dm):=dQ.out.b 2 _ rfl;have y13:tH.cell? ⟨yb,yo+8,none⟩=some (I r1.minute):=dQ.out.b 3 _ rfl;have zk:tH.cell? ⟨yb,yo+9,none⟩=some (I r1.off):=dQ.out.b 4 _ rfl;go_wp2_with fail;rw [rounds_succ];go_wp2_with fail;clear v0 v1 v2 v3 v7 dQ yY yZ y7 y8 y9 zf zh zi y13 zk;have hge:=qo cal yy HC.out;have hbd2:=nI cal yy HC.out;obtain ⟨f',hf1,hf2⟩:=uY HF.out hlt YN.out hge;rw [QU.out,Gj.out] at hf2;have hcy:=lW.out yy tH (by omega) HB1.out.up;obtain ⟨yl,hyl⟩:∃v,je cal yy=v:=⟨_,rfl⟩;rw [hyl] at hf1 hf2 hcy hge hbd2;have VX:=ae hf1;have HF2:=ae hf2;refine hcy.mono ?_;clear hcy hyl hf1 hf2;rintro e wz ⟨rfl,hb⟩;have HZ:=ae (HB1.out.call hb);clear hb;go_wp2_with fail;go_roundw
       case rel=>exact ⟨f',bg+yl,yy+1,_,(n+1),_,DI,by first|rfl|go_num,by go_num,by go_num,by omega,by omega,by omega,by omega,by omega,VX.out,HF2.out,RZ.out,HZ.out⟩
       case measure=>simp [intOf];omega
    |true=>
     have hte:wZ=vJ ts ⟨fd0*1440+r0.minute - r1.off,r0.off⟩:=by rw [←QU.out];unfold Gg;rw [HPR0.out];rfl
     have HTE0:=ae hte;have hmi0:=HR0.out.mi;have hof0:=HR1.out.of;clear hte;have v0:wc.cell? ⟨w.heap.size,0,none⟩=some (I ep):=yC.out.row.2 0;have v1:wc.cell? ⟨w.heap.size,1,none⟩=some (.slice A0 n0 a):=yC.out.row.2 1;have v2:wc.cell? ⟨w.heap.size,2,none⟩=some (I lp):=yC.out.row.2 2;have v3:wc.cell? ⟨w.heap.size,3,none⟩=some (.slice R0 n1 r):=yC.out.row.2 3;have v7:wc.cell? ⟨w.heap.size,7,none⟩=some (.slice (some ⟨yb,yo,none⟩) 2 d0):=yC.out.row.2 7;have dQ:=ae (HY.out wc yC.out.up);have yY:wc.cell? ⟨yb,yo,none⟩=some (I r0.month):=dQ.out.a 0 _ rfl;have yZ:wc.cell? ⟨yb,yo+1,none⟩=some (I r0.di):=dQ.out.a 1 _ rfl;have y7:wc.cell? ⟨yb,yo+2,none⟩=some (I r0.dm):=dQ.out.a 2 _ rfl;have y8:wc.cell? ⟨yb,yo+3,none⟩=some (I r0.minute):=dQ.out.a 3 _ rfl;have y9:wc.cell? ⟨yb,yo+4,none⟩=some (I r0.off):=dQ.out.a 4 _ rfl;have zf:wc.cell? ⟨yb,yo+5,none⟩=some (I r1.month):=dQ.out.b 0 _ rfl;have zh:wc.cell? ⟨yb,yo+6,none⟩=some (I r1.di):=dQ.out.b 1 _ rfl;have zi:wc.cell? ⟨yb,yo+7,none⟩=some (I r1.dm):=dQ.out.b 2 _ rfl;have y13:wc.cell? ⟨yb,yo+8,none⟩=some (I r1.minute):=dQ.out.b 3 _ rfl;have zk:wc.cell? ⟨yb,yo+9,none⟩=some (I r1.off):=dQ.out.b 4 _ rfl;have hw0:IntKind.i64.wrap 0=0:=by rw [IntKind.wrap_i64];omega
     have hw1:IntKind.i64.wrap 1=1:=by rw [IntKind.wrap_i64];omega
     have hw2:IntKind.i64.wrap (fd0*1440)=fd0*1440:=by rw [IntKind.wrap_i64];omega
     have hw3:IntKind.i64.wrap (fd0*1440+r0.minute)=fd0*1440+r0.minute:=by rw [IntKind.wrap_i64];omega
     have hw4:IntKind.i64.wrap (fd0*1440+r0.minute - r1.off)=fd0*1440+r0.minute - r1.off:=by rw [IntKind.wrap_i64];omega
     go_wp2_with fail;go_still_tail 25,(by kernel_rfl);change wpList _ _ _ _ _ wc.drew;go_wp2_with fail;clear v0 v1 v2 v3 v7 dQ yY yZ y7 y8 y9 zf zh zi y13 zk;have hown0:iO (w.heap.size+1) wc.drew A n cp ts:=yC.out.own;refine (wG (w.heap.size+1) n cp A ts ⟨fd0*1440+r0.minute - r1.off,r0.off⟩ wc.drew yC.out.len (by omega) yC.out.lo hown0).mono ?_;clear hown0 hmi0 hof0 hw0 hw1 hw2 hw3 hw4;rintro e Ia ⟨A0',Tq,rfl,hown,hb⟩;have HB0:Hid (YS w #[I ep, .slice A0 n0 a,I lp, .slice R0 n1 r,I st, .slice C0 n2 c0,I ho, .slice (some ⟨yb,yo,none⟩) 2 d0] Ia A0' (n+1) Tq wZ):=ae (by
      rw [HTE0.out];exact (yC.out.call (Below.refl _ wc).drew).ins hb hown (by rw [xC,yC.out.len]))
     clear hb hown;have v0:Ia.cell? ⟨w.heap.size,0,none⟩=some (I ep):=HB0.out.row.2 0;have v1:Ia.cell? ⟨w.heap.size,1,none⟩=some (.slice A0 n0 a):=HB0.out.row.2 1;have v2:Ia.cell? ⟨w.heap.size,2,none⟩=some (I lp):=HB0.out.row.2 2;have v3:Ia.cell? ⟨w.heap.size,3,none⟩=some (.slice R0 n1 r):=HB0.out.row.2 3;have v7:Ia.cell? ⟨w.heap.size,7,none⟩=some (.slice (some ⟨yb,yo,none⟩) 2 d0):=HB0.out.row.2 7;have dQ:=ae (HY.out Ia HB0.out.up);have yY:Ia.cell? ⟨yb,yo,none⟩=some (I r0.month):=dQ.out.a 0 _ rfl;have yZ:Ia.cell? ⟨yb,yo+1,none⟩=some (I r0.di):=dQ.out.a 1 _ rfl;have y7:Ia.cell? ⟨yb,yo+2,none⟩=some (I r0.dm):=dQ.out.a 2 _ rfl;have y8:Ia.cell? ⟨yb,yo+3,none⟩=some (I r0.minute):=dQ.out.a 3 _ rfl;have y9:Ia.cell? ⟨yb,yo+4,none⟩=some (I r0.off):=dQ.out.a 4 _ rfl;have zf:Ia.cell? ⟨yb,yo+5,none⟩=some (I r1.month):=dQ.out.b 0 _ rfl;have zh:Ia.cell? ⟨yb,yo+6,none⟩=some (I r1.di):=dQ.out.b 1 _ rfl;have zi:Ia.cell? ⟨yb,yo+7,none⟩=some (I r1.dm):=dQ.out.b 2 _ rfl;have y13:Ia.cell? ⟨yb,yo+8,none⟩=some (I r1.minute):=dQ.out.b 3 _ rfl;have zk:Ia.cell? ⟨yb,yo+9,none⟩=some (I r1.off):=dQ.out.b 4 _ rfl;go_wp2_with fail;rw [rounds_succ];go_upto_region 12 with fail;have lX:=HFI.out bg yy r1 Ia.drew HR1.out (by omega) (by omega) (by omega) HB0.out.up.drew;have Ub:=Bd cal bg yy r1 HC.out HR1.out (by omega);obtain ⟨pr1,CV⟩:∃pr,findF cal bg yy r1=pr:=⟨_,rfl⟩;rw [CV] at lX Ub;have RU:=ae CV;obtain ⟨fd1,VK⟩:=pr1;simp only at lX Ub;have BA:=ae lX;clear lX CV
     go_cut [9,10] (fun d ok wx=>d=I fd1∧ok= .bool VK∧YS w #[I ep, .slice A0 n0 a,I lp, .slice R0 n1 r,I st, .slice C0 n2 c0,I ho, .slice (some ⟨yb,yo,none⟩) 2 d0] wx A0' (n+1) Tq wZ)
     case first=>
      go_region_law (go_simp;go_at_call 111;refine BA.out.mono ?_;rintro e wf ⟨rfl,hb⟩;have HCF:=ae (HB0.out.call (ah (Below.refl _ Ia).drew hb));clear hb)
      all_goals
       go_wp2_with fail;go_meet;exact ⟨rfl,rfl,HCF.out⟩
     case rest=>
      obtain ⟨rfl,rfl,Ul⟩:=hcut;have HA1:=ae Ul;clear v0 v1 v2 v3 v7 dQ yY yZ y7 y8 y9 zf zh zi y13 zk;clear Ul BA;obtain ⟨DI,GU⟩:∃t,Gg cal bg yy r1 r0 wZ=t:=⟨_,rfl⟩;have Gj:=ae GU;have RZ:Hid (Q8 DI):=ae (by rw [←Gj.out];exact xW HTB0.out HC.out HR1.out HR0.out (by omega) (by omega));clear GU;cases VK with
      |false=>
       have hte:DI=wZ:=by rw [←Gj.out];unfold Gg;rw [RU.out];rfl
       have HB1:Hid (YS w #[I ep, .slice A0 n0 a,I lp, .slice R0 n1 r,I st, .slice C0 n2 c0,I ho, .slice (some ⟨yb,yo,none⟩) 2 d0] wc A0' (n+1) Tq DI):=ae (by rw [hte];exact HA1.out);clear hte;have v0:wc.cell? ⟨w.heap.size,0,none⟩=some (I ep):=HB1.out.row.2 0;have v1:wc.cell? ⟨w.heap.size,1,none⟩=some (.slice A0 n0 a):=HB1.out.row.2 1;have v2:wc.cell? ⟨w.heap.size,2,none⟩=some (I lp):=HB1.out.row.2 2;have v3:wc.cell? ⟨w.heap.size,3,none⟩=some (.slice R0 n1 r):=HB1.out.row.2 3;have v7:wc.cell? ⟨w.heap.size,7,none⟩=some (.slice (some ⟨yb,yo,none⟩) 2 d0):=HB1.out.row.2 7;have dQ:=ae (HY.out wc HB1.out.up);have yY:wc.cell? ⟨yb,yo,none⟩=some (I r0.month):=dQ.out.a 0 _ rfl;have yZ:wc.cell? ⟨yb,yo+1,none⟩=some (I r0.di):=dQ.out.a 1 _ rfl;have y7:wc.cell? ⟨yb,yo+2,none⟩=some (I r0.dm):=dQ.out.a 2 _ rfl;have y8:wc.cell? ⟨yb,yo+3,none⟩=some (I r0.minute):=dQ.out.a 3 _ rfl;have y9:wc.cell? ⟨yb,yo+4,none⟩=some (I r0.off):=dQ.out.a 4 _ rfl;have zf:wc.cell? ⟨yb,yo+5,none⟩=some (I r1.month):=dQ.out.b 0 _ rfl;have zh:wc.cell? ⟨yb,yo+6,none⟩=some (I r1.di):=dQ.out.b 1 _ rfl;have zi:wc.cell? ⟨yb,yo+7,none⟩=some (I r1.dm):=dQ.out.b 2 _ rfl;have y13:wc.cell? ⟨yb,yo+8,none⟩=some (I r1.minute):=dQ.out.b 3 _ rfl;have zk:wc.cell? ⟨yb,yo+9,none⟩=some (I r1.off):=dQ.out.b 4 _ rfl;go_wp2_with fail;rw [rounds_succ];go_wp2_with fail;clear v0 v1 v2 v3 v7 dQ yY yZ y7 y8 y9 zf zh zi y13 zk;have hge:=qo cal yy HC.out;have hbd2:=nI cal yy HC.out;obtain ⟨f',hf1,hf2⟩:=uY HF.out hlt YN.out hge;rw [QU.out,Gj.out] at hf2;have hcy:=lW.out yy wc (by omega) HB1.out.up;obtain ⟨yl,hyl⟩:∃v,je cal yy=v:=⟨_,rfl⟩;rw [hyl] at hf1 hf2 hcy hge hbd2;have VX:=ae hf1;have HF2:=ae hf2;refine hcy.mono ?_;clear hcy hyl hf1 hf2;rintro e wz ⟨rfl,hb⟩;have HZ:=ae (HB1.out.call hb);clear hb;go_wp2_with fail;go_roundw
       case rel=>exact ⟨f',bg+yl,yy+1,_,(n+1),_,DI,by first|rfl|go_num,by go_num,by go_num,by omega,by omega,by omega,by omega,by omega,VX.out,HF2.out,RZ.out,HZ.out⟩
       case measure=>simp [intOf];omega
      |true=>
       have hte:DI=vJ wZ ⟨fd1*1440+r1.minute - r0.off,r1.off⟩:=by rw [←Gj.out];unfold Gg;rw [RU.out];rfl
       have aab:=ae hte;have Xe:=HR1.out.mi;have Xg:=HR0.out.of;clear hte;have v0:wc.cell? ⟨w.heap.size,0,none⟩=some (I ep):=HA1.out.row.2 0;have v1:wc.cell? ⟨w.heap.size,1,none⟩=some (.slice A0 n0 a):=HA1.out.row.2 1;have v2:wc.cell? ⟨w.heap.size,2,none⟩=some (I lp):=HA1.out.row.2 2;have v3:wc.cell? ⟨w.heap.size,3,none⟩=some (.slice R0 n1 r):=HA1.out.row.2 3;have v7:wc.cell? ⟨w.heap.size,7,none⟩=some (.slice (some ⟨yb,yo,none⟩) 2 d0):=HA1.out.row.2 7;have dQ:=ae (HY.out wc HA1.out.up);have yY:wc.cell? ⟨yb,yo,none⟩=some (I r0.month):=dQ.out.a 0 _ rfl;have yZ:wc.cell? ⟨yb,yo+1,none⟩=some (I r0.di):=dQ.out.a 1 _ rfl;have y7:wc.cell? ⟨yb,yo+2,none⟩=some (I r0.dm):=dQ.out.a 2 _ rfl;have y8:wc.cell? ⟨yb,yo+3,none⟩=some (I r0.minute):=dQ.out.a 3 _ rfl;have y9:wc.cell? ⟨yb,yo+4,none⟩=some (I r0.off):=dQ.out.a 4 _ rfl;have zf:wc.cell? ⟨yb,yo+5,none⟩=some (I r1.month):=dQ.out.b 0 _ rfl;have zh:wc.cell? ⟨yb,yo+6,none⟩=some (I r1.di):=dQ.out.b 1 _ rfl;have zi:wc.cell? ⟨yb,yo+7,none⟩=some (I r1.dm):=dQ.out.b 2 _ rfl;have y13:wc.cell? ⟨yb,yo+8,none⟩=some (I r1.minute):=dQ.out.b 3 _ rfl;have zk:wc.cell? ⟨yb,yo+9,none⟩=some (I r1.off):=dQ.out.b 4 _ rfl;have hw0:IntKind.i64.wrap 0=0:=by rw [IntKind.wrap_i64];omega
       have hw1:IntKind.i64.wrap 1=1:=by rw [IntKind.wrap_i64];omega
       have hw2:IntKind.i64.wrap (fd1*1440)=fd1*1440:=by rw [IntKind.wrap_i64];omega
       have hw3:IntKind.i64.wrap (fd1*1440+r1.minute)=fd1*1440+r1.minute:=by rw [IntKind.wrap_i64];omega
       have hw4:IntKind.i64.wrap (fd1*1440+r1.minute - r0.off)=fd1*1440+r1.minute - r0.off:=by rw [IntKind.wrap_i64];omega
       go_wp2_with fail;go_still_tail 25,(by kernel_rfl);change wpList _ _ _ _ _ wc.drew;go_wp2_with fail;clear v0 v1 v2 v3 v7 dQ yY yZ y7 y8 y9 zf zh zi y13 zk;have hown1:iO (w.heap.size+1) wc.drew A0' (n+1) Tq wZ:=HA1.out.own;refine (wG (w.heap.size+1) (n+1) Tq A0' wZ ⟨fd1*1440+r1.minute - r0.off,r1.off⟩ wc.drew HA1.out.len (by omega) HA1.out.lo hown1).mono ?_;clear hown1 Xe Xg hw0 hw1 hw2 hw3 hw4;rintro e tH ⟨A1',cp1',rfl,hown,hb⟩;have HB1:Hid (YS w #[I ep, .slice A0 n0 a,I lp, .slice R0 n1 r,I st, .slice C0 n2 c0,I ho, .slice (some ⟨yb,yo,none⟩) 2 d0] tH A1' ((n+1)+1) cp1' DI):=ae (by
        rw [aab.out];exact (HA1.out.call (Below.refl _ wc).drew).ins hb hown (by rw [xC,HA1.out.len]))
       clear hb hown;have v0:tH.cell? ⟨w.heap.size,0,none⟩=some (I ep):=HB1.out.row.2 0;have v1:tH.cell? ⟨w.heap.size,1,none⟩=some (.slice A0 n0 a):=HB1.out.row.2 1;have v2:tH.cell? ⟨w.heap.size,2,none⟩=some (I lp):=HB1.out.row.2 2;have v3:tH.cell? ⟨w.heap.size,3,none⟩=some (.slice R0 n1 r):=HB1.out.row.2 3;have v7:tH.cell? ⟨w.heap.size,7,none⟩=some (.slice (some ⟨yb,yo,none⟩) 2 d0):=HB1.out.row.2 7;have dQ:=ae (HY.out tH HB1.out.up);have yY:tH.cell? ⟨yb,yo,none⟩=some (I r0.month):=dQ.out.a 0 _ rfl;have yZ:tH.cell? ⟨yb,yo+1,none⟩=some (I r0.di):=dQ.out.a 1 _ rfl;have y7:tH.cell? ⟨yb,yo+2,none⟩=some (I r0.dm):=dQ.out.a 2 _ rfl;have y8:tH.cell? ⟨yb,yo+3,none⟩=some (I r0.minute):=dQ.out.a 3 _ rfl;have y9:tH.cell? ⟨yb,yo+4,none⟩=some (I r0.off):=dQ.out.a 4 _ rfl;have zf:tH.cell? ⟨yb,yo+5,none⟩=some (I r1.month):=dQ.out.b 0 _ rfl;have zh:tH.cell? ⟨yb,yo+6,none⟩=some (I r1.di):=dQ.out.b 1 _ rfl;have zi:tH.cell? ⟨yb,yo+7,none⟩=some (I r1.dm):=dQ.out.b 2 _ rfl;have y13:tH.cell? ⟨yb,yo+8,none⟩=some (I r1.minute):=dQ.out.b 3 _ rfl;have zk:tH.cell? ⟨yb,yo+9,none⟩=some (I r1.off):=dQ.out.b 4 _ rfl;go_wp2_with fail;rw [rounds_succ];go_wp2_with fail;clear v0 v1 v2 v3 v7 dQ yY yZ y7 y8 y9 zf zh zi y13 zk;have hge:=qo cal yy HC.out;have hbd2:=nI cal yy HC.out;obtain ⟨f',hf1,hf2⟩:=uY HF.out hlt YN.out hge;rw [QU.out,Gj.out] at hf2;have hcy:=lW.out yy tH (by omega) HB1.out.up;obtain ⟨yl,hyl⟩:∃v,je cal yy=v:=⟨_,rfl⟩;rw [hyl] at hf1 hf2 hcy hge hbd2;have VX:=ae hf1;have HF2:=ae hf2;refine hcy.mono ?_;clear hcy hyl hf1 hf2;rintro e wz ⟨rfl,hb⟩;have HZ:=ae (HB1.out.call hb);clear hb;go_wp2_with fail;go_roundw
       case rel=>exact ⟨f',bg+yl,yy+1,_,((n+1)+1),_,DI,by first|rfl|go_num,by go_num,by go_num,by omega,by omega,by omega,by omega,by omega,VX.out,HF2.out,RZ.out,HZ.out⟩
       case measure=>simp [intOf];omega
  ·have hts:=NP HF.out hlt;subst hts;have hb0':Hid True:=ae trivial;clear hb0';go_wp2_with fail;clear v0 hlt;have hle:=HW.out.len;rcases Nat.eq_zero_or_pos n with hn0|hn0
   ·subst hn0;refine wp_loop_rounds 1 ?_;rw [rounds_succ];go_wp2_with fail;go_ret2;exact ⟨A,0,cp,hle,by rw [show dZ ts (q*1440)=true by rw [List.eq_nil_of_length_eq_zero hle];rfl];rfl,HW.out.own.lower (Nat.le_succ _),HW.out.up⟩
   ·obtain ⟨g,cap,hgv, -⟩:=eU HW.out.own hn0;injection hgv with hA hB hC;subst hA hC;clear hB;have Rz:=ae hle;have hnb:n≤1000:=by omega
    clear hle hy1 hy2 hb0 hbs hn2';have Eh:=ae (fun k=>BU k tK.out);clear tK HF YN HFI lW
    go_loopw [11] (fun i wr=>GRel w #[I ep, .slice A0 n0 a,I lp, .slice R0 n1 r,I st, .slice C0 n2 c0,I ho, .slice (some ⟨yb,yo,none⟩) 2 d0] (some ⟨g,0,none⟩) n cp ts (q*1440) i wr) (fun i _=>n - (intOf i).toNat)
    case atStart=>exact ⟨0,Nat.zero_le _,by go_num,(fun _ h=>absurd h (Nat.not_lt_zero _)),HW.out⟩
    case round=>
     obtain ⟨k,hk,rfl,hall,hys⟩:=hrel;have lQ:=ae hall;have HX:=ae hys;clear hall hys HW;by_cases hlt:k<n
     ·have x0:=rY HX.out.own HX.out.len 0 hn0;have x1:=rY HX.out.own HX.out.len k hlt;rw [Nat.zero_mul] at x0;have hb0:=Eh.out 0;have hb1:=Eh.out k;obtain ⟨a0,ha0⟩:∃v,fU ts 0=v:=⟨_,rfl⟩;obtain ⟨a1,ha1⟩:∃v,fU ts k=v:=⟨_,rfl⟩;rw [ha0] at x0 hb0;rw [ha1] at x1 hb1;have yC:=ae ha0;have HA1:=ae ha1;clear ha0 ha1;have i0:(0:Int)≤(k:Int):=by omega
      have i1:(k:Int)<(n:Int):=by omega
      have i2:(0:Int)<(n:Int):=by omega
      by_cases hlt1:k+1<n
      ·have x2:=rY HX.out.own HX.out.len (k+1) hlt1;have hb2:=Eh.out (k+1);obtain ⟨a2,ha2⟩:∃v,fU ts (k+1)=v:=⟨_,rfl⟩;rw [ha2] at x2 hb2;have HA2:=ae ha2;clear ha2;have i3:(k:Int)+1<(n:Int):=by omega
       have HG:Hid (lK ts (q*1440) k=a2 - a1):=ae (by unfold lK;rw [Rz.out,if_pos hlt1,HA2.out,HA1.out]);by_cases uP:a2 - a1<2160
       ·go_wp2_with fail;go_ret2;exact ⟨_,n,_,Rz.out,by rw [OG Rz.out hlt (by rw [HG.out];exact uP)];rfl,HX.out.own.lower (Nat.le_succ _),HX.out.up⟩
       ·go_wp2_with fail;go_roundw
        case rel=>exact ⟨k+1,by omega,by go_num,Fz lQ.out (by rw [HG.out];omega),HX.out⟩
        case measure=>simp [intOf];omega
      ·have i3:¬(k:Int)+1<(n:Int):=by omega
       have HG:Hid (lK ts (q*1440) k=a0+q*1440 - a1):=ae (by unfold lK;rw [Rz.out,if_neg hlt1,yC.out,HA1.out]);by_cases uP:a0+q*1440 - a1<2160
       ·go_wp2_with fail;go_ret2;exact ⟨_,n,_,Rz.out,by rw [OG Rz.out hlt (by rw [HG.out];exact uP)];rfl,HX.out.own.lower (Nat.le_succ _),HX.out.up⟩
       ·go_wp2_with fail;go_roundw
        case rel=>exact ⟨k+1,by omega,by go_num,Fz lQ.out (by rw [HG.out];omega),HX.out⟩
        case measure=>simp [intOf];omega
     ·have hnl:¬(k:Int)<(n:Int):=by omega
      have kY:Hid (k=n):=ae (by omega);go_wp2_with fail;go_ret2;exact ⟨_,n,_,Rz.out,by rw [Jt Rz.out (by rw [←kY.out];exact lQ.out)];rfl,HX.out.own.lower (Nat.le_succ _),HX.out.up⟩
end Go.Proofs.YtdibbemgpikgjaaGreat
