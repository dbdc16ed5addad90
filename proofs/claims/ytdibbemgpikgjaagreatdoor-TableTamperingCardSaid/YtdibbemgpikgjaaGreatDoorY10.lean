/- The texts Kd, in this order. -/
import Derived.Test.YtdibbemgpikgjaaGreatDoorY00
import Derived.Test.YtdibbemgpikgjaaGreatDoorY09
set_option maxRecDepth 10000
set_option maxHeartbeats 8000000
namespace Go.Proofs.YtdibbemgpikgjaaGreatDoor
open Go Go.RowKit
def Fp (c:Cal) (bg y:Int) (r r':Yr) (out:List Tr):List Tr:=if (findF c bg y r).2=true then uV out ⟨(findF c bg y r).1*1440+r.minute - r'.off,r.off⟩ else out
def lQ (c:Cal) (r0 r1:Yr) (stop:Int):Nat→Int→Int→List Tr→List Tr
 |0,_,_,out=>out
 |n+1,bg,y,out=>if bg<stop then lQ c r0 r1 stop n (bg+dI c y) (y+1) (Fp c bg y r1 r0 (Fp c bg y r0 r1 out)) else out
def rf (z:Zn):List Tr:=match z.aN with
 | [r0,r1]=>lQ z.cal r0 r1 (z.cal.aX+jL z) 1400 z.cal.aX 1 []
 |_=> []
def iT (ts:List Tr) (i:Nat):Int:=(ts[i]?.map (·.at_)).getD 0
def oO (ts:List Tr) (size:Int) (i:Nat):Int:=(if i+1<ts.length then iT ts (i+1) else iT ts 0+size) - iT ts i
def jS (ts:List Tr) (size:Int):Bool:=(List.range ts.length).all fun i=>decide (2160≤oO ts size i)
structure yh (r:Yr):Prop where
 mo:r.month=1∨r.month=2
 wk:1≤r.df∧r.df≤5
 wd:0≤r.dh∧r.dh≤6
 mi:0≤r.minute∧r.minute≤1439
 of: -1080≤r.off∧r.off≤1080
theorem qj (c:Cal) (y:Int) (hc:gW c):12≤dI c y:=by
 obtain ⟨ep,m0,m1,lp,rs,rfl,b1,b2,b3,b4,_⟩:=hc.form;simp only [dI,og,List.getElem?_cons_zero,List.getElem?_cons_succ,Option.getD_some];split<;>omega
theorem Xi (wd wk:Int) (n:Nat):∀d cn la:Int, -1≤la→la≤d→ -1≤(gK wd wk n d cn la).1∧(gK wd wk n d cn la).1≤d+n∨(gK wd wk n d cn la).1=d:=by
 induction n with
 |zero=>intro d cn la h1 h2;exact .inl ⟨h1,by show la≤_;omega⟩
 |succ n ih=>
  intro d cn la h1 h2;unfold gK;split
  ·split
   ·exact .inr rfl
   ·rcases ih (d+1) (cn+1) d (by omega) (by omega) with h|h
    ·exact .inl ⟨h.1,by omega⟩
    ·exact .inl ⟨by omega,by omega⟩
  ·rcases ih (d+1) cn la h1 (by omega) with h|h
   ·exact .inl ⟨h.1,by omega⟩
   ·exact .inl ⟨by omega,by omega⟩
theorem uF (c:Cal) (bg y:Int) (r:Yr) (hc:gW c) (hr:yh r) (hb:0≤bg): -1≤(findF c bg y r).1∧(findF c bg y r).1≤bg+30:=by
 have h1:=ku c y 1 hc (.inl rfl);have h2:=ku c y r.month hc hr.mo;have h3:bg≤oM c bg y r.month∧oM c bg y r.month≤bg+9:=by unfold oM;split<;>omega
 unfold findF;rcases Xi r.dh r.df (dn c y r.month).toNat (oM c bg y r.month) 0 (-1) (by omega) (by omega) with h|h
 ·omega
 ·omega
theorem TI {ts:List Tr} {t x:Tr} (h:x∈uV ts t):x=t∨x∈ts:=by
 unfold uV at h;rcases List.mem_append.1 h with h|h
 ·exact .inr (List.mem_of_mem_take h)
 ·rcases List.mem_cons.1 h with h|h
  ·exact .inl h
  ·exact .inr (List.mem_of_mem_drop h)
theorem iE.below {lo n c:Nat} {w w':World} {A:Option Addr} {ts:List Tr} (h:iE lo w A n c ts) (hb:Below w.heap.size w w'):iE lo w' A n c ts:=
 World.ownsRow.kept (row:=none) h ⟨hb.os,hb.tape,hb.output,hb.size,fun k hk _=>hb.block k hk⟩ (by cases (Value.slice A n c).ownBlock<;>simp)
structure YS (w:World) (cs:Array Value) (W:World) (A:Option Addr) (n c:Nat) (ts:List Tr):Prop where
 row:Row W w.heap.size cs
 own:iE (w.heap.size+1) W A n c ts
 up:Below w.heap.size w W
 len:ts.length=n
theorem YS.call {w W W':World} {cs:Array Value} {A:Option Addr} {n c:Nat} {ts:List Tr} (h:YS w cs W A n c ts) (hb:Below W.heap.size W W'):YS w cs W' A n c ts:=
 ⟨h.row.keep hb,h.own.below hb,ah h.up hb,h.len⟩
theorem YS.ins {w W W':World} {cs:Array Value} {A A':Option Addr} {n c c':Nat} {ts ts':List Tr} (h:YS w cs W A n c ts) (hb:Below (w.heap.size+1) W W') (ho:iE (w.heap.size+1) W' A' (n+1) c' ts') (hl:ts'.length=n+1):YS w cs W' A' (n+1) c' ts':=
 ⟨⟨dP h.row.1 hb.size,fun i=>(hb.cell (p:=⟨w.heap.size,i,none⟩) (Nat.lt_succ_self _)).trans (h.row.2 i)⟩,ho,h.up.trans (hb.mono (Nat.le_succ _)),hl⟩
theorem YS.lo {w W:World} {cs:Array Value} {A:Option Addr} {n c:Nat} {ts:List Tr} (h:YS w cs W A n c ts):w.heap.size+1≤W.heap.size:=h.row.1
def J3 (ts:List Tr):Prop:=∀x∈ts, -10000000≤x.at_∧x.at_≤100000000
theorem xH {c:Cal} {bg y:Int} {r r':Yr} {ts:List Tr} (h:J3 ts) (hc:gW c) (hr:yh r) (hr':yh r') (hb:0≤bg) (hb2:bg≤10000):J3 (Fp c bg y r r' ts):=by
 have h1:=uF c bg y r hc hr hb;have h2:=hr.mi;have h3:=hr'.of;unfold Fp;split
 ·intro x hx;rcases TI hx with rfl|hx
  ·constructor<;>(simp only;omega)
  ·exact h x hx
 ·exact h
def YRel (w:World) (cs:Array Value) (c:Cal) (r0 r1:Yr) (ep stop:Int) (res:List Tr) (o b y:Value) (wr:World):Prop:=
 ∃(f:Nat) (bg yy:Int) (A:Option Addr) (n cp:Nat) (ts:List Tr),o= .slice A n cp∧b= .int .i64 bg∧y= .int .i64 yy∧1≤yy∧ep+12*(yy - 1)≤bg∧0≤bg∧bg≤stop+100∧(n:Int)≤2*(yy - 1)∧(stop - bg).toNat≤f∧lQ c r0 r1 stop f bg yy ts=res∧J3 ts∧YS w cs wr A n cp ts
structure YC (W:World) (b off:Nat) (r0 r1:Yr):Prop where
 a:W.rangeAt b off r0.cells
 b:W.rangeAt b (off+5) r1.cells
def RI (w:World) (ts:List Tr) (ok:Bool) (e:Ending) (w':World):Prop:=∃A n c,ts.length=n∧e= .returned (.tuple #[.slice A n c, .bool ok])∧iE w.heap.size w' A n c ts∧Below w.heap.size w w'
theorem iE.lower {lo lo' n c:Nat} {w:World} {A:Option Addr} {ts:List Tr} (h:iE lo w A n c ts) (hl:lo'≤lo):iE lo' w A n c ts:=by
 rcases h.2 with h2|⟨g,cap,cur,h1,h2,h3⟩
 ·exact ⟨h.1, .inl h2⟩
 ·exact ⟨h.1, .inr ⟨g,cap,cur,h1,Nat.le_trans hl h2,h3⟩⟩
def GRel (w:World) (cs:Array Value) (A:Option Addr) (n cp:Nat) (ts:List Tr) (size:Int) (i:Value) (wr:World):Prop:=
 ∃k:Nat,k≤n∧i= .int .i64 k∧(∀j,j<k→2160≤oO ts size j)∧YS w cs wr A n cp ts
theorem qo (z:Zn) (hc:gW z.cal):0≤jL z∧jL z≤1400:=by
 have h1:=FY z.cal hc;unfold jL IP;split
 ·omega
 ·split<;>omega
theorem uN {c:Cal} {r0 r1:Yr} {stop bg y:Int} {f:Nat} {ts res:List Tr} (h:lQ c r0 r1 stop f bg y ts=res) (hb:bg<stop) (hf:(stop - bg).toNat≤f) (hy:12≤dI c y):
  ∃f',(stop - (bg+dI c y)).toNat≤f'∧lQ c r0 r1 stop f' (bg+dI c y) (y+1) (Fp c bg y r1 r0 (Fp c bg y r0 r1 ts))=res:=by
 cases f with
 |zero=>omega
 |succ f=>exact ⟨f,by omega,by rw [lQ,if_pos hb] at h;exact h⟩
theorem Nu {c:Cal} {r0 r1:Yr} {stop bg y:Int} {f:Nat} {ts res:List Tr} (h:lQ c r0 r1 stop f bg y ts=res) (hb:¬bg<stop):ts=res:=by
 cases f with
 |zero=>exact h
 |succ f=>rw [lQ,if_neg hb] at h;exact h
theorem qx {ts:List Tr} (k:Nat) (h:J3 ts): -10000000≤iT ts k∧iT ts k≤100000000:=by
 unfold iT;cases e:ts[k]? with
 |none=>simp
 |some x=>exact h x (dS e)
theorem rQ {lo g n cp:Nat} {W:World} {ts:List Tr} (h:iE lo W (some ⟨g,0,none⟩) n cp ts) (hl:ts.length=n) (k:Nat) (hk:k<n):W.cell? ⟨g,k*2,none⟩=some (I (iT ts k)):=by
 have hx:ts[k]? =some ts[k]:=bZ (by omega);rw [World.ownsRow.cellAt h (k*2) (by omega),show k*2=k*2+0 from rfl,flat_get (s:=2) Tr.cells ts (fun _ _=>rfl) k 0 _ hx (by omega)];unfold iT;rw [hx];rfl
theorem SN {ts:List Tr} {n:Nat} {size:Int} (hl:ts.length=n) (h:∀j,j<n→2160≤oO ts size j):jS ts size=true:=by
 unfold jS;rw [List.all_eq_true];intro j hj;exact decide_eq_true (h j (by rw [←hl];exact List.mem_range.1 hj))
theorem Ol {ts:List Tr} {n k:Nat} {size:Int} (hl:ts.length=n) (hk:k<n) (h:oO ts size k<2160):jS ts size=false:=by
 unfold jS;rw [List.all_eq_false];exact ⟨k,List.mem_range.2 (by omega),by simp;omega⟩
theorem EL {ts:List Tr} {k:Nat} {size:Int} (h:∀j,j<k→2160≤oO ts size j) (h1:2160≤oO ts size k):∀j,j<k+1→2160≤oO ts size j:=by
 intro j hj;rcases Nat.lt_succ_iff_lt_or_eq.1 hj with h2|rfl
 ·exact h j h2
 ·exact h1
theorem Ns (z:Zn) (s:Zs) (r0 r1:Yr) (w:World) (hc:gW z.cal) (h:jG w w.heap.size s z) (hy:z.aN= [r0,r1]) (hr0:yh r0) (hr1:yh r1) (hlt:z.trans.length≤1000):Calls Tryz.prog 78 #[.agg (ay z s)] w (RI w (rf z) (jS (rf z) (jL z*1440))):=by
 have qE:Hid (∀W,Below w.heap.size w W→Calls Tryz.prog 80 #[.agg (ay z s)] W (Gives (I (jL z)) W)):=ae fun W hb=>Dn z s W hc (h.grow hb);have HFI:Hid (∀(bg y:Int) (x:Yr) W,yh x→0≤bg→bg≤100000→0≤y→Below w.heap.size w W→Calls Tryz.prog 95 #[.agg (aG z.cal s.A s.a s.B s.b),I bg,I y, .agg #[I x.month,I x.df,I x.dh,I x.minute,I x.off]] W (Gives (.tuple #[I (findF z.cal bg y x).1, .bool (findF z.cal bg y x).2]) W)):=
  ae fun bg y x W hx h1 h2 h3 hb=>SE z.cal s.A s.B s.a s.b bg y x W hc ⟨h.az.grow hb,h.rules.grow hb⟩ h1 h2 h3 hx.mo
 have nI:Hid (∀(y:Int) W,0≤y→Below w.heap.size w W→Calls Tryz.prog 97 #[.agg (aG z.cal s.A s.a s.B s.b),I y] W (Gives (I (dI z.cal y)) W)):=
  ae fun y W h1 hb=>Dk z.cal s.A s.B s.a s.b y W hc ⟨h.az.grow hb,h.rules.grow hb⟩ h1
 have hbd:=qo z hc;have hep:=hc.ep;have HC:=ae hc;obtain ⟨yb,yo,hD,hyb,D5⟩:=h.aN.there (by rw [hy];simp [Yr.cells]);have HY:Hid (∀W,Below w.heap.size w W→YC W yb yo r0 r1):=ae fun W hb=>by
  rw [hy] at D5;exact ⟨aQ (aA.elem (s:=5) (f:=Yr.cells) (xs:= [r0,r1]) (fun _ _=>rfl) D5 0 r0 rfl) hb hyb,aQ (aA.elem (s:=5) (f:=Yr.cells) (xs:= [r0,r1]) (fun _ _=>rfl) D5 1 r1 rfl) hb hyb⟩
 clear D5;obtain ⟨res,hres⟩:∃res,rf z=res:=⟨_,rfl⟩;rw [hres];have hres2:lQ z.cal r0 r1 (z.cal.aX+jL z) 1400 z.cal.aX 1 []=res:=by rw [←hres];unfold rf;rw [hy]
 clear hres;obtain ⟨q,hq⟩:∃q,jL z=q:=⟨_,rfl⟩;rw [hq] at qE hbd hres2 ⊢;have jD:=ae hres2;have HR0:=ae hr0;have HR1:=ae hr1;clear hres2 hq hr0 hr1 hc h;obtain ⟨cal,st,tr,ho,yr⟩:=z;obtain ⟨A0,a,R0,r,C0,c0,D0,d0⟩:=s;simp only at hy hD qE HFI nI hep HC jD hlt ⊢;subst hy hD;obtain ⟨ep,uT⟩:∃ep,cal.aX=ep:=⟨_,rfl⟩;rw [uT] at hep jD;obtain ⟨lp,xg⟩:∃lp,cal.dM=lp:=⟨_,rfl⟩;obtain ⟨n0,hn0⟩:∃n,cal.az.length=n:=⟨_,rfl⟩;obtain ⟨n1,hn1⟩:∃n,cal.rules.length=n:=⟨_,rfl⟩;obtain ⟨n2,hn2⟩:∃n,tr.length=n:=⟨_,rfl⟩;unfold ay aG at*;simp only [uT,xg,hn0,hn1,hn2,List.length_cons,List.length_nil,Nat.zero_add,Nat.reduceAdd] at qE HFI nI ⊢;clear uT xg hn0 hn1 hn2 hlt;have HV:Hid (YS w #[I ep, .slice A0 n0 a,I lp, .slice R0 n1 r,I st, .slice C0 n2 c0,I ho, .slice (some ⟨yb,yo,none⟩) 2 d0] ((w.alloc (.cells #[I ep, .slice A0 n0 a,I lp, .slice R0 n1 r,I st, .slice C0 n2 c0,I ho, .slice (some ⟨yb,yo,none⟩) 2 d0] 67)).alloc (.cells #[] 127)) (some ⟨w.heap.size+1,0,none⟩) 0 0 []):=
  ae ⟨(Row.new w _ _).keep (ag _ _),by have h:=gm (w.alloc (.cells #[I ep, .slice A0 n0 a,I lp, .slice R0 n1 r,I st, .slice C0 n2 c0,I ho, .slice (some ⟨yb,yo,none⟩) 2 d0] 67)) 127 2;simpa [iE] using h,ah (ag w _) (ag _ _),rfl⟩
 go_enter Tryz.func78,Tryz.ntmps78;go_wp2_with fail;refine (qE.out _ HV.out.up).mono ?_;rintro e w1 ⟨rfl,hb1⟩;have HW:=ae (HV.out.call hb1);clear hb1 HV qE;have v0:w1.cell? ⟨w.heap.size,0,none⟩=some (I ep):=HW.out.row.2 0;go_wp2_with fail;clear v0
 go_loopw [4,6,7] (fun o b y wr=>YRel w #[I ep, .slice A0 n0 a,I lp, .slice R0 n1 r,I st, .slice C0 n2 c0,I ho, .slice (some ⟨yb,yo,none⟩) 2 d0] cal r0 r1 ep (ep+q) res o b y wr) (fun _ b _ _=>((ep+q) - intOf b).toNat)
 case atStart=>exact ⟨1400,ep,1,_,0,_,[],rfl,by go_num,by go_num,by omega,by omega,by omega,by omega,by omega,by omega,jD.out,(fun _ h=>nomatch h),HW.out⟩
 case round=>
  obtain ⟨f,bg,yy,A,n,cp,ts,rfl,rfl,rfl,hy1,hy2,hb0,hbs,hn2',hf,hyf,htb,hys⟩:=hrel;have HF:=ae hyf;have O8:=ae htb;have HW:=ae hys;have X6:=ae hf;clear hyf htb hys hf;have v0:wr.cell? ⟨w.heap.size,0,none⟩=some (I ep):=HW.out.row.2 0;by_cases hlt:bg<ep+q
  ·clear v0;have v0:wr.cell? ⟨w.heap.size,0,none⟩=some (I ep):=HW.out.row.2 0;have v1:wr.cell? ⟨w.heap.size,1,none⟩=some (.slice A0 n0 a):=HW.out.row.2 1;have v2:wr.cell? ⟨w.heap.size,2,none⟩=some (I lp):=HW.out.row.2 2;have v3:wr.cell? ⟨w.heap.size,3,none⟩=some (.slice R0 n1 r):=HW.out.row.2 3;have v7:wr.cell? ⟨w.heap.size,7,none⟩=some (.slice (some ⟨yb,yo,none⟩) 2 d0):=HW.out.row.2 7;have dC:=ae (HY.out wr HW.out.up);have yE:wr.cell? ⟨yb,yo,none⟩=some (I r0.month):=dC.out.a 0 _ rfl;have yG:wr.cell? ⟨yb,yo+1,none⟩=some (I r0.df):=dC.out.a 1 _ rfl;have yH:wr.cell? ⟨yb,yo+2,none⟩=some (I r0.dh):=dC.out.a 2 _ rfl;have yI:wr.cell? ⟨yb,yo+3,none⟩=some (I r0.minute):=dC.out.a 3 _ rfl;have yJ:wr.cell? ⟨yb,yo+4,none⟩=some (I r0.off):=dC.out.a 4 _ rfl;have yK:wr.cell? ⟨yb,yo+5,none⟩=some (I r1.month):=dC.out.b 0 _ rfl;have yL:wr.cell? ⟨yb,yo+6,none⟩=some (I r1.df):=dC.out.b 1 _ rfl;have yM:wr.cell? ⟨yb,yo+7,none⟩=some (I r1.dh):=dC.out.b 2 _ rfl;have y13:wr.cell? ⟨yb,yo+8,none⟩=some (I r1.minute):=dC.out.b 3 _ rfl;have yN:wr.cell? ⟨yb,yo+9,none⟩=some (I r1.off):=dC.out.b 4 _ rfl;go_wp2_with fail;refine wp_loop_rounds 3 ?_;rw [rounds_succ];go_upto_region 12 with fail;have rM:=HFI.out bg yy r0 wr.drew HR0.out (by omega) (by omega) (by omega) HW.out.up.drew;have Wq:=uF cal bg yy r0 HC.out HR0.out (by omega);obtain ⟨pr0,LC⟩:∃pr,findF cal bg yy r0=pr:=⟨_,rfl⟩;rw [LC] at rM Wq;have HPR0:=ae LC;obtain ⟨fd0,fb0⟩:=pr0;simp only at rM Wq;have QX:=ae rM;clear rM LC
   go_cut [9,10] (fun d ok wx=>d=I fd0∧ok= .bool fb0∧YS w #[I ep, .slice A0 n0 a,I lp, .slice R0 n1 r,I st, .slice C0 n2 c0,I ho, .slice (some ⟨yb,yo,none⟩) 2 d0] wx A n cp ts)
   case first=>
    go_region_law (go_simp;go_at_call 95;refine QX.out.mono ?_;rintro e wf ⟨rfl,hb⟩;have HCF:=ae (HW.out.call (ah (Below.refl _ wr).drew hb));clear hb)
    all_goals
     go_wp2_with fail;go_meet;exact ⟨rfl,rfl,HCF.out⟩
   case rest=>
    obtain ⟨rfl,rfl,hys0⟩:=hcut;have uC:=ae hys0;clear v0 v1 v2 v3 v7 dC yE yG yH yI yJ yK yL yM y13 yN;clear hys0 QX;obtain ⟨wV,PR⟩:∃t,Fp cal bg yy r0 r1 ts=t:=⟨_,rfl⟩;have G9:=ae PR;have HTB0:Hid (J3 wV):=ae (by rw [←G9.out];exact xH O8.out HC.out HR0.out HR1.out (by omega) (by omega));clear PR;cases fb0 with
    |false=>
     have hte:wV=ts:=by rw [←G9.out];unfold Fp;rw [HPR0.out];rfl
     have HB0:Hid (YS w #[I ep, .slice A0 n0 a,I lp, .slice R0 n1 r,I st, .slice C0 n2 c0,I ho, .slice (some ⟨yb,yo,none⟩) 2 d0] wc A n cp wV):=ae (by rw [hte];exact uC.out);clear hte;have v0:wc.cell? ⟨w.heap.size,0,none⟩=some (I ep):=HB0.out.row.2 0;have v1:wc.cell? ⟨w.heap.size,1,none⟩=some (.slice A0 n0 a):=HB0.out.row.2 1;have v2:wc.cell? ⟨w.heap.size,2,none⟩=some (I lp):=HB0.out.row.2 2;have v3:wc.cell? ⟨w.heap.size,3,none⟩=some (.slice R0 n1 r):=HB0.out.row.2 3;have v7:wc.cell? ⟨w.heap.size,7,none⟩=some (.slice (some ⟨yb,yo,none⟩) 2 d0):=HB0.out.row.2 7;have dC:=ae (HY.out wc HB0.out.up);have yE:wc.cell? ⟨yb,yo,none⟩=some (I r0.month):=dC.out.a 0 _ rfl;have yG:wc.cell? ⟨yb,yo+1,none⟩=some (I r0.df):=dC.out.a 1 _ rfl;have yH:wc.cell? ⟨yb,yo+2,none⟩=some (I r0.dh):=dC.out.a 2 _ rfl;have yI:wc.cell? ⟨yb,yo+3,none⟩=some (I r0.minute):=dC.out.a 3 _ rfl;have yJ:wc.cell? ⟨yb,yo+4,none⟩=some (I r0.off):=dC.out.a 4 _ rfl;have yK:wc.cell? ⟨yb,yo+5,none⟩=some (I r1.month):=dC.out.b 0 _ rfl;have yL:wc.cell? ⟨yb,yo+6,none⟩=some (I r1.df):=dC.out.b 1 _ rfl;have yM:wc.cell? ⟨yb,yo+7,none⟩=some (I r1.dh):=dC.out.b 2 _ rfl;have y13:wc.cell? ⟨yb,yo+8,none⟩=some (I r1.minute):=dC.out.b 3 _ rfl;have yN:wc.cell? ⟨yb,yo+9,none⟩=some (I r1.off):=dC.out.b 4 _ rfl;go_wp2_with fail;rw [rounds_succ];go_upto_region 12 with fail;have lH:=HFI.out bg yy r1 wc.drew HR1.out (by omega) (by omega) (by omega) HB0.out.up.drew;have Lp:=uF cal bg yy r1 HC.out HR1.out (by omega);obtain ⟨pr1,BR⟩:∃pr,findF cal bg yy r1=pr:=⟨_,rfl⟩;rw [BR] at lH Lp;have Rj:=ae BR;obtain ⟨fd1,U1⟩:=pr1;simp only at lH Lp;have AQ:=ae lH;clear lH BR
     go_cut [9,10] (fun d ok wx=>d=I fd1∧ok= .bool U1∧YS w #[I ep, .slice A0 n0 a,I lp, .slice R0 n1 r,I st, .slice C0 n2 c0,I ho, .slice (some ⟨yb,yo,none⟩) 2 d0] wx A n cp wV)
     case first=>
      go_region_law (go_simp;go_at_call 95;refine AQ.out.mono ?_;rintro e wf ⟨rfl,hb⟩;have HCF:=ae (HB0.out.call (ah (Below.refl _ wc).drew hb));clear hb)
      all_goals
       go_wp2_with fail;go_meet;exact ⟨rfl,rfl,HCF.out⟩
     case rest=>
      obtain ⟨rfl,rfl,TD⟩:=hcut;have HA1:=ae TD;clear v0 v1 v2 v3 v7 dC yE yG yH yI yJ yK yL yM y13 yN;clear TD AQ;obtain ⟨DF,Gi⟩:∃t,Fp cal bg yy r1 r0 wV=t:=⟨_,rfl⟩;have FB:=ae Gi;have Rn:Hid (J3 DF):=ae (by rw [←FB.out];exact xH HTB0.out HC.out HR1.out HR0.out (by omega) (by omega));clear Gi;cases U1 with
      |false=>
       have hte:DF=wV:=by rw [←FB.out];unfold Fp;rw [Rj.out];rfl
       have HB1:Hid (YS w #[I ep, .slice A0 n0 a,I lp, .slice R0 n1 r,I st, .slice C0 n2 c0,I ho, .slice (some ⟨yb,yo,none⟩) 2 d0] wc A n cp DF):=ae (by rw [hte];exact HA1.out);clear hte;have v0:wc.cell? ⟨w.heap.size,0,none⟩=some (I ep):=HB1.out.row.2 0;have v1:wc.cell? ⟨w.heap.size,1,none⟩=some (.slice A0 n0 a):=HB1.out.row.2 1;have v2:wc.cell? ⟨w.heap.size,2,none⟩=some (I lp):=HB1.out.row.2 2;have v3:wc.cell? ⟨w.heap.size,3,none⟩=some (.slice R0 n1 r):=HB1.out.row.2 3;have v7:wc.cell? ⟨w.heap.size,7,none⟩=some (.slice (some ⟨yb,yo,none⟩) 2 d0):=HB1.out.row.2 7;have dC:=ae (HY.out wc HB1.out.up);have yE:wc.cell? ⟨yb,yo,none⟩=some (I r0.month):=dC.out.a 0 _ rfl;have yG:wc.cell? ⟨yb,yo+1,none⟩=some (I r0.df):=dC.out.a 1 _ rfl;have yH:wc.cell? ⟨yb,yo+2,none⟩=some (I r0.dh):=dC.out.a 2 _ rfl;have yI:wc.cell? ⟨yb,yo+3,none⟩=some (I r0.minute):=dC.out.a 3 _ rfl;have yJ:wc.cell? ⟨yb,yo+4,none⟩=some (I r0.off):=dC.out.a 4 _ rfl;have yK:wc.cell? ⟨yb,yo+5,none⟩=some (I r1.month):=dC.out.b 0 _ rfl;have yL:wc.cell? ⟨yb,yo+6,none⟩=some (I r1.df):=dC.out.b 1 _ rfl;have yM:wc.cell? ⟨yb,yo+7,none⟩=some (I r1.dh):=dC.out.b 2 _ rfl;have y13:wc.cell? ⟨yb,yo+8,none⟩=some (I r1.minute):=dC.out.b 3 _ rfl;have yN:wc.cell? ⟨yb,yo+9,none⟩=some (I r1.off):=dC.out.b 4 _ rfl;go_wp2_with fail;rw [rounds_succ];go_wp2_with fail;clear v0 v1 v2 v3 v7 dC yE yG yH yI yJ yK yL yM y13 yN;have hge:=qj cal yy HC.out;have hbd2:=jC cal yy HC.out;obtain ⟨f',hf1,hf2⟩:=uN HF.out hlt X6.out hge;rw [G9.out,FB.out] at hf2;have hcy:=nI.out yy wc (by omega) HB1.out.up;obtain ⟨yl,hyl⟩:∃v,dI cal yy=v:=⟨_,rfl⟩;rw [hyl] at hf1 hf2 hcy hge hbd2;have Vl:=ae hf1;have HF2:=ae hf2;refine hcy.mono ?_;clear hcy hyl hf1 hf2;rintro e wz ⟨rfl,hb⟩;have HZ:=ae (HB1.out.call hb);clear hb;go_wp2_with fail;go_roundw
       case rel=>exact ⟨f',bg+yl,yy+1,_,n,_,DF,by first|rfl|go_num,by go_num,by go_num,by omega,by omega,by omega,by omega,by omega,Vl.out,HF2.out,Rn.out,HZ.out⟩
       case measure=>simp [intOf];omega
      |true=>
       have hte:DF=uV wV ⟨fd1*1440+r1.minute - r0.off,r1.off⟩:=by rw [←FB.out];unfold Fp;rw [Rj.out];rfl
       have Zw:=ae hte;have Wv:=HR1.out.mi;have WA:=HR0.out.of;clear hte;have v0:wc.cell? ⟨w.heap.size,0,none⟩=some (I ep):=HA1.out.row.2 0;have v1:wc.cell? ⟨w.heap.size,1,none⟩=some (.slice A0 n0 a):=HA1.out.row.2 1;have v2:wc.cell? ⟨w.heap.size,2,none⟩=some (I lp):=HA1.out.row.2 2;have v3:wc.cell? ⟨w.heap.size,3,none⟩=some (.slice R0 n1 r):=HA1.out.row.2 3;have v7:wc.cell? ⟨w.heap.size,7,none⟩=some (.slice (some ⟨yb,yo,none⟩) 2 d0):=HA1.out.row.2 7;have dC:=ae (HY.out wc HA1.out.up);have yE:wc.cell? ⟨yb,yo,none⟩=some (I r0.month):=dC.out.a 0 _ rfl;have yG:wc.cell? ⟨yb,yo+1,none⟩=some (I r0.df):=dC.out.a 1 _ rfl;have yH:wc.cell? ⟨yb,yo+2,none⟩=some (I r0.dh):=dC.out.a 2 _ rfl;have yI:wc.cell? ⟨yb,yo+3,none⟩=some (I r0.minute):=dC.out.a 3 _ rfl;have yJ:wc.cell? ⟨yb,yo+4,none⟩=some (I r0.off):=dC.out.a 4 _ rfl;have yK:wc.cell? ⟨yb,yo+5,none⟩=some (I r1.month):=dC.out.b 0 _ rfl;have yL:wc.cell? ⟨yb,yo+6,none⟩=some (I r1.df):=dC.out.b 1 _ rfl;have yM:wc.cell? ⟨yb,yo+7,none⟩=some (I r1.dh):=dC.out.b 2 _ rfl;have y13:wc.cell? ⟨yb,yo+8,none⟩=some (I r1.minute):=dC.out.b 3 _ rfl;have yN:wc.cell? ⟨yb,yo+9,none⟩=some (I r1.off):=dC.out.b 4 _ rfl;have hw0:IntKind.i64.wrap 0=0:=by rw [IntKind.wrap_i64];omega
       have hw1:IntKind.i64.wrap 1=1:=by rw [IntKind.wrap_i64];omega
       have hw2:IntKind.i64.wrap (fd1*1440)=fd1*1440:=by rw [IntKind.wrap_i64];omega
       have hw3:IntKind.i64.wrap (fd1*1440+r1.minute)=fd1*1440+r1.minute:=by rw [IntKind.wrap_i64];omega
       have hw4:IntKind.i64.wrap (fd1*1440+r1.minute - r0.off)=fd1*1440+r1.minute - r0.off:=by rw [IntKind.wrap_i64];omega
       go_wp2_with fail;go_still_tail 25,(by kernel_rfl);change wpList _ _ _ _ _ wc.drew;go_wp2_with fail;clear v0 v1 v2 v3 v7 dC yE yG yH yI yJ yK yL yM y13 yN;have hown1:iE (w.heap.size+1) wc.drew A n cp wV:=HA1.out.own;refine (wo (w.heap.size+1) n cp A wV ⟨fd1*1440+r1.minute - r0.off,r1.off⟩ wc.drew HA1.out.len (by omega) HA1.out.lo hown1).mono ?_;clear hown1 Wv WA hw0 hw1 hw2 hw3 hw4;rintro e sO ⟨A1',aac,rfl,hown,hb⟩;have HB1:Hid (YS w #[I ep, .slice A0 n0 a,I lp, .slice R0 n1 r,I st, .slice C0 n2 c0,I ho, .slice (some ⟨yb,yo,none⟩) 2 d0] sO A1' (n+1) aac DF):=ae (by
        rw [Zw.out];exact (HA1.out.call (Below.refl _ wc).drew).ins hb hown (by rw [xk,HA1.out.len]))
       clear hb hown;have v0:sO.cell? ⟨w.heap.size,0,none⟩=some (I ep):=HB1.out.row.2 0;have v1:sO.cell? ⟨w.heap.size,1,none⟩=some (.slice A0 n0 a):=HB1.out.row.2 1;have v2:sO.cell? ⟨w.heap.size,2,none⟩=some (I lp):=HB1.out.row.2 2;have v3:sO.cell? ⟨w.heap.size,3,none⟩=some (.slice R0 n1 r):=HB1.out.row.2 3;have v7:sO.cell? ⟨w.heap.size,7,none⟩=some (.slice (some ⟨yb,yo,none⟩) 2 d0):=HB1.out.row.2 7;have dC:=ae (HY.out sO HB1.out.up);have yE:sO.cell? ⟨yb,yo,none⟩=some (I r0.month):=dC.out.a 0 _ rfl;have yG:sO.cell? ⟨yb,yo+1,none⟩=some (I r0.df):=dC.out.a 1 _ rfl;have yH:sO.cell? ⟨yb,yo+2,none⟩=some (I r0.dh):=dC.out.a 2 _ rfl;have yI:sO.cell? ⟨yb,yo+3,none⟩=some (I r0.minute):=dC.out.a 3 _ rfl;have yJ:sO.cell? ⟨yb,yo+4,none⟩=some (I r0.off):=dC.out.a 4 _ rfl;have yK:sO.cell? ⟨yb,yo+5,none⟩=some (I r1.month):=dC.out.b 0 _ rfl;have yL:sO.cell? ⟨yb,yo+6,none⟩=some (I r1.df):=dC.out.b 1 _ rfl;have yM:sO.cell? ⟨yb,yo+7,none⟩=some (I r1.dh):=dC.out.b 2 _ rfl;have y13:sO.cell? ⟨yb,yo+8,none⟩=some (I r1.minute):=dC.out.b 3 _ rfl;have yN:sO.cell? ⟨yb,yo+9,none⟩=some (I r1.off):=dC.out.b 4 _ rfl;go_wp2_with fail;rw [rounds_succ];go_wp2_with fail;clear v0 v1 v2 v3 v7 dC yE yG yH yI yJ yK yL yM y13 yN;have hge:=qj cal yy HC.out;have hbd2:=jC cal yy HC.out;obtain ⟨f',hf1,hf2⟩:=uN HF.out hlt X6.out hge;rw [G9.out,FB.out] at hf2;have hcy:=nI.out yy sO (by omega) HB1.out.up;obtain ⟨yl,hyl⟩:∃v,dI cal yy=v:=⟨_,rfl⟩;rw [hyl] at hf1 hf2 hcy hge hbd2;have Vl:=ae hf1;have HF2:=ae hf2;refine hcy.mono ?_;clear hcy hyl hf1 hf2;rintro e wz ⟨rfl,hb⟩;have HZ:=ae (HB1.out.call hb);clear hb;go_wp2_with fail;go_roundw
       case rel=>exact ⟨f',bg+yl,yy+1,_,(n+1),_,DF,by first|rfl|go_num,by go_num,by go_num,by omega,by omega,by omega,by omega,by omega,Vl.out,HF2.out,Rn.out,HZ.out⟩
       case measure=>simp [intOf];omega
    |true=>
     have hte:wV=uV ts ⟨fd0*1440+r0.minute - r1.off,r0.off⟩:=by rw [←G9.out];unfold Fp;rw [HPR0.out];rfl
     have HTE0:=ae hte;have hmi0:=HR0.out.mi;have hof0:=HR1.out.of;clear hte;have v0:wc.cell? ⟨w.heap.size,0,none⟩=some (I ep):=uC.out.row.2 0;have v1:wc.cell? ⟨w.heap.size,1,none⟩=some (.slice A0 n0 a):=uC.out.row.2 1;have v2:wc.cell? ⟨w.heap.size,2,none⟩=some (I lp):=uC.out.row.2 2;have v3:wc.cell? ⟨w.heap.size,3,none⟩=some (.slice R0 n1 r):=uC.out.row.2 3;have v7:wc.cell? ⟨w.heap.size,7,none⟩=some (.slice (some ⟨yb,yo,none⟩) 2 d0):=uC.out.row.2 7;have dC:=ae (HY.out wc uC.out.up);have yE:wc.cell? ⟨yb,yo,none⟩=some (I r0.month):=dC.out.a 0 _ rfl;have yG:wc.cell? ⟨yb,yo+1,none⟩=some (I r0.df):=dC.out.a 1 _ rfl;have yH:wc.cell? ⟨yb,yo+2,none⟩=some (I r0.dh):=dC.out.a 2 _ rfl;have yI:wc.cell? ⟨yb,yo+3,none⟩=some (I r0.minute):=dC.out.a 3 _ rfl;have yJ:wc.cell? ⟨yb,yo+4,none⟩=some (I r0.off):=dC.out.a 4 _ rfl;have yK:wc.cell? ⟨yb,yo+5,none⟩=some (I r1.month):=dC.out.b 0 _ rfl;have yL:wc.cell? ⟨yb,yo+6,none⟩=some (I r1.df):=dC.out.b 1 _ rfl;have yM:wc.cell? ⟨yb,yo+7,none⟩=some (I r1.dh):=dC.out.b 2 _ rfl;have y13:wc.cell? ⟨yb,yo+8,none⟩=some (I r1.minute):=dC.out.b 3 _ rfl;have yN:wc.cell? ⟨yb,yo+9,none⟩=some (I r1.off):=dC.out.b 4 _ rfl;have hw0:IntKind.i64.wrap 0=0:=by rw [IntKind.wrap_i64];omega
     have hw1:IntKind.i64.wrap 1=1:=by rw [IntKind.wrap_i64];omega
     have hw2:IntKind.i64.wrap (fd0*1440)=fd0*1440:=by rw [IntKind.wrap_i64];omega
     have hw3:IntKind.i64.wrap (fd0*1440+r0.minute)=fd0*1440+r0.minute:=by rw [IntKind.wrap_i64];omega
     have hw4:IntKind.i64.wrap (fd0*1440+r0.minute - r1.off)=fd0*1440+r0.minute - r1.off:=by rw [IntKind.wrap_i64];omega
     go_wp2_with fail;go_still_tail 25,(by kernel_rfl);change wpList _ _ _ _ _ wc.drew;go_wp2_with fail;clear v0 v1 v2 v3 v7 dC yE yG yH yI yJ yK yL yM y13 yN;have hown0:iE (w.heap.size+1) wc.drew A n cp ts:=uC.out.own;refine (wo (w.heap.size+1) n cp A ts ⟨fd0*1440+r0.minute - r1.off,r0.off⟩ wc.drew uC.out.len (by omega) uC.out.lo hown0).mono ?_;clear hown0 hmi0 hof0 hw0 hw1 hw2 hw3 hw4;rintro e GR ⟨A0',Sm,rfl,hown,hb⟩;have HB0:Hid (YS w #[I ep, .slice A0 n0 a,I lp, .slice R0 n1 r,I st, .slice C0 n2 c0,I ho, .slice (some ⟨yb,yo,none⟩) 2 d0] GR A0' (n+1) Sm wV):=ae (by
      rw [HTE0.out];exact (uC.out.call (Below.refl _ wc).drew).ins hb hown (by rw [xk,uC.out.len]))
     clear hb hown;have v0:GR.cell? ⟨w.heap.size,0,none⟩=some (I ep):=HB0.out.row.2 0;have v1:GR.cell? ⟨w.heap.size,1,none⟩=some (.slice A0 n0 a):=HB0.out.row.2 1;have v2:GR.cell? ⟨w.heap.size,2,none⟩=some (I lp):=HB0.out.row.2 2;have v3:GR.cell? ⟨w.heap.size,3,none⟩=some (.slice R0 n1 r):=HB0.out.row.2 3;have v7:GR.cell? ⟨w.heap.size,7,none⟩=some (.slice (some ⟨yb,yo,none⟩) 2 d0):=HB0.out.row.2 7;have dC:=ae (HY.out GR HB0.out.up);have yE:GR.cell? ⟨yb,yo,none⟩=some (I r0.month):=dC.out.a 0 _ rfl;have yG:GR.cell? ⟨yb,yo+1,none⟩=some (I r0.df):=dC.out.a 1 _ rfl;have yH:GR.cell? ⟨yb,yo+2,none⟩=some (I r0.dh):=dC.out.a 2 _ rfl;have yI:GR.cell? ⟨yb,yo+3,none⟩=some (I r0.minute):=dC.out.a 3 _ rfl;have yJ:GR.cell? ⟨yb,yo+4,none⟩=some (I r0.off):=dC.out.a 4 _ rfl;have yK:GR.cell? ⟨yb,yo+5,none⟩=some (I r1.month):=dC.out.b 0 _ rfl;have yL:GR.cell? ⟨yb,yo+6,none⟩=some (I r1.df):=dC.out.b 1 _ rfl;have yM:GR.cell? ⟨yb,yo+7,none⟩=some (I r1.dh):=dC.out.b 2 _ rfl;have y13:GR.cell? ⟨yb,yo+8,none⟩=some (I r1.minute):=dC.out.b 3 _ rfl;have yN:GR.cell? ⟨yb,yo+9,none⟩=some (I r1.off):=dC.out.b 4 _ rfl;go_wp2_with fail;rw [rounds_succ];go_upto_region 12 with fail;have lH:=HFI.out bg yy r1 GR.drew HR1.out (by omega) (by omega) (by omega) HB0.out.up.drew;have Lp:=uF cal bg yy r1 HC.out HR1.out (by omega);obtain ⟨pr1,BR⟩:∃pr,findF cal bg yy r1=pr:=⟨_,rfl⟩;rw [BR] at lH Lp;have Rj:=ae BR;obtain ⟨fd1,U1⟩:=pr1;simp only at lH Lp;have AQ:=ae lH;clear lH BR
     go_cut [9,10] (fun d ok wx=>d=I fd1∧ok= .bool U1∧YS w #[I ep, .slice A0 n0 a,I lp, .slice R0 n1 r,I st, .slice C0 n2 c0,I ho, .slice (some ⟨yb,yo,none⟩) 2 d0] wx A0' (n+1) Sm wV)
     case first=>
      go_region_law (go_simp;go_at_call 95;refine AQ.out.mono ?_;rintro e wf ⟨rfl,hb⟩;have HCF:=ae (HB0.out.call (ah (Below.refl _ GR).drew hb));clear hb)
      all_goals
       go_wp2_with fail;go_meet;exact ⟨rfl,rfl,HCF.out⟩
     case rest=>
      obtain ⟨rfl,rfl,TD⟩:=hcut;have HA1:=ae TD;clear v0 v1 v2 v3 v7 dC yE yG yH yI yJ yK yL yM y13 yN;clear TD AQ;obtain ⟨DF,Gi⟩:∃t,Fp cal bg yy r1 r0 wV=t:=⟨_,rfl⟩;have FB:=ae Gi;have Rn:Hid (J3 DF):=ae (by rw [←FB.out];exact xH HTB0.out HC.out HR1.out HR0.out (by omega) (by omega));clear Gi;cases U1 with
      |false=>
       have hte:DF=wV:=by rw [←FB.out];unfold Fp;rw [Rj.out];rfl
       have HB1:Hid (YS w #[I ep, .slice A0 n0 a,I lp, .slice R0 n1 r,I st, .slice C0 n2 c0,I ho, .slice (some ⟨yb,yo,none⟩) 2 d0] wc A0' (n+1) Sm DF):=ae (by rw [hte];exact HA1.out);clear hte;have v0:wc.cell? ⟨w.heap.size,0,none⟩=some (I ep):=HB1.out.row.2 0;have v1:wc.cell? ⟨w.heap.size,1,none⟩=some (.slice A0 n0 a):=HB1.out.row.2 1;have v2:wc.cell? ⟨w.heap.size,2,none⟩=some (I lp):=HB1.out.row.2 2;have v3:wc.cell? ⟨w.heap.size,3,none⟩=some (.slice R0 n1 r):=HB1.out.row.2 3;have v7:wc.cell? ⟨w.heap.size,7,none⟩=some (.slice (some ⟨yb,yo,none⟩) 2 d0):=HB1.out.row.2 7;have dC:=ae (HY.out wc HB1.out.up);have yE:wc.cell? ⟨yb,yo,none⟩=some (I r0.month):=dC.out.a 0 _ rfl;have yG:wc.cell? ⟨yb,yo+1,none⟩=some (I r0.df):=dC.out.a 1 _ rfl;have yH:wc.cell? ⟨yb,yo+2,none⟩=some (I r0.dh):=dC.out.a 2 _ rfl;have yI:wc.cell? ⟨yb,yo+3,none⟩=some (I r0.minute):=dC.out.a 3 _ rfl;have yJ:wc.cell? ⟨yb,yo+4,none⟩=some (I r0.off):=dC.out.a 4 _ rfl;have yK:wc.cell? ⟨yb,yo+5,none⟩=some (I r1.month):=dC.out.b 0 _ rfl;have yL:wc.cell? ⟨yb,yo+6,none⟩=some (I r1.df):=dC.out.b 1 _ rfl;have yM:wc.cell? ⟨yb,yo+7,none⟩=some (I r1.dh):=dC.out.b 2 _ rfl;have y13:wc.cell? ⟨yb,yo+8,none⟩=some (I r1.minute):=dC.out.b 3 _ rfl;have yN:wc.cell? ⟨yb,yo+9,none⟩=some (I r1.off):=dC.out.b 4 _ rfl;go_wp2_with fail;rw [rounds_succ];go_wp2_with fail;clear v0 v1 v2 v3 v7 dC yE yG yH yI yJ yK yL yM y13 yN;have hge:=qj cal yy HC.out;have hbd2:=jC cal yy HC.out;obtain ⟨f',hf1,hf2⟩:=uN HF.out hlt X6.out hge;rw [G9.out,FB.out] at hf2;have hcy:=nI.out yy wc (by omega) HB1.out.up;obtain ⟨yl,hyl⟩:∃v,dI cal yy=v:=⟨_,rfl⟩;rw [hyl] at hf1 hf2 hcy hge hbd2;have Vl:=ae hf1;have HF2:=ae hf2;refine hcy.mono ?_;clear hcy hyl hf1 hf2;rintro e wz ⟨rfl,hb⟩;have HZ:=ae (HB1.out.call hb);clear hb;go_wp2_with fail;go_roundw
       case rel=>exact ⟨f',bg+yl,yy+1,_,(n+1),_,DF,by first|rfl|go_num,by go_num,by go_num,by omega,by omega,by omega,by omega,by omega,Vl.out,HF2.out,Rn.out,HZ.out⟩
       case measure=>simp [intOf];omega
      |true=>
       have hte:DF=uV wV ⟨fd1*1440+r1.minute - r0.off,r1.off⟩:=by rw [←FB.out];unfold Fp;rw [Rj.out];rfl
       have Zw:=ae hte;have Wv:=HR1.out.mi;have WA:=HR0.out.of;clear hte;have v0:wc.cell? ⟨w.heap.size,0,none⟩=some (I ep):=HA1.out.row.2 0;have v1:wc.cell? ⟨w.heap.size,1,none⟩=some (.slice A0 n0 a):=HA1.out.row.2 1;have v2:wc.cell? ⟨w.heap.size,2,none⟩=some (I lp):=HA1.out.row.2 2;have v3:wc.cell? ⟨w.heap.size,3,none⟩=some (.slice R0 n1 r):=HA1.out.row.2 3;have v7:wc.cell? ⟨w.heap.size,7,none⟩=some (.slice (some ⟨yb,yo,none⟩) 2 d0):=HA1.out.row.2 7;have dC:=ae (HY.out wc HA1.out.up);have yE:wc.cell? ⟨yb,yo,none⟩=some (I r0.month):=dC.out.a 0 _ rfl;have yG:wc.cell? ⟨yb,yo+1,none⟩=some (I r0.df):=dC.out.a 1 _ rfl;have yH:wc.cell? ⟨yb,yo+2,none⟩=some (I r0.dh):=dC.out.a 2 _ rfl;have yI:wc.cell? ⟨yb,yo+3,none⟩=some (I r0.minute):=dC.out.a 3 _ rfl;have yJ:wc.cell? ⟨yb,yo+4,none⟩=some (I r0.off):=dC.out.a 4 _ rfl;have yK:wc.cell? ⟨yb,yo+5,none⟩=some (I r1.month):=dC.out.b 0 _ rfl;have yL:wc.cell? ⟨yb,yo+6,none⟩=some (I r1.df):=dC.out.b 1 _ rfl;have yM:wc.cell? ⟨yb,yo+7,none⟩=some (I r1.dh):=dC.out.b 2 _ rfl;have y13:wc.cell? ⟨yb,yo+8,none⟩=some (I r1.minute):=dC.out.b 3 _ rfl;have yN:wc.cell? ⟨yb,yo+9,none⟩=some (I r1.off):=dC.out.b 4 _ rfl;have hw0:IntKind.i64.wrap 0=0:=by rw [IntKind.wrap_i64];omega
       have hw1:IntKind.i64.wrap 1=1:=by rw [IntKind.wrap_i64];omega
       have hw2:IntKind.i64.wrap (fd1*1440)=fd1*1440:=by rw [IntKind.wrap_i64];omega
       have hw3:IntKind.i64.wrap (fd1*1440+r1.minute)=fd1*1440+r1.minute:=by rw [IntKind.wrap_i64];omega
       have hw4:IntKind.i64.wrap (fd1*1440+r1.minute - r0.off)=fd1*1440+r1.minute - r0.off:=by rw [IntKind.wrap_i64];omega
       go_wp2_with fail;go_still_tail 25,(by kernel_rfl);change wpList _ _ _ _ _ wc.drew;go_wp2_with fail;clear v0 v1 v2 v3 v7 dC yE yG yH yI yJ yK yL yM y13 yN;have hown1:iE (w.heap.size+1) wc.drew A0' (n+1) Sm wV:=HA1.out.own;refine (wo (w.heap.size+1) (n+1) Sm A0' wV ⟨fd1*1440+r1.minute - r0.off,r1.off⟩ wc.drew HA1.out.len (by omega) HA1.out.lo hown1).mono ?_;clear hown1 Wv WA hw0 hw1 hw2 hw3 hw4;rintro e sO ⟨A1',aac,rfl,hown,hb⟩;have HB1:Hid (YS w #[I ep, .slice A0 n0 a,I lp, .slice R0 n1 r,I st, .slice C0 n2 c0,I ho, .slice (some ⟨yb,yo,none⟩) 2 d0] sO A1' ((n+1)+1) aac DF):=ae (by
        rw [Zw.out];exact (HA1.out.call (Below.refl _ wc).drew).ins hb hown (by rw [xk,HA1.out.len]))
       clear hb hown;have v0:sO.cell? ⟨w.heap.size,0,none⟩=some (I ep):=HB1.out.row.2 0;have v1:sO.cell? ⟨w.heap.size,1,none⟩=some (.slice A0 n0 a):=HB1.out.row.2 1;have v2:sO.cell? ⟨w.heap.size,2,none⟩=some (I lp):=HB1.out.row.2 2;have v3:sO.cell? ⟨w.heap.size,3,none⟩=some (.slice R0 n1 r):=HB1.out.row.2 3;have v7:sO.cell? ⟨w.heap.size,7,none⟩=some (.slice (some ⟨yb,yo,none⟩) 2 d0):=HB1.out.row.2 7;have dC:=ae (HY.out sO HB1.out.up);have yE:sO.cell? ⟨yb,yo,none⟩=some (I r0.month):=dC.out.a 0 _ rfl;have yG:sO.cell? ⟨yb,yo+1,none⟩=some (I r0.df):=dC.out.a 1 _ rfl;have yH:sO.cell? ⟨yb,yo+2,none⟩=some (I r0.dh):=dC.out.a 2 _ rfl;have yI:sO.cell? ⟨yb,yo+3,none⟩=some (I r0.minute):=dC.out.a 3 _ rfl;have yJ:sO.cell? ⟨yb,yo+4,none⟩=some (I r0.off):=dC.out.a 4 _ rfl;have yK:sO.cell? ⟨yb,yo+5,none⟩=some (I r1.month):=dC.out.b 0 _ rfl;have yL:sO.cell? ⟨yb,yo+6,none⟩=some (I r1.df):=dC.out.b 1 _ rfl;have yM:sO.cell? ⟨yb,yo+7,none⟩=some (I r1.dh):=dC.out.b 2 _ rfl;have y13:sO.cell? ⟨yb,yo+8,none⟩=some (I r1.minute):=dC.out.b 3 _ rfl;have yN:sO.cell? ⟨yb,yo+9,none⟩=some (I r1.off):=dC.out.b 4 _ rfl;go_wp2_with fail;rw [rounds_succ];go_wp2_with fail;clear v0 v1 v2 v3 v7 dC yE yG yH yI yJ yK yL yM y13 yN;have hge:=qj cal yy HC.out;have hbd2:=jC cal yy HC.out;obtain ⟨f',hf1,hf2⟩:=uN HF.out hlt X6.out hge;rw [G9.out,FB.out] at hf2;have hcy:=nI.out yy sO (by omega) HB1.out.up;obtain ⟨yl,hyl⟩:∃v,dI cal yy=v:=⟨_,rfl⟩;rw [hyl] at hf1 hf2 hcy hge hbd2;have Vl:=ae hf1;have HF2:=ae hf2;refine hcy.mono ?_;clear hcy hyl hf1 hf2;rintro e wz ⟨rfl,hb⟩;have HZ:=ae (HB1.out.call hb);clear hb;go_wp2_with fail;go_roundw
       case rel=>exact ⟨f',bg+yl,yy+1,_,((n+1)+1),_,DF,by first|rfl|go_num,by go_num,by go_num,by omega,by omega,by omega,by omega,by omega,Vl.out,HF2.out,Rn.out,HZ.out⟩
       case measure=>simp [intOf];omega
  ·have hts:=Nu HF.out hlt;subst hts;have hb0':Hid True:=ae trivial;clear hb0';go_wp2_with fail;clear v0 hlt;have hle:=HW.out.len;rcases Nat.eq_zero_or_pos n with hn0|hn0
   ·subst hn0;refine wp_loop_rounds 1 ?_;rw [rounds_succ];go_wp2_with fail;go_ret2;exact ⟨A,0,cp,hle,by rw [show jS ts (q*1440)=true by rw [List.eq_nil_of_length_eq_zero hle];rfl];rfl,HW.out.own.lower (Nat.le_succ _),HW.out.up⟩
   ·obtain ⟨g,cap,hgv, -⟩:=dE HW.out.own hn0;injection hgv with hA hB hC;subst hA hC;clear hB;have Q9:=ae hle;have hnb:n≤1000:=by omega
    clear hle hy1 hy2 hb0 hbs hn2';have Ia:=ae (fun k=>qx k O8.out);clear O8 HF X6 HFI nI
    go_loopw [11] (fun i wr=>GRel w #[I ep, .slice A0 n0 a,I lp, .slice R0 n1 r,I st, .slice C0 n2 c0,I ho, .slice (some ⟨yb,yo,none⟩) 2 d0] (some ⟨g,0,none⟩) n cp ts (q*1440) i wr) (fun i _=>n - (intOf i).toNat)
    case atStart=>exact ⟨0,Nat.zero_le _,by go_num,(fun _ h=>absurd h (Nat.not_lt_zero _)),HW.out⟩
    case round=>
     obtain ⟨k,hk,rfl,hall,hys⟩:=hrel;have jX:=ae hall;have HX:=ae hys;clear hall hys HW;by_cases hlt:k<n
     ·have x0:=rQ HX.out.own HX.out.len 0 hn0;have x1:=rQ HX.out.own HX.out.len k hlt;rw [Nat.zero_mul] at x0;have hb0:=Ia.out 0;have hb1:=Ia.out k;obtain ⟨a0,ha0⟩:∃v,iT ts 0=v:=⟨_,rfl⟩;obtain ⟨a1,ha1⟩:∃v,iT ts k=v:=⟨_,rfl⟩;rw [ha0] at x0 hb0;rw [ha1] at x1 hb1;have uC:=ae ha0;have HA1:=ae ha1;clear ha0 ha1;have i0:(0:Int)≤(k:Int):=by omega
      have i1:(k:Int)<(n:Int):=by omega
      have i2:(0:Int)<(n:Int):=by omega
      by_cases hlt1:k+1<n
      ·have x2:=rQ HX.out.own HX.out.len (k+1) hlt1;have hb2:=Ia.out (k+1);obtain ⟨a2,ha2⟩:∃v,iT ts (k+1)=v:=⟨_,rfl⟩;rw [ha2] at x2 hb2;have HA2:=ae ha2;clear ha2;have i3:(k:Int)+1<(n:Int):=by omega
       have HG:Hid (oO ts (q*1440) k=a2 - a1):=ae (by unfold oO;rw [Q9.out,if_pos hlt1,HA2.out,HA1.out]);by_cases yw:a2 - a1<2160
       ·go_wp2_with fail;go_ret2;exact ⟨_,n,_,Q9.out,by rw [Ol Q9.out hlt (by rw [HG.out];exact yw)];rfl,HX.out.own.lower (Nat.le_succ _),HX.out.up⟩
       ·go_wp2_with fail;go_roundw
        case rel=>exact ⟨k+1,by omega,by go_num,EL jX.out (by rw [HG.out];omega),HX.out⟩
        case measure=>simp [intOf];omega
      ·have i3:¬(k:Int)+1<(n:Int):=by omega
       have HG:Hid (oO ts (q*1440) k=a0+q*1440 - a1):=ae (by unfold oO;rw [Q9.out,if_neg hlt1,uC.out,HA1.out]);by_cases yw:a0+q*1440 - a1<2160
       ·go_wp2_with fail;go_ret2;exact ⟨_,n,_,Q9.out,by rw [Ol Q9.out hlt (by rw [HG.out];exact yw)];rfl,HX.out.own.lower (Nat.le_succ _),HX.out.up⟩
       ·go_wp2_with fail;go_roundw
        case rel=>exact ⟨k+1,by omega,by go_num,EL jX.out (by rw [HG.out];omega),HX.out⟩
        case measure=>simp [intOf];omega
     ·have hnl:¬(k:Int)<(n:Int):=by omega
      have sW:Hid (k=n):=ae (by omega);go_wp2_with fail;go_ret2;exact ⟨_,n,_,Q9.out,by rw [SN Q9.out (by rw [←sW.out];exact jX.out)];rfl,HX.out.own.lower (Nat.le_succ _),HX.out.up⟩
end Go.Proofs.YtdibbemgpikgjaaGreatDoor
