/- The texts Kd, in this order. -/
import Derived.Test.YtdibbemgpikgjaaGreatDoorV00
import Derived.Test.YtdibbemgpikgjaaGreatDoorV10
namespace Go.Proofs.YtdibbemgpikgjaaGreatDoor
open Go Go.RowKit
def DD (c:Cal) (bg y:Int) (r r':Yr) (out:List Tr):List Tr:=if (findF c bg y r).2=true then tX out ⟨(findF c bg y r).1*1440+r.minute - r'.off,r.off⟩ else out
def lu (c:Cal) (r0 r1:Yr) (stop:Int):Nat→Int→Int→List Tr→List Tr
 |0,_,_,out=>out
 |n+1,bg,y,out=>if bg<stop then lu c r0 r1 stop n (bg+dB c y) (y+1) (DD c bg y r1 r0 (DD c bg y r0 r1 out)) else out
def qi (z:Zn):List Tr:=match z.aB with
 | [r0,r1]=>lu z.cal r0 r1 (z.cal.aK+jl z) 1400 z.cal.aK 1 []
 |_=> []
def iH (ts:List Tr) (i:Nat):Int:=(ts[i]?.map (·.at_)).getD 0
def nS (ts:List Tr) (size:Int) (i:Nat):Int:=(if i+1<ts.length then iH ts (i+1) else iH ts 0+size) - iH ts i
def jA (ts:List Tr) (size:Int):Bool:=(List.range ts.length).all fun i=>decide (2160≤nS ts size i)
structure xH (r:Yr):Prop where
 mo:r.month=1∨r.month=2
 wk:1≤r.df∧r.df≤5
 wd:0≤r.dm∧r.dm≤6
 mi:0≤r.minute∧r.minute≤1439
 of: -1080≤r.off∧r.off≤1080
theorem oW (c:Cal) (y:Int) (hc:fO c):12≤dB c y:=by
 obtain ⟨ep,m0,m1,lp,rs,rfl,b1,b2,b3,b4,_⟩:=hc.form
 simp only [dB,mZ,List.getElem?_cons_zero,List.getElem?_cons_succ,Option.getD_some]
 split<;>omega
theorem Ul (wd wk:Int) (n:Nat):∀d cn la:Int, -1≤la→la≤d→ -1≤(fM wd wk n d cn la).1∧(fM wd wk n d cn la).1≤d+n∨(fM wd wk n d cn la).1=d:=by
 induction n with
 |zero=>intro d cn la h1 h2;exact .inl ⟨h1,by show la≤_;omega⟩
 |succ n ih=>
  intro d cn la h1 h2
  unfold fM
  split
  ·split
   ·exact .inr rfl
   ·rcases ih (d+1) (cn+1) d (by omega) (by omega) with h|h
    ·exact .inl ⟨h.1,by omega⟩
    ·exact .inl ⟨by omega,by omega⟩
  ·rcases ih (d+1) cn la h1 (by omega) with h|h
   ·exact .inl ⟨h.1,by omega⟩
   ·exact .inl ⟨by omega,by omega⟩
theorem sW (c:Cal) (bg y:Int) (r:Yr) (hc:fO c) (hr:xH r) (hb:0≤bg): -1≤(findF c bg y r).1∧(findF c bg y r).1≤bg+30:=by
 have h1:=jH c y 1 hc (.inl rfl)
 have h2:=jH c y r.month hc hr.mo
 have h3:bg≤nP c bg y r.month∧nP c bg y r.month≤bg+9:=by unfold nP;split<;>omega
 unfold findF
 rcases Ul r.dm r.df (cu c y r.month).toNat (nP c bg y r.month) 0 (-1) (by omega) (by omega) with h|h
 ·omega
 ·omega
theorem Qo {ts:List Tr} {t x:Tr} (h:x∈tX ts t):x=t∨x∈ts:=by
 unfold tX at h
 rcases List.mem_append.1 h with h|h
 ·exact .inr (List.mem_of_mem_take h)
 ·rcases List.mem_cons.1 h with h|h
  ·exact .inl h
  ·exact .inr (List.mem_of_mem_drop h)
theorem fD.below {lo n c:Nat} {w w':World} {A:Option Addr} {ts:List Tr} (h:fD lo w A n c ts) (hb:Below w.heap.size w w'):fD lo w' A n c ts:=
 World.ownsRow.kept (row:=none) h ⟨hb.os,hb.tape,hb.output,hb.size,fun k hk _=>hb.block k hk⟩ (by cases (Value.slice A n c).ownBlock<;>simp)
structure YS (w:World) (cs:Array Value) (W:World) (A:Option Addr) (n c:Nat) (ts:List Tr):Prop where
 row:Row W w.heap.size cs
 own:fD (w.heap.size+1) W A n c ts
 up:Below w.heap.size w W
 len:ts.length=n
theorem YS.call {w W W':World} {cs:Array Value} {A:Option Addr} {n c:Nat} {ts:List Tr} (h:YS w cs W A n c ts) (hb:Below W.heap.size W W'):YS w cs W' A n c ts:=
 ⟨h.row.keep hb,h.own.below hb,ah h.up hb,h.len⟩
theorem YS.ins {w W W':World} {cs:Array Value} {A A':Option Addr} {n c c':Nat} {ts ts':List Tr} (h:YS w cs W A n c ts) (hb:Below (w.heap.size+1) W W') (ho:fD (w.heap.size+1) W' A' (n+1) c' ts') (hl:ts'.length=n+1):YS w cs W' A' (n+1) c' ts':=
 ⟨⟨Nat.lt_of_lt_of_le h.row.1 hb.size,fun i=>(hb.cell (p:=⟨w.heap.size,i,none⟩) (Nat.lt_succ_self _)).trans (h.row.2 i)⟩,ho,h.up.trans (hb.mono (Nat.le_succ _)),hl⟩
theorem YS.lo {w W:World} {cs:Array Value} {A:Option Addr} {n c:Nat} {ts:List Tr} (h:YS w cs W A n c ts):w.heap.size+1≤W.heap.size:=h.row.1
def Iq (ts:List Tr):Prop:=∀x∈ts, -10000000≤x.at_∧x.at_≤100000000
theorem vV {c:Cal} {bg y:Int} {r r':Yr} {ts:List Tr} (h:Iq ts) (hc:fO c) (hr:xH r) (hr':xH r') (hb:0≤bg) (hb2:bg≤10000):Iq (DD c bg y r r' ts):=by
 have h1:=sW c bg y r hc hr hb
 have h2:=hr.mi
 have h3:=hr'.of
 unfold DD
 split
 ·intro x hx
  rcases Qo hx with rfl|hx
  ·constructor<;>(simp only;omega)
  ·exact h x hx
 ·exact h
def YRel (w:World) (cs:Array Value) (c:Cal) (r0 r1:Yr) (ep stop:Int) (res:List Tr) (o b y:Value) (wr:World):Prop:=
 ∃(f:Nat) (bg yy:Int) (A:Option Addr) (n cp:Nat) (ts:List Tr),o= .slice A n cp∧b= .int .i64 bg∧y= .int .i64 yy∧1≤yy∧ep+12*(yy - 1)≤bg∧0≤bg∧bg≤stop+100∧(n:Int)≤2*(yy - 1)∧(stop - bg).toNat≤f∧lu c r0 r1 stop f bg yy ts=res∧Iq ts∧YS w cs wr A n cp ts
structure YC (W:World) (b off:Nat) (r0 r1:Yr):Prop where
 a:W.rangeAt b off r0.cells
 b:W.rangeAt b (off+5) r1.cells
def Pg (w:World) (ts:List Tr) (ok:Bool) (e:Ending) (w':World):Prop:=∃A n c,ts.length=n∧e= .returned (.tuple #[.slice A n c, .bool ok])∧fD w.heap.size w' A n c ts∧Below w.heap.size w w'
theorem fD.lower {lo lo' n c:Nat} {w:World} {A:Option Addr} {ts:List Tr} (h:fD lo w A n c ts) (hl:lo'≤lo):fD lo' w A n c ts:=by
 rcases h.2 with h2|⟨g,cap,cur,h1,h2,h3⟩
 ·exact ⟨h.1, .inl h2⟩
 ·exact ⟨h.1, .inr ⟨g,cap,cur,h1,Nat.le_trans hl h2,h3⟩⟩
def GRel (w:World) (cs:Array Value) (A:Option Addr) (n cp:Nat) (ts:List Tr) (size:Int) (i:Value) (wr:World):Prop:=
 ∃k:Nat,k≤n∧i= .int .i64 k∧(∀j,j<k→2160≤nS ts size j)∧YS w cs wr A n cp ts
theorem o7 (z:Zn) (hc:fO z.cal):0≤jl z∧jl z≤1400:=by
 have h1:=Ec z.cal hc
 unfold jl Gs
 split
 ·omega
 ·split<;>omega
theorem tJ {c:Cal} {r0 r1:Yr} {stop bg y:Int} {f:Nat} {ts res:List Tr} (h:lu c r0 r1 stop f bg y ts=res) (hb:bg<stop) (hf:(stop - bg).toNat≤f) (hy:12≤dB c y):
  ∃f',(stop - (bg+dB c y)).toNat≤f'∧lu c r0 r1 stop f' (bg+dB c y) (y+1) (DD c bg y r1 r0 (DD c bg y r0 r1 ts))=res:=by
 cases f with
 |zero=>omega
 |succ f=>exact ⟨f,by omega,by rw [lu,if_pos hb] at h;exact h⟩
theorem Ky {c:Cal} {r0 r1:Yr} {stop bg y:Int} {f:Nat} {ts res:List Tr} (h:lu c r0 r1 stop f bg y ts=res) (hb:¬bg<stop):ts=res:=by
 cases f with
 |zero=>exact h
 |succ f=>rw [lu,if_neg hb] at h;exact h
theorem pq {ts:List Tr} (k:Nat) (h:Iq ts): -10000000≤iH ts k∧iH ts k≤100000000:=by
 unfold iH
 cases e:ts[k]? with
 |none=>simp
 |some x=>exact h x (List.mem_of_getElem? e)
theorem qH {lo g n cp:Nat} {W:World} {ts:List Tr} (h:fD lo W (some ⟨g,0,none⟩) n cp ts) (hl:ts.length=n) (k:Nat) (hk:k<n):W.cell? ⟨g,k*2,none⟩=some (I (iH ts k)):=by
 have hx:ts[k]? =some ts[k]:=List.getElem?_eq_getElem (by omega)
 rw [World.ownsRow.cellAt h (k*2) (by omega),show k*2=k*2+0 from rfl,flat_get (s:=2) Tr.cells ts (fun _ _=>rfl) k 0 _ hx (by omega)]
 unfold iH
 rw [hx]
 rfl
theorem PS {ts:List Tr} {n:Nat} {size:Int} (hl:ts.length=n) (h:∀j,j<n→2160≤nS ts size j):jA ts size=true:=by
 unfold jA
 rw [List.all_eq_true]
 intro j hj
 exact decide_eq_true (h j (by rw [←hl];exact List.mem_range.1 hj))
theorem Ll {ts:List Tr} {n k:Nat} {size:Int} (hl:ts.length=n) (hk:k<n) (h:nS ts size k<2160):jA ts size=false:=by
 unfold jA
 rw [List.all_eq_false]
 exact ⟨k,List.mem_range.2 (by omega),by simp;omega⟩
theorem Dc {ts:List Tr} {k:Nat} {size:Int} (h:∀j,j<k→2160≤nS ts size j) (h1:2160≤nS ts size k):∀j,j<k+1→2160≤nS ts size j:=by
 intro j hj
 rcases Nat.lt_succ_iff_lt_or_eq.1 hj with h2|rfl
 ·exact h j h2
 ·exact h1
set_option maxRecDepth 10000 in
set_option maxHeartbeats 4000000 in
theorem Kw (z:Zn) (s:Zs) (r0 r1:Yr) (w:World) (hc:fO z.cal) (h:jb w w.heap.size s z) (hy:z.aB= [r0,r1]) (hr0:xH r0) (hr1:xH r1) (hlt:z.trans.length≤1000):Calls Tryz.prog 78 #[.agg (ay z s)] w (Pg w (qi z) (jA (qi z) (jl z*1440))):=by
 have ug:Hid (∀W,Below w.heap.size w W→Calls Tryz.prog 80 #[.agg (ay z s)] W (Gives (I (jl z)) W)):=ae fun W hb=>Bd z s W hc (h.grow hb)
 have Yq:Hid (∀(bg y:Int) (x:Yr) W,xH x→0≤bg→bg≤100000→0≤y→Below w.heap.size w W→Calls Tryz.prog 95 #[.agg (aG z.cal s.A s.a s.B s.b),I bg,I y, .agg #[I x.month,I x.df,I x.dm,I x.minute,I x.off]] W (Gives (.tuple #[I (findF z.cal bg y x).1, .bool (findF z.cal bg y x).2]) W)):=
  ae fun bg y x W hx h1 h2 h3 hb=>PL z.cal s.A s.B s.a s.b bg y x W hc ⟨h.au.grow hb,h.rules.grow hb⟩ h1 h2 h3 hx.mo
 have pg:Hid (∀(y:Int) W,0≤y→Below w.heap.size w W→Calls Tryz.prog 97 #[.agg (aG z.cal s.A s.a s.B s.b),I y] W (Gives (I (dB z.cal y)) W)):=
  ae fun y W h1 hb=>Ba z.cal s.A s.B s.a s.b y W hc ⟨h.au.grow hb,h.rules.grow hb⟩ h1
 have hbd:=o7 z hc
 have hep:=hc.ep
 have HC:=ae hc
 obtain ⟨yb,yo,hD,hyb,Ff⟩:=h.aB.there (by rw [hy];simp [Yr.cells])
 have HY:Hid (∀W,Below w.heap.size w W→YC W yb yo r0 r1):=ae fun W hb=>by
  rw [hy] at Ff
  exact ⟨aO (az.elem (s:=5) (f:=Yr.cells) (xs:= [r0,r1]) (fun _ _=>rfl) Ff 0 r0 rfl) hb hyb,aO (az.elem (s:=5) (f:=Yr.cells) (xs:= [r0,r1]) (fun _ _=>rfl) Ff 1 r1 rfl) hb hyb⟩
 clear Ff
 obtain ⟨res,hres⟩:∃res,qi z=res:=⟨_,rfl⟩
 rw [hres]
 have hres2:lu z.cal r0 r1 (z.cal.aK+jl z) 1400 z.cal.aK 1 []=res:=by rw [←hres];unfold qi;rw [hy]
 clear hres
 obtain ⟨q,hq⟩:∃q,jl z=q:=⟨_,rfl⟩
 rw [hq] at ug hbd hres2 ⊢
 have ja:=ae hres2
 have HR0:=ae hr0
 have HR1:=ae hr1
 clear hres2 hq hr0 hr1 hc h
 obtain ⟨cal,st,tr,ho,yr⟩:=z
 obtain ⟨A0,a,R0,r,C0,c0,D0,d0⟩:=s
 simp only at hy hD ug Yq pg hep HC ja hlt ⊢
 subst hy hD
 obtain ⟨ep,tN⟩:∃ep,cal.aK=ep:=⟨_,rfl⟩
 rw [tN] at hep ja
 obtain ⟨lp,vI⟩:∃lp,cal.bz=lp:=⟨_,rfl⟩
 obtain ⟨n0,hn0⟩:∃n,cal.au.length=n:=⟨_,rfl⟩
 obtain ⟨n1,hn1⟩:∃n,cal.rules.length=n:=⟨_,rfl⟩
 obtain ⟨n2,hn2⟩:∃n,tr.length=n:=⟨_,rfl⟩
 unfold ay aG at*
 simp only [tN,vI,hn0,hn1,hn2,List.length_cons,List.length_nil,Nat.zero_add,Nat.reduceAdd] at ug Yq pg ⊢
 clear tN vI hn0 hn1 hn2 hlt
 have HV:Hid (YS w #[I ep, .slice A0 n0 a,I lp, .slice R0 n1 r,I st, .slice C0 n2 c0,I ho, .slice (some ⟨yb,yo,none⟩) 2 d0] ((w.alloc (.cells #[I ep, .slice A0 n0 a,I lp, .slice R0 n1 r,I st, .slice C0 n2 c0,I ho, .slice (some ⟨yb,yo,none⟩) 2 d0] 67)).alloc (.cells #[] 127)) (some ⟨w.heap.size+1,0,none⟩) 0 0 []):=
  ae ⟨(Row.new w _ _).keep (ag _ _),by have h:=iK (w.alloc (.cells #[I ep, .slice A0 n0 a,I lp, .slice R0 n1 r,I st, .slice C0 n2 c0,I ho, .slice (some ⟨yb,yo,none⟩) 2 d0] 67)) 127 2;simpa [fD] using h,ah (ag w _) (ag _ _),rfl⟩
 go_enter Tryz.func78,Tryz.ntmps78
 go_wp2_with fail
 refine (ug.out _ HV.out.up).mono ?_
 rintro e w1 ⟨rfl,hb1⟩
 have HW:=ae (HV.out.call hb1)
 clear hb1 HV ug
 have v0:w1.cell? ⟨w.heap.size,0,none⟩=some (I ep):=HW.out.row.2 0
 go_wp2_with fail
 clear v0
 go_loopw [4,6,7] (fun o b y wr=>YRel w #[I ep, .slice A0 n0 a,I lp, .slice R0 n1 r,I st, .slice C0 n2 c0,I ho, .slice (some ⟨yb,yo,none⟩) 2 d0] cal r0 r1 ep (ep+q) res o b y wr) (fun _ b _ _=>((ep+q) - intOf b).toNat)
 case atStart=>exact ⟨1400,ep,1,_,0,_,[],rfl,by go_num,by go_num,by omega,by omega,by omega,by omega,by omega,by omega,ja.out,(fun _ h=>nomatch h),HW.out⟩
 case round=>
  obtain ⟨f,bg,yy,A,n,cp,ts,rfl,rfl,rfl,hy1,hy2,hb0,hbs,hn2',hf,hyf,htb,hys⟩:=hrel
  have HF:=ae hyf
  have OV:=ae htb
  have HW:=ae hys
  have U1:=ae hf
  clear hyf htb hys hf
  have v0:wr.cell? ⟨w.heap.size,0,none⟩=some (I ep):=HW.out.row.2 0
  by_cases hlt:bg<ep+q
  ·clear v0
   have v0:wr.cell? ⟨w.heap.size,0,none⟩=some (I ep):=HW.out.row.2 0
   have v1:wr.cell? ⟨w.heap.size,1,none⟩=some (.slice A0 n0 a):=HW.out.row.2 1
   have v2:wr.cell? ⟨w.heap.size,2,none⟩=some (I lp):=HW.out.row.2 2
   have v3:wr.cell? ⟨w.heap.size,3,none⟩=some (.slice R0 n1 r):=HW.out.row.2 3
   have v7:wr.cell? ⟨w.heap.size,7,none⟩=some (.slice (some ⟨yb,yo,none⟩) 2 d0):=HW.out.row.2 7
   have dn:=ae (HY.out wr HW.out.up)
   have wY:wr.cell? ⟨yb,yo,none⟩=some (I r0.month):=dn.out.a 0 _ rfl
   have wZ:wr.cell? ⟨yb,yo+1,none⟩=some (I r0.df):=dn.out.a 1 _ rfl
   have xe:wr.cell? ⟨yb,yo+2,none⟩=some (I r0.dm):=dn.out.a 2 _ rfl
   have xg:wr.cell? ⟨yb,yo+3,none⟩=some (I r0.minute):=dn.out.a 3 _ rfl
   have xh:wr.cell? ⟨yb,yo+4,none⟩=some (I r0.off):=dn.out.a 4 _ rfl
   have xk:wr.cell? ⟨yb,yo+5,none⟩=some (I r1.month):=dn.out.b 0 _ rfl
   have xm:wr.cell? ⟨yb,yo+6,none⟩=some (I r1.df):=dn.out.b 1 _ rfl
   have xn:wr.cell? ⟨yb,yo+7,none⟩=some (I r1.dm):=dn.out.b 2 _ rfl
   have y13:wr.cell? ⟨yb,yo+8,none⟩=some (I r1.minute):=dn.out.b 3 _ rfl
   have xq:wr.cell? ⟨yb,yo+9,none⟩=some (I r1.off):=dn.out.b 4 _ rfl
   go_wp2_with fail
   refine wp_loop_rounds 3 ?_
   rw [rounds_succ]
   go_upto_region 12 with fail
   have qA:=Yq.out bg yy r0 wr.drew HR0.out (by omega) (by omega) (by omega) HW.out.up.drew
   have TI:=sW cal bg yy r0 HC.out HR0.out (by omega)
   obtain ⟨pr0,Ju⟩:∃pr,findF cal bg yy r0=pr:=⟨_,rfl⟩
   rw [Ju] at qA TI
   have Z7:=ae Ju
   obtain ⟨fd0,Xl⟩:=pr0
   simp only at qA TI
   have OD:=ae qA
   clear qA Ju
   go_cut [9,10] (fun d ok wx=>d=I fd0∧ok= .bool Xl∧YS w #[I ep, .slice A0 n0 a,I lp, .slice R0 n1 r,I st, .slice C0 n2 c0,I ho, .slice (some ⟨yb,yo,none⟩) 2 d0] wx A n cp ts)
   case first=>
    go_region_law (go_simp;go_at_call 95;refine OD.out.mono ?_;rintro e wf ⟨rfl,hb⟩;have Zj:=ae (HW.out.call (ah (Below.refl _ wr).drew hb));clear hb)
    all_goals
     go_wp2_with fail
     go_meet
     exact ⟨rfl,rfl,Zj.out⟩
   case rest=>
    obtain ⟨rfl,rfl,hys0⟩:=hcut
    have sV:=ae hys0
    clear v0 v1 v2 v3 v7 dn wY wZ xe xg xh xk xm xn y13 xq
    clear hys0 OD
    obtain ⟨vg,Nh⟩:∃t,DD cal bg yy r0 r1 ts=t:=⟨_,rfl⟩
    have Oi:=ae Nh
    have aae:Hid (Iq vg):=ae (by rw [←Oi.out];exact vV OV.out HC.out HR0.out HR1.out (by omega) (by omega))
    clear Nh
    cases Xl with
    |false=>
     have hte:vg=ts:=by rw [←Oi.out];unfold DD;rw [Z7.out];rfl
     have HB0:Hid (YS w #[I ep, .slice A0 n0 a,I lp, .slice R0 n1 r,I st, .slice C0 n2 c0,I ho, .slice (some ⟨yb,yo,none⟩) 2 d0] wc A n cp vg):=ae (by rw [hte];exact sV.out)
     clear hte
     have v0:wc.cell? ⟨w.heap.size,0,none⟩=some (I ep):=HB0.out.row.2 0
     have v1:wc.cell? ⟨w.heap.size,1,none⟩=some (.slice A0 n0 a):=HB0.out.row.2 1
     have v2:wc.cell? ⟨w.heap.size,2,none⟩=some (I lp):=HB0.out.row.2 2
     have v3:wc.cell? ⟨w.heap.size,3,none⟩=some (.slice R0 n1 r):=HB0.out.row.2 3
     have v7:wc.cell? ⟨w.heap.size,7,none⟩=some (.slice (some ⟨yb,yo,none⟩) 2 d0):=HB0.out.row.2 7
     have dn:=ae (HY.out wc HB0.out.up)
     have wY:wc.cell? ⟨yb,yo,none⟩=some (I r0.month):=dn.out.a 0 _ rfl
     have wZ:wc.cell? ⟨yb,yo+1,none⟩=some (I r0.df):=dn.out.a 1 _ rfl
     have xe:wc.cell? ⟨yb,yo+2,none⟩=some (I r0.dm):=dn.out.a 2 _ rfl
     have xg:wc.cell? ⟨yb,yo+3,none⟩=some (I r0.minute):=dn.out.a 3 _ rfl
     have xh:wc.cell? ⟨yb,yo+4,none⟩=some (I r0.off):=dn.out.a 4 _ rfl
     have xk:wc.cell? ⟨yb,yo+5,none⟩=some (I r1.month):=dn.out.b 0 _ rfl
     have xm:wc.cell? ⟨yb,yo+6,none⟩=some (I r1.df):=dn.out.b 1 _ rfl
     have xn:wc.cell? ⟨yb,yo+7,none⟩=some (I r1.dm):=dn.out.b 2 _ rfl
     have y13:wc.cell? ⟨yb,yo+8,none⟩=some (I r1.minute):=dn.out.b 3 _ rfl
     have xq:wc.cell? ⟨yb,yo+9,none⟩=some (I r1.off):=dn.out.b 4 _ rfl
     go_wp2_with fail
     rw [rounds_succ]
     go_upto_region 12 with fail
     have kW:=Yq.out bg yy r1 wc.drew HR1.out (by omega) (by omega) (by omega) HB0.out.up.drew
     have Jp:=sW cal bg yy r1 HC.out HR1.out (by omega)
     obtain ⟨pr1,zW⟩:∃pr,findF cal bg yy r1=pr:=⟨_,rfl⟩
     rw [zW] at kW Jp
     have OQ:=ae zW
     obtain ⟨fd1,RF⟩:=pr1
     simp only at kW Jp
     have zn:=ae kW
     clear kW zW
     go_cut [9,10] (fun d ok wx=>d=I fd1∧ok= .bool RF∧YS w #[I ep, .slice A0 n0 a,I lp, .slice R0 n1 r,I st, .slice C0 n2 c0,I ho, .slice (some ⟨yb,yo,none⟩) 2 d0] wx A n cp vg)
     case first=>
      go_region_law (go_simp;go_at_call 95;refine zn.out.mono ?_;rintro e wf ⟨rfl,hb⟩;have Zj:=ae (HB0.out.call (ah (Below.refl _ wc).drew hb));clear hb)
      all_goals
       go_wp2_with fail
       go_meet
       exact ⟨rfl,rfl,Zj.out⟩
     case rest=>
      obtain ⟨rfl,rfl,Qj⟩:=hcut
      have HA1:=ae Qj
      clear v0 v1 v2 v3 v7 dn wY wZ xe xg xh xk xm xn y13 xq
      clear Qj zn
      obtain ⟨BA,Eo⟩:∃t,DD cal bg yy r1 r0 vg=t:=⟨_,rfl⟩
      have DJ:=ae Eo
      have OW:Hid (Iq BA):=ae (by rw [←DJ.out];exact vV aae.out HC.out HR1.out HR0.out (by omega) (by omega))
      clear Eo
      cases RF with
      |false=>
       have hte:BA=vg:=by rw [←DJ.out];unfold DD;rw [OQ.out];rfl
       have HB1:Hid (YS w #[I ep, .slice A0 n0 a,I lp, .slice R0 n1 r,I st, .slice C0 n2 c0,I ho, .slice (some ⟨yb,yo,none⟩) 2 d0] wc A n cp BA):=ae (by rw [hte];exact HA1.out)
       clear hte
       have v0:wc.cell? ⟨w.heap.size,0,none⟩=some (I ep):=HB1.out.row.2 0
       have v1:wc.cell? ⟨w.heap.size,1,none⟩=some (.slice A0 n0 a):=HB1.out.row.2 1
       have v2:wc.cell? ⟨w.heap.size,2,none⟩=some (I lp):=HB1.out.row.2 2
       have v3:wc.cell? ⟨w.heap.size,3,none⟩=some (.slice R0 n1 r):=HB1.out.row.2 3
       have v7:wc.cell? ⟨w.heap.size,7,none⟩=some (.slice (some ⟨yb,yo,none⟩) 2 d0):=HB1.out.row.2 7
       have dn:=ae (HY.out wc HB1.out.up)
       have wY:wc.cell? ⟨yb,yo,none⟩=some (I r0.month):=dn.out.a 0 _ rfl
       have wZ:wc.cell? ⟨yb,yo+1,none⟩=some (I r0.df):=dn.out.a 1 _ rfl
       have xe:wc.cell? ⟨yb,yo+2,none⟩=some (I r0.dm):=dn.out.a 2 _ rfl
       have xg:wc.cell? ⟨yb,yo+3,none⟩=some (I r0.minute):=dn.out.a 3 _ rfl
       have xh:wc.cell? ⟨yb,yo+4,none⟩=some (I r0.off):=dn.out.a 4 _ rfl
       have xk:wc.cell? ⟨yb,yo+5,none⟩=some (I r1.month):=dn.out.b 0 _ rfl
       have xm:wc.cell? ⟨yb,yo+6,none⟩=some (I r1.df):=dn.out.b 1 _ rfl
       have xn:wc.cell? ⟨yb,yo+7,none⟩=some (I r1.dm):=dn.out.b 2 _ rfl
       have y13:wc.cell? ⟨yb,yo+8,none⟩=some (I r1.minute):=dn.out.b 3 _ rfl
       have xq:wc.cell? ⟨yb,yo+9,none⟩=some (I r1.off):=dn.out.b 4 _ rfl
       go_wp2_with fail
       rw [rounds_succ]
       go_wp2_with fail
       clear v0 v1 v2 v3 v7 dn wY wZ xe xg xh xk xm xn y13 xq
       have hge:=oW cal yy HC.out
       have hbd2:=iZ cal yy HC.out
       obtain ⟨f',hf1,hf2⟩:=tJ HF.out hlt U1.out hge
       rw [Oi.out,DJ.out] at hf2
       have hcy:=pg.out yy wc (by omega) HB1.out.up
       obtain ⟨yl,hyl⟩:∃v,dB cal yy=v:=⟨_,rfl⟩
       rw [hyl] at hf1 hf2 hcy hge hbd2
       have RV:=ae hf1
       have HF2:=ae hf2
       refine hcy.mono ?_
       clear hcy hyl hf1 hf2
       rintro e wz ⟨rfl,hb⟩
       have HZ:=ae (HB1.out.call hb)
       clear hb
       go_wp2_with fail
       go_roundw
       case rel=>exact ⟨f',bg+yl,yy+1,_,n,_,BA,by first|rfl|go_num,by go_num,by go_num,by omega,by omega,by omega,by omega,by omega,RV.out,HF2.out,OW.out,HZ.out⟩
       case measure=>simp [intOf];omega
      |true=>
       have hte:BA=tX vg ⟨fd1*1440+r1.minute - r0.off,r1.off⟩:=by rw [←DJ.out];unfold DD;rw [OQ.out];rfl
       have Wv:=ae hte
       have TM:=HR1.out.mi
       have TN:=HR0.out.of
       clear hte
       have v0:wc.cell? ⟨w.heap.size,0,none⟩=some (I ep):=HA1.out.row.2 0
       have v1:wc.cell? ⟨w.heap.size,1,none⟩=some (.slice A0 n0 a):=HA1.out.row.2 1
       have v2:wc.cell? ⟨w.heap.size,2,none⟩=some (I lp):=HA1.out.row.2 2
       have v3:wc.cell? ⟨w.heap.size,3,none⟩=some (.slice R0 n1 r):=HA1.out.row.2 3
       have v7:wc.cell? ⟨w.heap.size,7,none⟩=some (.slice (some ⟨yb,yo,none⟩) 2 d0):=HA1.out.row.2 7
       have dn:=ae (HY.out wc HA1.out.up)
       have wY:wc.cell? ⟨yb,yo,none⟩=some (I r0.month):=dn.out.a 0 _ rfl
       have wZ:wc.cell? ⟨yb,yo+1,none⟩=some (I r0.df):=dn.out.a 1 _ rfl
       have xe:wc.cell? ⟨yb,yo+2,none⟩=some (I r0.dm):=dn.out.a 2 _ rfl
       have xg:wc.cell? ⟨yb,yo+3,none⟩=some (I r0.minute):=dn.out.a 3 _ rfl
       have xh:wc.cell? ⟨yb,yo+4,none⟩=some (I r0.off):=dn.out.a 4 _ rfl
       have xk:wc.cell? ⟨yb,yo+5,none⟩=some (I r1.month):=dn.out.b 0 _ rfl
       have xm:wc.cell? ⟨yb,yo+6,none⟩=some (I r1.df):=dn.out.b 1 _ rfl
       have xn:wc.cell? ⟨yb,yo+7,none⟩=some (I r1.dm):=dn.out.b 2 _ rfl
       have y13:wc.cell? ⟨yb,yo+8,none⟩=some (I r1.minute):=dn.out.b 3 _ rfl
       have xq:wc.cell? ⟨yb,yo+9,none⟩=some (I r1.off):=dn.out.b 4 _ rfl
       have hw0:IntKind.i64.wrap 0=0:=by rw [IntKind.wrap_i64];omega
       have hw1:IntKind.i64.wrap 1=1:=by rw [IntKind.wrap_i64];omega
       have hw2:IntKind.i64.wrap (fd1*1440)=fd1*1440:=by rw [IntKind.wrap_i64];omega
       have hw3:IntKind.i64.wrap (fd1*1440+r1.minute)=fd1*1440+r1.minute:=by rw [IntKind.wrap_i64];omega
       have hw4:IntKind.i64.wrap (fd1*1440+r1.minute - r0.off)=fd1*1440+r1.minute - r0.off:=by rw [IntKind.wrap_i64];omega
       go_wp2_with fail
       go_still_tail 25,(by kernel_rfl)
       change wpList _ _ _ _ _ wc.drew
       go_wp2_with fail
       clear v0 v1 v2 v3 v7 dn wY wZ xe xg xh xk xm xn y13 xq
       have hown1:fD (w.heap.size+1) wc.drew A n cp vg:=HA1.out.own
       refine (uP (w.heap.size+1) n cp A vg ⟨fd1*1440+r1.minute - r0.off,r1.off⟩ wc.drew HA1.out.len (by omega) HA1.out.lo hown1).mono ?_
       clear hown1 TM TN hw0 hw1 hw2 hw3 hw4
       rintro e rf ⟨A1',Xj,rfl,hown,hb⟩
       have HB1:Hid (YS w #[I ep, .slice A0 n0 a,I lp, .slice R0 n1 r,I st, .slice C0 n2 c0,I ho, .slice (some ⟨yb,yo,none⟩) 2 d0] rf A1' (n+1) Xj BA):=ae (by
        rw [Wv.out]
        exact (HA1.out.call (Below.refl _ wc).drew).ins hb hown (by rw [vM,HA1.out.len]))
       clear hb hown
       have v0:rf.cell? ⟨w.heap.size,0,none⟩=some (I ep):=HB1.out.row.2 0
       have v1:rf.cell? ⟨w.heap.size,1,none⟩=some (.slice A0 n0 a):=HB1.out.row.2 1
       have v2:rf.cell? ⟨w.heap.size,2,none⟩=some (I lp):=HB1.out.row.2 2
       have v3:rf.cell? ⟨w.heap.size,3,none⟩=some (.slice R0 n1 r):=HB1.out.row.2 3
       have v7:rf.cell? ⟨w.heap.size,7,none⟩=some (.slice (some ⟨yb,yo,none⟩) 2 d0):=HB1.out.row.2 7
       have dn:=ae (HY.out rf HB1.out.up)
       have wY:rf.cell? ⟨yb,yo,none⟩=some (I r0.month):=dn.out.a 0 _ rfl
       have wZ:rf.cell? ⟨yb,yo+1,none⟩=some (I r0.df):=dn.out.a 1 _ rfl
       have xe:rf.cell? ⟨yb,yo+2,none⟩=some (I r0.dm):=dn.out.a 2 _ rfl
       have xg:rf.cell? ⟨yb,yo+3,none⟩=some (I r0.minute):=dn.out.a 3 _ rfl
       have xh:rf.cell? ⟨yb,yo+4,none⟩=some (I r0.off):=dn.out.a 4 _ rfl
       have xk:rf.cell? ⟨yb,yo+5,none⟩=some (I r1.month):=dn.out.b 0 _ rfl
       have xm:rf.cell? ⟨yb,yo+6,none⟩=some (I r1.df):=dn.out.b 1 _ rfl
       have xn:rf.cell? ⟨yb,yo+7,none⟩=some (I r1.dm):=dn.out.b 2 _ rfl
       have y13:rf.cell? ⟨yb,yo+8,none⟩=some (I r1.minute):=dn.out.b 3 _ rfl
       have xq:rf.cell? ⟨yb,yo+9,none⟩=some (I r1.off):=dn.out.b 4 _ rfl
       go_wp2_with fail
       rw [rounds_succ]
       go_wp2_with fail
       clear v0 v1 v2 v3 v7 dn wY wZ xe xg xh xk xm xn y13 xq
       have hge:=oW cal yy HC.out
       have hbd2:=iZ cal yy HC.out
       obtain ⟨f',hf1,hf2⟩:=tJ HF.out hlt U1.out hge
       rw [Oi.out,DJ.out] at hf2
       have hcy:=pg.out yy rf (by omega) HB1.out.up
       obtain ⟨yl,hyl⟩:∃v,dB cal yy=v:=⟨_,rfl⟩
       rw [hyl] at hf1 hf2 hcy hge hbd2
       have RV:=ae hf1
       have HF2:=ae hf2
       refine hcy.mono ?_
       clear hcy hyl hf1 hf2
       rintro e wz ⟨rfl,hb⟩
       have HZ:=ae (HB1.out.call hb)
       clear hb
       go_wp2_with fail
       go_roundw
       case rel=>exact ⟨f',bg+yl,yy+1,_,(n+1),_,BA,by first|rfl|go_num,by go_num,by go_num,by omega,by omega,by omega,by omega,by omega,RV.out,HF2.out,OW.out,HZ.out⟩
       case measure=>simp [intOf];omega
    |true=>
     have hte:vg=tX ts ⟨fd0*1440+r0.minute - r1.off,r0.off⟩:=by rw [←Oi.out];unfold DD;rw [Z7.out];rfl
     have HTE0:=ae hte
     have hmi0:=HR0.out.mi
     have hof0:=HR1.out.of
     clear hte
     have v0:wc.cell? ⟨w.heap.size,0,none⟩=some (I ep):=sV.out.row.2 0
     have v1:wc.cell? ⟨w.heap.size,1,none⟩=some (.slice A0 n0 a):=sV.out.row.2 1
     have v2:wc.cell? ⟨w.heap.size,2,none⟩=some (I lp):=sV.out.row.2 2
     have v3:wc.cell? ⟨w.heap.size,3,none⟩=some (.slice R0 n1 r):=sV.out.row.2 3
     have v7:wc.cell? ⟨w.heap.size,7,none⟩=some (.slice (some ⟨yb,yo,none⟩) 2 d0):=sV.out.row.2 7
     have dn:=ae (HY.out wc sV.out.up)
     have wY:wc.cell? ⟨yb,yo,none⟩=some (I r0.month):=dn.out.a 0 _ rfl
     have wZ:wc.cell? ⟨yb,yo+1,none⟩=some (I r0.df):=dn.out.a 1 _ rfl
     have xe:wc.cell? ⟨yb,yo+2,none⟩=some (I r0.dm):=dn.out.a 2 _ rfl
     have xg:wc.cell? ⟨yb,yo+3,none⟩=some (I r0.minute):=dn.out.a 3 _ rfl
     have xh:wc.cell? ⟨yb,yo+4,none⟩=some (I r0.off):=dn.out.a 4 _ rfl
     have xk:wc.cell? ⟨yb,yo+5,none⟩=some (I r1.month):=dn.out.b 0 _ rfl
     have xm:wc.cell? ⟨yb,yo+6,none⟩=some (I r1.df):=dn.out.b 1 _ rfl
     have xn:wc.cell? ⟨yb,yo+7,none⟩=some (I r1.dm):=dn.out.b 2 _ rfl
     have y13:wc.cell? ⟨yb,yo+8,none⟩=some (I r1.minute):=dn.out.b 3 _ rfl
     have xq:wc.cell? ⟨yb,yo+9,none⟩=some (I r1.off):=dn.out.b 4 _ rfl
     have hw0:IntKind.i64.wrap 0=0:=by rw [IntKind.wrap_i64];omega
     have hw1:IntKind.i64.wrap 1=1:=by rw [IntKind.wrap_i64];omega
     have hw2:IntKind.i64.wrap (fd0*1440)=fd0*1440:=by rw [IntKind.wrap_i64];omega
     have hw3:IntKind.i64.wrap (fd0*1440+r0.minute)=fd0*1440+r0.minute:=by rw [IntKind.wrap_i64];omega
     have hw4:IntKind.i64.wrap (fd0*1440+r0.minute - r1.off)=fd0*1440+r0.minute - r1.off:=by rw [IntKind.wrap_i64];omega
     go_wp2_with fail
     go_still_tail 25,(by kernel_rfl)
     change wpList _ _ _ _ _ wc.drew
     go_wp2_with fail
     clear v0 v1 v2 v3 v7 dn wY wZ xe xg xh xk xm xn y13 xq
     have hown0:fD (w.heap.size+1) wc.drew A n cp ts:=sV.out.own
     refine (uP (w.heap.size+1) n cp A ts ⟨fd0*1440+r0.minute - r1.off,r0.off⟩ wc.drew sV.out.len (by omega) sV.out.lo hown0).mono ?_
     clear hown0 hmi0 hof0 hw0 hw1 hw2 hw3 hw4
     rintro e ES ⟨YL,PD,rfl,hown,hb⟩
     have HB0:Hid (YS w #[I ep, .slice A0 n0 a,I lp, .slice R0 n1 r,I st, .slice C0 n2 c0,I ho, .slice (some ⟨yb,yo,none⟩) 2 d0] ES YL (n+1) PD vg):=ae (by
      rw [HTE0.out]
      exact (sV.out.call (Below.refl _ wc).drew).ins hb hown (by rw [vM,sV.out.len]))
     clear hb hown
     have v0:ES.cell? ⟨w.heap.size,0,none⟩=some (I ep):=HB0.out.row.2 0
     have v1:ES.cell? ⟨w.heap.size,1,none⟩=some (.slice A0 n0 a):=HB0.out.row.2 1
     have v2:ES.cell? ⟨w.heap.size,2,none⟩=some (I lp):=HB0.out.row.2 2
     have v3:ES.cell? ⟨w.heap.size,3,none⟩=some (.slice R0 n1 r):=HB0.out.row.2 3
     have v7:ES.cell? ⟨w.heap.size,7,none⟩=some (.slice (some ⟨yb,yo,none⟩) 2 d0):=HB0.out.row.2 7
     have dn:=ae (HY.out ES HB0.out.up)
     have wY:ES.cell? ⟨yb,yo,none⟩=some (I r0.month):=dn.out.a 0 _ rfl
     have wZ:ES.cell? ⟨yb,yo+1,none⟩=some (I r0.df):=dn.out.a 1 _ rfl
     have xe:ES.cell? ⟨yb,yo+2,none⟩=some (I r0.dm):=dn.out.a 2 _ rfl
     have xg:ES.cell? ⟨yb,yo+3,none⟩=some (I r0.minute):=dn.out.a 3 _ rfl
     have xh:ES.cell? ⟨yb,yo+4,none⟩=some (I r0.off):=dn.out.a 4 _ rfl
     have xk:ES.cell? ⟨yb,yo+5,none⟩=some (I r1.month):=dn.out.b 0 _ rfl
     have xm:ES.cell? ⟨yb,yo+6,none⟩=some (I r1.df):=dn.out.b 1 _ rfl
     have xn:ES.cell? ⟨yb,yo+7,none⟩=some (I r1.dm):=dn.out.b 2 _ rfl
     have y13:ES.cell? ⟨yb,yo+8,none⟩=some (I r1.minute):=dn.out.b 3 _ rfl
     have xq:ES.cell? ⟨yb,yo+9,none⟩=some (I r1.off):=dn.out.b 4 _ rfl
     go_wp2_with fail
     rw [rounds_succ]
     go_upto_region 12 with fail
     have kW:=Yq.out bg yy r1 ES.drew HR1.out (by omega) (by omega) (by omega) HB0.out.up.drew
     have Jp:=sW cal bg yy r1 HC.out HR1.out (by omega)
     obtain ⟨pr1,zW⟩:∃pr,findF cal bg yy r1=pr:=⟨_,rfl⟩
     rw [zW] at kW Jp
     have OQ:=ae zW
     obtain ⟨fd1,RF⟩:=pr1
     simp only at kW Jp
     have zn:=ae kW
     clear kW zW
     go_cut [9,10] (fun d ok wx=>d=I fd1∧ok= .bool RF∧YS w #[I ep, .slice A0 n0 a,I lp, .slice R0 n1 r,I st, .slice C0 n2 c0,I ho, .slice (some ⟨yb,yo,none⟩) 2 d0] wx YL (n+1) PD vg)
     case first=>
      go_region_law (go_simp;go_at_call 95;refine zn.out.mono ?_;rintro e wf ⟨rfl,hb⟩;have Zj:=ae (HB0.out.call (ah (Below.refl _ ES).drew hb));clear hb)
      all_goals
       go_wp2_with fail
       go_meet
       exact ⟨rfl,rfl,Zj.out⟩
     case rest=>
      obtain ⟨rfl,rfl,Qj⟩:=hcut
      have HA1:=ae Qj
      clear v0 v1 v2 v3 v7 dn wY wZ xe xg xh xk xm xn y13 xq
      clear Qj zn
      obtain ⟨BA,Eo⟩:∃t,DD cal bg yy r1 r0 vg=t:=⟨_,rfl⟩
      have DJ:=ae Eo
      have OW:Hid (Iq BA):=ae (by rw [←DJ.out];exact vV aae.out HC.out HR1.out HR0.out (by omega) (by omega))
      clear Eo
      cases RF with
      |false=>
       have hte:BA=vg:=by rw [←DJ.out];unfold DD;rw [OQ.out];rfl
       have HB1:Hid (YS w #[I ep, .slice A0 n0 a,I lp, .slice R0 n1 r,I st, .slice C0 n2 c0,I ho, .slice (some ⟨yb,yo,none⟩) 2 d0] wc YL (n+1) PD BA):=ae (by rw [hte];exact HA1.out)
       clear hte
       have v0:wc.cell? ⟨w.heap.size,0,none⟩=some (I ep):=HB1.out.row.2 0
       have v1:wc.cell? ⟨w.heap.size,1,none⟩=some (.slice A0 n0 a):=HB1.out.row.2 1
       have v2:wc.cell? ⟨w.heap.size,2,none⟩=some (I lp):=HB1.out.row.2 2
       have v3:wc.cell? ⟨w.heap.size,3,none⟩=some (.slice R0 n1 r):=HB1.out.row.2 3
       have v7:wc.cell? ⟨w.heap.size,7,none⟩=some (.slice (some ⟨yb,yo,none⟩) 2 d0):=HB1.out.row.2 7
       have dn:=ae (HY.out wc HB1.out.up)
       have wY:wc.cell? ⟨yb,yo,none⟩=some (I r0.month):=dn.out.a 0 _ rfl
       have wZ:wc.cell? ⟨yb,yo+1,none⟩=some (I r0.df):=dn.out.a 1 _ rfl
       have xe:wc.cell? ⟨yb,yo+2,none⟩=some (I r0.dm):=dn.out.a 2 _ rfl
       have xg:wc.cell? ⟨yb,yo+3,none⟩=some (I r0.minute):=dn.out.a 3 _ rfl
       have xh:wc.cell? ⟨yb,yo+4,none⟩=some (I r0.off):=dn.out.a 4 _ rfl
       have xk:wc.cell? ⟨yb,yo+5,none⟩=some (I r1.month):=dn.out.b 0 _ rfl
       have xm:wc.cell? ⟨yb,yo+6,none⟩=some (I r1.df):=dn.out.b 1 _ rfl
       have xn:wc.cell? ⟨yb,yo+7,none⟩=some (I r1.dm):=dn.out.b 2 _ rfl
       have y13:wc.cell? ⟨yb,yo+8,none⟩=some (I r1.minute):=dn.out.b 3 _ rfl
       have xq:wc.cell? ⟨yb,yo+9,none⟩=some (I r1.off):=dn.out.b 4 _ rfl
       go_wp2_with fail
       rw [rounds_succ]
       go_wp2_with fail
       clear v0 v1 v2 v3 v7 dn wY wZ xe xg xh xk xm xn y13 xq
       have hge:=oW cal yy HC.out
       have hbd2:=iZ cal yy HC.out
       obtain ⟨f',hf1,hf2⟩:=tJ HF.out hlt U1.out hge
       rw [Oi.out,DJ.out] at hf2
       have hcy:=pg.out yy wc (by omega) HB1.out.up
       obtain ⟨yl,hyl⟩:∃v,dB cal yy=v:=⟨_,rfl⟩
       rw [hyl] at hf1 hf2 hcy hge hbd2
       have RV:=ae hf1
       have HF2:=ae hf2
       refine hcy.mono ?_
       clear hcy hyl hf1 hf2
       rintro e wz ⟨rfl,hb⟩
       have HZ:=ae (HB1.out.call hb)
       clear hb
       go_wp2_with fail
       go_roundw
       case rel=>exact ⟨f',bg+yl,yy+1,_,(n+1),_,BA,by first|rfl|go_num,by go_num,by go_num,by omega,by omega,by omega,by omega,by omega,RV.out,HF2.out,OW.out,HZ.out⟩
       case measure=>simp [intOf];omega
      |true=>
       have hte:BA=tX vg ⟨fd1*1440+r1.minute - r0.off,r1.off⟩:=by rw [←DJ.out];unfold DD;rw [OQ.out];rfl
       have Wv:=ae hte
       have TM:=HR1.out.mi
       have TN:=HR0.out.of
       clear hte
       have v0:wc.cell? ⟨w.heap.size,0,none⟩=some (I ep):=HA1.out.row.2 0
       have v1:wc.cell? ⟨w.heap.size,1,none⟩=some (.slice A0 n0 a):=HA1.out.row.2 1
       have v2:wc.cell? ⟨w.heap.size,2,none⟩=some (I lp):=HA1.out.row.2 2
       have v3:wc.cell? ⟨w.heap.size,3,none⟩=some (.slice R0 n1 r):=HA1.out.row.2 3
       have v7:wc.cell? ⟨w.heap.size,7,none⟩=some (.slice (some ⟨yb,yo,none⟩) 2 d0):=HA1.out.row.2 7
       have dn:=ae (HY.out wc HA1.out.up)
       have wY:wc.cell? ⟨yb,yo,none⟩=some (I r0.month):=dn.out.a 0 _ rfl
       have wZ:wc.cell? ⟨yb,yo+1,none⟩=some (I r0.df):=dn.out.a 1 _ rfl
       have xe:wc.cell? ⟨yb,yo+2,none⟩=some (I r0.dm):=dn.out.a 2 _ rfl
       have xg:wc.cell? ⟨yb,yo+3,none⟩=some (I r0.minute):=dn.out.a 3 _ rfl
       have xh:wc.cell? ⟨yb,yo+4,none⟩=some (I r0.off):=dn.out.a 4 _ rfl
       have xk:wc.cell? ⟨yb,yo+5,none⟩=some (I r1.month):=dn.out.b 0 _ rfl
       have xm:wc.cell? ⟨yb,yo+6,none⟩=some (I r1.df):=dn.out.b 1 _ rfl
       have xn:wc.cell? ⟨yb,yo+7,none⟩=some (I r1.dm):=dn.out.b 2 _ rfl
       have y13:wc.cell? ⟨yb,yo+8,none⟩=some (I r1.minute):=dn.out.b 3 _ rfl
       have xq:wc.cell? ⟨yb,yo+9,none⟩=some (I r1.off):=dn.out.b 4 _ rfl
       have hw0:IntKind.i64.wrap 0=0:=by rw [IntKind.wrap_i64];omega
       have hw1:IntKind.i64.wrap 1=1:=by rw [IntKind.wrap_i64];omega
       have hw2:IntKind.i64.wrap (fd1*1440)=fd1*1440:=by rw [IntKind.wrap_i64];omega
       have hw3:IntKind.i64.wrap (fd1*1440+r1.minute)=fd1*1440+r1.minute:=by rw [IntKind.wrap_i64];omega
       have hw4:IntKind.i64.wrap (fd1*1440+r1.minute - r0.off)=fd1*1440+r1.minute - r0.off:=by rw [IntKind.wrap_i64];omega
       go_wp2_with fail
       go_still_tail 25,(by kernel_rfl)
       change wpList _ _ _ _ _ wc.drew
       go_wp2_with fail
       clear v0 v1 v2 v3 v7 dn wY wZ xe xg xh xk xm xn y13 xq
       have hown1:fD (w.heap.size+1) wc.drew YL (n+1) PD vg:=HA1.out.own
       refine (uP (w.heap.size+1) (n+1) PD YL vg ⟨fd1*1440+r1.minute - r0.off,r1.off⟩ wc.drew HA1.out.len (by omega) HA1.out.lo hown1).mono ?_
       clear hown1 TM TN hw0 hw1 hw2 hw3 hw4
       rintro e rf ⟨A1',Xj,rfl,hown,hb⟩
       have HB1:Hid (YS w #[I ep, .slice A0 n0 a,I lp, .slice R0 n1 r,I st, .slice C0 n2 c0,I ho, .slice (some ⟨yb,yo,none⟩) 2 d0] rf A1' ((n+1)+1) Xj BA):=ae (by
        rw [Wv.out]
        exact (HA1.out.call (Below.refl _ wc).drew).ins hb hown (by rw [vM,HA1.out.len]))
       clear hb hown
       have v0:rf.cell? ⟨w.heap.size,0,none⟩=some (I ep):=HB1.out.row.2 0
       have v1:rf.cell? ⟨w.heap.size,1,none⟩=some (.slice A0 n0 a):=HB1.out.row.2 1
       have v2:rf.cell? ⟨w.heap.size,2,none⟩=some (I lp):=HB1.out.row.2 2
       have v3:rf.cell? ⟨w.heap.size,3,none⟩=some (.slice R0 n1 r):=HB1.out.row.2 3
       have v7:rf.cell? ⟨w.heap.size,7,none⟩=some (.slice (some ⟨yb,yo,none⟩) 2 d0):=HB1.out.row.2 7
       have dn:=ae (HY.out rf HB1.out.up)
       have wY:rf.cell? ⟨yb,yo,none⟩=some (I r0.month):=dn.out.a 0 _ rfl
       have wZ:rf.cell? ⟨yb,yo+1,none⟩=some (I r0.df):=dn.out.a 1 _ rfl
       have xe:rf.cell? ⟨yb,yo+2,none⟩=some (I r0.dm):=dn.out.a 2 _ rfl
       have xg:rf.cell? ⟨yb,yo+3,none⟩=some (I r0.minute):=dn.out.a 3 _ rfl
       have xh:rf.cell? ⟨yb,yo+4,none⟩=some (I r0.off):=dn.out.a 4 _ rfl
       have xk:rf.cell? ⟨yb,yo+5,none⟩=some (I r1.month):=dn.out.b 0 _ rfl
       have xm:rf.cell? ⟨yb,yo+6,none⟩=some (I r1.df):=dn.out.b 1 _ rfl
       have xn:rf.cell? ⟨yb,yo+7,none⟩=some (I r1.dm):=dn.out.b 2 _ rfl
       have y13:rf.cell? ⟨yb,yo+8,none⟩=some (I r1.minute):=dn.out.b 3 _ rfl
       have xq:rf.cell? ⟨yb,yo+9,none⟩=some (I r1.off):=dn.out.b 4 _ rfl
       go_wp2_with fail
       rw [rounds_succ]
       go_wp2_with fail
       clear v0 v1 v2 v3 v7 dn wY wZ xe xg xh xk xm xn y13 xq
       have hge:=oW cal yy HC.out
       have hbd2:=iZ cal yy HC.out
       obtain ⟨f',hf1,hf2⟩:=tJ HF.out hlt U1.out hge
       rw [Oi.out,DJ.out] at hf2
       have hcy:=pg.out yy rf (by omega) HB1.out.up
       obtain ⟨yl,hyl⟩:∃v,dB cal yy=v:=⟨_,rfl⟩
       rw [hyl] at hf1 hf2 hcy hge hbd2
       have RV:=ae hf1
       have HF2:=ae hf2
       refine hcy.mono ?_
       clear hcy hyl hf1 hf2
       rintro e wz ⟨rfl,hb⟩
       have HZ:=ae (HB1.out.call hb)
       clear hb
       go_wp2_with fail
       go_roundw
       case rel=>exact ⟨f',bg+yl,yy+1,_,((n+1)+1),_,BA,by first|rfl|go_num,by go_num,by go_num,by omega,by omega,by omega,by omega,by omega,RV.out,HF2.out,OW.out,HZ.out⟩
       case measure=>simp [intOf];omega
  ·have hts:=Ky HF.out hlt
   subst hts
   have hb0':Hid True:=ae trivial
   clear hb0'
   go_wp2_with fail
   clear v0 hlt
   have hle:=HW.out.len
   rcases Nat.eq_zero_or_pos n with hn0|hn0
   ·subst hn0
    refine wp_loop_rounds 1 ?_
    rw [rounds_succ]
    go_wp2_with fail
    go_ret2
    exact ⟨A,0,cp,hle,by rw [show jA ts (q*1440)=true by rw [List.eq_nil_of_length_eq_zero hle];rfl];rfl,HW.out.own.lower (Nat.le_succ _),HW.out.up⟩
   ·obtain ⟨g,cap,hgv, -⟩:=dw HW.out.own hn0
    injection hgv with hA hB hC
    subst hA hC
    clear hB
    have OI:=ae hle
    have hnb:n≤1000:=by omega
    clear hle hy1 hy2 hb0 hbs hn2'
    have FH:=ae (fun k=>pq k OV.out)
    clear OV HF U1 Yq pg
    go_loopw [11] (fun i wr=>GRel w #[I ep, .slice A0 n0 a,I lp, .slice R0 n1 r,I st, .slice C0 n2 c0,I ho, .slice (some ⟨yb,yo,none⟩) 2 d0] (some ⟨g,0,none⟩) n cp ts (q*1440) i wr) (fun i _=>n - (intOf i).toNat)
    case atStart=>exact ⟨0,Nat.zero_le _,by go_num,(fun _ h=>absurd h (Nat.not_lt_zero _)),HW.out⟩
    case round=>
     obtain ⟨k,hk,rfl,hall,hys⟩:=hrel
     have kP:=ae hall
     have HX:=ae hys
     clear hall hys HW
     by_cases hlt:k<n
     ·have x0:=qH HX.out.own HX.out.len 0 hn0
      have x1:=qH HX.out.own HX.out.len k hlt
      rw [Nat.zero_mul] at x0
      have hb0:=FH.out 0
      have hb1:=FH.out k
      obtain ⟨a0,ha0⟩:∃v,iH ts 0=v:=⟨_,rfl⟩
      obtain ⟨a1,ha1⟩:∃v,iH ts k=v:=⟨_,rfl⟩
      rw [ha0] at x0 hb0
      rw [ha1] at x1 hb1
      have sV:=ae ha0
      have HA1:=ae ha1
      clear ha0 ha1
      have i0:(0:Int)≤(k:Int):=by omega
      have i1:(k:Int)<(n:Int):=by omega
      have i2:(0:Int)<(n:Int):=by omega
      by_cases hlt1:k+1<n
      ·have x2:=qH HX.out.own HX.out.len (k+1) hlt1
       have hb2:=FH.out (k+1)
       obtain ⟨a2,ha2⟩:∃v,iH ts (k+1)=v:=⟨_,rfl⟩
       rw [ha2] at x2 hb2
       have HA2:=ae ha2
       clear ha2
       have i3:(k:Int)+1<(n:Int):=by omega
       have HG:Hid (nS ts (q*1440) k=a2 - a1):=ae (by unfold nS;rw [OI.out,if_pos hlt1,HA2.out,HA1.out])
       by_cases wR:a2 - a1<2160
       ·go_wp2_with fail
        go_ret2
        exact ⟨_,n,_,OI.out,by rw [Ll OI.out hlt (by rw [HG.out];exact wR)];rfl,HX.out.own.lower (Nat.le_succ _),HX.out.up⟩
       ·go_wp2_with fail
        go_roundw
        case rel=>exact ⟨k+1,by omega,by go_num,Dc kP.out (by rw [HG.out];omega),HX.out⟩
        case measure=>simp [intOf];omega
      ·have i3:¬(k:Int)+1<(n:Int):=by omega
       have HG:Hid (nS ts (q*1440) k=a0+q*1440 - a1):=ae (by unfold nS;rw [OI.out,if_neg hlt1,sV.out,HA1.out])
       by_cases wR:a0+q*1440 - a1<2160
       ·go_wp2_with fail
        go_ret2
        exact ⟨_,n,_,OI.out,by rw [Ll OI.out hlt (by rw [HG.out];exact wR)];rfl,HX.out.own.lower (Nat.le_succ _),HX.out.up⟩
       ·go_wp2_with fail
        go_roundw
        case rel=>exact ⟨k+1,by omega,by go_num,Dc kP.out (by rw [HG.out];omega),HX.out⟩
        case measure=>simp [intOf];omega
     ·have hnl:¬(k:Int)<(n:Int):=by omega
      have rF:Hid (k=n):=ae (by omega)
      go_wp2_with fail
      go_ret2
      exact ⟨_,n,_,OI.out,by rw [PS OI.out (by rw [←rF.out];exact kP.out)];rfl,HX.out.own.lower (Nat.le_succ _),HX.out.up⟩
end Go.Proofs.YtdibbemgpikgjaaGreatDoor
