/- The texts Pj, Kb, in this order. -/
import Derived.Test.YtdibbemgpikgjaaGreatDoorV00
import Derived.Test.YtdibbemgpikgjaaGreatDoorV05
import Derived.Test.YtdibbemgpikgjaaGreatDoorV08
namespace Go.Proofs.YtdibbemgpikgjaaGreatDoor
open Go Go.RowKit
theorem X5 (a b:Int) (c:Bool) (W:World):(binOp .neq 125 (.agg #[I a,I b, .bool c]) (.agg #[I a,I b, .bool c])).run Tryz.prog W= .ok (.bool false) W:=by simp [go_sem]
theorem X6 (a b:Int) (W:World):(binOp .neq 127 (.agg #[I a,I b]) (.agg #[I a,I b])).run Tryz.prog W= .ok (.bool false) W:=by simp [go_sem]
theorem X7 (a b c d e:Int) (W:World):(binOp .neq 129 (.agg #[I a,I b,I c,I d,I e]) (.agg #[I a,I b,I c,I d,I e])).run Tryz.prog W= .ok (.bool false) W:=by simp [go_sem]
structure oH (w:World) (t:TypeId) (us vs:Array Value) (W:World):Prop where
 a:Row W w.heap.size us
 b:Row W (w.heap.size+1) vs
 up:Below w.heap.size w W
theorem oH.start (w:World) (t:TypeId) (us vs:Array Value):oH w t us vs ((w.alloc (.cells us t)).alloc (.cells vs t)):=
 ⟨Row.iq (heap_alloc2_old w _ _),Row.iq (heap_alloc2_new w _ _),ah (ag w _) (ag _ _)⟩
theorem oH.drew {w W:World} {t:TypeId} {us vs:Array Value} (h:oH w t us vs W) (q:Nat):oH w t us vs (W.drewN q):=
 ⟨h.a.keep (below_drewN' _ _),h.b.keep (below_drewN' _ _),ah h.up (below_drewN' _ _)⟩
theorem oH.below {w W W':World} {t:TypeId} {us vs:Array Value} (h:oH w t us vs W) (hb:Below W.heap.size W W'):oH w t us vs W':=
 ⟨h.a.keep hb,h.b.keep hb,ah h.up hb⟩
def zF (w:World) (t:TypeId) (us vs:Array Value) (n:Nat) (i:Value) (wr:World):Prop:=∃k:Nat,k≤n∧i= .int .i64 k∧oH w t us vs wr
theorem EO {w W:World} {A A':Option Addr} {α:Type} {s:Nat} {f:α→List Value} {xs:List α} (hs:∀x∈xs,(f x).length=s) (h:az w w.heap.size A (xs.flatMap f)) (h':az w w.heap.size A' (xs.flatMap f)) (hb:Below w.heap.size w W) (k:Nat) (hk:k<xs.length) (h0:0<s):
  ∃x b off b' off',xs[k]? =some x∧A=some ⟨b,off,none⟩∧A'=some ⟨b',off',none⟩∧W.rangeAt b (off+k*s) (f x)∧W.rangeAt b' (off'+k*s) (f x):=by
 have hl:0<(xs.flatMap f).length:=by rw [dZ f xs hs];exact Nat.mul_pos (by omega) h0
 obtain ⟨b,off,e1,hb1,hc1⟩:=h.there hl
 obtain ⟨b',off',e2,hb2,hc2⟩:=h'.there hl
 have hx:xs[k]? =some xs[k]:=List.getElem?_eq_getElem hk
 exact ⟨xs[k],b,off,b',off',hx,e1,e2,aO (az.elem hs hc1 k _ hx) hb hb1,aO (az.elem hs hc2 k _ hx) hb hb2⟩
theorem Nk (zs:List Int):zs.map I=zs.flatMap (fun z=> [I z]):=by
 induction zs with
 |nil=>rfl
 |cons z zs ih=>rw [List.map_cons,ih,List.flatMap_cons];rfl
set_option maxRecDepth 10000 in
set_option maxHeartbeats 4000000 in
theorem ED (c:Cal) (A1 A2 B1 B2:Option Addr) (a1 a2 b1 b2 n m:Nat) (w:World) (hn:c.au.length=n) (hm:c.rules.length=m) (hn1:n≤10000) (hmm:m≤10000) (hm1:az w w.heap.size A1 (c.au.map I)) (hm2:az w w.heap.size A2 (c.au.map I)) (hr1:az w w.heap.size B1 (c.rules.flatMap Lr.cells)) (hr2:az w w.heap.size B2 (c.rules.flatMap Lr.cells)):
  Calls Tryz.prog 57 #[.agg (aG c A1 a1 B1 b1), .agg (aG c A2 a2 B2 b2)] w (Gives (.bool true) w):=by
 rw [Nk] at hm1 hm2
 have HC:Hid (az w w.heap.size A1 (c.au.flatMap fun z=> [I z])∧az w w.heap.size A2 (c.au.flatMap fun z=> [I z])∧az w w.heap.size B1 (c.rules.flatMap Lr.cells)∧az w w.heap.size B2 (c.rules.flatMap Lr.cells)):=ae ⟨hm1,hm2,hr1,hr2⟩
 have HV:=ae (oH.start w 63 (aG c A1 a1 B1 b1) (aG c A2 a2 B2 b2))
 clear hm1 hm2 hr1 hr2
 have g0:=HV.out.a.2
 have g1:=HV.out.b.2
 have p0:((w.alloc (.cells (aG c A1 a1 B1 b1) 63)).alloc (.cells (aG c A2 a2 B2 b2) 63)).cell? ⟨w.heap.size,0,none⟩=some (I c.aK):=g0 0
 have p1:((w.alloc (.cells (aG c A1 a1 B1 b1) 63)).alloc (.cells (aG c A2 a2 B2 b2) 63)).cell? ⟨w.heap.size,1,none⟩=some (.slice A1 n a1):=by rw [g0 1,←hn];rfl
 have p2:((w.alloc (.cells (aG c A1 a1 B1 b1) 63)).alloc (.cells (aG c A2 a2 B2 b2) 63)).cell? ⟨w.heap.size,2,none⟩=some (I c.bz):=g0 2
 have p3:((w.alloc (.cells (aG c A1 a1 B1 b1) 63)).alloc (.cells (aG c A2 a2 B2 b2) 63)).cell? ⟨w.heap.size,3,none⟩=some (.slice B1 m b1):=by rw [g0 3,←hm];rfl
 have q0:((w.alloc (.cells (aG c A1 a1 B1 b1) 63)).alloc (.cells (aG c A2 a2 B2 b2) 63)).cell? ⟨w.heap.size+1,0,none⟩=some (I c.aK):=g1 0
 have q1:((w.alloc (.cells (aG c A1 a1 B1 b1) 63)).alloc (.cells (aG c A2 a2 B2 b2) 63)).cell? ⟨w.heap.size+1,1,none⟩=some (.slice A2 n a2):=by rw [g1 1,←hn];rfl
 have q2:((w.alloc (.cells (aG c A1 a1 B1 b1) 63)).alloc (.cells (aG c A2 a2 B2 b2) 63)).cell? ⟨w.heap.size+1,2,none⟩=some (I c.bz):=g1 2
 have q3:((w.alloc (.cells (aG c A1 a1 B1 b1) 63)).alloc (.cells (aG c A2 a2 B2 b2) 63)).cell? ⟨w.heap.size+1,3,none⟩=some (.slice B2 m b2):=by rw [g1 3,←hm];rfl
 clear g0 g1
 go_enter Tryz.func57,Tryz.ntmps57
 go_wp2_with fail
 clear p0 p1 p2 p3 q0 q1 q2 q3
 go_loopw [5] (fun i wr=>zF w 63 (aG c A1 a1 B1 b1) (aG c A2 a2 B2 b2) n i wr) (fun i _=>n - (intOf i).toNat)
 case atStart=>exact ⟨0,Nat.zero_le _,rfl,HV.out⟩
 case round=>
  obtain ⟨k,hk,rfl,hv⟩:=hrel
  have HW:=ae hv
  clear hv
  by_cases hlt:k<n
  ·obtain ⟨x,ba,oa,bc,oc,hx,e1,e2,hr1,hr2⟩:=EO (s:=1) (f:=fun z=> [I z]) (xs:=c.au) (fun _ _=>rfl) HC.out.1 HC.out.2.1 HW.out.up k (by omega) (by omega)
   have v1:wr.cell? ⟨w.heap.size,1,none⟩=some (.slice (some ⟨ba,oa,none⟩) n a1):=by rw [HW.out.a.2 1,←e1];exact (by rw [←hn];rfl)
   have v2:wr.cell? ⟨w.heap.size+1,1,none⟩=some (.slice (some ⟨bc,oc,none⟩) n a2):=by rw [HW.out.b.2 1,←e2];exact (by rw [←hn];rfl)
   have c0:wr.cell? ⟨ba,oa+k,none⟩=some (I x):=by have h:=hr1 0 _ rfl;rwa [Nat.mul_one] at h
   have d0:wr.cell? ⟨bc,oc+k,none⟩=some (I x):=by have h:=hr2 0 _ rfl;rwa [Nat.mul_one] at h
   have i0:(0:Int)≤(k:Int):=by omega
   have i1:(k:Int)<(n:Int):=by omega
   clear hx e1 e2 hr1 hr2
   go_wp2_with fail
   go_quiet (fail)
   go_wp2_with fail
   go_roundw
   case rel=>exact ⟨k+1,by omega,by go_num,HW.out.drew _⟩
   case measure=>simp [intOf];omega
  ·have hke:k=n:=by omega
   have hnl:¬(k:Int)<(n:Int):=by omega
   have v1:=HW.out.a.2 1
   have u1:wr.cell? ⟨w.heap.size,1,none⟩=some (.slice A1 n a1):=by rw [v1,←hn];rfl
   clear v1 hke hlt
   have v3:=HW.out.a.2 3
   have u3:wr.cell? ⟨w.heap.size,3,none⟩=some (.slice B1 m b1):=by rw [v3,←hm];rfl
   clear v3
   go_wp2_with fail
   clear u3 hnl u1
   go_loopw [6] (fun i wr=>zF w 63 (aG c A1 a1 B1 b1) (aG c A2 a2 B2 b2) m i wr) (fun i _=>m - (intOf i).toNat)
   case atStart=>exact ⟨0,Nat.zero_le _,rfl,HW.out⟩
   case round=>
    obtain ⟨k,hk,rfl,hv⟩:=hrel
    have HW:=ae hv
    clear hv
    by_cases hlt:k<m
    ·obtain ⟨x,ba,oa,bc,oc,hx,e1,e2,hr1,hr2⟩:=EO (s:=3) (f:=Lr.cells) (xs:=c.rules) (fun _ _=>rfl) HC.out.2.2.1 HC.out.2.2.2 HW.out.up k (by omega) (by omega)
     have v1:wr.cell? ⟨w.heap.size,3,none⟩=some (.slice (some ⟨ba,oa,none⟩) m b1):=by rw [HW.out.a.2 3,←e1];exact (by rw [←hm];rfl)
     have v2:wr.cell? ⟨w.heap.size+1,3,none⟩=some (.slice (some ⟨bc,oc,none⟩) m b2):=by rw [HW.out.b.2 3,←e2];exact (by rw [←hm];rfl)
     have c0:wr.cell? ⟨ba,oa+k*3,none⟩=some (I x.every):=hr1 0 _ rfl
     have d0:wr.cell? ⟨bc,oc+k*3,none⟩=some (I x.every):=hr2 0 _ rfl
     have c1:wr.cell? ⟨ba,oa+k*3+1,none⟩=some (I x.rest):=hr1 1 _ rfl
     have d1:wr.cell? ⟨bc,oc+k*3+1,none⟩=some (I x.rest):=hr2 1 _ rfl
     have c2:wr.cell? ⟨ba,oa+k*3+2,none⟩=some (.bool x.yes):=hr1 2 _ rfl
     have d2:wr.cell? ⟨bc,oc+k*3+2,none⟩=some (.bool x.yes):=hr2 2 _ rfl
     have i0:(0:Int)≤(k:Int):=by omega
     have i1:(k:Int)<(m:Int):=by omega
     have hq:=fun W=>X5 x.every x.rest x.yes W
     clear hx e1 e2 hr1 hr2
     go_wp2_with fail
     go_quiet (fail)
     go_wp2_with fail
     go_roundw
     case rel=>exact ⟨k+1,by omega,by go_num,HW.out.drew _⟩
     case measure=>simp [intOf];omega
    ·have hke:k=m:=by omega
     have hnl:¬(k:Int)<(m:Int):=by omega
     have v1:=HW.out.a.2 3
     have u1:wr.cell? ⟨w.heap.size,3,none⟩=some (.slice B1 m b1):=by rw [v1,←hm];rfl
     clear v1 hke hlt
     go_wp2_with fail
     go_ret
     exact ⟨rfl,HW.out.up⟩
set_option maxRecDepth 10000 in
set_option maxHeartbeats 4000000 in
theorem BU (z:Zn) (s1 s2:Zs) (n m:Nat) (w:World) (hl:oK z) (hn:z.trans.length=n) (hm:z.aB.length=m) (h1:jb w w.heap.size s1 z) (h2:jb w w.heap.size s2 z):
  Calls Tryz.prog 37 #[.agg (ay z s1), .agg (ay z s2)] w (Gives (.bool true) w):=by
 have hn1:n≤10000:=by have:=hl.trans;omega
 have hmm:m≤10000:=by have:=hl.aB;omega
 have HC:Hid (jb w w.heap.size s1 z∧jb w w.heap.size s2 z):=ae ⟨h1,h2⟩
 have HV:=ae (oH.start w 67 (ay z s1) (ay z s2))
 have MB:Hid (Calls Tryz.prog 57 #[.agg #[I z.cal.aK, .slice s1.A z.cal.au.length s1.a,I z.cal.bz, .slice s1.B z.cal.rules.length s1.b], .agg #[I z.cal.aK, .slice s2.A z.cal.au.length s2.a,I z.cal.bz, .slice s2.B z.cal.rules.length s2.b]] ((w.alloc (.cells (ay z s1) 67)).alloc (.cells (ay z s2) 67)) (Gives (.bool true) ((w.alloc (.cells (ay z s1) 67)).alloc (.cells (ay z s2) 67)))):=
  ae (ED z.cal s1.A s2.A s1.B s2.B s1.a s2.a s1.b s2.b _ _ ((w.alloc (.cells (ay z s1) 67)).alloc (.cells (ay z s2) 67)) rfl rfl hl.au hl.rules (h1.au.keep HV.out.up |>.more HV.out.up.size) (h2.au.keep HV.out.up |>.more HV.out.up.size) (h1.rules.keep HV.out.up |>.more HV.out.up.size) (h2.rules.keep HV.out.up |>.more HV.out.up.size))
 clear h1 h2 hl
 have g0:=HV.out.a.2
 have g1:=HV.out.b.2
 have p0:((w.alloc (.cells (ay z s1) 67)).alloc (.cells (ay z s2) 67)).cell? ⟨w.heap.size,0,none⟩=some (I z.cal.aK):=g0 0
 have p1:((w.alloc (.cells (ay z s1) 67)).alloc (.cells (ay z s2) 67)).cell? ⟨w.heap.size,1,none⟩=some (.slice s1.A z.cal.au.length s1.a):=g0 1
 have p2:((w.alloc (.cells (ay z s1) 67)).alloc (.cells (ay z s2) 67)).cell? ⟨w.heap.size,2,none⟩=some (I z.cal.bz):=g0 2
 have p3:((w.alloc (.cells (ay z s1) 67)).alloc (.cells (ay z s2) 67)).cell? ⟨w.heap.size,3,none⟩=some (.slice s1.B z.cal.rules.length s1.b):=g0 3
 have p4:((w.alloc (.cells (ay z s1) 67)).alloc (.cells (ay z s2) 67)).cell? ⟨w.heap.size,4,none⟩=some (I z.start):=g0 4
 have p5:((w.alloc (.cells (ay z s1) 67)).alloc (.cells (ay z s2) 67)).cell? ⟨w.heap.size,5,none⟩=some (.slice s1.C n s1.c):=by rw [g0 5,←hn];rfl
 have p6:((w.alloc (.cells (ay z s1) 67)).alloc (.cells (ay z s2) 67)).cell? ⟨w.heap.size,6,none⟩=some (I z.hor):=g0 6
 have p7:((w.alloc (.cells (ay z s1) 67)).alloc (.cells (ay z s2) 67)).cell? ⟨w.heap.size,7,none⟩=some (.slice s1.D m s1.d):=by rw [g0 7,←hm];rfl
 have q0:((w.alloc (.cells (ay z s1) 67)).alloc (.cells (ay z s2) 67)).cell? ⟨w.heap.size+1,0,none⟩=some (I z.cal.aK):=g1 0
 have q1:((w.alloc (.cells (ay z s1) 67)).alloc (.cells (ay z s2) 67)).cell? ⟨w.heap.size+1,1,none⟩=some (.slice s2.A z.cal.au.length s2.a):=g1 1
 have q2:((w.alloc (.cells (ay z s1) 67)).alloc (.cells (ay z s2) 67)).cell? ⟨w.heap.size+1,2,none⟩=some (I z.cal.bz):=g1 2
 have q3:((w.alloc (.cells (ay z s1) 67)).alloc (.cells (ay z s2) 67)).cell? ⟨w.heap.size+1,3,none⟩=some (.slice s2.B z.cal.rules.length s2.b):=g1 3
 have q4:((w.alloc (.cells (ay z s1) 67)).alloc (.cells (ay z s2) 67)).cell? ⟨w.heap.size+1,4,none⟩=some (I z.start):=g1 4
 have q5:((w.alloc (.cells (ay z s1) 67)).alloc (.cells (ay z s2) 67)).cell? ⟨w.heap.size+1,5,none⟩=some (.slice s2.C n s2.c):=by rw [g1 5,←hn];rfl
 have q6:((w.alloc (.cells (ay z s1) 67)).alloc (.cells (ay z s2) 67)).cell? ⟨w.heap.size+1,6,none⟩=some (I z.hor):=g1 6
 have q7:((w.alloc (.cells (ay z s1) 67)).alloc (.cells (ay z s2) 67)).cell? ⟨w.heap.size+1,7,none⟩=some (.slice s2.D m s2.d):=by rw [g1 7,←hm];rfl
 clear g0 g1
 go_enter Tryz.func37,Tryz.ntmps37
 go_wp2_with fail
 clear p0 p1 p2 p3 p4 p5 p6 p7 q0 q1 q2 q3 q4 q5 q6 q7
 refine MB.out.mono ?_
 rintro e w2 ⟨rfl,hb2⟩
 have nK:=ae (HV.out.below hb2)
 have t1:w2.cell? ⟨w.heap.size,5,none⟩=some (.slice s1.C n s1.c):=by rw [nK.out.a.2 5,←hn];rfl
 clear hb2 MB HV
 go_wp2_with fail
 clear t1
 go_loopw [5] (fun i wr=>zF w 67 (ay z s1) (ay z s2) n i wr) (fun i _=>n - (intOf i).toNat)
 case atStart=>exact ⟨0,Nat.zero_le _,rfl,nK.out⟩
 case round=>
  obtain ⟨k,hk,rfl,hv⟩:=hrel
  have HW:=ae hv
  clear hv
  by_cases hlt:k<n
  ·obtain ⟨x,ba,oa,bc,oc,hx,e1,e2,hr1,hr2⟩:=EO (s:=2) (f:=Tr.cells) (xs:=z.trans) (fun _ _=>rfl) HC.out.1.trans HC.out.2.trans HW.out.up k (by omega) (by omega)
   have v1:wr.cell? ⟨w.heap.size,5,none⟩=some (.slice (some ⟨ba,oa,none⟩) n s1.c):=by rw [HW.out.a.2 5,←e1];exact (by rw [←hn];rfl)
   have v2:wr.cell? ⟨w.heap.size+1,5,none⟩=some (.slice (some ⟨bc,oc,none⟩) n s2.c):=by rw [HW.out.b.2 5,←e2];exact (by rw [←hn];rfl)
   have c0:wr.cell? ⟨ba,oa+k*2,none⟩=some (I x.at_):=hr1 0 _ rfl
   have d0:wr.cell? ⟨bc,oc+k*2,none⟩=some (I x.at_):=hr2 0 _ rfl
   have c1:wr.cell? ⟨ba,oa+k*2+1,none⟩=some (I x.off):=hr1 1 _ rfl
   have d1:wr.cell? ⟨bc,oc+k*2+1,none⟩=some (I x.off):=hr2 1 _ rfl
   have i0:(0:Int)≤(k:Int):=by omega
   have i1:(k:Int)<(n:Int):=by omega
   have hq:=fun W=>X6 x.at_ x.off W
   clear hx e1 e2 hr1 hr2
   go_wp2_with fail
   go_quiet (fail)
   go_wp2_with fail
   go_roundw
   case rel=>exact ⟨k+1,by omega,by go_num,HW.out.drew _⟩
   case measure=>simp [intOf];omega
  ·have hke:k=n:=by omega
   have hnl:¬(k:Int)<(n:Int):=by omega
   have v1:=HW.out.a.2 5
   have u1:wr.cell? ⟨w.heap.size,5,none⟩=some (.slice s1.C n s1.c):=by rw [v1,←hn];rfl
   clear v1 hke hlt
   have v3:=HW.out.a.2 7
   have u3:wr.cell? ⟨w.heap.size,7,none⟩=some (.slice s1.D m s1.d):=by rw [v3,←hm];rfl
   clear v3
   go_wp2_with fail
   clear u3 hnl u1
   go_loopw [6] (fun i wr=>zF w 67 (ay z s1) (ay z s2) m i wr) (fun i _=>m - (intOf i).toNat)
   case atStart=>exact ⟨0,Nat.zero_le _,rfl,HW.out⟩
   case round=>
    obtain ⟨k,hk,rfl,hv⟩:=hrel
    have HW:=ae hv
    clear hv
    by_cases hlt:k<m
    ·obtain ⟨x,ba,oa,bc,oc,hx,e1,e2,hr1,hr2⟩:=EO (s:=5) (f:=Yr.cells) (xs:=z.aB) (fun _ _=>rfl) HC.out.1.aB HC.out.2.aB HW.out.up k (by omega) (by omega)
     have v1:wr.cell? ⟨w.heap.size,7,none⟩=some (.slice (some ⟨ba,oa,none⟩) m s1.d):=by rw [HW.out.a.2 7,←e1];exact (by rw [←hm];rfl)
     have v2:wr.cell? ⟨w.heap.size+1,7,none⟩=some (.slice (some ⟨bc,oc,none⟩) m s2.d):=by rw [HW.out.b.2 7,←e2];exact (by rw [←hm];rfl)
     have c0:wr.cell? ⟨ba,oa+k*5,none⟩=some (I x.month):=hr1 0 _ rfl
     have d0:wr.cell? ⟨bc,oc+k*5,none⟩=some (I x.month):=hr2 0 _ rfl
     have c1:wr.cell? ⟨ba,oa+k*5+1,none⟩=some (I x.df):=hr1 1 _ rfl
     have d1:wr.cell? ⟨bc,oc+k*5+1,none⟩=some (I x.df):=hr2 1 _ rfl
     have c2:wr.cell? ⟨ba,oa+k*5+2,none⟩=some (I x.dm):=hr1 2 _ rfl
     have d2:wr.cell? ⟨bc,oc+k*5+2,none⟩=some (I x.dm):=hr2 2 _ rfl
     have c3:wr.cell? ⟨ba,oa+k*5+3,none⟩=some (I x.minute):=hr1 3 _ rfl
     have d3:wr.cell? ⟨bc,oc+k*5+3,none⟩=some (I x.minute):=hr2 3 _ rfl
     have c4:wr.cell? ⟨ba,oa+k*5+4,none⟩=some (I x.off):=hr1 4 _ rfl
     have d4:wr.cell? ⟨bc,oc+k*5+4,none⟩=some (I x.off):=hr2 4 _ rfl
     have i0:(0:Int)≤(k:Int):=by omega
     have i1:(k:Int)<(m:Int):=by omega
     have hq:=fun W=>X7 x.month x.df x.dm x.minute x.off W
     clear hx e1 e2 hr1 hr2
     go_wp2_with fail
     go_quiet (fail)
     go_wp2_with fail
     go_roundw
     case rel=>exact ⟨k+1,by omega,by go_num,HW.out.drew _⟩
     case measure=>simp [intOf];omega
    ·have hke:k=m:=by omega
     have hnl:¬(k:Int)<(m:Int):=by omega
     have v1:=HW.out.a.2 7
     have u1:wr.cell? ⟨w.heap.size,7,none⟩=some (.slice s1.D m s1.d):=by rw [v1,←hm];rfl
     clear v1 hke hlt
     go_wp2_with fail
     go_ret
     exact ⟨rfl,HW.out.up⟩
end Go.Proofs.YtdibbemgpikgjaaGreatDoor
namespace Go.Proofs.YtdibbemgpikgjaaGreatDoor
open Go Go.RowKit
def Gs (d:Int):Int:=if d%7=0 then d else 7*d
def jl (z:Zn):Int:=match z.aB with| []=>1|_::_=>Gs (qx z.cal)
theorem Ec (c:Cal) (hc:fO c):0≤qx c∧qx c≤200:=by
 have h1:=iZ c 1 hc
 have h2:=iZ c 2 hc
 unfold qx
 split<;>omega
theorem jD.alloc {w W:World} {cs:Array Value} (h:jD w cs W) (o:Obj):jD w cs (W.alloc o):=h.grow (ag W o)
set_option maxRecDepth 10000 in
set_option maxHeartbeats 1000000 in
theorem Bd (z:Zn) (s:Zs) (w:World) (hc:fO z.cal) (h:jb w w.heap.size s z):Calls Tryz.prog 80 #[.agg (ay z s)] w (Gives (I (jl z)) w):=by
 have ug:Hid (∀W,Below w.heap.size w W→Calls Tryz.prog 98 #[.agg (aG z.cal s.A s.a s.B s.b)] W (Gives (.tuple #[I (qy z.cal),I (qx z.cal), .int .i64 0]) W)):=ae fun W hb=>Tm z.cal s.A s.B s.a s.b W hc ⟨h.au.grow hb,h.rules.grow hb⟩
 have hbd:=Ec z.cal hc
 obtain ⟨⟨ep,mo,lp,ru⟩,st,tr,ho,yr⟩:=z
 obtain ⟨A,a,R,r,C,c,D,d⟩:=s
 unfold aG at ug
 unfold ay jl
 simp only at ug hbd ⊢
 obtain ⟨q,hq⟩:∃q,qx ⟨ep,mo,lp,ru⟩=q:=⟨_,rfl⟩
 rw [hq] at ug hbd ⊢
 obtain ⟨y,hy⟩:∃y,qy ⟨ep,mo,lp,ru⟩=y:=⟨_,rfl⟩
 rw [hy] at ug
 obtain ⟨n0,hn0⟩:∃n,mo.length=n:=⟨_,rfl⟩
 obtain ⟨n1,hn1⟩:∃n,ru.length=n:=⟨_,rfl⟩
 obtain ⟨n2,hn2⟩:∃n,tr.length=n:=⟨_,rfl⟩
 rw [hn0,hn1] at ug ⊢
 rw [hn2]
 clear hc h hq hy hn0 hn1 hn2
 cases yr with
 |nil=>
  go_enter Tryz.func80,Tryz.ntmps80
  go_wp2_with fail
  go_ret
  exact ⟨rfl,ag w _⟩
 |cons y1 ys=>
  obtain ⟨m,hm⟩:∃m,(y1::ys).length=m:=⟨_,rfl⟩
  have hm0:((m:Int)==0)=false:=by rw [←hm];simp;omega
  rw [hm]
  clear hm
  have Nc:q.tmod 7=q%7:=Int.tmod_eq_emod_of_nonneg hbd.1
  have HV:=ae (jD.start w #[I ep, .slice A n0 a,I lp, .slice R n1 r,I st, .slice C n2 c,I ho, .slice D m d] 67)
  obtain ⟨V,hV⟩:∃V,Gs q=V:=⟨_,rfl⟩
  rw [hV]
  have Va:=ae hV
  clear hV
  obtain ⟨p,hp⟩:∃p,q%7=p:=⟨_,rfl⟩
  rw [hp] at Nc
  have HP:=ae hp
  clear hp
  have ht:(p !=0)=true∨(p !=0)=false:=by cases (p !=0)<;>simp
  rcases ht with ht|ht
  all_goals
   have HT:=ae ht
   go_enter Tryz.func80,Tryz.ntmps80
   go_wp2_with fail
   refine (ug.out _ HV.out.up).mono ?_
   rintro e w1 ⟨rfl,hb1⟩
   have HW:=ae (HV.out.grow hb1)
   clear hb1
   go_wp2_with fail
   go_ret
   exact ⟨by rw [←Va.out];have h1:=HT.out;have h2:=HP.out;simp at h1;simp [Gs,h1,h2],HW.out.up⟩
def fM (wd wk:Int):Nat→Int→Int→Int→Int×Bool
 |0,_,_,last=>(last,wk==5&&decide (0≤last))
 |n+1,d,cn,last=>if d%7=wd then (if cn+1=wk∧wk<5 then (d,true) else fM wd wk n (d+1) (cn+1) d) else fM wd wk n (d+1) cn last
def nP (c:Cal) (bg y mo:Int):Int:=if mo=2 then bg+cu c y 1 else bg
def findF (c:Cal) (bg y:Int) (r:Yr):Int×Bool:=fM r.dm r.df (cu c y r.month).toNat (nP c bg y r.month) 0 (-1)
theorem jH (c:Cal) (y m:Int) (hc:fO c) (hm:m=1∨m=2):0≤cu c y m∧cu c y m≤9:=by
 obtain ⟨ep,m0,m1,lp,rs,rfl,b1,b2,b3,b4,_⟩:=hc.form
 rcases hm with rfl|rfl
 ·show 0≤m0+_∧m0+_≤9
  split<;>omega
 ·show 0≤m1+_∧m1+_≤9
  split<;>omega
theorem oH.wW (w:World) (t t1 t2:TypeId) (us vs:Array Value):oH w t us vs ((w.alloc (.cells us t1)).alloc (.cells vs t2)):=
 ⟨Row.iq (heap_alloc2_old w _ _),Row.iq (heap_alloc2_new w _ _),ah (ag w _) (ag _ _)⟩
def YX (w:World) (us vs:Array Value) (wd wk fs:Int) (n:Nat) (res:Int×Bool) (c l d:Value) (wr:World):Prop:=
 ∃j:Nat,∃cn la:Int,j≤n∧c= .int .i64 cn∧l= .int .i64 la∧d= .int .i64 (fs+j)∧0≤cn∧cn≤j∧ -1≤la∧la≤fs+j∧fM wd wk (n - j) (fs+j) cn la=res∧oH w 0 us vs wr
theorem Dv {wd wk:Int} {n j:Nat} {d cn la:Int} {res:Int×Bool} (h:fM wd wk (n - j) d cn la=res) (hj:n≤j):res=(la,wk==5&&decide (0≤la)):=by
 rw [Nat.sub_eq_zero_of_le hj] at h
 exact h.symm
theorem Du {wd wk fs:Int} {n j:Nat} {cn la:Int} {res:Int×Bool} (h:fM wd wk (n - j) (fs+j) cn la=res) (hj:j<n) (ht:((fs+j)%7==wd)=false):fM wd wk (n - (j+1)) (fs+((j+1:Nat):Int)) cn la=res:=by
 rw [show n - j=(n - (j+1))+1 by omega,fM,if_neg (by simpa using ht)] at h
 rw [show fs+((j+1:Nat):Int)=fs+(j:Int)+1 by omega]
 exact h
theorem G6 {wd wk fs:Int} {n j:Nat} {cn la:Int} {res:Int×Bool} (h:fM wd wk (n - j) (fs+j) cn la=res) (hj:j<n) (ht:((fs+j)%7==wd)=true) (hu:cn+1=wk∧wk<5):res=(fs+j,true):=by
 rw [show n - j=(n - (j+1))+1 by omega,fM,if_pos (by simpa using ht),if_pos hu] at h
 exact h.symm
theorem tu {wd wk fs:Int} {n j:Nat} {cn la:Int} {res:Int×Bool} (h:fM wd wk (n - j) (fs+j) cn la=res) (hj:j<n) (ht:((fs+j)%7==wd)=true) (hu:¬(cn+1=wk∧wk<5)):fM wd wk (n - (j+1)) (fs+((j+1:Nat):Int)) (cn+1) (fs+j)=res:=by
 rw [show n - j=(n - (j+1))+1 by omega,fM,if_pos (by simpa using ht),if_neg hu] at h
 rw [show fs+((j+1:Nat):Int)=fs+(j:Int)+1 by omega]
 exact h
set_option maxRecDepth 10000 in
set_option maxHeartbeats 2000000 in
theorem PL (c:Cal) (A R:Option Addr) (a r:Nat) (bg y:Int) (x:Yr) (w:World) (hc:fO c) (h:mJ w w.heap.size A R c) (hb:0≤bg) (hb2:bg≤100000) (hy:0≤y) (hm:x.month=1∨x.month=2):
  Calls Tryz.prog 95 #[.agg (aG c A a R r),I bg,I y, .agg #[I x.month,I x.df,I x.dm,I x.minute,I x.off]] w (Gives (.tuple #[I (findF c bg y x).1, .bool (findF c bg y x).2]) w):=by
 obtain ⟨mo,wk,wd,mi,of⟩:=x
 simp only at hm ⊢
 have uD:Hid (∀W,Below w.heap.size w W→Calls Tryz.prog 113 #[.agg (aG c A a R r),I y,I 1] W (Gives (I (cu c y 1)) W)):=ae fun W hb=>Dk _ A R a r y 1 W hc (h.grow hb) hy (.inl rfl)
 have jw:Hid (∀W,Below w.heap.size w W→Calls Tryz.prog 113 #[.agg (aG c A a R r),I y,I mo] W (Gives (I (cu c y mo)) W)):=ae fun W hb=>Dk _ A R a r y mo W hc (h.grow hb) hy hm
 have h1:=jH c y 1 hc (.inl rfl)
 have h2:=jH c y mo hc hm
 obtain ⟨res,hres⟩:∃res,findF c bg y ⟨mo,wk,wd,mi,of⟩=res:=⟨_,rfl⟩
 rw [hres]
 unfold findF nP at hres
 simp only at hres
 obtain ⟨q,hq⟩:∃q,cu c y 1=q:=⟨_,rfl⟩
 rw [hq] at uD h1 hres
 obtain ⟨n,hn⟩:∃n:Nat,cu c y mo=n:=⟨(cu c y mo).toNat,by omega⟩
 rw [hn] at jw h2 hres
 rw [Int.toNat_natCast] at hres
 obtain ⟨ep,lp,A',R',n0,n1,hcs⟩:∃ep lp,∃A' R':Option Addr,∃n m:Nat,aG c A a R r= #[I ep, .slice A' n a,I lp, .slice R' m r]:=⟨_,_,_,_,_,_,rfl⟩
 rw [hcs] at uD jw ⊢
 clear hcs hn hq hc h hy
 have hn9:n≤9:=by omega
 clear h2
 rcases hm with rfl|rfl
 ·have HV:=ae (oH.wW w 0 63 129 #[I ep, .slice A' n0 a,I lp, .slice R' n1 r] #[I 1,I wk,I wd,I mi,I of])
  go_enter Tryz.func95,Tryz.ntmps95
  go_wp2_with fail
  generalize (w.alloc (.cells #[I ep, .slice A' n0 a,I lp, .slice R' n1 r] 63)).alloc (.cells #[I 1,I wk,I wd,I mi,I of] 129)=W0 at HV ⊢
  have v0:W0.cell? ⟨w.heap.size,0,none⟩=some (I ep):=HV.out.a.2 0
  have v1:W0.cell? ⟨w.heap.size,1,none⟩=some (.slice A' n0 a):=HV.out.a.2 1
  have v2:W0.cell? ⟨w.heap.size,2,none⟩=some (I lp):=HV.out.a.2 2
  have v3:W0.cell? ⟨w.heap.size,3,none⟩=some (.slice R' n1 r):=HV.out.a.2 3
  have u0:W0.cell? ⟨w.heap.size+1,0,none⟩=some (I 1):=HV.out.b.2 0
  have u1:W0.cell? ⟨w.heap.size+1,1,none⟩=some (I wk):=HV.out.b.2 1
  have u2:W0.cell? ⟨w.heap.size+1,2,none⟩=some (I wd):=HV.out.b.2 2
  rw [if_neg (by omega)] at hres
  have ja:=ae hres
  clear hres h1 uD
  refine wp_loop_rounds 1 ?_
  rw [rounds_succ]
  go_wp2_with fail
  clear v0 v1 v2 v3 u0 u1 u2
  have hf0:=hb
  have hf1:bg≤200000:=by omega
  clear hb hb2
  go_loopw [12,13,14] (fun c l d wr=>YX w #[I ep, .slice A' n0 a,I lp, .slice R' n1 r] #[I 1,I wk,I wd,I mi,I of] wd wk bg n res c l d wr) (fun _ _ d _=>((bg+n) - intOf d).toNat)
  case atStart=>exact ⟨0,0, -1,Nat.zero_le _,rfl,rfl,by go_num,by omega,by omega,by omega,by omega,by simpa using ja.out,HV.out⟩
  case round=>
   obtain ⟨j,cn,la,hj,rfl,rfl,rfl,hc0,hc1,hl0,hl1,hsc,hv⟩:=hrel
   have HS:=ae hsc
   have HW:=ae hv
   clear hsc hv HV
   have v0:wr.cell? ⟨w.heap.size,0,none⟩=some (I ep):=HW.out.a.2 0
   have v1:wr.cell? ⟨w.heap.size,1,none⟩=some (.slice A' n0 a):=HW.out.a.2 1
   have v2:wr.cell? ⟨w.heap.size,2,none⟩=some (I lp):=HW.out.a.2 2
   have v3:wr.cell? ⟨w.heap.size,3,none⟩=some (.slice R' n1 r):=HW.out.a.2 3
   have u0:wr.cell? ⟨w.heap.size+1,0,none⟩=some (I 1):=HW.out.b.2 0
   have u1:wr.cell? ⟨w.heap.size+1,1,none⟩=some (I wk):=HW.out.b.2 1
   have u2:wr.cell? ⟨w.heap.size+1,2,none⟩=some (I wd):=HW.out.b.2 2
   go_wp2_with fail
   refine (jw.out _ HW.out.up).mono ?_
   rintro e w3 ⟨rfl,hb3⟩
   have HX:=ae (HW.out.below hb3)
   clear v0 v1 v2 v3 u0 u1 u2 hb3
   have u1:w3.cell? ⟨w.heap.size+1,1,none⟩=some (I wk):=HX.out.b.2 1
   have u2:w3.cell? ⟨w.heap.size+1,2,none⟩=some (I wd):=HX.out.b.2 2
   by_cases hlt:j<n
   ·have hlt':bg+(j:Int)<bg+(n:Int):=by omega
    have Nc:Int.tmod (bg+(j:Int)) 7=(bg+(j:Int))%7:=Int.tmod_eq_emod_of_nonneg (by omega)
    obtain ⟨p,hp⟩:∃p,(bg+(j:Int))%7=p:=⟨_,rfl⟩
    rw [hp] at Nc
    have HP:=ae hp
    clear hp
    have ht:(p==wd)=true∨(p==wd)=false:=by cases (p==wd)<;>simp
    rcases ht with ht|ht
    ·have hu:(cn+1==wk)=true∨(cn+1==wk)=false:=by cases (cn+1==wk)<;>simp
     have HT:=ae ht
     rcases hu with hu|hu
     ·by_cases h5:wk<5
      ·have HU:=ae hu
       have H5:=ae h5
       have HE:=ae (G6 HS.out hlt (by rw [HP.out];exact HT.out) ⟨by simpa using HU.out,H5.out⟩)
       go_wp2_with fail
       go_ret2
       exact ⟨by rw [HE.out];rfl,HX.out.up⟩
      ·have HU:=ae hu
       have H5:=ae h5
       have HE:=ae (tu HS.out hlt (by rw [HP.out];exact HT.out) (fun h=>H5.out h.2))
       go_wp2_with fail
       go_roundw
       case rel=>exact ⟨j+1,cn+1,bg+j,by omega,by go_num,by go_num,by go_num,by omega,by omega,by omega,by omega,HE.out,HX.out⟩
       case measure=>simp [intOf];omega
     ·have HU:=ae hu
      have HE:=ae (tu HS.out hlt (by rw [HP.out];exact HT.out) (fun h=>by have h1:=HU.out;simp [h.1] at h1))
      go_wp2_with fail
      go_roundw
      case rel=>exact ⟨j+1,cn+1,bg+j,by omega,by go_num,by go_num,by go_num,by omega,by omega,by omega,by omega,HE.out,HX.out⟩
      case measure=>simp [intOf];omega
    ·have HT:=ae ht
     have HE:=ae (Du HS.out hlt (by rw [HP.out];exact HT.out))
     go_wp2_with fail
     go_roundw
     case rel=>exact ⟨j+1,cn,la,by omega,by go_num,by go_num,by go_num,by omega,by omega,by omega,by omega,HE.out,HX.out⟩
     case measure=>simp [intOf];omega
   ·have hke:j=n:=by omega
    have hnl:¬bg+(j:Int)<bg+(n:Int):=by omega
    have HE:=ae (Dv HS.out (by omega))
    clear hke hlt
    have hk5:(wk==5)=true∨(wk==5)=false:=by cases (wk==5)<;>simp
    rcases hk5 with hk5|hk5
    ·have HK:=ae hk5
     go_wp2_with fail
     go_ret2
     exact ⟨by rw [show res=(la,decide (0≤la)) by rw [HE.out,HK.out];rfl];rfl,HX.out.up⟩
    ·have HK:=ae hk5
     go_wp2_with fail
     go_ret2
     exact ⟨by rw [show res=(la,false) by rw [HE.out,HK.out];rfl];rfl,HX.out.up⟩
 ·have HV:=ae (oH.wW w 0 63 129 #[I ep, .slice A' n0 a,I lp, .slice R' n1 r] #[I 2,I wk,I wd,I mi,I of])
  go_enter Tryz.func95,Tryz.ntmps95
  go_wp2_with fail
  generalize (w.alloc (.cells #[I ep, .slice A' n0 a,I lp, .slice R' n1 r] 63)).alloc (.cells #[I 2,I wk,I wd,I mi,I of] 129)=W0 at HV ⊢
  have v0:W0.cell? ⟨w.heap.size,0,none⟩=some (I ep):=HV.out.a.2 0
  have v1:W0.cell? ⟨w.heap.size,1,none⟩=some (.slice A' n0 a):=HV.out.a.2 1
  have v2:W0.cell? ⟨w.heap.size,2,none⟩=some (I lp):=HV.out.a.2 2
  have v3:W0.cell? ⟨w.heap.size,3,none⟩=some (.slice R' n1 r):=HV.out.a.2 3
  have u0:W0.cell? ⟨w.heap.size+1,0,none⟩=some (I 2):=HV.out.b.2 0
  have u1:W0.cell? ⟨w.heap.size+1,1,none⟩=some (I wk):=HV.out.b.2 1
  have u2:W0.cell? ⟨w.heap.size+1,2,none⟩=some (I wd):=HV.out.b.2 2
  simp only [if_true] at hres
  refine wp_loop_rounds 2 ?_
  rw [rounds_succ]
  go_wp2_with fail
  refine (uD.out _ HV.out.up).mono ?_
  rintro e w1 ⟨rfl,hb1⟩
  have Oq:=ae (HV.out.below hb1)
  clear v0 v1 v2 v3 u0 u1 u2 hb1 HV
  have v0:w1.cell? ⟨w.heap.size,0,none⟩=some (I ep):=Oq.out.a.2 0
  have v1:w1.cell? ⟨w.heap.size,1,none⟩=some (.slice A' n0 a):=Oq.out.a.2 1
  have v2:w1.cell? ⟨w.heap.size,2,none⟩=some (I lp):=Oq.out.a.2 2
  have v3:w1.cell? ⟨w.heap.size,3,none⟩=some (.slice R' n1 r):=Oq.out.a.2 3
  have u0:w1.cell? ⟨w.heap.size+1,0,none⟩=some (I 2):=Oq.out.b.2 0
  have u1:w1.cell? ⟨w.heap.size+1,1,none⟩=some (I wk):=Oq.out.b.2 1
  have u2:w1.cell? ⟨w.heap.size+1,2,none⟩=some (I wd):=Oq.out.b.2 2
  go_wp2_with fail
  rw [rounds_succ]
  go_wp2_with fail
  clear v0 v1 v2 v3 u0 u1 u2
  have HV:=Oq
  have hf0:0≤bg+q:=by omega
  have hf1:bg+q≤200000:=by omega
  have ja:=ae hres
  clear hres h1 uD hb hb2
  generalize bg+q=fs at hf0 hf1 ja ⊢
  go_loopw [12,13,14] (fun c l d wr=>YX w #[I ep, .slice A' n0 a,I lp, .slice R' n1 r] #[I 2,I wk,I wd,I mi,I of] wd wk fs n res c l d wr) (fun _ _ d _=>((fs+n) - intOf d).toNat)
  case atStart=>exact ⟨0,0, -1,Nat.zero_le _,rfl,rfl,by go_num,by omega,by omega,by omega,by omega,by simpa using ja.out,HV.out⟩
  case round=>
   obtain ⟨j,cn,la,hj,rfl,rfl,rfl,hc0,hc1,hl0,hl1,hsc,hv⟩:=hrel
   have HS:=ae hsc
   have HW:=ae hv
   clear hsc hv HV
   have v0:wr.cell? ⟨w.heap.size,0,none⟩=some (I ep):=HW.out.a.2 0
   have v1:wr.cell? ⟨w.heap.size,1,none⟩=some (.slice A' n0 a):=HW.out.a.2 1
   have v2:wr.cell? ⟨w.heap.size,2,none⟩=some (I lp):=HW.out.a.2 2
   have v3:wr.cell? ⟨w.heap.size,3,none⟩=some (.slice R' n1 r):=HW.out.a.2 3
   have u0:wr.cell? ⟨w.heap.size+1,0,none⟩=some (I 2):=HW.out.b.2 0
   have u1:wr.cell? ⟨w.heap.size+1,1,none⟩=some (I wk):=HW.out.b.2 1
   have u2:wr.cell? ⟨w.heap.size+1,2,none⟩=some (I wd):=HW.out.b.2 2
   go_wp2_with fail
   refine (jw.out _ HW.out.up).mono ?_
   rintro e w3 ⟨rfl,hb3⟩
   have HX:=ae (HW.out.below hb3)
   clear v0 v1 v2 v3 u0 u1 u2 hb3
   have u1:w3.cell? ⟨w.heap.size+1,1,none⟩=some (I wk):=HX.out.b.2 1
   have u2:w3.cell? ⟨w.heap.size+1,2,none⟩=some (I wd):=HX.out.b.2 2
   by_cases hlt:j<n
   ·have hlt':fs+(j:Int)<fs+(n:Int):=by omega
    have Nc:Int.tmod (fs+(j:Int)) 7=(fs+(j:Int))%7:=Int.tmod_eq_emod_of_nonneg (by omega)
    obtain ⟨p,hp⟩:∃p,(fs+(j:Int))%7=p:=⟨_,rfl⟩
    rw [hp] at Nc
    have HP:=ae hp
    clear hp
    have ht:(p==wd)=true∨(p==wd)=false:=by cases (p==wd)<;>simp
    rcases ht with ht|ht
    ·have hu:(cn+1==wk)=true∨(cn+1==wk)=false:=by cases (cn+1==wk)<;>simp
     have HT:=ae ht
     rcases hu with hu|hu
     ·by_cases h5:wk<5
      ·have HU:=ae hu
       have H5:=ae h5
       have HE:=ae (G6 HS.out hlt (by rw [HP.out];exact HT.out) ⟨by simpa using HU.out,H5.out⟩)
       go_wp2_with fail
       go_ret2
       exact ⟨by rw [HE.out];rfl,HX.out.up⟩
      ·have HU:=ae hu
       have H5:=ae h5
       have HE:=ae (tu HS.out hlt (by rw [HP.out];exact HT.out) (fun h=>H5.out h.2))
       go_wp2_with fail
       go_roundw
       case rel=>exact ⟨j+1,cn+1,fs+j,by omega,by go_num,by go_num,by go_num,by omega,by omega,by omega,by omega,HE.out,HX.out⟩
       case measure=>simp [intOf];omega
     ·have HU:=ae hu
      have HE:=ae (tu HS.out hlt (by rw [HP.out];exact HT.out) (fun h=>by have h1:=HU.out;simp [h.1] at h1))
      go_wp2_with fail
      go_roundw
      case rel=>exact ⟨j+1,cn+1,fs+j,by omega,by go_num,by go_num,by go_num,by omega,by omega,by omega,by omega,HE.out,HX.out⟩
      case measure=>simp [intOf];omega
    ·have HT:=ae ht
     have HE:=ae (Du HS.out hlt (by rw [HP.out];exact HT.out))
     go_wp2_with fail
     go_roundw
     case rel=>exact ⟨j+1,cn,la,by omega,by go_num,by go_num,by go_num,by omega,by omega,by omega,by omega,HE.out,HX.out⟩
     case measure=>simp [intOf];omega
   ·have hke:j=n:=by omega
    have hnl:¬fs+(j:Int)<fs+(n:Int):=by omega
    have HE:=ae (Dv HS.out (by omega))
    clear hke hlt
    have hk5:(wk==5)=true∨(wk==5)=false:=by cases (wk==5)<;>simp
    rcases hk5 with hk5|hk5
    ·have HK:=ae hk5
     go_wp2_with fail
     go_ret2
     exact ⟨by rw [show res=(la,decide (0≤la)) by rw [HE.out,HK.out];rfl];rfl,HX.out.up⟩
    ·have HK:=ae hk5
     go_wp2_with fail
     go_ret2
     exact ⟨by rw [show res=(la,false) by rw [HE.out,HK.out];rfl];rfl,HX.out.up⟩
end Go.Proofs.YtdibbemgpikgjaaGreatDoor
