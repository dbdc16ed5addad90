/- The texts Kc, in this order. -/
import Derived.Test.YtdibbemgpikgjaaGreatDoorV00
import Derived.Test.YtdibbemgpikgjaaGreatDoorV09
namespace Go.Proofs.YtdibbemgpikgjaaGreatDoor
open Go Go.RowKit
def yE (ts:List Tr) (t:Tr):Nat→Nat
 |0=>0
 |k+1=>if t.at_<(ts[k]?.map (·.at_)).getD 0 then yE ts t k else k+1
def tX (ts:List Tr) (t:Tr):List Tr:=ts.take (yE ts t ts.length)++t::ts.drop (yE ts t ts.length)
theorem Uf (ts:List Tr) (t:Tr) (k:Nat):yE ts t k≤k:=by
 induction k with
 |zero=>exact Nat.le_refl _
 |succ k ih=>unfold yE;split<;>omega
theorem vM (ts:List Tr) (t:Tr):(tX ts t).length=ts.length+1:=by
 have:=Uf ts t ts.length
 simp [tX]
 omega
def Aa (ts:List Tr) (t:Tr) (k:Nat):List Value:=(ts.take k++t::ts.drop k).flatMap Tr.cells
theorem Qn (ts:List Tr) (t:Tr):Aa ts t ts.length=ts.flatMap Tr.cells++ [I t.at_,I t.off]:=by
 simp [Aa,List.take_length,List.drop_length,Tr.cells]
theorem swap4 (P R:List Value) (q:Nat) (a0 a1 t0 t1:Value) (h:P.length=q*2):
  ((((P++a0::a1::t0::t1::R).set ((q+1)*2) a0).set ((q+1)*2+1) a1).set (q*2) t0).set (q*2+1) t1=P++t0::t1::a0::a1::R:=by
 rw [List.set_append_right _ _ (by omega),List.set_append_right _ _ (by omega),List.set_append_right _ _ (by omega),List.set_append_right _ _ (by omega)]
 rw [h,show (q+1)*2 - q*2=2 by omega,show (q+1)*2+1 - q*2=3 by omega,show q*2 - q*2=0 by omega,show q*2+1 - q*2=1 by omega]
 rfl
theorem take_at (ts:List Tr) (q:Nat) (hq:q<ts.length):∃x,ts[q]? =some x∧ts.take (q+1)=ts.take q++ [x]∧ts.drop q=x::ts.drop (q+1):=
 ⟨ts[q],List.getElem?_eq_getElem hq,by rw [List.take_succ_eq_append_getElem hq],by rw [List.drop_eq_getElem_cons hq]⟩
theorem Dj (ts:List Tr) (t x:Tr) (q:Nat) (hq:q<ts.length) (hx:ts[q]? =some x):
  Aa ts t (q+1)=(ts.take q).flatMap Tr.cells++I x.at_::I x.off::I t.at_::I t.off::(ts.drop (q+1)).flatMap Tr.cells∧
  Aa ts t q=(ts.take q).flatMap Tr.cells++I t.at_::I t.off::I x.at_::I x.off::(ts.drop (q+1)).flatMap Tr.cells∧((ts.take q).flatMap Tr.cells).length=q*2:=by
 obtain ⟨x',h1,h2,h3⟩:=take_at ts q hq
 rw [hx] at h1
 injection h1 with h1
 subst h1
 refine ⟨by simp [Aa,h2,Tr.cells],by simp [Aa,h3,Tr.cells],?_⟩
 rw [dZ (s:=2) Tr.cells _ (fun _ _=>rfl),List.length_take,Nat.min_eq_left (by omega)]
def fD (lo:Nat) (w:World) (A:Option Addr) (n c:Nat) (ts:List Tr):Prop:=w.ownsRow lo 127 2 (.slice A n c) n (ts.flatMap Tr.cells)
def InsP (lo n:Nat) (w:World) (ts:List Tr) (e:Ending) (w':World):Prop:=∃A c,e= .returned (.slice A n c)∧fD lo w' A n c ts∧Below lo w w'
theorem Pq {lo:Nat} {w w':World} {row:Option Nat} (h:w.grownBy w' row) (hr:∀g,row=some g→lo≤g) (hlo:lo≤w.heap.size):Below lo w w':=
 ⟨h.os,h.tape,h.output,h.size,fun k hk=>h.block k (by omega) (fun e=>by have:=hr k e.symm;omega)⟩
theorem AB {lo:Nat} {w:World} {A:Option Addr} {n c:Nat} {ts:List Tr} (h:fD lo w A n c ts):∀g,(Value.slice A n c).ownBlock=some g→lo≤g:=fun g hg=>(World.ownsRow.lt h g hg).1
structure YE (lo:Nat) (W:World) (g c n:Nat) (ts:List Tr) (t:Tr) (k:Nat) (wr:World):Prop where
 own:wr.ownsRow lo 127 2 (.slice (some ⟨g,0,none⟩) (n+1) c) (n+1) (Aa ts t k)
 up:Below lo W wr
theorem QW (w:World) (o:Obj) (a b:Value) (t:TypeId):∀j u,[a,b][j]? =some u→((w.alloc o).alloc (.cells #[a,b] t)).cell? ((⟨w.heap.size+1,0,none⟩:Addr).add j)=some u:=by
 have h:=cell_two_new (w.alloc o) a b t
 simpa using h
def InRel (lo:Nat) (W:World) (g c n:Nat) (ts:List Tr) (t:Tr) (i:Value) (wr:World):Prop:=∃k:Nat,k≤n∧i= .int .i64 k∧yE ts t k=yE ts t n∧YE lo W g c n ts t k wr
theorem YE.swap {lo g c n q:Nat} {W W2:World} {ts:List Tr} {y7 Bz wI RI:Int} (h:YE lo W g c n ts ⟨y7,Bz⟩ (q+1) W2) (hlo:lo≤W.heap.size) (hq:q<ts.length) (hx:ts[q]? =some ⟨wI,RI⟩) (o:Obj):
  YE lo W g c n ts ⟨y7,Bz⟩ q (((((W2.setCell ⟨g,(q+1)*2,none⟩ (I wI)).setCell ⟨g,(q+1)*2+1,none⟩ (I RI)).setCell ⟨g,q*2,none⟩ (I y7)).setCell ⟨g,q*2+1,none⟩ (I Bz)).alloc o):=by
 obtain ⟨s1,s2,s3⟩:=Dj ts ⟨y7,Bz⟩ ⟨wI,RI⟩ q hq hx
 have h1:=(((((((h.own.stored ((q+1)*2) (I wI)).1.stored ((q+1)*2+1) (I RI)).1).stored (q*2) (I y7)).1).stored (q*2+1) (I Bz)).1).alloc o
 have hg:lo≤g:=(World.ownsRow.lt h.own g rfl).1
 refine ⟨?_,((((h.up.setCell (p:=⟨g,(q+1)*2,none⟩) hg _).setCell (p:=⟨g,(q+1)*2+1,none⟩) hg _).setCell (p:=⟨g,q*2,none⟩) hg _).setCell (p:=⟨g,q*2+1,none⟩) hg _).alloc (Nat.le_trans hlo (by have:=h.up.size;simpa using this)) o⟩
 rw [s1,swap4 _ _ _ _ _ _ _ s3,←s2] at h1
 exact h1
theorem Ue {ts:List Tr} {t x:Tr} {q:Nat} (hx:ts[q]? =some x) (h:t.at_<x.at_):yE ts t (q+1)=yE ts t q:=by
 rw [yE,hx,if_pos (by simpa using h)]
theorem Nv {ts:List Tr} {t x:Tr} {q:Nat} (hx:ts[q]? =some x) (h:¬t.at_<x.at_):yE ts t (q+1)=q+1:=by
 rw [yE,hx,if_neg (by simpa using h)]
set_option maxRecDepth 10000 in
set_option maxHeartbeats 2000000 in
theorem uP (lo n c:Nat) (A:Option Addr) (ts:List Tr) (t:Tr) (w:World) (hn:ts.length=n) (hn1:n≤1000) (hlo:lo≤w.heap.size) (hO:fD lo w A n c ts):
  Calls Tryz.prog 96 #[.slice A n c, .agg #[I t.at_,I t.off]] w (InsP lo (n+1) w (tX ts t)):=by
 obtain ⟨y7,Bz⟩:=t
 simp only
 have HN:=ae hn
 have HO:=ae (World.ownsRow.alloc (World.ownsRow.alloc hO (.cells #[I y7,I Bz] 127)) (.cells #[I y7,I Bz] 127))
 have HB:=ae (ah (ag w (.cells #[I y7,I Bz] 127)) (ag _ (.cells #[I y7,I Bz] 127)))
 have HBA:=ae (AB hO)
 obtain ⟨i0,hi,hz0,hz1,hz2⟩:=info_parts vJ
 have HI:=ae hi
 have HZ0:=ae hz0
 have HZ1:=ae hz1
 have HZ2:=ae hz2
 clear hn hO hi hz0 hz1 hz2
 go_enter Tryz.func96,Tryz.ntmps96
 go_wp2_with (at_builtin;go_must (refine wpList_append_own_at _ rfl _ _ 64 rfl lo 127 i0 (.agg #[I 0,I 0]) 2 16 Tryz.underlying64 HI.out HZ0.out HZ1.out HZ2.out rfl (by decide) _ n (ts.flatMap Tr.cells) rfl HO.out _ 1 1 [I y7,I Bz] rfl rfl (QW _ _ _ _ _) (sN ⟨y7,Bz⟩) (by unfold maxLen;omega) (by omega) (by simp;omega) ?_))
 intro v' w1 hown hg _ _
 obtain ⟨g,cp,rfl⟩:=ownsRow_succ hown
 have HR:Hid (YE lo w g cp n ts ⟨y7,Bz⟩ n w1):=ae ⟨by rw [←HN.out,Qn,HN.out];exact hown,(HB.out.mono hlo).trans (Pq hg HBA.out (by simp;omega))⟩
 clear hown hg HB HO HBA
 go_wp2_with fail
 go_loopw [6] (fun i wr=>InRel lo w g cp n ts ⟨y7,Bz⟩ i wr) (fun i _=>(intOf i).toNat)
 case atStart=>exact ⟨n,Nat.le_refl _,by go_num,rfl,HR.out⟩
 case round=>
  obtain ⟨k,hk,rfl,hp,hr⟩:=hrel
  have HP:=ae hp
  have HQ:=ae hr
  clear hp hr HR
  cases k with
  |zero=>
   go_wp2_with fail
   go_quiet (fail)
   go_wp2_with fail
   go_ret
   refine ⟨_,_,rfl,?_,HQ.out.up.trans ((below_drewN' wr nq).mono (Nat.le_trans hlo HQ.out.up.size))⟩
   have h1:=HP.out
   have h2:=HQ.out.own
   show (wr.drewN nq).ownsRow _ _ _ _ _ _
   have h3:(tX ts ⟨y7,Bz⟩).flatMap Tr.cells=Aa ts ⟨y7,Bz⟩ 0:=by
    unfold tX Aa
    rw [HN.out,←h1]
    rfl
   rw [h3]
   exact h2
  |succ q=>
   have hq:q<n:=by omega
   obtain ⟨x,hx, -, -⟩:=take_at ts q (by rw [HN.out];exact hq)
   obtain ⟨s1,s2,s3⟩:=Dj ts ⟨y7,Bz⟩ x q (by rw [HN.out];exact hq) hx
   have HX:=ae hx
   have HS:=ae (And.intro s1 (And.intro s2 s3))
   have hcl:=fun j hj=>(HQ.out.own.cellAt j hj).trans (by rw [s1])
   have c0:wr.cell? ⟨g,q*2,none⟩=some (I x.at_):=(hcl _ (by omega)).trans (by rw [List.getElem?_append_right (by omega),s3,Nat.sub_self];rfl)
   have c1:wr.cell? ⟨g,q*2+1,none⟩=some (I x.off):=(hcl _ (by omega)).trans (by rw [List.getElem?_append_right (by omega),s3,show q*2+1 - q*2=1 by omega];rfl)
   have c2:wr.cell? ⟨g,(q+1)*2,none⟩=some (I y7):=(hcl _ (by omega)).trans (by rw [List.getElem?_append_right (by omega),s3,show (q+1)*2 - q*2=2 by omega];rfl)
   have c3:wr.cell? ⟨g,(q+1)*2+1,none⟩=some (I Bz):=(hcl _ (by omega)).trans (by rw [List.getElem?_append_right (by omega),s3,show (q+1)*2+1 - q*2=3 by omega];rfl)
   have f0:∀j,wr.frozen? ⟨g,j,none⟩=false:=fun j=>HQ.out.own.frozenAt j
   clear hx s1 s2 s3 hcl
   obtain ⟨wI,RI⟩:=x
   simp only at c0 c1
   have i0:(0:Int)<((q+1:Nat):Int):=by omega
   have i1:((q+1:Nat):Int) - 1=(q:Int):=by omega
   have i2:(q:Int)<(n:Int)+1:=by omega
   have i3:((q+1:Nat):Int)<(n:Int)+1:=by omega
   by_cases hlt:y7<wI
   ·go_wp2_with fail
    go_quiet (fail)
    have lH:Hid (YE lo w g cp n ts ⟨y7,Bz⟩ (q+1) (wr.drewN nq)):=ae ⟨HQ.out.own,HQ.out.up.trans ((below_drewN' wr nq).mono (Nat.le_trans hlo HQ.out.up.size))⟩
    have d0:(wr.drewN nq).cell? ⟨g,q*2,none⟩=some (I wI):=c0
    have d1:(wr.drewN nq).cell? ⟨g,q*2+1,none⟩=some (I RI):=c1
    have d2:(wr.drewN nq).cell? ⟨g,(q+1)*2,none⟩=some (I y7):=c2
    have d3:(wr.drewN nq).cell? ⟨g,(q+1)*2+1,none⟩=some (I Bz):=c3
    have g0:∀j,(wr.drewN nq).frozen? ⟨g,j,none⟩=false:=f0
    have hgl:g<(wr.drewN nq).heap.size:=(World.ownsRow.lt HQ.out.own g rfl).2
    clear c0 c1 c2 c3 f0
    generalize wr.drewN nq=W2 at lH d0 d1 d2 d3 g0 hgl ⊢
    clear HQ
    go_wp2_with fail
    go_roundw
    case rel=>exact ⟨q,by omega,by go_num,(Ue HX.out hlt).symm.trans HP.out,lH.out.swap hlo (by rw [HN.out];exact hq) HX.out _⟩
    case measure=>simp [intOf]
   ·go_wp2_with fail
    go_quiet (fail)
    go_wp2_with fail
    go_ret
    refine ⟨_,_,rfl,?_,HQ.out.up.trans ((below_drewN' wr nq).mono (Nat.le_trans hlo HQ.out.up.size))⟩
    have h1:=HP.out
    rw [Nv HX.out (by show¬y7<wI;omega)] at h1
    have h2:=HQ.out.own
    show (wr.drewN nq).ownsRow _ _ _ _ _ _
    have h3:(tX ts ⟨y7,Bz⟩).flatMap Tr.cells=Aa ts ⟨y7,Bz⟩ (q+1):=by
     unfold tX Aa
     rw [HN.out,←h1]
    rw [h3]
    exact h2
end Go.Proofs.YtdibbemgpikgjaaGreatDoor
