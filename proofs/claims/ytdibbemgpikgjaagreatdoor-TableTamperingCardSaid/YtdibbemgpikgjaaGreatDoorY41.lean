/- The texts Lh, Li, Lj, Lk, in this order. -/
import Derived.Test.YtdibbemgpikgjaaGreatDoorY00
import Derived.Test.YtdibbemgpikgjaaGreatDoorY24
import Derived.Test.YtdibbemgpikgjaaGreatDoorY25
import Derived.Test.YtdibbemgpikgjaaGreatDoorY35
set_option maxRecDepth 10000
set_option maxHeartbeats 8000000
namespace Go.Proofs.YtdibbemgpikgjaaGreatDoor
open Go Go.RowKit
attribute [local go_sem] kQ kU kR kV oU oV kN kS kP kT
def qh:List PanicEntry:= [{v:= .iface 132 (.agg #[]),recovered:=false}]
def XU (w:World) (e:Ending) (w':World):Prop:=e= .panicked qh∧Below w.heap.size w w'
def DiesT (w:World) (rb pb:Nat) (t:TypeId) (cs:Array Value) (e:Ending) (w':World):Prop:=e= .panicked qh∧∃C:Array Value,C.size=cs.size∧dU w rb pb t C w'
def qp (x:Ze):List UInt8:=(le x.name.size 1++x.name.data.toList)++(ja x.z.cal++(le x.z.start 2++(le 0 2++le x.z.hor 8)))
theorem Ut (M:Nat) (w:World) (rb n:Nat) (rest:List UInt8) (hr:jV M w rb rest) (hn:rest.length<n):
  Calls Tryz.prog 179 #[.pointer (some ⟨rb,0,none⟩),I n] w fun e w'=>e= .panicked qh∧w'=w:=by
 obtain ⟨⟨bb,off,c,h1,_⟩,_⟩:=hr;have hc0:w.cell? ⟨rb,0,none⟩=some (.slice (some ⟨bb,off,none⟩) rest.length c):=cell_of_row w rb 0 _ _ _ h1;obtain ⟨m,hm⟩:∃m,rest.length=m:=⟨_,rfl⟩;rw [hm] at hc0 hn;have n0:(m:Int)<(n:Int):=by omega
 clear h1 hm;go_enter Tryz.func179,Tryz.ntmps179
 go_wp2
 exact ⟨rfl,rfl,rfl⟩
theorem Jy (M:Nat) (w:World) (rb pb po size:Nat) (t:TypeId) (cs:Array Value) (rest:List UInt8) (hr:jV M w rb rest) (hn:rest.length<size) (hp:w.heap[pb]? =some (.cells cs t (0,0))) (hpo:po<cs.size) (EM:M≤pb) (hne:pb≠rb):
  Calls Tryz.prog 176 #[pt rb, .pointer (some ⟨pb,po,none⟩),I size] w fun e w'=>e= .panicked qh∧l7 pb w w':=by
 refine (callsIn_wide (n:=3)).1 ?_;have hro:Fence.wide.round=none:=rfl;have h1:1≤3:=by omega
 have hlt:=hr.lt;have hpl:pb<w.heap.size:=(bT.1 hp).1;have hMl:=hr.lo;have hc0:w.cell? ⟨pb,po,none⟩=some cs[po]:=by rw [cell_of_row w pb po _ _ _ hp];exact Array.getElem?_eq_getElem hpo
 have hf0:w.frozen? ⟨pb,po,none⟩=false:=frozen_of_row w pb po _ _ hp;obtain ⟨WS,hWS⟩:∃W,w.setCell ⟨pb,po,none⟩ (I 0)=W:=⟨_,rfl⟩;have hkS:l7 pb w WS:=by rw [←hWS];exact ⟨rfl,rfl,rfl,by simp [World.setCell],fun k _ hk2=>heap_setCell_other _ _ k _ hk2⟩
 obtain ⟨W1,hW1⟩:∃W,WS.alloc (.cells #[.pointer (some ⟨pb,po,none⟩)] 109)=W:=⟨_,rfl⟩;have hk1:l7 pb w W1:=by
  rw [←hW1];exact ⟨hkS.os,hkS.tape,hkS.output,Nat.le_trans hkS.size (by simp),fun k hk hk2=>(Below.heap_alloc WS _ k (dP hk hkS.size)).trans (hkS.block k hk hk2)⟩
 rw [←hWS] at hW1;have hr1:jV M W1 rb rest:=hr.of (hk1.block rb hlt (fun e=>hne e.symm)) fun k hk=>hk1.block k (by omega) (by omega);have HT:=ae (Ut M W1 rb size rest hr1 hn);have iF:=ae hk1;have HW1:=ae hW1;clear hr hr1 hk1 hkS hW1 hWS hp;refine callsIn_of_wp_marks Tryz.func176 rfl trivial ?_ hro;simp only [Tryz.ntmps176,List.size_toArray,List.length_cons,List.length_nil,Nat.reduceAdd,Nat.reduceSub,Array.replicate_succ,Array.replicate_zero,List.push_toArray,List.append_toArray,List.nil_append,List.cons_append]
 gi_wp2_with first
  |(refine ⟨trivial,?_⟩;gi_at_call 179;rw [HW1.out];refine (callsIn_wide.2 HT.out).mono ?_;rintro e w2 ⟨rfl,rfl⟩)
 exact ⟨rfl,iF.out⟩
theorem Jv (M:Nat) (w:World) (rb size:Nat) (m:Int) (rest:List UInt8) (hr:jV M w rb rest) (hn:rest.length<size):
  Calls Tryz.prog 175 #[pt rb,I m,I size] w (XU w):=by
 have hl:=hr.lt;have hlo:=hr.lo;have hb:=ag w (.cells #[I 0] 3);have hpl:=heap_alloc_last w (.cells #[I 0] 3);have HC:=ae (Jy M (w.alloc (.cells #[I 0] 3)) rb w.heap.size 0 size 3 #[I 0] rest (hr.below hb hl) hn hpl (by decide) (by omega) (by omega));have HB:=ae hb;clear hr hb hpl;go_enter Tryz.func175,Tryz.ntmps175;go_wp2_with fail;refine HC.out.mono ?_;rintro e w1 ⟨rfl,hk⟩;exact ⟨rfl,rfl,hk.os,hk.tape,hk.output,by have:=hk.size;simp at this;omega,fun k hk2=>(hk.block k (by simp;omega) (by omega)).trans (HB.out.block k hk2)⟩
theorem Ee (M:Nat) (w:World) (rb lb lo:Nat) (A:Option Addr) (c:Nat) (hp:w.cell? ⟨lb,lo,none⟩=some (.slice A 0 c)) (hr:jV M w rb []):
  Calls Tryz.prog 71 #[.iface 134 (pt rb), .pointer (some ⟨lb,lo,none⟩),I 1, .func (.func 72) #[] #[]] w (XU w):=by
 have HC:=ae (Jv M w.drew rb 1 0 [] hr.drew (by decide));clear hr;go_enter Tryz.func71,Tryz.ntmps71;go_wp2_with fail;go_still_tail 9,(by kernel_rfl);go_wp2_with fail;refine HC.out.mono ?_;rintro e w1 ⟨rfl,hb1⟩;exact ⟨rfl,rfl,hb1.os,hb1.tape,hb1.output,hb1.size,hb1.block⟩
theorem MX (M:Nat) (w:World) (rb eb eo:Nat) (t:TypeId) (cs:Array Value) (x:Ze) (hf:gU x.z) (hs:x.name.size≤32) (hr:jV M w rb (qp x)) (hp:w.heap[eb]? =some (.cells cs t (0,0))) (hz:∀j,j<9→cs[eo+j]? =jo[j]?) (hM:M≤eb) (hne:eb≠rb):
  Calls Tryz.prog 49 #[.iface 134 (pt rb), .pointer (some ⟨eb,eo,none⟩)] w (DiesT w rb eb t cs):=by
 have hel:eb<w.heap.size:=(bT.1 hp).1;have hrw:=hr.lt;have hz0:cs[eo]? =some (.string ⟨#[]⟩):=hz 0 (by decide);have hz8:eo+8<cs.size:=(bT.1 ((hz 8 (by decide)).trans (rfl:jo[8]? =some (.slice none 0 0)))).1;have hr':jV M w.drew rb ((le x.name.size 1++x.name.data.toList)++(ja x.z.cal++(le x.z.start 2++(le 0 2++le x.z.hor 8)))):=by
  have h:=hr.drew;unfold qp at h;simpa only [List.append_assoc] using h
 have lV:=ae (Fa M w.drew rb eb eo t cs ⟨#[]⟩ x.name _ hr' (by omega) hp hz0 hM hne);have HZ:Hid (∀j,1≤j→j<9→cs[eo+j]? =jo[j]?):=ae fun j _ hj=>hz j hj;have HF:=ae hf;have Tz:=hf.start;have hho0:=hf.hor;clear hf hs hr hr' hp hz hz0;go_enter Tryz.func49,Tryz.ntmps49;go_wp2_with fail;go_still_tail 7,(by kernel_rfl);go_wp2_with fail;refine lV.out.mono ?_;rintro e w1 ⟨rfl,hr1,hp1⟩;obtain ⟨C1,SQ⟩:∃C,cs.setIfInBounds eo (.string x.name)=C:=⟨_,rfl⟩;rw [SQ] at hp1;have k1:∀j,1≤j→j<9→C1[eo+j]? =jo[j]? :=fun j h1 h2=>by rw [←SQ,Array.getElem?_setIfInBounds_ne (by omega)];exact HZ.out j h1 h2
 have l1:C1.size=cs.size:=by rw [←SQ,Array.size_setIfInBounds]
 have wY:=ae hp1.iV;have nY:=ae SQ;have HC2:=ae (su M w1 rb eb (eo+1) t C1 x.z.cal _ HF.out.cal hr1 hp1.tgt (by omega) (k1 2 (by decide) (by decide)) (k1 3 (by decide) (by decide)) (k1 4 (by decide) (by decide)) hM hne);have iF:=ae k1;clear hr1 hp1 lV SQ k1;go_wp2_with fail;refine HC2.out.mono ?_;rintro e w2 ⟨rfl,A,a,hr2,hp2,ho2⟩;obtain ⟨C2,hC2⟩:∃C,((C1.setIfInBounds (eo+1) (I x.z.cal.aX)).setIfInBounds (eo+1+1) (.slice A x.z.cal.az.length a)).setIfInBounds (eo+1+2) (I (-1))=C:=⟨_,rfl⟩;rw [hC2] at hp2;have k2:∀j,4≤j→j<9→C2[eo+j]? =jo[j]? :=fun j h1 h2=>by rw [←hC2,Array.getElem?_setIfInBounds_ne (by omega),Array.getElem?_setIfInBounds_ne (by omega),Array.getElem?_setIfInBounds_ne (by omega)];exact iF.out j (by omega) h2
 have l2:C2.size=cs.size:=by rw [←hC2,Array.size_setIfInBounds,Array.size_setIfInBounds,Array.size_setIfInBounds];exact l1
 have HP2:=ae (wY.out.trans hp2);have pI:=ae (bf ho2 wY.out.size);have lC:=ae hC2;have sG:=ae (zt M w2.drew rb eb (eo+1+4) t C2 x.z.start _ hr2.drew (by omega) (by omega) hp2.tgt (by omega) hM hne);have iO:=ae k2;clear hr2 hp2 ho2 HC2 hC2 k2;go_wp2_with fail;go_still_tail 7,(by kernel_rfl);go_wp2_with fail;refine sG.out.mono ?_;rintro e w3 ⟨rfl,hr3,hp3⟩;obtain ⟨C3,SS⟩:∃C,C2.setIfInBounds (eo+1+4) (I x.z.start)=C:=⟨_,rfl⟩;rw [SS] at hp3;have k3:∀j,6≤j→j<9→C3[eo+j]? =jo[j]? :=fun j h1 h2=>by rw [←SS,Array.getElem?_setIfInBounds_ne (by omega)];exact iO.out j (by omega) h2
 have l3:C3.size=cs.size:=by rw [←SS,Array.size_setIfInBounds];exact l2
 have hk3:∀b,w.heap.size≤b→b<w2.heap.size→w3.heap[b]? =w2.heap[b]? :=fun b h1 h2=>hp3.block b h2 (by omega) (by omega);have vg:=ae (dH pI.out hk3);have rq:=ae (HP2.out.trans hp3.iV);have Ac:=ae SS;have sQ:=ae (qU M w3 rb eb (eo+1+5) none 0 _ ((hp3.cell _).trans (k3 6 (by decide) (by decide))) hr3);have mV:=ae k3;clear hr3 hp3 sG SS k3 hk3;go_wp2_with fail;refine sQ.out.mono ?_;rintro e w4 ⟨rfl,hr4,hk4⟩;have FC:=ae (rq.out.ui hk4 (dP hel rq.out.size) hne);have He:=ae (kz vg.out hk4 hrw);have zY:=ae (iK M w4.drew rb eb (eo+1+6) 8 t C3 x.z.hor x.z.hor [] (by rw [List.append_nil];exact hr4.drew) (by omega) (YK _ (by unfold fits;omega) _) FC.out.tgt (by omega) hM hne);clear hr4 hk4 sQ;go_wp2_with fail;go_still_tail 7,(by kernel_rfl);go_wp2_with fail;refine zY.out.mono ?_;rintro e w5 ⟨rfl,uH,J5⟩;have hk5:∀b,w.heap.size≤b→b<w4.heap.size→w5.heap[b]? =w4.heap[b]? :=fun b h1 h2=>J5.block b h2 (by omega) (by omega);have pR:=ae (dH He.out hk5);have QK:=ae (FC.out.trans J5.iV);have sH:=ae (Ee M w5 rb eb (eo+1+7) none 0 ((J5.cell _).trans (by rw [Array.getElem?_setIfInBounds_ne (by omega)];exact mV.out 8 (by decide) (by decide))) uH);clear uH J5 zY hk5;go_wp2_with fail;refine sH.out.mono ?_;rintro e w6 ⟨rfl,hb6⟩;exact ⟨rfl,rfl,_,by rw [Array.size_setIfInBounds,l3],QK.out.grow hb6 (dP hel QK.out.size) hne⟩
end Go.Proofs.YtdibbemgpikgjaaGreatDoor
namespace Go.Proofs.YtdibbemgpikgjaaGreatDoor
open Go Go.RowKit
attribute [local go_sem] kQ kU kR kV oU oV kN kS kP kT
def DiesZ (w:World) (rb pb po:Nat) (t:TypeId) (cs:Array Value) (e:Ending) (w':World):Prop:=e= .panicked qh∧∃g c,dU w rb pb t (cs.setIfInBounds po (.slice (some ⟨g,0,none⟩) 1 c)) w'
def DiesW (w:World) (rb tb:Nat) (t:Tb) (e:Ending) (w':World):Prop:=e= .panicked qh∧∃g c,dU w rb tb 37 (ai {t with bn:=aU,aK:= []} (.slice (some ⟨g,0,none⟩) 1 c)) w'
def pY (t:Tb) (x:Ze):List UInt8:=le t.aP 1++(le t.version 1++(le t.aC 1++(t.prev++(le 1 1++qp x))))
theorem Jw (M:Nat) (w:World) (rb pb po:Nat) (t:TypeId) (cs:Array Value) (x:Ze) (TA:gU x.z∧x.name.size≤32) (hr:jV M w rb (le 1 1++qp x)) (hp:w.heap[pb]? =some (.cells cs t (0,0))) (hpo:cs[po]? =some (.slice none 0 0)) (EM:M≤pb) (hne:pb≠rb):
  Calls Tryz.prog 48 #[.iface 134 (pt rb), .pointer (some ⟨pb,po,none⟩),I 1, .func (.func 49) #[] #[]] w (DiesZ w rb pb po t cs):=by
 have hpl:pb<w.heap.size:=(bT.1 hp).1;have hlo:=hr.lo;have hrl:=hr.lt;have hcs:cs.setIfInBounds po (.slice none 0 0)=cs:=by
  apply Array.ext_getElem?;intro i;rw [Array.getElem?_setIfInBounds];split
  ·rename_i e;subst e;split
   ·exact hpo.symm
   ·rename_i e2;rw [Array.getElem?_eq_none (by omega)] at hpo;cases hpo
  ·rfl
 have hc0:w.cell? ⟨pb,po,none⟩=some (.slice none 0 0):=(cell_of_row w pb po _ _ _ hp).trans hpo;have hpos:po<cs.size:=(bT.1 hpo).1;have HC:=ae (jK M w.drew rb 1 0 1 1 (qp x) hr.drew (by omega) (pX _ (by omega) (by omega) _));have HP:Hid (dU w rb pb t (cs.setIfInBounds po (.slice none 0 0)) w):=ae (by rw [hcs];exact dU.refl hp);have JV:=ae TA;clear hr hp hpo hcs TA;obtain ⟨i0,hi,hz0,hz1,hz2⟩:=info_parts xh;go_enter Tryz.func48,Tryz.ntmps48;go_wp2_with fail;go_still_tail 9,(by kernel_rfl);go_wp2_with fail;refine HC.out.mono ?_;rintro e w1 ⟨rfl,hr1,hk1⟩;have HR1:=ae hr1;have wY:=ae (HP.out.drew.ui hk1 hpl hne);clear hr1 hk1 HC hc0;go_wp2_with fail
 go_loopw [22] (fun i wr=>i= .int .i64 0∧jV M wr rb (qp x)∧dU w rb pb t (cs.setIfInBounds po (.slice none 0 0)) wr) (fun _ _=>0)
 case atStart=>exact ⟨rfl,HR1.out,wY.out⟩
 case round=>
  obtain ⟨rfl,hr,hp⟩:=hrel;have HR:=ae hr;have Eo:=ae hp;have hcp:wr.cell? ⟨pb,po,none⟩=some (.slice none 0 0):=(hp.cell po).trans (by simp [hpos]);have hsw:=hp.size;clear hr hp HR1 wY HP;have Zi:Hid (∀j u,jo.toList[j]? =some u→(((wr.alloc (.cells jo 90)).alloc (.cells jo 90)).drew).cell? ((⟨wr.heap.size+1,0,none⟩:Addr).add j)=some u):=ae fun j u hu=>by
   rw [addr_add];have h:=(Row.new (wr.alloc (.cells jo 90)) jo 90).2 j;rw [World.size_alloc] at h;exact h.trans (by simpa using hu)
  have Ko:Hid (∀u∈jo.toList,u.oneCell'=true):=ae (by
   intro u hu;have h:jo.all (·.oneCell')=true:=by kernel_rfl
   rw [Array.all_eq_true_iff_forall_mem] at h;exact h u (by simpa using hu))
  have hplw:pb<wr.heap.size:=by omega
  have hmx:0+1≤maxLen:=by unfold maxLen;omega
  have hby:(0+1)*144≤140737488355328:=by omega
  have HBS:Hid (w.heap.size≤(((wr.alloc (.cells jo 90)).alloc (.cells jo 90)).drew).heap.size):=ae (by simp;omega);have dR:Hid ((((wr.alloc (.cells jo 90)).alloc (.cells jo 90)).drew).heap.size=wr.heap.size+2):=ae (by simp);have HOO:Hid ((((wr.alloc (.cells jo 90)).alloc (.cells jo 90)).drew).ownsRow w.heap.size 90 9 (.slice none 0 0) 0 []):=ae (World.ownsRow_nil _ _ _ _);have Vo:Hid (∀b,b<wr.heap.size→(((wr.alloc (.cells jo 90)).alloc (.cells jo 90)).drew).heap[b]? =wr.heap[b]?):=ae fun b hb=>(Below.heap_alloc (wr.alloc (.cells jo 90)) _ b (by simp;omega)).trans (Below.heap_alloc wr _ b hb);go_wp2_with fail
  go_region_law (refine step_append_lies _ (by rfl) _ _ _ (by rfl) w.heap.size 90 i0 (.agg jo) 9 144 Tryz.underlying35 hi hz0 hz1 hz2 (by rfl) (by omega) (.slice none 0 0) 0 [] (by rfl) HOO.out ⟨wr.heap.size+1,0,none⟩ 1 1 jo.toList (by rfl) (by rfl) Zi.out Ko.out (by omega) hmx hby HBS.out (wr.heap.size+2) dR.out ?_;intro g2 c2 w2 hown2 hgrow2 Ll hlt2;have hbw:∀b,b<w.heap.size→w2.heap[b]? =wr.heap[b]? :=fun b hb=>(hgrow2.block b (Nat.lt_of_lt_of_eq (show b<wr.heap.size+2 by omega) dR.out.symm) (by simp [Value.ownBlock])).trans (Vo.out b (by omega));have HP2:Hid (w2.heap[pb]? =some (.cells (cs.setIfInBounds po (.slice none 0 0)) t (0,0))):=ae ((hbw pb hpl).trans Eo.out.tgt);have hcp2:w2.cell? ⟨pb,po,none⟩=some (.slice none 0 0):=(cell_of_row w2 pb po _ _ _ HP2.out).trans (by simp [hpos]);have Ws:=frozen_of_row w2 pb po _ _ HP2.out;have pG:=ae hbw;have pI:=ae hown2;have HG2:=ae hgrow2;have HA2:=ae Ll;clear hbw hown2 hgrow2 Ll)
  all_goals
   have hs2:wr.heap.size+2≤w2.heap.size:=Nat.le_trans (Nat.le_of_eq dR.out.symm) HG2.out.size;have hlo2:=kG pI.out;have hP3:dU w rb pb t (cs.setIfInBounds po (.slice (some ⟨g2,0,none⟩) 1 c2)) (w2.setCell ⟨pb,po,none⟩ (.slice (some ⟨g2,0,none⟩) 1 c2)):=by
    have h:dU w rb pb t (cs.setIfInBounds po (.slice none 0 0)) w2:=⟨HG2.out.os.trans Eo.out.os,HG2.out.tape.trans Eo.out.tape,HG2.out.output.trans Eo.out.output,by omega,fun b hb h1 h2=>(pG.out b hb).trans (Eo.out.block b hb h1 h2),HP2.out⟩;have h:=h.put po (.slice (some ⟨g2,0,none⟩) 1 c2)
    rwa [Array.setIfInBounds_setIfInBounds] at h
   have Yw:jV M (w2.setCell ⟨pb,po,none⟩ (.slice (some ⟨g2,0,none⟩) 1 c2)) rb (qp x):=(HR.out.of (pG.out rb hrl) fun b hb=>pG.out b (by omega)).put EM hne _;have hO3:(w2.setCell ⟨pb,po,none⟩ (.slice (some ⟨g2,0,none⟩) 1 c2)).ownsRow w.heap.size 90 9 (.slice (some ⟨g2,0,none⟩) (0+1) c2) (0+1) ([]++jo.toList):=dW (p:=⟨pb,po,none⟩) pI.out (by intro e;injection e with e;simp only at e;omega);have rq:=ae hP3;have HR3:=ae Yw;have vg:=ae hO3;clear hP3 Yw hO3 HP2 pG pI HG2 HA2 hcp;go_wp2_with fail;obtain ⟨w3,hw3⟩:∃W,w2.setCell ⟨pb,po,none⟩ (.slice (some ⟨g2,0,none⟩) 1 c2)=W:=⟨_,rfl⟩
   (try rw [hw3] at rq HR3 vg ⊢)
   obtain ⟨cur,q1,q2,q3,q4,q5,q6,q7,_⟩:=ou vg.out;have hzz:∀j,j<9→cur[0+j]? =jo[j]? :=fun j hj=>by
    have h:(cur.toList.take ((0+1)*9))[j]? =([]++jo.toList)[j]? :=by rw [q6]
    rw [List.getElem?_take_of_lt (by omega)] at h;simpa using h
   refine (MX M w3 rb g2 0 90 cur x JV.out.1 JV.out.2 HR3.out q1 hzz (by omega) (by omega)).mono ?_;rintro e w4 ⟨rfl,C,_,sU⟩;exact ⟨rfl,rfl,g2,c2,⟨sU.os.trans rq.out.os,sU.tape.trans rq.out.tape,sU.output.trans rq.out.output,Nat.le_trans rq.out.size sU.size,fun b hb h1 h2=>(sU.block b (dP hb rq.out.size) (by omega) h2).trans (rq.out.block b hb h1 h2),(sU.block pb (dP hpl rq.out.size) (by omega) hne).trans rq.out.tgt⟩⟩
theorem Nb (M:Nat) (w:World) (rb tb:Nat) (t:Tb) (x:Ze) (h:kJ t) (TA:gU x.z∧x.name.size≤32) (hr:jV M w rb (pY t x)) (hp:w.heap[tb]? =some (.cells (ai bQ (.slice none 0 0)) 37 (0,0))) (hM:M≤tb) (hne:tb≠rb):
  Calls Tryz.prog 30 #[.iface 134 (pt rb), .pointer (some ⟨tb,0,none⟩)] w (DiesW w rb tb t):=by
 have hel:tb<w.heap.size:=(bT.1 hp).1;have hrw:=hr.lt;have hz:∀(u:Tb) (v:Value),u.prev.length=32→u.bn.length=32→(ai u v).size=68:=fun u v h1 h2=>bF u v h1 h2;have hr':jV M w.drew rb (le t.aP 1++(le t.version 1++(le t.aC 1++(t.prev++(le 1 1++qp x))))):=hr.drew;have q1:=h.aP;have q2:=h.version;have q3:=h.aC;have lV:=ae (iK M w.drew rb tb 0 1 37 _ t.aP t.aP _ hr' (by omega) (pX _ (by omega) (by omega) _) hp (by rw [hz _ _ rfl rfl];decide) hM hne);have HF:=ae h;have HZ:=ae hz;clear h hr hr' hp hz;go_enter Tryz.func30,Tryz.ntmps30;go_wp2_with fail;go_still_tail 7,(by kernel_rfl);go_wp2_with fail;refine lV.out.mono ?_;rintro e w1 ⟨rfl,hr1,hp1⟩;rw [xG] at hp1;have wY:=ae hp1.iV;have HC2:=ae (iK M w1.drew rb tb 1 1 37 _ t.version t.version _ hr1.drew (by omega) (pX _ (by omega) (by omega) _) hp1.tgt (by rw [HZ.out _ _ rfl rfl];decide) hM hne);clear hr1 hp1 lV;go_wp2_with fail;go_still_tail 7,(by kernel_rfl);go_wp2_with fail;refine HC2.out.mono ?_;rintro e w2 ⟨rfl,hr2,hp2⟩;rw [vN] at hp2;have HP2:=ae (wY.out.trans hp2.iV);have sG:=ae (iK M w2.drew rb tb 2 1 37 _ t.aC t.aC _ hr2.drew (by omega) (pX _ (by omega) (by omega) _) hp2.tgt (by rw [HZ.out _ _ rfl rfl];decide) hM hne);clear hr2 hp2 HC2;go_wp2_with fail;go_still_tail 7,(by kernel_rfl);go_wp2_with fail;refine sG.out.mono ?_;rintro e w3 ⟨rfl,hr3,hp3⟩;rw [rZ] at hp3;have rq:=ae (HP2.out.trans hp3.iV);have sQ:=ae (zq M w3.drew rb tb 4 37 _ t.prev _ hr3.drew HF.out.prev hp3.tgt (by rw [HZ.out _ _ rfl rfl];decide) hM hne);clear hr3 hp3 sG;go_wp2_with fail;go_still_tail 7,(by kernel_rfl);go_wp2_with fail;refine sQ.out.mono ?_;rintro e w4 ⟨rfl,hr4,sU⟩;rw [CV _ _ _ rfl HF.out.prev] at sU;have FC:=ae (rq.out.trans sU.iV);have zY:=ae (Jw M w4 rb tb 3 37 _ x TA hr4 sU.tgt (bD _ _) hM hne);clear hr4 sU sQ;go_wp2_with fail;refine zY.out.mono ?_;rintro e w5 ⟨rfl,g,c,J5⟩;rw [nD] at J5;exact ⟨rfl,rfl,g,c,FC.out.trans J5⟩
end Go.Proofs.YtdibbemgpikgjaaGreatDoor
namespace Go.Proofs.YtdibbemgpikgjaaGreatDoor
open Go Go.RowKit
attribute [local go_sem] kQ kU kR kV oU oV kN kS kP kT
theorem GG (b:Nat) (w:World) (v:Value) (hq:w.heap[b]? =some (.cells #[v] 4 (0,0))):
  CallsD Tryz.prog 56 #[.pointer (some ⟨b,0,none⟩)] (.panicking qh) w fun e u' w'=>e= .returned (.tuple #[])∧u'= .panicking [{v:= .iface 132 (.agg #[]),recovered:=true}]∧l7 b w w'∧w'.heap[b]? =some (.cells #[.bool false] 4 (0,0)):=by
 have hnn:∀w,(binOp .neq 20 (.iface 132 (.agg #[])) .nilIface).run Tryz.prog w= .ok (.bool true) w:=by intro w;simp [go_sem]
 have hta:∀w,(Instr.typeAssert (.iface 132 (.agg #[])) 20 132 true).run Tryz.prog w= .ok (.tuple #[.agg #[], .bool true]) w:=by intro w;kernel_rfl
 have HB1:=ae (ag w (.cells #[] 132));have hq1:(w.alloc (.cells #[] 132)).heap[b]? =some (.cells #[v] 4 (0,0)):=(HB1.out.block _ (iI hq)).trans hq;have hcc:=cell_of_row _ b 0 _ _ _ hq1;have hfc:=frozen_of_row _ b 0 _ _ hq1;have HK:Hid (l7 b w ((w.alloc (.cells #[] 132)).setCell ⟨b,0,none⟩ (.bool false))):=ae ⟨rfl,rfl,rfl,by simp [World.setCell],fun k hk hn=>(heap_setCell_other _ ⟨b,0,none⟩ k _ hn).trans (Below.heap_alloc w _ k hk)⟩;have HQ:Hid (((w.alloc (.cells #[] 132)).setCell ⟨b,0,none⟩ (.bool false)).heap[b]? =some (.cells #[.bool false] 4 (0,0))):=ae (by rw [heap_setCell_same _ b 0 _ _ _ hq1];rfl);clear hq hq1 HB1;unfold qh;refine callsD_of_wpS Tryz.func56 rfl fun c₀ cs hu=>?_;apply wpS_seq;apply wpS_region;simp [wpOpsS,go_sem,recoverD,hu,Tryz.ntmps56,Exit.thenS];refine wpS_of_wp ?_;simp only [Array.replicate_succ,Array.replicate_zero,List.push_toArray,List.append_toArray,List.nil_append,List.cons_append,List.setIfInBounds_toArray,List.set_cons_zero,List.set_cons_succ];go_wp2_with fail;simp [bodyPostS,results,Tryz.results56];exact ⟨HK.out,HQ.out⟩
theorem Uo (w:World) (t:Tb) (x:Ze) (N b off c:Nat) (h:kJ t) (TA:gU x.z∧x.name.size≤32) (hN:(pY t x).length=N) (hbl:b<w.heap.size) (hc1:N≤c) (hc2:c≤9223372036854775807)
  (hA:∀j,j<N→w.cell? ⟨b,off+j,none⟩=some (Extern.Stop.cell ((pY t x)[j]?.getD 0))):
  Calls Tryz.prog 35 #[.slice (some ⟨b,off,none⟩) N c] w fun e w'=>(∃g cz,e= .returned (.tuple #[.agg (ai {t with bn:=aU,aK:= []} (.slice (some ⟨g,0,none⟩) 1 cz)), .bool false]))∧Below w.heap.size w w':=by
 have hmf:∀(fn:Fn) (first cap:Array Value) (w:World),(Instr.makeFunc fn first cap).run Tryz.prog w= .ok (.func fn first cap) w:=fun _ _ _ _=>rfl;obtain ⟨W,hW⟩:∃W,((w.alloc (.cells (ai bQ (.slice none 0 0)) 37)).alloc (.cells #[.bool false] 4)).alloc (.cells #[.slice (some ⟨b,off,none⟩) N c] 135)=W:=⟨_,rfl⟩;have hB:Below w.heap.size w W:=by rw [←hW];exact (((Below.refl _ w).alloc (Nat.le_refl _) _).alloc (by simp) _).alloc (by simp;omega) _
 have hs:W.heap.size=w.heap.size+3:=by rw [←hW];simp
 have ht:W.heap[w.heap.size]? =some (.cells (ai bQ (.slice none 0 0)) 37 (0,0)):=by rw [←hW];exact (Below.heap_alloc _ _ _ (by simp;omega)).trans (heap_alloc2_old w _ _)
 have ho:W.heap[w.heap.size+1]? =some (.cells #[.bool false] 4 (0,0)):=by rw [←hW];exact (Below.heap_alloc _ _ _ (by simp)).trans (heap_alloc2_new w _ _)
 have hr:jV w.heap.size W (w.heap.size+2) (pY t x):=by
  refine ⟨⟨b,off,c,?_,by rw [hN];exact hc1,hc2,hbl,fun j hj=>(hB.cell (p:=⟨b,off+j,none⟩) hbl).trans (hA j (by omega))⟩,by omega⟩;rw [←hW,hN];have:=heap_alloc_last ((w.alloc (.cells (ai bQ (.slice none 0 0)) 37)).alloc (.cells #[.bool false] 4)) (.cells #[.slice (some ⟨b,off,none⟩) N c] 135);simpa using this
 have HB:=ae hB;have HS:=ae hs;have HO:=ae ho;have HC:=ae (Nb w.heap.size W (w.heap.size+2) w.heap.size t x h TA hr ht (Nat.le_refl _) (by omega));have qy:=h.prev;clear h hN hA hB hs ht ho hr
 go_enter_defers Tryz.func35,Tryz.ntmps35
 go_wp2_with fail;rw [oI,hW];refine HC.out.mono ?_;rintro e w2 ⟨rfl,g,cz,hp2⟩;have hs0:=HS.out;have ho2:w2.heap[w.heap.size+1]? =some (.cells #[.bool false] 4 (0,0)):=(hp2.block _ (by omega) (by omega) (by omega)).trans HO.out;have HB2:=ae (hp2.grown HB.out (Nat.le_refl _) (by omega) (by omega));refine leaves_cons (f:=56) (args:= #[.pointer (some ⟨w.heap.size+1,0,none⟩)]) (by simp) (by simp [go_sem]) ?_;refine (GG (w.heap.size+1) w2 (.bool false) ho2).mono ?_;rintro e u' w3 ⟨rfl,rfl,hk3,hq3⟩;have hv3:w3.heap[w.heap.size]? =some (.cells (ai {t with bn:=aU,aK:= []} (.slice (some ⟨g,0,none⟩) 1 cz)) 37 (0,0)):=(hk3.block _ (by have:=hp2.size;omega) (by omega)).trans hp2.tgt;have hc3:=cell_of_row _ (w.heap.size+1) 0 _ _ _ hq3;refine ⟨_,qQ rfl _ _ w.heap.size (w.heap.size+1) _ (ai {t with bn:=aU,aK:= []} (.slice (some ⟨g,0,none⟩) 1 cz)) (0,0) _ (.bool false) rfl hv3 Tryz.underlying37 rfl (bU {t with bn:=aU,aK:= []} _ qy rfl) rfl (iU _ _ _ hc3),⟨g,cz,rfl⟩,?_⟩;have h1:=HB2.out;exact ⟨hk3.os.trans h1.os,hk3.tape.trans h1.tape,hk3.output.trans h1.output,Nat.le_trans h1.size hk3.size,fun k hk=>(hk3.block k (dP hk h1.size) (by omega)).trans (h1.block k hk)⟩
theorem Gz (w:World) (t:Tb) (x:Ze) (N b off c:Nat) (h:kJ t) (TA:gU x.z∧x.name.size≤32) (hN:(pY t x).length=N) (hbl:b<w.heap.size) (hc1:N≤c) (hc2:c≤9223372036854775807)
  (hA:∀j,j<N→w.cell? ⟨b,off+j,none⟩=some (Extern.Stop.cell ((pY t x)[j]?.getD 0))):
  Calls Tryz.prog 20 #[.slice (some ⟨b,off,none⟩) N c] w (Gives (.tuple #[.agg (ai bQ (.slice none 0 0)), .int .i64 3]) w):=by
 have HW0:=ae (AV.new w (ai bQ (.slice none 0 0)) 37);have HB0:=ae (ag w (.cells (ai bQ (.slice none 0 0)) 37));have HC:Hid (∀W,Below w.heap.size w W→Calls Tryz.prog 35 #[.slice (some ⟨b,off,none⟩) N c] W fun e w'=>(∃g cz,e= .returned (.tuple #[.agg (ai {t with bn:=aU,aK:= []} (.slice (some ⟨g,0,none⟩) 1 cz)), .bool false]))∧Below W.heap.size W w'):=ae (fun W hb=>Uo W t x N b off c h TA hN (dP hbl hb.size) hc1 hc2 fun j hj=>(hb.cell (p:=⟨b,off+j,none⟩) hbl).trans (hA j hj));have qy:=h.prev;clear h hN hA;go_enter Tryz.func20,Tryz.ntmps20;go_upto_region 1 with ((with_reducible refine bC 37 ?_);go_must (refine aH rfl _ rfl (ai bQ (.slice none 0 0)) fO ?_));go_wp2_with fail;refine (HC.out _ HB0.out).mono ?_;rintro e w2 ⟨⟨g,cz,rfl⟩,hb2⟩;have HR2:=ae (HW0.out.below hb2);have HB2:=ae (ah HB0.out hb2);have dR:Hid ((Tryz.prog.info? 37).map (·.size)=some (ai {t with bn:=aU,aK:= []} (.slice (some ⟨g,0,none⟩) 1 cz)).size):=ae (bU {t with bn:=aU,aK:= []} _ qy rfl);have Ae:Hid ((ai bQ (.slice none 0 0)).size=(ai {t with bn:=aU,aK:= []} (.slice (some ⟨g,0,none⟩) 1 cz)).size):=ae ((bF bQ _ rfl rfl).trans (bF {t with bn:=aU,aK:= []} _ qy rfl).symm);have hw2:w.heap.size<w2.heap.size:=HR2.out.lt;have HZI:Hid ((Tryz.prog.info? 37).map (·.size)=some (ai bQ (.slice none 0 0)).size):=ae (bU bQ _ rfl rfl);clear hb2 HC HW0 HB0;have HR3:Hid (AV w.heap.size 37 (ai bQ (.slice none 0 0)) ((w2.alloc (.cells (ai bQ (.slice none 0 0)) 37)).setRow w2.heap.size (ai {t with bn:=aU,aK:= []} (.slice (some ⟨g,0,none⟩) 1 cz)))):=ae ((HR2.out.below (ag w2 _)).rP (by omega) _);have HB3:Hid (Below w.heap.size w ((w2.alloc (.cells (ai bQ (.slice none 0 0)) 37)).setRow w2.heap.size (ai {t with bn:=aU,aK:= []} (.slice (some ⟨g,0,none⟩) 1 cz)))):=ae (aB (ah HB2.out (ag w2 _)) (by omega) _);go_wp2_with (first
  |((with_reducible refine bC 37 ?_);go_must (refine aH rfl _ rfl (ai bQ (.slice none 0 0)) fO ?_))
  |((with_reducible refine iJ 37 ?_);go_must (refine di rfl _ rfl (ai bQ (.slice none 0 0)) (by kernel_rfl) ?_))
  |((with_reducible refine eF 37 ?_);go_must (first
    |(refine wpList_store_row rfl _ _ _ rfl w2.heap.size (ai {t with bn:=aU,aK:= []} (.slice (some ⟨g,0,none⟩) 1 cz)) rfl rfl 37 (ai bQ (.slice none 0 0)) (heap_alloc_last _ _) dR.out Ae.out (bz _ _ _ _) ?_)
    |(refine wpList_store_row rfl _ _ _ rfl w.heap.size (ai bQ (.slice none 0 0)) rfl rfl 37 (ai bQ (.slice none 0 0)) HR3.out.var HZI.out rfl (bz _ _ _ _) ?_))))
 refine bodyPost_ret (v:= .tuple #[.agg (ai bQ (.slice none 0 0)),I 3]) (bK rfl _ _ w.heap.size _ (ai bQ (.slice none 0 0)) (0,0) _ rfl (setRow_heap _ _ _ _ _ _ HR3.out.var) Tryz.underlying37 rfl HZI.out _ rfl) rfl ?_;exact ⟨rfl,aB HB3.out (Nat.le_refl _) _⟩
end Go.Proofs.YtdibbemgpikgjaaGreatDoor
namespace Go.Proofs.YtdibbemgpikgjaaGreatDoor
open Go Go.RowKit
def z0:Zn:=⟨⟨0,[3], -1,[]⟩,60,[],0,[]⟩
def zs0 (mb:Nat):Zs:=⟨some ⟨mb,0,none⟩,1,none,0,none,0,none,0⟩
def zW:Ze:=⟨⟨#[97]⟩,z0⟩
def vt (n wd:Int) (b:Bool):Tb:=⟨2,n,wd,aU,aU,if b then [zW] else []⟩
def SimP (w:World) (e:Ending) (w':World):Prop:=∃mb,w.heap.size≤mb∧e= .returned (.agg (ay z0 (zs0 mb)))∧w'.heap[mb]? =some (.cells #[I 3] 3 (0,0))∧Below w.heap.size w w'
def VerP (w:World) (n wd:Int) (b:Bool) (e:Ending) (w':World):Prop:=
 ∃A c ys,e= .returned (.agg (ai (vt n wd b) (.slice A ys.length c)))∧gJ w.heap.size w' (.slice A ys.length c) ys∧ys.map (·.e)=(vt n wd b).aK∧Below w.heap.size w w'
theorem li_z0 {lo mb:Nat} {w:World} (h:w.heap[mb]? =some (.cells #[I 3] 3 (0,0))) (hl:lo≤mb):LI lo w (some ⟨mb,0,none⟩) [3]:=
 .inr ⟨mb,0,rfl,hl,(bT.1 h).1,fun j hj=>by
  have e:j=0:=by simp at hj;omega
  subst e;exact cell_of_row w mb 0 _ _ _ h⟩
theorem XP {lo g mb:Nat} {w:World} (hg:w.heap[g]? =some (.cells (⟨zW,zs0 mb⟩:dB).cells 90 (0,0))) (hl:lo≤g) (hm:w.heap[mb]? =some (.cells #[I 3] 3 (0,0))) (hm2:lo≤mb):gJ lo w (.slice (some ⟨g,0,none⟩) 1 1) [⟨zW,zs0 mb⟩]:=
 ⟨⟨rfl, .inr ⟨g,1,_,rfl,hl,hg,Nat.le_refl _,by unfold maxLen;omega,rfl,rfl⟩⟩,fun x hx=>by rw [List.mem_singleton.1 hx];exact li_z0 hm hm2,fun x hx=>by rw [List.mem_singleton.1 hx];exact ⟨⟨rfl,rfl⟩,⟨rfl,rfl⟩,⟨rfl,rfl⟩⟩,fun h=>by cases h⟩
theorem XO (lo:Nat) (w:World):gJ lo w (.slice none 0 0) []:=⟨World.ownsRow_nil _ _ _ _,(fun _ h=>nomatch h),(fun _ h=>nomatch h),fun _=>rfl⟩
theorem OU:gU z0:=⟨⟨⟨by decide,by decide⟩,⟨by decide,by decide⟩,rfl,rfl,fun m hm=>by rw [List.mem_singleton.1 hm];decide⟩,⟨by decide,by decide⟩,rfl,⟨by decide,by decide⟩,rfl⟩
theorem XB (n wd:Int) (b:Bool) (h1:1≤n) (h2:n≤64) (h3:0≤wd) (h4:wd<n):kJ (vt n wd b):=by
 refine ⟨⟨show (0:Int)≤2 by decide,show (2:Int)<16 by decide⟩,⟨h1,h2⟩,⟨h3,h4⟩,rfl,rfl,fun _=>rfl,by cases b<;>exact Nat.le_of_ble_eq_true rfl,fun e he=>?_,fun e he=>?_⟩
 ·cases b with
  |false=>cases he
  |true=>rw [List.mem_singleton.1 he];exact OU
 ·cases b with
  |false=>cases he
  |true=>rw [List.mem_singleton.1 he];decide
theorem GN {lo:Nat} {w:World} {n wd:Int} {b:Bool} {A:Option Addr} {c:Nat} {ys:List dB} (h:gJ lo w (.slice A ys.length c) ys) (he:ys.map (·.e)=(vt n wd b).aK):jE w w.heap.size ⟨vt n wd b,A,c,ys⟩:=by
 refine ⟨he.symm,rfl,rfl,⟨aA.eQ h.row,fun x hx=>?_⟩⟩;have h0:x.e=zW:=by
  have hm:x.e∈(vt n wd b).aK:=by rw [←he];exact List.mem_map_of_mem hx
  cases b with
  |false=>cases hm
  |true=>exact List.mem_singleton.1 hm
 have hz:x.e.z=z0:=by rw [h0];rfl
 refine ⟨?_,?_,?_,?_⟩
 ·have hl:=h.az x hx;rcases hl with hl|⟨b2,off,e1,_,h2,h3⟩
  ·exact .inl (by rw [List.length_map];exact hl)
  ·refine .inr ⟨b2,off,e1,h2,fun j u hu=>?_⟩;rw [List.getElem?_map] at hu;cases hj:x.e.z.cal.az[j]? with
   |none=>rw [hj] at hu;cases hu
   |some m=>
    rw [hj] at hu;injection hu with hu;rw [h3 j (eG.1 hj).1,hj,←hu];rfl
 ·rw [hz];exact .inl rfl
 ·rw [hz];exact .inl rfl
 ·rw [hz];exact .inl rfl
theorem Uh (w:World):Calls Tryz.prog 34 #[] w (SimP w):=by
 go_enter Tryz.func34,Tryz.ntmps34;have h1:AV w.heap.size 67 jq (w.alloc (.cells jq 67)):=AV.new w _ _;have h2:=h1.below (ag _ (.cells #[I 3] 3));have h3:AV (w.heap.size+1) 3 #[I 3] ((w.alloc (.cells jq 67)).alloc (.cells #[I 3] 3)):=⟨heap_alloc2_new w _ _⟩;have H2:=ae h2;have H3:=ae h3;clear h1 h2 h3;go_wp2_with (first
  |((with_reducible refine bC 67 ?_);go_must (refine dw rfl _ rfl jq (by kernel_rfl) ?_))
  |((with_reducible refine eF 67 ?_);go_must (refine wpList_store_row rfl _ _ _ rfl w.heap.size (ay z0 (zs0 (w.heap.size+1))) rfl rfl 67 jq H2.out.var (by kernel_rfl) rfl (by kernel_rfl) ?_)))
 refine bodyPost_ret (v:= .agg (ay z0 (zs0 (w.heap.size+1)))) (results_cell_row rfl _ _ w.heap.size _ (ay z0 (zs0 (w.heap.size+1))) (0,0) _ rfl (setRow_heap _ _ _ _ _ _ H2.out.var) Tryz.underlying67 rfl (by kernel_rfl)) rfl ?_;exact ⟨w.heap.size+1,Nat.le_succ _,rfl,(setRow_other _ _ _ _ (by omega)).trans H3.out.var,aB (ah (ag w _) (ag _ _)) (Nat.le_refl _) _⟩
theorem Qv (n wd:Int) (w:World):Calls Tryz.prog 19 #[I n,I wd, .bool false] w (VerP w n wd false):=by
 obtain ⟨T,hT⟩:∃T,vt n wd false=T:=⟨_,rfl⟩;have hTp:T.prev.length=32:=by rw [←hT];rfl
 have hTm:T.bn.length=32:=by rw [←hT];rfl
 have HT:=ae hT;have H1:Hid (AV w.heap.size 37 (ai bQ (.slice none 0 0)) (((w.alloc (.cells (ai bQ (.slice none 0 0)) 37)).alloc (.cells (ai bQ (.slice none 0 0)) 37)).setRow (w.heap.size+1) (ai T (.slice none 0 0)))):=ae ⟨(setRow_other _ _ _ _ (by omega)).trans (heap_alloc2_old w _ _)⟩;have H2:Hid (AV (w.heap.size+1) 37 (ai T (.slice none 0 0)) (((w.alloc (.cells (ai bQ (.slice none 0 0)) 37)).alloc (.cells (ai bQ (.slice none 0 0)) 37)).setRow (w.heap.size+1) (ai T (.slice none 0 0)))):=ae ⟨setRow_heap _ _ _ _ _ _ (heap_alloc2_new w _ _)⟩;have HB1:Hid (Below w.heap.size w (((w.alloc (.cells (ai bQ (.slice none 0 0)) 37)).alloc (.cells (ai bQ (.slice none 0 0)) 37)).setRow (w.heap.size+1) (ai T (.slice none 0 0)))):=ae (aB (ah (ag w _) (ag _ _)) (Nat.le_succ _) _);have dR:Hid (∀v,(Tryz.prog.info? 37).map (·.size)=some (ai T v).size):=ae fun v=>bU _ v hTp hTm;have Ae:Hid (∀v,(ai bQ (.slice none 0 0)).size=(ai T v).size):=ae fun v=>(bF bQ _ rfl rfl).trans (bF T v hTp hTm).symm;clear hT hTp hTm;go_enter Tryz.func19,Tryz.ntmps19;go_upto_region 2 with (first
  |((with_reducible refine bC 37 ?_);go_must (refine aH rfl _ rfl (ai bQ (.slice none 0 0)) fO ?_))
  |((with_reducible refine iJ 37 ?_);go_must (refine di rfl _ rfl (ai T (.slice none 0 0)) (by rw [←HT.out];kernel_rfl) ?_))
  |((with_reducible refine eF 37 ?_);go_must (refine wpList_store_row rfl _ _ _ rfl (w.heap.size+1) (ai T (.slice none 0 0)) (congrArg (fun b=>Value.pointer (some ⟨b,0,none⟩)) (oL w _)) rfl 37 (ai bQ (.slice none 0 0)) (heap_alloc2_new w _ _) (dR.out _) (Ae.out _) (bz _ _ _ _) ?_)))
 generalize ((w.alloc (.cells (ai bQ (.slice none 0 0)) 37)).alloc (.cells (ai bQ (.slice none 0 0)) 37)).setRow (w.heap.size+1) (ai T (.slice none 0 0))=W1 at H1 H2 HB1 ⊢;have hw1:=H2.out.lt;refine ax ?_
 (try rw [oL w])
 go_wp2_with (first
  |((with_reducible refine fU 37 ?_);go_must (refine aT rfl _ _ rfl (w.heap.size+1) rfl (ai T (.slice none 0 0)) H2.out.iY _ Tryz.underlying37 rfl (dR.out _) ?_))
  |((with_reducible refine eF 37 ?_);go_must (refine wpList_store_row rfl _ _ _ rfl w.heap.size (ai T (.slice none 0 0)) rfl rfl 37 (ai bQ (.slice none 0 0)) H1.out.var (dR.out _) (Ae.out _) (bz _ _ _ _) ?_)))
 refine bodyPost_ret (v:= .agg (ai T (.slice none 0 0))) (results_cell_row rfl _ _ w.heap.size _ (ai T (.slice none 0 0)) (0,0) _ rfl (setRow_heap _ _ _ _ _ _ H1.out.var) Tryz.underlying37 rfl (dR.out _)) rfl ?_;exact ⟨none,0,[],by rw [HT.out];rfl,XO _ _,rfl,aB HB1.out (Nat.le_refl _) _⟩
theorem Fe (n wd:Int) (w:World):Calls Tryz.prog 19 #[I n,I wd, .bool true] w (VerP w n wd true):=by
 obtain ⟨T,hT⟩:∃T,vt n wd false=T:=⟨_,rfl⟩;have hTp:T.prev.length=32:=by rw [←hT];rfl
 have hTm:T.bn.length=32:=by rw [←hT];rfl
 have HT:=ae hT;have H1:Hid (AV w.heap.size 37 (ai bQ (.slice none 0 0)) (((w.alloc (.cells (ai bQ (.slice none 0 0)) 37)).alloc (.cells (ai bQ (.slice none 0 0)) 37)).setRow (w.heap.size+1) (ai T (.slice none 0 0)))):=ae ⟨(setRow_other _ _ _ _ (by omega)).trans (heap_alloc2_old w _ _)⟩;have H2:Hid (AV (w.heap.size+1) 37 (ai T (.slice none 0 0)) (((w.alloc (.cells (ai bQ (.slice none 0 0)) 37)).alloc (.cells (ai bQ (.slice none 0 0)) 37)).setRow (w.heap.size+1) (ai T (.slice none 0 0)))):=ae ⟨setRow_heap _ _ _ _ _ _ (heap_alloc2_new w _ _)⟩;have HB1:Hid (Below w.heap.size w (((w.alloc (.cells (ai bQ (.slice none 0 0)) 37)).alloc (.cells (ai bQ (.slice none 0 0)) 37)).setRow (w.heap.size+1) (ai T (.slice none 0 0)))):=ae (aB (ah (ag w _) (ag _ _)) (Nat.le_succ _) _);have dR:Hid (∀v,(Tryz.prog.info? 37).map (·.size)=some (ai T v).size):=ae fun v=>bU _ v hTp hTm;have Ae:Hid (∀v,(ai bQ (.slice none 0 0)).size=(ai T v).size):=ae fun v=>(bF bQ _ rfl rfl).trans (bF T v hTp hTm).symm;clear hT hTp hTm;go_enter Tryz.func19,Tryz.ntmps19;go_upto_region 2 with (first
  |((with_reducible refine bC 37 ?_);go_must (refine aH rfl _ rfl (ai bQ (.slice none 0 0)) fO ?_))
  |((with_reducible refine iJ 37 ?_);go_must (refine di rfl _ rfl (ai T (.slice none 0 0)) (by rw [←HT.out];kernel_rfl) ?_))
  |((with_reducible refine eF 37 ?_);go_must (refine wpList_store_row rfl _ _ _ rfl (w.heap.size+1) (ai T (.slice none 0 0)) (congrArg (fun b=>Value.pointer (some ⟨b,0,none⟩)) (oL w _)) rfl 37 (ai bQ (.slice none 0 0)) (heap_alloc2_new w _ _) (dR.out _) (Ae.out _) (bz _ _ _ _) ?_)))
 generalize ((w.alloc (.cells (ai bQ (.slice none 0 0)) 37)).alloc (.cells (ai bQ (.slice none 0 0)) 37)).setRow (w.heap.size+1) (ai T (.slice none 0 0))=W1 at H1 H2 HB1 ⊢;have hw1:=H2.out.lt;refine ax ?_
 (try rw [oL w])
 go_wp2_with fail;refine (Uh W1).mono ?_;rintro e w2 ⟨mb,hmb,rfl,hm2,hb2⟩;rw [show ay z0 (zs0 mb)= #[I 0, .slice (some ⟨mb,0,none⟩) 1 1,I (-1), .slice none 0 0,I 60, .slice none 0 0,I 0, .slice none 0 0] from rfl];have h1:=H1.out.below hb2;have h2:=H2.out.below hb2;have HB2:=ae (ah HB1.out hb2);have hl2:W1.heap.size≤w2.heap.size:=hb2.size;have hml:mb<w2.heap.size:=(bT.1 hm2).1;have hbv:=ag w2 (.cells #[.string ⟨#[97]⟩,I 0, .slice (some ⟨mb,0,none⟩) 1 1,I (-1), .slice none 0 0,I 60, .slice none 0 0,I 0, .slice none 0 0] 90);have h1':=(h1.below hbv).far (g:=w.heap.size+1) (by omega) 3 (.slice (some ⟨w2.heap.size,0,none⟩) 1 1);have h2':=(h2.below hbv).put 3 (.slice (some ⟨w2.heap.size,0,none⟩) 1 1);rw [nD] at h2';have c3:(w2.alloc (.cells #[.string ⟨#[97]⟩,I 0, .slice (some ⟨mb,0,none⟩) 1 1,I (-1), .slice none 0 0,I 60, .slice none 0 0,I 0, .slice none 0 0] 90)).cell? ⟨w.heap.size+1,3,none⟩=some (.slice none 0 0):=((h2.below hbv).cell 3).trans (bD _ _);have f3:(w2.alloc (.cells #[.string ⟨#[97]⟩,I 0, .slice (some ⟨mb,0,none⟩) 1 1,I (-1), .slice none 0 0,I 60, .slice none 0 0,I 0, .slice none 0 0] 90)).frozen? ⟨w.heap.size+1,3,none⟩=false:=(h2.below hbv).dZ 3;have HO:Hid (gJ (w.heap.size+1) ((w2.alloc (.cells #[.string ⟨#[97]⟩,I 0, .slice (some ⟨mb,0,none⟩) 1 1,I (-1), .slice none 0 0,I 60, .slice none 0 0,I 0, .slice none 0 0] 90)).setCell ⟨w.heap.size+1,3,none⟩ (.slice (some ⟨w2.heap.size,0,none⟩) 1 1)) (.slice (some ⟨w2.heap.size,0,none⟩) 1 1) [⟨zW,zs0 mb⟩]):=ae (XP ((heap_setCell_other _ ⟨w.heap.size+1,3,none⟩ _ _ (by show w2.heap.size≠w.heap.size+1;omega)).trans (heap_alloc_last w2 _)) (by omega) ((heap_setCell_other _ ⟨w.heap.size+1,3,none⟩ _ _ (by show mb≠w.heap.size+1;omega)).trans ((hbv.block _ hml).trans hm2)) (by omega));have HB3:Hid (Below w.heap.size w ((w2.alloc (.cells #[.string ⟨#[97]⟩,I 0, .slice (some ⟨mb,0,none⟩) 1 1,I (-1), .slice none 0 0,I 60, .slice none 0 0,I 0, .slice none 0 0] 90)).setCell ⟨w.heap.size+1,3,none⟩ (.slice (some ⟨w2.heap.size,0,none⟩) 1 1))):=ae ((ah HB2.out hbv).setCell (p:=⟨w.heap.size+1,3,none⟩) (show w.heap.size≤w.heap.size+1 by omega) _);clear H1 H2 h1 h2 hm2 hb2 HB1 hbv;have H1:=ae h1';have H2:=ae h2';clear h1' h2';go_wp2_with (first
  |((with_reducible refine fU 37 ?_);go_must (refine aT rfl _ _ rfl (w.heap.size+1) rfl (ai T (.slice (some ⟨w2.heap.size,0,none⟩) 1 1)) H2.out.iY _ Tryz.underlying37 rfl (dR.out _) ?_))
  |((with_reducible refine eF 37 ?_);go_must (refine wpList_store_row rfl _ _ _ rfl w.heap.size (ai T (.slice (some ⟨w2.heap.size,0,none⟩) 1 1)) rfl rfl 37 (ai bQ (.slice none 0 0)) H1.out.var (dR.out _) (Ae.out _) (bz _ _ _ _) ?_)))
 refine bodyPost_ret (v:= .agg (ai T (.slice (some ⟨w2.heap.size,0,none⟩) 1 1))) (results_cell_row rfl _ _ w.heap.size _ (ai T (.slice (some ⟨w2.heap.size,0,none⟩) 1 1)) (0,0) _ rfl (setRow_heap _ _ _ _ _ _ H1.out.var) Tryz.underlying37 rfl (dR.out _)) rfl ?_;exact ⟨some ⟨w2.heap.size,0,none⟩,1,[⟨zW,zs0 mb⟩],by rw [←HT.out];rfl,(HO.out.aS (by simp [World.setRow]) fun k h1 h2=>setRow_other _ _ k _ (by omega)).lower (Nat.le_succ _),rfl,aB HB3.out (Nat.le_refl _) _⟩
end Go.Proofs.YtdibbemgpikgjaaGreatDoor
