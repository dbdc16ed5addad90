/- The texts Khx, in this order. -/
import Derived.Test.YtbaehbbonkljpaaGreatDoorS00
import Derived.Test.YtbaehbbonkljpaaGreatDoorS24
import Derived.Test.YtbaehbbonkljpaaGreatDoorS41
set_option maxRecDepth 10000
set_option maxHeartbeats 8000000
namespace Go.Proofs.YtbaehbbonkljpaaGreatDoor
open Go Go.RowKit
def Ik (x:EI) (e l:Int) (n:Nat) (mo ru:List Value):Prop:=
 (uq x.cal).bn=e/\(uq x.cal).dA=l/\(uq x.cal).au.length=2/\(uq x.cal).rules.length=n/\(uq x.cal).au.map I=mo/\(uq x.cal).rules.flatMap Lr.cells=ru
theorem calq0 (x:EI) (hp:x.cal.toNat%2=0):Ik x 2 (-1) 0 [I 7,I 6] []:=by
 have e:uq x.cal=⟨2,[7,6], -1,[]⟩:=by unfold uq;rw [if_neg (by omega)]
 unfold Ik;rw [e];exact ⟨rfl,rfl,rfl,rfl,rfl,rfl⟩
theorem calq1 (x:EI) {r:Nat} (hp:x.cal.toNat%2=1) (hr:x.cal.toNat / 2%2=r):Ik x 5 1 1 [I 7,I 8] [I 2,I (r:Int), .bool true]:=by
 have e:uq x.cal=⟨5,[7,8],1,[⟨2,(r:Int),true⟩]⟩:=by unfold uq;rw [if_pos hp,hr]
 unfold Ik;rw [e];exact ⟨rfl,rfl,rfl,rfl,rfl,rfl⟩
theorem NV (x:EI) (cnt cc:Nat) (C:Option Addr) (M R:Option Addr) {e l:Int} {n:Nat} {mo ru:List Value} {st hz:Int} (h:Ik x e l n mo ru) (hc:mD x=cnt) (hs:nU x.st.toNat=st) (hh:xm x.dS cnt+2160+20*(x.bh.toNat:Int)=hz):
  ay (NU x) ⟨M,2,R,n,C,cc,none,0⟩= #[I e, .slice M 2 2,I l, .slice R n n,I st, .slice C cnt cc,I hz, .slice none 0 0]:=by
 obtain ⟨h1,h2,h3,h4,_,_⟩:=h;unfold ay NU;simp only [hc,uu,hs,hh,h1,h2,h3,h4];rfl
theorem Aq (x:EI) {W:World} {B cnt n:Nat} {s:Zs} {e l:Int} {mo ru:List Value} (h:Ik x e l n mo ru) (hc:mD x=cnt) (h1:aA W B s.A mo) (h2:aA W B s.B ru) (h3:aA W B s.C ((mF x.dS x.iI cnt).flatMap Tr.cells)):iP W B s (NU x):=by
 obtain ⟨_,_,_,_,h5,h6⟩:=h;refine ⟨?_,?_,?_, .nil⟩
 ·show aA W B s.A ((uq x.cal).au.map I);rw [h5];exact h1
 ·show aA W B s.B ((uq x.cal).rules.flatMap Lr.cells);rw [h6];exact h2
 ·show aA W B s.C ((mF x.dS x.iI (mD x)).flatMap Tr.cells);rw [hc];exact h3
theorem Du (x:EI) {lo cnt n:Nat} {s:Zs} {e l:Int} {mo ru:List Value} (h:Ik x e l n mo ru) (hc:mD x=cnt) (h1:sZ lo s.A mo) (h2:sZ lo s.B ru) (h3:sZ lo s.C ((mF x.dS x.iI cnt).flatMap Tr.cells)):IK lo s (NU x):=by
 obtain ⟨_,_,_,_,h5,h6⟩:=h;refine ⟨?_,?_,?_, .inl rfl⟩
 ·show sZ lo s.A ((uq x.cal).au.map I);rw [h5];exact h1
 ·show sZ lo s.B ((uq x.cal).rules.flatMap Lr.cells);rw [h6];exact h2
 ·show sZ lo s.C ((mF x.dS x.iI (mD x)).flatMap Tr.cells);rw [hc];exact h3
theorem Uu (x:EI) (G O:Option Addr) (gc oc:Nat) (w:World) (hgl:x.dS.length<=9223372036854775807) (hol:x.iI.length<=9223372036854775807) (hg:aA w w.heap.size G (x.dS.map Extern.Stop.cell)) (ho:aA w w.heap.size O (x.iI.map Extern.Stop.cell)):
  Calls Tryz.prog 39 #[.agg (lU x G O gc oc)] w (ZR w (jv x)):=by
 have HG:=ae hg;have HO:=ae ho;have hxs1:(lU x G O gc oc)[1]? =some (.slice G x.dS.length gc):=rfl;have hxs2:(lU x G O gc oc)[2]? =some (.slice O x.iI.length oc):=rfl;have hxs0:(lU x G O gc oc)[0]? =some (.int .u8 (x.st.toNat:Int)):=rfl;have hxs12:(lU x G O gc oc)[12]? =some (.int .u8 (x.cal.toNat:Int)):=rfl;have hxs3:(lU x G O gc oc)[3]? =some (.int .u8 (x.bh.toNat:Int)):=rfl;have hxs13:(lU x G O gc oc)[13]? =some (.bool x.rules):=rfl;obtain ⟨gl,hgl'⟩:∃n,x.dS.length=n:=⟨_,rfl⟩;obtain ⟨ol,hol'⟩:∃n,x.iI.length=n:=⟨_,rfl⟩;rw [hgl'] at hxs1 hgl;rw [hol'] at hxs2 hol;have HGL:=ae hgl';have HOL:=ae hol';obtain ⟨pv,hpv⟩:∃v:Int,Int.tmod (x.cal.toNat:Int) 2=v:=⟨_,rfl⟩;have HPV:=ae hpv;clear hgl' hol' hg ho;have KA:=ae (And.intro hxs0 (And.intro hxs1 (And.intro hxs2 (And.intro hxs3 (And.intro hxs12 hxs13)))));clear hxs0 hxs1 hxs2 hxs3 hxs12 hxs13;obtain ⟨xs,hxs⟩:∃a,lU x G O gc oc=a:=⟨_,rfl⟩;rw [hxs] at KA ⊢;have Sz:=ae hxs;clear hxs;have H0:=ae (M0.start w xs 85);have c0:((w.alloc (.cells xs 85)).alloc (.cells iH 69)).cell? ⟨w.heap.size,0,none⟩=some (.int .u8 (x.st.toNat:Int)):=(H0.out.x.2 0).trans KA.out.1;go_enter Tryz.func39,Tryz.ntmps39;go_wp2_with (with_reducible refine aZ 69 ?_;refine dm rfl _ rfl iH (by kernel_rfl) ?_);refine (xK x.st.toNat _ (fA _)).mono ?_;rintro e w1 ⟨rfl,hb1⟩;have H1:=ae (H0.out.grow hb1);clear hb1 H0 c0;obtain ⟨st,hst⟩:∃v,nU x.st.toNat=v:=⟨_,rfl⟩;rw [hst];have HST:=ae hst;clear hst;have H2:Hid (MZ w xs (w1.heap.size+1) (w1.heap.size+2) #[I 2, .slice (some ⟨w1.heap.size,0,none⟩) 2 2,I (-1), .slice none 0 0,I st, .slice none 0 0,I 0, .slice none 0 0] (some ⟨w1.heap.size,0,none⟩) none none [I 7,I 6] [] [] (((w1.alloc (.cells #[I 7,I 6] 3)).alloc (.cells #[I 0, .slice none 0 0,I 0, .slice none 0 0,I 0, .slice none 0 0,I 0, .slice none 0 0] 69)).setRow (w1.heap.size+1) #[I 2, .slice (some ⟨w1.heap.size,0,none⟩) 2 2,I (-1), .slice none 0 0,I st, .slice none 0 0,I 0, .slice none 0 0])):=ae (H1.out.zone _ _ rfl);have hone:(#[I 2, .slice (some ⟨w1.heap.size,0,none⟩) 2 2,I (-1), .slice none 0 0,I st, .slice none 0 0,I 0, .slice none 0 0]:Array Value).all (·.oneCell')=true:=by simp [Value.oneCell']
 have c12:(((w1.alloc (.cells #[I 7,I 6] 3)).alloc (.cells #[I 0, .slice none 0 0,I 0, .slice none 0 0,I 0, .slice none 0 0,I 0, .slice none 0 0] 69)).setRow (w1.heap.size+1) #[I 2, .slice (some ⟨w1.heap.size,0,none⟩) 2 2,I (-1), .slice none 0 0,I st, .slice none 0 0,I 0, .slice none 0 0]).cell? ⟨w.heap.size,12,none⟩=some (.int .u8 (x.cal.toNat:Int)):=(H2.out.x.2 12).trans KA.out.2.2.2.2.1;go_upto_if 17 with (first
  |((with_reducible refine dW 69 ?_);go_must (refine wpList_store_row rfl _ _ _ rfl (w1.heap.size+1) #[I 2, .slice (some ⟨w1.heap.size,0,none⟩) 2 2,I (-1), .slice none 0 0,I st, .slice none 0 0,I 0, .slice none 0 0] rfl rfl 69 iH (heap_alloc2_new w1 _ _) (by kernel_rfl) rfl hone ?_)))
 generalize (((w1.alloc (.cells #[I 7,I 6] 3)).alloc (.cells #[I 0, .slice none 0 0,I 0, .slice none 0 0,I 0, .slice none 0 0,I 0, .slice none 0 0] 69)).setRow (w1.heap.size+1) #[I 2, .slice (some ⟨w1.heap.size,0,none⟩) 2 2,I (-1), .slice none 0 0,I st, .slice none 0 0,I 0, .slice none 0 0])=W2 at H2 ⊢;clear c12 hone H1;obtain ⟨zb,hzb⟩:∃b,w1.heap.size+1=b:=⟨_,rfl⟩;obtain ⟨mb,hmb⟩:∃b,w1.heap.size=b:=⟨_,rfl⟩;obtain ⟨B,hB⟩:∃b,w1.heap.size+2=b:=⟨_,rfl⟩;rw [hzb,hB,hmb] at H2;rw [hzb,hmb];clear hzb hmb hB
 go_cut [17] (fun _ wx=>∃(qe ql:Int) (qM qR:Option Addr) (qn qB:Nat) (OW OX:List Value),MZ w xs zb qB #[I qe, .slice qM 2 2,I ql, .slice qR qn qn,I st, .slice none 0 0,I 0, .slice none 0 0] qM qR none OW OX [] wx/\Ik x qe ql qn OW OX)
 case first=>
  rcases Nat.mod_two_eq_zero_or_one x.cal.toNat with Ub|Ub
  ·have hp0:pv=0:=by rw [<-HPV.out,Int.tmod_eq_emod_of_nonneg (by omega)];omega
   subst hp0;have HPAR:=ae Ub;clear Ub;go_wp2_with fail;go_meet;exact ⟨2, -1,some ⟨mb,0,none⟩,none,0,B,_,_,H2.out,calq0 x HPAR.out⟩
  ·have hp1:pv=1:=by rw [<-HPV.out,Int.tmod_eq_emod_of_nonneg (by omega)];omega
   subst hp1;have HPAR:=ae Ub;clear Ub hpv;have hlt2:w.heap.size<W2.heap.size:=H2.out.x.1;have hzl2:zb<W2.heap.size:=H2.out.zlt;have hzw:w.heap.size+2<=zb:=H2.out.lo;have c12:W2.cell? ⟨w.heap.size,12,none⟩=some (.int .u8 (x.cal.toNat:Int)):=(H2.out.x.2 12).trans KA.out.2.2.2.2.1;have hf:∀i,W2.frozen? ⟨zb,i,none⟩=false:=H2.out.fZ;have z0:W2.cell? ⟨zb,0,none⟩=some (I 2):=H2.out.cell 0;have z1:W2.cell? ⟨zb,1,none⟩=some (.slice (some ⟨mb,0,none⟩) 2 2):=H2.out.cell 1;have z2:W2.cell? ⟨zb,2,none⟩=some (I (-1)):=H2.out.cell 2;have z3:W2.cell? ⟨zb,3,none⟩=some (.slice none 0 0):=H2.out.cell 3;obtain ⟨q,hq⟩:∃q,x.cal.toNat / 2=q:=⟨_,rfl⟩;obtain ⟨r,hr⟩:∃r,q%2=r:=⟨_,rfl⟩;have hbl:=fA x.cal;have hqd:Int.tdiv (x.cal.toNat:Int) 2=(q:Int):=by rw [Int.tdiv_eq_ediv_of_nonneg (by omega)];omega
   have hrm:Int.tmod (q:Int) 2=(r:Int):=by rw [Int.tmod_eq_emod_of_nonneg (by omega)];omega
   have hq8:(q:Int)%256=q:=by omega
   have hr8:(r:Int)%256=r:=by omega
   have HQR:Hid (x.cal.toNat / 2%2=r):=ae (by rw [hq,hr]);clear hq hr hbl;go_wp2_with fail;go_meet;have H3:Hid (MZ w xs zb (W2.heap.size+2) #[I 5, .slice (some ⟨W2.heap.size,0,none⟩) 2 2,I 1, .slice (some ⟨W2.heap.size+1,0,none⟩) 1 1,I st, .slice none 0 0,I 0, .slice none 0 0] (some ⟨W2.heap.size,0,none⟩) (some ⟨W2.heap.size+1,0,none⟩) none [I 7,I 8] [I 2,I (r:Int), .bool true] [] ((((((W2.setCell ⟨zb,0,none⟩ (I 5)).setCell ⟨zb,1,none⟩ (.slice (some ⟨W2.heap.size,0,none⟩) 2 2)).setCell ⟨zb,2,none⟩ (I 1)).setCell ⟨zb,3,none⟩ (.slice (some ⟨W2.heap.size+1,0,none⟩) 1 1)).alloc (.cells #[I 7,I 8] 3)).alloc (.cells #[I 2,I (r:Int), .bool true] 118))):=ae (by
    have h:=((((H2.out.store 0 (I 5)).store 1 (.slice (some ⟨W2.heap.size,0,none⟩) 2 2)).store 2 (I 1)).store 3 (.slice (some ⟨W2.heap.size+1,0,none⟩) 1 1)).relay #[I 7,I 8] #[I 2,I (r:Int), .bool true] 3 118 _ _ rfl rfl;have e:((((W2.setCell ⟨zb,0,none⟩ (I 5)).setCell ⟨zb,1,none⟩ (.slice (some ⟨W2.heap.size,0,none⟩) 2 2)).setCell ⟨zb,2,none⟩ (I 1)).setCell ⟨zb,3,none⟩ (.slice (some ⟨W2.heap.size+1,0,none⟩) 1 1)).heap.size=W2.heap.size:=by simp [World.setCell]
    rw [e] at h;exact h)
   exact ⟨5,1,_,_,1,_,_,_,H3.out,calq1 x HPAR.out HQR.out⟩
 case rest=>
  obtain ⟨qe,ql,qM,qR,qn,qB,OW,OX,hq3,hcq⟩:=hcut;have H3:=ae hq3;have Zv:=ae hcq;clear hq3 hcq H2 hpv;obtain ⟨cnt,hcnt⟩:∃n,mD x=n:=⟨_,rfl⟩;have hcl:=OI x;have hco:=Ye x;rw [hcnt,HGL.out,HOL.out] at hcl hco;have Iq:=ae hcnt;have HCO:=ae hco;clear hcnt hco;obtain ⟨i0,hi,hz0,hz1,hz2⟩:=info_parts xy;go_upto_block 0 with fail
  go_cut [4] (fun a wx=>a= .int .i64 (xm x.dS cnt)/\∃cc C,iO qB wx C cnt cc (mF x.dS x.iI cnt)/\MZ w xs zb qB #[I qe, .slice qM 2 2,I ql, .slice qR qn qn,I st,(.slice C cnt cc),I 0, .slice none 0 0] qM qR none OW OX [] wx)
  case first=>
   go_wp2_with fail
   go_loopw [4,5] (fun a i wr=>TlRel w x xs zb qB (fun v=> #[I qe, .slice qM 2 2,I ql, .slice qR qn qn,I st,v,I 0, .slice none 0 0]) qM qR OW OX cnt a i wr) (fun _ i _=>cnt - (intOf i).toNat)
   case atStart=>exact ⟨0,0,none,Nat.zero_le _,rfl,by go_num,World.ownsRow_nil _ _ _ _,H3.out⟩
   case round=>
    obtain ⟨k,cc,C,hk,rfl,rfl,hto,hmz⟩:=hrel;have HT:=ae hto;have HX:=ae hmz;clear hto hmz H3;have x1:wr.cell? ⟨w.heap.size,1,none⟩=some (.slice G gl gc):=(HX.out.x.2 1).trans KA.out.2.1;have x2:wr.cell? ⟨w.heap.size,2,none⟩=some (.slice O ol oc):=(HX.out.x.2 2).trans KA.out.2.2.1;obtain ⟨ak,hak⟩:∃v,xm x.dS k=v:=⟨_,rfl⟩;have hab:=FZ x.dS k;rw [hak] at hab ⊢;have HAK:=ae hak;clear hak;by_cases hlt:k<cnt
    ·obtain ⟨gb,gf,hG,hgb,hgc⟩:=zf HG.out HX.out.up (by rw [HGL.out];omega);obtain ⟨ob,of,hO,hob,hoc⟩:=zf HO.out HX.out.up (by rw [HOL.out];omega);subst hG hO;have g0:=hgc k (by rw [HGL.out];omega);have o0:=hoc k (by rw [HOL.out];omega);obtain ⟨gk,hgk⟩:∃b,x.dS[k]?.getD 0=b:=⟨_,rfl⟩;obtain ⟨ok,hok⟩:∃b,x.iI[k]?.getD 0=b:=⟨_,rfl⟩;rw [hgk] at g0;rw [hok] at o0;have hg8:=fA gk;have hat:xm x.dS (k+1)=ak+2160+20*(gk.toNat:Int):=by rw [<-HAK.out,<-hgk];rfl
     have HAT:=ae hat;have HOK:=ae hok;have EE:=ae (fun W=>xK ok.toNat W (fA ok));clear hgc hoc hgk hok hat;obtain ⟨gn,hgn⟩:∃n,gk.toNat=n:=⟨_,rfl⟩;rw [hgn] at g0 hg8 HAT;obtain ⟨on,hon⟩:∃n,ok.toNat=n:=⟨_,rfl⟩;rw [hon] at o0 EE;have HON:=ae hon;clear hgn hon;have j1:(k:Int)<(gl:Int):=by omega
     have j2:(k:Int)<(ol:Int):=by omega
     have j3:(k:Int)<3:=by omega
     have j0:(0:Int)<=(k:Int):=by omega
     have z5:wr.cell? ⟨zb,5,none⟩=some (.slice C k cc):=HX.out.cell 5;obtain ⟨ov,hov⟩:∃v,nU on=v:=⟨_,rfl⟩;rw [hov] at EE;have HOV:Hid (nU (x.iI[k]?.getD 0).toNat=ov):=ae (by rw [HOK.out,HON.out];exact hov);clear hov;have hbsz:qB<=wr.heap.size:=HX.out.sz;have Wn:zb<qB:=HX.out.hi;go_wp2_with fail
     go_region_law (first
      |(refine step_append_lies _ (by rfl) _ _ _ (by rfl) qB 108 i0 (.agg #[I 0,I 0]) 2 16 Tryz.underlying66 hi hz0 hz1 hz2 rfl (by omega) (.slice C k cc) k ((mF x.dS x.iI k).flatMap Tr.cells) (by rfl) (sQ.out.alloc _) ⟨w5.heap.size,0,none⟩ 1 1 [I (ak+2160+20*(gn:Int)),I ov] (by rfl) rfl (cell_two_new _ _ _ _) (wS ⟨ak+2160+20*(gn:Int),ov⟩) (by omega) (by unfold maxLen;omega) (by omega) (by simp;omega) _ rfl ?_;intro gg cap w6 hown6 hgrow6 gu hlt6;have qL:=ae ((yu.out.grow (ag w5 (.cells #[I (ak+2160+20*(gn:Int)),I ov] 108))).grown hgrow6 (JX sQ.out));have D8:w6.cell? ⟨zb,5,none⟩=some (.slice C k cc):=qL.out.cell 5;have f66:w6.frozen? ⟨zb,5,none⟩=false:=qL.out.fZ 5;have zU:=ae hown6;clear hown6 hgrow6 gu)
      |(go_simp;go_at_call 62;refine (EE.out _).mono ?_;rintro e w5 ⟨rfl,hb5⟩;have yu:=ae (HX.out.drew.grow hb5);have sQ:Hid (iO qB w5 C k cc (mF x.dS x.iI k)):=ae (iO.below (show iO qB wr.drew C k cc _ from HT.out) hb5);have z55:w5.cell? ⟨zb,5,none⟩=some (.slice C k cc):=yu.out.cell 5;have hsz5:qB<=w5.heap.size:=yu.out.sz;have hzl5:zb<w5.heap.size:=yu.out.zlt;clear hb5))
     all_goals
      go_wp2_with fail;go_roundw
      case rel=>exact ⟨k+1,cap,some ⟨gg,0,none⟩,by omega,by rw [HAT.out],by go_num,iO.Z8 (by unfold iO;rw [MW,HAT.out,HOV.out];exact zU.out) Wn _,qL.out.store 5 (.slice (some ⟨gg,0,none⟩) (k+1) cap)⟩
      case measure=>simp [intOf];omega
    ·obtain rfl:k=cnt:=by omega
     have hex:¬(k:Int)<(gl:Int)\/((k:Int)<(gl:Int)/\¬(k:Int)<(ol:Int))\/((k:Int)<(gl:Int)/\(k:Int)<(ol:Int)/\¬(k:Int)<3):=by have:=HCO.out;omega
     rcases hex with h1|⟨h1,h2⟩|⟨h1,h2,h3⟩
     all_goals
      go_wp2_with fail;go_meet;exact ⟨by rw [HAK.out],cc,C,HT.out,HX.out⟩
  case rest=>
   obtain ⟨rfl,cc,C,hto,hmz⟩:=hcut;have HT:=ae hto;have HX:=ae hmz;clear hto hmz;have hab:=FZ x.dS cnt;obtain ⟨ac,hac⟩:∃v,xm x.dS cnt=v:=⟨_,rfl⟩;rw [hac] at hab ⊢;have hb8:=fA x.bh;obtain ⟨hz,hhz⟩:∃v,ac+2160+20*(x.bh.toNat:Int)=v:=⟨_,rfl⟩;have HHZ:Hid (xm x.dS cnt+2160+20*(x.bh.toNat:Int)=hz):=ae (by rw [hac];exact hhz);have hzb1:hz<=100000:=by omega
   have hzb0:0<=hz:=by omega
   clear hac;have x3:wc.cell? ⟨w.heap.size,3,none⟩=some (.int .u8 (x.bh.toNat:Int)):=(HX.out.x.2 3).trans KA.out.2.2.2.1;have z6:wc.cell? ⟨zb,6,none⟩=some (I 0):=HX.out.cell 6;have f6:wc.frozen? ⟨zb,6,none⟩=false:=HX.out.fZ 6;go_upto_region 11 with fail;have H4:Hid (MZ w xs zb qB #[I qe, .slice qM 2 2,I ql, .slice qR qn qn,I st, .slice C cnt cc,I hz, .slice none 0 0] qM qR none OW OX [] (wc.setCell ⟨zb,6,none⟩ (I hz))):=ae (HX.out.store 6 (I hz));have HT4:Hid (iO qB (wc.setCell ⟨zb,6,none⟩ (I hz)) C cnt cc (mF x.dS x.iI cnt)):=ae (HT.out.Z8 HX.out.hi _);clear x3 z6 f6 HT HX hab hb8 hhz;generalize wc.setCell ⟨zb,6,none⟩ (.int .i64 hz)=W4 at H4 HT4 ⊢;have x13:W4.cell? ⟨w.heap.size,13,none⟩=some (.bool x.rules):=(H4.out.x.2 13).trans KA.out.2.2.2.2.2;have FN:Hid (MZ w xs zb W4.heap.size #[I qe, .slice qM 2 2,I ql, .slice qR qn qn,I st, .slice C cnt cc,I hz, .slice none 0 0] qM qR C OW OX ((mF x.dS x.iI cnt).flatMap Tr.cells) W4):=ae (H4.out.next HT4.out (by have:=H4.out.lo;have:=H4.out.hi;omega));have hzn0:ay (NU x) ⟨qM,2,qR,qn,C,cc,none,0⟩= #[I qe, .slice qM 2 2,I ql, .slice qR qn qn,I st, .slice C cnt cc,I hz, .slice none 0 0]:=NV x _ _ _ _ _ Zv.out Iq.out HST.out HHZ.out;have HZN:=ae hzn0;clear hzn0 H4 HT4;obtain ⟨rl,hrl⟩:∃b,x.rules=b:=⟨_,rfl⟩;rw [hrl] at x13;have HRL:=ae hrl;clear hrl;cases rl with
   |false=>
    have aad:jv x=NU x:=by unfold jv;rw [if_neg (by rw [HRL.out];simp)]
    have hone:(#[I qe, .slice qM 2 2,I ql, .slice qR qn qn,I st, .slice C cnt cc,I hz, .slice none 0 0]:Array Value).all (·.oneCell')=true:=by simp [Value.oneCell']
    have Iy:Hid (Row W4 zb #[I qe, .slice qM 2 2,I ql, .slice qR qn qn,I st, .slice C cnt cc,I hz, .slice none 0 0]):=ae ⟨FN.out.zlt,fun i=>FN.out.cell i⟩;have kC:=ae aad;clear aad;go_wp2_with (first
     |((with_reducible refine eF 69 ?_);go_must (refine aJ rfl _ _ rfl zb rfl #[I qe, .slice qM 2 2,I ql, .slice qR qn qn,I st, .slice C cnt cc,I hz, .slice none 0 0] Iy.out _ Tryz.underlying69 rfl (by kernel_rfl) ?_))
     |((with_reducible refine dW 69 ?_);go_must (refine wpList_store_row rfl _ _ _ rfl (w.heap.size+1) #[I qe, .slice qM 2 2,I ql, .slice qR qn qn,I st, .slice C cnt cc,I hz, .slice none 0 0] rfl rfl 69 iH FN.out.res (by kernel_rfl) rfl hone ?_)))
    obtain ⟨d1,d2,d3,d4⟩:=FN.out.done #[I qe, .slice qM 2 2,I ql, .slice qR qn qn,I st, .slice C cnt cc,I hz, .slice none 0 0];refine bodyPost_ret (v:= .agg #[I qe, .slice qM 2 2,I ql, .slice qR qn qn,I st, .slice C cnt cc,I hz, .slice none 0 0]) (results_cell_row rfl _ _ (w.heap.size+1) _ #[I qe, .slice qM 2 2,I ql, .slice qR qn qn,I st, .slice C cnt cc,I hz, .slice none 0 0] (0,0) _ rfl (setRow_heap _ _ _ _ _ _ FN.out.res) Tryz.underlying69 rfl (by kernel_rfl)) rfl ?_;refine ⟨⟨qM,2,qR,qn,C,cc,none,0⟩,by rw [kC.out,HZN.out],?_,?_,d4⟩
    ·rw [kC.out];exact Aq x Zv.out Iq.out d1 d2 d3
    ·rw [kC.out];exact Du x Zv.out Iq.out (FN.out.mon.low (Nat.le_add_right _ _)) (FN.out.rul.low (Nat.le_add_right _ _)) (FN.out.trn.low (Nat.le_add_right _ _))
   |true=>
    obtain ⟨B5,Wj⟩:∃n,W4.heap.size=n:=⟨_,rfl⟩;rw [Wj] at FN;have Wn:zb<B5:=FN.out.hi;have hzw:w.heap.size+2<=zb:=FN.out.lo;clear Wj;obtain ⟨i1,hyi,ML,MM,MN⟩:=info_parts Gu;go_upto_block 2 with fail;clear x13
    go_cut [6] (fun i wx=>i= .int .i64 2/\∃D dc,wx.ownsRow B5 110 5 (.slice D 2 dc) 2 ([qi 0 x.a0 x.a1 x.a2 x.a3,qi 1 x.b0 x.b1 x.b2 x.b3].flatMap Yr.cells)/\MZ w xs zb B5 #[I qe, .slice qM 2 2,I ql, .slice qR qn qn,I st, .slice C cnt cc,I hz,(.slice D 2 dc)] qM qR C OW OX ((mF x.dS x.iI cnt).flatMap Tr.cells) wx)
    case first=>
     go_wp2_with fail
     go_loopw [6] (fun i wr=>∃(k dc:Nat) (D:Option Addr),k<=2/\i= .int .i64 k/\wr.ownsRow B5 110 5 (.slice D k dc) k (([qi 0 x.a0 x.a1 x.a2 x.a3,qi 1 x.b0 x.b1 x.b2 x.b3].take k).flatMap Yr.cells)/\MZ w xs zb B5 #[I qe, .slice qM 2 2,I ql, .slice qR qn qn,I st, .slice C cnt cc,I hz,(.slice D k dc)] qM qR C OW OX ((mF x.dS x.iI cnt).flatMap Tr.cells) wr) (fun i _=>2 - (intOf i).toNat)
     case atStart=>exact ⟨0,0,none,Nat.zero_le _,by go_num,World.ownsRow_nil _ _ _ _,FN.out⟩
     case round=>
      obtain ⟨k,dc,D,hk,rfl,hyo,hmz⟩:=hrel;have Ae:=ae hyo;have HX:=ae hmz;clear hyo hmz FN;have hk3:k=0\/k=1\/k=2:=by omega
      rcases hk3 with rfl|rfl|rfl
      ·have x4:wr.cell? ⟨w.heap.size,4,none⟩=some (.int .u8 (x.a0.toNat:Int)):=(HX.out.x.2 4).trans (by rw [<-Sz.out];rfl);have x5:wr.cell? ⟨w.heap.size,5,none⟩=some (.int .u8 (x.a1.toNat:Int)):=(HX.out.x.2 5).trans (by rw [<-Sz.out];rfl);have x6:wr.cell? ⟨w.heap.size,6,none⟩=some (.int .u8 (x.a2.toNat:Int)):=(HX.out.x.2 6).trans (by rw [<-Sz.out];rfl);have x7:wr.cell? ⟨w.heap.size,7,none⟩=some (.int .u8 (x.a3.toNat:Int)):=(HX.out.x.2 7).trans (by rw [<-Sz.out];rfl);have l0:=fA x.a0;have l1:=fA x.a1;have l2:=fA x.a2;have l3:=fA x.a3;obtain ⟨na,hna⟩:∃n,x.a0.toNat=n:=⟨_,rfl⟩;obtain ⟨nb,hnb⟩:∃n,x.a1.toNat=n:=⟨_,rfl⟩;obtain ⟨nc,hnc⟩:∃n,x.a2.toNat=n:=⟨_,rfl⟩;obtain ⟨nd,hnd⟩:∃n,x.a3.toNat=n:=⟨_,rfl⟩;rw [hna] at x4 l0;rw [hnb] at x5 l1;rw [hnc] at x6 l2;rw [hnd] at x7 l3;obtain ⟨ma,hma⟩:∃n,na%3=n:=⟨_,rfl⟩;obtain ⟨mc,hmc⟩:∃n,nc%5=n:=⟨_,rfl⟩;obtain ⟨md,hmd⟩:∃n,nd%2=n:=⟨_,rfl⟩;have t0:Int.tmod (na:Int) 3=(ma:Int):=by rw [Int.tmod_eq_emod_of_nonneg (by omega)];omega
       have t2:Int.tmod (nc:Int) 5=(mc:Int):=by rw [Int.tmod_eq_emod_of_nonneg (by omega)];omega
       have t3:Int.tmod (nd:Int) 2=(md:Int):=by rw [Int.tmod_eq_emod_of_nonneg (by omega)];omega
       have u0:(ma:Int)%256=ma:=by omega
       have u2:(mc:Int)%256=mc:=by omega
       have u3:(md:Int)%256=md:=by omega
       have hmd2:md=0\/md=1:=by omega
       have EE:=ae (fun W=>xK mc W (by omega));obtain ⟨ov,hov⟩:∃v,nU mc=v:=⟨_,rfl⟩;rw [hov] at EE;have KC:Hid (qi 0 x.a0 x.a1 x.a2 x.a3=⟨1,if md=1 then 5 else 1,(ma:Int),((nb*5:Nat):Int),ov⟩):=ae (by unfold qi;rw [hna,hnb,hnc,hnd,hma,hmc,hmd,hov];rfl);clear hna hnb hnc hnd hma hmc hmd hov;have hwl:w.heap.size<wr.heap.size:=HX.out.x.1;go_upto_region 17 with fail;have HV:Hid (MZ w xs zb B5 #[I qe, .slice qM 2 2,I ql, .slice qR qn qn,I st, .slice C cnt cc,I hz,(.slice D 0 dc)] qM qR C OW OX ((mF x.dS x.iI cnt).flatMap Tr.cells) (wr.alloc (.cells #[.int .u8 (na:Int), .int .u8 (nb:Int), .int .u8 (nc:Int), .int .u8 (nd:Int)] 82))):=ae (HX.out.grow (ag wr _));have IB:Hid (World.ownsRow (wr.alloc (.cells #[.int .u8 (na:Int), .int .u8 (nb:Int), .int .u8 (nc:Int), .int .u8 (nd:Int)] 82)) B5 110 5 (.slice D 0 dc) 0 (([]:List Yr).flatMap Yr.cells)):=ae (Ae.out.alloc _);have Xg:Hid (∀g,(Value.slice D 0 dc).ownBlock=some g->g<wr.heap.size):=ae (fun g hg=>(World.ownsRow.lt Ae.out g hg).2);have vG:=ae (Row.new wr #[.int .u8 (na:Int), .int .u8 (nb:Int), .int .u8 (nc:Int), .int .u8 (nd:Int)] 82);have hB5w:B5<=wr.heap.size:=HX.out.sz;obtain ⟨yv,hyv⟩:∃n,wr.heap.size=n:=⟨_,rfl⟩;rw [hyv] at vG hB5w Xg;rw [hyv];clear x4 x5 x6 x7 l0 l2 l3 hwl;generalize wr.alloc (.cells #[.int .u8 (na:Int), .int .u8 (nb:Int), .int .u8 (nc:Int), .int .u8 (nd:Int)] 82)=V at HV IB vG ⊢;clear hyv HX Ae;have hzv:zb<yv:=by omega
       have hyvl:yv<V.heap.size:=vG.out.1;have hw1:IntKind.i64.wrap 1=1:=by rw [IntKind.wrap_i64];omega
       have hwa:IntKind.i64.wrap (ma:Int)=ma:=by rw [IntKind.wrap_i64];omega
       have hwb:IntKind.i64.wrap (nb:Int)=nb:=by rw [IntKind.wrap_i64];omega
       have hwc:IntKind.i64.wrap ((nb:Int)*5)=(nb:Int)*5:=by rw [IntKind.wrap_i64];omega
       go_cut [107] (fun _ wx=>∃gg cap,wx.ownsRow B5 110 5 (.slice (some ⟨gg,0,none⟩) 1 cap) 1 (([]:List Yr).flatMap Yr.cells++Yr.cells ⟨1,1,(ma:Int),(nb:Int)*5,ov⟩)/\MZ w xs zb B5 #[I qe, .slice qM 2 2,I ql, .slice qR qn qn,I st, .slice C cnt cc,I hz,(.slice (some ⟨gg,0,none⟩) 1 cap)] qM qR C OW OX ((mF x.dS x.iI cnt).flatMap Tr.cells) wx/\Row wx yv #[.int .u8 (na:Int), .int .u8 (nb:Int), .int .u8 (nc:Int), .int .u8 (nd:Int)])
       case first=>
        have hS0:(xg yv (.int .u8 (na:Int)) (.int .u8 (nb:Int)) (.int .u8 (nc:Int)) (.int .u8 (nd:Int))) V.drew:=xg.of ⟨vG.out.1,vG.out.2⟩;refine wp_region_held_drew (S:=(xg yv (.int .u8 (na:Int)) (.int .u8 (nb:Int)) (.int .u8 (nc:Int)) (.int .u8 (nd:Int)))) (by kernel_rfl) hS0 (fun _=>?_);refine aN 0 (.pointer (some ⟨zb,7,none⟩)) 89 hS0 (fun w' hSw=>?_) ?_
        ·obtain ⟨s0,s1,s2,s3⟩:=hSw;go_simp
        refine az ?_;refine aN 2 (.int .i64 0) 91 hS0 (fun w' hSw=>?_) ?_
        ·obtain ⟨s0,s1,s2,s3⟩:=hSw;go_simp
        refine az ?_;refine aN 3 (.int .i64 1) 92 hS0 (fun w' hSw=>?_) ?_
        ·obtain ⟨s0,s1,s2,s3⟩:=hSw;go_simp
        refine az ?_;refine aN 4 (.pointer (some ⟨yv,0,none⟩)) 93 hS0 (fun w' hSw=>?_) ?_
        ·obtain ⟨s0,s1,s2,s3⟩:=hSw;go_simp
        refine az ?_;refine aN 5 (.int .u8 (na:Int)) 94 hS0 (fun w' hSw=>?_) ?_
        ·obtain ⟨s0,s1,s2,s3⟩:=hSw;go_simp
        refine az ?_;refine aN 6 (.int .u8 (ma:Int)) 95 hS0 (fun w' hSw=>?_) ?_
        ·obtain ⟨s0,s1,s2,s3⟩:=hSw;go_simp
        refine az ?_;refine aN 7 (.int .i64 (ma:Int)) 96 hS0 (fun w' hSw=>?_) ?_
        ·obtain ⟨s0,s1,s2,s3⟩:=hSw;go_simp
        refine az ?_;refine aN 8 (.pointer (some ⟨yv,1,none⟩)) 97 hS0 (fun w' hSw=>?_) ?_
        ·obtain ⟨s0,s1,s2,s3⟩:=hSw;go_simp
        refine az ?_;refine aN 9 (.int .u8 (nb:Int)) 98 hS0 (fun w' hSw=>?_) ?_
        ·obtain ⟨s0,s1,s2,s3⟩:=hSw;go_simp
        refine az ?_;refine aN 10 (.int .i64 (nb:Int)) 99 hS0 (fun w' hSw=>?_) ?_
        ·obtain ⟨s0,s1,s2,s3⟩:=hSw;go_simp
        refine az ?_;refine aN 11 (.int .i64 ((nb:Int)*5)) 100 hS0 (fun w' hSw=>?_) ?_
        ·obtain ⟨s0,s1,s2,s3⟩:=hSw;go_simp
        refine az ?_;refine aN 12 (.pointer (some ⟨yv,2,none⟩)) 101 hS0 (fun w' hSw=>?_) ?_
        ·obtain ⟨s0,s1,s2,s3⟩:=hSw;go_simp
        refine az ?_;refine aN 13 (.int .u8 (nc:Int)) 102 hS0 (fun w' hSw=>?_) ?_
        ·obtain ⟨s0,s1,s2,s3⟩:=hSw;go_simp
        refine az ?_;refine aN 14 (.int .u8 (mc:Int)) 103 hS0 (fun w' hSw=>?_) ?_
        ·obtain ⟨s0,s1,s2,s3⟩:=hSw;go_simp
        refine az ?_;refine kW 1 15 (fun K hK=>?_) (fun K hK=>?_)
        ·have z7:V.drew.cell? ⟨zb,7,none⟩=some (.slice D 0 dc):=HV.out.drew.cell 7;go_simp;refine hK.out _ _ hS0 (fun hS1=>?_);clear hK K z7;refine az ?_;refine aY 15 (fun K hK=>?_);go_simp;refine (EE.out _).mono ?_;rintro e w5 ⟨rfl,hb5⟩;have yu:=ae (HV.out.drew.grow hb5);have sQ:Hid (w5.ownsRow B5 110 5 (.slice D 0 dc) 0 (([]:List Yr).flatMap Yr.cells)):=ae (own_below (show World.ownsRow V.drew _ _ _ _ _ _ from IB.out) hb5);have sV:Hid (Row w5 yv #[.int .u8 (na:Int), .int .u8 (nb:Int), .int .u8 (nc:Int), .int .u8 (nd:Int)]):=ae ((show Row V.drew yv _ from ⟨vG.out.1,vG.out.2⟩).keep hb5);have hsz5:B5<=w5.heap.size:=yu.out.sz;clear hb5;refine hK.out _ _ (xg.of sV.out) (fun hS5=>?_);clear hK K;refine az ?_;refine aN 16 (.agg #[I 1,I 1,I (ma:Int),I ((nb:Int)*5),I ov]) 105 hS5 (fun w' hSw=>?_) ?_
         ·obtain ⟨s0,s1,s2,s3⟩:=hSw;go_simp
         refine az ?_;refine aY 17 (fun K hK=>?_);go_simp;have Hz:=ae (sV.out.keep (ag w5 (.cells #[I 1,I 1,I (ma:Int),I ((nb:Int)*5),I ov] 110)));refine hK.out _ _ (xg.of Hz.out) (fun hSB=>?_);clear hK K;refine az ?_;refine aY 18 (fun K hK=>?_);refine step_append_lies _ (by rfl) _ _ _ (by rfl) B5 110 i1 (.agg #[I 0,I 0,I 0,I 0,I 0]) 5 40 Tryz.underlying67 hyi ML MM MN rfl (by omega) (.slice D 0 dc) 0 (([]:List Yr).flatMap Yr.cells) (by rfl) (sQ.out.alloc _) ⟨w5.heap.size,0,none⟩ 1 1 (Yr.cells ⟨1,1,(ma:Int),(nb:Int)*5,ov⟩) (by rfl) rfl (dB _ _ _ _ rfl) (wY ⟨1,1,(ma:Int),(nb:Int)*5,ov⟩) (by omega) (by unfold maxLen;omega) (by omega) (by simp;omega) _ rfl ?_;intro gg cap w6 hown6 hgrow6 _ _;have qL:=ae ((yu.out.grow (ag w5 (.cells #[I 1,I 1,I (ma:Int),I ((nb:Int)*5),I ov] 110))).grown hgrow6 (own_base sQ.out));have yj:=ae ((sV.out.keep (ag w5 (.cells #[I 1,I 1,I (ma:Int),I ((nb:Int)*5),I ov] 110))).grown hgrow6 (uw Xg.out));have zU:=ae hown6;clear hown6 hgrow6;refine hK.out _ _ (xg.of yj.out) (fun hS6=>?_);clear hK K;try simp only [Act.put,List.setIfInBounds_toArray]
         refine aN 19 (.pointer (some ⟨zb,7,none⟩)) 108 hS6 (fun w' hSw=>?_) ?_
         ·obtain ⟨s0,s1,s2,s3⟩:=hSw;go_simp
         try simp only [Act.put]
         refine aY 20 (fun K hK=>?_);have D8:w6.cell? ⟨zb,7,none⟩=some (.slice D 0 dc):=qL.out.cell 7;have f66:w6.frozen? ⟨zb,7,none⟩=false:=qL.out.fZ 7;go_simp;have jm:=ae (qL.out.store 7 (.slice (some ⟨gg,0,none⟩) 1 cap));have Iw:Hid (Row (w6.setCell ⟨zb,7,none⟩ (.slice (some ⟨gg,0,none⟩) 1 cap)) yv #[.int .u8 (na:Int), .int .u8 (nb:Int), .int .u8 (nc:Int), .int .u8 (nd:Int)]):=ae ⟨by simpa using yj.out.1,fun i=>(World.cell?_setCell_other _ _ _ _ (by first|(simp;done)|(simp;omega))).trans (yj.out.2 i)⟩;refine hK.out _ _ (xg.of Iw.out) (fun _=>?_);clear hK K;refine wpAnyH_done (by kernel_rfl) ?_ _;go_wp2_with fail;go_meet;exact ⟨gg,cap,ownsRow_setCell_below (a:=⟨zb,7,none⟩) zU.out Wn _,jm.out,Iw.out⟩
        ·go_simp;refine (EE.out _).mono ?_;rintro e w5 ⟨rfl,hb5⟩;have yu:=ae (HV.out.drew.grow hb5);have sQ:Hid (w5.ownsRow B5 110 5 (.slice D 0 dc) 0 (([]:List Yr).flatMap Yr.cells)):=ae (own_below (show World.ownsRow V.drew _ _ _ _ _ _ from IB.out) hb5);have sV:Hid (Row w5 yv #[.int .u8 (na:Int), .int .u8 (nb:Int), .int .u8 (nc:Int), .int .u8 (nd:Int)]):=ae ((show Row V.drew yv _ from ⟨vG.out.1,vG.out.2⟩).keep hb5);have hsz5:B5<=w5.heap.size:=yu.out.sz;clear hb5;refine hK.out _ _ (xg.of sV.out) (fun hS5=>?_);clear hK K;refine az ?_;refine aN 16 (.agg #[I 1,I 1,I (ma:Int),I ((nb:Int)*5),I ov]) 105 hS5 (fun w' hSw=>?_) ?_
         ·obtain ⟨s0,s1,s2,s3⟩:=hSw;go_simp
         refine az ?_;refine kW 1 17 (fun K hK=>?_) (fun K hK=>?_)
         ·have z7:w5.cell? ⟨zb,7,none⟩=some (.slice D 0 dc):=yu.out.cell 7;go_simp;refine hK.out _ _ hS5 (fun hS1=>?_);clear hK K z7;refine az ?_;refine aY 17 (fun K hK=>?_);go_simp;have Hz:=ae (sV.out.keep (ag w5 (.cells #[I 1,I 1,I (ma:Int),I ((nb:Int)*5),I ov] 110)));refine hK.out _ _ (xg.of Hz.out) (fun hSB=>?_);clear hK K;refine az ?_;refine aY 18 (fun K hK=>?_);refine step_append_lies _ (by rfl) _ _ _ (by rfl) B5 110 i1 (.agg #[I 0,I 0,I 0,I 0,I 0]) 5 40 Tryz.underlying67 hyi ML MM MN rfl (by omega) (.slice D 0 dc) 0 (([]:List Yr).flatMap Yr.cells) (by rfl) (sQ.out.alloc _) ⟨w5.heap.size,0,none⟩ 1 1 (Yr.cells ⟨1,1,(ma:Int),(nb:Int)*5,ov⟩) (by rfl) rfl (dB _ _ _ _ rfl) (wY ⟨1,1,(ma:Int),(nb:Int)*5,ov⟩) (by omega) (by unfold maxLen;omega) (by omega) (by simp;omega) _ rfl ?_;intro gg cap w6 hown6 hgrow6 _ _;have qL:=ae ((yu.out.grow (ag w5 (.cells #[I 1,I 1,I (ma:Int),I ((nb:Int)*5),I ov] 110))).grown hgrow6 (own_base sQ.out));have yj:=ae ((sV.out.keep (ag w5 (.cells #[I 1,I 1,I (ma:Int),I ((nb:Int)*5),I ov] 110))).grown hgrow6 (uw Xg.out));have zU:=ae hown6;clear hown6 hgrow6;refine hK.out _ _ (xg.of yj.out) (fun hS6=>?_);clear hK K;try simp only [Act.put,List.setIfInBounds_toArray]
          refine aN 19 (.pointer (some ⟨zb,7,none⟩)) 108 hS6 (fun w' hSw=>?_) ?_
          ·obtain ⟨s0,s1,s2,s3⟩:=hSw;go_simp
          try simp only [Act.put]
          refine aY 20 (fun K hK=>?_);have D8:w6.cell? ⟨zb,7,none⟩=some (.slice D 0 dc):=qL.out.cell 7;have f66:w6.frozen? ⟨zb,7,none⟩=false:=qL.out.fZ 7;go_simp;have jm:=ae (qL.out.store 7 (.slice (some ⟨gg,0,none⟩) 1 cap));have Iw:Hid (Row (w6.setCell ⟨zb,7,none⟩ (.slice (some ⟨gg,0,none⟩) 1 cap)) yv #[.int .u8 (na:Int), .int .u8 (nb:Int), .int .u8 (nc:Int), .int .u8 (nd:Int)]):=ae ⟨by simpa using yj.out.1,fun i=>(World.cell?_setCell_other _ _ _ _ (by first|(simp;done)|(simp;omega))).trans (yj.out.2 i)⟩;refine hK.out _ _ (xg.of Iw.out) (fun _=>?_);clear hK K;refine wpAnyH_done (by kernel_rfl) ?_ _;go_wp2_with fail;go_meet;exact ⟨gg,cap,ownsRow_setCell_below (a:=⟨zb,7,none⟩) zU.out Wn _,jm.out,Iw.out⟩
         ·go_simp;have Hz:=ae (sV.out.keep (ag w5 (.cells #[I 1,I 1,I (ma:Int),I ((nb:Int)*5),I ov] 110)));refine hK.out _ _ (xg.of Hz.out) (fun hSB=>?_);clear hK K;refine az ?_;refine aY 1 (fun K hK=>?_);have HXB:=ae (yu.out.grow (ag w5 (.cells #[I 1,I 1,I (ma:Int),I ((nb:Int)*5),I ov] 110)));have z7:(w5.alloc (.cells #[I 1,I 1,I (ma:Int),I ((nb:Int)*5),I ov] 110)).cell? ⟨zb,7,none⟩=some (.slice D 0 dc):=HXB.out.cell 7;go_simp;refine hK.out _ _ hSB (fun hS1=>?_);clear hK K z7;refine az ?_;refine aY 18 (fun K hK=>?_);refine step_append_lies _ (by rfl) _ _ _ (by rfl) B5 110 i1 (.agg #[I 0,I 0,I 0,I 0,I 0]) 5 40 Tryz.underlying67 hyi ML MM MN rfl (by omega) (.slice D 0 dc) 0 (([]:List Yr).flatMap Yr.cells) (by rfl) (sQ.out.alloc _) ⟨w5.heap.size,0,none⟩ 1 1 (Yr.cells ⟨1,1,(ma:Int),(nb:Int)*5,ov⟩) (by rfl) rfl (dB _ _ _ _ rfl) (wY ⟨1,1,(ma:Int),(nb:Int)*5,ov⟩) (by omega) (by unfold maxLen;omega) (by omega) (by simp;omega) _ rfl ?_;intro gg cap w6 hown6 hgrow6 _ _;have qL:=ae ((yu.out.grow (ag w5 (.cells #[I 1,I 1,I (ma:Int),I ((nb:Int)*5),I ov] 110))).grown hgrow6 (own_base sQ.out));have yj:=ae ((sV.out.keep (ag w5 (.cells #[I 1,I 1,I (ma:Int),I ((nb:Int)*5),I ov] 110))).grown hgrow6 (uw Xg.out));have zU:=ae hown6;clear hown6 hgrow6;refine hK.out _ _ (xg.of yj.out) (fun hS6=>?_);clear hK K;try simp only [Act.put,List.setIfInBounds_toArray]
          refine aN 19 (.pointer (some ⟨zb,7,none⟩)) 108 hS6 (fun w' hSw=>?_) ?_
          ·obtain ⟨s0,s1,s2,s3⟩:=hSw;go_simp
          try simp only [Act.put]
          refine aY 20 (fun K hK=>?_);have D8:w6.cell? ⟨zb,7,none⟩=some (.slice D 0 dc):=qL.out.cell 7;have f66:w6.frozen? ⟨zb,7,none⟩=false:=qL.out.fZ 7;go_simp;have jm:=ae (qL.out.store 7 (.slice (some ⟨gg,0,none⟩) 1 cap));have Iw:Hid (Row (w6.setCell ⟨zb,7,none⟩ (.slice (some ⟨gg,0,none⟩) 1 cap)) yv #[.int .u8 (na:Int), .int .u8 (nb:Int), .int .u8 (nc:Int), .int .u8 (nd:Int)]):=ae ⟨by simpa using yj.out.1,fun i=>(World.cell?_setCell_other _ _ _ _ (by first|(simp;done)|(simp;omega))).trans (yj.out.2 i)⟩;refine hK.out _ _ (xg.of Iw.out) (fun _=>?_);clear hK K;refine wpAnyH_done (by kernel_rfl) ?_ _;go_wp2_with fail;go_meet;exact ⟨gg,cap,ownsRow_setCell_below (a:=⟨zb,7,none⟩) zU.out Wn _,jm.out,Iw.out⟩
       case rest=>
        obtain ⟨gg,cap,hown,hmz,zi⟩:=hcut;have VZ:=ae hown;have HM7:=ae hmz;have hgl:gg<wc.heap.size:=(World.ownsRow.lt hown gg rfl).2;have hgB:B5<=gg:=(World.ownsRow.lt hown gg rfl).1;have y3:wc.cell? ⟨yv,3,none⟩=some (.int .u8 (nd:Int)):=zi.2 3;have z7:wc.cell? ⟨zb,7,none⟩=some (.slice (some ⟨gg,0,none⟩) 1 cap):=hmz.cell 7;have q1:wc.cell? ⟨gg,1,none⟩=some (I 1):=(hown.cellAt 1 (by omega)).trans rfl;have qf:∀j,wc.frozen? ⟨gg,j,none⟩=false:=fun j=>hown.frozenAt j;clear hown hmz zi;rcases hmd2 with rfl|rfl
        ·go_wp2_with fail;go_roundw
         case rel=>
          have hy:=KC.out;rw [if_neg (by omega)] at hy;refine ⟨1,cap,some ⟨gg,0,none⟩,by omega,by go_num,?_,HM7.out⟩;have h:=VZ.out;have e:([qi 0 x.a0 x.a1 x.a2 x.a3,qi 1 x.b0 x.b1 x.b2 x.b3].take 1).flatMap Yr.cells=([]:List Yr).flatMap Yr.cells++Yr.cells ⟨1,1,(ma:Int),(nb:Int)*5,ov⟩:=by
           show [qi 0 x.a0 x.a1 x.a2 x.a3].flatMap Yr.cells=_;rw [hy];simp [Yr.cells]
          rw [e];exact h
         case measure=>simp [intOf]
        ·go_wp2_with fail;go_roundw
         case rel=>
          have hy:=KC.out;rw [if_pos rfl] at hy;refine ⟨1,cap,some ⟨gg,0,none⟩,by omega,by go_num,?_,HM7.out.grown (VZ.out.stored 1 (I 5)).2 (fun g hg=>by injection hg with hg;omega)⟩;have h:=(VZ.out.stored 1 (I 5)).1;have e:([qi 0 x.a0 x.a1 x.a2 x.a3,qi 1 x.b0 x.b1 x.b2 x.b3].take 1).flatMap Yr.cells=(([]:List Yr).flatMap Yr.cells++Yr.cells ⟨1,1,(ma:Int),(nb:Int)*5,ov⟩).set 1 (I 5):=by
           show [qi 0 x.a0 x.a1 x.a2 x.a3].flatMap Yr.cells=_;rw [hy];simp [Yr.cells]
          rw [e];exact h
         case measure=>simp [intOf]
      ·have x4:wr.cell? ⟨w.heap.size,8,none⟩=some (.int .u8 (x.b0.toNat:Int)):=(HX.out.x.2 8).trans (by rw [<-Sz.out];rfl);have x5:wr.cell? ⟨w.heap.size,9,none⟩=some (.int .u8 (x.b1.toNat:Int)):=(HX.out.x.2 9).trans (by rw [<-Sz.out];rfl);have x6:wr.cell? ⟨w.heap.size,10,none⟩=some (.int .u8 (x.b2.toNat:Int)):=(HX.out.x.2 10).trans (by rw [<-Sz.out];rfl);have x7:wr.cell? ⟨w.heap.size,11,none⟩=some (.int .u8 (x.b3.toNat:Int)):=(HX.out.x.2 11).trans (by rw [<-Sz.out];rfl);have l0:=fA x.b0;have l1:=fA x.b1;have l2:=fA x.b2;have l3:=fA x.b3;obtain ⟨na,hna⟩:∃n,x.b0.toNat=n:=⟨_,rfl⟩;obtain ⟨nb,hnb⟩:∃n,x.b1.toNat=n:=⟨_,rfl⟩;obtain ⟨nc,hnc⟩:∃n,x.b2.toNat=n:=⟨_,rfl⟩;obtain ⟨nd,hnd⟩:∃n,x.b3.toNat=n:=⟨_,rfl⟩;rw [hna] at x4 l0;rw [hnb] at x5 l1;rw [hnc] at x6 l2;rw [hnd] at x7 l3;obtain ⟨ma,hma⟩:∃n,na%3=n:=⟨_,rfl⟩;obtain ⟨mc,hmc⟩:∃n,nc%5=n:=⟨_,rfl⟩;obtain ⟨md,hmd⟩:∃n,nd%2=n:=⟨_,rfl⟩;have t0:Int.tmod (na:Int) 3=(ma:Int):=by rw [Int.tmod_eq_emod_of_nonneg (by omega)];omega
       have t2:Int.tmod (nc:Int) 5=(mc:Int):=by rw [Int.tmod_eq_emod_of_nonneg (by omega)];omega
       have t3:Int.tmod (nd:Int) 2=(md:Int):=by rw [Int.tmod_eq_emod_of_nonneg (by omega)];omega
       have u0:(ma:Int)%256=ma:=by omega
       have u2:(mc:Int)%256=mc:=by omega
       have u3:(md:Int)%256=md:=by omega
       have hmd2:md=0\/md=1:=by omega
       have EE:=ae (fun W=>xK mc W (by omega));obtain ⟨ov,hov⟩:∃v,nU mc=v:=⟨_,rfl⟩;rw [hov] at EE;have KC:Hid (qi 1 x.b0 x.b1 x.b2 x.b3=⟨2,if md=1 then 5 else 1,(ma:Int),((nb*5:Nat):Int),ov⟩):=ae (by unfold qi;rw [hna,hnb,hnc,hnd,hma,hmc,hmd,hov];rfl);clear hna hnb hnc hnd hma hmc hmd hov;have hwl:w.heap.size<wr.heap.size:=HX.out.x.1;go_upto_region 17 with fail;have HV:Hid (MZ w xs zb B5 #[I qe, .slice qM 2 2,I ql, .slice qR qn qn,I st, .slice C cnt cc,I hz,(.slice D 1 dc)] qM qR C OW OX ((mF x.dS x.iI cnt).flatMap Tr.cells) (wr.alloc (.cells #[.int .u8 (na:Int), .int .u8 (nb:Int), .int .u8 (nc:Int), .int .u8 (nd:Int)] 82))):=ae (HX.out.grow (ag wr _));have IB:Hid (World.ownsRow (wr.alloc (.cells #[.int .u8 (na:Int), .int .u8 (nb:Int), .int .u8 (nc:Int), .int .u8 (nd:Int)] 82)) B5 110 5 (.slice D 1 dc) 1 ([qi 0 x.a0 x.a1 x.a2 x.a3].flatMap Yr.cells)):=ae (Ae.out.alloc _);have Xg:Hid (∀g,(Value.slice D 1 dc).ownBlock=some g->g<wr.heap.size):=ae (fun g hg=>(World.ownsRow.lt Ae.out g hg).2);have vG:=ae (Row.new wr #[.int .u8 (na:Int), .int .u8 (nb:Int), .int .u8 (nc:Int), .int .u8 (nd:Int)] 82);have hB5w:B5<=wr.heap.size:=HX.out.sz;obtain ⟨yv,hyv⟩:∃n,wr.heap.size=n:=⟨_,rfl⟩;rw [hyv] at vG hB5w Xg;rw [hyv];clear x4 x5 x6 x7 l0 l2 l3 hwl;generalize wr.alloc (.cells #[.int .u8 (na:Int), .int .u8 (nb:Int), .int .u8 (nc:Int), .int .u8 (nd:Int)] 82)=V at HV IB vG ⊢;clear hyv HX Ae;have hzv:zb<yv:=by omega
       have hyvl:yv<V.heap.size:=vG.out.1;have hw1:IntKind.i64.wrap 2=2:=by rw [IntKind.wrap_i64];omega
       have hwa:IntKind.i64.wrap (ma:Int)=ma:=by rw [IntKind.wrap_i64];omega
       have hwb:IntKind.i64.wrap (nb:Int)=nb:=by rw [IntKind.wrap_i64];omega
       have hwc:IntKind.i64.wrap ((nb:Int)*5)=(nb:Int)*5:=by rw [IntKind.wrap_i64];omega
       go_cut [107] (fun _ wx=>∃gg cap,wx.ownsRow B5 110 5 (.slice (some ⟨gg,0,none⟩) 2 cap) 2 ([qi 0 x.a0 x.a1 x.a2 x.a3].flatMap Yr.cells++Yr.cells ⟨2,1,(ma:Int),(nb:Int)*5,ov⟩)/\MZ w xs zb B5 #[I qe, .slice qM 2 2,I ql, .slice qR qn qn,I st, .slice C cnt cc,I hz,(.slice (some ⟨gg,0,none⟩) 2 cap)] qM qR C OW OX ((mF x.dS x.iI cnt).flatMap Tr.cells) wx/\Row wx yv #[.int .u8 (na:Int), .int .u8 (nb:Int), .int .u8 (nc:Int), .int .u8 (nd:Int)])
       case first=>
        have hS0:(xg yv (.int .u8 (na:Int)) (.int .u8 (nb:Int)) (.int .u8 (nc:Int)) (.int .u8 (nd:Int))) V.drew:=xg.of ⟨vG.out.1,vG.out.2⟩;refine wp_region_held_drew (S:=(xg yv (.int .u8 (na:Int)) (.int .u8 (nb:Int)) (.int .u8 (nc:Int)) (.int .u8 (nd:Int)))) (by kernel_rfl) hS0 (fun _=>?_);refine aN 0 (.pointer (some ⟨zb,7,none⟩)) 89 hS0 (fun w' hSw=>?_) ?_
        ·obtain ⟨s0,s1,s2,s3⟩:=hSw;go_simp
        refine az ?_;refine aN 2 (.int .i64 1) 91 hS0 (fun w' hSw=>?_) ?_
        ·obtain ⟨s0,s1,s2,s3⟩:=hSw;go_simp
        refine az ?_;refine aN 3 (.int .i64 2) 92 hS0 (fun w' hSw=>?_) ?_
        ·obtain ⟨s0,s1,s2,s3⟩:=hSw;go_simp
        refine az ?_;refine aN 4 (.pointer (some ⟨yv,0,none⟩)) 93 hS0 (fun w' hSw=>?_) ?_
        ·obtain ⟨s0,s1,s2,s3⟩:=hSw;go_simp
        refine az ?_;refine aN 5 (.int .u8 (na:Int)) 94 hS0 (fun w' hSw=>?_) ?_
        ·obtain ⟨s0,s1,s2,s3⟩:=hSw;go_simp
        refine az ?_;refine aN 6 (.int .u8 (ma:Int)) 95 hS0 (fun w' hSw=>?_) ?_
        ·obtain ⟨s0,s1,s2,s3⟩:=hSw;go_simp
        refine az ?_;refine aN 7 (.int .i64 (ma:Int)) 96 hS0 (fun w' hSw=>?_) ?_
        ·obtain ⟨s0,s1,s2,s3⟩:=hSw;go_simp
        refine az ?_;refine aN 8 (.pointer (some ⟨yv,1,none⟩)) 97 hS0 (fun w' hSw=>?_) ?_
        ·obtain ⟨s0,s1,s2,s3⟩:=hSw;go_simp
        refine az ?_;refine aN 9 (.int .u8 (nb:Int)) 98 hS0 (fun w' hSw=>?_) ?_
        ·obtain ⟨s0,s1,s2,s3⟩:=hSw;go_simp
        refine az ?_;refine aN 10 (.int .i64 (nb:Int)) 99 hS0 (fun w' hSw=>?_) ?_
        ·obtain ⟨s0,s1,s2,s3⟩:=hSw;go_simp
        refine az ?_;refine aN 11 (.int .i64 ((nb:Int)*5)) 100 hS0 (fun w' hSw=>?_) ?_
        ·obtain ⟨s0,s1,s2,s3⟩:=hSw;go_simp
        refine az ?_;refine aN 12 (.pointer (some ⟨yv,2,none⟩)) 101 hS0 (fun w' hSw=>?_) ?_
        ·obtain ⟨s0,s1,s2,s3⟩:=hSw;go_simp
        refine az ?_;refine aN 13 (.int .u8 (nc:Int)) 102 hS0 (fun w' hSw=>?_) ?_
        ·obtain ⟨s0,s1,s2,s3⟩:=hSw;go_simp
        refine az ?_;refine aN 14 (.int .u8 (mc:Int)) 103 hS0 (fun w' hSw=>?_) ?_
        ·obtain ⟨s0,s1,s2,s3⟩:=hSw;go_simp
        refine az ?_;refine kW 1 15 (fun K hK=>?_) (fun K hK=>?_)
        ·have z7:V.drew.cell? ⟨zb,7,none⟩=some (.slice D 1 dc):=HV.out.drew.cell 7;go_simp;refine hK.out _ _ hS0 (fun hS1=>?_);clear hK K z7;refine az ?_;refine aY 15 (fun K hK=>?_);go_simp;refine (EE.out _).mono ?_;rintro e w5 ⟨rfl,hb5⟩;have yu:=ae (HV.out.drew.grow hb5);have sQ:Hid (w5.ownsRow B5 110 5 (.slice D 1 dc) 1 ([qi 0 x.a0 x.a1 x.a2 x.a3].flatMap Yr.cells)):=ae (own_below (show World.ownsRow V.drew _ _ _ _ _ _ from IB.out) hb5);have sV:Hid (Row w5 yv #[.int .u8 (na:Int), .int .u8 (nb:Int), .int .u8 (nc:Int), .int .u8 (nd:Int)]):=ae ((show Row V.drew yv _ from ⟨vG.out.1,vG.out.2⟩).keep hb5);have hsz5:B5<=w5.heap.size:=yu.out.sz;clear hb5;refine hK.out _ _ (xg.of sV.out) (fun hS5=>?_);clear hK K;refine az ?_;refine aN 16 (.agg #[I 2,I 1,I (ma:Int),I ((nb:Int)*5),I ov]) 105 hS5 (fun w' hSw=>?_) ?_
         ·obtain ⟨s0,s1,s2,s3⟩:=hSw;go_simp
         refine az ?_;refine aY 17 (fun K hK=>?_);go_simp;have Hz:=ae (sV.out.keep (ag w5 (.cells #[I 2,I 1,I (ma:Int),I ((nb:Int)*5),I ov] 110)));refine hK.out _ _ (xg.of Hz.out) (fun hSB=>?_);clear hK K;refine az ?_;refine aY 18 (fun K hK=>?_);refine step_append_lies _ (by rfl) _ _ _ (by rfl) B5 110 i1 (.agg #[I 0,I 0,I 0,I 0,I 0]) 5 40 Tryz.underlying67 hyi ML MM MN rfl (by omega) (.slice D 1 dc) 1 ([qi 0 x.a0 x.a1 x.a2 x.a3].flatMap Yr.cells) (by rfl) (sQ.out.alloc _) ⟨w5.heap.size,0,none⟩ 1 1 (Yr.cells ⟨2,1,(ma:Int),(nb:Int)*5,ov⟩) (by rfl) rfl (dB _ _ _ _ rfl) (wY ⟨2,1,(ma:Int),(nb:Int)*5,ov⟩) (by omega) (by unfold maxLen;omega) (by omega) (by simp;omega) _ rfl ?_;intro gg cap w6 hown6 hgrow6 _ _;have qL:=ae ((yu.out.grow (ag w5 (.cells #[I 2,I 1,I (ma:Int),I ((nb:Int)*5),I ov] 110))).grown hgrow6 (own_base sQ.out));have yj:=ae ((sV.out.keep (ag w5 (.cells #[I 2,I 1,I (ma:Int),I ((nb:Int)*5),I ov] 110))).grown hgrow6 (uw Xg.out));have zU:=ae hown6;clear hown6 hgrow6;refine hK.out _ _ (xg.of yj.out) (fun hS6=>?_);clear hK K;try simp only [Act.put,List.setIfInBounds_toArray]
         refine aN 19 (.pointer (some ⟨zb,7,none⟩)) 108 hS6 (fun w' hSw=>?_) ?_
         ·obtain ⟨s0,s1,s2,s3⟩:=hSw;go_simp
         try simp only [Act.put]
         refine aY 20 (fun K hK=>?_);have D8:w6.cell? ⟨zb,7,none⟩=some (.slice D 1 dc):=qL.out.cell 7;have f66:w6.frozen? ⟨zb,7,none⟩=false:=qL.out.fZ 7;go_simp;have jm:=ae (qL.out.store 7 (.slice (some ⟨gg,0,none⟩) 2 cap));have Iw:Hid (Row (w6.setCell ⟨zb,7,none⟩ (.slice (some ⟨gg,0,none⟩) 2 cap)) yv #[.int .u8 (na:Int), .int .u8 (nb:Int), .int .u8 (nc:Int), .int .u8 (nd:Int)]):=ae ⟨by simpa using yj.out.1,fun i=>(World.cell?_setCell_other _ _ _ _ (by first|(simp;done)|(simp;omega))).trans (yj.out.2 i)⟩;refine hK.out _ _ (xg.of Iw.out) (fun _=>?_);clear hK K;refine wpAnyH_done (by kernel_rfl) ?_ _;go_wp2_with fail;go_meet;exact ⟨gg,cap,ownsRow_setCell_below (a:=⟨zb,7,none⟩) zU.out Wn _,jm.out,Iw.out⟩
        ·go_simp;refine (EE.out _).mono ?_;rintro e w5 ⟨rfl,hb5⟩;have yu:=ae (HV.out.drew.grow hb5);have sQ:Hid (w5.ownsRow B5 110 5 (.slice D 1 dc) 1 ([qi 0 x.a0 x.a1 x.a2 x.a3].flatMap Yr.cells)):=ae (own_below (show World.ownsRow V.drew _ _ _ _ _ _ from IB.out) hb5);have sV:Hid (Row w5 yv #[.int .u8 (na:Int), .int .u8 (nb:Int), .int .u8 (nc:Int), .int .u8 (nd:Int)]):=ae ((show Row V.drew yv _ from ⟨vG.out.1,vG.out.2⟩).keep hb5);have hsz5:B5<=w5.heap.size:=yu.out.sz;clear hb5;refine hK.out _ _ (xg.of sV.out) (fun hS5=>?_);clear hK K;refine az ?_;refine aN 16 (.agg #[I 2,I 1,I (ma:Int),I ((nb:Int)*5),I ov]) 105 hS5 (fun w' hSw=>?_) ?_
         ·obtain ⟨s0,s1,s2,s3⟩:=hSw;go_simp
         refine az ?_;refine kW 1 17 (fun K hK=>?_) (fun K hK=>?_)
         ·have z7:w5.cell? ⟨zb,7,none⟩=some (.slice D 1 dc):=yu.out.cell 7;go_simp;refine hK.out _ _ hS5 (fun hS1=>?_);clear hK K z7;refine az ?_;refine aY 17 (fun K hK=>?_);go_simp;have Hz:=ae (sV.out.keep (ag w5 (.cells #[I 2,I 1,I (ma:Int),I ((nb:Int)*5),I ov] 110)));refine hK.out _ _ (xg.of Hz.out) (fun hSB=>?_);clear hK K;refine az ?_;refine aY 18 (fun K hK=>?_);refine step_append_lies _ (by rfl) _ _ _ (by rfl) B5 110 i1 (.agg #[I 0,I 0,I 0,I 0,I 0]) 5 40 Tryz.underlying67 hyi ML MM MN rfl (by omega) (.slice D 1 dc) 1 ([qi 0 x.a0 x.a1 x.a2 x.a3].flatMap Yr.cells) (by rfl) (sQ.out.alloc _) ⟨w5.heap.size,0,none⟩ 1 1 (Yr.cells ⟨2,1,(ma:Int),(nb:Int)*5,ov⟩) (by rfl) rfl (dB _ _ _ _ rfl) (wY ⟨2,1,(ma:Int),(nb:Int)*5,ov⟩) (by omega) (by unfold maxLen;omega) (by omega) (by simp;omega) _ rfl ?_;intro gg cap w6 hown6 hgrow6 _ _;have qL:=ae ((yu.out.grow (ag w5 (.cells #[I 2,I 1,I (ma:Int),I ((nb:Int)*5),I ov] 110))).grown hgrow6 (own_base sQ.out));have yj:=ae ((sV.out.keep (ag w5 (.cells #[I 2,I 1,I (ma:Int),I ((nb:Int)*5),I ov] 110))).grown hgrow6 (uw Xg.out));have zU:=ae hown6;clear hown6 hgrow6;refine hK.out _ _ (xg.of yj.out) (fun hS6=>?_);clear hK K;try simp only [Act.put,List.setIfInBounds_toArray]
          refine aN 19 (.pointer (some ⟨zb,7,none⟩)) 108 hS6 (fun w' hSw=>?_) ?_
          ·obtain ⟨s0,s1,s2,s3⟩:=hSw;go_simp
          try simp only [Act.put]
          refine aY 20 (fun K hK=>?_);have D8:w6.cell? ⟨zb,7,none⟩=some (.slice D 1 dc):=qL.out.cell 7;have f66:w6.frozen? ⟨zb,7,none⟩=false:=qL.out.fZ 7;go_simp;have jm:=ae (qL.out.store 7 (.slice (some ⟨gg,0,none⟩) 2 cap));have Iw:Hid (Row (w6.setCell ⟨zb,7,none⟩ (.slice (some ⟨gg,0,none⟩) 2 cap)) yv #[.int .u8 (na:Int), .int .u8 (nb:Int), .int .u8 (nc:Int), .int .u8 (nd:Int)]):=ae ⟨by simpa using yj.out.1,fun i=>(World.cell?_setCell_other _ _ _ _ (by first|(simp;done)|(simp;omega))).trans (yj.out.2 i)⟩;refine hK.out _ _ (xg.of Iw.out) (fun _=>?_);clear hK K;refine wpAnyH_done (by kernel_rfl) ?_ _;go_wp2_with fail;go_meet;exact ⟨gg,cap,ownsRow_setCell_below (a:=⟨zb,7,none⟩) zU.out Wn _,jm.out,Iw.out⟩
         ·go_simp;have Hz:=ae (sV.out.keep (ag w5 (.cells #[I 2,I 1,I (ma:Int),I ((nb:Int)*5),I ov] 110)));refine hK.out _ _ (xg.of Hz.out) (fun hSB=>?_);clear hK K;refine az ?_;refine aY 1 (fun K hK=>?_);have HXB:=ae (yu.out.grow (ag w5 (.cells #[I 2,I 1,I (ma:Int),I ((nb:Int)*5),I ov] 110)));have z7:(w5.alloc (.cells #[I 2,I 1,I (ma:Int),I ((nb:Int)*5),I ov] 110)).cell? ⟨zb,7,none⟩=some (.slice D 1 dc):=HXB.out.cell 7;go_simp;refine hK.out _ _ hSB (fun hS1=>?_);clear hK K z7;refine az ?_;refine aY 18 (fun K hK=>?_);refine step_append_lies _ (by rfl) _ _ _ (by rfl) B5 110 i1 (.agg #[I 0,I 0,I 0,I 0,I 0]) 5 40 Tryz.underlying67 hyi ML MM MN rfl (by omega) (.slice D 1 dc) 1 ([qi 0 x.a0 x.a1 x.a2 x.a3].flatMap Yr.cells) (by rfl) (sQ.out.alloc _) ⟨w5.heap.size,0,none⟩ 1 1 (Yr.cells ⟨2,1,(ma:Int),(nb:Int)*5,ov⟩) (by rfl) rfl (dB _ _ _ _ rfl) (wY ⟨2,1,(ma:Int),(nb:Int)*5,ov⟩) (by omega) (by unfold maxLen;omega) (by omega) (by simp;omega) _ rfl ?_;intro gg cap w6 hown6 hgrow6 _ _;have qL:=ae ((yu.out.grow (ag w5 (.cells #[I 2,I 1,I (ma:Int),I ((nb:Int)*5),I ov] 110))).grown hgrow6 (own_base sQ.out));have yj:=ae ((sV.out.keep (ag w5 (.cells #[I 2,I 1,I (ma:Int),I ((nb:Int)*5),I ov] 110))).grown hgrow6 (uw Xg.out));have zU:=ae hown6;clear hown6 hgrow6;refine hK.out _ _ (xg.of yj.out) (fun hS6=>?_);clear hK K;try simp only [Act.put,List.setIfInBounds_toArray]
          refine aN 19 (.pointer (some ⟨zb,7,none⟩)) 108 hS6 (fun w' hSw=>?_) ?_
          ·obtain ⟨s0,s1,s2,s3⟩:=hSw;go_simp
          try simp only [Act.put]
          refine aY 20 (fun K hK=>?_);have D8:w6.cell? ⟨zb,7,none⟩=some (.slice D 1 dc):=qL.out.cell 7;have f66:w6.frozen? ⟨zb,7,none⟩=false:=qL.out.fZ 7;go_simp;have jm:=ae (qL.out.store 7 (.slice (some ⟨gg,0,none⟩) 2 cap));have Iw:Hid (Row (w6.setCell ⟨zb,7,none⟩ (.slice (some ⟨gg,0,none⟩) 2 cap)) yv #[.int .u8 (na:Int), .int .u8 (nb:Int), .int .u8 (nc:Int), .int .u8 (nd:Int)]):=ae ⟨by simpa using yj.out.1,fun i=>(World.cell?_setCell_other _ _ _ _ (by first|(simp;done)|(simp;omega))).trans (yj.out.2 i)⟩;refine hK.out _ _ (xg.of Iw.out) (fun _=>?_);clear hK K;refine wpAnyH_done (by kernel_rfl) ?_ _;go_wp2_with fail;go_meet;exact ⟨gg,cap,ownsRow_setCell_below (a:=⟨zb,7,none⟩) zU.out Wn _,jm.out,Iw.out⟩
       case rest=>
        obtain ⟨gg,cap,hown,hmz,zi⟩:=hcut;have VZ:=ae hown;have HM7:=ae hmz;have hgl:gg<wc.heap.size:=(World.ownsRow.lt hown gg rfl).2;have hgB:B5<=gg:=(World.ownsRow.lt hown gg rfl).1;have y3:wc.cell? ⟨yv,3,none⟩=some (.int .u8 (nd:Int)):=zi.2 3;have z7:wc.cell? ⟨zb,7,none⟩=some (.slice (some ⟨gg,0,none⟩) 2 cap):=hmz.cell 7;have q1:wc.cell? ⟨gg,6,none⟩=some (I 1):=(hown.cellAt 6 (by omega)).trans rfl;have qf:∀j,wc.frozen? ⟨gg,j,none⟩=false:=fun j=>hown.frozenAt j;clear hown hmz zi;rcases hmd2 with rfl|rfl
        ·go_wp2_with fail;go_roundw
         case rel=>
          have hy:=KC.out;rw [if_neg (by omega)] at hy;refine ⟨2,cap,some ⟨gg,0,none⟩,by omega,by go_num,?_,HM7.out⟩;have h:=VZ.out;have e:([qi 0 x.a0 x.a1 x.a2 x.a3,qi 1 x.b0 x.b1 x.b2 x.b3].take 2).flatMap Yr.cells= [qi 0 x.a0 x.a1 x.a2 x.a3].flatMap Yr.cells++Yr.cells ⟨2,1,(ma:Int),(nb:Int)*5,ov⟩:=by
           show [qi 0 x.a0 x.a1 x.a2 x.a3,qi 1 x.b0 x.b1 x.b2 x.b3].flatMap Yr.cells=_;rw [hy];simp [Yr.cells]
          rw [e];exact h
         case measure=>simp [intOf]
        ·go_wp2_with fail;go_roundw
         case rel=>
          have hy:=KC.out;rw [if_pos rfl] at hy;refine ⟨2,cap,some ⟨gg,0,none⟩,by omega,by go_num,?_,HM7.out.grown (VZ.out.stored 6 (I 5)).2 (fun g hg=>by injection hg with hg;omega)⟩;have h:=(VZ.out.stored 6 (I 5)).1;have e:([qi 0 x.a0 x.a1 x.a2 x.a3,qi 1 x.b0 x.b1 x.b2 x.b3].take 2).flatMap Yr.cells=([qi 0 x.a0 x.a1 x.a2 x.a3].flatMap Yr.cells++Yr.cells ⟨2,1,(ma:Int),(nb:Int)*5,ov⟩).set 6 (I 5):=by
           show [qi 0 x.a0 x.a1 x.a2 x.a3,qi 1 x.b0 x.b1 x.b2 x.b3].flatMap Yr.cells=_;rw [hy];simp [Yr.cells]
          rw [e];exact h
         case measure=>simp [intOf]
      ·go_wp2_with fail;go_meet;exact ⟨rfl,D,dc,Ae.out,HX.out⟩
    case rest=>
     obtain ⟨rfl,D,dc,hyo,hmz⟩:=hcut;have Ae:=ae hyo;have HX:=ae hmz;clear hyo hmz FN hyi ML MM MN;have hzn1:ay (Y4 x) ⟨qM,2,qR,qn,C,cc,D,dc⟩= #[I qe, .slice qM 2 2,I ql, .slice qR qn qn,I st, .slice C cnt cc,I hz,(.slice D 2 dc)]:=by
      have h:=HZN.out;unfold ay at h ⊢;unfold Y4;simp only [List.length_cons,List.length_nil,Nat.zero_add,Nat.reduceAdd];have e0:(NU x).aH= []:=rfl;rw [e0] at h;injection h with h;simp only [List.cons.injEq] at h;obtain ⟨h0,h1,h2,h3,h4,h5,h6,_⟩:=h;rw [h0,h1,h2,h3,h4,h5,h6]
     have HZ1:=ae hzn1;have hval:Calls Tryz.prog 56 #[.agg #[I qe, .slice qM 2 2,I ql, .slice qR qn qn,I st, .slice C cnt cc,I hz,(.slice D 2 dc)]] wc (Gives (.int .i64 (vg (Y4 x))) wc):=by
      have h1:=HX.out.mon.at HX.out.sz;have h2:=HX.out.rul.at HX.out.sz;have h3:=HX.out.trn.at HX.out.sz;have h0:=Aq x Zv.out Iq.out (s:=⟨qM,2,qR,qn,C,cc,D,dc⟩) h1 h2 h3;have h:=Jy (Y4 x) ⟨qM,2,qR,qn,C,cc,D,dc⟩ wc ⟨h0.au,h0.rules,h0.trans,aA.dR Ae.out⟩;rw [HZ1.out] at h;exact h
     have Iy:Hid (Row wc zb #[I qe, .slice qM 2 2,I ql, .slice qR qn qn,I st, .slice C cnt cc,I hz,(.slice D 2 dc)]):=ae ⟨HX.out.zlt,fun i=>HX.out.cell i⟩;have jQ:=ae hval;clear hval hzn1;go_wp2_with ((with_reducible refine eF 69 ?_);go_must (refine aJ rfl _ _ rfl zb rfl #[I qe, .slice qM 2 2,I ql, .slice qR qn qn,I st, .slice C cnt cc,I hz,(.slice D 2 dc)] Iy.out _ Tryz.underlying69 rfl (by kernel_rfl) ?_));refine jQ.out.mono ?_;rintro e w8 ⟨rfl,hb8⟩;have Ll:=ae (HX.out.grow hb8);have HY8:Hid (w8.ownsRow B5 110 5 (.slice D 2 dc) 2 ([qi 0 x.a0 x.a1 x.a2 x.a3,qi 1 x.b0 x.b1 x.b2 x.b3].flatMap Yr.cells)):=ae (own_below Ae.out hb8);clear hb8 jQ Iy HX Ae;obtain ⟨rv,zi⟩:∃v,vg (Y4 x)=v:=⟨_,rfl⟩;rw [zi];have vG:=ae zi;clear zi;by_cases hr0:rv=0
     ·subst hr0;have hone:(#[I qe, .slice qM 2 2,I ql, .slice qR qn qn,I st, .slice C cnt cc,I hz,(.slice D 2 dc)]:Array Value).all (·.oneCell')=true:=by simp [Value.oneCell']
      have Iy:Hid (Row w8 zb #[I qe, .slice qM 2 2,I ql, .slice qR qn qn,I st, .slice C cnt cc,I hz,(.slice D 2 dc)]):=ae ⟨Ll.out.zlt,fun i=>Ll.out.cell i⟩;have kC:Hid (jv x=Y4 x):=ae (by unfold jv;rw [if_pos ⟨HRL.out,vG.out⟩]);go_wp2_with (first
       |((with_reducible refine eF 69 ?_);go_must (refine aJ rfl _ _ rfl zb rfl #[I qe, .slice qM 2 2,I ql, .slice qR qn qn,I st, .slice C cnt cc,I hz,(.slice D 2 dc)] Iy.out _ Tryz.underlying69 rfl (by kernel_rfl) ?_))
       |((with_reducible refine dW 69 ?_);go_must (refine wpList_store_row rfl _ _ _ rfl (w.heap.size+1) #[I qe, .slice qM 2 2,I ql, .slice qR qn qn,I st, .slice C cnt cc,I hz,(.slice D 2 dc)] rfl rfl 69 iH Ll.out.res (by kernel_rfl) rfl hone ?_)))
      obtain ⟨d1,d2,d3,d4⟩:=Ll.out.done #[I qe, .slice qM 2 2,I ql, .slice qR qn qn,I st, .slice C cnt cc,I hz,(.slice D 2 dc)];have d5:aA (w8.setRow (w.heap.size+1) #[I qe, .slice qM 2 2,I ql, .slice qR qn qn,I st, .slice C cnt cc,I hz,(.slice D 2 dc)]) (w8.setRow (w.heap.size+1) #[I qe, .slice qM 2 2,I ql, .slice qR qn qn,I st, .slice C cnt cc,I hz,(.slice D 2 dc)]).heap.size D ([qi 0 x.a0 x.a1 x.a2 x.a3,qi 1 x.b0 x.b1 x.b2 x.b3].flatMap Yr.cells):=by
       have h1:LZ (w.heap.size+2) w8.heap.size zb w8 D ([qi 0 x.a0 x.a1 x.a2 x.a3,qi 1 x.b0 x.b1 x.b2 x.b3].flatMap Yr.cells):=LZ.dR HY8.out (by omega) Wn (Nat.le_refl _);exact (h1.aK fun k hk _ _=>setRow_other _ _ k _ (by omega)).at (by simp [World.setRow])
      have h0:=Aq x Zv.out Iq.out (s:=⟨qM,2,qR,qn,C,cc,D,dc⟩) d1 d2 d3;refine bodyPost_ret (v:= .agg #[I qe, .slice qM 2 2,I ql, .slice qR qn qn,I st, .slice C cnt cc,I hz,(.slice D 2 dc)]) (results_cell_row rfl _ _ (w.heap.size+1) _ #[I qe, .slice qM 2 2,I ql, .slice qR qn qn,I st, .slice C cnt cc,I hz,(.slice D 2 dc)] (0,0) _ rfl (setRow_heap _ _ _ _ _ _ Ll.out.res) Tryz.underlying69 rfl (by kernel_rfl)) rfl ?_;have l5:LZ (w.heap.size+2) w8.heap.size zb w8 D ([qi 0 x.a0 x.a1 x.a2 x.a3,qi 1 x.b0 x.b1 x.b2 x.b3].flatMap Yr.cells):=LZ.dR HY8.out (by omega) Wn (Nat.le_refl _);have l0:IK w.heap.size ⟨qM,2,qR,qn,C,cc,D,dc⟩ (NU x):=(Du x Zv.out Iq.out (Ll.out.mon.low (Nat.le_add_right _ _)) (Ll.out.rul.low (Nat.le_add_right _ _)) (Ll.out.trn.low (Nat.le_add_right _ _)));refine ⟨⟨qM,2,qR,qn,C,cc,D,dc⟩,by rw [kC.out,HZ1.out],?_,?_,d4⟩
      ·rw [kC.out];exact ⟨h0.au,h0.rules,h0.trans,d5⟩
      ·rw [kC.out];exact ⟨l0.1,l0.2.1,l0.2.2.1,l5.low (Nat.le_add_right _ _)⟩
     ·have hne:(rv !=0)=true:=by simp [hr0]
      have kC:Hid (jv x=NU x):=ae (by unfold jv;rw [if_neg (by intro h;exact hr0 (vG.out.symm.trans h.2))]);have z7:w8.cell? ⟨zb,7,none⟩=some (.slice D 2 dc):=Ll.out.cell 7;have f7:w8.frozen? ⟨zb,7,none⟩=false:=Ll.out.fZ 7;go_upto_region 22 with fail;have PX:Hid (MZ w xs zb B5 #[I qe, .slice qM 2 2,I ql, .slice qR qn qn,I st, .slice C cnt cc,I hz,(.slice none 0 0)] qM qR C OW OX ((mF x.dS x.iI cnt).flatMap Tr.cells) (w8.setCell ⟨zb,7,none⟩ (.slice none 0 0))):=ae (Ll.out.store 7 (.slice none 0 0));clear z7 f7 HY8 Ll;generalize w8.setCell ⟨zb,7,none⟩ (.slice none 0 0)=W9 at PX ⊢;have hone:(#[I qe, .slice qM 2 2,I ql, .slice qR qn qn,I st, .slice C cnt cc,I hz,(.slice none 0 0)]:Array Value).all (·.oneCell')=true:=by simp [Value.oneCell']
      have Iy:Hid (Row W9 zb #[I qe, .slice qM 2 2,I ql, .slice qR qn qn,I st, .slice C cnt cc,I hz,(.slice none 0 0)]):=ae ⟨PX.out.zlt,fun i=>PX.out.cell i⟩;go_wp2_with (first
       |((with_reducible refine eF 69 ?_);go_must (refine aJ rfl _ _ rfl zb rfl #[I qe, .slice qM 2 2,I ql, .slice qR qn qn,I st, .slice C cnt cc,I hz,(.slice none 0 0)] Iy.out _ Tryz.underlying69 rfl (by kernel_rfl) ?_))
       |((with_reducible refine dW 69 ?_);go_must (refine wpList_store_row rfl _ _ _ rfl (w.heap.size+1) #[I qe, .slice qM 2 2,I ql, .slice qR qn qn,I st, .slice C cnt cc,I hz,(.slice none 0 0)] rfl rfl 69 iH PX.out.res (by kernel_rfl) rfl hone ?_)))
      obtain ⟨d1,d2,d3,d4⟩:=PX.out.done #[I qe, .slice qM 2 2,I ql, .slice qR qn qn,I st, .slice C cnt cc,I hz,(.slice none 0 0)];have h0:=Aq x Zv.out Iq.out (s:=⟨qM,2,qR,qn,C,cc,none,0⟩) d1 d2 d3;refine bodyPost_ret (v:= .agg #[I qe, .slice qM 2 2,I ql, .slice qR qn qn,I st, .slice C cnt cc,I hz,(.slice none 0 0)]) (results_cell_row rfl _ _ (w.heap.size+1) _ #[I qe, .slice qM 2 2,I ql, .slice qR qn qn,I st, .slice C cnt cc,I hz,(.slice none 0 0)] (0,0) _ rfl (setRow_heap _ _ _ _ _ _ PX.out.res) Tryz.underlying69 rfl (by kernel_rfl)) rfl ?_;refine ⟨⟨qM,2,qR,qn,C,cc,none,0⟩,by rw [kC.out,HZN.out],?_,?_,d4⟩
      ·rw [kC.out];exact h0
      ·rw [kC.out];exact (Du x Zv.out Iq.out (PX.out.mon.low (Nat.le_add_right _ _)) (PX.out.rul.low (Nat.le_add_right _ _)) (PX.out.trn.low (Nat.le_add_right _ _)))
end Go.Proofs.YtbaehbbonkljpaaGreatDoor
