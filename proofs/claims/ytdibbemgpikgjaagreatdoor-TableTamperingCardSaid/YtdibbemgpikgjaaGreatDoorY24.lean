/- The texts TrL, TrI, TrC, in this order. -/
import Derived.Test.YtdibbemgpikgjaaGreatDoorY00
import Derived.Test.YtdibbemgpikgjaaGreatDoorY01
import Derived.Test.YtdibbemgpikgjaaGreatDoorY02
import Derived.Test.YtdibbemgpikgjaaGreatDoorY03
import Derived.Test.YtdibbemgpikgjaaGreatDoorY05
import Derived.Test.YtdibbemgpikgjaaGreatDoorY23
set_option maxRecDepth 10000
set_option maxHeartbeats 8000000
namespace Go.Proofs.YtdibbemgpikgjaaGreatDoor
open Go Go.RowKit
theorem dU.trans {w w1 w2:World} {rb pb:Nat} {t:TypeId} {cs cs2:Array Value} (h:dU w rb pb t cs w1) (k:dU w1 rb pb t cs2 w2):dU w rb pb t cs2 w2:=
 ⟨k.os.trans h.os,k.tape.trans h.tape,k.output.trans h.output,Nat.le_trans h.size k.size,fun b hb h1 h2=>(k.block b (dP hb h.size) h1 h2).trans (h.block b hb h1 h2),k.tgt⟩
theorem dU.refl {w:World} {rb pb:Nat} {t:TypeId} {cs:Array Value} (h:w.heap[pb]? =some (.cells cs t (0,0))):dU w rb pb t cs w:=⟨rfl,rfl,rfl,Nat.le_refl _,fun _ _ _ _=>rfl,h⟩
theorem dU.ui {w w1 w2:World} {rb pb:Nat} {t:TypeId} {cs:Array Value} (h:dU w rb pb t cs w1) (hk:l7 rb w1 w2) (hl:pb<w1.heap.size) (hne:pb≠rb):dU w rb pb t cs w2:=
 ⟨hk.os.trans h.os,hk.tape.trans h.tape,hk.output.trans h.output,Nat.le_trans h.size hk.size,fun b hb h1 h2=>(hk.block b (dP hb h.size) h2).trans (h.block b hb h1 h2),(hk.block pb hl hne).trans h.tgt⟩
theorem dU.grow {w w1 w2:World} {rb pb:Nat} {t:TypeId} {cs:Array Value} (h:dU w rb pb t cs w1) (hb:Below w1.heap.size w1 w2) (hl:pb<w1.heap.size) (hne:pb≠rb):dU w rb pb t cs w2:=h.ui (l7.of_below hb) hl hne
theorem dU.put {w w1:World} {rb pb:Nat} {t:TypeId} {cs:Array Value} (h:dU w rb pb t cs w1) (o:Nat) (v:Value):dU w rb pb t (cs.setIfInBounds o v) (w1.setCell ⟨pb,o,none⟩ v):=
 ⟨h.os,h.tape,h.output,by simpa [World.setCell] using h.size,fun b hb h1 h2=>(heap_setCell_other w1 _ b v h1).trans (h.block b hb h1 h2),heap_setCell_same w1 pb o _ _ _ h.tgt⟩
theorem dU.drew {w w1:World} {rb pb:Nat} {t:TypeId} {cs:Array Value} (h:dU w rb pb t cs w1):dU w rb pb t cs w1.drew:=⟨h.os,h.tape,h.output,h.size,h.block,h.tgt⟩
theorem dU.iV {w w1:World} {rb pb:Nat} {t:TypeId} {cs:Array Value} (h:dU w.drew rb pb t cs w1):dU w rb pb t cs w1:=⟨h.os,h.tape,h.output,h.size,h.block,h.tgt⟩
theorem dU.cell {w w1:World} {rb pb:Nat} {t:TypeId} {cs:Array Value} (h:dU w rb pb t cs w1) (i:Nat):w1.cell? ⟨pb,i,none⟩=cs[i]? :=cell_of_row w1 pb i _ _ _ h.tgt
theorem dU.dZ {w w1:World} {rb pb:Nat} {t:TypeId} {cs:Array Value} (h:dU w rb pb t cs w1) (i:Nat):w1.frozen? ⟨pb,i,none⟩=false:=frozen_of_row w1 pb i _ _ h.tgt
theorem jV.put {M pb o:Nat} {w:World} {rb:Nat} {rest:List UInt8} (h:jV M w rb rest) (hp:M≤pb) (hne:pb≠rb) (v:Value):jV M (w.setCell ⟨pb,o,none⟩ v) rb rest:=
 h.of (heap_setCell_other w _ rb v (fun e=>hne e.symm)) fun k hk=>heap_setCell_other w _ k v (by show k≠pb;omega)
def RH (M:Nat) (w:World) (rb pb po:Nat) (t:TypeId) (cs:Array Value) (n:Int) (R:List UInt8) (e:Ending) (w':World):Prop:=
 e= .returned (.tuple #[])∧jV M w' rb R∧dU w rb pb t (cs.setIfInBounds po (I n)) w'
theorem iK (M:Nat) (w:World) (rb pb po size:Nat) (t:TypeId) (cs:Array Value) (n v:Int) (R:List UInt8) (hr:jV M w rb (le n size++R)) (h8:size≤8) (hv:P9 (le n size++R) false size=v) (hp:w.heap[pb]? =some (.cells cs t (0,0))) (hpo:po<cs.size) (EM:M≤pb) (hne:pb≠rb):
  Calls Tryz.prog 176 #[pt rb, .pointer (some ⟨pb,po,none⟩),I size] w (RH M w rb pb po t cs v R):=
 (GK M w rb pb po size t cs _ hr h8 (by rw [aZ,aF];omega) hp hpo EM hne).mono fun e w' ⟨h1,h2,h3⟩=>by
  rw [Oe] at h2;rw [hv] at h3;exact ⟨h1,h2,h3⟩
theorem hvs2 (x:Int):wrap64 (hvs 0 (upto (bk (le x 2)) 2))=x%65536:=by
 have e:hvs 0 (upto (bk (le x 2)) 2)=((0*256+((byteOf (x / 256)).toNat:Int))*256+((byteOf x).toNat:Int)):=rfl;rw [e];simp only [rD];unfold wrap64;omega
theorem YJ (x:Int) (R:List UInt8):P9 (le x 2++R) false 2=x%65536:=by
 unfold P9 wG;rw [(GH x 2 R).1,aF,Oj _ 0 0 (by unfold wrap64;omega)];exact hvs2 x
def TLenR (M:Nat) (w:World) (rb:Nat) (n:Int) (R:List UInt8) (e:Ending) (w':World):Prop:=e= .returned (I n)∧jV M w' rb R∧l7 rb w w'
theorem jK (M:Nat) (w:World) (rb size:Nat) (m n v:Int) (R:List UInt8) (hr:jV M w rb (le n size++R)) (h8:size≤8) (hv:P9 (le n size++R) false size=v):
  Calls Tryz.prog 175 #[pt rb,I m,I size] w (TLenR M w rb v R):=by
 have hl:=hr.lt;have hlo:=hr.lo;have hb:=ag w (.cells #[I 0] 3);have hpl:=heap_alloc_last w (.cells #[I 0] 3);have HC:=ae (iK M (w.alloc (.cells #[I 0] 3)) rb w.heap.size 0 size 3 #[I 0] n v R (hr.below hb hl) h8 hv hpl (by decide) (by omega) (by omega));have HB:=ae hb;clear hr hb hpl hv;go_enter Tryz.func175,Tryz.ntmps175;go_wp2_with fail;refine HC.out.mono ?_;rintro e w1 ⟨rfl,hr1,hp1⟩;have hc1:w1.cell? ⟨w.heap.size,0,none⟩=some (I v):=hp1.cell 0;have HR1:=ae hr1;have iF:Hid (l7 rb w w1):=ae ⟨hp1.os,hp1.tape,hp1.output,by have:=hp1.size;simp at this;omega,fun k hk hkr=>(hp1.block k (by simp;omega) (by omega) hkr).trans (HB.out.block k hk)⟩;clear hr1 hp1 HC;go_wp2_with fail;go_ret;exact ⟨rfl,HR1.out,iF.out⟩
theorem Qx (n:Int):IntKind.i16.wrap n=(n+32768)%65536 - 32768:=by
 simp [IntKind.wrap,IntKind.bits,IntKind.signed];omega
theorem zt (M:Nat) (w:World) (rb pb po:Nat) (t:TypeId) (cs:Array Value) (n:Int) (R:List UInt8) (hr:jV M w rb (le n 2++R)) (hn0: -32768≤n) (hn1:n≤32767) (hp:w.heap[pb]? =some (.cells cs t (0,0))) (hpo:po<cs.size) (EM:M≤pb) (hne:pb≠rb):
  Calls Tryz.prog 177 #[pt rb, .pointer (some ⟨pb,po,none⟩)] w (RH M w rb pb po t cs n R):=by
 obtain ⟨u,hu⟩:∃u,n%65536=u:=⟨_,rfl⟩;have HC:=ae (iK M w rb pb po 2 t cs n u R hr (by omega) ((YJ n R).trans hu) hp hpo EM hne);have hu0:0≤u:=by omega
 have hu1:u<65536:=by omega
 have hw16:IntKind.i16.wrap u=n:=by
  rw [Qx];omega
 clear hr hp;go_enter Tryz.func177,Tryz.ntmps177;go_wp2_with fail;refine HC.out.mono ?_;rintro e w1 ⟨rfl,hr1,hp1⟩;have hc1:w1.cell? ⟨pb,po,none⟩=some (I u):=(hp1.cell po).trans (by simp [hpo]);have hf1:=hp1.dZ po;have HR1:=ae (hr1.put (o:=po) EM hne (I n));have wY:=ae (hp1.put po (I n));clear hr1 hp1 HC hu;go_wp2_with fail
 go_end0
 exact ⟨rfl,HR1.out,by have h:=wY.out;rwa [Array.setIfInBounds_setIfInBounds] at h⟩
theorem Xe {w:World} {b o:Nat} {xs:List UInt8} (h:∀j,j<32→w.cell? ⟨b,o+j,none⟩=some (Extern.Stop.cell (xs[j]?.getD 0))) (hl:(aj xs).length=32):∀j u,(aj xs)[j]? =some u→w.cell? ((⟨b,o,none⟩:Addr).add j)=some u:=fun j u hu=>by
 have hj:=(eG.1 hu).1;rw [Addr.add_mid,h j (by omega)];unfold aj at hu hl hj;rw [List.length_map] at hl hj;rw [List.getElem?_map,bZ (by omega)] at hu;rw [bZ (by omega)];simpa using hu
def TTxtR (M:Nat) (w:World) (rb pb po:Nat) (t:TypeId) (cs:Array Value) (v:Value) (R:List UInt8) (e:Ending) (w':World):Prop:=
 e= .returned (.tuple #[])∧jV M w' rb R∧dU w rb pb t (cs.setIfInBounds po v) w'
theorem Fa (M:Nat) (w:World) (rb pb po:Nat) (t:TypeId) (cs:Array Value) (s0 s:ByteArray) (R:List UInt8) (hr:jV M w rb ((le s.size 1++s.data.toList)++R)) (hs:s.size<256) (hp:w.heap[pb]? =some (.cells cs t (0,0))) (hpo:cs[po]? =some (.string s0)) (EM:M≤pb) (hne:pb≠rb):
  Calls Tryz.prog 178 #[pt rb, .pointer (some ⟨pb,po,none⟩)] w (TTxtR M w rb pb po t cs (.string s) R):=by
 rw [List.append_assoc] at hr;have hpl:pb<w.heap.size:=(bT.1 hp).1;have HC:=ae (jK M w rb 1 0 s.size s.size (s.data.toList++R) hr (by omega) (pX _ (by omega) (by omega) _));have HP:=ae hp;have HPO:=ae hpo;have HL:=ae (show s.data.toList.length=s.size from Array.length_toList);clear hr hp hpo;go_enter Tryz.func178,Tryz.ntmps178;go_wp2_with fail;refine HC.out.mono ?_;rintro e w1 ⟨rfl,hr1,hk1⟩;have HR1:=ae hr1;have iF:=ae hk1;have hs1:=hk1.size;clear hr1 hk1 HC;go_wp2_with fail;refine (wE M w1 rb s.size (s.data.toList++R) HR1.out (by rw [aZ,HL.out];omega)).mono ?_;rintro e w2 ⟨bb,off,c,rfl,hc1,hc2,hbM,hby,hr2,hk2⟩;have e1:(s.data.toList++R).take s.size=s.data.toList:=by rw [←HL.out,List.take_append_of_le_length (Nat.le_refl _),List.take_of_length_le (Nat.le_refl _)]
 have e2:(s.data.toList++R).drop s.size=R:=by rw [←HL.out,List.drop_append_of_le_length (Nat.le_refl _),List.drop_of_length_le (Nat.le_refl _)];rfl
 rw [e1] at hby;rw [e2] at hr2;have hcv:=Jc w2 bb off c s hby;have hp2:w2.heap[pb]? =some (.cells cs t (0,0)):=(hk2.block pb (by omega) hne).trans ((iF.out.block pb hpl hne).trans HP.out);have hcp:w2.cell? ⟨pb,po,none⟩=some (.string s0):=(cell_of_row w2 pb po _ _ _ hp2).trans HPO.out;have hfp:=frozen_of_row w2 pb po _ _ hp2;have HR2:=ae (hr2.put (o:=po) EM hne (.string s));have HP2:Hid (dU w rb pb t (cs.setIfInBounds po (.string s)) (w2.setCell ⟨pb,po,none⟩ (.string s))):=ae ((((dU.refl HP.out).ui iF.out hpl hne).ui hk2 (by omega) hne).put po (.string s));clear hby hr2 hk2 e1 e2 hp2;go_wp2_with fail
 go_end0
 exact ⟨rfl,HR2.out,HP2.out⟩
def putRow (cs:Array Value) (o:Nat) (vs:List Value):Array Value:=(splice cs.toList o vs).toArray
theorem zq (M:Nat) (w:World) (rb pb po:Nat) (t:TypeId) (cs:Array Value) (xs R:List UInt8) (hr:jV M w rb (xs++R)) (h32:xs.length=32) (hp:w.heap[pb]? =some (.cells cs t (0,0))) (hpo:po+32≤cs.size) (EM:M≤pb) (hne:pb≠rb):
  Calls Tryz.prog 173 #[pt rb, .pointer (some ⟨pb,po,none⟩)] w fun e w'=>e= .returned (.tuple #[])∧jV M w' rb R∧dU w rb pb t (putRow cs po (aj xs)) w':=by
 have hpl:pb<w.heap.size:=(bT.1 hp).1;have HC:=ae (wE M w.drew rb 32 (xs++R) hr.drew (by rw [aZ,h32];omega));have HP:=ae hp;have HX:Hid ((aj xs).length=32):=ae (by simp [aj,h32]);have HE:Hid ((xs++R).take 32=xs∧(xs++R).drop 32=R):=ae ⟨by rw [←h32,List.take_append_of_le_length (Nat.le_refl _),List.take_of_length_le (Nat.le_refl _)],by rw [←h32,List.drop_append_of_le_length (Nat.le_refl _),List.drop_of_length_le (Nat.le_refl _)];rfl⟩;clear hr hp h32;go_enter Tryz.func173,Tryz.ntmps173;go_wp2_with fail
 go_region_law (first|(go_simp;go_at_call 179;refine HC.out.mono ?_;rintro e w5 ⟨b5,o5,c5,rfl,hl5,hm5,hbM,hb5,uH,hk5⟩;rw [HE.out.1] at hb5;rw [HE.out.2] at uH;have uO:=ae uH;have xP:=ae hk5;have pO:Hid (∀j u,(aj xs)[j]? =some u→w5.cell? ((⟨b5,o5,none⟩:Addr).add j)=some u):=ae (Xe hb5 HX.out);have QK:Hid (w5.heap[pb]? =some (.cells cs t (0,0))):=ae ((hk5.block pb hpl hne).trans HP.out);clear hb5 uH hk5)|(refine vM (by rfl) _ _ _ _ (by rfl) 5 Tryz.underlying32 (by kernel_rfl) pb po 32 32 ⟨b5,o5,none⟩ 32 c5 (by rfl) (by rfl) cs t QK.out (aj xs) (by rw [HX.out];rfl) pO.out (by rw [HX.out];exact hpo) (Jd xs) (putRow cs po (aj xs)) rfl ?_))
 all_goals
  have H6:Hid (jV M (w5.setRow pb (putRow cs po (aj xs))) rb R):=ae (uO.out.of (setRow_other _ _ _ _ (fun e=>hne e.symm)) fun k hk=>setRow_other _ _ _ _ (by omega));have H7:Hid (dU w rb pb t (putRow cs po (aj xs)) (w5.setRow pb (putRow cs po (aj xs)))):=ae ⟨xP.out.os,xP.out.tape,xP.out.output,by simpa [World.setRow] using xP.out.size,fun k hk h1 h2=>(setRow_other _ _ k _ h1).trans (xP.out.block k hk h2),setRow_heap _ _ _ _ _ _ QK.out⟩;go_wp2_with fail
  go_end0
  exact ⟨rfl,H6.out,H7.out⟩
attribute [local go_sem] kQ kU kR kV oU oV kN kS kP kT
theorem Na (M:Nat) (w:World) (rb pb po:Nat) (t:TypeId) (cs:Array Value) (n:Int) (R:List UInt8) (hr:jV M w rb (le n 1++R)) (h0:0≤n) (h1:n<256) (hp:w.heap[pb]? =some (.cells cs t (0,0))) (hpo:po<cs.size) (EM:M≤pb) (hne:pb≠rb):
  Calls Tryz.prog 91 #[.iface 134 (pt rb), .pointer (some ⟨pb,po,none⟩)] w (RH M w rb pb po t cs n R):=by
 have HC:=ae (iK M w rb pb po 1 t cs n n R hr (by omega) (pX n h0 h1 R) hp hpo EM hne);clear hr hp;go_enter Tryz.func91,Tryz.ntmps91;go_wp2_with fail;refine HC.out.mono ?_;rintro e w1 ⟨rfl,h⟩;have H:=ae h;clear h HC;go_wp2_with fail
 go_end0
 exact ⟨rfl,H.out⟩
theorem TW {W W':World} {lo e size g n m cap rb o:Nat} {xs:List Value} {v:Value} {cur:Array Value} (h:W.ownsRow lo e size (.slice (some ⟨g,0,none⟩) n cap) m xs) (hg:W.heap[g]? =some (.cells cur e (0,0))) (hp:dU W rb g e (cur.setIfInBounds o v) W'):
  W'.ownsRow lo e size (.slice (some ⟨g,0,none⟩) n cap) m (xs.set o v):=by
 obtain ⟨cur',h1,h2,h3,h4,h5,h6,h7,rfl⟩:=ou h;rw [hg] at h1;injection h1 with h1;injection h1 with h1;subst h1;exact MC hp.tgt h2 h3 h4 (by rw [Array.size_setIfInBounds];exact h5) (by rw [Array.toList_setIfInBounds,List.take_set,h6]) (by rw [List.length_set];exact h7)
theorem ints_set (zs:List Int) (z:Int):((zs.map I)++ [I 0]).set zs.length (I z)=(zs++ [z]).map I:=by
 rw [List.set_append_right _ _ (by simp)];simp
def RlRel (M:Nat) (w:World) (rb pb po:Nat) (t:TypeId) (cs:Array Value) (n:Nat) (zs:List Int) (R:List UInt8) (i:Value) (wr:World):Prop:=
 ∃(k:Nat) (A:Option Addr) (c:Nat),k≤n∧i= .int .i64 k∧jV M wr rb (dm (zs.drop k)++R)∧dU w rb pb t (cs.setIfInBounds po (.slice A k c)) wr∧wr.ownsRow w.heap.size 3 1 (.slice A k c) k ((zs.take k).map I)
def TLiR (M:Nat) (w:World) (rb pb po:Nat) (t:TypeId) (cs:Array Value) (zs:List Int) (n:Nat) (R:List UInt8) (e:Ending) (w':World):Prop:=
 e= .returned (.tuple #[])∧∃A c,jV M w' rb R∧dU w rb pb t (cs.setIfInBounds po (.slice A n c)) w'∧w'.ownsRow w.heap.size 3 1 (.slice A n c) n (zs.map I)
theorem Qn (M:Nat) (w:World) (rb pb po n:Nat) (t:TypeId) (cs:Array Value) (zs:List Int) (R:List UInt8) (hn:zs.length=n) (hn2:n≤100) (hfit:∀z∈zs,0≤z∧z<256) (hr:jV M w rb ((le n 1++dm zs)++R)) (hp:w.heap[pb]? =some (.cells cs t (0,0))) (hpo:cs[po]? =some (.slice none 0 0)) (EM:M≤pb) (hne:pb≠rb):
  Calls Tryz.prog 90 #[.iface 134 (pt rb), .pointer (some ⟨pb,po,none⟩),I 1, .func (.func 91) #[] #[]] w (TLiR M w rb pb po t cs zs n R):=by
 rw [List.append_assoc] at hr;have hpl:pb<w.heap.size:=(bT.1 hp).1;have hlo:=hr.lo;have hrl:=hr.lt;have hcs:cs.setIfInBounds po (.slice none 0 0)=cs:=by
  apply Array.ext_getElem?;intro i;rw [Array.getElem?_setIfInBounds];split
  ·rename_i e;subst e;split
   ·exact hpo.symm
   ·rename_i e2;rw [Array.getElem?_eq_none (by omega)] at hpo;cases hpo
  ·rfl
 have hc0:w.cell? ⟨pb,po,none⟩=some (.slice none 0 0):=(cell_of_row w pb po _ _ _ hp).trans hpo;have hpos:po<cs.size:=(bT.1 hpo).1;have HC:=ae (jK M w.drew rb 1 0 n n (dm zs++R) hr.drew (by omega) (pX _ (by omega) (by omega) _));have HP:Hid (dU w rb pb t (cs.setIfInBounds po (.slice none 0 0)) w):=ae (by rw [hcs];exact dU.refl hp);have HN:=ae hn;have HF:=ae hfit;clear hr hp hpo hcs hn hfit;obtain ⟨i0,hi,hz0,hz1,hz2⟩:=info_parts tZ;go_enter Tryz.func90,Tryz.ntmps90;go_wp2_with fail;go_still_tail 9,(by kernel_rfl);go_wp2_with fail;refine HC.out.mono ?_;rintro e w1 ⟨rfl,hr1,hk1⟩;have HR1:=ae hr1;have wY:=ae (HP.out.drew.ui hk1 hpl hne);clear hr1 hk1 HC hc0;go_wp2_with fail
 go_loopw [22] (fun i wr=>RlRel M w rb pb po t cs n zs R i wr) (fun i _=>n - (intOf i).toNat)
 case atStart=>exact ⟨0,none,0,Nat.zero_le _,rfl,HR1.out,wY.out,World.ownsRow_nil _ _ _ _⟩
 case round=>
  obtain ⟨k,A,c,hk,rfl,hr,hp,hown⟩:=hrel;have HR:=ae hr;have Eo:=ae hp;have HO:=ae hown;have hcp:wr.cell? ⟨pb,po,none⟩=some (.slice A k c):=(hp.cell po).trans (by simp [hpos]);have hsw:=hp.size;clear hr hp hown HR1 wY HP;by_cases hlt:k<n
  ·have i0':(0:Int)≤(k:Int):=by omega
   have i1:(k:Int)<(n:Int):=by omega
   have hkz:k<zs.length:=by rw [HN.out];exact hlt
   obtain ⟨z,hz⟩:∃z,zs[k]? =some z:=⟨_,bZ hkz⟩;have hzr:=HF.out z (dS hz);have HZ:=ae hz;have hbase:w.heap.size≤(wr.alloc (.cells #[I 0] 3)).heap.size:=by simp;omega
   clear hz;go_wp2_with (at_builtin;refine wpList_append_own_at _ rfl _ _ 60 rfl w.heap.size 3 i0 (.int .i64 0) 1 8 Tryz.underlying60 hi hz0 hz1 hz2 rfl (by decide) _ _ _ rfl (HO.out.alloc _) ⟨wr.heap.size,0,none⟩ 1 1 [I 0] rfl rfl ?c1 ?c2 ?c3 ?c4 ?c5 ?_)
   case c1=>exact cell_one_new _ _ _
   case c2=>intro u hu;simp at hu;subst hu;rfl
   case c3=>unfold maxLen;omega
   case c4=>omega
   case c5=>exact hbase
   intro v' w2 hown2 hgrow2 _ Ll;rw [←List.map_take] at hown2;obtain ⟨g2,c2,rfl,hg2⟩:=dE hown2 (Nat.succ_pos _);have hbw:∀b,b<w.heap.size→w2.heap[b]? =wr.heap[b]? :=fun b hb=>by rw [hgrow2.block b (by simp;omega) (eU HO.out b hb),Below.heap_alloc wr _ b (by omega)]
   have hs2:wr.heap.size≤w2.heap.size:=by have:=hgrow2.size;rw [World.size_alloc] at this;omega
   have hp2:w2.heap[pb]? =some (.cells (cs.setIfInBounds po (.slice A k c)) t (0,0)):=(hbw pb hpl).trans Eo.out.tgt;have hcp2:w2.cell? ⟨pb,po,none⟩=some (.slice A k c):=(cell_of_row w2 pb po _ _ _ hp2).trans (by simp [hpos]);have Ws:=frozen_of_row w2 pb po _ _ hp2;have hlo2:=kG hown2;have hP3:dU w rb pb t (cs.setIfInBounds po (.slice (some ⟨g2,0,none⟩) (k+1) c2)) (w2.setCell ⟨pb,po,none⟩ (.slice (some ⟨g2,0,none⟩) (k+1) c2)):=by
    have h:dU w rb pb t (cs.setIfInBounds po (.slice A k c)) w2:=⟨hgrow2.os.trans Eo.out.os,hgrow2.tape.trans Eo.out.tape,hgrow2.output.trans Eo.out.output,Nat.le_trans Eo.out.size hs2,fun b hb h1 h2=>(hbw b hb).trans (Eo.out.block b hb h1 h2),hp2⟩;have h:=h.put po (.slice (some ⟨g2,0,none⟩) (k+1) c2)
    rwa [Array.setIfInBounds_setIfInBounds] at h
   have Yw:jV M (w2.setCell ⟨pb,po,none⟩ (.slice (some ⟨g2,0,none⟩) (k+1) c2)) rb (dm (zs.drop k)++R):=(HR.out.of (hbw rb hrl) fun b hb=>hbw b (by omega)).put EM hne _;have hO3:(w2.setCell ⟨pb,po,none⟩ (.slice (some ⟨g2,0,none⟩) (k+1) c2)).ownsRow w.heap.size 3 1 (.slice (some ⟨g2,0,none⟩) (k+1) c2) (k+1) ((zs.take k).map I++ [I 0]):=dW (p:=⟨pb,po,none⟩) hown2 (by intro e;injection e with e;simp only at e;omega);have rq:=ae hP3;have HR3:=ae Yw;have vg:=ae hO3;clear hown2 hgrow2 Ll hbw hp2 hP3 Yw hO3 hg2 hcp;go_wp2_with fail;obtain ⟨w3,hw3⟩:∃W,w2.setCell ⟨pb,po,none⟩ (.slice (some ⟨g2,0,none⟩) (k+1) c2)=W:=⟨_,rfl⟩;rw [hw3] at rq HR3 vg ⊢;obtain ⟨cur,q1,q2,q3,q4,q5,q6,q7,_⟩:=ou vg.out;have hcz:dm (zs.drop k)++R=le z 1++(dm (zs.drop (k+1))++R):=by
    have hd:zs.drop k=z::zs.drop (k+1):=by
     rw [List.drop_eq_getElem_cons hkz];have h:=HZ.out;rw [bZ hkz] at h;injection h with h;rw [h]
    rw [hd];simp [dm]
   have hr3:=HR3.out;rw [hcz] at hr3;refine (Na M w3 rb g2 k 3 cur z _ hr3 hzr.1 hzr.2 q1 (by rw [q5];omega) (by omega) (by omega)).mono ?_;rintro e w4 ⟨rfl,hr4,sU⟩;have hO4:=TW vg.out q1 sU;have hlen:((zs.take k).map I).length=k:=by rw [List.length_map,List.length_take];omega
   have hset:((zs.take k).map I++ [I 0]).set k (I z)=(zs.take (k+1)).map I:=by
    have h:=ints_set (zs.take k) z;rw [show (zs.take k).length=k by rw [List.length_take];omega] at h;rw [h,lh zs k z HZ.out]
   rw [hset] at hO4;have hP4:dU w rb pb t (cs.setIfInBounds po (.slice (some ⟨g2,0,none⟩) (k+1) c2)) w4:=⟨sU.os.trans rq.out.os,sU.tape.trans rq.out.tape,sU.output.trans rq.out.output,Nat.le_trans rq.out.size sU.size,fun b hb h1 h2=>(sU.block b (dP hb rq.out.size) (by omega) h2).trans (rq.out.block b hb h1 h2),(sU.block pb (dP hpl rq.out.size) (by omega) hne).trans rq.out.tgt⟩;have HR4:=ae hr4;have FC:=ae hP4;have He:=ae hO4;clear hr4 sU hO4 hP4 hset hlen hr3 hcz q1 q2 q3 q4 q5 q6 q7 hw3 hcp2 Ws;go_wp2_with fail;go_roundw
   case rel=>exact ⟨k+1,some ⟨g2,0,none⟩,c2,by omega,by go_num,HR4.out,FC.out,He.out⟩
   case measure=>simp [intOf];omega
  ·have hkn:k=n:=by omega
   have sW:=ae hkn;have hlt':¬(k:Int)<(n:Int):=by omega
   clear hkn hlt hcp;go_wp2_with fail
   go_end0
   refine ⟨rfl,A,c,?_,?_,?_⟩
   ·have h:=HR.out;rw [sW.out,List.drop_of_length_le (by rw [HN.out];exact Nat.le_refl _)] at h;exact h
   ·have h:=Eo.out
    rwa [sW.out] at h
   ·have h:=HO.out
    rwa [sW.out,List.take_of_length_le (by rw [HN.out];exact Nat.le_refl _)] at h
end Go.Proofs.YtdibbemgpikgjaaGreatDoor
namespace Go.Proofs.YtdibbemgpikgjaaGreatDoor
open Go Go.RowKit
attribute [local go_sem] kQ kU kR kV oU oV kN kS kP kT
def KL (M:Nat) (w:World) (rb:Nat) (R:List UInt8) (e:Ending) (w':World):Prop:=e= .returned (.tuple #[])∧jV M w' rb R∧l7 rb w w'
theorem wu {rb:Nat} {w w':World} (h:l7 rb w.drew w'):l7 rb w w':=⟨h.os,h.tape,h.output,h.size,h.block⟩
theorem zQ (M:Nat) (w:World) (rb lb lo:Nat) (A:Option Addr) (c:Nat) (R:List UInt8) (hp:w.cell? ⟨lb,lo,none⟩=some (.slice A 0 c)) (hr:jV M w rb (le 0 1++R)):
  Calls Tryz.prog 92 #[.iface 134 (pt rb), .pointer (some ⟨lb,lo,none⟩),I 1, .func (.func 93) #[] #[]] w (KL M w rb R):=by
 have HC:=ae (jK M w.drew rb 1 0 0 0 R hr.drew (by omega) (pX 0 (by omega) (by omega) R));clear hr;go_enter Tryz.func92,Tryz.ntmps92;go_wp2_with fail;go_still_tail 9,(by kernel_rfl);go_wp2_with fail;refine HC.out.mono ?_;rintro e w1 ⟨rfl,hr1,hk1⟩;have HR1:=ae hr1;have iF:=ae (wu hk1);clear hr1 hk1 HC hp;go_wp2_with fail
 go_loop [22] (fun i=>i= .int .i64 0) (fun _=>0)
 case atStart=>rfl
 case round=>
  subst hrel;go_wp2_with fail
  go_end0
  exact ⟨rfl,HR1.out,iF.out⟩
theorem qU (M:Nat) (w:World) (rb lb lo:Nat) (A:Option Addr) (c:Nat) (R:List UInt8) (hp:w.cell? ⟨lb,lo,none⟩=some (.slice A 0 c)) (hr:jV M w rb (le 0 2++R)):
  Calls Tryz.prog 69 #[.iface 134 (pt rb), .pointer (some ⟨lb,lo,none⟩),I 2, .func (.func 70) #[] #[]] w (KL M w rb R):=by
 have HC:=ae (jK M w.drew rb 2 0 0 0 R hr.drew (by omega) ((YJ 0 R).trans (by decide)));clear hr;go_enter Tryz.func69,Tryz.ntmps69;go_wp2_with fail;go_still_tail 9,(by kernel_rfl);go_wp2_with fail;refine HC.out.mono ?_;rintro e w1 ⟨rfl,hr1,hk1⟩;have HR1:=ae hr1;have iF:=ae (wu hk1);clear hr1 hk1 HC hp;go_wp2_with fail
 go_loop [22] (fun i=>i= .int .i64 0) (fun _=>0)
 case atStart=>rfl
 case round=>
  subst hrel;go_wp2_with fail
  go_end0
  exact ⟨rfl,HR1.out,iF.out⟩
theorem zS (M:Nat) (w:World) (rb lb lo:Nat) (A:Option Addr) (c:Nat) (R:List UInt8) (hp:w.cell? ⟨lb,lo,none⟩=some (.slice A 0 c)) (hr:jV M w rb (le 0 1++R)):
  Calls Tryz.prog 71 #[.iface 134 (pt rb), .pointer (some ⟨lb,lo,none⟩),I 1, .func (.func 72) #[] #[]] w (KL M w rb R):=by
 have HC:=ae (jK M w.drew rb 1 0 0 0 R hr.drew (by omega) (pX 0 (by omega) (by omega) R));clear hr;go_enter Tryz.func71,Tryz.ntmps71;go_wp2_with fail;go_still_tail 9,(by kernel_rfl);go_wp2_with fail;refine HC.out.mono ?_;rintro e w1 ⟨rfl,hr1,hk1⟩;have HR1:=ae hr1;have iF:=ae (wu hk1);clear hr1 hk1 HC hp;go_wp2_with fail
 go_loop [22] (fun i=>i= .int .i64 0) (fun _=>0)
 case atStart=>rfl
 case round=>
  subst hrel;go_wp2_with fail
  go_end0
  exact ⟨rfl,HR1.out,iF.out⟩
def Yo (M:Nat) (w:World) (rb cb co:Nat) (t:TypeId) (cs:Array Value) (c:Cal) (R:List UInt8) (e:Ending) (w':World):Prop:=
 e= .returned (.tuple #[])∧∃A a,jV M w' rb R∧dU w rb cb t (((cs.setIfInBounds co (I c.aX)).setIfInBounds (co+1) (.slice A c.az.length a)).setIfInBounds (co+2) (I (-1))) w'∧w'.ownsRow w.heap.size 3 1 (.slice A c.az.length a) c.az.length (c.az.map I)
theorem su (M:Nat) (w:World) (rb cb co:Nat) (t:TypeId) (cs:Array Value) (c:Cal) (R:List UInt8) (hc:zX c) (hr:jV M w rb (ja c++R)) (hp:w.heap[cb]? =some (.cells cs t (0,0))) (h0:co<cs.size) (h1:cs[co+1]? =some (.slice none 0 0)) (h2:cs[co+2]? =some (I 0)) (h3:cs[co+3]? =some (.slice none 0 0))
  (hM:M≤cb) (hne:cb≠rb):
  Calls Tryz.prog 68 #[.iface 134 (pt rb), .pointer (some ⟨cb,co,none⟩)] w (Yo M w rb cb co t cs c R):=by
 have hcl:cb<w.heap.size:=(bT.1 hp).1;have hlo:=hr.lo;have hrw:=hr.lt;have e1:co+1<cs.size:=(bT.1 h1).1;have e2:co+2<cs.size:=(bT.1 h2).1;have e3:co+3<cs.size:=(bT.1 h3).1;obtain ⟨n,hn⟩:∃n,c.az.length=n:=⟨_,rfl⟩;have hn2:n≤16:=by have:=hc.mo.2;omega
 have hr':jV M w.drew rb (le c.aX 4++((le n 1++dm c.az)++(le 0 1++(le 0 1++R)))):=by
  have h:=hr.drew;unfold ja at h;rw [hn] at h;simpa only [List.append_assoc] using h
 have lV:=ae (iK M w.drew rb cb co 4 t cs c.aX c.aX _ hr' (by omega) (rdN_4 _ hc.ep.1 (by have:=hc.ep.2;omega) _) hp h0 hM hne);have HN:=ae hn;have HM:Hid (∀z∈c.az,0≤z∧z<256):=ae fun z hz=>by have:=hc.all z hz;omega
 have HX:Hid (cs[co+1]? =some (.slice none 0 0)∧cs[co+2]? =some (I 0)∧cs[co+3]? =some (.slice none 0 0)):=ae ⟨h1,h2,h3⟩;clear hc hr hr' hp hn h1 h2 h3;unfold Yo;go_enter Tryz.func68,Tryz.ntmps68;go_wp2_with fail;go_still_tail 7,(by kernel_rfl);go_wp2_with fail;refine lV.out.mono ?_;rintro e w1 ⟨rfl,hr1,hp1⟩;have wY:=ae hp1.iV;have HL:=ae (Qn M w1 rb cb (co+1) n t (cs.setIfInBounds co (I c.aX)) c.az _ HN.out (by omega) HM.out hr1 hp1.tgt (by rw [Array.getElem?_setIfInBounds_ne (by omega)];exact HX.out.1) hM hne);clear hr1 hp1 lV;go_wp2_with fail;refine HL.out.mono ?_;rintro e w2 ⟨rfl,A,a,hr2,hp2,ho2⟩;obtain ⟨C2,hC2⟩:∃C,(cs.setIfInBounds co (I c.aX)).setIfInBounds (co+1) (.slice A n a)=C:=⟨_,rfl⟩;rw [hC2] at hp2;have g2:C2[co+2]? =some (I 0):=by rw [←hC2,Array.getElem?_setIfInBounds_ne (by omega),Array.getElem?_setIfInBounds_ne (by omega)];exact HX.out.2.1
 have g3:C2[co+3]? =some (.slice none 0 0):=by rw [←hC2,Array.getElem?_setIfInBounds_ne (by omega),Array.getElem?_setIfInBounds_ne (by omega)];exact HX.out.2.2
 have HP2:=ae (wY.out.trans hp2);have pI:=ae (bf ho2 wY.out.size);have lC:=ae hC2;have d2:w2.cell? ⟨cb,co+2,none⟩=some (I 0):=(hp2.cell (co+2)).trans g2;have hs2:=hp2.size;have hs1:=wY.out.size;have hb2:=ag w2 (.cells #[I 1] 3);have HB2:=ae hb2;have hrl:=hr2.lt;have HC2:=ae (iK M (w2.alloc (.cells #[I 1] 3)) rb w2.heap.size 0 1 3 #[I 1] 0 0 _ (hr2.below hb2 hrl) (by omega) (pX 0 (by omega) (by omega) _) (heap_alloc_last w2 _) (by decide) (by omega) (by omega));clear hr2 hp2 ho2 hC2 HL hb2;go_wp2_with fail;refine HC2.out.mono ?_;rintro e w3 ⟨rfl,hr3,hp3⟩;have d3:w3.cell? ⟨w2.heap.size,0,none⟩=some (I 0):=hp3.cell 0;have hs3:=hp3.size;rw [World.size_alloc] at hs3;have hk3:l7 rb w2 w3:=⟨hp3.os,hp3.tape,hp3.output,by omega,fun b hb hbr=>(hp3.block b (by simp;omega) (by omega) hbr).trans (HB2.out.block b hb)⟩;have WB:dU w rb cb t C2 w3:=HP2.out.ui hk3 (by omega) hne;have e3':w3.cell? ⟨cb,co+2,none⟩=some (I 0):=(WB.cell (co+2)).trans g2;have f3:=WB.dZ (co+2);have FC:=ae (WB.put (co+2) (I (-1)));have HR4:=ae (hr3.put (o:=co+2) hM hne (I (-1)));have ho3:w3.ownsRow w.heap.size 3 1 (.slice A n a) n (c.az.map I):=kz pI.out hk3 hrw;have He:=ae (dW (u:=I (-1)) (p:=⟨cb,co+2,none⟩) ho3 (eU ho3 cb hcl));clear hr3 hp3 hk3 WB HC2 ho3 d2;go_wp2_with fail;obtain ⟨w4,hw4⟩:∃W,w3.setCell ⟨cb,co+2,none⟩ (I (-1))=W:=⟨_,rfl⟩;rw [hw4] at FC HR4 He ⊢;refine (zQ M w4 rb cb (co+3) none 0 R ((FC.out.cell (co+3)).trans (by rw [Array.getElem?_setIfInBounds_ne (by omega)];exact g3)) HR4.out).mono ?_;rintro e w5 ⟨rfl,uH,hk5⟩;have uO:=ae uH;have QK:=ae (FC.out.ui hk5 (dP hcl FC.out.size) hne);have pR:=ae (kz He.out hk5 hrw);clear uH hk5 hw4 d3 e3' f3 g2 g3;go_wp2_with fail
 go_end0
 refine ⟨rfl,A,a,uO.out,?_,?_⟩
 ·have h:=QK.out;rw [←lC.out] at h;rw [HN.out];exact h
 ·rw [HN.out];exact pR.out
def tX (cs:Array Value) (eo:Nat) (e:Ze) (A:Option Addr) (a:Nat):Array Value:=
 (((((cs.setIfInBounds eo (.string e.name)).setIfInBounds (eo+1) (I e.z.cal.aX)).setIfInBounds (eo+1+1) (.slice A e.z.cal.az.length a)).setIfInBounds (eo+1+2) (I (-1))).setIfInBounds (eo+1+4) (I e.z.start)).setIfInBounds (eo+1+6) (I e.z.hor)
def Yp (M:Nat) (w:World) (rb eb eo:Nat) (t:TypeId) (cs:Array Value) (x:Ze) (R:List UInt8) (e:Ending) (w':World):Prop:=
 e= .returned (.tuple #[])∧∃A a,jV M w' rb R∧dU w rb eb t (tX cs eo x A a) w'∧w'.ownsRow w.heap.size 3 1 (.slice A x.z.cal.az.length a) x.z.cal.az.length (x.z.cal.az.map I)
theorem GI (M:Nat) (w:World) (rb eb eo:Nat) (t:TypeId) (cs:Array Value) (x:Ze) (R:List UInt8) (hf:gU x.z) (hs:x.name.size≤32) (hr:jV M w rb (oD x++R)) (hp:w.heap[eb]? =some (.cells cs t (0,0))) (hz:∀j,j<9→cs[eo+j]? =jo[j]?) (hM:M≤eb) (hne:eb≠rb):
  Calls Tryz.prog 49 #[.iface 134 (pt rb), .pointer (some ⟨eb,eo,none⟩)] w (Yp M w rb eb eo t cs x R):=by
 have hel:eb<w.heap.size:=(bT.1 hp).1;have hrw:=hr.lt;have hz0:cs[eo]? =some (.string ⟨#[]⟩):=hz 0 (by decide);have hz8:eo+8<cs.size:=(bT.1 ((hz 8 (by decide)).trans (rfl:jo[8]? =some (.slice none 0 0)))).1;have hr':jV M w.drew rb ((le x.name.size 1++x.name.data.toList)++(ja x.z.cal++(le x.z.start 2++(le 0 2++(le x.z.hor 8++(le 0 1++R)))))):=by
  have h:=hr.drew;unfold oD at h;simpa only [List.append_assoc] using h
 have lV:=ae (Fa M w.drew rb eb eo t cs ⟨#[]⟩ x.name _ hr' (by omega) hp hz0 hM hne);have HZ:Hid (∀j,1≤j→j<9→cs[eo+j]? =jo[j]?):=ae fun j _ hj=>hz j hj;have HF:=ae hf;have Tz:=hf.start;have hho0:=hf.hor;clear hf hs hr hr' hp hz hz0;unfold Yp;go_enter Tryz.func49,Tryz.ntmps49;go_wp2_with fail;go_still_tail 7,(by kernel_rfl);go_wp2_with fail;refine lV.out.mono ?_;rintro e w1 ⟨rfl,hr1,hp1⟩;obtain ⟨C1,SQ⟩:∃C,cs.setIfInBounds eo (.string x.name)=C:=⟨_,rfl⟩;rw [SQ] at hp1;have k1:∀j,1≤j→j<9→C1[eo+j]? =jo[j]? :=fun j h1 h2=>by rw [←SQ,Array.getElem?_setIfInBounds_ne (by omega)];exact HZ.out j h1 h2
 have l1:C1.size=cs.size:=by rw [←SQ,Array.size_setIfInBounds]
 have wY:=ae hp1.iV;have nY:=ae SQ;have HC2:=ae (su M w1 rb eb (eo+1) t C1 x.z.cal _ HF.out.cal hr1 hp1.tgt (by omega) (k1 2 (by decide) (by decide)) (k1 3 (by decide) (by decide)) (k1 4 (by decide) (by decide)) hM hne);have iF:=ae k1;clear hr1 hp1 lV SQ k1;go_wp2_with fail;refine HC2.out.mono ?_;rintro e w2 ⟨rfl,A,a,hr2,hp2,ho2⟩;obtain ⟨C2,hC2⟩:∃C,((C1.setIfInBounds (eo+1) (I x.z.cal.aX)).setIfInBounds (eo+1+1) (.slice A x.z.cal.az.length a)).setIfInBounds (eo+1+2) (I (-1))=C:=⟨_,rfl⟩;rw [hC2] at hp2;have k2:∀j,4≤j→j<9→C2[eo+j]? =jo[j]? :=fun j h1 h2=>by rw [←hC2,Array.getElem?_setIfInBounds_ne (by omega),Array.getElem?_setIfInBounds_ne (by omega),Array.getElem?_setIfInBounds_ne (by omega)];exact iF.out j (by omega) h2
 have l2:C2.size=cs.size:=by rw [←hC2,Array.size_setIfInBounds,Array.size_setIfInBounds,Array.size_setIfInBounds];exact l1
 have HP2:=ae (wY.out.trans hp2);have pI:=ae (bf ho2 wY.out.size);have lC:=ae hC2;have sG:=ae (zt M w2.drew rb eb (eo+1+4) t C2 x.z.start _ hr2.drew (by omega) (by omega) hp2.tgt (by omega) hM hne);have iO:=ae k2;clear hr2 hp2 ho2 HC2 hC2 k2;go_wp2_with fail;go_still_tail 7,(by kernel_rfl);go_wp2_with fail;refine sG.out.mono ?_;rintro e w3 ⟨rfl,hr3,hp3⟩;obtain ⟨C3,SS⟩:∃C,C2.setIfInBounds (eo+1+4) (I x.z.start)=C:=⟨_,rfl⟩;rw [SS] at hp3;have k3:∀j,6≤j→j<9→C3[eo+j]? =jo[j]? :=fun j h1 h2=>by rw [←SS,Array.getElem?_setIfInBounds_ne (by omega)];exact iO.out j (by omega) h2
 have l3:C3.size=cs.size:=by rw [←SS,Array.size_setIfInBounds];exact l2
 have hk3:∀b,w.heap.size≤b→b<w2.heap.size→w3.heap[b]? =w2.heap[b]? :=fun b h1 h2=>hp3.block b h2 (by omega) (by omega);have vg:=ae (dH pI.out hk3);have rq:=ae (HP2.out.trans hp3.iV);have Ac:=ae SS;have sQ:=ae (qU M w3 rb eb (eo+1+5) none 0 _ ((hp3.cell _).trans (k3 6 (by decide) (by decide))) hr3);have mV:=ae k3;clear hr3 hp3 sG SS k3 hk3;go_wp2_with fail;refine sQ.out.mono ?_;rintro e w4 ⟨rfl,hr4,hk4⟩;have FC:=ae (rq.out.ui hk4 (dP hel rq.out.size) hne);have He:=ae (kz vg.out hk4 hrw);have zY:=ae (iK M w4.drew rb eb (eo+1+6) 8 t C3 x.z.hor x.z.hor _ hr4.drew (by omega) (YK _ (by unfold fits;omega) _) FC.out.tgt (by omega) hM hne);clear hr4 hk4 sQ;go_wp2_with fail;go_still_tail 7,(by kernel_rfl);go_wp2_with fail;refine zY.out.mono ?_;rintro e w5 ⟨rfl,uH,J5⟩;have hk5:∀b,w.heap.size≤b→b<w4.heap.size→w5.heap[b]? =w4.heap[b]? :=fun b h1 h2=>J5.block b h2 (by omega) (by omega);have pR:=ae (dH He.out hk5);have QK:=ae (FC.out.trans J5.iV);have sH:=ae (zS M w5 rb eb (eo+1+7) none 0 R ((J5.cell _).trans (by rw [Array.getElem?_setIfInBounds_ne (by omega)];exact mV.out 8 (by decide) (by decide))) uH);clear uH J5 zY hk5;go_wp2_with fail;refine sH.out.mono ?_;rintro e w6 ⟨rfl,Dz,hk6⟩;have zD:=ae Dz;have Hu:=ae (QK.out.ui hk6 (dP hel QK.out.size) hne);have wX:=ae (kz pR.out hk6 hrw);clear Dz hk6 sH;go_wp2_with fail
 go_end0
 refine ⟨rfl,A,a,zD.out,?_,wX.out⟩;have h:=Hu.out;rw [←Ac.out,←lC.out,←nY.out] at h;exact h
end Go.Proofs.YtdibbemgpikgjaaGreatDoor
