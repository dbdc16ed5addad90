/- The texts Lq, Lr, Wu, Wn, Wo, in this order. -/
import Derived.Test.YtbaehbbonkljpaaGreatDoorT45
set_option maxRecDepth 10000
set_option maxHeartbeats 8000000
namespace Go.Proofs.YtbaehbbonkljpaaGreatDoor
open Go Go.RowKit
theorem aml {z:Zn}(h:arw z):Qs z:=by
 have hm:=h.1;refine⟨by rw[hm.cal.mo];omega,by have:=hm.cal.ru;omega,by have:=hm.trl;omega,?_⟩;rcases hm.yr with e|⟨r0,r1,e,_,_⟩<;>rw[e]<;>simp
theorem TbF.len {y:Kv}(h:TbF y):y.zs.length<=1000/\∀z∈y.zs,Qs z.e.z:=by
 have e:=h.names;refine⟨?_,fun z hz=>?_⟩
 ·have h2:=h.made.num;rw[e,aI] at h2;omega
 ·exact aml (h.made.JX z.e (by rw[e];exact fM hz))
def XY (lo:Nat)(v:ah)(W:ae)(x:Ue):Prop:=LV lo v W x.A (x.ts.flatMap Kv.cells)/\∀y∈x.ts,MX lo v W y
theorem XY.keep {lo:Nat}{v v':ah}{W W':ae}{x:Ue}(h:XY lo v W x)(hs:W.heap.size<=W'.heap.size)(hb:∀b,lo<=b->b<W.heap.size->some b≠v.ownBlock->W'.heap[b]? =W.heap[b]? /\some b≠v'.ownBlock):XY lo v' W' x:=
 ⟨h.1.keep hs hb,fun y hy=>(h.2 y hy).keep hs hb⟩
theorem XY.of {lo lo':Nat}{v:ah}{W:ae}{x:Ue}(h:LJ W W.heap.size x.A x.ts)(h2:ajy lo' x.A x.ts)(hlo:lo<=lo')(hv:∀b,lo'<=b->b<W.heap.size->some b≠v.ownBlock):XY lo v W x:=
 ⟨.of2 h.row (ay _) h2.1 hlo hv,fun y hy=>.of (h.each y hy) (ay _) (h2.2 y hy) hlo hv⟩
structure ChF (x:Ue):Prop where
 len:x.ts.length<=5
 each:∀y∈x.ts,TbF y
theorem ChF.at {x:Ue}(h:ChF x){lo:Nat}{v:ah}{W:ae}(hm:XY lo v W x):LJ W W.heap.size x.A x.ts:=⟨hm.1.at,fun y hy=>(h.each y hy).at (hm.2 y hy)⟩
theorem ChF.ch {x:Ue}(h:ChF x):x.ts.length<=1000/\TC x.ts:=⟨by have:=h.len;omega,fun y hy=>(h.each y hy).len⟩
structure CsW (w:ae)(k c:Nat)(A:aj Addr)(cs:ag Ue)(W:ae):Prop where
 lo:ai w.heap.size w W
 own:W.ownsRow w.heap.size 32 1 (.slice A k c) k (cs.map Ue.cell)
 mem:∀x∈cs,XY w.heap.size (.slice A k c) W x
 each:∀x∈cs,ChF x
section
variable {w W W':ae}{k c:Nat}{A:aj Addr}{cs:ag Ue}
theorem CsW.grow (h:CsW w k c A cs W)(hb:ai W.heap.size W W'):CsW w k c A cs W':=
 ⟨JL h.lo hb,own_below h.own hb,fun x hx=>(h.mem x hx).keep hb.size fun b _ h2 h3=>⟨hb.block b h2,h3⟩,h.each⟩
theorem CsW.at (h:CsW w k c A cs W):XA W W.heap.size A cs:=⟨JS.Le h.own,fun x hx=>(h.each x hx).at (h.mem x hx)⟩
theorem CsW.len (h:CsW w k c A cs W):ajA cs:=fun x hx=>(h.each x hx).ch
theorem CsW.start (h:ai w.heap.size w W):CsW w 0 0 none [] W:=⟨h,dD _ _ _ _,(fun _ h=>nomatch h),(fun _ h=>nomatch h)⟩
theorem CsW.Tc (h:CsW w k c A cs W):∀b,W.heap.size<=b->some b≠(Value.slice A k c).ownBlock:=fun b hb e=>by
 have:=dU h.own b e.symm;omega
theorem CsW.add {Wb w6:ae}{gg cap:Nat}{x:Ue}(h:CsW w k c A cs W)(hx:XY w.heap.size (.slice A k c) W x)(hf:ChF x)(Xg:Wb=W.alloc (.cells #[x.cell] 32))
  (hown:w6.ownsRow w.heap.size 32 1 (.slice (some ⟨gg,0,none⟩) (k+1) cap) (k+1) (cs.map Ue.cell++ [x.cell]))(hg:Wb.grownBy w6 (Value.slice A k c).ownBlock)(hat:(Value.slice A k c).ownBlock=some gg\/gg=Wb.heap.size):
  CsW w (k+1) cap (some ⟨gg,0,none⟩) (cs++ [x]) w6:=by
 have hsb:Wb.heap.size=W.heap.size+1:=by rw[Xg];simp
 have hs6:W.heap.size<=w6.heap.size:=by have:=hg.size;omega
 have hbl:∀b,b<W.heap.size->some b≠(Value.slice A k c).ownBlock->w6.heap[b]? =W.heap[b]? :=fun b hb hn=>
  (hg.block b (by omega) hn).trans (by rw[Xg];exact aV W _ b hb)
 have hmm:∀b,w.heap.size<=b->b<W.heap.size->some b≠(Value.slice A k c).ownBlock->w6.heap[b]? =W.heap[b]? /\some b≠(Value.slice (some ⟨gg,0,none⟩) (k+1) cap).ownBlock:=fun b h1 h2 h3=>by
  refine⟨hbl b h2 h3,fun e=>?_⟩;have e2:b=gg:=by simpa[Value.ownBlock] using e
  rcases hat with e3|e3
  ·exact h3 (by rw[e2];exact e3.symm)
  ·omega
 have hle:=h.lo.size;have h1:ai w.heap.size w Wb:=by rw[Xg];exact JL h.lo (JM W _)
 have hob:Wb.ownsRow w.heap.size 32 1 (.slice A k c) k (cs.map Ue.cell):=by rw[Xg];exact own_below h.own (JM W _)
 refine⟨KJ h1 hob (by omega) hg,by simpa using hown,fun x' hx'=>?_,fun x' hx'=>?_⟩
 ·rcases dm.1 hx' with h1|h1
  ·exact(h.mem x' h1).keep hs6 hmm
  ·obtain rfl:=aY.1 h1;exact hx.keep hs6 hmm
 ·rcases dm.1 hx' with h1|h1
  ·exact h.each x' h1
  ·obtain rfl:=aY.1 h1;exact hf
end
theorem amv:Tryz.zeroCells26=JK J8 (.slice none 0 0):=by kernel_rfl
def agU (cs:ag Ue)(zs:ag Int)(name:ByteArray)(zc:ax ah)(at_ f:Int)(W:ae):Prop:=
 (f=4/\∀k∈zs,pk cs name k=none)\/(f=0/\∃j z s,zs[j]? =some at_/\pk cs name at_=some z/\(∀(i:Nat) (k':Int),i<j->zs[i]? =some k'->pk cs name k'=none)/\zc=JV z s/\N7 W W.heap.size s z/\Qs z)
theorem N7.awl {w w':ae}{s:Zs}{z:Zn}(h:N7 w w.heap.size s z)(hb:ai w.heap.size w w'):N7 w' w'.heap.size s z:=(h.keep hb).more hb.size
theorem agU.grow {cs:ag Ue}{zs:ag Int}{name:ByteArray}{zc:ax ah}{at_ f:Int}{W W':ae}(h:agU cs zs name zc at_ f W)(hb:ai W.heap.size W W'):agU cs zs name zc at_ f W':=by
 rcases h with h|⟨h0,j,z,s,h1,h2,h3,h4,h5,h6⟩
 ·exact .inl h
 ·exact .inr ⟨h0,j,z,s,h1,h2,h3,h4,h5.awl hb,h6⟩
structure LsW (w:ae)(m k c:Nat)(A:aj Addr)(zs:ag Int)(W:ae):Prop where
 lo:ai w.heap.size w W
 own:W.ownsRow w.heap.size 3 1 (.slice A k c) k (zs.map I)
 rng:∀z∈zs,0<=z/\z<(m:Int)
section
variable {w W W':ae}{m k c:Nat}{A:aj Addr}{zs:ag Int}
theorem LsW.grow (h:LsW w m k c A zs W)(hb:ai W.heap.size W W'):LsW w m k c A zs W':=⟨JL h.lo hb,own_below h.own hb,h.rng⟩
theorem LsW.at (h:LsW w m k c A zs W):OT W W.heap.size A zs:=JS.ints (JS.Le h.own)
theorem LsW.len (h:LsW w m k c A zs W):zs.length=k:=by have:=h.own.1;simpa using this
theorem LsW.cap (h:LsW w m k c A zs W):k<=c:=by
 rcases h.own.2 with ⟨hv,hn⟩|⟨g,cap,cur,hv,_,_,h2,_⟩
 ·omega
 ·injection hv with _ _ h3;omega
theorem LsW.start (w:ae)(m:Nat):LsW w m 0 0 none [] w:=⟨aW _ w,dD _ _ _ _,fun _ h=>nomatch h⟩
theorem LsW.lit (w:ae)(m:Nat):LsW w m 0 0 (some ⟨w.heap.size,0,none⟩) [] (w.alloc (.cells #[] 3)):=
 ⟨JM w _,⟨rfl,.inr ⟨w.heap.size,0,#[],rfl,ay _,aF w _,ay _,aG _,rfl,rfl⟩⟩,fun _ h=>nomatch h⟩
theorem LsW.add {Wb w6:ae}{A':aj Addr}{c' q:Nat}(h:LsW w m k c A zs W)(news:ag Int)(hr:∀z∈news,0<=z/\z<(m:Int))(hb:ai W.heap.size W Wb)
  (hown:w6.ownsRow w.heap.size 3 1 (.slice A' (k+q) c') (k+q) (zs.map I++news.map I))(hg:Wb.grownBy w6 (Value.slice A k c).ownBlock):LsW w m (k+q) c' A' (zs++news) w6:=by
 have h2:=h.grow hb;refine⟨KJ h2.lo h2.own h2.lo.size hg,by rw[bY];exact hown,fun z hz=>?_⟩;rcases dm.1 hz with h1|h1
 ·exact h.rng z h1
 ·exact hr z h1
end
structure PfW (w:ae)(m k:Nat)(A L:aj Addr)(cs:ag Ue)(zs:ag Int)(name:ByteArray)(bz:Nat)(zc:ax ah)(at_ f:Int)(W:ae):Prop where
 lo:ai w.heap.size w W
 chs:XA W W.heap.size A cs
 l:OT W W.heap.size L zs
 z:Row W bz zc
 pr:agU cs zs name zc at_ f W
theorem PfW.grow {w W W':ae}{m k:Nat}{A L:aj Addr}{cs:ag Ue}{zs:ag Int}{name:ByteArray}{bz:Nat}{zc:ax ah}{at_ f:Int}(h:PfW w m k A L cs zs name bz zc at_ f W)(hb:ai W.heap.size W W'):PfW w m k A L cs zs name bz zc at_ f W':=
 ⟨JL h.lo hb,h.chs.grow hb,(h.l.keep hb).more hb.size,h.z.keep hb,h.pr.grow hb⟩
theorem aln {o:aj Nat}(h:onI o<0):o=none:=by
 cases o with
 |none=>rfl
 |some i=>exact absurd h (by show¬((i:Nat):Int)<0;omega)
theorem alo {o:aj Nat}{i:Nat}(h:onI o=(i:Int)):o=some i:=by
 cases o with
 |none=>exact absurd h (by show¬(-1:Int)=(i:Int);omega)
 |some j=>
  have h1:((j:Nat):Int)=(i:Int):=h;rw[show j=i by omega]
theorem ali (w:ae)(A:aj Addr)(n c:Nat)(ts:ag Kv)(hn:ts.length=n)(hn1:n<=1000)(hl:TC ts)(hC:LJ w w.heap.size A ts):
  Calls Tryz.prog 14 #[.slice A n c] w (TbQ w (VN ts).1 (VN ts).2):=by
 refine(ZU A c n ts w hn hn1 hl hC).mono fun e w' h=>?_;obtain⟨hb,p,b,hp,h1|h1|h1⟩:=h
 ·obtain⟨hbf,he⟩:=h1;have hok:RD ts=false:=by
   cases hc:RD ts with
   |false=>rfl
   |true=>
    unfold TM at hp;rw[bD hc] at hp;have:=dA Prod.snd hp;rw[hbf] at this;cases this
  rw[Xk hok,he,amv];exact TbQ.zero _ _ _ hb
 ·obtain⟨hbt,hlt,he⟩:=h1;have hok:RD ts=true:=by
   cases hc:RD ts with
   |true=>rfl
   |false=>
    unfold TM at hp;rw[bP (by rw[hc];decide)] at hp;have:=dA Prod.snd hp;rw[hbt] at this;cases this
  have hcr:=ag0 hok;rw[hp] at hcr;have hno:=aln (o:=YZ ts (RS ts ts.length) ts.length) (by rw[<-hcr];exact hlt);rw[ahg hok hn (by rw[<-hn];exact hno),he,amv];exact TbQ.zero _ _ _ hb
 ·obtain⟨hbt,i,x,y,hpi,hx,hy1,hy2,he,ho⟩:=h1;have hok:RD ts=true:=by
   cases hc:RD ts with
   |true=>rfl
   |false=>
    unfold TM at hp;rw[bP (by rw[hc];decide)] at hp;have:=dA Prod.snd hp;rw[hbt] at this;cases this
  have hcr:=ag0 hok;rw[hp] at hcr;have hso:=alo (o:=YZ ts (RS ts ts.length) ts.length) (i:=i) (by rw[<-hcr];exact hpi);rw[acu hok hn (ay n) (by rw[<-hn];exact hso) hx];exact⟨y,by unfold Pq;rw[hy1,hy2],he,ho.at,hb⟩
theorem adF (a b:ag au):(a==b)=(b==a):=by
 by_cases h:a=b
 ·rw[h]
 ·rw[ou.2 h,ou.2 (Ne.symm h)]
theorem aoq (x:Kv)(w:ae)(hx:Ld w w.heap.size x)(h0:O0 x.t=0)(hL:(O4 x.t).length<=90000):
  Calls Tryz.prog 40 #[.agg (JK x.t (.slice x.A x.zs.length x.c))] w (Gives (.agg (cellsB (OE Qm (O4 x.t++x.t.Ku)))) w):=by
 have e1:O4 x.t=PN x.t:=bD h0;rw[e1] at hL⊢;refine(ak3 x w hx h0 (by rw[VB];exact hL)).mono fun e w' h=>?_;obtain⟨d,_,hd,he,hb⟩:=h;rw[hd];exact⟨he,hb⟩
theorem TA (w:ae)(key:ag au)(hk:key.length=32)(u:Kv)(hA:Ld w w.heap.size u)(hl9:(O4 u.t).length<=90000)
  (C:aj Addr)(m cc:Nat)(ts:ag Kv)(hm:ts.length=m)(hm1:m<64)(hC:LJ w w.heap.size C ts)(hT:∀x∈ts,(O4 x.t).length<=90000)(r:Int)(hr:Rk Qm key ts u.t=r):
  Calls Tryz.prog 37 #[.slice C m cc,.agg (cellsB key),.agg (JK u.t (.slice u.A u.zs.length u.c))] w (Gives (I r) w):=by
 have HF:Hid (u.t.prev.length=32/\u.t.Ku.length=32):=JJ ⟨hA.prev,hA.Ku⟩;have UG:=JJ (aeo key u hA);have L6:Hid (∀v,(Tryz.prog.info? 26).map (·.size)=some (JK u.t v).size):=JJ fun v=>Ky u.t v hA.prev hA.Ku;have HKI:=JJ (Na key hk);have HSL:Hid (∀W,ai w.heap.size w W->Calls Tryz.prog 12 #[.agg (cellsB key),.agg (JK u.t (.slice u.A u.zs.length u.c))] W (SlB W (VR key u.t) (VR key u.t).JX.length (O0 u.t))):=JJ fun W hb=>ahu key hk u W (hA.grow hb) hl9;have HVL:Hid (∀x,x∈ts->∀W,ai w.heap.size w W->Calls Tryz.prog 33 #[.agg x.cells.toArray] W (Gives (I (O0 x.t)) W)):=JJ fun x hx W hb=>
  Wv x.t x.A x.zs.length x.c x.zs W (hC.each x hx).prev (hC.each x hx).Ku (hC.each x hx).names rfl ((hC.each x hx).JX.grow hb)
 have HLK:Hid (∀x,x∈ts->O0 x.t=0->∀W,ai w.heap.size w W->Calls Tryz.prog 40 #[.agg x.cells.toArray] W (Gives (.agg (JO (OE Qm (O4 x.t++x.t.Ku))).toArray) W)):=JJ fun x hx h0 W hb=>
  aoq x W ((hC.each x hx).grow hb) h0 (hT x hx)
 obtain⟨t,A,c,zs⟩:=u;simp only at HF UG L6 HSL hr;obtain⟨n,hn⟩:∃n,zs.length=n:=⟨_,rfl⟩;obtain⟨T,hTT⟩:∃T,VR key t=T:=⟨_,rfl⟩;obtain⟨rv,U1⟩:∃r,O0 t=r:=⟨_,rfl⟩;have VK:=JJ U1;have HTM:Hid (rv=0->T.Ku=QR Qm key (PN t)):=JJ fun h=>by rw[<-hTT];unfold VR;rw[bD (U1.trans h)]
 rw[hTT,U1,hn] at HSL;rw[hTT] at UG;obtain⟨nT,hnT⟩:∃n,T.JX.length=n:=⟨_,rfl⟩;rw[hnT] at HSL;simp only[hn];have HR:=JJ hr;have HC:=JJ hC;have Qc:=JJ hm;have H0:=JJ (V2.start w 24 (cellsB key) 26 (JK t (.slice A n c)));have HTI:Hid (∀v,(Tryz.prog.info? 26).map (·.size)=some (JK T v).size):=JJ fun v=>Ky T v UG.out.1 UG.out.2;have HTZ:Hid (∀v,(JK J8 (.slice none 0 0)).size=(JK T v).size):=JJ fun v=>(Kq J8 _ rfl rfl).trans (Kq T v UG.out.1 UG.out.2).symm;have HUD:Hid (Tryz.prog.underlying 24=some (.array 32 5)):=JJ aK;have HI1:Hid ((Tryz.prog.info? 24).map (·.size)=some (JO T.Ku).length):=JJ (by have:=Na T.Ku UG.out.2;rw[this];simp[cellsB]);have HI2:Hid ((Tryz.prog.info? 24).map (·.size)=some (JO t.Ku).length):=JJ (by have:=Na t.Ku HF.out.2;rw[this];simp[cellsB]);have HI4:Hid ((Tryz.prog.info? 24).map (·.size)=some (JO t.prev).length):=JJ (by have:=Na t.prev HF.out.1;rw[this];simp[cellsB]);have i0:¬(64:Int)<=(m:Int):=by omega
 clear hA hk hC hT hr hm hl9 hn U1 hTT hnT;go_enter Tryz.func37,Tryz.ntmps37;go_upto_region 1 with fail;generalize (w.alloc (.cells (cellsB key) 24)).alloc (.cells (JK t (.slice A n c)) 26)=W0 at H0⊢;go_wp2_with(first
  |((with_reducible refine KO 24 ?_);refine J3 rfl _ _ rfl w.heap.size rfl (cellsB key) H0.out.s.Nc _ aK rfl HKI.out ?_)
  |((with_reducible refine KO 26 ?_);refine J3 rfl _ _ rfl (w.heap.size+1) rfl (JK t (.slice A n c)) H0.out.r.Nc _ az rfl (L6.out _) ?_))
 refine(HSL.out W0 H0.out.lo).mono ?_;rintro e w1 ⟨A1,c1,ys,rfl,_,_,b1⟩;have H1:=JJ (H0.out.grow b1);clear b1 H0 HSL;have Yw:=JJ (aF w1 (.cells (JK J8 (.slice none 0 0)) 26));have YJ:Hid (AV w1.heap.size 26 (JK T (.slice A1 nT c1)) ((w1.alloc (.cells (JK J8 (.slice none 0 0)) 26)).setRow w1.heap.size (JK T (.slice A1 nT c1)))):=JJ ⟨aQ _ _ _ _ _ _ Yw.out⟩;have HQ:=JJ (H1.out.grow (JR (JM w1 (.cells (JK J8 (.slice none 0 0)) 26)) (ay _) (JK T (.slice A1 nT c1))));go_upto_region 4 with (first
  |((with_reducible refine Kz 26 ?_);refine JW rfl _ rfl (JK J8 (.slice none 0 0)) aoF ?_)
  |((with_reducible refine KZ 26 ?_);refine aB rfl _ _ _ rfl w1.heap.size (JK T (.slice A1 nT c1)) rfl rfl 26 (JK J8 (.slice none 0 0)) Yw.out (HTI.out _) (HTZ.out _) (J9 _ _ _ _) ?_))
 generalize (w1.alloc (.cells (JK J8 (.slice none 0 0)) 26)).setRow w1.heap.size (JK T (.slice A1 nT c1))=w2 at YJ HQ⊢;obtain⟨sb,hsb⟩:∃b,w1.heap.size=b:=⟨_,rfl⟩;rw[hsb] at YJ;simp only[hsb];clear Yw H1 hsb;by_cases h0:rv=0
 ·subst h0;have HM:=JJ (HTM.out rfl);have Xx:Hid (w2.rangeAt sb 36 (JO T.Ku)):=JJ (Vo T _ (Row.Nk YJ.out.var) UG.out.1);have HM2:Hid (w2.rangeAt (w.heap.size+1) 36 (JO t.Ku)):=JJ (Vo t _ (Row.Nk HQ.out.r.var) HF.out.1);obtain⟨q,hq⟩:∃q,(!(T.Ku==t.Ku))=q:=⟨_,rfl⟩;have HQB:Hid ((!(t.Ku==QR Qm key (PN t)))=q):=JJ (by rw[<-HM.out,<-hq,adF]);have hqq:∀W,(binOp .neq 24 (.agg (JO T.Ku).toArray) (.agg (JO t.Ku).toArray)).run Tryz.prog W=.ok (.bool q) W:=fun W=>by rw[YY W _ _ UG.out.2 HF.out.2,hq]
  clear hq;have cv:w2.cell? ⟨w.heap.size+1,1,none⟩=some (I t.version):=((Row.Nk HQ.out.r.var).2 1).trans (NU _ _);have ht0:=JJ VK.out;cases q with
  |true=>
   have hr2:r=8:=by rw[<-HR.out,U6 ht0.out];unfold aaT;rw[HQB.out];rfl
   subst hr2;go_wp2_with(first
    |((with_reducible refine KO 24 ?_);refine Kt rfl _ _ rfl sb 36 rfl (JO T.Ku) Xx.out _ aK rfl HI1.out ?_)
    |((with_reducible refine KO 24 ?_);refine Kt rfl _ _ rfl (w.heap.size+1) 36 rfl (JO t.Ku) HM2.out _ aK rfl HI2.out ?_))
   go_ret;exact⟨rfl,HQ.out.lo⟩
  |false=>
   go_upto_region 8 with (first
    |((with_reducible refine KO 24 ?_);refine Kt rfl _ _ rfl sb 36 rfl (JO T.Ku) Xx.out _ aK rfl HI1.out ?_)
    |((with_reducible refine KO 24 ?_);refine Kt rfl _ _ rfl (w.heap.size+1) 36 rfl (JO t.Ku) HM2.out _ aK rfl HI2.out ?_))
   clear hqq Xx HM2;by_cases hv:t.version=(m:Int)+1
   ·have HV:=JJ hv;rw[hv] at cv;clear hv;by_cases h0:m=0
    ·have hr2:r=0:=by rw[<-HR.out,U6 ht0.out];unfold aaT;rw[HQB.out,Qc.out,HV.out,h0,bu (Qc.out.trans h0)];rfl
     subst hr2;have hz:(m:Int)=0:=by omega
     go_wp2_with fail;go_ret;exact⟨rfl,HQ.out.lo⟩
    ·obtain⟨k,hk⟩:∃k,m=k+1:=⟨m - 1,by omega⟩;have hkl:k<ts.length:=by rw[Qc.out];omega
     obtain⟨x,hx⟩:∃x,ts[k]? =some x:=⟨_,KL hkl⟩;have hxm:=LQ hx;obtain⟨cb,co,rfl,hcb,hTA⟩:∃b off,C=some ⟨b,off,none⟩/\b<w.heap.size/\OC w b off ts:=by
      rcases OG HC.out with h1|h1
      ·omega
      ·exact h1
     have he:Hid ((m:Int) - 1=(k:Int)):=JJ (by omega);have i3:((m:Int)==0)=false:=by simp;omega
     have i4:(m==0)=false:=by simp;omega
     have i5:¬(m:Int)=0:=by omega
     have hxa:=HC.out.each x hxm;have Uj:Hid (w2.rangeAt cb (co+k*68) x.cells):=JJ (JY (hTA k x hx).1 HQ.out.lo hcb);have Ud:Hid ((Tryz.prog.info? 26).map (·.size)=some x.cells.length):=JJ (by rw[(hTA k x hx).2];kernel_rfl);have NZ:=JJ (HVL.out x hxm);have arh:=JJ (HLK.out x hxm);have UZ:Hid ((Tryz.prog.info? 26).map (·.size)=some x.cells.toArray.size):=JJ (Ky x.t _ hxa.prev hxa.Ku);have HXZ:Hid ((JK J8 (.slice none 0 0)).size=x.cells.toArray.size):=JJ ((Kq J8 _ rfl rfl).trans (Kq x.t (.slice x.A x.zs.length x.c) hxa.prev hxa.Ku).symm);have HXO:Hid (x.cells.toArray.all (·.oneCell')=true):=JJ (J9 _ _ _ _);obtain⟨P,hP⟩:∃P,OE Qm (O4 x.t++x.t.Ku)=P:=⟨_,rfl⟩;have Oy:P.length=32:=by rw[<-hP];exact Nj _ _
     have TE:=JJ Oy;obtain⟨rx,hrx⟩:∃r,O0 x.t=r:=⟨_,rfl⟩;obtain⟨q2,hq2⟩:∃q,(!(t.prev==P))=q:=⟨_,rfl⟩;have HRR:Hid (r=if (rx==0)=false then 9 else if q2=true then 9 else if¬x.t.J5=t.J5 then 9 else 0):=JJ (by
      rw[<-HR.out,U6 ht0.out];unfold aaT;rw[HQB.out,Qc.out,HV.out,show m - 1=k by omega,hx,<-hrx,<-hq2,<-hP,adF t.prev];simp)
     have PR:Hid (∀W,(binOp .neq 24 (.agg (JO t.prev).toArray) (.agg (JO P).toArray)).run Tryz.prog W=.ok (.bool q2) W):=JJ fun W=>by rw[YY W _ _ HF.out.1 Oy,hq2]
     rw[hrx] at NZ;rw[hP,hrx] at arh;have aqz:=JJ (aF w2 (.cells (JK J8 (.slice none 0 0)) 26));have ajC:Hid (AV w2.heap.size 26 x.cells.toArray ((w2.alloc (.cells (JK J8 (.slice none 0 0)) 26)).setRow w2.heap.size x.cells.toArray)):=JJ ⟨aQ _ _ _ _ _ _ aqz.out⟩;have HQ5:=JJ (HQ.out.grow (JR (JM w2 (.cells (JK J8 (.slice none 0 0)) 26)) (ay _) x.cells.toArray));clear hkl hx hxm hTA hP Oy hq2 hk hrx hxa;go_upto_region 12 with fail;have he:=he.out;have i1:(0:Int)<=(k:Int):=by omega
     have i2:(k:Int)<(m:Int):=by omega
     clear i3 i4 i5 h0;go_upto_region 13 with (first
      |((with_reducible refine KO 26 ?_);refine Kt rfl _ _ rfl cb (co+k*68) rfl x.cells Uj.out _ az rfl Ud.out ?_)
      |((with_reducible refine Kz 26 ?_);refine JW rfl _ rfl (JK J8 (.slice none 0 0)) aoF ?_)
      |((with_reducible refine KZ 26 ?_);refine aB rfl _ _ _ rfl w2.heap.size x.cells.toArray rfl rfl 26 (JK J8 (.slice none 0 0)) aqz.out UZ.out HXZ.out HXO.out ?_))
     generalize (w2.alloc (.cells (JK J8 (.slice none 0 0)) 26)).setRow w2.heap.size x.cells.toArray=w5 at ajC HQ5⊢;obtain⟨L,hL⟩:∃b,w2.heap.size=b:=⟨_,rfl⟩;rw[hL] at ajC;simp only[hL];have HLW:Hid (L<w5.heap.size):=JJ ajC.out.lt;have UO:Hid (w5.drew.rangeAt L 0 x.cells/\w5.drew.rangeAt (w.heap.size+1) 4 (JO t.prev)/\w5.drew.cell? ⟨L,0,none⟩=some (I x.t.J5)/\w5.drew.cell? ⟨w.heap.size+1,0,none⟩=some (I t.J5)):=JJ ⟨fun j v hv=>by rw[aT];exact(ajC.out.cell j).trans (by simpa using hv),Tj t _ (Row.Nk HQ5.out.r.var),(ajC.out.cell 0).trans rfl,((Row.Nk HQ5.out.r.var).2 0).trans (NT _ _)⟩;have hud:=HUD.out;have hi3:=Ud.out;have hi4:=HI4.out;have hq:=PR.out;have hl2:(JO t.prev).length=32:=by simp[JO,HF.out.1]
     clear hL aqz YJ cv Uj HQ he i1 i2;refine dG (S:=(fun W=>W.rangeAt L 0 x.cells/\W.rangeAt (w.heap.size+1) 4 (JO t.prev)/\W.cell? ⟨L,0,none⟩=some (I x.t.J5)/\W.cell? ⟨w.heap.size+1,0,none⟩=some (I t.J5))) (by kernel_rfl) UO.out (fun hH=>?_);by_cases hx0:rx=0
     ·subst hx0;have HXL:=JJ (arh.out rfl);clear arh;by_cases hs:x.t.J5=t.J5
      ·have HRQ:Hid (r=if q2=true then 9 else 0):=JJ (HRR.out.trans (by simp[hs]));clear HRR;refine LG 0 _ 41 rfl rfl hH (bF (by rfl) _ _ rfl L 0 rfl x.cells _ (fun _ hW=>hW.1) az rfl hi3) ?_;clear hH;refine KX 1 (fun K hK=>?_);go_simp;go_at_call 33;refine(NZ.out w5.drew HQ5.out.lo.drew).mono ?_;rintro e w6 ⟨rfl,hb6⟩;have hlt1:L<w5.drew.heap.size:=by simpa using HLW.out
       have hlt2:w.heap.size+1<w5.drew.heap.size:=by have:=HQ5.out.r.lt;simpa using this
       have HS6:Hid (w6.rangeAt L 0 x.cells/\w6.rangeAt (w.heap.size+1) 4 (JO t.prev)/\w6.cell? ⟨L,0,none⟩=some (I x.t.J5)/\w6.cell? ⟨w.heap.size+1,0,none⟩=some (I t.J5)):=JJ ⟨JY UO.out.1 hb6 hlt1,JY UO.out.2.1 hb6 hlt2,(hb6.cell hlt1).trans UO.out.2.2.1,(hb6.cell hlt2).trans UO.out.2.2.2⟩;have HQ6:=JJ (HQ5.out.grow (lg ((aW _ w5).drew) hb6));have HL6:Hid (L<w6.heap.size):=JJ (LK hlt1 hb6.size);clear hb6 hlt1 hlt2;refine hK.out _ _ HS6.out (fun hH=>?_);clear hK K;refine JZ 2 (.bool false) 43 hH ?_;refine JZ 3 (.bool false) 44 hH ?_;refine JZ 4 (.pointer (some ⟨L,0,none⟩)) 45 hH ?_;refine JZ 5 (I x.t.J5) 46 hH ?_;refine JZ 6 (.pointer (some ⟨w.heap.size+1,0,none⟩)) 47 hH ?_;refine JZ 7 (I t.J5) 48 hH ?_;refine JZ 8 (.bool false) 49 hH ?_;refine JZ 9 (.bool false) 50 hH ?_;refine JZ 10 (.bool false) 51 hH ?_;refine JZ 11 (.pointer (some ⟨w.heap.size+1,4,none⟩)) 52 hH ?_;refine LG 12 _ 53 rfl rfl hH (bF (by rfl) _ _ rfl (w.heap.size+1) 4 rfl (JO t.prev) _ (fun _ hW=>hW.2.1) hud rfl hi4) ?_;refine LG 13 _ 54 rfl rfl hH (bF (by rfl) _ _ rfl L 0 rfl x.cells _ (fun _ hW=>hW.1) az rfl hi3) ?_;clear hH;refine KX 14 (fun K hK=>?_);go_simp;go_at_call 40;refine(HXL.out w6 HQ6.out.lo).mono ?_;rintro e w7 ⟨rfl,hb7⟩;have hlt1:=HL6.out;have hlt2:=HQ6.out.r.lt;have HS7:Hid (w7.rangeAt L 0 x.cells/\w7.rangeAt (w.heap.size+1) 4 (JO t.prev)/\w7.cell? ⟨L,0,none⟩=some (I x.t.J5)/\w7.cell? ⟨w.heap.size+1,0,none⟩=some (I t.J5)):=JJ ⟨JY HS6.out.1 hb7 hlt1,JY HS6.out.2.1 hb7 hlt2,(hb7.cell hlt1).trans HS6.out.2.2.1,(hb7.cell hlt2).trans HS6.out.2.2.2⟩;have HQ7:=JJ (HQ6.out.grow hb7);clear hb7 hlt1 hlt2;refine hK.out _ _ HS7.out (fun hH=>?_);clear hK K;refine JZ 15 (.bool q2) 56 hH ?_;refine JZ 16 (.bool q2) 57 hH ?_;clear hH;refine dC (by kernel_rfl) ?_ _;clear hud hi3 hi4 hq hl2;cases q2 with
       |true=>
        obtain rfl:r=9:=HRQ.out;go_wp2_with fail;go_ret;exact⟨rfl,HQ7.out.lo⟩
       |false=>
        obtain rfl:r=0:=HRQ.out;go_wp2_with fail;go_ret;exact⟨rfl,HQ7.out.lo⟩
      ·obtain rfl:r=9:=HRR.out.trans (by simp[hs]);clear HRR;refine LG 0 _ 41 rfl rfl hH (bF (by rfl) _ _ rfl L 0 rfl x.cells _ (fun _ hW=>hW.1) az rfl hi3) ?_;clear hH;refine KX 1 (fun K hK=>?_);go_simp;go_at_call 33;refine(NZ.out w5.drew HQ5.out.lo.drew).mono ?_;rintro e w6 ⟨rfl,hb6⟩;have hlt1:L<w5.drew.heap.size:=by simpa using HLW.out
       have hlt2:w.heap.size+1<w5.drew.heap.size:=by have:=HQ5.out.r.lt;simpa using this
       have HS6:Hid (w6.rangeAt L 0 x.cells/\w6.rangeAt (w.heap.size+1) 4 (JO t.prev)/\w6.cell? ⟨L,0,none⟩=some (I x.t.J5)/\w6.cell? ⟨w.heap.size+1,0,none⟩=some (I t.J5)):=JJ ⟨JY UO.out.1 hb6 hlt1,JY UO.out.2.1 hb6 hlt2,(hb6.cell hlt1).trans UO.out.2.2.1,(hb6.cell hlt2).trans UO.out.2.2.2⟩;have HQ6:=JJ (HQ5.out.grow (lg ((aW _ w5).drew) hb6));have HL6:Hid (L<w6.heap.size):=JJ (LK hlt1 hb6.size);clear hb6 hlt1 hlt2;refine hK.out _ _ HS6.out (fun hH=>?_);clear hK K;refine JZ 2 (.bool false) 43 hH ?_;refine JZ 3 (.bool false) 44 hH ?_;refine JZ 4 (.pointer (some ⟨L,0,none⟩)) 45 hH ?_;refine JZ 5 (I x.t.J5) 46 hH ?_;refine JZ 6 (.pointer (some ⟨w.heap.size+1,0,none⟩)) 47 hH ?_;refine JZ 7 (I t.J5) 48 hH ?_;refine JZ 8 (.bool true) 49 hH ?_;refine JZ 9 (.bool true) 50 hH ?_;refine JZ 10 (.bool true) 51 hH ?_;refine LG 11 undef 52 rfl rfl hH (Or.inr ⟨by rfl,rfl⟩) ?_;refine LG 12 undef 53 rfl rfl hH (Or.inr ⟨by rfl,rfl⟩) ?_;refine LG 13 undef 54 rfl rfl hH (Or.inr ⟨by rfl,rfl⟩) ?_;refine LG 14 undef 55 rfl rfl hH (Or.inr ⟨by rfl,rfl⟩) ?_;refine LG 15 undef 56 rfl rfl hH (Or.inr ⟨by rfl,rfl⟩) ?_;refine JZ 16 (.bool true) 57 hH ?_;clear hH;refine dC (by kernel_rfl) ?_ _;clear hud hi3 hi4 hq hl2;go_wp2_with fail;go_ret;exact⟨rfl,HQ6.out.lo⟩
     ·have hxb:(rx !=0)=true:=by simpa using hx0
      obtain rfl:r=9:=HRR.out.trans (by rw[bD (by simpa using hx0)]);clear HRR;refine LG 0 _ 41 rfl rfl hH (bF (by rfl) _ _ rfl L 0 rfl x.cells _ (fun _ hW=>hW.1) az rfl hi3) ?_;clear hH;refine KX 1 (fun K hK=>?_);go_simp;go_at_call 33;refine(NZ.out w5.drew HQ5.out.lo.drew).mono ?_;rintro e w6 ⟨rfl,hb6⟩;have hlt1:L<w5.drew.heap.size:=by simpa using HLW.out
      have hlt2:w.heap.size+1<w5.drew.heap.size:=by have:=HQ5.out.r.lt;simpa using this
      have HS6:Hid (w6.rangeAt L 0 x.cells/\w6.rangeAt (w.heap.size+1) 4 (JO t.prev)/\w6.cell? ⟨L,0,none⟩=some (I x.t.J5)/\w6.cell? ⟨w.heap.size+1,0,none⟩=some (I t.J5)):=JJ ⟨JY UO.out.1 hb6 hlt1,JY UO.out.2.1 hb6 hlt2,(hb6.cell hlt1).trans UO.out.2.2.1,(hb6.cell hlt2).trans UO.out.2.2.2⟩;have HQ6:=JJ (HQ5.out.grow (lg ((aW _ w5).drew) hb6));have HL6:Hid (L<w6.heap.size):=JJ (LK hlt1 hb6.size);clear hb6 hlt1 hlt2;refine hK.out _ _ HS6.out (fun hH=>?_);clear hK K;refine JZ 2 (.bool true) 43 hH ?_;refine JZ 3 (.bool true) 44 hH ?_;refine LG 4 undef 45 rfl rfl hH (Or.inr ⟨by rfl,rfl⟩) ?_;refine LG 5 undef 46 rfl rfl hH (Or.inr ⟨by rfl,rfl⟩) ?_;refine LG 6 undef 47 rfl rfl hH (Or.inr ⟨by rfl,rfl⟩) ?_;refine LG 7 undef 48 rfl rfl hH (Or.inr ⟨by rfl,rfl⟩) ?_;refine LG 8 undef 49 rfl rfl hH (Or.inr ⟨by rfl,rfl⟩) ?_;refine JZ 9 (.bool true) 50 hH ?_;refine JZ 10 (.bool true) 51 hH ?_;refine LG 11 undef 52 rfl rfl hH (Or.inr ⟨by rfl,rfl⟩) ?_;refine LG 12 undef 53 rfl rfl hH (Or.inr ⟨by rfl,rfl⟩) ?_;refine LG 13 undef 54 rfl rfl hH (Or.inr ⟨by rfl,rfl⟩) ?_;refine LG 14 undef 55 rfl rfl hH (Or.inr ⟨by rfl,rfl⟩) ?_;refine LG 15 undef 56 rfl rfl hH (Or.inr ⟨by rfl,rfl⟩) ?_;refine JZ 16 (.bool true) 57 hH ?_;clear hH;refine dC (by kernel_rfl) ?_ _;clear hud hi3 hi4 hq hl2;go_wp2_with fail;go_ret;exact⟨rfl,HQ6.out.lo⟩
   ·have hr2:r=9:=by rw[<-HR.out,U6 ht0.out];unfold aaT;rw[HQB.out,Qc.out,bP (by decide),bD hv]
    subst hr2;obtain⟨V,hV⟩:∃V,t.version=V:=⟨_,rfl⟩;rw[hV] at cv hv;have e1:(V !=(m:Int)+1)=true:=by simp;exact hv
    clear hV;go_wp2_with fail;go_ret;exact⟨rfl,HQ.out.lo⟩
 ·have e1:(rv !=0)=true:=by simpa using h0
  obtain rfl:r=3:=by rw[<-HR.out];exact bD (by rw[VK.out];exact h0)
  go_wp2_with fail;go_ret;exact⟨rfl,HQ.out.lo⟩
theorem aed (w:ae)(key:ag au)(hk:key.length=32)(u:Kv)(hA:Ld w w.heap.size u)(hl:(O4 u.t).length<=90000)(C:aj Addr)(m cc:Nat)(ts:ag Kv)(hm:ts.length=m)(hm1:m<64)(hF:(C=none/\m=0/\cc=0)\/∃b off,C=some ⟨b,off,none⟩)(hC:LJ w w.heap.size C ts)(hT:∀x∈ts,(O4 x.t).length<=90000)(hr:Rk Qm key ts u.t=0):
  Calls Tryz.prog 11 #[.slice C m cc,.agg (cellsB key),.agg (JK u.t (.slice u.A u.zs.length u.c))] w (aqv w (m+1) (ts++ [u])):=by
 have HKI:=JJ (Na key hk);have HAD:Hid (∀W,ai w.heap.size w W->Calls Tryz.prog 37 #[.slice C m cc,.agg (cellsB key),.agg (JK u.t (.slice u.A u.zs.length u.c))] W (Gives (I 0) W)):=JJ fun W hb=>
  TA W key hk u (hA.grow hb) hl C m cc ts hm hm1 (hC.grow hb) hT 0 hr
 have H0:=JJ (V2.start w 24 (cellsB key) 26 (JK u.t (.slice u.A u.zs.length u.c)));have HSU:Hid ((Tryz.prog.info? 26).map (·.size)=some (JK u.t (.slice u.A u.zs.length u.c)).size):=JJ (Ky u.t _ hA.prev hA.Ku);have HEA:=JJ hC.each;have HUA:=JJ hA;have HR0:=JJ hC.row;have HL:=JJ hm;have HFL:Hid ((ts.flatMap Kv.cells).length=m*68):=JJ (by rw[KW (s:=68) Kv.cells ts (fun x hx=>(hC.each x hx).size),hm]);have VS:Hid (∀v∈ts.flatMap Kv.cells,v.oneCell'=true):=JJ (fun v hv=>by
  obtain⟨x,_,hx⟩:=jv.1 hv;exact QW x v hx)
 obtain⟨i0,hi,hq0,hq1,hq2⟩:=dN Xi;have HI:=JJ hi;have Yx:=JJ hq0;have Ri:=JJ hq1;have PR:=JJ hq2;clear hi hq0 hq1 hq2 hm hA hC hT hk hl hr;go_enter Tryz.func11,Tryz.ntmps11;go_upto_region 1 with fail;generalize (w.alloc (.cells (cellsB key) 24)).alloc (.cells (JK u.t (.slice u.A u.zs.length u.c)) 26)=W0 at H0⊢;go_wp2_with(first
  |((with_reducible refine KO 24 ?_);refine J3 rfl _ _ rfl w.heap.size rfl (cellsB key) H0.out.s.Nc _ aK rfl HKI.out ?_)
  |((with_reducible refine KO 26 ?_);refine J3 rfl _ _ rfl (w.heap.size+1) rfl (JK u.t (.slice u.A u.zs.length u.c)) H0.out.r.Nc _ az rfl HSU.out ?_))
 refine(HAD.out W0 H0.out.lo).mono ?_;rintro e w1 ⟨rfl,b1⟩;have H1:=JJ (H0.out.grow b1);clear b1 H0 HAD;obtain⟨lo,hlo⟩:∃b,w1.heap.size=b:=⟨_,rfl⟩;have hlw:w.heap.size<=lo:=by rw[<-hlo];exact H1.out.lo.size
 have HOE:=JJ (NI w1 26 68);have H2:=JJ (H1.out.grow (JM w1 (.cells #[] 26)));rw[hlo] at HOE;by_cases hm0:m=0
 ·subst hm0;have HTN:Hid (ts= []):=JJ (bu HL.out);rcases hF with ⟨rfl,_,rfl⟩|⟨cb,co,rfl⟩
  ·go_upto_region 5 with (at_builtin;refine wpList_append_own_none rfl _ _ 32 rfl w1.heap.size 26 i0 68 dM HI.out _ 0 [] rfl (by rw[hlo];exact HOE.out) rfl ?_);have HOW:Hid ((w1.alloc (.cells #[] 26)).ownsRow lo 26 68 (.slice (some ⟨lo,0,none⟩) 0 0) 0 (ts.flatMap Kv.cells)):=JJ (by rw[HTN.out];exact HOE.out);have hl3:lo<=(w1.alloc (.cells #[] 26)).heap.size:=by rw[<-hlo];simp
   clear HOE HTN H1;generalize some (⟨lo,0,none⟩:Addr)=A3 at HOW⊢;generalize w1.alloc (.cells #[] 26)=w3 at HOW H2 hl3⊢;have Qq:=H2;have HB1:=JJ Qq.out.lo;have hcc:=S9 HOW.out;go_wp2_with(first
    |((with_reducible refine KO 26 ?_);refine J3 rfl _ _ rfl (w.heap.size+1) rfl (JK u.t (.slice u.A u.zs.length u.c)) Qq.out.r.Nc _ az rfl HSU.out ?_)
    |((with_reducible refine TR 32 ?_);refine Ou rfl _ rfl (JK u.t (.slice u.A u.zs.length u.c)) (Kq u.t _ HUA.out.prev HUA.out.Ku) rfl ?_)
    |(at_builtin;refine jf _ rfl _ _ 32 rfl lo 26 i0 (.agg (JK J8 (.slice none 0 0))) 68 112 dM HI.out Yx.out Ri.out PR.out rfl (by decide) (.slice A3 0 0) 0 (ts.flatMap Kv.cells) rfl (own_below HOW.out (JM w3 _)) ⟨w3.heap.size,0,none⟩ 1 1 u.cells rfl HUA.out.size (NM _ _ _ _ rfl) (QW u) (by omega) (by unfold maxLen;omega) (by omega) (by simp;omega) _ rfl ?_;intro gg cap w6 hown6 hgrow6 SX _;have HN:Hid (ai w.heap.size w w6):=JJ (KJ (JL HB1.out (JM w3 _)) (KD (own_below HOW.out (JM w3 _)) (by omega)) (by have:=HB1.out.size;simp;omega) hgrow6);have Xy:=JJ hown6;clear hown6 hgrow6 SX))
   go_ret2;exact⟨_,_,ts++ [u],rfl,S9 Xy.out,rfl,⟨JS.Le (by rw[eG,show[u].flatMap Kv.cells=u.cells by simp];exact Xy.out),fun y hy=>by
    rcases dm.1 hy with h1|h1
    ·exact(HEA.out y h1).grow HN.out
    ·obtain rfl:=aY.1 h1;exact HUA.out.grow HN.out⟩,HN.out⟩
  ·go_upto_region 5 with (at_builtin;refine bK _ rfl _ _ 32 rfl w1.heap.size 26 i0 (.agg (JK J8 (.slice none 0 0))) 68 112 dM HI.out Yx.out Ri.out PR.out rfl (by decide) _ 0 [] rfl (by rw[hlo];exact HOE.out) ⟨cb,co,none⟩ 0 cc [] rfl rfl (fun _ _ h=>nomatch h) (fun _ h=>nomatch h) (by unfold maxLen;omega) (by omega) (by simp) ?_;intro v' w3 hown hg _ hat);try simp only[aT,bU] at hown⊢
   obtain⟨A3,c3,rfl⟩:=LU hown;have HOW:Hid (w3.ownsRow lo 26 68 (.slice A3 0 c3) 0 (ts.flatMap Kv.cells)):=JJ (by rw[HTN.out,<-hlo];exact hown);have hl3:lo<=w3.heap.size:=by have:=hg.size;simp at this;omega
   have Qq:=JJ (H1.out.grow (show ai w1.heap.size w1 w3 by rw[hlo];exact KJ (by rw[<-hlo];exact JM w1 _) HOE.out (by rw[<-hlo];simp) hg));clear hown hg hat HOE H2;have HB1:=JJ Qq.out.lo;have hcc:=S9 HOW.out;go_wp2_with(first
    |((with_reducible refine KO 26 ?_);refine J3 rfl _ _ rfl (w.heap.size+1) rfl (JK u.t (.slice u.A u.zs.length u.c)) Qq.out.r.Nc _ az rfl HSU.out ?_)
    |((with_reducible refine TR 32 ?_);refine Ou rfl _ rfl (JK u.t (.slice u.A u.zs.length u.c)) (Kq u.t _ HUA.out.prev HUA.out.Ku) rfl ?_)
    |(at_builtin;refine jf _ rfl _ _ 32 rfl lo 26 i0 (.agg (JK J8 (.slice none 0 0))) 68 112 dM HI.out Yx.out Ri.out PR.out rfl (by decide) (.slice A3 0 c3) 0 (ts.flatMap Kv.cells) rfl (own_below HOW.out (JM w3 _)) ⟨w3.heap.size,0,none⟩ 1 1 u.cells rfl HUA.out.size (NM _ _ _ _ rfl) (QW u) (by omega) (by unfold maxLen;omega) (by omega) (by simp;omega) _ rfl ?_;intro gg cap w6 hown6 hgrow6 SX _;have HN:Hid (ai w.heap.size w w6):=JJ (KJ (JL HB1.out (JM w3 _)) (KD (own_below HOW.out (JM w3 _)) (by omega)) (by have:=HB1.out.size;simp;omega) hgrow6);have Xy:=JJ hown6;clear hown6 hgrow6 SX))
   go_ret2;exact⟨_,_,ts++ [u],rfl,S9 Xy.out,rfl,⟨JS.Le (by rw[eG,show[u].flatMap Kv.cells=u.cells by simp];exact Xy.out),fun y hy=>by
    rcases dm.1 hy with h1|h1
    ·exact(HEA.out y h1).grow HN.out
    ·obtain rfl:=aY.1 h1;exact HUA.out.grow HN.out⟩,HN.out⟩
 ·have t0:((m:Int)==0)=false:=by simp;omega
  have t1:(m==0)=false:=by simp;omega
  obtain⟨cb,co,rfl,hcb,hcl⟩:=HR0.out.there (by rw[HFL.out];omega);have HNW:Hid (∀j v,(ts.flatMap Kv.cells)[j]? =some v->(w1.alloc (.cells #[] 26)).cell? ((⟨cb,co,none⟩:Addr).add j)=some v):=JJ (fun j v hv=>by
   rw[show(⟨cb,co,none⟩:Addr).add j=⟨cb,co+j,none⟩ by unfold Addr.add;split<;>simp_all];exact(H2.out.lo.cell (p:=⟨cb,co+j,none⟩) hcb).trans (hcl j v hv))
  clear hcl;go_upto_region 5 with (at_builtin;refine bK _ rfl _ _ 32 rfl w1.heap.size 26 i0 (.agg (JK J8 (.slice none 0 0))) 68 112 dM HI.out Yx.out Ri.out PR.out rfl (by decide) _ 0 [] rfl (by rw[hlo];exact HOE.out) ⟨cb,co,none⟩ m cc (ts.flatMap Kv.cells) rfl HFL.out HNW.out VS.out (by unfold maxLen;omega) (by omega) (by simp) ?_;intro v' w3 hown hg _ hat);try simp only[aT,bU] at hown⊢
  obtain⟨A3,c3,rfl⟩:=LU hown;have HOW:Hid (w3.ownsRow lo 26 68 (.slice A3 m c3) m (ts.flatMap Kv.cells)):=JJ (by rw[<-hlo];exact hown);have hl3:lo<=w3.heap.size:=by have:=hg.size;simp at this;omega
  have Qq:=JJ (H1.out.grow (show ai w1.heap.size w1 w3 by rw[hlo];exact KJ (by rw[<-hlo];exact JM w1 _) HOE.out (by rw[<-hlo];simp) hg));clear hown hg hat HOE H2;have HB1:=JJ Qq.out.lo;have hcc:=S9 HOW.out;go_wp2_with(first
   |((with_reducible refine KO 26 ?_);refine J3 rfl _ _ rfl (w.heap.size+1) rfl (JK u.t (.slice u.A u.zs.length u.c)) Qq.out.r.Nc _ az rfl HSU.out ?_)
   |((with_reducible refine TR 32 ?_);refine Ou rfl _ rfl (JK u.t (.slice u.A u.zs.length u.c)) (Kq u.t _ HUA.out.prev HUA.out.Ku) rfl ?_)
   |(at_builtin;refine jf _ rfl _ _ 32 rfl lo 26 i0 (.agg (JK J8 (.slice none 0 0))) 68 112 dM HI.out Yx.out Ri.out PR.out rfl (by decide) (.slice A3 m c3) m (ts.flatMap Kv.cells) rfl (own_below HOW.out (JM w3 _)) ⟨w3.heap.size,0,none⟩ 1 1 u.cells rfl HUA.out.size (NM _ _ _ _ rfl) (QW u) (by omega) (by unfold maxLen;omega) (by omega) (by simp;omega) _ rfl ?_;intro gg cap w6 hown6 hgrow6 SX _;have HN:Hid (ai w.heap.size w w6):=JJ (KJ (JL HB1.out (JM w3 _)) (KD (own_below HOW.out (JM w3 _)) (by omega)) (by have:=HB1.out.size;simp;omega) hgrow6);have Xy:=JJ hown6;clear hown6 hgrow6 SX))
  go_ret2;exact⟨_,_,ts++ [u],rfl,S9 Xy.out,rfl,⟨JS.Le (by rw[eG,show[u].flatMap Kv.cells=u.cells by simp];exact Xy.out),fun y hy=>by
   rcases dm.1 hy with h1|h1
   ·exact(HEA.out y h1).grow HN.out
   ·obtain rfl:=aY.1 h1;exact HUA.out.grow HN.out⟩,HN.out⟩
theorem af7 (w:ae)(key:ag au)(hk:key.length=32)(u:Kv)(hA:Ld w w.heap.size u)(hl:(O4 u.t).length<=90000)(C:aj Addr)(m cc:Nat)(ts:ag Kv)(hm:ts.length=m)(hm1:m<64)(_hF:(C=none/\m=0/\cc=0)\/∃b off,C=some ⟨b,off,none⟩)(hC:LJ w w.heap.size C ts)(hT:∀x∈ts,(O4 x.t).length<=90000)(r:Int)(hr0:¬r=0)(hr:Rk Qm key ts u.t=r):
  Calls Tryz.prog 11 #[.slice C m cc,.agg (cellsB key),.agg (JK u.t (.slice u.A u.zs.length u.c))] w (Gives (.tuple #[.slice none 0 0,I r]) w):=by
 have HKI:=JJ (Na key hk);have HAD:Hid (∀W,ai w.heap.size w W->Calls Tryz.prog 37 #[.slice C m cc,.agg (cellsB key),.agg (JK u.t (.slice u.A u.zs.length u.c))] W (Gives (I r) W)):=JJ fun W hb=>
  TA W key hk u (hA.grow hb) hl C m cc ts hm hm1 (hC.grow hb) hT r hr
 have H0:=JJ (V2.start w 24 (cellsB key) 26 (JK u.t (.slice u.A u.zs.length u.c)));have HSU:Hid ((Tryz.prog.info? 26).map (·.size)=some (JK u.t (.slice u.A u.zs.length u.c)).size):=JJ (Ky u.t _ hA.prev hA.Ku);clear hm hA hC hT hk hl hr;go_enter Tryz.func11,Tryz.ntmps11;go_upto_region 1 with fail;generalize (w.alloc (.cells (cellsB key) 24)).alloc (.cells (JK u.t (.slice u.A u.zs.length u.c)) 26)=W0 at H0⊢;go_wp2_with(first
  |((with_reducible refine KO 24 ?_);refine J3 rfl _ _ rfl w.heap.size rfl (cellsB key) H0.out.s.Nc _ aK rfl HKI.out ?_)
  |((with_reducible refine KO 26 ?_);refine J3 rfl _ _ rfl (w.heap.size+1) rfl (JK u.t (.slice u.A u.zs.length u.c)) H0.out.r.Nc _ az rfl HSU.out ?_))
 refine(HAD.out W0 H0.out.lo).mono ?_;rintro e w1 ⟨rfl,b1⟩;have H1:=JJ (H0.out.grow b1);have e1:(r !=0)=true:=by simpa using hr0
 clear b1 H0 HAD;go_wp2_with fail;go_ret2;exact⟨rfl,H1.out.lo⟩
theorem aiH (w:ae)(key:ag au)(hk:key.length=32)(u:Kv)(hA:Ld w w.heap.size u)(hl:(O4 u.t).length<=90000)(C:aj Addr)(m cc:Nat)(ts:ag Kv)(hm:ts.length=m)(hm1:m<64)(hF:(C=none/\m=0/\cc=0)\/∃b off,C=some ⟨b,off,none⟩)(hC:LJ w w.heap.size C ts)(hT:∀x∈ts,(O4 x.t).length<=90000):
  Calls Tryz.prog 11 #[.slice C m cc,.agg (cellsB key),.agg (JK u.t (.slice u.A u.zs.length u.c))] w (aqu w (m+1) (ts++ [u]) (Rk Qm key ts u.t)):=by
 by_cases h:Rk Qm key ts u.t=0
 ·exact(aed w key hk u hA hl C m cc ts hm hm1 hF hC hT h).mono fun e w' h1=>.inl ⟨h,h1⟩
 ·exact(af7 w key hk u hA hl C m cc ts hm hm1 hF hC hT _ h rfl).mono fun e w' h1=>.inr ⟨h,h1⟩
end Go.Proofs.YtbaehbbonkljpaaGreatDoor
