/- The texts Ri, in this order. -/
import Derived.Test.YtdibbemgpikgjaaGreatZ00
import Derived.Test.YtdibbemgpikgjaaGreatZ31
set_option maxRecDepth 10000
set_option maxHeartbeats 8000000
namespace Go.Proofs.YtdibbemgpikgjaaGreat
open Go Go.RowKit
attribute [local go_sem] Oper.semAt_some
structure SmW (w:World) (zc yc:Array Value) (W:World):Prop where
 a:AV w.heap.size 51 zc W
 b:AV (w.heap.size+1) 51 yc W
 r1:W.heap[w.heap.size+2]? =some (.cells #[.bool false] 4 (0,0))
 r2:W.heap[w.heap.size+3]? =some (.cells #[I 0] 33 (0,0))
 lo:Below w.heap.size w W
theorem SmW.grow {w W W':World} {zc yc:Array Value} (h:SmW w zc yc W) (hb:Below W.heap.size W W'):SmW w zc yc W':=
 ⟨h.a.below hb,h.b.below hb,(hb.block _ (aZ.1 h.r1).1).trans h.r1,(hb.block _ (aZ.1 h.r2).1).trans h.r2,ah h.lo hb⟩
theorem SmW.start (w:World) (zc yc:Array Value):SmW w zc yc ((((w.alloc (.cells zc 51)).alloc (.cells yc 51)).alloc (.cells #[.bool false] 4)).alloc (.cells #[I 0] 33)):=by
 obtain ⟨W1,hW1⟩:∃W,w.alloc (.cells zc 51)=W:=⟨_,rfl⟩;have hs1:W1.heap.size=w.heap.size+1:=by rw [←hW1];simp
 have ha:AV w.heap.size 51 zc W1:=by rw [←hW1];exact AV.new w _ _
 have hb1:Below w.heap.size w W1:=by rw [←hW1];exact ag w _
 rw [hW1];clear hW1;obtain ⟨W2,hW2⟩:∃W,W1.alloc (.cells yc 51)=W:=⟨_,rfl⟩;have hs2:W2.heap.size=w.heap.size+2:=by rw [←hW2];simp [hs1]
 have hbb:AV (w.heap.size+1) 51 yc W2:=by rw [←hW2,←hs1];exact AV.new W1 _ _
 have hb2:Below W1.heap.size W1 W2:=by rw [←hW2];exact ag W1 _
 rw [hW2];clear hW2;obtain ⟨W3,hW3⟩:∃W,W2.alloc (.cells #[.bool false] 4)=W:=⟨_,rfl⟩;have hs3:W3.heap.size=w.heap.size+3:=by rw [←hW3];simp [hs2]
 have hr1:W3.heap[w.heap.size+2]? =some (.cells #[.bool false] 4 (0,0)):=by rw [←hW3,←hs2];exact heap_alloc_last W2 _
 have hb3:Below W2.heap.size W2 W3:=by rw [←hW3];exact ag W2 _
 rw [hW3];clear hW3;have hr2:=heap_alloc_last W3 (.cells #[I 0] 33);have hb4:=ag W3 (.cells #[I 0] 33);rw [hs3] at hr2;exact ⟨((ha.below hb2).below hb3).below hb4,(hbb.below hb3).below hb4,(hb4.block _ (aZ.1 hr1).1).trans hr1,hr2,ah (ah (ah hb1 hb2) hb3) hb4⟩
theorem GH {α:Type} {W:World} {tb:Nat} {f:List α→Prop}:ig W.heap.size tb (fun (pre:List α) X=>f pre∧W.grownBy X (some tb)):=fun _ _ _ _ hs hg hr=>
 ⟨hs.1,hs.2.andThen hg (fun j e=>by
  rcases hr j e with h|h
  ·exact .inl h
  ·exact .inr (by rw [h]))⟩
theorem QZ (W:World) (a:Addr) (b:Int) (h:W.cell? a=some (I b)):(loadVar 33 a).run Tryz.prog W= .ok (I b) W:=by
 simp [go_sem,h]
theorem ED {P:Program} {fn:Func} {R:Ending→World→Prop} {a:Act} {w:World} {v:Value} {D E:Nat} {xs ys:Array Value} (hd:a.defers= [{target:= .collected D,args:=xs},{target:= .collected E,args:=ys}]) (hD:w.heap[D]? =some (.deferred (some []))) (hE:(w.putObj D (.deferred none)).heap[E]? =some (.deferred (some [])))
  (h:(results fn a.tmps).run P ((w.putObj D (.deferred none)).putObj E (.deferred none))= .ok v ((w.putObj D (.deferred none)).putObj E (.deferred none))) (hR:R (.returned v) ((w.putObj D (.deferred none)).putObj E (.deferred none))):bodyPostM Fence.wide 3 P fn R .ret a w:=by
 show LeavesInM Fence.wide 3 P fn a.tmps R a.defers .returning w;rw [hd];exact ⟨by simp, .inl ⟨_,_,rfl,run_takeDeferred hD,⟨by simp, .inl ⟨_,_,rfl,run_takeDeferred hE,⟨v,h,hR⟩⟩⟩⟩⟩
theorem sQ {α:Type} {n B tb b:Nat} {P:Program} {g:Operand} {ps:Array Tmp} {assign body:Code} {Q:Exit→Act→World→Prop} {a:Act} {w w0:World}
  {gf:Nat} {lb:Array Value} {encs:α→Array Value} {S Sp G:List α→Prop}
  (h1:1≤n) (hg:a.eval g= .func (.func gf) #[] lb) (eg:∀args w,(callFunc gf args).run P w= .ok (.enter gf args) w)
  (hseq:pU Fence.wide (n - 1) P gf lb encs S Sp G B tb w0) (htb:tb<w.heap.size) (hB:B≤w.heap.size) (hb0:Below w0.heap.size w0 w) (hps:∀x,(encs x).size=ps.size)
  (f:List α→Prop) (hf0:f []) (hG:∀pre,f pre→G pre) (Ax:α→Act→World→Prop) (hAx:∀x a',OwnFrom w.heap.size (fun (_:Unit) W=>Ax x a' W))
  (hassign:∀(l:Nat) (pre:List α) (x:α) (W:World) (K:Act→World→Prop),(f pre∧w.grownBy W (some tb))→(∀a' W',KeepsFrom w.heap.size W W'→Below B W W'→(f pre∧w.grownBy W' (some tb))→Ax x a' W'→K a' W')→
   assign.wpIn (Fence.wide.inRound l) (n - 1 - 1) P (Exit.then K (fun _ _ _=>False)) {tmps:=(ps.zip (encs x)).foldl (fun t (p,v)=>t.setIfInBounds p v) a.tmps,defers:= []} W)
  (hbody:∀(l:Nat) (pre:List α) (x:α) (a':Act) (W:World),w.heap.size≤l→(∃r,W.heap[l]? =some (.loop r))→(f pre∧w.grownBy W (some tb))→Ax x a' W→body.wpIn (Fence.wide.inRound l) (n - 1 - 1) P (ownPostG w.heap.size (Below B) (fun pre X=>f pre∧w.grownBy X (some tb)) (fun c _ X=>c= .exit b∧w.grownBy X (some tb)) (pre++ [x]) W) a' W)
  (hrest:∀(D:Nat) (W:World),w.heap.size≤D→w.grownBy W (some tb)→W.heap[D]? =some (.deferred (some []))→Q .normal {a with defers:= {target:= .collected D,args:= #[]}::a.defers} W):
  (Code.rangeFunc g ps assign body).wpIn Fence.wide n P (Exit.inBlock b Q) a w:=
 iJ rfl h1 hg trivial eg hseq htb hB hb0 hps (fun pre X=>f pre∧w.grownBy X (some tb)) (fun c _ X=>c= .exit b∧w.grownBy X (some tb))
  GH (fun c=>GH (f:=fun _=>c= .exit b)) ⟨hf0,World.grownBy.refl _ _⟩ (fun pre W h=>hG pre h.1) Ax hAx hassign hbody
  (fun D xs W hD _ hI hd=>hrest D W hD hI.2 hd)
  (fun D c pre W hD _ hI hd=>by
   obtain ⟨rfl,hI⟩:=hI;have h:=hrest D W hD hI hd;exact wpIn_exit (by simpa [Exit.inBlock] using h))
theorem FI (z:Zn) (s1 s2:Zs) (w:World) (hm:nO z) (h1:gW w w.heap.size s1 z) (h2:gW w w.heap.size s2 z) (hv:vJ z=0):
  Calls Tryz.prog 14 #[.agg (aj z s1), .agg (aj z s2)] w (Gives (.tuple #[.bool true,I 0]) w):=by
 have Lm:=ae (fun (W:World) (hb:Below w.heap.size w W)=>tZ z s1 W hm (h1.grow hb) hv);have kW:=ae (fun (W:World) (hb:Below w.heap.size w W)=>tZ z s2 W hm (h2.grow hb) hv);have HM:=ae hm;have HG:=ae (Rw hv).1;have hc1:=lD z hm.cal;have hc2:=(jP z hm.cal).2;have HZ1:Hid ((Tryz.prog.info? 51).map (·.size)=some (aj z s1).size):=ae (by kernel_rfl);have HZ2:Hid ((Tryz.prog.info? 51).map (·.size)=some (aj z s2).size):=ae (by kernel_rfl);have H0:=ae (SmW.start w (aj z s1) (aj z s2));have jf:Hid ((aj z s1)[4]? =some (I z.start)):=ae rfl;have HC2:Hid ((aj z s2)[4]? =some (I z.start)):=ae rfl;obtain ⟨cy,hcy⟩:∃c:Nat,dL z=(c:Int):=Int.eq_ofNat_of_zero_le (by omega);rw [hcy] at hc1 hc2;have rE:=ae hcy;generalize aj z s1=zc at Lm HZ1 H0 jf ⊢;generalize aj z s2=yc at kW HZ2 H0 HC2 ⊢;clear hm h1 h2 hv hcy;refine rP Tryz.func14 rfl ?_;simp only [Tryz.ntmps14,List.size_toArray,List.length_cons,List.length_nil,Nat.reduceAdd,Nat.reduceSub,Array.replicate_succ,Array.replicate_zero,List.push_toArray,List.append_toArray,List.nil_append,List.cons_append];go_upto_region 1 with fail;generalize (((w.alloc (.cells zc 51)).alloc (.cells yc 51)).alloc (.cells #[.bool false] 4)).alloc (.cells #[I 0] 33)=W0 at H0 ⊢;go_wp2_with ((with_reducible refine fO 51 ?_);go_must (refine aW rfl _ _ rfl w.heap.size rfl zc H0.out.a.jK _ Tryz.underlying51 rfl HZ1.out ?_));refine (Lm.out _ H0.out.lo).mono ?_;rintro e w1 ⟨⟨ka,rfl,hka⟩,hb1⟩;have HKA:=ae hka;have H1:=ae (H0.out.grow hb1);clear hka hb1 H0 Lm;go_wp2_with ((with_reducible refine fO 51 ?_);go_must (refine aW rfl _ _ rfl (w.heap.size+1) rfl yc H1.out.b.jK _ Tryz.underlying51 rfl HZ2.out ?_));refine (kW.out _ H1.out.lo).mono ?_;rintro e w2 ⟨⟨kd,rfl,hkd⟩,hb2⟩;have XE:=ae (HKA.out.keep hb2);have XH:=ae hkd;have H2:=ae (H1.out.grow hb2);clear hkd hb2 H1 kW HKA;go_upto_region 5 with fail;have c9:w2.cell? ⟨ka,9,none⟩=some (I (cy:Int)):=by rw [←rE.out];exact XE.out.start.2.2.1
 have d9:w2.cell? ⟨kd,9,none⟩=some (I (cy:Int)):=by rw [←rE.out];exact XH.out.start.2.2.1
 have hlq:∀k,Calls Tryz.prog 33 #[I (cy:Int),I (cy:Int)] (w2.drewN k) fun e w'=>e= .returned (.tuple #[I (cy:Int),I 0])∧∃m,w'=w2.drewN m:=fun k=>by
  have h:=Mc cy cy (by omega) (by omega) (by omega) (by omega) (w2.drewN k);rw [Nat.lcm_self] at h;exact Calls.quiet_of h
 have HLQ:=ae hlq;clear hlq;go_quiet ((go_at_call 33;exact HLQ.out _));obtain ⟨w3,hw3⟩:∃W,w2.drewN nq=W:=⟨_,rfl⟩;rw [hw3];have HB3:Hid (Below w2.heap.size w2 w3):=ae (by rw [←hw3];exact below_drewN' _ _);clear hw3 c9 d9 HLQ;have XF:=ae (XE.out.keep HB3.out);have HKD3:=ae (XH.out.keep HB3.out);have H3:=ae (H2.out.grow HB3.out);have q0:w3.cell? ⟨w.heap.size,4,none⟩=some (I z.start):=(H3.out.a.cell 4).trans jf.out;have q1:w3.cell? ⟨w.heap.size+1,4,none⟩=some (I z.start):=(H3.out.b.cell 4).trans HC2.out;obtain ⟨st,hst⟩:∃s,z.start=s:=⟨_,rfl⟩;rw [hst] at q0 q1;have hcb:¬(4194304:Int)<(cy:Int):=by omega
 clear hst HB3 H2 XE XH;go_upto_region 10 with fail;clear q0 q1 hcb;go_wp2_with fail;refine (yG z ka w3 HM.out XF.out).mono ?_;rintro e w4 ⟨x1,rfl,hx1,hb4⟩;have HKA4:=ae (XF.out.keep hb4);have XI:=ae (HKD3.out.keep hb4);have H4:=ae (H3.out.grow hb4);clear hb4 H3 XF HKD3;go_wp2_with fail;refine (yG z kd w4 HM.out XI.out).mono ?_;rintro e w5 ⟨x2,rfl,hx2,hb5⟩;have HKA5:=ae (HKA4.out.keep hb5);have HKD5:=ae (XI.out.keep hb5);have H5:=ae (H4.out.grow hb5);clear hb5 H4 HKA4 XI;obtain ⟨mx,hmx⟩:∃m,max x1 x2=m:=⟨_,rfl⟩;have hmb: -200000000≤mx∧mx≤200000000:=by omega
 obtain ⟨en,hen⟩:∃e,mx+(cy:Int)*1440=e:=⟨_,rfl⟩;have heb: -200000000≤en∧en≤300000000:=by omega
 have hw1:IntKind.i64.wrap ((cy:Int)*1440)=(cy:Int)*1440:=by rw [IntKind.wrap_i64];omega
 have hw2:IntKind.i64.wrap (mx+(cy:Int)*1440)=en:=by rw [hen,IntKind.wrap_i64];omega
 go_upto_region 11 with fail;have hb6:=ag w5 (.cells #[I en] 3);have HEN:=ae (heap_alloc_last w5 (.cells #[I en] 3));have XG:=ae (HKA5.out.keep hb6);have XJ:=ae (HKD5.out.keep hb6);have H6:=ae (H5.out.grow hb6);have heb5:w.heap.size+3<w5.heap.size:=(aZ.1 H5.out.r2).1;clear hb6 HKA5 HKD5 H5 hw1 hw2 hmx hen;generalize w5.alloc (.cells #[I en] 3)=W6 at HEN XG XJ H6 ⊢;generalize w5.heap.size=eb at HEN heb5 ⊢;go_wp2_with fail;refine wp_loop_rounds 3 ?_;rw [rounds_succ];have IZ:=ae (heap_alloc_last W6 (.cells #[pt ka,pt kd,pt kd,pt ka] 94));have hb7:=ag W6 (.cells #[pt ka,pt kd,pt kd,pt ka] 94);have F6:=ae ((hb7.block _ (aZ.1 HEN.out).1).trans HEN.out);have Nr:=ae (XG.out.keep hb7);have Ns:=ae (XJ.out.keep hb7);have H7:=ae (H6.out.grow hb7);have HP94:Hid ((Tryz.prog.info? 94).map (·.size)=some ([pt 0,pt 0]:List Value).length):=ae (by kernel_rfl);go_upto_region 13 with fail;clear hb7 HEN XG XJ H6;generalize W6.alloc (.cells #[pt ka,pt kd,pt kd,pt ka] 94)=V0 at IZ F6 Nr Ns H7 ⊢;generalize W6.heap.size=sb at IZ ⊢;have HRW:Hid (V0.rangeAt sb 0 [pt ka,pt kd]):=ae (fun j v hv=>by
  rw [cell_of_row V0 sb _ _ _ _ IZ.out]
  match j,hv with
  |0,hv=>exact hv
  |1,hv=>exact hv
  |j+2,hv=>simp at hv)
 have FW:=ae (heap_alloc_last V0 (.cells #[.pointer none, .pointer none] 94));go_upto_region 14 with (first
  |((with_reducible refine fO 94 ?_);go_must (refine bC rfl _ _ rfl sb 0 rfl [pt ka,pt kd] HRW.out _ Tryz.underlying94 rfl HP94.out ?_))
  |((with_reducible refine bn 94 ?_);go_must (refine aG rfl 94 rfl #[.pointer none, .pointer none] (by kernel_rfl) ?_))
  |((with_reducible refine dO 94 ?_);go_must (refine wpList_store_row rfl _ _ _ rfl V0.heap.size #[pt ka,pt kd] rfl rfl 94 #[.pointer none, .pointer none] FW.out (by kernel_rfl) rfl (by simp [Value.oneCell']) ?_)))
 try simp only [Act.put]
 have hb1:=aC (ag V0 (.cells #[.pointer none, .pointer none] 94)) (Nat.le_refl _) #[pt ka,pt kd];have Ny:=ae (AV.lq (AV.new V0 #[.pointer none, .pointer none] 94) #[pt ka,pt kd]);have zV:=ae ((hb1.block _ (aZ.1 F6.out).1).trans F6.out);have Jb:=ae ((hb1.block _ (aZ.1 IZ.out).1).trans IZ.out);have Gf:=ae (Nr.out.keep hb1);have Gg:=ae (Ns.out.keep hb1);have Es:=ae (H7.out.grow hb1);have hvb:V0.heap.size<((V0.alloc (.cells #[.pointer none, .pointer none] 94)).setRow V0.heap.size #[pt ka,pt kd]).heap.size:=Ny.out.lt;clear hb1 FW HRW IZ F6 Nr Ns H7;generalize (V0.alloc (.cells #[.pointer none, .pointer none] 94)).setRow V0.heap.size #[pt ka,pt kd]=V1 at Ny zV Jb Gf Gg Es hvb ⊢;generalize V0.heap.size=vb at Ny hvb ⊢;have v0:V1.cell? ⟨vb,0,none⟩=some (pt ka):=Ny.out.cell 0;have Lh:=ae (rW ka (-2251799813685248));go_wp2_with fail;refine (Lh.out _).mono ?_;rintro e w8 ⟨rfl,rfl⟩;clear Lh v0;obtain ⟨w8,hw8⟩:∃W,(V1.alloc (.cells #[.pointer (some ⟨ka,0,none⟩)] 85)).alloc (.cells #[I (-2251799813685248)] 3)=W:=⟨_,rfl⟩;have hb8:Below V1.heap.size V1 w8:=by rw [←hw8];exact ah (ag V1 _) (ag _ _)
 have hcb:w8.heap[V1.heap.size]? =some (.cells #[.pointer (some ⟨ka,0,none⟩)] 85 (0,0)):=by rw [←hw8];exact heap_alloc2_old V1 _ _
 have htb:w8.heap[V1.heap.size+1]? =some (.cells #[I (-2251799813685248)] 3 (0,0)):=by rw [←hw8];exact heap_alloc2_new V1 _ _
 have hs8:w8.heap.size=V1.heap.size+2:=by rw [←hw8];simp
 rw [hw8];clear hw8;have Ej:=ae hb8;have Y4:eb<V1.heap.size:=(aZ.1 zV.out).1;have hsm1:w.heap.size+3<V1.heap.size:=(aZ.1 Es.out.r2).1;have PQ:Hid (pU Fence.wide 2 Tryz.prog 57 #[.pointer (some ⟨V1.heap.size,0,none⟩), .pointer (some ⟨V1.heap.size+1,0,none⟩)] (fun x:TrP z=> #[.agg #[I x.1.at_,I x.1.off]]) (fun _=>True) (fun _=>True) (fun pre=>∀x∈pre,x.1.at_≤en) w8.heap.size (V1.heap.size+1) w8):=ae (by
  obtain ⟨n0,n1,n3,a,r,c0,d0,c,lo,hi,A0,R0,A,C,D0,hk⟩:=Gf.out;exact G5 2 lo hi w8.heap.size ka V1.heap.size (V1.heap.size+1) _ _ n0 n1 n3 a r c0 d0 c A0 R0 A C D0 _ _ _ _ _ (-2251799813685248) en z w8 HM.out HG.out ⟨hk.far (fun k hk _=>hb8.block k hk) (Nat.le_refl _),hcb,htb,by omega,by omega⟩ (Nat.le_refl _) rfl rfl rfl rfl (by omega) (by omega) (by omega))
 have qZ:Hid (∀X,w8.grownBy X (some (V1.heap.size+1))→∀k,k<V1.heap.size→X.heap[k]? =V1.heap[k]?):=ae (fun X hg k hk=>(hg.block k (by omega) (fun e=>by injection e with e;omega)).trans (hb8.block k hk));have um:Hid (∀X,w8.grownBy X (some (V1.heap.size+1))→Below V1.heap.size V1 X):=ae (fun X hg=>hb8.grown hg hb8.size (fun k e=>by injection e with e;omega));clear hb8 hcb htb;go_wp2_with fail;refine (wpIn_wide (n:=3)).1 ?_;refine wP (P:=fun a0=>Code.wpIn _ _ _ _ _ a0 _) (fun a0 ha0=>?_);have uf:=ae ha0;refine sQ (by omega) (gf:=57) (lb:= #[.pointer (some ⟨V1.heap.size,0,none⟩), .pointer (some ⟨V1.heap.size+1,0,none⟩)]) (by rw [ha0];rfl) (enters_of Tryz.func57 (by kernel_rfl) rfl)
  PQ.out (by omega) (Nat.le_refl _) (Below.refl _ _) (fun _=>rfl) (fun pre=>∀x∈pre,x.1.at_≤en) (fun _ h=>nomatch h) (fun _ h=>h)
  (fun x a' X=>∃q,w8.heap.size≤q∧X.heap[q]? =some (.cells #[I x.1.at_,I x.1.off] 100 (0,0))∧a'=({tmps:=(a0.tmps.setIfInBounds 78 (.agg #[I x.1.at_,I x.1.off])).setIfInBounds 15 (.pointer (some ⟨q,0,none⟩)),defers:= []}:Act))
  (fun x a' _ X Y row hs hg hr=>by obtain ⟨q,h1,h2,h3⟩:=hs;exact ⟨q,h1,qy q _ _ () X Y row h2 hg hr,h3⟩)
  ?assign ?body ?rest
 case assign=>
  rintro l pre ⟨⟨xa,xo⟩,hx⟩ X K ⟨hpre,hgr⟩ hK;have HG2:=ae hgr;have XO:=ae hpre;have UW:=hgr.size;clear hgr hpre;rw [ha0] at hK ⊢;simp only [List.zip_toArray,List.zip_cons_cons,List.zip_nil_right,List.foldl_toArray,List.foldl_cons,List.foldl_nil,List.setIfInBounds_toArray,List.set_cons_succ,List.set_cons_zero] at hK ⊢
  gi_wp2_with (first|((with_reducible refine pX 100 ?_);refine ik rfl _ rfl #[I 0,I 0] (by kernel_rfl) ?_)|((with_reducible refine mM 100 ?_);go_must (refine dW rfl _ _ _ rfl #[I xa,I xo] rfl rfl 100 #[I 0,I 0] rfl (by kernel_rfl) rfl (by kernel_rfl) ?_);intro W5 hb5 hs5 hh5 oL hk5;have kT:=ae hb5;have Np:=ae hh5;have tu:=ae hk5;clear hb5 hs5 hh5 oL hk5))
  exact hK _ _ (tu.out.from _) (kT.out.mono (by omega)) ⟨XO.out,HG2.out.andThen (jm kT.out) (fun j e=>nomatch e)⟩ ⟨X.heap.size,by omega,Np.out,rfl⟩
 case body=>
  rintro l pre ⟨⟨xa,xo⟩,hx⟩ a' X hl _ ⟨hpre,hgr⟩ ⟨q,hq,hblk,rfl⟩;have XO:=ae hpre;have HG2:=ae hgr;have I9:Hid (X.heap[q]? =some (.cells #[I xa,I xo] 100 (0,0))):=ae hblk;have x0:X.cell? ⟨q,0,none⟩=some (I xa):=cell_of_row X q 0 _ _ _ hblk;have e0:X.cell? ⟨eb,0,none⟩=some (I en):=(fZ (qZ.out X hgr eb Y4)).trans (cell_of_row V1 eb 0 _ _ _ zV.out);have OZ:Hid (mO z xa=some ⟨xa,xo⟩):=ae hx.1;have hxb: -1000000000≤xa∧xa≤1000000000:=hx.2;clear hpre hgr hblk;rw [ha0];simp only [List.setIfInBounds_toArray,List.set_cons_succ,List.set_cons_zero];by_cases hgt:en<xa
  ·gi_wp2_with fail
   exact ⟨(show KeepsOthers X X from ⟨Nat.le_refl _,fun _ _ h _=>h⟩).from _,rfl,HG2.out⟩
  ·gi_wp2_with fail
   clear x0 e0;have HS:Hid (∀W,Below X.heap.size X W→W.cell? ⟨q,0,none⟩=some (I xa)∧W.cell? ⟨q,1,none⟩=some (I xo)∧W.cell? ⟨vb,1,none⟩=some (pt kd)):=ae fun W hb=>by
    have UR:=(aZ.1 I9.out).1;have hv:=(fZ (qZ.out X HG2.out vb hvb)).trans (Ny.out.cell 1);have hup:=(um.out X HG2.out).size;exact ⟨(hb.cell (p:=⟨q,0,none⟩) UR).trans (cell_of_row X q 0 _ _ _ I9.out),(hb.cell (p:=⟨q,1,none⟩) UR).trans (cell_of_row X q 1 _ _ _ I9.out),(hb.cell (p:=⟨vb,1,none⟩) (by show vb<_;omega)).trans hv⟩
   have O1:=ae (uS z kd xa X.drew HM.out HG.out ((Gg.out.keep (um.out X HG2.out)).keep ((Below.refl _ X).drew)) hxb);rw [show AZ z xa=xo by unfold AZ;rw [OZ.out];rfl] at O1;have hH:=HS.out X.drew ((Below.refl _ X).drew);refine gy (S:=fun W=>W.cell? ⟨q,0,none⟩=some (I xa)∧W.cell? ⟨q,1,none⟩=some (I xo)∧W.cell? ⟨vb,1,none⟩=some (pt kd)) (wB (by kernel_rfl)) (by kernel_rfl) (by rintro ⟨a,w,h⟩;exact h) ?_;refine aK 0 (.pointer (some ⟨q,1,none⟩)) 83 hH (fun W hW=>?_) ?_
   ·obtain ⟨s0,s1,s2⟩:=hW
    first|(go_simp;done)|(go_simp;with_reducible rfl)
   refine ax ?_;refine aK 1 (I xo) 84 hH (fun W hW=>?_) ?_
   ·obtain ⟨s0,s1,s2⟩:=hW
    first|(go_simp;done)|(go_simp;with_reducible rfl)
   refine ax ?_;refine aK 2 (.pointer (some ⟨vb,1,none⟩)) 85 hH (fun W hW=>?_) ?_
   ·obtain ⟨s0,s1,s2⟩:=hW
    first|(go_simp;done)|(go_simp;with_reducible rfl)
   refine ax ?_;refine aK 3 (pt kd) 86 hH (fun W hW=>?_) ?_
   ·obtain ⟨s0,s1,s2⟩:=hW
    first|(go_simp;done)|(go_simp;with_reducible rfl)
   refine ax ?_;refine aK 4 (.pointer (some ⟨q,0,none⟩)) 87 hH (fun W hW=>?_) ?_
   ·obtain ⟨s0,s1,s2⟩:=hW
    first|(go_simp;done)|(go_simp;with_reducible rfl)
   refine ax ?_;refine aK 5 (I xa) 88 hH (fun W hW=>?_) ?_
   ·obtain ⟨s0,s1,s2⟩:=hW
    first|(go_simp;done)|(go_simp;with_reducible rfl)
   refine ax ?_;clear hH;refine bI 6 (fun K hK=>?_);go_simp;go_at_call 32;refine O1.out.mono ?_;rintro e Z ⟨rfl,hbz⟩;have Pm:Hid (Below X.heap.size X Z):=ae (Below.trans ((Below.refl _ X).drew) hbz);have hH:=HS.out Z Pm.out;refine hK.out _ _ hH (fun _=>?_);clear hK K hbz;refine ax ?_;refine aK 7 (.bool false) 90 hH (fun W hW=>?_) ?_
   ·obtain ⟨s0,s1,s2⟩:=hW
    first|(go_simp;done)|(go_simp;with_reducible rfl)
   refine ax ?_;refine wpAnyH_done (by kernel_rfl) ?_ _
   gi_wp2_with fail
   exact ⟨(show KeepsOthers X Z from ⟨Pm.out.size,fun k o h _=>(Pm.out.block k (aZ.1 h).1).trans h⟩).from _,Pm.out.mono HG2.out.size,fun y hy=>by
    rcases List.mem_append.1 hy with h|h
    ·exact XO.out y h
    ·rw [List.mem_singleton.1 h];show xa≤en;omega,HG2.out.andThen (jm Pm.out) (fun j e=>nomatch e)⟩
 case rest=>
  rintro D Y1 hD hgr G8;have HDK:=ae G8;have hby:=um.out Y1 hgr;have F6:=ae ((hby.block _ (aZ.1 zV.out).1).trans zV.out);have IZ:=ae ((hby.block _ (aZ.1 Jb.out).1).trans Jb.out);have Nr:=ae (Gf.out.keep hby);have Ns:=ae (Gg.out.keep hby);have H7:=ae (Es.out.grow hby);clear G8 hgr hby zV Jb Gf Gg Es PQ qZ um Ny Ej;rw [ha0];clear ha0 uf a0;go_wp2_with fail;rw [rounds_succ];go_upto_region 13 with fail;have HRW:Hid (Y1.rangeAt sb 2 [pt kd,pt ka]):=ae (fun j v hv=>by
   rw [cell_of_row Y1 sb _ _ _ _ IZ.out]
   match j,hv with
   |0,hv=>exact hv
   |1,hv=>exact hv
   |j+2,hv=>simp at hv)
  have FW:=ae (heap_alloc_last Y1 (.cells #[.pointer none, .pointer none] 94));go_upto_region 14 with (first
   |((with_reducible refine fO 94 ?_);go_must (refine bC rfl _ _ rfl sb 2 rfl [pt kd,pt ka] HRW.out _ Tryz.underlying94 rfl HP94.out ?_))
   |((with_reducible refine bn 94 ?_);go_must (refine aG rfl 94 rfl #[.pointer none, .pointer none] (by kernel_rfl) ?_))
   |((with_reducible refine dO 94 ?_);go_must (refine wpList_store_row rfl _ _ _ rfl Y1.heap.size #[pt kd,pt ka] rfl rfl 94 #[.pointer none, .pointer none] FW.out (by kernel_rfl) rfl (by simp [Value.oneCell']) ?_)))
  try simp only [Act.put]
  have hb1:=aC (ag Y1 (.cells #[.pointer none, .pointer none] 94)) (Nat.le_refl _) #[pt kd,pt ka];have Ny:=ae (AV.lq (AV.new Y1 #[.pointer none, .pointer none] 94) #[pt kd,pt ka]);have zV:=ae ((hb1.block _ (aZ.1 F6.out).1).trans F6.out);have Jb:=ae ((hb1.block _ (aZ.1 IZ.out).1).trans IZ.out);have Gf:=ae (Nr.out.keep hb1);have Gg:=ae (Ns.out.keep hb1);have Es:=ae (H7.out.grow hb1);have Px:=ae ((hb1.block _ (aZ.1 HDK.out).1).trans HDK.out);have hvb:Y1.heap.size<((Y1.alloc (.cells #[.pointer none, .pointer none] 94)).setRow Y1.heap.size #[pt kd,pt ka]).heap.size:=Ny.out.lt;clear HDK hb1 FW HRW IZ F6 Nr Ns H7;generalize (Y1.alloc (.cells #[.pointer none, .pointer none] 94)).setRow Y1.heap.size #[pt kd,pt ka]=V1 at Px Ny zV Jb Gf Gg Es hvb ⊢;generalize Y1.heap.size=vb at Ny hvb ⊢;have v0:V1.cell? ⟨vb,0,none⟩=some (pt kd):=Ny.out.cell 0;have Lh:=ae (rW kd (-2251799813685248));go_wp2_with fail;refine (Lh.out _).mono ?_;rintro e w8 ⟨rfl,rfl⟩;clear Lh v0;obtain ⟨w8,hw8⟩:∃W,(V1.alloc (.cells #[.pointer (some ⟨kd,0,none⟩)] 85)).alloc (.cells #[I (-2251799813685248)] 3)=W:=⟨_,rfl⟩;have hb8:Below V1.heap.size V1 w8:=by rw [←hw8];exact ah (ag V1 _) (ag _ _)
  have hcb:w8.heap[V1.heap.size]? =some (.cells #[.pointer (some ⟨kd,0,none⟩)] 85 (0,0)):=by rw [←hw8];exact heap_alloc2_old V1 _ _
  have htb:w8.heap[V1.heap.size+1]? =some (.cells #[I (-2251799813685248)] 3 (0,0)):=by rw [←hw8];exact heap_alloc2_new V1 _ _
  have hs8:w8.heap.size=V1.heap.size+2:=by rw [←hw8];simp
  rw [hw8];clear hw8;have Ej:=ae hb8;have Y4:eb<V1.heap.size:=(aZ.1 zV.out).1;have hsm1:w.heap.size+3<V1.heap.size:=(aZ.1 Es.out.r2).1;have PQ:Hid (pU Fence.wide 2 Tryz.prog 57 #[.pointer (some ⟨V1.heap.size,0,none⟩), .pointer (some ⟨V1.heap.size+1,0,none⟩)] (fun x:TrP z=> #[.agg #[I x.1.at_,I x.1.off]]) (fun _=>True) (fun _=>True) (fun pre=>∀x∈pre,x.1.at_≤en) w8.heap.size (V1.heap.size+1) w8):=ae (by
   obtain ⟨n0,n1,n3,a,r,c0,d0,c,lo,hi,A0,R0,A,C,D0,hk⟩:=Gg.out;exact G5 2 lo hi w8.heap.size kd V1.heap.size (V1.heap.size+1) _ _ n0 n1 n3 a r c0 d0 c A0 R0 A C D0 _ _ _ _ _ (-2251799813685248) en z w8 HM.out HG.out ⟨hk.far (fun k hk _=>hb8.block k hk) (Nat.le_refl _),hcb,htb,by omega,by omega⟩ (Nat.le_refl _) rfl rfl rfl rfl (by omega) (by omega) (by omega))
  have qZ:Hid (∀X,w8.grownBy X (some (V1.heap.size+1))→∀k,k<V1.heap.size→X.heap[k]? =V1.heap[k]?):=ae (fun X hg k hk=>(hg.block k (by omega) (fun e=>by injection e with e;omega)).trans (hb8.block k hk));have um:Hid (∀X,w8.grownBy X (some (V1.heap.size+1))→Below V1.heap.size V1 X):=ae (fun X hg=>hb8.grown hg hb8.size (fun k e=>by injection e with e;omega));clear hb8 hcb htb;go_wp2_with fail;refine (wpIn_wide (n:=3)).1 ?_;refine wP (P:=fun a0=>Code.wpIn _ _ _ _ _ a0 _) (fun a0 ha0=>?_);have uf:=ae ha0;refine sQ (by omega) (gf:=57) (lb:= #[.pointer (some ⟨V1.heap.size,0,none⟩), .pointer (some ⟨V1.heap.size+1,0,none⟩)]) (by rw [ha0];rfl) (enters_of Tryz.func57 (by kernel_rfl) rfl)
   PQ.out (by omega) (Nat.le_refl _) (Below.refl _ _) (fun _=>rfl) (fun pre=>∀x∈pre,x.1.at_≤en) (fun _ h=>nomatch h) (fun _ h=>h)
   (fun x a' X=>∃q,w8.heap.size≤q∧X.heap[q]? =some (.cells #[I x.1.at_,I x.1.off] 100 (0,0))∧a'=({tmps:=(a0.tmps.setIfInBounds 78 (.agg #[I x.1.at_,I x.1.off])).setIfInBounds 15 (.pointer (some ⟨q,0,none⟩)),defers:= []}:Act))
   (fun x a' _ X Y row hs hg hr=>by obtain ⟨q,h1,h2,h3⟩:=hs;exact ⟨q,h1,qy q _ _ () X Y row h2 hg hr,h3⟩)
   ?assign ?body ?rest
  case assign=>
   rintro l pre ⟨⟨xa,xo⟩,hx⟩ X K ⟨hpre,hgr⟩ hK;have HG2:=ae hgr;have XO:=ae hpre;have UW:=hgr.size;clear hgr hpre;rw [ha0] at hK ⊢;simp only [List.zip_toArray,List.zip_cons_cons,List.zip_nil_right,List.foldl_toArray,List.foldl_cons,List.foldl_nil,List.setIfInBounds_toArray,List.set_cons_succ,List.set_cons_zero] at hK ⊢
   gi_wp2_with (first|((with_reducible refine pX 100 ?_);refine ik rfl _ rfl #[I 0,I 0] (by kernel_rfl) ?_)|((with_reducible refine mM 100 ?_);go_must (refine dW rfl _ _ _ rfl #[I xa,I xo] rfl rfl 100 #[I 0,I 0] rfl (by kernel_rfl) rfl (by kernel_rfl) ?_);intro W5 hb5 hs5 hh5 oL hk5;have kT:=ae hb5;have Np:=ae hh5;have tu:=ae hk5;clear hb5 hs5 hh5 oL hk5))
   exact hK _ _ (tu.out.from _) (kT.out.mono (by omega)) ⟨XO.out,HG2.out.andThen (jm kT.out) (fun j e=>nomatch e)⟩ ⟨X.heap.size,by omega,Np.out,rfl⟩
  case body=>
   rintro l pre ⟨⟨xa,xo⟩,hx⟩ a' X hl _ ⟨hpre,hgr⟩ ⟨q,hq,hblk,rfl⟩;have XO:=ae hpre;have HG2:=ae hgr;have I9:Hid (X.heap[q]? =some (.cells #[I xa,I xo] 100 (0,0))):=ae hblk;have x0:X.cell? ⟨q,0,none⟩=some (I xa):=cell_of_row X q 0 _ _ _ hblk;have e0:X.cell? ⟨eb,0,none⟩=some (I en):=(fZ (qZ.out X hgr eb Y4)).trans (cell_of_row V1 eb 0 _ _ _ zV.out);have OZ:Hid (mO z xa=some ⟨xa,xo⟩):=ae hx.1;have hxb: -1000000000≤xa∧xa≤1000000000:=hx.2;clear hpre hgr hblk;rw [ha0];simp only [List.setIfInBounds_toArray,List.set_cons_succ,List.set_cons_zero];by_cases hgt:en<xa
   ·gi_wp2_with fail
    exact ⟨(show KeepsOthers X X from ⟨Nat.le_refl _,fun _ _ h _=>h⟩).from _,rfl,HG2.out⟩
   ·gi_wp2_with fail
    clear x0 e0;have HS:Hid (∀W,Below X.heap.size X W→W.cell? ⟨q,0,none⟩=some (I xa)∧W.cell? ⟨q,1,none⟩=some (I xo)∧W.cell? ⟨vb,1,none⟩=some (pt ka)):=ae fun W hb=>by
     have UR:=(aZ.1 I9.out).1;have hv:=(fZ (qZ.out X HG2.out vb hvb)).trans (Ny.out.cell 1);have hup:=(um.out X HG2.out).size;exact ⟨(hb.cell (p:=⟨q,0,none⟩) UR).trans (cell_of_row X q 0 _ _ _ I9.out),(hb.cell (p:=⟨q,1,none⟩) UR).trans (cell_of_row X q 1 _ _ _ I9.out),(hb.cell (p:=⟨vb,1,none⟩) (by show vb<_;omega)).trans hv⟩
    have O1:=ae (uS z ka xa X.drew HM.out HG.out ((Gf.out.keep (um.out X HG2.out)).keep ((Below.refl _ X).drew)) hxb);rw [show AZ z xa=xo by unfold AZ;rw [OZ.out];rfl] at O1;have hH:=HS.out X.drew ((Below.refl _ X).drew);refine gy (S:=fun W=>W.cell? ⟨q,0,none⟩=some (I xa)∧W.cell? ⟨q,1,none⟩=some (I xo)∧W.cell? ⟨vb,1,none⟩=some (pt ka)) (wB (by kernel_rfl)) (by kernel_rfl) (by rintro ⟨a,w,h⟩;exact h) ?_;refine aK 0 (.pointer (some ⟨q,1,none⟩)) 83 hH (fun W hW=>?_) ?_
    ·obtain ⟨s0,s1,s2⟩:=hW
     first|(go_simp;done)|(go_simp;with_reducible rfl)
    refine ax ?_;refine aK 1 (I xo) 84 hH (fun W hW=>?_) ?_
    ·obtain ⟨s0,s1,s2⟩:=hW
     first|(go_simp;done)|(go_simp;with_reducible rfl)
    refine ax ?_;refine aK 2 (.pointer (some ⟨vb,1,none⟩)) 85 hH (fun W hW=>?_) ?_
    ·obtain ⟨s0,s1,s2⟩:=hW
     first|(go_simp;done)|(go_simp;with_reducible rfl)
    refine ax ?_;refine aK 3 (pt ka) 86 hH (fun W hW=>?_) ?_
    ·obtain ⟨s0,s1,s2⟩:=hW
     first|(go_simp;done)|(go_simp;with_reducible rfl)
    refine ax ?_;refine aK 4 (.pointer (some ⟨q,0,none⟩)) 87 hH (fun W hW=>?_) ?_
    ·obtain ⟨s0,s1,s2⟩:=hW
     first|(go_simp;done)|(go_simp;with_reducible rfl)
    refine ax ?_;refine aK 5 (I xa) 88 hH (fun W hW=>?_) ?_
    ·obtain ⟨s0,s1,s2⟩:=hW
     first|(go_simp;done)|(go_simp;with_reducible rfl)
    refine ax ?_;clear hH;refine bI 6 (fun K hK=>?_);go_simp;go_at_call 32;refine O1.out.mono ?_;rintro e Z ⟨rfl,hbz⟩;have Pm:Hid (Below X.heap.size X Z):=ae (Below.trans ((Below.refl _ X).drew) hbz);have hH:=HS.out Z Pm.out;refine hK.out _ _ hH (fun _=>?_);clear hK K hbz;refine ax ?_;refine aK 7 (.bool false) 90 hH (fun W hW=>?_) ?_
    ·obtain ⟨s0,s1,s2⟩:=hW
     first|(go_simp;done)|(go_simp;with_reducible rfl)
    refine ax ?_;refine wpAnyH_done (by kernel_rfl) ?_ _
    gi_wp2_with fail
    exact ⟨(show KeepsOthers X Z from ⟨Pm.out.size,fun k o h _=>(Pm.out.block k (aZ.1 h).1).trans h⟩).from _,Pm.out.mono HG2.out.size,fun y hy=>by
     rcases List.mem_append.1 hy with h|h
     ·exact XO.out y h
     ·rw [List.mem_singleton.1 h];show xa≤en;omega,HG2.out.andThen (jm Pm.out) (fun j e=>nomatch e)⟩
  case rest=>
   rintro E Y2 hE hgr hEK;have HEK:=ae hEK;have hby:=um.out Y2 hgr;have HDK2:=ae ((hby.block _ (aZ.1 Px.out).1).trans Px.out);have hDlt:D<V1.heap.size:=(aZ.1 Px.out).1;have H9:=ae (Es.out.grow hby);clear hEK hgr hby zV Jb Gf Gg Es PQ qZ um Ny Ej Px;rw [ha0];clear ha0 uf a0;go_wp2_with fail;rw [rounds_succ];have c1:Y2.cell? ⟨w.heap.size+1+1,0,none⟩=some (.bool false):=cell_of_row Y2 _ 0 _ _ _ H9.out.r1;have c2:Y2.cell? ⟨w.heap.size+1+1+1,0,none⟩=some (I 0):=cell_of_row Y2 _ 0 _ _ _ H9.out.r2;have f1:Y2.frozen? ⟨w.heap.size+1+1,0,none⟩=false:=frozen_of_row Y2 _ 0 _ _ H9.out.r1;have f2:Y2.frozen? ⟨w.heap.size+1+1+1,0,none⟩=false:=frozen_of_row Y2 _ 0 _ _ H9.out.r2;go_wp2_with fail;have hE3:w.heap.size+3<E:=by omega
   have hD3:w.heap.size+3<D:=by omega
   have hDE:E≠D:=by omega
   have hr1:((Y2.setCell ⟨w.heap.size+1+1,0,none⟩ (.bool true)).setCell ⟨w.heap.size+1+1+1,0,none⟩ (I 0)).heap[w.heap.size+2]? =some (.cells #[.bool true] 4 (0,0)):=(heap_setCell_other _ ⟨w.heap.size+1+1+1,0,none⟩ _ _ (by show w.heap.size+2≠w.heap.size+1+1+1;omega)).trans (heap_setCell_same Y2 (w.heap.size+2) 0 _ _ _ H9.out.r1);have hr2:((Y2.setCell ⟨w.heap.size+1+1,0,none⟩ (.bool true)).setCell ⟨w.heap.size+1+1+1,0,none⟩ (I 0)).heap[w.heap.size+3]? =some (.cells #[I 0] 33 (0,0)):=heap_setCell_same _ (w.heap.size+3) 0 _ _ _ ((heap_setCell_other Y2 ⟨w.heap.size+1+1,0,none⟩ _ _ (by show w.heap.size+3≠w.heap.size+1+1;omega)).trans H9.out.r2);have hlo:=(H9.out.lo.setCell (p:=⟨w.heap.size+1+1,0,none⟩) (by show w.heap.size≤w.heap.size+1+1;omega) (.bool true)).setCell (p:=⟨w.heap.size+1+1+1,0,none⟩) (by show w.heap.size≤w.heap.size+1+1+1;omega) (I 0);have hEk:((Y2.setCell ⟨w.heap.size+1+1,0,none⟩ (.bool true)).setCell ⟨w.heap.size+1+1+1,0,none⟩ (I 0)).heap[E]? =some (.deferred (some [])):=(mQ (b:=w.heap.size+1) (by omega)).trans HEK.out;have hDk:((Y2.setCell ⟨w.heap.size+1+1,0,none⟩ (.bool true)).setCell ⟨w.heap.size+1+1+1,0,none⟩ (I 0)).heap[D]? =some (.deferred (some [])):=(mQ (b:=w.heap.size+1) (by omega)).trans HDK2.out;refine ED (v:= .tuple #[.bool true,I 0]) rfl hEk ((World.putObj_heap_other (by omega)).trans hDk) (ji rfl _ _ ⟨w.heap.size+1+1,0,none⟩ ⟨w.heap.size+1+1+1,0,none⟩ (.bool true) (I 0) rfl (gQ _ _ _ ?_) rfl (QZ _ _ _ ?_)) ⟨rfl,?_⟩
   ·exact cell_of_row _ (w.heap.size+2) 0 _ _ _ ((World.putObj_heap_other (by omega)).trans ((World.putObj_heap_other (by omega)).trans hr1))
   ·exact cell_of_row _ (w.heap.size+3) 0 _ _ _ ((World.putObj_heap_other (by omega)).trans ((World.putObj_heap_other (by omega)).trans hr2))
   ·have h1:=hlo.grown (grownBy_putObj' _ E (.deferred none)) hlo.size (fun k e=>by injection e with e;omega);exact h1.grown (grownBy_putObj' _ D (.deferred none)) h1.size (fun k e=>by injection e with e;omega)
end Go.Proofs.YtdibbemgpikgjaaGreat
