/- Part 31 of 50 of the proof of topWindows_holds. Conditions: see each. -/
import Derived.Test.YtgmodehldmahiaaGreatDoorW14
import Derived.Test.YtgmodehldmahiaaGreatDoorW28
set_option linter.unusedVariables false
set_option linter.unusedSimpArgs false
set_option maxRecDepth 8192
set_option maxHeartbeats 40000000
namespace Go.Proofs.YtgmodehldmahiaaGreatDoor
open Go Go.RowKit Go.Tm
theorem acN(c:List Int)(a b:Nat)(bZ:Int)(hc:fO c)(hI:jJ 18 a b bZ)(hm:o7 18 a b bZ=true):
  ∃x y:Int,cK x∧cK y∧jg 18 a b bZ c (c.set 8 y):=by
 obtain⟨h1,h2,h3,h4,h5,h6,h7,h8⟩:=hI
 have HM:=Lib.hid (fun W h=>iQ 18 a b bZ W h)
 rw[hm] at HM
 have hcl:=hc.len
 have gA:=aV c (i:=a) ah
 have gB:=aV c (i:=b) ah
 have gP:=aV c (i:=8) ah
 have wA:cK (c.getD a 0):=hc.w _ bK
 have wB:cK (c.getD b 0):=hc.w _ bK
 have wP:cK (c.getD 8 0):=hc.w _ bK
 generalize c.getD a 0=ra at*
 generalize c.getD b 0=rb at*
 generalize c.getD 8 0=pc at*
 have hsz:=b_ c
 have hA1:=wA.1
 have hA2:=wA.2
 have hB1:=wB.1
 have hB2:=wB.2
 have ht:0≤rb.tmod 32∧rb.tmod 32≤32:=kM
 have ht1:=ht.1
 have ht2:=ht.2
 clear hm hc ht
 skip
 all_goals
  apply Exists.intro
  apply Exists.intro
  refine⟨?_,?_,?_⟩
  rotate_left 2
  ·intro w hT
   have HT:=Lib.hid (fun W (h:Below w.heap.size w W)=>hT.below h)
   clear hT
   go_enter Tryz.func145,Tryz.ntmps145
   go_wp2_with fail
   with_reducible refine(HM.out _ (HT.out _ ?_)).mono ?_
   focus exact bl
   rintro e w1 ⟨rfl,hb1⟩
   have hz1:=hb1.size
   simp only[World.size_alloc] at hz1
   (have b1:aC w1 w.heap.size (dY c) 119:=kP);(obtain⟨hc1,hf1,hl1,hn1,hm1⟩:=b1.rules);(have K1:=Lib.hid b1);(clear b1)
   (have b2:aC w1 (w.heap.size+1) #[.int .i64 18,.int .i64 a,.int .i64 b,.int .i64 bZ] 250:=jP);(obtain⟨hc2,hf2,hl2,hn2,hm2⟩:=b2.rules);(have K2:=Lib.hid b2);(clear b2)
   (have b3:aC w1 (w.heap.size+1+1) #[.int .u32 0,.int .u32 0,.int .u32 0,.int .u32 0,.int .u32 0,.int .u32 0,.int .u32 0,.int .u32 0,.int .u32 0] 119:=kN);(obtain⟨hc3,hf3,hl3,sU,ng⟩:=b3.rules);(have K3:=Lib.hid b3);(clear b3)
   have hbw:Below w.heap.size w w1:=aD
   clear hb1 hc3
   rw[iR] at K3
   have cA:=(hc1 a).trans gA
   have cB:=(hc1 b).trans gB
   have cP:=(hc1 8).trans gP
   clear hc1
   go_wp2_with fail
   have a8:a<8:=ah
   have b8:b<8:=ah
   go_region
   go_wp2_with fail
   go_region
   go_upto_block 0 with fail
   (refine bH ?_;(iterate 3 (refine bQ aB ?_));apply bR;(focus((iterate 14 (apply bJ (hid:=by decide)));(go_wp2_with fail;exact⟨rfl,rfl,rfl⟩))))
   go_wp2_with fail
   refine dn ?_
   have hcv:=fun c=>gQ c
   go_wp2_with(first|((with_reducible refine bS 119 ?_);(generalize bN:World.drew _=w5);(have K5:aC w5 w.heap.size (dY (c.set 8 _)) 119:=(by rw[←bN];exact((K1.out.set 8 _).drew.drew).cast (by rw[ug hcl ah])));(generalize hC5:((c.set 8 _):List Int)=c5 at K5);(have K6:aC w5 (w.heap.size+1+1) (dY []) 119:=Fj);(have hb5:Below w.heap.size w w5:=bM);(have HK5:=Lib.hid K5);(have Xe:=Lib.hid K6);(clear bN K5 K6 cA cB cP);(obtain⟨hc6,hf6,hl6,hn6,Jv⟩:=aC.rules Xe.out);(have hsz0:=b_ []);(have hsz5:=b_ c5);(refine aJ rfl 119 _ rfl (dY c5) iC (hcv c5) HK5.out ?_ ?_;(exact aG)))|((with_reducible refine bO 119 ?_);(refine aN rfl 119 _ _ rfl Xe.out (jm c5) iC (hcv c5) ?_ _ (pQ _ _) ?_ ?_ ?_);(focus(first|omega|(simp only[b_];decide)|trace "1"));(exact adH);(exact adG);(intro w7 Hf vC Io oZ;(have af7:=hb5.trans (oZ.mono (Nat.le_add_right w.heap.size 2)));(have hc7:=Hf.rules.1);(rw[gK] at hc7)))|fail)
   exact bodyPost_ret (v:= .tuple #[jm c5,.bool true]) adQ rfl ⟨congrArg (fun z=>Ending.returned (.tuple #[jm z,.bool true])) hC5.symm,af7⟩
  all_goals first|assumption|exact⟨ah,ah⟩|exact kR _ _ _|exact nZ _ _ aZ|exact nN _ _ aZ aZ|exact kQ _ _ aZ aZ|exact j4 _|skip
theorem acM(c:List Int)(a b:Nat)(bZ:Int)(hc:fO c)(hI:jJ 19 a b bZ)(hm:o7 19 a b bZ=true):
  ∃x y:Int,cK x∧cK y∧jg 19 a b bZ c ((c.set a x).set 8 y):=by
 obtain⟨h1,h2,h3,h4,h5,h6,h7,h8⟩:=hI
 have HM:=Lib.hid (fun W h=>iQ 19 a b bZ W h)
 rw[hm] at HM
 have hcl:=hc.len
 have gA:=aV c (i:=a) ah
 have gB:=aV c (i:=b) ah
 have gP:=aV c (i:=8) ah
 have wA:cK (c.getD a 0):=hc.w _ bK
 have wB:cK (c.getD b 0):=hc.w _ bK
 have wP:cK (c.getD 8 0):=hc.w _ bK
 generalize c.getD a 0=ra at*
 generalize c.getD b 0=rb at*
 generalize c.getD 8 0=pc at*
 have hsz:=b_ c
 have hA1:=wA.1
 have hA2:=wA.2
 have hB1:=wB.1
 have hB2:=wB.2
 have ht:0≤rb.tmod 32∧rb.tmod 32≤32:=kM
 have ht1:=ht.1
 have ht2:=ht.2
 clear hm hc ht
 skip
 all_goals
  apply Exists.intro
  apply Exists.intro
  refine⟨?_,?_,?_⟩
  rotate_left 2
  ·intro w hT
   have HT:=Lib.hid (fun W (h:Below w.heap.size w W)=>hT.below h)
   clear hT
   go_enter Tryz.func145,Tryz.ntmps145
   go_wp2_with fail
   with_reducible refine(HM.out _ (HT.out _ ?_)).mono ?_
   focus exact bl
   rintro e w1 ⟨rfl,hb1⟩
   have hz1:=hb1.size
   simp only[World.size_alloc] at hz1
   (have b1:aC w1 w.heap.size (dY c) 119:=kP);(obtain⟨hc1,hf1,hl1,hn1,hm1⟩:=b1.rules);(have K1:=Lib.hid b1);(clear b1)
   (have b2:aC w1 (w.heap.size+1) #[.int .i64 19,.int .i64 a,.int .i64 b,.int .i64 bZ] 250:=jP);(obtain⟨hc2,hf2,hl2,hn2,hm2⟩:=b2.rules);(have K2:=Lib.hid b2);(clear b2)
   (have b3:aC w1 (w.heap.size+1+1) #[.int .u32 0,.int .u32 0,.int .u32 0,.int .u32 0,.int .u32 0,.int .u32 0,.int .u32 0,.int .u32 0,.int .u32 0] 119:=kN);(obtain⟨hc3,hf3,hl3,sU,ng⟩:=b3.rules);(have K3:=Lib.hid b3);(clear b3)
   have hbw:Below w.heap.size w w1:=aD
   clear hb1 hc3
   rw[iR] at K3
   have cA:=(hc1 a).trans gA
   have cB:=(hc1 b).trans gB
   have cP:=(hc1 8).trans gP
   clear hc1
   go_wp2_with fail
   have a8:a<8:=ah
   have b8:b<8:=ah
   go_region
   go_wp2_with fail
   go_region
   go_upto_block 0 with fail
   (refine bH ?_;(iterate 3 (refine bQ aB ?_));apply pF;(focus(apply bR;(focus((iterate 13 (apply bJ (hid:=by decide)));(go_wp2_with fail;exact⟨rfl,rfl,rfl⟩)));(go_wp2_with fail;exact⟨rfl,rfl,rfl⟩))))
   exact vO
  all_goals first|assumption|exact⟨ah,ah⟩|exact kR _ _ _|exact nZ _ _ aZ|exact nN _ _ aZ aZ|exact kQ _ _ aZ aZ|exact j4 _|skip
theorem acL(c:List Int)(a b:Nat)(bZ:Int)(hc:fO c)(hI:jJ 20 a b bZ)(hm:o7 20 a b bZ=true):
  ∃x y:Int,cK x∧cK y∧jg 20 a b bZ c ((c.set a x).set 8 y):=by
 obtain⟨h1,h2,h3,h4,h5,h6,h7,h8⟩:=hI
 have HM:=Lib.hid (fun W h=>iQ 20 a b bZ W h)
 rw[hm] at HM
 have hcl:=hc.len
 have gA:=aV c (i:=a) ah
 have gB:=aV c (i:=b) ah
 have gP:=aV c (i:=8) ah
 have wA:cK (c.getD a 0):=hc.w _ bK
 have wB:cK (c.getD b 0):=hc.w _ bK
 have wP:cK (c.getD 8 0):=hc.w _ bK
 generalize c.getD a 0=ra at*
 generalize c.getD b 0=rb at*
 generalize c.getD 8 0=pc at*
 have hsz:=b_ c
 have hA1:=wA.1
 have hA2:=wA.2
 have hB1:=wB.1
 have hB2:=wB.2
 have ht:0≤rb.tmod 32∧rb.tmod 32≤32:=kM
 have ht1:=ht.1
 have ht2:=ht.2
 clear hm hc ht
 skip
 all_goals
  apply Exists.intro
  apply Exists.intro
  refine⟨?_,?_,?_⟩
  rotate_left 2
  ·intro w hT
   have HT:=Lib.hid (fun W (h:Below w.heap.size w W)=>hT.below h)
   clear hT
   go_enter Tryz.func145,Tryz.ntmps145
   go_wp2_with fail
   with_reducible refine(HM.out _ (HT.out _ ?_)).mono ?_
   focus exact bl
   rintro e w1 ⟨rfl,hb1⟩
   have hz1:=hb1.size
   simp only[World.size_alloc] at hz1
   (have b1:aC w1 w.heap.size (dY c) 119:=kP);(obtain⟨hc1,hf1,hl1,hn1,hm1⟩:=b1.rules);(have K1:=Lib.hid b1);(clear b1)
   (have b2:aC w1 (w.heap.size+1) #[.int .i64 20,.int .i64 a,.int .i64 b,.int .i64 bZ] 250:=jP);(obtain⟨hc2,hf2,hl2,hn2,hm2⟩:=b2.rules);(have K2:=Lib.hid b2);(clear b2)
   (have b3:aC w1 (w.heap.size+1+1) #[.int .u32 0,.int .u32 0,.int .u32 0,.int .u32 0,.int .u32 0,.int .u32 0,.int .u32 0,.int .u32 0,.int .u32 0] 119:=kN);(obtain⟨hc3,hf3,hl3,sU,ng⟩:=b3.rules);(have K3:=Lib.hid b3);(clear b3)
   have hbw:Below w.heap.size w w1:=aD
   clear hb1 hc3
   rw[iR] at K3
   have cA:=(hc1 a).trans gA
   have cB:=(hc1 b).trans gB
   have cP:=(hc1 8).trans gP
   clear hc1
   go_wp2_with fail
   have a8:a<8:=ah
   have b8:b<8:=ah
   go_region
   go_wp2_with fail
   go_region
   go_upto_block 0 with fail
   (refine bH ?_;(iterate 2 (refine bQ aB ?_));apply bR;(focus((iterate 15 (apply bJ (hid:=by decide)));(go_wp2_with fail;exact⟨rfl,rfl,rfl⟩))))
   exact vO
  all_goals first|assumption|exact⟨ah,ah⟩|exact kR _ _ _|exact nZ _ _ aZ|exact nN _ _ aZ aZ|exact kQ _ _ aZ aZ|exact j4 _|skip
theorem acK(c:List Int)(a b:Nat)(bZ:Int)(hc:fO c)(hI:jJ 21 a b bZ)(hm:o7 21 a b bZ=true):
  ∃x y:Int,cK x∧cK y∧jg 21 a b bZ c ((c.set a x).set 8 y):=by
 obtain⟨h1,h2,h3,h4,h5,h6,h7,h8⟩:=hI
 have HM:=Lib.hid (fun W h=>iQ 21 a b bZ W h)
 rw[hm] at HM
 have hcl:=hc.len
 have gA:=aV c (i:=a) ah
 have gB:=aV c (i:=b) ah
 have gP:=aV c (i:=8) ah
 have wA:cK (c.getD a 0):=hc.w _ bK
 have wB:cK (c.getD b 0):=hc.w _ bK
 have wP:cK (c.getD 8 0):=hc.w _ bK
 generalize c.getD a 0=ra at*
 generalize c.getD b 0=rb at*
 generalize c.getD 8 0=pc at*
 have hsz:=b_ c
 have hA1:=wA.1
 have hA2:=wA.2
 have hB1:=wB.1
 have hB2:=wB.2
 have ht:0≤rb.tmod 32∧rb.tmod 32≤32:=kM
 have ht1:=ht.1
 have ht2:=ht.2
 clear hm hc ht
 rcases Bool.eq_false_or_eq_true (ra==rb) with e7|e7
 all_goals
  apply Exists.intro
  apply Exists.intro
  refine⟨?_,?_,?_⟩
  rotate_left 2
  ·intro w hT
   have HT:=Lib.hid (fun W (h:Below w.heap.size w W)=>hT.below h)
   clear hT
   go_enter Tryz.func145,Tryz.ntmps145
   go_wp2_with fail
   with_reducible refine(HM.out _ (HT.out _ ?_)).mono ?_
   focus exact bl
   rintro e w1 ⟨rfl,hb1⟩
   have hz1:=hb1.size
   simp only[World.size_alloc] at hz1
   (have b1:aC w1 w.heap.size (dY c) 119:=kP);(obtain⟨hc1,hf1,hl1,hn1,hm1⟩:=b1.rules);(have K1:=Lib.hid b1);(clear b1)
   (have b2:aC w1 (w.heap.size+1) #[.int .i64 21,.int .i64 a,.int .i64 b,.int .i64 bZ] 250:=jP);(obtain⟨hc2,hf2,hl2,hn2,hm2⟩:=b2.rules);(have K2:=Lib.hid b2);(clear b2)
   (have b3:aC w1 (w.heap.size+1+1) #[.int .u32 0,.int .u32 0,.int .u32 0,.int .u32 0,.int .u32 0,.int .u32 0,.int .u32 0,.int .u32 0,.int .u32 0] 119:=kN);(obtain⟨hc3,hf3,hl3,sU,ng⟩:=b3.rules);(have K3:=Lib.hid b3);(clear b3)
   have hbw:Below w.heap.size w w1:=aD
   clear hb1 hc3
   rw[iR] at K3
   have cA:=(hc1 a).trans gA
   have cB:=(hc1 b).trans gB
   have cP:=(hc1 8).trans gP
   clear hc1
   go_wp2_with fail
   have a8:a<8:=ah
   have b8:b<8:=ah
   go_region
   go_wp2_with fail
   go_region
   go_upto_block 0 with fail
   (refine bH ?_;refine bQ aB ?_;apply bR;(focus((iterate 16 (apply bJ (hid:=by decide)));(go_wp2_with fail;exact⟨rfl,rfl,rfl⟩))))
   exact vO
  all_goals first|assumption|exact⟨ah,ah⟩|exact kR _ _ _|exact nZ _ _ aZ|exact nN _ _ aZ aZ|exact kQ _ _ aZ aZ|exact j4 _|skip
theorem acJ(c:List Int)(a b:Nat)(bZ:Int)(hc:fO c)(hI:jJ 22 a b bZ)(hm:o7 22 a b bZ=true):
  ∃x y:Int,cK x∧cK y∧jg 22 a b bZ c ((c.set a x).set 8 y):=by
 obtain⟨h1,h2,h3,h4,h5,h6,h7,h8⟩:=hI
 have HM:=Lib.hid (fun W h=>iQ 22 a b bZ W h)
 rw[hm] at HM
 have hcl:=hc.len
 have gA:=aV c (i:=a) ah
 have gB:=aV c (i:=b) ah
 have gP:=aV c (i:=8) ah
 have wA:cK (c.getD a 0):=hc.w _ bK
 have wB:cK (c.getD b 0):=hc.w _ bK
 have wP:cK (c.getD 8 0):=hc.w _ bK
 generalize c.getD a 0=ra at*
 generalize c.getD b 0=rb at*
 generalize c.getD 8 0=pc at*
 have hsz:=b_ c
 have hA1:=wA.1
 have hA2:=wA.2
 have hB1:=wB.1
 have hB2:=wB.2
 have ht:0≤rb.tmod 32∧rb.tmod 32≤32:=kM
 have ht1:=ht.1
 have ht2:=ht.2
 clear hm hc ht
 rcases Bool.eq_false_or_eq_true (decide (wrap32 ra<wrap32 rb)) with e7|e7
 all_goals
  apply Exists.intro
  apply Exists.intro
  refine⟨?_,?_,?_⟩
  rotate_left 2
  ·intro w hT
   have HT:=Lib.hid (fun W (h:Below w.heap.size w W)=>hT.below h)
   clear hT
   go_enter Tryz.func145,Tryz.ntmps145
   go_wp2_with fail
   with_reducible refine(HM.out _ (HT.out _ ?_)).mono ?_
   focus exact bl
   rintro e w1 ⟨rfl,hb1⟩
   have hz1:=hb1.size
   simp only[World.size_alloc] at hz1
   (have b1:aC w1 w.heap.size (dY c) 119:=kP);(obtain⟨hc1,hf1,hl1,hn1,hm1⟩:=b1.rules);(have K1:=Lib.hid b1);(clear b1)
   (have b2:aC w1 (w.heap.size+1) #[.int .i64 22,.int .i64 a,.int .i64 b,.int .i64 bZ] 250:=jP);(obtain⟨hc2,hf2,hl2,hn2,hm2⟩:=b2.rules);(have K2:=Lib.hid b2);(clear b2)
   (have b3:aC w1 (w.heap.size+1+1) #[.int .u32 0,.int .u32 0,.int .u32 0,.int .u32 0,.int .u32 0,.int .u32 0,.int .u32 0,.int .u32 0,.int .u32 0] 119:=kN);(obtain⟨hc3,hf3,hl3,sU,ng⟩:=b3.rules);(have K3:=Lib.hid b3);(clear b3)
   have hbw:Below w.heap.size w w1:=aD
   clear hb1 hc3
   rw[iR] at K3
   have cA:=(hc1 a).trans gA
   have cB:=(hc1 b).trans gB
   have cP:=(hc1 8).trans gP
   clear hc1
   go_wp2_with fail
   have a8:a<8:=ah
   have b8:b<8:=ah
   go_region
   go_wp2_with fail
   go_region
   go_upto_block 0 with fail
   (refine bH ?_;refine bQ aB ?_;apply bR;(focus((iterate 16 (apply bJ (hid:=by decide)));(go_wp2_with fail;exact⟨rfl,rfl,rfl⟩))))
   exact vO
  all_goals first|assumption|exact⟨ah,ah⟩|exact kR _ _ _|exact nZ _ _ aZ|exact nN _ _ aZ aZ|exact kQ _ _ aZ aZ|exact j4 _|skip
theorem acI(c:List Int)(a b:Nat)(bZ:Int)(hc:fO c)(hI:jJ 23 a b bZ)(hm:o7 23 a b bZ=true):
  ∃x y:Int,cK x∧cK y∧jg 23 a b bZ c ((c.set a x).set 8 y):=by
 obtain⟨h1,h2,h3,h4,h5,h6,h7,h8⟩:=hI
 have HM:=Lib.hid (fun W h=>iQ 23 a b bZ W h)
 rw[hm] at HM
 have hcl:=hc.len
 have gA:=aV c (i:=a) ah
 have gB:=aV c (i:=b) ah
 have gP:=aV c (i:=8) ah
 have wA:cK (c.getD a 0):=hc.w _ bK
 have wB:cK (c.getD b 0):=hc.w _ bK
 have wP:cK (c.getD 8 0):=hc.w _ bK
 generalize c.getD a 0=ra at*
 generalize c.getD b 0=rb at*
 generalize c.getD 8 0=pc at*
 have hsz:=b_ c
 have hA1:=wA.1
 have hA2:=wA.2
 have hB1:=wB.1
 have hB2:=wB.2
 have ht:0≤rb.tmod 32∧rb.tmod 32≤32:=kM
 have ht1:=ht.1
 have ht2:=ht.2
 clear hm hc ht
 rcases Bool.eq_false_or_eq_true (decide (ra<rb)) with e7|e7
 all_goals
  apply Exists.intro
  apply Exists.intro
  refine⟨?_,?_,?_⟩
  rotate_left 2
  ·intro w hT
   have HT:=Lib.hid (fun W (h:Below w.heap.size w W)=>hT.below h)
   clear hT
   go_enter Tryz.func145,Tryz.ntmps145
   go_wp2_with fail
   with_reducible refine(HM.out _ (HT.out _ ?_)).mono ?_
   focus exact bl
   rintro e w1 ⟨rfl,hb1⟩
   have hz1:=hb1.size
   simp only[World.size_alloc] at hz1
   (have b1:aC w1 w.heap.size (dY c) 119:=kP);(obtain⟨hc1,hf1,hl1,hn1,hm1⟩:=b1.rules);(have K1:=Lib.hid b1);(clear b1)
   (have b2:aC w1 (w.heap.size+1) #[.int .i64 23,.int .i64 a,.int .i64 b,.int .i64 bZ] 250:=jP);(obtain⟨hc2,hf2,hl2,hn2,hm2⟩:=b2.rules);(have K2:=Lib.hid b2);(clear b2)
   (have b3:aC w1 (w.heap.size+1+1) #[.int .u32 0,.int .u32 0,.int .u32 0,.int .u32 0,.int .u32 0,.int .u32 0,.int .u32 0,.int .u32 0,.int .u32 0] 119:=kN);(obtain⟨hc3,hf3,hl3,sU,ng⟩:=b3.rules);(have K3:=Lib.hid b3);(clear b3)
   have hbw:Below w.heap.size w w1:=aD
   clear hb1 hc3
   rw[iR] at K3
   have cA:=(hc1 a).trans gA
   have cB:=(hc1 b).trans gB
   have cP:=(hc1 8).trans gP
   clear hc1
   go_wp2_with fail
   have a8:a<8:=ah
   have b8:b<8:=ah
   go_region
   go_wp2_with fail
   go_region
   go_upto_block 0 with fail
   (refine bH ?_;refine bQ aB ?_;apply bR;(focus((iterate 16 (apply bJ (hid:=by decide)));(go_wp2_with fail;exact⟨rfl,rfl,rfl⟩))))
   exact vO
  all_goals first|assumption|exact⟨ah,ah⟩|exact kR _ _ _|exact nZ _ _ aZ|exact nN _ _ aZ aZ|exact kQ _ _ aZ aZ|exact j4 _|skip
end Go.Proofs.YtgmodehldmahiaaGreatDoor
