/- Part 30 of 50 of the proof of topWindows_holds. Conditions: see each. -/
import Derived.Test.YtgmodehldmahiaaGreatDoorW14
import Derived.Test.YtgmodehldmahiaaGreatDoorW28
set_option linter.unusedVariables false
set_option linter.unusedSimpArgs false
set_option maxRecDepth 8192
set_option maxHeartbeats 40000000
namespace Go.Proofs.YtgmodehldmahiaaGreatDoor
open Go Go.RowKit Go.Tm
theorem ag7(c:List Int)(a b:Nat)(bZ:Int)(hc:fO c)(hI:jJ 8 a b bZ)(hm:o7 8 a b bZ=true):
  ∃x y:Int,cK x∧cK y∧jg 8 a b bZ c ((c.set a x).set 8 y):=by
 obtain⟨h1,h2,h3,h4,h5,h6,h7,h8⟩:=hI
 have HM:=Lib.hid (fun W h=>iQ 8 a b bZ W h)
 rw[hm] at HM
 have hcl:=hc.len
 have gA:=aV c (i:=a) ah
 have gB:=aV c (i:=b) ah
 have gP:=aV c (i:=8) ah
 have wA:cK (c.getD a 0):=hc.w _ bK
 have wB:cK (c.getD b 0):=hc.w _ bK
 have wP:cK (c.getD 8 0):=hc.w _ bK
 generalize c.getD a 0=ra at*
 generalize c.getD b 0=rb at*
 generalize c.getD 8 0=pc at*
 have hsz:=b_ c
 have hA1:=wA.1
 have hA2:=wA.2
 have hB1:=wB.1
 have hB2:=wB.2
 have ht:0≤rb.tmod 32∧rb.tmod 32≤32:=kM
 have ht1:=ht.1
 have ht2:=ht.2
 clear hm hc ht
 skip
 all_goals
  apply Exists.intro
  apply Exists.intro
  refine⟨?_,?_,?_⟩
  rotate_left 2
  ·intro w hT
   have HT:=Lib.hid (fun W (h:Below w.heap.size w W)=>hT.below h)
   clear hT
   go_enter Tryz.func145,Tryz.ntmps145
   go_wp2_with fail
   with_reducible refine(HM.out _ (HT.out _ ?_)).mono ?_
   focus exact bl
   rintro e w1 ⟨rfl,hb1⟩
   have hz1:=hb1.size
   simp only[World.size_alloc] at hz1
   (have b1:aC w1 w.heap.size (dY c) 119:=kP);(obtain⟨hc1,hf1,hl1,hn1,hm1⟩:=b1.rules);(have K1:=Lib.hid b1);(clear b1)
   (have b2:aC w1 (w.heap.size+1) #[.int .i64 8,.int .i64 a,.int .i64 b,.int .i64 bZ] 250:=jP);(obtain⟨hc2,hf2,hl2,hn2,hm2⟩:=b2.rules);(have K2:=Lib.hid b2);(clear b2)
   (have b3:aC w1 (w.heap.size+1+1) #[.int .u32 0,.int .u32 0,.int .u32 0,.int .u32 0,.int .u32 0,.int .u32 0,.int .u32 0,.int .u32 0,.int .u32 0] 119:=kN);(obtain⟨hc3,hf3,hl3,sU,ng⟩:=b3.rules);(have K3:=Lib.hid b3);(clear b3)
   have hbw:Below w.heap.size w w1:=aD
   clear hb1 hc3
   rw[iR] at K3
   have cA:=(hc1 a).trans gA
   have cB:=(hc1 b).trans gB
   have cP:=(hc1 8).trans gP
   clear hc1
   go_wp2_with fail
   have a8:a<8:=ah
   have b8:b<8:=ah
   go_region
   go_wp2_with fail
   go_region
   go_upto_block 0 with fail
   (refine bH ?_;(iterate 10 (refine bQ aB ?_));apply bR;(focus((iterate 7 (apply bJ (hid:=by decide)));(go_wp2_with fail;exact⟨rfl,rfl,rfl⟩))))
   exact vO
  all_goals first|assumption|exact⟨ah,ah⟩|exact kR _ _ _|exact nZ _ _ aZ|exact nN _ _ aZ aZ|exact kQ _ _ aZ aZ|exact j4 _|skip
theorem ag6(c:List Int)(a b:Nat)(bZ:Int)(hc:fO c)(hI:jJ 9 a b bZ)(hm:o7 9 a b bZ=true):
  ∃x y:Int,cK x∧cK y∧jg 9 a b bZ c ((c.set a x).set 8 y):=by
 obtain⟨h1,h2,h3,h4,h5,h6,h7,h8⟩:=hI
 have HM:=Lib.hid (fun W h=>iQ 9 a b bZ W h)
 rw[hm] at HM
 have hcl:=hc.len
 have gA:=aV c (i:=a) ah
 have gB:=aV c (i:=b) ah
 have gP:=aV c (i:=8) ah
 have wA:cK (c.getD a 0):=hc.w _ bK
 have wB:cK (c.getD b 0):=hc.w _ bK
 have wP:cK (c.getD 8 0):=hc.w _ bK
 generalize c.getD a 0=ra at*
 generalize c.getD b 0=rb at*
 generalize c.getD 8 0=pc at*
 have hsz:=b_ c
 have hA1:=wA.1
 have hA2:=wA.2
 have hB1:=wB.1
 have hB2:=wB.2
 have ht:0≤rb.tmod 32∧rb.tmod 32≤32:=kM
 have ht1:=ht.1
 have ht2:=ht.2
 clear hm hc ht
 skip
 all_goals
  apply Exists.intro
  apply Exists.intro
  refine⟨?_,?_,?_⟩
  rotate_left 2
  ·intro w hT
   have HT:=Lib.hid (fun W (h:Below w.heap.size w W)=>hT.below h)
   clear hT
   go_enter Tryz.func145,Tryz.ntmps145
   go_wp2_with fail
   with_reducible refine(HM.out _ (HT.out _ ?_)).mono ?_
   focus exact bl
   rintro e w1 ⟨rfl,hb1⟩
   have hz1:=hb1.size
   simp only[World.size_alloc] at hz1
   (have b1:aC w1 w.heap.size (dY c) 119:=kP);(obtain⟨hc1,hf1,hl1,hn1,hm1⟩:=b1.rules);(have K1:=Lib.hid b1);(clear b1)
   (have b2:aC w1 (w.heap.size+1) #[.int .i64 9,.int .i64 a,.int .i64 b,.int .i64 bZ] 250:=jP);(obtain⟨hc2,hf2,hl2,hn2,hm2⟩:=b2.rules);(have K2:=Lib.hid b2);(clear b2)
   (have b3:aC w1 (w.heap.size+1+1) #[.int .u32 0,.int .u32 0,.int .u32 0,.int .u32 0,.int .u32 0,.int .u32 0,.int .u32 0,.int .u32 0,.int .u32 0] 119:=kN);(obtain⟨hc3,hf3,hl3,sU,ng⟩:=b3.rules);(have K3:=Lib.hid b3);(clear b3)
   have hbw:Below w.heap.size w w1:=aD
   clear hb1 hc3
   rw[iR] at K3
   have cA:=(hc1 a).trans gA
   have cB:=(hc1 b).trans gB
   have cP:=(hc1 8).trans gP
   clear hc1
   go_wp2_with fail
   have a8:a<8:=ah
   have b8:b<8:=ah
   go_region
   go_wp2_with fail
   go_region
   go_upto_block 0 with fail
   (refine bH ?_;(iterate 9 (refine bQ aB ?_));apply bR;(focus((iterate 8 (apply bJ (hid:=by decide)));(go_wp2_with fail;exact⟨rfl,rfl,rfl⟩))))
   exact vO
  all_goals first|assumption|exact⟨ah,ah⟩|exact kR _ _ _|exact nZ _ _ aZ|exact nN _ _ aZ aZ|exact kQ _ _ aZ aZ|exact j4 _|skip
theorem acR(c:List Int)(a b:Nat)(bZ:Int)(hc:fO c)(hI:jJ 10 a b bZ)(hm:o7 10 a b bZ=true):
  ∃x y:Int,cK x∧cK y∧jg 10 a b bZ c ((c.set a x).set 8 y):=by
 obtain⟨h1,h2,h3,h4,h5,h6,h7,h8⟩:=hI
 have HM:=Lib.hid (fun W h=>iQ 10 a b bZ W h)
 rw[hm] at HM
 have hcl:=hc.len
 have gA:=aV c (i:=a) ah
 have gB:=aV c (i:=b) ah
 have gP:=aV c (i:=8) ah
 have wA:cK (c.getD a 0):=hc.w _ bK
 have wB:cK (c.getD b 0):=hc.w _ bK
 have wP:cK (c.getD 8 0):=hc.w _ bK
 generalize c.getD a 0=ra at*
 generalize c.getD b 0=rb at*
 generalize c.getD 8 0=pc at*
 have hsz:=b_ c
 have hA1:=wA.1
 have hA2:=wA.2
 have hB1:=wB.1
 have hB2:=wB.2
 have ht:0≤rb.tmod 32∧rb.tmod 32≤32:=kM
 have ht1:=ht.1
 have ht2:=ht.2
 clear hm hc ht
 skip
 all_goals
  apply Exists.intro
  apply Exists.intro
  refine⟨?_,?_,?_⟩
  rotate_left 2
  ·intro w hT
   have HT:=Lib.hid (fun W (h:Below w.heap.size w W)=>hT.below h)
   clear hT
   go_enter Tryz.func145,Tryz.ntmps145
   go_wp2_with fail
   with_reducible refine(HM.out _ (HT.out _ ?_)).mono ?_
   focus exact bl
   rintro e w1 ⟨rfl,hb1⟩
   have hz1:=hb1.size
   simp only[World.size_alloc] at hz1
   (have b1:aC w1 w.heap.size (dY c) 119:=kP);(obtain⟨hc1,hf1,hl1,hn1,hm1⟩:=b1.rules);(have K1:=Lib.hid b1);(clear b1)
   (have b2:aC w1 (w.heap.size+1) #[.int .i64 10,.int .i64 a,.int .i64 b,.int .i64 bZ] 250:=jP);(obtain⟨hc2,hf2,hl2,hn2,hm2⟩:=b2.rules);(have K2:=Lib.hid b2);(clear b2)
   (have b3:aC w1 (w.heap.size+1+1) #[.int .u32 0,.int .u32 0,.int .u32 0,.int .u32 0,.int .u32 0,.int .u32 0,.int .u32 0,.int .u32 0,.int .u32 0] 119:=kN);(obtain⟨hc3,hf3,hl3,sU,ng⟩:=b3.rules);(have K3:=Lib.hid b3);(clear b3)
   have hbw:Below w.heap.size w w1:=aD
   clear hb1 hc3
   rw[iR] at K3
   have cA:=(hc1 a).trans gA
   have cB:=(hc1 b).trans gB
   have cP:=(hc1 8).trans gP
   clear hc1
   go_wp2_with fail
   have a8:a<8:=ah
   have b8:b<8:=ah
   go_region
   go_wp2_with fail
   go_region
   go_upto_block 0 with fail
   (refine bH ?_;(iterate 8 (refine bQ aB ?_));apply bR;(focus((iterate 9 (apply bJ (hid:=by decide)));(go_wp2_with fail;exact⟨rfl,rfl,rfl⟩))))
   exact vO
  all_goals first|assumption|exact⟨ah,ah⟩|exact kR _ _ _|exact nZ _ _ aZ|exact nN _ _ aZ aZ|exact kQ _ _ aZ aZ|exact j4 _|skip
theorem acQ(c:List Int)(a b:Nat)(bZ:Int)(hc:fO c)(hI:jJ 11 a b bZ)(hm:o7 11 a b bZ=true):
  ∃x y:Int,cK x∧cK y∧jg 11 a b bZ c ((c.set a x).set 8 y):=by
 obtain⟨h1,h2,h3,h4,h5,h6,h7,h8⟩:=hI
 have HM:=Lib.hid (fun W h=>iQ 11 a b bZ W h)
 rw[hm] at HM
 have hcl:=hc.len
 have gA:=aV c (i:=a) ah
 have gB:=aV c (i:=b) ah
 have gP:=aV c (i:=8) ah
 have wA:cK (c.getD a 0):=hc.w _ bK
 have wB:cK (c.getD b 0):=hc.w _ bK
 have wP:cK (c.getD 8 0):=hc.w _ bK
 generalize c.getD a 0=ra at*
 generalize c.getD b 0=rb at*
 generalize c.getD 8 0=pc at*
 have hsz:=b_ c
 have hA1:=wA.1
 have hA2:=wA.2
 have hB1:=wB.1
 have hB2:=wB.2
 have ht:0≤rb.tmod 32∧rb.tmod 32≤32:=kM
 have ht1:=ht.1
 have ht2:=ht.2
 clear hm hc ht
 skip
 all_goals
  apply Exists.intro
  apply Exists.intro
  refine⟨?_,?_,?_⟩
  rotate_left 2
  ·intro w hT
   have HT:=Lib.hid (fun W (h:Below w.heap.size w W)=>hT.below h)
   clear hT
   go_enter Tryz.func145,Tryz.ntmps145
   go_wp2_with fail
   with_reducible refine(HM.out _ (HT.out _ ?_)).mono ?_
   focus exact bl
   rintro e w1 ⟨rfl,hb1⟩
   have hz1:=hb1.size
   simp only[World.size_alloc] at hz1
   (have b1:aC w1 w.heap.size (dY c) 119:=kP);(obtain⟨hc1,hf1,hl1,hn1,hm1⟩:=b1.rules);(have K1:=Lib.hid b1);(clear b1)
   (have b2:aC w1 (w.heap.size+1) #[.int .i64 11,.int .i64 a,.int .i64 b,.int .i64 bZ] 250:=jP);(obtain⟨hc2,hf2,hl2,hn2,hm2⟩:=b2.rules);(have K2:=Lib.hid b2);(clear b2)
   (have b3:aC w1 (w.heap.size+1+1) #[.int .u32 0,.int .u32 0,.int .u32 0,.int .u32 0,.int .u32 0,.int .u32 0,.int .u32 0,.int .u32 0,.int .u32 0] 119:=kN);(obtain⟨hc3,hf3,hl3,sU,ng⟩:=b3.rules);(have K3:=Lib.hid b3);(clear b3)
   have hbw:Below w.heap.size w w1:=aD
   clear hb1 hc3
   rw[iR] at K3
   have cA:=(hc1 a).trans gA
   have cB:=(hc1 b).trans gB
   have cP:=(hc1 8).trans gP
   clear hc1
   go_wp2_with fail
   have a8:a<8:=ah
   have b8:b<8:=ah
   go_region
   go_wp2_with fail
   go_region
   go_upto_block 0 with fail
   (refine bH ?_;(iterate 7 (refine bQ aB ?_));apply bR;(focus((iterate 10 (apply bJ (hid:=by decide)));(go_wp2_with fail;exact⟨rfl,rfl,rfl⟩))))
   exact vO
  all_goals first|assumption|exact⟨ah,ah⟩|exact kR _ _ _|exact nZ _ _ aZ|exact nN _ _ aZ aZ|exact kQ _ _ aZ aZ|exact j4 _|skip
theorem acP(c:List Int)(a b:Nat)(bZ:Int)(hc:fO c)(hI:jJ 12 a b bZ)(hm:o7 12 a b bZ=true):
  ∃x y:Int,cK x∧cK y∧jg 12 a b bZ c ((c.set a x).set 8 y):=by
 obtain⟨h1,h2,h3,h4,h5,h6,h7,h8⟩:=hI
 have HM:=Lib.hid (fun W h=>iQ 12 a b bZ W h)
 rw[hm] at HM
 have hcl:=hc.len
 have gA:=aV c (i:=a) ah
 have gB:=aV c (i:=b) ah
 have gP:=aV c (i:=8) ah
 have wA:cK (c.getD a 0):=hc.w _ bK
 have wB:cK (c.getD b 0):=hc.w _ bK
 have wP:cK (c.getD 8 0):=hc.w _ bK
 generalize c.getD a 0=ra at*
 generalize c.getD b 0=rb at*
 generalize c.getD 8 0=pc at*
 have hsz:=b_ c
 have hA1:=wA.1
 have hA2:=wA.2
 have hB1:=wB.1
 have hB2:=wB.2
 have ht:0≤rb.tmod 32∧rb.tmod 32≤32:=kM
 have ht1:=ht.1
 have ht2:=ht.2
 clear hm hc ht
 skip
 all_goals
  apply Exists.intro
  apply Exists.intro
  refine⟨?_,?_,?_⟩
  rotate_left 2
  ·intro w hT
   have HT:=Lib.hid (fun W (h:Below w.heap.size w W)=>hT.below h)
   clear hT
   go_enter Tryz.func145,Tryz.ntmps145
   go_wp2_with fail
   with_reducible refine(HM.out _ (HT.out _ ?_)).mono ?_
   focus exact bl
   rintro e w1 ⟨rfl,hb1⟩
   have hz1:=hb1.size
   simp only[World.size_alloc] at hz1
   (have b1:aC w1 w.heap.size (dY c) 119:=kP);(obtain⟨hc1,hf1,hl1,hn1,hm1⟩:=b1.rules);(have K1:=Lib.hid b1);(clear b1)
   (have b2:aC w1 (w.heap.size+1) #[.int .i64 12,.int .i64 a,.int .i64 b,.int .i64 bZ] 250:=jP);(obtain⟨hc2,hf2,hl2,hn2,hm2⟩:=b2.rules);(have K2:=Lib.hid b2);(clear b2)
   (have b3:aC w1 (w.heap.size+1+1) #[.int .u32 0,.int .u32 0,.int .u32 0,.int .u32 0,.int .u32 0,.int .u32 0,.int .u32 0,.int .u32 0,.int .u32 0] 119:=kN);(obtain⟨hc3,hf3,hl3,sU,ng⟩:=b3.rules);(have K3:=Lib.hid b3);(clear b3)
   have hbw:Below w.heap.size w w1:=aD
   clear hb1 hc3
   rw[iR] at K3
   have cA:=(hc1 a).trans gA
   have cB:=(hc1 b).trans gB
   have cP:=(hc1 8).trans gP
   clear hc1
   go_wp2_with fail
   have a8:a<8:=ah
   have b8:b<8:=ah
   go_region
   go_wp2_with fail
   go_region
   go_upto_block 0 with fail
   (refine bH ?_;(iterate 6 (refine bQ aB ?_));apply bR;(focus((iterate 11 (apply bJ (hid:=by decide)));(go_wp2_with fail;exact⟨rfl,rfl,rfl⟩))))
   exact vO
  all_goals first|assumption|exact⟨ah,ah⟩|exact kR _ _ _|exact nZ _ _ aZ|exact nN _ _ aZ aZ|exact kQ _ _ aZ aZ|exact j4 _|skip
theorem acO(c:List Int)(a b:Nat)(bZ:Int)(hc:fO c)(hI:jJ 13 a b bZ)(hm:o7 13 a b bZ=true):
  ∃x y:Int,cK x∧cK y∧jg 13 a b bZ c ((c.set a x).set 8 y):=by
 obtain⟨h1,h2,h3,h4,h5,h6,h7,h8⟩:=hI
 have HM:=Lib.hid (fun W h=>iQ 13 a b bZ W h)
 rw[hm] at HM
 have hcl:=hc.len
 have gA:=aV c (i:=a) ah
 have gB:=aV c (i:=b) ah
 have gP:=aV c (i:=8) ah
 have wA:cK (c.getD a 0):=hc.w _ bK
 have wB:cK (c.getD b 0):=hc.w _ bK
 have wP:cK (c.getD 8 0):=hc.w _ bK
 generalize c.getD a 0=ra at*
 generalize c.getD b 0=rb at*
 generalize c.getD 8 0=pc at*
 have hsz:=b_ c
 have hA1:=wA.1
 have hA2:=wA.2
 have hB1:=wB.1
 have hB2:=wB.2
 have ht:0≤rb.tmod 32∧rb.tmod 32≤32:=kM
 have ht1:=ht.1
 have ht2:=ht.2
 clear hm hc ht
 skip
 all_goals
  apply Exists.intro
  apply Exists.intro
  refine⟨?_,?_,?_⟩
  rotate_left 2
  ·intro w hT
   have HT:=Lib.hid (fun W (h:Below w.heap.size w W)=>hT.below h)
   clear hT
   go_enter Tryz.func145,Tryz.ntmps145
   go_wp2_with fail
   with_reducible refine(HM.out _ (HT.out _ ?_)).mono ?_
   focus exact bl
   rintro e w1 ⟨rfl,hb1⟩
   have hz1:=hb1.size
   simp only[World.size_alloc] at hz1
   (have b1:aC w1 w.heap.size (dY c) 119:=kP);(obtain⟨hc1,hf1,hl1,hn1,hm1⟩:=b1.rules);(have K1:=Lib.hid b1);(clear b1)
   (have b2:aC w1 (w.heap.size+1) #[.int .i64 13,.int .i64 a,.int .i64 b,.int .i64 bZ] 250:=jP);(obtain⟨hc2,hf2,hl2,hn2,hm2⟩:=b2.rules);(have K2:=Lib.hid b2);(clear b2)
   (have b3:aC w1 (w.heap.size+1+1) #[.int .u32 0,.int .u32 0,.int .u32 0,.int .u32 0,.int .u32 0,.int .u32 0,.int .u32 0,.int .u32 0,.int .u32 0] 119:=kN);(obtain⟨hc3,hf3,hl3,sU,ng⟩:=b3.rules);(have K3:=Lib.hid b3);(clear b3)
   have hbw:Below w.heap.size w w1:=aD
   clear hb1 hc3
   rw[iR] at K3
   have cA:=(hc1 a).trans gA
   have cB:=(hc1 b).trans gB
   have cP:=(hc1 8).trans gP
   clear hc1
   go_wp2_with fail
   have a8:a<8:=ah
   have b8:b<8:=ah
   go_region
   go_wp2_with fail
   go_region
   go_upto_block 0 with fail
   (refine bH ?_;(iterate 5 (refine bQ aB ?_));apply bR;(focus((iterate 12 (apply bJ (hid:=by decide)));(go_wp2_with fail;exact⟨rfl,rfl,rfl⟩))))
   exact vO
  all_goals first|assumption|exact⟨ah,ah⟩|exact kR _ _ _|exact nZ _ _ aZ|exact nN _ _ aZ aZ|exact kQ _ _ aZ aZ|exact j4 _|skip
end Go.Proofs.YtgmodehldmahiaaGreatDoor
