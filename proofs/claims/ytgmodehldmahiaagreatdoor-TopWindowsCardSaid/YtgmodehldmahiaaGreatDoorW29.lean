/- Part 29 of 50 of the proof of topWindows_holds. Conditions: see each. -/
import Derived.Test.YtgmodehldmahiaaGreatDoorW14
import Derived.Test.YtgmodehldmahiaaGreatDoorW28
set_option linter.unusedVariables false
set_option linter.unusedSimpArgs false
set_option maxRecDepth 8192
set_option maxHeartbeats 40000000
namespace Go.Proofs.YtgmodehldmahiaaGreatDoor
open Go Go.RowKit Go.Tm
theorem ahc(c:List Int)(a b:Nat)(bZ:Int)(hc:fO c)(hI:jJ 1 a b bZ)(hm:o7 1 a b bZ=true):
  ∃x y:Int,cK x∧cK y∧jg 1 a b bZ c ((c.set a x).set 8 y):=by
 obtain⟨h1,h2,h3,h4,h5,h6,h7,h8⟩:=hI
 have HM:=Lib.hid (fun W h=>iQ 1 a b bZ W h)
 rw[hm] at HM
 have hcl:=hc.len
 have gA:=aV c (i:=a) ah
 have gB:=aV c (i:=b) ah
 have gP:=aV c (i:=8) ah
 have wA:cK (c.getD a 0):=hc.w _ bK
 have wB:cK (c.getD b 0):=hc.w _ bK
 have wP:cK (c.getD 8 0):=hc.w _ bK
 generalize c.getD a 0=ra at*
 generalize c.getD b 0=rb at*
 generalize c.getD 8 0=pc at*
 have hsz:=b_ c
 have hA1:=wA.1
 have hA2:=wA.2
 have hB1:=wB.1
 have hB2:=wB.2
 have ht:0≤rb.tmod 32∧rb.tmod 32≤32:=kM
 have ht1:=ht.1
 have ht2:=ht.2
 clear hm hc ht
 skip
 all_goals
  apply Exists.intro
  apply Exists.intro
  refine⟨?_,?_,?_⟩
  rotate_left 2
  ·intro w hT
   have HT:=Lib.hid (fun W (h:Below w.heap.size w W)=>hT.below h)
   clear hT
   go_enter Tryz.func145,Tryz.ntmps145
   go_wp2_with fail
   with_reducible refine(HM.out _ (HT.out _ ?_)).mono ?_
   focus exact bl
   rintro e w1 ⟨rfl,hb1⟩
   have hz1:=hb1.size
   simp only[World.size_alloc] at hz1
   (have b1:aC w1 w.heap.size (dY c) 119:=kP);(obtain⟨hc1,hf1,hl1,hn1,hm1⟩:=b1.rules);(have K1:=Lib.hid b1);(clear b1)
   (have b2:aC w1 (w.heap.size+1) #[.int .i64 1,.int .i64 a,.int .i64 b,.int .i64 bZ] 250:=jP);(obtain⟨hc2,hf2,hl2,hn2,hm2⟩:=b2.rules);(have K2:=Lib.hid b2);(clear b2)
   (have b3:aC w1 (w.heap.size+1+1) #[.int .u32 0,.int .u32 0,.int .u32 0,.int .u32 0,.int .u32 0,.int .u32 0,.int .u32 0,.int .u32 0,.int .u32 0] 119:=kN);(obtain⟨hc3,hf3,hl3,sU,ng⟩:=b3.rules);(have K3:=Lib.hid b3);(clear b3)
   have hbw:Below w.heap.size w w1:=aD
   clear hb1 hc3
   rw[iR] at K3
   have cA:=(hc1 a).trans gA
   have cB:=(hc1 b).trans gB
   have cP:=(hc1 8).trans gP
   clear hc1
   go_wp2_with fail
   have a8:a<8:=ah
   have b8:b<8:=ah
   go_region
   go_wp2_with fail
   go_region
   go_upto_block 0 with fail
   (refine bH ?_;(iterate 16 (refine bQ aB ?_));apply bR;(focus((apply bJ (hid:=by decide));(go_wp2_with fail;exact⟨rfl,rfl,rfl⟩))))
   exact vO
  all_goals first|assumption|exact⟨ah,ah⟩|exact kR _ _ _|exact nZ _ _ aZ|exact nN _ _ aZ aZ|exact kQ _ _ aZ aZ|exact j4 _|skip
theorem ahb(c:List Int)(a b:Nat)(bZ:Int)(hc:fO c)(hI:jJ 2 a b bZ)(hm:o7 2 a b bZ=true):
  ∃x y:Int,cK x∧cK y∧jg 2 a b bZ c ((c.set a x).set 8 y):=by
 obtain⟨h1,h2,h3,h4,h5,h6,h7,h8⟩:=hI
 have HM:=Lib.hid (fun W h=>iQ 2 a b bZ W h)
 rw[hm] at HM
 have hcl:=hc.len
 have gA:=aV c (i:=a) ah
 have gB:=aV c (i:=b) ah
 have gP:=aV c (i:=8) ah
 have wA:cK (c.getD a 0):=hc.w _ bK
 have wB:cK (c.getD b 0):=hc.w _ bK
 have wP:cK (c.getD 8 0):=hc.w _ bK
 generalize c.getD a 0=ra at*
 generalize c.getD b 0=rb at*
 generalize c.getD 8 0=pc at*
 have hsz:=b_ c
 have hA1:=wA.1
 have hA2:=wA.2
 have hB1:=wB.1
 have hB2:=wB.2
 have ht:0≤rb.tmod 32∧rb.tmod 32≤32:=kM
 have ht1:=ht.1
 have ht2:=ht.2
 clear hm hc ht
 skip
 all_goals
  apply Exists.intro
  apply Exists.intro
  refine⟨?_,?_,?_⟩
  rotate_left 2
  ·intro w hT
   have HT:=Lib.hid (fun W (h:Below w.heap.size w W)=>hT.below h)
   clear hT
   go_enter Tryz.func145,Tryz.ntmps145
   go_wp2_with fail
   with_reducible refine(HM.out _ (HT.out _ ?_)).mono ?_
   focus exact bl
   rintro e w1 ⟨rfl,hb1⟩
   have hz1:=hb1.size
   simp only[World.size_alloc] at hz1
   (have b1:aC w1 w.heap.size (dY c) 119:=kP);(obtain⟨hc1,hf1,hl1,hn1,hm1⟩:=b1.rules);(have K1:=Lib.hid b1);(clear b1)
   (have b2:aC w1 (w.heap.size+1) #[.int .i64 2,.int .i64 a,.int .i64 b,.int .i64 bZ] 250:=jP);(obtain⟨hc2,hf2,hl2,hn2,hm2⟩:=b2.rules);(have K2:=Lib.hid b2);(clear b2)
   (have b3:aC w1 (w.heap.size+1+1) #[.int .u32 0,.int .u32 0,.int .u32 0,.int .u32 0,.int .u32 0,.int .u32 0,.int .u32 0,.int .u32 0,.int .u32 0] 119:=kN);(obtain⟨hc3,hf3,hl3,sU,ng⟩:=b3.rules);(have K3:=Lib.hid b3);(clear b3)
   have hbw:Below w.heap.size w w1:=aD
   clear hb1 hc3
   rw[iR] at K3
   have cA:=(hc1 a).trans gA
   have cB:=(hc1 b).trans gB
   have cP:=(hc1 8).trans gP
   clear hc1
   go_wp2_with fail
   have a8:a<8:=ah
   have b8:b<8:=ah
   go_region
   go_wp2_with fail
   go_region
   go_upto_block 0 with fail
   (refine bH ?_;(iterate 16 (refine bQ aB ?_));apply pF;(focus(apply bR;(focus((go_wp2_with fail;exact⟨rfl,rfl,rfl⟩)));(go_wp2_with fail;exact⟨rfl,rfl,rfl⟩))))
   exact vO
  all_goals first|assumption|exact⟨ah,ah⟩|exact kR _ _ _|exact nZ _ _ aZ|exact nN _ _ aZ aZ|exact kQ _ _ aZ aZ|exact j4 _|skip
theorem aha(c:List Int)(a b:Nat)(bZ:Int)(hc:fO c)(hI:jJ 3 a b bZ)(hm:o7 3 a b bZ=true):
  ∃x y:Int,cK x∧cK y∧jg 3 a b bZ c ((c.set a x).set 8 y):=by
 obtain⟨h1,h2,h3,h4,h5,h6,h7,h8⟩:=hI
 have HM:=Lib.hid (fun W h=>iQ 3 a b bZ W h)
 rw[hm] at HM
 have hcl:=hc.len
 have gA:=aV c (i:=a) ah
 have gB:=aV c (i:=b) ah
 have gP:=aV c (i:=8) ah
 have wA:cK (c.getD a 0):=hc.w _ bK
 have wB:cK (c.getD b 0):=hc.w _ bK
 have wP:cK (c.getD 8 0):=hc.w _ bK
 generalize c.getD a 0=ra at*
 generalize c.getD b 0=rb at*
 generalize c.getD 8 0=pc at*
 have hsz:=b_ c
 have hA1:=wA.1
 have hA2:=wA.2
 have hB1:=wB.1
 have hB2:=wB.2
 have ht:0≤rb.tmod 32∧rb.tmod 32≤32:=kM
 have ht1:=ht.1
 have ht2:=ht.2
 clear hm hc ht
 skip
 all_goals
  apply Exists.intro
  apply Exists.intro
  refine⟨?_,?_,?_⟩
  rotate_left 2
  ·intro w hT
   have HT:=Lib.hid (fun W (h:Below w.heap.size w W)=>hT.below h)
   clear hT
   go_enter Tryz.func145,Tryz.ntmps145
   go_wp2_with fail
   with_reducible refine(HM.out _ (HT.out _ ?_)).mono ?_
   focus exact bl
   rintro e w1 ⟨rfl,hb1⟩
   have hz1:=hb1.size
   simp only[World.size_alloc] at hz1
   (have b1:aC w1 w.heap.size (dY c) 119:=kP);(obtain⟨hc1,hf1,hl1,hn1,hm1⟩:=b1.rules);(have K1:=Lib.hid b1);(clear b1)
   (have b2:aC w1 (w.heap.size+1) #[.int .i64 3,.int .i64 a,.int .i64 b,.int .i64 bZ] 250:=jP);(obtain⟨hc2,hf2,hl2,hn2,hm2⟩:=b2.rules);(have K2:=Lib.hid b2);(clear b2)
   (have b3:aC w1 (w.heap.size+1+1) #[.int .u32 0,.int .u32 0,.int .u32 0,.int .u32 0,.int .u32 0,.int .u32 0,.int .u32 0,.int .u32 0,.int .u32 0] 119:=kN);(obtain⟨hc3,hf3,hl3,sU,ng⟩:=b3.rules);(have K3:=Lib.hid b3);(clear b3)
   have hbw:Below w.heap.size w w1:=aD
   clear hb1 hc3
   rw[iR] at K3
   have cA:=(hc1 a).trans gA
   have cB:=(hc1 b).trans gB
   have cP:=(hc1 8).trans gP
   clear hc1
   go_wp2_with fail
   have a8:a<8:=ah
   have b8:b<8:=ah
   go_region
   go_wp2_with fail
   go_region
   go_upto_block 0 with fail
   (refine bH ?_;(iterate 15 (refine bQ aB ?_));apply bR;(focus((iterate 2 (apply bJ (hid:=by decide)));(go_wp2_with fail;exact⟨rfl,rfl,rfl⟩))))
   exact vO
  all_goals first|assumption|exact⟨ah,ah⟩|exact kR _ _ _|exact nZ _ _ aZ|exact nN _ _ aZ aZ|exact kQ _ _ aZ aZ|exact j4 _|skip
theorem ag'(c:List Int)(a b:Nat)(bZ:Int)(hc:fO c)(hI:jJ 4 a b bZ)(hm:o7 4 a b bZ=true):
  ∃x y:Int,cK x∧cK y∧jg 4 a b bZ c ((c.set a x).set 8 y):=by
 obtain⟨h1,h2,h3,h4,h5,h6,h7,h8⟩:=hI
 have HM:=Lib.hid (fun W h=>iQ 4 a b bZ W h)
 rw[hm] at HM
 have hcl:=hc.len
 have gA:=aV c (i:=a) ah
 have gB:=aV c (i:=b) ah
 have gP:=aV c (i:=8) ah
 have wA:cK (c.getD a 0):=hc.w _ bK
 have wB:cK (c.getD b 0):=hc.w _ bK
 have wP:cK (c.getD 8 0):=hc.w _ bK
 generalize c.getD a 0=ra at*
 generalize c.getD b 0=rb at*
 generalize c.getD 8 0=pc at*
 have hsz:=b_ c
 have hA1:=wA.1
 have hA2:=wA.2
 have hB1:=wB.1
 have hB2:=wB.2
 have ht:0≤rb.tmod 32∧rb.tmod 32≤32:=kM
 have ht1:=ht.1
 have ht2:=ht.2
 clear hm hc ht
 skip
 all_goals
  apply Exists.intro
  apply Exists.intro
  refine⟨?_,?_,?_⟩
  rotate_left 2
  ·intro w hT
   have HT:=Lib.hid (fun W (h:Below w.heap.size w W)=>hT.below h)
   clear hT
   go_enter Tryz.func145,Tryz.ntmps145
   go_wp2_with fail
   with_reducible refine(HM.out _ (HT.out _ ?_)).mono ?_
   focus exact bl
   rintro e w1 ⟨rfl,hb1⟩
   have hz1:=hb1.size
   simp only[World.size_alloc] at hz1
   (have b1:aC w1 w.heap.size (dY c) 119:=kP);(obtain⟨hc1,hf1,hl1,hn1,hm1⟩:=b1.rules);(have K1:=Lib.hid b1);(clear b1)
   (have b2:aC w1 (w.heap.size+1) #[.int .i64 4,.int .i64 a,.int .i64 b,.int .i64 bZ] 250:=jP);(obtain⟨hc2,hf2,hl2,hn2,hm2⟩:=b2.rules);(have K2:=Lib.hid b2);(clear b2)
   (have b3:aC w1 (w.heap.size+1+1) #[.int .u32 0,.int .u32 0,.int .u32 0,.int .u32 0,.int .u32 0,.int .u32 0,.int .u32 0,.int .u32 0,.int .u32 0] 119:=kN);(obtain⟨hc3,hf3,hl3,sU,ng⟩:=b3.rules);(have K3:=Lib.hid b3);(clear b3)
   have hbw:Below w.heap.size w w1:=aD
   clear hb1 hc3
   rw[iR] at K3
   have cA:=(hc1 a).trans gA
   have cB:=(hc1 b).trans gB
   have cP:=(hc1 8).trans gP
   clear hc1
   go_wp2_with fail
   have a8:a<8:=ah
   have b8:b<8:=ah
   go_region
   go_wp2_with fail
   go_region
   go_upto_block 0 with fail
   (refine bH ?_;(iterate 13 (refine bQ aB ?_));apply bR;(focus((iterate 4 (apply bJ (hid:=by decide)));(go_wp2_with fail;exact⟨rfl,rfl,rfl⟩))))
   exact vO
  all_goals first|assumption|exact⟨ah,ah⟩|exact kR _ _ _|exact nZ _ _ aZ|exact nN _ _ aZ aZ|exact kQ _ _ aZ aZ|exact j4 _|skip
theorem ag_(c:List Int)(a b:Nat)(bZ:Int)(hc:fO c)(hI:jJ 5 a b bZ)(hm:o7 5 a b bZ=true):
  ∃x y:Int,cK x∧cK y∧jg 5 a b bZ c ((c.set a x).set 8 y):=by
 obtain⟨h1,h2,h3,h4,h5,h6,h7,h8⟩:=hI
 have HM:=Lib.hid (fun W h=>iQ 5 a b bZ W h)
 rw[hm] at HM
 have hcl:=hc.len
 have gA:=aV c (i:=a) ah
 have gB:=aV c (i:=b) ah
 have gP:=aV c (i:=8) ah
 have wA:cK (c.getD a 0):=hc.w _ bK
 have wB:cK (c.getD b 0):=hc.w _ bK
 have wP:cK (c.getD 8 0):=hc.w _ bK
 generalize c.getD a 0=ra at*
 generalize c.getD b 0=rb at*
 generalize c.getD 8 0=pc at*
 have hsz:=b_ c
 have hA1:=wA.1
 have hA2:=wA.2
 have hB1:=wB.1
 have hB2:=wB.2
 have ht:0≤rb.tmod 32∧rb.tmod 32≤32:=kM
 have ht1:=ht.1
 have ht2:=ht.2
 clear hm hc ht
 skip
 all_goals
  apply Exists.intro
  apply Exists.intro
  refine⟨?_,?_,?_⟩
  rotate_left 2
  ·intro w hT
   have HT:=Lib.hid (fun W (h:Below w.heap.size w W)=>hT.below h)
   clear hT
   go_enter Tryz.func145,Tryz.ntmps145
   go_wp2_with fail
   with_reducible refine(HM.out _ (HT.out _ ?_)).mono ?_
   focus exact bl
   rintro e w1 ⟨rfl,hb1⟩
   have hz1:=hb1.size
   simp only[World.size_alloc] at hz1
   (have b1:aC w1 w.heap.size (dY c) 119:=kP);(obtain⟨hc1,hf1,hl1,hn1,hm1⟩:=b1.rules);(have K1:=Lib.hid b1);(clear b1)
   (have b2:aC w1 (w.heap.size+1) #[.int .i64 5,.int .i64 a,.int .i64 b,.int .i64 bZ] 250:=jP);(obtain⟨hc2,hf2,hl2,hn2,hm2⟩:=b2.rules);(have K2:=Lib.hid b2);(clear b2)
   (have b3:aC w1 (w.heap.size+1+1) #[.int .u32 0,.int .u32 0,.int .u32 0,.int .u32 0,.int .u32 0,.int .u32 0,.int .u32 0,.int .u32 0,.int .u32 0] 119:=kN);(obtain⟨hc3,hf3,hl3,sU,ng⟩:=b3.rules);(have K3:=Lib.hid b3);(clear b3)
   have hbw:Below w.heap.size w w1:=aD
   clear hb1 hc3
   rw[iR] at K3
   have cA:=(hc1 a).trans gA
   have cB:=(hc1 b).trans gB
   have cP:=(hc1 8).trans gP
   clear hc1
   go_wp2_with fail
   have a8:a<8:=ah
   have b8:b<8:=ah
   go_region
   go_wp2_with fail
   go_region
   go_upto_block 0 with fail
   (refine bH ?_;(iterate 13 (refine bQ aB ?_));apply pF;(focus(apply bR;(focus((iterate 3 (apply bJ (hid:=by decide)));(go_wp2_with fail;exact⟨rfl,rfl,rfl⟩)));(go_wp2_with fail;exact⟨rfl,rfl,rfl⟩))))
   exact vO
  all_goals first|assumption|exact⟨ah,ah⟩|exact kR _ _ _|exact nZ _ _ aZ|exact nN _ _ aZ aZ|exact kQ _ _ aZ aZ|exact j4 _|skip
theorem ag9(c:List Int)(a b:Nat)(bZ:Int)(hc:fO c)(hI:jJ 6 a b bZ)(hm:o7 6 a b bZ=true):
  ∃x y:Int,cK x∧cK y∧jg 6 a b bZ c ((c.set a x).set 8 y):=by
 obtain⟨h1,h2,h3,h4,h5,h6,h7,h8⟩:=hI
 have HM:=Lib.hid (fun W h=>iQ 6 a b bZ W h)
 rw[hm] at HM
 have hcl:=hc.len
 have gA:=aV c (i:=a) ah
 have gB:=aV c (i:=b) ah
 have gP:=aV c (i:=8) ah
 have wA:cK (c.getD a 0):=hc.w _ bK
 have wB:cK (c.getD b 0):=hc.w _ bK
 have wP:cK (c.getD 8 0):=hc.w _ bK
 generalize c.getD a 0=ra at*
 generalize c.getD b 0=rb at*
 generalize c.getD 8 0=pc at*
 have hsz:=b_ c
 have hA1:=wA.1
 have hA2:=wA.2
 have hB1:=wB.1
 have hB2:=wB.2
 have ht:0≤rb.tmod 32∧rb.tmod 32≤32:=kM
 have ht1:=ht.1
 have ht2:=ht.2
 clear hm hc ht
 skip
 all_goals
  apply Exists.intro
  apply Exists.intro
  refine⟨?_,?_,?_⟩
  rotate_left 2
  ·intro w hT
   have HT:=Lib.hid (fun W (h:Below w.heap.size w W)=>hT.below h)
   clear hT
   go_enter Tryz.func145,Tryz.ntmps145
   go_wp2_with fail
   with_reducible refine(HM.out _ (HT.out _ ?_)).mono ?_
   focus exact bl
   rintro e w1 ⟨rfl,hb1⟩
   have hz1:=hb1.size
   simp only[World.size_alloc] at hz1
   (have b1:aC w1 w.heap.size (dY c) 119:=kP);(obtain⟨hc1,hf1,hl1,hn1,hm1⟩:=b1.rules);(have K1:=Lib.hid b1);(clear b1)
   (have b2:aC w1 (w.heap.size+1) #[.int .i64 6,.int .i64 a,.int .i64 b,.int .i64 bZ] 250:=jP);(obtain⟨hc2,hf2,hl2,hn2,hm2⟩:=b2.rules);(have K2:=Lib.hid b2);(clear b2)
   (have b3:aC w1 (w.heap.size+1+1) #[.int .u32 0,.int .u32 0,.int .u32 0,.int .u32 0,.int .u32 0,.int .u32 0,.int .u32 0,.int .u32 0,.int .u32 0] 119:=kN);(obtain⟨hc3,hf3,hl3,sU,ng⟩:=b3.rules);(have K3:=Lib.hid b3);(clear b3)
   have hbw:Below w.heap.size w w1:=aD
   clear hb1 hc3
   rw[iR] at K3
   have cA:=(hc1 a).trans gA
   have cB:=(hc1 b).trans gB
   have cP:=(hc1 8).trans gP
   clear hc1
   go_wp2_with fail
   have a8:a<8:=ah
   have b8:b<8:=ah
   go_region
   go_wp2_with fail
   go_region
   go_upto_block 0 with fail
   (refine bH ?_;(iterate 12 (refine bQ aB ?_));apply bR;(focus((iterate 5 (apply bJ (hid:=by decide)));(go_wp2_with fail;exact⟨rfl,rfl,rfl⟩))))
   exact vO
  all_goals first|assumption|exact⟨ah,ah⟩|exact kR _ _ _|exact nZ _ _ aZ|exact nN _ _ aZ aZ|exact kQ _ _ aZ aZ|exact j4 _|skip
theorem ag8(c:List Int)(a b:Nat)(bZ:Int)(hc:fO c)(hI:jJ 7 a b bZ)(hm:o7 7 a b bZ=true):
  ∃x y:Int,cK x∧cK y∧jg 7 a b bZ c ((c.set a x).set 8 y):=by
 obtain⟨h1,h2,h3,h4,h5,h6,h7,h8⟩:=hI
 have HM:=Lib.hid (fun W h=>iQ 7 a b bZ W h)
 rw[hm] at HM
 have hcl:=hc.len
 have gA:=aV c (i:=a) ah
 have gB:=aV c (i:=b) ah
 have gP:=aV c (i:=8) ah
 have wA:cK (c.getD a 0):=hc.w _ bK
 have wB:cK (c.getD b 0):=hc.w _ bK
 have wP:cK (c.getD 8 0):=hc.w _ bK
 generalize c.getD a 0=ra at*
 generalize c.getD b 0=rb at*
 generalize c.getD 8 0=pc at*
 have hsz:=b_ c
 have hA1:=wA.1
 have hA2:=wA.2
 have hB1:=wB.1
 have hB2:=wB.2
 have ht:0≤rb.tmod 32∧rb.tmod 32≤32:=kM
 have ht1:=ht.1
 have ht2:=ht.2
 clear hm hc ht
 rcases(show(rb=0)∨(¬rb=0) from Classical.em _) with e7|e7
 all_goals
  apply Exists.intro
  apply Exists.intro
  refine⟨?_,?_,?_⟩
  rotate_left 2
  ·intro w hT
   have HT:=Lib.hid (fun W (h:Below w.heap.size w W)=>hT.below h)
   clear hT
   go_enter Tryz.func145,Tryz.ntmps145
   go_wp2_with fail
   with_reducible refine(HM.out _ (HT.out _ ?_)).mono ?_
   focus exact bl
   rintro e w1 ⟨rfl,hb1⟩
   have hz1:=hb1.size
   simp only[World.size_alloc] at hz1
   (have b1:aC w1 w.heap.size (dY c) 119:=kP);(obtain⟨hc1,hf1,hl1,hn1,hm1⟩:=b1.rules);(have K1:=Lib.hid b1);(clear b1)
   (have b2:aC w1 (w.heap.size+1) #[.int .i64 7,.int .i64 a,.int .i64 b,.int .i64 bZ] 250:=jP);(obtain⟨hc2,hf2,hl2,hn2,hm2⟩:=b2.rules);(have K2:=Lib.hid b2);(clear b2)
   (have b3:aC w1 (w.heap.size+1+1) #[.int .u32 0,.int .u32 0,.int .u32 0,.int .u32 0,.int .u32 0,.int .u32 0,.int .u32 0,.int .u32 0,.int .u32 0] 119:=kN);(obtain⟨hc3,hf3,hl3,sU,ng⟩:=b3.rules);(have K3:=Lib.hid b3);(clear b3)
   have hbw:Below w.heap.size w w1:=aD
   clear hb1 hc3
   rw[iR] at K3
   have cA:=(hc1 a).trans gA
   have cB:=(hc1 b).trans gB
   have cP:=(hc1 8).trans gP
   clear hc1
   go_wp2_with fail
   have a8:a<8:=ah
   have b8:b<8:=ah
   go_region
   go_wp2_with fail
   go_region
   go_upto_block 0 with fail
   (refine bH ?_;(iterate 11 (refine bQ aB ?_));apply bR;(focus((iterate 6 (apply bJ (hid:=by decide)));(go_wp2_with fail;exact⟨rfl,rfl,rfl⟩))))
   exact vO
  all_goals first|assumption|exact⟨ah,ah⟩|exact kR _ _ _|exact nZ _ _ aZ|exact nN _ _ aZ aZ|exact kQ _ _ aZ aZ|exact j4 _|skip
end Go.Proofs.YtgmodehldmahiaaGreatDoor
