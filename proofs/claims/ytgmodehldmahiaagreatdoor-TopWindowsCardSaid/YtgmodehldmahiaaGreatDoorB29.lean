/- Part 29 of 53 of the proof of topAlone_and_topApart. Conditions: see each. -/
import Derived.Test.YtgmodehldmahiaaGreatDoorB14
import Derived.Test.YtgmodehldmahiaaGreatDoorB28
set_option linter.unusedVariables false
set_option linter.unusedSimpArgs false
set_option maxRecDepth 8192
set_option maxHeartbeats 40000000
namespace Go.Proofs.YtgmodehldmahiaaGreatDoor
open Go Go.RowKit Go.Tm
theorem alZ(c:List Int)(a b:Nat)(dD:Int)(hc:gU c)(hI:kW 1 a b dD)(hm:rU 1 a b dD=true):
  ∃x y:Int,dI x∧dI y∧jZ 1 a b dD c ((c.set a x).set 8 y):=by
 obtain⟨h1,h2,h3,h4,h5,h6,h7,h8⟩:=hI
 have HM:=ah (fun W h=>jM 1 a b dD W h)
 rw[hm] at HM
 have nO:=hc.len
 have gA:=aX c (i:=a) aj
 have gB:=aX c (i:=b) aj
 have gP:=aX c (i:=8) aj
 have wA:dI (c.getD a 0):=hc.w _ bY
 have wB:dI (c.getD b 0):=hc.w _ bY
 have wP:dI (c.getD 8 0):=hc.w _ bY
 generalize c.getD a 0=ra at*
 generalize c.getD b 0=rb at*
 generalize c.getD 8 0=pc at*
 have hsz:=dG c
 have MX:=wA.1
 have MW:=wA.2
 have FR:=wB.1
 have uh:=wB.2
 have ht:0≤rb.tmod 32∧rb.tmod 32≤32:=mU
 have Qu:=ht.1
 have Qt:=ht.2
 clear hm hc ht
 skip
 all_goals
  apply Exists.intro
  apply Exists.intro
  refine⟨?_,?_,?_⟩
  rotate_left 2
  ·intro w hT
   have HT:=ah (fun W (h:Below w.heap.size w W)=>hT.below h)
   clear hT
   go_enter Tryz.func145,Tryz.ntmps145
   go_wp2_with fail
   with_reducible refine(HM.out _ (HT.out _ ?_)).mono ?_
   focus exact bl
   rintro e w1 ⟨rfl,hb1⟩
   have hz1:=hb1.size
   simp only[World.size_alloc] at hz1
   have b1:aD w1 w.heap.size (fB c) 119:=mW;obtain⟨hc1,mF,jO,mE,oz⟩:=b1.rules;have K1:=ah b1;clear b1
   have b2:aD w1 (w.heap.size+1) #[.int .i64 1,.int .i64 a,.int .i64 b,.int .i64 dD] 250:=lC;obtain⟨hc2,hf2,hl2,rD,nS⟩:=b2.rules;have K2:=ah b2;clear b2
   have b3:aD w1 (w.heap.size+1+1) #[.int .u32 0,.int .u32 0,.int .u32 0,.int .u32 0,.int .u32 0,.int .u32 0,.int .u32 0,.int .u32 0,.int .u32 0] 119:=mV;obtain⟨hc3,hf3,qM,wX,qL⟩:=b3.rules;have K3:=ah b3;clear b3
   have bZ:Below w.heap.size w w1:=aG
   clear hb1 hc3
   rw[jN] at K3
   have cA:=(hc1 a).trans gA
   have cB:=(hc1 b).trans gB
   have cP:=(hc1 8).trans gP
   clear hc1
   go_wp2_with fail
   have a8:a<8:=aj
   have b8:b<8:=aj
   go_region
   go_wp2_with fail
   go_region
   go_upto_block 0 with fail
   (refine bU ?_;(iterate 16 (refine cO aC ?_));apply cZ;(focus((apply fV (hid:=by decide));(go_wp2_with fail;exact⟨rfl,rfl,rfl⟩))))
   exact zA
  all_goals first|assumption|exact⟨aj,aj⟩|exact m_ _ _ _|exact qU _ _ bq|exact qC _ _ bq bq|exact mY _ _ bq bq|exact lQ _|skip
theorem alY(c:List Int)(a b:Nat)(dD:Int)(hc:gU c)(hI:kW 2 a b dD)(hm:rU 2 a b dD=true):
  ∃x y:Int,dI x∧dI y∧jZ 2 a b dD c ((c.set a x).set 8 y):=by
 obtain⟨h1,h2,h3,h4,h5,h6,h7,h8⟩:=hI
 have HM:=ah (fun W h=>jM 2 a b dD W h)
 rw[hm] at HM
 have nO:=hc.len
 have gA:=aX c (i:=a) aj
 have gB:=aX c (i:=b) aj
 have gP:=aX c (i:=8) aj
 have wA:dI (c.getD a 0):=hc.w _ bY
 have wB:dI (c.getD b 0):=hc.w _ bY
 have wP:dI (c.getD 8 0):=hc.w _ bY
 generalize c.getD a 0=ra at*
 generalize c.getD b 0=rb at*
 generalize c.getD 8 0=pc at*
 have hsz:=dG c
 have MX:=wA.1
 have MW:=wA.2
 have FR:=wB.1
 have uh:=wB.2
 have ht:0≤rb.tmod 32∧rb.tmod 32≤32:=mU
 have Qu:=ht.1
 have Qt:=ht.2
 clear hm hc ht
 skip
 all_goals
  apply Exists.intro
  apply Exists.intro
  refine⟨?_,?_,?_⟩
  rotate_left 2
  ·intro w hT
   have HT:=ah (fun W (h:Below w.heap.size w W)=>hT.below h)
   clear hT
   go_enter Tryz.func145,Tryz.ntmps145
   go_wp2_with fail
   with_reducible refine(HM.out _ (HT.out _ ?_)).mono ?_
   focus exact bl
   rintro e w1 ⟨rfl,hb1⟩
   have hz1:=hb1.size
   simp only[World.size_alloc] at hz1
   have b1:aD w1 w.heap.size (fB c) 119:=mW;obtain⟨hc1,mF,jO,mE,oz⟩:=b1.rules;have K1:=ah b1;clear b1
   have b2:aD w1 (w.heap.size+1) #[.int .i64 2,.int .i64 a,.int .i64 b,.int .i64 dD] 250:=lC;obtain⟨hc2,hf2,hl2,rD,nS⟩:=b2.rules;have K2:=ah b2;clear b2
   have b3:aD w1 (w.heap.size+1+1) #[.int .u32 0,.int .u32 0,.int .u32 0,.int .u32 0,.int .u32 0,.int .u32 0,.int .u32 0,.int .u32 0,.int .u32 0] 119:=mV;obtain⟨hc3,hf3,qM,wX,qL⟩:=b3.rules;have K3:=ah b3;clear b3
   have bZ:Below w.heap.size w w1:=aG
   clear hb1 hc3
   rw[jN] at K3
   have cA:=(hc1 a).trans gA
   have cB:=(hc1 b).trans gB
   have cP:=(hc1 8).trans gP
   clear hc1
   go_wp2_with fail
   have a8:a<8:=aj
   have b8:b<8:=aj
   go_region
   go_wp2_with fail
   go_region
   go_upto_block 0 with fail
   (refine bU ?_;(iterate 16 (refine cO aC ?_));apply rX;(focus(apply cZ;(focus((go_wp2_with fail;exact⟨rfl,rfl,rfl⟩)));(go_wp2_with fail;exact⟨rfl,rfl,rfl⟩))))
   exact zA
  all_goals first|assumption|exact⟨aj,aj⟩|exact m_ _ _ _|exact qU _ _ bq|exact qC _ _ bq bq|exact mY _ _ bq bq|exact lQ _|skip
theorem alX(c:List Int)(a b:Nat)(dD:Int)(hc:gU c)(hI:kW 3 a b dD)(hm:rU 3 a b dD=true):
  ∃x y:Int,dI x∧dI y∧jZ 3 a b dD c ((c.set a x).set 8 y):=by
 obtain⟨h1,h2,h3,h4,h5,h6,h7,h8⟩:=hI
 have HM:=ah (fun W h=>jM 3 a b dD W h)
 rw[hm] at HM
 have nO:=hc.len
 have gA:=aX c (i:=a) aj
 have gB:=aX c (i:=b) aj
 have gP:=aX c (i:=8) aj
 have wA:dI (c.getD a 0):=hc.w _ bY
 have wB:dI (c.getD b 0):=hc.w _ bY
 have wP:dI (c.getD 8 0):=hc.w _ bY
 generalize c.getD a 0=ra at*
 generalize c.getD b 0=rb at*
 generalize c.getD 8 0=pc at*
 have hsz:=dG c
 have MX:=wA.1
 have MW:=wA.2
 have FR:=wB.1
 have uh:=wB.2
 have ht:0≤rb.tmod 32∧rb.tmod 32≤32:=mU
 have Qu:=ht.1
 have Qt:=ht.2
 clear hm hc ht
 skip
 all_goals
  apply Exists.intro
  apply Exists.intro
  refine⟨?_,?_,?_⟩
  rotate_left 2
  ·intro w hT
   have HT:=ah (fun W (h:Below w.heap.size w W)=>hT.below h)
   clear hT
   go_enter Tryz.func145,Tryz.ntmps145
   go_wp2_with fail
   with_reducible refine(HM.out _ (HT.out _ ?_)).mono ?_
   focus exact bl
   rintro e w1 ⟨rfl,hb1⟩
   have hz1:=hb1.size
   simp only[World.size_alloc] at hz1
   have b1:aD w1 w.heap.size (fB c) 119:=mW;obtain⟨hc1,mF,jO,mE,oz⟩:=b1.rules;have K1:=ah b1;clear b1
   have b2:aD w1 (w.heap.size+1) #[.int .i64 3,.int .i64 a,.int .i64 b,.int .i64 dD] 250:=lC;obtain⟨hc2,hf2,hl2,rD,nS⟩:=b2.rules;have K2:=ah b2;clear b2
   have b3:aD w1 (w.heap.size+1+1) #[.int .u32 0,.int .u32 0,.int .u32 0,.int .u32 0,.int .u32 0,.int .u32 0,.int .u32 0,.int .u32 0,.int .u32 0] 119:=mV;obtain⟨hc3,hf3,qM,wX,qL⟩:=b3.rules;have K3:=ah b3;clear b3
   have bZ:Below w.heap.size w w1:=aG
   clear hb1 hc3
   rw[jN] at K3
   have cA:=(hc1 a).trans gA
   have cB:=(hc1 b).trans gB
   have cP:=(hc1 8).trans gP
   clear hc1
   go_wp2_with fail
   have a8:a<8:=aj
   have b8:b<8:=aj
   go_region
   go_wp2_with fail
   go_region
   go_upto_block 0 with fail
   (refine bU ?_;(iterate 15 (refine cO aC ?_));apply cZ;(focus(exact acQ)))
   exact zA
  all_goals first|assumption|exact⟨aj,aj⟩|exact m_ _ _ _|exact qU _ _ bq|exact qC _ _ bq bq|exact mY _ _ bq bq|exact lQ _|skip
theorem alW(c:List Int)(a b:Nat)(dD:Int)(hc:gU c)(hI:kW 4 a b dD)(hm:rU 4 a b dD=true):
  ∃x y:Int,dI x∧dI y∧jZ 4 a b dD c ((c.set a x).set 8 y):=by
 obtain⟨h1,h2,h3,h4,h5,h6,h7,h8⟩:=hI
 have HM:=ah (fun W h=>jM 4 a b dD W h)
 rw[hm] at HM
 have nO:=hc.len
 have gA:=aX c (i:=a) aj
 have gB:=aX c (i:=b) aj
 have gP:=aX c (i:=8) aj
 have wA:dI (c.getD a 0):=hc.w _ bY
 have wB:dI (c.getD b 0):=hc.w _ bY
 have wP:dI (c.getD 8 0):=hc.w _ bY
 generalize c.getD a 0=ra at*
 generalize c.getD b 0=rb at*
 generalize c.getD 8 0=pc at*
 have hsz:=dG c
 have MX:=wA.1
 have MW:=wA.2
 have FR:=wB.1
 have uh:=wB.2
 have ht:0≤rb.tmod 32∧rb.tmod 32≤32:=mU
 have Qu:=ht.1
 have Qt:=ht.2
 clear hm hc ht
 skip
 all_goals
  apply Exists.intro
  apply Exists.intro
  refine⟨?_,?_,?_⟩
  rotate_left 2
  ·intro w hT
   have HT:=ah (fun W (h:Below w.heap.size w W)=>hT.below h)
   clear hT
   go_enter Tryz.func145,Tryz.ntmps145
   go_wp2_with fail
   with_reducible refine(HM.out _ (HT.out _ ?_)).mono ?_
   focus exact bl
   rintro e w1 ⟨rfl,hb1⟩
   have hz1:=hb1.size
   simp only[World.size_alloc] at hz1
   have b1:aD w1 w.heap.size (fB c) 119:=mW;obtain⟨hc1,mF,jO,mE,oz⟩:=b1.rules;have K1:=ah b1;clear b1
   have b2:aD w1 (w.heap.size+1) #[.int .i64 4,.int .i64 a,.int .i64 b,.int .i64 dD] 250:=lC;obtain⟨hc2,hf2,hl2,rD,nS⟩:=b2.rules;have K2:=ah b2;clear b2
   have b3:aD w1 (w.heap.size+1+1) #[.int .u32 0,.int .u32 0,.int .u32 0,.int .u32 0,.int .u32 0,.int .u32 0,.int .u32 0,.int .u32 0,.int .u32 0] 119:=mV;obtain⟨hc3,hf3,qM,wX,qL⟩:=b3.rules;have K3:=ah b3;clear b3
   have bZ:Below w.heap.size w w1:=aG
   clear hb1 hc3
   rw[jN] at K3
   have cA:=(hc1 a).trans gA
   have cB:=(hc1 b).trans gB
   have cP:=(hc1 8).trans gP
   clear hc1
   go_wp2_with fail
   have a8:a<8:=aj
   have b8:b<8:=aj
   go_region
   go_wp2_with fail
   go_region
   go_upto_block 0 with fail
   (refine bU ?_;(iterate 13 (refine cO aC ?_));apply cZ;(focus(exact aja)))
   exact zA
  all_goals first|assumption|exact⟨aj,aj⟩|exact m_ _ _ _|exact qU _ _ bq|exact qC _ _ bq bq|exact mY _ _ bq bq|exact lQ _|skip
theorem alU(c:List Int)(a b:Nat)(dD:Int)(hc:gU c)(hI:kW 5 a b dD)(hm:rU 5 a b dD=true):
  ∃x y:Int,dI x∧dI y∧jZ 5 a b dD c ((c.set a x).set 8 y):=by
 obtain⟨h1,h2,h3,h4,h5,h6,h7,h8⟩:=hI
 have HM:=ah (fun W h=>jM 5 a b dD W h)
 rw[hm] at HM
 have nO:=hc.len
 have gA:=aX c (i:=a) aj
 have gB:=aX c (i:=b) aj
 have gP:=aX c (i:=8) aj
 have wA:dI (c.getD a 0):=hc.w _ bY
 have wB:dI (c.getD b 0):=hc.w _ bY
 have wP:dI (c.getD 8 0):=hc.w _ bY
 generalize c.getD a 0=ra at*
 generalize c.getD b 0=rb at*
 generalize c.getD 8 0=pc at*
 have hsz:=dG c
 have MX:=wA.1
 have MW:=wA.2
 have FR:=wB.1
 have uh:=wB.2
 have ht:0≤rb.tmod 32∧rb.tmod 32≤32:=mU
 have Qu:=ht.1
 have Qt:=ht.2
 clear hm hc ht
 skip
 all_goals
  apply Exists.intro
  apply Exists.intro
  refine⟨?_,?_,?_⟩
  rotate_left 2
  ·intro w hT
   have HT:=ah (fun W (h:Below w.heap.size w W)=>hT.below h)
   clear hT
   go_enter Tryz.func145,Tryz.ntmps145
   go_wp2_with fail
   with_reducible refine(HM.out _ (HT.out _ ?_)).mono ?_
   focus exact bl
   rintro e w1 ⟨rfl,hb1⟩
   have hz1:=hb1.size
   simp only[World.size_alloc] at hz1
   have b1:aD w1 w.heap.size (fB c) 119:=mW;obtain⟨hc1,mF,jO,mE,oz⟩:=b1.rules;have K1:=ah b1;clear b1
   have b2:aD w1 (w.heap.size+1) #[.int .i64 5,.int .i64 a,.int .i64 b,.int .i64 dD] 250:=lC;obtain⟨hc2,hf2,hl2,rD,nS⟩:=b2.rules;have K2:=ah b2;clear b2
   have b3:aD w1 (w.heap.size+1+1) #[.int .u32 0,.int .u32 0,.int .u32 0,.int .u32 0,.int .u32 0,.int .u32 0,.int .u32 0,.int .u32 0,.int .u32 0] 119:=mV;obtain⟨hc3,hf3,qM,wX,qL⟩:=b3.rules;have K3:=ah b3;clear b3
   have bZ:Below w.heap.size w w1:=aG
   clear hb1 hc3
   rw[jN] at K3
   have cA:=(hc1 a).trans gA
   have cB:=(hc1 b).trans gB
   have cP:=(hc1 8).trans gP
   clear hc1
   go_wp2_with fail
   have a8:a<8:=aj
   have b8:b<8:=aj
   go_region
   go_wp2_with fail
   go_region
   go_upto_block 0 with fail
   (refine bU ?_;(iterate 13 (refine cO aC ?_));apply rX;(focus(apply cZ;(focus(exact acP));(go_wp2_with fail;exact⟨rfl,rfl,rfl⟩))))
   exact zA
  all_goals first|assumption|exact⟨aj,aj⟩|exact m_ _ _ _|exact qU _ _ bq|exact qC _ _ bq bq|exact mY _ _ bq bq|exact lQ _|skip
theorem alT(c:List Int)(a b:Nat)(dD:Int)(hc:gU c)(hI:kW 6 a b dD)(hm:rU 6 a b dD=true):
  ∃x y:Int,dI x∧dI y∧jZ 6 a b dD c ((c.set a x).set 8 y):=by
 obtain⟨h1,h2,h3,h4,h5,h6,h7,h8⟩:=hI
 have HM:=ah (fun W h=>jM 6 a b dD W h)
 rw[hm] at HM
 have nO:=hc.len
 have gA:=aX c (i:=a) aj
 have gB:=aX c (i:=b) aj
 have gP:=aX c (i:=8) aj
 have wA:dI (c.getD a 0):=hc.w _ bY
 have wB:dI (c.getD b 0):=hc.w _ bY
 have wP:dI (c.getD 8 0):=hc.w _ bY
 generalize c.getD a 0=ra at*
 generalize c.getD b 0=rb at*
 generalize c.getD 8 0=pc at*
 have hsz:=dG c
 have MX:=wA.1
 have MW:=wA.2
 have FR:=wB.1
 have uh:=wB.2
 have ht:0≤rb.tmod 32∧rb.tmod 32≤32:=mU
 have Qu:=ht.1
 have Qt:=ht.2
 clear hm hc ht
 skip
 all_goals
  apply Exists.intro
  apply Exists.intro
  refine⟨?_,?_,?_⟩
  rotate_left 2
  ·intro w hT
   have HT:=ah (fun W (h:Below w.heap.size w W)=>hT.below h)
   clear hT
   go_enter Tryz.func145,Tryz.ntmps145
   go_wp2_with fail
   with_reducible refine(HM.out _ (HT.out _ ?_)).mono ?_
   focus exact bl
   rintro e w1 ⟨rfl,hb1⟩
   have hz1:=hb1.size
   simp only[World.size_alloc] at hz1
   have b1:aD w1 w.heap.size (fB c) 119:=mW;obtain⟨hc1,mF,jO,mE,oz⟩:=b1.rules;have K1:=ah b1;clear b1
   have b2:aD w1 (w.heap.size+1) #[.int .i64 6,.int .i64 a,.int .i64 b,.int .i64 dD] 250:=lC;obtain⟨hc2,hf2,hl2,rD,nS⟩:=b2.rules;have K2:=ah b2;clear b2
   have b3:aD w1 (w.heap.size+1+1) #[.int .u32 0,.int .u32 0,.int .u32 0,.int .u32 0,.int .u32 0,.int .u32 0,.int .u32 0,.int .u32 0,.int .u32 0] 119:=mV;obtain⟨hc3,hf3,qM,wX,qL⟩:=b3.rules;have K3:=ah b3;clear b3
   have bZ:Below w.heap.size w w1:=aG
   clear hb1 hc3
   rw[jN] at K3
   have cA:=(hc1 a).trans gA
   have cB:=(hc1 b).trans gB
   have cP:=(hc1 8).trans gP
   clear hc1
   go_wp2_with fail
   have a8:a<8:=aj
   have b8:b<8:=aj
   go_region
   go_wp2_with fail
   go_region
   go_upto_block 0 with fail
   (refine bU ?_;(iterate 12 (refine cO aC ?_));apply cZ;(focus(exact ajb)))
   exact zA
  all_goals first|assumption|exact⟨aj,aj⟩|exact m_ _ _ _|exact qU _ _ bq|exact qC _ _ bq bq|exact mY _ _ bq bq|exact lQ _|skip
theorem alS(c:List Int)(a b:Nat)(dD:Int)(hc:gU c)(hI:kW 7 a b dD)(hm:rU 7 a b dD=true):
  ∃x y:Int,dI x∧dI y∧jZ 7 a b dD c ((c.set a x).set 8 y):=by
 obtain⟨h1,h2,h3,h4,h5,h6,h7,h8⟩:=hI
 have HM:=ah (fun W h=>jM 7 a b dD W h)
 rw[hm] at HM
 have nO:=hc.len
 have gA:=aX c (i:=a) aj
 have gB:=aX c (i:=b) aj
 have gP:=aX c (i:=8) aj
 have wA:dI (c.getD a 0):=hc.w _ bY
 have wB:dI (c.getD b 0):=hc.w _ bY
 have wP:dI (c.getD 8 0):=hc.w _ bY
 generalize c.getD a 0=ra at*
 generalize c.getD b 0=rb at*
 generalize c.getD 8 0=pc at*
 have hsz:=dG c
 have MX:=wA.1
 have MW:=wA.2
 have FR:=wB.1
 have uh:=wB.2
 have ht:0≤rb.tmod 32∧rb.tmod 32≤32:=mU
 have Qu:=ht.1
 have Qt:=ht.2
 clear hm hc ht
 rcases(show(rb=0)∨(¬rb=0) from Classical.em _) with e7|e7
 all_goals
  apply Exists.intro
  apply Exists.intro
  refine⟨?_,?_,?_⟩
  rotate_left 2
  ·intro w hT
   have HT:=ah (fun W (h:Below w.heap.size w W)=>hT.below h)
   clear hT
   go_enter Tryz.func145,Tryz.ntmps145
   go_wp2_with fail
   with_reducible refine(HM.out _ (HT.out _ ?_)).mono ?_
   focus exact bl
   rintro e w1 ⟨rfl,hb1⟩
   have hz1:=hb1.size
   simp only[World.size_alloc] at hz1
   have b1:aD w1 w.heap.size (fB c) 119:=mW;obtain⟨hc1,mF,jO,mE,oz⟩:=b1.rules;have K1:=ah b1;clear b1
   have b2:aD w1 (w.heap.size+1) #[.int .i64 7,.int .i64 a,.int .i64 b,.int .i64 dD] 250:=lC;obtain⟨hc2,hf2,hl2,rD,nS⟩:=b2.rules;have K2:=ah b2;clear b2
   have b3:aD w1 (w.heap.size+1+1) #[.int .u32 0,.int .u32 0,.int .u32 0,.int .u32 0,.int .u32 0,.int .u32 0,.int .u32 0,.int .u32 0,.int .u32 0] 119:=mV;obtain⟨hc3,hf3,qM,wX,qL⟩:=b3.rules;have K3:=ah b3;clear b3
   have bZ:Below w.heap.size w w1:=aG
   clear hb1 hc3
   rw[jN] at K3
   have cA:=(hc1 a).trans gA
   have cB:=(hc1 b).trans gB
   have cP:=(hc1 8).trans gP
   clear hc1
   go_wp2_with fail
   have a8:a<8:=aj
   have b8:b<8:=aj
   go_region
   go_wp2_with fail
   go_region
   go_upto_block 0 with fail
   (refine bU ?_;(iterate 11 (refine cO aC ?_));apply cZ;(focus(exact ai')))
   exact zA
  all_goals first|assumption|exact⟨aj,aj⟩|exact m_ _ _ _|exact qU _ _ bq|exact qC _ _ bq bq|exact mY _ _ bq bq|exact lQ _|skip
end Go.Proofs.YtgmodehldmahiaaGreatDoor
