/- Part 31 of 53 of the proof of topAlone_and_topApart. Conditions: see each. -/
import Derived.Test.YtgmodehldmahiaaGreatDoorB14
import Derived.Test.YtgmodehldmahiaaGreatDoorB28
set_option linter.unusedVariables false
set_option linter.unusedSimpArgs false
set_option maxRecDepth 8192
set_option maxHeartbeats 40000000
namespace Go.Proofs.YtgmodehldmahiaaGreatDoor
open Go Go.RowKit Go.Tm
theorem ahl(c:List Int)(a b:Nat)(dD:Int)(hc:gU c)(hI:kW 18 a b dD)(hm:rU 18 a b dD=true):
  ∃x y:Int,dI x∧dI y∧jZ 18 a b dD c (c.set 8 y):=by
 obtain⟨h1,h2,h3,h4,h5,h6,h7,h8⟩:=hI
 have HM:=ah (fun W h=>jM 18 a b dD W h)
 rw[hm] at HM
 have nO:=hc.len
 have gA:=aX c (i:=a) aj
 have gB:=aX c (i:=b) aj
 have gP:=aX c (i:=8) aj
 have wA:dI (c.getD a 0):=hc.w _ bY
 have wB:dI (c.getD b 0):=hc.w _ bY
 have wP:dI (c.getD 8 0):=hc.w _ bY
 generalize c.getD a 0=ra at*
 generalize c.getD b 0=rb at*
 generalize c.getD 8 0=pc at*
 have hsz:=dG c
 have MX:=wA.1
 have MW:=wA.2
 have FR:=wB.1
 have uh:=wB.2
 have ht:0≤rb.tmod 32∧rb.tmod 32≤32:=mU
 have Qu:=ht.1
 have Qt:=ht.2
 clear hm hc ht
 skip
 all_goals
  apply Exists.intro
  apply Exists.intro
  refine⟨?_,?_,?_⟩
  rotate_left 2
  ·intro w hT
   have HT:=ah (fun W (h:Below w.heap.size w W)=>hT.below h)
   clear hT
   go_enter Tryz.func145,Tryz.ntmps145
   go_wp2_with fail
   with_reducible refine(HM.out _ (HT.out _ ?_)).mono ?_
   focus exact bl
   rintro e w1 ⟨rfl,hb1⟩
   have hz1:=hb1.size
   simp only[World.size_alloc] at hz1
   have b1:aD w1 w.heap.size (fB c) 119:=mW;obtain⟨hc1,mF,jO,mE,oz⟩:=b1.rules;have K1:=ah b1;clear b1
   have b2:aD w1 (w.heap.size+1) #[.int .i64 18,.int .i64 a,.int .i64 b,.int .i64 dD] 250:=lC;obtain⟨hc2,hf2,hl2,rD,nS⟩:=b2.rules;have K2:=ah b2;clear b2
   have b3:aD w1 (w.heap.size+1+1) #[.int .u32 0,.int .u32 0,.int .u32 0,.int .u32 0,.int .u32 0,.int .u32 0,.int .u32 0,.int .u32 0,.int .u32 0] 119:=mV;obtain⟨hc3,hf3,qM,wX,qL⟩:=b3.rules;have K3:=ah b3;clear b3
   have bZ:Below w.heap.size w w1:=aG
   clear hb1 hc3
   rw[jN] at K3
   have cA:=(hc1 a).trans gA
   have cB:=(hc1 b).trans gB
   have cP:=(hc1 8).trans gP
   clear hc1
   go_wp2_with fail
   have a8:a<8:=aj
   have b8:b<8:=aj
   go_region
   go_wp2_with fail
   go_region
   go_upto_block 0 with fail
   (refine bU ?_;(iterate 3 (refine cO aC ?_));apply cZ;(focus((iterate 14 (apply fV (hid:=by decide)));(go_wp2_with fail;exact⟨rfl,rfl,rfl⟩))))
   go_wp2_with fail
   refine eu ?_
   have hcv:=fun c=>jg c
   go_wp2_with(first|((with_reducible refine cK 119 ?_);generalize bR:World.drew _=w5;have K5:aD w5 w.heap.size (fB (c.set 8 _)) 119:=(by rw[←bR];exact((K1.out.set 8 _).drew.drew).cast (by rw[xG nO aj]));generalize hC5:((c.set 8 _):List Int)=c5 at K5;have K6:aD w5 (w.heap.size+1+1) (fB []) 119:=Jq;have kV:Below w.heap.size w w5:=bN;have HK5:=ah K5;have HK6:=ah K6;clear bR K5 K6 cA cB cP;obtain⟨Oa,hf6,hl6,hn6,AZ⟩:=aD.rules HK6.out;have QV:=dG [];have UM:=dG c5;(refine aK rfl 119 _ rfl (fB c5) jm (hcv c5) HK5.out ?_ ?_;(exact aM)))|((with_reducible refine bS 119 ?_);(refine aR rfl 119 _ _ rfl HK6.out (kD c5) jm (hcv c5) ?_ _ (sG _ _) ?_ ?_ ?_);(focus(first|omega|(simp only[dG];decide)|trace "1"));(exact ah8);(exact ah7);(intro w7 LW yS LC pE;have akI:=kV.trans (pE.mono (Nat.le_add_right w.heap.size 2));have hc7:=LW.rules.1;rw[iV] at hc7))|fail)
   exact bodyPost_ret (v:= .tuple #[kD c5,.bool true]) ah' rfl ⟨congrArg (fun z=>Ending.returned (.tuple #[kD z,.bool true])) hC5.symm,akI⟩
  all_goals first|assumption|exact⟨aj,aj⟩|exact m_ _ _ _|exact qU _ _ bq|exact qC _ _ bq bq|exact mY _ _ bq bq|exact lQ _|skip
theorem ahk(c:List Int)(a b:Nat)(dD:Int)(hc:gU c)(hI:kW 19 a b dD)(hm:rU 19 a b dD=true):
  ∃x y:Int,dI x∧dI y∧jZ 19 a b dD c ((c.set a x).set 8 y):=by
 obtain⟨h1,h2,h3,h4,h5,h6,h7,h8⟩:=hI
 have HM:=ah (fun W h=>jM 19 a b dD W h)
 rw[hm] at HM
 have nO:=hc.len
 have gA:=aX c (i:=a) aj
 have gB:=aX c (i:=b) aj
 have gP:=aX c (i:=8) aj
 have wA:dI (c.getD a 0):=hc.w _ bY
 have wB:dI (c.getD b 0):=hc.w _ bY
 have wP:dI (c.getD 8 0):=hc.w _ bY
 generalize c.getD a 0=ra at*
 generalize c.getD b 0=rb at*
 generalize c.getD 8 0=pc at*
 have hsz:=dG c
 have MX:=wA.1
 have MW:=wA.2
 have FR:=wB.1
 have uh:=wB.2
 have ht:0≤rb.tmod 32∧rb.tmod 32≤32:=mU
 have Qu:=ht.1
 have Qt:=ht.2
 clear hm hc ht
 skip
 all_goals
  apply Exists.intro
  apply Exists.intro
  refine⟨?_,?_,?_⟩
  rotate_left 2
  ·intro w hT
   have HT:=ah (fun W (h:Below w.heap.size w W)=>hT.below h)
   clear hT
   go_enter Tryz.func145,Tryz.ntmps145
   go_wp2_with fail
   with_reducible refine(HM.out _ (HT.out _ ?_)).mono ?_
   focus exact bl
   rintro e w1 ⟨rfl,hb1⟩
   have hz1:=hb1.size
   simp only[World.size_alloc] at hz1
   have b1:aD w1 w.heap.size (fB c) 119:=mW;obtain⟨hc1,mF,jO,mE,oz⟩:=b1.rules;have K1:=ah b1;clear b1
   have b2:aD w1 (w.heap.size+1) #[.int .i64 19,.int .i64 a,.int .i64 b,.int .i64 dD] 250:=lC;obtain⟨hc2,hf2,hl2,rD,nS⟩:=b2.rules;have K2:=ah b2;clear b2
   have b3:aD w1 (w.heap.size+1+1) #[.int .u32 0,.int .u32 0,.int .u32 0,.int .u32 0,.int .u32 0,.int .u32 0,.int .u32 0,.int .u32 0,.int .u32 0] 119:=mV;obtain⟨hc3,hf3,qM,wX,qL⟩:=b3.rules;have K3:=ah b3;clear b3
   have bZ:Below w.heap.size w w1:=aG
   clear hb1 hc3
   rw[jN] at K3
   have cA:=(hc1 a).trans gA
   have cB:=(hc1 b).trans gB
   have cP:=(hc1 8).trans gP
   clear hc1
   go_wp2_with fail
   have a8:a<8:=aj
   have b8:b<8:=aj
   go_region
   go_wp2_with fail
   go_region
   go_upto_block 0 with fail
   (refine bU ?_;(iterate 3 (refine cO aC ?_));apply rX;(focus(apply cZ;(focus((iterate 13 (apply fV (hid:=by decide)));(go_wp2_with fail;exact⟨rfl,rfl,rfl⟩)));(go_wp2_with fail;exact⟨rfl,rfl,rfl⟩))))
   exact zA
  all_goals first|assumption|exact⟨aj,aj⟩|exact m_ _ _ _|exact qU _ _ bq|exact qC _ _ bq bq|exact mY _ _ bq bq|exact lQ _|skip
theorem ahj(c:List Int)(a b:Nat)(dD:Int)(hc:gU c)(hI:kW 20 a b dD)(hm:rU 20 a b dD=true):
  ∃x y:Int,dI x∧dI y∧jZ 20 a b dD c ((c.set a x).set 8 y):=by
 obtain⟨h1,h2,h3,h4,h5,h6,h7,h8⟩:=hI
 have HM:=ah (fun W h=>jM 20 a b dD W h)
 rw[hm] at HM
 have nO:=hc.len
 have gA:=aX c (i:=a) aj
 have gB:=aX c (i:=b) aj
 have gP:=aX c (i:=8) aj
 have wA:dI (c.getD a 0):=hc.w _ bY
 have wB:dI (c.getD b 0):=hc.w _ bY
 have wP:dI (c.getD 8 0):=hc.w _ bY
 generalize c.getD a 0=ra at*
 generalize c.getD b 0=rb at*
 generalize c.getD 8 0=pc at*
 have hsz:=dG c
 have MX:=wA.1
 have MW:=wA.2
 have FR:=wB.1
 have uh:=wB.2
 have ht:0≤rb.tmod 32∧rb.tmod 32≤32:=mU
 have Qu:=ht.1
 have Qt:=ht.2
 clear hm hc ht
 skip
 all_goals
  apply Exists.intro
  apply Exists.intro
  refine⟨?_,?_,?_⟩
  rotate_left 2
  ·intro w hT
   have HT:=ah (fun W (h:Below w.heap.size w W)=>hT.below h)
   clear hT
   go_enter Tryz.func145,Tryz.ntmps145
   go_wp2_with fail
   with_reducible refine(HM.out _ (HT.out _ ?_)).mono ?_
   focus exact bl
   rintro e w1 ⟨rfl,hb1⟩
   have hz1:=hb1.size
   simp only[World.size_alloc] at hz1
   have b1:aD w1 w.heap.size (fB c) 119:=mW;obtain⟨hc1,mF,jO,mE,oz⟩:=b1.rules;have K1:=ah b1;clear b1
   have b2:aD w1 (w.heap.size+1) #[.int .i64 20,.int .i64 a,.int .i64 b,.int .i64 dD] 250:=lC;obtain⟨hc2,hf2,hl2,rD,nS⟩:=b2.rules;have K2:=ah b2;clear b2
   have b3:aD w1 (w.heap.size+1+1) #[.int .u32 0,.int .u32 0,.int .u32 0,.int .u32 0,.int .u32 0,.int .u32 0,.int .u32 0,.int .u32 0,.int .u32 0] 119:=mV;obtain⟨hc3,hf3,qM,wX,qL⟩:=b3.rules;have K3:=ah b3;clear b3
   have bZ:Below w.heap.size w w1:=aG
   clear hb1 hc3
   rw[jN] at K3
   have cA:=(hc1 a).trans gA
   have cB:=(hc1 b).trans gB
   have cP:=(hc1 8).trans gP
   clear hc1
   go_wp2_with fail
   have a8:a<8:=aj
   have b8:b<8:=aj
   go_region
   go_wp2_with fail
   go_region
   go_upto_block 0 with fail
   (refine bU ?_;(iterate 2 (refine cO aC ?_));apply cZ;(focus((iterate 15 (apply fV (hid:=by decide)));(go_wp2_with fail;exact⟨rfl,rfl,rfl⟩))))
   exact zA
  all_goals first|assumption|exact⟨aj,aj⟩|exact m_ _ _ _|exact qU _ _ bq|exact qC _ _ bq bq|exact mY _ _ bq bq|exact lQ _|skip
theorem ahi(c:List Int)(a b:Nat)(dD:Int)(hc:gU c)(hI:kW 21 a b dD)(hm:rU 21 a b dD=true):
  ∃x y:Int,dI x∧dI y∧jZ 21 a b dD c ((c.set a x).set 8 y):=by
 obtain⟨h1,h2,h3,h4,h5,h6,h7,h8⟩:=hI
 have HM:=ah (fun W h=>jM 21 a b dD W h)
 rw[hm] at HM
 have nO:=hc.len
 have gA:=aX c (i:=a) aj
 have gB:=aX c (i:=b) aj
 have gP:=aX c (i:=8) aj
 have wA:dI (c.getD a 0):=hc.w _ bY
 have wB:dI (c.getD b 0):=hc.w _ bY
 have wP:dI (c.getD 8 0):=hc.w _ bY
 generalize c.getD a 0=ra at*
 generalize c.getD b 0=rb at*
 generalize c.getD 8 0=pc at*
 have hsz:=dG c
 have MX:=wA.1
 have MW:=wA.2
 have FR:=wB.1
 have uh:=wB.2
 have ht:0≤rb.tmod 32∧rb.tmod 32≤32:=mU
 have Qu:=ht.1
 have Qt:=ht.2
 clear hm hc ht
 rcases Bool.eq_false_or_eq_true (ra==rb) with e7|e7
 all_goals
  apply Exists.intro
  apply Exists.intro
  refine⟨?_,?_,?_⟩
  rotate_left 2
  ·intro w hT
   have HT:=ah (fun W (h:Below w.heap.size w W)=>hT.below h)
   clear hT
   go_enter Tryz.func145,Tryz.ntmps145
   go_wp2_with fail
   with_reducible refine(HM.out _ (HT.out _ ?_)).mono ?_
   focus exact bl
   rintro e w1 ⟨rfl,hb1⟩
   have hz1:=hb1.size
   simp only[World.size_alloc] at hz1
   have b1:aD w1 w.heap.size (fB c) 119:=mW;obtain⟨hc1,mF,jO,mE,oz⟩:=b1.rules;have K1:=ah b1;clear b1
   have b2:aD w1 (w.heap.size+1) #[.int .i64 21,.int .i64 a,.int .i64 b,.int .i64 dD] 250:=lC;obtain⟨hc2,hf2,hl2,rD,nS⟩:=b2.rules;have K2:=ah b2;clear b2
   have b3:aD w1 (w.heap.size+1+1) #[.int .u32 0,.int .u32 0,.int .u32 0,.int .u32 0,.int .u32 0,.int .u32 0,.int .u32 0,.int .u32 0,.int .u32 0] 119:=mV;obtain⟨hc3,hf3,qM,wX,qL⟩:=b3.rules;have K3:=ah b3;clear b3
   have bZ:Below w.heap.size w w1:=aG
   clear hb1 hc3
   rw[jN] at K3
   have cA:=(hc1 a).trans gA
   have cB:=(hc1 b).trans gB
   have cP:=(hc1 8).trans gP
   clear hc1
   go_wp2_with fail
   have a8:a<8:=aj
   have b8:b<8:=aj
   go_region
   go_wp2_with fail
   go_region
   go_upto_block 0 with fail
   (refine bU ?_;refine cO aC ?_;apply cZ;(focus(exact acR)))
   exact zA
  all_goals first|assumption|exact⟨aj,aj⟩|exact m_ _ _ _|exact qU _ _ bq|exact qC _ _ bq bq|exact mY _ _ bq bq|exact lQ _|skip
theorem ahh(c:List Int)(a b:Nat)(dD:Int)(hc:gU c)(hI:kW 22 a b dD)(hm:rU 22 a b dD=true):
  ∃x y:Int,dI x∧dI y∧jZ 22 a b dD c ((c.set a x).set 8 y):=by
 obtain⟨h1,h2,h3,h4,h5,h6,h7,h8⟩:=hI
 have HM:=ah (fun W h=>jM 22 a b dD W h)
 rw[hm] at HM
 have nO:=hc.len
 have gA:=aX c (i:=a) aj
 have gB:=aX c (i:=b) aj
 have gP:=aX c (i:=8) aj
 have wA:dI (c.getD a 0):=hc.w _ bY
 have wB:dI (c.getD b 0):=hc.w _ bY
 have wP:dI (c.getD 8 0):=hc.w _ bY
 generalize c.getD a 0=ra at*
 generalize c.getD b 0=rb at*
 generalize c.getD 8 0=pc at*
 have hsz:=dG c
 have MX:=wA.1
 have MW:=wA.2
 have FR:=wB.1
 have uh:=wB.2
 have ht:0≤rb.tmod 32∧rb.tmod 32≤32:=mU
 have Qu:=ht.1
 have Qt:=ht.2
 clear hm hc ht
 rcases Bool.eq_false_or_eq_true (decide (wrap32 ra<wrap32 rb)) with e7|e7
 all_goals
  apply Exists.intro
  apply Exists.intro
  refine⟨?_,?_,?_⟩
  rotate_left 2
  ·intro w hT
   have HT:=ah (fun W (h:Below w.heap.size w W)=>hT.below h)
   clear hT
   go_enter Tryz.func145,Tryz.ntmps145
   go_wp2_with fail
   with_reducible refine(HM.out _ (HT.out _ ?_)).mono ?_
   focus exact bl
   rintro e w1 ⟨rfl,hb1⟩
   have hz1:=hb1.size
   simp only[World.size_alloc] at hz1
   have b1:aD w1 w.heap.size (fB c) 119:=mW;obtain⟨hc1,mF,jO,mE,oz⟩:=b1.rules;have K1:=ah b1;clear b1
   have b2:aD w1 (w.heap.size+1) #[.int .i64 22,.int .i64 a,.int .i64 b,.int .i64 dD] 250:=lC;obtain⟨hc2,hf2,hl2,rD,nS⟩:=b2.rules;have K2:=ah b2;clear b2
   have b3:aD w1 (w.heap.size+1+1) #[.int .u32 0,.int .u32 0,.int .u32 0,.int .u32 0,.int .u32 0,.int .u32 0,.int .u32 0,.int .u32 0,.int .u32 0] 119:=mV;obtain⟨hc3,hf3,qM,wX,qL⟩:=b3.rules;have K3:=ah b3;clear b3
   have bZ:Below w.heap.size w w1:=aG
   clear hb1 hc3
   rw[jN] at K3
   have cA:=(hc1 a).trans gA
   have cB:=(hc1 b).trans gB
   have cP:=(hc1 8).trans gP
   clear hc1
   go_wp2_with fail
   have a8:a<8:=aj
   have b8:b<8:=aj
   go_region
   go_wp2_with fail
   go_region
   go_upto_block 0 with fail
   (refine bU ?_;refine cO aC ?_;apply cZ;(focus(exact acR)))
   exact zA
  all_goals first|assumption|exact⟨aj,aj⟩|exact m_ _ _ _|exact qU _ _ bq|exact qC _ _ bq bq|exact mY _ _ bq bq|exact lQ _|skip
theorem ahg(c:List Int)(a b:Nat)(dD:Int)(hc:gU c)(hI:kW 23 a b dD)(hm:rU 23 a b dD=true):
  ∃x y:Int,dI x∧dI y∧jZ 23 a b dD c ((c.set a x).set 8 y):=by
 obtain⟨h1,h2,h3,h4,h5,h6,h7,h8⟩:=hI
 have HM:=ah (fun W h=>jM 23 a b dD W h)
 rw[hm] at HM
 have nO:=hc.len
 have gA:=aX c (i:=a) aj
 have gB:=aX c (i:=b) aj
 have gP:=aX c (i:=8) aj
 have wA:dI (c.getD a 0):=hc.w _ bY
 have wB:dI (c.getD b 0):=hc.w _ bY
 have wP:dI (c.getD 8 0):=hc.w _ bY
 generalize c.getD a 0=ra at*
 generalize c.getD b 0=rb at*
 generalize c.getD 8 0=pc at*
 have hsz:=dG c
 have MX:=wA.1
 have MW:=wA.2
 have FR:=wB.1
 have uh:=wB.2
 have ht:0≤rb.tmod 32∧rb.tmod 32≤32:=mU
 have Qu:=ht.1
 have Qt:=ht.2
 clear hm hc ht
 rcases Bool.eq_false_or_eq_true (decide (ra<rb)) with e7|e7
 all_goals
  apply Exists.intro
  apply Exists.intro
  refine⟨?_,?_,?_⟩
  rotate_left 2
  ·intro w hT
   have HT:=ah (fun W (h:Below w.heap.size w W)=>hT.below h)
   clear hT
   go_enter Tryz.func145,Tryz.ntmps145
   go_wp2_with fail
   with_reducible refine(HM.out _ (HT.out _ ?_)).mono ?_
   focus exact bl
   rintro e w1 ⟨rfl,hb1⟩
   have hz1:=hb1.size
   simp only[World.size_alloc] at hz1
   have b1:aD w1 w.heap.size (fB c) 119:=mW;obtain⟨hc1,mF,jO,mE,oz⟩:=b1.rules;have K1:=ah b1;clear b1
   have b2:aD w1 (w.heap.size+1) #[.int .i64 23,.int .i64 a,.int .i64 b,.int .i64 dD] 250:=lC;obtain⟨hc2,hf2,hl2,rD,nS⟩:=b2.rules;have K2:=ah b2;clear b2
   have b3:aD w1 (w.heap.size+1+1) #[.int .u32 0,.int .u32 0,.int .u32 0,.int .u32 0,.int .u32 0,.int .u32 0,.int .u32 0,.int .u32 0,.int .u32 0] 119:=mV;obtain⟨hc3,hf3,qM,wX,qL⟩:=b3.rules;have K3:=ah b3;clear b3
   have bZ:Below w.heap.size w w1:=aG
   clear hb1 hc3
   rw[jN] at K3
   have cA:=(hc1 a).trans gA
   have cB:=(hc1 b).trans gB
   have cP:=(hc1 8).trans gP
   clear hc1
   go_wp2_with fail
   have a8:a<8:=aj
   have b8:b<8:=aj
   go_region
   go_wp2_with fail
   go_region
   go_upto_block 0 with fail
   (refine bU ?_;refine cO aC ?_;apply cZ;(focus(exact acR)))
   exact zA
  all_goals first|assumption|exact⟨aj,aj⟩|exact m_ _ _ _|exact qU _ _ bq|exact qC _ _ bq bq|exact mY _ _ bq bq|exact lQ _|skip
end Go.Proofs.YtgmodehldmahiaaGreatDoor
