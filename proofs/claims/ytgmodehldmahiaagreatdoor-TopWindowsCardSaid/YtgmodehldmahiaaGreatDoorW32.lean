/- Part 32 of 50 of the proof of topWindows_holds. Conditions: see each. -/
import Derived.Test.YtgmodehldmahiaaGreatDoorW14
import Derived.Test.YtgmodehldmahiaaGreatDoorW29
import Derived.Test.YtgmodehldmahiaaGreatDoorW30
import Derived.Test.YtgmodehldmahiaaGreatDoorW31
set_option linter.unusedVariables false
set_option linter.unusedSimpArgs false
set_option maxRecDepth 8192
set_option maxHeartbeats 40000000
namespace Go.Proofs.YtgmodehldmahiaaGreatDoor
open Go Go.RowKit Go.Tm
theorem aju:cK 0:=⟨aB,aB⟩
def StepT(c:List Int)(m:ByteArray)(c':List Int)(m':ByteArray)(t:Int):Prop:=∀w:World,iV w→Calls Tryz.prog 113 #[jm c,.string m] w fun e w'=>e=.returned (.tuple #[jm c',.string m',.int .i64 t])∧Below w.heap.size w w'
theorem aaX(op:Int)(c:List Int)(a b:Nat)(bZ:Int)(hc:fO c)(hI:jJ op a b bZ)(hm:o7 op a b bZ=true)
  (h14:op≠14)(h15:op≠15)(h16:op≠16)(Ls:op≠17)(h24:op≠24):∃c',fO c'∧jg op a b bZ c c':=by
 have h1:=hI.1
 have h2:=hI.2.1
 have key:∀{P:Int→Int→Prop},(∃x y:Int,cK x∧cK y∧P x y)→∃x y,cK x∧cK y∧P x y:=fun h=>h
 have f:(∃x y:Int,cK x∧cK y∧jg op a b bZ c ((c.set a x).set 8 y))→∃c',fO c'∧jg op a b bZ c c':=
  fun⟨x,y,hx,hy,h⟩=>⟨_,(hc.set a hx).set 8 hy,h⟩
 obtain rfl|rfl|rfl|rfl|rfl|rfl|rfl|rfl|rfl|rfl|rfl|rfl|rfl|rfl|rfl|rfl|rfl|rfl|rfl:op=1∨op=2∨op=3∨op=4∨op=5∨op=6∨op=7∨op=8∨op=9∨op=10∨op=11∨op=12∨op=13∨op=18∨op=19∨op=20∨op=21∨op=22∨op=23:=by omega
 ·exact f (ahc c a b bZ hc hI hm)
 ·exact f (ahb c a b bZ hc hI hm)
 ·exact f (aha c a b bZ hc hI hm)
 ·exact f (ag' c a b bZ hc hI hm)
 ·exact f (ag_ c a b bZ hc hI hm)
 ·exact f (ag9 c a b bZ hc hI hm)
 ·exact f (ag8 c a b bZ hc hI hm)
 ·exact f (ag7 c a b bZ hc hI hm)
 ·exact f (ag6 c a b bZ hc hI hm)
 ·exact f (acR c a b bZ hc hI hm)
 ·exact f (acQ c a b bZ hc hI hm)
 ·exact f (acP c a b bZ hc hI hm)
 ·exact f (acO c a b bZ hc hI hm)
 ·obtain⟨x,y,hx,hy,h⟩:=acN c a b bZ hc hI hm
  exact⟨_,hc.set 8 hy,h⟩
 ·exact f (acM c a b bZ hc hI hm)
 ·exact f (acL c a b bZ hc hI hm)
 ·exact f (acK c a b bZ hc hI hm)
 ·exact f (acJ c a b bZ hc hI hm)
 ·exact f (acI c a b bZ hc hI hm)
theorem UR{x:Int}(h:(fZ x).2=0):o7 (fZ x).1.1 (fZ x).1.2.1 (fZ x).1.2.2.1 (fZ x).1.2.2.2=true:=by
 unfold fZ at*
 split
 ·rename_i h1;exact h1
 ·rename_i h1;rw[if_neg h1] at h;cases h
theorem UZ(c:List Int)(m:ByteArray)(hc:fO c)(hm:m.size≤9223372036854775807)(he:(fH m (c.getD 8 0)).2≠0):StepT c m c m 2:=by
 intro w hT
 have hcl:=hc.len
 have gP:=aV c (i:=8) ah
 have wP:cK (c.getD 8 0):=hc.w _ bK
 have HL:=Lib.hid (fun W=>kE m (c.getD 8 0) W wP hm)
 generalize c.getD 8 0=pc at*
 generalize fH m pc=l at*
 obtain⟨wd,e1⟩:=l
 dsimp only at he HL
 have e1b:(e1 !=0)=true:=by simp[he]
 clear he hT hc
 go_enter Tryz.func113,Tryz.ntmps113
 go_wp2_with fail
 with_reducible refine(HL.out _).mono ?_
 rintro e w1 ⟨rfl,hb1⟩
 have K1:=Lib.hid (((aC.new w (dY c) 119).alloc _).below hb1 cZ)
 have K0:aC w1 (w.heap.size+1) (dY []) 119:=vF
 have KZ:=Lib.hid K0
 obtain⟨hc0,hf0,hl0,hn0,hm0⟩:=K0.rules
 have bP:Below w.heap.size w w1:=aD
 clear K0 hc0
 go_wp2_with(first|((with_reducible refine bS 119 ?_);(refine aJ rfl 119 _ rfl (dY c) iC (gQ c) K1.out ?_ ?_;(exact aG)))|((with_reducible refine bO 119 ?_);(refine aN rfl 119 _ _ rfl KZ.out (jm c) iC (gQ c) ?_ _ (pQ _ _) ?_ ?_ ?_);(exact CZ);(exact mI);(exact mI);(intro w9 Bp lg Lm nK;(have Bz:=bP.trans (Below.mono nK (Nat.le_add_right w.heap.size 1)));(have GZ:=Bp.rules.1);(rw[gK] at GZ)))|fail)
 exact bodyPost_ret (v:= .tuple #[jm c,.string m,.int .i64 2]) XY rfl ⟨rfl,Bz⟩
theorem aaH(m:ByteArray)(a:Int):cK (fH m a).1:=qy m a
theorem aa2(m:ByteArray)(a:Int):cK (IV m a).1:=by
 unfold IV
 split
 ·exact⟨lq,lq⟩
 ·exact aju
theorem ab6(c:List Int)(m:ByteArray)(a b:Nat)(bZ:Int)(hc:fO c)(hm:m.size≤9223372036854775807)(he:(fH m (c.getD 8 0)).2=0)(ht:fZ (fH m (c.getD 8 0)).1=((14,(a:Int),(b:Int),bZ),0))(ha:a<8)(hb:b<8):
  ∃c' m' t,fO c'∧m'.size=m.size∧(t=0∨t=2)∧StepT c m c' m' t:=by
 have hcl0:=hc.len
 have WV:cK (c.getD 8 0):=hc.w _ bK
 have OH:cK (c.getD a 0):=hc.w _ bK
 have wt:cK ((c.getD b 0+bZ)%4294967296):=⟨ah,ah⟩
 have HM:=Lib.hid (fun W=>kE m ((c.getD b 0+bZ)%4294967296) W wt hm)
 have hsv:=aaH m ((c.getD b 0+bZ)%4294967296)
 generalize(fH m ((c.getD b 0+bZ)%4294967296))=r at*
 obtain⟨v,e2⟩:=r
 dsimp only at HM hsv
 by_cases h:e2=0
 ·subst h
  refine⟨(c.set a v).set 8 ((c.getD 8 0+4)%4294967296),m,0,(hc.set a hsv).set 8 ⟨ah,ah⟩,rfl,.inl rfl,?_⟩
  clear WV OH wt hsv
  intro w hT
  have hcl:=hc.len
  have gP:=aV c (i:=8) ah
  have gA:=aV c (i:=a) ah
  have gB:=aV c (i:=b) ah
  have wA:cK (c.getD a 0):=hc.w _ bK
  have wB:cK (c.getD b 0):=hc.w _ bK
  have wP:cK (c.getD 8 0):=hc.w _ bK
  have HL:=Lib.hid (fun W=>kE m (c.getD 8 0) W wP hm)
  have hwd:=qy m (c.getD 8 0)
  have Ec:=Lib.hid (fun W (h:Below w.heap.size w W)=>hT.below h)
  have HK:=Lib.hid (fun W (h:Below w.heap.size w W)=>ko (fH m (c.getD 8 0)).1 W (hT.below h) hwd)
  rw[ht] at HK
  generalize hpc:c.getD 8 0=pc at*
  generalize hra:c.getD a 0=ra at*
  generalize hrb:c.getD b 0=rb at*
  generalize fH m pc=l at*
  obtain⟨wd,e1⟩:=l
  dsimp only at he HL HK
  have hiv:=kU 14 a b bZ
  clear hT ht
  subst he
  go_enter Tryz.func113,Tryz.ntmps113
  go_wp2_with fail
  with_reducible refine(HL.out _).mono ?_
  rintro e w1 ⟨rfl,hb1⟩
  have K1:=Lib.hid (((aC.new w (dY c) 119).alloc _).below hb1 cZ)
  have K0:aC w1 (w.heap.size+1) (dY []) 119:=vF
  have KZ:=Lib.hid K0
  have bP:Below w.heap.size w w1:=aD
  have hz1:=hb1.size
  simp only[World.size_alloc] at hz1
  clear K0 hb1
  go_wp2_with fail
  with_reducible refine(HK.out _ bP).mono ?_
  rintro e w2 ⟨rfl,hb2⟩
  have hz2:=hb2.size
  have hbw2:=bP.trans (hb2.mono bP.size)
  have K2:=Lib.hid (K1.out.below hb2 K1.out.lt)
  have KY:=Lib.hid (KZ.out.below hb2 KZ.out.lt)
  obtain⟨hc1,hf1,hl1,hn1,hm1⟩:=K2.out.rules
  have cA:=(hc1 a).trans gA
  have cB:=(hc1 b).trans gB
  have cP:=(hc1 8).trans gP
  clear hc1 hb2 K1 KZ
  go_wp2_with fail
  have a8:a<8:=ah
  have b8:b<8:=ah
  have a8':(a:Int)<8:=ah
  have b8':(b:Int)<8:=ah
  go_region
  go_wp2_with fail
  go_region
  go_wp2_with fail
  with_reducible refine(HM.out _).mono ?_
  rintro e w3 ⟨rfl,hb3⟩
  have KI:=Lib.hid (((aC.new w2 #[.int .i64 14,.int .i64 a,.int .i64 b,.int .i64 bZ] 250).drew.drew).below hb3 aI)
  exact aeL
 ·have eb:(e2 !=0)=true:=by simp[h]
  refine⟨c,m,2,hc,rfl,.inr rfl,?_⟩
  clear WV OH wt hsv h
  intro w hT
  have hcl:=hc.len
  have gP:=aV c (i:=8) ah
  have gA:=aV c (i:=a) ah
  have gB:=aV c (i:=b) ah
  have wA:cK (c.getD a 0):=hc.w _ bK
  have wB:cK (c.getD b 0):=hc.w _ bK
  have wP:cK (c.getD 8 0):=hc.w _ bK
  have HL:=Lib.hid (fun W=>kE m (c.getD 8 0) W wP hm)
  have hwd:=qy m (c.getD 8 0)
  have Ec:=Lib.hid (fun W (h:Below w.heap.size w W)=>hT.below h)
  have HK:=Lib.hid (fun W (h:Below w.heap.size w W)=>ko (fH m (c.getD 8 0)).1 W (hT.below h) hwd)
  rw[ht] at HK
  generalize hpc:c.getD 8 0=pc at*
  generalize hra:c.getD a 0=ra at*
  generalize hrb:c.getD b 0=rb at*
  generalize fH m pc=l at*
  obtain⟨wd,e1⟩:=l
  dsimp only at he HL HK
  have hiv:=kU 14 a b bZ
  clear hT ht
  subst he
  go_enter Tryz.func113,Tryz.ntmps113
  go_wp2_with fail
  with_reducible refine(HL.out _).mono ?_
  rintro e w1 ⟨rfl,hb1⟩
  have K1:=Lib.hid (((aC.new w (dY c) 119).alloc _).below hb1 cZ)
  have K0:aC w1 (w.heap.size+1) (dY []) 119:=vF
  have KZ:=Lib.hid K0
  have bP:Below w.heap.size w w1:=aD
  have hz1:=hb1.size
  simp only[World.size_alloc] at hz1
  clear K0 hb1
  go_wp2_with fail
  with_reducible refine(HK.out _ bP).mono ?_
  rintro e w2 ⟨rfl,hb2⟩
  have hz2:=hb2.size
  have hbw2:=bP.trans (hb2.mono bP.size)
  have K2:=Lib.hid (K1.out.below hb2 K1.out.lt)
  have KY:=Lib.hid (KZ.out.below hb2 KZ.out.lt)
  obtain⟨hc1,hf1,hl1,hn1,hm1⟩:=K2.out.rules
  have cA:=(hc1 a).trans gA
  have cB:=(hc1 b).trans gB
  have cP:=(hc1 8).trans gP
  clear hc1 hb2 K1 KZ
  go_wp2_with fail
  have a8:a<8:=ah
  have b8:b<8:=ah
  have a8':(a:Int)<8:=ah
  have b8':(b:Int)<8:=ah
  go_region
  go_wp2_with fail
  go_region
  go_wp2_with fail
  with_reducible refine(HM.out _).mono ?_
  rintro e w3 ⟨rfl,hb3⟩
  have KI:=Lib.hid (((aC.new w2 #[.int .i64 14,.int .i64 a,.int .i64 b,.int .i64 bZ] 250).drew.drew).below hb3 aI)
  exact abl
theorem ab4(c:List Int)(m:ByteArray)(a b:Nat)(bZ:Int)(hc:fO c)(hm:m.size≤9223372036854775807)(he:(fH m (c.getD 8 0)).2=0)(ht:fZ (fH m (c.getD 8 0)).1=((16,(a:Int),(b:Int),bZ),0))(ha:a<8)(hb:b<8):
  ∃c' m' t,fO c'∧m'.size=m.size∧(t=0∨t=2)∧StepT c m c' m' t:=by
 have hcl0:=hc.len
 have WV:cK (c.getD 8 0):=hc.w _ bK
 have OH:cK (c.getD a 0):=hc.w _ bK
 have wt:cK ((c.getD b 0+bZ)%4294967296):=⟨ah,ah⟩
 have HM:=Lib.hid (fun W=>aa1 m ((c.getD b 0+bZ)%4294967296) W wt hm)
 have hsv:=aa2 m ((c.getD b 0+bZ)%4294967296)
 generalize(IV m ((c.getD b 0+bZ)%4294967296))=r at*
 obtain⟨v,e2⟩:=r
 dsimp only at HM hsv
 by_cases h:e2=0
 ·subst h
  refine⟨(c.set a v).set 8 ((c.getD 8 0+4)%4294967296),m,0,(hc.set a hsv).set 8 ⟨ah,ah⟩,rfl,.inl rfl,?_⟩
  clear WV OH wt hsv
  intro w hT
  have hcl:=hc.len
  have gP:=aV c (i:=8) ah
  have gA:=aV c (i:=a) ah
  have gB:=aV c (i:=b) ah
  have wA:cK (c.getD a 0):=hc.w _ bK
  have wB:cK (c.getD b 0):=hc.w _ bK
  have wP:cK (c.getD 8 0):=hc.w _ bK
  have HL:=Lib.hid (fun W=>kE m (c.getD 8 0) W wP hm)
  have hwd:=qy m (c.getD 8 0)
  have Ec:=Lib.hid (fun W (h:Below w.heap.size w W)=>hT.below h)
  have HK:=Lib.hid (fun W (h:Below w.heap.size w W)=>ko (fH m (c.getD 8 0)).1 W (hT.below h) hwd)
  rw[ht] at HK
  generalize hpc:c.getD 8 0=pc at*
  generalize hra:c.getD a 0=ra at*
  generalize hrb:c.getD b 0=rb at*
  generalize fH m pc=l at*
  obtain⟨wd,e1⟩:=l
  dsimp only at he HL HK
  have hiv:=kU 16 a b bZ
  clear hT ht
  subst he
  go_enter Tryz.func113,Tryz.ntmps113
  go_wp2_with fail
  with_reducible refine(HL.out _).mono ?_
  rintro e w1 ⟨rfl,hb1⟩
  have K1:=Lib.hid (((aC.new w (dY c) 119).alloc _).below hb1 cZ)
  have K0:aC w1 (w.heap.size+1) (dY []) 119:=vF
  have KZ:=Lib.hid K0
  have bP:Below w.heap.size w w1:=aD
  have hz1:=hb1.size
  simp only[World.size_alloc] at hz1
  clear K0 hb1
  go_wp2_with fail
  with_reducible refine(HK.out _ bP).mono ?_
  rintro e w2 ⟨rfl,hb2⟩
  have hz2:=hb2.size
  have hbw2:=bP.trans (hb2.mono bP.size)
  have K2:=Lib.hid (K1.out.below hb2 K1.out.lt)
  have KY:=Lib.hid (KZ.out.below hb2 KZ.out.lt)
  obtain⟨hc1,hf1,hl1,hn1,hm1⟩:=K2.out.rules
  have cA:=(hc1 a).trans gA
  have cB:=(hc1 b).trans gB
  have cP:=(hc1 8).trans gP
  clear hc1 hb2 K1 KZ
  go_wp2_with fail
  have a8:a<8:=ah
  have b8:b<8:=ah
  have a8':(a:Int)<8:=ah
  have b8':(b:Int)<8:=ah
  go_region
  go_wp2_with fail
  go_region
  go_wp2_with fail
  with_reducible refine(HM.out _).mono ?_
  rintro e w3 ⟨rfl,hb3⟩
  have KI:=Lib.hid (((aC.new w2 #[.int .i64 16,.int .i64 a,.int .i64 b,.int .i64 bZ] 250).drew.drew).below hb3 aI)
  exact aeL
 ·have eb:(e2 !=0)=true:=by simp[h]
  refine⟨c,m,2,hc,rfl,.inr rfl,?_⟩
  clear WV OH wt hsv h
  intro w hT
  have hcl:=hc.len
  have gP:=aV c (i:=8) ah
  have gA:=aV c (i:=a) ah
  have gB:=aV c (i:=b) ah
  have wA:cK (c.getD a 0):=hc.w _ bK
  have wB:cK (c.getD b 0):=hc.w _ bK
  have wP:cK (c.getD 8 0):=hc.w _ bK
  have HL:=Lib.hid (fun W=>kE m (c.getD 8 0) W wP hm)
  have hwd:=qy m (c.getD 8 0)
  have Ec:=Lib.hid (fun W (h:Below w.heap.size w W)=>hT.below h)
  have HK:=Lib.hid (fun W (h:Below w.heap.size w W)=>ko (fH m (c.getD 8 0)).1 W (hT.below h) hwd)
  rw[ht] at HK
  generalize hpc:c.getD 8 0=pc at*
  generalize hra:c.getD a 0=ra at*
  generalize hrb:c.getD b 0=rb at*
  generalize fH m pc=l at*
  obtain⟨wd,e1⟩:=l
  dsimp only at he HL HK
  have hiv:=kU 16 a b bZ
  clear hT ht
  subst he
  go_enter Tryz.func113,Tryz.ntmps113
  go_wp2_with fail
  with_reducible refine(HL.out _).mono ?_
  rintro e w1 ⟨rfl,hb1⟩
  have K1:=Lib.hid (((aC.new w (dY c) 119).alloc _).below hb1 cZ)
  have K0:aC w1 (w.heap.size+1) (dY []) 119:=vF
  have KZ:=Lib.hid K0
  have bP:Below w.heap.size w w1:=aD
  have hz1:=hb1.size
  simp only[World.size_alloc] at hz1
  clear K0 hb1
  go_wp2_with fail
  with_reducible refine(HK.out _ bP).mono ?_
  rintro e w2 ⟨rfl,hb2⟩
  have hz2:=hb2.size
  have hbw2:=bP.trans (hb2.mono bP.size)
  have K2:=Lib.hid (K1.out.below hb2 K1.out.lt)
  have KY:=Lib.hid (KZ.out.below hb2 KZ.out.lt)
  obtain⟨hc1,hf1,hl1,hn1,hm1⟩:=K2.out.rules
  have cA:=(hc1 a).trans gA
  have cB:=(hc1 b).trans gB
  have cP:=(hc1 8).trans gP
  clear hc1 hb2 K1 KZ
  go_wp2_with fail
  have a8:a<8:=ah
  have b8:b<8:=ah
  have a8':(a:Int)<8:=ah
  have b8':(b:Int)<8:=ah
  go_region
  go_wp2_with fail
  go_region
  go_wp2_with fail
  with_reducible refine(HM.out _).mono ?_
  rintro e w3 ⟨rfl,hb3⟩
  have KI:=Lib.hid (((aC.new w2 #[.int .i64 16,.int .i64 a,.int .i64 b,.int .i64 bZ] 250).drew.drew).below hb3 aI)
  exact abl
theorem ab5(c:List Int)(m:ByteArray)(a b:Nat)(bZ:Int)(hc:fO c)(hm:m.size≤9223372036854775807)(he:(fH m (c.getD 8 0)).2=0)(ht:fZ (fH m (c.getD 8 0)).1=((15,(a:Int),(b:Int),bZ),0))(ha:a<8)(hb:b<8):
  ∃c' m' t,fO c'∧m'.size=m.size∧(t=0∨t=2)∧StepT c m c' m' t:=by
 have hcl0:=hc.len
 have WV:cK (c.getD 8 0):=hc.w _ bK
 have OH:cK (c.getD a 0):=hc.w _ bK
 have wt:cK ((c.getD b 0+bZ)%4294967296):=⟨ah,ah⟩
 have HM:=Lib.hid (fun W=>UW m ((c.getD b 0+bZ)%4294967296) (c.getD a 0) W wt OH hm)
 have hsv:=NK m ((c.getD b 0+bZ)%4294967296) (c.getD a 0) wt.1
 generalize(BS m ((c.getD b 0+bZ)%4294967296) (c.getD a 0))=r at*
 obtain⟨v,e2⟩:=r
 dsimp only at HM hsv
 by_cases h:e2=0
 ·subst h
  refine⟨(c.set a (c.getD a 0)).set 8 ((c.getD 8 0+4)%4294967296),v,0,(hc.set a OH).set 8 ⟨ah,ah⟩,hsv,.inl rfl,?_⟩
  clear WV OH wt hsv
  intro w hT
  have hcl:=hc.len
  have gP:=aV c (i:=8) ah
  have gA:=aV c (i:=a) ah
  have gB:=aV c (i:=b) ah
  have wA:cK (c.getD a 0):=hc.w _ bK
  have wB:cK (c.getD b 0):=hc.w _ bK
  have wP:cK (c.getD 8 0):=hc.w _ bK
  have HL:=Lib.hid (fun W=>kE m (c.getD 8 0) W wP hm)
  have hwd:=qy m (c.getD 8 0)
  have Ec:=Lib.hid (fun W (h:Below w.heap.size w W)=>hT.below h)
  have HK:=Lib.hid (fun W (h:Below w.heap.size w W)=>ko (fH m (c.getD 8 0)).1 W (hT.below h) hwd)
  rw[ht] at HK
  generalize hpc:c.getD 8 0=pc at*
  generalize hra:c.getD a 0=ra at*
  generalize hrb:c.getD b 0=rb at*
  generalize fH m pc=l at*
  obtain⟨wd,e1⟩:=l
  dsimp only at he HL HK
  have hiv:=kU 15 a b bZ
  clear hT ht
  subst he
  go_enter Tryz.func113,Tryz.ntmps113
  go_wp2_with fail
  with_reducible refine(HL.out _).mono ?_
  rintro e w1 ⟨rfl,hb1⟩
  have K1:=Lib.hid (((aC.new w (dY c) 119).alloc _).below hb1 cZ)
  have K0:aC w1 (w.heap.size+1) (dY []) 119:=vF
  have KZ:=Lib.hid K0
  have bP:Below w.heap.size w w1:=aD
  have hz1:=hb1.size
  simp only[World.size_alloc] at hz1
  clear K0 hb1
  go_wp2_with fail
  with_reducible refine(HK.out _ bP).mono ?_
  rintro e w2 ⟨rfl,hb2⟩
  have hz2:=hb2.size
  have hbw2:=bP.trans (hb2.mono bP.size)
  have K2:=Lib.hid (K1.out.below hb2 K1.out.lt)
  have KY:=Lib.hid (KZ.out.below hb2 KZ.out.lt)
  obtain⟨hc1,hf1,hl1,hn1,hm1⟩:=K2.out.rules
  have cA:=(hc1 a).trans gA
  have cB:=(hc1 b).trans gB
  have cP:=(hc1 8).trans gP
  clear hc1 hb2 K1 KZ
  go_wp2_with fail
  have a8:a<8:=ah
  have b8:b<8:=ah
  have a8':(a:Int)<8:=ah
  have b8':(b:Int)<8:=ah
  go_region
  go_wp2_with fail
  go_region
  go_wp2_with fail
  with_reducible refine(HM.out _).mono ?_
  rintro e w3 ⟨rfl,hb3⟩
  have KI:=Lib.hid (((aC.new w2 #[.int .i64 15,.int .i64 a,.int .i64 b,.int .i64 bZ] 250).drew.drew).below hb3 aI)
  exact aeM
 ·have eb:(e2 !=0)=true:=by simp[h]
  refine⟨c,m,2,hc,rfl,.inr rfl,?_⟩
  clear WV OH wt hsv h
  intro w hT
  have hcl:=hc.len
  have gP:=aV c (i:=8) ah
  have gA:=aV c (i:=a) ah
  have gB:=aV c (i:=b) ah
  have wA:cK (c.getD a 0):=hc.w _ bK
  have wB:cK (c.getD b 0):=hc.w _ bK
  have wP:cK (c.getD 8 0):=hc.w _ bK
  have HL:=Lib.hid (fun W=>kE m (c.getD 8 0) W wP hm)
  have hwd:=qy m (c.getD 8 0)
  have Ec:=Lib.hid (fun W (h:Below w.heap.size w W)=>hT.below h)
  have HK:=Lib.hid (fun W (h:Below w.heap.size w W)=>ko (fH m (c.getD 8 0)).1 W (hT.below h) hwd)
  rw[ht] at HK
  generalize hpc:c.getD 8 0=pc at*
  generalize hra:c.getD a 0=ra at*
  generalize hrb:c.getD b 0=rb at*
  generalize fH m pc=l at*
  obtain⟨wd,e1⟩:=l
  dsimp only at he HL HK
  have hiv:=kU 15 a b bZ
  clear hT ht
  subst he
  go_enter Tryz.func113,Tryz.ntmps113
  go_wp2_with fail
  with_reducible refine(HL.out _).mono ?_
  rintro e w1 ⟨rfl,hb1⟩
  have K1:=Lib.hid (((aC.new w (dY c) 119).alloc _).below hb1 cZ)
  have K0:aC w1 (w.heap.size+1) (dY []) 119:=vF
  have KZ:=Lib.hid K0
  have bP:Below w.heap.size w w1:=aD
  have hz1:=hb1.size
  simp only[World.size_alloc] at hz1
  clear K0 hb1
  go_wp2_with fail
  with_reducible refine(HK.out _ bP).mono ?_
  rintro e w2 ⟨rfl,hb2⟩
  have hz2:=hb2.size
  have hbw2:=bP.trans (hb2.mono bP.size)
  have K2:=Lib.hid (K1.out.below hb2 K1.out.lt)
  have KY:=Lib.hid (KZ.out.below hb2 KZ.out.lt)
  obtain⟨hc1,hf1,hl1,hn1,hm1⟩:=K2.out.rules
  have cA:=(hc1 a).trans gA
  have cB:=(hc1 b).trans gB
  have cP:=(hc1 8).trans gP
  clear hc1 hb2 K1 KZ
  go_wp2_with fail
  have a8:a<8:=ah
  have b8:b<8:=ah
  have a8':(a:Int)<8:=ah
  have b8':(b:Int)<8:=ah
  go_region
  go_wp2_with fail
  go_region
  go_wp2_with fail
  with_reducible refine(HM.out _).mono ?_
  rintro e w3 ⟨rfl,hb3⟩
  have KI:=Lib.hid (((aC.new w2 #[.int .i64 15,.int .i64 a,.int .i64 b,.int .i64 bZ] 250).drew.drew).below hb3 aI)
  exact abl
theorem ab3(c:List Int)(m:ByteArray)(a b:Nat)(bZ:Int)(hc:fO c)(hm:m.size≤9223372036854775807)(he:(fH m (c.getD 8 0)).2=0)(ht:fZ (fH m (c.getD 8 0)).1=((17,(a:Int),(b:Int),bZ),0))(ha:a<8)(hb:b<8):
  ∃c' m' t,fO c'∧m'.size=m.size∧(t=0∨t=2)∧StepT c m c' m' t:=by
 have hcl0:=hc.len
 have WV:cK (c.getD 8 0):=hc.w _ bK
 have OH:cK (c.getD a 0):=hc.w _ bK
 have wt:cK ((c.getD b 0+bZ)%4294967296):=⟨ah,ah⟩
 have HM:=Lib.hid (fun W=>QZ m ((c.getD b 0+bZ)%4294967296) (c.getD a 0) W wt OH hm)
 have hsv:=Vm m ((c.getD b 0+bZ)%4294967296) (c.getD a 0) wt.1
 generalize(lW m ((c.getD b 0+bZ)%4294967296) (c.getD a 0))=r at*
 obtain⟨v,e2⟩:=r
 dsimp only at HM hsv
 by_cases h:e2=0
 ·subst h
  refine⟨(c.set a (c.getD a 0)).set 8 ((c.getD 8 0+4)%4294967296),v,0,(hc.set a OH).set 8 ⟨ah,ah⟩,hsv,.inl rfl,?_⟩
  clear WV OH wt hsv
  intro w hT
  have hcl:=hc.len
  have gP:=aV c (i:=8) ah
  have gA:=aV c (i:=a) ah
  have gB:=aV c (i:=b) ah
  have wA:cK (c.getD a 0):=hc.w _ bK
  have wB:cK (c.getD b 0):=hc.w _ bK
  have wP:cK (c.getD 8 0):=hc.w _ bK
  have HL:=Lib.hid (fun W=>kE m (c.getD 8 0) W wP hm)
  have hwd:=qy m (c.getD 8 0)
  have Ec:=Lib.hid (fun W (h:Below w.heap.size w W)=>hT.below h)
  have HK:=Lib.hid (fun W (h:Below w.heap.size w W)=>ko (fH m (c.getD 8 0)).1 W (hT.below h) hwd)
  rw[ht] at HK
  generalize hpc:c.getD 8 0=pc at*
  generalize hra:c.getD a 0=ra at*
  generalize hrb:c.getD b 0=rb at*
  generalize fH m pc=l at*
  obtain⟨wd,e1⟩:=l
  dsimp only at he HL HK
  have hiv:=kU 17 a b bZ
  clear hT ht
  subst he
  go_enter Tryz.func113,Tryz.ntmps113
  go_wp2_with fail
  with_reducible refine(HL.out _).mono ?_
  rintro e w1 ⟨rfl,hb1⟩
  have K1:=Lib.hid (((aC.new w (dY c) 119).alloc _).below hb1 cZ)
  have K0:aC w1 (w.heap.size+1) (dY []) 119:=vF
  have KZ:=Lib.hid K0
  have bP:Below w.heap.size w w1:=aD
  have hz1:=hb1.size
  simp only[World.size_alloc] at hz1
  clear K0 hb1
  go_wp2_with fail
  with_reducible refine(HK.out _ bP).mono ?_
  rintro e w2 ⟨rfl,hb2⟩
  have hz2:=hb2.size
  have hbw2:=bP.trans (hb2.mono bP.size)
  have K2:=Lib.hid (K1.out.below hb2 K1.out.lt)
  have KY:=Lib.hid (KZ.out.below hb2 KZ.out.lt)
  obtain⟨hc1,hf1,hl1,hn1,hm1⟩:=K2.out.rules
  have cA:=(hc1 a).trans gA
  have cB:=(hc1 b).trans gB
  have cP:=(hc1 8).trans gP
  clear hc1 hb2 K1 KZ
  go_wp2_with fail
  have a8:a<8:=ah
  have b8:b<8:=ah
  have a8':(a:Int)<8:=ah
  have b8':(b:Int)<8:=ah
  go_region
  go_wp2_with fail
  go_region
  go_wp2_with fail
  with_reducible refine(HM.out _).mono ?_
  rintro e w3 ⟨rfl,hb3⟩
  have KI:=Lib.hid (((aC.new w2 #[.int .i64 17,.int .i64 a,.int .i64 b,.int .i64 bZ] 250).drew.drew).below hb3 aI)
  exact aeM
 ·have eb:(e2 !=0)=true:=by simp[h]
  refine⟨c,m,2,hc,rfl,.inr rfl,?_⟩
  clear WV OH wt hsv h
  intro w hT
  have hcl:=hc.len
  have gP:=aV c (i:=8) ah
  have gA:=aV c (i:=a) ah
  have gB:=aV c (i:=b) ah
  have wA:cK (c.getD a 0):=hc.w _ bK
  have wB:cK (c.getD b 0):=hc.w _ bK
  have wP:cK (c.getD 8 0):=hc.w _ bK
  have HL:=Lib.hid (fun W=>kE m (c.getD 8 0) W wP hm)
  have hwd:=qy m (c.getD 8 0)
  have Ec:=Lib.hid (fun W (h:Below w.heap.size w W)=>hT.below h)
  have HK:=Lib.hid (fun W (h:Below w.heap.size w W)=>ko (fH m (c.getD 8 0)).1 W (hT.below h) hwd)
  rw[ht] at HK
  generalize hpc:c.getD 8 0=pc at*
  generalize hra:c.getD a 0=ra at*
  generalize hrb:c.getD b 0=rb at*
  generalize fH m pc=l at*
  obtain⟨wd,e1⟩:=l
  dsimp only at he HL HK
  have hiv:=kU 17 a b bZ
  clear hT ht
  subst he
  go_enter Tryz.func113,Tryz.ntmps113
  go_wp2_with fail
  with_reducible refine(HL.out _).mono ?_
  rintro e w1 ⟨rfl,hb1⟩
  have K1:=Lib.hid (((aC.new w (dY c) 119).alloc _).below hb1 cZ)
  have K0:aC w1 (w.heap.size+1) (dY []) 119:=vF
  have KZ:=Lib.hid K0
  have bP:Below w.heap.size w w1:=aD
  have hz1:=hb1.size
  simp only[World.size_alloc] at hz1
  clear K0 hb1
  go_wp2_with fail
  with_reducible refine(HK.out _ bP).mono ?_
  rintro e w2 ⟨rfl,hb2⟩
  have hz2:=hb2.size
  have hbw2:=bP.trans (hb2.mono bP.size)
  have K2:=Lib.hid (K1.out.below hb2 K1.out.lt)
  have KY:=Lib.hid (KZ.out.below hb2 KZ.out.lt)
  obtain⟨hc1,hf1,hl1,hn1,hm1⟩:=K2.out.rules
  have cA:=(hc1 a).trans gA
  have cB:=(hc1 b).trans gB
  have cP:=(hc1 8).trans gP
  clear hc1 hb2 K1 KZ
  go_wp2_with fail
  have a8:a<8:=ah
  have b8:b<8:=ah
  have a8':(a:Int)<8:=ah
  have b8':(b:Int)<8:=ah
  go_region
  go_wp2_with fail
  go_region
  go_wp2_with fail
  with_reducible refine(HM.out _).mono ?_
  rintro e w3 ⟨rfl,hb3⟩
  have KI:=Lib.hid (((aC.new w2 #[.int .i64 17,.int .i64 a,.int .i64 b,.int .i64 bZ] 250).drew.drew).below hb3 aI)
  exact abl
theorem ab2(c:List Int)(m:ByteArray)(a b:Nat)(bZ:Int)(hc:fO c)(hm:m.size≤9223372036854775807)(he:(fH m (c.getD 8 0)).2=0)(ht:fZ (fH m (c.getD 8 0)).1=((24,(a:Int),(b:Int),bZ),0))(ha:a<8)(hb:b<8):
  StepT c m (c.set 8 ((c.getD 8 0+4)%4294967296)) m 3:=by
 intro w hT
 have hcl:=hc.len
 have gP:=aV c (i:=8) ah
 have gA:=aV c (i:=a) ah
 have gB:=aV c (i:=b) ah
 have wA:cK (c.getD a 0):=hc.w _ bK
 have wB:cK (c.getD b 0):=hc.w _ bK
 have wP:cK (c.getD 8 0):=hc.w _ bK
 have HL:=Lib.hid (fun W=>kE m (c.getD 8 0) W wP hm)
 have hwd:=qy m (c.getD 8 0)
 have Ec:=Lib.hid (fun W (h:Below w.heap.size w W)=>hT.below h)
 have HK:=Lib.hid (fun W (h:Below w.heap.size w W)=>ko (fH m (c.getD 8 0)).1 W (hT.below h) hwd)
 rw[ht] at HK
 generalize hpc:c.getD 8 0=pc at*
 generalize hra:c.getD a 0=ra at*
 generalize hrb:c.getD b 0=rb at*
 generalize fH m pc=l at*
 obtain⟨wd,e1⟩:=l
 dsimp only at he HL HK
 have hiv:=kU 24 a b bZ
 clear hT ht
 subst he
 go_enter Tryz.func113,Tryz.ntmps113
 go_wp2_with fail
 with_reducible refine(HL.out _).mono ?_
 rintro e w1 ⟨rfl,hb1⟩
 have K1:=Lib.hid (((aC.new w (dY c) 119).alloc _).below hb1 cZ)
 have K0:aC w1 (w.heap.size+1) (dY []) 119:=vF
 have KZ:=Lib.hid K0
 have bP:Below w.heap.size w w1:=aD
 have hz1:=hb1.size
 simp only[World.size_alloc] at hz1
 clear K0 hb1
 go_wp2_with fail
 with_reducible refine(HK.out _ bP).mono ?_
 rintro e w2 ⟨rfl,hb2⟩
 have hz2:=hb2.size
 have hbw2:=bP.trans (hb2.mono bP.size)
 have K2:=Lib.hid (K1.out.below hb2 K1.out.lt)
 have KY:=Lib.hid (KZ.out.below hb2 KZ.out.lt)
 obtain⟨hc1,hf1,hl1,hn1,hm1⟩:=K2.out.rules
 have cA:=(hc1 a).trans gA
 have cB:=(hc1 b).trans gB
 have cP:=(hc1 8).trans gP
 clear hc1 hb2 K1 KZ
 go_wp2_with fail
 have a8:a<8:=ah
 have b8:b<8:=ah
 have a8':(a:Int)<8:=ah
 have b8':(b:Int)<8:=ah
 go_region
 go_wp2_with fail
 go_region
 go_wp2_with(first|((with_reducible refine bS 119 ?_);(generalize bN:World.drew _=w5);(have K5:aC w5 w.heap.size (dY (c.set 8 ((pc+4)%4294967296))) 119:=(by rw[←bN];exact(((K2.out.set 8 _).alloc _).drew.drew).cast (by rw[ug hcl ah])));(have K6:aC w5 (w.heap.size+1) (dY []) 119:=(by(have kk:=KY.out);rw[←bN];exact bx));(have hb5:Below w.heap.size w w5:=bM);(generalize hC5:(c.set 8 ((pc+4)%4294967296):List Int)=c5 at K5);(have HK5:=Lib.hid K5);(have Xe:=Lib.hid K6);(clear bN K5 K6 cP cA cB);(refine aJ rfl 119 _ rfl (dY c5) iC (gQ c5) HK5.out ?_ ?_;(exact aG)))|((with_reducible refine bO 119 ?_);(refine aN rfl 119 _ _ rfl Xe.out (jm c5) iC (gQ c5) ?_ _ (pQ _ _) ?_ ?_ ?_);(exact CZ);(exact mI);(exact mI);(intro w9 Bp lg Lm nK;(have Bz:=hb5.trans (Below.mono nK (Nat.le_add_right w.heap.size 1)));(have GZ:=Bp.rules.1);(rw[gK] at GZ)))|fail)
 rw[hC5]
 exact bodyPost_ret (v:= .tuple #[jm c5,.string m,.int .i64 3]) XZ rfl ⟨rfl,Bz⟩
theorem UY(op:Int)(c c2:List Int)(m:ByteArray)(a b:Nat)(bZ:Int)(hc:fO c)(hm:m.size≤9223372036854775807)(he:(fH m (c.getD 8 0)).2=0)(ht:fZ (fH m (c.getD 8 0)).1=((op,(a:Int),(b:Int),bZ),0))(ha:a<8)(hb:b<8)
  (h14:op≠14)(h15:op≠15)(h16:op≠16)(Ls:op≠17)(h24:op≠24)(hd:jg op a b bZ c c2):
  StepT c m c2 m 0:=by
 have e14:(op==14)=false:=by simp[h14]
 have e15:(op==15)=false:=by simp[h15]
 have e16:(op==16)=false:=by simp[h16]
 have e17:(op==17)=false:=by simp[Ls]
 have e24:(op==24)=false:=by simp[h24]
 unfold jg at hd
 have HD:=Lib.hid hd
 clear h14 h15 h16 Ls h24 hd
 intro w hT
 have hcl:=hc.len
 have gP:=aV c (i:=8) ah
 have gA:=aV c (i:=a) ah
 have gB:=aV c (i:=b) ah
 have wA:cK (c.getD a 0):=hc.w _ bK
 have wB:cK (c.getD b 0):=hc.w _ bK
 have wP:cK (c.getD 8 0):=hc.w _ bK
 have HL:=Lib.hid (fun W=>kE m (c.getD 8 0) W wP hm)
 have hwd:=qy m (c.getD 8 0)
 have Ec:=Lib.hid (fun W (h:Below w.heap.size w W)=>hT.below h)
 have HK:=Lib.hid (fun W (h:Below w.heap.size w W)=>ko (fH m (c.getD 8 0)).1 W (hT.below h) hwd)
 rw[ht] at HK
 generalize hpc:c.getD 8 0=pc at*
 generalize hra:c.getD a 0=ra at*
 generalize hrb:c.getD b 0=rb at*
 generalize fH m pc=l at*
 obtain⟨wd,e1⟩:=l
 dsimp only at he HL HK
 have hiv:=kU op a b bZ
 clear hT ht
 subst he
 go_enter Tryz.func113,Tryz.ntmps113
 go_wp2_with fail
 with_reducible refine(HL.out _).mono ?_
 rintro e w1 ⟨rfl,hb1⟩
 have K1:=Lib.hid (((aC.new w (dY c) 119).alloc _).below hb1 cZ)
 have K0:aC w1 (w.heap.size+1) (dY []) 119:=vF
 have KZ:=Lib.hid K0
 have bP:Below w.heap.size w w1:=aD
 have hz1:=hb1.size
 simp only[World.size_alloc] at hz1
 clear K0 hb1
 go_wp2_with fail
 with_reducible refine(HK.out _ bP).mono ?_
 rintro e w2 ⟨rfl,hb2⟩
 have hz2:=hb2.size
 have hbw2:=bP.trans (hb2.mono bP.size)
 have K2:=Lib.hid (K1.out.below hb2 K1.out.lt)
 have KY:=Lib.hid (KZ.out.below hb2 KZ.out.lt)
 obtain⟨hc1,hf1,hl1,hn1,hm1⟩:=K2.out.rules
 have cA:=(hc1 a).trans gA
 have cB:=(hc1 b).trans gB
 have cP:=(hc1 8).trans gP
 clear hc1 hb2 K1 KZ
 go_wp2_with fail
 have a8:a<8:=ah
 have b8:b<8:=ah
 have a8':(a:Int)<8:=ah
 have b8':(b:Int)<8:=ah
 go_region
 go_wp2_with fail
 go_region
 go_wp2_with(first|((with_reducible refine bS 119 ?_);(refine aJ rfl 119 _ rfl (dY c) iC (gQ c) ((K2.out.alloc _).drew.drew) ?_ ?_;(exact aG)))|fail)
 with_reducible refine(HD.out _ (Ec.out _ ?_)).mono ?_
 focus exact bl
 rintro e w3 ⟨rfl,hb3⟩
 have jO:Below w2.heap.size w2 w3:=aD
 have fJ:=hbw2.trans (jO.mono hbw2.size)
 have K3:=Lib.hid (K2.out.below jO K2.out.lt)
 have WS:=Lib.hid (KY.out.below jO KY.out.lt)
 have hsz0:=b_ c
 have hsz1:=b_ c2
 have hsz2:=b_ []
 have hne:¬(w.heap.size+1=w.heap.size):=ah
 clear cA cB cP hb3 jO K2 KY
 go_wp2_with(first|((with_reducible refine bS 119 ?_);(refine aJ rfl 119 _ rfl (dY c2) iC (gQ c2) K9.out ?_ ?_;(exact aG)))|((with_reducible refine bO 119 ?_);(refine aN rfl 119 _ _ rfl K3.out (jm c2) iC (gQ c2) ?_ _ (pQ _ _) ?_ ?_ ?_);(exact CZ);(exact mI);(exact mI);(intro w8 Xb Ot OJ jU;(have K9:=Lib.hid Xb);(have KY9:=Lib.hid (WS.out.grown Ot aI));(have Xv:=fJ.trans jU);(clear Xb)))|((with_reducible refine bO 119 ?_);(refine aN rfl 119 _ _ rfl KY9.out (jm c2) iC (gQ c2) ?_ _ (pQ _ _) ?_ ?_ ?_);(exact CZ);(exact mI);(exact mI);(intro w9 Bp lg Lm nK;(have Bz:=Xv.trans (Below.mono nK (Nat.le_add_right w.heap.size 1)));(have GZ:=Bp.rules.1);(rw[gK] at GZ)))|fail)
 exact bodyPost_ret (v:= .tuple #[jm c2,.string m,.int .i64 0]) (by rw[show jm c2=.agg (dY c2) from rfl,gK c2];simp[results,Tryz.results113,go_sem,GZ]) rfl ⟨rfl,Bz⟩
theorem step_take(c:List Int)(m:ByteArray)(hc:fO c)(hm:m.size≤9223372036854775807)(he:(fH m (c.getD 8 0)).2=0)(ht:(fZ (fH m (c.getD 8 0)).1).2≠0):StepT c m c m 1:=by
 intro w hT
 have hcl:=hc.len
 have gP:=aV c (i:=8) ah
 have wP:cK (c.getD 8 0):=hc.w _ bK
 have HL:=Lib.hid (fun W=>kE m (c.getD 8 0) W wP hm)
 have hwd:=qy m (c.getD 8 0)
 have HK:=Lib.hid (fun W (h:Below w.heap.size w W)=>ko (fH m (c.getD 8 0)).1 W (hT.below h) hwd)
 generalize c.getD 8 0=pc at*
 generalize fH m pc=l at*
 obtain⟨wd,e1⟩:=l
 dsimp only at he HL HK ht
 generalize fZ wd=tk at*
 obtain⟨⟨op,a,b,bZ⟩,e2⟩:=tk
 dsimp only at HK ht
 subst he
 have hiv:=kU op a b bZ
 have e2b:(e2 !=0)=true:=by simp[ht]
 clear hT hc ht
 go_enter Tryz.func113,Tryz.ntmps113
 go_wp2_with fail
 with_reducible refine(HL.out _).mono ?_
 rintro e w1 ⟨rfl,hb1⟩
 have K1:=Lib.hid (((aC.new w (dY c) 119).alloc _).below hb1 cZ)
 have K0:aC w1 (w.heap.size+1) (dY []) 119:=vF
 have KZ:=Lib.hid K0
 have bP:Below w.heap.size w w1:=aD
 have hz1:=hb1.size
 simp only[World.size_alloc] at hz1
 clear K0 hb1
 go_wp2_with fail
 with_reducible refine(HK.out _ bP).mono ?_
 rintro e w2 ⟨rfl,hb2⟩
 have hz2:=hb2.size
 have hbw2:=bP.trans (hb2.mono bP.size)
 have K2:=Lib.hid (K1.out.below hb2 K1.out.lt)
 have KY:=Lib.hid (KZ.out.below hb2 KZ.out.lt)
 have fJ:Below w.heap.size w (w2.alloc (.cells #[.int .i64 op,.int .i64 a,.int .i64 b,.int .i64 bZ] 250)):=aD
 go_wp2_with(first|((with_reducible refine bS 119 ?_);(refine aJ rfl 119 _ rfl (dY c) iC (gQ c) (K2.out.alloc _) ?_ ?_;(exact aG)))|((with_reducible refine bO 119 ?_);(refine aN rfl 119 _ _ rfl (KY.out.alloc _) (jm c) iC (gQ c) ?_ _ (pQ _ _) ?_ ?_ ?_);(exact CZ);(exact mI);(exact mI);(intro w9 Bp lg Lm nK;(have Bz:=fJ.trans (Below.mono nK (Nat.le_add_right w.heap.size 1)));(have GZ:=Bp.rules.1);(rw[gK] at GZ)))|fail)
 exact bodyPost_ret (v:= .tuple #[jm c,.string m,.int .i64 1]) XY rfl ⟨rfl,Bz⟩
theorem Ee(c:List Int)(m:ByteArray)(hc:fO c)(hm:m.size≤9223372036854775807):∃c' m' t,fO c'∧m'.size=m.size∧(t=0∨t=1∨t=2∨t=3)∧StepT c m c' m' t:=by
 by_cases he:(fH m (c.getD 8 0)).2=0
 rotate_left
 ·exact⟨c,m,2,hc,rfl,aI,UZ c m hc hm he⟩
 by_cases ht:(fZ (fH m (c.getD 8 0)).1).2=0
 rotate_left
 ·exact⟨c,m,1,hc,rfl,aI,step_take c m hc hm he ht⟩
 have hI:=ZV ht
 have hM:=UR ht
 obtain⟨tk,htk⟩:∃tk,tk=fZ (fH m (c.getD 8 0)).1:=⟨_,rfl⟩
 rw[←htk] at ht hI hM
 obtain⟨⟨op,a,b,bZ⟩,e2⟩:=tk
 dsimp only at ht hI hM
 subst ht
 obtain⟨h1,h2,h3,h4,h5,h6,h7,h8⟩:=hI
 obtain⟨a,rfl⟩:∃n:Nat,a=n:=⟨a.toNat,ah⟩
 obtain⟨b,rfl⟩:∃n:Nat,b=n:=⟨b.toNat,ah⟩
 have f:(∃c' m' t,fO c'∧m'.size=m.size∧(t=0∨t=2)∧StepT c m c' m' t)→∃c' m' t,fO c'∧m'.size=m.size∧(t=0∨t=1∨t=2∨t=3)∧StepT c m c' m' t:=
  fun⟨c',m',t,g1,g2,g3,g4⟩=>⟨c',m',t,g1,g2,ah,g4⟩
 by_cases h14:op=14
 ·subst h14;exact f (ab6 c m a b bZ hc hm he htk.symm ah ah)
 by_cases h15:op=15
 ·subst h15;exact f (ab5 c m a b bZ hc hm he htk.symm ah ah)
 by_cases h16:op=16
 ·subst h16;exact f (ab4 c m a b bZ hc hm he htk.symm ah ah)
 by_cases Ls:op=17
 ·subst Ls;exact f (ab3 c m a b bZ hc hm he htk.symm ah ah)
 by_cases h24:op=24
 ·subst h24;exact⟨_,m,3,hc.set 8 ⟨ah,ah⟩,rfl,aI,ab2 c m a b bZ hc hm he htk.symm ah ah⟩
 obtain⟨c',hc',hd⟩:=aaX op c a b bZ hc ⟨h1,h2,h3,h4,h5,h6,h7,h8⟩ hM h14 h15 h16 Ls h24
 exact⟨c',m,0,hc',rfl,aI,UY op c c' m a b bZ hc hm he htk.symm ah ah h14 h15 h16 Ls h24 hd⟩
open Classical in
noncomputable def jZ(c:List Int)(m:ByteArray):List Int×ByteArray×Int:=
 if h:fO c∧m.size≤9223372036854775807 then⟨(Ee c m h.1 h.2).choose,(Ee c m h.1 h.2).choose_spec.choose,(Ee c m h.1 h.2).choose_spec.choose_spec.choose⟩ else(c,m,0)
theorem vk{c:List Int}{m:ByteArray}(hc:fO c)(hm:m.size≤9223372036854775807):
  fO (jZ c m).1∧(jZ c m).2.1.size=m.size∧((jZ c m).2.2=0∨(jZ c m).2.2=1∨(jZ c m).2.2=2∨(jZ c m).2.2=3)∧StepT c m (jZ c m).1 (jZ c m).2.1 (jZ c m).2.2:=by
 unfold jZ
 rw[dif_pos ⟨hc,hm⟩]
 exact(Ee c m hc hm).choose_spec.choose_spec.choose_spec
end Go.Proofs.YtgmodehldmahiaaGreatDoor
