/- Part 32 of 53 of the proof of topAlone_and_topApart. Conditions: see each. -/
import Derived.Test.YtgmodehldmahiaaGreatDoorB14
import Derived.Test.YtgmodehldmahiaaGreatDoorB29
import Derived.Test.YtgmodehldmahiaaGreatDoorB30
import Derived.Test.YtgmodehldmahiaaGreatDoorB31
set_option linter.unusedVariables false
set_option linter.unusedSimpArgs false
set_option maxRecDepth 8192
set_option maxHeartbeats 40000000
namespace Go.Proofs.YtgmodehldmahiaaGreatDoor
open Go Go.RowKit Go.Tm
theorem aoM:dI 0:=⟨aC,aC⟩
def StepT(c:List Int)(m:ByteArray)(c':List Int)(m':ByteArray)(t:Int):Prop:=∀w:World,jw w→Calls Tryz.prog 113 #[kD c,.string m] w fun e w'=>e=.returned (.tuple #[kD c',.string m',.int .i64 t])∧Below w.heap.size w w'
theorem afp(op:Int)(c:List Int)(a b:Nat)(dD:Int)(hc:gU c)(hI:kW op a b dD)(hm:rU op a b dD=true)
  (h14:op≠14)(h15:op≠15)(UC:op≠16)(QB:op≠17)(h24:op≠24):∃c',gU c'∧jZ op a b dD c c':=by
 have h1:=hI.1
 have h2:=hI.2.1
 have key:∀{P:Int→Int→Prop},(∃x y:Int,dI x∧dI y∧P x y)→∃x y,dI x∧dI y∧P x y:=fun h=>h
 have f:(∃x y:Int,dI x∧dI y∧jZ op a b dD c ((c.set a x).set 8 y))→∃c',gU c'∧jZ op a b dD c c':=
  fun⟨x,y,hx,hy,h⟩=>⟨_,(hc.set a hx).set 8 hy,h⟩
 obtain rfl|rfl|rfl|rfl|rfl|rfl|rfl|rfl|rfl|rfl|rfl|rfl|rfl|rfl|rfl|rfl|rfl|rfl|rfl:op=1∨op=2∨op=3∨op=4∨op=5∨op=6∨op=7∨op=8∨op=9∨op=10∨op=11∨op=12∨op=13∨op=18∨op=19∨op=20∨op=21∨op=22∨op=23:=by omega
 ·exact f (alZ c a b dD hc hI hm)
 ·exact f (alY c a b dD hc hI hm)
 ·exact f (alX c a b dD hc hI hm)
 ·exact f (alW c a b dD hc hI hm)
 ·exact f (alU c a b dD hc hI hm)
 ·exact f (alT c a b dD hc hI hm)
 ·exact f (alS c a b dD hc hI hm)
 ·exact f (alR c a b dD hc hI hm)
 ·exact f (alQ c a b dD hc hI hm)
 ·exact f (ahp c a b dD hc hI hm)
 ·exact f (aho c a b dD hc hI hm)
 ·exact f (ahn c a b dD hc hI hm)
 ·exact f (ahm c a b dD hc hI hm)
 ·obtain⟨x,y,hx,hy,h⟩:=ahl c a b dD hc hI hm
  exact⟨_,hc.set 8 hy,h⟩
 ·exact f (ahk c a b dD hc hI hm)
 ·exact f (ahj c a b dD hc hI hm)
 ·exact f (ahi c a b dD hc hI hm)
 ·exact f (ahh c a b dD hc hI hm)
 ·exact f (ahg c a b dD hc hI hm)
theorem ZN{x:Int}(h:(ig x).2=0):rU (ig x).1.1 (ig x).1.2.1 (ig x).1.2.2.1 (ig x).1.2.2.2=true:=by
 unfold ig at*
 split
 ·rename_i h1;exact h1
 ·rename_i h1;rw[if_neg h1] at h;cases h
theorem ZR(c:List Int)(m:ByteArray)(hc:gU c)(hm:m.size≤9223372036854775807)(he:(gK m (c.getD 8 0)).2≠0):StepT c m c m 2:=by
 intro w hT
 have nO:=hc.len
 have gP:=aX c (i:=8) aj
 have wP:dI (c.getD 8 0):=hc.w _ bY
 have HL:=ah (fun W=>lW m (c.getD 8 0) W wP hm)
 generalize c.getD 8 0=pc at*
 generalize gK m pc=l at*
 obtain⟨wd,e1⟩:=l
 dsimp only at he HL
 have e1b:(e1 !=0)=true:=by simp[he]
 clear he hT hc
 go_enter Tryz.func113,Tryz.ntmps113
 go_wp2_with fail
 with_reducible refine(HL.out _).mono ?_
 rintro e w1 ⟨rfl,hb1⟩
 have K1:=ah (((aD.new w (fB c) 119).alloc _).below hb1 dF)
 have K0:aD w1 (w.heap.size+1) (fB []) 119:=y5
 have KZ:=ah K0
 obtain⟨hc0,hf0,hl0,hn0,hm0⟩:=K0.rules
 have bW:Below w.heap.size w w1:=aG
 clear K0 hc0
 go_wp2_with(first|((with_reducible refine cK 119 ?_);(refine aK rfl 119 _ rfl (fB c) jm (jg c) K1.out ?_ ?_;(exact aM)))|((with_reducible refine bS 119 ?_);(refine aR rfl 119 _ _ rfl KZ.out (kD c) jm (jg c) ?_ _ (sG _ _) ?_ ?_ ?_);(exact FZ);(exact tX);(exact tX);(intro w9 Eo nE Qr oN;have EC:=bW.trans (Below.mono oN (Nat.le_add_right w.heap.size 1));have LG:=Eo.rules.1;rw[iV] at LG))|fail)
 exact bodyPost_ret (v:= .tuple #[kD c,.string m,.int .i64 2]) acr rfl ⟨rfl,EC⟩
theorem ae_(m:ByteArray)(a:Int):dI (gK m a).1:=tN m a
theorem afv(m:ByteArray)(a:Int):dI (Nr m a).1:=by
 unfold Nr
 split
 ·exact⟨nG,nG⟩
 ·exact aoM
theorem agN(c:List Int)(m:ByteArray)(a b:Nat)(dD:Int)(hc:gU c)(hm:m.size≤9223372036854775807)(he:(gK m (c.getD 8 0)).2=0)(ht:ig (gK m (c.getD 8 0)).1=((14,(a:Int),(b:Int),dD),0))(ha:a<8)(hb:b<8):
  ∃c' m' t,gU c'∧m'.size=m.size∧(t=0∨t=2)∧StepT c m c' m' t:=by
 have akr:=hc.len
 have wP0:dI (c.getD 8 0):=hc.w _ bY
 have Ur:dI (c.getD a 0):=hc.w _ bY
 have wt:dI ((c.getD b 0+dD)%4294967296):=⟨aj,aj⟩
 have HM:=ah (fun W=>lW m ((c.getD b 0+dD)%4294967296) W wt hm)
 have xP:=ae_ m ((c.getD b 0+dD)%4294967296)
 generalize(gK m ((c.getD b 0+dD)%4294967296))=r at*
 obtain⟨v,e2⟩:=r
 dsimp only at HM xP
 by_cases h:e2=0
 ·subst h
  refine⟨(c.set a v).set 8 ((c.getD 8 0+4)%4294967296),m,0,(hc.set a xP).set 8 ⟨aj,aj⟩,rfl,.inl rfl,?_⟩
  clear wP0 Ur wt xP
  intro w hT
  have nO:=hc.len
  have gP:=aX c (i:=8) aj
  have gA:=aX c (i:=a) aj
  have gB:=aX c (i:=b) aj
  have wA:dI (c.getD a 0):=hc.w _ bY
  have wB:dI (c.getD b 0):=hc.w _ bY
  have wP:dI (c.getD 8 0):=hc.w _ bY
  have HL:=ah (fun W=>lW m (c.getD 8 0) W wP hm)
  have hwd:=tN m (c.getD 8 0)
  have Et:=ah (fun W (h:Below w.heap.size w W)=>hT.below h)
  have HK:=ah (fun W (h:Below w.heap.size w W)=>lV (gK m (c.getD 8 0)).1 W (hT.below h) hwd)
  rw[ht] at HK
  generalize Xx:c.getD 8 0=pc at*
  generalize hra:c.getD a 0=ra at*
  generalize hrb:c.getD b 0=rb at*
  generalize gK m pc=l at*
  obtain⟨wd,e1⟩:=l
  dsimp only at he HL HK
  have hiv:=ni 14 a b dD
  clear hT ht
  subst he
  go_enter Tryz.func113,Tryz.ntmps113
  go_wp2_with fail
  with_reducible refine(HL.out _).mono ?_
  rintro e w1 ⟨rfl,hb1⟩
  have K1:=ah (((aD.new w (fB c) 119).alloc _).below hb1 dF)
  have K0:aD w1 (w.heap.size+1) (fB []) 119:=y5
  have KZ:=ah K0
  have bW:Below w.heap.size w w1:=aG
  have hz1:=hb1.size
  simp only[World.size_alloc] at hz1
  clear K0 hb1
  go_wp2_with fail
  with_reducible refine(HK.out _ bW).mono ?_
  rintro e w2 ⟨rfl,hb2⟩
  have hz2:=hb2.size
  have bM:=bW.trans (hb2.mono bW.size)
  have K2:=ah (K1.out.below hb2 K1.out.lt)
  have KY:=ah (KZ.out.below hb2 KZ.out.lt)
  obtain⟨hc1,mF,jO,mE,oz⟩:=K2.out.rules
  have cA:=(hc1 a).trans gA
  have cB:=(hc1 b).trans gB
  have cP:=(hc1 8).trans gP
  clear hc1 hb2 K1 KZ
  go_wp2_with fail
  have a8:a<8:=aj
  have b8:b<8:=aj
  have a8':(a:Int)<8:=aj
  have b8':(b:Int)<8:=aj
  go_region
  go_wp2_with fail
  go_region
  go_wp2_with fail
  with_reducible refine(HM.out _).mono ?_
  rintro e w3 ⟨rfl,hb3⟩
  have KI:=ah (((aD.new w2 #[.int .i64 14,.int .i64 a,.int .i64 b,.int .i64 dD] 250).drew.drew).below hb3 aI)
  exact ai8
 ·have eb:(e2 !=0)=true:=by simp[h]
  refine⟨c,m,2,hc,rfl,.inr rfl,?_⟩
  clear wP0 Ur wt xP h
  intro w hT
  have nO:=hc.len
  have gP:=aX c (i:=8) aj
  have gA:=aX c (i:=a) aj
  have gB:=aX c (i:=b) aj
  have wA:dI (c.getD a 0):=hc.w _ bY
  have wB:dI (c.getD b 0):=hc.w _ bY
  have wP:dI (c.getD 8 0):=hc.w _ bY
  have HL:=ah (fun W=>lW m (c.getD 8 0) W wP hm)
  have hwd:=tN m (c.getD 8 0)
  have Et:=ah (fun W (h:Below w.heap.size w W)=>hT.below h)
  have HK:=ah (fun W (h:Below w.heap.size w W)=>lV (gK m (c.getD 8 0)).1 W (hT.below h) hwd)
  rw[ht] at HK
  generalize Xx:c.getD 8 0=pc at*
  generalize hra:c.getD a 0=ra at*
  generalize hrb:c.getD b 0=rb at*
  generalize gK m pc=l at*
  obtain⟨wd,e1⟩:=l
  dsimp only at he HL HK
  have hiv:=ni 14 a b dD
  clear hT ht
  subst he
  go_enter Tryz.func113,Tryz.ntmps113
  go_wp2_with fail
  with_reducible refine(HL.out _).mono ?_
  rintro e w1 ⟨rfl,hb1⟩
  have K1:=ah (((aD.new w (fB c) 119).alloc _).below hb1 dF)
  have K0:aD w1 (w.heap.size+1) (fB []) 119:=y5
  have KZ:=ah K0
  have bW:Below w.heap.size w w1:=aG
  have hz1:=hb1.size
  simp only[World.size_alloc] at hz1
  clear K0 hb1
  go_wp2_with fail
  with_reducible refine(HK.out _ bW).mono ?_
  rintro e w2 ⟨rfl,hb2⟩
  have hz2:=hb2.size
  have bM:=bW.trans (hb2.mono bW.size)
  have K2:=ah (K1.out.below hb2 K1.out.lt)
  have KY:=ah (KZ.out.below hb2 KZ.out.lt)
  obtain⟨hc1,mF,jO,mE,oz⟩:=K2.out.rules
  have cA:=(hc1 a).trans gA
  have cB:=(hc1 b).trans gB
  have cP:=(hc1 8).trans gP
  clear hc1 hb2 K1 KZ
  go_wp2_with fail
  have a8:a<8:=aj
  have b8:b<8:=aj
  have a8':(a:Int)<8:=aj
  have b8':(b:Int)<8:=aj
  go_region
  go_wp2_with fail
  go_region
  go_wp2_with fail
  with_reducible refine(HM.out _).mono ?_
  rintro e w3 ⟨rfl,hb3⟩
  have KI:=ah (((aD.new w2 #[.int .i64 14,.int .i64 a,.int .i64 b,.int .i64 dD] 250).drew.drew).below hb3 aI)
  exact afS
theorem agL(c:List Int)(m:ByteArray)(a b:Nat)(dD:Int)(hc:gU c)(hm:m.size≤9223372036854775807)(he:(gK m (c.getD 8 0)).2=0)(ht:ig (gK m (c.getD 8 0)).1=((16,(a:Int),(b:Int),dD),0))(ha:a<8)(hb:b<8):
  ∃c' m' t,gU c'∧m'.size=m.size∧(t=0∨t=2)∧StepT c m c' m' t:=by
 have akr:=hc.len
 have wP0:dI (c.getD 8 0):=hc.w _ bY
 have Ur:dI (c.getD a 0):=hc.w _ bY
 have wt:dI ((c.getD b 0+dD)%4294967296):=⟨aj,aj⟩
 have HM:=ah (fun W=>afu m ((c.getD b 0+dD)%4294967296) W wt hm)
 have xP:=afv m ((c.getD b 0+dD)%4294967296)
 generalize(Nr m ((c.getD b 0+dD)%4294967296))=r at*
 obtain⟨v,e2⟩:=r
 dsimp only at HM xP
 by_cases h:e2=0
 ·subst h
  refine⟨(c.set a v).set 8 ((c.getD 8 0+4)%4294967296),m,0,(hc.set a xP).set 8 ⟨aj,aj⟩,rfl,.inl rfl,?_⟩
  clear wP0 Ur wt xP
  intro w hT
  have nO:=hc.len
  have gP:=aX c (i:=8) aj
  have gA:=aX c (i:=a) aj
  have gB:=aX c (i:=b) aj
  have wA:dI (c.getD a 0):=hc.w _ bY
  have wB:dI (c.getD b 0):=hc.w _ bY
  have wP:dI (c.getD 8 0):=hc.w _ bY
  have HL:=ah (fun W=>lW m (c.getD 8 0) W wP hm)
  have hwd:=tN m (c.getD 8 0)
  have Et:=ah (fun W (h:Below w.heap.size w W)=>hT.below h)
  have HK:=ah (fun W (h:Below w.heap.size w W)=>lV (gK m (c.getD 8 0)).1 W (hT.below h) hwd)
  rw[ht] at HK
  generalize Xx:c.getD 8 0=pc at*
  generalize hra:c.getD a 0=ra at*
  generalize hrb:c.getD b 0=rb at*
  generalize gK m pc=l at*
  obtain⟨wd,e1⟩:=l
  dsimp only at he HL HK
  have hiv:=ni 16 a b dD
  clear hT ht
  subst he
  go_enter Tryz.func113,Tryz.ntmps113
  go_wp2_with fail
  with_reducible refine(HL.out _).mono ?_
  rintro e w1 ⟨rfl,hb1⟩
  have K1:=ah (((aD.new w (fB c) 119).alloc _).below hb1 dF)
  have K0:aD w1 (w.heap.size+1) (fB []) 119:=y5
  have KZ:=ah K0
  have bW:Below w.heap.size w w1:=aG
  have hz1:=hb1.size
  simp only[World.size_alloc] at hz1
  clear K0 hb1
  go_wp2_with fail
  with_reducible refine(HK.out _ bW).mono ?_
  rintro e w2 ⟨rfl,hb2⟩
  have hz2:=hb2.size
  have bM:=bW.trans (hb2.mono bW.size)
  have K2:=ah (K1.out.below hb2 K1.out.lt)
  have KY:=ah (KZ.out.below hb2 KZ.out.lt)
  obtain⟨hc1,mF,jO,mE,oz⟩:=K2.out.rules
  have cA:=(hc1 a).trans gA
  have cB:=(hc1 b).trans gB
  have cP:=(hc1 8).trans gP
  clear hc1 hb2 K1 KZ
  go_wp2_with fail
  have a8:a<8:=aj
  have b8:b<8:=aj
  have a8':(a:Int)<8:=aj
  have b8':(b:Int)<8:=aj
  go_region
  go_wp2_with fail
  go_region
  go_wp2_with fail
  with_reducible refine(HM.out _).mono ?_
  rintro e w3 ⟨rfl,hb3⟩
  have KI:=ah (((aD.new w2 #[.int .i64 16,.int .i64 a,.int .i64 b,.int .i64 dD] 250).drew.drew).below hb3 aI)
  exact ai8
 ·have eb:(e2 !=0)=true:=by simp[h]
  refine⟨c,m,2,hc,rfl,.inr rfl,?_⟩
  clear wP0 Ur wt xP h
  intro w hT
  have nO:=hc.len
  have gP:=aX c (i:=8) aj
  have gA:=aX c (i:=a) aj
  have gB:=aX c (i:=b) aj
  have wA:dI (c.getD a 0):=hc.w _ bY
  have wB:dI (c.getD b 0):=hc.w _ bY
  have wP:dI (c.getD 8 0):=hc.w _ bY
  have HL:=ah (fun W=>lW m (c.getD 8 0) W wP hm)
  have hwd:=tN m (c.getD 8 0)
  have Et:=ah (fun W (h:Below w.heap.size w W)=>hT.below h)
  have HK:=ah (fun W (h:Below w.heap.size w W)=>lV (gK m (c.getD 8 0)).1 W (hT.below h) hwd)
  rw[ht] at HK
  generalize Xx:c.getD 8 0=pc at*
  generalize hra:c.getD a 0=ra at*
  generalize hrb:c.getD b 0=rb at*
  generalize gK m pc=l at*
  obtain⟨wd,e1⟩:=l
  dsimp only at he HL HK
  have hiv:=ni 16 a b dD
  clear hT ht
  subst he
  go_enter Tryz.func113,Tryz.ntmps113
  go_wp2_with fail
  with_reducible refine(HL.out _).mono ?_
  rintro e w1 ⟨rfl,hb1⟩
  have K1:=ah (((aD.new w (fB c) 119).alloc _).below hb1 dF)
  have K0:aD w1 (w.heap.size+1) (fB []) 119:=y5
  have KZ:=ah K0
  have bW:Below w.heap.size w w1:=aG
  have hz1:=hb1.size
  simp only[World.size_alloc] at hz1
  clear K0 hb1
  go_wp2_with fail
  with_reducible refine(HK.out _ bW).mono ?_
  rintro e w2 ⟨rfl,hb2⟩
  have hz2:=hb2.size
  have bM:=bW.trans (hb2.mono bW.size)
  have K2:=ah (K1.out.below hb2 K1.out.lt)
  have KY:=ah (KZ.out.below hb2 KZ.out.lt)
  obtain⟨hc1,mF,jO,mE,oz⟩:=K2.out.rules
  have cA:=(hc1 a).trans gA
  have cB:=(hc1 b).trans gB
  have cP:=(hc1 8).trans gP
  clear hc1 hb2 K1 KZ
  go_wp2_with fail
  have a8:a<8:=aj
  have b8:b<8:=aj
  have a8':(a:Int)<8:=aj
  have b8':(b:Int)<8:=aj
  go_region
  go_wp2_with fail
  go_region
  go_wp2_with fail
  with_reducible refine(HM.out _).mono ?_
  rintro e w3 ⟨rfl,hb3⟩
  have KI:=ah (((aD.new w2 #[.int .i64 16,.int .i64 a,.int .i64 b,.int .i64 dD] 250).drew.drew).below hb3 aI)
  exact afS
theorem agM(c:List Int)(m:ByteArray)(a b:Nat)(dD:Int)(hc:gU c)(hm:m.size≤9223372036854775807)(he:(gK m (c.getD 8 0)).2=0)(ht:ig (gK m (c.getD 8 0)).1=((15,(a:Int),(b:Int),dD),0))(ha:a<8)(hb:b<8):
  ∃c' m' t,gU c'∧m'.size=m.size∧(t=0∨t=2)∧StepT c m c' m' t:=by
 have akr:=hc.len
 have wP0:dI (c.getD 8 0):=hc.w _ bY
 have Ur:dI (c.getD a 0):=hc.w _ bY
 have wt:dI ((c.getD b 0+dD)%4294967296):=⟨aj,aj⟩
 have HM:=ah (fun W=>ZP m ((c.getD b 0+dD)%4294967296) (c.getD a 0) W wt Ur hm)
 have xP:=Tv m ((c.getD b 0+dD)%4294967296) (c.getD a 0) wt.1
 generalize(EU m ((c.getD b 0+dD)%4294967296) (c.getD a 0))=r at*
 obtain⟨v,e2⟩:=r
 dsimp only at HM xP
 by_cases h:e2=0
 ·subst h
  refine⟨(c.set a (c.getD a 0)).set 8 ((c.getD 8 0+4)%4294967296),v,0,(hc.set a Ur).set 8 ⟨aj,aj⟩,xP,.inl rfl,?_⟩
  clear wP0 Ur wt xP
  intro w hT
  have nO:=hc.len
  have gP:=aX c (i:=8) aj
  have gA:=aX c (i:=a) aj
  have gB:=aX c (i:=b) aj
  have wA:dI (c.getD a 0):=hc.w _ bY
  have wB:dI (c.getD b 0):=hc.w _ bY
  have wP:dI (c.getD 8 0):=hc.w _ bY
  have HL:=ah (fun W=>lW m (c.getD 8 0) W wP hm)
  have hwd:=tN m (c.getD 8 0)
  have Et:=ah (fun W (h:Below w.heap.size w W)=>hT.below h)
  have HK:=ah (fun W (h:Below w.heap.size w W)=>lV (gK m (c.getD 8 0)).1 W (hT.below h) hwd)
  rw[ht] at HK
  generalize Xx:c.getD 8 0=pc at*
  generalize hra:c.getD a 0=ra at*
  generalize hrb:c.getD b 0=rb at*
  generalize gK m pc=l at*
  obtain⟨wd,e1⟩:=l
  dsimp only at he HL HK
  have hiv:=ni 15 a b dD
  clear hT ht
  subst he
  go_enter Tryz.func113,Tryz.ntmps113
  go_wp2_with fail
  with_reducible refine(HL.out _).mono ?_
  rintro e w1 ⟨rfl,hb1⟩
  have K1:=ah (((aD.new w (fB c) 119).alloc _).below hb1 dF)
  have K0:aD w1 (w.heap.size+1) (fB []) 119:=y5
  have KZ:=ah K0
  have bW:Below w.heap.size w w1:=aG
  have hz1:=hb1.size
  simp only[World.size_alloc] at hz1
  clear K0 hb1
  go_wp2_with fail
  with_reducible refine(HK.out _ bW).mono ?_
  rintro e w2 ⟨rfl,hb2⟩
  have hz2:=hb2.size
  have bM:=bW.trans (hb2.mono bW.size)
  have K2:=ah (K1.out.below hb2 K1.out.lt)
  have KY:=ah (KZ.out.below hb2 KZ.out.lt)
  obtain⟨hc1,mF,jO,mE,oz⟩:=K2.out.rules
  have cA:=(hc1 a).trans gA
  have cB:=(hc1 b).trans gB
  have cP:=(hc1 8).trans gP
  clear hc1 hb2 K1 KZ
  go_wp2_with fail
  have a8:a<8:=aj
  have b8:b<8:=aj
  have a8':(a:Int)<8:=aj
  have b8':(b:Int)<8:=aj
  go_region
  go_wp2_with fail
  go_region
  go_wp2_with fail
  with_reducible refine(HM.out _).mono ?_
  rintro e w3 ⟨rfl,hb3⟩
  have KI:=ah (((aD.new w2 #[.int .i64 15,.int .i64 a,.int .i64 b,.int .i64 dD] 250).drew.drew).below hb3 aI)
  exact ai9
 ·have eb:(e2 !=0)=true:=by simp[h]
  refine⟨c,m,2,hc,rfl,.inr rfl,?_⟩
  clear wP0 Ur wt xP h
  intro w hT
  have nO:=hc.len
  have gP:=aX c (i:=8) aj
  have gA:=aX c (i:=a) aj
  have gB:=aX c (i:=b) aj
  have wA:dI (c.getD a 0):=hc.w _ bY
  have wB:dI (c.getD b 0):=hc.w _ bY
  have wP:dI (c.getD 8 0):=hc.w _ bY
  have HL:=ah (fun W=>lW m (c.getD 8 0) W wP hm)
  have hwd:=tN m (c.getD 8 0)
  have Et:=ah (fun W (h:Below w.heap.size w W)=>hT.below h)
  have HK:=ah (fun W (h:Below w.heap.size w W)=>lV (gK m (c.getD 8 0)).1 W (hT.below h) hwd)
  rw[ht] at HK
  generalize Xx:c.getD 8 0=pc at*
  generalize hra:c.getD a 0=ra at*
  generalize hrb:c.getD b 0=rb at*
  generalize gK m pc=l at*
  obtain⟨wd,e1⟩:=l
  dsimp only at he HL HK
  have hiv:=ni 15 a b dD
  clear hT ht
  subst he
  go_enter Tryz.func113,Tryz.ntmps113
  go_wp2_with fail
  with_reducible refine(HL.out _).mono ?_
  rintro e w1 ⟨rfl,hb1⟩
  have K1:=ah (((aD.new w (fB c) 119).alloc _).below hb1 dF)
  have K0:aD w1 (w.heap.size+1) (fB []) 119:=y5
  have KZ:=ah K0
  have bW:Below w.heap.size w w1:=aG
  have hz1:=hb1.size
  simp only[World.size_alloc] at hz1
  clear K0 hb1
  go_wp2_with fail
  with_reducible refine(HK.out _ bW).mono ?_
  rintro e w2 ⟨rfl,hb2⟩
  have hz2:=hb2.size
  have bM:=bW.trans (hb2.mono bW.size)
  have K2:=ah (K1.out.below hb2 K1.out.lt)
  have KY:=ah (KZ.out.below hb2 KZ.out.lt)
  obtain⟨hc1,mF,jO,mE,oz⟩:=K2.out.rules
  have cA:=(hc1 a).trans gA
  have cB:=(hc1 b).trans gB
  have cP:=(hc1 8).trans gP
  clear hc1 hb2 K1 KZ
  go_wp2_with fail
  have a8:a<8:=aj
  have b8:b<8:=aj
  have a8':(a:Int)<8:=aj
  have b8':(b:Int)<8:=aj
  go_region
  go_wp2_with fail
  go_region
  go_wp2_with fail
  with_reducible refine(HM.out _).mono ?_
  rintro e w3 ⟨rfl,hb3⟩
  have KI:=ah (((aD.new w2 #[.int .i64 15,.int .i64 a,.int .i64 b,.int .i64 dD] 250).drew.drew).below hb3 aI)
  exact afS
theorem agK(c:List Int)(m:ByteArray)(a b:Nat)(dD:Int)(hc:gU c)(hm:m.size≤9223372036854775807)(he:(gK m (c.getD 8 0)).2=0)(ht:ig (gK m (c.getD 8 0)).1=((17,(a:Int),(b:Int),dD),0))(ha:a<8)(hb:b<8):
  ∃c' m' t,gU c'∧m'.size=m.size∧(t=0∨t=2)∧StepT c m c' m' t:=by
 have akr:=hc.len
 have wP0:dI (c.getD 8 0):=hc.w _ bY
 have Ur:dI (c.getD a 0):=hc.w _ bY
 have wt:dI ((c.getD b 0+dD)%4294967296):=⟨aj,aj⟩
 have HM:=ah (fun W=>Wv m ((c.getD b 0+dD)%4294967296) (c.getD a 0) W wt Ur hm)
 have xP:=aan m ((c.getD b 0+dD)%4294967296) (c.getD a 0) wt.1
 generalize(oF m ((c.getD b 0+dD)%4294967296) (c.getD a 0))=r at*
 obtain⟨v,e2⟩:=r
 dsimp only at HM xP
 by_cases h:e2=0
 ·subst h
  refine⟨(c.set a (c.getD a 0)).set 8 ((c.getD 8 0+4)%4294967296),v,0,(hc.set a Ur).set 8 ⟨aj,aj⟩,xP,.inl rfl,?_⟩
  clear wP0 Ur wt xP
  intro w hT
  have nO:=hc.len
  have gP:=aX c (i:=8) aj
  have gA:=aX c (i:=a) aj
  have gB:=aX c (i:=b) aj
  have wA:dI (c.getD a 0):=hc.w _ bY
  have wB:dI (c.getD b 0):=hc.w _ bY
  have wP:dI (c.getD 8 0):=hc.w _ bY
  have HL:=ah (fun W=>lW m (c.getD 8 0) W wP hm)
  have hwd:=tN m (c.getD 8 0)
  have Et:=ah (fun W (h:Below w.heap.size w W)=>hT.below h)
  have HK:=ah (fun W (h:Below w.heap.size w W)=>lV (gK m (c.getD 8 0)).1 W (hT.below h) hwd)
  rw[ht] at HK
  generalize Xx:c.getD 8 0=pc at*
  generalize hra:c.getD a 0=ra at*
  generalize hrb:c.getD b 0=rb at*
  generalize gK m pc=l at*
  obtain⟨wd,e1⟩:=l
  dsimp only at he HL HK
  have hiv:=ni 17 a b dD
  clear hT ht
  subst he
  go_enter Tryz.func113,Tryz.ntmps113
  go_wp2_with fail
  with_reducible refine(HL.out _).mono ?_
  rintro e w1 ⟨rfl,hb1⟩
  have K1:=ah (((aD.new w (fB c) 119).alloc _).below hb1 dF)
  have K0:aD w1 (w.heap.size+1) (fB []) 119:=y5
  have KZ:=ah K0
  have bW:Below w.heap.size w w1:=aG
  have hz1:=hb1.size
  simp only[World.size_alloc] at hz1
  clear K0 hb1
  go_wp2_with fail
  with_reducible refine(HK.out _ bW).mono ?_
  rintro e w2 ⟨rfl,hb2⟩
  have hz2:=hb2.size
  have bM:=bW.trans (hb2.mono bW.size)
  have K2:=ah (K1.out.below hb2 K1.out.lt)
  have KY:=ah (KZ.out.below hb2 KZ.out.lt)
  obtain⟨hc1,mF,jO,mE,oz⟩:=K2.out.rules
  have cA:=(hc1 a).trans gA
  have cB:=(hc1 b).trans gB
  have cP:=(hc1 8).trans gP
  clear hc1 hb2 K1 KZ
  go_wp2_with fail
  have a8:a<8:=aj
  have b8:b<8:=aj
  have a8':(a:Int)<8:=aj
  have b8':(b:Int)<8:=aj
  go_region
  go_wp2_with fail
  go_region
  go_wp2_with fail
  with_reducible refine(HM.out _).mono ?_
  rintro e w3 ⟨rfl,hb3⟩
  have KI:=ah (((aD.new w2 #[.int .i64 17,.int .i64 a,.int .i64 b,.int .i64 dD] 250).drew.drew).below hb3 aI)
  exact ai9
 ·have eb:(e2 !=0)=true:=by simp[h]
  refine⟨c,m,2,hc,rfl,.inr rfl,?_⟩
  clear wP0 Ur wt xP h
  intro w hT
  have nO:=hc.len
  have gP:=aX c (i:=8) aj
  have gA:=aX c (i:=a) aj
  have gB:=aX c (i:=b) aj
  have wA:dI (c.getD a 0):=hc.w _ bY
  have wB:dI (c.getD b 0):=hc.w _ bY
  have wP:dI (c.getD 8 0):=hc.w _ bY
  have HL:=ah (fun W=>lW m (c.getD 8 0) W wP hm)
  have hwd:=tN m (c.getD 8 0)
  have Et:=ah (fun W (h:Below w.heap.size w W)=>hT.below h)
  have HK:=ah (fun W (h:Below w.heap.size w W)=>lV (gK m (c.getD 8 0)).1 W (hT.below h) hwd)
  rw[ht] at HK
  generalize Xx:c.getD 8 0=pc at*
  generalize hra:c.getD a 0=ra at*
  generalize hrb:c.getD b 0=rb at*
  generalize gK m pc=l at*
  obtain⟨wd,e1⟩:=l
  dsimp only at he HL HK
  have hiv:=ni 17 a b dD
  clear hT ht
  subst he
  go_enter Tryz.func113,Tryz.ntmps113
  go_wp2_with fail
  with_reducible refine(HL.out _).mono ?_
  rintro e w1 ⟨rfl,hb1⟩
  have K1:=ah (((aD.new w (fB c) 119).alloc _).below hb1 dF)
  have K0:aD w1 (w.heap.size+1) (fB []) 119:=y5
  have KZ:=ah K0
  have bW:Below w.heap.size w w1:=aG
  have hz1:=hb1.size
  simp only[World.size_alloc] at hz1
  clear K0 hb1
  go_wp2_with fail
  with_reducible refine(HK.out _ bW).mono ?_
  rintro e w2 ⟨rfl,hb2⟩
  have hz2:=hb2.size
  have bM:=bW.trans (hb2.mono bW.size)
  have K2:=ah (K1.out.below hb2 K1.out.lt)
  have KY:=ah (KZ.out.below hb2 KZ.out.lt)
  obtain⟨hc1,mF,jO,mE,oz⟩:=K2.out.rules
  have cA:=(hc1 a).trans gA
  have cB:=(hc1 b).trans gB
  have cP:=(hc1 8).trans gP
  clear hc1 hb2 K1 KZ
  go_wp2_with fail
  have a8:a<8:=aj
  have b8:b<8:=aj
  have a8':(a:Int)<8:=aj
  have b8':(b:Int)<8:=aj
  go_region
  go_wp2_with fail
  go_region
  go_wp2_with fail
  with_reducible refine(HM.out _).mono ?_
  rintro e w3 ⟨rfl,hb3⟩
  have KI:=ah (((aD.new w2 #[.int .i64 17,.int .i64 a,.int .i64 b,.int .i64 dD] 250).drew.drew).below hb3 aI)
  exact afS
theorem agJ(c:List Int)(m:ByteArray)(a b:Nat)(dD:Int)(hc:gU c)(hm:m.size≤9223372036854775807)(he:(gK m (c.getD 8 0)).2=0)(ht:ig (gK m (c.getD 8 0)).1=((24,(a:Int),(b:Int),dD),0))(ha:a<8)(hb:b<8):
  StepT c m (c.set 8 ((c.getD 8 0+4)%4294967296)) m 3:=by
 intro w hT
 have nO:=hc.len
 have gP:=aX c (i:=8) aj
 have gA:=aX c (i:=a) aj
 have gB:=aX c (i:=b) aj
 have wA:dI (c.getD a 0):=hc.w _ bY
 have wB:dI (c.getD b 0):=hc.w _ bY
 have wP:dI (c.getD 8 0):=hc.w _ bY
 have HL:=ah (fun W=>lW m (c.getD 8 0) W wP hm)
 have hwd:=tN m (c.getD 8 0)
 have Et:=ah (fun W (h:Below w.heap.size w W)=>hT.below h)
 have HK:=ah (fun W (h:Below w.heap.size w W)=>lV (gK m (c.getD 8 0)).1 W (hT.below h) hwd)
 rw[ht] at HK
 generalize Xx:c.getD 8 0=pc at*
 generalize hra:c.getD a 0=ra at*
 generalize hrb:c.getD b 0=rb at*
 generalize gK m pc=l at*
 obtain⟨wd,e1⟩:=l
 dsimp only at he HL HK
 have hiv:=ni 24 a b dD
 clear hT ht
 subst he
 go_enter Tryz.func113,Tryz.ntmps113
 go_wp2_with fail
 with_reducible refine(HL.out _).mono ?_
 rintro e w1 ⟨rfl,hb1⟩
 have K1:=ah (((aD.new w (fB c) 119).alloc _).below hb1 dF)
 have K0:aD w1 (w.heap.size+1) (fB []) 119:=y5
 have KZ:=ah K0
 have bW:Below w.heap.size w w1:=aG
 have hz1:=hb1.size
 simp only[World.size_alloc] at hz1
 clear K0 hb1
 go_wp2_with fail
 with_reducible refine(HK.out _ bW).mono ?_
 rintro e w2 ⟨rfl,hb2⟩
 have hz2:=hb2.size
 have bM:=bW.trans (hb2.mono bW.size)
 have K2:=ah (K1.out.below hb2 K1.out.lt)
 have KY:=ah (KZ.out.below hb2 KZ.out.lt)
 obtain⟨hc1,mF,jO,mE,oz⟩:=K2.out.rules
 have cA:=(hc1 a).trans gA
 have cB:=(hc1 b).trans gB
 have cP:=(hc1 8).trans gP
 clear hc1 hb2 K1 KZ
 go_wp2_with fail
 have a8:a<8:=aj
 have b8:b<8:=aj
 have a8':(a:Int)<8:=aj
 have b8':(b:Int)<8:=aj
 go_region
 go_wp2_with fail
 go_region
 go_wp2_with(first|((with_reducible refine cK 119 ?_);generalize bR:World.drew _=w5;have K5:aD w5 w.heap.size (fB (c.set 8 ((pc+4)%4294967296))) 119:=(by rw[←bR];exact(((K2.out.set 8 _).alloc _).drew.drew).cast (by rw[xG nO aj]));have K6:aD w5 (w.heap.size+1) (fB []) 119:=(by(have kk:=KY.out);rw[←bR];exact bx);have kV:Below w.heap.size w w5:=bN;generalize hC5:(c.set 8 ((pc+4)%4294967296):List Int)=c5 at K5;have HK5:=ah K5;have HK6:=ah K6;clear bR K5 K6 cP cA cB;(refine aK rfl 119 _ rfl (fB c5) jm (jg c5) HK5.out ?_ ?_;(exact aM)))|((with_reducible refine bS 119 ?_);(refine aR rfl 119 _ _ rfl HK6.out (kD c5) jm (jg c5) ?_ _ (sG _ _) ?_ ?_ ?_);(exact FZ);(exact tX);(exact tX);(intro w9 Eo nE Qr oN;have EC:=kV.trans (Below.mono oN (Nat.le_add_right w.heap.size 1));have LG:=Eo.rules.1;rw[iV] at LG))|fail)
 rw[hC5]
 exact bodyPost_ret (v:= .tuple #[kD c5,.string m,.int .i64 3]) acs rfl ⟨rfl,EC⟩
theorem ZQ(op:Int)(c c2:List Int)(m:ByteArray)(a b:Nat)(dD:Int)(hc:gU c)(hm:m.size≤9223372036854775807)(he:(gK m (c.getD 8 0)).2=0)(ht:ig (gK m (c.getD 8 0)).1=((op,(a:Int),(b:Int),dD),0))(ha:a<8)(hb:b<8)
  (h14:op≠14)(h15:op≠15)(UC:op≠16)(QB:op≠17)(h24:op≠24)(hd:jZ op a b dD c c2):
  StepT c m c2 m 0:=by
 have e14:(op==14)=false:=by simp[h14]
 have e15:(op==15)=false:=by simp[h15]
 have e16:(op==16)=false:=by simp[UC]
 have e17:(op==17)=false:=by simp[QB]
 have e24:(op==24)=false:=by simp[h24]
 unfold jZ at hd
 have HD:=ah hd
 clear h14 h15 UC QB h24 hd
 intro w hT
 have nO:=hc.len
 have gP:=aX c (i:=8) aj
 have gA:=aX c (i:=a) aj
 have gB:=aX c (i:=b) aj
 have wA:dI (c.getD a 0):=hc.w _ bY
 have wB:dI (c.getD b 0):=hc.w _ bY
 have wP:dI (c.getD 8 0):=hc.w _ bY
 have HL:=ah (fun W=>lW m (c.getD 8 0) W wP hm)
 have hwd:=tN m (c.getD 8 0)
 have Et:=ah (fun W (h:Below w.heap.size w W)=>hT.below h)
 have HK:=ah (fun W (h:Below w.heap.size w W)=>lV (gK m (c.getD 8 0)).1 W (hT.below h) hwd)
 rw[ht] at HK
 generalize Xx:c.getD 8 0=pc at*
 generalize hra:c.getD a 0=ra at*
 generalize hrb:c.getD b 0=rb at*
 generalize gK m pc=l at*
 obtain⟨wd,e1⟩:=l
 dsimp only at he HL HK
 have hiv:=ni op a b dD
 clear hT ht
 subst he
 go_enter Tryz.func113,Tryz.ntmps113
 go_wp2_with fail
 with_reducible refine(HL.out _).mono ?_
 rintro e w1 ⟨rfl,hb1⟩
 have K1:=ah (((aD.new w (fB c) 119).alloc _).below hb1 dF)
 have K0:aD w1 (w.heap.size+1) (fB []) 119:=y5
 have KZ:=ah K0
 have bW:Below w.heap.size w w1:=aG
 have hz1:=hb1.size
 simp only[World.size_alloc] at hz1
 clear K0 hb1
 go_wp2_with fail
 with_reducible refine(HK.out _ bW).mono ?_
 rintro e w2 ⟨rfl,hb2⟩
 have hz2:=hb2.size
 have bM:=bW.trans (hb2.mono bW.size)
 have K2:=ah (K1.out.below hb2 K1.out.lt)
 have KY:=ah (KZ.out.below hb2 KZ.out.lt)
 obtain⟨hc1,mF,jO,mE,oz⟩:=K2.out.rules
 have cA:=(hc1 a).trans gA
 have cB:=(hc1 b).trans gB
 have cP:=(hc1 8).trans gP
 clear hc1 hb2 K1 KZ
 go_wp2_with fail
 have a8:a<8:=aj
 have b8:b<8:=aj
 have a8':(a:Int)<8:=aj
 have b8':(b:Int)<8:=aj
 go_region
 go_wp2_with fail
 go_region
 go_wp2_with(first|((with_reducible refine cK 119 ?_);(refine aK rfl 119 _ rfl (fB c) jm (jg c) ((K2.out.alloc _).drew.drew) ?_ ?_;(exact aM)))|fail)
 with_reducible refine(HD.out _ (Et.out _ ?_)).mono ?_
 focus exact bl
 rintro e w3 ⟨rfl,hb3⟩
 have lu:Below w2.heap.size w2 w3:=aG
 have gZ:=bM.trans (lu.mono bM.size)
 have K3:=ah (K2.out.below lu K2.out.lt)
 have KY3:=ah (KY.out.below lu KY.out.lt)
 have QV:=dG c
 have Ol:=dG c2
 have ar_:=dG []
 have hne:¬(w.heap.size+1=w.heap.size):=aj
 clear cA cB cP hb3 lu K2 KY
 go_wp2_with(first|((with_reducible refine cK 119 ?_);(refine aK rfl 119 _ rfl (fB c2) jm (jg c2) K9.out ?_ ?_;(exact aM)))|((with_reducible refine bS 119 ?_);(refine aR rfl 119 _ _ rfl K3.out (kD c2) jm (jg c2) ?_ _ (sG _ _) ?_ ?_ ?_);(exact FZ);(exact tX);(exact tX);(intro w8 bp8 Uh Uu ku;have K9:=ah bp8;have KY9:=ah (KY3.out.grown Uh aI);have BP:=gZ.trans ku;clear bp8))|((with_reducible refine bS 119 ?_);(refine aR rfl 119 _ _ rfl KY9.out (kD c2) jm (jg c2) ?_ _ (sG _ _) ?_ ?_ ?_);(exact FZ);(exact tX);(exact tX);(intro w9 Eo nE Qr oN;have EC:=BP.trans (Below.mono oN (Nat.le_add_right w.heap.size 1));have LG:=Eo.rules.1;rw[iV] at LG))|fail)
 exact bodyPost_ret (v:= .tuple #[kD c2,.string m,.int .i64 0]) (by rw[show kD c2=.agg (fB c2) from rfl,iV c2];simp[results,Tryz.results113,go_sem,LG]) rfl ⟨rfl,EC⟩
theorem step_take(c:List Int)(m:ByteArray)(hc:gU c)(hm:m.size≤9223372036854775807)(he:(gK m (c.getD 8 0)).2=0)(ht:(ig (gK m (c.getD 8 0)).1).2≠0):StepT c m c m 1:=by
 intro w hT
 have nO:=hc.len
 have gP:=aX c (i:=8) aj
 have wP:dI (c.getD 8 0):=hc.w _ bY
 have HL:=ah (fun W=>lW m (c.getD 8 0) W wP hm)
 have hwd:=tN m (c.getD 8 0)
 have HK:=ah (fun W (h:Below w.heap.size w W)=>lV (gK m (c.getD 8 0)).1 W (hT.below h) hwd)
 generalize c.getD 8 0=pc at*
 generalize gK m pc=l at*
 obtain⟨wd,e1⟩:=l
 dsimp only at he HL HK ht
 generalize ig wd=tk at*
 obtain⟨⟨op,a,b,dD⟩,e2⟩:=tk
 dsimp only at HK ht
 subst he
 have hiv:=ni op a b dD
 have e2b:(e2 !=0)=true:=by simp[ht]
 clear hT hc ht
 go_enter Tryz.func113,Tryz.ntmps113
 go_wp2_with fail
 with_reducible refine(HL.out _).mono ?_
 rintro e w1 ⟨rfl,hb1⟩
 have K1:=ah (((aD.new w (fB c) 119).alloc _).below hb1 dF)
 have K0:aD w1 (w.heap.size+1) (fB []) 119:=y5
 have KZ:=ah K0
 have bW:Below w.heap.size w w1:=aG
 have hz1:=hb1.size
 simp only[World.size_alloc] at hz1
 clear K0 hb1
 go_wp2_with fail
 with_reducible refine(HK.out _ bW).mono ?_
 rintro e w2 ⟨rfl,hb2⟩
 have hz2:=hb2.size
 have bM:=bW.trans (hb2.mono bW.size)
 have K2:=ah (K1.out.below hb2 K1.out.lt)
 have KY:=ah (KZ.out.below hb2 KZ.out.lt)
 have gZ:Below w.heap.size w (w2.alloc (.cells #[.int .i64 op,.int .i64 a,.int .i64 b,.int .i64 dD] 250)):=aG
 go_wp2_with(first|((with_reducible refine cK 119 ?_);(refine aK rfl 119 _ rfl (fB c) jm (jg c) (K2.out.alloc _) ?_ ?_;(exact aM)))|((with_reducible refine bS 119 ?_);(refine aR rfl 119 _ _ rfl (KY.out.alloc _) (kD c) jm (jg c) ?_ _ (sG _ _) ?_ ?_ ?_);(exact FZ);(exact tX);(exact tX);(intro w9 Eo nE Qr oN;have EC:=gZ.trans (Below.mono oN (Nat.le_add_right w.heap.size 1));have LG:=Eo.rules.1;rw[iV] at LG))|fail)
 exact bodyPost_ret (v:= .tuple #[kD c,.string m,.int .i64 1]) acr rfl ⟨rfl,EC⟩
theorem Hz(c:List Int)(m:ByteArray)(hc:gU c)(hm:m.size≤9223372036854775807):∃c' m' t,gU c'∧m'.size=m.size∧(t=0∨t=1∨t=2∨t=3)∧StepT c m c' m' t:=by
 by_cases he:(gK m (c.getD 8 0)).2=0
 rotate_left
 ·exact⟨c,m,2,hc,rfl,aI,ZR c m hc hm he⟩
 by_cases ht:(ig (gK m (c.getD 8 0)).1).2=0
 rotate_left
 ·exact⟨c,m,1,hc,rfl,aI,step_take c m hc hm he ht⟩
 have hI:=aez ht
 have hM:=ZN ht
 obtain⟨tk,wK⟩:∃tk,tk=ig (gK m (c.getD 8 0)).1:=⟨_,rfl⟩
 rw[←wK] at ht hI hM
 obtain⟨⟨op,a,b,dD⟩,e2⟩:=tk
 dsimp only at ht hI hM
 subst ht
 obtain⟨h1,h2,h3,h4,h5,h6,h7,h8⟩:=hI
 obtain⟨a,rfl⟩:∃n:Nat,a=n:=⟨a.toNat,aj⟩
 obtain⟨b,rfl⟩:∃n:Nat,b=n:=⟨b.toNat,aj⟩
 have f:(∃c' m' t,gU c'∧m'.size=m.size∧(t=0∨t=2)∧StepT c m c' m' t)→∃c' m' t,gU c'∧m'.size=m.size∧(t=0∨t=1∨t=2∨t=3)∧StepT c m c' m' t:=
  fun⟨c',m',t,g1,g2,g3,g4⟩=>⟨c',m',t,g1,g2,aj,g4⟩
 by_cases h14:op=14
 ·subst h14;exact f (agN c m a b dD hc hm he wK.symm aj aj)
 by_cases h15:op=15
 ·subst h15;exact f (agM c m a b dD hc hm he wK.symm aj aj)
 by_cases UC:op=16
 ·subst UC;exact f (agL c m a b dD hc hm he wK.symm aj aj)
 by_cases QB:op=17
 ·subst QB;exact f (agK c m a b dD hc hm he wK.symm aj aj)
 by_cases h24:op=24
 ·subst h24;exact⟨_,m,3,hc.set 8 ⟨aj,aj⟩,rfl,aI,agJ c m a b dD hc hm he wK.symm aj aj⟩
 obtain⟨c',hc',hd⟩:=afp op c a b dD hc ⟨h1,h2,h3,h4,h5,h6,h7,h8⟩ hM h14 h15 UC QB h24
 exact⟨c',m,0,hc',rfl,aI,ZQ op c c' m a b dD hc hm he wK.symm aj aj h14 h15 UC QB h24 hd⟩
open Classical in
noncomputable def lM(c:List Int)(m:ByteArray):List Int×ByteArray×Int:=
 if h:gU c∧m.size≤9223372036854775807 then⟨(Hz c m h.1 h.2).choose,(Hz c m h.1 h.2).choose_spec.choose,(Hz c m h.1 h.2).choose_spec.choose_spec.choose⟩ else(c,m,0)
theorem yL{c:List Int}{m:ByteArray}(hc:gU c)(hm:m.size≤9223372036854775807):
  gU (lM c m).1∧(lM c m).2.1.size=m.size∧((lM c m).2.2=0∨(lM c m).2.2=1∨(lM c m).2.2=2∨(lM c m).2.2=3)∧StepT c m (lM c m).1 (lM c m).2.1 (lM c m).2.2:=by
 unfold lM
 rw[dif_pos ⟨hc,hm⟩]
 exact(Hz c m hc hm).choose_spec.choose_spec.choose_spec
end Go.Proofs.YtgmodehldmahiaaGreatDoor
