/- Part 27 of 50 of the proof of topWindows_holds. Conditions: see each. -/
import Derived.Test.YtgmodehldmahiaaGreatDoorW14
import Derived.Test.YtgmodehldmahiaaGreatDoorW22
import Derived.Test.YtgmodehldmahiaaGreatDoorW23
import Derived.Test.YtgmodehldmahiaaGreatDoorW24
import Derived.Test.YtgmodehldmahiaaGreatDoorW18
import Derived.Test.YtgmodehldmahiaaGreatDoorW25
import Derived.Test.YtgmodehldmahiaaGreatDoorW26
import Derived.Test.YtgmodehldmahiaaGreatDoorW20
import Derived.Test.YtgmodehldmahiaaGreatDoorW21
import Derived.Test.YtgmodehldmahiaaGreatDoorW10
set_option linter.unusedVariables false
set_option linter.unusedSimpArgs false
set_option maxRecDepth 8192
set_option maxHeartbeats 40000000
section
namespace Go.Proofs.YtgmodehldmahiaaGreatDoor
open Go Go.RowKit Go.Tm
noncomputable def eT(k:Kn)(p:Tab.bV)(x:nW):Kn×Int×Int:=
 if x.1=4 then sH k p x else if x.1=6 then abn k p x else if x.1=9 then Sy k p x else if x.1=10 then Ub k p x
 else if x.1=11 then sN k p x else if x.1=12 then oq k p x else if x.1=13 then sM k p x else if x.1=14 then oC k p x
 else if x.1=15 then sI k p x else if x.1=16 then sK k p x else(k,0,1)
theorem I6(b:Nat)(s:Ks)(k:Kn)(pid:Int)(x:nW)(w:World)(hw:KW w b s k)(hk:Fit k)(hx:iJ x)
  (hk2:Fit (eT k (Tab.bD k.P pid).1 x).1)(hv:cK (Call.qj (eT k (Tab.bD k.P pid).1 x).2.2 (eT k (Tab.bD k.P pid).1 x).2.1)):
  zh (eT k (Tab.bD k.P pid).1 x) b s k pid x w:=by
 by_cases h:Fx x.1=false
 ·have h':=h
  unfold Fx at h
  simp only[decide_eq_false_iff_not,not_or] at h
  obtain⟨h1,h2,h3,h4,h5,h6,h7,h8,h9,h10⟩:=h
  have e:eT k (Tab.bD k.P pid).1 x=(k,0,1):=by unfold eT;simp only[h1,h2,h3,h4,h5,h6,h7,h8,h9,h10,if_false]
  rw[e] at hv⊢
  exact QK b s k pid x w (fun W=>ZK x.1 W h') hw hk hx hv
 ·simp only[Bool.not_eq_false] at h
  unfold Fx at h
  simp only[decide_eq_true_eq] at h
  rcases h with h|h|h|h|h|h|h|h|h|h
  ·have e:eT k (Tab.bD k.P pid).1 x=sH k (Tab.bD k.P pid).1 x:=by unfold eT;rw[if_pos h]
   rw[e] at hk2 hv⊢
   exact mX ahh UK b s k pid x w (fun W=>by rw[h];exact abV W) hw hk hx hk2 hv
  ·have e:eT k (Tab.bD k.P pid).1 x=abn k (Tab.bD k.P pid).1 x:=by unfold eT;simp only[h];rfl
   rw[e] at hk2 hv⊢
   exact mX ahg aar b s k pid x w (fun W=>by rw[h];exact abU W) hw hk hx hk2 hv
  ·have e:eT k (Tab.bD k.P pid).1 x=Sy k (Tab.bD k.P pid).1 x:=by unfold eT;simp only[h];rfl
   rw[e] at hk2 hv⊢
   exact mX ahf UQ b s k pid x w (fun W=>by rw[h];exact abT W) hw hk hx hk2 hv
  ·have e:eT k (Tab.bD k.P pid).1 x=Ub k (Tab.bD k.P pid).1 x:=by unfold eT;simp only[h];rfl
   rw[e] at hk2 hv⊢
   exact mX ac3 aan b s k pid x w (fun W=>by rw[h];exact ZR W) hw hk hx hk2 hv
  ·have e:eT k (Tab.bD k.P pid).1 x=sN k (Tab.bD k.P pid).1 x:=by unfold eT;simp only[h];rfl
   rw[e] at hk2 hv⊢
   exact mX ac2 Vo b s k pid x w (fun W=>by rw[h];exact ZQ W) hw hk hx hk2 hv
  ·have e:eT k (Tab.bD k.P pid).1 x=oq k (Tab.bD k.P pid).1 x:=by unfold eT;simp only[h];rfl
   rw[e] at hk2 hv⊢
   exact mX ac1 QA b s k pid x w (fun W=>by rw[h];exact ZP W) hw hk hx hk2 hv
  ·have e:eT k (Tab.bD k.P pid).1 x=sM k (Tab.bD k.P pid).1 x:=by unfold eT;simp only[h];rfl
   rw[e] at hk2 hv⊢
   exact mX ac0 Vk b s k pid x w (fun W=>by rw[h];exact ZO W) hw hk hx hk2 hv
  ·have e:eT k (Tab.bD k.P pid).1 x=oC k (Tab.bD k.P pid).1 x:=by unfold eT;simp only[h];rfl
   rw[e] at hk2 hv⊢
   exact mX acZ RD b s k pid x w (fun W=>by rw[h];exact ZN W) hw hk hx hk2 hv
  ·have e:eT k (Tab.bD k.P pid).1 x=sI k (Tab.bD k.P pid).1 x:=by unfold eT;simp only[h];rfl
   rw[e] at hk2 hv⊢
   exact mX acY U6 b s k pid x w (fun W=>by rw[h];exact ZM W) hw hk hx hk2 hv
  ·have e:eT k (Tab.bD k.P pid).1 x=sK k (Tab.bD k.P pid).1 x:=by unfold eT;simp only[h];rfl
   rw[e] at hk2 hv⊢
   exact mX acX Vg b s k pid x w (fun W=>by rw[h];exact ZL W) hw hk hx hk2 hv
end Go.Proofs.YtgmodehldmahiaaGreatDoor
end
section
namespace Go.Proofs.YtgmodehldmahiaaGreatDoor
open Go Go.RowKit Go.Tm
attribute [local go_sem] fB fA fu dR dA dQ dP dO dN dM dL dK dJ dI dH dG dF iq ig h_ g_ gZ gY gX gN gW gV fF fE fD fC eY eX eU
attribute [local go_sem] Tab.uK Tab.LM Tab.Ht
def mR(k':Kn)(on:Bool)(b:Nat)(s:Ks)(k:Kn)(p:Tab.bV)(x:nW)(w:World):Prop:=
 Calls Tryz.prog 114 #[.pointer (some ⟨b,0,none⟩),Tab.je p,sP x] w fun en w'=>en=.returned (.bool on)∧KS w b s k w' k'∧w.grownBy w' (some b)
theorem ajs(b:Nat)(s:Ks)(k:Kn)(p:Tab.bV)(xa xb xc:Int)(w:World)(hw:KW w b s k)(hk:Fit k)(hx:iJ (1,xa,xb,xc)):
  mR (mW k p.pid (xa%256) 0) false b s k p (1,xa,xb,xc) w:=by
 unfold mR
 have HE:=Lib.hid (fun s W h=>FY b s k p.pid (xa%256) 0 W h hk (by have:=hx.2.1.1;have:=hx.2.1.2;dsimp only at*;simp[wfi,Lit.wf,IntKind.min,IntKind.max,IntKind.signed,IntKind.bits];omega))
 have HW:=Lib.hid hw
 have hlt:=hw.lt
 have hpv:=Tab.fq p
 rw[show Tab.je p=.agg (Tab.dS p) from rfl]
 have hx2:=hx.2.1.2
 have hx3:=hx.2.1.1
 dsimp only at hx2 hx3
 clear hw
 go_enter Tryz.func114,Tryz.ntmps114
 go_upto_block 0 with fail
 ((generalize bN:World.alloc _ _=w0);(have KP:aC w0 (w.heap.size) (Tab.dS p) 126:=bA);(have KX:aC w0 (w.heap.size+1) (#[.int .u32 1,.int .u32 xa,.int .u32 xb,.int .u32 xc]) 124:=bA);(have hb0:Below w.heap.size w w0:=bM);(have hz0:w0.heap.size=w.heap.size+1+1:=bX);(clear bN);(have KP:=Lib.hid KP);(have KX:=Lib.hid KX))
 have sF:w.heap.size+1+1≤w0.heap.size:=ah
 clear hz0
 ((try clear hcb bn hlb hnb hmb);(have aW:=HW.out.below hb0);(obtain⟨hcb,bn,hlb,hnb,hmb⟩:=aC.rules aW.box);(have jV:=Lib.hid aW);(clear aW))
 ((try clear hcp hfp hlp hnp hmp);(have bx0:=KP.out);(obtain⟨hcp,hfp,hlp,hnp,hmp⟩:=aC.rules bx0);(have oM:=Lib.hid bx0);(clear bx0))
 ((try clear hcx hfx hlx hnx hmx);(have bx0:=KX.out);(obtain⟨hcx,hfx,hlx,hnx,hmx⟩:=aC.rules bx0);(have sV:=Lib.hid bx0);(clear bx0))
 (refine bH ?_;(iterate 10 (refine bQ aB ?_));apply bR;(focus((go_wp2_with fail;exact⟨rfl,rfl,rfl⟩))))
 go_wp2_with fail
 with_reducible refine(HE.out _ _ jV.out).mono ?_
 rintro en w1 ⟨rfl,hks,hg1⟩
 go_wp2_with fail
 refine wT ?_
 simp only[Exit.then]
 exact bodyPost_ret (v:= .bool false) mG rfl ⟨rfl,KS.from hks hb0.size,aA (ay hb0 (some b)) hg1⟩
noncomputable def Fu(k:Kn):Kn:={k with L:=(Turn.qw k.L k.left).1,left:=(Turn.qw k.L k.left).2}
theorem ajo(b:Nat)(s:Ks)(k:Kn)(p:Tab.bV)(xa xb xc:Int)(w:World)(hw:KW w b s k)(hk:Fit k)(hx:iJ (7,xa,xb,xc)):
  mR (Fu (bU k p (7,xa,xb,xc) 0 0)) false b s k p (7,xa,xb,xc) w:=by
 unfold mR Fu
 have HA:=Lib.hid (fun s W h=>fQ b s k p (7,xa,xb,xc) 0 0 W h hk (lJ jq))
 have hL:=hk.L
 have hkL:(bU k p (7,xa,xb,xc) 0 0).L=k.L:=rfl
 rw[←hkL] at hL
 generalize bU k p (7,xa,xb,xc) 0 0=k1 at*
 clear hkL
 have HW:=Lib.hid hw
 have hlt:=hw.lt
 have hpv:=Tab.fq p
 rw[show Tab.je p=.agg (Tab.dS p) from rfl]
 have hx2:=hx.2.1.2
 have hx3:=hx.2.1.1
 dsimp only at hx2 hx3
 clear hw
 go_enter Tryz.func114,Tryz.ntmps114
 go_upto_block 0 with fail
 ((generalize bN:World.alloc _ _=w0);(have KP:aC w0 (w.heap.size) (Tab.dS p) 126:=bA);(have KX:aC w0 (w.heap.size+1) (#[.int .u32 7,.int .u32 xa,.int .u32 xb,.int .u32 xc]) 124:=bA);(have hb0:Below w.heap.size w w0:=bM);(have hz0:w0.heap.size=w.heap.size+1+1:=bX);(clear bN);(have KP:=Lib.hid KP);(have KX:=Lib.hid KX))
 have sF:w.heap.size+1+1≤w0.heap.size:=ah
 clear hz0
 ((try clear hcb bn hlb hnb hmb);(have aW:=HW.out.below hb0);(obtain⟨hcb,bn,hlb,hnb,hmb⟩:=aC.rules aW.box);(have jV:=Lib.hid aW);(clear aW))
 ((try clear hcp hfp hlp hnp hmp);(have bx0:=KP.out);(obtain⟨hcp,hfp,hlp,hnp,hmp⟩:=aC.rules bx0);(have oM:=Lib.hid bx0);(clear bx0))
 ((try clear hcx hfx hlx hnx hmx);(have bx0:=KX.out);(obtain⟨hcx,hfx,hlx,hnx,hmx⟩:=aC.rules bx0);(have sV:=Lib.hid bx0);(clear bx0))
 (refine bH ?_;(iterate 9 (refine bQ aB ?_));apply bR;(focus((apply bJ (hid:=by decide));(go_wp2_with fail;exact⟨rfl,rfl,rfl⟩))))
 go_wp2_with(first|((with_reducible refine bS 126 ?_);(refine aJ rfl 126 _ rfl (Tab.dS p) Tab.aX (hpv) oM.out ?_ ?_;(exact aG)))|fail)
 with_reducible refine(HA.out _ _ jV.out).mono ?_
 rintro en w1 ⟨rfl,⟨s1,Il,qo⟩,hg1⟩
 have hz1:=hg1.size
 have HST:=Lib.hid qo
 have Pg:=Below.refl w1.heap.size w1
 have nL:=Lib.hid Il
 clear Il qo
 ((try clear hcb bn hlb hnb hmb);(have aW:=nL.out.below Pg);(obtain⟨hcb,bn,hlb,hnb,hmb⟩:=aC.rules aW.box);(have qg:=Lib.hid aW);(clear aW))
 have HY:=Lib.hid (fun W h=>Turn.IY s1.L k1.L k1.left W h ah)
 clear hcp hfp hlp hnp hmp hcx hfx hlx hnx hmx
 go_wp2_with fail
 with_reducible refine(HY.out _ nL.out.kr.L).mono ?_
 rintro en w4 ⟨v4,rfl,hs4,hr4,hb4⟩
 obtain⟨a4,m4,n4,rfl⟩:=hs4.is
 ((try clear hcb bn hlb hnb hmb);(have aW:=nL.out.below hb4);(obtain⟨hcb,bn,hlb,hnb,hmb⟩:=aC.rules aW.box);(have vU:=Lib.hid aW);(clear aW))
 have H4:=Lib.hid hs4
 have HA4:=Lib.hid (hr4.apart nL.out.aL nL.out.lt)
 have HR4:=Lib.hid (fun(B:Nat) (hB:B<w1.heap.size) (h:Apart B s1.L (ints k1.L))=>hr4.apart h hB)
 clear hs4 hr4
 go_wp2_with fail
 have hw6:=(vU.out.Ah H4.out HA4.out).set_left (Turn.qw k1.L k1.left).2
 have hz0:=hb0.size
 have hfin:j3 w b s k {s1 with L:= .slice a4 m4 n4} {k1 with L:=(Turn.qw k1.L k1.left).1,left:=(Turn.qw k1.L k1.left).2}:=fun B hB hne h=>by
  have h1:=HST.out B ah hne h
  exact⟨HR4.out B ah h1.1,h1.2⟩
 refine wT ?_
 simp only[Exit.then]
 exact bodyPost_ret (v:= .bool false) mG rfl ⟨rfl,⟨_,hw6,hfin⟩,aA (aA (ay hb0 (some b)) hg1) (aA (ay hb4 (some b)) (aA (aM _ _ _ _) (aM _ _ _ _)))⟩
theorem ahj(b:Nat)(s:Ks)(k:Kn)(p:Tab.bV)(xb xc:Int)(w:World)(hw:KW w b s k)(hk:Fit k)(hx:iJ (8,0,xb,xc)):
  mR (bU k p (8,0,xb,xc) 0 0) true b s k p (8,0,xb,xc) w:=by
 unfold mR
 have HA:=Lib.hid (fun s W h=>fQ b s k p (8,0,xb,xc) 0 0 W h hk (lJ jq))
 generalize bU k p (8,0,xb,xc) 0 0=k1 at*
 have HW:=Lib.hid hw
 have hlt:=hw.lt
 have hpv:=Tab.fq p
 rw[show Tab.je p=.agg (Tab.dS p) from rfl]
 have hx2:=hx.2.1.2
 have hx3:=hx.2.1.1
 dsimp only at hx2 hx3
 clear hw
 go_enter Tryz.func114,Tryz.ntmps114
 go_upto_block 0 with fail
 ((generalize bN:World.alloc _ _=w0);(have KP:aC w0 (w.heap.size) (Tab.dS p) 126:=bA);(have KX:aC w0 (w.heap.size+1) (#[.int .u32 8,.int .u32 0,.int .u32 xb,.int .u32 xc]) 124:=bA);(have hb0:Below w.heap.size w w0:=bM);(have hz0:w0.heap.size=w.heap.size+1+1:=bX);(clear bN);(have KP:=Lib.hid KP);(have KX:=Lib.hid KX))
 have sF:w.heap.size+1+1≤w0.heap.size:=ah
 clear hz0
 ((try clear hcb bn hlb hnb hmb);(have aW:=HW.out.below hb0);(obtain⟨hcb,bn,hlb,hnb,hmb⟩:=aC.rules aW.box);(have jV:=Lib.hid aW);(clear aW))
 ((try clear hcp hfp hlp hnp hmp);(have bx0:=KP.out);(obtain⟨hcp,hfp,hlp,hnp,hmp⟩:=aC.rules bx0);(have oM:=Lib.hid bx0);(clear bx0))
 ((try clear hcx hfx hlx hnx hmx);(have bx0:=KX.out);(obtain⟨hcx,hfx,hlx,hnx,hmx⟩:=aC.rules bx0);(have sV:=Lib.hid bx0);(clear bx0))
 (refine bH ?_;(iterate 8 (refine bQ aB ?_));apply bR;(focus((iterate 2 (apply bJ (hid:=by decide)));(go_wp2_with fail;exact⟨rfl,rfl,rfl⟩))))
 go_wp2_with(first|((with_reducible refine bS 126 ?_);(refine aJ rfl 126 _ rfl (Tab.dS p) Tab.aX (hpv) oM.out ?_ ?_;(exact aG)))|fail)
 with_reducible refine(HA.out _ _ jV.out).mono ?_
 rintro en w1 ⟨rfl,hks,hg1⟩
 go_wp2_with fail
 refine dn ?_
 go_wp2_with fail
 exact bodyPost_ret (v:= .bool true) mG rfl ⟨rfl,KS.from hks hb0.size,aA (ay hb0 (some b)) hg1⟩
noncomputable def Fz(k:Kn)(p:Tab.bV)(x:nW):Kn:={vH k p 3 x with S:=Sleep.oL (vH k p 3 x).S ((vH k p 3 x).now+min x.2.1 (18446744073709551615-(vH k p 3 x).now),p.pid)}
theorem ajn(b:Nat)(s:Ks)(k:Kn)(p:Tab.bV)(xa xb xc:Int)(w:World)(hw:KW w b s k)(hk:Fit k)(hx:iJ (8,xa,xb,xc))(h0:0<xa):
  mR (Fz k p (8,xa,xb,xc)) false b s k p (8,xa,xb,xc) w:=by
 unfold mR Fz
 have HA:=Lib.hid (fun s W h=>I_ b s k p 3 (8,xa,xb,xc) W h hk hx)
 have hS:=hk.S
 have hN:=hk.now
 have hkS:(vH k p 3 (8,xa,xb,xc)).S=k.S:=rfl
 have hkN:(vH k p 3 (8,xa,xb,xc)).now=k.now:=rfl
 generalize vH k p 3 (8,xa,xb,xc)=k1 at*
 have h0':decide (0<xa)=true:=decide_eq_true h0
 rw[←hkN] at hN
 rw[←hkS] at hS
 clear hkS hkN
 have HW:=Lib.hid hw
 have hlt:=hw.lt
 have hpv:=Tab.fq p
 rw[show Tab.je p=.agg (Tab.dS p) from rfl]
 have hx2:=hx.2.1.2
 have hx3:=hx.2.1.1
 dsimp only at hx2 hx3
 clear hw
 go_enter Tryz.func114,Tryz.ntmps114
 go_upto_block 0 with fail
 ((generalize bN:World.alloc _ _=w0);(have KP:aC w0 (w.heap.size) (Tab.dS p) 126:=bA);(have KX:aC w0 (w.heap.size+1) (#[.int .u32 8,.int .u32 xa,.int .u32 xb,.int .u32 xc]) 124:=bA);(have hb0:Below w.heap.size w w0:=bM);(have hz0:w0.heap.size=w.heap.size+1+1:=bX);(clear bN);(have KP:=Lib.hid KP);(have KX:=Lib.hid KX))
 have sF:w.heap.size+1+1≤w0.heap.size:=ah
 clear hz0
 ((try clear hcb bn hlb hnb hmb);(have aW:=HW.out.below hb0);(obtain⟨hcb,bn,hlb,hnb,hmb⟩:=aC.rules aW.box);(have jV:=Lib.hid aW);(clear aW))
 ((try clear hcp hfp hlp hnp hmp);(have bx0:=KP.out);(obtain⟨hcp,hfp,hlp,hnp,hmp⟩:=aC.rules bx0);(have oM:=Lib.hid bx0);(clear bx0))
 ((try clear hcx hfx hlx hnx hmx);(have bx0:=KX.out);(obtain⟨hcx,hfx,hlx,hnx,hmx⟩:=aC.rules bx0);(have sV:=Lib.hid bx0);(clear bx0))
 (refine bH ?_;(iterate 8 (refine bQ aB ?_));apply bR;(focus((iterate 2 (apply bJ (hid:=by decide)));(go_wp2_with fail;exact⟨rfl,rfl,rfl⟩))))
 go_wp2_with(first|((with_reducible refine bS 126 ?_);(refine aJ rfl 126 _ rfl (Tab.dS p) Tab.aX (hpv) oM.out ?_ ?_;(exact aG)))|fail)
 with_reducible refine(HA.out _ _ jV.out).mono ?_
 rintro en w1 ⟨rfl,⟨s1,Il,qo⟩,hg1⟩
 have hz1:=hg1.size
 have alm:=oM.out.lt
 have xS:=Lib.hid (oM.out.grown hg1 aR)
 have CV:=Lib.hid (sV.out.grown hg1 aR)
 have HST:=Lib.hid qo
 have nL:=Lib.hid Il
 have Pg:=Below.refl w1.heap.size w1
 clear Il qo
 ((try clear hcb bn hlb hnb hmb);(have aW:=nL.out.below Pg);(obtain⟨hcb,bn,hlb,hnb,hmb⟩:=aC.rules aW.box);(have qg:=Lib.hid aW);(clear aW))
 ((try clear hcp hfp hlp hnp hmp);(have bx0:=xS.out);(obtain⟨hcp,hfp,hlp,hnp,hmp⟩:=aC.rules bx0);(have zM:=Lib.hid bx0);(clear bx0))
 ((try clear hcx hfx hlx hnx hmx);(have bx0:=CV.out);(obtain⟨hcx,hfx,hlx,hnx,hmx⟩:=aC.rules bx0);(have OB:=Lib.hid bx0);(clear bx0))
 go_wp2_with fail
 ((refine aY (fun W=>Below w1.heap.size w1 W) (fun i=>decide (i<21)) aj ?_);
          (have hS:Below w1.heap.size w1 w1.drew:=(Below.refl _ _).drew);
          (refine tk 0 66 hS ?_);
          (refine tk 1 67 hS ?_);
          (refine tk 2 68 hS ?_);
          (refine tk 3 69 hS ?_);
          (refine tk 4 70 hS ?_);
          (refine tk 5 71 hS ?_ (hy:=Or.inl ⟨aF,abh⟩));
          (refine tk 6 72 hS ?_);
          (refine tk 7 73 hS ?_);
          (refine tk 8 74 hS ?_);
          (refine tk 9 75 hS ?_);
          (refine tk 10 76 hS ?_ (hy:=Or.inl ⟨aF,abh⟩));
          (refine tk 11 77 hS ?_);
          (refine tk 12 78 hS ?_ (hy:=Or.inl ⟨aF,abh⟩));
          (refine tk 14 80 hS ?_);
          (refine tk 15 81 hS ?_ (hy:=Or.inl ⟨aF,abh⟩));
          (refine aK 13 (oi:=⟨some 79,_,_,_,_,_⟩) rfl aj rfl (fun K hK=>?_));
          (go_simp;(with_reducible refine(Sleep.Ca k1.now xa _ hN ⟨hx3,hx2⟩).mono ?_);rintro en w4 ⟨rfl,hb4⟩;(have hS:=hS.trans (Below.mono hb4 hS.size));skip;(try go_wp2_with fail));
          (refine hK.out _ _ (fun _=>bF) ?_;clear hK K);
          (try simp only[pt]);
          (refine tk 16 82 hS ?_);
          (refine aK 17 (oi:=⟨some 83,_,_,_,_,_⟩) rfl aj rfl (fun K hK=>?_));
          (go_simp;(with_reducible refine(Sleep.TJ _ k1.S (k1.now+min xa (18446744073709551615-k1.now),p.pid) _ (nL.out.kr.S.below hS) (by have:=‹k1.S.length≤1000000000›;omega)).mono ?_);rintro en w5 ⟨v5,rfl,hs5,Iq,hb5⟩;(have hS:=hS.trans (Below.mono hb5 hS.size));(obtain⟨a5,m5,n5,rfl⟩:=hs5.is);(have ahF:=fun B (hB:B<w1.heap.size)=>(show Apart B (.slice a5 m5 n5) (Sleep.qh (Sleep.oL k1.S (k1.now+min xa (18446744073709551615-k1.now),p.pid))) from .inr fun c hc=>by have:=Iq c hc;have:=Below.size ‹Below w1.drew.heap.size w1.drew w4›;simp only[bE] at this;omega));(try go_wp2_with fail));
          (refine hK.out _ _ (fun _=>bF) ?_;clear hK K);
          (try simp only[pt]);
          (refine tk 18 84 hS ?_);
          (refine tk 19 85 hS ?_);
          (refine tk 20 86 hS ?_);
          (refine aT 21 aj ?_ rfl);
          (simp only[List.toList_toArray,List.drop_succ_cons,List.drop_zero]))
 ((try clear hcb bn hlb hnb hmb);(have aW:=nL.out.below hS);(obtain⟨hcb,bn,hlb,hnb,hmb⟩:=aC.rules aW.box);(have pU:=Lib.hid aW);(clear aW))
 have H5:=Lib.hid hs5
 have LG:=Lib.hid ahF
 clear hs5 Iq ahF hcp hfp hlp hnp hmp hcx hfx hlx hnx hmx
 go_wp2_with fail
 have hw6:=pU.out.tT H5.out
 have hz0:=hb0.size
 have hfin:j3 w b s k {s1 with S:= .slice a5 m5 n5} {k1 with S:=Sleep.oL k1.S (k1.now+min xa (18446744073709551615-k1.now),p.pid)}:=fun B hB hne h=>by
  have h1:=HST.out B ah hne h
  exact⟨h1.1,h1.2.1,h1.2.2.1,h1.2.2.2.1,⟨h1.2.2.2.2.1.1,h1.2.2.2.2.1.2.1,LG.out B ah⟩,h1.2.2.2.2.2⟩
 refine wT ?_
 simp only[Exit.then]
 exact bodyPost_ret (v:= .bool false) mG rfl ⟨rfl,⟨_,hw6,hfin⟩,aA (aA (ay hb0 (some b)) hg1) (aA (ay hS (some b)) (aM _ _ _ _))⟩
theorem Fit.want{k:Kn}(h:Fit k)(x:Int):Fit {k with want:=x}:={h with}
theorem ac5(b:Nat)(s:Ks)(k:Kn)(p:Tab.bV)(xa xb xc:Int)(w:World)(hw:KW w b s k)(hk:Fit k)(hx:iJ (20,xa,xb,xc))(h3:3≤xa):
  mR (bU k p (20,xa,xb,xc) 0 1) true b s k p (20,xa,xb,xc) w:=by
 unfold mR
 have HA:=Lib.hid (fun s W h=>fQ b s k p (20,xa,xb,xc) 0 1 W h hk (lJ jq))
 generalize bU k p (20,xa,xb,xc) 0 1=k1 at*
 have h3':decide (3≤xa)=true:=decide_eq_true h3
 have HW:=Lib.hid hw
 have hlt:=hw.lt
 have hpv:=Tab.fq p
 rw[show Tab.je p=.agg (Tab.dS p) from rfl]
 have hx2:=hx.2.1.2
 have hx3:=hx.2.1.1
 dsimp only at hx2 hx3
 clear hw
 go_enter Tryz.func114,Tryz.ntmps114
 go_upto_block 0 with fail
 ((generalize bN:World.alloc _ _=w0);(have KP:aC w0 (w.heap.size) (Tab.dS p) 126:=bA);(have KX:aC w0 (w.heap.size+1) (#[.int .u32 20,.int .u32 xa,.int .u32 xb,.int .u32 xc]) 124:=bA);(have hb0:Below w.heap.size w w0:=bM);(have hz0:w0.heap.size=w.heap.size+1+1:=bX);(clear bN);(have KP:=Lib.hid KP);(have KX:=Lib.hid KX))
 have sF:w.heap.size+1+1≤w0.heap.size:=ah
 clear hz0
 ((try clear hcb bn hlb hnb hmb);(have aW:=HW.out.below hb0);(obtain⟨hcb,bn,hlb,hnb,hmb⟩:=aC.rules aW.box);(have jV:=Lib.hid aW);(clear aW))
 ((try clear hcp hfp hlp hnp hmp);(have bx0:=KP.out);(obtain⟨hcp,hfp,hlp,hnp,hmp⟩:=aC.rules bx0);(have oM:=Lib.hid bx0);(clear bx0))
 ((try clear hcx hfx hlx hnx hmx);(have bx0:=KX.out);(obtain⟨hcx,hfx,hlx,hnx,hmx⟩:=aC.rules bx0);(have sV:=Lib.hid bx0);(clear bx0))
 (refine bH ?_;(iterate 7 (refine bQ aB ?_));apply bR;(focus((iterate 3 (apply bJ (hid:=by decide)));(go_wp2_with fail;exact⟨rfl,rfl,rfl⟩))))
 go_wp2_with(first|((with_reducible refine bS 126 ?_);(refine aJ rfl 126 _ rfl (Tab.dS p) Tab.aX (hpv) oM.out ?_ ?_;(exact aG)))|fail)
 with_reducible refine(HA.out _ _ jV.out).mono ?_
 rintro en w1 ⟨rfl,hks,hg1⟩
 go_wp2_with fail
 refine dn ?_
 go_wp2_with fail
 exact bodyPost_ret (v:= .bool true) mG rfl ⟨rfl,KS.from hks hb0.size,aA (ay hb0 (some b)) hg1⟩
theorem KS.want{w w1 w':World}{b:Nat}{s:Ks}{k k':Kn}{x:Int}(h:KS w1 b s {k with want:=x} w' k')(hz:w.heap.size≤w1.heap.size):KS w b s k w' k':=
 let⟨s',h1,h2⟩:=h;⟨s',h1,fun B hB=>h2 B (Nat.lt_of_lt_of_le hB hz)⟩
theorem ahl(b:Nat)(s:Ks)(k:Kn)(p:Tab.bV)(xa xb xc:Int)(w:World)(hw:KW w b s k)(hk:Fit k)(hx:iJ (20,xa,xb,xc))(h3:xa<3):
  mR (bU {k with want:=3+xa} p (20,xa,xb,xc) 0 0) true b s k p (20,xa,xb,xc) w:=by
 unfold mR
 have HA:=Lib.hid (fun s W h=>fQ b s {k with want:=3+xa} p (20,xa,xb,xc) 0 0 W h (hk.want _) (lJ jq))
 generalize bU {k with want:=3+xa} p (20,xa,xb,xc) 0 0=k1 at*
 have h3':decide (3≤xa)=false:=decide_eq_false ah
 have HW:=Lib.hid hw
 have hlt:=hw.lt
 have hpv:=Tab.fq p
 rw[show Tab.je p=.agg (Tab.dS p) from rfl]
 have hx2:=hx.2.1.2
 have hx3:=hx.2.1.1
 dsimp only at hx2 hx3
 clear hw
 go_enter Tryz.func114,Tryz.ntmps114
 go_upto_block 0 with fail
 ((generalize bN:World.alloc _ _=w0);(have KP:aC w0 (w.heap.size) (Tab.dS p) 126:=bA);(have KX:aC w0 (w.heap.size+1) (#[.int .u32 20,.int .u32 xa,.int .u32 xb,.int .u32 xc]) 124:=bA);(have hb0:Below w.heap.size w w0:=bM);(have hz0:w0.heap.size=w.heap.size+1+1:=bX);(clear bN);(have KP:=Lib.hid KP);(have KX:=Lib.hid KX))
 have sF:w.heap.size+1+1≤w0.heap.size:=ah
 clear hz0
 ((try clear hcb bn hlb hnb hmb);(have aW:=HW.out.below hb0);(obtain⟨hcb,bn,hlb,hnb,hmb⟩:=aC.rules aW.box);(have jV:=Lib.hid aW);(clear aW))
 ((try clear hcp hfp hlp hnp hmp);(have bx0:=KP.out);(obtain⟨hcp,hfp,hlp,hnp,hmp⟩:=aC.rules bx0);(have oM:=Lib.hid bx0);(clear bx0))
 ((try clear hcx hfx hlx hnx hmx);(have bx0:=KX.out);(obtain⟨hcx,hfx,hlx,hnx,hmx⟩:=aC.rules bx0);(have sV:=Lib.hid bx0);(clear bx0))
 (refine bH ?_;(iterate 7 (refine bQ aB ?_));apply bR;(focus((iterate 3 (apply bJ (hid:=by decide)));(go_wp2_with fail;exact⟨rfl,rfl,rfl⟩))))
 have hp0:=oM.out.lt
 go_wp2_with(first|((with_reducible refine bS 126 ?_);(generalize bN:World.setCell _ _ _=w3);(have CS:KW w3 b s {k with want:=3+xa}:=(by rw[←bN];exact jV.out.AO _));(have hg3:w0.grownBy w3 (some b):=nA);(have yN:=Lib.hid (oM.out.grown hg3 aR));(have Uj:=(sV.out.grown hg3 aR).rules.1);(have mM:=Lib.hid CS);(clear bN CS hcb bn hlb hnb hmb hcp hfp hlp hnp hmp hcx hfx hlx hnx hmx);(refine aJ rfl 126 _ rfl (Tab.dS p) Tab.aX hpv yN.out ?_ ?_;(exact aG)))|fail)
 with_reducible refine(HA.out _ _ mM.out).mono ?_
 rintro en w1 ⟨rfl,hks,hg1⟩
 go_wp2_with fail
 refine dn ?_
 go_wp2_with fail
 exact bodyPost_ret (v:= .bool true) mG rfl ⟨rfl,KS.want hks Qa,aA (aA (ay hb0 (some b)) hg3) hg1⟩
end Go.Proofs.YtgmodehldmahiaaGreatDoor
end
