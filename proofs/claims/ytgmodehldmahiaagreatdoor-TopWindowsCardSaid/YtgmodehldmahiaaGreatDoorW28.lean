/- Part 28 of 50 of the proof of topWindows_holds. Conditions: see each. -/
import Derived.Test.YtgmodehldmahiaaGreatDoorW14
import Derived.Test.YtgmodehldmahiaaGreatDoorW27
import Derived.Test.YtgmodehldmahiaaGreatDoorW17
import Derived.Test.YtgmodehldmahiaaGreatDoorW15
import Derived.Test.YtgmodehldmahiaaGreatDoorW16
import Derived.Test.YtgmodehldmahiaaGreatDoorW10
set_option linter.unusedVariables false
set_option linter.unusedSimpArgs false
set_option maxRecDepth 8192
set_option maxHeartbeats 40000000
section
namespace Go.Proofs.YtgmodehldmahiaaGreatDoor
open Go Go.RowKit Go.Tm
attribute [local go_sem] fB fA fu dR dA dQ dP dO dN dM dL dK dJ dI dH dG dF iq ig h_ g_ gZ gY gX gN gW gV fF fE fD fC eY eX eU
attribute [local go_sem] Tab.uK Tab.LM Tab.Ht
theorem ahn(b:Nat)(s:Ks)(k:Kn)(p:Tab.bV)(xa xb xc:Int)(w:World)(hw:KW w b s k)(hk:Fit k)(hx:iJ (18,xa,xb,xc)):
  mR (bU {k with want:=wrap64 (k.want+1)} p (18,xa,xb,xc) 0 0) true b s k p (18,xa,xb,xc) w:=by
 unfold mR
 have HA:=Lib.hid (fun s W h=>fQ b s {k with want:=wrap64 (k.want+1)} p (18,xa,xb,xc) 0 0 W h (hk.want _) (lJ jq))
 generalize bU {k with want:=wrap64 (k.want+1)} p (18,xa,xb,xc) 0 0=k1 at*
 have HW:=Lib.hid hw
 have hlt:=hw.lt
 have hpv:=Tab.fq p
 rw[show Tab.je p=.agg (Tab.dS p) from rfl]
 have hx2:=hx.2.1.2
 have hx3:=hx.2.1.1
 dsimp only at hx2 hx3
 clear hw
 go_enter Tryz.func114,Tryz.ntmps114
 go_upto_block 0 with fail
 ((generalize bN:World.alloc _ _=w0);(have KP:aC w0 (w.heap.size) (Tab.dS p) 126:=bA);(have KX:aC w0 (w.heap.size+1) (#[.int .u32 18,.int .u32 xa,.int .u32 xb,.int .u32 xc]) 124:=bA);(have hb0:Below w.heap.size w w0:=bM);(have hz0:w0.heap.size=w.heap.size+1+1:=bX);(clear bN);(have KP:=Lib.hid KP);(have KX:=Lib.hid KX))
 have sF:w.heap.size+1+1≤w0.heap.size:=ah
 clear hz0
 ((try clear hcb bn hlb hnb hmb);(have aW:=HW.out.below hb0);(obtain⟨hcb,bn,hlb,hnb,hmb⟩:=aC.rules aW.box);(have jV:=Lib.hid aW);(clear aW))
 ((try clear hcp hfp hlp hnp hmp);(have bx0:=KP.out);(obtain⟨hcp,hfp,hlp,hnp,hmp⟩:=aC.rules bx0);(have oM:=Lib.hid bx0);(clear bx0))
 ((try clear hcx hfx hlx hnx hmx);(have bx0:=KX.out);(obtain⟨hcx,hfx,hlx,hnx,hmx⟩:=aC.rules bx0);(have sV:=Lib.hid bx0);(clear bx0))
 (refine bH ?_;(iterate 5 (refine bQ aB ?_));apply bR;(focus((iterate 5 (apply bJ (hid:=by decide)));(go_wp2_with fail;exact⟨rfl,rfl,rfl⟩))))
 have hp0:=oM.out.lt
 go_wp2_with(first|((with_reducible refine bS 126 ?_);(generalize bN:World.setCell _ _ _=w3);(have CS:KW w3 b s {k with want:=wrap64 (k.want+1)}:=(by rw[←bN];exact jV.out.AO _));(have hg3:w0.grownBy w3 (some b):=nA);(have yN:=Lib.hid (oM.out.grown hg3 aR));(have Uj:=(sV.out.grown hg3 aR).rules.1);(have mM:=Lib.hid CS);(clear bN CS hcb bn hlb hnb hmb hcp hfp hlp hnp hmp hcx hfx hlx hnx hmx);(refine aJ rfl 126 _ rfl (Tab.dS p) Tab.aX hpv yN.out ?_ ?_;(exact aG)))|fail)
 with_reducible refine(HA.out _ _ mM.out).mono ?_
 rintro en w1 ⟨rfl,hks,hg1⟩
 go_wp2_with fail
 refine dn ?_
 go_wp2_with fail
 exact bodyPost_ret (v:= .bool true) mG rfl ⟨rfl,KS.want hks Qa,aA (aA (ay hb0 (some b)) hg3) hg1⟩
theorem ahm(b:Nat)(s:Ks)(k:Kn)(p:Tab.bV)(xa xb xc:Int)(w:World)(hw:KW w b s k)(hk:Fit k)(hx:iJ (19,xa,xb,xc)):
  mR (bU {k with want:=wrap64 (wrap64 (k.want+1)+1)} p (19,xa,xb,xc) 0 0) true b s k p (19,xa,xb,xc) w:=by
 unfold mR
 have HA:=Lib.hid (fun s W h=>fQ b s {k with want:=wrap64 (wrap64 (k.want+1)+1)} p (19,xa,xb,xc) 0 0 W h (hk.want _) (lJ jq))
 generalize bU {k with want:=wrap64 (wrap64 (k.want+1)+1)} p (19,xa,xb,xc) 0 0=k1 at*
 have HW:=Lib.hid hw
 have hlt:=hw.lt
 have hpv:=Tab.fq p
 rw[show Tab.je p=.agg (Tab.dS p) from rfl]
 have hx2:=hx.2.1.2
 have hx3:=hx.2.1.1
 dsimp only at hx2 hx3
 clear hw
 go_enter Tryz.func114,Tryz.ntmps114
 go_upto_block 0 with fail
 ((generalize bN:World.alloc _ _=w0);(have KP:aC w0 (w.heap.size) (Tab.dS p) 126:=bA);(have KX:aC w0 (w.heap.size+1) (#[.int .u32 19,.int .u32 xa,.int .u32 xb,.int .u32 xc]) 124:=bA);(have hb0:Below w.heap.size w w0:=bM);(have hz0:w0.heap.size=w.heap.size+1+1:=bX);(clear bN);(have KP:=Lib.hid KP);(have KX:=Lib.hid KX))
 have sF:w.heap.size+1+1≤w0.heap.size:=ah
 clear hz0
 ((try clear hcb bn hlb hnb hmb);(have aW:=HW.out.below hb0);(obtain⟨hcb,bn,hlb,hnb,hmb⟩:=aC.rules aW.box);(have jV:=Lib.hid aW);(clear aW))
 ((try clear hcp hfp hlp hnp hmp);(have bx0:=KP.out);(obtain⟨hcp,hfp,hlp,hnp,hmp⟩:=aC.rules bx0);(have oM:=Lib.hid bx0);(clear bx0))
 ((try clear hcx hfx hlx hnx hmx);(have bx0:=KX.out);(obtain⟨hcx,hfx,hlx,hnx,hmx⟩:=aC.rules bx0);(have sV:=Lib.hid bx0);(clear bx0))
 (refine bH ?_;(iterate 5 (refine bQ aB ?_));apply pF;(focus(apply bR;(focus((iterate 4 (apply bJ (hid:=by decide)));(go_wp2_with fail;exact⟨rfl,rfl,rfl⟩)));(go_wp2_with fail;exact⟨rfl,rfl,rfl⟩))))
 have hp0:=oM.out.lt
 go_wp2_with(first|((with_reducible refine bS 126 ?_);(generalize bN:World.setCell _ _ _=w3);(have CS:KW w3 b s {k with want:=wrap64 (wrap64 (k.want+1)+1)}:=(by rw[←bN];exact(jV.out.AO _).AO _));(have hg3:w0.grownBy w3 (some b):=XT);(have yN:=Lib.hid (oM.out.grown hg3 aR));(have Uj:=(sV.out.grown hg3 aR).rules.1);(have mM:=Lib.hid CS);(clear bN CS hcb bn hlb hnb hmb hcp hfp hlp hnp hmp hcx hfx hlx hnx hmx);(refine aJ rfl 126 _ rfl (Tab.dS p) Tab.aX hpv yN.out ?_ ?_;(exact aG)))|fail)
 with_reducible refine(HA.out _ _ mM.out).mono ?_
 rintro en w1 ⟨rfl,hks,hg1⟩
 go_wp2_with fail
 refine dn ?_
 go_wp2_with fail
 exact bodyPost_ret (v:= .bool true) mG rfl ⟨rfl,KS.want hks Qa,aA (aA (ay hb0 (some b)) hg3) hg1⟩
theorem ajp(b:Nat)(s:Ks)(k:Kn)(p:Tab.bV)(xa xb xc:Int)(w:World)(hw:KW w b s k)(hk:Fit k)(hx:iJ (5,xa,xb,xc))(hk2:Fit (mW k (Tab.bD k.P xa).1.pid 137 0)):
  mR (vI k p (5,xa,xb,xc)).1 (vI k p (5,xa,xb,xc)).2 b s k p (5,xa,xb,xc) w:=by
 unfold mR
 have HA:=Lib.hid (fun s W h=>VN b s k p (5,xa,xb,xc) W h hk hx hk2)
 generalize vI k p (5,xa,xb,xc)=k1 at*
 obtain⟨k1,on⟩:=k1
 dsimp only at HA⊢
 clear hk2
 have HW:=Lib.hid hw
 have hlt:=hw.lt
 have hpv:=Tab.fq p
 rw[show Tab.je p=.agg (Tab.dS p) from rfl]
 have hx2:=hx.2.1.2
 have hx3:=hx.2.1.1
 dsimp only at hx2 hx3
 clear hw
 go_enter Tryz.func114,Tryz.ntmps114
 go_upto_block 0 with fail
 ((generalize bN:World.alloc _ _=w0);(have KP:aC w0 (w.heap.size) (Tab.dS p) 126:=bA);(have KX:aC w0 (w.heap.size+1) (#[.int .u32 5,.int .u32 xa,.int .u32 xb,.int .u32 xc]) 124:=bA);(have hb0:Below w.heap.size w w0:=bM);(have hz0:w0.heap.size=w.heap.size+1+1:=bX);(clear bN);(have KP:=Lib.hid KP);(have KX:=Lib.hid KX))
 have sF:w.heap.size+1+1≤w0.heap.size:=ah
 clear hz0
 ((try clear hcb bn hlb hnb hmb);(have aW:=HW.out.below hb0);(obtain⟨hcb,bn,hlb,hnb,hmb⟩:=aC.rules aW.box);(have jV:=Lib.hid aW);(clear aW))
 ((try clear hcp hfp hlp hnp hmp);(have bx0:=KP.out);(obtain⟨hcp,hfp,hlp,hnp,hmp⟩:=aC.rules bx0);(have oM:=Lib.hid bx0);(clear bx0))
 ((try clear hcx hfx hlx hnx hmx);(have bx0:=KX.out);(obtain⟨hcx,hfx,hlx,hnx,hmx⟩:=aC.rules bx0);(have sV:=Lib.hid bx0);(clear bx0))
 (refine bH ?_;(iterate 4 (refine bQ aB ?_));apply bR;(focus((iterate 6 (apply bJ (hid:=by decide)));(go_wp2_with fail;exact⟨rfl,rfl,rfl⟩))))
 go_wp2_with(first|((with_reducible refine bS 126 ?_);(refine aJ rfl 126 _ rfl (Tab.dS p) Tab.aX (hpv) oM.out ?_ ?_;(exact aG)))|fail)
 with_reducible refine(HA.out _ _ jV.out).mono ?_
 rintro en w1 ⟨rfl,hks,hg1⟩
 go_wp2_with fail
 refine wT ?_
 simp only[Exit.then]
 exact bodyPost_ret (v:= .bool on) mG rfl ⟨rfl,KS.from hks hb0.size,aA (ay hb0 (some b)) hg1⟩
noncomputable def uU(k:Kn)(p:Tab.bV)(x:nW):Kn×Bool:=
 let r:=CQ (eT k (Tab.bD k.P p.pid).1 x) p.pid x
 if r.2 then(r.1,true) else(vH r.1 p 2 x,false)
theorem abb(b:Nat)(s:Ks)(k:Kn)(p:Tab.bV)(n xa xb xc:Int)(w:World)(hw:KW w b s k)(hk:Fit k)(hx:iJ (n,xa,xb,xc))
  (h1:n≠1)(h7:n≠7)(h8:n≠8)(h20:n≠20)(h19:n≠19)(h18:n≠18)(h5:n≠5)(h3:n≠3)(h2:n≠2)(Ls:n≠17)
  (hk2:Fit (eT k (Tab.bD k.P p.pid).1 (n,xa,xb,xc)).1)(hv:cK (Call.qj (eT k (Tab.bD k.P p.pid).1 (n,xa,xb,xc)).2.2 (eT k (Tab.bD k.P p.pid).1 (n,xa,xb,xc)).2.1))(hk3:Fit (CQ (eT k (Tab.bD k.P p.pid).1 (n,xa,xb,xc)) p.pid (n,xa,xb,xc)).1):
  mR (uU k p (n,xa,xb,xc)).1 (uU k p (n,xa,xb,xc)).2 b s k p (n,xa,xb,xc) w:=by
 unfold mR
 have HT:=Lib.hid (fun s W h=>I6 b s k p.pid (n,xa,xb,xc) W h hk hx hk2 hv)
 obtain⟨y,hy⟩:∃y,y=uU k p (n,xa,xb,xc):=⟨_,rfl⟩
 rw[←hy]
 unfold uU at hy
 unfold zh at HT
 dsimp only at hy
 generalize CQ (eT k (Tab.bD k.P p.pid).1 (n,xa,xb,xc)) p.pid (n,xa,xb,xc)=r at*
 obtain⟨k1,on⟩:=r
 dsimp only at HT hy hk3
 have HS:=Lib.hid (fun s W h=>I_ b s k1 p 2 (n,xa,xb,xc) W h hk3 hx)
 have HY:=Lib.hid hy
 have e1:(n==1)=false:=rH
 have e7:(n==7)=false:=by simp[h7]
 have e8:(n==8)=false:=by simp[h8]
 have e20:(n==20)=false:=by simp[h20]
 have e19:(n==19)=false:=by simp[h19]
 have e18:(n==18)=false:=by simp[h18]
 have e5:(n==5)=false:=by simp[h5]
 have e3:(n==3)=false:=o_
 have e2:(n==2)=false:=rG
 have e17:(n==17)=false:=by simp[Ls]
 clear h1 h7 h8 h20 h19 h18 h5 h3 h2 Ls hk2 hv hy
 have HW:=Lib.hid hw
 have hlt:=hw.lt
 have hpv:=Tab.fq p
 rw[show Tab.je p=.agg (Tab.dS p) from rfl]
 have hx2:=hx.2.1.2
 have hx3:=hx.2.1.1
 dsimp only at hx2 hx3
 clear hw
 go_enter Tryz.func114,Tryz.ntmps114
 go_upto_block 0 with fail
 ((generalize bN:World.alloc _ _=w0);(have KP:aC w0 (w.heap.size) (Tab.dS p) 126:=bA);(have KX:aC w0 (w.heap.size+1) (#[.int .u32 n,.int .u32 xa,.int .u32 xb,.int .u32 xc]) 124:=bA);(have hb0:Below w.heap.size w w0:=bM);(have hz0:w0.heap.size=w.heap.size+1+1:=bX);(clear bN);(have KP:=Lib.hid KP);(have KX:=Lib.hid KX))
 have sF:w.heap.size+1+1≤w0.heap.size:=ah
 clear hz0
 ((try clear hcb bn hlb hnb hmb);(have aW:=HW.out.below hb0);(obtain⟨hcb,bn,hlb,hnb,hmb⟩:=aC.rules aW.box);(have jV:=Lib.hid aW);(clear aW))
 ((try clear hcp hfp hlp hnp hmp);(have bx0:=KP.out);(obtain⟨hcp,hfp,hlp,hnp,hmp⟩:=aC.rules bx0);(have oM:=Lib.hid bx0);(clear bx0))
 ((try clear hcx hfx hlx hnx hmx);(have bx0:=KX.out);(obtain⟨hcx,hfx,hlx,hnx,hmx⟩:=aC.rules bx0);(have sV:=Lib.hid bx0);(clear bx0))
 (refine bH ?_;apply bR;(focus((iterate 10 (apply bJ (hid:=by decide)));(go_wp2_with fail;exact⟨rfl,rfl,rfl⟩))))
 go_wp2_with fail
 with_reducible refine(HT.out _ _ jV.out).mono ?_
 rintro en w1 ⟨rfl,⟨s1,Il,qo⟩,hg1⟩
 have hy:=HY.out
 have hp0:=oM.out.lt
 have hz0:=hb0.size
 have hz1:=hg1.size
 have HST:=Lib.hid (show j3 w b s k s1 k1 from fun B hB=>qo B ah)
 have nL:=Lib.hid Il
 have HG1:=Lib.hid (aA (ay hb0 (some b)) hg1)
 cases on
 ·have xS:=Lib.hid (oM.out.grown hg1 aR)
  have CV:=Lib.hid (sV.out.grown hg1 aR)
  have Uj:=CV.out.rules.1
  clear qo Il hcb bn hlb hnb hmb hcp hfp hlp hnp hmp hcx hfx hlx hnx hmx
  go_wp2_with(first|((with_reducible refine bS 126 ?_);(refine aJ rfl 126 _ rfl (Tab.dS p) Tab.aX (hpv) xS.out ?_ ?_;(exact aG)))|fail)
  with_reducible refine(HS.out _ _ nL.out).mono ?_
  rintro en w2 ⟨rfl,hks,hg2⟩
  simp only[Bool.false_eq_true,if_false] at hy
  subst hy
  go_wp2_with fail
  refine wT ?_
  simp only[Exit.then]
  exact bodyPost_ret (v:= .bool false) mG rfl ⟨rfl,KS.step HST.out (KS.from hks (Nat.le_refl _)) ah,aA HG1.out hg2⟩
 ·simp only[if_true] at hy
  subst hy
  go_wp2_with fail
  refine dn ?_
  go_wp2_with fail
  exact bodyPost_ret (v:= .bool true) mG rfl ⟨rfl,⟨s1,nL.out,HST.out⟩,HG1.out⟩
end Go.Proofs.YtgmodehldmahiaaGreatDoor
end
section
namespace Go.Proofs.YtgmodehldmahiaaGreatDoor
open Go Go.RowKit Go.Tm
attribute [local go_sem] fB fA fu dR dA dQ dP dO dN dM dL dK dJ dI dH dG dF iq ig h_ g_ gZ gY gX gN gW gV fF fE fD fC eY eX eU
attribute [local go_sem] Tab.uK Tab.LM Tab.Ht
theorem agS(pid par st:Int)(q:Pf)(hq:q.c.length=9)(x:Int):(gu pid par st q).setIfInBounds 3 (.int .u32 x)=gu pid par st {q with c:=q.c.set 0 x}:=by
 obtain⟨c,mem,code,p0,b0,p1,b1,p2,b2,p3,b3,y⟩:=q
 obtain⟨r0,r1,r2,r3,r4,r5,r6,r7,pc,rfl⟩:=Uq hq
 simp only[dz];rfl
noncomputable def mV(p:Tab.bV):Tab.bV:=yK p.pid p.pid p.st {pq p with c:=(pq p).c.set 0 0}
theorem acB(p:Tab.bV):Tab.dS (mV p)=gu p.pid p.pid p.st {pq p with c:=(pq p).c.set 0 0}:=
 C_ {iY p with c:=(iY p).c.set 0 jq}
theorem ajq(b:Nat)(s:Ks)(k:Kn)(p:Tab.bV)(xa xb xc:Int)(w:World)(hw:KW w b s k)(hk:Fit k)(hx:iJ (3,xa,xb,xc))
  (hk2:Fit (dV k (mV p)).1)(hv:cK (Call.qj (dV k (mV p)).2.2 (dV k (mV p)).2.1)):
  mR (bU (dV k (mV p)).1 p (3,xa,xb,xc) (dV k (mV p)).2.1 (dV k (mV p)).2.2) true b s k p (3,xa,xb,xc) w:=by
 unfold mR
 have HF:=Lib.hid (fun s W h=>Cr b s k (mV p) W h hk)
 have hfc:=acB p
 have WO:=Tab.fq (mV p)
 generalize dV k (mV p)=r at*
 obtain⟨k1,r1,r2⟩:=r
 dsimp only at HF hk2 hv⊢
 have HA:=Lib.hid (fun s W h=>fQ b s k1 p (3,xa,xb,xc) r1 r2 W h hk2 hv)
 generalize bU k1 p (3,xa,xb,xc) r1 r2=k2 at*
 generalize mV p=q at*
 have hql:=(iY p).c.len
 have hpc:=sW p
 have HFC:=Lib.hid (show((Tab.dS p).setIfInBounds 1 (.int .i64 p.pid)).setIfInBounds 3 (.int .u32 0)=Tab.dS q by rw[hfc,hpc,agT,agS _ _ _ _ hql])
 clear hk2 hv hfc hpc
 have HW:=Lib.hid hw
 have hlt:=hw.lt
 have hpv:=Tab.fq p
 rw[show Tab.je p=.agg (Tab.dS p) from rfl]
 have hx2:=hx.2.1.2
 have hx3:=hx.2.1.1
 dsimp only at hx2 hx3
 clear hw
 go_enter Tryz.func114,Tryz.ntmps114
 go_upto_block 0 with fail
 ((generalize bN:World.alloc _ _=w0);(have KP:aC w0 (w.heap.size) (Tab.dS p) 126:=bA);(have KX:aC w0 (w.heap.size+1) (#[.int .u32 3,.int .u32 xa,.int .u32 xb,.int .u32 xc]) 124:=bA);(have hb0:Below w.heap.size w w0:=bM);(have hz0:w0.heap.size=w.heap.size+1+1:=bX);(clear bN);(have KP:=Lib.hid KP);(have KX:=Lib.hid KX))
 have sF:w.heap.size+1+1≤w0.heap.size:=ah
 clear hz0
 ((try clear hcb bn hlb hnb hmb);(have aW:=HW.out.below hb0);(obtain⟨hcb,bn,hlb,hnb,hmb⟩:=aC.rules aW.box);(have jV:=Lib.hid aW);(clear aW))
 ((try clear hcp hfp hlp hnp hmp);(have bx0:=KP.out);(obtain⟨hcp,hfp,hlp,hnp,hmp⟩:=aC.rules bx0);(have oM:=Lib.hid bx0);(clear bx0))
 ((try clear hcx hfx hlx hnx hmx);(have bx0:=KX.out);(obtain⟨hcx,hfx,hlx,hnx,hmx⟩:=aC.rules bx0);(have sV:=Lib.hid bx0);(clear bx0))
 (refine bH ?_;(iterate 3 (refine bQ aB ?_));apply bR;(focus((iterate 7 (apply bJ (hid:=by decide)));(go_wp2_with fail;exact⟨rfl,rfl,rfl⟩))))
 have hp0:=oM.out.lt
 have aj5:=(hcp 0).trans (Tab.uK p)
 have hps:=Tab.jd p
 clear hcp
 go_wp2_with(first|((with_reducible refine bS 126 ?_);(refine aJ rfl 126 _ rfl (Tab.dS p) Tab.aX (hpv) oM.out ?_ ?_;(exact aG)))|((with_reducible refine bO 126 ?_);(refine aU rfl 126 _ _ rfl (Tab.dS p) Tab.aX (hpv) aF ?_ ?_ ?_;(exact aG);(exact aG)))|((with_reducible refine bS 126 ?_);(generalize bN:World.alloc _ _=w3);(have K3:aC w3 w0.heap.size (Tab.dS q) 126:=(by rw[←bN];first|exact((((aC.new w0 _ 126).set 1 _).set 3 _).cast HFC.out)|exact((aC.new w0 _ 126).cast HFC.out)));(have hbx:Below w0.heap.size w0 w3:=bM);(have KQ3:=Lib.hid K3);(clear K3 bN);(try clear hcb bn);(try clear aj5 hps);(try clear hcx hfx);(refine aJ rfl 126 _ rfl (Tab.dS q) Tab.aX WO KQ3.out ?_ ?_;(exact aG)))|fail)
 with_reducible refine(HF.out _ _ (jV.out.below hbx)).mono ?_
 rintro en w1 ⟨rfl,⟨s1,Il,qo⟩,hg1⟩
 have hz0:=hb0.size
 have hz1:=hg1.size
 have hzx:=hbx.size
 have HST:=Lib.hid (show j3 w b s k s1 k1 from fun B hB=>qo B adi)
 have nL:=Lib.hid Il
 have HG1:=Lib.hid (aA (ay (hb0.trans (hbx.mono hz0)) (some b)) hg1)
 have xS:=Lib.hid ((oM.out.below hbx hp0).grown hg1 aR)
 have CV:=Lib.hid ((sV.out.below hbx sV.out.lt).grown hg1 aR)
 have Uj:=CV.out.rules.1
 clear qo Il
 go_wp2_with(first|((with_reducible refine bS 126 ?_);(refine aJ rfl 126 _ rfl (Tab.dS p) Tab.aX (hpv) xS.out ?_ ?_;(exact aG)))|fail)
 with_reducible refine(HA.out _ _ nL.out).mono ?_
 rintro en w2 ⟨rfl,hks,hg2⟩
 go_wp2_with fail
 refine dn ?_
 go_wp2_with fail
 exact bodyPost_ret (v:= .bool true) mG rfl ⟨rfl,KS.step HST.out (KS.from hks (Nat.le_refl _)) ah,aA HG1.out hg2⟩
def Fq(m:ByteArray):Pf:=⟨[0,0,0,0,0,0,0,0,0],m,0,0,false,0,false,0,false,0,false,(0,0,0,0)⟩
theorem Ux{m:ByteArray}(h:m.size≤maxLen):(Fq m).Ok:=
 ⟨⟨rfl,by intro x hx;simp[Fq] at hx;subst hx;exact jq⟩,h,rfl,rfl,rfl,rfl,rfl,aga⟩
noncomputable def newP(par:Int)(m:ByteArray):Tab.bV:=yK 0 par 0 (Fq m)
theorem Zk(par:Int){m:ByteArray}(h:m.size≤maxLen):Tab.je (newP par m)=.agg #[.int .i64 0,.int .i64 par,.int .i64 0,.int .u32 0,.int .u32 0,.int .u32 0,.int .u32 0,.int .u32 0,.int .u32 0,.int .u32 0,.int .u32 0,.int .u32 0,.string m,.int .i64 0,.int .i64 0,.bool false,.int .i64 0,.bool false,.int .i64 0,.bool false,.int .i64 0,.bool false,.int .u32 0,.int .u32 0,.int .u32 0,.int .u32 0]:=by
 unfold newP
 rw[show Tab.je (yK 0 par 0 (Fq m))=.agg (Tab.dS (yK 0 par 0 (Fq m))) from rfl,C_ (Ux h),dz];rfl
theorem ajr(b:Nat)(s:Ks)(k:Kn)(p:Tab.bV)(xa xb xc:Int)(w:World)(hw:KW w b s k)(hk:Fit k)(hx:iJ (2,xa,xb,xc))(he:(bY k xa).2=0)(hm:(bY k xa).1.size≤maxLen)
  (hk2:Fit (dV k (newP p.pid (bY k xa).1)).1)(hv:cK (Call.qj (dV k (newP p.pid (bY k xa).1)).2.2 (dV k (newP p.pid (bY k xa).1)).2.1)):
  mR (bU (dV k (newP p.pid (bY k xa).1)).1 p (2,xa,xb,xc) (dV k (newP p.pid (bY k xa).1)).2.1 (dV k (newP p.pid (bY k xa).1)).2.2) true b s k p (2,xa,xb,xc) w:=by
 unfold mR
 have HI:=Lib.hid (fun s W h=>uw b s k xa W h hk hx.2.1)
 have HF:=Lib.hid (fun s W h=>Cr b s k (newP p.pid (bY k xa).1) W h hk)
 rw[Zk p.pid hm] at HF
 generalize dV k (newP p.pid (bY k xa).1)=r at*
 obtain⟨k1,r1,r2⟩:=r
 dsimp only at HF hk2 hv⊢
 have HA:=Lib.hid (fun s W h=>fQ b s k1 p (2,xa,xb,xc) r1 r2 W h hk2 hv)
 generalize bU k1 p (2,xa,xb,xc) r1 r2=k2 at*
 generalize bY k xa=im at*
 obtain⟨im,e⟩:=im
 dsimp only at he HI HF
 subst he
 clear hk2 hv hm
 have HW:=Lib.hid hw
 have hlt:=hw.lt
 have hpv:=Tab.fq p
 rw[show Tab.je p=.agg (Tab.dS p) from rfl]
 have hx2:=hx.2.1.2
 have hx3:=hx.2.1.1
 dsimp only at hx2 hx3
 clear hw
 go_enter Tryz.func114,Tryz.ntmps114
 go_upto_block 0 with fail
 ((generalize bN:World.alloc _ _=w0);(have KP:aC w0 (w.heap.size) (Tab.dS p) 126:=bA);(have KX:aC w0 (w.heap.size+1) (#[.int .u32 2,.int .u32 xa,.int .u32 xb,.int .u32 xc]) 124:=bA);(have hb0:Below w.heap.size w w0:=bM);(have hz0:w0.heap.size=w.heap.size+1+1:=bX);(clear bN);(have KP:=Lib.hid KP);(have KX:=Lib.hid KX))
 have sF:w.heap.size+1+1≤w0.heap.size:=ah
 clear hz0
 ((try clear hcb bn hlb hnb hmb);(have aW:=HW.out.below hb0);(obtain⟨hcb,bn,hlb,hnb,hmb⟩:=aC.rules aW.box);(have jV:=Lib.hid aW);(clear aW))
 ((try clear hcp hfp hlp hnp hmp);(have bx0:=KP.out);(obtain⟨hcp,hfp,hlp,hnp,hmp⟩:=aC.rules bx0);(have oM:=Lib.hid bx0);(clear bx0))
 ((try clear hcx hfx hlx hnx hmx);(have bx0:=KX.out);(obtain⟨hcx,hfx,hlx,hnx,hmx⟩:=aC.rules bx0);(have sV:=Lib.hid bx0);(clear bx0))
 (refine bH ?_;(iterate 2 (refine bQ aB ?_));apply bR;(focus((iterate 8 (apply bJ (hid:=by decide)));(go_wp2_with fail;exact⟨rfl,rfl,rfl⟩))))
 have hp0:=oM.out.lt
 go_wp2_with fail
 with_reducible refine(HI.out _ _ jV.out).mono ?_
 rintro en wi ⟨rfl,hbx⟩
 have hzx:=hbx.size
 have KWI:=Lib.hid (jV.out.below hbx)
 have hbi:=Below.refl wi.heap.size wi
 have KPI:=Lib.hid (oM.out.below hbx hp0)
 clear hcb bn hlb hnb hmb hcp hfp hlp hnp hmp
 ((try clear hcp hfp hlp hnp hmp);(have bx0:=KPI.out);(obtain⟨hcp,hfp,hlp,hnp,hmp⟩:=aC.rules bx0);(have KPJ:=Lib.hid bx0);(clear bx0))
 go_wp2_with fail
 with_reducible refine(HF.out _ _ KWI.out).mono ?_
 rintro en w1 ⟨rfl,⟨s1,Il,qo⟩,hg1⟩
 have hz0:=hb0.size
 have hz1:=hg1.size
 try simp only[World.size_alloc] at hz1
 have HST:=Lib.hid (show j3 w b s k s1 k1 from fun B hB=>qo B adi)
 have nL:=Lib.hid Il
 have HG1:=Lib.hid (aA (ay (hb0.trans (hbx.mono hz0)) (some b)) hg1)
 have xS:=Lib.hid ((oM.out.below hbx hp0).grown hg1 aR)
 have CV:=Lib.hid ((sV.out.below hbx sV.out.lt).grown hg1 aR)
 have Uj:=CV.out.rules.1
 clear qo Il hcp hfp hlp hnp hmp hcx hfx hlx hnx hmx
 go_wp2_with(first|((with_reducible refine bS 126 ?_);(refine aJ rfl 126 _ rfl (Tab.dS p) Tab.aX (hpv) xS.out ?_ ?_;(exact aG)))|fail)
 with_reducible refine(HA.out _ _ nL.out).mono ?_
 rintro en w2 ⟨rfl,hks,hg2⟩
 go_wp2_with fail
 refine dn ?_
 go_wp2_with fail
 exact bodyPost_ret (v:= .bool true) mG rfl ⟨rfl,KS.step HST.out (KS.from hks (Nat.le_refl _)) ah,aA HG1.out hg2⟩
theorem ahk(b:Nat)(s:Ks)(k:Kn)(p:Tab.bV)(xa xb xc:Int)(w:World)(hw:KW w b s k)(hk:Fit k)(hx:iJ (2,xa,xb,xc))(he:(bY k xa).2≠0):
  mR (bU k p (2,xa,xb,xc) 0 (bY k xa).2) true b s k p (2,xa,xb,xc) w:=by
 unfold mR
 have HI:=Lib.hid (fun s W h=>uw b s k xa W h hk hx.2.1)
 generalize bY k xa=im at*
 obtain⟨im,e⟩:=im
 dsimp only at he HI⊢
 have HA:=Lib.hid (fun s W h=>fQ b s k p (2,xa,xb,xc) 0 e W h hk (lJ jq))
 generalize bU k p (2,xa,xb,xc) 0 e=k1 at*
 have e0:(e==0)=false:=by simp[he]
 clear he
 have HW:=Lib.hid hw
 have hlt:=hw.lt
 have hpv:=Tab.fq p
 rw[show Tab.je p=.agg (Tab.dS p) from rfl]
 have hx2:=hx.2.1.2
 have hx3:=hx.2.1.1
 dsimp only at hx2 hx3
 clear hw
 go_enter Tryz.func114,Tryz.ntmps114
 go_upto_block 0 with fail
 ((generalize bN:World.alloc _ _=w0);(have KP:aC w0 (w.heap.size) (Tab.dS p) 126:=bA);(have KX:aC w0 (w.heap.size+1) (#[.int .u32 2,.int .u32 xa,.int .u32 xb,.int .u32 xc]) 124:=bA);(have hb0:Below w.heap.size w w0:=bM);(have hz0:w0.heap.size=w.heap.size+1+1:=bX);(clear bN);(have KP:=Lib.hid KP);(have KX:=Lib.hid KX))
 have sF:w.heap.size+1+1≤w0.heap.size:=ah
 clear hz0
 ((try clear hcb bn hlb hnb hmb);(have aW:=HW.out.below hb0);(obtain⟨hcb,bn,hlb,hnb,hmb⟩:=aC.rules aW.box);(have jV:=Lib.hid aW);(clear aW))
 ((try clear hcp hfp hlp hnp hmp);(have bx0:=KP.out);(obtain⟨hcp,hfp,hlp,hnp,hmp⟩:=aC.rules bx0);(have oM:=Lib.hid bx0);(clear bx0))
 ((try clear hcx hfx hlx hnx hmx);(have bx0:=KX.out);(obtain⟨hcx,hfx,hlx,hnx,hmx⟩:=aC.rules bx0);(have sV:=Lib.hid bx0);(clear bx0))
 (refine bH ?_;(iterate 2 (refine bQ aB ?_));apply bR;(focus((iterate 8 (apply bJ (hid:=by decide)));(go_wp2_with fail;exact⟨rfl,rfl,rfl⟩))))
 have hp0:=oM.out.lt
 go_wp2_with fail
 with_reducible refine(HI.out _ _ jV.out).mono ?_
 rintro en wi ⟨rfl,hbx⟩
 have hbi:=hb0.trans (hbx.mono hb0.size)
 have KWI:=Lib.hid (jV.out.below hbx)
 have KPI:=Lib.hid (oM.out.below hbx hp0)
 have KXI:=Lib.hid (sV.out.below hbx sV.out.lt)
 clear hcb bn hlb hnb hmb hcp hfp hlp hnp hmp hcx hfx hlx hnx hmx
 ((try clear hcx hfx hlx hnx hmx);(have bx0:=KXI.out);(obtain⟨hcx,hfx,hlx,hnx,hmx⟩:=aC.rules bx0);(have KXJ:=Lib.hid bx0);(clear bx0))
 go_wp2_with(first|((with_reducible refine bS 126 ?_);(refine aJ rfl 126 _ rfl (Tab.dS p) Tab.aX (hpv) KPI.out ?_ ?_;(exact aG)))|fail)
 with_reducible refine(HA.out _ _ KWI.out).mono ?_
 rintro en w1 ⟨rfl,hks,hg1⟩
 go_wp2_with fail
 refine dn ?_
 go_wp2_with fail
 exact bodyPost_ret (v:= .bool true) mG rfl ⟨rfl,KS.from hks hbi.size,aA (ay hbi (some b)) hg1⟩
end Go.Proofs.YtgmodehldmahiaaGreatDoor
end
section
namespace Go.Proofs.YtgmodehldmahiaaGreatDoor
open Go Go.RowKit Go.Tm
attribute [local go_sem] fB fA fu dR dA dQ dP dO dN dM dL dK dJ dI dH dG dF iq ig h_ g_ gZ gY gX gN gW gV fF fE fD fC eY eX eU
attribute [local go_sem] Tab.uK Tab.LM Tab.Ht
theorem ac6(b:Nat)(s:Ks)(k:Kn)(p:Tab.bV)(xa xb xc:Int)(w:World)(hw:KW w b s k)(hk:Fit k)(hx:iJ (17,xa,xb,xc))(he:(bY k xa).2≠0):
  mR (bU k p (17,xa,xb,xc) 0 (bY k xa).2) true b s k p (17,xa,xb,xc) w:=by
 unfold mR
 have HI:=Lib.hid (fun s W h=>uw b s k xa W h hk hx.2.1)
 generalize bY k xa=im at*
 obtain⟨im,e⟩:=im
 dsimp only at he HI⊢
 have HA:=Lib.hid (fun s W h=>fQ b s k p (17,xa,xb,xc) 0 e W h hk (lJ jq))
 generalize bU k p (17,xa,xb,xc) 0 e=k1 at*
 have e0:(e==0)=false:=by simp[he]
 clear he
 have HW:=Lib.hid hw
 have hlt:=hw.lt
 have hpv:=Tab.fq p
 rw[show Tab.je p=.agg (Tab.dS p) from rfl]
 have hx2:=hx.2.1.2
 have hx3:=hx.2.1.1
 dsimp only at hx2 hx3
 clear hw
 go_enter Tryz.func114,Tryz.ntmps114
 go_upto_block 0 with fail
 ((generalize bN:World.alloc _ _=w0);(have KP:aC w0 (w.heap.size) (Tab.dS p) 126:=bA);(have KX:aC w0 (w.heap.size+1) (#[.int .u32 17,.int .u32 xa,.int .u32 xb,.int .u32 xc]) 124:=bA);(have hb0:Below w.heap.size w w0:=bM);(have hz0:w0.heap.size=w.heap.size+1+1:=bX);(clear bN);(have KP:=Lib.hid KP);(have KX:=Lib.hid KX))
 have sF:w.heap.size+1+1≤w0.heap.size:=ah
 clear hz0
 ((try clear hcb bn hlb hnb hmb);(have aW:=HW.out.below hb0);(obtain⟨hcb,bn,hlb,hnb,hmb⟩:=aC.rules aW.box);(have jV:=Lib.hid aW);(clear aW))
 ((try clear hcp hfp hlp hnp hmp);(have bx0:=KP.out);(obtain⟨hcp,hfp,hlp,hnp,hmp⟩:=aC.rules bx0);(have oM:=Lib.hid bx0);(clear bx0))
 ((try clear hcx hfx hlx hnx hmx);(have bx0:=KX.out);(obtain⟨hcx,hfx,hlx,hnx,hmx⟩:=aC.rules bx0);(have sV:=Lib.hid bx0);(clear bx0))
 (refine bH ?_;refine bQ aB ?_;apply bR;(focus((iterate 9 (apply bJ (hid:=by decide)));(go_wp2_with fail;exact⟨rfl,rfl,rfl⟩))))
 have hp0:=oM.out.lt
 go_wp2_with fail
 with_reducible refine(HI.out _ _ jV.out).mono ?_
 rintro en wi ⟨rfl,hbx⟩
 have hbi:=hb0.trans (hbx.mono hb0.size)
 have KWI:=Lib.hid (jV.out.below hbx)
 have KPI:=Lib.hid (oM.out.below hbx hp0)
 have KXI:=Lib.hid (sV.out.below hbx sV.out.lt)
 clear hcb bn hlb hnb hmb hcp hfp hlp hnp hmp hcx hfx hlx hnx hmx
 ((try clear hcx hfx hlx hnx hmx);(have bx0:=KXI.out);(obtain⟨hcx,hfx,hlx,hnx,hmx⟩:=aC.rules bx0);(have KXJ:=Lib.hid bx0);(clear bx0))
 go_wp2_with(first|((with_reducible refine bS 126 ?_);(refine aJ rfl 126 _ rfl (Tab.dS p) Tab.aX (hpv) KPI.out ?_ ?_;(exact aG)))|fail)
 with_reducible refine(HA.out _ _ KWI.out).mono ?_
 rintro en w1 ⟨rfl,hks,hg1⟩
 go_wp2_with fail
 refine dn ?_
 go_wp2_with fail
 exact bodyPost_ret (v:= .bool true) mG rfl ⟨rfl,KS.from hks hbi.size,aA (ay hbi (some b)) hg1⟩
def z9:List Int:=[0,0,0,0,0,0,0,0,0]
theorem aiM:fO z9:=⟨rfl,by intro x hx;simp[z9] at hx;subst hx;exact jq⟩
noncomputable def Ak(p:Tab.bV)(m:ByteArray):Tab.bV:=yK p.pid p.par p.st {pq p with mem:=m,c:=z9}
theorem acD(p:Tab.bV){m:ByteArray}(h:m.size≤maxLen):Tab.dS (Ak p m)=gu p.pid p.par p.st {pq p with mem:=m,c:=z9}:=
 C_ {iY p with mem:=h,c:=aiM}
theorem Zz:(Value.agg #[.int .u32 0,.int .u32 0,.int .u32 0,.int .u32 0,.int .u32 0,.int .u32 0,.int .u32 0,.int .u32 0,.int .u32 0]).cells=(jm z9).cells:=by
 rw[show(jm z9).cells=dY z9 from rfl,gK];rfl
theorem agt:Val true 9 (.agg #[.int .u32 0,.int .u32 0,.int .u32 0,.int .u32 0,.int .u32 0,.int .u32 0,.int .u32 0,.int .u32 0,.int .u32 0]):=⟨_,rfl,rfl,by intro x hx;simp at hx;subst hx;rfl⟩
theorem Rt(p:Tab.bV){m:ByteArray}(h:m.size≤maxLen):((((Tab.dS p).setIfInBounds 12 (.string m)).toList.take 3++(Value.agg #[.int .u32 0,.int .u32 0,.int .u32 0,.int .u32 0,.int .u32 0,.int .u32 0,.int .u32 0,.int .u32 0,.int .u32 0]).cells.toList++((Tab.dS p).setIfInBounds 12 (.string m)).toList.drop (3+9)).toArray)=Tab.dS (Ak p m):=by
 rw[acD p h,Zz,sW p,Ky,FU]
theorem aho(b:Nat)(s:Ks)(k:Kn)(p:Tab.bV)(xa xb xc:Int)(w:World)(hw:KW w b s k)(hk:Fit k)(hx:iJ (17,xa,xb,xc))(he:(bY k xa).2=0)(hm:(bY k xa).1.size≤maxLen):
  mR (bU k (Ak p (bY k xa).1) (17,xa,xb,xc) 0 0) true b s k p (17,xa,xb,xc) w:=by
 unfold mR
 have HI:=Lib.hid (fun s W h=>uw b s k xa W h hk hx.2.1)
 generalize bY k xa=im at*
 obtain⟨im,e⟩:=im
 dsimp only at he HI hm⊢
 subst he
 have HA:=Lib.hid (fun s W h=>fQ b s k (Ak p im) (17,xa,xb,xc) 0 0 W h hk (lJ jq))
 generalize bU k (Ak p im) (17,xa,xb,xc) 0 0=k1 at*
 have hec:=Rt p hm
 have hev:=Tab.fq (Ak p im)
 generalize Ak p im=p2 at*
 have HEC:=Lib.hid hec
 clear hec hm
 have HW:=Lib.hid hw
 have hlt:=hw.lt
 have hpv:=Tab.fq p
 rw[show Tab.je p=.agg (Tab.dS p) from rfl]
 have hx2:=hx.2.1.2
 have hx3:=hx.2.1.1
 dsimp only at hx2 hx3
 clear hw
 go_enter Tryz.func114,Tryz.ntmps114
 go_upto_block 0 with fail
 ((generalize bN:World.alloc _ _=w0);(have KP:aC w0 (w.heap.size) (Tab.dS p) 126:=bA);(have KX:aC w0 (w.heap.size+1) (#[.int .u32 17,.int .u32 xa,.int .u32 xb,.int .u32 xc]) 124:=bA);(have hb0:Below w.heap.size w w0:=bM);(have hz0:w0.heap.size=w.heap.size+1+1:=bX);(clear bN);(have KP:=Lib.hid KP);(have KX:=Lib.hid KX))
 have sF:w.heap.size+1+1≤w0.heap.size:=ah
 clear hz0
 ((try clear hcb bn hlb hnb hmb);(have aW:=HW.out.below hb0);(obtain⟨hcb,bn,hlb,hnb,hmb⟩:=aC.rules aW.box);(have jV:=Lib.hid aW);(clear aW))
 ((try clear hcp hfp hlp hnp hmp);(have bx0:=KP.out);(obtain⟨hcp,hfp,hlp,hnp,hmp⟩:=aC.rules bx0);(have oM:=Lib.hid bx0);(clear bx0))
 ((try clear hcx hfx hlx hnx hmx);(have bx0:=KX.out);(obtain⟨hcx,hfx,hlx,hnx,hmx⟩:=aC.rules bx0);(have sV:=Lib.hid bx0);(clear bx0))
 (refine bH ?_;refine bQ aB ?_;apply bR;(focus((iterate 9 (apply bJ (hid:=by decide)));(go_wp2_with fail;exact⟨rfl,rfl,rfl⟩))))
 have hp0:=oM.out.lt
 go_wp2_with fail
 with_reducible refine(HI.out _ _ jV.out).mono ?_
 rintro en wi ⟨rfl,hbx⟩
 have hz0:=hb0.size
 have hzx:=hbx.size
 have hbi:=hb0.trans (hbx.mono hb0.size)
 have KPI:=Lib.hid (oM.out.below hbx hp0)
 have KXI:=Lib.hid (sV.out.below hbx sV.out.lt)
 clear hcb bn hlb hnb hmb hcp hfp hlp hnp hmp hcx hfx hlx hnx hmx
 ((try clear hcp hfp hlp hnp hmp);(have bx0:=KPI.out);(obtain⟨hcp,hfp,hlp,hnp,hmp⟩:=aC.rules bx0);(have KPJ:=Lib.hid bx0);(clear bx0))
 have hps:=Tab.jd p
 have hzv:=agt
 go_wp2_with(first|((with_reducible refine bO 119 ?_);(refine aN rfl 119 _ _ rfl (KPI.out.set 12 (.string im)) (.agg #[.int .u32 0,.int .u32 0,.int .u32 0,.int .u32 0,.int .u32 0,.int .u32 0,.int .u32 0,.int .u32 0,.int .u32 0]) iC (hzv) ?_ (Tab.dS p2) HEC.out ?_ ?_ ?_;(exact fK);(exact aG);(exact aG);(intro w3 bp3 hg3 hz3 hb3;(have KQ3:=Lib.hid bp3);(have af9:Below w.heap.size w w3:=(Below.setCell hbi (Nat.le_refl _) _).trans hb3);(have LC:=Lib.hid ((KXI.out.other _ _ aI).grown hg3 aI));(have Uj:=LC.out.rules.1);(clear bp3 hcp hfp hlp hnp hmp))))|((with_reducible refine bS 126 ?_);(refine aJ rfl 126 _ rfl (Tab.dS p2) Tab.aX (hev) KQ3.out ?_ ?_;(exact aG)))|fail)
 with_reducible refine(HA.out _ _ (HW.out.below af9)).mono ?_
 rintro en w4 ⟨rfl,hks,hg4⟩
 go_wp2_with fail
 refine dn ?_
 go_wp2_with fail
 exact bodyPost_ret (v:= .bool true) mG rfl ⟨rfl,KS.from hks af9.size,aA (ay af9 (some b)) hg4⟩
noncomputable def zZ(k:Kn)(p:Tab.bV)(x:nW):Kn×Bool:=
 if x.1=1 then(mW k p.pid (x.2.1%256) 0,false)
 else if x.1=7 then(Fu (bU k p x 0 0),false)
 else if x.1=8 then(if 0<x.2.1 then(Fz k p x,false) else(bU k p x 0 0,true))
 else if x.1=20 then(if 3≤x.2.1 then(bU k p x 0 1,true) else(bU {k with want:=3+x.2.1} p x 0 0,true))
 else if x.1=19 then(bU {k with want:=wrap64 (wrap64 (k.want+1)+1)} p x 0 0,true)
 else if x.1=18 then(bU {k with want:=wrap64 (k.want+1)} p x 0 0,true)
 else if x.1=5 then vI k p x
 else if x.1=3 then(bU (dV k (mV p)).1 p x (dV k (mV p)).2.1 (dV k (mV p)).2.2,true)
 else if x.1=2 then(if(bY k x.2.1).2=0 then(bU (dV k (newP p.pid (bY k x.2.1).1)).1 p x (dV k (newP p.pid (bY k x.2.1).1)).2.1 (dV k (newP p.pid (bY k x.2.1).1)).2.2,true) else(bU k p x 0 (bY k x.2.1).2,true))
 else if x.1=17 then(if(bY k x.2.1).2=0 then(bU k (Ak p (bY k x.2.1).1) x 0 0,true) else(bU k p x 0 (bY k x.2.1).2,true))
 else uU k p x
structure Kk(k:Kn)(p:Tab.bV)(x:nW):Prop where
 kill:x.1=5→Fit (mW k (Tab.bD k.P x.2.1).1.pid 137 0)
 fork:x.1=3→Fit (dV k (mV p)).1∧cK (Call.qj (dV k (mV p)).2.2 (dV k (mV p)).2.1)
 spawn:x.1=2→(bY k x.2.1).2=0→Fit (dV k (newP p.pid (bY k x.2.1).1)).1∧cK (Call.qj (dV k (newP p.pid (bY k x.2.1).1)).2.2 (dV k (newP p.pid (bY k x.2.1).1)).2.1)
 size:(bY k x.2.1).1.size≤maxLen
 does:Fit (eT k (Tab.bD k.P p.pid).1 x).1
 val:cK (Call.qj (eT k (Tab.bD k.P p.pid).1 x).2.2 (eT k (Tab.bD k.P p.pid).1 x).2.1)
 tried:Fit (CQ (eT k (Tab.bD k.P p.pid).1 x) p.pid x).1
theorem aa'(b:Nat)(s:Ks)(k:Kn)(p:Tab.bV)(x:nW)(w:World)(hw:KW w b s k)(hk:Fit k)(hx:iJ x)(hf:Kk k p x):
  mR (zZ k p x).1 (zZ k p x).2 b s k p x w:=by
 obtain⟨n,xa,xb,xc⟩:=x
 unfold zZ
 dsimp only
 by_cases h1:n=1
 ·rw[if_pos h1];subst h1;exact ajs b s k p xa xb xc w hw hk hx
 rw[if_neg h1]
 by_cases h7:n=7
 ·rw[if_pos h7];subst h7;exact ajo b s k p xa xb xc w hw hk hx
 rw[if_neg h7]
 by_cases h8:n=8
 ·rw[if_pos h8];subst h8
  by_cases h0:0<xa
  ·rw[if_pos h0];exact ajn b s k p xa xb xc w hw hk hx h0
  ·rw[if_neg h0]
   obtain rfl:xa=0:=by have:=hx.2.1.1;dsimp only at this;omega
   exact ahj b s k p xb xc w hw hk hx
 rw[if_neg h8]
 by_cases h20:n=20
 ·rw[if_pos h20];subst h20
  by_cases h0:3≤xa
  ·rw[if_pos h0];exact ac5 b s k p xa xb xc w hw hk hx h0
  ·rw[if_neg h0];exact ahl b s k p xa xb xc w hw hk hx ah
 rw[if_neg h20]
 by_cases h19:n=19
 ·rw[if_pos h19];subst h19;exact ahm b s k p xa xb xc w hw hk hx
 rw[if_neg h19]
 by_cases h18:n=18
 ·rw[if_pos h18];subst h18;exact ahn b s k p xa xb xc w hw hk hx
 rw[if_neg h18]
 by_cases h5:n=5
 ·rw[if_pos h5];subst h5;exact ajp b s k p xa xb xc w hw hk hx (hf.kill rfl)
 rw[if_neg h5]
 by_cases h3:n=3
 ·rw[if_pos h3];subst h3;exact ajq b s k p xa xb xc w hw hk hx (hf.fork rfl).1 (hf.fork rfl).2
 rw[if_neg h3]
 by_cases h2:n=2
 ·rw[if_pos h2];subst h2
  by_cases h0:(bY k xa).2=0
  ·rw[if_pos h0];exact ajr b s k p xa xb xc w hw hk hx h0 hf.size (hf.spawn rfl h0).1 (hf.spawn rfl h0).2
  ·rw[if_neg h0];exact ahk b s k p xa xb xc w hw hk hx h0
 rw[if_neg h2]
 by_cases Ls:n=17
 ·rw[if_pos Ls];subst Ls
  by_cases h0:(bY k xa).2=0
  ·rw[if_pos h0];exact aho b s k p xa xb xc w hw hk hx h0 hf.size
  ·rw[if_neg h0];exact ac6 b s k p xa xb xc w hw hk hx h0
 rw[if_neg Ls]
 exact abb b s k p n xa xb xc w hw hk hx h1 h7 h8 h20 h19 h18 h5 h3 h2 Ls hf.does hf.val hf.tried
end Go.Proofs.YtgmodehldmahiaaGreatDoor
end
section
namespace Go.Proofs.YtgmodehldmahiaaGreatDoor
open Go Go.RowKit Go.Tm
theorem aV(c:List Int){i:Nat}(h:i<9):(dY c)[i]?=some (.int .u32 (c.getD i 0)):=by
 rw[gK]
 exact aeh
theorem ug{c:List Int}(hl:c.length=9){i:Nat}(h:i<9)(x:Int):(dY c).setIfInBounds i (.int .u32 x)=dY (c.set i x):=by
 obtain⟨r0,r1,r2,r3,r4,r5,r6,r7,pc,rfl⟩:=Uq hl
 rw[gK,gK]
 exact aeh
theorem pQ(z c:List Int):((dY z).toList.take 0++(jm c).cells.toList++(dY z).toList.drop (0+9)).toArray=dY c:=by
 rw[List.drop_eq_nil_of_le (by rw[Array.length_toList,b_];decide)]
 simp[Value.cells]
theorem iR:(#[.int .u32 0,.int .u32 0,.int .u32 0,.int .u32 0,.int .u32 0,.int .u32 0,.int .u32 0,.int .u32 0,.int .u32 0]:Array Value)=dY []:=by rw[gK];rfl
theorem j4(z:Int):cK (IntKind.u32.wrap z):=by
 unfold cK IntKind.wrap;simp[IntKind.bits,IntKind.signed];omega
theorem kR(o:BinOp)(x y:Int):cK (bits o .u32 x y):=by
 unfold bits;exact j4 _
theorem nZ(x:Int)(n:Nat)(hx:cK x):cK (x/2^n):=
 ⟨Int.ediv_nonneg hx.1 (Int.pow_nonneg aB),Int.le_trans (Int.ediv_le_self _ hx.1) hx.2⟩
theorem nN(x y:Int)(hx:cK x)(hy:cK y):cK (x/y):=
 ⟨Int.ediv_nonneg hx.1 hy.1,Int.le_trans (Int.ediv_le_self _ hx.1) hx.2⟩
theorem kQ(x y:Int)(hx:cK x)(hy:cK y):cK (x.tdiv y):=by
 rw[Int.tdiv_eq_ediv_of_nonneg hx.1];exact nN x y hx hy
def jg(op a b bZ:Int)(c c':List Int):Prop:=∀w:World,iV w→Calls Tryz.prog 145 #[jm c,LP op a b bZ] w fun e w'=>e=.returned (.tuple #[jm c',.bool true])∧Below w.heap.size w w'
end Go.Proofs.YtgmodehldmahiaaGreatDoor
end
