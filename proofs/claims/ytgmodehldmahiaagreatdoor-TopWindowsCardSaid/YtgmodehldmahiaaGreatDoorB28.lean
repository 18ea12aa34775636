/- Part 28 of 53 of the proof of topAlone_and_topApart. Conditions: see each. -/
import Derived.Test.YtgmodehldmahiaaGreatDoorB14
import Derived.Test.YtgmodehldmahiaaGreatDoorB27
import Derived.Test.YtgmodehldmahiaaGreatDoorB17
import Derived.Test.YtgmodehldmahiaaGreatDoorB15
import Derived.Test.YtgmodehldmahiaaGreatDoorB16
import Derived.Test.YtgmodehldmahiaaGreatDoorB10
set_option linter.unusedVariables false
set_option linter.unusedSimpArgs false
set_option maxRecDepth 8192
set_option maxHeartbeats 40000000
section
namespace Go.Proofs.YtgmodehldmahiaaGreatDoor
open Go Go.RowKit Go.Tm
attribute [local go_sem] fO fM fK d_ dM dZ dY dX dW dV dU dS dR dQ dP dO dN iQ iP iO iN iM iL iK iG iJ iI fU fT fQ fP fI fH fC
attribute [local go_sem] aT.xZ aT.QT aT.Ma
theorem al_(b:Nat)(s:Ks)(k:Kn)(p:aT.dz)(xa xb xc:Int)(w:World)(hw:KW w b s k)(hk:Fit k)(hx:jB (18,xa,xb,xc)):
  pJ (dA {k with want:=wrap64 (k.want+1)} p (18,xa,xb,xc) 0 0) true b s k p (18,xa,xb,xc) w:=by
 unfold pJ
 have HA:=ah (fun s W h=>gW b s {k with want:=wrap64 (k.want+1)} p (18,xa,xb,xc) 0 0 W h (hk.want _) (nW kF))
 generalize dA {k with want:=wrap64 (k.want+1)} p (18,xa,xb,xc) 0 0=k1 at*
 have HW:=ah hw
 have hlt:=hw.lt
 have ug:=aT.fG p
 rw[show aT.jQ p=.agg (aT.eT p) from rfl]
 have hx2:=hx.2.1.2
 have hx3:=hx.2.1.1
 dsimp only at hx2 hx3
 clear hw
 go_enter Tryz.func114,Tryz.ntmps114
 go_upto_block 0 with fail
 (generalize bR:World.alloc _ _=w0;have KP:aD w0 (w.heap.size) (aT.eT p) 126:=bH;have KX:aD w0 (w.heap.size+1) (#[.int .u32 18,.int .u32 xa,.int .u32 xb,.int .u32 xc]) 124:=bH;have hb0:Below w.heap.size w w0:=bN;have hz0:w0.heap.size=w.heap.size+1+1:=bX;clear bR;have KP:=ah KP;have KX:=ah KX)
 have vO:w.heap.size+1+1≤w0.heap.size:=aj
 clear hz0
 ((try clear hcb bC bn bA bE);have bg:=HW.out.below hb0;obtain⟨hcb,bC,bn,bA,bE⟩:=aD.rules bg.box;have lG:=ah bg;clear bg)
 ((try clear fF h_ gF gQ g_);have bx0:=KP.out;obtain⟨fF,h_,gF,gQ,g_⟩:=aD.rules bx0;have rJ:=ah bx0;clear bx0)
 ((try clear gL iZ hlx iY hmx);have bx0:=KX.out;obtain⟨gL,iZ,hlx,iY,hmx⟩:=aD.rules bx0;have wL:=ah bx0;clear bx0)
 (refine bU ?_;(iterate 5 (refine cO aC ?_));apply cZ;(focus(exact ajb)))
 have yP:=rJ.out.lt
 go_wp2_with(first|((with_reducible refine cK 126 ?_);generalize bR:World.setCell _ _ _=w3;have FK:KW w3 b s {k with want:=wrap64 (k.want+1)}:=(by rw[←bR];exact lG.out.D5 _);have hg3:w0.grownBy w3 (some b):=qg;have BL:=ah (rJ.out.grown hg3 aV);have Zl:=(wL.out.grown hg3 aV).rules.1;have pF:=ah FK;clear bR FK hcb bC bn bA bE fF h_ gF gQ g_ gL iZ hlx iY hmx;(refine aK rfl 126 _ rfl (aT.eT p) aT.bf ug BL.out ?_ ?_;(exact aM)))|fail)
 with_reducible refine(HA.out _ _ pF.out).mono ?_
 rintro en w1 ⟨rfl,xV,hg1⟩
 go_wp2_with fail
 refine eu ?_
 go_wp2_with fail
 exact bodyPost_ret (v:= .bool true) oV rfl ⟨rfl,KS.want xV Vw,aB (aB (aA hb0 (some b)) hg3) hg1⟩
theorem al9(b:Nat)(s:Ks)(k:Kn)(p:aT.dz)(xa xb xc:Int)(w:World)(hw:KW w b s k)(hk:Fit k)(hx:jB (19,xa,xb,xc)):
  pJ (dA {k with want:=wrap64 (wrap64 (k.want+1)+1)} p (19,xa,xb,xc) 0 0) true b s k p (19,xa,xb,xc) w:=by
 unfold pJ
 have HA:=ah (fun s W h=>gW b s {k with want:=wrap64 (wrap64 (k.want+1)+1)} p (19,xa,xb,xc) 0 0 W h (hk.want _) (nW kF))
 generalize dA {k with want:=wrap64 (wrap64 (k.want+1)+1)} p (19,xa,xb,xc) 0 0=k1 at*
 have HW:=ah hw
 have hlt:=hw.lt
 have ug:=aT.fG p
 rw[show aT.jQ p=.agg (aT.eT p) from rfl]
 have hx2:=hx.2.1.2
 have hx3:=hx.2.1.1
 dsimp only at hx2 hx3
 clear hw
 go_enter Tryz.func114,Tryz.ntmps114
 go_upto_block 0 with fail
 (generalize bR:World.alloc _ _=w0;have KP:aD w0 (w.heap.size) (aT.eT p) 126:=bH;have KX:aD w0 (w.heap.size+1) (#[.int .u32 19,.int .u32 xa,.int .u32 xb,.int .u32 xc]) 124:=bH;have hb0:Below w.heap.size w w0:=bN;have hz0:w0.heap.size=w.heap.size+1+1:=bX;clear bR;have KP:=ah KP;have KX:=ah KX)
 have vO:w.heap.size+1+1≤w0.heap.size:=aj
 clear hz0
 ((try clear hcb bC bn bA bE);have bg:=HW.out.below hb0;obtain⟨hcb,bC,bn,bA,bE⟩:=aD.rules bg.box;have lG:=ah bg;clear bg)
 ((try clear fF h_ gF gQ g_);have bx0:=KP.out;obtain⟨fF,h_,gF,gQ,g_⟩:=aD.rules bx0;have rJ:=ah bx0;clear bx0)
 ((try clear gL iZ hlx iY hmx);have bx0:=KX.out;obtain⟨gL,iZ,hlx,iY,hmx⟩:=aD.rules bx0;have wL:=ah bx0;clear bx0)
 (refine bU ?_;(iterate 5 (refine cO aC ?_));apply rX;(focus(apply cZ;(focus(exact aja));(go_wp2_with fail;exact⟨rfl,rfl,rfl⟩))))
 have yP:=rJ.out.lt
 go_wp2_with(first|((with_reducible refine cK 126 ?_);generalize bR:World.setCell _ _ _=w3;have FK:KW w3 b s {k with want:=wrap64 (wrap64 (k.want+1)+1)}:=(by rw[←bR];exact(lG.out.D5 _).D5 _);have hg3:w0.grownBy w3 (some b):=acj;have BL:=ah (rJ.out.grown hg3 aV);have Zl:=(wL.out.grown hg3 aV).rules.1;have pF:=ah FK;clear bR FK hcb bC bn bA bE fF h_ gF gQ g_ gL iZ hlx iY hmx;(refine aK rfl 126 _ rfl (aT.eT p) aT.bf ug BL.out ?_ ?_;(exact aM)))|fail)
 with_reducible refine(HA.out _ _ pF.out).mono ?_
 rintro en w1 ⟨rfl,xV,hg1⟩
 go_wp2_with fail
 refine eu ?_
 go_wp2_with fail
 exact bodyPost_ret (v:= .bool true) oV rfl ⟨rfl,KS.want xV Vw,aB (aB (aA hb0 (some b)) hg3) hg1⟩
theorem aoG(b:Nat)(s:Ks)(k:Kn)(p:aT.dz)(xa xb xc:Int)(w:World)(hw:KW w b s k)(hk:Fit k)(hx:jB (5,xa,xb,xc))(hk2:Fit (qV k (aT.bK k.P xa).1.pid 137 0)):
  pJ (Bz k p (5,xa,xb,xc)).1 (Bz k p (5,xa,xb,xc)).2 b s k p (5,xa,xb,xc) w:=by
 unfold pJ
 have HA:=ah (fun s W h=>aaQ b s k p (5,xa,xb,xc) W h hk hx hk2)
 generalize Bz k p (5,xa,xb,xc)=k1 at*
 obtain⟨k1,on⟩:=k1
 dsimp only at HA⊢
 clear hk2
 have HW:=ah hw
 have hlt:=hw.lt
 have ug:=aT.fG p
 rw[show aT.jQ p=.agg (aT.eT p) from rfl]
 have hx2:=hx.2.1.2
 have hx3:=hx.2.1.1
 dsimp only at hx2 hx3
 clear hw
 go_enter Tryz.func114,Tryz.ntmps114
 go_upto_block 0 with fail
 (generalize bR:World.alloc _ _=w0;have KP:aD w0 (w.heap.size) (aT.eT p) 126:=bH;have KX:aD w0 (w.heap.size+1) (#[.int .u32 5,.int .u32 xa,.int .u32 xb,.int .u32 xc]) 124:=bH;have hb0:Below w.heap.size w w0:=bN;have hz0:w0.heap.size=w.heap.size+1+1:=bX;clear bR;have KP:=ah KP;have KX:=ah KX)
 have vO:w.heap.size+1+1≤w0.heap.size:=aj
 clear hz0
 ((try clear hcb bC bn bA bE);have bg:=HW.out.below hb0;obtain⟨hcb,bC,bn,bA,bE⟩:=aD.rules bg.box;have lG:=ah bg;clear bg)
 ((try clear fF h_ gF gQ g_);have bx0:=KP.out;obtain⟨fF,h_,gF,gQ,g_⟩:=aD.rules bx0;have rJ:=ah bx0;clear bx0)
 ((try clear gL iZ hlx iY hmx);have bx0:=KX.out;obtain⟨gL,iZ,hlx,iY,hmx⟩:=aD.rules bx0;have wL:=ah bx0;clear bx0)
 (refine bU ?_;(iterate 4 (refine cO aC ?_));apply cZ;(focus(exact ai')))
 go_wp2_with(first|((with_reducible refine cK 126 ?_);(refine aK rfl 126 _ rfl (aT.eT p) aT.bf (ug) rJ.out ?_ ?_;(exact aM)))|fail)
 with_reducible refine(HA.out _ _ lG.out).mono ?_
 rintro en w1 ⟨rfl,xV,hg1⟩
 go_wp2_with fail
 refine Aa ?_
 simp only[Exit.then]
 exact bodyPost_ret (v:= .bool on) oV rfl ⟨rfl,KS.from xV hb0.size,aB (aA hb0 (some b)) hg1⟩
noncomputable def Cj(k:Kn)(p:aT.dz)(x:qJ):Kn×Bool:=
 let r:=Lx (gu k (aT.bK k.P p.pid).1 x) p.pid x
 if r.2 then(r.1,true) else(ze r.1 p 2 x,false)
theorem afG(b:Nat)(s:Ks)(k:Kn)(p:aT.dz)(n xa xb xc:Int)(w:World)(hw:KW w b s k)(hk:Fit k)(hx:jB (n,xa,xb,xc))
  (h1:n≠1)(h7:n≠7)(h8:n≠8)(h20:n≠20)(h19:n≠19)(h18:n≠18)(h5:n≠5)(h3:n≠3)(h2:n≠2)(QB:n≠17)
  (hk2:Fit (gu k (aT.bK k.P p.pid).1 (n,xa,xb,xc)).1)(hv:dI (Call.tF (gu k (aT.bK k.P p.pid).1 (n,xa,xb,xc)).2.2 (gu k (aT.bK k.P p.pid).1 (n,xa,xb,xc)).2.1))(hk3:Fit (Lx (gu k (aT.bK k.P p.pid).1 (n,xa,xb,xc)) p.pid (n,xa,xb,xc)).1):
  pJ (Cj k p (n,xa,xb,xc)).1 (Cj k p (n,xa,xb,xc)).2 b s k p (n,xa,xb,xc) w:=by
 unfold pJ
 have HT:=ah (fun s W h=>Nz b s k p.pid (n,xa,xb,xc) W h hk hx hk2 hv)
 obtain⟨y,hy⟩:∃y,y=Cj k p (n,xa,xb,xc):=⟨_,rfl⟩
 rw[←hy]
 unfold Cj at hy
 unfold Co at HT
 dsimp only at hy
 generalize Lx (gu k (aT.bK k.P p.pid).1 (n,xa,xb,xc)) p.pid (n,xa,xb,xc)=r at*
 obtain⟨k1,on⟩:=r
 dsimp only at HT hy hk3
 have HS:=ah (fun s W h=>NC b s k1 p 2 (n,xa,xb,xc) W h hk3 hx)
 have HY:=ah hy
 have e1:(n==1)=false:=yt
 have e7:(n==7)=false:=by simp[h7]
 have e8:(n==8)=false:=by simp[h8]
 have e20:(n==20)=false:=by simp[h20]
 have e19:(n==19)=false:=by simp[h19]
 have e18:(n==18)=false:=by simp[h18]
 have e5:(n==5)=false:=by simp[h5]
 have e3:(n==3)=false:=rV
 have e2:(n==2)=false:=uR
 have e17:(n==17)=false:=by simp[QB]
 clear h1 h7 h8 h20 h19 h18 h5 h3 h2 QB hk2 hv hy
 have HW:=ah hw
 have hlt:=hw.lt
 have ug:=aT.fG p
 rw[show aT.jQ p=.agg (aT.eT p) from rfl]
 have hx2:=hx.2.1.2
 have hx3:=hx.2.1.1
 dsimp only at hx2 hx3
 clear hw
 go_enter Tryz.func114,Tryz.ntmps114
 go_upto_block 0 with fail
 (generalize bR:World.alloc _ _=w0;have KP:aD w0 (w.heap.size) (aT.eT p) 126:=bH;have KX:aD w0 (w.heap.size+1) (#[.int .u32 n,.int .u32 xa,.int .u32 xb,.int .u32 xc]) 124:=bH;have hb0:Below w.heap.size w w0:=bN;have hz0:w0.heap.size=w.heap.size+1+1:=bX;clear bR;have KP:=ah KP;have KX:=ah KX)
 have vO:w.heap.size+1+1≤w0.heap.size:=aj
 clear hz0
 ((try clear hcb bC bn bA bE);have bg:=HW.out.below hb0;obtain⟨hcb,bC,bn,bA,bE⟩:=aD.rules bg.box;have lG:=ah bg;clear bg)
 ((try clear fF h_ gF gQ g_);have bx0:=KP.out;obtain⟨fF,h_,gF,gQ,g_⟩:=aD.rules bx0;have rJ:=ah bx0;clear bx0)
 ((try clear gL iZ hlx iY hmx);have bx0:=KX.out;obtain⟨gL,iZ,hlx,iY,hmx⟩:=aD.rules bx0;have wL:=ah bx0;clear bx0)
 (refine bU ?_;apply cZ;(focus(exact ajc)))
 go_wp2_with fail
 with_reducible refine(HT.out _ _ lG.out).mono ?_
 rintro en w1 ⟨rfl,⟨s1,ML,tJ⟩,hg1⟩
 have hy:=HY.out
 have yP:=rJ.out.lt
 have hz0:=hb0.size
 have hz1:=hg1.size
 have HST:=ah (show lN w b s k s1 k1 from fun B hB=>tJ B aj)
 have qA:=ah ML
 have HG1:=ah (aB (aA hb0 (some b)) hg1)
 cases on
 ·have A9:=ah (rJ.out.grown hg1 aV)
  have FT:=ah (wL.out.grown hg1 aV)
  have Zl:=FT.out.rules.1
  clear tJ ML hcb bC bn bA bE fF h_ gF gQ g_ gL iZ hlx iY hmx
  go_wp2_with(first|((with_reducible refine cK 126 ?_);(refine aK rfl 126 _ rfl (aT.eT p) aT.bf (ug) A9.out ?_ ?_;(exact aM)))|fail)
  with_reducible refine(HS.out _ _ qA.out).mono ?_
  rintro en w2 ⟨rfl,xV,hg2⟩
  simp only[Bool.false_eq_true,if_false] at hy
  subst hy
  go_wp2_with fail
  refine Aa ?_
  simp only[Exit.then]
  exact bodyPost_ret (v:= .bool false) oV rfl ⟨rfl,KS.step HST.out (KS.from xV (Nat.le_refl _)) aj,aB HG1.out hg2⟩
 ·simp only[if_true] at hy
  subst hy
  go_wp2_with fail
  refine eu ?_
  go_wp2_with fail
  exact bodyPost_ret (v:= .bool true) oV rfl ⟨rfl,⟨s1,qA.out,HST.out⟩,HG1.out⟩
end Go.Proofs.YtgmodehldmahiaaGreatDoor
end
section
namespace Go.Proofs.YtgmodehldmahiaaGreatDoor
open Go Go.RowKit Go.Tm
attribute [local go_sem] fO fM fK d_ dM dZ dY dX dW dV dU dS dR dQ dP dO dN iQ iP iO iN iM iL iK iG iJ iI fU fT fQ fP fI fH fC
attribute [local go_sem] aT.xZ aT.QT aT.Ma
theorem aly(pid par st:Int)(q:Pf)(hq:q.c.length=9)(x:Int):(iA pid par st q).setIfInBounds 3 (.int .u32 x)=iA pid par st {q with c:=q.c.set 0 x}:=by
 obtain⟨c,mem,code,p0,b0,p1,b1,p2,b2,p3,b3,y⟩:=q
 obtain⟨r0,r1,r2,r3,r4,r5,r6,r7,pc,rfl⟩:=Zu hq
 simp only[eD];rfl
noncomputable def pR(p:aT.dz):aT.dz:=BH p.pid p.pid p.st {pq p with c:=(pq p).c.set 0 0}
theorem ag'(p:aT.dz):aT.eT (pR p)=iA p.pid p.pid p.st {pq p with c:=(pq p).c.set 0 0}:=
 F9 {jR p with c:=(jR p).c.set 0 kF}
theorem aoH(b:Nat)(s:Ks)(k:Kn)(p:aT.dz)(xa xb xc:Int)(w:World)(hw:KW w b s k)(hk:Fit k)(hx:jB (3,xa,xb,xc))
  (hk2:Fit (eZ k (pR p)).1)(hv:dI (Call.tF (eZ k (pR p)).2.2 (eZ k (pR p)).2.1)):
  pJ (dA (eZ k (pR p)).1 p (3,xa,xb,xc) (eZ k (pR p)).2.1 (eZ k (pR p)).2.2) true b s k p (3,xa,xb,xc) w:=by
 unfold pJ
 have HF:=ah (fun s W h=>Fu b s k (pR p) W h hk)
 have Qy:=ag' p
 have hfv:=aT.fG (pR p)
 generalize eZ k (pR p)=r at*
 obtain⟨k1,r1,r2⟩:=r
 dsimp only at HF hk2 hv⊢
 have HA:=ah (fun s W h=>gW b s k1 p (3,xa,xb,xc) r1 r2 W h hk2 hv)
 generalize dA k1 p (3,xa,xb,xc) r1 r2=k2 at*
 generalize pR p=q at*
 have hql:=(jR p).c.len
 have Xx:=wM p
 have HFC:=ah (show((aT.eT p).setIfInBounds 1 (.int .i64 p.pid)).setIfInBounds 3 (.int .u32 0)=aT.eT q by rw[Qy,Xx,alz,aly _ _ _ _ hql])
 clear hk2 hv Qy Xx
 have HW:=ah hw
 have hlt:=hw.lt
 have ug:=aT.fG p
 rw[show aT.jQ p=.agg (aT.eT p) from rfl]
 have hx2:=hx.2.1.2
 have hx3:=hx.2.1.1
 dsimp only at hx2 hx3
 clear hw
 go_enter Tryz.func114,Tryz.ntmps114
 go_upto_block 0 with fail
 (generalize bR:World.alloc _ _=w0;have KP:aD w0 (w.heap.size) (aT.eT p) 126:=bH;have KX:aD w0 (w.heap.size+1) (#[.int .u32 3,.int .u32 xa,.int .u32 xb,.int .u32 xc]) 124:=bH;have hb0:Below w.heap.size w w0:=bN;have hz0:w0.heap.size=w.heap.size+1+1:=bX;clear bR;have KP:=ah KP;have KX:=ah KX)
 have vO:w.heap.size+1+1≤w0.heap.size:=aj
 clear hz0
 ((try clear hcb bC bn bA bE);have bg:=HW.out.below hb0;obtain⟨hcb,bC,bn,bA,bE⟩:=aD.rules bg.box;have lG:=ah bg;clear bg)
 ((try clear fF h_ gF gQ g_);have bx0:=KP.out;obtain⟨fF,h_,gF,gQ,g_⟩:=aD.rules bx0;have rJ:=ah bx0;clear bx0)
 ((try clear gL iZ hlx iY hmx);have bx0:=KX.out;obtain⟨gL,iZ,hlx,iY,hmx⟩:=aD.rules bx0;have wL:=ah bx0;clear bx0)
 (refine bU ?_;(iterate 3 (refine cO aC ?_));apply cZ;(focus(exact ai_)))
 have yP:=rJ.out.lt
 have aqA:=(fF 0).trans (aT.xZ p)
 have hps:=aT.jI p
 clear fF
 go_wp2_with(first|((with_reducible refine cK 126 ?_);(refine aK rfl 126 _ rfl (aT.eT p) aT.bf (ug) rJ.out ?_ ?_;(exact aM)))|((with_reducible refine bS 126 ?_);(refine aU rfl 126 _ _ rfl (aT.eT p) aT.bf (ug) aF ?_ ?_ ?_;(exact aM);(exact aM)))|((with_reducible refine cK 126 ?_);generalize bR:World.alloc _ _=w3;have K3:aD w3 w0.heap.size (aT.eT q) 126:=(by rw[←bR];first|exact((((aD.new w0 _ 126).set 1 _).set 3 _).cast HFC.out)|exact((aD.new w0 _ 126).cast HFC.out));have jo:Below w0.heap.size w0 w3:=bN;have KQ3:=ah K3;clear K3 bR;(try clear hcb bC);(try clear aqA hps);(try clear gL iZ);(refine aK rfl 126 _ rfl (aT.eT q) aT.bf hfv KQ3.out ?_ ?_;(exact aM)))|fail)
 with_reducible refine(HF.out _ _ (lG.out.below jo)).mono ?_
 rintro en w1 ⟨rfl,⟨s1,ML,tJ⟩,hg1⟩
 have hz0:=hb0.size
 have hz1:=hg1.size
 have Bh:=jo.size
 have HST:=ah (show lN w b s k s1 k1 from fun B hB=>tJ B ahN)
 have qA:=ah ML
 have HG1:=ah (aB (aA (hb0.trans (jo.mono hz0)) (some b)) hg1)
 have A9:=ah ((rJ.out.below jo yP).grown hg1 aV)
 have FT:=ah ((wL.out.below jo wL.out.lt).grown hg1 aV)
 have Zl:=FT.out.rules.1
 clear tJ ML
 go_wp2_with(first|((with_reducible refine cK 126 ?_);(refine aK rfl 126 _ rfl (aT.eT p) aT.bf (ug) A9.out ?_ ?_;(exact aM)))|fail)
 with_reducible refine(HA.out _ _ qA.out).mono ?_
 rintro en w2 ⟨rfl,xV,hg2⟩
 go_wp2_with fail
 refine eu ?_
 go_wp2_with fail
 exact bodyPost_ret (v:= .bool true) oV rfl ⟨rfl,KS.step HST.out (KS.from xV (Nat.le_refl _)) aj,aB HG1.out hg2⟩
def Js(m:ByteArray):Pf:=⟨[0,0,0,0,0,0,0,0,0],m,0,0,false,0,false,0,false,0,false,(0,0,0,0)⟩
theorem Zz{m:ByteArray}(h:m.size≤maxLen):(Js m).Ok:=
 ⟨⟨rfl,by intro x hx;simp[Js] at hx;subst hx;exact kF⟩,h,rfl,rfl,rfl,rfl,rfl,akS⟩
noncomputable def sO(par:Int)(m:ByteArray):aT.dz:=BH 0 par 0 (Js m)
theorem adZ(par:Int){m:ByteArray}(h:m.size≤maxLen):aT.jQ (sO par m)=.agg #[.int .i64 0,.int .i64 par,.int .i64 0,.int .u32 0,.int .u32 0,.int .u32 0,.int .u32 0,.int .u32 0,.int .u32 0,.int .u32 0,.int .u32 0,.int .u32 0,.string m,.int .i64 0,.int .i64 0,.bool false,.int .i64 0,.bool false,.int .i64 0,.bool false,.int .i64 0,.bool false,.int .u32 0,.int .u32 0,.int .u32 0,.int .u32 0]:=by
 unfold sO
 rw[show aT.jQ (BH 0 par 0 (Js m))=.agg (aT.eT (BH 0 par 0 (Js m))) from rfl,F9 (Zz h),eD];rfl
theorem aoI(b:Nat)(s:Ks)(k:Kn)(p:aT.dz)(xa xb xc:Int)(w:World)(hw:KW w b s k)(hk:Fit k)(hx:jB (2,xa,xb,xc))(he:(dB k xa).2=0)(hm:(dB k xa).1.size≤maxLen)
  (hk2:Fit (eZ k (sO p.pid (dB k xa).1)).1)(hv:dI (Call.tF (eZ k (sO p.pid (dB k xa).1)).2.2 (eZ k (sO p.pid (dB k xa).1)).2.1)):
  pJ (dA (eZ k (sO p.pid (dB k xa).1)).1 p (2,xa,xb,xc) (eZ k (sO p.pid (dB k xa).1)).2.1 (eZ k (sO p.pid (dB k xa).1)).2.2) true b s k p (2,xa,xb,xc) w:=by
 unfold pJ
 have HI:=ah (fun s W h=>xL b s k xa W h hk hx.2.1)
 have HF:=ah (fun s W h=>Fu b s k (sO p.pid (dB k xa).1) W h hk)
 rw[adZ p.pid hm] at HF
 generalize eZ k (sO p.pid (dB k xa).1)=r at*
 obtain⟨k1,r1,r2⟩:=r
 dsimp only at HF hk2 hv⊢
 have HA:=ah (fun s W h=>gW b s k1 p (2,xa,xb,xc) r1 r2 W h hk2 hv)
 generalize dA k1 p (2,xa,xb,xc) r1 r2=k2 at*
 generalize dB k xa=im at*
 obtain⟨im,e⟩:=im
 dsimp only at he HI HF
 subst he
 clear hk2 hv hm
 have HW:=ah hw
 have hlt:=hw.lt
 have ug:=aT.fG p
 rw[show aT.jQ p=.agg (aT.eT p) from rfl]
 have hx2:=hx.2.1.2
 have hx3:=hx.2.1.1
 dsimp only at hx2 hx3
 clear hw
 go_enter Tryz.func114,Tryz.ntmps114
 go_upto_block 0 with fail
 (generalize bR:World.alloc _ _=w0;have KP:aD w0 (w.heap.size) (aT.eT p) 126:=bH;have KX:aD w0 (w.heap.size+1) (#[.int .u32 2,.int .u32 xa,.int .u32 xb,.int .u32 xc]) 124:=bH;have hb0:Below w.heap.size w w0:=bN;have hz0:w0.heap.size=w.heap.size+1+1:=bX;clear bR;have KP:=ah KP;have KX:=ah KX)
 have vO:w.heap.size+1+1≤w0.heap.size:=aj
 clear hz0
 ((try clear hcb bC bn bA bE);have bg:=HW.out.below hb0;obtain⟨hcb,bC,bn,bA,bE⟩:=aD.rules bg.box;have lG:=ah bg;clear bg)
 ((try clear fF h_ gF gQ g_);have bx0:=KP.out;obtain⟨fF,h_,gF,gQ,g_⟩:=aD.rules bx0;have rJ:=ah bx0;clear bx0)
 ((try clear gL iZ hlx iY hmx);have bx0:=KX.out;obtain⟨gL,iZ,hlx,iY,hmx⟩:=aD.rules bx0;have wL:=ah bx0;clear bx0)
 (refine bU ?_;(iterate 2 (refine cO aC ?_));apply cZ;(focus(exact acO)))
 have yP:=rJ.out.lt
 go_wp2_with fail
 with_reducible refine(HI.out _ _ lG.out).mono ?_
 rintro en wi ⟨rfl,jo⟩
 have Bh:=jo.size
 have KWI:=ah (lG.out.below jo)
 have FP:=Below.refl wi.heap.size wi
 have KPI:=ah (rJ.out.below jo yP)
 clear hcb bC bn bA bE fF h_ gF gQ g_
 ((try clear fF h_ gF gQ g_);have bx0:=KPI.out;obtain⟨fF,h_,gF,gQ,g_⟩:=aD.rules bx0;have KPJ:=ah bx0;clear bx0)
 go_wp2_with fail
 with_reducible refine(HF.out _ _ KWI.out).mono ?_
 rintro en w1 ⟨rfl,⟨s1,ML,tJ⟩,hg1⟩
 have hz0:=hb0.size
 have hz1:=hg1.size
 try simp only[World.size_alloc] at hz1
 have HST:=ah (show lN w b s k s1 k1 from fun B hB=>tJ B ahN)
 have qA:=ah ML
 have HG1:=ah (aB (aA (hb0.trans (jo.mono hz0)) (some b)) hg1)
 have A9:=ah ((rJ.out.below jo yP).grown hg1 aV)
 have FT:=ah ((wL.out.below jo wL.out.lt).grown hg1 aV)
 have Zl:=FT.out.rules.1
 clear tJ ML fF h_ gF gQ g_ gL iZ hlx iY hmx
 go_wp2_with(first|((with_reducible refine cK 126 ?_);(refine aK rfl 126 _ rfl (aT.eT p) aT.bf (ug) A9.out ?_ ?_;(exact aM)))|fail)
 with_reducible refine(HA.out _ _ qA.out).mono ?_
 rintro en w2 ⟨rfl,xV,hg2⟩
 go_wp2_with fail
 refine eu ?_
 go_wp2_with fail
 exact bodyPost_ret (v:= .bool true) oV rfl ⟨rfl,KS.step HST.out (KS.from xV (Nat.le_refl _)) aj,aB HG1.out hg2⟩
theorem al7(b:Nat)(s:Ks)(k:Kn)(p:aT.dz)(xa xb xc:Int)(w:World)(hw:KW w b s k)(hk:Fit k)(hx:jB (2,xa,xb,xc))(he:(dB k xa).2≠0):
  pJ (dA k p (2,xa,xb,xc) 0 (dB k xa).2) true b s k p (2,xa,xb,xc) w:=by
 unfold pJ
 have HI:=ah (fun s W h=>xL b s k xa W h hk hx.2.1)
 generalize dB k xa=im at*
 obtain⟨im,e⟩:=im
 dsimp only at he HI⊢
 have HA:=ah (fun s W h=>gW b s k p (2,xa,xb,xc) 0 e W h hk (nW kF))
 generalize dA k p (2,xa,xb,xc) 0 e=k1 at*
 have e0:(e==0)=false:=by simp[he]
 clear he
 have HW:=ah hw
 have hlt:=hw.lt
 have ug:=aT.fG p
 rw[show aT.jQ p=.agg (aT.eT p) from rfl]
 have hx2:=hx.2.1.2
 have hx3:=hx.2.1.1
 dsimp only at hx2 hx3
 clear hw
 go_enter Tryz.func114,Tryz.ntmps114
 go_upto_block 0 with fail
 (generalize bR:World.alloc _ _=w0;have KP:aD w0 (w.heap.size) (aT.eT p) 126:=bH;have KX:aD w0 (w.heap.size+1) (#[.int .u32 2,.int .u32 xa,.int .u32 xb,.int .u32 xc]) 124:=bH;have hb0:Below w.heap.size w w0:=bN;have hz0:w0.heap.size=w.heap.size+1+1:=bX;clear bR;have KP:=ah KP;have KX:=ah KX)
 have vO:w.heap.size+1+1≤w0.heap.size:=aj
 clear hz0
 ((try clear hcb bC bn bA bE);have bg:=HW.out.below hb0;obtain⟨hcb,bC,bn,bA,bE⟩:=aD.rules bg.box;have lG:=ah bg;clear bg)
 ((try clear fF h_ gF gQ g_);have bx0:=KP.out;obtain⟨fF,h_,gF,gQ,g_⟩:=aD.rules bx0;have rJ:=ah bx0;clear bx0)
 ((try clear gL iZ hlx iY hmx);have bx0:=KX.out;obtain⟨gL,iZ,hlx,iY,hmx⟩:=aD.rules bx0;have wL:=ah bx0;clear bx0)
 (refine bU ?_;(iterate 2 (refine cO aC ?_));apply cZ;(focus(exact acO)))
 have yP:=rJ.out.lt
 go_wp2_with fail
 with_reducible refine(HI.out _ _ lG.out).mono ?_
 rintro en wi ⟨rfl,jo⟩
 have FP:=hb0.trans (jo.mono hb0.size)
 have KWI:=ah (lG.out.below jo)
 have KPI:=ah (rJ.out.below jo yP)
 have KXI:=ah (wL.out.below jo wL.out.lt)
 clear hcb bC bn bA bE fF h_ gF gQ g_ gL iZ hlx iY hmx
 ((try clear gL iZ hlx iY hmx);have bx0:=KXI.out;obtain⟨gL,iZ,hlx,iY,hmx⟩:=aD.rules bx0;have KXJ:=ah bx0;clear bx0)
 go_wp2_with(first|((with_reducible refine cK 126 ?_);(refine aK rfl 126 _ rfl (aT.eT p) aT.bf (ug) KPI.out ?_ ?_;(exact aM)))|fail)
 with_reducible refine(HA.out _ _ KWI.out).mono ?_
 rintro en w1 ⟨rfl,xV,hg1⟩
 go_wp2_with fail
 refine eu ?_
 go_wp2_with fail
 exact bodyPost_ret (v:= .bool true) oV rfl ⟨rfl,KS.from xV FP.size,aB (aA FP (some b)) hg1⟩
end Go.Proofs.YtgmodehldmahiaaGreatDoor
end
section
namespace Go.Proofs.YtgmodehldmahiaaGreatDoor
open Go Go.RowKit Go.Tm
attribute [local go_sem] fO fM fK d_ dM dZ dY dX dW dV dU dS dR dQ dP dO dN iQ iP iO iN iM iL iK iG iJ iI fU fT fQ fP fI fH fC
attribute [local go_sem] aT.xZ aT.QT aT.Ma
theorem ahF(b:Nat)(s:Ks)(k:Kn)(p:aT.dz)(xa xb xc:Int)(w:World)(hw:KW w b s k)(hk:Fit k)(hx:jB (17,xa,xb,xc))(he:(dB k xa).2≠0):
  pJ (dA k p (17,xa,xb,xc) 0 (dB k xa).2) true b s k p (17,xa,xb,xc) w:=by
 unfold pJ
 have HI:=ah (fun s W h=>xL b s k xa W h hk hx.2.1)
 generalize dB k xa=im at*
 obtain⟨im,e⟩:=im
 dsimp only at he HI⊢
 have HA:=ah (fun s W h=>gW b s k p (17,xa,xb,xc) 0 e W h hk (nW kF))
 generalize dA k p (17,xa,xb,xc) 0 e=k1 at*
 have e0:(e==0)=false:=by simp[he]
 clear he
 have HW:=ah hw
 have hlt:=hw.lt
 have ug:=aT.fG p
 rw[show aT.jQ p=.agg (aT.eT p) from rfl]
 have hx2:=hx.2.1.2
 have hx3:=hx.2.1.1
 dsimp only at hx2 hx3
 clear hw
 go_enter Tryz.func114,Tryz.ntmps114
 go_upto_block 0 with fail
 (generalize bR:World.alloc _ _=w0;have KP:aD w0 (w.heap.size) (aT.eT p) 126:=bH;have KX:aD w0 (w.heap.size+1) (#[.int .u32 17,.int .u32 xa,.int .u32 xb,.int .u32 xc]) 124:=bH;have hb0:Below w.heap.size w w0:=bN;have hz0:w0.heap.size=w.heap.size+1+1:=bX;clear bR;have KP:=ah KP;have KX:=ah KX)
 have vO:w.heap.size+1+1≤w0.heap.size:=aj
 clear hz0
 ((try clear hcb bC bn bA bE);have bg:=HW.out.below hb0;obtain⟨hcb,bC,bn,bA,bE⟩:=aD.rules bg.box;have lG:=ah bg;clear bg)
 ((try clear fF h_ gF gQ g_);have bx0:=KP.out;obtain⟨fF,h_,gF,gQ,g_⟩:=aD.rules bx0;have rJ:=ah bx0;clear bx0)
 ((try clear gL iZ hlx iY hmx);have bx0:=KX.out;obtain⟨gL,iZ,hlx,iY,hmx⟩:=aD.rules bx0;have wL:=ah bx0;clear bx0)
 (refine bU ?_;refine cO aC ?_;apply cZ;(focus(exact acN)))
 have yP:=rJ.out.lt
 go_wp2_with fail
 with_reducible refine(HI.out _ _ lG.out).mono ?_
 rintro en wi ⟨rfl,jo⟩
 have FP:=hb0.trans (jo.mono hb0.size)
 have KWI:=ah (lG.out.below jo)
 have KPI:=ah (rJ.out.below jo yP)
 have KXI:=ah (wL.out.below jo wL.out.lt)
 clear hcb bC bn bA bE fF h_ gF gQ g_ gL iZ hlx iY hmx
 ((try clear gL iZ hlx iY hmx);have bx0:=KXI.out;obtain⟨gL,iZ,hlx,iY,hmx⟩:=aD.rules bx0;have KXJ:=ah bx0;clear bx0)
 go_wp2_with(first|((with_reducible refine cK 126 ?_);(refine aK rfl 126 _ rfl (aT.eT p) aT.bf (ug) KPI.out ?_ ?_;(exact aM)))|fail)
 with_reducible refine(HA.out _ _ KWI.out).mono ?_
 rintro en w1 ⟨rfl,xV,hg1⟩
 go_wp2_with fail
 refine eu ?_
 go_wp2_with fail
 exact bodyPost_ret (v:= .bool true) oV rfl ⟨rfl,KS.from xV FP.size,aB (aA FP (some b)) hg1⟩
def z9:List Int:=[0,0,0,0,0,0,0,0,0]
theorem anU:gU z9:=⟨rfl,by intro x hx;simp[z9] at hx;subst hx;exact kF⟩
noncomputable def Dz(p:aT.dz)(m:ByteArray):aT.dz:=BH p.pid p.par p.st {pq p with mem:=m,c:=z9}
theorem ahb(p:aT.dz){m:ByteArray}(h:m.size≤maxLen):aT.eT (Dz p m)=iA p.pid p.par p.st {pq p with mem:=m,c:=z9}:=
 F9 {jR p with mem:=h,c:=anU}
theorem aef:(Value.agg #[.int .u32 0,.int .u32 0,.int .u32 0,.int .u32 0,.int .u32 0,.int .u32 0,.int .u32 0,.int .u32 0,.int .u32 0]).cells=(kD z9).cells:=by
 rw[show(kD z9).cells=fB z9 from rfl,iV];rfl
theorem ak_:Val true 9 (.agg #[.int .u32 0,.int .u32 0,.int .u32 0,.int .u32 0,.int .u32 0,.int .u32 0,.int .u32 0,.int .u32 0,.int .u32 0]):=⟨_,rfl,rfl,by intro x hx;simp at hx;subst hx;rfl⟩
theorem WX(p:aT.dz){m:ByteArray}(h:m.size≤maxLen):((((aT.eT p).setIfInBounds 12 (.string m)).toList.take 3++(Value.agg #[.int .u32 0,.int .u32 0,.int .u32 0,.int .u32 0,.int .u32 0,.int .u32 0,.int .u32 0,.int .u32 0,.int .u32 0]).cells.toList++((aT.eT p).setIfInBounds 12 (.string m)).toList.drop (3+9)).toArray)=aT.eT (Dz p m):=by
 rw[ahb p h,aef,wM p,PV,JU]
theorem ama(b:Nat)(s:Ks)(k:Kn)(p:aT.dz)(xa xb xc:Int)(w:World)(hw:KW w b s k)(hk:Fit k)(hx:jB (17,xa,xb,xc))(he:(dB k xa).2=0)(hm:(dB k xa).1.size≤maxLen):
  pJ (dA k (Dz p (dB k xa).1) (17,xa,xb,xc) 0 0) true b s k p (17,xa,xb,xc) w:=by
 unfold pJ
 have HI:=ah (fun s W h=>xL b s k xa W h hk hx.2.1)
 generalize dB k xa=im at*
 obtain⟨im,e⟩:=im
 dsimp only at he HI hm⊢
 subst he
 have HA:=ah (fun s W h=>gW b s k (Dz p im) (17,xa,xb,xc) 0 0 W h hk (nW kF))
 generalize dA k (Dz p im) (17,xa,xb,xc) 0 0=k1 at*
 have hec:=WX p hm
 have hev:=aT.fG (Dz p im)
 generalize Dz p im=p2 at*
 have HEC:=ah hec
 clear hec hm
 have HW:=ah hw
 have hlt:=hw.lt
 have ug:=aT.fG p
 rw[show aT.jQ p=.agg (aT.eT p) from rfl]
 have hx2:=hx.2.1.2
 have hx3:=hx.2.1.1
 dsimp only at hx2 hx3
 clear hw
 go_enter Tryz.func114,Tryz.ntmps114
 go_upto_block 0 with fail
 (generalize bR:World.alloc _ _=w0;have KP:aD w0 (w.heap.size) (aT.eT p) 126:=bH;have KX:aD w0 (w.heap.size+1) (#[.int .u32 17,.int .u32 xa,.int .u32 xb,.int .u32 xc]) 124:=bH;have hb0:Below w.heap.size w w0:=bN;have hz0:w0.heap.size=w.heap.size+1+1:=bX;clear bR;have KP:=ah KP;have KX:=ah KX)
 have vO:w.heap.size+1+1≤w0.heap.size:=aj
 clear hz0
 ((try clear hcb bC bn bA bE);have bg:=HW.out.below hb0;obtain⟨hcb,bC,bn,bA,bE⟩:=aD.rules bg.box;have lG:=ah bg;clear bg)
 ((try clear fF h_ gF gQ g_);have bx0:=KP.out;obtain⟨fF,h_,gF,gQ,g_⟩:=aD.rules bx0;have rJ:=ah bx0;clear bx0)
 ((try clear gL iZ hlx iY hmx);have bx0:=KX.out;obtain⟨gL,iZ,hlx,iY,hmx⟩:=aD.rules bx0;have wL:=ah bx0;clear bx0)
 (refine bU ?_;refine cO aC ?_;apply cZ;(focus(exact acN)))
 have yP:=rJ.out.lt
 go_wp2_with fail
 with_reducible refine(HI.out _ _ lG.out).mono ?_
 rintro en wi ⟨rfl,jo⟩
 have hz0:=hb0.size
 have Bh:=jo.size
 have FP:=hb0.trans (jo.mono hb0.size)
 have KPI:=ah (rJ.out.below jo yP)
 have KXI:=ah (wL.out.below jo wL.out.lt)
 clear hcb bC bn bA bE fF h_ gF gQ g_ gL iZ hlx iY hmx
 ((try clear fF h_ gF gQ g_);have bx0:=KPI.out;obtain⟨fF,h_,gF,gQ,g_⟩:=aD.rules bx0;have KPJ:=ah bx0;clear bx0)
 have hps:=aT.jI p
 have GL:=ak_
 go_wp2_with(first|((with_reducible refine bS 119 ?_);(refine aR rfl 119 _ _ rfl (KPI.out.set 12 (.string im)) (.agg #[.int .u32 0,.int .u32 0,.int .u32 0,.int .u32 0,.int .u32 0,.int .u32 0,.int .u32 0,.int .u32 0,.int .u32 0]) jm (GL) ?_ (aT.eT p2) HEC.out ?_ ?_ ?_;(exact gG);(exact aM);(exact aM);(intro w3 bp3 hg3 hz3 hb3;have KQ3:=ah bp3;have akO:Below w.heap.size w w3:=(Below.setCell FP (Nat.le_refl _) _).trans hb3;have QK:=ah ((KXI.out.other _ _ aI).grown hg3 aI);have Zl:=QK.out.rules.1;clear bp3 fF h_ gF gQ g_)))|((with_reducible refine cK 126 ?_);(refine aK rfl 126 _ rfl (aT.eT p2) aT.bf (hev) KQ3.out ?_ ?_;(exact aM)))|fail)
 with_reducible refine(HA.out _ _ (HW.out.below akO)).mono ?_
 rintro en w4 ⟨rfl,xV,hg4⟩
 go_wp2_with fail
 refine eu ?_
 go_wp2_with fail
 exact bodyPost_ret (v:= .bool true) oV rfl ⟨rfl,KS.from xV akO.size,aB (aA akO (some b)) hg4⟩
noncomputable def IL(k:Kn)(p:aT.dz)(x:qJ):Kn×Bool:=
 if x.1=1 then(qV k p.pid (x.2.1%256) 0,false)
 else if x.1=7 then(Jt (dA k p x 0 0),false)
 else if x.1=8 then(if 0<x.2.1 then(Jz k p x,false) else(dA k p x 0 0,true))
 else if x.1=20 then(if 3≤x.2.1 then(dA k p x 0 1,true) else(dA {k with want:=3+x.2.1} p x 0 0,true))
 else if x.1=19 then(dA {k with want:=wrap64 (wrap64 (k.want+1)+1)} p x 0 0,true)
 else if x.1=18 then(dA {k with want:=wrap64 (k.want+1)} p x 0 0,true)
 else if x.1=5 then Bz k p x
 else if x.1=3 then(dA (eZ k (pR p)).1 p x (eZ k (pR p)).2.1 (eZ k (pR p)).2.2,true)
 else if x.1=2 then(if(dB k x.2.1).2=0 then(dA (eZ k (sO p.pid (dB k x.2.1).1)).1 p x (eZ k (sO p.pid (dB k x.2.1).1)).2.1 (eZ k (sO p.pid (dB k x.2.1).1)).2.2,true) else(dA k p x 0 (dB k x.2.1).2,true))
 else if x.1=17 then(if(dB k x.2.1).2=0 then(dA k (Dz p (dB k x.2.1).1) x 0 0,true) else(dA k p x 0 (dB k x.2.1).2,true))
 else Cj k p x
structure PD(k:Kn)(p:aT.dz)(x:qJ):Prop where
 kill:x.1=5→Fit (qV k (aT.bK k.P x.2.1).1.pid 137 0)
 fork:x.1=3→Fit (eZ k (pR p)).1∧dI (Call.tF (eZ k (pR p)).2.2 (eZ k (pR p)).2.1)
 spawn:x.1=2→(dB k x.2.1).2=0→Fit (eZ k (sO p.pid (dB k x.2.1).1)).1∧dI (Call.tF (eZ k (sO p.pid (dB k x.2.1).1)).2.2 (eZ k (sO p.pid (dB k x.2.1).1)).2.1)
 size:(dB k x.2.1).1.size≤maxLen
 does:Fit (gu k (aT.bK k.P p.pid).1 x).1
 val:dI (Call.tF (gu k (aT.bK k.P p.pid).1 x).2.2 (gu k (aT.bK k.P p.pid).1 x).2.1)
 tried:Fit (Lx (gu k (aT.bK k.P p.pid).1 x) p.pid x).1
theorem afF(b:Nat)(s:Ks)(k:Kn)(p:aT.dz)(x:qJ)(w:World)(hw:KW w b s k)(hk:Fit k)(hx:jB x)(hf:PD k p x):
  pJ (IL k p x).1 (IL k p x).2 b s k p x w:=by
 obtain⟨n,xa,xb,xc⟩:=x
 unfold IL
 dsimp only
 by_cases h1:n=1
 ·rw[if_pos h1];subst h1;exact aoJ b s k p xa xb xc w hw hk hx
 rw[if_neg h1]
 by_cases h7:n=7
 ·rw[if_pos h7];subst h7;exact aoF b s k p xa xb xc w hw hk hx
 rw[if_neg h7]
 by_cases h8:n=8
 ·rw[if_pos h8];subst h8
  by_cases h0:0<xa
  ·rw[if_pos h0];exact aoE b s k p xa xb xc w hw hk hx h0
  ·rw[if_neg h0]
   obtain rfl:xa=0:=by have:=hx.2.1.1;dsimp only at this;omega
   exact al6 b s k p xb xc w hw hk hx
 rw[if_neg h8]
 by_cases h20:n=20
 ·rw[if_pos h20];subst h20
  by_cases h0:3≤xa
  ·rw[if_pos h0];exact ahE b s k p xa xb xc w hw hk hx h0
  ·rw[if_neg h0];exact al8 b s k p xa xb xc w hw hk hx aj
 rw[if_neg h20]
 by_cases h19:n=19
 ·rw[if_pos h19];subst h19;exact al9 b s k p xa xb xc w hw hk hx
 rw[if_neg h19]
 by_cases h18:n=18
 ·rw[if_pos h18];subst h18;exact al_ b s k p xa xb xc w hw hk hx
 rw[if_neg h18]
 by_cases h5:n=5
 ·rw[if_pos h5];subst h5;exact aoG b s k p xa xb xc w hw hk hx (hf.kill rfl)
 rw[if_neg h5]
 by_cases h3:n=3
 ·rw[if_pos h3];subst h3;exact aoH b s k p xa xb xc w hw hk hx (hf.fork rfl).1 (hf.fork rfl).2
 rw[if_neg h3]
 by_cases h2:n=2
 ·rw[if_pos h2];subst h2
  by_cases h0:(dB k xa).2=0
  ·rw[if_pos h0];exact aoI b s k p xa xb xc w hw hk hx h0 hf.size (hf.spawn rfl h0).1 (hf.spawn rfl h0).2
  ·rw[if_neg h0];exact al7 b s k p xa xb xc w hw hk hx h0
 rw[if_neg h2]
 by_cases QB:n=17
 ·rw[if_pos QB];subst QB
  by_cases h0:(dB k xa).2=0
  ·rw[if_pos h0];exact ama b s k p xa xb xc w hw hk hx h0 hf.size
  ·rw[if_neg h0];exact ahF b s k p xa xb xc w hw hk hx h0
 rw[if_neg QB]
 exact afG b s k p n xa xb xc w hw hk hx h1 h7 h8 h20 h19 h18 h5 h3 h2 QB hf.does hf.val hf.tried
end Go.Proofs.YtgmodehldmahiaaGreatDoor
end
section
namespace Go.Proofs.YtgmodehldmahiaaGreatDoor
open Go Go.RowKit Go.Tm
theorem aX(c:List Int){i:Nat}(h:i<9):(fB c)[i]?=some (.int .u32 (c.getD i 0)):=by
 rw[iV]
 exact aiC
theorem xG{c:List Int}(hl:c.length=9){i:Nat}(h:i<9)(x:Int):(fB c).setIfInBounds i (.int .u32 x)=fB (c.set i x):=by
 obtain⟨r0,r1,r2,r3,r4,r5,r6,r7,pc,rfl⟩:=Zu hl
 rw[iV,iV]
 exact aiC
theorem sG(z c:List Int):((fB z).toList.take 0++(kD c).cells.toList++(fB z).toList.drop (0+9)).toArray=fB c:=by
 rw[List.drop_eq_nil_of_le (by rw[Array.length_toList,dG];decide)]
 simp[Value.cells]
theorem jN:(#[.int .u32 0,.int .u32 0,.int .u32 0,.int .u32 0,.int .u32 0,.int .u32 0,.int .u32 0,.int .u32 0,.int .u32 0]:Array Value)=fB []:=by rw[iV];rfl
theorem lQ(z:Int):dI (IntKind.u32.wrap z):=by
 unfold dI IntKind.wrap;simp[IntKind.bits,IntKind.signed];omega
theorem m_(o:BinOp)(x y:Int):dI (bits o .u32 x y):=by
 unfold bits;exact lQ _
theorem qU(x:Int)(n:Nat)(hx:dI x):dI (x/2^n):=
 ⟨Int.ediv_nonneg hx.1 (Int.pow_nonneg aC),Int.le_trans (Int.ediv_le_self _ hx.1) hx.2⟩
theorem qC(x y:Int)(hx:dI x)(hy:dI y):dI (x/y):=
 ⟨Int.ediv_nonneg hx.1 hy.1,Int.le_trans (Int.ediv_le_self _ hx.1) hx.2⟩
theorem mY(x y:Int)(hx:dI x)(hy:dI y):dI (x.tdiv y):=by
 rw[Int.tdiv_eq_ediv_of_nonneg hx.1];exact qC x y hx hy
def jZ(op a b dD:Int)(c c':List Int):Prop:=∀w:World,jw w→Calls Tryz.prog 145 #[kD c,QU op a b dD] w fun e w'=>e=.returned (.tuple #[kD c',.bool true])∧Below w.heap.size w w'
end Go.Proofs.YtgmodehldmahiaaGreatDoor
end
