/- Part 27 of 53 of the proof of topAlone_and_topApart. Conditions: see each. -/
import Derived.Test.YtgmodehldmahiaaGreatDoorB14
import Derived.Test.YtgmodehldmahiaaGreatDoorB22
import Derived.Test.YtgmodehldmahiaaGreatDoorB23
import Derived.Test.YtgmodehldmahiaaGreatDoorB24
import Derived.Test.YtgmodehldmahiaaGreatDoorB18
import Derived.Test.YtgmodehldmahiaaGreatDoorB25
import Derived.Test.YtgmodehldmahiaaGreatDoorB26
import Derived.Test.YtgmodehldmahiaaGreatDoorB20
import Derived.Test.YtgmodehldmahiaaGreatDoorB21
import Derived.Test.YtgmodehldmahiaaGreatDoorB10
set_option linter.unusedVariables false
set_option linter.unusedSimpArgs false
set_option maxRecDepth 8192
set_option maxHeartbeats 40000000
section
namespace Go.Proofs.YtgmodehldmahiaaGreatDoor
open Go Go.RowKit Go.Tm
noncomputable def gu(k:Kn)(p:aT.dz)(x:qJ):Kn×Int×Int:=
 if x.1=4 then y7 k p x else if x.1=6 then afV k p x else if x.1=9 then XQ k p x else if x.1=10 then Ze k p x
 else if x.1=11 then zl k p x else if x.1=12 then tL k p x else if x.1=13 then zk k p x else if x.1=14 then tO k p x
 else if x.1=15 then zf k p x else if x.1=16 then zi k p x else(k,0,1)
theorem Nz(b:Nat)(s:Ks)(k:Kn)(pid:Int)(x:qJ)(w:World)(hw:KW w b s k)(hk:Fit k)(hx:jB x)
  (hk2:Fit (gu k (aT.bK k.P pid).1 x).1)(hv:dI (Call.tF (gu k (aT.bK k.P pid).1 x).2.2 (gu k (aT.bK k.P pid).1 x).2.1)):
  Co (gu k (aT.bK k.P pid).1 x) b s k pid x w:=by
 by_cases h:Jw x.1=false
 ·have h':=h
  unfold Jw at h
  simp only[decide_eq_false_iff_not,not_or] at h
  obtain⟨h1,h2,h3,h4,h5,h6,h7,h8,h9,h10⟩:=h
  have e:gu k (aT.bK k.P pid).1 x=(k,0,1):=by unfold gu;simp only[h1,h2,h3,h4,h5,h6,h7,h8,h9,h10,if_false]
  rw[e] at hv⊢
  exact Wd b s k pid x w (fun W=>aen x.1 W h') hw hk hx hv
 ·simp only[Bool.not_eq_false] at h
  unfold Jw at h
  simp only[decide_eq_true_eq] at h
  rcases h with h|h|h|h|h|h|h|h|h|h
  ·have e:gu k (aT.bK k.P pid).1 x=y7 k (aT.bK k.P pid).1 x:=by unfold gu;rw[if_pos h]
   rw[e] at hk2 hv⊢
   exact pU al4 ZH b s k pid x w (fun W=>by rw[h];exact agC W) hw hk hx hk2 hv
  ·have e:gu k (aT.bK k.P pid).1 x=afV k (aT.bK k.P pid).1 x:=by unfold gu;simp only[h];rfl
   rw[e] at hk2 hv⊢
   exact pU al3 aeX b s k pid x w (fun W=>by rw[h];exact agB W) hw hk hx hk2 hv
  ·have e:gu k (aT.bK k.P pid).1 x=XQ k (aT.bK k.P pid).1 x:=by unfold gu;simp only[h];rfl
   rw[e] at hk2 hv⊢
   exact pU al2 ZM b s k pid x w (fun W=>by rw[h];exact agA W) hw hk hx hk2 hv
  ·have e:gu k (aT.bK k.P pid).1 x=Ze k (aT.bK k.P pid).1 x:=by unfold gu;simp only[h];rfl
   rw[e] at hk2 hv⊢
   exact pU ahB aeU b s k pid x w (fun W=>by rw[h];exact aew W) hw hk hx hk2 hv
  ·have e:gu k (aT.bK k.P pid).1 x=zl k (aT.bK k.P pid).1 x:=by unfold gu;simp only[h];rfl
   rw[e] at hk2 hv⊢
   exact pU ahA aap b s k pid x w (fun W=>by rw[h];exact aev W) hw hk hx hk2 hv
  ·have e:gu k (aT.bK k.P pid).1 x=tL k (aT.bK k.P pid).1 x:=by unfold gu;simp only[h];rfl
   rw[e] at hk2 hv⊢
   exact pU ahz V5 b s k pid x w (fun W=>by rw[h];exact aeu W) hw hk hx hk2 hv
  ·have e:gu k (aT.bK k.P pid).1 x=zk k (aT.bK k.P pid).1 x:=by unfold gu;simp only[h];rfl
   rw[e] at hk2 hv⊢
   exact pU ahy aal b s k pid x w (fun W=>by rw[h];exact aes W) hw hk hx hk2 hv
  ·have e:gu k (aT.bK k.P pid).1 x=tO k (aT.bK k.P pid).1 x:=by unfold gu;simp only[h];rfl
   rw[e] at hk2 hv⊢
   exact pU ahx Xe b s k pid x w (fun W=>by rw[h];exact aer W) hw hk hx hk2 hv
  ·have e:gu k (aT.bK k.P pid).1 x=zf k (aT.bK k.P pid).1 x:=by unfold gu;simp only[h];rfl
   rw[e] at hk2 hv⊢
   exact pU ahw Z6 b s k pid x w (fun W=>by rw[h];exact aep W) hw hk hx hk2 hv
  ·have e:gu k (aT.bK k.P pid).1 x=zi k (aT.bK k.P pid).1 x:=by unfold gu;simp only[h];rfl
   rw[e] at hk2 hv⊢
   exact pU ahv aah b s k pid x w (fun W=>by rw[h];exact aeo W) hw hk hx hk2 hv
end Go.Proofs.YtgmodehldmahiaaGreatDoor
end
section
namespace Go.Proofs.YtgmodehldmahiaaGreatDoor
open Go Go.RowKit Go.Tm
attribute [local go_sem] fO fM fK d_ dM dZ dY dX dW dV dU dS dR dQ dP dO dN iQ iP iO iN iM iL iK iG iJ iI fU fT fQ fP fI fH fC
attribute [local go_sem] aT.xZ aT.QT aT.Ma
def pJ(k':Kn)(on:Bool)(b:Nat)(s:Ks)(k:Kn)(p:aT.dz)(x:qJ)(w:World):Prop:=
 Calls Tryz.prog 114 #[.pointer (some ⟨b,0,none⟩),aT.jQ p,vZ x] w fun en w'=>en=.returned (.bool on)∧KS w b s k w' k'∧w.grownBy w' (some b)
theorem aoJ(b:Nat)(s:Ks)(k:Kn)(p:aT.dz)(xa xb xc:Int)(w:World)(hw:KW w b s k)(hk:Fit k)(hx:jB (1,xa,xb,xc)):
  pJ (qV k p.pid (xa%256) 0) false b s k p (1,xa,xb,xc) w:=by
 unfold pJ
 have HE:=ah (fun s W h=>J2 b s k p.pid (xa%256) 0 W h hk (by have:=hx.2.1.1;have:=hx.2.1.2;dsimp only at*;simp[qK,Lit.wf,IntKind.min,IntKind.max,IntKind.signed,IntKind.bits];omega))
 have HW:=ah hw
 have hlt:=hw.lt
 have ug:=aT.fG p
 rw[show aT.jQ p=.agg (aT.eT p) from rfl]
 have hx2:=hx.2.1.2
 have hx3:=hx.2.1.1
 dsimp only at hx2 hx3
 clear hw
 go_enter Tryz.func114,Tryz.ntmps114
 go_upto_block 0 with fail
 (generalize bR:World.alloc _ _=w0;have KP:aD w0 (w.heap.size) (aT.eT p) 126:=bH;have KX:aD w0 (w.heap.size+1) (#[.int .u32 1,.int .u32 xa,.int .u32 xb,.int .u32 xc]) 124:=bH;have hb0:Below w.heap.size w w0:=bN;have hz0:w0.heap.size=w.heap.size+1+1:=bX;clear bR;have KP:=ah KP;have KX:=ah KX)
 have vO:w.heap.size+1+1≤w0.heap.size:=aj
 clear hz0
 ((try clear hcb bC bn bA bE);have bg:=HW.out.below hb0;obtain⟨hcb,bC,bn,bA,bE⟩:=aD.rules bg.box;have lG:=ah bg;clear bg)
 ((try clear fF h_ gF gQ g_);have bx0:=KP.out;obtain⟨fF,h_,gF,gQ,g_⟩:=aD.rules bx0;have rJ:=ah bx0;clear bx0)
 ((try clear gL iZ hlx iY hmx);have bx0:=KX.out;obtain⟨gL,iZ,hlx,iY,hmx⟩:=aD.rules bx0;have wL:=ah bx0;clear bx0)
 (refine bU ?_;(iterate 10 (refine cO aC ?_));apply cZ;(focus((go_wp2_with fail;exact⟨rfl,rfl,rfl⟩))))
 go_wp2_with fail
 with_reducible refine(HE.out _ _ lG.out).mono ?_
 rintro en w1 ⟨rfl,xV,hg1⟩
 go_wp2_with fail
 refine Aa ?_
 simp only[Exit.then]
 exact bodyPost_ret (v:= .bool false) oV rfl ⟨rfl,KS.from xV hb0.size,aB (aA hb0 (some b)) hg1⟩
noncomputable def Jt(k:Kn):Kn:={k with L:=(ji.tK k.L k.left).1,left:=(ji.tK k.L k.left).2}
theorem aoF(b:Nat)(s:Ks)(k:Kn)(p:aT.dz)(xa xb xc:Int)(w:World)(hw:KW w b s k)(hk:Fit k)(hx:jB (7,xa,xb,xc)):
  pJ (Jt (dA k p (7,xa,xb,xc) 0 0)) false b s k p (7,xa,xb,xc) w:=by
 unfold pJ Jt
 have HA:=ah (fun s W h=>gW b s k p (7,xa,xb,xc) 0 0 W h hk (nW kF))
 have hL:=hk.L
 have hkL:(dA k p (7,xa,xb,xc) 0 0).L=k.L:=rfl
 rw[←hkL] at hL
 generalize dA k p (7,xa,xb,xc) 0 0=k1 at*
 clear hkL
 have HW:=ah hw
 have hlt:=hw.lt
 have ug:=aT.fG p
 rw[show aT.jQ p=.agg (aT.eT p) from rfl]
 have hx2:=hx.2.1.2
 have hx3:=hx.2.1.1
 dsimp only at hx2 hx3
 clear hw
 go_enter Tryz.func114,Tryz.ntmps114
 go_upto_block 0 with fail
 (generalize bR:World.alloc _ _=w0;have KP:aD w0 (w.heap.size) (aT.eT p) 126:=bH;have KX:aD w0 (w.heap.size+1) (#[.int .u32 7,.int .u32 xa,.int .u32 xb,.int .u32 xc]) 124:=bH;have hb0:Below w.heap.size w w0:=bN;have hz0:w0.heap.size=w.heap.size+1+1:=bX;clear bR;have KP:=ah KP;have KX:=ah KX)
 have vO:w.heap.size+1+1≤w0.heap.size:=aj
 clear hz0
 ((try clear hcb bC bn bA bE);have bg:=HW.out.below hb0;obtain⟨hcb,bC,bn,bA,bE⟩:=aD.rules bg.box;have lG:=ah bg;clear bg)
 ((try clear fF h_ gF gQ g_);have bx0:=KP.out;obtain⟨fF,h_,gF,gQ,g_⟩:=aD.rules bx0;have rJ:=ah bx0;clear bx0)
 ((try clear gL iZ hlx iY hmx);have bx0:=KX.out;obtain⟨gL,iZ,hlx,iY,hmx⟩:=aD.rules bx0;have wL:=ah bx0;clear bx0)
 (refine bU ?_;(iterate 9 (refine cO aC ?_));apply cZ;(focus((apply fV (hid:=by decide));(go_wp2_with fail;exact⟨rfl,rfl,rfl⟩))))
 go_wp2_with(first|((with_reducible refine cK 126 ?_);(refine aK rfl 126 _ rfl (aT.eT p) aT.bf (ug) rJ.out ?_ ?_;(exact aM)))|fail)
 with_reducible refine(HA.out _ _ lG.out).mono ?_
 rintro en w1 ⟨rfl,⟨s1,ML,tJ⟩,hg1⟩
 have hz1:=hg1.size
 have HST:=ah tJ
 have UZ:=Below.refl w1.heap.size w1
 have qA:=ah ML
 clear ML tJ
 ((try clear hcb bC bn bA bE);have bg:=qA.out.below UZ;obtain⟨hcb,bC,bn,bA,bE⟩:=aD.rules bg.box;have tC:=ah bg;clear bg)
 have HY:=ah (fun W h=>ji.Nu s1.L k1.L k1.left W h aj)
 clear fF h_ gF gQ g_ gL iZ hlx iY hmx
 go_wp2_with fail
 with_reducible refine(HY.out _ qA.out.kr.L).mono ?_
 rintro en w4 ⟨v4,rfl,mg,hr4,hb4⟩
 obtain⟨a4,m4,n4,rfl⟩:=mg.is
 ((try clear hcb bC bn bA bE);have bg:=qA.out.below hb4;obtain⟨hcb,bC,bn,bA,bE⟩:=aD.rules bg.box;have zK:=ah bg;clear bg)
 have H4:=ah mg
 have HA4:=ah (hr4.apart qA.out.aL qA.out.lt)
 have Y5:=ah (fun(B:Nat) (hB:B<w1.heap.size) (h:Apart B s1.L (ints k1.L))=>hr4.apart h hB)
 clear mg hr4
 go_wp2_with fail
 have hw6:=(zK.out.Dw H4.out HA4.out).set_left (ji.tK k1.L k1.left).2
 have hz0:=hb0.size
 have IE:lN w b s k {s1 with L:= .slice a4 m4 n4} {k1 with L:=(ji.tK k1.L k1.left).1,left:=(ji.tK k1.L k1.left).2}:=fun B hB hne h=>by
  have h1:=HST.out B aj hne h
  exact⟨Y5.out B aj h1.1,h1.2⟩
 refine Aa ?_
 simp only[Exit.then]
 exact bodyPost_ret (v:= .bool false) oV rfl ⟨rfl,⟨_,hw6,IE⟩,aB (aB (aA hb0 (some b)) hg1) (aB (aA hb4 (some b)) (aB (aO _ _ _ _) (aO _ _ _ _)))⟩
theorem al6(b:Nat)(s:Ks)(k:Kn)(p:aT.dz)(xb xc:Int)(w:World)(hw:KW w b s k)(hk:Fit k)(hx:jB (8,0,xb,xc)):
  pJ (dA k p (8,0,xb,xc) 0 0) true b s k p (8,0,xb,xc) w:=by
 unfold pJ
 have HA:=ah (fun s W h=>gW b s k p (8,0,xb,xc) 0 0 W h hk (nW kF))
 generalize dA k p (8,0,xb,xc) 0 0=k1 at*
 have HW:=ah hw
 have hlt:=hw.lt
 have ug:=aT.fG p
 rw[show aT.jQ p=.agg (aT.eT p) from rfl]
 have hx2:=hx.2.1.2
 have hx3:=hx.2.1.1
 dsimp only at hx2 hx3
 clear hw
 go_enter Tryz.func114,Tryz.ntmps114
 go_upto_block 0 with fail
 (generalize bR:World.alloc _ _=w0;have KP:aD w0 (w.heap.size) (aT.eT p) 126:=bH;have KX:aD w0 (w.heap.size+1) (#[.int .u32 8,.int .u32 0,.int .u32 xb,.int .u32 xc]) 124:=bH;have hb0:Below w.heap.size w w0:=bN;have hz0:w0.heap.size=w.heap.size+1+1:=bX;clear bR;have KP:=ah KP;have KX:=ah KX)
 have vO:w.heap.size+1+1≤w0.heap.size:=aj
 clear hz0
 ((try clear hcb bC bn bA bE);have bg:=HW.out.below hb0;obtain⟨hcb,bC,bn,bA,bE⟩:=aD.rules bg.box;have lG:=ah bg;clear bg)
 ((try clear fF h_ gF gQ g_);have bx0:=KP.out;obtain⟨fF,h_,gF,gQ,g_⟩:=aD.rules bx0;have rJ:=ah bx0;clear bx0)
 ((try clear gL iZ hlx iY hmx);have bx0:=KX.out;obtain⟨gL,iZ,hlx,iY,hmx⟩:=aD.rules bx0;have wL:=ah bx0;clear bx0)
 (refine bU ?_;(iterate 8 (refine cO aC ?_));apply cZ;(focus(exact acQ)))
 go_wp2_with(first|((with_reducible refine cK 126 ?_);(refine aK rfl 126 _ rfl (aT.eT p) aT.bf (ug) rJ.out ?_ ?_;(exact aM)))|fail)
 with_reducible refine(HA.out _ _ lG.out).mono ?_
 rintro en w1 ⟨rfl,xV,hg1⟩
 go_wp2_with fail
 refine eu ?_
 go_wp2_with fail
 exact bodyPost_ret (v:= .bool true) oV rfl ⟨rfl,KS.from xV hb0.size,aB (aA hb0 (some b)) hg1⟩
noncomputable def Jz(k:Kn)(p:aT.dz)(x:qJ):Kn:={ze k p 3 x with S:=Sleep.rG (ze k p 3 x).S ((ze k p 3 x).now+min x.2.1 (18446744073709551615-(ze k p 3 x).now),p.pid)}
theorem aoE(b:Nat)(s:Ks)(k:Kn)(p:aT.dz)(xa xb xc:Int)(w:World)(hw:KW w b s k)(hk:Fit k)(hx:jB (8,xa,xb,xc))(h0:0<xa):
  pJ (Jz k p (8,xa,xb,xc)) false b s k p (8,xa,xb,xc) w:=by
 unfold pJ Jz
 have HA:=ah (fun s W h=>NC b s k p 3 (8,xa,xb,xc) W h hk hx)
 have hS:=hk.S
 have hN:=hk.now
 have hkS:(ze k p 3 (8,xa,xb,xc)).S=k.S:=rfl
 have hkN:(ze k p 3 (8,xa,xb,xc)).now=k.now:=rfl
 generalize ze k p 3 (8,xa,xb,xc)=k1 at*
 have h0':decide (0<xa)=true:=decide_eq_true h0
 rw[←hkN] at hN
 rw[←hkS] at hS
 clear hkS hkN
 have HW:=ah hw
 have hlt:=hw.lt
 have ug:=aT.fG p
 rw[show aT.jQ p=.agg (aT.eT p) from rfl]
 have hx2:=hx.2.1.2
 have hx3:=hx.2.1.1
 dsimp only at hx2 hx3
 clear hw
 go_enter Tryz.func114,Tryz.ntmps114
 go_upto_block 0 with fail
 (generalize bR:World.alloc _ _=w0;have KP:aD w0 (w.heap.size) (aT.eT p) 126:=bH;have KX:aD w0 (w.heap.size+1) (#[.int .u32 8,.int .u32 xa,.int .u32 xb,.int .u32 xc]) 124:=bH;have hb0:Below w.heap.size w w0:=bN;have hz0:w0.heap.size=w.heap.size+1+1:=bX;clear bR;have KP:=ah KP;have KX:=ah KX)
 have vO:w.heap.size+1+1≤w0.heap.size:=aj
 clear hz0
 ((try clear hcb bC bn bA bE);have bg:=HW.out.below hb0;obtain⟨hcb,bC,bn,bA,bE⟩:=aD.rules bg.box;have lG:=ah bg;clear bg)
 ((try clear fF h_ gF gQ g_);have bx0:=KP.out;obtain⟨fF,h_,gF,gQ,g_⟩:=aD.rules bx0;have rJ:=ah bx0;clear bx0)
 ((try clear gL iZ hlx iY hmx);have bx0:=KX.out;obtain⟨gL,iZ,hlx,iY,hmx⟩:=aD.rules bx0;have wL:=ah bx0;clear bx0)
 (refine bU ?_;(iterate 8 (refine cO aC ?_));apply cZ;(focus(exact acQ)))
 go_wp2_with(first|((with_reducible refine cK 126 ?_);(refine aK rfl 126 _ rfl (aT.eT p) aT.bf (ug) rJ.out ?_ ?_;(exact aM)))|fail)
 with_reducible refine(HA.out _ _ lG.out).mono ?_
 rintro en w1 ⟨rfl,⟨s1,ML,tJ⟩,hg1⟩
 have hz1:=hg1.size
 have asr:=rJ.out.lt
 have A9:=ah (rJ.out.grown hg1 aV)
 have FT:=ah (wL.out.grown hg1 aV)
 have HST:=ah tJ
 have qA:=ah ML
 have UZ:=Below.refl w1.heap.size w1
 clear ML tJ
 ((try clear hcb bC bn bA bE);have bg:=qA.out.below UZ;obtain⟨hcb,bC,bn,bA,bE⟩:=aD.rules bg.box;have tC:=ah bg;clear bg)
 ((try clear fF h_ gF gQ g_);have bx0:=A9.out;obtain⟨fF,h_,gF,gQ,g_⟩:=aD.rules bx0;have CV:=ah bx0;clear bx0)
 ((try clear gL iZ hlx iY hmx);have bx0:=FT.out;obtain⟨gL,iZ,hlx,iY,hmx⟩:=aD.rules bx0;have Um:=ah bx0;clear bx0)
 go_wp2_with fail
 ((refine aY (fun W=>Below w1.heap.size w1 W) (fun i=>decide (i<21)) ay ?_);
          have hS:Below w1.heap.size w1 w1.drew:=(Below.refl _ _).drew;
          (refine tk 0 66 hS ?_);
          (refine tk 1 67 hS ?_);
          (refine tk 2 68 hS ?_);
          (refine tk 3 69 hS ?_);
          (refine tk 4 70 hS ?_);
          (refine tk 5 71 hS ?_ (hy:=Or.inl ⟨aF,afP⟩));
          (refine tk 6 72 hS ?_);
          (refine tk 7 73 hS ?_);
          (refine tk 8 74 hS ?_);
          (refine tk 9 75 hS ?_);
          (refine tk 10 76 hS ?_ (hy:=Or.inl ⟨aF,afP⟩));
          (refine tk 11 77 hS ?_);
          (refine tk 12 78 hS ?_ (hy:=Or.inl ⟨aF,afP⟩));
          (refine tk 14 80 hS ?_);
          (refine tk 15 81 hS ?_ (hy:=Or.inl ⟨aF,afP⟩));
          (refine aJ 13 (oi:=⟨some 79,_,_,_,_,_⟩) rfl ay rfl (fun K hK=>?_));
          (go_simp;(with_reducible refine(Sleep.E5 k1.now xa _ hN ⟨hx3,hx2⟩).mono ?_);rintro en w4 ⟨rfl,hb4⟩;have hS:=hS.trans (Below.mono hb4 hS.size);skip;(try go_wp2_with fail));
          (refine hK.out _ _ (fun _=>b_) ?_;clear hK K);
          (try simp only[pt]);
          (refine tk 16 82 hS ?_);
          (refine aJ 17 (oi:=⟨some 83,_,_,_,_,_⟩) rfl ay rfl (fun K hK=>?_));
          (go_simp;(with_reducible refine(Sleep.YE _ k1.S (k1.now+min xa (18446744073709551615-k1.now),p.pid) _ (qA.out.kr.S.below hS) (by have:=‹k1.S.length≤1000000000›;omega)).mono ?_);rintro en w5 ⟨v5,rfl,hs5,MP,kV⟩;have hS:=hS.trans (Below.mono kV hS.size);obtain⟨a5,m5,n5,rfl⟩:=hs5.is;(have amH:=fun B (hB:B<w1.heap.size)=>(show Apart B (.slice a5 m5 n5) (Sleep.sM (Sleep.rG k1.S (k1.now+min xa (18446744073709551615-k1.now),p.pid))) from .inr fun c hc=>by have:=MP c hc;have:=Below.size ‹Below w1.drew.heap.size w1.drew w4›;simp only[bQ] at this;omega));(try go_wp2_with fail));
          (refine hK.out _ _ (fun _=>b_) ?_;clear hK K);
          (try simp only[pt]);
          (refine tk 18 84 hS ?_);
          (refine tk 19 85 hS ?_);
          (refine tk 20 86 hS ?_);
          (refine aZ 21 ay ?_ rfl);
          simp only[List.toList_toArray,List.drop_succ_cons,List.drop_zero])
 ((try clear hcb bC bn bA bE);have bg:=qA.out.below hS;obtain⟨hcb,bC,bn,bA,bE⟩:=aD.rules bg.box;have sN:=ah bg;clear bg)
 have H5:=ah hs5
 have Ht:=ah amH
 clear hs5 MP amH fF h_ gF gQ g_ gL iZ hlx iY hmx
 go_wp2_with fail
 have hw6:=sN.out.xk H5.out
 have hz0:=hb0.size
 have IE:lN w b s k {s1 with S:= .slice a5 m5 n5} {k1 with S:=Sleep.rG k1.S (k1.now+min xa (18446744073709551615-k1.now),p.pid)}:=fun B hB hne h=>by
  have h1:=HST.out B aj hne h
  exact⟨h1.1,h1.2.1,h1.2.2.1,h1.2.2.2.1,⟨h1.2.2.2.2.1.1,h1.2.2.2.2.1.2.1,Ht.out B aj⟩,h1.2.2.2.2.2⟩
 refine Aa ?_
 simp only[Exit.then]
 exact bodyPost_ret (v:= .bool false) oV rfl ⟨rfl,⟨_,hw6,IE⟩,aB (aB (aA hb0 (some b)) hg1) (aB (aA hS (some b)) (aO _ _ _ _))⟩
theorem Fit.want{k:Kn}(h:Fit k)(x:Int):Fit {k with want:=x}:={h with}
theorem ahE(b:Nat)(s:Ks)(k:Kn)(p:aT.dz)(xa xb xc:Int)(w:World)(hw:KW w b s k)(hk:Fit k)(hx:jB (20,xa,xb,xc))(h3:3≤xa):
  pJ (dA k p (20,xa,xb,xc) 0 1) true b s k p (20,xa,xb,xc) w:=by
 unfold pJ
 have HA:=ah (fun s W h=>gW b s k p (20,xa,xb,xc) 0 1 W h hk (nW kF))
 generalize dA k p (20,xa,xb,xc) 0 1=k1 at*
 have h3':decide (3≤xa)=true:=decide_eq_true h3
 have HW:=ah hw
 have hlt:=hw.lt
 have ug:=aT.fG p
 rw[show aT.jQ p=.agg (aT.eT p) from rfl]
 have hx2:=hx.2.1.2
 have hx3:=hx.2.1.1
 dsimp only at hx2 hx3
 clear hw
 go_enter Tryz.func114,Tryz.ntmps114
 go_upto_block 0 with fail
 (generalize bR:World.alloc _ _=w0;have KP:aD w0 (w.heap.size) (aT.eT p) 126:=bH;have KX:aD w0 (w.heap.size+1) (#[.int .u32 20,.int .u32 xa,.int .u32 xb,.int .u32 xc]) 124:=bH;have hb0:Below w.heap.size w w0:=bN;have hz0:w0.heap.size=w.heap.size+1+1:=bX;clear bR;have KP:=ah KP;have KX:=ah KX)
 have vO:w.heap.size+1+1≤w0.heap.size:=aj
 clear hz0
 ((try clear hcb bC bn bA bE);have bg:=HW.out.below hb0;obtain⟨hcb,bC,bn,bA,bE⟩:=aD.rules bg.box;have lG:=ah bg;clear bg)
 ((try clear fF h_ gF gQ g_);have bx0:=KP.out;obtain⟨fF,h_,gF,gQ,g_⟩:=aD.rules bx0;have rJ:=ah bx0;clear bx0)
 ((try clear gL iZ hlx iY hmx);have bx0:=KX.out;obtain⟨gL,iZ,hlx,iY,hmx⟩:=aD.rules bx0;have wL:=ah bx0;clear bx0)
 (refine bU ?_;(iterate 7 (refine cO aC ?_));apply cZ;(focus(exact acP)))
 go_wp2_with(first|((with_reducible refine cK 126 ?_);(refine aK rfl 126 _ rfl (aT.eT p) aT.bf (ug) rJ.out ?_ ?_;(exact aM)))|fail)
 with_reducible refine(HA.out _ _ lG.out).mono ?_
 rintro en w1 ⟨rfl,xV,hg1⟩
 go_wp2_with fail
 refine eu ?_
 go_wp2_with fail
 exact bodyPost_ret (v:= .bool true) oV rfl ⟨rfl,KS.from xV hb0.size,aB (aA hb0 (some b)) hg1⟩
theorem KS.want{w w1 w':World}{b:Nat}{s:Ks}{k k':Kn}{x:Int}(h:KS w1 b s {k with want:=x} w' k')(hz:w.heap.size≤w1.heap.size):KS w b s k w' k':=
 let⟨s',h1,h2⟩:=h;⟨s',h1,fun B hB=>h2 B (Nat.lt_of_lt_of_le hB hz)⟩
theorem al8(b:Nat)(s:Ks)(k:Kn)(p:aT.dz)(xa xb xc:Int)(w:World)(hw:KW w b s k)(hk:Fit k)(hx:jB (20,xa,xb,xc))(h3:xa<3):
  pJ (dA {k with want:=3+xa} p (20,xa,xb,xc) 0 0) true b s k p (20,xa,xb,xc) w:=by
 unfold pJ
 have HA:=ah (fun s W h=>gW b s {k with want:=3+xa} p (20,xa,xb,xc) 0 0 W h (hk.want _) (nW kF))
 generalize dA {k with want:=3+xa} p (20,xa,xb,xc) 0 0=k1 at*
 have h3':decide (3≤xa)=false:=decide_eq_false aj
 have HW:=ah hw
 have hlt:=hw.lt
 have ug:=aT.fG p
 rw[show aT.jQ p=.agg (aT.eT p) from rfl]
 have hx2:=hx.2.1.2
 have hx3:=hx.2.1.1
 dsimp only at hx2 hx3
 clear hw
 go_enter Tryz.func114,Tryz.ntmps114
 go_upto_block 0 with fail
 (generalize bR:World.alloc _ _=w0;have KP:aD w0 (w.heap.size) (aT.eT p) 126:=bH;have KX:aD w0 (w.heap.size+1) (#[.int .u32 20,.int .u32 xa,.int .u32 xb,.int .u32 xc]) 124:=bH;have hb0:Below w.heap.size w w0:=bN;have hz0:w0.heap.size=w.heap.size+1+1:=bX;clear bR;have KP:=ah KP;have KX:=ah KX)
 have vO:w.heap.size+1+1≤w0.heap.size:=aj
 clear hz0
 ((try clear hcb bC bn bA bE);have bg:=HW.out.below hb0;obtain⟨hcb,bC,bn,bA,bE⟩:=aD.rules bg.box;have lG:=ah bg;clear bg)
 ((try clear fF h_ gF gQ g_);have bx0:=KP.out;obtain⟨fF,h_,gF,gQ,g_⟩:=aD.rules bx0;have rJ:=ah bx0;clear bx0)
 ((try clear gL iZ hlx iY hmx);have bx0:=KX.out;obtain⟨gL,iZ,hlx,iY,hmx⟩:=aD.rules bx0;have wL:=ah bx0;clear bx0)
 (refine bU ?_;(iterate 7 (refine cO aC ?_));apply cZ;(focus(exact acP)))
 have yP:=rJ.out.lt
 go_wp2_with(first|((with_reducible refine cK 126 ?_);generalize bR:World.setCell _ _ _=w3;have FK:KW w3 b s {k with want:=3+xa}:=(by rw[←bR];exact lG.out.D5 _);have hg3:w0.grownBy w3 (some b):=qg;have BL:=ah (rJ.out.grown hg3 aV);have Zl:=(wL.out.grown hg3 aV).rules.1;have pF:=ah FK;clear bR FK hcb bC bn bA bE fF h_ gF gQ g_ gL iZ hlx iY hmx;(refine aK rfl 126 _ rfl (aT.eT p) aT.bf ug BL.out ?_ ?_;(exact aM)))|fail)
 with_reducible refine(HA.out _ _ pF.out).mono ?_
 rintro en w1 ⟨rfl,xV,hg1⟩
 go_wp2_with fail
 refine eu ?_
 go_wp2_with fail
 exact bodyPost_ret (v:= .bool true) oV rfl ⟨rfl,KS.want xV Vw,aB (aB (aA hb0 (some b)) hg3) hg1⟩
end Go.Proofs.YtgmodehldmahiaaGreatDoor
end
