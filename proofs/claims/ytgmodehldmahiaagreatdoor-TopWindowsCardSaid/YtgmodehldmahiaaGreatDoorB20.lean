/- Part 20 of 53 of the proof of topAlone_and_topApart. Conditions: see each. -/
import Derived.Test.YtgmodehldmahiaaGreatDoorB14
import Derived.Test.YtgmodehldmahiaaGreatDoorB17
import Derived.Test.YtgmodehldmahiaaGreatDoorB19
set_option linter.unusedVariables false
set_option linter.unusedSimpArgs false
set_option maxRecDepth 8192
set_option maxHeartbeats 40000000
section
namespace Go.Proofs.YtgmodehldmahiaaGreatDoor
open Go Go.RowKit Go.Tm
attribute [local go_sem] fO fM fK d_ dM dZ dY dX dW dV dU dS dR dQ dP dO dN iQ iP iO iN iM iL iK iG iJ iI fU fT fQ fP fI fH fC
noncomputable def akV(p:aT.dz)(r:Int):aT.dz:=BH p.pid p.par 1 {pq p with c:=(pq p).c.set 0 r,x:=(0,0,0,0)}
noncomputable def dA(k:Kn)(p:aT.dz)(x:qJ)(v e:Int):Kn:=
 {k with P:=aT.oF k.P (akV p (Call.tF e v)),tr:=k.tr++[(p.pid,x.1,Call.tF e v,k.now)]}
theorem gW(b:Nat)(s:Ks)(k:Kn)(p:aT.dz)(x:qJ)(v e:Int)(w:World)(hw:KW w b s k)(hk:Fit k)(hv:dI (Call.tF e v)):
  Calls Tryz.prog 110 #[.pointer (some ⟨b,0,none⟩),aT.jQ p,vZ x,.int .u32 v,.int .i64 e] w fun en w'=>en=.returned (.tuple #[])∧KS w b s k w' (dA k p x v e)∧w.grownBy w' (some b):=by
 have HW:=ah hw
 have hq:=jR p
 rw[show aT.jQ p=.agg (iA p.pid p.par p.st (pq p)) from congrArg Value.agg (wM p)]
 unfold dA akV
 generalize hr:Call.tF e v=r at*
 generalize pq p=q at*
 obtain⟨pid,par,st,rest,hok⟩:=p
 dsimp only at*
 have hlt:=hw.lt
 have HB:=ah (fun W=>al5 q.c e v W hq.c.len)
 rw[hr] at HB
 have HV:=ah (fun W=>agw e v W)
 rw[hr] at HV
 have HQ:=ah hq
 clear hw hq hok rest hr
 have Ud:=jg q.c
 have hc1:=fun o=>aD.cpu ((aD.new w (iA pid par st q) 126).alloc o)
 go_enter Tryz.func110,Tryz.ntmps110
 go_wp2_with(first|((with_reducible refine cK 119 ?_);(refine aN rfl 119 _ rfl w.heap.size (3) ?_ (kD q.c) jm (Ud) (hc1 _) ?_;(exact aM)))|fail)
 with_reducible refine(HB.out _).mono ?_
 rintro en w1 ⟨rfl,hb1⟩
 have hz1:=hb1.size
 simp only[World.size_alloc] at hz1
 have b1:aD w1 w.heap.size (iA pid par st q) 126:=sP;obtain⟨hc1,mF,jO,mE,oz⟩:=b1.rules;have K1:=ah b1;clear b1
 have b2:aD w1 (w.heap.size+1) #[.int .u32 x.1,.int .u32 x.2.1,.int .u32 x.2.2.1,.int .u32 x.2.2.2] 124:=yY;obtain⟨hc2,hf2,hl2,rD,nS⟩:=b2.rules;have K2:=ah b2;clear b2
 have bW:Below w.heap.size w w1:=aG
 have hv2:=jg (q.c.set 0 r)
 have hsz:=vD pid par st q
 clear hb1 hc1
 go_wp2_with(first|((with_reducible refine bS 119 ?_);(refine aR rfl 119 _ _ rfl K1.out (kD (q.c.set 0 r)) jm (hv2) ?_ (_) (JU (q.c.set 0 r)) ?_ ?_ ?_;(exact gG);(exact aM);(exact aM);(intro w2 bp2 hg2 hz2 hb2;obtain⟨fF,h_,gF,gQ,g_⟩:=bp2.rules;have tu:=K2.out.grown hg2 aI;have bM:Below w.heap.size w w2:=bW.trans hb2;have CV:=ah bp2;have Um:=ah tu;clear bp2 tu hb2 hg2 hc1 mF jO mE oz hc2 hf2 hl2 rD nS)))|fail)
 generalize hW3:World.setCell _ _ _=w3
 have bp3:aD w3 w.heap.size (iA pid par 1 {q with c:=q.c.set 0 r,x:=(0,0,0,0)}) 126:=by
  rw[←hW3];exact(((((CV.out.set 2 _).set 22 _).set 23 _).set 24 _).set 25 _).cast (by simp only[VL,Yl,Yk,Yj,Yi])
 have UD:aD w3 (w.heap.size+1) #[.int .u32 x.1,.int .u32 x.2.1,.int .u32 x.2.2.1,.int .u32 x.2.2.2] 124:=by
  have kx:=Um.out
  rw[←hW3];exact bx
 have gZ:Below w.heap.size w w3:=by rw[←hW3];exact bl
 have FK:=HW.out.below gZ
 have L8:Hid (Pf.Ok {q with c:=q.c.set 0 r,x:=(0,0,0,0)}):=ah {HQ.out with c:=HQ.out.c.set 0 hv,x:=akS}
 obtain⟨q3,hq3⟩:∃q3:Pf,q3={q with c:=q.c.set 0 r,x:=(0,0,0,0)}:=⟨_,rfl⟩
 rw[←hq3] at bp3 L8
 have HE3:=ah hq3
 clear hq3
 obtain⟨hcb,bC,bn,bA,bE⟩:=aD.rules FK.box
 obtain⟨gL,iZ,hlx,iY,hmx⟩:=aD.rules UD
 have BL:=ah bp3
 have QK:=ah UD
 have pF:=ah FK
 clear hW3 bp3 UD FK fF h_ gF gQ g_ CV Um bM K1 K2 bW
 ((refine aY (fun W=>Below w3.heap.size w3 W) (fun i=>decide (i<11)) ay ?_);
          have hS:Below w3.heap.size w3 w3.drew:=(Below.refl _ _).drew;
          (refine tk 0 19 hS ?_);
          (refine tk 1 20 hS ?_);
          (refine tk 2 21 hS ?_);
          (refine tk 3 22 hS ?_);
          (refine tk 4 23 hS ?_);
          (refine tk 5 24 hS ?_ (hy:=Or.inl ⟨aF,sQ⟩));
          (refine bL 6 (oi:=⟨some 25,_,_,_,_,_⟩) rfl ay om hS (dh 126 _ rfl (iA pid par 1 q3) aT.bf (qY _ _ _ _) aF bG (fun W hs=>BL.out.below hs BL.out.lt)) ?_);
          (try simp only[pt]);
          (refine aJ 7 (oi:=⟨some 26,_,_,_,_,_⟩) rfl ay rfl (fun K hK=>?_));
          (go_simp;(with_reducible refine(F8 s.P k.P pid par 1 q3 L8.out _ (pF.out.kr.P.below hS) hk.P).mono ?_);rintro en w4 ⟨v4,rfl,mg,hb4⟩;have hS:=hS.trans (Below.mono hb4 hS.size);obtain⟨a4,m4,n4,rfl⟩:=mg.is;(try go_wp2_with fail));
          (refine hK.out _ _ (fun _=>b_) ?_;clear hK K);
          (try simp only[pt]);
          (refine tk 8 27 hS ?_);
          (refine tk 9 28 hS ?_);
          (refine tk 10 29 hS ?_);
          (refine aZ 11 ay ?_ rfl);
          simp only[List.toList_toArray,List.drop_succ_cons,List.drop_zero])
 have kw4:=pF.out.below hS
 have UG:=ah (BL.out.below hS BL.out.lt)
 have KX4:=ah (QK.out.below hS QK.out.lt)
 have jK:Below w.heap.size w w4:=gZ.trans (hS.mono gZ.size)
 clear hcb bC bn bA bE gL iZ hlx iY hmx pF BL QK gZ hb4
 obtain⟨hcb,bC,bn,bA,bE⟩:=aD.rules kw4.box
 have zK:=ah kw4
 have LJ:=ah mg
 clear kw4 mg
 go_wp2_with fail
 generalize QA:World.setCell _ _ _=w5
 have Uc:=zK.out.C8 LJ.out
 rw[QA] at Uc
 have nK:w4.grownBy w5 (some b):=by rw[←QA];exact aO _ _ _ _
 have Ez:=ah (UG.out.grown nK aV)
 have Ul:=ah (KX4.out.grown nK aV)
 have Zk:w.grownBy w5 (some b):=aB (aA jK _) nK
 clear QA nK hcb bC bn bA bE zK UG KX4 LJ jK
 obtain⟨hcb,bC,bn,bA,bE⟩:=aD.rules Uc.box
 obtain⟨gL,iZ,hlx,iY,hmx⟩:=aD.rules Ul.out
 obtain⟨fF,h_,gF,gQ,g_⟩:=aD.rules Ez.out
 have sN:=ah Uc
 obtain⟨i0,hM⟩:=alf
 clear Uc
 ((refine aY (fun W=>Below w5.heap.size w5 W) (fun i=>decide (i<25)) ay ?_);
          have hS:Below w5.heap.size w5 w5.drew:=(Below.refl _ _).drew;
          (refine tk 0 30 hS ?_);
          (refine tk 1 31 hS ?_);
          (refine tk 2 32 hS ?_);
          (refine tk 3 33 hS ?_);
          (refine tk 4 34 hS ?_);
          (refine tk 5 35 hS ?_ (hy:=Or.inl ⟨aF,afQ⟩));
          (refine tk 7 37 hS ?_);
          (refine tk 8 38 hS ?_ (hy:=Or.inl ⟨aF,afQ⟩));
          (refine tk 9 39 hS ?_);
          (refine tk 10 40 hS ?_ (hy:=Or.inl ⟨aF,afQ⟩));
          (refine tk 11 41 hS ?_);
          (refine tk 12 42 hS ?_);
          (refine tk 14 44 hS ?_);
          (refine tk 15 45 hS ?_);
          (refine tk 16 46 hS ?_);
          (refine tk 17 47 hS ?_);
          (refine tk 18 48 hS ?_ (hy:=Or.inl ⟨aF,afQ⟩));
          (refine aJ 6 (oi:=⟨some 36,_,_,_,_,_⟩) rfl ay rfl (fun K hK=>?_));
          (go_simp;(with_reducible refine(aht s.Tr (k.tr.map YS) _ (sN.out.kr.Tr.below hS)).mono ?_);rintro en w6 ⟨⟨ao,rfl,nO⟩,rfl⟩;have Uq:=ah nO;clear nO;(try go_wp2_with fail));
          (refine hK.out _ _ (fun _=>b_) ?_;clear hK K);
          (try simp only[pt]);
          (refine aJ 13 (oi:=⟨some 43,_,_,_,_,_⟩) rfl ay rfl (fun K hK=>?_));
          (go_simp;(with_reducible refine(HV.out _).mono ?_);rintro en w7 ⟨rfl,pE⟩;have hS:=hS.trans (Below.mono pE hS.size);skip;(try go_wp2_with fail));
          (refine hK.out _ _ (fun _=>b_) ?_;clear hK K);
          (try simp only[pt]);
          (refine tk 19 49 hS ?_);
          (refine aJ 20 (oi:=⟨some 50,_,_,_,_,_⟩) rfl ay rfl (fun K hK=>?_));
          (refine mK _ rfl hM aC (YS (pid,x.1,r,k.now)) bG (ad_ _) ?_);
          (refine hidS hK (hS.alloc hS.size _) (fun hS=>?_);clear hK K);
          (try simp only[pt]);
          (refine aJ 21 (oi:=⟨some 51,_,_,_,_,_⟩) rfl ay rfl (fun K hK=>?_));
          ((refine uz rfl hM ao (k.tr.map YS) bG (Uq.out.below (Qm hS)) w7.heap.size (YS (pid,x.1,r,k.now)) (Sl.pQ (ad_ _) rfl) bG (by have:=hk.tr;simp[maxLen];omega) (by have:=hk.tr;simp;omega) ?_;intro g9 n9 w9 BJ oN));
          (refine hidS hK (hS.trans (oN.mono hS.size)) (fun hS=>?_);clear hK K);
          (try simp only[pt]);
          (refine tk 22 52 hS ?_);
          (refine tk 23 53 hS ?_);
          (refine tk 24 54 hS ?_);
          (refine aZ 25 ay ?_ rfl);
          simp only[List.toList_toArray,List.drop_succ_cons,List.drop_zero])
 have BI:=sN.out.below hS
 have GX:=ah BJ.sl
 have Zj:w.grownBy w9 (some b):=aB Zk (aA hS _)
 clear hcb bC bn bA bE gL iZ hlx iY hmx fF h_ gF gQ g_ BJ
 obtain⟨hcb,bC,bn,bA,bE⟩:=aD.rules BI.box
 have FU:=ah BI
 clear BI
 go_wp2_with fail
 rw[←HE3.out]
 exact bodyPost_end (v:= .tuple #[]) (by simp[results,Tryz.results110,go_sem]) rfl ⟨rfl,⟨_,FU.out.an0 (by simpa using GX.out),fun _ _ _ h=>h⟩,aB Zj (aO _ _ _ _)⟩
end Go.Proofs.YtgmodehldmahiaaGreatDoor
end
section
namespace Go.Proofs.YtgmodehldmahiaaGreatDoor
open Go Go.RowKit Go.Tm
attribute [local go_sem] fO fM fK d_ dM dZ dY dX dW dV dU dS dR dQ dP dO dN iQ iP iO iN iM iL iK iG iJ iI fU fT fQ fP fI fH fC
attribute [local go_sem] aT.xZ aT.QT aT.Ma
noncomputable def Bz(k:Kn)(p:aT.dz)(x:qJ):Kn×Bool:=
 if x.2.1=1 then(dA k p x 0 13,true)
 else if(aT.bK k.P x.2.1).2=false∨(aT.bK k.P x.2.1).1.st=4 then(dA k p x 0 7,true)
 else if(aT.bK k.P x.2.1).1.pid=p.pid then(qV k (aT.bK k.P x.2.1).1.pid 137 0,false)
 else(dA (qV k (aT.bK k.P x.2.1).1.pid 137 0) (aT.bK (qV k (aT.bK k.P x.2.1).1.pid 137 0).P p.pid).1 x 0 0,true)
theorem nW{e v:Int}(hv:dI v):dI (Call.tF e v):=by
 unfold Call.tF
 split
 ·exact hv
 ·exact⟨aj,aj⟩
theorem kF:dI 0:=⟨aC,aC⟩
theorem afk(p:aT.dz):(aT.bK [p] p.pid).1=p:=by
 unfold aT.bK
 simp[List.find?_cons]
theorem KS.from{w w1 w':World}{b:Nat}{s:Ks}{k k':Kn}(h:KS w1 b s k w' k')(hz:w.heap.size≤w1.heap.size):KS w b s k w' k':=
 let⟨s',h1,h2⟩:=h;⟨s',h1,fun B hB=>h2 B (Nat.lt_of_lt_of_le hB hz)⟩
theorem KS.step{w w1 w':World}{b:Nat}{s s1:Ks}{k k1 k':Kn}(h:lN w b s k s1 k1)(h2:KS w1 b s1 k1 w' k')(hz:w.heap.size≤w1.heap.size):KS w b s k w' k':=
 let⟨s',g1,g2⟩:=h2;⟨s',g1,h.trans g2 hz⟩
theorem aaQ(b:Nat)(s:Ks)(k:Kn)(p:aT.dz)(x:qJ)(w:World)(hw:KW w b s k)(hk:Fit k)(hx:jB x)(hk2:Fit (qV k (aT.bK k.P x.2.1).1.pid 137 0)):
  Calls Tryz.prog 149 #[.pointer (some ⟨b,0,none⟩),aT.jQ p,vZ x] w fun en w'=>en=.returned (.bool (Bz k p x).2)∧KS w b s k w' (Bz k p x).1∧w.grownBy w' (some b):=by
 have HW:=ah hw
 have hlt:=hw.lt
 obtain⟨y,hy⟩:∃y,y=Bz k p x:=⟨_,rfl⟩
 rw[←hy]
 unfold Bz at hy
 have HY:=ah hy
 have hwr:IntKind.i64.wrap x.2.1=x.2.1:=IntWalk.i64_in _ (by have:=hx.2.1.1;have:=hx.2.1.2;omega)
 have HF:=ah (fun(W:World) (h:KW W b s k)=>aT.n_ s.P k.P (IntKind.i64.wrap x.2.1) W h.kr.P)
 rw[hwr] at HF
 have HA:=ah (fun e W h=>gW b s k p x 0 e W h hk (nW kF))
 have Rz:=fun(l:List aT.dz) (h:l=[p])=>(show(aT.bK l p.pid).1=p by rw[h];exact afk p)
 have ug:=aT.fG p
 have hpz:=aT.jI (aT.kQ 0)
 have hx2:x.2.1≤4294967295∧0≤x.2.1:=⟨hx.2.1.2,hx.2.1.1⟩
 generalize MV:aT.bK k.P x.2.1=fs at*
 obtain⟨f,fok⟩:=fs
 dsimp only at HY HF hk2
 have hfv:=aT.fG f
 have HE:=ah (fun s W h=>J2 b s k f.pid 137 0 W h hk aC)
 generalize hk1:qV k f.pid 137 0=k1 at*
 have Od:=ah (fun s p4 W h=>gW b s k1 p4 x 0 0 W h hk2 (nW kF))
 rw[show aT.jQ p=.agg (aT.eT p) from rfl]
 clear hw hy
 go_enter Tryz.func149,Tryz.ntmps149
 go_wp2_with fail
 (generalize bR:World.alloc _ _=w0;have KP:aD w0 (w.heap.size) (aT.eT p) 126:=bH;have KX:aD w0 (w.heap.size+1) (#[.int .u32 x.1,.int .u32 x.2.1,.int .u32 x.2.2.1,.int .u32 x.2.2.2]) 124:=bH;have hb0:Below w.heap.size w w0:=bN;have hz0:w0.heap.size=w.heap.size+1+1:=bX;clear bR;have KP:=ah KP;have KX:=ah KX)
 ((try clear hcb bC bn bA bE);have bg:=HW.out.below hb0;obtain⟨hcb,bC,bn,bA,bE⟩:=aD.rules bg.box;have lG:=ah bg;clear bg)
 ((try clear fF h_ gF gQ g_);have bx0:=KP.out;obtain⟨fF,h_,gF,gQ,g_⟩:=aD.rules bx0;have rJ:=ah bx0;clear bx0)
 ((try clear gL iZ hlx iY hmx);have bx0:=KX.out;obtain⟨gL,iZ,hlx,iY,hmx⟩:=aD.rules bx0;have wL:=ah bx0;clear bx0)
 have HF0:=ah (fun W (h:Below w0.heap.size w0 W)=>HF.out W (lG.out.below h))
 have vO:w.heap.size+1+1≤w0.heap.size:=aj
 clear hz0
 refine Hy (α:=Nat) (fun q2 W=>aD W q2 (aT.eT f) 126∧Below w0.heap.size w0 W∧w0.heap.size≤q2) ?G ?_ ?_
 rotate_left
 ·((refine aY (fun W=>Below w0.heap.size w0 W) (fun i=>decide (i<13)&&i !=11) ay ?_);
          have hS:Below w0.heap.size w0 w0.drew:=(Below.refl _ _).drew;
          (refine tk 0 11 hS ?_);
          (refine tk 1 12 hS ?_);
          (refine tk 2 13 hS ?_);
          (refine tk 3 14 hS ?_);
          (refine tk 4 15 hS ?_ (hy:=Or.inl ⟨aF,Bo⟩));
          (refine tk 5 16 hS ?_);
          (refine tk 6 17 hS ?_ (hy:=Or.inl ⟨aF,Bo⟩));
          (refine tk 7 18 hS ?_);
          (refine eX 8 12 (oi:=⟨some 19,_,_,_,_,_⟩) (oj:=⟨some 8,_,_,_,_,_⟩) rfl rfl ay rfl rfl (fun K hK=>?_) (fun K hK=>?_));
          (focus((go_simp;(with_reducible refine(HF0.out _ hS).mono ?_);rintro en AX ⟨rfl,II⟩;have hS:=hS.trans (Below.mono II hS.size);(try(have bT:=aD.below bT II bT.lt));(try go_wp2_with fail));(refine hK.out _ _ (fun _=>b_) ?_;clear hK K);(try simp only[pt]);(refine tk 9 10 hS ?_);(try simp only[pt]);(refine bV 11 (oi:=⟨some 21,_,_,_,_,_⟩) (v:=?_) rfl ay om (Or.inl ⟨aF,?_⟩) ?_;rotate_left;focus(intro W hW;go_simp;(all_goals with_reducible rfl)));(try simp only[pt]);(refine tk 10 20 hS ?_);(try simp only[pt]);(refine aJ 12 (oi:=⟨some 8,_,_,_,_,_⟩) rfl ay rfl (fun K hK=>?_));(refine eF 126 rfl (z:=aT.jQ (aT.kQ 0)) ay (aT.eT (aT.kQ 0)) rfl ?_);(refine hidS hK (hS.alloc hS.size _) (fun hS=>?_);clear hK K);(try simp only[pt]);(first|(have bT:=aD.new AX (aT.eT (aT.kQ 0)) 126;have dK:Below AX.heap.size AX (AX.alloc (.cells (aT.eT (aT.kQ 0)) 126)):=(Below.refl _ _).alloc (Nat.le_refl _) _;have gy:w0.heap.size≤AX.heap.size:=ahZ;generalize AX.alloc (.cells (aT.eT (aT.kQ 0)) 126)=w5 at hS bT dK⊢;generalize AX.heap.size=qa at bT gy⊢)|(have bT:=aD.new w0.drew (aT.eT (aT.kQ 0)) 126;have dK:Below w0.drew.heap.size w0.drew (w0.drew.alloc (.cells (aT.eT (aT.kQ 0)) 126)):=(Below.refl _ _).alloc (Nat.le_refl _) _;have gy:w0.heap.size≤w0.drew.heap.size:=XK;generalize w0.drew.alloc (.cells (aT.eT (aT.kQ 0)) 126)=w5 at hS bT dK⊢;generalize w0.drew.heap.size=qa at bT gy⊢));exact aji));
          (focus((refine eF 126 rfl (z:=aT.jQ (aT.kQ 0)) ay (aT.eT (aT.kQ 0)) rfl ?_);(refine hidS hK (hS.alloc hS.size _) (fun hS=>?_);clear hK K);(try simp only[pt]);(first|(have bT:=aD.new AX (aT.eT (aT.kQ 0)) 126;have dK:Below AX.heap.size AX (AX.alloc (.cells (aT.eT (aT.kQ 0)) 126)):=(Below.refl _ _).alloc (Nat.le_refl _) _;have gy:w0.heap.size≤AX.heap.size:=ahZ;generalize AX.alloc (.cells (aT.eT (aT.kQ 0)) 126)=w5 at hS bT dK⊢;generalize AX.heap.size=qa at bT gy⊢)|(have bT:=aD.new w0.drew (aT.eT (aT.kQ 0)) 126;have dK:Below w0.drew.heap.size w0.drew (w0.drew.alloc (.cells (aT.eT (aT.kQ 0)) 126)):=(Below.refl _ _).alloc (Nat.le_refl _) _;have gy:w0.heap.size≤w0.drew.heap.size:=XK;generalize w0.drew.alloc (.cells (aT.eT (aT.kQ 0)) 126)=w5 at hS bT dK⊢;generalize w0.drew.heap.size=qa at bT gy⊢));(refine aJ 8 (oi:=⟨some 19,_,_,_,_,_⟩) rfl ay rfl (fun K hK=>?_));(go_simp;(with_reducible refine(HF0.out _ hS).mono ?_);rintro en AX ⟨rfl,II⟩;have hS:=hS.trans (Below.mono II hS.size);(try(have bT:=aD.below bT II bT.lt));(try go_wp2_with fail));(refine hK.out _ _ (fun _=>b_) ?_;clear hK K);(try simp only[pt]);(refine tk 9 10 hS ?_);(try simp only[pt]);(refine bV 11 (oi:=⟨some 21,_,_,_,_,_⟩) (v:=?_) rfl ay om (Or.inl ⟨aF,?_⟩) ?_;rotate_left;focus(intro W hW;go_simp;(all_goals with_reducible rfl)));(try simp only[pt]);(refine tk 10 20 hS ?_);(try simp only[pt]);exact aji)))
 rintro q2 w2 ⟨uh,qG,mh⟩
 ((try clear hcb bC bn bA bE);have bg:=lG.out.below qG;obtain⟨hcb,bC,bn,bA,bE⟩:=aD.rules bg.box;have tC:=ah bg;clear bg)
 ((try clear fF h_ gF gQ g_);have bx0:=rJ.out.below qG rJ.out.lt;obtain⟨fF,h_,gF,gQ,g_⟩:=aD.rules bx0;have CV:=ah bx0;clear bx0)
 ((try clear gL iZ hlx iY hmx);have bx0:=wL.out.below qG wL.out.lt;obtain⟨gL,iZ,hlx,iY,hmx⟩:=aD.rules bx0;have Um:=ah bx0;clear bx0)
 have hcf:=uh.rules.1
 have aks:=(hcf 0).trans (aT.xZ f)
 have aqB:=(hcf 2).trans (aT.Ma f)
 have KF:=ah uh
 have bM:=hb0.trans (qG.mono hb0.size)
 have hz2:=qG.size
 have hlf:=uh.lt
 clear hcf uh lG rJ wL
 have hy:=HY.out
 by_cases h1:x.2.1=1
 ·have e1:(x.2.1==1)=true:=by simp[h1]
  rw[if_pos h1] at hy
  clear h1
  subst hy
  go_wp2_with(first|((with_reducible refine cK 126 ?_);(refine aK rfl 126 _ rfl (aT.eT p) aT.bf (ug) CV.out ?_ ?_;(exact aM)))|fail)
  with_reducible refine(HA.out 13 _ tC.out).mono ?_
  rintro en w3 ⟨rfl,xV,hg3⟩
  go_wp2_with fail
  exact bodyPost_ret (v:= .bool true) Pk rfl ⟨rfl,KS.from xV bM.size,aB (aA bM (some b)) hg3⟩
 have e1:(x.2.1==1)=false:=yt
 rw[if_neg h1] at hy
 clear h1
 cases fok
 ·rw[if_pos (.inl rfl)] at hy
  exact aiY
 by_cases h4:f.st=4
 ·have e4:(f.st==4)=true:=by simp[h4]
  rw[if_pos (.inr h4)] at hy
  exact aiY
 have e4:(f.st==4)=false:=EK
 rw[if_neg EK] at hy
 go_wp2_with fail
 with_reducible refine(HE.out _ _ tC.out).mono ?_
 rintro en w3 ⟨rfl,⟨s3,FK,Oo⟩,hg3⟩
 have hz3:=hg3.size
 have CZ:=ah (aB (aA bM (some b)) hg3)
 have N8:=CV.out.lt
 have BL:=ah (CV.out.grown hg3 aV)
 have QK:=ah (Um.out.grown hg3 aV)
 have KF3:=ah (KF.out.grown hg3 aV)
 have Uz:=Oo w.heap.size aj aj (HW.out.kr.away (Nat.le_refl _))
 have UK:=ah Uz
 have pF:=ah FK
 have HST:=ah (show lN w b s k s3 k1 from fun B hB=>Oo B aj)
 clear Uz FK Oo hg3 hcb bC bn bA bE aks aqB fF h_ gF gQ g_ gL iZ hlx iY hmx
 obtain⟨hcb,bC,bn,bA,bE⟩:=aD.rules pF.out.box
 ((try clear fF h_ gF gQ g_);have bx0:=BL.out;obtain⟨fF,h_,gF,gQ,g_⟩:=aD.rules bx0;have UG:=ah bx0;clear bx0)
 ((try clear gL iZ hlx iY hmx);have bx0:=QK.out;obtain⟨gL,iZ,hlx,iY,hmx⟩:=aD.rules bx0;have KX4:=ah bx0;clear bx0)
 have hcf:=KF3.out.rules.1
 have aks:=(hcf 0).trans (aT.xZ f)
 clear hcf
 by_cases hpp:f.pid=p.pid
 ·have ep:(f.pid==p.pid)=true:=by simp[hpp]
  rw[if_pos hpp] at hy
  clear hpp
  subst hy
  go_wp2_with fail
  exact bodyPost_ret (v:= .bool false) Pk rfl ⟨rfl,⟨s3,pF.out,HST.out⟩,CZ.out⟩
 have ep:(f.pid==p.pid)=false:=by simp[hpp]
 rw[if_neg hpp] at hy
 clear hpp
 have HF3:=ah (fun W (h:Below w3.heap.size w3 W)=>aT.n_ s3.P k1.P p.pid W (pF.out.kr.P.below h))
 have YJ:=Rz k1.P
 generalize aT.bK k1.P p.pid=fs at*
 obtain⟨p4,ok4⟩:=fs
 dsimp only at HF3 hy YJ
 have Zh:=aT.fG p4
 have HP4:=ah YJ
 clear YJ
 go_wp2_with fail
 ((refine aY (fun W=>Below w3.heap.size w3 W) (fun i=>decide (i<11)&&i !=10) ay ?_);
          have hS:Below w3.heap.size w3 w3.drew:=(Below.refl _ _).drew;
          (refine tk 0 32 hS ?_);
          (refine tk 1 33 hS ?_);
          (refine tk 2 34 hS ?_);
          (refine tk 3 35 hS ?_);
          (refine tk 4 36 hS ?_ (hy:=Or.inl ⟨aF,qB⟩));
          (refine tk 5 37 hS ?_);
          (refine tk 6 38 hS ?_ (hy:=Or.inl ⟨aF,qB⟩));
          (refine aJ 7 (oi:=⟨some 39,_,_,_,_,_⟩) rfl ay rfl (fun K hK=>?_));
          (go_simp;(with_reducible refine(HF3.out _ hS).mono ?_);rintro en w4 ⟨rfl,hb4⟩;have hS:=hS.trans (Below.mono hb4 hS.size);skip;(try go_wp2_with fail));
          (refine hK.out _ _ (fun _=>b_) ?_;clear hK K);
          (try simp only[pt]);
          (refine tk 8 31 hS ?_);
          (refine bV 10 (oi:=⟨some 41,_,_,_,_,_⟩) (v:=?_) rfl ay om (Or.inl ⟨aF,?_⟩) ?_;rotate_left;focus(intro W hW;go_simp;(all_goals with_reducible rfl)));
          (try simp only[pt]);
          (refine tk 9 40 hS ?_);
          (refine aZ 11 ay ?_ rfl);
          simp only[List.toList_toArray,List.drop_succ_cons,List.drop_zero])
 have Ez:=ah (BL.out.below hS BL.out.lt)
 have Ul:=ah (QK.out.below hS QK.out.lt)
 ((try clear hcb bC bn bA bE);have bg:=pF.out.below hS;obtain⟨hcb,bC,bn,bA,bE⟩:=aD.rules bg.box;have sN:=ah bg;clear bg)
 clear fF h_ gF gQ g_
 have hps:=aT.jI p
 have w_:w.heap.size≠b:=aj
 have hx5:=Ul.out.lt
 ((try clear gL iZ hlx iY hmx);have bx0:=Ul.out;obtain⟨gL,iZ,hlx,iY,hmx⟩:=aD.rules bx0;have KX6:=ah bx0;clear bx0)
 clear aks gL iZ hlx iY hmx
 go_wp2_with(first|((with_reducible refine bS 126 ?_);(refine aR rfl 126 _ _ rfl Ez.out (aT.jQ p4) aT.bf (Zh) ?_ (aT.eT p4) (PU p p4) ?_ ?_ ?_;(exact gG);(exact aM);(exact aM);(intro w5 LH nK LP kV;have M4:=ah LH;have KX7:=ah (Ul.out.grown nK aI);have LZ:=ah (sN.out.local UK.out w_ Ez.out LH nK HP4.out);have hx7:=KX7.out;have hc7:=hx7.rules.1;clear LH hx7)))|((with_reducible refine cK 126 ?_);(refine aK rfl 126 _ rfl (aT.eT p4) aT.bf (Zh) M4.out ?_ ?_;(exact aM)))|fail)
 with_reducible refine(Od.out _ p4 _ LZ.out).mono ?_
 rintro en w7 ⟨rfl,xV,yS⟩
 subst hy
 go_wp2_with fail
 exact bodyPost_ret (v:= .bool true) Pk rfl ⟨rfl,KS.step HST.out (KS.from xV (by have:=hS.size;have:=nK.size;omega)) aj,aB (nu (aB CZ.out (aA hS (some b))) nK (Nat.le_refl _)) yS⟩
end Go.Proofs.YtgmodehldmahiaaGreatDoor
end
