/- Part 52 of 53 of the proof of topAlone_and_topApart. Conditions: see each. -/
import Derived.Test.YtgmodehldmahiaaGreatDoorB14
import Derived.Test.YtgmodehldmahiaaGreatDoorB47
import Derived.Test.YtgmodehldmahiaaGreatDoorB46
import Derived.Test.YtgmodehldmahiaaGreatDoorB51
set_option linter.unusedVariables false
set_option linter.unusedSimpArgs false
set_option maxRecDepth 8192
set_option maxHeartbeats 40000000
namespace Go.Proofs.YtgmodehldmahiaaGreatDoor
open Go Go.RowKit Go.Tm
attribute [local go_sem] fO fM fK d_ dM dZ dY dX dW dV dU dS dR dQ dP dO dN iQ iP iO iN iM iL iK iG iJ iI fU fT fQ fP fI fH fC
attribute [local go_sem] Gm Gl Gj Gi Gh Dy Gg Gf Gc Gb zZ uV uU
theorem afK(pv wv cv iv jv:Value)(p:bF.jE)(dx kS:List (List ByteArray))(N M:Int)(w:World)(hp:bF.jf w pv wv cv p)(hi:mR w iv dx)(hj:mR w jv kS)(hT:jw w)(hok:¬bF.gJ p):
  Calls Tryz.prog 3 #[.agg #[pv,.int .i64 p.frame,wv,cv,iv,jv,.int .i64 N,.int .i64 M]] w fun e w'=>e=.returned (.bool true)∧Below w.heap.size w w':=by
 have HSH:=ah (fun W (h:Below w.heap.size w W)=>AA W (hT.below h))
 have HF1:=ah (fun W (h:Below w.heap.size w W)=>wz iv dx W (hi.below h))
 have UH:=ah (fun W (h:Below w.heap.size w W)=>wz jv kS W (hj.below h))
 have FW:=ah (fun W (h:Below w.heap.size w W)=>Ee pv wv cv iv p dx W (hp.below h) (hi.below h) hok)
 have Ao:=ah (fun W (h:Below w.heap.size w W)=>Ee pv wv cv jv p kS W (hp.below h) (hj.below h) hok)
 obtain⟨a1,c1,a2,c2,a3,c3,rfl,rfl,rfl,jO,hl2,qM⟩:=hp.shape
 obtain⟨ia,ic,rfl,xW⟩:=hi.shape
 obtain⟨ja,jc,rfl,YO⟩:=hj.shape
 clear hp hi hj hT
 go_enter Tryz.func3,Tryz.ntmps3
 go_wp2_with fail
 (generalize bR:World.alloc _ _=w0;have KB:aD w0 (w.heap.size) (#[.slice a1 p.parts.length c1,.int .i64 p.frame,.slice a2 p.wins.length c2,.slice a3 p.chans.length c3,.slice ia dx.length ic,.slice ja kS.length jc,.int .i64 N,.int .i64 M]) 29:=bH;have hb0:Below w.heap.size w w0:=bN;have hz0:w0.heap.size=w.heap.size+1:=bX;clear bR;have KB:=ah KB)
 with_reducible refine(HSH.out w0 hb0).mono ?_
 rintro en w1 ⟨rfl,hb1⟩
 have bW:=hb0.trans (hb1.mono hb0.size)
 have p8:=ah (KB.out.below hb1 KB.out.lt)
 clear hb0 hz0
 obtain⟨hcb,bC,bn,bA,bE⟩:=aD.rules p8.out
 go_wp2_with fail
 with_reducible refine(HF1.out w1 bW).mono ?_
 rintro en w2 ⟨⟨b1,rfl⟩,hb2⟩
 have bM:=bW.trans (hb2.mono bW.size)
 have qO:=ah (p8.out.below hb2 p8.out.lt)
 clear hcb bC bn bA bE hb1 hb2 KB p8
 obtain⟨hcb,bC,bn,bA,bE⟩:=aD.rules qO.out
 cases b1
 ·obtain⟨w3,hw3⟩:∃w3,w3=w2:=⟨_,rfl⟩
  subst hw3
  have gZ:=bM
  have vK:=qO
  clear bM qO
  exact Zd
 ·go_wp2_with fail
  with_reducible refine(UH.out w2 bM).mono ?_
  rintro en w3 ⟨⟨b2,rfl⟩,hb3⟩
  have gZ:=bM.trans (hb3.mono bM.size)
  have vK:=ah (qO.out.below hb3 qO.out.lt)
  clear hcb bC bn bA bE hb3 bM qO
  obtain⟨hcb,bC,bn,bA,bE⟩:=aD.rules vK.out
  cases b2
  ·exact Zd
  ·exact Zd
theorem afJ(pv wv cv iv jv:Value)(p:bF.jE)(dx kS:List (List ByteArray))(N M:Int)(w:World)(hp:bF.jf w pv wv cv p)(hi:mR w iv dx)(hj:mR w jv kS)(hT:jw w)(hok:bF.gJ p)(CX:Dk dx)(YN:Dk kS)(hM:(Lit.int .i64 M).wf=true):
  Calls Tryz.prog 3 #[.agg #[pv,.int .i64 p.frame,wv,cv,iv,jv,.int .i64 N,.int .i64 M]] w fun e w'=>e=.returned (.bool true)∧Below w.heap.size w w':=by
 have HSH:=ah (fun W (h:Below w.heap.size w W)=>AA W (hT.below h))
 have HF1:=ah (fun W (h:Below w.heap.size w W)=>wz iv dx W (hi.below h))
 have UH:=ah (fun W (h:Below w.heap.size w W)=>wz jv kS W (hj.below h))
 have FW:=ah (fun W (h:Below w.heap.size w W)=>Ab pv wv cv iv p dx W (hp.below h) (hi.below h) hok CX)
 have Ao:=ah (fun W (h:Below w.heap.size w W)=>Ab pv wv cv jv p kS W (hp.below h) (hj.below h) hok YN)
 have HMO:=ah (fun W=>Sw N W)
 have Et:=ah (fun W (h:Below w.heap.size w W)=>hT.below h)
 have HP:=ah hp
 have HI:=ah hi
 have HJ:=ah hj
 have N9:=hi.kind
 have hkj:=hj.kind
 have Ey:=Sy N
 have YJ:=hok.zX
 have hp6:=hok.Cn
 have hn0:=hok.VN
 have HGI:=ah (vG hok CX)
 have HGJ:=ah (vG hok YN)
 have HRI:=ah (fun i=>(vG hok CX).run hok i)
 obtain⟨a1,c1,a2,c2,a3,c3,rfl,rfl,rfl,jO,hl2,qM⟩:=hp.shape
 obtain⟨ia,ic,rfl,xW⟩:=hi.shape
 obtain⟨ja,jc,rfl,YO⟩:=hj.shape
 clear hp hi hj hT
 generalize hmm:tZ N=m at*
 clear hmm
 go_enter Tryz.func3,Tryz.ntmps3
 go_wp2_with fail
 (generalize bR:World.alloc _ _=w0;have KB:aD w0 (w.heap.size) (#[.slice a1 p.parts.length c1,.int .i64 p.frame,.slice a2 p.wins.length c2,.slice a3 p.chans.length c3,.slice ia dx.length ic,.slice ja kS.length jc,.int .i64 N,.int .i64 M]) 29:=bH;have hb0:Below w.heap.size w w0:=bN;have hz0:w0.heap.size=w.heap.size+1:=bX;clear bR;have KB:=ah KB)
 with_reducible refine(HSH.out w0 hb0).mono ?_
 rintro en w1 ⟨rfl,hb1⟩
 have bW:=hb0.trans (hb1.mono hb0.size)
 have p8:=ah (KB.out.below hb1 KB.out.lt)
 clear hb0 hz0
 obtain⟨hcb,bC,bn,bA,bE⟩:=aD.rules p8.out
 go_wp2_with fail
 with_reducible refine(HF1.out w1 bW).mono ?_
 rintro en w2 ⟨⟨b1,rfl⟩,hb2⟩
 have bM:=bW.trans (hb2.mono bW.size)
 have qO:=ah (p8.out.below hb2 p8.out.lt)
 clear hcb bC bn bA bE hb1 hb2 KB p8
 obtain⟨hcb,bC,bn,bA,bE⟩:=aD.rules qO.out
 cases b1
 ·obtain⟨w3,hw3⟩:∃w3,w3=w2:=⟨_,rfl⟩
  subst hw3
  have gZ:=bM
  have vK:=qO
  clear bM qO
  exact afT
 go_wp2_with fail
 with_reducible refine(UH.out w2 bM).mono ?_
 rintro en w3 ⟨⟨b2,rfl⟩,hb3⟩
 have gZ:=bM.trans (hb3.mono bM.size)
 have vK:=ah (qO.out.below hb3 qO.out.lt)
 clear hcb bC bn bA bE hb3 bM qO
 obtain⟨hcb,bC,bn,bA,bE⟩:=aD.rules vK.out
 cases b2
 ·exact afT
 go_wp2_with fail
 with_reducible refine(FW.out w3 gZ).mono ?_
 rintro en w4 ⟨⟨sv4,ss4,av4,zh,G7⟩,rfl,yR,Q9,hb4⟩
 have jK:=gZ.trans (hb4.mono gZ.size)
 have A_:=ah (vK.out.below hb4 vK.out.lt)
 have QZ:(fu p dx).seats.length=p.parts.length:=lg ..
 obtain⟨as4,cs4,Iu,RD⟩:=yR.sv.shape
 rw[gV yR.mo,QZ] at Iu
 dsimp only at Iu
 subst Iu
 have HV4:=ah (je (HP.out.below jK) N9 yR)
 have QO:=ah yR
 clear hcb bC bn bA bE hb4 yR Q9 QZ RD
 generalize hh1:fu p dx=h1 at*
 have HH1:=ah hh1
 clear hh1
 go_wp2_with(first|(((with_reducible refine bS 36 ?_);(refine aU rfl 36 _ _ rfl (hC (.slice a1 p.parts.length c1) (.slice a2 p.wins.length c2) (.slice a3 p.chans.length c3) (.slice ia dx.length ic) p ⟨.slice as4 p.parts.length cs4,ss4,av4,zh,G7⟩ h1) eH (HV4.out) aF ?_ ?_ ?_;(exact aM);(exact aM)));(generalize bR:World.alloc _ _=w5;have K5:aD w5 (w4.heap.size) (hC (.slice a1 p.parts.length c1) (.slice a2 p.wins.length c2) (.slice a3 p.chans.length c3) (.slice ia dx.length ic) p ⟨.slice as4 p.parts.length cs4,ss4,av4,zh,G7⟩ h1) 36:=bH;have hb0:Below w4.heap.size w4 w5:=bN;have hz0:w5.heap.size=w4.heap.size+1:=bX;clear bR;have K5:=ah K5);have XA:=A_.out.below hb0 A_.out.lt;obtain⟨hcb,bC,bn,bA,bE⟩:=aD.rules XA)|fail)
 have iE:=jK.trans (hb0.mono jK.size)
 have XE:=ah (QO.out.below hb0)
 have zI:=ah XA
 clear XA hb0 hz0 QO HV4 vK A_
 with_reducible refine(Ao.out w5 iE).mono ?_
 rintro en w6 ⟨⟨sv6,YG,YV,xA,ED⟩,rfl,AZ,Bb,kM⟩
 have mD:=iE.trans (kM.mono iE.size)
 have vL:=ah (zI.out.below kM zI.out.lt)
 have K6:=ah (K5.out.below kM K5.out.lt)
 have Zw:=ah (XE.out.below kM)
 have QY:(fu p kS).seats.length=p.parts.length:=lg ..
 obtain⟨YW,YT,Ir,RB⟩:=AZ.sv.shape
 rw[gV AZ.mo,QY] at Ir
 dsimp only at Ir
 subst Ir
 have Oc:=ah (je (HP.out.below mD) hkj AZ)
 have Y7:=ah AZ
 clear hcb bC bn bA bE kM AZ Bb QY RB XE K5 zI
 generalize hh2:fu p kS=h2 at*
 have HH2:=ah hh2
 clear hh2
 by_cases hM0:M<0
 ·have d0:decide (M<0)=true:=decide_eq_true hM0
  exact aby
 have d0:decide (M<0)=false:=decide_eq_false hM0
 by_cases hM1:(p.parts.length:Int)≤M
 ·have d1:decide ((p.parts.length:Int)≤M)=true:=decide_eq_true hM1
  exact aby
 have d1:decide ((p.parts.length:Int)≤M)=false:=decide_eq_false hM1
 obtain⟨i,rfl⟩:∃i:Nat,M=i:=⟨M.toNat,aj⟩
 go_wp2_with(first|(((with_reducible refine bS 36 ?_);(refine aU rfl 36 _ _ rfl (hC (.slice a1 p.parts.length c1) (.slice a2 p.wins.length c2) (.slice a3 p.chans.length c3) (.slice ja kS.length jc) p ⟨.slice YW p.parts.length YT,YG,YV,xA,ED⟩ h2) eH (Oc.out) aF ?_ ?_ ?_;(exact aM);(exact aM)));(generalize bR:World.alloc _ _=w7;have K7:aD w7 (w6.heap.size) (hC (.slice a1 p.parts.length c1) (.slice a2 p.wins.length c2) (.slice a3 p.chans.length c3) (.slice ja kS.length jc) p ⟨.slice YW p.parts.length YT,YG,YV,xA,ED⟩ h2) 36:=bH;have hb0:Below w6.heap.size w6 w7:=bN;have hz0:w7.heap.size=w6.heap.size+1:=bX;clear bR;have K7:=ah K7);have hk7:=vL.out.below hb0 vL.out.lt;have OC:=K6.out.below hb0 K6.out.lt;obtain⟨hcb,bC,bn,bA,bE⟩:=aD.rules hk7;obtain⟨hcs,MV,hls,hns,YL⟩:=aD.rules OC)|fail)
 have mq:=mD.trans (hb0.mono mD.size)
 have M5:=ah hk7
 have K57:=ah OC
 have ab3:=ah (Zw.out.below hb0)
 have HM7:=ah (Y7.out.below hb0)
 clear hk7 OC hb0 hz0 hcs MV hls hns YL Zw Y7 Oc vL K6
 have HAL:=ah (fun W (h:Below w.heap.size w W) (x:Int) h0 h1=>Xq a1 p.parts.length c1 p.frame (.slice a2 p.wins.length c2) (.slice a3 p.chans.length c3) p.chans (.slice ia dx.length ic) (.slice ja kS.length jc) dx kS x W (HP.out.below h).chans (HI.out.below h) (HJ.out.below h) aj aj h0 h1)
 with_reducible refine(HAL.out w7 mq i aj aj).mono ?_
 rintro en w8 ⟨⟨b3,rfl,ane⟩,ku⟩
 have BP:=mq.trans (ku.mono mq.size)
 have xg:=ah (M5.out.below ku M5.out.lt)
 clear hcb bC bn bA bE
 obtain⟨hcb,bC,bn,bA,bE⟩:=aD.rules xg.out
 go_wp2_with fail
 with_reducible refine(HAL.out w8 BP 0 aj aj).mono ?_
 rintro en w9 ⟨⟨b4,rfl,anc⟩,oN⟩
 have mO:=BP.trans (oN.mono BP.size)
 have Io:=ah (xg.out.below oN xg.out.lt)
 have abS:=ku.trans (oN.mono ku.size)
 have K59:=ah (K57.out.below abS K57.out.lt)
 have K79:=ah (K7.out.below abS K7.out.lt)
 have IV:=ah (ab3.out.below abS)
 have OO:=ah (HM7.out.below abS)
 clear hcb bC bn bA bE HAL M5 xg K57 K7 ab3 HM7 ku oN abS mq BP
 cases b3
 ·cases b4
  ·go_wp2_with fail
   go_ret
   exact⟨rfl,mO⟩
  ·go_wp2_with fail
   go_ret
   exact⟨rfl,mO⟩
 cases b4
 ·go_wp2_with fail
  go_ret
  exact⟨rfl,mO⟩
 have hag:=T9 hok aj aj (ane rfl) (anc rfl) m
 clear ane anc
 obtain⟨hcb,bC,bn,bA,bE⟩:=aD.rules Io.out
 have HV5:=ah (je (HP.out.below mO) N9 IV.out)
 have HV7:=ah (je (HP.out.below mO) hkj OO.out)
 have Eu:=ah (fun W (h:Below w9.heap.size w9 W)=>Ru (.slice a1 p.parts.length c1) (.slice a2 p.wins.length c2) (.slice a3 p.chans.length c3) (.slice ia dx.length ic) p ⟨.slice as4 p.parts.length cs4,ss4,av4,zh,G7⟩ h1 0 0 m W (HP.out.below (mO.trans (h.mono mO.size))) N9 (IV.out.below h) (Et.out W (mO.trans (h.mono mO.size))) hok HGI.out aj aj)
 have FV:=ah (fun W (h:Below w9.heap.size w9 W)=>Ru (.slice a1 p.parts.length c1) (.slice a2 p.wins.length c2) (.slice a3 p.chans.length c3) (.slice ja kS.length jc) p ⟨.slice YW p.parts.length YT,YG,YV,xA,ED⟩ h2 0 0 m W (HP.out.below (mO.trans (h.mono mO.size))) hkj (OO.out.below h) (Et.out W (mO.trans (h.mono mO.size))) hok HGJ.out aj aj)
 have Eu:=ah ac_
 have FV:=ah ac9
 have N_:=HRI.out m
 rw[Nat.zero_add] at N_
 rw[HH1.out,HH2.out,Int.toNat_natCast] at hag
 have hlX:=N_.len
 obtain⟨x,hx⟩:∃x,(nT p h1 m).seats[i]?=some x:=⟨_,List.getElem?_eq_getElem (by rw[hlX];omega)⟩
 have HBD:=ah (N_.bd x (List.mem_of_getElem? hx))
 have hy:(nT p h2 m).seats[i]?=some x:=by rw[←hx];exact hag.1.symm
 have hlY:(nT p h2 m).seats.length=p.parts.length:=by
  have:=((HGJ.out).run hok m).len
  exact this
 have hsc:=hag.2.1
 have hnw:=hag.2.2
 clear hag N_
 generalize nT p h1 m=X at*
 generalize nT p h2 m=Y at*
 have e1:(X.sched==Y.sched)=true:=by rw[hsc];exact beq_self_eq_true _
 have e2:(X.now==Y.now)=true:=by rw[hnw];exact beq_self_eq_true _
 clear hsc hnw
 have HLX:=ah hlX
 have HLY:=ah hlY
 clear hlX hlY
 go_wp2_with fail
 refine ET (fun a W=>∃q:Nat,EJ 145 [(1,.pointer (some ⟨w.heap.size,0,none⟩)),(7,.pointer (some ⟨w6.heap.size,0,none⟩)),(11,.pointer (some ⟨q,0,none⟩))] a∧∃s':Hs,aD W q (hC (.slice a1 p.parts.length c1) (.slice a2 p.wins.length c2) (.slice a3 p.chans.length c3) (.slice ia dx.length ic) p s' X) 36∧MR W s' X (8*m)∧Below w9.heap.size w9 W∧w9.heap.size≤q) ?_ ?_
 ·((refine aY (fun W=>Below w9.heap.size w9 W) (fun i=>decide (i<6)) ay ?_);
          have hS:Below w9.heap.size w9 w9.drew:=(Below.refl _ _).drew;
          (refine bL 0 (oi:=⟨some 90,_,_,_,_,_⟩) rfl ay om hS (dh 36 _ rfl (hC (.slice a1 p.parts.length c1) (.slice a2 p.wins.length c2) (.slice a3 p.chans.length c3) (.slice ia dx.length ic) p ⟨.slice as4 p.parts.length cs4,ss4,av4,zh,G7⟩ h1) eH HV5.out aF bG (fun W hs=>K59.out.below hs K59.out.lt)) ?_);
          (try simp only[pt]);
          (refine tk 1 91 hS ?_);
          (refine tk 2 92 hS ?_ (hy:=Or.inl ⟨aF,sQ⟩));
          (refine eX 3 5 (oi:=⟨some 93,_,_,_,_,_⟩) (oj:=⟨some 11,_,_,_,_,_⟩) rfl rfl ay rfl rfl (fun K hK=>?_) (fun K hK=>?_));
          (focus((go_simp;(with_reducible refine(HMO.out _).mono ?_);rintro en wA ⟨rfl,Ik⟩;have hS:=hS.trans (Below.mono Ik hS.size);(try(have bT:=aD.below bT Ik bT.lt));(try go_wp2_with fail));(refine hK.out _ _ (fun _=>b_) ?_;clear hK K);(try simp only[pt]);(refine eX 4 5 (oi:=⟨some 94,_,_,_,_,_⟩) (oj:=⟨some 11,_,_,_,_,_⟩) rfl rfl ay rfl rfl (fun K hK=>?_) (fun K hK=>?_));(focus((go_simp;(with_reducible refine(Eu.out _ hS).mono ?_);rintro en wB ⟨sB,rfl,o_,UA,GU⟩;have hS:=hS.trans (Below.mono GU hS.size);(try(have yU:=UA qa bT.lt (IV.out.away gy));have bT:=aD.below bT GU bT.lt);(try go_wp2_with fail));(refine hK.out _ _ (fun _=>b_) ?_;clear hK K);(try simp only[pt]);(refine aJ 5 (oi:=⟨some 11,_,_,_,_,_⟩) rfl ay rfl (fun K hK=>?_));(refine eF 36 rfl (z:= .agg jV) ay jV rfl ?_);(refine hidS hK (hS.alloc hS.size _) (fun hS=>?_);clear hK K);(try simp only[pt]);(first|(have bT:=aD.new wB jV 36;have dK:Below wB.heap.size wB (wB.alloc (.cells jV 36)):=(Below.refl _ _).alloc (Nat.le_refl _) _;have gy:w9.heap.size≤wB.heap.size:=Nc;have yU:=o_.away (B:=wB.heap.size) (Nat.le_refl _);have o_:=o_.below dK;generalize wB.alloc (.cells jV 36)=w5 at hS bT dK o_⊢;generalize wB.heap.size=qa at yU bT gy⊢)|(have bT:=aD.new wA jV 36;have dK:Below wA.heap.size wA (wA.alloc (.cells jV 36)):=(Below.refl _ _).alloc (Nat.le_refl _) _;have gy:w9.heap.size≤wA.heap.size:=Nb;generalize wA.alloc (.cells jV 36)=w5 at hS bT dK⊢;generalize wA.heap.size=qa at bT gy⊢)|(have bT:=aD.new w9.drew jV 36;have dK:Below w9.drew.heap.size w9.drew (w9.drew.alloc (.cells jV 36)):=(Below.refl _ _).alloc (Nat.le_refl _) _;have gy:w9.heap.size≤w9.drew.heap.size:=Ng;generalize w9.drew.alloc (.cells jV 36)=w5 at hS bT dK⊢;generalize w9.drew.heap.size=qa at bT gy⊢));(refine aZ 6 ay ?_ rfl);simp only[List.toList_toArray,List.drop_succ_cons,List.drop_zero];(have MU:jV.size=11:=rfl;have Es:=ah bT;have Qs:=je (HP.out.below (mO.trans (hS.mono mO.size))) N9 o_;have HMZ:=ah o_;have Y_:=ah yU;have Y3:=ah hS;go_wp2_with(first|((with_reducible refine bS 36 ?_);(refine aR rfl 36 _ _ rfl Es.out (.agg (hC (.slice a1 p.parts.length c1) (.slice a2 p.wins.length c2) (.slice a3 p.chans.length c3) (.slice ia dx.length ic) p sB X)) eH (Qs) ?_ (_) (gM 11 lX ()) ?_ ?_ ?_;(exact gG);(exact aM);(exact aM);intro wZ YU YP hzZ YR))|fail);exact⟨qa,EJ.of rfl ay IX,sB,YU,HMZ.out.bP Y_.out Es.out rfl aC aC aC aC YP,Y3.out.trans (YR.mono gy),gy⟩)));(focus((refine eF 36 rfl (z:= .agg jV) ay jV rfl ?_);(refine hidS hK (hS.alloc hS.size _) (fun hS=>?_);clear hK K);(try simp only[pt]);(first|(have bT:=aD.new wB jV 36;have dK:Below wB.heap.size wB (wB.alloc (.cells jV 36)):=(Below.refl _ _).alloc (Nat.le_refl _) _;have gy:w9.heap.size≤wB.heap.size:=Nc;have yU:=o_.away (B:=wB.heap.size) (Nat.le_refl _);have o_:=o_.below dK;generalize wB.alloc (.cells jV 36)=w5 at hS bT dK o_⊢;generalize wB.heap.size=qa at yU bT gy⊢)|(have bT:=aD.new wA jV 36;have dK:Below wA.heap.size wA (wA.alloc (.cells jV 36)):=(Below.refl _ _).alloc (Nat.le_refl _) _;have gy:w9.heap.size≤wA.heap.size:=Nb;generalize wA.alloc (.cells jV 36)=w5 at hS bT dK⊢;generalize wA.heap.size=qa at bT gy⊢)|(have bT:=aD.new w9.drew jV 36;have dK:Below w9.drew.heap.size w9.drew (w9.drew.alloc (.cells jV 36)):=(Below.refl _ _).alloc (Nat.le_refl _) _;have gy:w9.heap.size≤w9.drew.heap.size:=Ng;generalize w9.drew.alloc (.cells jV 36)=w5 at hS bT dK⊢;generalize w9.drew.heap.size=qa at bT gy⊢));exact amm))));
          (focus((refine eF 36 rfl (z:= .agg jV) ay jV rfl ?_);(refine hidS hK (hS.alloc hS.size _) (fun hS=>?_);clear hK K);(try simp only[pt]);(first|(have bT:=aD.new wB jV 36;have dK:Below wB.heap.size wB (wB.alloc (.cells jV 36)):=(Below.refl _ _).alloc (Nat.le_refl _) _;have gy:w9.heap.size≤wB.heap.size:=Nc;have yU:=o_.away (B:=wB.heap.size) (Nat.le_refl _);have o_:=o_.below dK;generalize wB.alloc (.cells jV 36)=w5 at hS bT dK o_⊢;generalize wB.heap.size=qa at yU bT gy⊢)|(have bT:=aD.new wA jV 36;have dK:Below wA.heap.size wA (wA.alloc (.cells jV 36)):=(Below.refl _ _).alloc (Nat.le_refl _) _;have gy:w9.heap.size≤wA.heap.size:=Nb;generalize wA.alloc (.cells jV 36)=w5 at hS bT dK⊢;generalize wA.heap.size=qa at bT gy⊢)|(have bT:=aD.new w9.drew jV 36;have dK:Below w9.drew.heap.size w9.drew (w9.drew.alloc (.cells jV 36)):=(Below.refl _ _).alloc (Nat.le_refl _) _;have gy:w9.heap.size≤w9.drew.heap.size:=Ng;generalize w9.drew.alloc (.cells jV 36)=w5 at hS bT dK⊢;generalize w9.drew.heap.size=qa at bT gy⊢));(refine aJ 3 (oi:=⟨some 93,_,_,_,_,_⟩) rfl ay rfl (fun K hK=>?_));(go_simp;(with_reducible refine(HMO.out _).mono ?_);rintro en wA ⟨rfl,Ik⟩;have hS:=hS.trans (Below.mono Ik hS.size);(try(have bT:=aD.below bT Ik bT.lt));(try go_wp2_with fail));(refine hK.out _ _ (fun _=>b_) ?_;clear hK K);(try simp only[pt]);exact amm)))
 ·rintro a wC ⟨q1,BO,⟨svB,Us,avB,F7,Rb⟩,hbq,o_,hS,gD⟩
  obtain⟨f,rfl,hf⟩:=BO.act
  have f1:f 1=.pointer (some ⟨w.heap.size,0,none⟩):=hf (1,.pointer (some ⟨w.heap.size,0,none⟩)) aI
  have f7:f 7=.pointer (some ⟨w6.heap.size,0,none⟩):=hf (7,.pointer (some ⟨w6.heap.size,0,none⟩)) aI
  have f11:f 11=.pointer (some ⟨q1,0,none⟩):=hf (11,.pointer (some ⟨q1,0,none⟩)) aI
  have IB:((List.range 145).map f).toArray=#[f 0,.pointer (some ⟨w.heap.size,0,none⟩),f 2,f 3,f 4,f 5,f 6,.pointer (some ⟨w6.heap.size,0,none⟩),f 8,f 9,f 10,.pointer (some ⟨q1,0,none⟩),f 12,f 13,f 14,f 15,f 16,f 17,f 18,f 19,f 20,f 21,f 22,f 23,f 24,f 25,f 26,f 27,f 28,f 29,f 30,f 31,f 32,f 33,f 34,f 35,f 36,f 37,f 38,f 39,f 40,f 41,f 42,f 43,f 44,f 45,f 46,f 47,f 48,f 49,f 50,f 51,f 52,f 53,f 54,f 55,f 56,f 57,f 58,f 59,f 60,f 61,f 62,f 63,f 64,f 65,f 66,f 67,f 68,f 69,f 70,f 71,f 72,f 73,f 74,f 75,f 76,f 77,f 78,f 79,f 80,f 81,f 82,f 83,f 84,f 85,f 86,f 87,f 88,f 89,f 90,f 91,f 92,f 93,f 94,f 95,f 96,f 97,f 98,f 99,f 100,f 101,f 102,f 103,f 104,f 105,f 106,f 107,f 108,f 109,f 110,f 111,f 112,f 113,f 114,f 115,f 116,f 117,f 118,f 119,f 120,f 121,f 122,f 123,f 124,f 125,f 126,f 127,f 128,f 129,f 130,f 131,f 132,f 133,f 134,f 135,f 136,f 137,f 138,f 139,f 140,f 141,f 142,f 143,f 144]:=by
   rw[←f1,←f7,←f11]
   kernel_rfl
  rw[IB]
  clear IB hf f1 f7 f11 BO
  have IG:=mO.trans (hS.mono mO.size)
  have OG:=hS
  have QL:=ah (Io.out.below hS Io.out.lt)
  have K7C:=ah (K79.out.below hS K79.out.lt)
  have aoT:=hS.size
  have OM:=ah (OO.out.below hS)
  have KQ1:=ah hbq
  have HV7:=ah (je (HP.out.below IG) hkj OM.out)
  have HMB:=ah o_
  clear o_
  clear hcb bC bn bA bE hbq hS Io K79 K59 IV OO Eu
  obtain⟨hcb,bC,bn,bA,bE⟩:=aD.rules QL.out
  go_wp2_with fail
  refine ET (fun a W=>∃q:Nat,EJ 145 [(1,.pointer (some ⟨w.heap.size,0,none⟩)),(11,.pointer (some ⟨q1,0,none⟩)),(12,.pointer (some ⟨q,0,none⟩))] a∧∃s':Hs,aD W q (hC (.slice a1 p.parts.length c1) (.slice a2 p.wins.length c2) (.slice a3 p.chans.length c3) (.slice ja kS.length jc) p s' Y) 36∧MR W s' Y (8*m)∧Below wC.heap.size wC W∧wC.heap.size≤q) ?_ ?_
  ·((refine aY (fun W=>Below wC.heap.size wC W) (fun i=>decide (i<6)) ay ?_);
          have hS:Below wC.heap.size wC wC.drew:=(Below.refl _ _).drew;
          (refine bL 0 (oi:=⟨some 95,_,_,_,_,_⟩) rfl ay om hS (dh 36 _ rfl (hC (.slice a1 p.parts.length c1) (.slice a2 p.wins.length c2) (.slice a3 p.chans.length c3) (.slice ja kS.length jc) p ⟨.slice YW p.parts.length YT,YG,YV,xA,ED⟩ h2) eH HV7.out aF bG (fun W hs=>K7C.out.below hs K7C.out.lt)) ?_);
          (try simp only[pt]);
          (refine tk 1 96 hS ?_);
          (refine tk 2 97 hS ?_ (hy:=Or.inl ⟨aF,sQ⟩));
          (refine eX 3 5 (oi:=⟨some 98,_,_,_,_,_⟩) (oj:=⟨some 12,_,_,_,_,_⟩) rfl rfl ay rfl rfl (fun K hK=>?_) (fun K hK=>?_));
          (focus((go_simp;(with_reducible refine(HMO.out _).mono ?_);rintro en wA ⟨rfl,Ik⟩;have hS:=hS.trans (Below.mono Ik hS.size);(try(have bT:=aD.below bT Ik bT.lt));(try go_wp2_with fail));(refine hK.out _ _ (fun _=>b_) ?_;clear hK K);(try simp only[pt]);(refine eX 4 5 (oi:=⟨some 99,_,_,_,_,_⟩) (oj:=⟨some 12,_,_,_,_,_⟩) rfl rfl ay rfl rfl (fun K hK=>?_) (fun K hK=>?_));(focus((go_simp;(with_reducible refine(FV.out _ (OG.trans (Below.mono O4 OG.size))).mono ?_);rintro en wB ⟨sB,rfl,o_,UA,GU⟩;have hS:=hS.trans (Below.mono GU hS.size);(try(have yU:=UA qa bT.lt (OM.out.away gy));have bT:=aD.below bT GU bT.lt);(try go_wp2_with fail));(refine hK.out _ _ (fun _=>b_) ?_;clear hK K);(try simp only[pt]);(refine aJ 5 (oi:=⟨some 12,_,_,_,_,_⟩) rfl ay rfl (fun K hK=>?_));(refine eF 36 rfl (z:= .agg jV) ay jV rfl ?_);(refine hidS hK (hS.alloc hS.size _) (fun hS=>?_);clear hK K);(try simp only[pt]);(first|(have bT:=aD.new wB jV 36;have dK:Below wB.heap.size wB (wB.alloc (.cells jV 36)):=(Below.refl _ _).alloc (Nat.le_refl _) _;have gy:wC.heap.size≤wB.heap.size:=Na;have yU:=o_.away (B:=wB.heap.size) (Nat.le_refl _);have o_:=o_.below dK;generalize wB.alloc (.cells jV 36)=w5 at hS bT dK o_⊢;generalize wB.heap.size=qa at yU bT gy⊢)|(have bT:=aD.new wA jV 36;have dK:Below wA.heap.size wA (wA.alloc (.cells jV 36)):=(Below.refl _ _).alloc (Nat.le_refl _) _;have gy:wC.heap.size≤wA.heap.size:=M_;generalize wA.alloc (.cells jV 36)=w5 at hS bT dK⊢;generalize wA.heap.size=qa at bT gy⊢)|(have bT:=aD.new wC.drew jV 36;have dK:Below wC.drew.heap.size wC.drew (wC.drew.alloc (.cells jV 36)):=(Below.refl _ _).alloc (Nat.le_refl _) _;have gy:wC.heap.size≤wC.drew.heap.size:=Nf;generalize wC.drew.alloc (.cells jV 36)=w5 at hS bT dK⊢;generalize wC.drew.heap.size=qa at bT gy⊢));(refine aZ 6 ay ?_ rfl);simp only[List.toList_toArray,List.drop_succ_cons,List.drop_zero];(have MU:jV.size=11:=rfl;have Es:=ah bT;have Qs:=je (HP.out.below (IG.trans (hS.mono IG.size))) hkj o_;have HMZ:=ah o_;have Y_:=ah yU;have Y3:=ah hS;go_wp2_with(first|((with_reducible refine bS 36 ?_);(refine aR rfl 36 _ _ rfl Es.out (.agg (hC (.slice a1 p.parts.length c1) (.slice a2 p.wins.length c2) (.slice a3 p.chans.length c3) (.slice ja kS.length jc) p sB Y)) eH (Qs) ?_ (_) (gM 11 lX ()) ?_ ?_ ?_;(exact gG);(exact aM);(exact aM);intro wZ YU YP hzZ YR))|fail);exact⟨qa,EJ.of rfl ay IX,sB,YU,HMZ.out.bP Y_.out Es.out rfl aC aC aC aC YP,Y3.out.trans (YR.mono gy),gy⟩)));(focus((refine eF 36 rfl (z:= .agg jV) ay jV rfl ?_);(refine hidS hK (hS.alloc hS.size _) (fun hS=>?_);clear hK K);(try simp only[pt]);(first|(have bT:=aD.new wB jV 36;have dK:Below wB.heap.size wB (wB.alloc (.cells jV 36)):=(Below.refl _ _).alloc (Nat.le_refl _) _;have gy:wC.heap.size≤wB.heap.size:=Na;have yU:=o_.away (B:=wB.heap.size) (Nat.le_refl _);have o_:=o_.below dK;generalize wB.alloc (.cells jV 36)=w5 at hS bT dK o_⊢;generalize wB.heap.size=qa at yU bT gy⊢)|(have bT:=aD.new wA jV 36;have dK:Below wA.heap.size wA (wA.alloc (.cells jV 36)):=(Below.refl _ _).alloc (Nat.le_refl _) _;have gy:wC.heap.size≤wA.heap.size:=M_;generalize wA.alloc (.cells jV 36)=w5 at hS bT dK⊢;generalize wA.heap.size=qa at bT gy⊢)|(have bT:=aD.new wC.drew jV 36;have dK:Below wC.drew.heap.size wC.drew (wC.drew.alloc (.cells jV 36)):=(Below.refl _ _).alloc (Nat.le_refl _) _;have gy:wC.heap.size≤wC.drew.heap.size:=Nf;generalize wC.drew.alloc (.cells jV 36)=w5 at hS bT dK⊢;generalize wC.drew.heap.size=qa at bT gy⊢));exact amn))));
          (focus((refine eF 36 rfl (z:= .agg jV) ay jV rfl ?_);(refine hidS hK (hS.alloc hS.size _) (fun hS=>?_);clear hK K);(try simp only[pt]);(first|(have bT:=aD.new wB jV 36;have dK:Below wB.heap.size wB (wB.alloc (.cells jV 36)):=(Below.refl _ _).alloc (Nat.le_refl _) _;have gy:wC.heap.size≤wB.heap.size:=Na;have yU:=o_.away (B:=wB.heap.size) (Nat.le_refl _);have o_:=o_.below dK;generalize wB.alloc (.cells jV 36)=w5 at hS bT dK o_⊢;generalize wB.heap.size=qa at yU bT gy⊢)|(have bT:=aD.new wA jV 36;have dK:Below wA.heap.size wA (wA.alloc (.cells jV 36)):=(Below.refl _ _).alloc (Nat.le_refl _) _;have gy:wC.heap.size≤wA.heap.size:=M_;generalize wA.alloc (.cells jV 36)=w5 at hS bT dK⊢;generalize wA.heap.size=qa at bT gy⊢)|(have bT:=aD.new wC.drew jV 36;have dK:Below wC.drew.heap.size wC.drew (wC.drew.alloc (.cells jV 36)):=(Below.refl _ _).alloc (Nat.le_refl _) _;have gy:wC.heap.size≤wC.drew.heap.size:=Nf;generalize wC.drew.alloc (.cells jV 36)=w5 at hS bT dK⊢;generalize wC.drew.heap.size=qa at bT gy⊢));(refine aJ 3 (oi:=⟨some 98,_,_,_,_,_⟩) rfl ay rfl (fun K hK=>?_));(go_simp;(with_reducible refine(HMO.out _).mono ?_);rintro en wA ⟨rfl,Ik⟩;have hS:=hS.trans (Below.mono Ik hS.size);(try(have bT:=aD.below bT Ik bT.lt));(try go_wp2_with fail));(refine hK.out _ _ (fun _=>b_) ?_;clear hK K);(try simp only[pt]);exact amn)))
  ·rintro a wD ⟨q2,BO,⟨svD,ssD,avD,arK,asF⟩,hbr,hmD,hS,mh⟩
   obtain⟨f,rfl,hf⟩:=BO.act
   have f1:f 1=.pointer (some ⟨w.heap.size,0,none⟩):=hf (1,.pointer (some ⟨w.heap.size,0,none⟩)) aI
   have f11:f 11=.pointer (some ⟨q1,0,none⟩):=hf (11,.pointer (some ⟨q1,0,none⟩)) aI
   have f12:f 12=.pointer (some ⟨q2,0,none⟩):=hf (12,.pointer (some ⟨q2,0,none⟩)) aI
   have IB:((List.range 145).map f).toArray=#[f 0,.pointer (some ⟨w.heap.size,0,none⟩),f 2,f 3,f 4,f 5,f 6,f 7,f 8,f 9,f 10,.pointer (some ⟨q1,0,none⟩),.pointer (some ⟨q2,0,none⟩),f 13,f 14,f 15,f 16,f 17,f 18,f 19,f 20,f 21,f 22,f 23,f 24,f 25,f 26,f 27,f 28,f 29,f 30,f 31,f 32,f 33,f 34,f 35,f 36,f 37,f 38,f 39,f 40,f 41,f 42,f 43,f 44,f 45,f 46,f 47,f 48,f 49,f 50,f 51,f 52,f 53,f 54,f 55,f 56,f 57,f 58,f 59,f 60,f 61,f 62,f 63,f 64,f 65,f 66,f 67,f 68,f 69,f 70,f 71,f 72,f 73,f 74,f 75,f 76,f 77,f 78,f 79,f 80,f 81,f 82,f 83,f 84,f 85,f 86,f 87,f 88,f 89,f 90,f 91,f 92,f 93,f 94,f 95,f 96,f 97,f 98,f 99,f 100,f 101,f 102,f 103,f 104,f 105,f 106,f 107,f 108,f 109,f 110,f 111,f 112,f 113,f 114,f 115,f 116,f 117,f 118,f 119,f 120,f 121,f 122,f 123,f 124,f 125,f 126,f 127,f 128,f 129,f 130,f 131,f 132,f 133,f 134,f 135,f 136,f 137,f 138,f 139,f 140,f 141,f 142,f 143,f 144]:=by
    rw[←f1,←f11,←f12]
    kernel_rfl
   rw[IB]
   clear IB hf f1 f11 f12 BO
   have abO:=IG.trans (hS.mono IG.size)
   have KBD:=ah (QL.out.below hS QL.out.lt)
   have U5:=ah (KQ1.out.below hS KQ1.out.lt)
   have KQ2:=ah hbr
   have o_:=HMB.out.below hS
   obtain⟨asB,csB,yc,OA⟩:=o_.sv.shape;rw[gV o_.mo,HLX.out] at yc;dsimp only at yc;subst yc;(obtain⟨uB,Ii⟩:∃u,Us[i]?=some u:=⟨_,List.getElem?_eq_getElem acd⟩);obtain⟨bB,oB,OD,Q6,Df⟩:=o_.sv.at (kI Ii hx);subst OD;have HCB:=ah Df;have HKB:=ah (o_.kr i _ _ Ii hx);clear Df OA Ii
   obtain⟨asD,csD,aj3,apW⟩:=hmD.sv.shape;rw[gV hmD.mo,HLY.out] at aj3;dsimp only at aj3;subst aj3;(obtain⟨uD,huD⟩:∃u,ssD[i]?=some u:=⟨_,List.getElem?_eq_getElem (by rw[show ssD.length=_ from hmD.mo,HLY.out];omega)⟩);obtain⟨bD,oD,aq0,aqY,am4⟩:=hmD.sv.at (kI huD hy);subst aq0;have HCD:=ah am4;have HKD:=ah (hmD.kr i _ _ huD hy);clear am4 apW huD
   have YH:=iT HKB.out x.2.1 x.2.2
   have hvD:=iT HKD.out x.2.1 x.2.2
   have akm:=HKB.out.val
   have akl:=HKD.out.val
   clear hcb bC bn bA bE hbr hS QL KQ1 HMB o_ hmD K7C OM FV
   obtain⟨hcb,bC,bn,bA,bE⟩:=aD.rules KBD.out
   obtain⟨hcc,Qy,hlc,Qv,LD⟩:=aD.rules U5.out
   go_wp2_with(first|((with_reducible refine cK 59 ?_);(refine aN rfl 59 _ rfl bB (oB+i*19) ?_ (iC uB x.1 x.2.1 x.2.2) dH (YH) HCB.out ?_;(exact aM)))|(((with_reducible refine bS 59 ?_);(refine aU rfl 59 _ _ rfl (xC uB x.1 (sx x.2.1 x.2.2)) dH (YH) aF ?_ ?_ ?_;(exact aM);(exact aM)));(generalize bR:World.alloc _ _=wE;have KF:aD wE (wD.heap.size) (xC uB x.1 (sx x.2.1 x.2.2)) 59:=bH;have hb0:Below wD.heap.size wD wE:=bN;have hz0:wE.heap.size=wD.heap.size+1:=bX;clear bR;have KF:=ah KF);have abQ:=hb0;clear hb0 hz0;have hkb:=KBD.out.below abQ KBD.out.lt;have hkd:=KQ2.out.below abQ KQ2.out.lt;have arI:=ah (HCD.out.below abQ aqY);clear hcb bC bn bA bE hcc Qy hlc Qv LD;obtain⟨hcb,bC,bn,bA,bE⟩:=aD.rules hkb;obtain⟨hcc,Qy,hlc,Qv,LD⟩:=aD.rules hkd)|((with_reducible refine cK 59 ?_);(refine aN rfl 59 _ rfl bD (oD+i*19) ?_ (iC uD x.1 x.2.1 x.2.2) dH (hvD) arI.out ?_;(exact aM)))|(((with_reducible refine bS 59 ?_);(refine aU rfl 59 _ _ rfl (xC uD x.1 (sx x.2.1 x.2.2)) dH (hvD) aF ?_ ?_ ?_;(exact aM);(exact aM)));(generalize bR:World.alloc _ _=wF;have KG:aD wF (wE.heap.size) (xC uD x.1 (sx x.2.1 x.2.2)) 59:=bH;have hb0:Below wE.heap.size wE wF:=bN;have hz0:wF.heap.size=wE.heap.size+1:=bX;clear bR;have KG:=ah KG);have anb:=hb0;clear hb0 hz0;have hkf:=KF.out.below anb KF.out.lt)|((with_reducible refine cK 57 ?_);(refine aN rfl 57 _ rfl wD.heap.size (0) ?_ (.agg (kC uB x.1)) eU (akm) (ru hkf) ?_;(exact aM)))|((with_reducible refine cK 57 ?_);(refine aN rfl 57 _ rfl wE.heap.size (0) ?_ (.agg (kC uD x.1)) eU (akl) (ru KG.out) ?_;(exact aM)))|fail)
   have agh:=abQ.trans (anb.mono abQ.size)
   with_reducible refine(NJ uB uD x.1 _ _ _ wF (HKB.out.below agh) (HKD.out.below agh) HBD.out).mono ?_
   rintro en wG ⟨rfl,hbG⟩
   have akG:=agh.trans (hbG.mono agh.size)
   have KFG:=ah (hkf.below hbG hkf.lt)
   have KGG:=ah (KG.out.below hbG KG.out.lt)
   have anw:=ah (U5.out.below akG U5.out.lt)
   have anv:=ah (KQ2.out.below akG KQ2.out.lt)
   have am7:=abO.trans (akG.mono abO.size)
   clear hcb bC bn bA bE hcc Qy hlc Qv LD hkf hkb hkd
   obtain⟨hcf,hff,hlf,hnf,hmf⟩:=aD.rules KFG.out
   obtain⟨hcg,hfg,hlg,hng,hmg⟩:=aD.rules KGG.out
   exact aiA
end Go.Proofs.YtgmodehldmahiaaGreatDoor
