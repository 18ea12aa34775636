/- Part 49 of 53 of the proof of topAlone_and_topApart. Conditions: see each. -/
import Derived.Test.YtgmodehldmahiaaGreatDoorB14
import Derived.Test.YtgmodehldmahiaaGreatDoorB47
import Derived.Test.YtgmodehldmahiaaGreatDoorB46
import Derived.Test.YtgmodehldmahiaaGreatDoorB48
set_option linter.unusedVariables false
set_option linter.unusedSimpArgs false
set_option maxRecDepth 8192
set_option maxHeartbeats 40000000
namespace Go.Proofs.YtgmodehldmahiaaGreatDoor
open Go Go.RowKit Go.Tm
attribute [local go_sem] fO fM fK d_ dM dZ dY dX dW dV dU dS dR dQ dP dO dN iQ iP iO iN iM iL iK iG iJ iI fU fT fQ fP fI fH fC
attribute [local go_sem] Gm Gl Gj Gi Gh Dy Gg Gf Gc Gb zZ uV uU
theorem afM(pv wv cv iv jv:Value)(p:bF.jE)(dx kS:List (List ByteArray))(N M:Int)(w:World)(hp:bF.jf w pv wv cv p)(hi:mR w iv dx)(hj:mR w jv kS)(hT:jw w)(hok:¬bF.gJ p):
  Calls Tryz.prog 4 #[.agg #[pv,.int .i64 p.frame,wv,cv,iv,jv,.int .i64 N,.int .i64 M]] w fun e w'=>e=.returned (.bool true)∧Below w.heap.size w w':=by
 have HSH:=ah (fun W (h:Below w.heap.size w W)=>AA W (hT.below h))
 have HF1:=ah (fun W (h:Below w.heap.size w W)=>wz iv dx W (hi.below h))
 have UH:=ah (fun W (h:Below w.heap.size w W)=>wz jv kS W (hj.below h))
 have FW:=ah (fun W (h:Below w.heap.size w W)=>Ee pv wv cv iv p dx W (hp.below h) (hi.below h) hok)
 have Ao:=ah (fun W (h:Below w.heap.size w W)=>Ee pv wv cv jv p kS W (hp.below h) (hj.below h) hok)
 obtain⟨a1,c1,a2,c2,a3,c3,rfl,rfl,rfl,jO,hl2,qM⟩:=hp.shape
 obtain⟨ia,ic,rfl,xW⟩:=hi.shape
 obtain⟨ja,jc,rfl,YO⟩:=hj.shape
 clear hp hi hj hT
 go_enter Tryz.func4,Tryz.ntmps4
 go_wp2_with fail
 (generalize bR:World.alloc _ _=w0;have KB:aD w0 (w.heap.size) (#[.slice a1 p.parts.length c1,.int .i64 p.frame,.slice a2 p.wins.length c2,.slice a3 p.chans.length c3,.slice ia dx.length ic,.slice ja kS.length jc,.int .i64 N,.int .i64 M]) 62:=bH;have hb0:Below w.heap.size w w0:=bN;have hz0:w0.heap.size=w.heap.size+1:=bX;clear bR;have KB:=ah KB)
 with_reducible refine(HSH.out w0 hb0).mono ?_
 rintro en w1 ⟨rfl,hb1⟩
 have bW:=hb0.trans (hb1.mono hb0.size)
 have p8:=ah (KB.out.below hb1 KB.out.lt)
 clear hb0 hz0
 obtain⟨hcb,bC,bn,bA,bE⟩:=aD.rules p8.out
 go_wp2_with fail
 with_reducible refine(HF1.out w1 bW).mono ?_
 rintro en w2 ⟨⟨b1,rfl⟩,hb2⟩
 have bM:=bW.trans (hb2.mono bW.size)
 have qO:=ah (p8.out.below hb2 p8.out.lt)
 clear hcb bC bn bA bE hb1 hb2 KB p8
 obtain⟨hcb,bC,bn,bA,bE⟩:=aD.rules qO.out
 cases b1
 ·obtain⟨w3,hw3⟩:∃w3,w3=w2:=⟨_,rfl⟩
  subst hw3
  have gZ:=bM
  have vK:=qO
  clear bM qO
  exact Zd
 ·go_wp2_with fail
  with_reducible refine(UH.out w2 bM).mono ?_
  rintro en w3 ⟨⟨b2,rfl⟩,hb3⟩
  have gZ:=bM.trans (hb3.mono bM.size)
  have vK:=ah (qO.out.below hb3 qO.out.lt)
  clear hcb bC bn bA bE hb3 bM qO
  obtain⟨hcb,bC,bn,bA,bE⟩:=aD.rules vK.out
  cases b2
  ·exact Zd
  ·exact Zd
theorem afL(pv wv cv iv jv:Value)(p:bF.jE)(dx kS:List (List ByteArray))(N M:Int)(w:World)(hp:bF.jf w pv wv cv p)(hi:mR w iv dx)(hj:mR w jv kS)(hT:jw w)(hok:bF.gJ p)(CX:Dk dx)(YN:Dk kS)(hM:(Lit.int .i64 M).wf=true):
  Calls Tryz.prog 4 #[.agg #[pv,.int .i64 p.frame,wv,cv,iv,jv,.int .i64 N,.int .i64 M]] w fun e w'=>e=.returned (.bool true)∧Below w.heap.size w w':=by
 have HSH:=ah (fun W (h:Below w.heap.size w W)=>AA W (hT.below h))
 have HF1:=ah (fun W (h:Below w.heap.size w W)=>wz iv dx W (hi.below h))
 have UH:=ah (fun W (h:Below w.heap.size w W)=>wz jv kS W (hj.below h))
 have FW:=ah (fun W (h:Below w.heap.size w W)=>Ab pv wv cv iv p dx W (hp.below h) (hi.below h) hok CX)
 have Ao:=ah (fun W (h:Below w.heap.size w W)=>Ab pv wv cv jv p kS W (hp.below h) (hj.below h) hok YN)
 have HMO:=ah (fun W=>Sw N W)
 have Et:=ah (fun W (h:Below w.heap.size w W)=>hT.below h)
 have HP:=ah hp
 have HI:=ah hi
 have HJ:=ah hj
 have N9:=hi.kind
 have hkj:=hj.kind
 have Ey:=Sy N
 have YJ:=hok.zX
 have hp6:=hok.Cn
 have hn0:=hok.VN
 have HGI:=ah (vG hok CX)
 have HGJ:=ah (vG hok YN)
 have HRI:=ah (fun i=>(vG hok CX).run hok i)
 obtain⟨a1,c1,a2,c2,a3,c3,rfl,rfl,rfl,jO,hl2,qM⟩:=hp.shape
 obtain⟨ia,ic,rfl,xW⟩:=hi.shape
 obtain⟨ja,jc,rfl,YO⟩:=hj.shape
 clear hp hi hj hT
 generalize hmm:tZ N=m at*
 clear hmm
 go_enter Tryz.func4,Tryz.ntmps4
 go_wp2_with fail
 (generalize bR:World.alloc _ _=w0;have KB:aD w0 (w.heap.size) (#[.slice a1 p.parts.length c1,.int .i64 p.frame,.slice a2 p.wins.length c2,.slice a3 p.chans.length c3,.slice ia dx.length ic,.slice ja kS.length jc,.int .i64 N,.int .i64 M]) 62:=bH;have hb0:Below w.heap.size w w0:=bN;have hz0:w0.heap.size=w.heap.size+1:=bX;clear bR;have KB:=ah KB)
 with_reducible refine(HSH.out w0 hb0).mono ?_
 rintro en w1 ⟨rfl,hb1⟩
 have bW:=hb0.trans (hb1.mono hb0.size)
 have p8:=ah (KB.out.below hb1 KB.out.lt)
 clear hb0 hz0
 obtain⟨hcb,bC,bn,bA,bE⟩:=aD.rules p8.out
 go_wp2_with fail
 with_reducible refine(HF1.out w1 bW).mono ?_
 rintro en w2 ⟨⟨b1,rfl⟩,hb2⟩
 have bM:=bW.trans (hb2.mono bW.size)
 have qO:=ah (p8.out.below hb2 p8.out.lt)
 clear hcb bC bn bA bE hb1 hb2 KB p8
 obtain⟨hcb,bC,bn,bA,bE⟩:=aD.rules qO.out
 cases b1
 ·obtain⟨w3,hw3⟩:∃w3,w3=w2:=⟨_,rfl⟩
  subst hw3
  have gZ:=bM
  have vK:=qO
  clear bM qO
  exact afT
 go_wp2_with fail
 with_reducible refine(UH.out w2 bM).mono ?_
 rintro en w3 ⟨⟨b2,rfl⟩,hb3⟩
 have gZ:=bM.trans (hb3.mono bM.size)
 have vK:=ah (qO.out.below hb3 qO.out.lt)
 clear hcb bC bn bA bE hb3 bM qO
 obtain⟨hcb,bC,bn,bA,bE⟩:=aD.rules vK.out
 cases b2
 ·exact afT
 go_wp2_with fail
 with_reducible refine(FW.out w3 gZ).mono ?_
 rintro en w4 ⟨⟨sv4,ss4,av4,zh,G7⟩,rfl,yR,Q9,hb4⟩
 have jK:=gZ.trans (hb4.mono gZ.size)
 have A_:=ah (vK.out.below hb4 vK.out.lt)
 have QZ:(fu p dx).seats.length=p.parts.length:=lg ..
 obtain⟨as4,cs4,Iu,RD⟩:=yR.sv.shape
 rw[gV yR.mo,QZ] at Iu
 dsimp only at Iu
 subst Iu
 have HV4:=ah (je (HP.out.below jK) N9 yR)
 have QO:=ah yR
 clear hcb bC bn bA bE hb4 yR Q9 QZ RD
 generalize hh1:fu p dx=h1 at*
 have HH1:=ah hh1
 clear hh1
 go_wp2_with(first|(((with_reducible refine bS 36 ?_);(refine aU rfl 36 _ _ rfl (hC (.slice a1 p.parts.length c1) (.slice a2 p.wins.length c2) (.slice a3 p.chans.length c3) (.slice ia dx.length ic) p ⟨.slice as4 p.parts.length cs4,ss4,av4,zh,G7⟩ h1) eH (HV4.out) aF ?_ ?_ ?_;(exact aM);(exact aM)));(generalize bR:World.alloc _ _=w5;have K5:aD w5 (w4.heap.size) (hC (.slice a1 p.parts.length c1) (.slice a2 p.wins.length c2) (.slice a3 p.chans.length c3) (.slice ia dx.length ic) p ⟨.slice as4 p.parts.length cs4,ss4,av4,zh,G7⟩ h1) 36:=bH;have hb0:Below w4.heap.size w4 w5:=bN;have hz0:w5.heap.size=w4.heap.size+1:=bX;clear bR;have K5:=ah K5);have XA:=A_.out.below hb0 A_.out.lt;obtain⟨hcb,bC,bn,bA,bE⟩:=aD.rules XA)|fail)
 have iE:=jK.trans (hb0.mono jK.size)
 have XE:=ah (QO.out.below hb0)
 have zI:=ah XA
 clear XA hb0 hz0 QO HV4 vK A_
 with_reducible refine(Ao.out w5 iE).mono ?_
 rintro en w6 ⟨⟨sv6,YG,YV,xA,ED⟩,rfl,AZ,Bb,kM⟩
 have mD:=iE.trans (kM.mono iE.size)
 have vL:=ah (zI.out.below kM zI.out.lt)
 have K6:=ah (K5.out.below kM K5.out.lt)
 have Zw:=ah (XE.out.below kM)
 have QY:(fu p kS).seats.length=p.parts.length:=lg ..
 obtain⟨YW,YT,Ir,RB⟩:=AZ.sv.shape
 rw[gV AZ.mo,QY] at Ir
 dsimp only at Ir
 subst Ir
 have Oc:=ah (je (HP.out.below mD) hkj AZ)
 have Y7:=ah AZ
 clear hcb bC bn bA bE kM AZ Bb QY RB XE K5 zI
 generalize hh2:fu p kS=h2 at*
 have HH2:=ah hh2
 clear hh2
 by_cases hM0:M<0
 ·have d0:decide (M<0)=true:=decide_eq_true hM0
  exact aby
 have d0:decide (M<0)=false:=decide_eq_false hM0
 by_cases hM1:(p.parts.length:Int)≤M
 ·have d1:decide ((p.parts.length:Int)≤M)=true:=decide_eq_true hM1
  exact aby
 have d1:decide ((p.parts.length:Int)≤M)=false:=decide_eq_false hM1
 obtain⟨i,rfl⟩:∃i:Nat,M=i:=⟨M.toNat,aj⟩
 by_cases hw1:p.wins.length=1
 rotate_left
 ·have d2:((p.wins.length:Int)!=1)=true:=by simp;omega
  exact aby
 have d2:((p.wins.length:Int)!=1)=false:=aV
 have HW1:=ah hw1
 clear hw1
 go_wp2_with(first|(((with_reducible refine bS 36 ?_);(refine aU rfl 36 _ _ rfl (hC (.slice a1 p.parts.length c1) (.slice a2 p.wins.length c2) (.slice a3 p.chans.length c3) (.slice ja kS.length jc) p ⟨.slice YW p.parts.length YT,YG,YV,xA,ED⟩ h2) eH (Oc.out) aF ?_ ?_ ?_;(exact aM);(exact aM)));(generalize bR:World.alloc _ _=w7;have K7:aD w7 (w6.heap.size) (hC (.slice a1 p.parts.length c1) (.slice a2 p.wins.length c2) (.slice a3 p.chans.length c3) (.slice ja kS.length jc) p ⟨.slice YW p.parts.length YT,YG,YV,xA,ED⟩ h2) 36:=bH;have hb0:Below w6.heap.size w6 w7:=bN;have hz0:w7.heap.size=w6.heap.size+1:=bX;clear bR;have K7:=ah K7);have hk7:=vL.out.below hb0 vL.out.lt;have OC:=K6.out.below hb0 K6.out.lt;obtain⟨hcb,bC,bn,bA,bE⟩:=aD.rules hk7;obtain⟨hcs,MV,hls,hns,YL⟩:=aD.rules OC)|fail)
 have mq:=mD.trans (hb0.mono mD.size)
 have M5:=ah hk7
 have K57:=ah OC
 have ab3:=ah (Zw.out.below hb0)
 have HM7:=ah (Y7.out.below hb0)
 clear hk7 OC hb0 hz0 hcs MV hls hns YL Zw Y7 Oc vL K6
 with_reducible refine(afb a1 p.parts.length c1 p.frame (.slice a2 p.wins.length c2) (.slice a3 p.chans.length c3) p.chans i w7 (HP.out.below mq).chans aj).mono ?_
 rintro en w8 ⟨⟨a8,c8,rfl⟩,ku⟩
 have BP:=mq.trans (ku.mono mq.size)
 have xg:=ah (M5.out.below ku M5.out.lt)
 clear hcb bC bn bA bE
 generalize hnI:(aW.qc p.chans i).length=nI at*
 by_cases mE:nI=0
 rotate_left
 ·have d3:decide (0<nI)=true:=decide_eq_true aj
  go_wp2_with fail
  go_ret
  exact⟨rfl,BP⟩
 subst mE
 have HNI:=ah hnI
 clear hnI
 obtain⟨hcb,bC,bn,bA,bE⟩:=aD.rules xg.out
 have Hu:=ah (fun W (h:Below w.heap.size w W)=>PW (.slice ia dx.length ic) dx i W (HI.out.below h))
 have nR:=ah (fun W (h:Below w.heap.size w W)=>PW (.slice ja kS.length jc) kS i W (HJ.out.below h))
 go_wp2_with fail
 with_reducible refine(Hu.out w8 BP).mono ?_
 rintro en wa ⟨va,rfl,hsa,hba⟩
 have agd:=BP.trans (hba.mono BP.size)
 have KBa:=ah (xg.out.below hba xg.out.lt)
 clear hcb bC bn bA bE
 obtain⟨hcb,bC,bn,bA,bE⟩:=aD.rules KBa.out
 have HSA:=ah hsa
 clear hsa
 go_wp2_with fail
 with_reducible refine(nR.out wa agd).mono ?_
 rintro en wb ⟨vb,rfl,MN,yT⟩
 have akA:=agd.trans (yT.mono agd.size)
 have abR:=(ku.trans (hba.mono ku.size)).trans (yT.mono (ku.trans (hba.mono ku.size)).size)
 have KBb:=ah (KBa.out.below yT KBa.out.lt)
 have K5b:=ah (K57.out.below abR K57.out.lt)
 have K7b:=ah (K7.out.below abR K7.out.lt)
 have anM:=ah (ab3.out.below abR)
 have anL:=ah (HM7.out.below abR)
 have h5:=HSA.out.below yT
 obtain⟨a5,c5,hv5,hl5⟩:=h5.shape
 obtain⟨a6,c6,FL,hl6⟩:=MN.shape
 subst hv5 FL
 have H5:=ah h5
 have H6:=ah MN
 have vT:∀(l:List ByteArray),(rE l).length=l.length:=fun l=>by simp
 rw[vT] at hl5 hl6 H5 H6
 rw[vT,vT]
 clear hcb bC bn bA bE vT h5 MN HSA Hu nR M5 xg KBa K57 K7 ab3 HM7 ku hba yT abR mq BP agd
 obtain⟨X,hX⟩:∃X,X=jr dx i:=⟨_,rfl⟩
 obtain⟨Y,hY⟩:∃Y,Y=jr kS i:=⟨_,rfl⟩
 rw[←hX] at hl5 H5⊢
 rw[←hY] at hl6 H6⊢
 have HXX:=ah hX
 have HYY:=ah hY
 clear hX hY
 by_cases hq:X.length=Y.length
 rotate_left
 ·have d:((X.length:Int)!=Y.length)=true:=by simp;omega
  go_wp2_with fail
  go_ret
  exact⟨rfl,akA⟩
 have d:((X.length:Int)!=Y.length)=false:=aV
 go_wp2_with fail
 go_loopw [11] (fun t W=>∃k:Nat,k≤X.length∧t=.int .i64 k∧Below wb.heap.size wb W∧Hid (X.take k=Y.take k)) (fun t _=>X.length-(intOf t).toNat)
 case atStart=>exact⟨0,Nat.zero_le _,rfl,Below.refl _ _,ah rfl⟩
 case round=>
  obtain⟨k,hk,rfl,zJ,HK⟩:=hrel
  have Qs:=zJ.size
  have agc:=akA.trans (zJ.mono akA.size)
  by_cases hkl:k<X.length
  ·obtain⟨s,hs⟩:∃s,X[k]?=some s:=⟨_,List.getElem?_eq_getElem hkl⟩
   obtain⟨t,ht⟩:∃t,Y[k]?=some t:=⟨_,List.getElem?_eq_getElem aj⟩
   obtain⟨b5,o5,akM,akL,hc5⟩:=(H5.out.below zJ).at (i:=k) (x:= .string s) oU
   obtain⟨b6,o6,akK,akJ,Oa⟩:=(H6.out.below zJ).at (i:=k) (x:= .string t) (by simp[ht])
   subst akM akK
   have akw:wr.cell? ⟨b5,o5+k,none⟩=some (.string s):=by simpa using hc5 0 (.string s) rfl
   have akv:wr.cell? ⟨b6,o6+k,none⟩=some (.string t):=by simpa using Oa 0 (.string t) rfl
   have g5:=oH akw akL
   have g6:=oH akv akJ
   have hwk:IntKind.i64.wrap ((k:Int)+1)=k+1:=IntWalk.i64_in _ aj
   have HS:=ah hs
   have HT2:=ah ht
   clear hs ht hc5 Oa
   by_cases hst:s=t
   ·subst hst
    have HN:=ah (X_ HK.out HS.out HT2.out)
    clear HK
    go_wp2_with fail
    ((refine wp_region_quiet_below ay ay ?_);(repeat(go_big_quiet_step (fail)));(refine wpQuiet_nil ?_);intro _ hw';obtain⟨⟨dq,osq⟩,hw''⟩:=hw';subst hw'';have hbq:=below_regrown wr dq osq;generalize Go.Sort.grow (redrawn wr dq) osq=wq at*;have hzq:=hbq.size)
    clear g5 g6
    go_wp2_with fail
    go_roundw
    case rel=>exact⟨k+1,aj,dn,zJ.trans (hbq.mono Qs),HN⟩
    case measure=>simp[intOf];omega
   ·have d2:(s==t)=false:=adV hst
    have d3:(s.toList==t.toList)=false:=Ya hst
    clear hst
    go_wp2_with fail
    ((refine wp_region_quiet_below ay ay ?_);(repeat(go_big_quiet_step (fail)));(refine wpQuiet_nil ?_);intro _ hw';obtain⟨⟨dq,osq⟩,hw''⟩:=hw';subst hw'';have hbq:=below_regrown wr dq osq;generalize Go.Sort.grow (redrawn wr dq) osq=wq at*;have hzq:=hbq.size)
    clear g5 g6
    go_wp2_with fail
    go_ret
    exact⟨rfl,agc.trans (hbq.mono agc.size)⟩
  obtain rfl:k=X.length:=by omega
  have Hq:jr dx i=jr kS i:=adG
  have hag:=T_ hok (M:=i) aj aj HW1.out HNI.out Hq m
  clear Hq
  go_wp2_with fail
  obtain⟨w9,hw9⟩:∃w9,w9=wr:=⟨_,rfl⟩
  subst hw9
  have mO:=agc
  have Io:=ah (KBb.out.below zJ KBb.out.lt)
  have K59:=ah (K5b.out.below zJ K5b.out.lt)
  have K79:=ah (K7b.out.below zJ K7b.out.lt)
  have IV:=ah (anM.out.below zJ)
  have OO:=ah (anL.out.below zJ)
  clear agc zJ Qs KBb K5b K7b anM anL H5 H6 HXX HYY HK hq d
  obtain⟨hcb,bC,bn,bA,bE⟩:=aD.rules Io.out
  have HV5:=ah (je (HP.out.below mO) N9 IV.out)
  have HV7:=ah (je (HP.out.below mO) hkj OO.out)
  have Eu:=ah (fun W (h:Below w9.heap.size w9 W)=>Ru (.slice a1 p.parts.length c1) (.slice a2 p.wins.length c2) (.slice a3 p.chans.length c3) (.slice ia dx.length ic) p ⟨.slice as4 p.parts.length cs4,ss4,av4,zh,G7⟩ h1 0 0 m W (HP.out.below (mO.trans (h.mono mO.size))) N9 (IV.out.below h) (Et.out W (mO.trans (h.mono mO.size))) hok HGI.out aj aj)
  have FV:=ah (fun W (h:Below w9.heap.size w9 W)=>Ru (.slice a1 p.parts.length c1) (.slice a2 p.wins.length c2) (.slice a3 p.chans.length c3) (.slice ja kS.length jc) p ⟨.slice YW p.parts.length YT,YG,YV,xA,ED⟩ h2 0 0 m W (HP.out.below (mO.trans (h.mono mO.size))) hkj (OO.out.below h) (Et.out W (mO.trans (h.mono mO.size))) hok HGJ.out aj aj)
  have Eu:=ah ac_
  have FV:=ah ac9
  have N_:=HRI.out m
  rw[Nat.zero_add] at N_
  rw[HH1.out,HH2.out,Int.toNat_natCast] at hag
  have hlX:=N_.len
  obtain⟨x,hx⟩:∃x,(nT p h1 m).seats[i]?=some x:=⟨_,List.getElem?_eq_getElem (by rw[hlX];omega)⟩
  have HBD:=ah (N_.bd x (List.mem_of_getElem? hx))
  have hy:(nT p h2 m).seats[i]?=some x:=by rw[←hx];exact hag.symm
  have hlY:(nT p h2 m).seats.length=p.parts.length:=by
   have:=((HGJ.out).run hok m).len
   exact this
  clear hag N_
  generalize nT p h1 m=X at*
  generalize nT p h2 m=Y at*
  have HLX:=ah hlX
  have HLY:=ah hlY
  clear hlX hlY
  refine ET (fun a W=>∃q:Nat,EJ 152 [(1,.pointer (some ⟨w.heap.size,0,none⟩)),(7,.pointer (some ⟨w6.heap.size,0,none⟩)),(12,.pointer (some ⟨q,0,none⟩))] a∧∃u:Ks,aD W q (xC u x.1 (sx x.2.1 x.2.2)) 59∧KR W u x.1∧Below w9.heap.size w9 W∧w9.heap.size≤q) ?_ ?_
  ·((refine aY (fun W=>Below w9.heap.size w9 W) (fun i=>decide (i<11)) ay ?_);
          have hS:Below w9.heap.size w9 w9.drew:=(Below.refl _ _).drew;
          (refine bL 0 (oi:=⟨some 113,_,_,_,_,_⟩) rfl ay om hS (dh 36 _ rfl (hC (.slice a1 p.parts.length c1) (.slice a2 p.wins.length c2) (.slice a3 p.chans.length c3) (.slice ia dx.length ic) p ⟨.slice as4 p.parts.length cs4,ss4,av4,zh,G7⟩ h1) eH HV5.out aF bG (fun W hs=>K59.out.below hs K59.out.lt)) ?_);
          (try simp only[pt]);
          (refine tk 1 114 hS ?_);
          (refine tk 2 115 hS ?_ (hy:=Or.inl ⟨aF,sQ⟩));
          (refine tk 6 119 hS ?_);
          (refine tk 7 120 hS ?_ (hy:=Or.inl ⟨aF,sQ⟩));
          (refine eX 3 10 (oi:=⟨some 116,_,_,_,_,_⟩) (oj:=⟨some 12,_,_,_,_,_⟩) rfl rfl ay rfl rfl (fun K hK=>?_) (fun K hK=>?_));
          (focus((go_simp;(with_reducible refine(HMO.out _).mono ?_);rintro en wA ⟨rfl,Ik⟩;have hS:=hS.trans (Below.mono Ik hS.size);(try(have bT:=aD.below bT Ik bT.lt));(try go_wp2_with fail));(refine hK.out _ _ (fun _=>b_) ?_;clear hK K);(try simp only[pt]);(refine eX 4 10 (oi:=⟨some 117,_,_,_,_,_⟩) (oj:=⟨some 12,_,_,_,_,_⟩) rfl rfl ay rfl rfl (fun K hK=>?_) (fun K hK=>?_));(focus((go_simp;(with_reducible refine(Eu.out _ hS).mono ?_);rintro en wB ⟨⟨svB,Us,avB,F7,Rb⟩,rfl,o_,UA,GU⟩;have hS:=hS.trans (Below.mono GU hS.size);obtain⟨asB,csB,yc,OA⟩:=o_.sv.shape;rw[gV o_.mo,HLX.out] at yc;dsimp only at yc;subst yc;(obtain⟨uB,Ii⟩:∃u,Us[i]?=some u:=⟨_,List.getElem?_eq_getElem acd⟩);obtain⟨bB,oB,OD,Q6,Df⟩:=o_.sv.at (kI Ii hx);subst OD;have HCB:=ah Df;have oO:=o_.kr i _ _ Ii hx;have YH:=iT oO x.2.1 x.2.2;(try(have yU:=(UA qa bT.lt (IV.out.away gy)).kr i _ _ Ii hx);have bT:=aD.below bT GU bT.lt);clear Df OA Ii;(try go_wp2_with fail));(refine hK.out _ _ (fun _=>b_) ?_;clear hK K);(try simp only[pt]);((refine sZ (S':=fun W=>Below w9.heap.size w9 W∧Below wB.heap.size wB W) (fun _ h=>h.1) ?_;have hS:=And.intro hS (Below.refl wB.heap.size wB)));(refine bL 5 (oi:=⟨some 118,_,_,_,_,_⟩) rfl ay om hS (rC 36 _ 5 rfl aF (.agg (hC (.slice a1 p.parts.length c1) (.slice a2 p.wins.length c2) (.slice a3 p.chans.length c3) (.slice ia dx.length ic) p ⟨.slice (some ⟨bB,oB,none⟩) p.parts.length csB,Us,avB,F7,Rb⟩ X)) (.slice (some ⟨bB,oB,none⟩) p.parts.length csB) bG (fun W=>wJ _ _ _ _ _ _ _ W)) ?_);(try simp only[pt]);(refine tk 8 121 hS ?_);(try simp only[pt]);(refine bL 9 (oi:=⟨some 122,_,_,_,_,_⟩) rfl ay om hS (fZ 59 _ rfl (b:=bB) (off:=oB+i*19) (iC uB x.1 x.2.1 x.2.2) dH YH aF bG (fun W hs=>HCB.out.below hs.2 Q6)) ?_);(try simp only[pt]);(refine aJ 10 (oi:=⟨some 12,_,_,_,_,_⟩) rfl ay rfl (fun K hK=>?_));(refine eF 59 rfl (z:= .agg kP) ay kP rfl ?_);(refine hidS hK (M9) (fun hS=>?_);clear hK K);(try simp only[pt]);(first|(have bT:=aD.new wB kP 59;have dK:Below wB.heap.size wB (wB.alloc (.cells kP 59)):=(Below.refl _ _).alloc (Nat.le_refl _) _;have gy:w9.heap.size≤wB.heap.size:=Nc;have yU:=(oO.away (B:=wB.heap.size) (Nat.le_refl _));have oO:=oO.below dK;generalize wB.alloc (.cells kP 59)=w5 at hS bT dK oO⊢;generalize wB.heap.size=qa at yU bT gy⊢)|(have bT:=aD.new wA kP 59;have dK:Below wA.heap.size wA (wA.alloc (.cells kP 59)):=(Below.refl _ _).alloc (Nat.le_refl _) _;have gy:w9.heap.size≤wA.heap.size:=Nb;generalize wA.alloc (.cells kP 59)=w5 at hS bT dK⊢;generalize wA.heap.size=qa at bT gy⊢)|(have bT:=aD.new w9.drew kP 59;have dK:Below w9.drew.heap.size w9.drew (w9.drew.alloc (.cells kP 59)):=(Below.refl _ _).alloc (Nat.le_refl _) _;have gy:w9.heap.size≤w9.drew.heap.size:=Ng;generalize w9.drew.alloc (.cells kP 59)=w5 at hS bT dK⊢;generalize w9.drew.heap.size=qa at bT gy⊢));exact ajk));(focus((refine eF 59 rfl (z:= .agg kP) ay kP rfl ?_);(refine hidS hK (M9) (fun hS=>?_);clear hK K);(try simp only[pt]);(first|(have bT:=aD.new wB kP 59;have dK:Below wB.heap.size wB (wB.alloc (.cells kP 59)):=(Below.refl _ _).alloc (Nat.le_refl _) _;have gy:w9.heap.size≤wB.heap.size:=Nc;have yU:=(oO.away (B:=wB.heap.size) (Nat.le_refl _));have oO:=oO.below dK;generalize wB.alloc (.cells kP 59)=w5 at hS bT dK oO⊢;generalize wB.heap.size=qa at yU bT gy⊢)|(have bT:=aD.new wA kP 59;have dK:Below wA.heap.size wA (wA.alloc (.cells kP 59)):=(Below.refl _ _).alloc (Nat.le_refl _) _;have gy:w9.heap.size≤wA.heap.size:=Nb;generalize wA.alloc (.cells kP 59)=w5 at hS bT dK⊢;generalize wA.heap.size=qa at bT gy⊢)|(have bT:=aD.new w9.drew kP 59;have dK:Below w9.drew.heap.size w9.drew (w9.drew.alloc (.cells kP 59)):=(Below.refl _ _).alloc (Nat.le_refl _) _;have gy:w9.heap.size≤w9.drew.heap.size:=Ng;generalize w9.drew.alloc (.cells kP 59)=w5 at hS bT dK⊢;generalize w9.drew.heap.size=qa at bT gy⊢));exact ams))));
          (focus((refine eF 59 rfl (z:= .agg kP) ay kP rfl ?_);(refine hidS hK (M9) (fun hS=>?_);clear hK K);(try simp only[pt]);(first|(have bT:=aD.new wB kP 59;have dK:Below wB.heap.size wB (wB.alloc (.cells kP 59)):=(Below.refl _ _).alloc (Nat.le_refl _) _;have gy:w9.heap.size≤wB.heap.size:=Nc;have yU:=(oO.away (B:=wB.heap.size) (Nat.le_refl _));have oO:=oO.below dK;generalize wB.alloc (.cells kP 59)=w5 at hS bT dK oO⊢;generalize wB.heap.size=qa at yU bT gy⊢)|(have bT:=aD.new wA kP 59;have dK:Below wA.heap.size wA (wA.alloc (.cells kP 59)):=(Below.refl _ _).alloc (Nat.le_refl _) _;have gy:w9.heap.size≤wA.heap.size:=Nb;generalize wA.alloc (.cells kP 59)=w5 at hS bT dK⊢;generalize wA.heap.size=qa at bT gy⊢)|(have bT:=aD.new w9.drew kP 59;have dK:Below w9.drew.heap.size w9.drew (w9.drew.alloc (.cells kP 59)):=(Below.refl _ _).alloc (Nat.le_refl _) _;have gy:w9.heap.size≤w9.drew.heap.size:=Ng;generalize w9.drew.alloc (.cells kP 59)=w5 at hS bT dK⊢;generalize w9.drew.heap.size=qa at bT gy⊢));(refine aJ 3 (oi:=⟨some 116,_,_,_,_,_⟩) rfl ay rfl (fun K hK=>?_));(go_simp;(with_reducible refine(HMO.out _).mono ?_);rintro en wA ⟨rfl,Ik⟩;have hS:=hS.trans (Below.mono Ik hS.size);(try(have bT:=aD.below bT Ik bT.lt));(try go_wp2_with fail));(refine hK.out _ _ (fun _=>b_) ?_;clear hK K);(try simp only[pt]);exact ams)))
  ·rintro a wC ⟨q1,BO,uB,hbq,hkB,hS,gD⟩
   obtain⟨f,rfl,hf⟩:=BO.act
   have f1:f 1=.pointer (some ⟨w.heap.size,0,none⟩):=hf (1,.pointer (some ⟨w.heap.size,0,none⟩)) aI
   have f7:f 7=.pointer (some ⟨w6.heap.size,0,none⟩):=hf (7,.pointer (some ⟨w6.heap.size,0,none⟩)) aI
   have f12:f 12=.pointer (some ⟨q1,0,none⟩):=hf (12,.pointer (some ⟨q1,0,none⟩)) aI
   have IB:((List.range 152).map f).toArray=#[f 0,.pointer (some ⟨w.heap.size,0,none⟩),f 2,f 3,f 4,f 5,f 6,.pointer (some ⟨w6.heap.size,0,none⟩),f 8,f 9,f 10,f 11,.pointer (some ⟨q1,0,none⟩),f 13,f 14,f 15,f 16,f 17,f 18,f 19,f 20,f 21,f 22,f 23,f 24,f 25,f 26,f 27,f 28,f 29,f 30,f 31,f 32,f 33,f 34,f 35,f 36,f 37,f 38,f 39,f 40,f 41,f 42,f 43,f 44,f 45,f 46,f 47,f 48,f 49,f 50,f 51,f 52,f 53,f 54,f 55,f 56,f 57,f 58,f 59,f 60,f 61,f 62,f 63,f 64,f 65,f 66,f 67,f 68,f 69,f 70,f 71,f 72,f 73,f 74,f 75,f 76,f 77,f 78,f 79,f 80,f 81,f 82,f 83,f 84,f 85,f 86,f 87,f 88,f 89,f 90,f 91,f 92,f 93,f 94,f 95,f 96,f 97,f 98,f 99,f 100,f 101,f 102,f 103,f 104,f 105,f 106,f 107,f 108,f 109,f 110,f 111,f 112,f 113,f 114,f 115,f 116,f 117,f 118,f 119,f 120,f 121,f 122,f 123,f 124,f 125,f 126,f 127,f 128,f 129,f 130,f 131,f 132,f 133,f 134,f 135,f 136,f 137,f 138,f 139,f 140,f 141,f 142,f 143,f 144,f 145,f 146,f 147,f 148,f 149,f 150,f 151]:=by
    rw[←f1,←f7,←f12]
    kernel_rfl
   rw[IB]
   clear IB hf f1 f7 f12 BO
   have IG:=mO.trans (hS.mono mO.size)
   have OG:=hS
   have QL:=ah (Io.out.below hS Io.out.lt)
   have K7C:=ah (K79.out.below hS K79.out.lt)
   have aoT:=hS.size
   have OM:=ah (OO.out.below hS)
   have KQ1:=ah hbq
   have HV7:=ah (je (HP.out.below IG) hkj OM.out)
   have HKB:=ah hkB
   clear hkB
   clear hcb bC bn bA bE hbq hS Io K79 K59 IV OO Eu
   obtain⟨hcb,bC,bn,bA,bE⟩:=aD.rules QL.out
   go_wp2_with fail
   refine ET (fun a W=>∃q:Nat,EJ 152 [(1,.pointer (some ⟨w.heap.size,0,none⟩)),(12,.pointer (some ⟨q1,0,none⟩)),(13,.pointer (some ⟨q,0,none⟩))] a∧∃u:Ks,aD W q (xC u x.1 (sx x.2.1 x.2.2)) 59∧KR W u x.1∧Below wC.heap.size wC W∧wC.heap.size≤q) ?_ ?_
   ·((refine aY (fun W=>Below wC.heap.size wC W) (fun i=>decide (i<11)) ay ?_);
          have hS:Below wC.heap.size wC wC.drew:=(Below.refl _ _).drew;
          (refine bL 0 (oi:=⟨some 123,_,_,_,_,_⟩) rfl ay om hS (dh 36 _ rfl (hC (.slice a1 p.parts.length c1) (.slice a2 p.wins.length c2) (.slice a3 p.chans.length c3) (.slice ja kS.length jc) p ⟨.slice YW p.parts.length YT,YG,YV,xA,ED⟩ h2) eH HV7.out aF bG (fun W hs=>K7C.out.below hs K7C.out.lt)) ?_);
          (try simp only[pt]);
          (refine tk 1 124 hS ?_);
          (refine tk 2 125 hS ?_ (hy:=Or.inl ⟨aF,sQ⟩));
          (refine tk 6 129 hS ?_);
          (refine tk 7 130 hS ?_ (hy:=Or.inl ⟨aF,sQ⟩));
          (refine eX 3 10 (oi:=⟨some 126,_,_,_,_,_⟩) (oj:=⟨some 13,_,_,_,_,_⟩) rfl rfl ay rfl rfl (fun K hK=>?_) (fun K hK=>?_));
          (focus((go_simp;(with_reducible refine(HMO.out _).mono ?_);rintro en wA ⟨rfl,Ik⟩;have hS:=hS.trans (Below.mono Ik hS.size);(try(have bT:=aD.below bT Ik bT.lt));(try go_wp2_with fail));(refine hK.out _ _ (fun _=>b_) ?_;clear hK K);(try simp only[pt]);(refine eX 4 10 (oi:=⟨some 127,_,_,_,_,_⟩) (oj:=⟨some 13,_,_,_,_,_⟩) rfl rfl ay rfl rfl (fun K hK=>?_) (fun K hK=>?_));(focus((go_simp;(with_reducible refine(FV.out _ (OG.trans (Below.mono O4 OG.size))).mono ?_);rintro en wB ⟨⟨svB,Us,avB,F7,Rb⟩,rfl,o_,UA,GU⟩;have hS:=hS.trans (Below.mono GU hS.size);obtain⟨asB,csB,yc,OA⟩:=o_.sv.shape;rw[gV o_.mo,HLY.out] at yc;dsimp only at yc;subst yc;(obtain⟨uB,Ii⟩:∃u,Us[i]?=some u:=⟨_,List.getElem?_eq_getElem ahP⟩);obtain⟨bB,oB,OD,Q6,Df⟩:=o_.sv.at (kI Ii hy);subst OD;have HCB:=ah Df;have oO:=o_.kr i _ _ Ii hy;have YH:=iT oO x.2.1 x.2.2;(try(have yU:=(UA qa bT.lt (OM.out.away gy)).kr i _ _ Ii hy);have bT:=aD.below bT GU bT.lt);clear Df OA Ii;(try go_wp2_with fail));(refine hK.out _ _ (fun _=>b_) ?_;clear hK K);(try simp only[pt]);((refine sZ (S':=fun W=>Below wC.heap.size wC W∧Below wB.heap.size wB W) (fun _ h=>h.1) ?_;have hS:=And.intro hS (Below.refl wB.heap.size wB)));(refine bL 5 (oi:=⟨some 128,_,_,_,_,_⟩) rfl ay om hS (rC 36 _ 5 rfl aF (.agg (hC (.slice a1 p.parts.length c1) (.slice a2 p.wins.length c2) (.slice a3 p.chans.length c3) (.slice ja kS.length jc) p ⟨.slice (some ⟨bB,oB,none⟩) p.parts.length csB,Us,avB,F7,Rb⟩ Y)) (.slice (some ⟨bB,oB,none⟩) p.parts.length csB) bG (fun W=>wJ _ _ _ _ _ _ _ W)) ?_);(try simp only[pt]);(refine tk 8 131 hS ?_);(try simp only[pt]);(refine bL 9 (oi:=⟨some 132,_,_,_,_,_⟩) rfl ay om hS (fZ 59 _ rfl (b:=bB) (off:=oB+i*19) (iC uB x.1 x.2.1 x.2.2) dH YH aF bG (fun W hs=>HCB.out.below hs.2 Q6)) ?_);(try simp only[pt]);(refine aJ 10 (oi:=⟨some 13,_,_,_,_,_⟩) rfl ay rfl (fun K hK=>?_));(refine eF 59 rfl (z:= .agg kP) ay kP rfl ?_);(refine hidS hK (M9) (fun hS=>?_);clear hK K);(try simp only[pt]);(first|(have bT:=aD.new wB kP 59;have dK:Below wB.heap.size wB (wB.alloc (.cells kP 59)):=(Below.refl _ _).alloc (Nat.le_refl _) _;have gy:wC.heap.size≤wB.heap.size:=Na;have yU:=(oO.away (B:=wB.heap.size) (Nat.le_refl _));have oO:=oO.below dK;generalize wB.alloc (.cells kP 59)=w5 at hS bT dK oO⊢;generalize wB.heap.size=qa at yU bT gy⊢)|(have bT:=aD.new wA kP 59;have dK:Below wA.heap.size wA (wA.alloc (.cells kP 59)):=(Below.refl _ _).alloc (Nat.le_refl _) _;have gy:wC.heap.size≤wA.heap.size:=M_;generalize wA.alloc (.cells kP 59)=w5 at hS bT dK⊢;generalize wA.heap.size=qa at bT gy⊢)|(have bT:=aD.new wC.drew kP 59;have dK:Below wC.drew.heap.size wC.drew (wC.drew.alloc (.cells kP 59)):=(Below.refl _ _).alloc (Nat.le_refl _) _;have gy:wC.heap.size≤wC.drew.heap.size:=Nf;generalize wC.drew.alloc (.cells kP 59)=w5 at hS bT dK⊢;generalize wC.drew.heap.size=qa at bT gy⊢));exact ajk));(focus((refine eF 59 rfl (z:= .agg kP) ay kP rfl ?_);(refine hidS hK (M9) (fun hS=>?_);clear hK K);(try simp only[pt]);(first|(have bT:=aD.new wB kP 59;have dK:Below wB.heap.size wB (wB.alloc (.cells kP 59)):=(Below.refl _ _).alloc (Nat.le_refl _) _;have gy:wC.heap.size≤wB.heap.size:=Na;have yU:=(oO.away (B:=wB.heap.size) (Nat.le_refl _));have oO:=oO.below dK;generalize wB.alloc (.cells kP 59)=w5 at hS bT dK oO⊢;generalize wB.heap.size=qa at yU bT gy⊢)|(have bT:=aD.new wA kP 59;have dK:Below wA.heap.size wA (wA.alloc (.cells kP 59)):=(Below.refl _ _).alloc (Nat.le_refl _) _;have gy:wC.heap.size≤wA.heap.size:=M_;generalize wA.alloc (.cells kP 59)=w5 at hS bT dK⊢;generalize wA.heap.size=qa at bT gy⊢)|(have bT:=aD.new wC.drew kP 59;have dK:Below wC.drew.heap.size wC.drew (wC.drew.alloc (.cells kP 59)):=(Below.refl _ _).alloc (Nat.le_refl _) _;have gy:wC.heap.size≤wC.drew.heap.size:=Nf;generalize wC.drew.alloc (.cells kP 59)=w5 at hS bT dK⊢;generalize wC.drew.heap.size=qa at bT gy⊢));exact amt))));
          (focus((refine eF 59 rfl (z:= .agg kP) ay kP rfl ?_);(refine hidS hK (M9) (fun hS=>?_);clear hK K);(try simp only[pt]);(first|(have bT:=aD.new wB kP 59;have dK:Below wB.heap.size wB (wB.alloc (.cells kP 59)):=(Below.refl _ _).alloc (Nat.le_refl _) _;have gy:wC.heap.size≤wB.heap.size:=Na;have yU:=(oO.away (B:=wB.heap.size) (Nat.le_refl _));have oO:=oO.below dK;generalize wB.alloc (.cells kP 59)=w5 at hS bT dK oO⊢;generalize wB.heap.size=qa at yU bT gy⊢)|(have bT:=aD.new wA kP 59;have dK:Below wA.heap.size wA (wA.alloc (.cells kP 59)):=(Below.refl _ _).alloc (Nat.le_refl _) _;have gy:wC.heap.size≤wA.heap.size:=M_;generalize wA.alloc (.cells kP 59)=w5 at hS bT dK⊢;generalize wA.heap.size=qa at bT gy⊢)|(have bT:=aD.new wC.drew kP 59;have dK:Below wC.drew.heap.size wC.drew (wC.drew.alloc (.cells kP 59)):=(Below.refl _ _).alloc (Nat.le_refl _) _;have gy:wC.heap.size≤wC.drew.heap.size:=Nf;generalize wC.drew.alloc (.cells kP 59)=w5 at hS bT dK⊢;generalize wC.drew.heap.size=qa at bT gy⊢));(refine aJ 3 (oi:=⟨some 126,_,_,_,_,_⟩) rfl ay rfl (fun K hK=>?_));(go_simp;(with_reducible refine(HMO.out _).mono ?_);rintro en wA ⟨rfl,Ik⟩;have hS:=hS.trans (Below.mono Ik hS.size);(try(have bT:=aD.below bT Ik bT.lt));(try go_wp2_with fail));(refine hK.out _ _ (fun _=>b_) ?_;clear hK K);(try simp only[pt]);exact amt)))
   ·rintro a wD ⟨q2,BO,uD,hbr,hkD,hS,mh⟩
    obtain⟨f,rfl,hf⟩:=BO.act
    have f1:f 1=.pointer (some ⟨w.heap.size,0,none⟩):=hf (1,.pointer (some ⟨w.heap.size,0,none⟩)) aI
    have f12:f 12=.pointer (some ⟨q1,0,none⟩):=hf (12,.pointer (some ⟨q1,0,none⟩)) aI
    have f13:f 13=.pointer (some ⟨q2,0,none⟩):=hf (13,.pointer (some ⟨q2,0,none⟩)) aI
    have IB:((List.range 152).map f).toArray=#[f 0,.pointer (some ⟨w.heap.size,0,none⟩),f 2,f 3,f 4,f 5,f 6,f 7,f 8,f 9,f 10,f 11,.pointer (some ⟨q1,0,none⟩),.pointer (some ⟨q2,0,none⟩),f 14,f 15,f 16,f 17,f 18,f 19,f 20,f 21,f 22,f 23,f 24,f 25,f 26,f 27,f 28,f 29,f 30,f 31,f 32,f 33,f 34,f 35,f 36,f 37,f 38,f 39,f 40,f 41,f 42,f 43,f 44,f 45,f 46,f 47,f 48,f 49,f 50,f 51,f 52,f 53,f 54,f 55,f 56,f 57,f 58,f 59,f 60,f 61,f 62,f 63,f 64,f 65,f 66,f 67,f 68,f 69,f 70,f 71,f 72,f 73,f 74,f 75,f 76,f 77,f 78,f 79,f 80,f 81,f 82,f 83,f 84,f 85,f 86,f 87,f 88,f 89,f 90,f 91,f 92,f 93,f 94,f 95,f 96,f 97,f 98,f 99,f 100,f 101,f 102,f 103,f 104,f 105,f 106,f 107,f 108,f 109,f 110,f 111,f 112,f 113,f 114,f 115,f 116,f 117,f 118,f 119,f 120,f 121,f 122,f 123,f 124,f 125,f 126,f 127,f 128,f 129,f 130,f 131,f 132,f 133,f 134,f 135,f 136,f 137,f 138,f 139,f 140,f 141,f 142,f 143,f 144,f 145,f 146,f 147,f 148,f 149,f 150,f 151]:=by
     rw[←f1,←f12,←f13]
     kernel_rfl
    rw[IB]
    clear IB hf f1 f12 f13 BO
    have abO:=IG.trans (hS.mono IG.size)
    have KBD:=ah (QL.out.below hS QL.out.lt)
    have U5:=ah (KQ1.out.below hS KQ1.out.lt)
    have KQ2:=ah hbr
    have anO:=ah (HKB.out.below hS)
    have HKD:=ah hkD
    have akm:=anO.out.val
    have akl:=HKD.out.val
    clear hcb bC bn bA bE hbr hkD hS QL KQ1 K7C OM FV HKB KBD
    go_wp2_with(first|((with_reducible refine cK 57 ?_);(refine aN rfl 57 _ rfl q1 (0) ?_ (.agg (kC uB x.1)) eU (akm) (ru U5.out) ?_;(exact aM)))|((with_reducible refine cK 57 ?_);(refine aN rfl 57 _ rfl q2 (0) ?_ (.agg (kC uD x.1)) eU (akl) (ru KQ2.out) ?_;(exact aM)))|fail)
    with_reducible refine(NJ uB uD x.1 _ _ _ wD anO.out HKD.out HBD.out).mono ?_
    rintro en wG ⟨rfl,hbG⟩
    have anw:=ah (U5.out.below hbG U5.out.lt)
    have anv:=ah (KQ2.out.below hbG KQ2.out.lt)
    have am7:=abO.trans (hbG.mono abO.size)
    exact aiA
end Go.Proofs.YtgmodehldmahiaaGreatDoor
