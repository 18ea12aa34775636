/- Part 14 of 53 of the proof of topAlone_and_topApart. Conditions: see each. -/
import Derived.Test.YtgmodehldmahiaaGreatDoorB01
import Derived.Laws.IdiomStrings
import Derived.Lib.LazyBuf
import Derived.Lib.SlBytesRow
import Derived.Laws.Closers25b
import Derived.Laws.IdiomCopy
import Derived.Shelf.Strings.Repeat
import Derived.Laws.EntriesVeiled
import Derived.SevenTiedAt
set_option linter.unusedVariables false
set_option linter.unusedSimpArgs false
set_option maxRecDepth 8192
set_option maxHeartbeats 40000000
theorem zA{P:Prop}(h:P:=by
 go_wp2_with fail
 refine eu ?_
 have hcv:=fun c=>jg c
 go_wp2_with(first|((with_reducible refine cK 119 ?_);generalize bR:World.drew _=w5;have K5:aD w5 w.heap.size (fB ((c.set a _).set 8 _)) 119:=(by rw[←bR];exact(((K1.out.set a _).set 8 _).drew.drew).cast (by rw[xG nO aj,xG (by rw[List.length_set];exact nO) aj]));generalize hC5:(((c.set a _).set 8 _):List Int)=c5 at K5;have K6:aD w5 (w.heap.size+1+1) (fB []) 119:=Jq;have kV:Below w.heap.size w w5:=bN;have HK5:=ah K5;have HK6:=ah K6;clear bR K5 K6 cA cB cP;obtain⟨Oa,hf6,hl6,hn6,AZ⟩:=aD.rules HK6.out;have QV:=dG [];have UM:=dG c5;(refine aK rfl 119 _ rfl (fB c5) jm (hcv c5) HK5.out ?_ ?_;(exact aM)))|((with_reducible refine bS 119 ?_);(refine aR rfl 119 _ _ rfl HK6.out (kD c5) jm (hcv c5) ?_ _ (sG _ _) ?_ ?_ ?_);(focus(first|omega|(simp only[dG];decide)|trace "1"));(exact ah8);(exact ah7);(intro w7 LW yS LC pE;have akI:=kV.trans (pE.mono (Nat.le_add_right w.heap.size 2));have hc7:=LW.rules.1;rw[iV] at hc7))|fail)
 exact bodyPost_ret (v:= .tuple #[kD c5,.bool true]) ah' rfl ⟨congrArg (fun z=>Ending.returned (.tuple #[kD z,.bool true])) hC5.symm,akI⟩):P:=h
theorem afT{P:Prop}(h:P:=by
 go_wp2_with fail
 with_reducible refine(FW.out w3 gZ).mono ?_
 rintro en w4 ⟨⟨sv4,ss4,av4,zh,G7⟩,rfl,yR,Q9,hb4⟩
 have jK:=gZ.trans (hb4.mono gZ.size)
 have A_:=ah (vK.out.below hb4 vK.out.lt)
 have QZ:(fu p dx).seats.length=p.parts.length:=lg ..
 obtain⟨as4,cs4,Iu,RD⟩:=yR.sv.shape
 rw[gV yR.mo,QZ] at Iu
 dsimp only at Iu
 subst Iu
 have HV4:=ah (je (HP.out.below jK) N9 yR)
 have QO:=ah yR
 clear hcb bC bn bA bE hb4 yR Q9 QZ RD
 generalize hh1:fu p dx=h1 at*
 have HH1:=ah hh1
 clear hh1
 go_wp2_with(first|(((with_reducible refine bS 36 ?_);(refine aU rfl 36 _ _ rfl (hC (.slice a1 p.parts.length c1) (.slice a2 p.wins.length c2) (.slice a3 p.chans.length c3) (.slice ia dx.length ic) p ⟨.slice as4 p.parts.length cs4,ss4,av4,zh,G7⟩ h1) eH (HV4.out) aF ?_ ?_ ?_;(exact aM);(exact aM)));(generalize bR:World.alloc _ _=w5;have K5:aD w5 (w4.heap.size) (hC (.slice a1 p.parts.length c1) (.slice a2 p.wins.length c2) (.slice a3 p.chans.length c3) (.slice ia dx.length ic) p ⟨.slice as4 p.parts.length cs4,ss4,av4,zh,G7⟩ h1) 36:=bH;have hb0:Below w4.heap.size w4 w5:=bN;have hz0:w5.heap.size=w4.heap.size+1:=bX;clear bR;have K5:=ah K5);have XA:=A_.out.below hb0 A_.out.lt;obtain⟨hcb,bC,bn,bA,bE⟩:=aD.rules XA)|fail)
 have iE:=jK.trans (hb0.mono jK.size)
 have XE:=ah (QO.out.below hb0)
 have zI:=ah XA
 clear XA hb0 hz0 QO HV4 vK A_
 with_reducible refine(Ao.out w5 iE).mono ?_
 rintro en w6 ⟨⟨sv6,YG,YV,xA,ED⟩,rfl,AZ,Bb,kM⟩
 have mD:=iE.trans (kM.mono iE.size)
 have vL:=ah (zI.out.below kM zI.out.lt)
 have K6:=ah (K5.out.below kM K5.out.lt)
 have Zw:=ah (XE.out.below kM)
 have QY:(fu p kS).seats.length=p.parts.length:=lg ..
 obtain⟨YW,YT,Ir,RB⟩:=AZ.sv.shape
 rw[gV AZ.mo,QY] at Ir
 dsimp only at Ir
 subst Ir
 have Oc:=ah (je (HP.out.below mD) hkj AZ)
 have Y7:=ah AZ
 clear hcb bC bn bA bE kM AZ Bb QY RB XE K5 zI
 generalize hh2:fu p kS=h2 at*
 have HH2:=ah hh2
 clear hh2
 go_wp2_with(first|((with_reducible refine bS 36 ?_);(refine aU rfl 36 _ _ rfl (hC (.slice a1 p.parts.length c1) (.slice a2 p.wins.length c2) (.slice a3 p.chans.length c3) (.slice ja kS.length jc) p ⟨.slice YW p.parts.length YT,YG,YV,xA,ED⟩ h2) eH (Oc.out) aF ?_ ?_ ?_;(exact aM);(exact aM)))|fail)
 go_ret
 exact⟨rfl,mD.alloc mD.size _⟩):P:=h
theorem Zd{P:Prop}(h:P:=by
 go_wp2_with fail
 with_reducible refine(FW.out w3 gZ).mono ?_
 rintro en w4 ⟨⟨k1,rfl,hk1⟩,hb4⟩
 have asw:(k1 !=0)=true:=by simp[hk1]
 have jK:=gZ.trans (hb4.mono gZ.size)
 have A_:=ah (vK.out.below hb4 vK.out.lt)
 have hval:=Yy
 clear hcb bC bn bA bE hb4 hk1
 go_wp2_with(first|(((with_reducible refine bS 36 ?_);(refine aU rfl 36 _ _ rfl (jV) eH (hval) aF ?_ ?_ ?_;(exact aM);(exact aM)));(generalize bR:World.alloc _ _=w5;have K5:aD w5 (w4.heap.size) (jV) 36:=bH;have hb0:Below w4.heap.size w4 w5:=bN;have hz0:w5.heap.size=w4.heap.size+1:=bX;clear bR;have K5:=ah K5);have XA:=A_.out.below hb0 A_.out.lt;obtain⟨hcb,bC,bn,bA,bE⟩:=aD.rules XA)|fail)
 have iE:=jK.trans (hb0.mono jK.size)
 clear XA hb0 hz0
 with_reducible refine(Ao.out w5 iE).mono ?_
 rintro en w6 ⟨⟨k2,rfl,hk2⟩,kM⟩
 have mD:=iE.trans (kM.mono iE.size)
 clear hcb bC bn bA bE kM
 go_wp2_with(first|((with_reducible refine bS 36 ?_);(refine aU rfl 36 _ _ rfl (jV) eH (hval) aF ?_ ?_ ?_;(exact aM);(exact aM)))|fail)
 go_ret
 exact⟨rfl,mD.alloc mD.size _⟩):P:=h
theorem ajT{P:Prop}(h:P:=by
 clear HHQ QS
 subst hq
 go_upto_if 47 with(first|((with_reducible refine bS 36 ?_);(refine aR rfl 36 _ _ rfl xg.out (.agg (hC (.slice (some ⟨bp,op,none⟩) p.parts.length c1) (.slice a2 p.wins.length c2) (.slice a3 p.chans.length c3) iv p ⟨.slice (some ⟨b8,o8,none⟩) h8.seats.length BS,QG,UE,uP,BR⟩ h8)) eH (HV8.out) ?_ (_) (gM 11 XT ()) ?_ ?_ ?_;(exact gG);(exact aM);(exact aM);(intro w9 Eo nE Qr oN;have Za:=ah Eo;have hm9:=HM8.out.bP HAB.out xg.out HK8.out j6 aC aC aC nE;have HM9:=ah hm9;obtain⟨b9,o9,akH,aq1,LG⟩:=hm9.sv.at (kI hu8 hy8);(cases akH);have aky:=LG 15 (.int .i64 y.1.want) aia;clear hm9 LG Eo;obtain⟨hcb,bC,bn,bA,bE⟩:=aD.rules Za.out)))|fail)
 have KZ9:=ah (KZ8.out.grown nE aI)
 have HAF:=ah (show∀B,B<w0.heap.size→iR B ⟨.slice (some ⟨bs,os,none⟩) h.seats.length Ui,ss,av,rows,got⟩ h→iR B ⟨.slice (some ⟨b8,o8,none⟩) h8.seats.length BS,QG,UE,uP,BR⟩ h8 from fun B hB ha=>Rj.out B aj (HMA.out B hB ha))
 have mO:Below w.heap.size w w9:=BP.trans (bJ nE aj aj)
 have aoS:=nE.size
 clear hcb bC bn bA bE aky XT
 have aj2:=nk (.slice (some ⟨bp,op,none⟩) p.parts.length c1) (.slice a2 p.wins.length c2) (.slice a3 p.chans.length c3) iv p ⟨.slice (some ⟨b8,o8,none⟩) h8.seats.length BS,QG,UE,uP,BR⟩ (h8)
 have acZ:jV.size=11:=rfl
 go_wp2_with(first|((with_reducible refine cK 36 ?_);(refine aK rfl 36 _ rfl (hC (.slice (some ⟨bp,op,none⟩) p.parts.length c1) (.slice a2 p.wins.length c2) (.slice a3 p.chans.length c3) iv p ⟨.slice (some ⟨b8,o8,none⟩) h8.seats.length BS,QG,UE,uP,BR⟩ (h8)) eH (HV8.out) Za.out ?_ ?_;(exact aM)))|((with_reducible refine bS 36 ?_);(refine aR rfl 36 _ _ rfl KZ9.out (.agg (hC (.slice (some ⟨bp,op,none⟩) p.parts.length c1) (.slice a2 p.wins.length c2) (.slice a3 p.chans.length c3) iv p ⟨.slice (some ⟨b8,o8,none⟩) h8.seats.length BS,QG,UE,uP,BR⟩ (h8))) eH (HV8.out) ?_ (_) (gM 11 lX ()) ?_ ?_ ?_;(exact gG);(exact aM);(exact aM);(intro N7 nN oP zB f_;have pI:=ah nN)))|fail)
 have sK:=MR.bP (R:=w.heap.size+1) (ks:=wV) (HM9.out) (HAF.out (w.heap.size+1) aj (HM.out.away aj)) KZ9.out rfl aC aC aC aC oP
 exact jH Tryz.results39 eH HV8.out aF pI.out rfl ⟨⟨.slice (some ⟨b8,o8,none⟩) h8.seats.length BS,QG,UE,uP,BR⟩,rfl,sK,fun B hB h=>HAF.out B aj h,(mO).trans (f_.mono aj)⟩):P:=h
theorem aby{P:Prop}(h:P:=by
 go_wp2_with(first|(((with_reducible refine bS 36 ?_);(refine aU rfl 36 _ _ rfl (hC (.slice a1 p.parts.length c1) (.slice a2 p.wins.length c2) (.slice a3 p.chans.length c3) (.slice ja kS.length jc) p ⟨.slice YW p.parts.length YT,YG,YV,xA,ED⟩ h2) eH (Oc.out) aF ?_ ?_ ?_;(exact aM);(exact aM)));(generalize bR:World.alloc _ _=w7;have K7:aD w7 (w6.heap.size) (hC (.slice a1 p.parts.length c1) (.slice a2 p.wins.length c2) (.slice a3 p.chans.length c3) (.slice ja kS.length jc) p ⟨.slice YW p.parts.length YT,YG,YV,xA,ED⟩ h2) 36:=bH;have hb0:Below w6.heap.size w6 w7:=bN;have hz0:w7.heap.size=w6.heap.size+1:=bX;clear bR;have K7:=ah K7);have hk7:=vL.out.below hb0 vL.out.lt;have OC:=K6.out.below hb0 K6.out.lt;obtain⟨hcb,bC,bn,bA,bE⟩:=aD.rules hk7;obtain⟨hcs,MV,hls,hns,YL⟩:=aD.rules OC)|fail)
 go_ret
 exact⟨rfl,mD.trans (hb0.mono mD.size)⟩):P:=h
theorem afS{P:Prop}(h:P:=by
 have lu:Below w2.heap.size w2 w3:=aG
 have gZ:=bM.trans (lu.mono bM.size)
 have K3:=ah (K2.out.below lu K2.out.lt)
 have KY3:=ah (KY.out.below lu KY.out.lt)
 have hz3:=lu.size
 have FP:=KI.out.rules
 obtain⟨LV,Qx,vT,hni,hmi⟩:=FP
 obtain⟨hc3,hf3,qM,wX,qL⟩:=K3.out.rules
 have cP3:=(hc3 8).trans gP
 have cA3:=(hc3 a).trans gA
 have hly:=KY3.out.lt
 have abI:=KY3.out.rules
 obtain⟨BK,hfy,-,hny,hmy⟩:=abI
 clear cA cB cP hb3 lu hc3 BK K2 KY
 go_wp2_with(first|((with_reducible refine cK 119 ?_);(refine aK rfl 119 _ rfl (fB c) jm (jg c) K3.out ?_ ?_;(exact aM)))|((with_reducible refine bS 119 ?_);(refine aR rfl 119 _ _ rfl KY3.out (kD c) jm (jg c) ?_ _ (sG _ _) ?_ ?_ ?_);(exact FZ);(exact tX);(exact tX);(intro w9 Eo nE Qr oN;have EC:=gZ.trans (Below.mono oN (Nat.le_add_right w.heap.size 1));have LG:=Eo.rules.1;rw[iV] at LG))|fail)
 exact bodyPost_ret (v:= .tuple #[kD c,.string m,.int .i64 2]) acr rfl ⟨rfl,EC⟩):P:=h
theorem ai9{P:Prop}(h:P:=by
 have lu:Below w2.heap.size w2 w3:=aG
 have gZ:=bM.trans (lu.mono bM.size)
 have K3:=ah (K2.out.below lu K2.out.lt)
 have KY3:=ah (KY.out.below lu KY.out.lt)
 have hz3:=lu.size
 have FP:=KI.out.rules
 obtain⟨LV,Qx,vT,hni,hmi⟩:=FP
 obtain⟨hc3,hf3,qM,wX,qL⟩:=K3.out.rules
 have cP3:=(hc3 8).trans gP
 have cA3:=(hc3 a).trans gA
 have hly:=KY3.out.lt
 have abI:=KY3.out.rules
 obtain⟨BK,hfy,-,hny,hmy⟩:=abI
 clear cA cB cP hb3 lu hc3 BK K2 KY
 have hne:¬a=8:=aj
 have apl:¬(8:Nat)=a:=aj
 go_wp2_with(first|((with_reducible refine cK 119 ?_);generalize bR:World.setCell _ _ _=w5;have K5:aD w5 w.heap.size (fB ((c.set a ra).set 8 ((pc+4)%4294967296))) 119:=aij;generalize hC5:(((c.set a ra).set 8 ((pc+4)%4294967296)):List Int)=c5 at K5;have K6:aD w5 (w.heap.size+1) (fB []) 119:=ado;have kV:Below w.heap.size w w5:=bN;have HK5:=ah K5;have HK6:=ah K6;clear bR K5 K6 cP3 cA3;(refine aK rfl 119 _ rfl (fB c5) jm (jg c5) HK5.out ?_ ?_;(exact aM)))|((with_reducible refine bS 119 ?_);(refine aR rfl 119 _ _ rfl HK6.out (kD c5) jm (jg c5) ?_ _ (sG _ _) ?_ ?_ ?_);(exact FZ);(exact tX);(exact tX);(intro w9 Eo nE Qr oN;have EC:=kV.trans (Below.mono oN (Nat.le_add_right w.heap.size 1));have LG:=Eo.rules.1;rw[iV] at LG))|fail)
 rw[hC5]
 exact bodyPost_ret (v:= .tuple #[kD c5,.string v,.int .i64 0]) acs rfl ⟨rfl,EC⟩):P:=h
theorem ai8{P:Prop}(h:P:=by
 have lu:Below w2.heap.size w2 w3:=aG
 have gZ:=bM.trans (lu.mono bM.size)
 have K3:=ah (K2.out.below lu K2.out.lt)
 have KY3:=ah (KY.out.below lu KY.out.lt)
 have hz3:=lu.size
 have FP:=KI.out.rules
 obtain⟨LV,Qx,vT,hni,hmi⟩:=FP
 obtain⟨hc3,hf3,qM,wX,qL⟩:=K3.out.rules
 have cP3:=(hc3 8).trans gP
 have cA3:=(hc3 a).trans gA
 have hly:=KY3.out.lt
 have abI:=KY3.out.rules
 obtain⟨BK,hfy,-,hny,hmy⟩:=abI
 clear cA cB cP hb3 lu hc3 BK K2 KY
 have hne:¬a=8:=aj
 have apl:¬(8:Nat)=a:=aj
 go_wp2_with(first|((with_reducible refine cK 119 ?_);generalize bR:World.setCell _ _ _=w5;have K5:aD w5 w.heap.size (fB ((c.set a v).set 8 ((pc+4)%4294967296))) 119:=aij;generalize hC5:(((c.set a v).set 8 ((pc+4)%4294967296)):List Int)=c5 at K5;have K6:aD w5 (w.heap.size+1) (fB []) 119:=ado;have kV:Below w.heap.size w w5:=bN;have HK5:=ah K5;have HK6:=ah K6;clear bR K5 K6 cP3 cA3;(refine aK rfl 119 _ rfl (fB c5) jm (jg c5) HK5.out ?_ ?_;(exact aM)))|((with_reducible refine bS 119 ?_);(refine aR rfl 119 _ _ rfl HK6.out (kD c5) jm (jg c5) ?_ _ (sG _ _) ?_ ?_ ?_);(exact FZ);(exact tX);(exact tX);(intro w9 Eo nE Qr oN;have EC:=kV.trans (Below.mono oN (Nat.le_add_right w.heap.size 1));have LG:=Eo.rules.1;rw[iV] at LG))|fail)
 rw[hC5]
 exact bodyPost_ret (v:= .tuple #[kD c5,.string m,.int .i64 0]) acs rfl ⟨rfl,EC⟩):P:=h
theorem Dp{P:Prop}(h:P:=by
 subst hr
 go_enter Tryz.func200,Tryz.ntmps200
 go_wp2_with fail
 go_region
 go_wp2_with fail
 exact bodyPost_ret (v:= .tuple #[.agg #[.int .i64 0,.bool false],.bool false]) Jm rfl ⟨rfl,aG⟩):P:=h
theorem ai7{P:Prop}(h:P:=by
 subst hy
 clear YJ
 ((try clear gL iZ hlx iY hmx);have bx0:=QK.out;obtain⟨gL,iZ,hlx,iY,hmx⟩:=aD.rules bx0;have KX4:=ah bx0;clear bx0)
 go_wp2_with fail
 with_reducible refine(HF3.out _ (Below.refl _ _)).mono ?_
 rintro en w4 ⟨rfl,hb4⟩
 have Ul:=ah (QK.out.below hb4 hxr)
 have Ez:=ah (BL.out.below hb4 BL.out.lt)
 ((try clear hcb bC bn bA bE);have bg:=pF.out.below hb4;obtain⟨hcb,bC,bn,bA,bE⟩:=aD.rules bg.box;have sN:=ah bg;clear bg)
 clear gL iZ hlx iY hmx
 have w_:w1.heap.size≠b:=aj
 have hBx:¬w.heap.size=w1.heap.size:=aj
 go_wp2_with(first|((with_reducible refine bS 126 ?_);(refine aR rfl 126 _ _ rfl Ez.out (aT.jQ p4) aT.bf (Zh) ?_ (aT.eT p4) (adX p p4) ?_ ?_ ?_;(exact gG);(exact aM);(exact aM);(intro w5 LH nK LP kV;have M4:=ah LH;have KX6:=ah (Ul.out.grown nK aV);have LZ:=ah (sN.out.local UK.out w_ Ez.out LH nK HP4.out);have hx6:=KX6.out;have Oa:=hx6.rules.1;clear LH hx6)))|((with_reducible refine cK 126 ?_);(refine aK rfl 126 _ rfl (aT.eT p4) aT.bf (Zh) M4.out ?_ ?_;(exact aM)))|fail)
 with_reducible refine(HA.out _ _ LZ.out).mono ?_
 rintro en w7 ⟨rfl,⟨s7,kw7,aj6⟩,yS⟩
 have aqg:=nu (aB CZ.out (aA hb4 (some b))) nK aj
 go_wp2_with fail
 exact bodyPost_ret (v:= .bool true) Vs rfl ⟨rfl,⟨s7,kw7,HST.out.trans aj6 (by have:=hb4.size;omega)⟩,aB aqg yS⟩):P:=h
theorem Nj{P:Prop}(h:P:=by
 have hwr:IntKind.i64.wrap ((i:Int)+1)=i+1:=IntWalk.i64_in _ aj
 clear hx hc hc2
 go_wp2_with fail
 go_region
 go_wp2_with fail
 go_roundw
 case rel=>exact⟨i+1,aj,dn,aG⟩
 case measure=>simp[intOf];omega):P:=h
theorem ai6{P:Prop}(h:P:=by
 subst hr
 clear hw YI MN HR
 go_enter Tryz.func172,Tryz.ntmps172
 go_wp2_with fail
 (generalize bR:World.alloc _ _=w0;have KP:aD w0 (w.heap.size) (iA pid par st q) 126:=bH;have KX:aD w0 (w.heap.size+1) (#[.int .u32 x1,.int .u32 m,.int .u32 xb,.int .u32 xc]) 124:=bH;have hb0:Below w.heap.size w w0:=bN;have hz0:w0.heap.size=w.heap.size+1+1:=bX;clear bR;have KP:=ah KP;have KX:=ah KX)
 ((try clear hcb bC bn bA bE);have bg:=HW.out.below hb0;obtain⟨hcb,bC,bn,bA,bE⟩:=aD.rules bg.box;have lG:=ah bg;clear bg)
 ((try clear gL iZ hlx iY hmx);have bx0:=KX.out;obtain⟨gL,iZ,hlx,iY,hmx⟩:=aD.rules bx0;have wL:=ah bx0;clear bx0)
 go_region
 go_wp2_with fail
 exact bodyPost_ret (v:= .tuple #[.int .u32 0,.int .i64 7]) Jl rfl ⟨rfl,⟨s,HW.out.below aG,fun _ _ _ h=>h⟩,aA aG _⟩):P:=h
theorem y5{P:Prop}(h:P:=by
 rw[←jN]
 exact(aD.p9 _ _ _ aI).below hb1 dF):P:=h
theorem acM{P:Prop}(h:P:=by
 have sK:=abZ.out.kr.bP (R:=w.heap.size+1+1) (ks:=yI) (Bb _ aj (HR.out.away aj)) LY.out rfl aC aC aC aC oP
 exact jH Tryz.results62 dH FL aF pI.out rfl ⟨s6,rfl,sK,fun B hB h=>Bb B aj h,mD.trans (f_.mono aj)⟩):P:=h
theorem ai1{P:Prop}(h:P:=by
 subst hy
 go_wp2_with fail
 with_reducible refine(hRM.out _ (Below.refl _ _)).mono ?_
 rintro en w15 ⟨v15,rfl,aj_,agk⟩
 obtain⟨a15,m15,n15,rfl⟩:=aj_.is
 ((try clear hcb bC bn bA bE);have bg:=akX.out.below agk;obtain⟨hcb,bC,bn,bA,bE⟩:=aD.rules bg.box;have abY:=ah bg;clear bg)
 have H15:=ah aj_
 clear aj_ fF h_ gF gQ g_
 go_wp2_with fail
 exact bodyPost_ret (v:= .tuple #[]) Vt rfl ⟨rfl,⟨_,abY.out.C8 H15.out,HST.out _ _⟩,aB Zt (aB (aA agk (some b)) (aO _ _ _ _))⟩):P:=h
theorem acK{P:Prop}(h:P:=by
 rw[hrk]
 refine⟨rfl,{s3 with Bx:=s.Bx,bs:=s.bs,Tr:=s.Tr,Se:=s.Se},⟨?_,{krA with Bx:=krB.Bx,Tr:=krB.Tr,Se:=krB.Se},hfa b aj HW.out.aw⟩,fun B hB _ h=>hfa B hB h,IE⟩
 exact((Za.out.set 18 _).cast (VB _ _ _ _)).cast (by rw[rP,rP,gT,gT];rfl)):P:=h
theorem aiZ{P:Prop}(h:P:=by
 simp only[List.drop_zero,List.drop_succ_cons,List.take_succ_cons,List.take_zero] at f0 f1 f2 f3 f4
 obtain⟨pv,wv,cv,p,e0,hp⟩:=WE f0
 obtain⟨dx,hi,CX⟩:=Kr f1
 obtain⟨kS,hj,YN⟩:=Kr f2
 obtain⟨N,e3,_⟩:=ko Tryz.underlying3 f3
 obtain⟨M,e4,hM⟩:=ko Tryz.underlying3 f4
 simp at e0 e3 e4
 obtain⟨rfl,rfl,rfl,rfl⟩:=e0
 subst e3 e4
 exact⟨_,_,_,_,_,p,dx,kS,N,M,rfl,hp,hi,CX,hj,YN,hM⟩):P:=h
theorem aiY{P:Prop}(h:P:=by
 subst hy
 go_wp2_with(first|((with_reducible refine cK 126 ?_);(refine aK rfl 126 _ rfl (aT.eT p) aT.bf (ug) CV.out ?_ ?_;(exact aM)))|fail)
 with_reducible refine(HA.out 7 _ tC.out).mono ?_
 rintro en w3 ⟨rfl,xV,hg3⟩
 go_wp2_with fail
 exact bodyPost_ret (v:= .bool true) Pk rfl ⟨rfl,KS.from xV bM.size,aB (aA bM (some b)) hg3⟩):P:=h
theorem aiX{P:Prop}(h:P:=by
 clear d1f
 go_enter Tryz.func52,Tryz.ntmps52
 go_upto_block 0 with fail
 (refine bU ?_;apply cZ;(focus((apply Kq (hid:=by decide));(iterate 2 (apply fV (hid:=by decide)));go_wp2_with fail;exact⟨rfl,rfl,rfl⟩)))
 go_wp2_with fail
 refine eu ?_
 go_wp2_with fail
 exact bodyPost_end (v:= .tuple #[]) qX rfl ⟨rfl,s,HW.out.below su,fun _ _ _ h=>h,aA su _⟩):P:=h
theorem aiW{P:Prop}(h:P:=by
 have sK:=MR.bP (R:=w.heap.size+1) (ks:=wV) Y7.out (HAF.out (w.heap.size+1) aj (HM.out.away aj)) LY.out rfl aC aC aC aC oP
 exact jH Tryz.results15 eH Oc.out aF pI.out rfl ⟨s2,rfl,sK,fun B hB h=>HAF.out B aj h,HB6.out.trans (f_.mono aj)⟩):P:=h
theorem aiV{P:Prop}(h:P:=by
 rw[hy]
 have sK:=FU.out.kr.bP (R:=w.heap.size) (ks:=nH) (HR5.out _ aj) YZ.out rfl aC aC aC aC Dc
 refine jH Tryz.results51 eU zD aF Mk.out rfl ⟨(s5),rfl,sK,fun B hB=>HR5.out B aj,?_⟩
 exact iE.trans ((bJ nE aj aj).trans uK)):P:=h
theorem IZ{P:Prop}(h:P:=by
 repeat' split
 all_goals first|exact kF|exact PE _):P:=h
theorem aiU{P:Prop}(h:P:=by
 clear mg hr4 hcd zy wY yQ zx
 go_wp2_with fail
 go_roundw
 case rel=>
  exact⟨0+1,a4,m4,n4,aj,dn,zK.out.I5 H4.out (Pipe.tq GV.out _ _ _),IQ.out,Y9.out.other _ _ aV,aB IC (aO _ _ _ _)⟩
 case measure=>simp[intOf]):P:=h
theorem aiT{P:Prop}(h:P:=by
 clear mg hr4 hcd zy wY yQ zx
 go_wp2_with fail
 go_roundw
 case rel=>
  exact⟨1+1,a4,m4,n4,aj,dn,zK.out.I5 H4.out (Pipe.tq GV.out _ _ _),IQ.out,Y9.out.other _ _ aV,aB IC (aO _ _ _ _)⟩
 case measure=>simp[intOf]):P:=h
theorem aiS{P:Prop}(h:P:=by
 clear mg hr4 hcd zy wY yQ zx
 go_wp2_with fail
 go_roundw
 case rel=>
  exact⟨2+1,a4,m4,n4,aj,dn,zK.out.I5 H4.out (Pipe.tq GV.out _ _ _),IQ.out,Y9.out.other _ _ aV,aB IC (aO _ _ _ _)⟩
 case measure=>simp[intOf]):P:=h
theorem aiR{P:Prop}(h:P:=by
 clear mg hr4 hcd zy wY yQ zx
 go_wp2_with fail
 go_roundw
 case rel=>
  exact⟨3+1,a4,m4,n4,aj,dn,zK.out.I5 H4.out (Pipe.tq GV.out _ _ _),IQ.out,Y9.out.other _ _ aV,aB IC (aO _ _ _ _)⟩
 case measure=>simp[intOf]):P:=h
theorem acH{P:Prop}(h:P:=by
 have h3:=Dl.out B aj
 exact⟨h3.1,h3.2.1,h3.2.2.1,h3.2.2.2.1,⟨h3.2.2.2.2.1.1,h.2.2.2.2.1.2.1,h3.2.2.2.2.1.2.2⟩,h3.2.2.2.2.2⟩):P:=h
theorem aiO{P:Prop}(h:P:=by
 go_wp2_with fail
 with_reducible refine(HEN.out _ _ sN.out).mono ?_
 rintro en w6 ⟨rfl,xV,A8⟩
 subst hy
 go_wp2_with fail
 exact bodyPost_ret (v:= .tuple #[]) Jj rfl ⟨rfl,KS.from xV LP,aB HG5.out A8⟩):P:=h
theorem aiN{P:Prop}(h:P:=by
 rw[if_neg aI] at hr
 subst hr
 go_wp2_with fail
 exact bodyPost_ret (v:= .tuple #[.int .u32 0,.int .i64 1]) Ph rfl ⟨rfl,⟨s,HW.out.below aG,fun _ _ _ h=>h⟩,aA aG _⟩):P:=h
theorem aiM{P:Prop}(h:P:=by
 rw[if_neg aI] at hr
 subst hr
 go_wp2_with fail
 exact bodyPost_ret (v:= .tuple #[.int .u32 0,.int .i64 1]) Pg rfl ⟨rfl,⟨s,HW.out.below aG,fun _ _ _ h=>h⟩,aA aG _⟩):P:=h
theorem aiL{P:Prop}(h:P:=by
 apply List.ext_getElem?
 intro j
 rw[List.getElem?_take]
 split
 ·rename_i hj
  rw[List.getElem?_drop,hk2 j _ (List.getElem?_eq_getElem hj),List.getElem?_eq_getElem hj]
 ·rename_i hj
  rw[List.getElem?_eq_none aj]):P:=h
theorem aiJ{P:Prop}(h:P:=by
 exact h.kr.Bx.sl.bO hg (lZ hk hb h.kr.Bx.sl [5,1] (fun x hx=>by
  obtain⟨i,u,y,hu,hy,rfl⟩:=afw hx
  show[kind u,1]=[5,1]
  rw[kG (h.kr.Bx.el i u y hu hy)]) aC)):P:=h
theorem aiH{P:Prop}(h:P:=by
 intro i u x hu hx
 exact(h.kr.Bx.el i u x hu hx).bO hg (lZ hk hb (h.kr.Bx.el i u x hu hx) [3,4] (fun x hx=>oW) aC)):P:=h
theorem aiG{P:Prop}(h:P:=by
 go_enter Tryz.func84,Tryz.ntmps84
 go_wp2_with fail
 exact bodyPost_ret (v:= .tuple #[.string ⟨#[]⟩,.int .i64 1]) Vq rfl ⟨rfl,aG⟩):P:=h
theorem acz{P:Prop}(h:P:=by
 go_enter Tryz.func11,Tryz.ntmps11
 go_wp2_with fail
 go_ret
 exact⟨rfl,Below.refl _ _⟩):P:=h
theorem aiC{P:Prop}(h:P:=by
 obtain rfl|rfl|rfl|rfl|rfl|rfl|rfl|rfl|rfl:i=0∨i=1∨i=2∨i=3∨i=4∨i=5∨i=6∨i=7∨i=8:=by omega
 all_goals rfl):P:=h
theorem aiB{P:Prop}(h:P:=by
 rw[←hx,List.getElem?_map] at hq
 obtain⟨c,hc1,hc2⟩:=Option.map_eq_some_iff.1 hq
 rw[←hk,List.getElem?_map,hcell j c hc1,Option.map_some,hc2]):P:=h
theorem aiA{P:Prop}(h:P:=by
 obtain⟨hc1,mF,jO,mE,oz⟩:=aD.rules anw.out
 obtain⟨hc2,hf2,hl2,rD,nS⟩:=aD.rules anv.out
 go_wp2_with fail
 go_ret
 exact⟨rfl,am7⟩):P:=h
theorem aiz{P:Prop}(h:P:=by
 exact⟨i+1,s',aj,dn,by rw[hs];exact zK.out,by rw[hs];exact HS.out,aB qI (aA Q8 (some b)),uH.out⟩):P:=h
theorem Rn{P:Prop}(h:P:=by
 exact h.mono aj aj aj):P:=h
theorem aiv{P:Prop}(h:P:=by
 exact h.kr.Tr.bO hg (lZ hk hb h.kr.Tr [1,2,2,3] (fun x hx=>oW) aC)):P:=h
theorem ait{P:Prop}(h:P:=by
 exact h.kr.Se.bO hg (lZ hk hb h.kr.Se [1,4] (fun x hx=>oW) aC)):P:=h
theorem ais{P:Prop}(h:P:=by
 exact h.kr.S.bO hg (lZ hk hb h.kr.S [3,1] (fun x hx=>oW) aC)):P:=h
theorem air{P:Prop}(h:P:=by
 simp only[qK,Lit.wf,IntKind.min,IntKind.max,IntKind.bits,IntKind.signed,Bool.and_eq_true,decide_eq_true_eq]
 simp;omega):P:=h
theorem aik{P:Prop}(h:P:=by
 have h2:=List.all_eq_true.1 hno off (List.mem_range.2 ho)
 simp only[decide_eq_true_eq] at h2
 exact h2 h1):P:=h
theorem adN{P:Prop}(h:P:=by
 rw[List.drop_eq_nil_of_le (by rw[Array.length_toList,aT.jI];decide)]
 simp[aT.jQ,Value.cells]):P:=h
theorem adL{P:Prop}(h:P:=by
 rw[hs]
 exact fun B hB hne h=>⟨HR6.out B aj (agn.out B hB hne h).1,(agn.out B hB hne h).2⟩):P:=h
theorem adF{P:Prop}(h:P:=by
 subst hij
 rw[if_pos rfl] at h1 h2
 split at h1<;>cases h1
 split at h2<;>cases h2
 exact hk):P:=h
theorem amv{P:Prop}(h:P:=by
 ((refine aJ 3 (oi:=⟨some 17,_,_,_,_,_⟩) rfl ay rfl (fun K hK=>?_));(go_simp;(with_reducible refine(HCO.out _ (Y6.out.below hS)).mono ?_);rintro en w2 ⟨v2,rfl,o7,hb2⟩;have hS:=hS.trans (Below.mono hb2 hS.size);obtain⟨a2,n2,rfl,hl2⟩:=o7.sl.shape;rw[show(aW.oC ou).length=ou.length by simp[aW.oC]] at o7⊢;have h2:=o7.sl;(have ap2:∀B,B<w0.heap.size→Apart B (.slice a2 ou.length n2) (aW.oC ou):=fun B hB=> .inr fun c hc=>amh);have h1:=h1.below hb2;(try(have sJ:=sJ.below hb2));(try go_wp2_with fail));(refine hK.out _ _ (fun _=>b_) ?_;clear hK K);(try simp only[pt]);(refine aJ 5 (oi:=⟨some 19,_,_,_,_,_⟩) rfl ay rfl (fun K hK=>?_));(go_simp;(with_reducible refine(HCN.out _ (HN0.out.below hS)).mono ?_);rintro en w3 ⟨v3,rfl,pz,hb3⟩;have hS:=hS.trans (Below.mono hb3 hS.size);obtain⟨a3,n3,rfl,qM⟩:=pz.sl.shape;rw[show(aW.oC ins).length=ins.length by simp[aW.oC]] at pz⊢;have h3:=pz.sl;(have ap3:∀B,B<w0.heap.size→Apart B (.slice a3 ins.length n3) (aW.oC ins):=fun B hB=> .inr fun c hc=>ajS);have h1:=h1.below hb3;have h2:=h2.below hb3;(try(have sJ:=sJ.below hb3));(try go_wp2_with fail));(refine hK.out _ _ (fun _=>b_) ?_;clear hK K);(try simp only[pt]);(refine aZ 10 ay ?_ rfl);simp only[List.toList_toArray,List.drop_succ_cons,List.drop_zero];(go_wp2_with fail;first|(have jo:=aD.new w5 #[.slice none 0 0,.slice none 0 0,.int .i64 0,.slice none 0 0,.slice none 0 0,.int .i64 0,.slice none 0 0,.int .u64 now,.slice a1 im.length n1,.slice a2 ou.length n2,.slice a3 ins.length n3,.slice (some ⟨q1,0,none⟩) ins.length ins.length,.string {data:=#[]},.slice none 0 0,.slice none 0 0,.int .i64 0,.int .i64 0] kT;have hq:=hS.size;have ha1:=h1.apart (Nat.le_refl w5.heap.size);have ha2:=sJ.apart (Nat.le_refl w5.heap.size);have g1:=h1.below (w':=w5.alloc (.cells #[.slice none 0 0,.slice none 0 0,.int .i64 0,.slice none 0 0,.slice none 0 0,.int .i64 0,.slice none 0 0,.int .u64 now,.slice a1 im.length n1,.slice a2 ou.length n2,.slice a3 ins.length n3,.slice (some ⟨q1,0,none⟩) ins.length ins.length,.string {data:=#[]},.slice none 0 0,.slice none 0 0,.int .i64 0,.int .i64 0] kT)) ((Below.refl _ _).alloc (Nat.le_refl _) _);have g2:=h2.below (w':=w5.alloc (.cells #[.slice none 0 0,.slice none 0 0,.int .i64 0,.slice none 0 0,.slice none 0 0,.int .i64 0,.slice none 0 0,.int .u64 now,.slice a1 im.length n1,.slice a2 ou.length n2,.slice a3 ins.length n3,.slice (some ⟨q1,0,none⟩) ins.length ins.length,.string {data:=#[]},.slice none 0 0,.slice none 0 0,.int .i64 0,.int .i64 0] kT)) ((Below.refl _ _).alloc (Nat.le_refl _) _);have g3:=h3.below (w':=w5.alloc (.cells #[.slice none 0 0,.slice none 0 0,.int .i64 0,.slice none 0 0,.slice none 0 0,.int .i64 0,.slice none 0 0,.int .u64 now,.slice a1 im.length n1,.slice a2 ou.length n2,.slice a3 ins.length n3,.slice (some ⟨q1,0,none⟩) ins.length ins.length,.string {data:=#[]},.slice none 0 0,.slice none 0 0,.int .i64 0,.int .i64 0] kT)) ((Below.refl _ _).alloc (Nat.le_refl _) _);have g4:=sJ.below (w':=w5.alloc (.cells #[.slice none 0 0,.slice none 0 0,.int .i64 0,.slice none 0 0,.slice none 0 0,.int .i64 0,.slice none 0 0,.int .u64 now,.slice a1 im.length n1,.slice a2 ou.length n2,.slice a3 ins.length n3,.slice (some ⟨q1,0,none⟩) ins.length ins.length,.string {data:=#[]},.slice none 0 0,.slice none 0 0,.int .i64 0,.int .i64 0] kT)) ((Below.refl _ _).alloc (Nat.le_refl _) _);have g5:Below w0.heap.size w0 (w5.alloc (.cells #[.slice none 0 0,.slice none 0 0,.int .i64 0,.slice none 0 0,.slice none 0 0,.int .i64 0,.slice none 0 0,.int .u64 now,.slice a1 im.length n1,.slice a2 ou.length n2,.slice a3 ins.length n3,.slice (some ⟨q1,0,none⟩) ins.length ins.length,.string {data:=#[]},.slice none 0 0,.slice none 0 0,.int .i64 0,.int .i64 0] kT)):=hS.alloc hS.size _;generalize w5.heap.size=q2 at jo hq ha1 ha2⊢;(refine yJ.of a1 n1 a2 n2 a3 n3 q1 q2 ⟨g1,g2,g3,g4,jo,g5,hq,ha1,ha2,fun B hB=>⟨ap1 B hB,ap2 B hB,ap3 B hB⟩,nV⟩ ?_);with_reducible rfl)|(have jo:=aD.new w3 #[.slice none 0 0,.slice none 0 0,.int .i64 0,.slice none 0 0,.slice none 0 0,.int .i64 0,.slice none 0 0,.int .u64 now,.slice a1 im.length n1,.slice a2 ou.length n2,.slice a3 ins.length n3,.slice (some ⟨q1,0,none⟩) ins.length ins.length,.string {data:=#[]},.slice none 0 0,.slice none 0 0,.int .i64 0,.int .i64 0] kT;have hq:=hS.size;have ha1:=h1.apart (Nat.le_refl w3.heap.size);have ha2:=sJ.apart (Nat.le_refl w3.heap.size);have g1:=h1.below (w':=w3.alloc (.cells #[.slice none 0 0,.slice none 0 0,.int .i64 0,.slice none 0 0,.slice none 0 0,.int .i64 0,.slice none 0 0,.int .u64 now,.slice a1 im.length n1,.slice a2 ou.length n2,.slice a3 ins.length n3,.slice (some ⟨q1,0,none⟩) ins.length ins.length,.string {data:=#[]},.slice none 0 0,.slice none 0 0,.int .i64 0,.int .i64 0] kT)) ((Below.refl _ _).alloc (Nat.le_refl _) _);have g2:=h2.below (w':=w3.alloc (.cells #[.slice none 0 0,.slice none 0 0,.int .i64 0,.slice none 0 0,.slice none 0 0,.int .i64 0,.slice none 0 0,.int .u64 now,.slice a1 im.length n1,.slice a2 ou.length n2,.slice a3 ins.length n3,.slice (some ⟨q1,0,none⟩) ins.length ins.length,.string {data:=#[]},.slice none 0 0,.slice none 0 0,.int .i64 0,.int .i64 0] kT)) ((Below.refl _ _).alloc (Nat.le_refl _) _);have g3:=h3.below (w':=w3.alloc (.cells #[.slice none 0 0,.slice none 0 0,.int .i64 0,.slice none 0 0,.slice none 0 0,.int .i64 0,.slice none 0 0,.int .u64 now,.slice a1 im.length n1,.slice a2 ou.length n2,.slice a3 ins.length n3,.slice (some ⟨q1,0,none⟩) ins.length ins.length,.string {data:=#[]},.slice none 0 0,.slice none 0 0,.int .i64 0,.int .i64 0] kT)) ((Below.refl _ _).alloc (Nat.le_refl _) _);have g4:=sJ.below (w':=w3.alloc (.cells #[.slice none 0 0,.slice none 0 0,.int .i64 0,.slice none 0 0,.slice none 0 0,.int .i64 0,.slice none 0 0,.int .u64 now,.slice a1 im.length n1,.slice a2 ou.length n2,.slice a3 ins.length n3,.slice (some ⟨q1,0,none⟩) ins.length ins.length,.string {data:=#[]},.slice none 0 0,.slice none 0 0,.int .i64 0,.int .i64 0] kT)) ((Below.refl _ _).alloc (Nat.le_refl _) _);have g5:Below w0.heap.size w0 (w3.alloc (.cells #[.slice none 0 0,.slice none 0 0,.int .i64 0,.slice none 0 0,.slice none 0 0,.int .i64 0,.slice none 0 0,.int .u64 now,.slice a1 im.length n1,.slice a2 ou.length n2,.slice a3 ins.length n3,.slice (some ⟨q1,0,none⟩) ins.length ins.length,.string {data:=#[]},.slice none 0 0,.slice none 0 0,.int .i64 0,.int .i64 0] kT)):=hS.alloc hS.size _;generalize w3.heap.size=q2 at jo hq ha1 ha2⊢;(refine yJ.of a1 n1 a2 n2 a3 n3 q1 q2 ⟨g1,g2,g3,g4,jo,g5,hq,ha1,ha2,fun B hB=>⟨ap1 B hB,ap2 B hB,ap3 B hB⟩,nV⟩ ?_);with_reducible rfl)))):P:=h
theorem amu{P:Prop}(h:P:=by
 ((refine aZ 10 ay ?_ rfl);simp only[List.toList_toArray,List.drop_succ_cons,List.drop_zero];(go_wp2_with fail;first|(have jo:=aD.new w5 #[.slice none 0 0,.slice none 0 0,.int .i64 0,.slice none 0 0,.slice none 0 0,.int .i64 0,.slice none 0 0,.int .u64 now,.slice a1 im.length n1,.slice a2 ou.length n2,.slice a3 ins.length n3,.slice (some ⟨q1,0,none⟩) ins.length ins.length,.string {data:=#[]},.slice none 0 0,.slice none 0 0,.int .i64 0,.int .i64 0] kT;have hq:=hS.size;have ha1:=h1.apart (Nat.le_refl w5.heap.size);have ha2:=sJ.apart (Nat.le_refl w5.heap.size);have g1:=h1.below (w':=w5.alloc (.cells #[.slice none 0 0,.slice none 0 0,.int .i64 0,.slice none 0 0,.slice none 0 0,.int .i64 0,.slice none 0 0,.int .u64 now,.slice a1 im.length n1,.slice a2 ou.length n2,.slice a3 ins.length n3,.slice (some ⟨q1,0,none⟩) ins.length ins.length,.string {data:=#[]},.slice none 0 0,.slice none 0 0,.int .i64 0,.int .i64 0] kT)) ((Below.refl _ _).alloc (Nat.le_refl _) _);have g2:=h2.below (w':=w5.alloc (.cells #[.slice none 0 0,.slice none 0 0,.int .i64 0,.slice none 0 0,.slice none 0 0,.int .i64 0,.slice none 0 0,.int .u64 now,.slice a1 im.length n1,.slice a2 ou.length n2,.slice a3 ins.length n3,.slice (some ⟨q1,0,none⟩) ins.length ins.length,.string {data:=#[]},.slice none 0 0,.slice none 0 0,.int .i64 0,.int .i64 0] kT)) ((Below.refl _ _).alloc (Nat.le_refl _) _);have g3:=h3.below (w':=w5.alloc (.cells #[.slice none 0 0,.slice none 0 0,.int .i64 0,.slice none 0 0,.slice none 0 0,.int .i64 0,.slice none 0 0,.int .u64 now,.slice a1 im.length n1,.slice a2 ou.length n2,.slice a3 ins.length n3,.slice (some ⟨q1,0,none⟩) ins.length ins.length,.string {data:=#[]},.slice none 0 0,.slice none 0 0,.int .i64 0,.int .i64 0] kT)) ((Below.refl _ _).alloc (Nat.le_refl _) _);have g4:=sJ.below (w':=w5.alloc (.cells #[.slice none 0 0,.slice none 0 0,.int .i64 0,.slice none 0 0,.slice none 0 0,.int .i64 0,.slice none 0 0,.int .u64 now,.slice a1 im.length n1,.slice a2 ou.length n2,.slice a3 ins.length n3,.slice (some ⟨q1,0,none⟩) ins.length ins.length,.string {data:=#[]},.slice none 0 0,.slice none 0 0,.int .i64 0,.int .i64 0] kT)) ((Below.refl _ _).alloc (Nat.le_refl _) _);have g5:Below w0.heap.size w0 (w5.alloc (.cells #[.slice none 0 0,.slice none 0 0,.int .i64 0,.slice none 0 0,.slice none 0 0,.int .i64 0,.slice none 0 0,.int .u64 now,.slice a1 im.length n1,.slice a2 ou.length n2,.slice a3 ins.length n3,.slice (some ⟨q1,0,none⟩) ins.length ins.length,.string {data:=#[]},.slice none 0 0,.slice none 0 0,.int .i64 0,.int .i64 0] kT)):=hS.alloc hS.size _;generalize w5.heap.size=q2 at jo hq ha1 ha2⊢;(refine yJ.of a1 n1 a2 n2 a3 n3 q1 q2 ⟨g1,g2,g3,g4,jo,g5,hq,ha1,ha2,fun B hB=>⟨ap1 B hB,ap2 B hB,ap3 B hB⟩,nV⟩ ?_);with_reducible rfl)|(have jo:=aD.new w3 #[.slice none 0 0,.slice none 0 0,.int .i64 0,.slice none 0 0,.slice none 0 0,.int .i64 0,.slice none 0 0,.int .u64 now,.slice a1 im.length n1,.slice a2 ou.length n2,.slice a3 ins.length n3,.slice (some ⟨q1,0,none⟩) ins.length ins.length,.string {data:=#[]},.slice none 0 0,.slice none 0 0,.int .i64 0,.int .i64 0] kT;have hq:=hS.size;have ha1:=h1.apart (Nat.le_refl w3.heap.size);have ha2:=sJ.apart (Nat.le_refl w3.heap.size);have g1:=h1.below (w':=w3.alloc (.cells #[.slice none 0 0,.slice none 0 0,.int .i64 0,.slice none 0 0,.slice none 0 0,.int .i64 0,.slice none 0 0,.int .u64 now,.slice a1 im.length n1,.slice a2 ou.length n2,.slice a3 ins.length n3,.slice (some ⟨q1,0,none⟩) ins.length ins.length,.string {data:=#[]},.slice none 0 0,.slice none 0 0,.int .i64 0,.int .i64 0] kT)) ((Below.refl _ _).alloc (Nat.le_refl _) _);have g2:=h2.below (w':=w3.alloc (.cells #[.slice none 0 0,.slice none 0 0,.int .i64 0,.slice none 0 0,.slice none 0 0,.int .i64 0,.slice none 0 0,.int .u64 now,.slice a1 im.length n1,.slice a2 ou.length n2,.slice a3 ins.length n3,.slice (some ⟨q1,0,none⟩) ins.length ins.length,.string {data:=#[]},.slice none 0 0,.slice none 0 0,.int .i64 0,.int .i64 0] kT)) ((Below.refl _ _).alloc (Nat.le_refl _) _);have g3:=h3.below (w':=w3.alloc (.cells #[.slice none 0 0,.slice none 0 0,.int .i64 0,.slice none 0 0,.slice none 0 0,.int .i64 0,.slice none 0 0,.int .u64 now,.slice a1 im.length n1,.slice a2 ou.length n2,.slice a3 ins.length n3,.slice (some ⟨q1,0,none⟩) ins.length ins.length,.string {data:=#[]},.slice none 0 0,.slice none 0 0,.int .i64 0,.int .i64 0] kT)) ((Below.refl _ _).alloc (Nat.le_refl _) _);have g4:=sJ.below (w':=w3.alloc (.cells #[.slice none 0 0,.slice none 0 0,.int .i64 0,.slice none 0 0,.slice none 0 0,.int .i64 0,.slice none 0 0,.int .u64 now,.slice a1 im.length n1,.slice a2 ou.length n2,.slice a3 ins.length n3,.slice (some ⟨q1,0,none⟩) ins.length ins.length,.string {data:=#[]},.slice none 0 0,.slice none 0 0,.int .i64 0,.int .i64 0] kT)) ((Below.refl _ _).alloc (Nat.le_refl _) _);have g5:Below w0.heap.size w0 (w3.alloc (.cells #[.slice none 0 0,.slice none 0 0,.int .i64 0,.slice none 0 0,.slice none 0 0,.int .i64 0,.slice none 0 0,.int .u64 now,.slice a1 im.length n1,.slice a2 ou.length n2,.slice a3 ins.length n3,.slice (some ⟨q1,0,none⟩) ins.length ins.length,.string {data:=#[]},.slice none 0 0,.slice none 0 0,.int .i64 0,.int .i64 0] kT)):=hS.alloc hS.size _;generalize w3.heap.size=q2 at jo hq ha1 ha2⊢;(refine yJ.of a1 n1 a2 n2 a3 n3 q1 q2 ⟨g1,g2,g3,g4,jo,g5,hq,ha1,ha2,fun B hB=>⟨ap1 B hB,ap2 B hB,ap3 B hB⟩,nV⟩ ?_);with_reducible rfl)))):P:=h
theorem amr{P:Prop}(h:P:=by
 ((refine aJ 20 (oi:=⟨some 59,_,_,_,_,_⟩) rfl ay rfl (fun K hK=>?_));((refine uz rfl hMM ao gl bG ady w3.heap.size (smV y.1.now r2 m.2) HY bG yA aj ?_;intro g9 n9 w9 BJ oN));(refine hidS hK (hS.trans (oN.mono hS.size)) (fun hS=>?_);clear hK K);(try simp only[pt]);(have GX:=ah (BJ.le (base':=w3.heap.size) (by have:=hd8.size;simp only[bQ] at this;exact this));clear BJ);(refine aJ 21 (oi:=⟨some 60,_,_,_,_,_⟩) rfl ay rfl (fun K hK=>?_));(go_simp;(with_reducible refine(aeH _ Bw d _ _ (HM3.out.av.below hS) hdr (Kh _ _ _) aj).mono ?_);rintro en zw ⟨v10,rfl,Md,uK⟩;have hS:=hS.trans (Below.mono uK hS.size);obtain⟨Ep,m10,n10,rfl⟩:=Md.sl.is;have wO:=ah (Md.le (base':=w3.heap.size) (by have h1:=hd8.size;have h2:=oN.size;simp only[bQ] at h1;omega));have ac7:=ah (GX.out.kept uK);clear Md GX;(try go_wp2_with fail));(refine hK.out _ _ (fun _=>b_) ?_;clear hK K);(try simp only[pt]);(refine tk 22 61 hS ?_);(try simp only[pt]);(refine aZ 23 ay ?_ rfl);simp only[List.toList_toArray,List.drop_succ_cons,List.drop_zero];(have EG:=ah (vK.out.below hS vK.out.lt);obtain⟨Qz,YQ,Uw,Uf,YM⟩:=aD.rules EG.out;have C_:=MR.aeC (m:=n+i+1) EG.out (HM3.out.below hS) (Od.out w.heap.size aj (HM.out.away (Nat.le_refl _))) (HP.out.below (gZ.trans (hS.mono gZ.size))) hi wO.out.sl (lY wO.out aj) ac7.out.sl (lY ac7.out aj) aV aj;have HS5:=ah C_;have HBS:=ah (show Below w.heap.size w (zw.setCell ⟨w.heap.size,9,none⟩ (.slice Ep m10 n10)) from Below.setCell (gZ.trans (hS.mono gZ.size)) (Nat.le_refl _) _);clear C_;go_wp2_with fail;(refine Ig.of ao g9 n9 Ep m10 n10 ⟨HS5.out.1,HS5.out.2,fun B hB=>⟨lY wO.out hB,lY ac7.out hB⟩,HBS.out,aB (aA hS _) (aO _ _ _ _)⟩ ?_);with_reducible rfl))):P:=h
theorem amq{P:Prop}(h:P:=by
 ((refine aZ 8 ay ?_ rfl);simp only[List.toList_toArray,List.drop_succ_cons,List.drop_zero];(have ao2:=aaP (.slice a1 p.parts.length c1) (.slice a2 p.wins.length c2) (.slice a3 p.chans.length c3) (.slice ia dx.length ic) (.slice none 0 0) (.slice (some ⟨qm,0,none⟩) p.parts.length p.parts.length) (.slice none 0 0) p.frame 0 0 0 (by intro v hv;simp at hv;rcases hv with rfl|rfl|rfl|rfl|rfl|rfl<;>rfl);have HBA:=ah hba;clear hba;go_wp2_with(first|((with_reducible refine bS 36 ?_);(refine aR rfl 36 _ _ rfl HBA.out (.agg #[.slice a1 p.parts.length c1,.int .i64 p.frame,.slice a2 p.wins.length c2,.slice a3 p.chans.length c3,.slice ia dx.length ic,.int .u64 0,.int .i64 0,.int .i64 0,.slice none 0 0,.slice (some ⟨qm,0,none⟩) p.parts.length p.parts.length,.int .i64 (-1)]) eH (ao2) ?_ (_) (gM 11 lX ()) ?_ ?_ ?_;(exact gG);(exact aM);(exact aM);(intro N7 nN oP zB f_;have pI:=ah nN;clear nN)))|fail);have apa:w1.heap.size≤qm:=ah6;have amF:w1.heap.size≤qa:=ah6;have Uf:qm≠qa:=aj;(refine yK.of qm qa ⟨pI.out.cast (by rw[kX]),Oq.bO oP (.inr fun b hb=>acf),bJ (aB (aA hS (some qa)) oP) amF (Nat.le_refl _),amF,apa,Uf,by have e1:=oP.size;have e2:=hbm.size;have e3:=yT.size;omega⟩ ?_);with_reducible rfl))):P:=h
theorem amo{P:Prop}(h:P:=by
 ((try simp only[pt]);(refine aJ 18 (oi:=⟨some 55,_,_,_,_,_⟩) rfl ay rfl (fun K hK=>?_));(go_simp;(with_reducible refine(L6.out _ (bM.trans (hS.mono bM.size))).mono ?_);rintro en w4 ⟨rfl,hb4⟩;have hS:=hS.trans (Below.mono hb4 hS.size);have xU:=hb4.size;(try(have zH:=aD.below zH hb4 zH.lt));(try(have w_:=aD.below w_ hb4 w_.lt));(try go_wp2_with fail));(refine hK.out _ _ (fun _=>b_) ?_;clear hK K);(try simp only[pt]);(refine tk 19 36 hS ?_);(try simp only[pt]);(refine bV 21 (oi:=⟨some 57,_,_,_,_,_⟩) (v:=?_) rfl ay om (Or.inl ⟨aF,?_⟩) ?_;rotate_left;focus(intro W hW;go_simp;(all_goals with_reducible rfl)));(try simp only[pt]);(refine bV 22 (oi:=⟨some 58,_,_,_,_,_⟩) (v:=?_) rfl ay om (Or.inl ⟨aF,?_⟩) ?_;rotate_left;focus(intro W hW;go_simp;(all_goals with_reducible rfl)));(try simp only[pt]);(refine tk 20 56 hS ?_);(try simp only[pt]);(refine aZ 25 ay ?_ rfl);simp only[List.toList_toArray,List.drop_succ_cons,List.drop_zero];(have hab:qa≠qb:=aj;have OE:qb≠qa:=aj;obtain⟨ja1,ja2,ja3,ja4,ja5⟩:=aD.rules zH;obtain⟨jb1,jb2,jb3,jb4,jb5⟩:=aD.rules w_;go_wp2_with fail;(first|(refine yK.of qa qb ⟨?_,?_,?_,GQ,Ij,hab⟩ ?_)|(trace_state;fail));(focus(exact((((zH.set 0 _).set 1 _).other _ _ hab).other _ _ hab)));(focus(exact(((w_.other _ _ OE).other _ _ OE).set 0 _).set 1 _));(focus exact bl);with_reducible rfl))):P:=h
theorem aml{P:Prop}(h:P:=by
 ((refine aJ 13 (oi:=⟨some 62,_,_,_,_,_⟩) rfl ay rfl (fun K hK=>?_));((refine uz rfl hM ao (k.se.map LM) bG ady w2.heap.size (LM ((m:Int),o1)) HY bG Va aV ?_;intro g9 n9 w9 BJ oN));(refine hidS hK (hS.trans (oN.mono hS.size)) (fun hS=>?_);clear hK K);(try simp only[pt]);(refine tk 14 63 hS ?_);(try simp only[pt]);(refine tk 15 64 hS ?_);(try simp only[pt]);(refine tk 16 65 hS ?_);(try simp only[pt]);(refine aZ 17 ay ?_ rfl);simp only[List.toList_toArray,List.drop_succ_cons,List.drop_zero];(have GX:=ah BJ.sl;(((try clear hcb bC bn bA bE);have bg:=tC.out.below hS;obtain⟨hcb,bC,bn,bA,bE⟩:=aD.rules bg.box;have FU:=ah bg;clear bg));have Zj:w.grownBy w9 (some b):=aB (aA bM _) (aA hS _);clear BJ oN;go_wp2_with fail;exact bodyPost_ret (v:= .tuple #[.int .u32 0,.int .i64 0]) O_ rfl ⟨rfl,⟨_,FU.out.an1 (by simpa using GX.out),fun _ _ _ h=>h⟩,aB Zj (aO _ _ _ _)⟩))):P:=h
theorem ajm{P:Prop}(h:P:=by
 ((try simp only[pt]);(refine aJ 23 (oi:=⟨some 8,_,_,_,_,_⟩) rfl ay rfl (fun K hK=>?_));((refine jD 93 rfl (z:= .agg #[.slice none 0 0,.int .i64 0]) ay #[.slice none 0 0,.int .i64 0] rfl ?_;intro qa wa zH Uy GQ Xz;have hqq:=GQ;have GQ:=Nat.le_trans (Below.size hS) GQ;have hza:=Uy.size;(try(have w_:=aD.below w_ Uy w_.lt))));(refine hidS hK (hS.trans (Uy.mono hS.size)) (fun hS=>?_);clear hK K);(try simp only[pt]);(refine aZ 25 ay ?_ rfl);simp only[List.toList_toArray,List.drop_succ_cons,List.drop_zero];(have hab:qa≠qb:=aj;have OE:qb≠qa:=aj;obtain⟨ja1,ja2,ja3,ja4,ja5⟩:=aD.rules zH;obtain⟨jb1,jb2,jb3,jb4,jb5⟩:=aD.rules w_;go_wp2_with fail;(first|(refine yK.of qa qb ⟨?_,?_,?_,GQ,Ij,hab⟩ ?_)|(trace_state;fail));(focus(exact((((zH.set 0 _).set 1 _).other _ _ hab).other _ _ hab)));(focus(exact(((w_.other _ _ OE).other _ _ OE).set 0 _).set 1 _));(focus exact bl);with_reducible rfl))):P:=h
theorem ajl{P:Prop}(h:P:=by
 ((try simp only[pt]);(refine aJ 24 (oi:=⟨some 9,_,_,_,_,_⟩) rfl ay rfl (fun K hK=>?_));((refine jD 138 rfl (z:= .agg #[.int .u64 0,.string ⟨#[]⟩]) ay #[.int .u64 0,.string ⟨#[]⟩] rfl ?_;intro qb wb w_ Ux Ij abL;have aj':=Ij;have Ij:=Nat.le_trans (Below.size hS) Ij;have hzb:=Ux.size;(try(have zH:=aD.below zH Ux zH.lt))));(refine hidS hK (hS.trans (Ux.mono hS.size)) (fun hS=>?_);clear hK K);(try simp only[pt]);(refine aZ 25 ay ?_ rfl);simp only[List.toList_toArray,List.drop_succ_cons,List.drop_zero];(have hab:qa≠qb:=aj;have OE:qb≠qa:=aj;obtain⟨ja1,ja2,ja3,ja4,ja5⟩:=aD.rules zH;obtain⟨jb1,jb2,jb3,jb4,jb5⟩:=aD.rules w_;go_wp2_with fail;(first|(refine yK.of qa qb ⟨?_,?_,?_,GQ,Ij,hab⟩ ?_)|(trace_state;fail));(focus(exact((((zH.set 0 _).set 1 _).other _ _ hab).other _ _ hab)));(focus(exact(((w_.other _ _ OE).other _ _ OE).set 0 _).set 1 _));(focus exact bl);with_reducible rfl))):P:=h
theorem ajj{P:Prop}(h:P:=by
 ((refine aZ 12 ay ?_ rfl);simp only[List.toList_toArray,List.drop_succ_cons,List.drop_zero];(have Es:=ah bT;go_wp2_with(first|((with_reducible refine bS 126 ?_);(refine aR rfl 126 _ _ rfl Es.out (aT.jQ f) aT.bf (hfv) ?_ (aT.eT f) (PU (aT.kQ 0) f) ?_ ?_ ?_;(exact gG);(exact aM);(exact aM);intro w14 akU aqh aoY akP))|fail);(refine Joined.of qa ⟨akU,?_,gy⟩ ?_);(focus(exact hS.trans (akP.mono gy)));with_reducible rfl))):P:=h
theorem aji{P:Prop}(h:P:=by
 ((refine aZ 13 ay ?_ rfl);simp only[List.toList_toArray,List.drop_succ_cons,List.drop_zero];(have Es:=ah bT;go_wp2_with(first|((with_reducible refine bS 126 ?_);(refine aR rfl 126 _ _ rfl Es.out (aT.jQ f) aT.bf (hfv) ?_ (aT.eT f) (PU (aT.kQ 0) f) ?_ ?_ ?_;(exact gG);(exact aM);(exact aM);intro w14 akU aqh aoY akP))|fail);(refine Joined.of qa ⟨akU,?_,gy⟩ ?_);(focus(exact hS.trans (akP.mono gy)));with_reducible rfl))):P:=h
theorem ajh{P:Prop}(h:P:=by
 ((refine aZ 13 ay ?_ rfl);simp only[List.toList_toArray,List.drop_succ_cons,List.drop_zero];(have Es:=ah bT;obtain⟨jb1,jb2,jb3,jb4,jb5⟩:=aD.rules bT;go_wp2_with fail;(refine DY.of qa a3 m3 n3 ⟨(Es.out.set 0 _).set 1 _,?_,HR3,?_,gy⟩ ?_);(focus(first|exact GH bT hs3 _ _|exact GH bT (hs3.below dK) _ _));(focus exact bl);with_reducible rfl))):P:=h
theorem ajg{P:Prop}(h:P:=by
 ((refine aZ 17 ay ?_ rfl);simp only[List.toList_toArray,List.drop_succ_cons,List.drop_zero];(have Es:=ah bT;obtain⟨jb1,jb2,jb3,jb4,jb5⟩:=aD.rules bT;go_wp2_with fail;(refine DY.of qa a3 m3 n3 ⟨(Es.out.set 0 _).set 1 _,?_,?_,gy⟩ ?_);(focus(first|exact KO bT hs3 _ _|exact KO bT (hs3.below dK) _ _));(focus exact bl);with_reducible rfl))):P:=h
theorem ajf{P:Prop}(h:P:=by
 ((refine aZ 17 ay ?_ rfl);simp only[List.toList_toArray,List.drop_succ_cons,List.drop_zero];(obtain⟨Qz,YQ,Uw,Uf,YM⟩:=aD.rules bT;go_wp2_with fail;(refine Joined.of qa ⟨?_,?_,gy⟩ ?_);(focus(exact((bT.set 0 _).set 1 _).set 2 _));(focus exact bl);with_reducible rfl))):P:=h
theorem aje{P:Prop}(h:P:=by
 ((refine aZ 19 ay ?_ rfl);simp only[List.toList_toArray,List.drop_succ_cons,List.drop_zero];(obtain⟨Qz,YQ,Uw,Uf,YM⟩:=aD.rules bT;go_wp2_with fail;(refine Joined.of qa ⟨?_,?_,gy⟩ ?_);(focus(exact((bT.set 0 _).set 1 _).set 2 _));(focus exact bl);with_reducible rfl))):P:=h
theorem acT{P:Prop}(h:P:=by
 ((apply Kq (hid:=by decide));(iterate 2 (apply fV (hid:=by decide)));go_wp2_with fail;exact⟨rfl,rfl,rfl⟩)):P:=h
theorem acS{P:Prop}(h:P:=by
 ((apply aax);(iterate 2 (apply fV (hid:=by decide)));go_wp2_with fail;exact⟨rfl,rfl,rfl⟩)):P:=h
theorem ajc{P:Prop}(h:P:=by
 ((iterate 10 (apply fV (hid:=by decide)));(go_wp2_with fail;exact⟨rfl,rfl,rfl⟩))):P:=h
theorem acR{P:Prop}(h:P:=by
 ((iterate 16 (apply fV (hid:=by decide)));(go_wp2_with fail;exact⟨rfl,rfl,rfl⟩))):P:=h
theorem acQ{P:Prop}(h:P:=by
 ((iterate 2 (apply fV (hid:=by decide)));(go_wp2_with fail;exact⟨rfl,rfl,rfl⟩))):P:=h
theorem acP{P:Prop}(h:P:=by
 ((iterate 3 (apply fV (hid:=by decide)));(go_wp2_with fail;exact⟨rfl,rfl,rfl⟩))):P:=h
theorem ajb{P:Prop}(h:P:=by
 ((iterate 5 (apply fV (hid:=by decide)));(go_wp2_with fail;exact⟨rfl,rfl,rfl⟩))):P:=h
theorem aja{P:Prop}(h:P:=by
 ((iterate 4 (apply fV (hid:=by decide)));(go_wp2_with fail;exact⟨rfl,rfl,rfl⟩))):P:=h
theorem ai'{P:Prop}(h:P:=by
 ((iterate 6 (apply fV (hid:=by decide)));(go_wp2_with fail;exact⟨rfl,rfl,rfl⟩))):P:=h
theorem ai_{P:Prop}(h:P:=by
 ((iterate 7 (apply fV (hid:=by decide)));(go_wp2_with fail;exact⟨rfl,rfl,rfl⟩))):P:=h
theorem acO{P:Prop}(h:P:=by
 ((iterate 8 (apply fV (hid:=by decide)));(go_wp2_with fail;exact⟨rfl,rfl,rfl⟩))):P:=h
theorem acN{P:Prop}(h:P:=by
 ((iterate 9 (apply fV (hid:=by decide)));(go_wp2_with fail;exact⟨rfl,rfl,rfl⟩))):P:=h
theorem UL{P:Prop}(h:P:=by(intro W hW;have hcb:=fq hW bn hcb;have hcr:=fq hW abK hcr;have hcs:=fq hW hls hcs;have hcm:=fq hW hlm hcm;go_simp;(all_goals with_reducible rfl))):P:=h
theorem ami{P:Prop}(h:P:=by first|(simp only[bQ,eG];omega)|(have hx5:=Below.size ‹Below w2.drew.heap.size w2.drew w5›;simp only[bQ,eG] at hx5;omega)):P:=h
theorem ajS{P:Prop}(h:P:=by have h9:=pz.iy c hc;first|(have h8:=Below.size ‹Below w0.heap.size w0 w5›;omega)|(have h8:=Below.size ‹Below w0.heap.size w0 w2›;omega)):P:=h
theorem amh{P:Prop}(h:P:=by have h9:=o7.iy c hc;first|(have h8:=Below.size ‹Below w0.heap.size w0 w5›;omega)|(have h8:=Below.size ‹Below w0.heap.size w0 w1›;omega)):P:=h
theorem afR{P:Prop}(h:P:=by(intro W hW;have hcb:=fq hW bn hcb;have hcr:=fq hW abK hcr;have hcm:=fq hW hlm hcm;go_simp;(all_goals with_reducible rfl))):P:=h
theorem Zc{P:Prop}(h:P:=by(intro W hW;have hcb:=fq hW bn hcb;have hcd:=fq hW wY hcd;have Qz:=fq hW Uw Qz;go_simp;(all_goals with_reducible rfl))):P:=h
theorem afQ{P:Prop}(h:P:=by(intro W hW;have hcb:=fq hW bn hcb;have gL:=fq hW hlx gL;have fF:=fq hW gF fF;go_simp;(all_goals with_reducible rfl))):P:=h
theorem afP{P:Prop}(h:P:=by(intro W hW;have hcb:=fq hW bn hcb;have fF:=fq hW gF fF;have gL:=fq hW hlx gL;go_simp;(all_goals with_reducible rfl))):P:=h
theorem afO{P:Prop}(h:P:=by(intro W hW;have hcb:=fq hW bn hcb;have hca:=fq hW Xz hca;have hct:=fq hW hlt hct;go_simp;(all_goals with_reducible rfl))):P:=h
theorem ajR{P:Prop}(h:P:=by(intro W hW;have hcb:=fq hW bn hcb;have fF:=fq hW gF fF;have hcd:=fq hW wY hcd;go_simp;(all_goals with_reducible rfl))):P:=h
theorem acv{P:Prop}(h:P:=by(intro W hW;have hcb:=fq hW bn hcb;have hcd:=fq hW wY hcd;have gL:=fq hW hlx gL;go_simp;(all_goals with_reducible rfl))):P:=h
theorem acu{P:Prop}(h:P:=by(intro W hW;have hcb:=fq hW bn hcb;have BK:=fq hW hly BK;have gL:=fq hW hlx gL;go_simp;(all_goals with_reducible rfl))):P:=h
theorem aij{P:Prop}(h:P:=by rw[←bR];exact((K3.out.set a _).set 8 _).cast (by rw[xG nO (by omega),xG (by rw[List.length_set];exact nO) (by omega)])):P:=h
theorem aif{P:Prop}(h:P:=by have h9:=zG.iy c hc;first|(have h8:=Below.size ‹Below w0.heap.size w0 w5›;omega)|(simp only[bQ] at h9;omega)):P:=h
theorem aie{P:Prop}(h:P:=by unfold Func.isWrapper;first|(rw[if_pos (by decide+kernel)];kernel_rfl)|(rw[if_neg (by decide+kernel)];exact⟨rfl,rfl⟩)):P:=h
theorem qB{P:Prop}(h:P:=by(intro W hW;have hcb:=fq hW bn hcb;have fF:=fq hW gF fF;go_simp;(all_goals with_reducible rfl))):P:=h
theorem rM{P:Prop}(h:P:=by(intro W hW;have hcb:=fq hW bn hcb;have hcd:=fq hW wY hcd;go_simp;(all_goals with_reducible rfl))):P:=h
theorem uO{P:Prop}(h:P:=by(intro W hW;have hcb:=fq hW bn hcb;have nO:=fq hW Ug nO;go_simp;(all_goals with_reducible rfl))):P:=h
theorem Bo{P:Prop}(h:P:=by(intro W hW;have hcb:=fq hW bn hcb;have gL:=fq hW hlx gL;go_simp;(all_goals with_reducible rfl))):P:=h
theorem IY{P:Prop}(h:P:=by(intro W hW;have hcb:=fq hW bn hcb;have LV:=fq hW vT LV;go_simp;(all_goals with_reducible rfl))):P:=h
theorem aic{P:Prop}(h:P:=by(intro W hW;have hcb:=fq hW bn hcb;have hcf:=fq hW hlf hcf;go_simp;(all_goals with_reducible rfl))):P:=h
theorem aib{P:Prop}(h:P:=by(intro W hW;have hcb:=fq hW bn hcb;have hcc:=fq hW hlc hcc;go_simp;(all_goals with_reducible rfl))):P:=h
theorem IX{P:Prop}(h:P:=by intro x hx;simp only[List.mem_cons,List.not_mem_nil,or_false] at hx;rcases hx with rfl|rfl|rfl<;>rfl):P:=h
theorem aia{P:Prop}(h:P:=by rw[show(stV u8 y8).cells=xC u8 y8.1 (sx y8.2.1 y8.2.2) from rfl,Array.getElem?_toList,zV,hyw]):P:=h
theorem acs{P:Prop}(h:P:=by rw[show kD c5=.agg (fB c5) from rfl,iV c5];simp[results,Tryz.results113,go_sem,LG]):P:=h
theorem ah'{P:Prop}(h:P:=by rw[show kD c5=.agg (fB c5) from rfl,iV c5];simp[results,Tryz.results145,go_sem,hc7]):P:=h
theorem Ng{P:Prop}(h:P:=by first|exact Nat.le_refl _|exact Below.size ‹Below w9.heap.size w9 w9.drew›|exact(hS.1).size):P:=h
theorem Nf{P:Prop}(h:P:=by first|exact Nat.le_refl _|exact Below.size ‹Below wC.heap.size wC wC.drew›|exact(hS.1).size):P:=h
theorem acr{P:Prop}(h:P:=by rw[show kD c=.agg (fB c) from rfl,iV c];simp[results,Tryz.results113,go_sem,LG]):P:=h
theorem ah_{P:Prop}(h:P:=by rw[←bR];exact HW4.out.grown ((HW4.out.box.set 17 _).cast (B_ _ _ _ _)) (aO _ _ _ _)):P:=h
theorem bY{P:Prop}(h:P:=by rw[List.getD_eq_getElem?_getD,List.getElem?_eq_getElem (by omega)];exact List.getElem_mem _):P:=h
theorem Nc{P:Prop}(h:P:=by first|exact Nat.le_refl _|exact Below.size ‹Below w9.heap.size w9 wB›|exact(hS.1).size):P:=h
theorem Nb{P:Prop}(h:P:=by first|exact Nat.le_refl _|exact Below.size ‹Below w9.heap.size w9 wA›|exact(hS.1).size):P:=h
theorem Na{P:Prop}(h:P:=by first|exact Nat.le_refl _|exact Below.size ‹Below wC.heap.size wC wB›|exact(hS.1).size):P:=h
theorem M_{P:Prop}(h:P:=by first|exact Nat.le_refl _|exact Below.size ‹Below wC.heap.size wC wA›|exact(hS.1).size):P:=h
theorem ah8{P:Prop}(h:P:=by first|(first|with_reducible rfl|rfl|(trace "2";simp[Act.eval,Act.put]))|fail):P:=h
theorem ah7{P:Prop}(h:P:=by first|(first|with_reducible rfl|rfl|(trace "3";simp[Act.eval,Act.put]))|fail):P:=h
theorem ah6{P:Prop}(h:P:=by simp only[bQ] at*;have:=hbm.size;first|omega|(have:=yT.size;omega)):P:=h
theorem aco{P:Prop}(h:P:=by have:=Below.size ‹Below w2.heap.size w2 w2.drew›;simp only[bQ] at*;omega):P:=h
theorem ah5{P:Prop}(h:P:=by(intro W hW;have hcb:=fq hW amO hcb;go_simp;(all_goals with_reducible rfl))):P:=h
theorem sQ{P:Prop}(h:P:=by(intro W hW;have hcb:=fq hW bn hcb;go_simp;(all_goals with_reducible rfl))):P:=h
theorem ah4{P:Prop}(h:P:=by(intro W hW;have gL:=fq hW hlx gL;go_simp;(all_goals with_reducible rfl))):P:=h
theorem ah3{P:Prop}(h:P:=by first|exact Nat.le_refl _|exact Below.size ‹Below rT.heap.size rT rT.drew›):P:=h
theorem uN{P:Prop}(h:P:=by(intro W hW;(have nO:=hW.rules.1);go_simp;(all_goals with_reducible rfl))):P:=h
theorem M8{P:Prop}(h:P:=by first|exact Nat.le_refl _|exact Below.size ‹Below w2.heap.size w2 w2.drew›):P:=h
theorem XK{P:Prop}(h:P:=by first|exact Nat.le_refl _|exact Below.size ‹Below w0.heap.size w0 w0.drew›):P:=h
theorem ah1{P:Prop}(h:P:=by first|exact Nat.le_refl _|exact Below.size ‹Below rT.heap.size rT AX›):P:=h
theorem ah0{P:Prop}(h:P:=by rw[show(i:Int)+1-1=i by omega];exact IntWalk.i64_in _ (by omega)):P:=h
theorem ahZ{P:Prop}(h:P:=by first|exact Nat.le_refl _|exact Below.size ‹Below w0.heap.size w0 AX›):P:=h
theorem ahY{P:Prop}(h:P:=by unfold rR;rw[Int.toNat_natCast,List.getD_eq_getElem?_getD,yT];rfl):P:=h
theorem XI{P:Prop}(h:P:=by first|exact Nat.le_refl _|exact Below.size ‹Below w2.heap.size w2 w4›):P:=h
theorem ahX{P:Prop}(h:P:=by first|exact Nat.le_refl _|exact Below.size ‹Below w2.heap.size w2 w3›):P:=h
theorem ahW{P:Prop}(h:P:=by first|exact Nat.le_refl _|exact Below.size ‹Below w0.heap.size w0 w3›):P:=h
theorem ahV{P:Prop}(h:P:=by unfold vY;rw[Int.toNat_natCast,List.getD_eq_getElem?_getD,hc];rfl):P:=h
theorem ahU{P:Prop}(h:P:=by rw[←bR,HE2.out];exact(KP7.out.set 12 _).cast (PV _ _ _ _ _)):P:=h
theorem ahT{P:Prop}(h:P:=by rw[show(fu p dx).seats.length=p.parts.length from Ov];simp):P:=h
theorem acj{P:Prop}(h:P:=by rw[←bR];exact aB (aO _ _ _ _) (aO _ _ _ _)):P:=h
theorem XH{P:Prop}(h:P:=by intro c hc;simp at hc;rcases hc with rfl|rfl|rfl|rfl<;>rfl):P:=h
theorem FZ{P:Prop}(h:P:=by first|(first|omega|(simp only[dG];decide))|fail):P:=h
theorem gG{P:Prop}(h:P:=by first|(first|(solve|simp)|(simp;omega)|omega)|fail):P:=h
theorem Rm{P:Prop}(h:P:=by unfold IntKind.wrap;simp[IntKind.signed,IntKind.bits];omega):P:=h
theorem FY{P:Prop}(h:P:=by have:=hb3.size;simp only[bQ,eG];omega):P:=h
theorem acg{P:Prop}(h:P:=by have:=kV.size;simp only[bQ] at this;exact this):P:=h
theorem acf{P:Prop}(h:P:=by simp only[Value.ownBlock,Option.some.injEq] at hb;omega):P:=h
theorem ace{P:Prop}(h:P:=by unfold partAt;rw[List.getD_eq_getElem?_getD,hpt];rfl):P:=h
theorem acd{P:Prop}(h:P:=by rw[show Us.length=_ from o_.mo,HLX.out];omega):P:=h
theorem ahO{P:Prop}(h:P:=by have:=IU.out.iy c hc;have:=mq.size;omega):P:=h
theorem ahN{P:Prop}(h:P:=by first|omega|(simp only[World.size_alloc];omega)):P:=h
theorem ahL{P:Prop}(h:P:=by have:=Below.size ‹Below wr.heap.size wr w7›;omega):P:=h
theorem ahK{P:Prop}(h:P:=by have:=h.adT.P.len;rw[List.length_take];omega):P:=h
theorem ab'{P:Prop}(h:P:=by simp[results,Tryz.results206,go_sem,aku,akt]):P:=h
theorem b_{P:Prop}(h:P:=by first|assumption|exact absurd ‹_› (by decide)):P:=h
theorem tX{P:Prop}(h:P:=by first|(first|with_reducible rfl|rfl)|fail):P:=h
theorem adA{P:Prop}(h:P:=by simp[results,Tryz.results118,go_sem,hc2,hc3]):P:=h
theorem ady{P:Prop}(h:P:=by first|exact Uq.out|exact Uq.out.below hd8):P:=h
theorem oW{P:Prop}(h:P:=by obtain⟨y,_,rfl⟩:=List.mem_map.1 hx;rfl):P:=h
theorem lC{P:Prop}(h:P:=by(try have k2:=(ah hb1).out);exact bx):P:=h
theorem mW{P:Prop}(h:P:=by(try have k1:=(ah hb1).out);exact bx):P:=h
theorem mV{P:Prop}(h:P:=by(try have k3:=(ah hb1).out);exact bx):P:=h
theorem mU{P:Prop}(h:P:=by rw[Int.tmod_eq_emod_of_nonneg FR];omega):P:=h
theorem adp{P:Prop}(h:P:=by intro h;rw[h] at hNN;simp at hNN;omega):P:=h
theorem ado{P:Prop}(h:P:=by(have kk:=KY3.out);rw[←bR];exact bx):P:=h
theorem Jq{P:Prop}(h:P:=by(have kk:=K3.out);rw[←bR];exact bx):P:=h
theorem Vx{P:Prop}(h:P:=by(have kk:=K4.out);rw[←bR];exact bx):P:=h
theorem Vw{P:Prop}(h:P:=by have:=hb0.size;have:=hg3.size;omega):P:=h
theorem oV{P:Prop}(h:P:=by simp[results,Tryz.results114,go_sem]):P:=h
theorem uS{P:Prop}(h:P:=by simp[results,Tryz.results139,go_sem]):P:=h
theorem Jm{P:Prop}(h:P:=by simp[results,Tryz.results200,go_sem]):P:=h
theorem Jl{P:Prop}(h:P:=by simp[results,Tryz.results172,go_sem]):P:=h
theorem Pk{P:Prop}(h:P:=by simp[results,Tryz.results149,go_sem]):P:=h
theorem Pj{P:Prop}(h:P:=by simp[results,Tryz.results167,go_sem]):P:=h
theorem Ph{P:Prop}(h:P:=by simp[results,Tryz.results168,go_sem]):P:=h
theorem Pg{P:Prop}(h:P:=by simp[results,Tryz.results169,go_sem]):P:=h
theorem O_{P:Prop}(h:P:=by simp[results,Tryz.results171,go_sem]):P:=h
theorem Vt{P:Prop}(h:P:=by simp[results,Tryz.results116,go_sem]):P:=h
theorem Vs{P:Prop}(h:P:=by simp[results,Tryz.results111,go_sem]):P:=h
theorem Vr{P:Prop}(h:P:=by simp[results,Tryz.results163,go_sem]):P:=h
theorem adi{P:Prop}(h:P:=by simp[results,Tryz.results140,go_sem]):P:=h
theorem adh{P:Prop}(h:P:=by simp[results,Tryz.results142,go_sem]):P:=h
theorem adg{P:Prop}(h:P:=by simp[results,Tryz.results201,go_sem]):P:=h
theorem adf{P:Prop}(h:P:=by simp[results,Tryz.results204,go_sem]):P:=h
theorem ade{P:Prop}(h:P:=by simp[results,Tryz.results144,go_sem]):P:=h
theorem adb{P:Prop}(h:P:=by simp[results,Tryz.results143,go_sem]):P:=h
theorem ada{P:Prop}(h:P:=by simp[results,Tryz.results170,go_sem]):P:=h
theorem ac'{P:Prop}(h:P:=by simp[results,Tryz.results118,go_sem]):P:=h
theorem ac_{P:Prop}(h:P:=by simpa only[Nat.zero_add] using Eu.out):P:=h
theorem ac9{P:Prop}(h:P:=by simpa only[Nat.zero_add] using FV.out):P:=h
theorem qX{P:Prop}(h:P:=by simp[results,Tryz.results52,go_sem]):P:=h
theorem zU{P:Prop}(h:P:=by rw[lH];show 17+6<26;decide):P:=h
theorem Jj{P:Prop}(h:P:=by simp[results,Tryz.results91,go_sem]):P:=h
theorem O9{P:Prop}(h:P:=by show w.heap.size≤w1.heap.size;omega):P:=h
theorem Vq{P:Prop}(h:P:=by simp[results,Tryz.results84,go_sem]):P:=h
theorem Vp{P:Prop}(h:P:=by simp[results,Tryz.results74,go_sem]):P:=h
theorem qj{P:Prop}(h:P:=by rw[lH];show _≤17+6;decide):P:=h
theorem qh{P:Prop}(h:P:=by rw[lH];show _<17+6;decide):P:=h
theorem Vn{P:Prop}(h:P:=by simpa using hc2 0 (.int .i64 x.1) rfl):P:=h
theorem Vl{P:Prop}(h:P:=by simpa using hc 0 (.int .i64 x.1) rfl):P:=h
theorem qg{P:Prop}(h:P:=by rw[←bR];exact aO _ _ _ _):P:=h
theorem Vk{P:Prop}(h:P:=by simp only[List.length_cons];omega):P:=h
theorem Vj{P:Prop}(h:P:=by simp[Value.ownBlock] at hc;omega):P:=h
theorem zT{P:Prop}(h:P:=by rw[List.getElem?_map,hx];rfl):P:=h
theorem EO{P:Prop}(h:P:=by simp only[bQ];omega):P:=h
theorem O4{P:Prop}(h:P:=by first|exact hS|exact hS.1):P:=h
theorem EN{P:Prop}(h:P:=by rw[sW Am];omega):P:=h
theorem Vf{P:Prop}(h:P:=by rw[aT.jI];omega):P:=h
theorem Vd{P:Prop}(h:P:=by rw[hr.mo];exact hwl):P:=h
theorem Jf{P:Prop}(h:P:=by intro x hx;cases hx):P:=h
theorem OX{P:Prop}(h:P:=by rw[J5];omega):P:=h
theorem OW{P:Prop}(h:P:=by rw[J4];omega):P:=h
theorem OV{P:Prop}(h:P:=by have:=hk.P;omega):P:=h
theorem U_{P:Prop}(h:P:=by rw[kY];omega):P:=h
theorem U9{P:Prop}(h:P:=by have:=hk.L;omega):P:=h
theorem wQ{P:Prop}(h:P:=by rw[gT,gT]):P:=h
theorem yw{P:Prop}(h:P:=by rw[lH];rfl):P:=h
theorem OT{P:Prop}(h:P:=by simp;try omega):P:=h
theorem uR{P:Prop}(h:P:=by simp[h2]):P:=h
theorem EK{P:Prop}(h:P:=by simp[h4]):P:=h
