/- Part 33 of 50 of the proof of topWindows_holds. Conditions: see each. -/
import Derived.Test.YtgmodehldmahiaaGreatDoorW14
import Derived.Test.YtgmodehldmahiaaGreatDoorW28
import Derived.Test.YtgmodehldmahiaaGreatDoorW32
set_option linter.unusedVariables false
set_option linter.unusedSimpArgs false
set_option maxRecDepth 8192
set_option maxHeartbeats 40000000
namespace Go.Proofs.YtgmodehldmahiaaGreatDoor
open Go Go.RowKit Go.Tm
attribute [local go_sem] fB fA fu dR dA dQ dP dO dN dM dL dK dJ dI dH dG dF iq ig h_ g_ gZ gY gX gN gW gV fF fE fD fC eY eX eU
noncomputable def BU(k:Kn):Kn:={k with L:=(Turn.tL k.L k.left).1,left:=(Turn.tL k.L k.left).2}
noncomputable def uJ(p:Tab.bV):Tab.bV:=yK p.pid p.par p.st {pq p with c:=(jZ (pq p).c (pq p).mem).1,mem:=(jZ (pq p).c (pq p).mem).2.1}
noncomputable def Ag(p:Tab.bV):Int:=(jZ (pq p).c (pq p).mem).2.2
noncomputable def su(k:Kn)(p:Tab.bV):Kn:={k with P:=Tab.lW k.P (uJ p)}
noncomputable def IU(k:Kn)(pid:Int)(p:Tab.bV):Kn:=
 if Ag p=0 then BU (su k p)
 else if Ag p=3 then(if(zZ (su k p) (uJ p) (pX (jZ (pq p).c (pq p).mem).1)).2 then BU (zZ (su k p) (uJ p) (pX (jZ (pq p).c (pq p).mem).1)).1 else(zZ (su k p) (uJ p) (pX (jZ (pq p).c (pq p).mem).1)).1)
 else mW k pid (128+Ag p) (Ag p)
noncomputable def n_(k:Kn):Kn:=if k.L=[] then k else IU k (k.L.headD 0) (Tab.bD k.P (k.L.headD 0)).1
theorem AP(p:Tab.bV):(pq p).mem.size≤9223372036854775807:=(iY p).mem
theorem SY(p:Tab.bV):Pf.Ok {pq p with c:=(jZ (pq p).c (pq p).mem).1,mem:=(jZ (pq p).c (pq p).mem).2.1}:=
 {iY p with c:=(vk (iY p).c (AP p)).1,mem:=by show ByteArray.size _≤_;rw[(vk (iY p).c (AP p)).2.1];exact(iY p).mem}
theorem agO(p:Tab.bV):Tab.dS (uJ p)=gu p.pid p.par p.st {pq p with c:=(jZ (pq p).c (pq p).mem).1,mem:=(jZ (pq p).c (pq p).mem).2.1}:=C_ (SY p)
theorem V4(b:Nat)(s:Ks)(k:Kn)(w:World)(hw:KW w b s k)(hL:k.L=[]):
  Calls Tryz.prog 91 #[.pointer (some ⟨b,0,none⟩)] w fun en w'=>en=.returned (.tuple #[])∧KS w b s k w' k∧w.grownBy w' (some b):=by
 have HF:=Lib.hid (fun W h=>Turn.uz s.L k.L k.left W h)
 have hd:decide (k.L≠[])=false:=by simp[hL]
 rw[hd] at HF
 have HW:=Lib.hid hw
 have tY:=Below.refl w.heap.size w
 ((try clear hcb bn hlb hnb hmb);(have aW:=HW.out.below tY);(obtain⟨hcb,bn,hlb,hnb,hmb⟩:=aC.rules aW.box);(have jV:=Lib.hid aW);(clear aW))
 clear hw hd hL
 go_enter Tryz.func91,Tryz.ntmps91
 go_wp2_with fail
 with_reducible refine(HF.out _ jV.out.kr.L).mono ?_
 rintro en w1 ⟨rfl,hb1⟩
 go_wp2_with fail
 exact bodyPost_ret (v:= .tuple #[]) E_ rfl ⟨rfl,⟨s,HW.out.below hb1,fun _ _ _ h=>h⟩,ay hb1 _⟩
theorem V3(b:Nat)(s:Ks)(k:Kn)(w:World)(hw:KW w b s k)(hk:Fit k)(hT:iV w)(hL:k.L≠[])(pid:Int)(p:Tab.bV)(ajU:k.L.headD 0=pid)(hp:(Tab.bD k.P pid).1=p)
  (hk1:Fit (su k p))(hf:Ag p=3→Kk (su k p) (uJ p) (pX (jZ (pq p).c (pq p).mem).1))(hl2:Ag p=3→(zZ (su k p) (uJ p) (pX (jZ (pq p).c (pq p).mem).1)).1.L.length≤1000000000):
  Calls Tryz.prog 91 #[.pointer (some ⟨b,0,none⟩)] w fun en w'=>en=.returned (.tuple #[])∧KS w b s k w' (IU k pid p)∧w.grownBy w' (some b):=by
 have HF:=Lib.hid (fun W h=>Turn.uz s.L k.L k.left W h)
 have hd:decide (k.L≠[])=true:=by simp[hL]
 rw[hd,ajU] at HF
 have HFI:=Lib.hid (fun W h=>Tab.lN s.P k.P pid W h)
 generalize Tab.bD k.P pid=fs at*
 obtain⟨p0,ok⟩:=fs
 dsimp only at hp HFI
 subst hp
 obtain⟨y,hy⟩:∃y,y=IU k pid p0:=⟨_,rfl⟩
 rw[←hy]
 unfold IU at hy
 have hsp:=vk (iY p0).c (AP p0)
 have hrc:=agO p0
 have ajR:=SY p0
 have afP:=Nh hsp.1
 rw[show Ag p0=(jZ (pq p0).c (pq p0).mem).2.2 from rfl] at hy hf hl2
 have HSU:=Lib.hid (fun(k:Kn) (s:Ks) W h hl=>Turn.U3 s.L k.L k.left W h hl)
 have aiC:=Lib.hid (fun v W h=>Tab.S9 v k.P (uJ p0) W h JO)
 have hpc:=sW p0
 generalize hq:pq p0=q at*
 generalize hst:jZ q.c q.mem=st at*
 obtain⟨c1,m1,t⟩:=st
 dsimp only at hy hsp hrc ajR hf afP hl2
 obtain⟨hc1,hms,ht,hS⟩:=hsp
 unfold StepT at hS
 have HST:=Lib.hid hS
 have Ec:=Lib.hid (fun W (h:Below w.heap.size w W)=>hT.below h)
 have HY:=Lib.hid hy
 have HEN:=Lib.hid (fun s W h=>FY b s k pid (128+t) t W h hk (by rcases ht with rfl|rfl|rfl|rfl<;>decide))
 have HAS:=Lib.hid (fun h3 s W h=>aa' b s (su k p0) (uJ p0) (pX c1) W h hk1 afP (hf h3))
 unfold mR at HAS
 have hpv:=Tab.fq p0
 have hrv:=Tab.fq (uJ p0)
 have hLk:=hk.L
 have HW:=Lib.hid hw
 have HC1:=Lib.hid hc1
 have tY:=Below.refl w.heap.size w
 have hlt:=hw.lt
 ((try clear hcb bn hlb hnb hmb);(have aW:=HW.out.below tY);(obtain⟨hcb,bn,hlb,hnb,hmb⟩:=aC.rules aW.box);(have jV:=Lib.hid aW);(clear aW))
 rw[show Tab.je p0=.agg (Tab.dS p0) from rfl,hpc] at HFI hpv
 clear hw hd hL hT hy hf hS afP hk1
 go_enter Tryz.func91,Tryz.ntmps91
 go_wp2_with fail
 with_reducible refine(HF.out _ jV.out.kr.L).mono ?_
 rintro en w1 ⟨rfl,hb1⟩
 ((try clear hcb bn hlb hnb hmb);(have aW:=jV.out.below hb1);(obtain⟨hcb,bn,hlb,hnb,hmb⟩:=aC.rules aW.box);(have nL:=Lib.hid aW);(clear aW))
 go_wp2_with fail
 with_reducible refine(HFI.out _ nL.out.kr.P).mono ?_
 rintro en w2 ⟨rfl,hb2⟩
 have hbw2:=hb1.trans (hb2.mono hb1.size)
 ((try clear hcb bn hlb hnb hmb);(have aW:=nL.out.below hb2);(obtain⟨hcb,bn,hlb,hnb,hmb⟩:=aC.rules aW.box);(have qg:=Lib.hid aW);(clear aW))
 have hz2:=hbw2.size
 have hcv:=gQ q.c
 have hcp:=aC.cpu (aC.new w2 (gu p0.pid p0.par p0.st q) 126)
 go_wp2_with(first|((with_reducible refine bO 126 ?_);(refine aU rfl 126 _ _ rfl (gu p0.pid p0.par p0.st q) Tab.aX (hpv) aF ?_ ?_ ?_;(exact aG);(exact aG)))|((with_reducible refine bS 119 ?_);(refine aO rfl 119 _ rfl w2.heap.size (3) ?_ (jm q.c) iC (hcv) hcp ?_;(exact aG)))|fail)
 with_reducible refine(HST.out _ (Ec.out _ (hbw2.alloc hbw2.size _))).mono ?_
 rintro en w3 ⟨rfl,hb3⟩
 have jO:Below w2.heap.size w2 w3:=aD
 have fJ:=hbw2.trans (jO.mono hbw2.size)
 have yN:=Lib.hid ((aC.new w2 (gu p0.pid p0.par p0.st q) 126).below hb3 aI)
 have hz3:=hb3.size
 simp only[World.size_alloc] at hz3
 ((try clear hcb bn hlb hnb hmb);(have aW:=qg.out.below jO);(obtain⟨hcb,bn,hlb,hnb,hmb⟩:=aC.rules aW.box);(have mM:=Lib.hid aW);(clear aW))
 have afT:=gQ c1
 have hpz:=rV p0.pid p0.par p0.st q
 have ajT:=rV p0.pid p0.par p0.st {q with c:=c1}
 clear hcp hb3 jO jV nL qg
 go_upto_block 0 with(first|((with_reducible refine bO 119 ?_);(refine aU rfl 119 _ _ rfl (dY c1) iC (afT) aF ?_ ?_ ?_;(exact aG);(exact aG)))|((with_reducible refine bS 119 ?_);(refine aJ rfl 119 _ rfl (dY c1) iC (afT) (aC.new w3 (dY c1) 119) ?_ ?_;(exact aG)))|((with_reducible refine bO 119 ?_);(refine aN rfl 119 _ _ rfl (yN.out.alloc _) (jm c1) iC (afT) ?_ (_) (FU c1) ?_ ?_ ?_;(exact fK);(exact aG);(exact aG);(intro w4 Oy hg4 vT hb4;(have OV:=Lib.hid Oy);(have KC4:=Lib.hid ((aC.new w3 (dY c1) 119).grown hg4 aR));(have af8:Below w.heap.size w w4:=(fJ.alloc fJ.size _).trans (hb4.mono ah));(obtain⟨hc4,xY,hl4,DL,Ir⟩:=Oy.rules);(clear Oy))))|fail)
 generalize bN:World.setCell _ _ _=w5
 have Bu:Hid (aC w5 w2.heap.size (Tab.dS (uJ p0)) 126):=Lib.hid (by rw[←bN,hrc];exact(OV.out.set 12 _).cast (Ky _ _ _ _ _))
 have KC5:Hid (aC w5 w3.heap.size (dY c1) 119):=Lib.hid (by rw[←bN];exact KC4.out.other _ _ aR)
 have hb5:Below w.heap.size w w5:=by rw[←bN];exact af8.setCell aR _
 clear bN OV KC4 hc4 xY hl4 DL Ir yN hcv hpz ajT hrc
 have GY:=hb5.size
 ((try clear hcb bn hlb hnb hmb);(have aW:=HW.out.below hb5);(obtain⟨hcb,bn,hlb,hnb,hmb⟩:=aC.rules aW.box);(have pU:=Lib.hid aW);(clear aW))
 have hg5:=ay hb5 (some b)
 have HG5:=Lib.hid hg5
 rcases ht with rfl|rfl|rfl|rfl
 ·have hy:=HY.out
  rw[if_pos rfl] at hy
  go_wp2_with fail
  ((refine aY (fun W=>Below w5.heap.size w5 W) (fun i=>decide (i<11)) aj ?_);
          (have hS:Below w5.heap.size w5 w5.drew:=(Below.refl _ _).drew);
          (refine tk 0 52 hS ?_);
          (refine tk 1 53 hS ?_);
          (refine tk 2 54 hS ?_);
          (refine tk 3 55 hS ?_);
          (refine tk 4 56 hS ?_);
          (refine tk 5 57 hS ?_ (hy:=Or.inl ⟨aF,wu⟩));
          (refine cO 6 (oi:=⟨some 58,_,_,_,_,_⟩) rfl aj sx hS (dx 126 _ rfl (Tab.dS (uJ p0)) Tab.aX hrv aF bg (fun W hs=>Bu.out.below hs Bu.out.lt)) ?_);
          (try simp only[pt]);
          (refine aK 7 (oi:=⟨some 59,_,_,_,_,_⟩) rfl aj rfl (fun K hK=>?_));
          (go_simp;(with_reducible refine(aiC.out _ _ (pU.out.kr.P.below hS)).mono ?_);rintro en w6 ⟨v6,rfl,hs6,hb6⟩;(have hS:=hS.trans (Below.mono hb6 hS.size));(obtain⟨a6,m6,n6,rfl⟩:=hs6.is);(try go_wp2_with fail));
          (refine hK.out _ _ (fun _=>bF) ?_;clear hK K);
          (try simp only[pt]);
          (refine tk 8 60 hS ?_);
          (refine tk 9 61 hS ?_);
          (refine tk 10 62 hS ?_);
          (refine aT 11 aj ?_ rfl);
          (simp only[List.toList_toArray,List.drop_succ_cons,List.drop_zero]))
  ((try clear hcb bn hlb hnb hmb);(have aW:=pU.out.below hS);(obtain⟨hcb,bn,hlb,hnb,hmb⟩:=aC.rules aW.box);(have Ho:=Lib.hid aW);(clear aW))
  have H6:=Lib.hid hs6
  clear hs6
  go_wp2_with(first|((with_reducible refine Zv (some 82) ?_);fail)|fail)
  generalize bN:World.setCell _ _ _=w7
  have kw7:KW w7 b {s with P:= .slice a6 m6 n6} (su k p0):=by rw[←bN];exact Ho.out.zP H6.out
  have vC:w6.grownBy w7 (some b):=nA
  have HG7:=Lib.hid (aA (aA HG5.out (ay hS (some b))) vC)
  have zL:=Lib.hid kw7
  clear bN kw7 vC hcb bn hlb hnb hmb
  (obtain⟨hcb,bn,hlb,hnb,hmb⟩:=aC.rules zL.out.box)
  have Io:=HG7.out.size
  go_wp2_with fail
  have JC:Sl w7 false 1 s.L (ints k.L):=by
   have hh:=zL.out.kr.L
   unfold su at hh
   exact hh
  with_reducible refine(HSU.out k s w7 JC ah).mono ?_
  rintro en w8 ⟨v8,rfl,DK,R8,jU⟩
  obtain⟨a8,m8,n8,rfl⟩:=DK.is
  have ha8:=R8.apart zL.out.aL zL.out.lt
  have vW:=fun(B:Nat) (hB:B<w7.heap.size) (h:Apart B s.L (ints k.L))=>R8.apart (B:=B) h hB
  ((try clear hcb bn hlb hnb hmb);(have aW:=zL.out.below jU);(obtain⟨hcb,bn,hlb,hnb,hmb⟩:=aC.rules aW.box);(have OT:=Lib.hid aW);(clear aW))
  have H8:=Lib.hid DK
  have HA8:=Lib.hid ha8
  have HR8:=Lib.hid vW
  clear DK R8 ha8 vW
  go_wp2_with fail
  have hw9:=(OT.out.Ah H8.out HA8.out).set_left (Turn.tL (su k p0).L (su k p0).left).2
  have hfin:j3 w b s k {s with P:= .slice a6 m6 n6,L:= .slice a8 m8 n8} (BU (su k p0)):=fun B hB hne h=>⟨HR8.out B ah h.1,h.2⟩
  subst hy
  exact bodyPost_end (v:= .tuple #[]) E_ rfl ⟨rfl,⟨_,hw9,hfin⟩,aA HG7.out (aA (ay jU (some b)) (aA (aM _ _ _ _) (aM _ _ _ _)))⟩
 rotate_left 2
 ·have hy:=HY.out
  rw[if_neg aB,if_pos rfl] at hy
  have aiK:=Lib.hid (HAS.out rfl)
  have hl3:=hl2 rfl
  generalize zZ (su k p0) (uJ p0) (pX c1)=ak at*
  obtain⟨k2,on⟩:=ak
  dsimp only at hy aiK hl3
  go_wp2_with fail
  ((refine aY (fun W=>Below w5.heap.size w5 W) (fun i=>decide (i<11)) aj ?_);
          (have hS:Below w5.heap.size w5 w5.drew:=(Below.refl _ _).drew);
          (refine tk 0 65 hS ?_);
          (refine tk 1 66 hS ?_);
          (refine tk 2 67 hS ?_);
          (refine tk 3 68 hS ?_);
          (refine tk 4 69 hS ?_);
          (refine tk 5 70 hS ?_ (hy:=Or.inl ⟨aF,wu⟩));
          (refine cO 6 (oi:=⟨some 71,_,_,_,_,_⟩) rfl aj sx hS (dx 126 _ rfl (Tab.dS (uJ p0)) Tab.aX hrv aF bg (fun W hs=>Bu.out.below hs Bu.out.lt)) ?_);
          (try simp only[pt]);
          (refine aK 7 (oi:=⟨some 72,_,_,_,_,_⟩) rfl aj rfl (fun K hK=>?_));
          (go_simp;(with_reducible refine(aiC.out _ _ (pU.out.kr.P.below hS)).mono ?_);rintro en w6 ⟨v6,rfl,hs6,hb6⟩;(have hS:=hS.trans (Below.mono hb6 hS.size));(obtain⟨a6,m6,n6,rfl⟩:=hs6.is);(try go_wp2_with fail));
          (refine hK.out _ _ (fun _=>bF) ?_;clear hK K);
          (try simp only[pt]);
          (refine tk 8 73 hS ?_);
          (refine tk 9 74 hS ?_);
          (refine tk 10 75 hS ?_);
          (refine aT 11 aj ?_ rfl);
          (simp only[List.toList_toArray,List.drop_succ_cons,List.drop_zero]))
  ((try clear hcb bn hlb hnb hmb);(have aW:=pU.out.below hS);(obtain⟨hcb,bn,hlb,hnb,hmb⟩:=aC.rules aW.box);(have Ho:=Lib.hid aW);(clear aW))
  have H6:=Lib.hid hs6
  clear hs6
  go_wp2_with(first|((with_reducible refine Zv (some 76) ?_);fail)|fail)
  generalize bN:World.setCell _ _ _=w7
  have kw7:KW w7 b {s with P:= .slice a6 m6 n6} (su k p0):=by rw[←bN];exact Ho.out.zP H6.out
  have vC:w6.grownBy w7 (some b):=nA
  have HG7:=Lib.hid (aA (aA HG5.out (ay hS (some b))) vC)
  have zL:=Lib.hid kw7
  have afN:=vC
  clear bN kw7 vC hcb bn hlb hnb hmb
  (obtain⟨hcb,bn,hlb,hnb,hmb⟩:=aC.rules zL.out.box)
  have Io:=HG7.out.size
  have ak8:w5.heap.size≤w7.heap.size:=by have:=hS.size;have:=afN.size;omega
  have KP7:=Lib.hid (((Bu.out.below hS Bu.out.lt).grown afN aR))
  have KC7:=Lib.hid (((KC5.out.below hS KC5.out.lt).grown afN aR))
  ((refine aY (fun W=>Below w7.heap.size w7 W) (fun i=>decide (i<4)) aj ?_);
          (have hS8:Below w7.heap.size w7 w7.drew:=(Below.refl _ _).drew);
          (refine tk 0 76 hS8 ?_);
          (refine cO 1 (oi:=⟨some 77,_,_,_,_,_⟩) rfl aj sx hS8 (dx 126 _ rfl (Tab.dS (uJ p0)) Tab.aX hrv aF bg (fun W hs=>KP7.out.below hs KP7.out.lt)) ?_);
          (try simp only[pt]);
          (refine cO 2 (oi:=⟨some 78,_,_,_,_,_⟩) rfl aj sx hS8 (dx 119 _ rfl (dY c1) iC (gQ c1) aF bg (fun W hs=>KC7.out.below hs KC7.out.lt)) ?_);
          (try simp only[pt]);
          (refine aK 3 (oi:=⟨some 79,_,_,_,_,_⟩) rfl aj rfl (fun K hK=>?_));
          (go_simp;(with_reducible refine(ag4 c1 _ HC1.out.len).mono ?_);rintro en w8 ⟨rfl,jU⟩;(have hS8:=hS8.trans (Below.mono jU hS8.size));skip;(try go_wp2_with fail));
          (refine hK.out _ _ (fun _=>bF) ?_;clear hK K);
          (try simp only[pt]);
          (refine aT 4 aj ?_ rfl);
          (simp only[List.toList_toArray,List.drop_succ_cons,List.drop_zero]))
  go_wp2_with fail
  with_reducible refine(aiK.out _ _ (zL.out.below hS8)).mono ?_
  rintro en w9 ⟨rfl,⟨s9,yL,ahA⟩,lg⟩
  have ala:=hS8.size
  have hG9:=aA (ay hS8 (some b)) lg
  have aix:=Lib.hid (show j3 w b s k s9 k2 from fun B hB hne h=>ahA B ah hne (by unfold su;exact h))
  have Br:=Lib.hid yL
  have HG9:=Lib.hid (aA HG7.out hG9)
  have Lm:=HG9.out.size
  have ake:=Below.refl w9.heap.size w9
  clear ahA yL lg hG9
  ((try clear hcb bn hlb hnb hmb);(have aW:=Br.out.below ake);(obtain⟨hcb,bn,hlb,hnb,hmb⟩:=aC.rules aW.box);(have aiq:=Lib.hid aW);(clear aW))
  cases on
  ·simp only[Bool.false_eq_true,if_false] at hy
   subst hy
   go_wp2_with fail
   exact bodyPost_ret (v:= .tuple #[]) E_ rfl ⟨rfl,⟨s9,Br.out,aix.out⟩,HG9.out⟩
  ·simp only[if_true] at hy
   subst hy
   go_wp2_with fail
   with_reducible refine(HSU.out k2 s9 w9 Br.out.kr.L ah).mono ?_
   rintro en uH ⟨v8,rfl,DK,R8,jU⟩
   obtain⟨a8,m8,n8,rfl⟩:=DK.is
   have ha8:=R8.apart Br.out.aL Br.out.lt
   have vW:=fun(B:Nat) (hB:B<w9.heap.size) (h:Apart B s9.L (ints k2.L))=>R8.apart (B:=B) h hB
   ((try clear hcb bn hlb hnb hmb);(have aW:=Br.out.below jU);(obtain⟨hcb,bn,hlb,hnb,hmb⟩:=aC.rules aW.box);(have H_:=Lib.hid aW);(clear aW))
   have H8:=Lib.hid DK
   have HA8:=Lib.hid ha8
   have HR8:=Lib.hid vW
   clear DK R8 ha8 vW
   go_wp2_with fail
   have hw9:=(H_.out.Ah H8.out HA8.out).set_left (Turn.tL k2.L k2.left).2
   have hfin:j3 w b s k {s9 with L:= .slice a8 m8 n8} (BU k2):=fun B hB hne h=>by
    have h1:=aix.out B hB hne h
    exact⟨HR8.out B ah h1.1,h1.2⟩
   exact bodyPost_end (v:= .tuple #[]) E_ rfl ⟨rfl,⟨_,hw9,hfin⟩,aA HG9.out (aA (ay jU (some b)) (aA (aM _ _ _ _) (aM _ _ _ _)))⟩
 ·have hy:=HY.out
  rw[if_neg aB,if_neg aB] at hy
  rw[show(128:Int)+1=129 from rfl] at hy HEN
  exact aes
 ·have hy:=HY.out
  rw[if_neg aB,if_neg aB] at hy
  rw[show(128:Int)+2=130 from rfl] at hy HEN
  exact aes
structure KJ(k:Kn):Prop where
 ran:Fit (su k (Tab.bD k.P (k.L.headD 0)).1)
 ask:Ag (Tab.bD k.P (k.L.headD 0)).1=3→Kk (su k (Tab.bD k.P (k.L.headD 0)).1) (uJ (Tab.bD k.P (k.L.headD 0)).1) (pX (jZ (pq (Tab.bD k.P (k.L.headD 0)).1).c (pq (Tab.bD k.P (k.L.headD 0)).1).mem).1)
 L:Ag (Tab.bD k.P (k.L.headD 0)).1=3→(zZ (su k (Tab.bD k.P (k.L.headD 0)).1) (uJ (Tab.bD k.P (k.L.headD 0)).1) (pX (jZ (pq (Tab.bD k.P (k.L.headD 0)).1).c (pq (Tab.bD k.P (k.L.headD 0)).1).mem).1)).1.L.length≤1000000000
theorem aaR(b:Nat)(s:Ks)(k:Kn)(w:World)(hw:KW w b s k)(hk:Fit k)(hT:iV w)(hf:k.L≠[]→KJ k):
  Calls Tryz.prog 91 #[.pointer (some ⟨b,0,none⟩)] w fun en w'=>en=.returned (.tuple #[])∧KS w b s k w' (n_ k)∧w.grownBy w' (some b):=by
 unfold n_
 by_cases hL:k.L=[]
 ·rw[if_pos hL];exact V4 b s k w hw hL
 ·rw[if_neg hL]
  exact V3 b s k w hw hk hT hL _ _ rfl rfl (hf hL).ran (hf hL).ask (hf hL).L
end Go.Proofs.YtgmodehldmahiaaGreatDoor
