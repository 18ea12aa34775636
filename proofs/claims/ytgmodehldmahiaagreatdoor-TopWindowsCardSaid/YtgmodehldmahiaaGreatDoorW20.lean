/- Part 20 of 50 of the proof of topWindows_holds. Conditions: see each. -/
import Derived.Test.YtgmodehldmahiaaGreatDoorW14
import Derived.Test.YtgmodehldmahiaaGreatDoorW17
import Derived.Test.YtgmodehldmahiaaGreatDoorW19
set_option linter.unusedVariables false
set_option linter.unusedSimpArgs false
set_option maxRecDepth 8192
set_option maxHeartbeats 40000000
section
namespace Go.Proofs.YtgmodehldmahiaaGreatDoor
open Go Go.RowKit Go.Tm
attribute [local go_sem] fB fA fu dR dA dQ dP dO dN dM dL dK dJ dI dH dG dF iq ig h_ g_ gZ gY gX gN gW gV fF fE fD fC eY eX eU
noncomputable def agc(p:Tab.bV)(r:Int):Tab.bV:=yK p.pid p.par 1 {pq p with c:=(pq p).c.set 0 r,x:=(0,0,0,0)}
noncomputable def bU(k:Kn)(p:Tab.bV)(x:nW)(v e:Int):Kn:=
 {k with P:=Tab.lW k.P (agc p (Call.qj e v)),tr:=k.tr++[(p.pid,x.1,Call.qj e v,k.now)]}
theorem fQ(b:Nat)(s:Ks)(k:Kn)(p:Tab.bV)(x:nW)(v e:Int)(w:World)(hw:KW w b s k)(hk:Fit k)(hv:cK (Call.qj e v)):
  Calls Tryz.prog 110 #[.pointer (some ⟨b,0,none⟩),Tab.je p,sP x,.int .u32 v,.int .i64 e] w fun en w'=>en=.returned (.tuple #[])∧KS w b s k w' (bU k p x v e)∧w.grownBy w' (some b):=by
 have HW:=Lib.hid hw
 have hq:=iY p
 rw[show Tab.je p=.agg (gu p.pid p.par p.st (pq p)) from congrArg Value.agg (sW p)]
 unfold bU agc
 generalize hr:Call.qj e v=r at*
 generalize pq p=q at*
 obtain⟨pid,par,st,rest,hok⟩:=p
 dsimp only at*
 have hlt:=hw.lt
 have HB:=Lib.hid (fun W=>ahi q.c e v W hq.c.len)
 rw[hr] at HB
 have HV:=Lib.hid (fun W=>abP e v W)
 rw[hr] at HV
 have HQ:=Lib.hid hq
 clear hw hq hok rest hr
 have hv1:=gQ q.c
 have hc1:=fun o=>aC.cpu ((aC.new w (gu pid par st q) 126).alloc o)
 go_enter Tryz.func110,Tryz.ntmps110
 go_wp2_with(first|((with_reducible refine bS 119 ?_);(refine aO rfl 119 _ rfl w.heap.size (3) ?_ (jm q.c) iC (hv1) (hc1 _) ?_;(exact aG)))|fail)
 with_reducible refine(HB.out _).mono ?_
 rintro en w1 ⟨rfl,hb1⟩
 have hz1:=hb1.size
 simp only[World.size_alloc] at hz1
 (have b1:aC w1 w.heap.size (gu pid par st q) 126:=pW);(obtain⟨hc1,hf1,hl1,hn1,hm1⟩:=b1.rules);(have K1:=Lib.hid b1);(clear b1)
 (have b2:aC w1 (w.heap.size+1) #[.int .u32 x.1,.int .u32 x.2.1,.int .u32 x.2.2.1,.int .u32 x.2.2.2] 124:=vE);(obtain⟨hc2,hf2,hl2,hn2,hm2⟩:=b2.rules);(have K2:=Lib.hid b2);(clear b2)
 have bP:Below w.heap.size w w1:=aD
 have hv2:=gQ (q.c.set 0 r)
 have hsz:=rV pid par st q
 clear hb1 hc1
 go_wp2_with(first|((with_reducible refine bO 119 ?_);(refine aN rfl 119 _ _ rfl K1.out (jm (q.c.set 0 r)) iC (hv2) ?_ (_) (FU (q.c.set 0 r)) ?_ ?_ ?_;(exact fK);(exact aG);(exact aG);(intro w2 bp2 hg2 hz2 hb2;(obtain⟨hcp,hfp,hlp,hnp,hmp⟩:=bp2.rules);(have qU:=K2.out.grown hg2 aI);(have hbw2:Below w.heap.size w w2:=bP.trans hb2);(have zM:=Lib.hid bp2);(have OB:=Lib.hid qU);(clear bp2 qU hb2 hg2 hc1 hf1 hl1 hn1 hm1 hc2 hf2 hl2 hn2 hm2))))|fail)
 generalize hW3:World.setCell _ _ _=w3
 have bp3:aC w3 w.heap.size (gu pid par 1 {q with c:=q.c.set 0 r,x:=(0,0,0,0)}) 126:=by
  rw[←hW3];exact(((((zM.out.set 2 _).set 22 _).set 23 _).set 24 _).set 25 _).cast (by simp only[Qn,Tf,Te,Td,Tc])
 have OP:aC w3 (w.heap.size+1) #[.int .u32 x.1,.int .u32 x.2.1,.int .u32 x.2.2.1,.int .u32 x.2.2.2] 124:=by
  have kx:=OB.out
  rw[←hW3];exact bx
 have fJ:Below w.heap.size w w3:=by rw[←hW3];exact bl
 have CS:=HW.out.below fJ
 have Hq:Hid (Pf.Ok {q with c:=q.c.set 0 r,x:=(0,0,0,0)}):=Lib.hid {HQ.out with c:=HQ.out.c.set 0 hv,x:=aga}
 obtain⟨q3,hq3⟩:∃q3:Pf,q3={q with c:=q.c.set 0 r,x:=(0,0,0,0)}:=⟨_,rfl⟩
 rw[←hq3] at bp3 Hq
 have HE3:=Lib.hid hq3
 clear hq3
 (obtain⟨hcb,bn,hlb,hnb,hmb⟩:=aC.rules CS.box)
 (obtain⟨hcx,hfx,hlx,hnx,hmx⟩:=aC.rules OP)
 have yN:=Lib.hid bp3
 have LC:=Lib.hid OP
 have mM:=Lib.hid CS
 clear hW3 bp3 OP CS hcp hfp hlp hnp hmp zM OB hbw2 K1 K2 bP
 ((refine aY (fun W=>Below w3.heap.size w3 W) (fun i=>decide (i<11)) aj ?_);
          (have hS:Below w3.heap.size w3 w3.drew:=(Below.refl _ _).drew);
          (refine tk 0 19 hS ?_);
          (refine tk 1 20 hS ?_);
          (refine tk 2 21 hS ?_);
          (refine tk 3 22 hS ?_);
          (refine tk 4 23 hS ?_);
          (refine tk 5 24 hS ?_ (hy:=Or.inl ⟨aF,wu⟩));
          (refine cO 6 (oi:=⟨some 25,_,_,_,_,_⟩) rfl aj sx hS (dx 126 _ rfl (gu pid par 1 q3) Tab.aX (oz _ _ _ _) aF bg (fun W hs=>yN.out.below hs yN.out.lt)) ?_);
          (try simp only[pt]);
          (refine aK 7 (oi:=⟨some 26,_,_,_,_,_⟩) rfl aj rfl (fun K hK=>?_));
          (go_simp;(with_reducible refine(C9 s.P k.P pid par 1 q3 Hq.out _ (mM.out.kr.P.below hS) hk.P).mono ?_);rintro en w4 ⟨v4,rfl,hs4,hb4⟩;(have hS:=hS.trans (Below.mono hb4 hS.size));(obtain⟨a4,m4,n4,rfl⟩:=hs4.is);(try go_wp2_with fail));
          (refine hK.out _ _ (fun _=>bF) ?_;clear hK K);
          (try simp only[pt]);
          (refine tk 8 27 hS ?_);
          (refine tk 9 28 hS ?_);
          (refine tk 10 29 hS ?_);
          (refine aT 11 aj ?_ rfl);
          (simp only[List.toList_toArray,List.drop_succ_cons,List.drop_zero]))
 have kw4:=mM.out.below hS
 have OV:=Lib.hid (yN.out.below hS yN.out.lt)
 have KX4:=Lib.hid (LC.out.below hS LC.out.lt)
 have nU:Below w.heap.size w w4:=fJ.trans (hS.mono fJ.size)
 clear hcb bn hlb hnb hmb hcx hfx hlx hnx hmx mM yN LC fJ hb4
 (obtain⟨hcb,bn,hlb,hnb,hmb⟩:=aC.rules kw4.box)
 have vU:=Lib.hid kw4
 have G9:=Lib.hid hs4
 clear kw4 hs4
 go_wp2_with fail
 generalize Lr:World.setCell _ _ _=w5
 have Oo:=vU.out.zP G9.out
 rw[Lr] at Oo
 have hg5:w4.grownBy w5 (some b):=by rw[←Lr];exact aM _ _ _ _
 have Bu:=Lib.hid (OV.out.grown hg5 aR)
 have OA:=Lib.hid (KX4.out.grown hg5 aR)
 have Uh:w.grownBy w5 (some b):=aA (ay nU _) hg5
 clear Lr hg5 hcb bn hlb hnb hmb vU OV KX4 G9 nU
 (obtain⟨hcb,bn,hlb,hnb,hmb⟩:=aC.rules Oo.box)
 (obtain⟨hcx,hfx,hlx,hnx,hmx⟩:=aC.rules OA.out)
 (obtain⟨hcp,hfp,hlp,hnp,hmp⟩:=aC.rules Bu.out)
 have pU:=Lib.hid Oo
 obtain⟨i0,hM⟩:=agB
 clear Oo
 ((refine aY (fun W=>Below w5.heap.size w5 W) (fun i=>decide (i<25)) aj ?_);
          (have hS:Below w5.heap.size w5 w5.drew:=(Below.refl _ _).drew);
          (refine tk 0 30 hS ?_);
          (refine tk 1 31 hS ?_);
          (refine tk 2 32 hS ?_);
          (refine tk 3 33 hS ?_);
          (refine tk 4 34 hS ?_);
          (refine tk 5 35 hS ?_ (hy:=Or.inl ⟨aF,abj⟩));
          (refine tk 7 37 hS ?_);
          (refine tk 8 38 hS ?_ (hy:=Or.inl ⟨aF,abj⟩));
          (refine tk 9 39 hS ?_);
          (refine tk 10 40 hS ?_ (hy:=Or.inl ⟨aF,abj⟩));
          (refine tk 11 41 hS ?_);
          (refine tk 12 42 hS ?_);
          (refine tk 14 44 hS ?_);
          (refine tk 15 45 hS ?_);
          (refine tk 16 46 hS ?_);
          (refine tk 17 47 hS ?_);
          (refine tk 18 48 hS ?_ (hy:=Or.inl ⟨aF,abj⟩));
          (refine aK 6 (oi:=⟨some 36,_,_,_,_,_⟩) rfl aj rfl (fun K hK=>?_));
          (go_simp;(with_reducible refine(acV s.Tr (k.tr.map evV) _ (pU.out.kr.Tr.below hS)).mono ?_);rintro en w6 ⟨⟨ao,rfl,hcl⟩,rfl⟩;(have OG:=Lib.hid hcl);(clear hcl);(try go_wp2_with fail));
          (refine hK.out _ _ (fun _=>bF) ?_;clear hK K);
          (try simp only[pt]);
          (refine aK 13 (oi:=⟨some 43,_,_,_,_,_⟩) rfl aj rfl (fun K hK=>?_));
          (go_simp;(with_reducible refine(HV.out _).mono ?_);rintro en w7 ⟨rfl,oZ⟩;(have hS:=hS.trans (Below.mono oZ hS.size));skip;(try go_wp2_with fail));
          (refine hK.out _ _ (fun _=>bF) ?_;clear hK K);
          (try simp only[pt]);
          (refine tk 19 49 hS ?_);
          (refine aK 20 (oi:=⟨some 50,_,_,_,_,_⟩) rfl aj rfl (fun K hK=>?_));
          (refine kJ _ rfl hM aB (evV (pid,x.1,r,k.now)) bg (Zu _) ?_);
          (refine hidS hK (hS.alloc hS.size _) (fun hS=>?_);clear hK K);
          (try simp only[pt]);
          (refine aK 21 (oi:=⟨some 51,_,_,_,_,_⟩) rfl aj rfl (fun K hK=>?_));
          ((refine mg rfl hM ao (k.tr.map evV) bg (OG.out.below (Lg hS)) w7.heap.size (evV (pid,x.1,r,k.now)) (Sl.qE (Zu _) rfl) bg (by have:=hk.tr;simp[maxLen];omega) (by have:=hk.tr;simp;omega) ?_;intro g9 n9 w9 vN nK));
          (refine hidS hK (hS.trans (nK.mono hS.size)) (fun hS=>?_);clear hK K);
          (try simp only[pt]);
          (refine tk 22 52 hS ?_);
          (refine tk 23 53 hS ?_);
          (refine tk 24 54 hS ?_);
          (refine aT 25 aj ?_ rfl);
          (simp only[List.toList_toArray,List.drop_succ_cons,List.drop_zero]))
 have yL:=pU.out.below hS
 have Bt:=Lib.hid vN.sl
 have LV:w.grownBy w9 (some b):=aA Uh (ay hS _)
 clear hcb bn hlb hnb hmb hcx hfx hlx hnx hmx hcp hfp hlp hnp hmp vN
 (obtain⟨hcb,bn,hlb,hnb,hmb⟩:=aC.rules yL.box)
 have Br:=Lib.hid yL
 clear yL
 go_wp2_with fail
 rw[←HE3.out]
 exact bodyPost_end (v:= .tuple #[]) (by simp[results,Tryz.results110,go_sem]) rfl ⟨rfl,⟨_,Br.out.aiQ Py,fun _ _ _ h=>h⟩,aA LV (aM _ _ _ _)⟩
end Go.Proofs.YtgmodehldmahiaaGreatDoor
end
section
namespace Go.Proofs.YtgmodehldmahiaaGreatDoor
open Go Go.RowKit Go.Tm
attribute [local go_sem] fB fA fu dR dA dQ dP dO dN dM dL dK dJ dI dH dG dF iq ig h_ g_ gZ gY gX gN gW gV fF fE fD fC eY eX eU
attribute [local go_sem] Tab.uK Tab.LM Tab.Ht
noncomputable def vI(k:Kn)(p:Tab.bV)(x:nW):Kn×Bool:=
 if x.2.1=1 then(bU k p x 0 13,true)
 else if(Tab.bD k.P x.2.1).2=false∨(Tab.bD k.P x.2.1).1.st=4 then(bU k p x 0 7,true)
 else if(Tab.bD k.P x.2.1).1.pid=p.pid then(mW k (Tab.bD k.P x.2.1).1.pid 137 0,false)
 else(bU (mW k (Tab.bD k.P x.2.1).1.pid 137 0) (Tab.bD (mW k (Tab.bD k.P x.2.1).1.pid 137 0).P p.pid).1 x 0 0,true)
theorem lJ{e v:Int}(hv:cK v):cK (Call.qj e v):=by
 unfold Call.qj
 split
 ·exact hv
 ·exact⟨ah,ah⟩
theorem jq:cK 0:=⟨aB,aB⟩
theorem aaT(p:Tab.bV):(Tab.bD [p] p.pid).1=p:=by
 unfold Tab.bD
 simp[List.find?_cons]
theorem KS.from{w w1 w':World}{b:Nat}{s:Ks}{k k':Kn}(h:KS w1 b s k w' k')(hz:w.heap.size≤w1.heap.size):KS w b s k w' k':=
 let⟨s',h1,h2⟩:=h;⟨s',h1,fun B hB=>h2 B (Nat.lt_of_lt_of_le hB hz)⟩
theorem KS.step{w w1 w':World}{b:Nat}{s s1:Ks}{k k1 k':Kn}(h:j3 w b s k s1 k1)(h2:KS w1 b s1 k1 w' k')(hz:w.heap.size≤w1.heap.size):KS w b s k w' k':=
 let⟨s',g1,g2⟩:=h2;⟨s',g1,h.trans g2 hz⟩
theorem VN(b:Nat)(s:Ks)(k:Kn)(p:Tab.bV)(x:nW)(w:World)(hw:KW w b s k)(hk:Fit k)(hx:iJ x)(hk2:Fit (mW k (Tab.bD k.P x.2.1).1.pid 137 0)):
  Calls Tryz.prog 149 #[.pointer (some ⟨b,0,none⟩),Tab.je p,sP x] w fun en w'=>en=.returned (.bool (vI k p x).2)∧KS w b s k w' (vI k p x).1∧w.grownBy w' (some b):=by
 have HW:=Lib.hid hw
 have hlt:=hw.lt
 obtain⟨y,hy⟩:∃y,y=vI k p x:=⟨_,rfl⟩
 rw[←hy]
 unfold vI at hy
 have HY:=Lib.hid hy
 have hwr:IntKind.i64.wrap x.2.1=x.2.1:=IntWalk.i64_in _ (by have:=hx.2.1.1;have:=hx.2.1.2;omega)
 have HF:=Lib.hid (fun(W:World) (h:KW W b s k)=>Tab.lN s.P k.P (IntKind.i64.wrap x.2.1) W h.kr.P)
 rw[hwr] at HF
 have HA:=Lib.hid (fun e W h=>fQ b s k p x 0 e W h hk (lJ jq))
 have hself:=fun(l:List Tab.bV) (h:l=[p])=>(show(Tab.bD l p.pid).1=p by rw[h];exact aaT p)
 have hpv:=Tab.fq p
 have hpz:=Tab.jd (Tab.jl 0)
 have hx2:x.2.1≤4294967295∧0≤x.2.1:=⟨hx.2.1.2,hx.2.1.1⟩
 generalize hfs:Tab.bD k.P x.2.1=fs at*
 obtain⟨f,fok⟩:=fs
 dsimp only at HY HF hk2
 have WO:=Tab.fq f
 have HE:=Lib.hid (fun s W h=>FY b s k f.pid 137 0 W h hk aB)
 generalize hk1:mW k f.pid 137 0=k1 at*
 have HA1:=Lib.hid (fun s p4 W h=>fQ b s k1 p4 x 0 0 W h hk2 (lJ jq))
 rw[show Tab.je p=.agg (Tab.dS p) from rfl]
 clear hw hy
 go_enter Tryz.func149,Tryz.ntmps149
 go_wp2_with fail
 ((generalize bN:World.alloc _ _=w0);(have KP:aC w0 (w.heap.size) (Tab.dS p) 126:=bA);(have KX:aC w0 (w.heap.size+1) (#[.int .u32 x.1,.int .u32 x.2.1,.int .u32 x.2.2.1,.int .u32 x.2.2.2]) 124:=bA);(have hb0:Below w.heap.size w w0:=bM);(have hz0:w0.heap.size=w.heap.size+1+1:=bX);(clear bN);(have KP:=Lib.hid KP);(have KX:=Lib.hid KX))
 ((try clear hcb bn hlb hnb hmb);(have aW:=HW.out.below hb0);(obtain⟨hcb,bn,hlb,hnb,hmb⟩:=aC.rules aW.box);(have jV:=Lib.hid aW);(clear aW))
 ((try clear hcp hfp hlp hnp hmp);(have bx0:=KP.out);(obtain⟨hcp,hfp,hlp,hnp,hmp⟩:=aC.rules bx0);(have oM:=Lib.hid bx0);(clear bx0))
 ((try clear hcx hfx hlx hnx hmx);(have bx0:=KX.out);(obtain⟨hcx,hfx,hlx,hnx,hmx⟩:=aC.rules bx0);(have sV:=Lib.hid bx0);(clear bx0))
 have HF0:=Lib.hid (fun W (h:Below w0.heap.size w0 W)=>HF.out W (jV.out.below h))
 have sF:w.heap.size+1+1≤w0.heap.size:=ah
 clear hz0
 refine Ed (α:=Nat) (fun q2 W=>aC W q2 (Tab.dS f) 126∧Below w0.heap.size w0 W∧w0.heap.size≤q2) ?G ?_ ?_
 rotate_left
 ·((refine aY (fun W=>Below w0.heap.size w0 W) (fun i=>decide (i<13)&&i !=11) aj ?_);
          (have hS:Below w0.heap.size w0 w0.drew:=(Below.refl _ _).drew);
          (refine tk 0 11 hS ?_);
          (refine tk 1 12 hS ?_);
          (refine tk 2 13 hS ?_);
          (refine tk 3 14 hS ?_);
          (refine tk 4 15 hS ?_ (hy:=Or.inl ⟨aF,yt⟩));
          (refine tk 5 16 hS ?_);
          (refine tk 6 17 hS ?_ (hy:=Or.inl ⟨aF,yt⟩));
          (refine tk 7 18 hS ?_);
          (refine gI 8 12 (oi:=⟨some 19,_,_,_,_,_⟩) (oj:=⟨some 8,_,_,_,_,_⟩) rfl rfl aj rfl rfl (fun K hK=>?_) (fun K hK=>?_));
          (focus((go_simp;(with_reducible refine(HF0.out _ hS).mono ?_);rintro en xP ⟨rfl,Ey⟩;(have hS:=hS.trans (Below.mono Ey hS.size));(try(have fV:=aC.below fV Ey fV.lt));(try go_wp2_with fail));(refine hK.out _ _ (fun _=>bF) ?_;clear hK K);(try simp only[pt]);(refine tk 9 10 hS ?_);(try simp only[pt]);(refine bG 11 (oi:=⟨some 21,_,_,_,_,_⟩) (v:=?_) rfl aj sx (Or.inl ⟨aF,?_⟩) ?_;rotate_left;focus((intro W hW);go_simp;(all_goals with_reducible rfl)));(try simp only[pt]);(refine tk 10 20 hS ?_);(try simp only[pt]);(refine aK 12 (oi:=⟨some 8,_,_,_,_,_⟩) rfl aj rfl (fun K hK=>?_));(refine iH 126 rfl (z:=Tab.je (Tab.jl 0)) aj (Tab.dS (Tab.jl 0)) rfl ?_);(refine hidS hK (hS.alloc hS.size _) (fun hS=>?_);clear hK K);(try simp only[pt]);(first|((have fV:=aC.new xP (Tab.dS (Tab.jl 0)) 126);(have hd5:Below xP.heap.size xP (xP.alloc (.cells (Tab.dS (Tab.jl 0)) 126)):=(Below.refl _ _).alloc (Nat.le_refl _) _);(have mK:w0.heap.size≤xP.heap.size:=ady);(generalize xP.alloc (.cells (Tab.dS (Tab.jl 0)) 126)=w5 at hS fV hd5⊢);(generalize xP.heap.size=qa at fV mK⊢))|((have fV:=aC.new w0.drew (Tab.dS (Tab.jl 0)) 126);(have hd5:Below w0.drew.heap.size w0.drew (w0.drew.alloc (.cells (Tab.dS (Tab.jl 0)) 126)):=(Below.refl _ _).alloc (Nat.le_refl _) _);(have mK:w0.heap.size≤w0.drew.heap.size:=Sk);(generalize w0.drew.alloc (.cells (Tab.dS (Tab.jl 0)) 126)=w5 at hS fV hd5⊢);(generalize w0.drew.heap.size=qa at fV mK⊢)));(refine aT 13 aj ?_ rfl);(simp only[List.toList_toArray,List.drop_succ_cons,List.drop_zero]);((have OU:=Lib.hid fV);go_wp2_with(first|((with_reducible refine bO 126 ?_);(refine aN rfl 126 _ _ rfl OU.out (Tab.je f) Tab.aX (WO) ?_ (Tab.dS f) (Ap (Tab.jl 0) f) ?_ ?_ ?_;(exact fK);(exact aG);(exact aG);(intro w14 Pm afO afq O_)))|fail);(refine Joined.of qa ⟨Pm,?_,mK⟩ ?_);(focus(exact hS.trans (O_.mono mK)));with_reducible rfl)));
          (focus((refine iH 126 rfl (z:=Tab.je (Tab.jl 0)) aj (Tab.dS (Tab.jl 0)) rfl ?_);(refine hidS hK (hS.alloc hS.size _) (fun hS=>?_);clear hK K);(try simp only[pt]);(first|((have fV:=aC.new xP (Tab.dS (Tab.jl 0)) 126);(have hd5:Below xP.heap.size xP (xP.alloc (.cells (Tab.dS (Tab.jl 0)) 126)):=(Below.refl _ _).alloc (Nat.le_refl _) _);(have mK:w0.heap.size≤xP.heap.size:=ady);(generalize xP.alloc (.cells (Tab.dS (Tab.jl 0)) 126)=w5 at hS fV hd5⊢);(generalize xP.heap.size=qa at fV mK⊢))|((have fV:=aC.new w0.drew (Tab.dS (Tab.jl 0)) 126);(have hd5:Below w0.drew.heap.size w0.drew (w0.drew.alloc (.cells (Tab.dS (Tab.jl 0)) 126)):=(Below.refl _ _).alloc (Nat.le_refl _) _);(have mK:w0.heap.size≤w0.drew.heap.size:=Sk);(generalize w0.drew.alloc (.cells (Tab.dS (Tab.jl 0)) 126)=w5 at hS fV hd5⊢);(generalize w0.drew.heap.size=qa at fV mK⊢)));(refine aK 8 (oi:=⟨some 19,_,_,_,_,_⟩) rfl aj rfl (fun K hK=>?_));(go_simp;(with_reducible refine(HF0.out _ hS).mono ?_);rintro en xP ⟨rfl,Ey⟩;(have hS:=hS.trans (Below.mono Ey hS.size));(try(have fV:=aC.below fV Ey fV.lt));(try go_wp2_with fail));(refine hK.out _ _ (fun _=>bF) ?_;clear hK K);(try simp only[pt]);(refine tk 9 10 hS ?_);(try simp only[pt]);(refine bG 11 (oi:=⟨some 21,_,_,_,_,_⟩) (v:=?_) rfl aj sx (Or.inl ⟨aF,?_⟩) ?_;rotate_left;focus((intro W hW);go_simp;(all_goals with_reducible rfl)));(try simp only[pt]);(refine tk 10 20 hS ?_);(try simp only[pt]);(refine aT 13 aj ?_ rfl);(simp only[List.toList_toArray,List.drop_succ_cons,List.drop_zero]);((have OU:=Lib.hid fV);go_wp2_with(first|((with_reducible refine bO 126 ?_);(refine aN rfl 126 _ _ rfl OU.out (Tab.je f) Tab.aX (WO) ?_ (Tab.dS f) (Ap (Tab.jl 0) f) ?_ ?_ ?_;(exact fK);(exact aG);(exact aG);(intro w14 Pm afO afq O_)))|fail);(refine Joined.of qa ⟨Pm,?_,mK⟩ ?_);(focus(exact hS.trans (O_.mono mK)));with_reducible rfl))))
 rintro q2 w2 ⟨hB2,hS2,hq2⟩
 ((try clear hcb bn hlb hnb hmb);(have aW:=jV.out.below hS2);(obtain⟨hcb,bn,hlb,hnb,hmb⟩:=aC.rules aW.box);(have qg:=Lib.hid aW);(clear aW))
 ((try clear hcp hfp hlp hnp hmp);(have bx0:=oM.out.below hS2 oM.out.lt);(obtain⟨hcp,hfp,hlp,hnp,hmp⟩:=aC.rules bx0);(have zM:=Lib.hid bx0);(clear bx0))
 ((try clear hcx hfx hlx hnx hmx);(have bx0:=sV.out.below hS2 sV.out.lt);(obtain⟨hcx,hfx,hlx,hnx,hmx⟩:=aC.rules bx0);(have OB:=Lib.hid bx0);(clear bx0))
 have hcf:=hB2.rules.1
 have afQ:=(hcf 0).trans (Tab.uK f)
 have aj6:=(hcf 2).trans (Tab.Ht f)
 have KF:=Lib.hid hB2
 have hbw2:=hb0.trans (hS2.mono hb0.size)
 have hz2:=hS2.size
 have hlf:=hB2.lt
 clear hcf hB2 jV oM sV
 have hy:=HY.out
 by_cases h1:x.2.1=1
 ·have e1:(x.2.1==1)=true:=by simp[h1]
  rw[if_pos h1] at hy
  clear h1
  subst hy
  go_wp2_with(first|((with_reducible refine bS 126 ?_);(refine aJ rfl 126 _ rfl (Tab.dS p) Tab.aX (hpv) zM.out ?_ ?_;(exact aG)))|fail)
  with_reducible refine(HA.out 13 _ qg.out).mono ?_
  rintro en w3 ⟨rfl,hks,hg3⟩
  go_wp2_with fail
  exact bodyPost_ret (v:= .bool true) J7 rfl ⟨rfl,KS.from hks hbw2.size,aA (ay hbw2 (some b)) hg3⟩
 have e1:(x.2.1==1)=false:=rH
 rw[if_neg h1] at hy
 clear h1
 cases fok
 ·rw[if_pos (.inl rfl)] at hy
  exact aeG
 by_cases h4:f.st=4
 ·have e4:(f.st==4)=true:=by simp[h4]
  rw[if_pos (.inr h4)] at hy
  exact aeG
 have e4:(f.st==4)=false:=BG
 rw[if_neg BG] at hy
 go_wp2_with fail
 with_reducible refine(HE.out _ _ qg.out).mono ?_
 rintro en w3 ⟨rfl,⟨s3,CS,JB⟩,hg3⟩
 have hz3:=hg3.size
 have zO:=Lib.hid (aA (ay hbw2 (some b)) hg3)
 have hp2:=zM.out.lt
 have yN:=Lib.hid (zM.out.grown hg3 aR)
 have LC:=Lib.hid (OB.out.grown hg3 aR)
 have KF3:=Lib.hid (KF.out.grown hg3 aR)
 have haw:=JB w.heap.size ah ah (HW.out.kr.away (Nat.le_refl _))
 have OZ:=Lib.hid haw
 have mM:=Lib.hid CS
 have HST:=Lib.hid (show j3 w b s k s3 k1 from fun B hB=>JB B ah)
 clear haw CS JB hg3 hcb bn hlb hnb hmb afQ aj6 hcp hfp hlp hnp hmp hcx hfx hlx hnx hmx
 (obtain⟨hcb,bn,hlb,hnb,hmb⟩:=aC.rules mM.out.box)
 ((try clear hcp hfp hlp hnp hmp);(have bx0:=yN.out);(obtain⟨hcp,hfp,hlp,hnp,hmp⟩:=aC.rules bx0);(have OV:=Lib.hid bx0);(clear bx0))
 ((try clear hcx hfx hlx hnx hmx);(have bx0:=LC.out);(obtain⟨hcx,hfx,hlx,hnx,hmx⟩:=aC.rules bx0);(have KX4:=Lib.hid bx0);(clear bx0))
 have hcf:=KF3.out.rules.1
 have afQ:=(hcf 0).trans (Tab.uK f)
 clear hcf
 by_cases hpp:f.pid=p.pid
 ·have ep:(f.pid==p.pid)=true:=by simp[hpp]
  rw[if_pos hpp] at hy
  clear hpp
  subst hy
  go_wp2_with fail
  exact bodyPost_ret (v:= .bool false) J7 rfl ⟨rfl,⟨s3,mM.out,HST.out⟩,zO.out⟩
 have ep:(f.pid==p.pid)=false:=by simp[hpp]
 rw[if_neg hpp] at hy
 clear hpp
 have HF3:=Lib.hid (fun W (h:Below w3.heap.size w3 W)=>Tab.lN s3.P k1.P p.pid W (mM.out.kr.P.below h))
 have W9:=hself k1.P
 generalize Tab.bD k1.P p.pid=fs at*
 obtain⟨p4,ok4⟩:=fs
 dsimp only at HF3 hy W9
 have Ue:=Tab.fq p4
 have HP4:=Lib.hid W9
 clear W9
 go_wp2_with fail
 ((refine aY (fun W=>Below w3.heap.size w3 W) (fun i=>decide (i<11)&&i !=10) aj ?_);
          (have hS:Below w3.heap.size w3 w3.drew:=(Below.refl _ _).drew);
          (refine tk 0 32 hS ?_);
          (refine tk 1 33 hS ?_);
          (refine tk 2 34 hS ?_);
          (refine tk 3 35 hS ?_);
          (refine tk 4 36 hS ?_ (hy:=Or.inl ⟨aF,nM⟩));
          (refine tk 5 37 hS ?_);
          (refine tk 6 38 hS ?_ (hy:=Or.inl ⟨aF,nM⟩));
          (refine aK 7 (oi:=⟨some 39,_,_,_,_,_⟩) rfl aj rfl (fun K hK=>?_));
          (go_simp;(with_reducible refine(HF3.out _ hS).mono ?_);rintro en w4 ⟨rfl,hb4⟩;(have hS:=hS.trans (Below.mono hb4 hS.size));skip;(try go_wp2_with fail));
          (refine hK.out _ _ (fun _=>bF) ?_;clear hK K);
          (try simp only[pt]);
          (refine tk 8 31 hS ?_);
          (refine bG 10 (oi:=⟨some 41,_,_,_,_,_⟩) (v:=?_) rfl aj sx (Or.inl ⟨aF,?_⟩) ?_;rotate_left;focus((intro W hW);go_simp;(all_goals with_reducible rfl)));
          (try simp only[pt]);
          (refine tk 9 40 hS ?_);
          (refine aT 11 aj ?_ rfl);
          (simp only[List.toList_toArray,List.drop_succ_cons,List.drop_zero]))
 have Bu:=Lib.hid (yN.out.below hS yN.out.lt)
 have OA:=Lib.hid (LC.out.below hS LC.out.lt)
 ((try clear hcb bn hlb hnb hmb);(have aW:=mM.out.below hS);(obtain⟨hcb,bn,hlb,hnb,hmb⟩:=aC.rules aW.box);(have pU:=Lib.hid aW);(clear aW))
 clear hcp hfp hlp hnp hmp
 have hps:=Tab.jd p
 have hBb:w.heap.size≠b:=ah
 have hx5:=OA.out.lt
 ((try clear hcx hfx hlx hnx hmx);(have bx0:=OA.out);(obtain⟨hcx,hfx,hlx,hnx,hmx⟩:=aC.rules bx0);(have KX6:=Lib.hid bx0);(clear bx0))
 clear afQ hcx hfx hlx hnx hmx
 go_wp2_with(first|((with_reducible refine bO 126 ?_);(refine aN rfl 126 _ _ rfl Bu.out (Tab.je p4) Tab.aX (Ue) ?_ (Tab.dS p4) (Ap p p4) ?_ ?_ ?_;(exact fK);(exact aG);(exact aG);(intro w5 G5 hg5 GY hb5;(have Iy:=Lib.hid G5);(have KX7:=Lib.hid (OA.out.grown hg5 aI));(have Ho:=Lib.hid (pU.out.local OZ.out hBb Bu.out G5 hg5 HP4.out));(have hx7:=KX7.out);(have hc7:=hx7.rules.1);(clear G5 hx7))))|((with_reducible refine bS 126 ?_);(refine aJ rfl 126 _ rfl (Tab.dS p4) Tab.aX (Ue) Iy.out ?_ ?_;(exact aG)))|fail)
 with_reducible refine(HA1.out _ p4 _ Ho.out).mono ?_
 rintro en w7 ⟨rfl,hks,vC⟩
 subst hy
 go_wp2_with fail
 exact bodyPost_ret (v:= .bool true) J7 rfl ⟨rfl,KS.step HST.out (KS.from hks (by have:=hS.size;have:=hg5.size;omega)) ah,aA (kV (aA zO.out (ay hS (some b))) hg5 (Nat.le_refl _)) vC⟩
end Go.Proofs.YtgmodehldmahiaaGreatDoor
end
