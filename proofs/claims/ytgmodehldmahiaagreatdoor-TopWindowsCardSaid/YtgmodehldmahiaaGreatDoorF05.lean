/- Part 5 of 6 (beside the texts B) of the proof of topWindows_holds. Conditions: see each. -/
import Derived.Test.YtgmodehldmahiaaGreatDoorF04
set_option linter.unusedVariables false
set_option linter.unusedSimpArgs false
set_option maxRecDepth 8192
set_option maxHeartbeats 40000000
namespace Go.Proofs.YtgmodehldmahiaaGreatDoor
open Go Go.RowKit Go.Tm
attribute [local go_sem] fO fM fK d_ dM dZ dY dX dW dV dU dS dR dQ dP dO dN iQ iP iO iN iM iL iK iG iJ iI fU fT fQ fP fI fH fC
attribute [local go_sem] Gm Gl Gj Gi Gh Dy Gg Gf Gc Gb zZ
theorem atH(pv wv cv iv:Value)(p:bF.jE)(dx:List (List ByteArray))(N:Int)(w:World)(hp:bF.jf w pv wv cv p)(hi:mR w iv dx)(hT:jw w)(hok:bF.gJ p)(CX:Dk dx):
  Calls Tryz.prog 5 #[.agg #[pv,.int .i64 p.frame,wv,cv,iv,.int .i64 N]] w fun e w'=>e=.returned (.bool true)∧Below w.heap.size w w':=by
 have HSH:=ah (fun W (h:Below w.heap.size w W)=>AA W (hT.below h))
 have HFW:=ah (fun W (h:Below w.heap.size w W)=>wz iv dx W (hi.below h))
 have HBG:=ah (fun W (h:Below w.heap.size w W)=>Ab pv wv cv iv p dx W (hp.below h) (hi.below h) hok CX)
 have HMO:=ah (fun W=>Sw N W)
 have Et:=ah (fun W (h:Below w.heap.size w W)=>hT.below h)
 have HP:=ah hp
 have N9:=hi.kind
 have Ey:=Sy N
 have HGD:=ah (fun i=>(vG hok CX).run hok i)
 have HWF:=ah (fun i hi=>aui p dx i hi)
 obtain⟨a1,c1,a2,c2,a3,c3,rfl,rfl,rfl,jO,hl2,qM⟩:=hp.shape
 obtain⟨ia,ic,rfl,xW⟩:=hi.shape
 generalize tZ N=m at*
 have mF:=hok.ad9
 have hf2:=hok.Fv
 clear hp hi hT
 go_enter Tryz.func5,Tryz.ntmps5
 go_wp2_with fail
 (generalize bR:World.alloc _ _=w0;have KB:aD w0 (w.heap.size) (#[.slice a1 p.parts.length c1,.int .i64 p.frame,.slice a2 p.wins.length c2,.slice a3 p.chans.length c3,.slice ia dx.length ic,.int .i64 N]) 67:=atQ;have hb0:Below w.heap.size w w0:=atP;have hz0:w0.heap.size=w.heap.size+1:=atu;clear bR;have KB:=ah KB)
 with_reducible refine(HSH.out w0 hb0).mono ?_
 rintro en w1 ⟨rfl,hb1⟩
 have bW:=hb0.trans (hb1.mono hb0.size)
 have p8:=ah (KB.out.below hb1 KB.out.lt)
 obtain⟨hcb,bC,bn,bA,bE⟩:=aD.rules p8.out
 go_wp2_with fail
 with_reducible refine(HFW.out w1 bW).mono ?_
 rintro en w2 ⟨⟨bb,rfl⟩,hb2⟩
 have bM:=bW.trans (hb2.mono bW.size)
 have qO:=ah (p8.out.below hb2 p8.out.lt)
 clear hcb bC bn bA bE
 obtain⟨hcb,bC,bn,bA,bE⟩:=aD.rules qO.out
 go_wp2_with fail
 with_reducible refine(HBG.out w2 bM).mono ?_
 rintro en w3 ⟨s3,rfl,qL,vQ,hb3⟩
 have gZ:=bM.trans (hb3.mono bM.size)
 have hv3:=je (HP.out.below gZ) N9 qL
 have HV3:=ah hv3
 have HM3:=ah qL
 have vK:=ah (qO.out.below hb3 qO.out.lt)
 obtain⟨h0,hh0⟩:∃h0,h0=fu p dx:=⟨_,rfl⟩
 rw[←hh0] at HGD HWF HV3 HM3⊢
 clear hv3 qL vQ hcb bC bn bA bE hh0 hb1 hb2
 cases bb
 ·go_wp2_with(first|((with_reducible refine bS 36 ?_);(refine aU rfl 36 _ _ rfl (hC (.slice a1 p.parts.length c1) (.slice a2 p.wins.length c2) (.slice a3 p.chans.length c3) (.slice ia dx.length ic) p s3 h0) eH (HV3.out) (by rfl) ?_ ?_ ?_;(exact asZ);(exact asZ)))|fail)
  go_ret
  exact⟨rfl,auv⟩
 go_wp2_with(first|((with_reducible refine bS 36 ?_);(refine aU rfl 36 _ _ rfl (hC (.slice a1 p.parts.length c1) (.slice a2 p.wins.length c2) (.slice a3 p.chans.length c3) (.slice ia dx.length ic) p s3 h0) eH (HV3.out) (by rfl) ?_ ?_ ?_;(exact asZ);(exact asZ)))|fail)
 (generalize bR:World.alloc _ _=w4;have K5:aD w4 (w3.heap.size) (hC (.slice a1 p.parts.length c1) (.slice a2 p.wins.length c2) (.slice a3 p.chans.length c3) (.slice ia dx.length ic) p s3 h0) 36:=atQ;have hb0:Below w3.heap.size w3 w4:=atP;have hz0:w4.heap.size=w3.heap.size+1:=atu;clear bR;have K5:=ah K5)
 have Q8:=hb0
 have au9:=hz0
 clear hb0 hz0
 refine atG (n:=182) (fix:=[(1,.pointer (some ⟨w.heap.size,0,none⟩)),(3,.bool true),(5,.pointer (some ⟨w3.heap.size,0,none⟩)),(7,.int .i64 0)]) (EJ.of rfl asS (by intro x hx;simp only[List.mem_cons,List.not_mem_nil,or_false] at hx;rcases hx with rfl|rfl|rfl|rfl<;>rfl)) ?_
 intro g hg
 have g1':g 1=.pointer (some ⟨w.heap.size,0,none⟩):=hg (1,.pointer (some ⟨w.heap.size,0,none⟩)) asR
 have g3':g 3=.bool true:=hg (3,.bool true) asR
 have g5':g 5=.pointer (some ⟨w3.heap.size,0,none⟩):=hg (5,.pointer (some ⟨w3.heap.size,0,none⟩)) asR
 have g7':g 7=.int .i64 0:=hg (7,.int .i64 0) asR
 have IB:((List.range 182).map g).toArray=(g 0::.pointer (some ⟨w.heap.size,0,none⟩)::g 2::.bool true::g 4::.pointer (some ⟨w3.heap.size,0,none⟩)::g 6::.int .i64 0::g 8::g 9::g 10::g 11::g 12::g 13::g 14::g 15::g 16::g 17::g 18::g 19::g 20::g 21::g 22::g 23::g 24::g 25::g 26::g 27::g 28::g 29::g 30::g 31::g 32::g 33::g 34::g 35::g 36::g 37::g 38::g 39::g 40::g 41::g 42::g 43::g 44::g 45::g 46::g 47::g 48::g 49::g 50::g 51::g 52::g 53::g 54::g 55::g 56::g 57::g 58::g 59::g 60::g 61::g 62::g 63::g 64::g 65::g 66::g 67::g 68::g 69::g 70::g 71::g 72::g 73::g 74::g 75::g 76::g 77::g 78::g 79::g 80::g 81::g 82::g 83::g 84::g 85::g 86::g 87::g 88::g 89::g 90::g 91::g 92::g 93::g 94::g 95::g 96::g 97::g 98::g 99::g 100::g 101::g 102::g 103::g 104::g 105::g 106::g 107::g 108::g 109::g 110::g 111::g 112::g 113::g 114::g 115::g 116::g 117::g 118::g 119::g 120::g 121::g 122::g 123::g 124::g 125::g 126::g 127::g 128::g 129::g 130::g 131::g 132::g 133::g 134::g 135::g 136::g 137::g 138::g 139::g 140::g 141::g 142::g 143::g 144::g 145::g 146::g 147::g 148::g 149::g 150::g 151::g 152::g 153::g 154::g 155::g 156::g 157::g 158::g 159::g 160::g 161::g 162::g 163::g 164::g 165::g 166::g 167::g 168::g 169::g 170::g 171::g 172::g 173::g 174::g 175::g 176::g 177::g 178::g 179::g 180::g 181::([]:List Value)).toArray:=by
  rw[←g1',←g3',←g5',←g7']
  kernel_rfl
 rw[IB]
 clear IB hg g1' g3' g5' g7'
 go_loopw [7] (fun t W=>∃(i:Nat) (s':Hs),i≤m∧t=.int .i64 i∧aD W w3.heap.size (hC (.slice a1 p.parts.length c1) (.slice a2 p.wins.length c2) (.slice a3 p.chans.length c3) (.slice ia dx.length ic) p s' (nT p h0 i)) 36∧MR W s' (nT p h0 i) (8*i)∧iR w3.heap.size s' (nT p h0 i)∧Below w3.heap.size w3 W) (fun t _=>m-(intOf t).toNat)
 case atStart=>exact⟨0,s3,Nat.zero_le _,rfl,K5.out,HM3.out.below Q8,HM3.out.away (Nat.le_refl _),Q8⟩
 case round=>
  obtain⟨i,s',hi',rfl,XA,hmr,Uz,hbl⟩:=hrel
  have auY:=hbl.size
  have K5r:=ah XA
  have HMr:=ah hmr
  have HAr:=ah Uz
  have Zn:=gZ.trans (hbl.mono gZ.size)
  have KBr:=ah (vK.out.below (hbl.mono (Nat.le_refl _)) vK.out.lt)
  have aqd:=vK.out.lt
  have hvr:=je (HP.out.below Zn) N9 hmr
  have HVr:=ah hvr
  have HG:=HGD.out i
  rw[Nat.zero_add] at HG
  have HGi:=ah HG
  have ajz:=HG.now
  have ac1:=HG.len
  by_cases xW:i<m
  rotate_left
  ·have hdn:decide ((i:Int)<m)=false:=decide_eq_false asQ
   obtain⟨hcb,bC,bn,bA,bE⟩:=aD.rules KBr.out
   clear XA hmr Uz hvr HG
   go_wp2_with fail
   with_reducible refine(HMO.out wr).mono ?_
   rintro en w5 ⟨rfl,kV⟩
   go_wp2_with fail
   go_ret
   exact⟨rfl,Zn.trans (kV.mono Zn.size)⟩
  have hdn:decide ((i:Int)<m)=true:=decide_eq_true asQ
  have hwf:=HWF.out i asQ
  have HST:=ah (fun W (hb:Below w3.heap.size w3 W) hm=>Gd.pO (.slice a1 p.parts.length c1) (.slice a2 p.wins.length c2) (.slice a3 p.chans.length c3) (.slice ia dx.length ic) p s' (nT p h0 i) (8*i) i W (HP.out.below (gZ.trans (hb.mono gZ.size))) N9 hm (Et.out W (gZ.trans (hb.mono gZ.size))) hok HG asQ asQ)
  have Hw:=ah (fun W hp=>bF.at7 (.slice a1 p.parts.length c1) (.slice a2 p.wins.length c2) (.slice a3 p.chans.length c3) p (nT p h0 i).sched (nT p h0 i).now W hp (by rw[ajz];omega) (by rw[ajz];omega))
  obtain⟨h2,hh2⟩:∃h2,h2=nT p h0 (i+1):=⟨_,rfl⟩
  rw[←hh2] at hwf
  rw[show Go.Proofs.YtgmodehldmahiaaGreatDoor.pO p (nT p h0 i)=h2 from hh2.symm] at HST
  have HH2:=ah hh2
  generalize bF.Bn p (nT p h0 i).sched (nT p h0 i).now=r at*
  obtain⟨r1,r2⟩:=r
  dsimp only at Hw
  have aur:=ah hwf
  clear hh2 hwf
  generalize nT p h0 i=h1 at*
  have ajX:IntKind.i64.wrap ((i:Int)+1)=i+1:=IntWalk.i64_in _ asQ
  have auD:h2.now=h1.now+1:=aur.out.now
  have HN1:=ah ajz
  have HN2:=ah auD
  clear XA hmr Uz hvr HG ajz auD
  obtain⟨hcb,bC,bn,bA,bE⟩:=aD.rules KBr.out
  go_wp2_with fail
  with_reducible refine(HMO.out wr).mono ?_
  rintro en w5 ⟨rfl,kV⟩
  have auM:=hbl.trans (kV.mono auY)
  have zI:=ah (KBr.out.below kV KBr.out.lt)
  have K55:=ah (K5r.out.below kV K5r.out.lt)
  have XE:=ah (HMr.out.below kV)
  have apT:=K5r.out.lt
  have LP:=kV.size
  clear hcb bC bn bA bE
  go_wp2_with(first|((with_reducible refine cK 36 ?_);(refine aK rfl 36 _ rfl (hC (.slice a1 p.parts.length c1) (.slice a2 p.wins.length c2) (.slice a3 p.chans.length c3) (.slice ia dx.length ic) p s' h1) eH (HVr.out) K55.out ?_ ?_;(exact asZ)))|fail)
  with_reducible refine(HST.out w5 auM XE.out).mono ?_
  rintro en w6 ⟨s2,rfl,AZ,Bb,kM⟩
  have auL:=auM.trans (kM.mono auM.size)
  have mD:=gZ.trans (auL.mono gZ.size)
  have vL:=ah (zI.out.below kM zI.out.lt)
  have K56:=ah (K55.out.below kM K55.out.lt)
  have au7:=ah (XE.out.below kM)
  have hz6:=kM.size
  have FL:=je (HP.out.below mD) N9 AZ
  have Oc:=ah FL
  have Y7:=ah AZ
  have HA6:=ah (Bb w3.heap.size asQ HAr.out)
  clear FL AZ Bb kV
  go_wp2_with(first|(((with_reducible refine bS 36 ?_);(refine aU rfl 36 _ _ rfl (hC (.slice a1 p.parts.length c1) (.slice a2 p.wins.length c2) (.slice a3 p.chans.length c3) (.slice ia dx.length ic) p s2 h2) eH (Oc.out) (by rfl) ?_ ?_ ?_;(exact asZ);(exact asZ)));(generalize bR:World.alloc _ _=w7;have asO:aD w7 (w6.heap.size) (hC (.slice a1 p.parts.length c1) (.slice a2 p.wins.length c2) (.slice a3 p.chans.length c3) (.slice ia dx.length ic) p s2 h2) 36:=atQ;have hb0:Below w6.heap.size w6 w7:=atP;have hz0:w7.heap.size=w6.heap.size+1:=atu;clear bR;have asO:=ah asO);have aue:=hb0;have amy:=hz0;clear hb0 hz0;have hk7:=vL.out.below aue vL.out.lt;have OC:=K56.out.below aue K56.out.lt;obtain⟨hcb,bC,bn,bA,bE⟩:=aD.rules hk7;obtain⟨hcs,MV,hls,hns,YL⟩:=aD.rules OC)|fail)
  have K87:=asO
  have M5:=ah hk7
  have K57:=ah OC
  clear hk7 OC asO hcb bC bn bA bE hcs MV hls hns YL
  have auK:=auL.trans (aue.mono auL.size)
  have mq:=gZ.trans (auK.mono gZ.size)
  with_reducible refine(Hw.out w7 (HP.out.below mq)).mono ?_
  rintro en w8 ⟨rfl,ku⟩
  have auJ:=auK.trans (ku.mono auK.size)
  have BP:=gZ.trans (auJ.mono gZ.size)
  have xg:=ah (M5.out.below ku M5.out.lt)
  have K58:=ah (K57.out.below ku K57.out.lt)
  have K88:=ah (K87.out.below ku K87.out.lt)
  have aut:=ah ((au7.out.below aue).below ku)
  have aus:=ah ((Y7.out.below aue).below ku)
  have au':=K56.out.lt
  clear ku
  obtain⟨who,hwho⟩:∃who,who=atz (r1,r2):=⟨_,rfl⟩
  have auN:=ah hwho
  clear hwho
  have hd:((r2 !=2)=true∧who=-1)∨((r2 !=2)=false∧r1=who):=by
   have e:=auN.out
   unfold atz at e
   by_cases h2':r2=2
   ·rw[if_pos h2'] at e
    exact .inr ⟨by simp[h2'],e.symm⟩
   ·rw[if_neg h2'] at e
    exact .inl ⟨by simp[h2'],e⟩
  have atE:=aur.out
  have hown:(h2.owner !=who)=false:=by rw[atE.owner,←auN.out];simp
  have hnw:(h2.now !=h1.now+1)=false:=by rw[atE.now];simp
  have hwn:IntKind.u64.wrap (h1.now+1)=h1.now+1:=bF.E8 (by rw[HN1.out];omega) (by rw[HN1.out];omega)
  have hw1:IntKind.u64.wrap p.frame=p.frame:=bF.E8 asQ asQ
  have hw2:p.frame%18446744073709551616=p.frame:=asQ
  have hz0:(p.frame==0)=false:=asX
  have hm:h2.now.tmod p.frame=h2.now%p.frame:=Int.tmod_eq_emod_of_nonneg (by rw[atE.now,HN1.out];omega)
  have hsc:((h2.sched !=h1.sched)=true∧(h2.now%p.frame !=0)=false∧(h2.now%p.frame==0)=true∧(h2.sched !=h2.next)=false)∨((h2.sched !=h1.sched)=false∧(h2.now%p.frame !=0)=false∧(h2.now%p.frame==0)=true∧(h2.sched !=h2.next)=false)∨((h2.sched !=h1.sched)=false∧(h2.now%p.frame !=0)=true∧(h2.now%p.frame==0)=false∧True):=by
   rw[atE.now]
   by_cases g:(h1.now+1)%p.frame=0
   ·have e:=atE.auO g
    by_cases g2:h2.sched=h1.sched
    ·exact .inr (.inl ⟨by simp[g2],by simp[g],by simp[g],by simp[e]⟩)
    ·exact .inl ⟨by simp[g2],by simp[g],by simp[g],by simp[e]⟩
   ·have e:=atE.auP g
    exact .inr (.inr ⟨by simp[e],by simp[g],by simp[g],trivial⟩)
  clear atE
  obtain⟨sv2,ss2,av2,Bw,abW⟩:=s2
  obtain⟨sv1,ss1,av1,auW,au6⟩:=s'
  obtain⟨as2,cs2,hs2,auH⟩:=aus.out.sv.shape
  obtain⟨as1,cs1,hs1,auR⟩:=aut.out.sv.shape
  rw[gV aus.out.mo] at hs2 auH
  rw[gV aut.out.mo] at hs1 auR
  dsimp only at hs2 auH hs1 auR
  subst hs2 hs1
  have auh:h2.seats.length=h1.seats.length:=aur.out.len
  have au8:=ah auh
  clear auh
  have HK8:=ah K88.out
  obtain⟨hcb,bC,bn,bA,bE⟩:=aD.rules xg.out
  obtain⟨hcs,MV,hls,hns,YL⟩:=aD.rules K58.out
  obtain⟨hct,hft,hlt,hnt,hmt⟩:=aD.rules K88.out
  go_upto_if 58 with fail
  refine ET (fun a W=>w8=W∧EJ 182 [(0,g 0),(1,.pointer (some ⟨w.heap.size,0,none⟩)),(3,.bool true),(4,g 4),(5,.pointer (some ⟨w3.heap.size,0,none⟩)),(6,g 6),(7,.int .i64 i),(8,.pointer (some ⟨w6.heap.size,0,none⟩)),(9,.int .i64 who),(15,g 15),(16,g 16),(17,g 17),(18,g 18),(19,g 19),(20,g 20),(21,g 21),(22,g 22),(23,g 23),(24,g 24),(25,g 25),(26,g 26),(27,g 27),(28,g 28),(29,g 29),(30,g 30),(31,g 31),(32,g 32),(33,g 33),(34,g 34),(35,g 35),(36,g 36),(37,g 37)] a) ?_ ?_
  ·rcases hd with⟨su,hd2⟩|⟨su,hd2⟩
   ·go_wp2_with fail
    rw[←hd2]
    exact auC
   ·subst hd2
    go_wp2_with fail
    exact auC
  ·intro a W BO
   obtain⟨hwo,BO⟩:=BO
   subst hwo
   obtain⟨f,rfl,hf⟩:=BO.act
   have f0:f 0=g 0:=hf (0,g 0) asR
   have f1:f 1=.pointer (some ⟨w.heap.size,0,none⟩):=hf (1,.pointer (some ⟨w.heap.size,0,none⟩)) asR
   have f3:f 3=.bool true:=hf (3,.bool true) asR
   have f4:f 4=g 4:=hf (4,g 4) asR
   have f5:f 5=.pointer (some ⟨w3.heap.size,0,none⟩):=hf (5,.pointer (some ⟨w3.heap.size,0,none⟩)) asR
   have f6:f 6=g 6:=hf (6,g 6) asR
   have f7:f 7=.int .i64 i:=hf (7,.int .i64 i) asR
   have f8:f 8=.pointer (some ⟨w6.heap.size,0,none⟩):=hf (8,.pointer (some ⟨w6.heap.size,0,none⟩)) asR
   have f9:f 9=.int .i64 who:=hf (9,.int .i64 who) asR
   have f15:f 15=g 15:=hf (15,g 15) asR
   have f16:f 16=g 16:=hf (16,g 16) asR
   have f17:f 17=g 17:=hf (17,g 17) asR
   have f18:f 18=g 18:=hf (18,g 18) asR
   have f19:f 19=g 19:=hf (19,g 19) asR
   have f20:f 20=g 20:=hf (20,g 20) asR
   have f21:f 21=g 21:=hf (21,g 21) asR
   have f22:f 22=g 22:=hf (22,g 22) asR
   have f23:f 23=g 23:=hf (23,g 23) asR
   have f24:f 24=g 24:=hf (24,g 24) asR
   have f25:f 25=g 25:=hf (25,g 25) asR
   have f26:f 26=g 26:=hf (26,g 26) asR
   have f27:f 27=g 27:=hf (27,g 27) asR
   have f28:f 28=g 28:=hf (28,g 28) asR
   have f29:f 29=g 29:=hf (29,g 29) asR
   have f30:f 30=g 30:=hf (30,g 30) asR
   have f31:f 31=g 31:=hf (31,g 31) asR
   have f32:f 32=g 32:=hf (32,g 32) asR
   have f33:f 33=g 33:=hf (33,g 33) asR
   have f34:f 34=g 34:=hf (34,g 34) asR
   have f35:f 35=g 35:=hf (35,g 35) asR
   have f36:f 36=g 36:=hf (36,g 36) asR
   have f37:f 37=g 37:=hf (37,g 37) asR
   have IB:((List.range 182).map f).toArray=#[g 0,.pointer (some ⟨w.heap.size,0,none⟩),f 2,.bool true,g 4,.pointer (some ⟨w3.heap.size,0,none⟩),g 6,.int .i64 i,.pointer (some ⟨w6.heap.size,0,none⟩),.int .i64 who,f 10,f 11,f 12,f 13,f 14,g 15,g 16,g 17,g 18,g 19,g 20,g 21,g 22,g 23,g 24,g 25,g 26,g 27,g 28,g 29,g 30,g 31,g 32,g 33,g 34,g 35,g 36,g 37,f 38,f 39,f 40,f 41,f 42,f 43,f 44,f 45,f 46,f 47,f 48,f 49,f 50,f 51,f 52,f 53,f 54,f 55,f 56,f 57,f 58,f 59,f 60,f 61,f 62,f 63,f 64,f 65,f 66,f 67,f 68,f 69,f 70,f 71,f 72,f 73,f 74,f 75,f 76,f 77,f 78,f 79,f 80,f 81,f 82,f 83,f 84,f 85,f 86,f 87,f 88,f 89,f 90,f 91,f 92,f 93,f 94,f 95,f 96,f 97,f 98,f 99,f 100,f 101,f 102,f 103,f 104,f 105,f 106,f 107,f 108,f 109,f 110,f 111,f 112,f 113,f 114,f 115,f 116,f 117,f 118,f 119,f 120,f 121,f 122,f 123,f 124,f 125,f 126,f 127,f 128,f 129,f 130,f 131,f 132,f 133,f 134,f 135,f 136,f 137,f 138,f 139,f 140,f 141,f 142,f 143,f 144,f 145,f 146,f 147,f 148,f 149,f 150,f 151,f 152,f 153,f 154,f 155,f 156,f 157,f 158,f 159,f 160,f 161,f 162,f 163,f 164,f 165,f 166,f 167,f 168,f 169,f 170,f 171,f 172,f 173,f 174,f 175,f 176,f 177,f 178,f 179,f 180,f 181]:=auy
   rw[IB]
   clear IB hf f0 f1 f3 f4 f5 f6 f7 f8 f9 f15 f16 f17 f18 f19 f20 f21 f22 f23 f24 f25 f26 f27 f28 f29 f30 f31 f32 f33 f34 f35 f36 f37 BO
   simp only[Exit.then]
   apply_assumption
   refine wp_seq ?_
   refine ET (fun a W=>w8=W∧EJ 182 [(0,g 0),(1,.pointer (some ⟨w.heap.size,0,none⟩)),(3,.bool true),(4,g 4),(5,.pointer (some ⟨w3.heap.size,0,none⟩)),(6,g 6),(7,.int .i64 i),(8,.pointer (some ⟨w6.heap.size,0,none⟩)),(9,.int .i64 who),(15,g 15),(16,g 16),(17,g 17),(18,g 18),(19,g 19),(20,g 20),(21,g 21),(22,g 22),(23,g 23),(24,g 24),(25,g 25),(26,g 26),(27,g 27),(28,g 28),(29,g 29),(30,g 30),(31,g 31),(32,g 32),(33,g 33),(34,g 34),(35,g 35),(36,g 36),(37,g 37)] a) ?_ ?_
   ·rcases hsc with⟨q1,q2,q3,q4⟩|⟨q1,q2,q3,q4⟩|⟨q1,q2,q3,q4⟩
    all_goals
     go_wp2_with fail
     first|exact EJ.of rfl asS atU|exact⟨rfl,EJ.of rfl asS atU⟩
   ·intro a W BO
    obtain⟨hwo,BO⟩:=BO
    subst hwo
    obtain⟨f,rfl,hf⟩:=BO.act
    have f0:f 0=g 0:=hf (0,g 0) asR
    have f1:f 1=.pointer (some ⟨w.heap.size,0,none⟩):=hf (1,.pointer (some ⟨w.heap.size,0,none⟩)) asR
    have f3:f 3=.bool true:=hf (3,.bool true) asR
    have f4:f 4=g 4:=hf (4,g 4) asR
    have f5:f 5=.pointer (some ⟨w3.heap.size,0,none⟩):=hf (5,.pointer (some ⟨w3.heap.size,0,none⟩)) asR
    have f6:f 6=g 6:=hf (6,g 6) asR
    have f7:f 7=.int .i64 i:=hf (7,.int .i64 i) asR
    have f8:f 8=.pointer (some ⟨w6.heap.size,0,none⟩):=hf (8,.pointer (some ⟨w6.heap.size,0,none⟩)) asR
    have f9:f 9=.int .i64 who:=hf (9,.int .i64 who) asR
    have f15:f 15=g 15:=hf (15,g 15) asR
    have f16:f 16=g 16:=hf (16,g 16) asR
    have f17:f 17=g 17:=hf (17,g 17) asR
    have f18:f 18=g 18:=hf (18,g 18) asR
    have f19:f 19=g 19:=hf (19,g 19) asR
    have f20:f 20=g 20:=hf (20,g 20) asR
    have f21:f 21=g 21:=hf (21,g 21) asR
    have f22:f 22=g 22:=hf (22,g 22) asR
    have f23:f 23=g 23:=hf (23,g 23) asR
    have f24:f 24=g 24:=hf (24,g 24) asR
    have f25:f 25=g 25:=hf (25,g 25) asR
    have f26:f 26=g 26:=hf (26,g 26) asR
    have f27:f 27=g 27:=hf (27,g 27) asR
    have f28:f 28=g 28:=hf (28,g 28) asR
    have f29:f 29=g 29:=hf (29,g 29) asR
    have f30:f 30=g 30:=hf (30,g 30) asR
    have f31:f 31=g 31:=hf (31,g 31) asR
    have f32:f 32=g 32:=hf (32,g 32) asR
    have f33:f 33=g 33:=hf (33,g 33) asR
    have f34:f 34=g 34:=hf (34,g 34) asR
    have f35:f 35=g 35:=hf (35,g 35) asR
    have f36:f 36=g 36:=hf (36,g 36) asR
    have f37:f 37=g 37:=hf (37,g 37) asR
    have IB:((List.range 182).map f).toArray=#[g 0,.pointer (some ⟨w.heap.size,0,none⟩),f 2,.bool true,g 4,.pointer (some ⟨w3.heap.size,0,none⟩),g 6,.int .i64 i,.pointer (some ⟨w6.heap.size,0,none⟩),.int .i64 who,f 10,f 11,f 12,f 13,f 14,g 15,g 16,g 17,g 18,g 19,g 20,g 21,g 22,g 23,g 24,g 25,g 26,g 27,g 28,g 29,g 30,g 31,g 32,g 33,g 34,g 35,g 36,g 37,f 38,f 39,f 40,f 41,f 42,f 43,f 44,f 45,f 46,f 47,f 48,f 49,f 50,f 51,f 52,f 53,f 54,f 55,f 56,f 57,f 58,f 59,f 60,f 61,f 62,f 63,f 64,f 65,f 66,f 67,f 68,f 69,f 70,f 71,f 72,f 73,f 74,f 75,f 76,f 77,f 78,f 79,f 80,f 81,f 82,f 83,f 84,f 85,f 86,f 87,f 88,f 89,f 90,f 91,f 92,f 93,f 94,f 95,f 96,f 97,f 98,f 99,f 100,f 101,f 102,f 103,f 104,f 105,f 106,f 107,f 108,f 109,f 110,f 111,f 112,f 113,f 114,f 115,f 116,f 117,f 118,f 119,f 120,f 121,f 122,f 123,f 124,f 125,f 126,f 127,f 128,f 129,f 130,f 131,f 132,f 133,f 134,f 135,f 136,f 137,f 138,f 139,f 140,f 141,f 142,f 143,f 144,f 145,f 146,f 147,f 148,f 149,f 150,f 151,f 152,f 153,f 154,f 155,f 156,f 157,f 158,f 159,f 160,f 161,f 162,f 163,f 164,f 165,f 166,f 167,f 168,f 169,f 170,f 171,f 172,f 173,f 174,f 175,f 176,f 177,f 178,f 179,f 180,f 181]:=auy
    rw[IB]
    clear IB hf f0 f1 f3 f4 f5 f6 f7 f8 f9 f15 f16 f17 f18 f19 f20 f21 f22 f23 f24 f25 f26 f27 f28 f29 f30 f31 f32 f33 f34 f35 f36 f37 BO
    go_wp2_with fail
    go_loopw [11] (fun t W=>∃j:Nat,j≤h2.seats.length∧t=.int .i64 j∧Below w8.heap.size w8 W) (fun t _=>h2.seats.length-(intOf t).toNat)
    case atStart=>exact⟨0,Nat.zero_le _,rfl,Below.refl _ _⟩
    case round=>
     obtain⟨j,hj,rfl,zJ⟩:=hrel
     have GL:=zJ.size
     have KBv:=ah (xg.out.below zJ xg.out.lt)
     have K5v:=ah (K58.out.below zJ K58.out.lt)
     have K8v:=ah (K88.out.below zJ K88.out.lt)
     have auU:=auJ.trans (zJ.mono auJ.size)
     clear hcb bC bn bA bE hcs MV hls hns YL hct hft hlt hnt hmt
     obtain⟨hcb,bC,bn,bA,bE⟩:=aD.rules KBv.out
     obtain⟨hct,hft,hlt,hnt,hmt⟩:=aD.rules K8v.out
     by_cases YO:j<h2.seats.length
     rotate_left
     ·have hjn:decide ((j:Int)<h2.seats.length)=false:=decide_eq_false asQ
      have Ol:=nk (.slice a1 p.parts.length c1) (.slice a2 p.wins.length c2) (.slice a3 p.chans.length c3) (.slice ia dx.length ic) p ⟨.slice as1 h1.seats.length cs1,ss1,av1,auW,au6⟩ h1
      go_wp2_with(first|((with_reducible refine cK 36 ?_);(refine aK rfl 36 _ rfl (hC (.slice a1 p.parts.length c1) (.slice a2 p.wins.length c2) (.slice a3 p.chans.length c3) (.slice ia dx.length ic) p ⟨.slice as2 h2.seats.length cs2,ss2,av2,Bw,abW⟩ h2) eH (Oc.out) K8v.out ?_ ?_;(exact asZ)))|((with_reducible refine bS 36 ?_);(refine aR rfl 36 _ _ rfl K5v.out (.agg (hC (.slice a1 p.parts.length c1) (.slice a2 p.wins.length c2) (.slice a3 p.chans.length c3) (.slice ia dx.length ic) p ⟨.slice as2 h2.seats.length cs2,ss2,av2,Bw,abW⟩ h2)) eH (Oc.out) ?_ (_) (gM 11 Ol ()) ?_ ?_ ?_;(focus(first|(solve|simp)|(simp;omega)|omega));(exact asZ);(exact asZ);(intro N7 nN oP zB f_;have pI:=ah nN;have auV:=ah oP;clear nN oP)))|fail)
      have au0:=(aus.out.below zJ).bP HA6.out K5v.out (vF (HP.out.below (gZ.trans (auU.mono gZ.size))) N9 (aut.out.below zJ)) j6 (by decide) (by decide) (by decide) auV.out
      go_roundw
      case rel=>exact⟨i+1,⟨.slice as2 h2.seats.length cs2,ss2,av2,Bw,abW⟩,asQ,asU,by rw[←HH2.out];exact pI.out,by rw[←HH2.out];exact au0.mono asQ,by rw[←HH2.out];exact HA6.out,bJ (aB (aA auU _) auV.out) (Nat.le_refl _) (Nat.le_refl _)⟩
      case measure=>simp[intOf];omega
     ·have hjn:decide ((j:Int)<h2.seats.length)=true:=decide_eq_true asQ
      have auT:j<h1.seats.length:=by have:=au8.out;omega
      obtain⟨y,hy⟩:∃y,h2.seats[j]?=some y:=⟨_,List.getElem?_eq_getElem YO⟩
      obtain⟨x,hx⟩:∃x,h1.seats[j]?=some x:=⟨_,List.getElem?_eq_getElem auT⟩
      have auF:=aus.out.below zJ
      have auG:=aut.out.below zJ
      obtain⟨v2,hv2⟩:∃v2,ss2[j]?=some v2:=⟨_,List.getElem?_eq_getElem (by rw[show ss2.length=_ from auF.mo];exact YO)⟩
      obtain⟨v1,Ud⟩:∃v1,ss1[j]?=some v1:=⟨_,List.getElem?_eq_getElem (by rw[show ss1.length=_ from auG.mo];exact auT)⟩
      obtain⟨b2,o2,uJ,UW,hc2⟩:=auF.sv.at (kI hv2 hy)
      obtain⟨b1,o1,au5,ava,hc1⟩:=auG.sv.at (kI Ud hx)
      subst uJ au5
      have asN:=hc2 7 (.int .u64 y.1.now) (by rw[show(stV v2 y).cells=xC v2 y.1 (sx y.2.1 y.2.2) from rfl,Array.getElem?_toList,Dr])
      have x7:=hc1 7 (.int .u64 x.1.now) (by rw[show(stV v1 x).cells=xC v1 x.1 (sx x.2.1 x.2.2) from rfl,Array.getElem?_toList,Dr])
      have x17:=hc1 17 (.int .i64 x.2.1) (by rw[show(stV v1 x).cells=xC v1 x.1 (sx x.2.1 x.2.2) from rfl,Array.getElem?_toList,uV];rfl)
      obtain⟨e1,e2,d,auI,hyd,hA,hB,hD⟩:=aur.out.clk j x y hx hy
      rw[←auN.out] at hA hB
      have zC:IntKind.u64.wrap (y.1.now-x.1.now)=d:=by
       rw[show y.1.now-x.1.now=d by omega]
       rcases auI with h|h<;>subst h<;>rfl
      have au_:IntKind.i64.wrap ((j:Int)+1)=j+1:=IntWalk.i64_in _ (by have:=auH;omega)
      have aor:(((j:Int)!=who)=true∧((j:Int)==who)=false∧d=0)∨(((j:Int)!=who)=false∧((j:Int)==who)=true∧x.2.1=1∧d=1)∨(((j:Int)!=who)=false∧((j:Int)==who)=true∧x.2.1=2∧d=0)∨(((j:Int)!=who)=false∧((j:Int)==who)=true∧x.2.1=2∧d=1)∨(((j:Int)!=who)=false∧((j:Int)==who)=true∧(x.2.1≠1∧x.2.1≠2)∧d=0):=by
       by_cases asL:(j:Int)=who
       ·right
        have b1:((j:Int)!=who)=false:=by simp[asL]
        have b2:((j:Int)==who)=true:=by simp[asL]
        by_cases s1:x.2.1=1
        ·exact .inl ⟨b1,b2,s1,hB asL s1⟩
        ·by_cases s2:x.2.1=2
         ·rcases auI with h|h
          ·exact .inr (.inl ⟨b1,b2,s2,h⟩)
          ·exact .inr (.inr (.inl ⟨b1,b2,s2,h⟩))
         ·exact .inr (.inr (.inr ⟨b1,b2,⟨s1,s2⟩,hD s1 s2⟩))
       ·exact .inl ⟨by simp[asL],by simp[asL],hA asL⟩
      clear hyd hA hB hD auI auG auF hc1 hc2 hx hy Ud hv2 e1 e2
      obtain⟨hcs,MV,hls,hns,YL⟩:=aD.rules K5v.out
      generalize x.2.1=st at*
      rcases aor with⟨b1',b2',rfl⟩|⟨b1',b2',rfl,rfl⟩|⟨b1',b2',rfl,rfl⟩|⟨b1',b2',rfl,rfl⟩|⟨b1',b2',⟨g1,g2⟩,rfl⟩
      ·by_cases s1:st=1
       ·subst s1
        exact atV
       ·have g1:(st==1)=false:=by simp[s1]
        by_cases s2:st=2
        ·subst s2
         exact atV
        ·have g2:(st==2)=false:=by simp[s2]
         exact atV
      ·
       go_wp2_with fail
       go_region
       go_wp2_with fail
       go_roundw
       case rel=>exact⟨j+1,asQ,asU,by exact bl⟩
       case measure=>simp[intOf];omega
      ·
       go_wp2_with fail
       go_region
       go_wp2_with fail
       go_roundw
       case rel=>exact⟨j+1,asQ,asU,by exact bl⟩
       case measure=>simp[intOf];omega
      ·
       go_wp2_with fail
       go_region
       go_wp2_with fail
       go_roundw
       case rel=>exact⟨j+1,asQ,asU,by exact bl⟩
       case measure=>simp[intOf];omega
      ·have g1':(st==1)=false:=by simp[g1]
       have g2':(st==2)=false:=by simp[g2]
       exact atV
end Go.Proofs.YtgmodehldmahiaaGreatDoor
