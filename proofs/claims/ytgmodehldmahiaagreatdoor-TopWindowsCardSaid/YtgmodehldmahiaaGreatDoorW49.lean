/- Part 49 of 50 of the proof of topWindows_holds. Conditions: see each. -/
import Derived.Test.YtgmodehldmahiaaGreatDoorW14
import Derived.Test.YtgmodehldmahiaaGreatDoorW48
set_option linter.unusedVariables false
set_option linter.unusedSimpArgs false
set_option maxRecDepth 8192
set_option maxHeartbeats 40000000
namespace Go.Proofs.YtgmodehldmahiaaGreatDoor
open Go Go.RowKit Go.Tm
attribute [local go_sem] fB fA fu dR dA dQ dP dO dN dM dL dK dJ dI dH dG dF iq ig h_ g_ gZ gY gX gN gW gV fF fE fD fC eY eX eU
attribute [local go_sem] Dm Dl Dk Dj Di Aj Dh Df Dc Db wQ
theorem QE(pv wv cv iv:Value)(p:Plan.iE)(dZ:List (List ByteArray))(N:Int)(w:World)(hp:Plan.gq w pv wv cv p)(hi:xV w iv dZ)(hT:iV w)(hok:Plan.dW p)(him:L8 dZ):
  Calls Tryz.prog 5 #[.agg #[pv,.int .i64 p.frame,wv,cv,iv,.int .i64 N]] w fun e w'=>e=.returned (.bool true)∧Below w.heap.size w w':=by
 have HSH:=Lib.hid (fun W (h:Below w.heap.size w W)=>Ja W (hT.below h))
 have HFW:=Lib.hid (fun W (h:Below w.heap.size w W)=>TB iv dZ W (hi.below h))
 have HBG:=Lib.hid (fun W (h:Below w.heap.size w W)=>Nt pv wv cv iv p dZ W (hp.below h) (hi.below h) hok him)
 have HMO:=Lib.hid (fun W=>aaB N W)
 have Ec:=Lib.hid (fun W (h:Below w.heap.size w W)=>hT.below h)
 have HP:=Lib.hid hp
 have hki:=hi.kind
 have hml:=aaC N
 have HGD:=Lib.hid (fun i=>(Nf hok him).run hok i)
 have HWF:=Lib.hid (fun i hi=>ZF p dZ i hi)
 obtain⟨a1,c1,a2,c2,a3,c3,rfl,rfl,rfl,hl1,hl2,hl3⟩:=hp.shape
 obtain⟨ia,ic,rfl,hil⟩:=hi.shape
 generalize rF N=m at*
 have hf1:=hok.FE
 have hf2:=hok.uy
 clear hp hi hT
 go_enter Tryz.func5,Tryz.ntmps5
 go_wp2_with fail
 ((generalize bN:World.alloc _ _=w0);(have KB:aC w0 (w.heap.size) (#[.slice a1 p.parts.length c1,.int .i64 p.frame,.slice a2 p.wins.length c2,.slice a3 p.chans.length c3,.slice ia dZ.length ic,.int .i64 N]) 67:=bA);(have hb0:Below w.heap.size w w0:=bM);(have hz0:w0.heap.size=w.heap.size+1:=bX);(clear bN);(have KB:=Lib.hid KB))
 with_reducible refine(HSH.out w0 hb0).mono ?_
 rintro en w1 ⟨rfl,hb1⟩
 have bP:=hb0.trans (hb1.mono hb0.size)
 have vV:=Lib.hid (KB.out.below hb1 KB.out.lt)
 (obtain⟨hcb,bn,hlb,hnb,hmb⟩:=aC.rules vV.out)
 go_wp2_with fail
 with_reducible refine(HFW.out w1 bP).mono ?_
 rintro en w2 ⟨⟨bb,rfl⟩,hb2⟩
 have hbw2:=bP.trans (hb2.mono bP.size)
 have Eo:=Lib.hid (vV.out.below hb2 vV.out.lt)
 clear hcb bn hlb hnb hmb
 (obtain⟨hcb,bn,hlb,hnb,hmb⟩:=aC.rules Eo.out)
 go_wp2_with fail
 with_reducible refine(HBG.out w2 hbw2).mono ?_
 rintro en w3 ⟨s3,rfl,ng,qH,hb3⟩
 have fJ:=hbw2.trans (hb3.mono hbw2.size)
 have hv3:=mJ (HP.out.below fJ) hki ng
 have HV3:=Lib.hid hv3
 have OY:=Lib.hid ng
 have G7:=Lib.hid (Eo.out.below hb3 Eo.out.lt)
 obtain⟨h0,hh0⟩:∃h0,h0=f_ p dZ:=⟨_,rfl⟩
 rw[←hh0] at HGD HWF HV3 OY⊢
 clear hv3 ng qH hcb bn hlb hnb hmb hh0 hb1 hb2
 cases bb
 ·go_wp2_with(first|((with_reducible refine bO 36 ?_);(refine aU rfl 36 _ _ rfl (hC (.slice a1 p.parts.length c1) (.slice a2 p.wins.length c2) (.slice a3 p.chans.length c3) (.slice ia dZ.length ic) p s3 h0) d_ (HV3.out) aF ?_ ?_ ?_;(exact aG);(exact aG)))|fail)
  go_ret
  exact⟨rfl,Qd⟩
 go_wp2_with(first|((with_reducible refine bO 36 ?_);(refine aU rfl 36 _ _ rfl (hC (.slice a1 p.parts.length c1) (.slice a2 p.wins.length c2) (.slice a3 p.chans.length c3) (.slice ia dZ.length ic) p s3 h0) d_ (HV3.out) aF ?_ ?_ ?_;(exact aG);(exact aG)))|fail)
 ((generalize bN:World.alloc _ _=w4);(have K5:aC w4 (w3.heap.size) (hC (.slice a1 p.parts.length c1) (.slice a2 p.wins.length c2) (.slice a3 p.chans.length c3) (.slice ia dZ.length ic) p s3 h0) 36:=bA);(have hb0:Below w3.heap.size w3 w4:=bM);(have hz0:w4.heap.size=w3.heap.size+1:=bX);(clear bN);(have K5:=Lib.hid K5))
 have Ew:=hb0
 have ak2:=hz0
 clear hb0 hz0
 go_loopw [7] (fun t W=>∃(i:Nat) (s':Hs),i≤m∧t=.int .i64 i∧aC W w3.heap.size (hC (.slice a1 p.parts.length c1) (.slice a2 p.wins.length c2) (.slice a3 p.chans.length c3) (.slice ia dZ.length ic) p s' (kX p h0 i)) 36∧MR W s' (kX p h0 i) (8*i)∧gG w3.heap.size s' (kX p h0 i)∧Below w3.heap.size w3 W) (fun t _=>m-(intOf t).toNat)
 case atStart=>exact⟨0,s3,Nat.zero_le _,rfl,K5.out,OY.out.below Ew,OY.out.away (Nat.le_refl _),Ew⟩
 case round=>
  obtain⟨i,s',hi',rfl,hk5,hmr,haw,hbl⟩:=hrel
  have ajB:=hbl.size
  have K5r:=Lib.hid hk5
  have HMr:=Lib.hid hmr
  have HAr:=Lib.hid haw
  have Hy:=fJ.trans (hbl.mono fJ.size)
  have KBr:=Lib.hid (G7.out.below (hbl.mono (Nat.le_refl _)) G7.out.lt)
  have aln:=G7.out.lt
  have hvr:=mJ (HP.out.below Hy) hki hmr
  have HVr:=Lib.hid hvr
  have HG:=HGD.out i
  rw[Nat.zero_add] at HG
  have HGi:=Lib.hid HG
  have EM:=HG.now
  have hlen1:=HG.len
  by_cases hil:i<m
  rotate_left
  ·have hdn:decide ((i:Int)<m)=false:=decide_eq_false ah
   (obtain⟨hcb,bn,hlb,hnb,hmb⟩:=aC.rules KBr.out)
   clear hk5 hmr haw hvr HG
   go_wp2_with fail
   with_reducible refine(HMO.out wr).mono ?_
   rintro en w5 ⟨rfl,hb5⟩
   go_wp2_with fail
   go_ret
   exact⟨rfl,Hy.trans (hb5.mono Hy.size)⟩
  have hdn:decide ((i:Int)<m)=true:=decide_eq_true ah
  have hwf:=HWF.out i ah
  have HST:=Lib.hid (fun W (hb:Below w3.heap.size w3 W) hm=>Gd.iX (.slice a1 p.parts.length c1) (.slice a2 p.wins.length c2) (.slice a3 p.chans.length c3) (.slice ia dZ.length ic) p s' (kX p h0 i) (8*i) i W (HP.out.below (fJ.trans (hb.mono fJ.size))) hki hm (Ec.out W (fJ.trans (hb.mono fJ.size))) hok HG ah ah)
  have HAT:=Lib.hid (fun W hp=>Plan.Vf (.slice a1 p.parts.length c1) (.slice a2 p.wins.length c2) (.slice a3 p.chans.length c3) p (kX p h0 i).sched (kX p h0 i).now W hp (by rw[EM];omega) (by rw[EM];omega))
  obtain⟨h2,hh2⟩:∃h2,h2=kX p h0 (i+1):=⟨_,rfl⟩
  rw[←hh2] at hwf
  rw[show Go.Proofs.YtgmodehldmahiaaGreatDoor.iX p (kX p h0 i)=h2 from hh2.symm] at HST
  have HH2:=Lib.hid hh2
  generalize Plan.qF p (kX p h0 i).sched (kX p h0 i).now=r at*
  obtain⟨r1,r2⟩:=r
  dsimp only at HAT
  have XD:=Lib.hid hwf
  clear hh2 hwf
  generalize kX p h0 i=h1 at*
  have abr:IntKind.i64.wrap ((i:Int)+1)=i+1:=IntWalk.i64_in _ ah
  have ae0:h2.now=h1.now+1:=XD.out.now
  have HN1:=Lib.hid EM
  have HN2:=Lib.hid ae0
  clear hk5 hmr haw hvr HG EM ae0
  (obtain⟨hcb,bn,hlb,hnb,hmb⟩:=aC.rules KBr.out)
  go_wp2_with fail
  with_reducible refine(HMO.out wr).mono ?_
  rintro en w5 ⟨rfl,hb5⟩
  have af0:=hbl.trans (hb5.mono ajB)
  have G6:=Lib.hid (KBr.out.below hb5 KBr.out.lt)
  have K55:=Lib.hid (K5r.out.below hb5 K5r.out.lt)
  have HM5:=Lib.hid (HMr.out.below hb5)
  have ahN:=K5r.out.lt
  have GY:=hb5.size
  clear hcb bn hlb hnb hmb
  go_wp2_with(first|((with_reducible refine bS 36 ?_);(refine aJ rfl 36 _ rfl (hC (.slice a1 p.parts.length c1) (.slice a2 p.wins.length c2) (.slice a3 p.chans.length c3) (.slice ia dZ.length ic) p s' h1) d_ (HVr.out) K55.out ?_ ?_;(exact aG)))|fail)
  with_reducible refine(HST.out w5 af0 HM5.out).mono ?_
  rintro en w6 ⟨s2,rfl,Jv,BA,hb6⟩
  have afZ:=af0.trans (hb6.mono af0.size)
  have tu:=fJ.trans (afZ.mono fJ.size)
  have yc:=Lib.hid (G6.out.below hb6 G6.out.lt)
  have K56:=Lib.hid (K55.out.below hb6 K55.out.lt)
  have akC:=Lib.hid (HM5.out.below hb6)
  have WY:=hb6.size
  have hv6:=mJ (HP.out.below tu) hki Jv
  have OD:=Lib.hid hv6
  have HM6:=Lib.hid Jv
  have HA6:=Lib.hid (BA w3.heap.size ah HAr.out)
  clear hv6 Jv BA hb5
  go_wp2_with(first|(((with_reducible refine bO 36 ?_);(refine aU rfl 36 _ _ rfl (hC (.slice a1 p.parts.length c1) (.slice a2 p.wins.length c2) (.slice a3 p.chans.length c3) (.slice ia dZ.length ic) p s2 h2) d_ (OD.out) aF ?_ ?_ ?_;(exact aG);(exact aG)));((generalize bN:World.alloc _ _=w7);(have K8:aC w7 (w6.heap.size) (hC (.slice a1 p.parts.length c1) (.slice a2 p.wins.length c2) (.slice a3 p.chans.length c3) (.slice ia dZ.length ic) p s2 h2) 36:=bA);(have hb0:Below w6.heap.size w6 w7:=bM);(have hz0:w7.heap.size=w6.heap.size+1:=bX);(clear bN);(have K8:=Lib.hid K8));(have Xz:=hb0);(have afp:=hz0);(clear hb0 hz0);(have hk7:=yc.out.below Xz yc.out.lt);(have afL:=K56.out.below Xz K56.out.lt);(obtain⟨hcb,bn,hlb,hnb,hmb⟩:=aC.rules hk7);(obtain⟨hcs,hfs,hls,hns,hms⟩:=aC.rules afL))|fail)
  have K87:=K8
  have KB7:=Lib.hid hk7
  have K57:=Lib.hid afL
  clear hk7 afL K8 hcb bn hlb hnb hmb hcs hfs hls hns hms
  have afY:=afZ.trans (Xz.mono afZ.size)
  have oK:=fJ.trans (afY.mono fJ.size)
  with_reducible refine(HAT.out w7 (HP.out.below oK)).mono ?_
  rintro en w8 ⟨rfl,jU⟩
  have Xx:=afY.trans (jU.mono afY.size)
  have Xv:=fJ.trans (Xx.mono fJ.size)
  have x9:=Lib.hid (KB7.out.below jU KB7.out.lt)
  have K58:=Lib.hid (K57.out.below jU K57.out.lt)
  have K88:=Lib.hid (K87.out.below jU K87.out.lt)
  have Uu:=Lib.hid ((akC.out.below Xz).below jU)
  have Ut:=Lib.hid ((HM6.out.below Xz).below jU)
  have alk:=K56.out.lt
  clear jU
  obtain⟨who,hwho⟩:∃who,who=LK (r1,r2):=⟨_,rfl⟩
  have abH:=Lib.hid hwho
  clear hwho
  have hd:((r2 !=2)=true∧who=-1)∨((r2 !=2)=false∧r1=who):=by
   have e:=abH.out
   unfold LK at e
   by_cases h2':r2=2
   ·rw[if_pos h2'] at e
    exact .inr ⟨by simp[h2'],e.symm⟩
   ·rw[if_neg h2'] at e
    exact .inl ⟨by simp[h2'],e⟩
  have O4:=XD.out
  have hown:(h2.owner !=who)=false:=by rw[O4.owner,←abH.out];simp
  have hnw:(h2.now !=h1.now+1)=false:=by rw[O4.now];simp
  have hwn:IntKind.u64.wrap (h1.now+1)=h1.now+1:=Plan.pE (by rw[HN1.out];omega) (by rw[HN1.out];omega)
  have hw1:IntKind.u64.wrap p.frame=p.frame:=Plan.pE ah ah
  have hw2:p.frame%18446744073709551616=p.frame:=ah
  have hz0:(p.frame==0)=false:=aR
  have hm:h2.now.tmod p.frame=h2.now%p.frame:=Int.tmod_eq_emod_of_nonneg (by rw[O4.now,HN1.out];omega)
  have hsc:((h2.sched !=h1.sched)=true∧(h2.now%p.frame !=0)=false∧(h2.now%p.frame==0)=true∧(h2.sched !=h2.next)=false)∨((h2.sched !=h1.sched)=false∧(h2.now%p.frame !=0)=false∧(h2.now%p.frame==0)=true∧(h2.sched !=h2.next)=false)∨((h2.sched !=h1.sched)=false∧(h2.now%p.frame !=0)=true∧(h2.now%p.frame==0)=false∧True):=by
   rw[O4.now]
   by_cases g:(h1.now+1)%p.frame=0
   ·have e:=O4.agK g
    by_cases g2:h2.sched=h1.sched
    ·exact .inr (.inl ⟨by simp[g2],wH,wH,by simp[e]⟩)
    ·exact .inl ⟨by simp[g2],wH,wH,by simp[e]⟩
   ·have e:=O4.agL g
    exact .inr (.inr ⟨by simp[e],wH,wH,trivial⟩)
  clear O4
  obtain⟨sv2,ss2,av2,oQ,DV⟩:=s2
  obtain⟨sv1,ss1,av1,aeW,aii⟩:=s'
  obtain⟨as2,cs2,hs2,abz⟩:=Ut.out.sv.shape
  obtain⟨as1,cs1,hs1,ahO⟩:=Uu.out.sv.shape
  rw[ku Ut.out.nX] at hs2 abz
  rw[ku Uu.out.nX] at hs1 ahO
  dsimp only at hs2 abz hs1 ahO
  subst hs2 hs1
  have Zr:h2.seats.length=h1.seats.length:=XD.out.len
  have aiG:=Lib.hid Zr
  clear Zr
  have HK8:=Lib.hid K88.out
  (obtain⟨hcb,bn,hlb,hnb,hmb⟩:=aC.rules x9.out)
  (obtain⟨hcs,hfs,hls,hns,hms⟩:=aC.rules K58.out)
  (obtain⟨hct,hft,hlt,hnt,hmt⟩:=aC.rules K88.out)
  rcases hd with⟨hd1,hd2⟩|⟨hd1,hd2⟩
  ·subst hd2
   rcases hsc with⟨q1,q2,q3,q4⟩|⟨q1,q2,q3,q4⟩|⟨q1,q2,q3,q4⟩
   ·as_aux_lemma=>
    exact afk
   ·as_aux_lemma=>
    exact afk
   ·as_aux_lemma=>
    exact afk
  ·subst hd2
   rcases hsc with⟨q1,q2,q3,q4⟩|⟨q1,q2,q3,q4⟩|⟨q1,q2,q3,q4⟩
   ·as_aux_lemma=>
    exact afl
   ·as_aux_lemma=>
    exact afl
   ·as_aux_lemma=>
    exact afl
end Go.Proofs.YtgmodehldmahiaaGreatDoor
