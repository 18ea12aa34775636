/- Part 45 of 50 of the proof of topWindows_holds. Conditions: see each. -/
import Derived.Test.YtgmodehldmahiaaGreatDoorW14
import Derived.Test.YtgmodehldmahiaaGreatDoorW44
import Derived.Test.YtgmodehldmahiaaGreatDoorW13
set_option linter.unusedVariables false
set_option linter.unusedSimpArgs false
set_option maxRecDepth 8192
set_option maxHeartbeats 40000000
namespace Go.Proofs.YtgmodehldmahiaaGreatDoor
open Go Go.RowKit Go.Tm
attribute [local go_sem] fB fA fu dR dA dQ dP dO dN dM dL dK dJ dI dH dG dF iq ig h_ g_ gZ gY gX gN gW gV fF fE fD fC eY eX eU
attribute [local go_sem] Dm Dl Dk Dj Di Aj Dh Df Dc Db wQ
theorem Nu{p:Plan.iE}{sched t:Int}(h:(Plan.qF p sched t).2≠0):Plan.dW p∧0≤(Plan.qF p sched t).1∧(Plan.qF p sched t).1<p.parts.length:=by
 unfold Plan.qF Plan.LB at*
 split at h
 ·exact absurd rfl h
 ·rename_i x hx
  obtain⟨h1,h2⟩:=Plan.I5 x (List.mem_of_find?_eq_some hx)
  unfold Plan.mq at h2
  exact⟨h1,lq,lq⟩
theorem Z5{p:Plan.iE}{sched t:Int}(h:Plan.uW p sched t=true):(Plan.qF p sched t).2≠0:=by
 unfold Plan.uW at h
 obtain⟨x,hx,hb⟩:=List.any_eq_true.1 h
 have hw:=Plan.vg x hx
 unfold Plan.L6 at hb
 unfold Plan.WOk at hw
 simp only[decide_eq_true_eq] at hb
 unfold Plan.qF Plan.LB
 split
 ·rename_i hn
  rw[List.find?_eq_none] at hn
  have:=hn x hx
  unfold Plan.vZ at this
  simp only[decide_eq_true_eq] at this
  omega
 ·unfold Plan.zT
  dsimp only
  split<;>decide
theorem ajl(pv wv cv iv:Value)(p:Plan.iE)(s:Hs)(h:Hn)(n B1 B3 who:Nat)(x:St)(w:World)(hr:MR w s h n)(hx:h.seats[who]?=some x)(h1:aC w B1 (hC pv wv cv iv p s h) 36)(h3:aC w B3 #[.int .i64 who] 3):
  Calls Tryz.prog 37 #[.pointer (some ⟨B1,0,none⟩),.pointer (some ⟨B3,0,none⟩)] w fun e w'=>e=.returned (.bool (x.2.1==1))∧Below w.heap.size w w':=by
 have hwl:=(List.getElem?_eq_some_iff.1 hx).1
 obtain⟨u,hu⟩:∃u,s.ss[who]?=some u:=⟨_,List.getElem?_eq_getElem PG⟩
 have hkr:=hr.kr who u x hu hx
 obtain⟨asv,Ox,hsv,Es⟩:=hr.sv.shape
 obtain⟨sv,ss,av,rows,got⟩:=s
 dsimp only at hsv hu
 subst hsv
 obtain⟨bs,os,hbs,O8,hcs⟩:=hr.sv.at (kD hu hx)
 subst hbs
 rw[ku hr.nX] at Es hr h1
 have HCS:=Lib.hid hcs
 have JA:=jM hkr x.2.1 x.2.2
 have HG:=Lib.hid (fun W=>Cn u x.1 x.2.1 x.2.2 W)
 clear hr hkr hcs
 (obtain⟨hcb,bn,hlb,hnb,hmb⟩:=aC.rules h1)
 (obtain⟨hc3,hf3,hl3,sU,ng⟩:=aC.rules h3)
 clear h1 h3
 go_enter Tryz.func37,Tryz.ntmps37
 go_wp2_with(first|((with_reducible refine bS 59 ?_);(refine aO rfl 59 _ rfl bs (os+who*19) ?_ (iM u x.1 x.2.1 x.2.2) eF (JA) HCS.out ?_;(exact aG)))|fail)
 with_reducible refine(HG.out _).mono ?_
 rintro en w1 ⟨rfl,hb1⟩
 go_wp2_with fail
 go_ret
 exact⟨rfl,hb1⟩
structure TL(pv wv cv iv:Value)(p:Plan.iE)(w:World)(B3:Nat)(r1 r2:Int)(s:Hs)(h:Hn)(n:Nat)(h1:Hn)(a:Act)(W:World):Prop where
 act:∃(u0 u5 u6 u7 u8 u9 u10 u11 u12 u13 u14 u15 u16 u17 u18 u19 u20 u21 u22 u23 u24 u25 u26 u27 u28 u29 u30 u31 u32 u33 u34 u35 u36 u37 u38 u39 u40 u41 u42 u43 u44 u45 u46 u47 u48 u49 u50 u51 u52 u53 u54 u55 u56 u57 u58 u59 u60 u61 u62 u63 u64 u65 u66 u67 u68:Value),a={tmps:=#[u0,.pointer (some ⟨w.heap.size,0,none⟩),.pointer (some ⟨w.heap.size+1,0,none⟩),.pointer (some ⟨B3,0,none⟩),.int .i64 r2,u5,u6,u7,u8,u9,u10,u11,u12,u13,u14,u15,u16,u17,u18,u19,u20,u21,u22,u23,u24,u25,u26,u27,u28,u29,u30,u31,u32,u33,u34,u35,u36,u37,u38,u39,u40,u41,u42,u43,u44,u45,u46,u47,u48,u49,u50,u51,u52,u53,u54,u55,u56,u57,u58,u59,u60,u61,u62,u63,u64,u65,u66,u67,u68],defers:=[]}
 ex:∃s1,aC W w.heap.size (hC pv wv cv iv p s1 h1) 36∧MR W s1 h1 n∧(∀B,B<w.heap.size+2→gG B s h→gG B s1 h1)
 kz:aC W (w.heap.size+1) hC0 36
 ki:aC W B3 #[.int .i64 r1] 3
 bw:Below w.heap.size w W
theorem MR.AL{w:World}{pv wv cv iv:Value}{p:Plan.iE}{s:Hs}{h:Hn}{n B o:Nat}{t:TypeId}{v:Value}(hb:aC w B (hC pv wv cv iv p s h) t)(hm:MR w s h n)(ha:gG B s h)(hp:Plan.gq w pv wv cv p)(hi:kind iv=5):MR (w.setCell ⟨B,o,none⟩ v) s h n:=
 hm.bL ha hb (oI hp hi hm) iA aB aB aB (aM w B o v)
theorem KU(p:Plan.iE)(who:Int)(x:Int)(l:List Ms):∀g:Hn,gL p who {g with owner:=x} l={gL p who g l with owner:=x}:=by
 induction l with
 |nil=>intro g;rfl
 |cons m r ih=>
  intro g
  have e:jR p who {g with owner:=x} m={jR p who g m with owner:=x}:=by
   unfold jR qZ
   split
   ·dsimp only
    split<;>rfl
   ·rfl
  show gL p who (jR p who {g with owner:=x} m) r={gL p who (jR p who g m) r with owner:=x}
  rw[e,ih]
theorem Ld(p:Plan.iE)(who:Nat)(x:Int)(g:Hn):iN p who {g with owner:=x}={iN p who g with owner:=x}:=by
 unfold iN
 dsimp only
 split
 ·rename_i y hy
  unfold jQ
  rw[show({({g with owner:=x}:Hn) with seats:=g.seats.set who (mD p who y)}:Hn)={({g with seats:=g.seats.set who (mD p who y)}:Hn) with owner:=x} from rfl,KU]
  split<;>rfl
 ·rfl
theorem QJ(p:Plan.iE)(g:Hn)(r:Int×Int):iI p g r=iI p {g with owner:=-1} r:=by
 unfold iI
 dsimp only
 rw[Ld p r.1.toNat (-1) g]
 rfl
theorem agG(pv wv cv iv:Value)(p:Plan.iE)(s:Hs)(h:Hn)(n a e:Nat)(w:World)(hp:Plan.gq w pv wv cv p)(hi:kind iv=5)(hr:MR w s h n)(hT:iV w)(hok:Plan.dW p)
  (hlen:h.seats.length=p.parts.length)(LQ:0≤h.now∧h.now<18446744073709551615)(hb:iZ a e 8 h)(ha:a+2*e+200≤1000000000)(he:e≤100000000)(hn:n+8≤1000000):
  Calls Tryz.prog 15 #[.agg (hC pv wv cv iv p s h)] w (FI w pv wv cv iv p s h (iX p h) (n+8)):=by
 have HP:=Lib.hid hp
 have HM:=Lib.hid hr
 have Ec:=Lib.hid (fun W (h:Below w.heap.size w W)=>hT.below h)
 have HLEN:=Lib.hid hlen
 have HBD:=Lib.hid hb
 obtain⟨a1,c1,a2,c2,a3,c3,rfl,rfl,rfl,hl1,hl2,hl3⟩:=hp.shape
 have hf1:=hok.FE
 have hf2:=hok.uy
 have HAT:=Lib.hid (fun W hp=>Plan.Ki (.slice a1 p.parts.length c1) (.slice a2 p.wins.length c2) (.slice a3 p.chans.length c3) p h.sched h.now W hp LQ.1 ah)
 have HST:=Lib.hid (fun W hp=>Plan.QU (.slice a1 p.parts.length c1) (.slice a2 p.wins.length c2) (.slice a3 p.chans.length c3) p h.sched h.now W hp LQ.1 ah)
 obtain⟨hq,WM⟩:∃hq,hq=iX p h:=⟨_,rfl⟩
 rw[←WM]
 have Xg:=Lib.hid WM
 have hAV:=fun e=>(Nu (p:=p) (sched:=h.sched) (t:=h.now) e).2
 have hSA:=fun e=>Z5 (p:=p) (sched:=h.sched) (t:=h.now) e
 have hwin:dD p h=if Plan.uW p h.sched h.now=true then(match h.seats[(Plan.qF p h.sched h.now).1.toNat]? with|some x=>{h with seats:=h.seats.set (Plan.qF p h.sched h.now).1.toNat (vG x)}|none=>h) else h:=rfl
 have hstep:hq=rC p (iI p (dD p h) (Plan.qF p h.sched h.now)):=WM
 generalize Plan.qF p h.sched h.now=r at*
 generalize Plan.uW p h.sched h.now=sb at*
 obtain⟨r1,r2⟩:=r
 dsimp only at HAT hAV hSA hwin hstep
 have HAV:=Lib.hid hAV
 have HSA:=Lib.hid hSA
 have aiw:=Lib.hid hwin
 have uf:=Lib.hid hstep
 clear hp hr hT hlen hb WM Xg hAV hSA hwin hstep
 go_enter Tryz.func15,Tryz.ntmps15
 go_wp2_with fail
 ((generalize bN:World.alloc _ _=w0);(have KB:aC w0 (w.heap.size) (hC (.slice a1 p.parts.length c1) (.slice a2 p.wins.length c2) (.slice a3 p.chans.length c3) iv p s h) 36:=bA);(have KZ:aC w0 (w.heap.size+1) (hC0) 36:=bA);(have hb0:Below w.heap.size w w0:=bM);(have hz0:w0.heap.size=w.heap.size+1+1:=bX);(clear bN);(have KB:=Lib.hid KB);(have KZ:=Lib.hid KZ))
 have hzw:w.heap.size+1<w0.heap.size:=ah
 with_reducible refine(HAT.out _ (HP.out.below hb0)).mono ?_
 rintro en w1 ⟨rfl,hb1⟩
 have hz1:=hb1.size
 have vV:=Lib.hid (KB.out.below hb1 KB.out.lt)
 have Bq:=Lib.hid (KZ.out.below hb1 KZ.out.lt)
 have bP:=hb0.trans (hb1.mono hb0.size)
 clear hz0 hb1
 (obtain⟨hcb,bn,hlb,hnb,hmb⟩:=aC.rules vV.out)
 go_wp2_with fail
 generalize bN:World.alloc _ _=w2
 have kb2:aC w2 w.heap.size (hC (.slice a1 p.parts.length c1) (.slice a2 p.wins.length c2) (.slice a3 p.chans.length c3) iv p s {h with owner:=-1}) 36:=by rw[←bN];exact((vV.out.set 10 _).cast (Qs ..)).alloc _
 have ki2:aC w2 w1.heap.size #[.int .i64 r1] 3:=by rw[←bN];exact aC.new1 _ _ _ aI
 have kz2:aC w2 (w.heap.size+1) hC0 36:=by rw[←bN];exact(Bq.out.other _ _ aI).alloc _
 have hbw2:Below w.heap.size w w2:=bM
 have hz2:w1.heap.size<w2.heap.size:=bX
 have Eo:=Lib.hid kb2
 have KI2:=Lib.hid ki2
 have Oz:=Lib.hid kz2
 have hm2:MR w2 s {h with owner:=-1} n:=((HM.out.below hbw2).num (h':={h with owner:=-1}) rfl)
 have HM2:=Lib.hid hm2
 clear bN kb2 ki2 kz2 hm2 hcb bn hlb hnb hmb
 with_reducible refine(HST.out _ (HP.out.below hbw2)).mono ?_
 rintro en w3 ⟨rfl,hb3⟩
 have hz3:=hb3.size
 have fJ:=hbw2.trans (hb3.mono hbw2.size)
 have G7:=Lib.hid (Eo.out.below hb3 Eo.out.lt)
 have KI3:=Lib.hid (KI2.out.below hb3 KI2.out.lt)
 have Jw:=Lib.hid (Oz.out.below hb3 Oz.out.lt)
 have OY:=Lib.hid (HM2.out.below hb3)
 clear hb3
 go_upto_if 23 with fail
 refine Zd (TL (.slice a1 p.parts.length c1) (.slice a2 p.wins.length c2) (.slice a3 p.chans.length c3) iv p w w1.heap.size r1 r2 s h n {dD p h with owner:=-1}) ?_ ?_
 ·have hwin:=aiw.out
  cases sb
  ·rw[if_neg aB] at hwin
   rw[hwin]
   go_wp2_with fail
   exact⟨⟨_,_,_,_,_,_,_,_,_,_,_,_,_,_,_,_,_,_,_,_,_,_,_,_,_,_,_,_,_,_,_,_,_,_,_,_,_,_,_,_,_,_,_,_,_,_,_,_,_,_,_,_,_,_,_,_,_,_,_,_,_,_,_,_,_,rfl⟩,⟨s,G7.out,OY.out,fun B hB ha=>ha.num rfl⟩,Jw.out,KI3.out,fJ⟩
  ·rw[if_pos rfl] at hwin
   obtain⟨hv1,hv2⟩:=HAV.out (HSA.out rfl)
   obtain⟨who,rfl⟩:∃who:Nat,r1=who:=⟨r1.toNat,ah⟩
   have hwl:who<h.seats.length:=by have:=HLEN.out;omega
   obtain⟨x,hx⟩:∃x,h.seats[who]?=some x:=⟨_,List.getElem?_eq_getElem hwl⟩
   rw[Int.toNat_natCast,hx] at hwin
   dsimp only at hwin
   rw[hwin]
   obtain⟨sv,ss,av,rows,got⟩:=s
   have ng:=OY.out
   obtain⟨u,hu⟩:∃u,ss[who]?=some u:=⟨_,List.getElem?_eq_getElem (by rw[show ss.length=_ from ng.nX];exact hwl)⟩
   have hkr:=ng.kr who u x hu hx
   obtain⟨asv,Ox,hsv,Es⟩:=ng.sv.shape
   rw[ku ng.nX] at hsv Es
   dsimp only at hsv Es
   subst hsv
   obtain⟨bs,os,hbs,O8,hcs⟩:=ng.sv.at (kD hu hx)
   subst hbs
   have HCS:=Lib.hid hcs
   have HKR:=Lib.hid hkr
   have JA:=jM hkr x.2.1 x.2.2
   have hsl:(ql ss h.seats).length=h.seats.length:=ku ng.nX
   have akS:h.seats.length≤4:=by have:=HLEN.out;have:=hok.ze;omega
   have hw3:w.heap.size≤w3.heap.size:=ah
   have HWS:=Lib.hid (fun W hk=>NI u x.1 x.2.1 x.2.2 W hk)
   obtain⟨st2,DT⟩:∃st2,st2=if x.2.1=2 then 1 else x.2.1:=⟨_,rfl⟩
   have hwx:vG x=(x.1,st2,x.2.2):=by rw[DT];rfl
   rw[hwx]
   rw[←DT] at HWS
   clear ng hcs hkr DT hwx hwin
   (obtain⟨hcb,bn,hlb,hnb,hmb⟩:=aC.rules G7.out)
   (obtain⟨hci,hfi,Eb,hni,hmi⟩:=aC.rules KI3.out)
   go_wp2_with fail
   ((refine aY (fun W=>Below w3.heap.size w3 W) (fun i=>decide (i<11)) aj ?_);
          (have hS:Below w3.heap.size w3 w3.drew:=(Below.refl _ _).drew);
          (refine tk 0 24 hS ?_);
          (refine tk 1 25 hS ?_ (hy:=Or.inl ⟨aF,EG⟩));
          (refine tk 2 26 hS ?_ (hy:=Or.inl ⟨aF,EG⟩));
          (refine tk 3 27 hS ?_);
          (refine tk 4 28 hS ?_ (hy:=Or.inl ⟨aF,EG⟩));
          (refine tk 5 29 hS ?_ (hy:=Or.inl ⟨aF,EG⟩));
          (refine tk 6 30 hS ?_);
          (refine cO 7 (oi:=⟨some 31,_,_,_,_,_⟩) rfl aj _root_.sx hS (lG 59 _ rfl (b:=bs) (off:=os+who*19) (iM u x.1 x.2.1 x.2.2) eF JA aF bg (fun W hs=>HCS.out.below hs O8)) ?_);
          (try simp only[pt]);
          (refine aK 8 (oi:=⟨some 32,_,_,_,_,_⟩) rfl aj rfl (fun K hK=>?_));
          (go_simp;(with_reducible refine(HWS.out _ (HKR.out.below hS)).mono ?_);rintro en w5 ⟨s5,rfl,LU,DU,hb5⟩;(have hS:=hS.trans (Below.mono hb5 hS.size));(have L9:=Lib.hid LU);(have ED:=Lib.hid DU);(try go_wp2_with fail));
          (refine hK.out _ _ (fun _=>bF) ?_;clear hK K);
          (try simp only[pt]);
          (refine aK 9 (oi:=⟨some 33,_,_,_,_,_⟩) rfl aj rfl (fun K hK=>?_));
          (go_simp;(with_reducible refine(FP _ (ql ss h.seats) who s5 x.1 st2 x.2.2 _ (OY.out.sv.below hS) ah L9.out ah).mono ?_);rintro en w6 ⟨v6,rfl,OL,hb6⟩;(have hS:=hS.trans (Below.mono hb6 hS.size));(obtain⟨a6,m6,n6,rfl⟩:=OL.sl.is);(have OX:=Lib.hid (OL.le (base':=w3.heap.size) XQ));(have XH:=Lib.hid (L9.out.below hb6));(clear OL LU DU);(try go_wp2_with fail));
          (refine hK.out _ _ (fun _=>bF) ?_;clear hK K);
          (try simp only[pt]);
          (refine tk 10 34 hS ?_);
          (refine aT 11 aj ?_ rfl);
          (simp only[List.toList_toArray,List.drop_succ_cons,List.drop_zero]))
   have yc:=Lib.hid (G7.out.below hS G7.out.lt)
   have tu:=fJ.trans (hS.mono hw3)
   have vW:=MR.Ce (d:=who) (u:=s5) (x:=(x.1,st2,x.2.2)) yc.out (OY.out.below hS) ((HM.out.away (Nat.le_refl _)).num rfl) (HP.out.below tu) hi OX.out.sl (iF OX.out ah) XH.out (ED.out w.heap.size BM ((HM.out.kr who u x hu hx).away (Nat.le_refl _)))
   have LD:=Lib.hid vW
   have ald:=hS.size
   have ale:w1.heap.size≠w.heap.size:=by have:=vV.out.lt;omega
   have KZ7:=Lib.hid ((Jw.out.below hS Jw.out.lt).other ⟨w.heap.size,8,none⟩ (.slice a6 m6 n6) aI)
   have KI7:=Lib.hid ((KI3.out.below hS KI3.out.lt).other ⟨w.heap.size,8,none⟩ (.slice a6 m6 n6) aR)
   have TY:=Lib.hid (show Below w.heap.size w (w6.setCell ⟨w.heap.size,8,none⟩ (.slice a6 m6 n6)) from Below.setCell tu (Nat.le_refl _) _)
   have HMA:=Lib.hid (show∀B,B<w.heap.size+2→gG B ⟨.slice (some ⟨bs,os,none⟩) h.seats.length Ox,ss,av,rows,got⟩ h→gG B ⟨.slice a6 m6 n6,ss.set who s5,av,rows,got⟩ {h with seats:=h.seats.set who (x.1,st2,x.2.2),owner:=-1} from fun B hB ha=>(ha.Ao (u:=s5) (x:=(x.1,st2,x.2.2)) OY.out.nX (iF OX.out ah) (ED.out B BM (ha.kr who u x hu hx))).num rfl)
   clear vW hcb bn hlb hnb hmb hci hfi Eb hni hmi
   (obtain⟨hcb,bn,hlb,hnb,hmb⟩:=aC.rules yc.out)
   go_wp2_with fail
   exact⟨⟨_,_,_,_,_,_,_,_,_,_,_,_,_,_,_,_,_,_,_,_,_,_,_,_,_,_,_,_,_,_,_,_,_,_,_,_,_,_,_,_,_,_,_,_,_,_,_,_,_,_,_,_,_,_,_,_,_,_,_,_,_,_,_,_,_,rfl⟩,⟨⟨.slice a6 m6 n6,ss.set who s5,av,rows,got⟩,LD.out.1,LD.out.2,HMA.out⟩,KZ7.out,KI7.out,TY.out⟩
 intro aa w4 hmid
 obtain⟨⟨u0,u5,u6,u7,u8,u9,u10,u11,u12,u13,u14,u15,u16,u17,u18,u19,u20,u21,u22,u23,u24,u25,u26,u27,u28,u29,u30,u31,u32,u33,u34,u35,u36,u37,u38,u39,u40,u41,u42,u43,u44,u45,u46,u47,u48,u49,u50,u51,u52,u53,u54,u55,u56,u57,u58,u59,u60,u61,u62,u63,u64,u65,u66,u67,u68,rfl⟩,⟨s1,kb4,Ir,aic⟩,kz4,ki4,nU⟩:=hmid
 have hst:=uf.out
 rw[QJ] at hst
 obtain⟨w1s,w1t,_,w1l⟩:=qP p h
 have Ul:iZ a e 8 {dD p h with owner:=-1}:=HBD.out.window
 have aj1:({dD p h with owner:=-1}:Hn).seats.length=p.parts.length:=w1l.trans HLEN.out
 have hown1:({dD p h with owner:=-1}:Hn).owner=-1:=rfl
 have EM:({dD p h with owner:=-1}:Hn).now=h.now:=w1s
 generalize hh1:({dD p h with owner:=-1}:Hn)=h1 at*
 have aiy:=Lib.hid hst
 have aiI:=Lib.hid Ul
 have TS:=Lib.hid kb4
 have Iw:=Lib.hid kz4
 have KI4:=Lib.hid ki4
 have HM4:=Lib.hid Ir
 have XM:=Lib.hid aic
 have vT:=nU.size
 have hni:w1.heap.size≠w.heap.size:=by have:=vV.out.lt;omega
 have alf:w1.heap.size≠w.heap.size+1:=by have:=Bq.out.lt;omega
 clear hst Ul kb4 kz4 ki4 Ir aic w1s w1t w1l hh1
 simp only[Exit.then]
 go_upto_block 0 with fail
 refine Zd (TL (.slice a1 p.parts.length c1) (.slice a2 p.wins.length c2) (.slice a3 p.chans.length c3) iv p w w1.heap.size r1 r2 s h (n+8) (iI p h1 (r1,r2))) ?_ ?_
 ·by_cases h2:r2=2
  rotate_left
  ·have d2:(r2 !=2)=true:=by simp[h2]
   have ht:iI p h1 (r1,r2)=h1:=by unfold iI;rw[if_neg h2,←hown1]
   rw[ht]
   refine bH ?_
   refine bQ aB ?_
   refine bQ aB ?_
   refine Cj (fun N hN=>?_)
   go_wp2_with fail
   refine⟨rfl,hN.out _ _ ?_⟩
   go_wp2_with fail
   refine dn ?_
   exact⟨rfl,⟨⟨_,_,_,_,_,_,_,_,_,_,_,_,_,_,_,_,_,_,_,_,_,_,_,_,_,_,_,_,_,_,_,_,_,_,_,_,_,_,_,_,_,_,_,_,_,_,_,_,_,_,_,_,_,_,_,_,_,_,_,_,_,_,_,_,_,rfl⟩,⟨s1,TS.out,HM4.out.mono ah,XM.out⟩,Iw.out,KI4.out,nU⟩⟩
  ·subst h2
   obtain⟨hv1,hv2⟩:=HAV.out aB
   obtain⟨who,rfl⟩:∃who:Nat,r1=who:=⟨r1.toNat,ah⟩
   have hwl:who<h1.seats.length:=ah
   obtain⟨x,hx⟩:∃x,h1.seats[who]?=some x:=⟨_,List.getElem?_eq_getElem hwl⟩
   have HG:=Lib.hid (ajl (.slice a1 p.parts.length c1) (.slice a2 p.wins.length c2) (.slice a3 p.chans.length c3) iv p s1 h1 n w.heap.size w1.heap.size who x w4 HM4.out hx TS.out KI4.out)
   have hturn:iI p h1 ((who:Int),2)=if x.2.1=1 then{iN p who h1 with owner:=who} else{h1 with owner:=who}:=by
    unfold iI yG
    rw[if_pos rfl]
    dsimp only
    rw[Int.toNat_natCast,hx]
    simp only[decide_eq_true_eq]
   by_cases h1':x.2.1=1
   ·rw[if_pos h1'] at hturn
    have ah3:iN p who h1=jQ p who h1 (mD p who x):=by unfold iN;rw[hx]
    rw[ah3] at hturn
    obtain⟨h6,hh6⟩:∃h6,h6=jQ p who h1 (mD p who x):=⟨_,rfl⟩
    rw[←hh6] at hturn
    rw[hturn]
    have HH6:=Lib.hid hh6
    clear hh6 ah3 hturn
    have e1:(x.2.1==1)=true:=by simp[h1']
    rw[e1] at HG
    refine bH ?_
    refine Ra (fun N hN=>?_)
    refine Cj (fun N2 hN2=>?_)
    refine zw aB ?_
    go_wp2_with fail
    with_reducible refine HG.out.mono ?_
    rintro en w5 ⟨rfl,hb5⟩
    have GY:=hb5.size
    have G6:=Lib.hid (TS.out.below hb5 TS.out.lt)
    have TP:=Lib.hid (Iw.out.below hb5 Iw.out.lt)
    have KI5:=Lib.hid (KI4.out.below hb5 KI4.out.lt)
    have HM5:=Lib.hid (HM4.out.below hb5)
    have jC:=nU.trans (hb5.mono vT)
    have ajA:=jC.size
    clear hb5
    go_wp2_with fail
    refine⟨rfl,hN2.out _ _ ?_⟩
    have hxb:=aiI.out x (List.mem_of_getElem? hx)
    have hy:Bd (a+2*e+24) (e+1) 8 (mD p who x).1:=hxb.cycle ah (uX hok who) _ _
    have hall:=((aiI.out.mono (a':=a+2*e+24) (e':=e+1) (c':=8) ah ah ah).set who hy)
    have hpl:who<p.parts.length:=ah
    obtain⟨pt,hpt⟩:∃pt,p.parts[who]?=some pt:=⟨_,List.getElem?_eq_getElem hpl⟩
    have hpe:partAt p who=pt:=XP
    have hse:=hy.se
    have Sb:=Lib.hid (acS (.slice a1 p.parts.length c1) (.slice a2 p.wins.length c2) (.slice a3 p.chans.length c3) iv p s1 h1 n who x pt w5 (HP.out.below jC) hi HM5.out (Ec.out _ jC) hx hpt (fun _=>hxb.ab7 ah ah) (fun _ _ _=>hxb.step.M4 (by rw[←hpe];exact uX hok who))
     (fun j=>iZ.ajx hok (iZ.sends (p:=p) (who:Int) _ hall (fun m hm=>(hy.ses m (List.mem_of_mem_take hm)).2)) (by rw[zo];simp;exact aj1) ah ah ah ah) (fun m hm=>hy.ses m hm))
    have hv5:=mJ (HP.out.below jC) hi HM5.out
    have HV5:=Lib.hid hv5
    have ahU:=oI (HP.out.below jC) hi HM5.out
    have akD:=Lib.hid ahU
    have hsz5:=jL (.slice a1 p.parts.length c1) (.slice a2 p.wins.length c2) (.slice a3 p.chans.length c3) iv p s1 h1
    have Pw:=Lib.hid (XM.out w.heap.size ah (HM.out.away (Nat.le_refl _)))
    clear hxb hy hall hpt hv5 ahU
    rw[←HH6.out] at Sb
    generalize(mD p who x).1.se.length=nse at Sb hse
    clear HH6
    (obtain⟨hci,hfi,Eb,DL,hmi⟩:=aC.rules KI5.out)
    go_wp2_with(first|((with_reducible refine bS 36 ?_);(refine aJ rfl 36 _ rfl (hC (.slice a1 p.parts.length c1) (.slice a2 p.wins.length c2) (.slice a3 p.chans.length c3) iv p s1 h1) d_ (HV5.out) G6.out ?_ ?_;(exact aG)))|fail)
    with_reducible refine Sb.out.mono ?_
    rintro en w6 ⟨s6,rfl,Jv,BA,hb6⟩
    have WY:=hb6.size
    have tu:=jC.trans (hb6.mono jC.size)
    have akZ:=tu.size
    have hl1:=Bq.out.lt
    have hl5:=KI5.out.lt
    have yc:=Lib.hid (G6.out.below hb6 G6.out.lt)
    have Hl:=Lib.hid (TP.out.below hb6 TP.out.lt)
    have KI6:=Lib.hid (KI5.out.below hb6 KI5.out.lt)
    have hv6:=mJ (HP.out.below tu) hi Jv
    have OD:=Lib.hid hv6
    have HM6:=Lib.hid Jv
    have agr:=Lib.hid BA
    clear hv6 Jv BA hci hfi Eb DL hmi
    go_wp2_with(first|((with_reducible refine bO 36 ?_);(refine aN rfl 36 _ _ rfl yc.out (.agg (hC (.slice a1 p.parts.length c1) (.slice a2 p.wins.length c2) (.slice a3 p.chans.length c3) iv p s6 h6)) d_ (OD.out) ?_ (_) (gJ 11 hsz5 ()) ?_ ?_ ?_;(exact fK);(exact aG);(exact aG);(intro w7 Hf vC Io oZ;(have BP7:=Lib.hid Hf);(have HG7:=Lib.hid vC);(clear Hf vC))))|fail)
    refine⟨rfl,hN.out _ _ ?_⟩
    have oK:=tu.trans (bq HG7.out ah ah)
    have akY:=oK.size
    have hm7:=HM6.out.bL (agr.out w.heap.size ah Pw.out) yc.out akD.out iA aB aB aB HG7.out
    have HM7:=Lib.hid hm7
    have KZ7:=Lib.hid (Hl.out.grown HG7.out aI)
    have KI7:=Lib.hid (KI6.out.grown HG7.out aR)
    have Lp:=(MR.AL (o:=10) (v:= .int .i64 (who:Int)) BP7.out hm7 (agr.out w.heap.size ah Pw.out) (HP.out.below oK) hi).num (h':={h6 with owner:=who}) rfl
    have HM8:=Lib.hid Lp
    have kb8:aC (w7.setCell ⟨w.heap.size,10,none⟩ (.int .i64 (who:Int))) w.heap.size (hC (.slice a1 p.parts.length c1) (.slice a2 p.wins.length c2) (.slice a3 p.chans.length c3) iv p s6 {h6 with owner:=who}) 36:=(BP7.out.set 10 _).cast (Qs ..)
    have x9:=Lib.hid kb8
    have KZ8:=Lib.hid (KZ7.out.other ⟨w.heap.size,10,none⟩ (.int .i64 (who:Int)) aI)
    have KI8:=Lib.hid (KI7.out.other ⟨w.heap.size,10,none⟩ (.int .i64 (who:Int)) aR)
    have HB8:=Lib.hid (show Below w.heap.size w (w7.setCell ⟨w.heap.size,10,none⟩ (.int .i64 (who:Int))) from Below.setCell oK (Nat.le_refl _) _)
    clear hm7 Lp kb8 hsz5
    (obtain⟨hcb,bn,hlb,hnb,hmb⟩:=aC.rules BP7.out)
    (obtain⟨hci,hfi,Eb,DL,hmi⟩:=aC.rules KI7.out)
    go_wp2_with fail
    refine dn ?_
    exact⟨rfl,⟨⟨_,_,_,_,_,_,_,_,_,_,_,_,_,_,_,_,_,_,_,_,_,_,_,_,_,_,_,_,_,_,_,_,_,_,_,_,_,_,_,_,_,_,_,_,_,_,_,_,_,_,_,_,_,_,_,_,_,_,_,_,_,_,_,_,_,rfl⟩,⟨s6,x9.out,HM8.out.mono ah,fun B hB ha=>(agr.out B ah (XM.out B hB ha)).num rfl⟩,KZ8.out,KI8.out,HB8.out⟩⟩
   ·rw[if_neg h1'] at hturn
    rw[hturn]
    have e1:(x.2.1==1)=false:=by simp[h1']
    rw[e1] at HG
    refine bH ?_
    refine Cj (fun N hN=>?_)
    refine zw aB ?_
    refine zw aB ?_
    go_wp2_with fail
    with_reducible refine HG.out.mono ?_
    rintro en w5 ⟨rfl,hb5⟩
    have GY:=hb5.size
    have G6:=Lib.hid (TS.out.below hb5 TS.out.lt)
    have TP:=Lib.hid (Iw.out.below hb5 Iw.out.lt)
    have KI5:=Lib.hid (KI4.out.below hb5 KI4.out.lt)
    have HM5:=Lib.hid (HM4.out.below hb5)
    have jC:=nU.trans (hb5.mono vT)
    have ajA:=jC.size
    clear hb5
    go_wp2_with fail
    refine⟨rfl,hN.out _ _ ?_⟩
    have Pw:=Lib.hid (XM.out w.heap.size ah (HM.out.away (Nat.le_refl _)))
    have Lp:=(MR.AL (o:=10) (v:= .int .i64 (who:Int)) G6.out HM5.out Pw.out (HP.out.below jC) hi).num (h':={h1 with owner:=who}) rfl
    have HM8:=Lib.hid Lp
    have kb8:aC (w5.setCell ⟨w.heap.size,10,none⟩ (.int .i64 (who:Int))) w.heap.size (hC (.slice a1 p.parts.length c1) (.slice a2 p.wins.length c2) (.slice a3 p.chans.length c3) iv p s1 {h1 with owner:=who}) 36:=(G6.out.set 10 _).cast (Qs ..)
    have x9:=Lib.hid kb8
    have KZ8:=Lib.hid (TP.out.other ⟨w.heap.size,10,none⟩ (.int .i64 (who:Int)) aI)
    have KI8:=Lib.hid (KI5.out.other ⟨w.heap.size,10,none⟩ (.int .i64 (who:Int)) aR)
    have HB8:=Lib.hid (show Below w.heap.size w (w5.setCell ⟨w.heap.size,10,none⟩ (.int .i64 (who:Int))) from Below.setCell jC (Nat.le_refl _) _)
    clear Lp kb8
    (obtain⟨hcb,bn,hlb,hnb,hmb⟩:=aC.rules G6.out)
    (obtain⟨hci,hfi,Eb,DL,hmi⟩:=aC.rules KI5.out)
    go_wp2_with fail
    refine dn ?_
    exact⟨rfl,⟨⟨_,_,_,_,_,_,_,_,_,_,_,_,_,_,_,_,_,_,_,_,_,_,_,_,_,_,_,_,_,_,_,_,_,_,_,_,_,_,_,_,_,_,_,_,_,_,_,_,_,_,_,_,_,_,_,_,_,_,_,_,_,_,_,_,_,rfl⟩,⟨s1,x9.out,HM8.out.mono ah,fun B hB ha=>(XM.out B hB ha).num rfl⟩,KZ8.out,KI8.out,HB8.out⟩⟩
 intro ab w5 hmid
 have hst:=aiy.out
 obtain⟨t1,t2,t3⟩:=zm (p:=p) h1 (r1,r2)
 have hn2:(iI p h1 (r1,r2)).now=h.now:=t1.trans EM
 generalize iI p h1 (r1,r2)=h2 at*
 obtain⟨⟨u0,u5,u6,u7,u8,u9,u10,u11,u12,u13,u14,u15,u16,u17,u18,u19,u20,u21,u22,u23,u24,u25,u26,u27,u28,u29,u30,u31,u32,u33,u34,u35,u36,u37,u38,u39,u40,u41,u42,u43,u44,u45,u46,u47,u48,u49,u50,u51,u52,u53,u54,u55,u56,u57,u58,u59,u60,u61,u62,u63,u64,u65,u66,u67,u68,rfl⟩,⟨s2,kb5,hm5,DU⟩,kz5,ki5,jC⟩:=hmid
 have GY:=jC.size
 have ED:=Lib.hid DU
 have Pw:=Lib.hid (DU w.heap.size ah (HM.out.away (Nat.le_refl _)))
 have abx:=(MR.AL (o:=5) (v:= .int .u64 (h2.now+1)) kb5 hm5 Pw.out (HP.out.below jC) hi).num (h':={h2 with now:=h2.now+1}) rfl
 have Xk:aC (w5.setCell ⟨w.heap.size,5,none⟩ (.int .u64 (h2.now+1))) w.heap.size (hC (.slice a1 p.parts.length c1) (.slice a2 p.wins.length c2) (.slice a3 p.chans.length c3) iv p s2 {h2 with now:=h2.now+1}) 36:=(kb5.set 5 _).cast (ajk ..)
 have abo:=kz5.other ⟨w.heap.size,5,none⟩ (.int .u64 (h2.now+1)) aI
 have Xy:Below w.heap.size w (w5.setCell ⟨w.heap.size,5,none⟩ (.int .u64 (h2.now+1))):=Below.setCell jC (Nat.le_refl _) _
 have G6:=Lib.hid kb5
 have hwn:IntKind.u64.wrap (h2.now+1)=h2.now+1:=Plan.pE ah ah
 have hw1:IntKind.u64.wrap p.frame=p.frame:=Plan.pE ah ah
 have hw2:p.frame%18446744073709551616=p.frame:=ah
 have hz0:(p.frame==0)=false:=aR
 have hm:(h2.now+1).tmod p.frame=(h2.now+1)%p.frame:=Int.tmod_eq_emod_of_nonneg ah
 have hd:decide (p.frame>0)=true:=decide_eq_true ah
 have DT:hq=if(h2.now+1)%p.frame=0 then{h2 with now:=h2.now+1,sched:=h2.next} else{h2 with now:=h2.now+1}:=hst
 have JI:=Lib.hid DT
 clear aiy uf aiw hst DT DU kz5 ki5 t1 t2 t3 kb5 hm5 hn2 EM
 simp only[Exit.then]
 (obtain⟨hcb,bn,hlb,hnb,hmb⟩:=aC.rules G6.out)
 by_cases g:(h2.now+1)%p.frame=0
 ·have DT:=JI.out
  rw[if_pos g] at DT
  clear JI
  subst hq
  have e1:((h2.now+1)%p.frame==0)=true:=wH
  have Jv:=(MR.AL (o:=6) (v:= .int .i64 h2.next) Xk abx (Pw.out.num rfl) (HP.out.below Xy) hi).num (h':={h2 with now:=h2.now+1,sched:=h2.next}) rfl
  have kb6:aC ((w5.setCell ⟨w.heap.size,5,none⟩ (.int .u64 (h2.now+1))).setCell ⟨w.heap.size,6,none⟩ (.int .i64 h2.next)) w.heap.size (hC (.slice a1 p.parts.length c1) (.slice a2 p.wins.length c2) (.slice a3 p.chans.length c3) iv p s2 {h2 with now:=h2.now+1,sched:=h2.next}) 36:=(Xk.set 6 _).cast (ajj ..)
  have kz6:=abo.other ⟨w.heap.size,6,none⟩ (.int .i64 h2.next) aI
  have hb6:Below w.heap.size w ((w5.setCell ⟨w.heap.size,5,none⟩ (.int .u64 (h2.now+1))).setCell ⟨w.heap.size,6,none⟩ (.int .i64 h2.next)):=Below.setCell Xy (Nat.le_refl _) _
  clear abx Xk abo Xy
  have HM6:=Lib.hid Jv
  have yc:=Lib.hid kb6
  have Hl:=Lib.hid kz6
  have HB6:=Lib.hid hb6
  have hv6:=mJ (HP.out.below hb6) hi Jv
  have OD:=Lib.hid hv6
  have HAF:=Lib.hid (show∀B,B<w.heap.size+2→gG B s h→gG B s2 {h2 with now:=h2.now+1,sched:=h2.next} from fun B hB ha=>(ED.out B hB ha).num rfl)
  have afw:=jL (.slice a1 p.parts.length c1) (.slice a2 p.wins.length c2) (.slice a3 p.chans.length c3) iv p s2 {h2 with now:=h2.now+1,sched:=h2.next}
  have Yq:hC0.size=11:=rfl
  have hzf:w.heap.size≤((w5.setCell ⟨w.heap.size,5,none⟩ (.int .u64 (h2.now+1))).setCell ⟨w.heap.size,6,none⟩ (.int .i64 h2.next)).heap.size:=hb6.size
  clear Jv kb6 kz6 hb6 hv6
  generalize hW6:((w5.setCell ⟨w.heap.size,5,none⟩ (.int .u64 (h2.now+1))).setCell ⟨w.heap.size,6,none⟩ (.int .i64 h2.next))=w6 at HM6 yc Hl HB6 OD hzf
  go_wp2_with(first|((with_reducible refine bS 36 ?_);(refine aJ rfl 36 _ rfl (hC (.slice a1 p.parts.length c1) (.slice a2 p.wins.length c2) (.slice a3 p.chans.length c3) iv p s2 {h2 with now:=h2.now+1,sched:=h2.next}) d_ (OD.out) yc.out ?_ ?_;(exact aG)))|((with_reducible refine bO 36 ?_);(refine aN rfl 36 _ _ rfl Hl.out (.agg (hC (.slice a1 p.parts.length c1) (.slice a2 p.wins.length c2) (.slice a3 p.chans.length c3) iv p s2 {h2 with now:=h2.now+1,sched:=h2.next})) d_ (OD.out) ?_ (_) (gJ 11 mY ()) ?_ ?_ ?_;(exact fK);(exact aG);(exact aG);(intro GR jD jT tq eP;(have kY:=Lib.hid jD))))|fail)
  exact aeC
 ·have DT:=JI.out
  rw[if_neg g] at DT
  clear JI
  subst hq
  have e1:((h2.now+1)%p.frame==0)=false:=wH
  have Jv:=abx
  have kb6:=Xk
  have kz6:=abo
  have hb6:=Xy
  clear abx Xk abo Xy
  have HM6:=Lib.hid Jv
  have yc:=Lib.hid kb6
  have Hl:=Lib.hid kz6
  have HB6:=Lib.hid hb6
  have hv6:=mJ (HP.out.below hb6) hi Jv
  have OD:=Lib.hid hv6
  have HAF:=Lib.hid (show∀B,B<w.heap.size+2→gG B s h→gG B s2 {h2 with now:=h2.now+1} from fun B hB ha=>(ED.out B hB ha).num rfl)
  have afw:=jL (.slice a1 p.parts.length c1) (.slice a2 p.wins.length c2) (.slice a3 p.chans.length c3) iv p s2 {h2 with now:=h2.now+1}
  have Yq:hC0.size=11:=rfl
  have hzf:w.heap.size≤(w5.setCell ⟨w.heap.size,5,none⟩ (.int .u64 (h2.now+1))).heap.size:=hb6.size
  clear Jv kb6 kz6 hb6 hv6
  go_upto_if 64 with fail
  generalize hW6:(w5.setCell ⟨w.heap.size,5,none⟩ (.int .u64 (h2.now+1)))=w6 at HM6 yc Hl HB6 OD hzf
  go_wp2_with(first|((with_reducible refine bS 36 ?_);(refine aJ rfl 36 _ rfl (hC (.slice a1 p.parts.length c1) (.slice a2 p.wins.length c2) (.slice a3 p.chans.length c3) iv p s2 {h2 with now:=h2.now+1}) d_ (OD.out) yc.out ?_ ?_;(exact aG)))|((with_reducible refine bO 36 ?_);(refine aN rfl 36 _ _ rfl Hl.out (.agg (hC (.slice a1 p.parts.length c1) (.slice a2 p.wins.length c2) (.slice a3 p.chans.length c3) iv p s2 {h2 with now:=h2.now+1})) d_ (OD.out) ?_ (_) (gJ 11 mY ()) ?_ ?_ ?_;(exact fK);(exact aG);(exact aG);(intro GR jD jT tq eP;(have kY:=Lib.hid jD))))|fail)
  exact aeC
end Go.Proofs.YtgmodehldmahiaaGreatDoor
