/- Part 43 of 53 of the proof of topAlone_and_topApart. Conditions: see each. -/
import Derived.Test.YtgmodehldmahiaaGreatDoorB14
import Derived.Test.YtgmodehldmahiaaGreatDoorB42
import Derived.Test.YtgmodehldmahiaaGreatDoorB13
set_option linter.unusedVariables false
set_option linter.unusedSimpArgs false
set_option maxRecDepth 8192
set_option maxHeartbeats 40000000
namespace Go.Proofs.YtgmodehldmahiaaGreatDoor
open Go Go.RowKit Go.Tm
attribute [local go_sem] fO fM fK d_ dM dZ dY dX dW dV dU dS dR dQ dP dO dN iQ iP iO iN iM iL iK iG iJ iI fU fT fQ fP fI fH fC
attribute [local go_sem] Gm Gl Gj Gi Gh Dy Gg Gf Gc Gb zZ
theorem afD{p:bF.jE}{sched t:Int}(h:(bF.Bn p sched t).2≠0):bF.gJ p∧0≤(bF.Bn p sched t).1∧(bF.Bn p sched t).1<p.parts.length:=by
 unfold bF.Bn bF.atL at*
 split at h
 ·exact absurd rfl h
 ·rename_i x hx
  obtain⟨h1,h2⟩:=bF.Ny x (List.mem_of_find?_eq_some hx)
  unfold bF.uf at h2
  exact⟨h1,nG,nG⟩
theorem aeE{p:bF.jE}{sched t:Int}(h:bF.yF p sched t=true):(bF.Bn p sched t).2≠0:=by
 unfold bF.yF at h
 obtain⟨x,hx,hb⟩:=List.any_eq_true.1 h
 have hw:=bF.Cr x hx
 unfold bF.Rf at hb
 unfold bF.WOk at hw
 simp only[decide_eq_true_eq] at hb
 unfold bF.Bn bF.atL
 split
 ·rename_i hn
  rw[List.find?_eq_none] at hn
  have:=hn x hx
  unfold bF.Me at this
  simp only[decide_eq_true_eq] at this
  omega
 ·unfold bF.Oy
  dsimp only
  split<;>decide
theorem aoC(pv wv cv iv:Value)(p:bF.jE)(s:Hs)(h:Hn)(n B1 B3 who:Nat)(x:St)(w:World)(hr:MR w s h n)(hx:h.seats[who]?=some x)(h1:aD w B1 (hC pv wv cv iv p s h) 36)(h3:aD w B3 #[.int .i64 who] 3):
  Calls Tryz.prog 37 #[.pointer (some ⟨B1,0,none⟩),.pointer (some ⟨B3,0,none⟩)] w fun e w'=>e=.returned (.bool (x.2.1==1))∧Below w.heap.size w w':=by
 have hwl:=(List.getElem?_eq_some_iff.1 hx).1
 obtain⟨u,hu⟩:∃u,s.ss[who]?=some u:=⟨_,List.getElem?_eq_getElem Vd⟩
 have MS:=hr.kr who u x hu hx
 obtain⟨asv,Ui,xP,Iz⟩:=hr.sv.shape
 obtain⟨sv,ss,av,rows,got⟩:=s
 dsimp only at xP hu
 subst xP
 obtain⟨bs,os,hbs,UU,hcs⟩:=hr.sv.at (kI hu hx)
 subst hbs
 rw[gV hr.mo] at Iz hr h1
 have HCS:=ah hcs
 have Om:=iT MS x.2.1 x.2.2
 have HG:=ah (fun W=>Fp u x.1 x.2.1 x.2.2 W)
 clear hr MS hcs
 obtain⟨hcb,bC,bn,bA,bE⟩:=aD.rules h1
 obtain⟨hc3,hf3,qM,wX,qL⟩:=aD.rules h3
 clear h1 h3
 go_enter Tryz.func37,Tryz.ntmps37
 go_wp2_with(first|((with_reducible refine cK 59 ?_);(refine aN rfl 59 _ rfl bs (os+who*19) ?_ (iC u x.1 x.2.1 x.2.2) dH (Om) HCS.out ?_;(exact aM)))|fail)
 with_reducible refine(HG.out _).mono ?_
 rintro en w1 ⟨rfl,hb1⟩
 go_wp2_with fail
 go_ret
 exact⟨rfl,hb1⟩
structure YF(pv wv cv iv:Value)(p:bF.jE)(w:World)(B3:Nat)(r1 r2:Int)(s:Hs)(h:Hn)(n:Nat)(h1:Hn)(a:Act)(W:World):Prop where
 act:∃(u0 u5 u6 u7 u8 u9 u10 u11 u12 u13 u14 u15 u16 u17 u18 u19 u20 u21 u22 u23 u24 u25 u26 u27 u28 u29 u30 u31 u32 u33 u34 u35 u36 u37 u38 u39 u40 u41 u42 u43 u44 u45 u46 u47 u48 u49 u50 u51 u52 u53 u54 u55 u56 u57 u58 u59 u60 u61 u62 u63 u64 u65 u66 u67 u68:Value),a={tmps:=#[u0,.pointer (some ⟨w.heap.size,0,none⟩),.pointer (some ⟨w.heap.size+1,0,none⟩),.pointer (some ⟨B3,0,none⟩),.int .i64 r2,u5,u6,u7,u8,u9,u10,u11,u12,u13,u14,u15,u16,u17,u18,u19,u20,u21,u22,u23,u24,u25,u26,u27,u28,u29,u30,u31,u32,u33,u34,u35,u36,u37,u38,u39,u40,u41,u42,u43,u44,u45,u46,u47,u48,u49,u50,u51,u52,u53,u54,u55,u56,u57,u58,u59,u60,u61,u62,u63,u64,u65,u66,u67,u68],defers:=[]}
 ex:∃s1,aD W w.heap.size (hC pv wv cv iv p s1 h1) 36∧MR W s1 h1 n∧(∀B,B<w.heap.size+2→iR B s h→iR B s1 h1)
 kz:aD W (w.heap.size+1) jV 36
 ki:aD W B3 #[.int .i64 r1] 3
 bw:Below w.heap.size w W
theorem MR.DZ{w:World}{pv wv cv iv:Value}{p:bF.jE}{s:Hs}{h:Hn}{n B o:Nat}{t:TypeId}{v:Value}(hb:aD w B (hC pv wv cv iv p s h) t)(hm:MR w s h n)(ha:iR B s h)(hp:bF.jf w pv wv cv p)(hi:kind iv=5):MR (w.setCell ⟨B,o,none⟩ v) s h n:=
 hm.bP ha hb (vF hp hi hm) j6 aC aC aC (aO w B o v)
theorem Qf(p:bF.jE)(who:Int)(x:Int)(l:List Ms):∀g:Hn,jd p who {g with owner:=x} l={jd p who g l with owner:=x}:=by
 induction l with
 |nil=>intro g;rfl
 |cons m r ih=>
  intro g
  have e:mH p who {g with owner:=x} m={mH p who g m with owner:=x}:=by
   unfold mH wN
   split
   ·dsimp only
    split<;>rfl
   ·rfl
  show jd p who (mH p who {g with owner:=x} m) r={jd p who (mH p who g m) r with owner:=x}
  rw[e,ih]
theorem Qj(p:bF.jE)(who:Nat)(x:Int)(g:Hn):kR p who {g with owner:=x}={kR p who g with owner:=x}:=by
 unfold kR
 dsimp only
 split
 ·rename_i y hy
  unfold mZ
  rw[show({({g with owner:=x}:Hn) with seats:=g.seats.set who (qQ p who y)}:Hn)={({g with seats:=g.seats.set who (qQ p who y)}:Hn) with owner:=x} from rfl,Qf]
  split<;>rfl
 ·rfl
theorem V_(p:bF.jE)(g:Hn)(r:Int×Int):j4 p g r=j4 p {g with owner:=-1} r:=by
 unfold j4
 dsimp only
 rw[Qj p r.1.toNat (-1) g]
 rfl
theorem alk(pv wv cv iv:Value)(p:bF.jE)(s:Hs)(h:Hn)(n a e:Nat)(w:World)(hp:bF.jf w pv wv cv p)(hi:kind iv=5)(hr:MR w s h n)(hT:jw w)(hok:bF.gJ p)
  (hlen:h.seats.length=p.parts.length)(QW:0≤h.now∧h.now<18446744073709551615)(hb:jT a e 8 h)(ha:a+2*e+200≤1000000000)(he:e≤100000000)(hn:n+8≤1000000):
  Calls Tryz.prog 15 #[.agg (hC pv wv cv iv p s h)] w (JH w pv wv cv iv p s h (pO p h) (n+8)):=by
 have HP:=ah hp
 have HM:=ah hr
 have Et:=ah (fun W (h:Below w.heap.size w W)=>hT.below h)
 have HLEN:=ah hlen
 have HBD:=ah hb
 obtain⟨a1,c1,a2,c2,a3,c3,rfl,rfl,rfl,jO,hl2,qM⟩:=hp.shape
 have mF:=hok.ad9
 have hf2:=hok.Fv
 have Hw:=ah (fun W hp=>bF.Py (.slice a1 p.parts.length c1) (.slice a2 p.wins.length c2) (.slice a3 p.chans.length c3) p h.sched h.now W hp QW.1 aj)
 have HST:=ah (fun W hp=>bF.Wp (.slice a1 p.parts.length c1) (.slice a2 p.wins.length c2) (.slice a3 p.chans.length c3) p h.sched h.now W hp QW.1 aj)
 obtain⟨hq,hhq⟩:∃hq,hq=pO p h:=⟨_,rfl⟩
 rw[←hhq]
 have HHQ:=ah hhq
 have hAV:=fun e=>(afD (p:=p) (sched:=h.sched) (t:=h.now) e).2
 have hSA:=fun e=>aeE (p:=p) (sched:=h.sched) (t:=h.now) e
 have BM:iD p h=if bF.yF p h.sched h.now=true then(match h.seats[(bF.Bn p h.sched h.now).1.toNat]? with|some x=>{h with seats:=h.seats.set (bF.Bn p h.sched h.now).1.toNat (F4 x)}|none=>h) else h:=rfl
 have hstep:hq=y9 p (j4 p (iD p h) (bF.Bn p h.sched h.now)):=hhq
 generalize bF.Bn p h.sched h.now=r at*
 generalize bF.yF p h.sched h.now=sb at*
 obtain⟨r1,r2⟩:=r
 dsimp only at Hw hAV hSA BM hstep
 have HAV:=ah hAV
 have HSA:=ah hSA
 have anC:=ah BM
 have xD:=ah hstep
 clear hp hr hT hlen hb hhq HHQ hAV hSA BM hstep
 go_enter Tryz.func15,Tryz.ntmps15
 go_wp2_with fail
 (generalize bR:World.alloc _ _=w0;have KB:aD w0 (w.heap.size) (hC (.slice a1 p.parts.length c1) (.slice a2 p.wins.length c2) (.slice a3 p.chans.length c3) iv p s h) 36:=bH;have KZ:aD w0 (w.heap.size+1) (jV) 36:=bH;have hb0:Below w.heap.size w w0:=bN;have hz0:w0.heap.size=w.heap.size+1+1:=bX;clear bR;have KB:=ah KB;have KZ:=ah KZ)
 have hzw:w.heap.size+1<w0.heap.size:=aj
 with_reducible refine(Hw.out _ (HP.out.below hb0)).mono ?_
 rintro en w1 ⟨rfl,hb1⟩
 have hz1:=hb1.size
 have p8:=ah (KB.out.below hb1 KB.out.lt)
 have Er:=ah (KZ.out.below hb1 KZ.out.lt)
 have bW:=hb0.trans (hb1.mono hb0.size)
 clear hz0 hb1
 obtain⟨hcb,bC,bn,bA,bE⟩:=aD.rules p8.out
 go_wp2_with fail
 generalize bR:World.alloc _ _=w2
 have kb2:aD w2 w.heap.size (hC (.slice a1 p.parts.length c1) (.slice a2 p.wins.length c2) (.slice a3 p.chans.length c3) iv p s {h with owner:=-1}) 36:=by rw[←bR];exact((p8.out.set 10 _).cast (VW ..)).alloc _
 have ki2:aD w2 w1.heap.size #[.int .i64 r1] 3:=by rw[←bR];exact aD.p9 _ _ _ aI
 have kz2:aD w2 (w.heap.size+1) jV 36:=by rw[←bR];exact(Er.out.other _ _ aI).alloc _
 have bM:Below w.heap.size w w2:=bN
 have hz2:w1.heap.size<w2.heap.size:=bX
 have qO:=ah kb2
 have KI2:=ah ki2
 have Uk:=ah kz2
 have nS:MR w2 s {h with owner:=-1} n:=((HM.out.below bM).num (h':={h with owner:=-1}) rfl)
 have HM2:=ah nS
 clear bR kb2 ki2 kz2 nS hcb bC bn bA bE
 with_reducible refine(HST.out _ (HP.out.below bM)).mono ?_
 rintro en w3 ⟨rfl,hb3⟩
 have hz3:=hb3.size
 have gZ:=bM.trans (hb3.mono bM.size)
 have vK:=ah (qO.out.below hb3 qO.out.lt)
 have KI3:=ah (KI2.out.below hb3 KI2.out.lt)
 have Ob:=ah (Uk.out.below hb3 Uk.out.lt)
 have HM3:=ah (HM2.out.below hb3)
 clear hb3
 go_upto_if 23 with fail
 refine ET (YF (.slice a1 p.parts.length c1) (.slice a2 p.wins.length c2) (.slice a3 p.chans.length c3) iv p w w1.heap.size r1 r2 s h n {iD p h with owner:=-1}) ?_ ?_
 ·have BM:=anC.out
  cases sb
  ·rw[if_neg aC] at BM
   rw[BM]
   go_wp2_with fail
   exact⟨⟨_,_,_,_,_,_,_,_,_,_,_,_,_,_,_,_,_,_,_,_,_,_,_,_,_,_,_,_,_,_,_,_,_,_,_,_,_,_,_,_,_,_,_,_,_,_,_,_,_,_,_,_,_,_,_,_,_,_,_,_,_,_,_,_,_,rfl⟩,⟨s,vK.out,HM3.out,fun B hB ha=>ha.num rfl⟩,Ob.out,KI3.out,gZ⟩
  ·rw[if_pos rfl] at BM
   obtain⟨Ud,hv2⟩:=HAV.out (HSA.out rfl)
   obtain⟨who,rfl⟩:∃who:Nat,r1=who:=⟨r1.toNat,aj⟩
   have hwl:who<h.seats.length:=by have:=HLEN.out;omega
   obtain⟨x,hx⟩:∃x,h.seats[who]?=some x:=⟨_,List.getElem?_eq_getElem hwl⟩
   rw[Int.toNat_natCast,hx] at BM
   dsimp only at BM
   rw[BM]
   obtain⟨sv,ss,av,rows,got⟩:=s
   have qL:=HM3.out
   obtain⟨u,hu⟩:∃u,ss[who]?=some u:=⟨_,List.getElem?_eq_getElem (by rw[show ss.length=_ from qL.mo];exact hwl)⟩
   have MS:=qL.kr who u x hu hx
   obtain⟨asv,Ui,xP,Iz⟩:=qL.sv.shape
   rw[gV qL.mo] at xP Iz
   dsimp only at xP Iz
   subst xP
   obtain⟨bs,os,hbs,UU,hcs⟩:=qL.sv.at (kI hu hx)
   subst hbs
   have HCS:=ah hcs
   have HKR:=ah MS
   have Om:=iT MS x.2.1 x.2.2
   have hsl:(tH ss h.seats).length=h.seats.length:=gV qL.mo
   have arO:h.seats.length≤4:=by have:=HLEN.out;have:=hok.zX;omega
   have hw3:w.heap.size≤w3.heap.size:=aj
   have HWS:=ah (fun W hk=>Tq u x.1 x.2.1 x.2.2 W hk)
   obtain⟨st2,GZ⟩:∃st2,st2=if x.2.1=2 then 1 else x.2.1:=⟨_,rfl⟩
   have hwx:F4 x=(x.1,st2,x.2.2):=by rw[GZ];rfl
   rw[hwx]
   rw[←GZ] at HWS
   clear qL hcs MS GZ hwx BM
   obtain⟨hcb,bC,bn,bA,bE⟩:=aD.rules vK.out
   obtain⟨LV,Qx,vT,hni,hmi⟩:=aD.rules KI3.out
   go_wp2_with fail
   ((refine aY (fun W=>Below w3.heap.size w3 W) (fun i=>decide (i<11)) ay ?_);
          have hS:Below w3.heap.size w3 w3.drew:=(Below.refl _ _).drew;
          (refine tk 0 24 hS ?_);
          (refine tk 1 25 hS ?_ (hy:=Or.inl ⟨aF,IY⟩));
          (refine tk 2 26 hS ?_ (hy:=Or.inl ⟨aF,IY⟩));
          (refine tk 3 27 hS ?_);
          (refine tk 4 28 hS ?_ (hy:=Or.inl ⟨aF,IY⟩));
          (refine tk 5 29 hS ?_ (hy:=Or.inl ⟨aF,IY⟩));
          (refine tk 6 30 hS ?_);
          (refine bL 7 (oi:=⟨some 31,_,_,_,_,_⟩) rfl ay om hS (fZ 59 _ rfl (b:=bs) (off:=os+who*19) (iC u x.1 x.2.1 x.2.2) dH Om aF bG (fun W hs=>HCS.out.below hs UU)) ?_);
          (try simp only[pt]);
          (refine aJ 8 (oi:=⟨some 32,_,_,_,_,_⟩) rfl ay rfl (fun K hK=>?_));
          (go_simp;(with_reducible refine(HWS.out _ (HKR.out.below hS)).mono ?_);rintro en w5 ⟨s5,rfl,Q0,G6,kV⟩;have hS:=hS.trans (Below.mono kV hS.size);have Rh:=ah Q0;have IW:=ah G6;(try go_wp2_with fail));
          (refine hK.out _ _ (fun _=>b_) ?_;clear hK K);
          (try simp only[pt]);
          (refine aJ 9 (oi:=⟨some 33,_,_,_,_,_⟩) rfl ay rfl (fun K hK=>?_));
          (go_simp;(with_reducible refine(JN _ (tH ss h.seats) who s5 x.1 st2 x.2.2 _ (HM3.out.sv.below hS) aj Rh.out aj).mono ?_);rintro en w6 ⟨v6,rfl,Uv,kM⟩;have hS:=hS.trans (Below.mono kM hS.size);obtain⟨a6,m6,n6,rfl⟩:=Uv.sl.is;have Ip:=ah (Uv.le (base':=w3.heap.size) acg);have ab4:=ah (Rh.out.below kM);clear Uv Q0 G6;(try go_wp2_with fail));
          (refine hK.out _ _ (fun _=>b_) ?_;clear hK K);
          (try simp only[pt]);
          (refine tk 10 34 hS ?_);
          (refine aZ 11 ay ?_ rfl);
          simp only[List.toList_toArray,List.drop_succ_cons,List.drop_zero])
   have vL:=ah (vK.out.below hS vK.out.lt)
   have mD:=gZ.trans (hS.mono hw3)
   have zM:=MR.Fa (d:=who) (u:=s5) (x:=(x.1,st2,x.2.2)) vL.out (HM3.out.below hS) ((HM.out.away (Nat.le_refl _)).num rfl) (HP.out.below mD) hi Ip.out.sl (lY Ip.out aj) ab4.out (IW.out w.heap.size EO ((HM.out.kr who u x hu hx).away (Nat.le_refl _)))
   have QN:=ah zM
   have asf:=hS.size
   have asg:w1.heap.size≠w.heap.size:=by have:=p8.out.lt;omega
   have KZ7:=ah ((Ob.out.below hS Ob.out.lt).other ⟨w.heap.size,8,none⟩ (.slice a6 m6 n6) aI)
   have KI7:=ah ((KI3.out.below hS KI3.out.lt).other ⟨w.heap.size,8,none⟩ (.slice a6 m6 n6) aV)
   have Y8:=ah (show Below w.heap.size w (w6.setCell ⟨w.heap.size,8,none⟩ (.slice a6 m6 n6)) from Below.setCell mD (Nat.le_refl _) _)
   have HMA:=ah (show∀B,B<w.heap.size+2→iR B ⟨.slice (some ⟨bs,os,none⟩) h.seats.length Ui,ss,av,rows,got⟩ h→iR B ⟨.slice a6 m6 n6,ss.set who s5,av,rows,got⟩ {h with seats:=h.seats.set who (x.1,st2,x.2.2),owner:=-1} from fun B hB ha=>(ha.DK (u:=s5) (x:=(x.1,st2,x.2.2)) HM3.out.mo (lY Ip.out aj) (IW.out B EO (ha.kr who u x hu hx))).num rfl)
   clear zM hcb bC bn bA bE LV Qx vT hni hmi
   obtain⟨hcb,bC,bn,bA,bE⟩:=aD.rules vL.out
   go_wp2_with fail
   exact⟨⟨_,_,_,_,_,_,_,_,_,_,_,_,_,_,_,_,_,_,_,_,_,_,_,_,_,_,_,_,_,_,_,_,_,_,_,_,_,_,_,_,_,_,_,_,_,_,_,_,_,_,_,_,_,_,_,_,_,_,_,_,_,_,_,_,_,rfl⟩,⟨⟨.slice a6 m6 n6,ss.set who s5,av,rows,got⟩,QN.out.1,QN.out.2,HMA.out⟩,KZ7.out,KI7.out,Y8.out⟩
 intro aa w4 BO
 obtain⟨⟨u0,u5,u6,u7,u8,u9,u10,u11,u12,u13,u14,u15,u16,u17,u18,u19,u20,u21,u22,u23,u24,u25,u26,u27,u28,u29,u30,u31,u32,u33,u34,u35,u36,u37,u38,u39,u40,u41,u42,u43,u44,u45,u46,u47,u48,u49,u50,u51,u52,u53,u54,u55,u56,u57,u58,u59,u60,u61,u62,u63,u64,u65,u66,u67,u68,rfl⟩,⟨s1,kb4,yR,Q9⟩,kz4,ki4,jK⟩:=BO
 have hst:=xD.out
 rw[V_] at hst
 obtain⟨w1s,w1t,_,w1l⟩:=yO p h
 have Zp:jT a e 8 {iD p h with owner:=-1}:=HBD.out.window
 have apX:({iD p h with owner:=-1}:Hn).seats.length=p.parts.length:=w1l.trans HLEN.out
 have hown1:({iD p h with owner:=-1}:Hn).owner=-1:=rfl
 have ajz:({iD p h with owner:=-1}:Hn).now=h.now:=w1s
 generalize hh1:({iD p h with owner:=-1}:Hn)=h1 at*
 have anE:=ah hst
 have anQ:=ah Zp
 have A_:=ah kb4
 have M0:=ah kz4
 have KI4:=ah ki4
 have QO:=ah yR
 have ab9:=ah Q9
 have xU:=jK.size
 have hni:w1.heap.size≠w.heap.size:=by have:=p8.out.lt;omega
 have ash:w1.heap.size≠w.heap.size+1:=by have:=Er.out.lt;omega
 clear hst Zp kb4 kz4 ki4 yR Q9 w1s w1t w1l hh1
 simp only[Exit.then]
 go_upto_block 0 with fail
 refine ET (YF (.slice a1 p.parts.length c1) (.slice a2 p.wins.length c2) (.slice a3 p.chans.length c3) iv p w w1.heap.size r1 r2 s h (n+8) (j4 p h1 (r1,r2))) ?_ ?_
 ·by_cases h2:r2=2
  rotate_left
  ·have d2:(r2 !=2)=true:=by simp[h2]
   have ht:j4 p h1 (r1,r2)=h1:=by unfold j4;rw[if_neg h2,←hown1]
   rw[ht]
   refine bU ?_
   refine cO aC ?_
   refine cO aC ?_
   refine Fg (fun N hN=>?_)
   go_wp2_with fail
   refine⟨rfl,hN.out _ _ ?_⟩
   go_wp2_with fail
   refine eu ?_
   exact⟨rfl,⟨⟨_,_,_,_,_,_,_,_,_,_,_,_,_,_,_,_,_,_,_,_,_,_,_,_,_,_,_,_,_,_,_,_,_,_,_,_,_,_,_,_,_,_,_,_,_,_,_,_,_,_,_,_,_,_,_,_,_,_,_,_,_,_,_,_,_,rfl⟩,⟨s1,A_.out,QO.out.mono aj,ab9.out⟩,M0.out,KI4.out,jK⟩⟩
  ·subst h2
   obtain⟨Ud,hv2⟩:=HAV.out aC
   obtain⟨who,rfl⟩:∃who:Nat,r1=who:=⟨r1.toNat,aj⟩
   have hwl:who<h1.seats.length:=aj
   obtain⟨x,hx⟩:∃x,h1.seats[who]?=some x:=⟨_,List.getElem?_eq_getElem hwl⟩
   have HG:=ah (aoC (.slice a1 p.parts.length c1) (.slice a2 p.wins.length c2) (.slice a3 p.chans.length c3) iv p s1 h1 n w.heap.size w1.heap.size who x w4 QO.out hx A_.out KI4.out)
   have hturn:j4 p h1 ((who:Int),2)=if x.2.1=1 then{kR p who h1 with owner:=who} else{h1 with owner:=who}:=by
    unfold j4 Gn
    rw[if_pos rfl]
    dsimp only
    rw[Int.toNat_natCast,hx]
    simp only[decide_eq_true_eq]
   by_cases h1':x.2.1=1
   ·rw[if_pos h1'] at hturn
    have am0:kR p who h1=mZ p who h1 (qQ p who x):=by unfold kR;rw[hx]
    rw[am0] at hturn
    obtain⟨h6,hh6⟩:∃h6,h6=mZ p who h1 (qQ p who x):=⟨_,rfl⟩
    rw[←hh6] at hturn
    rw[hturn]
    have HH6:=ah hh6
    clear hh6 am0 hturn
    have e1:(x.2.1==1)=true:=by simp[h1']
    rw[e1] at HG
    refine bU ?_
    refine WI (fun N hN=>?_)
    refine Fg (fun N2 hN2=>?_)
    refine Cx aC ?_
    go_wp2_with fail
    with_reducible refine HG.out.mono ?_
    rintro en w5 ⟨rfl,kV⟩
    have LP:=kV.size
    have zI:=ah (A_.out.below kV A_.out.lt)
    have YX:=ah (M0.out.below kV M0.out.lt)
    have KI5:=ah (KI4.out.below kV KI4.out.lt)
    have XE:=ah (QO.out.below kV)
    have iE:=jK.trans (kV.mono xU)
    have aoU:=iE.size
    clear kV
    go_wp2_with fail
    refine⟨rfl,hN2.out _ _ ?_⟩
    have hxb:=anQ.out x (List.mem_of_getElem? hx)
    have hy:Bd (a+2*e+24) (e+1) 8 (qQ p who x).1:=hxb.cycle aj (yG hok who) _ _
    have hall:=((anQ.out.mono (a':=a+2*e+24) (e':=e+1) (c':=8) aj aj aj).set who hy)
    have hpl:who<p.parts.length:=aj
    obtain⟨pt,hpt⟩:∃pt,p.parts[who]?=some pt:=⟨_,List.getElem?_eq_getElem hpl⟩
    have hpe:partAt p who=pt:=ace
    have hse:=hy.se
    have QS:=ah (ahq (.slice a1 p.parts.length c1) (.slice a2 p.wins.length c2) (.slice a3 p.chans.length c3) iv p s1 h1 n who x pt w5 (HP.out.below iE) hi XE.out (Et.out _ iE) hx hpt (fun _=>hxb.agO aj aj) (fun _ _ _=>hxb.step.Si (by rw[←hpe];exact yG hok who))
     (fun j=>jT.aoP hok (jT.sends (p:=p) (who:Int) _ hall (fun m hm=>(hy.ses m (List.mem_of_mem_take hm)).2)) (by rw[Cu];simp;exact apX) aj aj aj aj) (fun m hm=>hy.ses m hm))
    have hv5:=je (HP.out.below iE) hi XE.out
    have HV5:=ah hv5
    have amQ:=vF (HP.out.below iE) hi XE.out
    have arz:=ah amQ
    have UM:=nk (.slice a1 p.parts.length c1) (.slice a2 p.wins.length c2) (.slice a3 p.chans.length c3) iv p s1 h1
    have U8:=ah (ab9.out w.heap.size aj (HM.out.away (Nat.le_refl _)))
    clear hxb hy hall hpt hv5 amQ
    rw[←HH6.out] at QS
    generalize(qQ p who x).1.se.length=nse at QS hse
    clear HH6
    obtain⟨LV,Qx,vT,GR,hmi⟩:=aD.rules KI5.out
    go_wp2_with(first|((with_reducible refine cK 36 ?_);(refine aK rfl 36 _ rfl (hC (.slice a1 p.parts.length c1) (.slice a2 p.wins.length c2) (.slice a3 p.chans.length c3) iv p s1 h1) eH (HV5.out) zI.out ?_ ?_;(exact aM)))|fail)
    with_reducible refine QS.out.mono ?_
    rintro en w6 ⟨s6,rfl,AZ,Bb,kM⟩
    have hz6:=kM.size
    have mD:=iE.trans (kM.mono iE.size)
    have arW:=mD.size
    have jO:=Er.out.lt
    have hl5:=KI5.out.lt
    have vL:=ah (zI.out.below kM zI.out.lt)
    have LY:=ah (YX.out.below kM YX.out.lt)
    have KI6:=ah (KI5.out.below kM KI5.out.lt)
    have FL:=je (HP.out.below mD) hi AZ
    have Oc:=ah FL
    have Y7:=ah AZ
    have ak8:=ah Bb
    clear FL AZ Bb LV Qx vT GR hmi
    go_wp2_with(first|((with_reducible refine bS 36 ?_);(refine aR rfl 36 _ _ rfl vL.out (.agg (hC (.slice a1 p.parts.length c1) (.slice a2 p.wins.length c2) (.slice a3 p.chans.length c3) iv p s6 h6)) eH (Oc.out) ?_ (_) (gM 11 UM ()) ?_ ?_ ?_;(exact gG);(exact aM);(exact aM);(intro w7 LW yS LC pE;have BP7:=ah LW;have HG7:=ah yS;clear LW yS)))|fail)
    refine⟨rfl,hN.out _ _ ?_⟩
    have mq:=mD.trans (bJ HG7.out aj aj)
    have arV:=mq.size
    have hm7:=Y7.out.bP (ak8.out w.heap.size aj U8.out) vL.out arz.out j6 aC aC aC HG7.out
    have HM7:=ah hm7
    have KZ7:=ah (LY.out.grown HG7.out aI)
    have KI7:=ah (KI6.out.grown HG7.out aV)
    have Qw:=(MR.DZ (o:=10) (v:= .int .i64 (who:Int)) BP7.out hm7 (ak8.out w.heap.size aj U8.out) (HP.out.below mq) hi).num (h':={h6 with owner:=who}) rfl
    have HM8:=ah Qw
    have kb8:aD (w7.setCell ⟨w.heap.size,10,none⟩ (.int .i64 (who:Int))) w.heap.size (hC (.slice a1 p.parts.length c1) (.slice a2 p.wins.length c2) (.slice a3 p.chans.length c3) iv p s6 {h6 with owner:=who}) 36:=(BP7.out.set 10 _).cast (VW ..)
    have xg:=ah kb8
    have KZ8:=ah (KZ7.out.other ⟨w.heap.size,10,none⟩ (.int .i64 (who:Int)) aI)
    have KI8:=ah (KI7.out.other ⟨w.heap.size,10,none⟩ (.int .i64 (who:Int)) aV)
    have HB8:=ah (show Below w.heap.size w (w7.setCell ⟨w.heap.size,10,none⟩ (.int .i64 (who:Int))) from Below.setCell mq (Nat.le_refl _) _)
    clear hm7 Qw kb8 UM
    obtain⟨hcb,bC,bn,bA,bE⟩:=aD.rules BP7.out
    obtain⟨LV,Qx,vT,GR,hmi⟩:=aD.rules KI7.out
    go_wp2_with fail
    refine eu ?_
    exact⟨rfl,⟨⟨_,_,_,_,_,_,_,_,_,_,_,_,_,_,_,_,_,_,_,_,_,_,_,_,_,_,_,_,_,_,_,_,_,_,_,_,_,_,_,_,_,_,_,_,_,_,_,_,_,_,_,_,_,_,_,_,_,_,_,_,_,_,_,_,_,rfl⟩,⟨s6,xg.out,HM8.out.mono aj,fun B hB ha=>(ak8.out B aj (ab9.out B hB ha)).num rfl⟩,KZ8.out,KI8.out,HB8.out⟩⟩
   ·rw[if_neg h1'] at hturn
    rw[hturn]
    have e1:(x.2.1==1)=false:=by simp[h1']
    rw[e1] at HG
    refine bU ?_
    refine Fg (fun N hN=>?_)
    refine Cx aC ?_
    refine Cx aC ?_
    go_wp2_with fail
    with_reducible refine HG.out.mono ?_
    rintro en w5 ⟨rfl,kV⟩
    have LP:=kV.size
    have zI:=ah (A_.out.below kV A_.out.lt)
    have YX:=ah (M0.out.below kV M0.out.lt)
    have KI5:=ah (KI4.out.below kV KI4.out.lt)
    have XE:=ah (QO.out.below kV)
    have iE:=jK.trans (kV.mono xU)
    have aoU:=iE.size
    clear kV
    go_wp2_with fail
    refine⟨rfl,hN.out _ _ ?_⟩
    have U8:=ah (ab9.out w.heap.size aj (HM.out.away (Nat.le_refl _)))
    have Qw:=(MR.DZ (o:=10) (v:= .int .i64 (who:Int)) zI.out XE.out U8.out (HP.out.below iE) hi).num (h':={h1 with owner:=who}) rfl
    have HM8:=ah Qw
    have kb8:aD (w5.setCell ⟨w.heap.size,10,none⟩ (.int .i64 (who:Int))) w.heap.size (hC (.slice a1 p.parts.length c1) (.slice a2 p.wins.length c2) (.slice a3 p.chans.length c3) iv p s1 {h1 with owner:=who}) 36:=(zI.out.set 10 _).cast (VW ..)
    have xg:=ah kb8
    have KZ8:=ah (YX.out.other ⟨w.heap.size,10,none⟩ (.int .i64 (who:Int)) aI)
    have KI8:=ah (KI5.out.other ⟨w.heap.size,10,none⟩ (.int .i64 (who:Int)) aV)
    have HB8:=ah (show Below w.heap.size w (w5.setCell ⟨w.heap.size,10,none⟩ (.int .i64 (who:Int))) from Below.setCell iE (Nat.le_refl _) _)
    clear Qw kb8
    obtain⟨hcb,bC,bn,bA,bE⟩:=aD.rules zI.out
    obtain⟨LV,Qx,vT,GR,hmi⟩:=aD.rules KI5.out
    go_wp2_with fail
    refine eu ?_
    exact⟨rfl,⟨⟨_,_,_,_,_,_,_,_,_,_,_,_,_,_,_,_,_,_,_,_,_,_,_,_,_,_,_,_,_,_,_,_,_,_,_,_,_,_,_,_,_,_,_,_,_,_,_,_,_,_,_,_,_,_,_,_,_,_,_,_,_,_,_,_,_,rfl⟩,⟨s1,xg.out,HM8.out.mono aj,fun B hB ha=>(ab9.out B hB ha).num rfl⟩,KZ8.out,KI8.out,HB8.out⟩⟩
 intro ab w5 BO
 have hst:=anE.out
 obtain⟨t1,t2,t3⟩:=Kc (p:=p) h1 (r1,r2)
 have rD:(j4 p h1 (r1,r2)).now=h.now:=t1.trans ajz
 generalize j4 p h1 (r1,r2)=h2 at*
 obtain⟨⟨u0,u5,u6,u7,u8,u9,u10,u11,u12,u13,u14,u15,u16,u17,u18,u19,u20,u21,u22,u23,u24,u25,u26,u27,u28,u29,u30,u31,u32,u33,u34,u35,u36,u37,u38,u39,u40,u41,u42,u43,u44,u45,u46,u47,u48,u49,u50,u51,u52,u53,u54,u55,u56,u57,u58,u59,u60,u61,u62,u63,u64,u65,u66,u67,u68,rfl⟩,⟨s2,kb5,hm5,G6⟩,kz5,ki5,iE⟩:=BO
 have LP:=iE.size
 have IW:=ah G6
 have U8:=ah (G6 w.heap.size aj (HM.out.away (Nat.le_refl _)))
 have af5:=(MR.DZ (o:=5) (v:= .int .u64 (h2.now+1)) kb5 hm5 U8.out (HP.out.below iE) hi).num (h':={h2 with now:=h2.now+1}) rfl
 have abC:aD (w5.setCell ⟨w.heap.size,5,none⟩ (.int .u64 (h2.now+1))) w.heap.size (hC (.slice a1 p.parts.length c1) (.slice a2 p.wins.length c2) (.slice a3 p.chans.length c3) iv p s2 {h2 with now:=h2.now+1}) 36:=(kb5.set 5 _).cast (aoB ..)
 have afW:=kz5.other ⟨w.heap.size,5,none⟩ (.int .u64 (h2.now+1)) aI
 have abT:Below w.heap.size w (w5.setCell ⟨w.heap.size,5,none⟩ (.int .u64 (h2.now+1))):=Below.setCell iE (Nat.le_refl _) _
 have zI:=ah kb5
 have hwn:IntKind.u64.wrap (h2.now+1)=h2.now+1:=bF.E8 aj aj
 have hw1:IntKind.u64.wrap p.frame=p.frame:=bF.E8 aj aj
 have hw2:p.frame%18446744073709551616=p.frame:=aj
 have hz0:(p.frame==0)=false:=aV
 have hm:(h2.now+1).tmod p.frame=(h2.now+1)%p.frame:=Int.tmod_eq_emod_of_nonneg aj
 have hd:decide (p.frame>0)=true:=decide_eq_true aj
 have GZ:hq=if(h2.now+1)%p.frame=0 then{h2 with now:=h2.now+1,sched:=h2.next} else{h2 with now:=h2.now+1}:=hst
 have OL:=ah GZ
 clear anE xD anC hst GZ G6 kz5 ki5 t1 t2 t3 kb5 hm5 rD ajz
 simp only[Exit.then]
 obtain⟨hcb,bC,bn,bA,bE⟩:=aD.rules zI.out
 by_cases g:(h2.now+1)%p.frame=0
 ·have GZ:=OL.out
  rw[if_pos g] at GZ
  clear OL
  subst hq
  have e1:((h2.now+1)%p.frame==0)=true:=by simp[g]
  have AZ:=(MR.DZ (o:=6) (v:= .int .i64 h2.next) abC af5 (U8.out.num rfl) (HP.out.below abT) hi).num (h':={h2 with now:=h2.now+1,sched:=h2.next}) rfl
  have kb6:aD ((w5.setCell ⟨w.heap.size,5,none⟩ (.int .u64 (h2.now+1))).setCell ⟨w.heap.size,6,none⟩ (.int .i64 h2.next)) w.heap.size (hC (.slice a1 p.parts.length c1) (.slice a2 p.wins.length c2) (.slice a3 p.chans.length c3) iv p s2 {h2 with now:=h2.now+1,sched:=h2.next}) 36:=(abC.set 6 _).cast (aoA ..)
  have kz6:=afW.other ⟨w.heap.size,6,none⟩ (.int .i64 h2.next) aI
  have kM:Below w.heap.size w ((w5.setCell ⟨w.heap.size,5,none⟩ (.int .u64 (h2.now+1))).setCell ⟨w.heap.size,6,none⟩ (.int .i64 h2.next)):=Below.setCell abT (Nat.le_refl _) _
  clear af5 abC afW abT
  have Y7:=ah AZ
  have vL:=ah kb6
  have LY:=ah kz6
  have HB6:=ah kM
  have FL:=je (HP.out.below kM) hi AZ
  have Oc:=ah FL
  have HAF:=ah (show∀B,B<w.heap.size+2→iR B s h→iR B s2 {h2 with now:=h2.now+1,sched:=h2.next} from fun B hB ha=>(IW.out B hB ha).num rfl)
  have aj2:=nk (.slice a1 p.parts.length c1) (.slice a2 p.wins.length c2) (.slice a3 p.chans.length c3) iv p s2 {h2 with now:=h2.now+1,sched:=h2.next}
  have acZ:jV.size=11:=rfl
  have hzf:w.heap.size≤((w5.setCell ⟨w.heap.size,5,none⟩ (.int .u64 (h2.now+1))).setCell ⟨w.heap.size,6,none⟩ (.int .i64 h2.next)).heap.size:=kM.size
  clear AZ kb6 kz6 kM FL
  generalize hW6:((w5.setCell ⟨w.heap.size,5,none⟩ (.int .u64 (h2.now+1))).setCell ⟨w.heap.size,6,none⟩ (.int .i64 h2.next))=w6 at Y7 vL LY HB6 Oc hzf
  go_wp2_with(first|((with_reducible refine cK 36 ?_);(refine aK rfl 36 _ rfl (hC (.slice a1 p.parts.length c1) (.slice a2 p.wins.length c2) (.slice a3 p.chans.length c3) iv p s2 {h2 with now:=h2.now+1,sched:=h2.next}) eH (Oc.out) vL.out ?_ ?_;(exact aM)))|((with_reducible refine bS 36 ?_);(refine aR rfl 36 _ _ rfl LY.out (.agg (hC (.slice a1 p.parts.length c1) (.slice a2 p.wins.length c2) (.slice a3 p.chans.length c3) iv p s2 {h2 with now:=h2.now+1,sched:=h2.next})) eH (Oc.out) ?_ (_) (gM 11 lX ()) ?_ ?_ ?_;(exact gG);(exact aM);(exact aM);(intro N7 nN oP zB f_;have pI:=ah nN)))|fail)
  exact aiW
 ·have GZ:=OL.out
  rw[if_neg g] at GZ
  clear OL
  subst hq
  have e1:((h2.now+1)%p.frame==0)=false:=by simp[g]
  have AZ:=af5
  have kb6:=abC
  have kz6:=afW
  have kM:=abT
  clear af5 abC afW abT
  have Y7:=ah AZ
  have vL:=ah kb6
  have LY:=ah kz6
  have HB6:=ah kM
  have FL:=je (HP.out.below kM) hi AZ
  have Oc:=ah FL
  have HAF:=ah (show∀B,B<w.heap.size+2→iR B s h→iR B s2 {h2 with now:=h2.now+1} from fun B hB ha=>(IW.out B hB ha).num rfl)
  have aj2:=nk (.slice a1 p.parts.length c1) (.slice a2 p.wins.length c2) (.slice a3 p.chans.length c3) iv p s2 {h2 with now:=h2.now+1}
  have acZ:jV.size=11:=rfl
  have hzf:w.heap.size≤(w5.setCell ⟨w.heap.size,5,none⟩ (.int .u64 (h2.now+1))).heap.size:=kM.size
  clear AZ kb6 kz6 kM FL
  go_upto_if 64 with fail
  generalize hW6:(w5.setCell ⟨w.heap.size,5,none⟩ (.int .u64 (h2.now+1)))=w6 at Y7 vL LY HB6 Oc hzf
  go_wp2_with(first|((with_reducible refine cK 36 ?_);(refine aK rfl 36 _ rfl (hC (.slice a1 p.parts.length c1) (.slice a2 p.wins.length c2) (.slice a3 p.chans.length c3) iv p s2 {h2 with now:=h2.now+1}) eH (Oc.out) vL.out ?_ ?_;(exact aM)))|((with_reducible refine bS 36 ?_);(refine aR rfl 36 _ _ rfl LY.out (.agg (hC (.slice a1 p.parts.length c1) (.slice a2 p.wins.length c2) (.slice a3 p.chans.length c3) iv p s2 {h2 with now:=h2.now+1})) eH (Oc.out) ?_ (_) (gM 11 lX ()) ?_ ?_ ?_;(exact gG);(exact aM);(exact aM);(intro N7 nN oP zB f_;have pI:=ah nN)))|fail)
  exact aiW
end Go.Proofs.YtgmodehldmahiaaGreatDoor
