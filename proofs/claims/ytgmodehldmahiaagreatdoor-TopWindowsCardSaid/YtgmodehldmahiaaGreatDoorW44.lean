/- Part 44 of 50 of the proof of topWindows_holds. Conditions: see each. -/
import Derived.Test.YtgmodehldmahiaaGreatDoorW14
import Derived.Test.YtgmodehldmahiaaGreatDoorW41
import Derived.Test.YtgmodehldmahiaaGreatDoorW43
set_option linter.unusedVariables false
set_option linter.unusedSimpArgs false
set_option maxRecDepth 8192
set_option maxHeartbeats 40000000
namespace Go.Proofs.YtgmodehldmahiaaGreatDoor
open Go Go.RowKit Go.Tm
attribute [local go_sem] fB fA fu dR dA dQ dP dO dN dM dL dK dJ dI dH dG dF iq ig h_ g_ gZ gY gX gN gW gV fF fE fD fC eY eX eU
attribute [local go_sem] Dm Dl Dk Dj Di Aj Dh Df Dc Db wQ
def wN(h:Hn)(i:Nat):Option Int:=(h.seats[i]?).map (fun x=>x.1.want)
theorem abd(h:Hn)(dst port:Int)(body:ByteArray)(i:Nat):wN (qZ h dst port body) i=wN h i:=by
 unfold wN qZ
 split
 ·rename_i x hx
  dsimp only
  rw[List.getElem?_set]
  split
  ·rename_i hd
   rw[←hd,hx]
   split
   ·simp[Oi]
   ·rename_i hn
    have:=(List.getElem?_eq_some_iff.1 hx).1
    omega
  ·rfl
 ·rfl
theorem QX(p:Plan.iE)(who:Int)(l:List Ms)(i:Nat):∀h:Hn,wN (gL p who h l) i=wN h i:=by
 induction l with
 |nil=>intro h;rfl
 |cons m r ih=>
  intro h
  refine(ih (jR p who h m)).trans ?_
  unfold jR
  split
  ·exact abd ..
  ·rfl
theorem MR.num{w:World}{s:Hs}{h h':Hn}{n:Nat}(hr:MR w s h n)(e:h'.seats=h.seats):MR w s h' n:=by
 obtain⟨a,b,c,d,e2⟩:=h
 obtain⟨a',b',c',d',e2'⟩:=h'
 dsimp only at e
 subst e
 exact⟨hr.sv,hr.nX,hr.kr,hr.av,hr.rlen,hr.Pn,hr.row⟩
theorem gG.num{B:Nat}{s:Hs}{h h':Hn}(hr:gG B s h)(e:h'.seats=h.seats):gG B s h':=by
 obtain⟨a,b,c,d,e2⟩:=h
 obtain⟨a',b',c',d',e2'⟩:=h'
 dsimp only at e
 subst e
 exact⟨hr.sv,hr.kr,hr.av,hr.row⟩
theorem FV(x:DN):Val true 4 (EK x):=⟨_,rfl,rfl,Sg⟩
theorem acS(pv wv cv iv:Value)(p:Plan.iE)(s:Hs)(h:Hn)(n who:Nat)(x:St)(pt:DN)(w:World)(hp:Plan.gq w pv wv cv p)(hi:kind iv=5)(hr:MR w s h n)(hT:iV w)(hx:h.seats[who]?=some x)(hpt:p.parts[who]?=some pt)
  (hf:x.2.1=1→AB x.1)(hl:x.2.1=1→(jI x.1).gone≠0→H9 pt (jI x.1).gone=3→oJ pt.1 (jI x.1))
  (hfs:∀j,agd p (gL p who {h with seats:=h.seats.set who (mD p who x)} ((mD p who x).1.se.take j)) (n+(mD p who x).1.se.length))(hms:∀m∈(mD p who x).1.se,wfi m.1∧m.2.size≤9223372036854775807):
  Calls Tryz.prog 39 #[.agg (hC pv wv cv iv p s h),.int .i64 who] w (FI w pv wv cv iv p s h (jQ p who h (mD p who x)) (n+(mD p who x).1.se.length)):=by
 have HP:=Lib.hid hp
 have HM:=Lib.hid hr
 have hwl:=(List.getElem?_eq_some_iff.1 hx).1
 have hpe:partAt p who=pt:=XP
 obtain⟨u,hu⟩:∃u,s.ss[who]?=some u:=⟨_,List.getElem?_eq_getElem PG⟩
 have hkr:=hr.kr who u x hu hx
 obtain⟨a1,c1,a2,c2,a3,c3,rfl,rfl,rfl,hl1,hl2,hl3⟩:=hp.shape
 obtain⟨asv,Ox,hsv,Es⟩:=hr.sv.shape
 obtain⟨sv,ss,av,rows,got⟩:=s
 dsimp only at hsv hu
 subst hsv
 obtain⟨bs,os,hbs,O8,hcs⟩:=hr.sv.at (kD hu hx)
 obtain⟨bp,op,hbp,ah9,hcp⟩:=hp.parts.at (i:=who) (x:=Plan.OI pt) (by rw[List.getElem?_map,hpt];rfl)
 have hpl:who<p.parts.length:=(List.getElem?_eq_some_iff.1 hpt).1
 subst hbs hbp
 rw[ku hr.nX] at Es hr HM⊢
 have HCS:=Lib.hid hcs
 have HCP:=Lib.hid hcp
 have HKR:=Lib.hid hkr
 have JA:=jM hkr x.2.1 x.2.2
 have afG:=FV pt
 have HCA:=Lib.hid (fun W h1 h2=>xL u x.1 x.2.1 x.2.2 pt W h1 h2 hf hl)
 have hown:mD p who x=lC pt x.1 x.2.1 x.2.2:=by unfold mD;rw[hpe]
 rw[hown] at hfs hms⊢
 obtain⟨y,hy⟩:∃y,y=lC pt x.1 x.2.1 x.2.2:=⟨_,rfl⟩
 rw[←hy] at hfs hms HCA⊢
 have HFS:=Lib.hid hfs
 have HMS:=Lib.hid hms
 have Ec:=Lib.hid (fun W (h:Below w.heap.size w W)=>hT.below h)
 have hlen1:h.seats.length≤1000000:=by
  have:=(hfs 0).len
  have e:(gL p who {h with seats:=h.seats.set who y} (y.1.se.take 0)).seats.length=h.seats.length:=by rw[zo];simp
  omega
 have hsl:(ql ss h.seats).length=h.seats.length:=ku hr.nX
 have hsz:=jL (.slice (some ⟨bp,op,none⟩) p.parts.length c1) (.slice a2 p.wins.length c2) (.slice a3 p.chans.length c3) iv p ⟨.slice (some ⟨bs,os,none⟩) h.seats.length Ox,ss,av,rows,got⟩ h
 have hsz0:hC0.size=11:=rfl
 have hsz5:(xC u x.1 (sx x.2.1 x.2.2)).size=19:=uO
 obtain⟨hq,WM⟩:∃hq,hq=jQ p who h y:=⟨_,rfl⟩
 rw[←WM]
 have Xg:=Lib.hid WM
 clear hr hf hp hkr hcs hcp hfs hms hl hpt hT hsz hy WM
 go_enter Tryz.func39,Tryz.ntmps39
 go_wp2_with fail
 ((generalize bN:World.alloc _ _=w0);(have KB:aC w0 (w.heap.size) (hC (.slice (some ⟨bp,op,none⟩) p.parts.length c1) (.slice a2 p.wins.length c2) (.slice a3 p.chans.length c3) iv p ⟨.slice (some ⟨bs,os,none⟩) h.seats.length Ox,ss,av,rows,got⟩ h) 36:=bA);(have KZ:aC w0 (w.heap.size+1) (hC0) 36:=bA);(have hb0:Below w.heap.size w w0:=bM);(have hz0:w0.heap.size=w.heap.size+1+1:=bX);(clear bN);(have KB:=Lib.hid KB);(have KZ:=Lib.hid KZ))
 have sF:w.heap.size+2≤w0.heap.size:=ah
 have aj8:bs<w0.heap.size:=ah
 have aj_:bp<w0.heap.size:=ah
 have akK:=Lib.hid (HCS.out.below hb0 O8)
 have akL:=Lib.hid (HCP.out.below hb0 ah9)
 have HM0:=Lib.hid (HM.out.below hb0)
 have akG:=Lib.hid (HKR.out.below hb0)
 clear hz0
 (obtain⟨hcb,bn,hlb,hnb,hmb⟩:=aC.rules KB.out)
 ((refine aY (fun W=>Below w0.heap.size w0 W) (fun i=>decide (i<17)) aj ?_);
          (have hS:Below w0.heap.size w0 w0.drew:=(Below.refl _ _).drew);
          (refine tk 0 6 hS ?_);
          (refine tk 1 7 hS ?_ (hy:=Or.inl ⟨aF,wu⟩));
          (refine tk 2 8 hS ?_);
          (refine tk 3 9 hS ?_);
          (refine tk 4 10 hS ?_);
          (refine tk 5 11 hS ?_ (hy:=Or.inl ⟨aF,wu⟩));
          (refine tk 6 12 hS ?_);
          (refine tk 7 13 hS ?_);
          (refine cO 8 (oi:=⟨some 14,_,_,_,_,_⟩) rfl aj _root_.sx hS (lG 74 _ rfl (b:=bp) (off:=op+who*4) (EK pt) xu afG aF bg (fun W hs=>akL.out.below hs aj_)) ?_);
          (try simp only[pt]);
          (refine tk 9 15 hS ?_);
          (refine tk 10 16 hS ?_ (hy:=Or.inl ⟨aF,wu⟩));
          (refine tk 11 17 hS ?_);
          (refine tk 12 18 hS ?_);
          (refine cO 13 (oi:=⟨some 19,_,_,_,_,_⟩) rfl aj _root_.sx hS (lG 59 _ rfl (b:=bs) (off:=os+who*19) (iM u x.1 x.2.1 x.2.2) eF JA aF bg (fun W hs=>akK.out.below hs aj8)) ?_);
          (try simp only[pt]);
          (refine aK 14 (oi:=⟨some 20,_,_,_,_,_⟩) rfl aj rfl (fun K hK=>?_));
          (go_simp;(with_reducible refine(HCA.out _ (akG.out.below hS) (Ec.out _ (hb0.trans (hS.mono hb0.size)))).mono ?_);rintro en w5 ⟨s5,rfl,LU,DU,hb5⟩;(have hS:=hS.trans (Below.mono hb5 hS.size));(have L9:=Lib.hid LU);(have ED:=Lib.hid DU);(try go_wp2_with fail));
          (refine hK.out _ _ (fun _=>bF) ?_;clear hK K);
          (try simp only[pt]);
          (refine aK 15 (oi:=⟨some 21,_,_,_,_,_⟩) rfl aj rfl (fun K hK=>?_));
          (go_simp;(with_reducible refine(FP _ (ql ss h.seats) who s5 y.1 y.2.1 y.2.2 _ (HM0.out.sv.below hS) ah L9.out ah).mono ?_);rintro en w6 ⟨v6,rfl,OL,hb6⟩;(have hS:=hS.trans (Below.mono hb6 hS.size));(obtain⟨a6,m6,n6,rfl⟩:=OL.sl.is);(have OX:=Lib.hid (OL.le (base':=w0.heap.size) XQ));(have XH:=Lib.hid (L9.out.below hb6));(clear OL LU DU);(try go_wp2_with fail));
          (refine hK.out _ _ (fun _=>bF) ?_;clear hK K);
          (try simp only[pt]);
          (refine tk 16 22 hS ?_);
          (refine aT 17 aj ?_ rfl);
          (simp only[List.toList_toArray,List.drop_succ_cons,List.drop_zero]))
 have yc:=Lib.hid (KB.out.below hS KB.out.lt)
 have tu:=hb0.trans (hS.mono hb0.size)
 have vW:=MR.Ce (d:=who) (u:=s5) (x:=y) yc.out (HM0.out.below hS) (HM.out.away (Nat.le_refl _)) (HP.out.below tu) hi OX.out.sl (iF OX.out ah) XH.out (ED.out w.heap.size BM (HKR.out.away (Nat.le_refl _)))
 have LD:=Lib.hid vW
 have ak9:=hS.size
 have KZ7:=Lib.hid ((KZ.out.below hS KZ.out.lt).other ⟨w.heap.size,8,none⟩ (.slice a6 m6 n6) aI)
 have HMA:=Lib.hid (show∀B,B<w0.heap.size→gG B ⟨.slice (some ⟨bs,os,none⟩) h.seats.length Ox,ss,av,rows,got⟩ h→gG B ⟨.slice a6 m6 n6,ss.set who s5,av,rows,got⟩ {h with seats:=h.seats.set who y} from fun B hB ha=>ha.Ao HM0.out.nX (iF OX.out hB) (ED.out B BM (ha.kr who u x hu hx)))
 have TY:=Lib.hid (show Below w.heap.size w (w6.setCell ⟨w.heap.size,8,none⟩ (.slice a6 m6 n6)) from Below.setCell tu (Nat.le_refl _) _)
 have afp:w6.heap.size≤(w6.setCell ⟨w.heap.size,8,none⟩ (.slice a6 m6 n6)).heap.size:=aI
 generalize hW7:w6.setCell ⟨w.heap.size,8,none⟩ (.slice a6 m6 n6)=w7 at LD KZ7 TY afp
 have Io:w0.heap.size≤w7.heap.size:=ah
 clear vW hcb bn hlb hnb hmb afp
 (obtain⟨hcb,bn,hlb,hnb,hmb⟩:=aC.rules yc.out)
 have hv7:=mJ (HP.out.below TY.out) hi LD.out.2
 have HV7:=Lib.hid hv7
 have SB:=jL (.slice (some ⟨bp,op,none⟩) p.parts.length c1) (.slice a2 p.wins.length c2) (.slice a3 p.chans.length c3) iv p ⟨.slice a6 m6 n6,ss.set who s5,av,rows,got⟩ {h with seats:=h.seats.set who y}
 clear hv7
 go_wp2_with(first|((with_reducible refine bS 36 ?_);(refine aJ rfl 36 _ rfl (hC (.slice (some ⟨bp,op,none⟩) p.parts.length c1) (.slice a2 p.wins.length c2) (.slice a3 p.chans.length c3) iv p ⟨.slice a6 m6 n6,ss.set who s5,av,rows,got⟩ {h with seats:=h.seats.set who y}) d_ HV7.out LD.out.1 ?_ ?_;(exact aG)))|fail)
 with_reducible refine(U5 (.slice (some ⟨bp,op,none⟩) p.parts.length c1) (.slice a2 p.wins.length c2) (.slice a3 p.chans.length c3) iv p ⟨.slice a6 m6 n6,ss.set who s5,av,rows,got⟩ {h with seats:=h.seats.set who y} n who y w7 (HP.out.below TY.out) hi LD.out.2 (by simp[hwl]) HFS.out HMS.out).mono ?_
 rintro en w8 ⟨⟨sv8,Lx,OQ,rD,yP⟩,rfl,Lp,Un,jU⟩
 have HM8:=Lib.hid Lp
 have Mc:=Lib.hid Un
 obtain⟨h8,hh8⟩:∃h8,h8=gL p who {h with seats:=h.seats.set who y} y.1.se:=⟨_,rfl⟩
 have hwt:wN h8 who=some y.1.want:=by rw[hh8,QX];unfold wN;simp[hwl]
 have hcy:jQ p who h y=if who=0∧0≤wrap64 (y.1.want-3)∧wrap64 (y.1.want-3)<p.wins.length then{h8 with next:=wrap64 (y.1.want-3)} else h8:=by unfold jQ;rw[←hh8]
 rw[←hh8] at Lp Un HM8 Mc⊢
 clear hh8 Un
 obtain⟨y8,hy8,hyw⟩:∃y8,h8.seats[who]?=some y8∧y8.1.want=y.1.want:=by
  unfold wN at hwt
  obtain⟨y8,e1,e2⟩:=Option.map_eq_some_iff.1 hwt
  exact⟨y8,e1,e2⟩
 obtain⟨u8,hu8⟩:∃u8,Lx[who]?=some u8:=⟨_,List.getElem?_eq_getElem (by rw[show Lx.length=_ from Lp.nX];exact(List.getElem?_eq_some_iff.1 hy8).1)⟩
 obtain⟨alx,yQ,afx,ae2⟩:=Lp.sv.shape
 rw[ku Lp.nX] at afx ae2
 dsimp only at afx ae2
 subst afx
 obtain⟨b8,o8,akg,akf,hc8⟩:=Lp.sv.at (kD hu8 hy8)
 subst akg
 have Sb:=Lib.hid hcy
 have x9:=Lib.hid (LD.out.1.below jU LD.out.1.lt)
 have KZ8:=Lib.hid (KZ7.out.below jU KZ7.out.lt)
 have OJ:=jU.size
 have hv8:=mJ (HP.out.below (TY.out.trans (jU.mono TY.out.size))) hi Lp
 have HV8:=Lib.hid hv8
 have hk8:(hC (.slice (some ⟨bp,op,none⟩) p.parts.length c1) (.slice a2 p.wins.length c2) (.slice a3 p.chans.length c3) iv p ⟨.slice a6 m6 n6,ss.set who s5,av,rows,got⟩ {h with seats:=h.seats.set who y}).toList.map kind=tO:=oI (HP.out.below TY.out) hi LD.out.2
 have HK8:=Lib.hid hk8
 have Xv:=TY.out.trans (jU.mono TY.out.size)
 have ak7:who<h8.seats.length:=(List.getElem?_eq_some_iff.1 hy8).1
 have aib:gG w.heap.size ⟨.slice (some ⟨b8,o8,none⟩) h8.seats.length yQ,Lx,OQ,rD,yP⟩ h8:=Mc.out w.heap.size ah (HMA.out w.heap.size ah (HM.out.away (Nat.le_refl _)))
 have HAB:=Lib.hid aib
 clear Lp hwt hcy akf hc8 hv8 hk8 aib hcb bn hlb hnb hmb hW7
 by_cases g0:who=0
 ·subst g0
  by_cases g1:0≤wrap64 (y.1.want-3)
  ·by_cases g2:wrap64 (y.1.want-3)<p.wins.length
   ·--it is asked
    have hcy:=Xg.out.trans Sb.out
    rw[if_pos ⟨rfl,g1,g2⟩] at hcy
    clear Xg Sb
    subst hq
    go_upto_if 47 with(first|((with_reducible refine bO 36 ?_);(refine aN rfl 36 _ _ rfl x9.out (.agg (hC (.slice (some ⟨bp,op,none⟩) p.parts.length c1) (.slice a2 p.wins.length c2) (.slice a3 p.chans.length c3) iv p ⟨.slice (some ⟨b8,o8,none⟩) h8.seats.length yQ,Lx,OQ,rD,yP⟩ h8)) d_ (HV8.out) ?_ (_) (gJ 11 SB ()) ?_ ?_ ?_;(exact fK);(exact aG);(exact aG);(intro w9 Bp lg Lm nK;(have T9:=Lib.hid Bp);(have hm9:=HM8.out.bL HAB.out x9.out HK8.out iA aB aB aB lg);(have HM9:=Lib.hid hm9);(obtain⟨b9,o9,af6,akd,GZ⟩:=hm9.sv.at (kD hu8 hy8));(cases af6);(have afU:=GZ 15 (.int .i64 y.1.want) adR);(clear hm9 GZ Bp);(obtain⟨hcb,bn,hlb,hnb,hmb⟩:=aC.rules T9.out))))|fail)
    have KZ9:=Lib.hid (KZ8.out.grown lg aI)
    have HAF:=Lib.hid (show∀B,B<w0.heap.size→gG B ⟨.slice (some ⟨bs,os,none⟩) h.seats.length Ox,ss,av,rows,got⟩ h→gG B ⟨.slice (some ⟨b8,o8,none⟩) h8.seats.length yQ,Lx,OQ,rD,yP⟩ h8 from fun B hB ha=>Mc.out B ah (HMA.out B hB ha))
    have Uk:Below w.heap.size w w9:=Xv.trans (bq lg ah ah)
    have ajz:=lg.size
    clear afU SB
    have afJ:=((HM9.out.bL HAB.out T9.out (oI (HP.out.below Uk) hi HM9.out) iA aB aB aB (aM w9 w.heap.size 7 (.int .i64 (wrap64 (y.1.want-3))))).num (h':={h8 with next:=wrap64 (y.1.want-3)}) rfl)
    have ahz:aC (w9.setCell ⟨w.heap.size,7,none⟩ (.int .i64 (wrap64 (y.1.want-3)))) w.heap.size (hC (.slice (some ⟨bp,op,none⟩) p.parts.length c1) (.slice a2 p.wins.length c2) (.slice a3 p.chans.length c3) iv p ⟨.slice (some ⟨b8,o8,none⟩) h8.seats.length yQ,Lx,OQ,rD,yP⟩ {h8 with next:=wrap64 (y.1.want-3)}) 36:=(T9.out.set 7 _).cast (aji ..)
    have xU:=Lib.hid ahz
    have aiF:=Lib.hid afJ
    have afn:=KZ9.out.other ⟨w.heap.size,7,none⟩ (.int .i64 (wrap64 (y.1.want-3))) aI
    have Yw:Below w.heap.size w (w9.setCell ⟨w.heap.size,7,none⟩ (.int .i64 (wrap64 (y.1.want-3)))):=Below.setCell Uk (Nat.le_refl _) _
    have ai5:w9.heap.size≤(w9.setCell ⟨w.heap.size,7,none⟩ (.int .i64 (wrap64 (y.1.want-3)))).heap.size:=aI
    have agk:=Lib.hid (mJ (HP.out.below Yw) hi afJ)
    clear ahz afJ
    generalize alv:w9.setCell ⟨w.heap.size,7,none⟩ (.int .i64 (wrap64 (y.1.want-3)))=uH at xU aiF afn Yw ai5
    clear KZ9
    have KZ9:=Lib.hid afn
    clear afn
    have aiL:=Lib.hid (show∀B,B<w0.heap.size→gG B ⟨.slice (some ⟨bs,os,none⟩) h.seats.length Ox,ss,av,rows,got⟩ h→gG B ⟨.slice (some ⟨b8,o8,none⟩) h8.seats.length yQ,Lx,OQ,rD,yP⟩ {h8 with next:=wrap64 (y.1.want-3)} from fun B hB ha=>(HAF.out B hB ha).num rfl)
    have afw:=jL (.slice (some ⟨bp,op,none⟩) p.parts.length c1) (.slice a2 p.wins.length c2) (.slice a3 p.chans.length c3) iv p ⟨.slice (some ⟨b8,o8,none⟩) h8.seats.length yQ,Lx,OQ,rD,yP⟩ ({h8 with next:=wrap64 (y.1.want-3)})
    have Yq:hC0.size=11:=rfl
    go_wp2_with(first|((with_reducible refine bS 36 ?_);(refine aJ rfl 36 _ rfl (hC (.slice (some ⟨bp,op,none⟩) p.parts.length c1) (.slice a2 p.wins.length c2) (.slice a3 p.chans.length c3) iv p ⟨.slice (some ⟨b8,o8,none⟩) h8.seats.length yQ,Lx,OQ,rD,yP⟩ ({h8 with next:=wrap64 (y.1.want-3)})) d_ (agk.out) xU.out ?_ ?_;(exact aG)))|((with_reducible refine bO 36 ?_);(refine aN rfl 36 _ _ rfl KZ9.out (.agg (hC (.slice (some ⟨bp,op,none⟩) p.parts.length c1) (.slice a2 p.wins.length c2) (.slice a3 p.chans.length c3) iv p ⟨.slice (some ⟨b8,o8,none⟩) h8.seats.length yQ,Lx,OQ,rD,yP⟩ ({h8 with next:=wrap64 (y.1.want-3)}))) d_ (agk.out) ?_ (_) (gJ 11 mY ()) ?_ ?_ ?_;(exact fK);(exact aG);(exact aG);(intro GR jD jT tq eP;(have kY:=Lib.hid jD))))|fail)
    have hfr:=MR.bL (R:=w.heap.size+1) (ks:=tO) (aiF.out) (aiL.out (w.heap.size+1) ah (HM.out.away ah)) KZ9.out rfl aB aB aB aB jT
    exact iP Tryz.results39 d_ agk.out aF kY.out rfl ⟨⟨.slice (some ⟨b8,o8,none⟩) h8.seats.length yQ,Lx,OQ,rD,yP⟩,rfl,hfr,fun B hB h=>aiL.out B ah h,(Yw).trans (eP.mono ah)⟩
   ·--no such schedule
    have hcy:=Xg.out.trans Sb.out
    rw[if_neg (fun h=>g2 h.2.2)] at hcy
    exact afj
  ·--none
   have hcy:=Xg.out.trans Sb.out
   rw[if_neg (fun h=>g1 h.2.1)] at hcy
   exact afj
 ·--not the partition 0
  have hcy:=Xg.out.trans Sb.out
  rw[if_neg (fun h=>g0 h.1)] at hcy
  exact afj
end Go.Proofs.YtgmodehldmahiaaGreatDoor
