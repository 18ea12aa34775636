/- Part 33 of 53 of the proof of topAlone_and_topApart. Conditions: see each. -/
import Derived.Test.YtgmodehldmahiaaGreatDoorB14
import Derived.Test.YtgmodehldmahiaaGreatDoorB28
import Derived.Test.YtgmodehldmahiaaGreatDoorB32
set_option linter.unusedVariables false
set_option linter.unusedSimpArgs false
set_option maxRecDepth 8192
set_option maxHeartbeats 40000000
namespace Go.Proofs.YtgmodehldmahiaaGreatDoor
open Go Go.RowKit Go.Tm
attribute [local go_sem] fO fM fK d_ dM dZ dY dX dW dV dU dS dR dQ dP dO dN iQ iP iO iN iM iL iK iG iJ iI fU fT fQ fP fI fH fC
noncomputable def EW(k:Kn):Kn:={k with L:=(ji.wU k.L k.left).1,left:=(ji.wU k.L k.left).2}
noncomputable def xY(p:aT.dz):aT.dz:=BH p.pid p.par p.st {pq p with c:=(lM (pq p).c (pq p).mem).1,mem:=(lM (pq p).c (pq p).mem).2.1}
noncomputable def Dv(p:aT.dz):Int:=(lM (pq p).c (pq p).mem).2.2
noncomputable def vM(k:Kn)(p:aT.dz):Kn:={k with P:=aT.oF k.P (xY p)}
noncomputable def RH(k:Kn)(pid:Int)(p:aT.dz):Kn:=
 if Dv p=0 then EW (vM k p)
 else if Dv p=3 then(if(IL (vM k p) (xY p) (sS (lM (pq p).c (pq p).mem).1)).2 then EW (IL (vM k p) (xY p) (sS (lM (pq p).c (pq p).mem).1)).1 else(IL (vM k p) (xY p) (sS (lM (pq p).c (pq p).mem).1)).1)
 else qV k pid (128+Dv p) (Dv p)
noncomputable def t_(k:Kn):Kn:=if k.L=[] then k else RH k (k.L.headD 0) (aT.bK k.P (k.L.headD 0)).1
theorem D7(p:aT.dz):(pq p).mem.size≤9223372036854775807:=(jR p).mem
theorem Ye(p:aT.dz):Pf.Ok {pq p with c:=(lM (pq p).c (pq p).mem).1,mem:=(lM (pq p).c (pq p).mem).2.1}:=
 {jR p with c:=(yL (jR p).c (D7 p)).1,mem:=by show ByteArray.size _≤_;rw[(yL (jR p).c (D7 p)).2.1];exact(jR p).mem}
theorem alr(p:aT.dz):aT.eT (xY p)=iA p.pid p.par p.st {pq p with c:=(lM (pq p).c (pq p).mem).1,mem:=(lM (pq p).c (pq p).mem).2.1}:=F9 (Ye p)
theorem aa4(b:Nat)(s:Ks)(k:Kn)(w:World)(hw:KW w b s k)(hL:k.L=[]):
  Calls Tryz.prog 91 #[.pointer (some ⟨b,0,none⟩)] w fun en w'=>en=.returned (.tuple #[])∧KS w b s k w' k∧w.grownBy w' (some b):=by
 have HF:=ah (fun W h=>ji.xM s.L k.L k.left W h)
 have hd:decide (k.L≠[])=false:=by simp[hL]
 rw[hd] at HF
 have HW:=ah hw
 have yg:=Below.refl w.heap.size w
 ((try clear hcb bC bn bA bE);have bg:=HW.out.below yg;obtain⟨hcb,bC,bn,bA,bE⟩:=aD.rules bg.box;have lG:=ah bg;clear bg)
 clear hw hd hL
 go_enter Tryz.func91,Tryz.ntmps91
 go_wp2_with fail
 with_reducible refine(HF.out _ lG.out.kr.L).mono ?_
 rintro en w1 ⟨rfl,hb1⟩
 go_wp2_with fail
 exact bodyPost_ret (v:= .tuple #[]) Jj rfl ⟨rfl,⟨s,HW.out.below hb1,fun _ _ _ h=>h⟩,aA hb1 _⟩
theorem aa3(b:Nat)(s:Ks)(k:Kn)(w:World)(hw:KW w b s k)(hk:Fit k)(hT:jw w)(hL:k.L≠[])(pid:Int)(p:aT.dz)(ape:k.L.headD 0=pid)(hp:(aT.bK k.P pid).1=p)
  (hk1:Fit (vM k p))(hf:Dv p=3→PD (vM k p) (xY p) (sS (lM (pq p).c (pq p).mem).1))(hl2:Dv p=3→(IL (vM k p) (xY p) (sS (lM (pq p).c (pq p).mem).1)).1.L.length≤1000000000):
  Calls Tryz.prog 91 #[.pointer (some ⟨b,0,none⟩)] w fun en w'=>en=.returned (.tuple #[])∧KS w b s k w' (RH k pid p)∧w.grownBy w' (some b):=by
 have HF:=ah (fun W h=>ji.xM s.L k.L k.left W h)
 have hd:decide (k.L≠[])=true:=by simp[hL]
 rw[hd,ape] at HF
 have HFI:=ah (fun W h=>aT.n_ s.P k.P pid W h)
 generalize aT.bK k.P pid=fs at*
 obtain⟨p0,ok⟩:=fs
 dsimp only at hp HFI
 subst hp
 obtain⟨y,hy⟩:∃y,y=RH k pid p0:=⟨_,rfl⟩
 rw[←hy]
 unfold RH at hy
 have hsp:=yL (jR p0).c (D7 p0)
 have hrc:=alr p0
 have ao':=Ye p0
 have akp:=SI hsp.1
 rw[show Dv p0=(lM (pq p0).c (pq p0).mem).2.2 from rfl] at hy hf hl2
 have HSU:=ah (fun(k:Kn) (s:Ks) W h hl=>ji.ZX s.L k.L k.left W h hl)
 have anI:=ah (fun v W h=>aT.Yf v k.P (xY p0) W h OV)
 have Xx:=wM p0
 generalize hq:pq p0=q at*
 generalize hst:lM q.c q.mem=st at*
 obtain⟨c1,m1,t⟩:=st
 dsimp only at hy hsp hrc ao' hf akp hl2
 obtain⟨hc1,YL,ht,hS⟩:=hsp
 unfold StepT at hS
 have HST:=ah hS
 have Et:=ah (fun W (h:Below w.heap.size w W)=>hT.below h)
 have HY:=ah hy
 have HEN:=ah (fun s W h=>J2 b s k pid (128+t) t W h hk (by rcases ht with rfl|rfl|rfl|rfl<;>decide))
 have HAS:=ah (fun h3 s W h=>afF b s (vM k p0) (xY p0) (sS c1) W h hk1 akp (hf h3))
 unfold pJ at HAS
 have ug:=aT.fG p0
 have hrv:=aT.fG (xY p0)
 have hLk:=hk.L
 have HW:=ah hw
 have HC1:=ah hc1
 have yg:=Below.refl w.heap.size w
 have hlt:=hw.lt
 ((try clear hcb bC bn bA bE);have bg:=HW.out.below yg;obtain⟨hcb,bC,bn,bA,bE⟩:=aD.rules bg.box;have lG:=ah bg;clear bg)
 rw[show aT.jQ p0=.agg (aT.eT p0) from rfl,Xx] at HFI ug
 clear hw hd hL hT hy hf hS akp hk1
 go_enter Tryz.func91,Tryz.ntmps91
 go_wp2_with fail
 with_reducible refine(HF.out _ lG.out.kr.L).mono ?_
 rintro en w1 ⟨rfl,hb1⟩
 ((try clear hcb bC bn bA bE);have bg:=lG.out.below hb1;obtain⟨hcb,bC,bn,bA,bE⟩:=aD.rules bg.box;have qA:=ah bg;clear bg)
 go_wp2_with fail
 with_reducible refine(HFI.out _ qA.out.kr.P).mono ?_
 rintro en w2 ⟨rfl,hb2⟩
 have bM:=hb1.trans (hb2.mono hb1.size)
 ((try clear hcb bC bn bA bE);have bg:=qA.out.below hb2;obtain⟨hcb,bC,bn,bA,bE⟩:=aD.rules bg.box;have tC:=ah bg;clear bg)
 have hz2:=bM.size
 have hcv:=jg q.c
 have fF:=aD.cpu (aD.new w2 (iA p0.pid p0.par p0.st q) 126)
 go_wp2_with(first|((with_reducible refine bS 126 ?_);(refine aU rfl 126 _ _ rfl (iA p0.pid p0.par p0.st q) aT.bf (ug) aF ?_ ?_ ?_;(exact aM);(exact aM)))|((with_reducible refine cK 119 ?_);(refine aN rfl 119 _ rfl w2.heap.size (3) ?_ (kD q.c) jm (hcv) fF ?_;(exact aM)))|fail)
 with_reducible refine(HST.out _ (Et.out _ (bM.alloc bM.size _))).mono ?_
 rintro en w3 ⟨rfl,hb3⟩
 have lu:Below w2.heap.size w2 w3:=aG
 have gZ:=bM.trans (lu.mono bM.size)
 have BL:=ah ((aD.new w2 (iA p0.pid p0.par p0.st q) 126).below hb3 aI)
 have hz3:=hb3.size
 simp only[World.size_alloc] at hz3
 ((try clear hcb bC bn bA bE);have bg:=tC.out.below lu;obtain⟨hcb,bC,bn,bA,bE⟩:=aD.rules bg.box;have pF:=ah bg;clear bg)
 have akx:=jg c1
 have hpz:=vD p0.pid p0.par p0.st q
 have apc:=vD p0.pid p0.par p0.st {q with c:=c1}
 clear fF hb3 lu lG qA tC
 go_upto_block 0 with(first|((with_reducible refine bS 119 ?_);(refine aU rfl 119 _ _ rfl (fB c1) jm (akx) aF ?_ ?_ ?_;(exact aM);(exact aM)))|((with_reducible refine cK 119 ?_);(refine aK rfl 119 _ rfl (fB c1) jm (akx) (aD.new w3 (fB c1) 119) ?_ ?_;(exact aM)))|((with_reducible refine bS 119 ?_);(refine aR rfl 119 _ _ rfl (BL.out.alloc _) (kD c1) jm (akx) ?_ (_) (JU c1) ?_ ?_ ?_;(exact gG);(exact aM);(exact aM);(intro w4 Uj hg4 xU hb4;have UG:=ah Uj;have KC4:=ah ((aD.new w3 (fB c1) 119).grown hg4 aV);have akN:Below w.heap.size w w4:=(gZ.alloc gZ.size _).trans (hb4.mono aj);obtain⟨QJ,xQ,hl4,GR,yR⟩:=Uj.rules;clear Uj)))|fail)
 generalize bR:World.setCell _ _ _=w5
 have Ez:Hid (aD w5 w2.heap.size (aT.eT (xY p0)) 126):=ah (by rw[←bR,hrc];exact(UG.out.set 12 _).cast (PV _ _ _ _ _))
 have KC5:Hid (aD w5 w3.heap.size (fB c1) 119):=ah (by rw[←bR];exact KC4.out.other _ _ aV)
 have kV:Below w.heap.size w w5:=by rw[←bR];exact akN.setCell aV _
 clear bR UG KC4 QJ xQ hl4 GR yR BL hcv hpz apc hrc
 have LP:=kV.size
 ((try clear hcb bC bn bA bE);have bg:=HW.out.below kV;obtain⟨hcb,bC,bn,bA,bE⟩:=aD.rules bg.box;have sN:=ah bg;clear bg)
 have nK:=aA kV (some b)
 have HG5:=ah nK
 rcases ht with rfl|rfl|rfl|rfl
 ·have hy:=HY.out
  rw[if_pos rfl] at hy
  go_wp2_with fail
  ((refine aY (fun W=>Below w5.heap.size w5 W) (fun i=>decide (i<11)) ay ?_);
          have hS:Below w5.heap.size w5 w5.drew:=(Below.refl _ _).drew;
          (refine tk 0 52 hS ?_);
          (refine tk 1 53 hS ?_);
          (refine tk 2 54 hS ?_);
          (refine tk 3 55 hS ?_);
          (refine tk 4 56 hS ?_);
          (refine tk 5 57 hS ?_ (hy:=Or.inl ⟨aF,sQ⟩));
          (refine bL 6 (oi:=⟨some 58,_,_,_,_,_⟩) rfl ay om hS (dh 126 _ rfl (aT.eT (xY p0)) aT.bf hrv aF bG (fun W hs=>Ez.out.below hs Ez.out.lt)) ?_);
          (try simp only[pt]);
          (refine aJ 7 (oi:=⟨some 59,_,_,_,_,_⟩) rfl ay rfl (fun K hK=>?_));
          (go_simp;(with_reducible refine(anI.out _ _ (sN.out.kr.P.below hS)).mono ?_);rintro en w6 ⟨v6,rfl,Ew,kM⟩;have hS:=hS.trans (Below.mono kM hS.size);obtain⟨a6,m6,n6,rfl⟩:=Ew.is;(try go_wp2_with fail));
          (refine hK.out _ _ (fun _=>b_) ?_;clear hK K);
          (try simp only[pt]);
          (refine tk 8 60 hS ?_);
          (refine tk 9 61 hS ?_);
          (refine tk 10 62 hS ?_);
          (refine aZ 11 ay ?_ rfl);
          simp only[List.toList_toArray,List.drop_succ_cons,List.drop_zero])
  ((try clear hcb bC bn bA bE);have bg:=sN.out.below hS;obtain⟨hcb,bC,bn,bA,bE⟩:=aD.rules bg.box;have LZ:=ah bg;clear bg)
  have H6:=ah Ew
  clear Ew
  go_wp2_with(first|((with_reducible refine aeb (some 82) ?_);fail)|fail)
  generalize bR:World.setCell _ _ _=w7
  have kw7:KW w7 b {s with P:= .slice a6 m6 n6} (vM k p0):=by rw[←bR];exact LZ.out.C8 H6.out
  have yS:w6.grownBy w7 (some b):=qg
  have HG7:=ah (aB (aB HG5.out (aA hS (some b))) yS)
  have CU:=ah kw7
  clear bR kw7 yS hcb bC bn bA bE
  obtain⟨hcb,bC,bn,bA,bE⟩:=aD.rules CU.out.box
  have LC:=HG7.out.size
  go_wp2_with fail
  have Ot:Sl w7 false 1 s.L (ints k.L):=by
   have hh:=CU.out.kr.L
   unfold vM at hh
   exact hh
  with_reducible refine(HSU.out k s w7 Ot aj).mono ?_
  rintro en w8 ⟨v8,rfl,GN,Ue,ku⟩
  obtain⟨a8,m8,n8,rfl⟩:=GN.is
  have ha8:=Ue.apart CU.out.aL CU.out.lt
  have zM:=fun(B:Nat) (hB:B<w7.heap.size) (h:Apart B s.L (ints k.L))=>Ue.apart (B:=B) h hB
  ((try clear hcb bC bn bA bE);have bg:=CU.out.below ku;obtain⟨hcb,bC,bn,bA,bE⟩:=aD.rules bg.box;have UF:=ah bg;clear bg)
  have H8:=ah GN
  have HA8:=ah ha8
  have HR8:=ah zM
  clear GN Ue ha8 zM
  go_wp2_with fail
  have hw9:=(UF.out.Dw H8.out HA8.out).set_left (ji.wU (vM k p0).L (vM k p0).left).2
  have IE:lN w b s k {s with P:= .slice a6 m6 n6,L:= .slice a8 m8 n8} (EW (vM k p0)):=fun B hB hne h=>⟨HR8.out B aj h.1,h.2⟩
  subst hy
  exact bodyPost_end (v:= .tuple #[]) Jj rfl ⟨rfl,⟨_,hw9,IE⟩,aB HG7.out (aB (aA ku (some b)) (aB (aO _ _ _ _) (aO _ _ _ _)))⟩
 rotate_left 2
 ·have hy:=HY.out
  rw[if_neg aC,if_pos rfl] at hy
  have anS:=ah (HAS.out rfl)
  have qM:=hl2 rfl
  generalize IL (vM k p0) (xY p0) (sS c1)=ak at*
  obtain⟨k2,on⟩:=ak
  dsimp only at hy anS qM
  go_wp2_with fail
  ((refine aY (fun W=>Below w5.heap.size w5 W) (fun i=>decide (i<11)) ay ?_);
          have hS:Below w5.heap.size w5 w5.drew:=(Below.refl _ _).drew;
          (refine tk 0 65 hS ?_);
          (refine tk 1 66 hS ?_);
          (refine tk 2 67 hS ?_);
          (refine tk 3 68 hS ?_);
          (refine tk 4 69 hS ?_);
          (refine tk 5 70 hS ?_ (hy:=Or.inl ⟨aF,sQ⟩));
          (refine bL 6 (oi:=⟨some 71,_,_,_,_,_⟩) rfl ay om hS (dh 126 _ rfl (aT.eT (xY p0)) aT.bf hrv aF bG (fun W hs=>Ez.out.below hs Ez.out.lt)) ?_);
          (try simp only[pt]);
          (refine aJ 7 (oi:=⟨some 72,_,_,_,_,_⟩) rfl ay rfl (fun K hK=>?_));
          (go_simp;(with_reducible refine(anI.out _ _ (sN.out.kr.P.below hS)).mono ?_);rintro en w6 ⟨v6,rfl,Ew,kM⟩;have hS:=hS.trans (Below.mono kM hS.size);obtain⟨a6,m6,n6,rfl⟩:=Ew.is;(try go_wp2_with fail));
          (refine hK.out _ _ (fun _=>b_) ?_;clear hK K);
          (try simp only[pt]);
          (refine tk 8 73 hS ?_);
          (refine tk 9 74 hS ?_);
          (refine tk 10 75 hS ?_);
          (refine aZ 11 ay ?_ rfl);
          simp only[List.toList_toArray,List.drop_succ_cons,List.drop_zero])
  ((try clear hcb bC bn bA bE);have bg:=sN.out.below hS;obtain⟨hcb,bC,bn,bA,bE⟩:=aD.rules bg.box;have LZ:=ah bg;clear bg)
  have H6:=ah Ew
  clear Ew
  go_wp2_with(first|((with_reducible refine aeb (some 76) ?_);fail)|fail)
  generalize bR:World.setCell _ _ _=w7
  have kw7:KW w7 b {s with P:= .slice a6 m6 n6} (vM k p0):=by rw[←bR];exact LZ.out.C8 H6.out
  have yS:w6.grownBy w7 (some b):=qg
  have HG7:=ah (aB (aB HG5.out (aA hS (some b))) yS)
  have CU:=ah kw7
  have ako:=yS
  clear bR kw7 yS hcb bC bn bA bE
  obtain⟨hcb,bC,bn,bA,bE⟩:=aD.rules CU.out.box
  have LC:=HG7.out.size
  have ar7:w5.heap.size≤w7.heap.size:=by have:=hS.size;have:=ako.size;omega
  have KP7:=ah (((Ez.out.below hS Ez.out.lt).grown ako aV))
  have KC7:=ah (((KC5.out.below hS KC5.out.lt).grown ako aV))
  ((refine aY (fun W=>Below w7.heap.size w7 W) (fun i=>decide (i<4)) ay ?_);
          have hS8:Below w7.heap.size w7 w7.drew:=(Below.refl _ _).drew;
          (refine tk 0 76 hS8 ?_);
          (refine bL 1 (oi:=⟨some 77,_,_,_,_,_⟩) rfl ay om hS8 (dh 126 _ rfl (aT.eT (xY p0)) aT.bf hrv aF bG (fun W hs=>KP7.out.below hs KP7.out.lt)) ?_);
          (try simp only[pt]);
          (refine bL 2 (oi:=⟨some 78,_,_,_,_,_⟩) rfl ay om hS8 (dh 119 _ rfl (fB c1) jm (jg c1) aF bG (fun W hs=>KC7.out.below hs KC7.out.lt)) ?_);
          (try simp only[pt]);
          (refine aJ 3 (oi:=⟨some 79,_,_,_,_,_⟩) rfl ay rfl (fun K hK=>?_));
          (go_simp;(with_reducible refine(alJ c1 _ HC1.out.len).mono ?_);rintro en w8 ⟨rfl,ku⟩;have hS8:=hS8.trans (Below.mono ku hS8.size);skip;(try go_wp2_with fail));
          (refine hK.out _ _ (fun _=>b_) ?_;clear hK K);
          (try simp only[pt]);
          (refine aZ 4 ay ?_ rfl);
          simp only[List.toList_toArray,List.drop_succ_cons,List.drop_zero])
  go_wp2_with fail
  with_reducible refine(anS.out _ _ (CU.out.below hS8)).mono ?_
  rintro en w9 ⟨rfl,⟨s9,BI,amB⟩,nE⟩
  have asa:=hS8.size
  have hG9:=aB (aA hS8 (some b)) nE
  have anD:=ah (show lN w b s k s9 k2 from fun B hB hne h=>amB B aj hne (by unfold vM;exact h))
  have FU:=ah BI
  have HG9:=ah (aB HG7.out hG9)
  have Qr:=HG9.out.size
  have aq2:=Below.refl w9.heap.size w9
  clear amB BI nE hG9
  ((try clear hcb bC bn bA bE);have bg:=FU.out.below aq2;obtain⟨hcb,bC,bn,bA,bE⟩:=aD.rules bg.box;have ant:=ah bg;clear bg)
  cases on
  ·simp only[Bool.false_eq_true,if_false] at hy
   subst hy
   go_wp2_with fail
   exact bodyPost_ret (v:= .tuple #[]) Jj rfl ⟨rfl,⟨s9,FU.out,anD.out⟩,HG9.out⟩
  ·simp only[if_true] at hy
   subst hy
   go_wp2_with fail
   with_reducible refine(HSU.out k2 s9 w9 FU.out.kr.L aj).mono ?_
   rintro en zw ⟨v8,rfl,GN,Ue,ku⟩
   obtain⟨a8,m8,n8,rfl⟩:=GN.is
   have ha8:=Ue.apart FU.out.aL FU.out.lt
   have zM:=fun(B:Nat) (hB:B<w9.heap.size) (h:Apart B s9.L (ints k2.L))=>Ue.apart (B:=B) h hB
   ((try clear hcb bC bn bA bE);have bg:=FU.out.below ku;obtain⟨hcb,bC,bn,bA,bE⟩:=aD.rules bg.box;have Mh:=ah bg;clear bg)
   have H8:=ah GN
   have HA8:=ah ha8
   have HR8:=ah zM
   clear GN Ue ha8 zM
   go_wp2_with fail
   have hw9:=(Mh.out.Dw H8.out HA8.out).set_left (ji.wU k2.L k2.left).2
   have IE:lN w b s k {s9 with L:= .slice a8 m8 n8} (EW k2):=fun B hB hne h=>by
    have h1:=anD.out B hB hne h
    exact⟨HR8.out B aj h1.1,h1.2⟩
   exact bodyPost_end (v:= .tuple #[]) Jj rfl ⟨rfl,⟨_,hw9,IE⟩,aB HG9.out (aB (aA ku (some b)) (aB (aO _ _ _ _) (aO _ _ _ _)))⟩
 ·have hy:=HY.out
  rw[if_neg aC,if_neg aC] at hy
  rw[show(128:Int)+1=129 from rfl] at hy HEN
  exact aiO
 ·have hy:=HY.out
  rw[if_neg aC,if_neg aC] at hy
  rw[show(128:Int)+2=130 from rfl] at hy HEN
  exact aiO
structure P8(k:Kn):Prop where
 ran:Fit (vM k (aT.bK k.P (k.L.headD 0)).1)
 ask:Dv (aT.bK k.P (k.L.headD 0)).1=3→PD (vM k (aT.bK k.P (k.L.headD 0)).1) (xY (aT.bK k.P (k.L.headD 0)).1) (sS (lM (pq (aT.bK k.P (k.L.headD 0)).1).c (pq (aT.bK k.P (k.L.headD 0)).1).mem).1)
 L:Dv (aT.bK k.P (k.L.headD 0)).1=3→(IL (vM k (aT.bK k.P (k.L.headD 0)).1) (xY (aT.bK k.P (k.L.headD 0)).1) (sS (lM (pq (aT.bK k.P (k.L.headD 0)).1).c (pq (aT.bK k.P (k.L.headD 0)).1).mem).1)).1.L.length≤1000000000
theorem afi(b:Nat)(s:Ks)(k:Kn)(w:World)(hw:KW w b s k)(hk:Fit k)(hT:jw w)(hf:k.L≠[]→P8 k):
  Calls Tryz.prog 91 #[.pointer (some ⟨b,0,none⟩)] w fun en w'=>en=.returned (.tuple #[])∧KS w b s k w' (t_ k)∧w.grownBy w' (some b):=by
 unfold t_
 by_cases hL:k.L=[]
 ·rw[if_pos hL];exact aa4 b s k w hw hL
 ·rw[if_neg hL]
  exact aa3 b s k w hw hk hT hL _ _ rfl rfl (hf hL).ran (hf hL).ask (hf hL).L
end Go.Proofs.YtgmodehldmahiaaGreatDoor
