/- Part 24 of 53 of the proof of topAlone_and_topApart. Conditions: see each. -/
import Derived.Test.YtgmodehldmahiaaGreatDoorB14
import Derived.Test.YtgmodehldmahiaaGreatDoorB23
set_option linter.unusedVariables false
set_option linter.unusedSimpArgs false
set_option maxRecDepth 8192
set_option maxHeartbeats 40000000
namespace Go.Proofs.YtgmodehldmahiaaGreatDoor
open Go Go.RowKit Go.Tm
attribute [local go_sem] fO fM fK d_ dM dZ dY dX dW dV dU dS dR dQ dP dO dN iQ iP iO iN iM iL iK iG iJ iI fU fT fQ fP fI fH fC
noncomputable def zk(k:Kn)(p:aT.dz)(x:qJ):Kn×Int×Int:=
 if(Dh (pq p) k.Pi.length x.2.1).2=true∧(lJ (pq p) x.2.1).2=false then
  if(vN (pq p).mem x.2.2.1 x.2.2.2).2=0 then
   if(Pipe.xB (jY k (lJ (pq p) x.2.1).1).1 (jY k (lJ (pq p) x.2.1).1).2.2 x.2.2.2).2.2=0 then
    ({sF k (lJ (pq p) x.2.1).1 (.agg #[.string (Pipe.xB (jY k (lJ (pq p) x.2.1).1).1 (jY k (lJ (pq p) x.2.1).1).2.2 x.2.2.2).1,.int .i64 (jY k (lJ (pq p) x.2.1).1).2.1,.int .i64 (jY k (lJ (pq p) x.2.1).1).2.2]) with
      P:=aT.oF k.P (BH p.pid p.par p.st {pq p with mem:=(inS (pq p).mem x.2.2.1 (Pipe.xB (jY k (lJ (pq p) x.2.1).1).1 (jY k (lJ (pq p) x.2.1).1).2.2 x.2.2.2).2.1).1})},
     ((Pipe.xB (jY k (lJ (pq p) x.2.1).1).1 (jY k (lJ (pq p) x.2.1).1).2.2 x.2.2.2).2.1.size:Int)%4294967296,0)
   else(k,0,(Pipe.xB (jY k (lJ (pq p) x.2.1).1).1 (jY k (lJ (pq p) x.2.1).1).2.2 x.2.2.2).2.2)
  else(k,0,(vN (pq p).mem x.2.2.1 x.2.2.2).2)
 else(k,0,1)
theorem aal:zP 169 zk:=by
 intro b s k p x w hw hk hx
 have HW:=ah hw
 obtain⟨r,hr⟩:∃r,r=zk k p x:=⟨_,rfl⟩
 rw[←hr]
 unfold zk at hr
 (rw[show aT.jQ p=.agg (iA p.pid p.par p.st (pq p)) from congrArg Value.agg (wM p)];have hq:=jR p;generalize pq p=q at*;generalize p.pid=pid at*;generalize p.par=par at*;generalize p.st=st at*;have HQ:=ah hq;clear hq)
 have hlt:=hw.lt
 have hpi:=hk.Pi
 have HPP:=ah hw.kr.pi
 have HPA:=ah (fun n h1 h2=>Yh hw.kr.pi (n:=n) h1 h2)
 have HE:=ah (fun W h=>PZ b s k pid par st q x.2.1 W h hx.2.1)
 have hes:=fun h=>Fw (q:=q) (np:=k.Pi.length) (n:=x.2.1) h
 have jW:=HQ.out.mem
 unfold maxLen at jW
 have HO:=ah (fun W=>PX q.mem x.2.2.1 x.2.2.2 W hx.2.2.1 hx.2.2.2 jW)
 generalize vN q.mem x.2.2.1 x.2.2.2=os at*
 obtain⟨o1,o2⟩:=os
 generalize Dh q k.Pi.length x.2.1=es at*
 obtain⟨⟨e1,e2⟩,eb⟩:=es
 dsimp only at hes HE HO hr
 have HR:=ah hr
 have HES:=ah hes
 clear hw hes hr
 have hv0:=qY pid par st q
 go_enter Tryz.func169,Tryz.ntmps169
 go_wp2_with(first|((with_reducible refine cK 126 ?_);(refine aK rfl 126 _ rfl (iA pid par st q) aT.bf (hv0) ((aD.new w _ _).alloc _) ?_ ?_;(exact aM)))|fail)
 (generalize bR:World.alloc _ _=w0;have KP:aD w0 (w.heap.size) (iA pid par st q) 126:=bH;have KX:aD w0 (w.heap.size+1) (#[.int .u32 x.1,.int .u32 x.2.1,.int .u32 x.2.2.1,.int .u32 x.2.2.2]) 124:=bH;have hb0:Below w.heap.size w w0:=bN;have hz0:w0.heap.size=w.heap.size+1+1:=bX;clear bR;have KP:=ah KP;have KX:=ah KX)
 ((try clear hcb bC bn bA bE);have bg:=HW.out.below hb0;obtain⟨hcb,bC,bn,bA,bE⟩:=aD.rules bg.box;have lG:=ah bg;clear bg)
 with_reducible refine(HE.out _ lG.out).mono ?_
 rintro en w1 ⟨rfl,hb1⟩
 have bW:=hb0.trans (hb1.mono hb0.size)
 have hz1:=hb1.size
 cases eb
 ·have hr:=HR.out
  exact aiM
 obtain⟨h4,mF,hf2,hfe⟩:=HES.out rfl
 have hr:=HR.out
 rw[←hfe] at hr mF hf2
 dsimp only at hr mF hf2
 cases e2
 rotate_left
 ·exact aiM
 rw[if_pos ⟨rfl,rfl⟩] at hr
 ((try clear hcb bC bn bA bE);have bg:=lG.out.below hb1;obtain⟨hcb,bC,bn,bA,bE⟩:=aD.rules bg.box;have qA:=ah bg;clear bg)
 ((try clear fF h_ gF gQ g_);have bx0:=KP.out.below hb1 KP.out.lt;obtain⟨fF,h_,gF,gQ,g_⟩:=aD.rules bx0;have A9:=ah bx0;clear bx0)
 ((try clear gL iZ hlx iY hmx);have bx0:=KX.out.below hb1 KX.out.lt;obtain⟨gL,iZ,hlx,iY,hmx⟩:=aD.rules bx0;have FT:=ah bx0;clear bx0)
 have mE:¬w.heap.size=w1.heap.size:=aj
 have rD:¬w.heap.size+1=w1.heap.size:=aj
 clear hb1
 go_wp2_with fail
 with_reducible refine(HO.out _).mono ?_
 rintro en w2 ⟨rfl,hb2⟩
 have hz2:=hb2.size
 simp only[World.size_alloc] at hz2
 have KD2:=ah ((aD.new w1 (qd (e1,false)).cells 121).below hb2 aI)
 have f_:Below w1.heap.size w1 w2:=aG
 have bM:=bW.trans (f_.mono bW.size)
 ((try clear hcb bC bn bA bE);have bg:=qA.out.below f_;obtain⟨hcb,bC,bn,bA,bE⟩:=aD.rules bg.box;have tC:=ah bg;clear bg)
 clear fF h_ gF gQ g_ hb2
 have Um:=ah (FT.out.below f_ FT.out.lt)
 have CV:=ah (A9.out.below f_ A9.out.lt)
 ((try clear gL iZ hlx iY hmx);have bx0:=Um.out;obtain⟨gL,iZ,hlx,iY,hmx⟩:=aD.rules bx0;have QK:=ah bx0;clear bx0)
 ((try clear hcd zy wY yQ zx);have bx0:=KD2.out;obtain⟨hcd,zy,wY,yQ,zx⟩:=aD.rules bx0;have Un:=ah bx0;clear bx0)
 by_cases h2:o2=0
 rotate_left
 ·rw[if_neg h2] at hr
  have e2:(o2 !=0)=true:=uR
  subst hr
  go_wp2_with fail
  exact bodyPost_ret (v:= .tuple #[.int .u32 0,.int .i64 o2]) Pg rfl ⟨rfl,⟨s,HW.out.below bM,fun _ _ _ h=>h⟩,aA bM _⟩
 rw[if_pos h2] at hr
 subst h2
 obtain⟨i,d,pr,pw,rfl,hi,zF,hpa,hd,hpr,hpw⟩:=HPA.out e1 mF hf2
 rw[hpa] at hr
 dsimp only at hr
 have hsl:=tC.out.kr.Pi
 obtain⟨a,cap,hv,hl⟩:=hsl.shape
 rw[hv] at hsl
 obtain⟨b2,off,rfl,akE,hcell⟩:=hsl.at (i:=i) zF
 have hwi:IntKind.i64.wrap ((i:Int)+1-1)=i:=ah0
 have ao1:IntKind.i64.wrap (i:Int)=i:=IntWalk.i64_in _ aj
 have qN:(0:Int)≤(i:Int):=aj
 have xW:(i:Int)<k.Pi.length:=aj
 have hwc:IntKind.i64.wrap x.2.2.2=x.2.2.2:=by obtain⟨_,_,_,h1,h2⟩:=hx;exact IntWalk.i64_in _ aj
 have HWR:=ah (fun W=>Pipe.aeS d pr pw x.2.2.2 W hd)
 obtain⟨abE,hrs⟩:=Pipe.Wz d pw x.2.2.2 hd
 generalize Pipe.xB d pw x.2.2.2=wr at*
 obtain⟨wr1,wr2,wr3⟩:=wr
 dsimp only at HWR hr abE hrs
 have HIN:=ah (fun W=>ad4 q.mem x.2.2.1 wr2 W hx.2.2.1 jW hrs)
 have hins:=SC q.mem x.2.2.1 wr2 hx.2.2.1.1
 generalize inS q.mem x.2.2.1 wr2=im at*
 obtain⟨im1,im2⟩:=im
 dsimp only at HIN hr hins
 have qP:=ah hcell
 have hvp:Val true 3 (.agg #[.string d,.int .i64 pr,.int .i64 pw]):=hsl.val _ (List.mem_of_getElem? zF)
 clear hcell
 go_wp2_with fail
 refine Hy (α:=Nat) (fun q W=>aD W q #[.string wr1,.int .i64 pr,.int .i64 pw] 131∧Below w2.heap.size w2 W∧w2.heap.size≤q) ?G ?_ ?_
 rotate_left
 ·((refine aY (fun W=>Below w2.heap.size w2 W) (fun i=>decide (i<19)&&i !=16&&i !=17) ay ?_);
          have hS:Below w2.heap.size w2 w2.drew:=(Below.refl _ _).drew;
          (refine tk 0 43 hS ?_);
          (refine tk 1 44 hS ?_);
          (refine tk 2 45 hS ?_);
          (refine tk 3 46 hS ?_);
          (refine tk 4 47 hS ?_ (hy:=Or.inl ⟨aF,acv⟩));
          (refine tk 5 48 hS ?_);
          (refine tk 6 49 hS ?_ (hy:=Or.inl ⟨aF,acv⟩));
          (refine tk 7 50 hS ?_);
          (refine tk 8 51 hS ?_);
          (refine bL 9 (oi:=⟨some 52,_,_,_,_,_⟩) rfl ay om hS (jh 131 _ rfl (b:=b2) (off:=off+i*3) #[.string d,.int .i64 pr,.int .i64 pw] Pipe.uo hvp aF bG (fun W hs=>qP.out.below hs akE)) ?_);
          (try simp only[pt]);
          (refine tk 10 53 hS ?_);
          (refine tk 11 54 hS ?_ (hy:=Or.inl ⟨aF,acv⟩));
          (refine tk 12 55 hS ?_);
          (refine eX 13 18 (oi:=⟨some 56,_,_,_,_,_⟩) (oj:=⟨some 12,_,_,_,_,_⟩) rfl rfl ay rfl rfl (fun K hK=>?_) (fun K hK=>?_));
          (focus((go_simp;(with_reducible refine(HWR.out _).mono ?_);rintro en w4 ⟨rfl,hb4⟩;have hS:=hS.trans (Below.mono hb4 hS.size);(try(have bT:=aD.below bT hb4 bT.lt));(try go_wp2_with fail));(refine hK.out _ _ (fun _=>b_) ?_;clear hK K);(try simp only[pt]);(refine tk 14 42 hS ?_);(try simp only[pt]);(refine bV 16 (oi:=⟨some 58,_,_,_,_,_⟩) (v:=?_) rfl ay om (Or.inl ⟨aF,?_⟩) ?_;rotate_left;focus(intro W hW;go_simp;(all_goals with_reducible rfl)));(try simp only[pt]);(refine bV 17 (oi:=⟨some 59,_,_,_,_,_⟩) (v:=?_) rfl ay om (Or.inl ⟨aF,?_⟩) ?_;rotate_left;focus(intro W hW;go_simp;(all_goals with_reducible rfl)));(try simp only[pt]);(refine tk 15 57 hS ?_);(try simp only[pt]);(refine aJ 18 (oi:=⟨some 12,_,_,_,_,_⟩) rfl ay rfl (fun K hK=>?_));(refine eF 131 rfl (z:= .agg #[.string ⟨#[]⟩,.int .i64 0,.int .i64 0]) ay #[.string ⟨#[]⟩,.int .i64 0,.int .i64 0] rfl ?_);(refine hidS hK (hS.alloc hS.size _) (fun hS=>?_);clear hK K);(try simp only[pt]);(first|(have bT:=aD.new w4 #[.string ⟨#[]⟩,.int .i64 0,.int .i64 0] 131;have dK:Below w4.heap.size w4 (w4.alloc (.cells #[.string ⟨#[]⟩,.int .i64 0,.int .i64 0] 131)):=(Below.refl _ _).alloc (Nat.le_refl _) _;have gy:w2.heap.size≤w4.heap.size:=XI;generalize w4.alloc (.cells #[.string ⟨#[]⟩,.int .i64 0,.int .i64 0] 131)=w5 at hS bT dK⊢;generalize w4.heap.size=qa at bT gy⊢)|(have bT:=aD.new w2.drew #[.string ⟨#[]⟩,.int .i64 0,.int .i64 0] 131;have dK:Below w2.drew.heap.size w2.drew (w2.drew.alloc (.cells #[.string ⟨#[]⟩,.int .i64 0,.int .i64 0] 131)):=(Below.refl _ _).alloc (Nat.le_refl _) _;have gy:w2.heap.size≤w2.drew.heap.size:=M8;generalize w2.drew.alloc (.cells #[.string ⟨#[]⟩,.int .i64 0,.int .i64 0] 131)=w5 at hS bT dK⊢;generalize w2.drew.heap.size=qa at bT gy⊢));exact aje));
          (focus((refine eF 131 rfl (z:= .agg #[.string ⟨#[]⟩,.int .i64 0,.int .i64 0]) ay #[.string ⟨#[]⟩,.int .i64 0,.int .i64 0] rfl ?_);(refine hidS hK (hS.alloc hS.size _) (fun hS=>?_);clear hK K);(try simp only[pt]);(first|(have bT:=aD.new w4 #[.string ⟨#[]⟩,.int .i64 0,.int .i64 0] 131;have dK:Below w4.heap.size w4 (w4.alloc (.cells #[.string ⟨#[]⟩,.int .i64 0,.int .i64 0] 131)):=(Below.refl _ _).alloc (Nat.le_refl _) _;have gy:w2.heap.size≤w4.heap.size:=XI;generalize w4.alloc (.cells #[.string ⟨#[]⟩,.int .i64 0,.int .i64 0] 131)=w5 at hS bT dK⊢;generalize w4.heap.size=qa at bT gy⊢)|(have bT:=aD.new w2.drew #[.string ⟨#[]⟩,.int .i64 0,.int .i64 0] 131;have dK:Below w2.drew.heap.size w2.drew (w2.drew.alloc (.cells #[.string ⟨#[]⟩,.int .i64 0,.int .i64 0] 131)):=(Below.refl _ _).alloc (Nat.le_refl _) _;have gy:w2.heap.size≤w2.drew.heap.size:=M8;generalize w2.drew.alloc (.cells #[.string ⟨#[]⟩,.int .i64 0,.int .i64 0] 131)=w5 at hS bT dK⊢;generalize w2.drew.heap.size=qa at bT gy⊢));(refine aJ 13 (oi:=⟨some 56,_,_,_,_,_⟩) rfl ay rfl (fun K hK=>?_));(go_simp;(with_reducible refine(HWR.out _).mono ?_);rintro en w4 ⟨rfl,hb4⟩;have hS:=hS.trans (Below.mono hb4 hS.size);(try(have bT:=aD.below bT hb4 bT.lt));(try go_wp2_with fail));(refine hK.out _ _ (fun _=>b_) ?_;clear hK K);(try simp only[pt]);(refine tk 14 42 hS ?_);(try simp only[pt]);(refine bV 16 (oi:=⟨some 58,_,_,_,_,_⟩) (v:=?_) rfl ay om (Or.inl ⟨aF,?_⟩) ?_;rotate_left;focus(intro W hW;go_simp;(all_goals with_reducible rfl)));(try simp only[pt]);(refine bV 17 (oi:=⟨some 59,_,_,_,_,_⟩) (v:=?_) rfl ay om (Or.inl ⟨aF,?_⟩) ?_;rotate_left;focus(intro W hW;go_simp;(all_goals with_reducible rfl)));(try simp only[pt]);(refine tk 15 57 hS ?_);(try simp only[pt]);exact aje)))
 ·rintro qa w5 ⟨bT,xX,gy⟩
  have iE:=bM.trans (xX.mono bM.size)
  ((try clear hcb bC bn bA bE);have bg:=tC.out.below xX;obtain⟨hcb,bC,bn,bA,bE⟩:=aD.rules bg.box;have sN:=ah bg;clear bg)
  clear hcd zy wY yQ zx
  ((try clear hcd zy wY yQ zx);have bx0:=Un.out.below xX Un.out.lt;obtain⟨hcd,zy,wY,yQ,zx⟩:=aD.rules bx0;have KD5:=ah bx0;clear bx0)
  have apk:w1.heap.size<w2.heap.size:=by have:=Un.out.lt;omega
  have zI:=ah bT
  ((try clear Qz YQ Uw Uf YM);have bx0:=zI.out;obtain⟨Qz,YQ,Uw,Uf,YM⟩:=aD.rules bx0;have vL:=ah bx0;clear bx0)
  by_cases h3:wr3=0
  rotate_left
  ·rw[if_neg h3] at hr
   have e3:(wr3 !=0)=true:=rV
   subst hr
   go_wp2_with fail
   exact bodyPost_ret (v:= .tuple #[.int .u32 0,.int .i64 wr3]) Pg rfl ⟨rfl,⟨s,HW.out.below iE,fun _ _ _ h=>h⟩,aA iE _⟩
  rw[if_pos h3] at hr
  subst h3
  clear bT hsl
  ((try clear gL iZ hlx iY hmx);have bx0:=QK.out.below xX QK.out.lt;obtain⟨gL,iZ,hlx,iY,hmx⟩:=aD.rules bx0;have Ul:=ah bx0;clear bx0)
  have Ez:=ah (CV.out.below xX CV.out.lt)
  ((try clear fF h_ gF gQ g_);have bx0:=Ez.out;obtain⟨fF,h_,gF,gQ,g_⟩:=aD.rules bx0;have M4:=ah bx0;clear bx0)
  go_wp2_with fail
  with_reducible refine(HIN.out _).mono ?_
  rintro en w6 ⟨rfl,kM⟩
  have mD:=iE.trans (kM.mono iE.size)
  ((try clear hcb bC bn bA bE);have bg:=sN.out.below kM;obtain⟨hcb,bC,bn,bA,bE⟩:=aD.rules bg.box;have LZ:=ah bg;clear bg)
  ((try clear fF h_ gF gQ g_);have bx0:=M4.out.below kM M4.out.lt;obtain⟨fF,h_,gF,gQ,g_⟩:=aD.rules bx0;have KP7:=ah bx0;clear bx0)
  have KD6:=ah (KD5.out.below kM KD5.out.lt)
  have M5:=ah (vL.out.below kM vL.out.lt)
  have dK:=KD5.out.lt
  have kV:=vL.out.lt
  have hp5:=M4.out.lt
  have L8:Hid (Pf.Ok {q with mem:=im1}):=ah {HQ.out with mem:=by show im1.size≤_;rw[hins];exact HQ.out.mem}
  obtain⟨q2,mh⟩:∃q2:Pf,q2={q with mem:=im1}:=⟨_,rfl⟩
  rw[←mh] at L8 hr
  have HE2:=ah mh
  clear hcd zy wY yQ zx Qz YQ Uw Uf YM gL iZ hlx iY hmx mh
  go_wp2_with fail
  generalize bR:World.setCell _ _ _=w7
  have LW:aD w7 w.heap.size (iA pid par st q2) 126:=ahU
  have mq:Below w.heap.size w w7:=bN
  have LC:w7.heap.size=w6.heap.size:=bX
  have KD7:=ah (show aD w7 w1.heap.size (qd ((i:Int)+1,false)).cells 121 from by rw[←bR];exact KD6.out.other _ _ aV)
  have xg:=ah (show aD w7 qa #[.string wr1,.int .i64 pr,.int .i64 pw] 131 from by rw[←bR];exact M5.out.other _ _ aV)
  have KP8:=ah LW
  ((try clear hcb bC bn bA bE);have bg:=HW.out.below mq;obtain⟨hcb,bC,bn,bA,bE⟩:=aD.rules bg.box;have CU:=ah bg;clear bg)
  have Ot:=CU.out.kr.Pi
  rw[hv] at Ot
  have ab0:=ah Ot
  have hz6:=kM.size
  clear bR LW Ot fF h_ gF gQ g_ KP7 M4 Ez CV
  with_reducible refine(Pipe.yN _ k.Pi _ ab0.out aj).mono ?_
  rintro en w8 ⟨v8,rfl,AY,ku⟩
  obtain⟨g,n6,rfl,UQ,abN,hbg,N_,hfg,hcg⟩:=AY.form aj
  ((try clear hcb bC bn bA bE);have bg:=CU.out.below ku;obtain⟨hcb,bC,bn,bA,bE⟩:=aD.rules bg.box;have UF:=ah bg;clear bg)
  have KD8:=ah (KD7.out.below ku KD7.out.lt)
  have Io:=ah (xg.out.below ku xg.out.lt)
  have KP9:=ah (KP8.out.below ku KP8.out.lt)
  have akj:=CU.out.lt
  have hd7:=KD7.out.lt
  have pE:=xg.out.lt
  have hp7:=KP8.out.lt
  have Ba:=ah AY
  clear hfg hcg AY
  go_wp2_with fail
  generalize bR:World.setCell _ _ _=w9
  have nE:w8.grownBy w9 (some b):=qg
  have bb9:aD w9 b (kC {s with Pi:= .slice (some ⟨g,0,none⟩) k.Pi.length n6} k) kT:=by rw[←bR];exact(UF.out.box.set 4 _).cast (acY _ _ _)
  have anA:=ah (KD8.out.grown nE aV)
  have EG:=ah (Io.out.grown nE aV)
  have OJ:=ah (KP9.out.grown nE aV)
  have GX:=ah (Ba.out.Dx nE akj)
  have Y0:=ah bb9
  clear bR hcb bC bn bA bE bb9
  obtain⟨hcb,bC,bn,bA,bE⟩:=aD.rules Y0.out
  obtain⟨hcd,zy,wY,yQ,zx⟩:=aD.rules anA.out
  obtain⟨Qz,YQ,Uw,Uf,YM⟩:=aD.rules EG.out
  ((refine aY (fun W=>Below w9.heap.size w9 W) (fun i=>decide (i<10)) ay ?_);
          have hS:Below w9.heap.size w9 w9.drew:=(Below.refl _ _).drew;
          (refine tk 0 83 hS ?_);
          (refine tk 1 84 hS ?_);
          (refine tk 2 85 hS ?_);
          (refine tk 3 86 hS ?_);
          (refine tk 4 87 hS ?_ (hy:=Or.inl ⟨aF,Zc⟩));
          (refine tk 5 88 hS ?_);
          (refine tk 6 89 hS ?_ (hy:=Or.inl ⟨aF,Zc⟩));
          (refine tk 7 90 hS ?_);
          (refine tk 8 91 hS ?_ (hy:=Or.inl ⟨aF,Zc⟩));
          (refine tk 9 92 hS ?_);
          (refine aZ 10 ay ?_ rfl);
          simp only[List.toList_toArray,List.drop_succ_cons,List.drop_zero])
  have wO:=ah (GX.out.kept hS)
  have hvn:Val true 3 (.agg #[.string wr1,.int .i64 pr,.int .i64 pw]):=⟨_,rfl,rfl,M7⟩
  have QL:=ah (Y0.out.below hS Y0.out.lt)
  have KPC:=ah (OJ.out.below hS OJ.out.lt)
  go_wp2_with(first|((with_reducible refine bS 131 ?_);(refine eB (base:=w7.heap.size) rfl _ _ rfl Pipe.uo g k.Pi.length n6 wO.out i hi ?_ (.agg #[.string wr1,.int .i64 pr,.int .i64 pw]) ?_ hvn ?_;(exact aM);(exact aM);(intro rT Db qR;have IU:=ah Db;have KBD:=ah (QL.out.grown qR aV);have KPD:=ah (KPC.out.grown qR aV);clear Db)))|fail)
  have hG7:w7.grownBy rT (some b):=nu (aB (aB (aA ku _) nE) (aA hS _)) qR hbg
  have ajY:Pipe.nL (.agg #[.string wr1,.int .i64 pr,.int .i64 pw]):=⟨wr1,pr,pw,rfl,abE,hpr,hpw⟩
  have GY:=CU.out.aju hG7 (KBD.out.cast wQ) IU.out.sl (Pipe.R8 HPP.out ajY)
  have Zt:=aB (aA mq (some b)) hG7
  have hpl:=hk.P
  clear hcb bC bn bA bE hcd zy wY yQ zx Qz YQ Uw Uf YM
  obtain⟨hcb,bC,bn,bA,bE⟩:=aD.rules GY.box
  ((try clear fF h_ gF gQ g_);have bx0:=KPD.out;obtain⟨fF,h_,gF,gQ,g_⟩:=aD.rules bx0;have KPE:=ah bx0;clear bx0)
  have Mh:=ah GY
  clear GY QL KPC Y0 OJ KP9 EG Io xg M5 anA KD8 KD7
  ((refine aY (fun W=>Below rT.heap.size rT W) (fun i=>decide (i<11)) ay ?_);
          have qG:Below rT.heap.size rT rT.drew:=(Below.refl _ _).drew;
          (refine tk 0 93 qG ?_);
          (refine tk 1 94 qG ?_);
          (refine tk 2 95 qG ?_);
          (refine tk 3 96 qG ?_);
          (refine tk 4 97 qG ?_);
          (refine tk 5 98 qG ?_ (hy:=Or.inl ⟨aF,qB⟩));
          (refine bL 6 (oi:=⟨some 99,_,_,_,_,_⟩) rfl ay om qG (dh 126 _ rfl (iA pid par st q2) aT.bf (qY _ _ _ _) aF bG (fun W hs=>KPE.out.below hs KPE.out.lt)) ?_);
          (try simp only[pt]);
          (refine aJ 7 (oi:=⟨some 100,_,_,_,_,_⟩) rfl ay rfl (fun K hK=>?_));
          (go_simp;(with_reducible refine(F8 _ k.P pid par st _ L8.out _ (Mh.out.kr.P.below qG) hpl).mono ?_);rintro en N7 ⟨v12,rfl,UN,f_⟩;have qG:=qG.trans (Below.mono f_ qG.size);obtain⟨a12,m12,n12,rfl⟩:=UN.is;(try go_wp2_with fail));
          (refine hK.out _ _ (fun _=>b_) ?_;clear hK K);
          (try simp only[pt]);
          (refine tk 8 101 qG ?_);
          (refine tk 9 102 qG ?_);
          (refine tk 10 103 qG ?_);
          (refine aZ 11 ay ?_ rfl);
          simp only[List.toList_toArray,List.drop_succ_cons,List.drop_zero])
  ((try clear hcb bC bn bA bE);have bg:=Mh.out.below qG;obtain⟨hcb,bC,bn,bA,bE⟩:=aD.rules bg.box;have akY:=ah bg;clear bg)
  have H12:=ah UN
  have akR:=aB Zt (aA qG _)
  clear fF h_ gF gQ g_ UN
  go_wp2_with fail
  unfold sF at hr
  rw[show((i:Int)+1-1).toNat=i by omega] at hr
  subst hr
  exact bodyPost_ret (v:= .tuple #[.int .u32 ((wr2.size:Int)%4294967296),.int .i64 0]) Pg rfl ⟨rfl,⟨_,akY.out.C8 H12.out,fun B hB _ h=>⟨h.1,h.2.1,h.2.2.1,h.2.2.2.1,h.2.2.2.2.1,.inr fun c hc=>ahO⟩⟩,aB akR (aO _ _ _ _)⟩
end Go.Proofs.YtgmodehldmahiaaGreatDoor
