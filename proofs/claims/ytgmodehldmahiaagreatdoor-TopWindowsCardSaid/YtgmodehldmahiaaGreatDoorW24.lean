/- Part 24 of 50 of the proof of topWindows_holds. Conditions: see each. -/
import Derived.Test.YtgmodehldmahiaaGreatDoorW14
import Derived.Test.YtgmodehldmahiaaGreatDoorW23
set_option linter.unusedVariables false
set_option linter.unusedSimpArgs false
set_option maxRecDepth 8192
set_option maxHeartbeats 40000000
namespace Go.Proofs.YtgmodehldmahiaaGreatDoor
open Go Go.RowKit Go.Tm
attribute [local go_sem] fB fA fu dR dA dQ dP dO dN dM dL dK dJ dI dH dG dF iq ig h_ g_ gZ gY gX gN gW gV fF fE fD fC eY eX eU
noncomputable def sM(k:Kn)(p:Tab.bV)(x:nW):Kn×Int×Int:=
 if(zX (pq p) k.Pi.length x.2.1).2=true∧(jY (pq p) x.2.1).2=false then
  if(sD (pq p).mem x.2.2.1 x.2.2.2).2=0 then
   if(Pipe.t_ (jf k (jY (pq p) x.2.1).1).1 (jf k (jY (pq p) x.2.1).1).2.2 x.2.2.2).2.2=0 then
    ({ni k (jY (pq p) x.2.1).1 (.agg #[.string (Pipe.t_ (jf k (jY (pq p) x.2.1).1).1 (jf k (jY (pq p) x.2.1).1).2.2 x.2.2.2).1,.int .i64 (jf k (jY (pq p) x.2.1).1).2.1,.int .i64 (jf k (jY (pq p) x.2.1).1).2.2]) with
      P:=Tab.lW k.P (yK p.pid p.par p.st {pq p with mem:=(WX (pq p).mem x.2.2.1 (Pipe.t_ (jf k (jY (pq p) x.2.1).1).1 (jf k (jY (pq p) x.2.1).1).2.2 x.2.2.2).2.1).1})},
     ((Pipe.t_ (jf k (jY (pq p) x.2.1).1).1 (jf k (jY (pq p) x.2.1).1).2.2 x.2.2.2).2.1.size:Int)%4294967296,0)
   else(k,0,(Pipe.t_ (jf k (jY (pq p) x.2.1).1).1 (jf k (jY (pq p) x.2.1).1).2.2 x.2.2.2).2.2)
  else(k,0,(sD (pq p).mem x.2.2.1 x.2.2.2).2)
 else(k,0,1)
theorem Vk:wG 169 sM:=by
 intro b s k p x w hw hk hx
 have HW:=Lib.hid hw
 obtain⟨r,hr⟩:∃r,r=sM k p x:=⟨_,rfl⟩
 rw[←hr]
 unfold sM at hr
 ((rw[show Tab.je p=.agg (gu p.pid p.par p.st (pq p)) from congrArg Value.agg (sW p)]);(have hq:=iY p);(generalize pq p=q at*);(generalize p.pid=pid at*);(generalize p.par=par at*);(generalize p.st=st at*);(have HQ:=Lib.hid hq);(clear hq))
 have hlt:=hw.lt
 have hpi:=hk.Pi
 have HPP:=Lib.hid hw.kr.pi
 have HPA:=Lib.hid (fun n h1 h2=>Ta hw.kr.pi (n:=n) h1 h2)
 have HE:=Lib.hid (fun W h=>KG b s k pid par st q x.2.1 W h hx.2.1)
 have hes:=fun h=>Ct (q:=q) (np:=k.Pi.length) (n:=x.2.1) h
 have hmem:=HQ.out.mem
 unfold maxLen at hmem
 have HO:=Lib.hid (fun W=>Kz q.mem x.2.2.1 x.2.2.2 W hx.2.2.1 hx.2.2.2 hmem)
 generalize sD q.mem x.2.2.1 x.2.2.2=os at*
 obtain⟨o1,o2⟩:=os
 generalize zX q k.Pi.length x.2.1=es at*
 obtain⟨⟨e1,e2⟩,eb⟩:=es
 dsimp only at hes HE HO hr
 have HR:=Lib.hid hr
 have HES:=Lib.hid hes
 clear hw hes hr
 have hv0:=oz pid par st q
 go_enter Tryz.func169,Tryz.ntmps169
 go_wp2_with(first|((with_reducible refine bS 126 ?_);(refine aJ rfl 126 _ rfl (gu pid par st q) Tab.aX (hv0) ((aC.new w _ _).alloc _) ?_ ?_;(exact aG)))|fail)
 ((generalize bN:World.alloc _ _=w0);(have KP:aC w0 (w.heap.size) (gu pid par st q) 126:=bA);(have KX:aC w0 (w.heap.size+1) (#[.int .u32 x.1,.int .u32 x.2.1,.int .u32 x.2.2.1,.int .u32 x.2.2.2]) 124:=bA);(have hb0:Below w.heap.size w w0:=bM);(have hz0:w0.heap.size=w.heap.size+1+1:=bX);(clear bN);(have KP:=Lib.hid KP);(have KX:=Lib.hid KX))
 ((try clear hcb bn hlb hnb hmb);(have aW:=HW.out.below hb0);(obtain⟨hcb,bn,hlb,hnb,hmb⟩:=aC.rules aW.box);(have jV:=Lib.hid aW);(clear aW))
 with_reducible refine(HE.out _ jV.out).mono ?_
 rintro en w1 ⟨rfl,hb1⟩
 have bP:=hb0.trans (hb1.mono hb0.size)
 have hz1:=hb1.size
 cases eb
 ·have hr:=HR.out
  exact aep
 obtain⟨h4,hf1,hf2,hfe⟩:=HES.out rfl
 have hr:=HR.out
 rw[←hfe] at hr hf1 hf2
 dsimp only at hr hf1 hf2
 cases e2
 rotate_left
 ·exact aep
 rw[if_pos ⟨rfl,rfl⟩] at hr
 ((try clear hcb bn hlb hnb hmb);(have aW:=jV.out.below hb1);(obtain⟨hcb,bn,hlb,hnb,hmb⟩:=aC.rules aW.box);(have nL:=Lib.hid aW);(clear aW))
 ((try clear hcp hfp hlp hnp hmp);(have bx0:=KP.out.below hb1 KP.out.lt);(obtain⟨hcp,hfp,hlp,hnp,hmp⟩:=aC.rules bx0);(have xS:=Lib.hid bx0);(clear bx0))
 ((try clear hcx hfx hlx hnx hmx);(have bx0:=KX.out.below hb1 KX.out.lt);(obtain⟨hcx,hfx,hlx,hnx,hmx⟩:=aC.rules bx0);(have CV:=Lib.hid bx0);(clear bx0))
 have hn1:¬w.heap.size=w1.heap.size:=ah
 have hn2:¬w.heap.size+1=w1.heap.size:=ah
 clear hb1
 go_wp2_with fail
 with_reducible refine(HO.out _).mono ?_
 rintro en w2 ⟨rfl,hb2⟩
 have hz2:=hb2.size
 simp only[World.size_alloc] at hz2
 have KD2:=Lib.hid ((aC.new w1 (ny (e1,false)).cells 121).below hb2 aI)
 have eP:Below w1.heap.size w1 w2:=aD
 have hbw2:=bP.trans (eP.mono bP.size)
 ((try clear hcb bn hlb hnb hmb);(have aW:=nL.out.below eP);(obtain⟨hcb,bn,hlb,hnb,hmb⟩:=aC.rules aW.box);(have qg:=Lib.hid aW);(clear aW))
 clear hcp hfp hlp hnp hmp hb2
 have OB:=Lib.hid (CV.out.below eP CV.out.lt)
 have zM:=Lib.hid (xS.out.below eP xS.out.lt)
 ((try clear hcx hfx hlx hnx hmx);(have bx0:=OB.out);(obtain⟨hcx,hfx,hlx,hnx,hmx⟩:=aC.rules bx0);(have LC:=Lib.hid bx0);(clear bx0))
 ((try clear hcd uF hld hnd hmd);(have bx0:=KD2.out);(obtain⟨hcd,uF,hld,hnd,hmd⟩:=aC.rules bx0);(have OC:=Lib.hid bx0);(clear bx0))
 by_cases h2:o2=0
 rotate_left
 ·rw[if_neg h2] at hr
  have e2:(o2 !=0)=true:=rG
  subst hr
  go_wp2_with fail
  exact bodyPost_ret (v:= .tuple #[.int .u32 0,.int .i64 o2]) J4 rfl ⟨rfl,⟨s,HW.out.below hbw2,fun _ _ _ h=>h⟩,ay hbw2 _⟩
 rw[if_pos h2] at hr
 subst h2
 obtain⟨i,d,pr,pw,rfl,hi,hget,hpa,hd,hpr,hpw⟩:=HPA.out e1 hf1 hf2
 rw[hpa] at hr
 dsimp only at hr
 have hsl:=qg.out.kr.Pi
 obtain⟨a,cap,hv,hl⟩:=hsl.shape
 rw[hv] at hsl
 obtain⟨b2,off,rfl,af4,hcell⟩:=hsl.at (i:=i) hget
 have hwi:IntKind.i64.wrap ((i:Int)+1-1)=i:=adz
 have ajI:IntKind.i64.wrap (i:Int)=i:=IntWalk.i64_in _ ah
 have hi0:(0:Int)≤(i:Int):=ah
 have hil:(i:Int)<k.Pi.length:=ah
 have hwc:IntKind.i64.wrap x.2.2.2=x.2.2.2:=by obtain⟨_,_,_,h1,h2⟩:=hx;exact IntWalk.i64_in _ ah
 have HWR:=Lib.hid (fun W=>Pipe.aal d pr pw x.2.2.2 W hd)
 obtain⟨Xm,hrs⟩:=Pipe.Q6 d pw x.2.2.2 hd
 generalize Pipe.t_ d pw x.2.2.2=wr at*
 obtain⟨WL,wr2,wr3⟩:=wr
 dsimp only at HWR hr Xm hrs
 have HIN:=Lib.hid (fun W=>Zo q.mem x.2.2.1 wr2 W hx.2.2.1 hmem hrs)
 have hins:=M_ q.mem x.2.2.1 wr2 hx.2.2.1.1
 generalize WX q.mem x.2.2.1 wr2=im at*
 obtain⟨im1,im2⟩:=im
 dsimp only at HIN hr hins
 have nu:=Lib.hid hcell
 have hvp:Val true 3 (.agg #[.string d,.int .i64 pr,.int .i64 pw]):=hsl.val _ (List.mem_of_getElem? hget)
 clear hcell
 go_wp2_with fail
 refine Ed (α:=Nat) (fun q W=>aC W q #[.string WL,.int .i64 pr,.int .i64 pw] 131∧Below w2.heap.size w2 W∧w2.heap.size≤q) ?G ?_ ?_
 rotate_left
 ·((refine aY (fun W=>Below w2.heap.size w2 W) (fun i=>decide (i<19)&&i !=16&&i !=17) aj ?_);
          (have hS:Below w2.heap.size w2 w2.drew:=(Below.refl _ _).drew);
          (refine tk 0 43 hS ?_);
          (refine tk 1 44 hS ?_);
          (refine tk 2 45 hS ?_);
          (refine tk 3 46 hS ?_);
          (refine tk 4 47 hS ?_ (hy:=Or.inl ⟨aF,afg⟩));
          (refine tk 5 48 hS ?_);
          (refine tk 6 49 hS ?_ (hy:=Or.inl ⟨aF,afg⟩));
          (refine tk 7 50 hS ?_);
          (refine tk 8 51 hS ?_);
          (refine cO 9 (oi:=⟨some 52,_,_,_,_,_⟩) rfl aj sx hS (gU 131 _ rfl (b:=b2) (off:=off+i*3) #[.string d,.int .i64 pr,.int .i64 pw] Pipe.qJ hvp aF bg (fun W hs=>nu.out.below hs af4)) ?_);
          (try simp only[pt]);
          (refine tk 10 53 hS ?_);
          (refine tk 11 54 hS ?_ (hy:=Or.inl ⟨aF,afg⟩));
          (refine tk 12 55 hS ?_);
          (refine gI 13 18 (oi:=⟨some 56,_,_,_,_,_⟩) (oj:=⟨some 12,_,_,_,_,_⟩) rfl rfl aj rfl rfl (fun K hK=>?_) (fun K hK=>?_));
          (focus((go_simp;(with_reducible refine(HWR.out _).mono ?_);rintro en w4 ⟨rfl,hb4⟩;(have hS:=hS.trans (Below.mono hb4 hS.size));(try(have fV:=aC.below fV hb4 fV.lt));(try go_wp2_with fail));(refine hK.out _ _ (fun _=>bF) ?_;clear hK K);(try simp only[pt]);(refine tk 14 42 hS ?_);(try simp only[pt]);(refine bG 16 (oi:=⟨some 58,_,_,_,_,_⟩) (v:=?_) rfl aj sx (Or.inl ⟨aF,?_⟩) ?_;rotate_left;focus((intro W hW);go_simp;(all_goals with_reducible rfl)));(try simp only[pt]);(refine bG 17 (oi:=⟨some 59,_,_,_,_,_⟩) (v:=?_) rfl aj sx (Or.inl ⟨aF,?_⟩) ?_;rotate_left;focus((intro W hW);go_simp;(all_goals with_reducible rfl)));(try simp only[pt]);(refine tk 15 57 hS ?_);(try simp only[pt]);(refine aK 18 (oi:=⟨some 12,_,_,_,_,_⟩) rfl aj rfl (fun K hK=>?_));(refine iH 131 rfl (z:= .agg #[.string ⟨#[]⟩,.int .i64 0,.int .i64 0]) aj #[.string ⟨#[]⟩,.int .i64 0,.int .i64 0] rfl ?_);(refine hidS hK (hS.alloc hS.size _) (fun hS=>?_);clear hK K);(try simp only[pt]);(first|((have fV:=aC.new w4 #[.string ⟨#[]⟩,.int .i64 0,.int .i64 0] 131);(have hd5:Below w4.heap.size w4 (w4.alloc (.cells #[.string ⟨#[]⟩,.int .i64 0,.int .i64 0] 131)):=(Below.refl _ _).alloc (Nat.le_refl _) _);(have mK:w2.heap.size≤w4.heap.size:=Si);(generalize w4.alloc (.cells #[.string ⟨#[]⟩,.int .i64 0,.int .i64 0] 131)=w5 at hS fV hd5⊢);(generalize w4.heap.size=qa at fV mK⊢))|((have fV:=aC.new w2.drew #[.string ⟨#[]⟩,.int .i64 0,.int .i64 0] 131);(have hd5:Below w2.drew.heap.size w2.drew (w2.drew.alloc (.cells #[.string ⟨#[]⟩,.int .i64 0,.int .i64 0] 131)):=(Below.refl _ _).alloc (Nat.le_refl _) _);(have mK:w2.heap.size≤w2.drew.heap.size:=IC);(generalize w2.drew.alloc (.cells #[.string ⟨#[]⟩,.int .i64 0,.int .i64 0] 131)=w5 at hS fV hd5⊢);(generalize w2.drew.heap.size=qa at fV mK⊢)));(refine aT 19 aj ?_ rfl);(simp only[List.toList_toArray,List.drop_succ_cons,List.drop_zero]);((obtain⟨hcq,Ov,hlq,hnq,Oq⟩:=aC.rules fV);go_wp2_with fail;(refine Joined.of qa ⟨?_,?_,mK⟩ ?_);(focus(exact((fV.set 0 _).set 1 _).set 2 _));(focus exact bl);with_reducible rfl)));
          (focus((refine iH 131 rfl (z:= .agg #[.string ⟨#[]⟩,.int .i64 0,.int .i64 0]) aj #[.string ⟨#[]⟩,.int .i64 0,.int .i64 0] rfl ?_);(refine hidS hK (hS.alloc hS.size _) (fun hS=>?_);clear hK K);(try simp only[pt]);(first|((have fV:=aC.new w4 #[.string ⟨#[]⟩,.int .i64 0,.int .i64 0] 131);(have hd5:Below w4.heap.size w4 (w4.alloc (.cells #[.string ⟨#[]⟩,.int .i64 0,.int .i64 0] 131)):=(Below.refl _ _).alloc (Nat.le_refl _) _);(have mK:w2.heap.size≤w4.heap.size:=Si);(generalize w4.alloc (.cells #[.string ⟨#[]⟩,.int .i64 0,.int .i64 0] 131)=w5 at hS fV hd5⊢);(generalize w4.heap.size=qa at fV mK⊢))|((have fV:=aC.new w2.drew #[.string ⟨#[]⟩,.int .i64 0,.int .i64 0] 131);(have hd5:Below w2.drew.heap.size w2.drew (w2.drew.alloc (.cells #[.string ⟨#[]⟩,.int .i64 0,.int .i64 0] 131)):=(Below.refl _ _).alloc (Nat.le_refl _) _);(have mK:w2.heap.size≤w2.drew.heap.size:=IC);(generalize w2.drew.alloc (.cells #[.string ⟨#[]⟩,.int .i64 0,.int .i64 0] 131)=w5 at hS fV hd5⊢);(generalize w2.drew.heap.size=qa at fV mK⊢)));(refine aK 13 (oi:=⟨some 56,_,_,_,_,_⟩) rfl aj rfl (fun K hK=>?_));(go_simp;(with_reducible refine(HWR.out _).mono ?_);rintro en w4 ⟨rfl,hb4⟩;(have hS:=hS.trans (Below.mono hb4 hS.size));(try(have fV:=aC.below fV hb4 fV.lt));(try go_wp2_with fail));(refine hK.out _ _ (fun _=>bF) ?_;clear hK K);(try simp only[pt]);(refine tk 14 42 hS ?_);(try simp only[pt]);(refine bG 16 (oi:=⟨some 58,_,_,_,_,_⟩) (v:=?_) rfl aj sx (Or.inl ⟨aF,?_⟩) ?_;rotate_left;focus((intro W hW);go_simp;(all_goals with_reducible rfl)));(try simp only[pt]);(refine bG 17 (oi:=⟨some 59,_,_,_,_,_⟩) (v:=?_) rfl aj sx (Or.inl ⟨aF,?_⟩) ?_;rotate_left;focus((intro W hW);go_simp;(all_goals with_reducible rfl)));(try simp only[pt]);(refine tk 15 57 hS ?_);(try simp only[pt]);(refine aT 19 aj ?_ rfl);(simp only[List.toList_toArray,List.drop_succ_cons,List.drop_zero]);((obtain⟨hcq,Ov,hlq,hnq,Oq⟩:=aC.rules fV);go_wp2_with fail;(refine Joined.of qa ⟨?_,?_,mK⟩ ?_);(focus(exact((fV.set 0 _).set 1 _).set 2 _));(focus exact bl);with_reducible rfl))))
 ·rintro qa w5 ⟨fV,hS5,mK⟩
  have jC:=hbw2.trans (hS5.mono hbw2.size)
  ((try clear hcb bn hlb hnb hmb);(have aW:=qg.out.below hS5);(obtain⟨hcb,bn,hlb,hnb,hmb⟩:=aC.rules aW.box);(have pU:=Lib.hid aW);(clear aW))
  clear hcd uF hld hnd hmd
  ((try clear hcd uF hld hnd hmd);(have bx0:=OC.out.below hS5 OC.out.lt);(obtain⟨hcd,uF,hld,hnd,hmd⟩:=aC.rules bx0);(have KD5:=Lib.hid bx0);(clear bx0))
  have hneq:w1.heap.size<w2.heap.size:=by have:=OC.out.lt;omega
  have G6:=Lib.hid fV
  ((try clear hcq Ov hlq hnq Oq);(have bx0:=G6.out);(obtain⟨hcq,Ov,hlq,hnq,Oq⟩:=aC.rules bx0);(have yc:=Lib.hid bx0);(clear bx0))
  by_cases h3:wr3=0
  rotate_left
  ·rw[if_neg h3] at hr
   have e3:(wr3 !=0)=true:=o_
   subst hr
   go_wp2_with fail
   exact bodyPost_ret (v:= .tuple #[.int .u32 0,.int .i64 wr3]) J4 rfl ⟨rfl,⟨s,HW.out.below jC,fun _ _ _ h=>h⟩,ay jC _⟩
  rw[if_pos h3] at hr
  subst h3
  clear fV hsl
  ((try clear hcx hfx hlx hnx hmx);(have bx0:=LC.out.below hS5 LC.out.lt);(obtain⟨hcx,hfx,hlx,hnx,hmx⟩:=aC.rules bx0);(have OA:=Lib.hid bx0);(clear bx0))
  have Bu:=Lib.hid (zM.out.below hS5 zM.out.lt)
  ((try clear hcp hfp hlp hnp hmp);(have bx0:=Bu.out);(obtain⟨hcp,hfp,hlp,hnp,hmp⟩:=aC.rules bx0);(have Iy:=Lib.hid bx0);(clear bx0))
  go_wp2_with fail
  with_reducible refine(HIN.out _).mono ?_
  rintro en w6 ⟨rfl,hb6⟩
  have tu:=jC.trans (hb6.mono jC.size)
  ((try clear hcb bn hlb hnb hmb);(have aW:=pU.out.below hb6);(obtain⟨hcb,bn,hlb,hnb,hmb⟩:=aC.rules aW.box);(have Ho:=Lib.hid aW);(clear aW))
  ((try clear hcp hfp hlp hnp hmp);(have bx0:=Iy.out.below hb6 Iy.out.lt);(obtain⟨hcp,hfp,hlp,hnp,hmp⟩:=aC.rules bx0);(have KP7:=Lib.hid bx0);(clear bx0))
  have KD6:=Lib.hid (KD5.out.below hb6 KD5.out.lt)
  have KB7:=Lib.hid (yc.out.below hb6 yc.out.lt)
  have hd5:=KD5.out.lt
  have hb5:=yc.out.lt
  have hp5:=Iy.out.lt
  have Hq:Hid (Pf.Ok {q with mem:=im1}):=Lib.hid {HQ.out with mem:=by show im1.size≤_;rw[hins];exact HQ.out.mem}
  obtain⟨q2,hq2⟩:∃q2:Pf,q2={q with mem:=im1}:=⟨_,rfl⟩
  rw[←hq2] at Hq hr
  have HE2:=Lib.hid hq2
  clear hcd uF hld hnd hmd hcq Ov hlq hnq Oq hcx hfx hlx hnx hmx hq2
  go_wp2_with fail
  generalize bN:World.setCell _ _ _=w7
  have Hf:aC w7 w.heap.size (gu pid par st q2) 126:=adt
  have oK:Below w.heap.size w w7:=bM
  have Io:w7.heap.size=w6.heap.size:=bX
  have KD7:=Lib.hid (show aC w7 w1.heap.size (ny ((i:Int)+1,false)).cells 121 from by rw[←bN];exact KD6.out.other _ _ aR)
  have x9:=Lib.hid (show aC w7 qa #[.string WL,.int .i64 pr,.int .i64 pw] 131 from by rw[←bN];exact KB7.out.other _ _ aR)
  have KP8:=Lib.hid Hf
  ((try clear hcb bn hlb hnb hmb);(have aW:=HW.out.below oK);(obtain⟨hcb,bn,hlb,hnb,hmb⟩:=aC.rules aW.box);(have zL:=Lib.hid aW);(clear aW))
  have JC:=zL.out.kr.Pi
  rw[hv] at JC
  have XF:=Lib.hid JC
  have WY:=hb6.size
  clear bN Hf JC hcp hfp hlp hnp hmp KP7 Iy Bu zM
  with_reducible refine(Pipe.vB _ k.Pi _ XF.out ah).mono ?_
  rintro en w8 ⟨v8,rfl,xQ,jU⟩
  obtain⟨g,n6,rfl,O7,Xu,hbg,hgl,hfg,hcg⟩:=xQ.form ah
  ((try clear hcb bn hlb hnb hmb);(have aW:=zL.out.below jU);(obtain⟨hcb,bn,hlb,hnb,hmb⟩:=aC.rules aW.box);(have OT:=Lib.hid aW);(clear aW))
  have KD8:=Lib.hid (KD7.out.below jU KD7.out.lt)
  have KB9:=Lib.hid (x9.out.below jU x9.out.lt)
  have KP9:=Lib.hid (KP8.out.below jU KP8.out.lt)
  have afK:=zL.out.lt
  have hd7:=KD7.out.lt
  have oZ:=x9.out.lt
  have hp7:=KP8.out.lt
  have zN:=Lib.hid xQ
  clear hfg hcg xQ
  go_wp2_with fail
  generalize bN:World.setCell _ _ _=w9
  have lg:w8.grownBy w9 (some b):=nA
  have bb9:aC w9 b (kC {s with Pi:= .slice (some ⟨g,0,none⟩) k.Pi.length n6} k) kT:=by rw[←bN];exact(OT.out.box.set 4 _).cast (Yp _ _ _)
  have aiu:=Lib.hid (KD8.out.grown lg aR)
  have xU:=Lib.hid (KB9.out.grown lg aR)
  have JH:=Lib.hid (KP9.out.grown lg aR)
  have Bt:=Lib.hid (zN.out.Ai lg afK)
  have TR:=Lib.hid bb9
  clear bN hcb bn hlb hnb hmb bb9
  (obtain⟨hcb,bn,hlb,hnb,hmb⟩:=aC.rules TR.out)
  (obtain⟨hcd,uF,hld,hnd,hmd⟩:=aC.rules aiu.out)
  (obtain⟨hcq,Ov,hlq,hnq,Oq⟩:=aC.rules xU.out)
  ((refine aY (fun W=>Below w9.heap.size w9 W) (fun i=>decide (i<10)) aj ?_);
          (have hS:Below w9.heap.size w9 w9.drew:=(Below.refl _ _).drew);
          (refine tk 0 83 hS ?_);
          (refine tk 1 84 hS ?_);
          (refine tk 2 85 hS ?_);
          (refine tk 3 86 hS ?_);
          (refine tk 4 87 hS ?_ (hy:=Or.inl ⟨aF,Ua⟩));
          (refine tk 5 88 hS ?_);
          (refine tk 6 89 hS ?_ (hy:=Or.inl ⟨aF,Ua⟩));
          (refine tk 7 90 hS ?_);
          (refine tk 8 91 hS ?_ (hy:=Or.inl ⟨aF,Ua⟩));
          (refine tk 9 92 hS ?_);
          (refine aT 10 aj ?_ rfl);
          (simp only[List.toList_toArray,List.drop_succ_cons,List.drop_zero]))
  have qp:=Lib.hid (Bt.out.kept hS)
  have WZ:Val true 3 (.agg #[.string WL,.int .i64 pr,.int .i64 pw]):=⟨_,rfl,rfl,IB⟩
  have KBC:=Lib.hid (TR.out.below hS TR.out.lt)
  have KPC:=Lib.hid (JH.out.below hS JH.out.lt)
  go_wp2_with(first|((with_reducible refine bO 131 ?_);(refine dw (base:=w7.heap.size) rfl _ _ rfl Pipe.qJ g k.Pi.length n6 qp.out i hi ?_ (.agg #[.string WL,.int .i64 pr,.int .i64 pw]) ?_ WZ ?_;(exact aG);(exact aG);(intro oW zU nY;(have EC:=Lib.hid zU);(have KBD:=Lib.hid (KBC.out.grown nY aR));(have KPD:=Lib.hid (KPC.out.grown nY aR));(clear zU))))|fail)
  have hG7:w7.grownBy oW (some b):=kV (aA (aA (ay jU _) lg) (ay hS _)) nY hbg
  have afs:Pipe.lI (.agg #[.string WL,.int .i64 pr,.int .i64 pw]):=⟨WL,pr,pw,rfl,Xm,hpr,hpw⟩
  have DR:=zL.out.aeX hG7 (KBD.out.cast tC) EC.out.sl (Pipe.MV HPP.out afs)
  have Uo:=aA (ay oK (some b)) hG7
  have hpl:=hk.P
  clear hcb bn hlb hnb hmb hcd uF hld hnd hmd hcq Ov hlq hnq Oq
  (obtain⟨hcb,bn,hlb,hnb,hmb⟩:=aC.rules DR.box)
  ((try clear hcp hfp hlp hnp hmp);(have bx0:=KPD.out);(obtain⟨hcp,hfp,hlp,hnp,hmp⟩:=aC.rules bx0);(have KPE:=Lib.hid bx0);(clear bx0))
  have H_:=Lib.hid DR
  clear DR KBC KPC TR JH KP9 xU KB9 x9 KB7 aiu KD8 KD7
  ((refine aY (fun W=>Below oW.heap.size oW W) (fun i=>decide (i<11)) aj ?_);
          (have hS2:Below oW.heap.size oW oW.drew:=(Below.refl _ _).drew);
          (refine tk 0 93 hS2 ?_);
          (refine tk 1 94 hS2 ?_);
          (refine tk 2 95 hS2 ?_);
          (refine tk 3 96 hS2 ?_);
          (refine tk 4 97 hS2 ?_);
          (refine tk 5 98 hS2 ?_ (hy:=Or.inl ⟨aF,nM⟩));
          (refine cO 6 (oi:=⟨some 99,_,_,_,_,_⟩) rfl aj sx hS2 (dx 126 _ rfl (gu pid par st q2) Tab.aX (oz _ _ _ _) aF bg (fun W hs=>KPE.out.below hs KPE.out.lt)) ?_);
          (try simp only[pt]);
          (refine aK 7 (oi:=⟨some 100,_,_,_,_,_⟩) rfl aj rfl (fun K hK=>?_));
          (go_simp;(with_reducible refine(C9 _ k.P pid par st _ Hq.out _ (H_.out.kr.P.below hS2) hpl).mono ?_);rintro en GR ⟨v12,rfl,O5,eP⟩;(have hS2:=hS2.trans (Below.mono eP hS2.size));(obtain⟨a12,m12,n12,rfl⟩:=O5.is);(try go_wp2_with fail));
          (refine hK.out _ _ (fun _=>bF) ?_;clear hK K);
          (try simp only[pt]);
          (refine tk 8 101 hS2 ?_);
          (refine tk 9 102 hS2 ?_);
          (refine tk 10 103 hS2 ?_);
          (refine aT 11 aj ?_ rfl);
          (simp only[List.toList_toArray,List.drop_succ_cons,List.drop_zero]))
  ((try clear hcb bn hlb hnb hmb);(have aW:=H_.out.below hS2);(obtain⟨hcb,bn,hlb,hnb,hmb⟩:=aC.rules aW.box);(have agh:=Lib.hid aW);(clear aW))
  have H12:=Lib.hid O5
  have af':=aA Uo (ay hS2 _)
  clear hcp hfp hlp hnp hmp O5
  go_wp2_with fail
  unfold ni at hr
  rw[show((i:Int)+1-1).toNat=i by omega] at hr
  subst hr
  exact bodyPost_ret (v:= .tuple #[.int .u32 ((wr2.size:Int)%4294967296),.int .i64 0]) J4 rfl ⟨rfl,⟨_,agh.out.zP H12.out,fun B hB _ h=>⟨h.1,h.2.1,h.2.2.1,h.2.2.2.1,h.2.2.2.2.1,.inr fun c hc=>adj⟩⟩,aA af' (aM _ _ _ _)⟩
end Go.Proofs.YtgmodehldmahiaaGreatDoor
