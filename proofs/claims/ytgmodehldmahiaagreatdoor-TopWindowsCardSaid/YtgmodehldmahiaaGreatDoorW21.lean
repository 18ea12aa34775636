/- Part 21 of 50 of the proof of topWindows_holds. Conditions: see each. -/
import Derived.Test.YtgmodehldmahiaaGreatDoorW14
import Derived.Test.YtgmodehldmahiaaGreatDoorW18
import Derived.Test.YtgmodehldmahiaaGreatDoorW10
set_option linter.unusedVariables false
set_option linter.unusedSimpArgs false
set_option maxRecDepth 8192
set_option maxHeartbeats 40000000
namespace Go.Proofs.YtgmodehldmahiaaGreatDoor
open Go Go.RowKit Go.Tm
attribute [local go_sem] fB fA fu dR dA dQ dP dO dN dM dL dK dJ dI dH dG dF iq ig h_ g_ gZ gY gX gN gW gV fF fE fD fC eY eX eU
structure u_(F:Nat→Option Addr→Nat→Nat→World→Prop)(G:Nat→Option Addr→Nat→Nat→Act)(a':Act)(w':World):Prop where
 ex:∃q a m n,F q a m n w'∧a'=G q a m n
theorem u_.of{F:Nat→Option Addr→Nat→Nat→World→Prop}{G:Nat→Option Addr→Nat→Nat→Act}{a':Act}{w':World}(q:Nat)(a:Option Addr)(m n:Nat)(h:F q a m n w')(e:a'=G q a m n):u_ F G a' w':=⟨q,a,m,n,h,e⟩
theorem ME{P:Program}{c:Code}{Q:Exit→Act→World→Prop}{a:Act}{w:World}(F:Nat→Option Addr→Nat→Nat→World→Prop)(G:Nat→Option Addr→Nat→Nat→Act)(h:c.wp P (fun e a' w'=>e=.normal∧u_ F G a' w') a w)(hM:∀q ao m n W,F q ao m n W→Q .normal (G q ao m n) W):c.wp P Q a w:=
 Code.wp_mono (fun e a w h=>by obtain⟨rfl,q,ao,m,n,h1,rfl⟩:=h;exact hM q ao m n w h1) h
def DX(l:List Value)(q:Pf):Nat→List Value
 |0=>l
 |i+1=>Pipe.pz (DX l q i) (jY q i).1 (jY q i).2 1
theorem F3(l:List Value)(q:Pf):∀i,(DX l q i).length=l.length
 |0=>rfl
 |i+1=>by rw[DX,Pipe.zC,F3 l q i]
noncomputable def dV(k:Kn)(p:Tab.bV):Kn×Int×Int:=
 if 6≤k.P.length then(k,0,5) else
  let pid:=wrap64 (Tab.rF k.P+1)
  let h:=Heap.fZ k.hs k.H 64 pid
  if h.2.2=0 then
   ({k with H:=h.1,Pi:=DX k.Pi (pq p) 4,P:=Tab.lW k.P (yK pid p.par 1 {pq p with x:=(0,0,0,0)}),L:=(Turn.oL k.L k.left pid).1,left:=(Turn.oL k.L k.left pid).2},pid%4294967296,0)
  else(k,0,h.2.2)
theorem DF{W:World}{qa:Nat}{i:Int}{a:Option Addr}{m n:Nat}{t:TypeId}{v:Value}{l:List Heap.Sp}(hB:aC W qa #[.int .i64 i,.slice a m n] t)(hs:Sl W true 3 v (Heap.nV l))(v0 v1:Value):Sl ((W.setCell ⟨qa,0,none⟩ v0).setCell ⟨qa,1,none⟩ v1) true 3 v (Heap.nV l):=
 have ap:=kF (ks:=[1,5]) rfl hB hs [1,1,1] (fun x hx=>mH) aB
 (hs.setOther ap _ _).setOther ap _ _
theorem Cr(b:Nat)(s:Ks)(k:Kn)(p:Tab.bV)(w:World)(hw:KW w b s k)(hk:Fit k):
  Calls Tryz.prog 74 #[.pointer (some ⟨b,0,none⟩),Tab.je p] w fun en w'=>en=.returned (.tuple #[.int .u32 (dV k p).2.1,.int .i64 (dV k p).2.2])∧KS w b s k w' (dV k p).1∧w.grownBy w' (some b):=by
 have HW:=Lib.hid hw
 have hlt:=hw.lt
 obtain⟨r,hr⟩:∃r,r=dV k p:=⟨_,rfl⟩
 rw[←hr]
 unfold dV at hr
 dsimp only at hr
 ((rw[show Tab.je p=.agg (gu p.pid p.par p.st (pq p)) from congrArg Value.agg (sW p)]);(have hq:=iY p);(generalize pq p=q at*);(generalize p.pid=pid at*);(generalize p.par=par at*);(generalize p.st=st at*);(have HQ:=Lib.hid hq);(clear hq))
 have HN:=Lib.hid (fun W h=>Tab.aaA s.P k.P W h)
 have HT:=Lib.hid (fun v W h=>Heap.ko k.hs v k.H 64 (wrap64 (Tab.rF k.P+1)) W h hk.hs hk.hw (by have:=hk.H;omega))
 obtain⟨aP,cP,R7,hlP⟩:=hw.kr.P.shape
 rw[Tab.jh] at R7 hlP
 generalize wrap64 (Tab.rF k.P+1)=pn at*
 generalize Heap.fZ k.hs k.H 64 pn=tk at*
 obtain⟨tk1,tk2,te⟩:=tk
 dsimp only at hr HT
 have HR:=Lib.hid hr
 have HVP:=Lib.hid R7
 have tY:=Below.refl w.heap.size w
 ((try clear hcb bn hlb hnb hmb);(have aW:=HW.out.below tY);(obtain⟨hcb,bn,hlb,hnb,hmb⟩:=aC.rules aW.box);(have jV:=Lib.hid aW);(clear aW))
 clear hw hr
 by_cases h6:6≤k.P.length
 ·have hr:=HR.out
  rw[if_pos h6] at hr
  have e1:decide ((6:Int)≤(k.P.length:Int))=true:=decide_eq_true ah
  have e1n:decide (6≤k.P.length)=true:=decide_eq_true h6
  subst hr
  go_enter Tryz.func74,Tryz.ntmps74
  go_wp2_with fail
  exact bodyPost_ret (v:= .tuple #[.int .u32 0,.int .i64 5]) PY rfl ⟨rfl,⟨s,HW.out.below aD,fun _ _ _ h=>h⟩,ay aD _⟩
 have hr:=HR.out
 rw[if_neg h6] at hr
 have e1:decide ((6:Int)≤(k.P.length:Int))=false:=decide_eq_false ah
 have e1n:decide (6≤k.P.length)=false:=decide_eq_false h6
 go_enter Tryz.func74,Tryz.ntmps74
 go_wp2_with fail
 ((generalize bN:World.alloc _ _=w0);(have KP:aC w0 (w.heap.size) (gu pid par st q) 126:=bA);(have hb0:Below w.heap.size w w0:=bM);(have hz0:w0.heap.size=w.heap.size+1:=bX);(clear bN);(have KP:=Lib.hid KP))
 ((try clear hcb bn hlb hnb hmb);(have aW:=HW.out.below hb0);(obtain⟨hcb,bn,hlb,hnb,hmb⟩:=aC.rules aW.box);(have jV:=Lib.hid aW);(clear aW))
 ((try clear hcp hfp hlp hnp hmp);(have bx0:=KP.out);(obtain⟨hcp,hfp,hlp,hnp,hmp⟩:=aC.rules bx0);(have oM:=Lib.hid bx0);(clear bx0))
 have hP0:=jV.out.kr.P
 rw[R7] at hP0 HN
 with_reducible refine(HN.out _ hP0).mono ?_
 rintro en w1 ⟨rfl,hb1⟩
 have bP:=hb0.trans (hb1.mono hb0.size)
 ((try clear hcp hfp hlp hnp hmp);(have bx0:=oM.out.below hb1 oM.out.lt);(obtain⟨hcp,hfp,hlp,hnp,hmp⟩:=aC.rules bx0);(have xS:=Lib.hid bx0);(clear bx0))
 ((try clear hcb bn hlb hnb hmb);(have aW:=jV.out.below hb1);(obtain⟨hcb,bn,hlb,hnb,hmb⟩:=aC.rules aW.box);(have nL:=Lib.hid aW);(clear aW))
 have hz1:=hb1.size
 clear hP0
 go_wp2_with fail
 generalize bN:World.setCell _ _ _=w2
 have Hq:Hid (Pf.Ok {q with x:=(0,0,0,0)}):=Lib.hid {HQ.out with x:=aga}
 have bp2:aC w2 w.heap.size (gu pn par 1 {q with x:=(0,0,0,0)}) 126:=by
  rw[←bN];exact((((((xS.out.set 0 _).set 2 _).set 22 _).set 23 _).set 24 _).set 25 _).cast (by simp only[agU,Qn,Tf,Te,Td,Tc])
 have hbw2:Below w.heap.size w w2:=bM
 obtain⟨q2,hq2⟩:∃q2:Pf,q2={q with x:=(0,0,0,0)}:=⟨_,rfl⟩
 rw[←hq2] at bp2 Hq hr
 have HE2:=Lib.hid hq2
 clear hq2
 have zM:=Lib.hid bp2
 ((try clear hcb bn hlb hnb hmb);(have aW:=HW.out.below hbw2);(obtain⟨hcb,bn,hlb,hnb,hmb⟩:=aC.rules aW.box);(have qg:=Lib.hid aW);(clear aW))
 clear bN bp2 hcp hfp hlp hnp hmp KP oM xS jV nL
 ((try clear hcp hfp hlp hnp hmp);(have bx0:=zM.out);(obtain⟨hcp,hfp,hlp,hnp,hmp⟩:=aC.rules bx0);(have yN:=Lib.hid bx0);(clear bx0))
 refine ME (fun qa ao m n W=>aC W qa #[.int .i64 k.hs,.slice ao m n] 51∧Sl W true 3 (.slice ao m n) (Heap.nV tk1)∧(∀B,B<w2.heap.size→Apart B s.H (Heap.nV k.H)→Apart B (.slice ao m n) (Heap.nV tk1))∧Below w2.heap.size w2 W∧w2.heap.size≤qa) ?G ?_ ?_
 rotate_left
 ·((refine aY (fun W=>Below w2.heap.size w2 W) (fun i=>decide (i<13)&&i !=10&&i !=11) aj ?_);
          (have hS:Below w2.heap.size w2 w2.drew:=(Below.refl _ _).drew);
          (refine tk 0 29 hS ?_);
          (refine tk 1 30 hS ?_);
          (refine tk 2 31 hS ?_);
          (refine tk 3 32 hS ?_);
          (refine tk 4 33 hS ?_ (hy:=Or.inl ⟨aF,nM⟩));
          (refine tk 5 34 hS ?_);
          (refine tk 6 35 hS ?_ (hy:=Or.inl ⟨aF,nM⟩));
          (refine gI 7 12 (oi:=⟨some 36,_,_,_,_,_⟩) (oj:=⟨some 6,_,_,_,_,_⟩) rfl rfl aj rfl rfl (fun K hK=>?_) (fun K hK=>?_));
          (focus((go_simp;(with_reducible refine(HT.out s.H _ (qg.out.kr.H.below hS)).mono ?_);rintro en w3 ⟨v3,rfl,hs3,hr3,hb3⟩;(have hS:=hS.trans (Below.mono hb3 hS.size));(obtain⟨a3,m3,n3,rfl⟩:=hs3.is);(have HR3:∀B,B<w2.heap.size→Apart B s.H (Heap.nV k.H)→Apart B (.slice a3 m3 n3) (Heap.nV tk1):=fun B hB h=>hr3.apart h ahv);(try(have fV:=aC.below fV hb3 fV.lt));(try go_wp2_with fail));(refine hK.out _ _ (fun _=>bF) ?_;clear hK K);(try simp only[pt]);(refine tk 8 28 hS ?_);(try simp only[pt]);(refine bG 10 (oi:=⟨some 38,_,_,_,_,_⟩) (v:=?_) rfl aj sx (Or.inl ⟨aF,?_⟩) ?_;rotate_left;focus((intro W hW);go_simp;(all_goals with_reducible rfl)));(try simp only[pt]);(refine bG 11 (oi:=⟨some 39,_,_,_,_,_⟩) (v:=?_) rfl aj sx (Or.inl ⟨aF,?_⟩) ?_;rotate_left;focus((intro W hW);go_simp;(all_goals with_reducible rfl)));(try simp only[pt]);(refine tk 9 37 hS ?_);(try simp only[pt]);(refine aK 12 (oi:=⟨some 6,_,_,_,_,_⟩) rfl aj rfl (fun K hK=>?_));(refine iH 51 rfl (z:= .agg #[.int .i64 0,.slice none 0 0]) aj #[.int .i64 0,.slice none 0 0] rfl ?_);(refine hidS hK (hS.alloc hS.size _) (fun hS=>?_);clear hK K);(try simp only[pt]);(first|((have fV:=aC.new w3 #[.int .i64 0,.slice none 0 0] 51);(have hd5:Below w3.heap.size w3 (w3.alloc (.cells #[.int .i64 0,.slice none 0 0] 51)):=(Below.refl _ _).alloc (Nat.le_refl _) _);(have mK:w2.heap.size≤w3.heap.size:=adw);(generalize w3.alloc (.cells #[.int .i64 0,.slice none 0 0] 51)=w5 at hS fV hd5⊢);(generalize w3.heap.size=qa at fV mK⊢))|((have fV:=aC.new w2.drew #[.int .i64 0,.slice none 0 0] 51);(have hd5:Below w2.drew.heap.size w2.drew (w2.drew.alloc (.cells #[.int .i64 0,.slice none 0 0] 51)):=(Below.refl _ _).alloc (Nat.le_refl _) _);(have mK:w2.heap.size≤w2.drew.heap.size:=IC);(generalize w2.drew.alloc (.cells #[.int .i64 0,.slice none 0 0] 51)=w5 at hS fV hd5⊢);(generalize w2.drew.heap.size=qa at fV mK⊢)));(refine aT 13 aj ?_ rfl);(simp only[List.toList_toArray,List.drop_succ_cons,List.drop_zero]);((have OU:=Lib.hid fV);(obtain⟨jb1,jb2,jb3,jb4,jb5⟩:=aC.rules fV);go_wp2_with fail;(refine u_.of qa a3 m3 n3 ⟨(OU.out.set 0 _).set 1 _,?_,HR3,?_,mK⟩ ?_);(exact adN);(focus exact bl);with_reducible rfl)));
          (focus((refine iH 51 rfl (z:= .agg #[.int .i64 0,.slice none 0 0]) aj #[.int .i64 0,.slice none 0 0] rfl ?_);(refine hidS hK (hS.alloc hS.size _) (fun hS=>?_);clear hK K);(try simp only[pt]);(first|((have fV:=aC.new w3 #[.int .i64 0,.slice none 0 0] 51);(have hd5:Below w3.heap.size w3 (w3.alloc (.cells #[.int .i64 0,.slice none 0 0] 51)):=(Below.refl _ _).alloc (Nat.le_refl _) _);(have mK:w2.heap.size≤w3.heap.size:=adw);(generalize w3.alloc (.cells #[.int .i64 0,.slice none 0 0] 51)=w5 at hS fV hd5⊢);(generalize w3.heap.size=qa at fV mK⊢))|((have fV:=aC.new w2.drew #[.int .i64 0,.slice none 0 0] 51);(have hd5:Below w2.drew.heap.size w2.drew (w2.drew.alloc (.cells #[.int .i64 0,.slice none 0 0] 51)):=(Below.refl _ _).alloc (Nat.le_refl _) _);(have mK:w2.heap.size≤w2.drew.heap.size:=IC);(generalize w2.drew.alloc (.cells #[.int .i64 0,.slice none 0 0] 51)=w5 at hS fV hd5⊢);(generalize w2.drew.heap.size=qa at fV mK⊢)));(refine aK 7 (oi:=⟨some 36,_,_,_,_,_⟩) rfl aj rfl (fun K hK=>?_));(go_simp;(with_reducible refine(HT.out s.H _ (qg.out.kr.H.below hS)).mono ?_);rintro en w3 ⟨v3,rfl,hs3,hr3,hb3⟩;(have hS:=hS.trans (Below.mono hb3 hS.size));(obtain⟨a3,m3,n3,rfl⟩:=hs3.is);(have HR3:∀B,B<w2.heap.size→Apart B s.H (Heap.nV k.H)→Apart B (.slice a3 m3 n3) (Heap.nV tk1):=fun B hB h=>hr3.apart h ahv);(try(have fV:=aC.below fV hb3 fV.lt));(try go_wp2_with fail));(refine hK.out _ _ (fun _=>bF) ?_;clear hK K);(try simp only[pt]);(refine tk 8 28 hS ?_);(try simp only[pt]);(refine bG 10 (oi:=⟨some 38,_,_,_,_,_⟩) (v:=?_) rfl aj sx (Or.inl ⟨aF,?_⟩) ?_;rotate_left;focus((intro W hW);go_simp;(all_goals with_reducible rfl)));(try simp only[pt]);(refine bG 11 (oi:=⟨some 39,_,_,_,_,_⟩) (v:=?_) rfl aj sx (Or.inl ⟨aF,?_⟩) ?_;rotate_left;focus((intro W hW);go_simp;(all_goals with_reducible rfl)));(try simp only[pt]);(refine tk 9 37 hS ?_);(try simp only[pt]);(refine aT 13 aj ?_ rfl);(simp only[List.toList_toArray,List.drop_succ_cons,List.drop_zero]);((have OU:=Lib.hid fV);(obtain⟨jb1,jb2,jb3,jb4,jb5⟩:=aC.rules fV);go_wp2_with fail;(refine u_.of qa a3 m3 n3 ⟨(OU.out.set 0 _).set 1 _,?_,HR3,?_,mK⟩ ?_);(exact adN);(focus exact bl);with_reducible rfl))))
 rintro qa ao m4 n4 w4 ⟨fV,hs4,Xn,fU,xX⟩
 ((try clear hcb bn hlb hnb hmb);(have aW:=qg.out.below fU);(obtain⟨hcb,bn,hlb,hnb,hmb⟩:=aC.rules aW.box);(have vU:=Lib.hid aW);(clear aW))
 ((try clear hcp hfp hlp hnp hmp);(have bx0:=yN.out.below fU yN.out.lt);(obtain⟨hcp,hfp,hlp,hnp,hmp⟩:=aC.rules bx0);(have OV:=Lib.hid bx0);(clear bx0))
 have TS:=Lib.hid fV
 have nU:=hbw2.trans (fU.mono hbw2.size)
 have hz2:=hbw2.size
 have vT:=fU.size
 have H4:=Lib.hid hs4
 have HST:=Lib.hid Xn
 ((try clear hch hfh hlh hnh hmh);(have bx0:=TS.out);(obtain⟨hch,hfh,hlh,hnh,hmh⟩:=aC.rules bx0);(have G6:=Lib.hid bx0);(clear bx0))
 clear fV hs4 Xn qg
 by_cases h2:te=0
 rotate_left
 ·rw[if_neg h2] at hr
  have e2:(te !=0)=true:=rG
  subst hr
  go_wp2_with fail
  exact bodyPost_ret (v:= .tuple #[.int .u32 0,.int .i64 te]) PY rfl ⟨rfl,⟨s,HW.out.below nU,fun _ _ _ h=>h⟩,ay nU _⟩
 rw[if_pos h2] at hr
 subst h2
 go_wp2_with fail
 have ha6:=xO vU.out.kr vU.out.box H4.out
 have kw6:=(vU.out.Ql k.hs).Sz (H4.out.bC (aM _ _ _ _) ha6)
 generalize bN:World.setCell _ _ _=w6
 rw[bN] at kw6
 have xR:w4.grownBy w6 (some b):=XT
 have Ho:=Lib.hid kw6
 have Iy:=Lib.hid (OV.out.grown xR aR)
 have WY:=xR.size
 clear bN kw6 hcb bn hlb hnb hmb hcp hfp hlp hnp hmp hch hfh hlh hnh hmh vU OV TS G6
 go_loopw [50] (fun t W=>∃(i:Nat) (a:Option Addr) (m n:Nat),i≤4∧t=.int .i64 i∧KW W b {s with Pi:= .slice a m n,H:= .slice ao m4 n4} {k with Pi:=DX k.Pi q2 i,H:=tk1}∧(∀B,B<w6.heap.size→Apart B s.Pi k.Pi→Apart B (.slice a m n) (DX k.Pi q2 i))∧aC W w.heap.size (gu pn par 1 q2) 126∧w6.grownBy W (some b)) (fun t _=>4-(intOf t).toNat)
 case atStart=>
  obtain⟨a0,m0,n0,hv0⟩:=Ho.out.kr.Pi.is
  dsimp only at hv0
  refine⟨0,a0,m0,n0,ah,rfl,?_,?_,Iy.out,pI _ _⟩
  ·rw[←hv0];exact Ho.out
  ·rw[←hv0];exact fun _ _ h=>h
 case round=>
  obtain⟨i,a0,m0,n0,hi,rfl,W_,hst,hbp,hgw⟩:=hrel
  have HK:=Lib.hid W_
  have HB:=Lib.hid hbp
  have HS:=Lib.hid hst
  clear W_ hbp hst
  by_cases ajZ:i<4
  ·have h4:i=0∨i=1∨i=2∨i=3:=by omega
   rcases h4 with rfl|rfl|rfl|rfl
   ·(obtain⟨hcb,bn,hlb,hnb,hmb⟩:=aC.rules HK.out.box)
    have LA:=qM (q2.p0,q2.b0)
    have hix:∀W:World,(Instr.index 122 (.agg #[.int .i64 q2.p0,.bool q2.b0,.int .i64 q2.p1,.bool q2.b1,.int .i64 q2.p2,.bool q2.b2,.int .i64 q2.p3,.bool q2.b3]) (.int .i64 0)).run Tryz.prog W=.ok (ny (q2.p0,q2.b0)) W:=fun _=>by kernel_rfl
    go_wp2_with(first|((with_reducible refine bO 121 ?_);(refine aU rfl 121 _ _ rfl ((ny (q2.p0,q2.b0)).cells) uT (LA) aF ?_ ?_ ?_;(exact aG);(exact aG)))|fail)
    generalize bN:World.alloc _ _=w3
    have KD:=Lib.hid (show aC w3 wr.heap.size (ny (q2.p0,q2.b0)).cells 121 from by rw[←bN];exact aC.new _ _ _)
    have hb3:Below wr.heap.size wr w3:=wh
    clear bN
    ((try clear hcb bn hlb hnb hmb);(have aW:=HK.out.below hb3);(obtain⟨hcb,bn,hlb,hnb,hmb⟩:=aC.rules aW.box);(have mM:=Lib.hid aW);(clear aW))
    ((try clear hcd uF hld hnd hmd);(have bx0:=KD.out);(obtain⟨hcd,uF,hld,hnd,hmd⟩:=aC.rules bx0);(have OC:=Lib.hid bx0);(clear bx0))
    have hgs:=hgw.size
    have hpi:=hk.Pi
    have G_:=Lib.hid mM.out.kr.pi
    have hfw:wfi q2.p0:=Hq.out.p0
    ((refine aY (fun W=>Below w3.heap.size w3 W) (fun i=>decide (i<11)) aj ?_);
                (have hS:Below w3.heap.size w3 w3.drew:=(Below.refl _ _).drew);
                (refine tk 0 53 hS ?_);
                (refine tk 1 54 hS ?_);
                (refine tk 2 55 hS ?_);
                (refine tk 3 56 hS ?_);
                (refine tk 4 57 hS ?_);
                (refine tk 5 58 hS ?_ (hy:=Or.inl ⟨aF,oN⟩));
                (refine tk 6 59 hS ?_ (hy:=Or.inl ⟨aF,oN⟩));
                (refine aK 7 (oi:=⟨some 60,_,_,_,_,_⟩) rfl aj rfl (fun K hK=>?_));
                (go_simp;(with_reducible refine(Pipe.lZ _ (DX k.Pi q2 0) q2.p0 q2.b0 (1) _ (mM.out.kr.Pi.below hS) G_.out JQ hfw).mono ?_);rintro en w4 ⟨v4,rfl,hs4,hr4,hb4⟩;(have hS:=hS.trans (Below.mono hb4 hS.size));(obtain⟨a4,m4,n4,rfl⟩:=hs4.is);(try go_wp2_with fail));
                (refine hK.out _ _ (fun _=>bF) ?_;clear hK K);
                (try simp only[pt]);
                (refine tk 8 61 hS ?_);
                (refine tk 9 62 hS ?_);
                (refine tk 10 63 hS ?_);
                (refine aT 11 aj ?_ rfl);
                (simp only[List.toList_toArray,List.drop_succ_cons,List.drop_zero]))
    ((try clear hcb bn hlb hnb hmb);(have aW:=mM.out.below hS);(obtain⟨hcb,bn,hlb,hnb,hmb⟩:=aC.rules aW.box);(have vU:=Lib.hid aW);(clear aW))
    have H4:=Lib.hid hs4
    have Et:=aA hgw (ay (hb3.trans (hS.mono hb3.size)) (some b))
    have Xi:=Lib.hid ((HB.out.below hb3 HB.out.lt).below hS (HB.out.below hb3 HB.out.lt).lt)
    have EB:=Lib.hid (fun(B:Nat) (hB:B<w6.heap.size) (h:Apart B s.Pi k.Pi)=>hr4.apart (HS.out B hB h) (B:=B) CX)
    exact aeA
   ·(obtain⟨hcb,bn,hlb,hnb,hmb⟩:=aC.rules HK.out.box)
    have LA:=qM (q2.p1,q2.b1)
    have hix:∀W:World,(Instr.index 122 (.agg #[.int .i64 q2.p0,.bool q2.b0,.int .i64 q2.p1,.bool q2.b1,.int .i64 q2.p2,.bool q2.b2,.int .i64 q2.p3,.bool q2.b3]) (.int .i64 1)).run Tryz.prog W=.ok (ny (q2.p1,q2.b1)) W:=fun _=>by kernel_rfl
    go_wp2_with(first|((with_reducible refine bO 121 ?_);(refine aU rfl 121 _ _ rfl ((ny (q2.p1,q2.b1)).cells) uT (LA) aF ?_ ?_ ?_;(exact aG);(exact aG)))|fail)
    generalize bN:World.alloc _ _=w3
    have KD:=Lib.hid (show aC w3 wr.heap.size (ny (q2.p1,q2.b1)).cells 121 from by rw[←bN];exact aC.new _ _ _)
    have hb3:Below wr.heap.size wr w3:=wh
    clear bN
    ((try clear hcb bn hlb hnb hmb);(have aW:=HK.out.below hb3);(obtain⟨hcb,bn,hlb,hnb,hmb⟩:=aC.rules aW.box);(have mM:=Lib.hid aW);(clear aW))
    ((try clear hcd uF hld hnd hmd);(have bx0:=KD.out);(obtain⟨hcd,uF,hld,hnd,hmd⟩:=aC.rules bx0);(have OC:=Lib.hid bx0);(clear bx0))
    have hgs:=hgw.size
    have hpi:=hk.Pi
    have G_:=Lib.hid mM.out.kr.pi
    have hfw:wfi q2.p1:=Hq.out.p1
    ((refine aY (fun W=>Below w3.heap.size w3 W) (fun i=>decide (i<11)) aj ?_);
                (have hS:Below w3.heap.size w3 w3.drew:=(Below.refl _ _).drew);
                (refine tk 0 53 hS ?_);
                (refine tk 1 54 hS ?_);
                (refine tk 2 55 hS ?_);
                (refine tk 3 56 hS ?_);
                (refine tk 4 57 hS ?_);
                (refine tk 5 58 hS ?_ (hy:=Or.inl ⟨aF,oN⟩));
                (refine tk 6 59 hS ?_ (hy:=Or.inl ⟨aF,oN⟩));
                (refine aK 7 (oi:=⟨some 60,_,_,_,_,_⟩) rfl aj rfl (fun K hK=>?_));
                (go_simp;(with_reducible refine(Pipe.lZ _ (DX k.Pi q2 1) q2.p1 q2.b1 (1) _ (mM.out.kr.Pi.below hS) G_.out JQ hfw).mono ?_);rintro en w4 ⟨v4,rfl,hs4,hr4,hb4⟩;(have hS:=hS.trans (Below.mono hb4 hS.size));(obtain⟨a4,m4,n4,rfl⟩:=hs4.is);(try go_wp2_with fail));
                (refine hK.out _ _ (fun _=>bF) ?_;clear hK K);
                (try simp only[pt]);
                (refine tk 8 61 hS ?_);
                (refine tk 9 62 hS ?_);
                (refine tk 10 63 hS ?_);
                (refine aT 11 aj ?_ rfl);
                (simp only[List.toList_toArray,List.drop_succ_cons,List.drop_zero]))
    ((try clear hcb bn hlb hnb hmb);(have aW:=mM.out.below hS);(obtain⟨hcb,bn,hlb,hnb,hmb⟩:=aC.rules aW.box);(have vU:=Lib.hid aW);(clear aW))
    have H4:=Lib.hid hs4
    have Et:=aA hgw (ay (hb3.trans (hS.mono hb3.size)) (some b))
    have Xi:=Lib.hid ((HB.out.below hb3 HB.out.lt).below hS (HB.out.below hb3 HB.out.lt).lt)
    have EB:=Lib.hid (fun(B:Nat) (hB:B<w6.heap.size) (h:Apart B s.Pi k.Pi)=>hr4.apart (HS.out B hB h) (B:=B) CX)
    exact aez
   ·(obtain⟨hcb,bn,hlb,hnb,hmb⟩:=aC.rules HK.out.box)
    have LA:=qM (q2.p2,q2.b2)
    have hix:∀W:World,(Instr.index 122 (.agg #[.int .i64 q2.p0,.bool q2.b0,.int .i64 q2.p1,.bool q2.b1,.int .i64 q2.p2,.bool q2.b2,.int .i64 q2.p3,.bool q2.b3]) (.int .i64 2)).run Tryz.prog W=.ok (ny (q2.p2,q2.b2)) W:=fun _=>by kernel_rfl
    go_wp2_with(first|((with_reducible refine bO 121 ?_);(refine aU rfl 121 _ _ rfl ((ny (q2.p2,q2.b2)).cells) uT (LA) aF ?_ ?_ ?_;(exact aG);(exact aG)))|fail)
    generalize bN:World.alloc _ _=w3
    have KD:=Lib.hid (show aC w3 wr.heap.size (ny (q2.p2,q2.b2)).cells 121 from by rw[←bN];exact aC.new _ _ _)
    have hb3:Below wr.heap.size wr w3:=wh
    clear bN
    ((try clear hcb bn hlb hnb hmb);(have aW:=HK.out.below hb3);(obtain⟨hcb,bn,hlb,hnb,hmb⟩:=aC.rules aW.box);(have mM:=Lib.hid aW);(clear aW))
    ((try clear hcd uF hld hnd hmd);(have bx0:=KD.out);(obtain⟨hcd,uF,hld,hnd,hmd⟩:=aC.rules bx0);(have OC:=Lib.hid bx0);(clear bx0))
    have hgs:=hgw.size
    have hpi:=hk.Pi
    have G_:=Lib.hid mM.out.kr.pi
    have hfw:wfi q2.p2:=Hq.out.p2
    ((refine aY (fun W=>Below w3.heap.size w3 W) (fun i=>decide (i<11)) aj ?_);
                (have hS:Below w3.heap.size w3 w3.drew:=(Below.refl _ _).drew);
                (refine tk 0 53 hS ?_);
                (refine tk 1 54 hS ?_);
                (refine tk 2 55 hS ?_);
                (refine tk 3 56 hS ?_);
                (refine tk 4 57 hS ?_);
                (refine tk 5 58 hS ?_ (hy:=Or.inl ⟨aF,oN⟩));
                (refine tk 6 59 hS ?_ (hy:=Or.inl ⟨aF,oN⟩));
                (refine aK 7 (oi:=⟨some 60,_,_,_,_,_⟩) rfl aj rfl (fun K hK=>?_));
                (go_simp;(with_reducible refine(Pipe.lZ _ (DX k.Pi q2 2) q2.p2 q2.b2 (1) _ (mM.out.kr.Pi.below hS) G_.out JQ hfw).mono ?_);rintro en w4 ⟨v4,rfl,hs4,hr4,hb4⟩;(have hS:=hS.trans (Below.mono hb4 hS.size));(obtain⟨a4,m4,n4,rfl⟩:=hs4.is);(try go_wp2_with fail));
                (refine hK.out _ _ (fun _=>bF) ?_;clear hK K);
                (try simp only[pt]);
                (refine tk 8 61 hS ?_);
                (refine tk 9 62 hS ?_);
                (refine tk 10 63 hS ?_);
                (refine aT 11 aj ?_ rfl);
                (simp only[List.toList_toArray,List.drop_succ_cons,List.drop_zero]))
    ((try clear hcb bn hlb hnb hmb);(have aW:=mM.out.below hS);(obtain⟨hcb,bn,hlb,hnb,hmb⟩:=aC.rules aW.box);(have vU:=Lib.hid aW);(clear aW))
    have H4:=Lib.hid hs4
    have Et:=aA hgw (ay (hb3.trans (hS.mono hb3.size)) (some b))
    have Xi:=Lib.hid ((HB.out.below hb3 HB.out.lt).below hS (HB.out.below hb3 HB.out.lt).lt)
    have EB:=Lib.hid (fun(B:Nat) (hB:B<w6.heap.size) (h:Apart B s.Pi k.Pi)=>hr4.apart (HS.out B hB h) (B:=B) CX)
    exact aey
   ·(obtain⟨hcb,bn,hlb,hnb,hmb⟩:=aC.rules HK.out.box)
    have LA:=qM (q2.p3,q2.b3)
    have hix:∀W:World,(Instr.index 122 (.agg #[.int .i64 q2.p0,.bool q2.b0,.int .i64 q2.p1,.bool q2.b1,.int .i64 q2.p2,.bool q2.b2,.int .i64 q2.p3,.bool q2.b3]) (.int .i64 3)).run Tryz.prog W=.ok (ny (q2.p3,q2.b3)) W:=fun _=>by kernel_rfl
    go_wp2_with(first|((with_reducible refine bO 121 ?_);(refine aU rfl 121 _ _ rfl ((ny (q2.p3,q2.b3)).cells) uT (LA) aF ?_ ?_ ?_;(exact aG);(exact aG)))|fail)
    generalize bN:World.alloc _ _=w3
    have KD:=Lib.hid (show aC w3 wr.heap.size (ny (q2.p3,q2.b3)).cells 121 from by rw[←bN];exact aC.new _ _ _)
    have hb3:Below wr.heap.size wr w3:=wh
    clear bN
    ((try clear hcb bn hlb hnb hmb);(have aW:=HK.out.below hb3);(obtain⟨hcb,bn,hlb,hnb,hmb⟩:=aC.rules aW.box);(have mM:=Lib.hid aW);(clear aW))
    ((try clear hcd uF hld hnd hmd);(have bx0:=KD.out);(obtain⟨hcd,uF,hld,hnd,hmd⟩:=aC.rules bx0);(have OC:=Lib.hid bx0);(clear bx0))
    have hgs:=hgw.size
    have hpi:=hk.Pi
    have G_:=Lib.hid mM.out.kr.pi
    have hfw:wfi q2.p3:=Hq.out.p3
    ((refine aY (fun W=>Below w3.heap.size w3 W) (fun i=>decide (i<11)) aj ?_);
                (have hS:Below w3.heap.size w3 w3.drew:=(Below.refl _ _).drew);
                (refine tk 0 53 hS ?_);
                (refine tk 1 54 hS ?_);
                (refine tk 2 55 hS ?_);
                (refine tk 3 56 hS ?_);
                (refine tk 4 57 hS ?_);
                (refine tk 5 58 hS ?_ (hy:=Or.inl ⟨aF,oN⟩));
                (refine tk 6 59 hS ?_ (hy:=Or.inl ⟨aF,oN⟩));
                (refine aK 7 (oi:=⟨some 60,_,_,_,_,_⟩) rfl aj rfl (fun K hK=>?_));
                (go_simp;(with_reducible refine(Pipe.lZ _ (DX k.Pi q2 3) q2.p3 q2.b3 (1) _ (mM.out.kr.Pi.below hS) G_.out JQ hfw).mono ?_);rintro en w4 ⟨v4,rfl,hs4,hr4,hb4⟩;(have hS:=hS.trans (Below.mono hb4 hS.size));(obtain⟨a4,m4,n4,rfl⟩:=hs4.is);(try go_wp2_with fail));
                (refine hK.out _ _ (fun _=>bF) ?_;clear hK K);
                (try simp only[pt]);
                (refine tk 8 61 hS ?_);
                (refine tk 9 62 hS ?_);
                (refine tk 10 63 hS ?_);
                (refine aT 11 aj ?_ rfl);
                (simp only[List.toList_toArray,List.drop_succ_cons,List.drop_zero]))
    ((try clear hcb bn hlb hnb hmb);(have aW:=mM.out.below hS);(obtain⟨hcb,bn,hlb,hnb,hmb⟩:=aC.rules aW.box);(have vU:=Lib.hid aW);(clear aW))
    have H4:=Lib.hid hs4
    have Et:=aA hgw (ay (hb3.trans (hS.mono hb3.size)) (some b))
    have Xi:=Lib.hid ((HB.out.below hb3 HB.out.lt).below hS (HB.out.below hb3 HB.out.lt).lt)
    have EB:=Lib.hid (fun(B:Nat) (hB:B<w6.heap.size) (h:Apart B s.Pi k.Pi)=>hr4.apart (HS.out B hB h) (B:=B) CX)
    exact aex
  ·obtain rfl:i=4:=by omega
   (obtain⟨hcb,bn,hlb,hnb,hmb⟩:=aC.rules HK.out.box)
   ((try clear hcp hfp hlp hnp hmp);(have bx0:=HB.out);(obtain⟨hcp,hfp,hlp,hnp,hmp⟩:=aC.rules bx0);(have HB2:=Lib.hid bx0);(clear bx0))
   have hgs:=hgw.size
   have hPl:Sl wr true 26 (.slice aP k.P.length cP) (Tab.pO k.P):=by have:=HK.out.kr.P;rwa[show({s with Pi:= .slice a0 m0 n0,H:= .slice ao m4 n4}:Ks).P=s.P from rfl,R7] at this
   have WT:=Lib.hid hPl
   clear hPl
   go_wp2_with fail
   ((refine aY (fun W=>Below wr.heap.size wr W) (fun i=>decide (i<20)&&i !=1) aj ?_);
          (have hS:Below wr.heap.size wr wr.drew:=(Below.refl _ _).drew);
          (refine bG 1 (oi:=⟨some 66,_,_,_,_,_⟩) (v:=?_) rfl aj sx (Or.inl ⟨aF,?_⟩) ?_;rotate_left;focus((intro W hW);go_simp;(all_goals with_reducible rfl)));
          (try simp only[pt]);
          (refine tk 0 65 hS ?_);
          (refine tk 2 67 hS ?_);
          (refine tk 3 68 hS ?_);
          (refine tk 4 69 hS ?_);
          (refine tk 5 70 hS ?_);
          (refine tk 6 71 hS ?_ (hy:=Or.inl ⟨aF,nM⟩));
          (refine cO 7 (oi:=⟨some 72,_,_,_,_,_⟩) rfl aj sx hS (dx 126 _ rfl (gu pn par 1 q2) Tab.aX (oz _ _ _ _) aF bg (fun W hs=>HB2.out.below hs HB2.out.lt)) ?_);
          (try simp only[pt]);
          (refine tk 9 74 hS ?_);
          (refine tk 10 75 hS ?_);
          (refine tk 11 76 hS ?_);
          (refine tk 12 77 hS ?_);
          (refine tk 13 78 hS ?_ (hy:=Or.inl ⟨aF,nM⟩));
          (refine tk 14 79 hS ?_);
          (refine tk 15 80 hS ?_ (hy:=Or.inl ⟨aF,nM⟩));
          (refine aK 8 (oi:=⟨some 73,_,_,_,_,_⟩) rfl aj rfl (fun K hK=>?_));
          (go_simp;(with_reducible refine(C9 _ k.P pn par 1 q2 Hq.out _ (WT.out.below hS) hk.P).mono ?_);rintro en w7 ⟨v7,rfl,hs7,oZ⟩;(have hS:=hS.trans (Below.mono oZ hS.size));(obtain⟨a7,m7,n7,rfl⟩:=hs7.is);(try go_wp2_with fail));
          (refine hK.out _ _ (fun _=>bF) ?_;clear hK K);
          (try simp only[pt]);
          (refine aK 16 (oi:=⟨some 81,_,_,_,_,_⟩) rfl aj rfl (fun K hK=>?_));
          (go_simp;(with_reducible refine(Turn.KH s.L k.L k.left pn _ (HK.out.kr.L.below hS) Pz).mono ?_);rintro en w8 ⟨v8,rfl,DK,R8,jU⟩;(have hS:=hS.trans (Below.mono jU hS.size));(obtain⟨a8,m8,n8,rfl⟩:=DK.is);(have hs7:=hs7.below jU);(have ha8:=R8.apart HW.out.aL adg);(have vW:∀B,B<w.heap.size→Apart B s.L (ints k.L)→Apart B _ _:=fun B hB h=>R8.apart h adg);(try go_wp2_with fail));
          (refine hK.out _ _ (fun _=>bF) ?_;clear hK K);
          (try simp only[pt]);
          (refine tk 17 82 hS ?_);
          (refine tk 18 83 hS ?_);
          (refine tk 19 84 hS ?_);
          (refine aT 20 aj ?_ rfl);
          (simp only[List.toList_toArray,List.drop_succ_cons,List.drop_zero]))
   ((try clear hcb bn hlb hnb hmb);(have aW:=HK.out.below hS);(obtain⟨hcb,bn,hlb,hnb,hmb⟩:=aC.rules aW.box);(have OT:=Lib.hid aW);(clear aW))
   ((try clear hcp hfp hlp hnp hmp);(have bx0:=HB2.out.below hS HB2.out.lt);(obtain⟨hcp,hfp,hlp,hnp,hmp⟩:=aC.rules bx0);(have HB3:=Lib.hid bx0);(clear bx0))
   have HG:=Lib.hid (aA (aA (ay nU (some b)) xR) (aA hgw (ay hS (some b))))
   have H7:=Lib.hid hs7
   have H8:=Lib.hid DK
   have HA8:=Lib.hid ha8
   have akw:=Lib.hid vW
   have hne:¬w.heap.size=b:=ah
   clear hs7 DK ha8 R8 vW
   go_wp2_with fail
   have hw9:=(OT.out.zP H7.out).Ah (H8.out.bC (aM _ _ _ _) HA8.out) HA8.out
   have hcu:DX k.Pi q 4=DX k.Pi q2 4:=by rw[HE2.out];rfl
   rw[hcu] at hr
   subst hr
   exact bodyPost_ret (v:= .tuple #[.int .u32 (pn%4294967296),.int .i64 0]) PY rfl ⟨rfl,⟨_,hw9.set_left _,fun B hB _ h=>⟨akw.out B hB h.1,HST.out B ah h.2.1,h.2.2.1,h.2.2.2.1,h.2.2.2.2.1,HS.out B ah h.2.2.2.2.2⟩⟩,aA HG.out (aA (aM _ _ _ _) (aA (aM _ _ _ _) (aM _ _ _ _)))⟩
end Go.Proofs.YtgmodehldmahiaaGreatDoor
