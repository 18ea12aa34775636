/- Part 21 of 53 of the proof of topAlone_and_topApart. Conditions: see each. -/
import Derived.Test.YtgmodehldmahiaaGreatDoorB14
import Derived.Test.YtgmodehldmahiaaGreatDoorB18
import Derived.Test.YtgmodehldmahiaaGreatDoorB10
set_option linter.unusedVariables false
set_option linter.unusedSimpArgs false
set_option maxRecDepth 8192
set_option maxHeartbeats 40000000
namespace Go.Proofs.YtgmodehldmahiaaGreatDoor
open Go Go.RowKit Go.Tm
attribute [local go_sem] fO fM fK d_ dM dZ dY dX dW dV dU dS dR dQ dP dO dN iQ iP iO iN iM iL iK iG iJ iI fU fT fQ fP fI fH fC
structure DY(F:Nat→Option Addr→Nat→Nat→World→Prop)(G:Nat→Option Addr→Nat→Nat→Act)(a':Act)(w':World):Prop where
 ex:∃q a m n,F q a m n w'∧a'=G q a m n
theorem DY.of{F:Nat→Option Addr→Nat→Nat→World→Prop}{G:Nat→Option Addr→Nat→Nat→Act}{a':Act}{w':World}(q:Nat)(a:Option Addr)(m n:Nat)(h:F q a m n w')(e:a'=G q a m n):DY F G a' w':=⟨q,a,m,n,h,e⟩
theorem RN{P:Program}{c:Code}{Q:Exit→Act→World→Prop}{a:Act}{w:World}(F:Nat→Option Addr→Nat→Nat→World→Prop)(G:Nat→Option Addr→Nat→Nat→Act)(h:c.wp P (fun e a' w'=>e=.normal∧DY F G a' w') a w)(hM:∀q ao m n W,F q ao m n W→Q .normal (G q ao m n) W):c.wp P Q a w:=
 Code.wp_mono (fun e a w h=>by obtain⟨rfl,q,ao,m,n,h1,rfl⟩:=h;exact hM q ao m n w h1) h
def G9(l:List Value)(q:Pf):Nat→List Value
 |0=>l
 |i+1=>Pipe.rW (G9 l q i) (lJ q i).1 (lJ q i).2 1
theorem J4(l:List Value)(q:Pf):∀i,(G9 l q i).length=l.length
 |0=>rfl
 |i+1=>by rw[G9,Pipe.CG,J4 l q i]
noncomputable def eZ(k:Kn)(p:aT.dz):Kn×Int×Int:=
 if 6≤k.P.length then(k,0,5) else
  let pid:=wrap64 (aT.tZ k.P+1)
  let h:=Heap.ig k.hs k.H 64 pid
  if h.2.2=0 then
   ({k with H:=h.1,Pi:=G9 k.Pi (pq p) 4,P:=aT.oF k.P (BH pid p.par 1 {pq p with x:=(0,0,0,0)}),L:=(ji.rG k.L k.left pid).1,left:=(ji.rG k.L k.left pid).2},pid%4294967296,0)
  else(k,0,h.2.2)
theorem GH{W:World}{qa:Nat}{i:Int}{a:Option Addr}{m n:Nat}{t:TypeId}{v:Value}{l:List Heap.Sp}(hB:aD W qa #[.int .i64 i,.slice a m n] t)(hs:Sl W true 3 v (Heap.pW l))(v0 v1:Value):Sl ((W.setCell ⟨qa,0,none⟩ v0).setCell ⟨qa,1,none⟩ v1) true 3 v (Heap.pW l):=
 have ap:=lZ (ks:=[1,5]) rfl hB hs [1,1,1] (fun x hx=>oW) aC
 (hs.setOther ap _ _).setOther ap _ _
theorem Fu(b:Nat)(s:Ks)(k:Kn)(p:aT.dz)(w:World)(hw:KW w b s k)(hk:Fit k):
  Calls Tryz.prog 74 #[.pointer (some ⟨b,0,none⟩),aT.jQ p] w fun en w'=>en=.returned (.tuple #[.int .u32 (eZ k p).2.1,.int .i64 (eZ k p).2.2])∧KS w b s k w' (eZ k p).1∧w.grownBy w' (some b):=by
 have HW:=ah hw
 have hlt:=hw.lt
 obtain⟨r,hr⟩:∃r,r=eZ k p:=⟨_,rfl⟩
 rw[←hr]
 unfold eZ at hr
 dsimp only at hr
 (rw[show aT.jQ p=.agg (iA p.pid p.par p.st (pq p)) from congrArg Value.agg (wM p)];have hq:=jR p;generalize pq p=q at*;generalize p.pid=pid at*;generalize p.par=par at*;generalize p.st=st at*;have HQ:=ah hq;clear hq)
 have HN:=ah (fun W h=>aT.ae5 s.P k.P W h)
 have HT:=ah (fun v W h=>Heap.lV k.hs v k.H 64 (wrap64 (aT.tZ k.P+1)) W h hk.hs hk.hw (by have:=hk.H;omega))
 obtain⟨aP,cP,Xw,hlP⟩:=hw.kr.P.shape
 rw[aT.jC] at Xw hlP
 generalize wrap64 (aT.tZ k.P+1)=pn at*
 generalize Heap.ig k.hs k.H 64 pn=tk at*
 obtain⟨tk1,tk2,te⟩:=tk
 dsimp only at hr HT
 have HR:=ah hr
 have HVP:=ah Xw
 have yg:=Below.refl w.heap.size w
 ((try clear hcb bC bn bA bE);have bg:=HW.out.below yg;obtain⟨hcb,bC,bn,bA,bE⟩:=aD.rules bg.box;have lG:=ah bg;clear bg)
 clear hw hr
 by_cases h6:6≤k.P.length
 ·have hr:=HR.out
  rw[if_pos h6] at hr
  have e1:decide ((6:Int)≤(k.P.length:Int))=true:=decide_eq_true aj
  have e1n:decide (6≤k.P.length)=true:=decide_eq_true h6
  subst hr
  go_enter Tryz.func74,Tryz.ntmps74
  go_wp2_with fail
  exact bodyPost_ret (v:= .tuple #[.int .u32 0,.int .i64 5]) Vp rfl ⟨rfl,⟨s,HW.out.below aG,fun _ _ _ h=>h⟩,aA aG _⟩
 have hr:=HR.out
 rw[if_neg h6] at hr
 have e1:decide ((6:Int)≤(k.P.length:Int))=false:=decide_eq_false aj
 have e1n:decide (6≤k.P.length)=false:=decide_eq_false h6
 go_enter Tryz.func74,Tryz.ntmps74
 go_wp2_with fail
 (generalize bR:World.alloc _ _=w0;have KP:aD w0 (w.heap.size) (iA pid par st q) 126:=bH;have hb0:Below w.heap.size w w0:=bN;have hz0:w0.heap.size=w.heap.size+1:=bX;clear bR;have KP:=ah KP)
 ((try clear hcb bC bn bA bE);have bg:=HW.out.below hb0;obtain⟨hcb,bC,bn,bA,bE⟩:=aD.rules bg.box;have lG:=ah bg;clear bg)
 ((try clear fF h_ gF gQ g_);have bx0:=KP.out;obtain⟨fF,h_,gF,gQ,g_⟩:=aD.rules bx0;have rJ:=ah bx0;clear bx0)
 have hP0:=lG.out.kr.P
 rw[Xw] at hP0 HN
 with_reducible refine(HN.out _ hP0).mono ?_
 rintro en w1 ⟨rfl,hb1⟩
 have bW:=hb0.trans (hb1.mono hb0.size)
 ((try clear fF h_ gF gQ g_);have bx0:=rJ.out.below hb1 rJ.out.lt;obtain⟨fF,h_,gF,gQ,g_⟩:=aD.rules bx0;have A9:=ah bx0;clear bx0)
 ((try clear hcb bC bn bA bE);have bg:=lG.out.below hb1;obtain⟨hcb,bC,bn,bA,bE⟩:=aD.rules bg.box;have qA:=ah bg;clear bg)
 have hz1:=hb1.size
 clear hP0
 go_wp2_with fail
 generalize bR:World.setCell _ _ _=w2
 have L8:Hid (Pf.Ok {q with x:=(0,0,0,0)}):=ah {HQ.out with x:=akS}
 have bp2:aD w2 w.heap.size (iA pn par 1 {q with x:=(0,0,0,0)}) 126:=by
  rw[←bR];exact((((((A9.out.set 0 _).set 2 _).set 22 _).set 23 _).set 24 _).set 25 _).cast (by simp only[alA,VL,Yl,Yk,Yj,Yi])
 have bM:Below w.heap.size w w2:=bN
 obtain⟨q2,mh⟩:∃q2:Pf,q2={q with x:=(0,0,0,0)}:=⟨_,rfl⟩
 rw[←mh] at bp2 L8 hr
 have HE2:=ah mh
 clear mh
 have CV:=ah bp2
 ((try clear hcb bC bn bA bE);have bg:=HW.out.below bM;obtain⟨hcb,bC,bn,bA,bE⟩:=aD.rules bg.box;have tC:=ah bg;clear bg)
 clear bR bp2 fF h_ gF gQ g_ KP rJ A9 lG qA
 ((try clear fF h_ gF gQ g_);have bx0:=CV.out;obtain⟨fF,h_,gF,gQ,g_⟩:=aD.rules bx0;have BL:=ah bx0;clear bx0)
 refine RN (fun qa ao m n W=>aD W qa #[.int .i64 k.hs,.slice ao m n] 51∧Sl W true 3 (.slice ao m n) (Heap.pW tk1)∧(∀B,B<w2.heap.size→Apart B s.H (Heap.pW k.H)→Apart B (.slice ao m n) (Heap.pW tk1))∧Below w2.heap.size w2 W∧w2.heap.size≤qa) ?G ?_ ?_
 rotate_left
 ·((refine aY (fun W=>Below w2.heap.size w2 W) (fun i=>decide (i<13)&&i !=10&&i !=11) ay ?_);
          have hS:Below w2.heap.size w2 w2.drew:=(Below.refl _ _).drew;
          (refine tk 0 29 hS ?_);
          (refine tk 1 30 hS ?_);
          (refine tk 2 31 hS ?_);
          (refine tk 3 32 hS ?_);
          (refine tk 4 33 hS ?_ (hy:=Or.inl ⟨aF,qB⟩));
          (refine tk 5 34 hS ?_);
          (refine tk 6 35 hS ?_ (hy:=Or.inl ⟨aF,qB⟩));
          (refine eX 7 12 (oi:=⟨some 36,_,_,_,_,_⟩) (oj:=⟨some 6,_,_,_,_,_⟩) rfl rfl ay rfl rfl (fun K hK=>?_) (fun K hK=>?_));
          (focus((go_simp;(with_reducible refine(HT.out s.H _ (tC.out.kr.H.below hS)).mono ?_);rintro en w3 ⟨v3,rfl,hs3,hr3,hb3⟩;have hS:=hS.trans (Below.mono hb3 hS.size);obtain⟨a3,m3,n3,rfl⟩:=hs3.is;(have HR3:∀B,B<w2.heap.size→Apart B s.H (Heap.pW k.H)→Apart B (.slice a3 m3 n3) (Heap.pW tk1):=fun B hB h=>hr3.apart h ami);(try(have bT:=aD.below bT hb3 bT.lt));(try go_wp2_with fail));(refine hK.out _ _ (fun _=>b_) ?_;clear hK K);(try simp only[pt]);(refine tk 8 28 hS ?_);(try simp only[pt]);(refine bV 10 (oi:=⟨some 38,_,_,_,_,_⟩) (v:=?_) rfl ay om (Or.inl ⟨aF,?_⟩) ?_;rotate_left;focus(intro W hW;go_simp;(all_goals with_reducible rfl)));(try simp only[pt]);(refine bV 11 (oi:=⟨some 39,_,_,_,_,_⟩) (v:=?_) rfl ay om (Or.inl ⟨aF,?_⟩) ?_;rotate_left;focus(intro W hW;go_simp;(all_goals with_reducible rfl)));(try simp only[pt]);(refine tk 9 37 hS ?_);(try simp only[pt]);(refine aJ 12 (oi:=⟨some 6,_,_,_,_,_⟩) rfl ay rfl (fun K hK=>?_));(refine eF 51 rfl (z:= .agg #[.int .i64 0,.slice none 0 0]) ay #[.int .i64 0,.slice none 0 0] rfl ?_);(refine hidS hK (hS.alloc hS.size _) (fun hS=>?_);clear hK K);(try simp only[pt]);(first|(have bT:=aD.new w3 #[.int .i64 0,.slice none 0 0] 51;have dK:Below w3.heap.size w3 (w3.alloc (.cells #[.int .i64 0,.slice none 0 0] 51)):=(Below.refl _ _).alloc (Nat.le_refl _) _;have gy:w2.heap.size≤w3.heap.size:=ahX;generalize w3.alloc (.cells #[.int .i64 0,.slice none 0 0] 51)=w5 at hS bT dK⊢;generalize w3.heap.size=qa at bT gy⊢)|(have bT:=aD.new w2.drew #[.int .i64 0,.slice none 0 0] 51;have dK:Below w2.drew.heap.size w2.drew (w2.drew.alloc (.cells #[.int .i64 0,.slice none 0 0] 51)):=(Below.refl _ _).alloc (Nat.le_refl _) _;have gy:w2.heap.size≤w2.drew.heap.size:=M8;generalize w2.drew.alloc (.cells #[.int .i64 0,.slice none 0 0] 51)=w5 at hS bT dK⊢;generalize w2.drew.heap.size=qa at bT gy⊢));exact ajh));
          (focus((refine eF 51 rfl (z:= .agg #[.int .i64 0,.slice none 0 0]) ay #[.int .i64 0,.slice none 0 0] rfl ?_);(refine hidS hK (hS.alloc hS.size _) (fun hS=>?_);clear hK K);(try simp only[pt]);(first|(have bT:=aD.new w3 #[.int .i64 0,.slice none 0 0] 51;have dK:Below w3.heap.size w3 (w3.alloc (.cells #[.int .i64 0,.slice none 0 0] 51)):=(Below.refl _ _).alloc (Nat.le_refl _) _;have gy:w2.heap.size≤w3.heap.size:=ahX;generalize w3.alloc (.cells #[.int .i64 0,.slice none 0 0] 51)=w5 at hS bT dK⊢;generalize w3.heap.size=qa at bT gy⊢)|(have bT:=aD.new w2.drew #[.int .i64 0,.slice none 0 0] 51;have dK:Below w2.drew.heap.size w2.drew (w2.drew.alloc (.cells #[.int .i64 0,.slice none 0 0] 51)):=(Below.refl _ _).alloc (Nat.le_refl _) _;have gy:w2.heap.size≤w2.drew.heap.size:=M8;generalize w2.drew.alloc (.cells #[.int .i64 0,.slice none 0 0] 51)=w5 at hS bT dK⊢;generalize w2.drew.heap.size=qa at bT gy⊢));(refine aJ 7 (oi:=⟨some 36,_,_,_,_,_⟩) rfl ay rfl (fun K hK=>?_));(go_simp;(with_reducible refine(HT.out s.H _ (tC.out.kr.H.below hS)).mono ?_);rintro en w3 ⟨v3,rfl,hs3,hr3,hb3⟩;have hS:=hS.trans (Below.mono hb3 hS.size);obtain⟨a3,m3,n3,rfl⟩:=hs3.is;(have HR3:∀B,B<w2.heap.size→Apart B s.H (Heap.pW k.H)→Apart B (.slice a3 m3 n3) (Heap.pW tk1):=fun B hB h=>hr3.apart h ami);(try(have bT:=aD.below bT hb3 bT.lt));(try go_wp2_with fail));(refine hK.out _ _ (fun _=>b_) ?_;clear hK K);(try simp only[pt]);(refine tk 8 28 hS ?_);(try simp only[pt]);(refine bV 10 (oi:=⟨some 38,_,_,_,_,_⟩) (v:=?_) rfl ay om (Or.inl ⟨aF,?_⟩) ?_;rotate_left;focus(intro W hW;go_simp;(all_goals with_reducible rfl)));(try simp only[pt]);(refine bV 11 (oi:=⟨some 39,_,_,_,_,_⟩) (v:=?_) rfl ay om (Or.inl ⟨aF,?_⟩) ?_;rotate_left;focus(intro W hW;go_simp;(all_goals with_reducible rfl)));(try simp only[pt]);(refine tk 9 37 hS ?_);(try simp only[pt]);exact ajh)))
 rintro qa ao m4 n4 w4 ⟨bT,mg,abF,gY,GQ⟩
 ((try clear hcb bC bn bA bE);have bg:=tC.out.below gY;obtain⟨hcb,bC,bn,bA,bE⟩:=aD.rules bg.box;have zK:=ah bg;clear bg)
 ((try clear fF h_ gF gQ g_);have bx0:=BL.out.below gY BL.out.lt;obtain⟨fF,h_,gF,gQ,g_⟩:=aD.rules bx0;have UG:=ah bx0;clear bx0)
 have A_:=ah bT
 have jK:=bM.trans (gY.mono bM.size)
 have hz2:=bM.size
 have xU:=gY.size
 have H4:=ah mg
 have HST:=ah abF
 ((try clear hch hfh hlh hnh hmh);have bx0:=A_.out;obtain⟨hch,hfh,hlh,hnh,hmh⟩:=aD.rules bx0;have zI:=ah bx0;clear bx0)
 clear bT mg abF tC
 by_cases h2:te=0
 rotate_left
 ·rw[if_neg h2] at hr
  have e2:(te !=0)=true:=uR
  subst hr
  go_wp2_with fail
  exact bodyPost_ret (v:= .tuple #[.int .u32 0,.int .i64 te]) Vp rfl ⟨rfl,⟨s,HW.out.below jK,fun _ _ _ h=>h⟩,aA jK _⟩
 rw[if_pos h2] at hr
 subst h2
 go_wp2_with fail
 have ha6:=AV zK.out.kr zK.out.box H4.out
 have kw6:=(zK.out.VJ k.hs).XR (H4.out.bO (aO _ _ _ _) ha6)
 generalize bR:World.setCell _ _ _=w6
 rw[bR] at kw6
 have A8:w4.grownBy w6 (some b):=acj
 have LZ:=ah kw6
 have M4:=ah (UG.out.grown A8 aV)
 have hz6:=A8.size
 clear bR kw6 hcb bC bn bA bE fF h_ gF gQ g_ hch hfh hlh hnh hmh zK UG A_ zI
 go_loopw [50] (fun t W=>∃(i:Nat) (a:Option Addr) (m n:Nat),i≤4∧t=.int .i64 i∧KW W b {s with Pi:= .slice a m n,H:= .slice ao m4 n4} {k with Pi:=G9 k.Pi q2 i,H:=tk1}∧(∀B,B<w6.heap.size→Apart B s.Pi k.Pi→Apart B (.slice a m n) (G9 k.Pi q2 i))∧aD W w.heap.size (iA pn par 1 q2) 126∧w6.grownBy W (some b)) (fun t _=>4-(intOf t).toNat)
 case atStart=>
  obtain⟨a0,m0,n0,hv0⟩:=LZ.out.kr.Pi.is
  dsimp only at hv0
  refine⟨0,a0,m0,n0,aj,rfl,?_,?_,M4.out,r9 _ _⟩
  ·rw[←hv0];exact LZ.out
  ·rw[←hv0];exact fun _ _ h=>h
 case round=>
  obtain⟨i,a0,m0,n0,hi,rfl,hkw,hst,hbp,qI⟩:=hrel
  have HK:=ah hkw
  have HB:=ah hbp
  have HS:=ah hst
  clear hkw hbp hst
  by_cases apU:i<4
  ·have h4:i=0∨i=1∨i=2∨i=3:=by omega
   rcases h4 with rfl|rfl|rfl|rfl
   ·obtain⟨hcb,bC,bn,bA,bE⟩:=aD.rules HK.out.box
    have QH:=uw (q2.p0,q2.b0)
    have hix:∀W:World,(Instr.index 122 (.agg #[.int .i64 q2.p0,.bool q2.b0,.int .i64 q2.p1,.bool q2.b1,.int .i64 q2.p2,.bool q2.b2,.int .i64 q2.p3,.bool q2.b3]) (.int .i64 0)).run Tryz.prog W=.ok (qd (q2.p0,q2.b0)) W:=fun _=>by kernel_rfl
    go_wp2_with(first|((with_reducible refine bS 121 ?_);(refine aU rfl 121 _ _ rfl ((qd (q2.p0,q2.b0)).cells) yE (QH) aF ?_ ?_ ?_;(exact aM);(exact aM)))|fail)
    generalize bR:World.alloc _ _=w3
    have KD:=ah (show aD w3 wr.heap.size (qd (q2.p0,q2.b0)).cells 121 from by rw[←bR];exact aD.new _ _ _)
    have hb3:Below wr.heap.size wr w3:=yZ
    clear bR
    ((try clear hcb bC bn bA bE);have bg:=HK.out.below hb3;obtain⟨hcb,bC,bn,bA,bE⟩:=aD.rules bg.box;have pF:=ah bg;clear bg)
    ((try clear hcd zy wY yQ zx);have bx0:=KD.out;obtain⟨hcd,zy,wY,yQ,zx⟩:=aD.rules bx0;have Un:=ah bx0;clear bx0)
    have hgs:=qI.size
    have hpi:=hk.Pi
    have GV:=ah pF.out.kr.pi
    have hfw:qK q2.p0:=L8.out.p0
    ((refine aY (fun W=>Below w3.heap.size w3 W) (fun i=>decide (i<11)) ay ?_);
          have hS:Below w3.heap.size w3 w3.drew:=(Below.refl _ _).drew;
          (refine tk 0 53 hS ?_);
          (refine tk 1 54 hS ?_);
          (refine tk 2 55 hS ?_);
          (refine tk 3 56 hS ?_);
          (refine tk 4 57 hS ?_);
          (refine tk 5 58 hS ?_ (hy:=Or.inl ⟨aF,rM⟩));
          (refine tk 6 59 hS ?_ (hy:=Or.inl ⟨aF,rM⟩));
          (refine aJ 7 (oi:=⟨some 60,_,_,_,_,_⟩) rfl ay rfl (fun K hK=>?_));
          (go_simp;(with_reducible refine(Pipe.oJ _ (G9 k.Pi q2 0) q2.p0 q2.b0 (1) _ (pF.out.kr.Pi.below hS) GV.out OW hfw).mono ?_);rintro en w4 ⟨v4,rfl,mg,hr4,hb4⟩;have hS:=hS.trans (Below.mono hb4 hS.size);obtain⟨a4,m4,n4,rfl⟩:=mg.is;(try go_wp2_with fail));
          (refine hK.out _ _ (fun _=>b_) ?_;clear hK K);
          (try simp only[pt]);
          (refine tk 8 61 hS ?_);
          (refine tk 9 62 hS ?_);
          (refine tk 10 63 hS ?_);
          (refine aZ 11 ay ?_ rfl);
          simp only[List.toList_toArray,List.drop_succ_cons,List.drop_zero])
    ((try clear hcb bC bn bA bE);have bg:=pF.out.below hS;obtain⟨hcb,bC,bn,bA,bE⟩:=aD.rules bg.box;have zK:=ah bg;clear bg)
    have H4:=ah mg
    have IC:=aB qI (aA (hb3.trans (hS.mono hb3.size)) (some b))
    have Y9:=ah ((HB.out.below hb3 HB.out.lt).below hS (HB.out.below hb3 HB.out.lt).lt)
    have IQ:=ah (fun(B:Nat) (hB:B<w6.heap.size) (h:Apart B s.Pi k.Pi)=>hr4.apart (HS.out B hB h) (B:=B) FY)
    exact aiU
   ·obtain⟨hcb,bC,bn,bA,bE⟩:=aD.rules HK.out.box
    have QH:=uw (q2.p1,q2.b1)
    have hix:∀W:World,(Instr.index 122 (.agg #[.int .i64 q2.p0,.bool q2.b0,.int .i64 q2.p1,.bool q2.b1,.int .i64 q2.p2,.bool q2.b2,.int .i64 q2.p3,.bool q2.b3]) (.int .i64 1)).run Tryz.prog W=.ok (qd (q2.p1,q2.b1)) W:=fun _=>by kernel_rfl
    go_wp2_with(first|((with_reducible refine bS 121 ?_);(refine aU rfl 121 _ _ rfl ((qd (q2.p1,q2.b1)).cells) yE (QH) aF ?_ ?_ ?_;(exact aM);(exact aM)))|fail)
    generalize bR:World.alloc _ _=w3
    have KD:=ah (show aD w3 wr.heap.size (qd (q2.p1,q2.b1)).cells 121 from by rw[←bR];exact aD.new _ _ _)
    have hb3:Below wr.heap.size wr w3:=yZ
    clear bR
    ((try clear hcb bC bn bA bE);have bg:=HK.out.below hb3;obtain⟨hcb,bC,bn,bA,bE⟩:=aD.rules bg.box;have pF:=ah bg;clear bg)
    ((try clear hcd zy wY yQ zx);have bx0:=KD.out;obtain⟨hcd,zy,wY,yQ,zx⟩:=aD.rules bx0;have Un:=ah bx0;clear bx0)
    have hgs:=qI.size
    have hpi:=hk.Pi
    have GV:=ah pF.out.kr.pi
    have hfw:qK q2.p1:=L8.out.p1
    ((refine aY (fun W=>Below w3.heap.size w3 W) (fun i=>decide (i<11)) ay ?_);
          have hS:Below w3.heap.size w3 w3.drew:=(Below.refl _ _).drew;
          (refine tk 0 53 hS ?_);
          (refine tk 1 54 hS ?_);
          (refine tk 2 55 hS ?_);
          (refine tk 3 56 hS ?_);
          (refine tk 4 57 hS ?_);
          (refine tk 5 58 hS ?_ (hy:=Or.inl ⟨aF,rM⟩));
          (refine tk 6 59 hS ?_ (hy:=Or.inl ⟨aF,rM⟩));
          (refine aJ 7 (oi:=⟨some 60,_,_,_,_,_⟩) rfl ay rfl (fun K hK=>?_));
          (go_simp;(with_reducible refine(Pipe.oJ _ (G9 k.Pi q2 1) q2.p1 q2.b1 (1) _ (pF.out.kr.Pi.below hS) GV.out OW hfw).mono ?_);rintro en w4 ⟨v4,rfl,mg,hr4,hb4⟩;have hS:=hS.trans (Below.mono hb4 hS.size);obtain⟨a4,m4,n4,rfl⟩:=mg.is;(try go_wp2_with fail));
          (refine hK.out _ _ (fun _=>b_) ?_;clear hK K);
          (try simp only[pt]);
          (refine tk 8 61 hS ?_);
          (refine tk 9 62 hS ?_);
          (refine tk 10 63 hS ?_);
          (refine aZ 11 ay ?_ rfl);
          simp only[List.toList_toArray,List.drop_succ_cons,List.drop_zero])
    ((try clear hcb bC bn bA bE);have bg:=pF.out.below hS;obtain⟨hcb,bC,bn,bA,bE⟩:=aD.rules bg.box;have zK:=ah bg;clear bg)
    have H4:=ah mg
    have IC:=aB qI (aA (hb3.trans (hS.mono hb3.size)) (some b))
    have Y9:=ah ((HB.out.below hb3 HB.out.lt).below hS (HB.out.below hb3 HB.out.lt).lt)
    have IQ:=ah (fun(B:Nat) (hB:B<w6.heap.size) (h:Apart B s.Pi k.Pi)=>hr4.apart (HS.out B hB h) (B:=B) FY)
    exact aiT
   ·obtain⟨hcb,bC,bn,bA,bE⟩:=aD.rules HK.out.box
    have QH:=uw (q2.p2,q2.b2)
    have hix:∀W:World,(Instr.index 122 (.agg #[.int .i64 q2.p0,.bool q2.b0,.int .i64 q2.p1,.bool q2.b1,.int .i64 q2.p2,.bool q2.b2,.int .i64 q2.p3,.bool q2.b3]) (.int .i64 2)).run Tryz.prog W=.ok (qd (q2.p2,q2.b2)) W:=fun _=>by kernel_rfl
    go_wp2_with(first|((with_reducible refine bS 121 ?_);(refine aU rfl 121 _ _ rfl ((qd (q2.p2,q2.b2)).cells) yE (QH) aF ?_ ?_ ?_;(exact aM);(exact aM)))|fail)
    generalize bR:World.alloc _ _=w3
    have KD:=ah (show aD w3 wr.heap.size (qd (q2.p2,q2.b2)).cells 121 from by rw[←bR];exact aD.new _ _ _)
    have hb3:Below wr.heap.size wr w3:=yZ
    clear bR
    ((try clear hcb bC bn bA bE);have bg:=HK.out.below hb3;obtain⟨hcb,bC,bn,bA,bE⟩:=aD.rules bg.box;have pF:=ah bg;clear bg)
    ((try clear hcd zy wY yQ zx);have bx0:=KD.out;obtain⟨hcd,zy,wY,yQ,zx⟩:=aD.rules bx0;have Un:=ah bx0;clear bx0)
    have hgs:=qI.size
    have hpi:=hk.Pi
    have GV:=ah pF.out.kr.pi
    have hfw:qK q2.p2:=L8.out.p2
    ((refine aY (fun W=>Below w3.heap.size w3 W) (fun i=>decide (i<11)) ay ?_);
          have hS:Below w3.heap.size w3 w3.drew:=(Below.refl _ _).drew;
          (refine tk 0 53 hS ?_);
          (refine tk 1 54 hS ?_);
          (refine tk 2 55 hS ?_);
          (refine tk 3 56 hS ?_);
          (refine tk 4 57 hS ?_);
          (refine tk 5 58 hS ?_ (hy:=Or.inl ⟨aF,rM⟩));
          (refine tk 6 59 hS ?_ (hy:=Or.inl ⟨aF,rM⟩));
          (refine aJ 7 (oi:=⟨some 60,_,_,_,_,_⟩) rfl ay rfl (fun K hK=>?_));
          (go_simp;(with_reducible refine(Pipe.oJ _ (G9 k.Pi q2 2) q2.p2 q2.b2 (1) _ (pF.out.kr.Pi.below hS) GV.out OW hfw).mono ?_);rintro en w4 ⟨v4,rfl,mg,hr4,hb4⟩;have hS:=hS.trans (Below.mono hb4 hS.size);obtain⟨a4,m4,n4,rfl⟩:=mg.is;(try go_wp2_with fail));
          (refine hK.out _ _ (fun _=>b_) ?_;clear hK K);
          (try simp only[pt]);
          (refine tk 8 61 hS ?_);
          (refine tk 9 62 hS ?_);
          (refine tk 10 63 hS ?_);
          (refine aZ 11 ay ?_ rfl);
          simp only[List.toList_toArray,List.drop_succ_cons,List.drop_zero])
    ((try clear hcb bC bn bA bE);have bg:=pF.out.below hS;obtain⟨hcb,bC,bn,bA,bE⟩:=aD.rules bg.box;have zK:=ah bg;clear bg)
    have H4:=ah mg
    have IC:=aB qI (aA (hb3.trans (hS.mono hb3.size)) (some b))
    have Y9:=ah ((HB.out.below hb3 HB.out.lt).below hS (HB.out.below hb3 HB.out.lt).lt)
    have IQ:=ah (fun(B:Nat) (hB:B<w6.heap.size) (h:Apart B s.Pi k.Pi)=>hr4.apart (HS.out B hB h) (B:=B) FY)
    exact aiS
   ·obtain⟨hcb,bC,bn,bA,bE⟩:=aD.rules HK.out.box
    have QH:=uw (q2.p3,q2.b3)
    have hix:∀W:World,(Instr.index 122 (.agg #[.int .i64 q2.p0,.bool q2.b0,.int .i64 q2.p1,.bool q2.b1,.int .i64 q2.p2,.bool q2.b2,.int .i64 q2.p3,.bool q2.b3]) (.int .i64 3)).run Tryz.prog W=.ok (qd (q2.p3,q2.b3)) W:=fun _=>by kernel_rfl
    go_wp2_with(first|((with_reducible refine bS 121 ?_);(refine aU rfl 121 _ _ rfl ((qd (q2.p3,q2.b3)).cells) yE (QH) aF ?_ ?_ ?_;(exact aM);(exact aM)))|fail)
    generalize bR:World.alloc _ _=w3
    have KD:=ah (show aD w3 wr.heap.size (qd (q2.p3,q2.b3)).cells 121 from by rw[←bR];exact aD.new _ _ _)
    have hb3:Below wr.heap.size wr w3:=yZ
    clear bR
    ((try clear hcb bC bn bA bE);have bg:=HK.out.below hb3;obtain⟨hcb,bC,bn,bA,bE⟩:=aD.rules bg.box;have pF:=ah bg;clear bg)
    ((try clear hcd zy wY yQ zx);have bx0:=KD.out;obtain⟨hcd,zy,wY,yQ,zx⟩:=aD.rules bx0;have Un:=ah bx0;clear bx0)
    have hgs:=qI.size
    have hpi:=hk.Pi
    have GV:=ah pF.out.kr.pi
    have hfw:qK q2.p3:=L8.out.p3
    ((refine aY (fun W=>Below w3.heap.size w3 W) (fun i=>decide (i<11)) ay ?_);
          have hS:Below w3.heap.size w3 w3.drew:=(Below.refl _ _).drew;
          (refine tk 0 53 hS ?_);
          (refine tk 1 54 hS ?_);
          (refine tk 2 55 hS ?_);
          (refine tk 3 56 hS ?_);
          (refine tk 4 57 hS ?_);
          (refine tk 5 58 hS ?_ (hy:=Or.inl ⟨aF,rM⟩));
          (refine tk 6 59 hS ?_ (hy:=Or.inl ⟨aF,rM⟩));
          (refine aJ 7 (oi:=⟨some 60,_,_,_,_,_⟩) rfl ay rfl (fun K hK=>?_));
          (go_simp;(with_reducible refine(Pipe.oJ _ (G9 k.Pi q2 3) q2.p3 q2.b3 (1) _ (pF.out.kr.Pi.below hS) GV.out OW hfw).mono ?_);rintro en w4 ⟨v4,rfl,mg,hr4,hb4⟩;have hS:=hS.trans (Below.mono hb4 hS.size);obtain⟨a4,m4,n4,rfl⟩:=mg.is;(try go_wp2_with fail));
          (refine hK.out _ _ (fun _=>b_) ?_;clear hK K);
          (try simp only[pt]);
          (refine tk 8 61 hS ?_);
          (refine tk 9 62 hS ?_);
          (refine tk 10 63 hS ?_);
          (refine aZ 11 ay ?_ rfl);
          simp only[List.toList_toArray,List.drop_succ_cons,List.drop_zero])
    ((try clear hcb bC bn bA bE);have bg:=pF.out.below hS;obtain⟨hcb,bC,bn,bA,bE⟩:=aD.rules bg.box;have zK:=ah bg;clear bg)
    have H4:=ah mg
    have IC:=aB qI (aA (hb3.trans (hS.mono hb3.size)) (some b))
    have Y9:=ah ((HB.out.below hb3 HB.out.lt).below hS (HB.out.below hb3 HB.out.lt).lt)
    have IQ:=ah (fun(B:Nat) (hB:B<w6.heap.size) (h:Apart B s.Pi k.Pi)=>hr4.apart (HS.out B hB h) (B:=B) FY)
    exact aiR
  ·obtain rfl:i=4:=by omega
   obtain⟨hcb,bC,bn,bA,bE⟩:=aD.rules HK.out.box
   ((try clear fF h_ gF gQ g_);have bx0:=HB.out;obtain⟨fF,h_,gF,gQ,g_⟩:=aD.rules bx0;have Ao:=ah bx0;clear bx0)
   have hgs:=qI.size
   have hPl:Sl wr true 26 (.slice aP k.P.length cP) (aT.rH k.P):=by have:=HK.out.kr.P;rwa[show({s with Pi:= .slice a0 m0 n0,H:= .slice ao m4 n4}:Ks).P=s.P from rfl,Xw] at this
   have HPL:=ah hPl
   clear hPl
   go_wp2_with fail
   ((refine aY (fun W=>Below wr.heap.size wr W) (fun i=>decide (i<20)&&i !=1) ay ?_);
          have hS:Below wr.heap.size wr wr.drew:=(Below.refl _ _).drew;
          (refine bV 1 (oi:=⟨some 66,_,_,_,_,_⟩) (v:=?_) rfl ay om (Or.inl ⟨aF,?_⟩) ?_;rotate_left;focus(intro W hW;go_simp;(all_goals with_reducible rfl)));
          (try simp only[pt]);
          (refine tk 0 65 hS ?_);
          (refine tk 2 67 hS ?_);
          (refine tk 3 68 hS ?_);
          (refine tk 4 69 hS ?_);
          (refine tk 5 70 hS ?_);
          (refine tk 6 71 hS ?_ (hy:=Or.inl ⟨aF,qB⟩));
          (refine bL 7 (oi:=⟨some 72,_,_,_,_,_⟩) rfl ay om hS (dh 126 _ rfl (iA pn par 1 q2) aT.bf (qY _ _ _ _) aF bG (fun W hs=>Ao.out.below hs Ao.out.lt)) ?_);
          (try simp only[pt]);
          (refine tk 9 74 hS ?_);
          (refine tk 10 75 hS ?_);
          (refine tk 11 76 hS ?_);
          (refine tk 12 77 hS ?_);
          (refine tk 13 78 hS ?_ (hy:=Or.inl ⟨aF,qB⟩));
          (refine tk 14 79 hS ?_);
          (refine tk 15 80 hS ?_ (hy:=Or.inl ⟨aF,qB⟩));
          (refine aJ 8 (oi:=⟨some 73,_,_,_,_,_⟩) rfl ay rfl (fun K hK=>?_));
          (go_simp;(with_reducible refine(F8 _ k.P pn par 1 q2 L8.out _ (HPL.out.below hS) hk.P).mono ?_);rintro en w7 ⟨v7,rfl,hs7,pE⟩;have hS:=hS.trans (Below.mono pE hS.size);obtain⟨a7,m7,n7,rfl⟩:=hs7.is;(try go_wp2_with fail));
          (refine hK.out _ _ (fun _=>b_) ?_;clear hK K);
          (try simp only[pt]);
          (refine aJ 16 (oi:=⟨some 81,_,_,_,_,_⟩) rfl ay rfl (fun K hK=>?_));
          (go_simp;(with_reducible refine(ji.P5 s.L k.L k.left pn _ (HK.out.kr.L.below hS) U9).mono ?_);rintro en w8 ⟨v8,rfl,GN,Ue,ku⟩;have hS:=hS.trans (Below.mono ku hS.size);obtain⟨a8,m8,n8,rfl⟩:=GN.is;have hs7:=hs7.below ku;have ha8:=Ue.apart HW.out.aL ahL;(have zM:∀B,B<w.heap.size→Apart B s.L (ints k.L)→Apart B _ _:=fun B hB h=>Ue.apart h ahL);(try go_wp2_with fail));
          (refine hK.out _ _ (fun _=>b_) ?_;clear hK K);
          (try simp only[pt]);
          (refine tk 17 82 hS ?_);
          (refine tk 18 83 hS ?_);
          (refine tk 19 84 hS ?_);
          (refine aZ 20 ay ?_ rfl);
          simp only[List.toList_toArray,List.drop_succ_cons,List.drop_zero])
   ((try clear hcb bC bn bA bE);have bg:=HK.out.below hS;obtain⟨hcb,bC,bn,bA,bE⟩:=aD.rules bg.box;have UF:=ah bg;clear bg)
   ((try clear fF h_ gF gQ g_);have bx0:=Ao.out.below hS Ao.out.lt;obtain⟨fF,h_,gF,gQ,g_⟩:=aD.rules bx0;have QE:=ah bx0;clear bx0)
   have HG:=ah (aB (aB (aA jK (some b)) A8) (aB qI (aA hS (some b))))
   have H7:=ah hs7
   have H8:=ah GN
   have HA8:=ah ha8
   have arp:=ah zM
   have hne:¬w.heap.size=b:=aj
   clear hs7 GN ha8 Ue zM
   go_wp2_with fail
   have hw9:=(UF.out.C8 H7.out).Dw (H8.out.bO (aO _ _ _ _) HA8.out) HA8.out
   have hcu:G9 k.Pi q 4=G9 k.Pi q2 4:=by rw[HE2.out];rfl
   rw[hcu] at hr
   subst hr
   exact bodyPost_ret (v:= .tuple #[.int .u32 (pn%4294967296),.int .i64 0]) Vp rfl ⟨rfl,⟨_,hw9.set_left _,fun B hB _ h=>⟨arp.out B hB h.1,HST.out B aj h.2.1,h.2.2.1,h.2.2.2.1,h.2.2.2.2.1,HS.out B aj h.2.2.2.2.2⟩⟩,aB HG.out (aB (aO _ _ _ _) (aB (aO _ _ _ _) (aO _ _ _ _)))⟩
end Go.Proofs.YtgmodehldmahiaaGreatDoor
