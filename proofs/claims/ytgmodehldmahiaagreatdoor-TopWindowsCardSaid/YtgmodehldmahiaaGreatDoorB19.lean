/- Part 19 of 53 of the proof of topAlone_and_topApart. Conditions: see each. -/
import Derived.Test.YtgmodehldmahiaaGreatDoorB14
import Derived.Test.YtgmodehldmahiaaGreatDoorB18
import Derived.Test.YtgmodehldmahiaaGreatDoorB10
set_option linter.unusedVariables false
set_option linter.unusedSimpArgs false
set_option maxRecDepth 8192
set_option maxHeartbeats 40000000
namespace Go.Proofs.YtgmodehldmahiaaGreatDoor
open Go Go.RowKit Go.Tm
attribute [local go_sem] fO fM fK d_ dM dZ dY dX dW dV dU dS dR dQ dP dO dN iQ iP iO iN iM iL iK iG iJ iI fU fT fQ fP fI fH fC
def xH(q:Pf):Pf:={q with p0:=0,b0:=false,p1:=0,b1:=false,p2:=0,b2:=false,p3:=0,b3:=false}
def Di(l:List Value)(q:Pf):Nat→List Value
 |0=>l
 |i+1=>Pipe.rW (Di l q i) (lJ q i).1 (lJ q i).2 (-1)
noncomputable def qV(k:Kn)(pid code gone:Int):Kn:=
 if pid=1 then{k with P:=[],L:=[],left:=0,S:=[],Pi:=[],H:=[],gone:=wrap64 (1+gone)} else
  let p:=(aT.bK k.P pid).1
  let q:=xH (pq p)
  let k1:={k with Pi:=Di k.Pi (pq p) 4,H:=Heap.iX k.H pid,L:=(ji.iX k.L k.left pid).1,left:=(ji.iX k.L k.left pid).2,S:=Sleep.iX k.S pid,P:=aT.nX k.P pid 1}
  let f:=aT.bK k1.P p.par
  if f.2=false∨f.1.st=4 then{k1 with P:=aT.Aq k1.P pid} else{k1 with P:=aT.oF k1.P (BH p.pid p.par 4 {q with code:=code})}
theorem afm(b:Nat)(s:Ks)(k:Kn)(code gone:Int)(w:World)(hw:KW w b s k):
  Calls Tryz.prog 116 #[.pointer (some ⟨b,0,none⟩),.int .i64 1,.int .i64 code,.int .i64 gone] w fun en w'=>en=.returned (.tuple #[])∧KS w b s k w' (qV k 1 code gone)∧w.grownBy w' (some b):=by
 have HW:=ah hw
 have hlt:=hw.lt
 have yg:=Below.refl w.heap.size w
 ((try clear hcb bC bn bA bE);have bg:=HW.out.below yg;obtain⟨hcb,bC,bn,bA,bE⟩:=aD.rules bg.box;have lG:=ah bg;clear bg)
 clear hw yg
 go_enter Tryz.func116,Tryz.ntmps116
 go_wp2_with fail
 have n0:∀(W:World) (ag:Bool) (n:Nat),Sl W ag n (.slice none 0 0) []:=fun W ag n=>Sl.nil W ag n
 have h1:=(HW.out.C8 (v:= .slice none 0 0) (l:=[]) (n0 w true 26))
 have h2:=(h1.Dw (v:= .slice none 0 0) (l:=[]) (n0 _ false 1) (.inl rfl)).set_left 0
 have h3:=h2.xk (v:= .slice none 0 0) (l:=[]) (n0 _ true 2)
 have h4:=h3.I5 (v:= .slice none 0 0) (l:=[]) (n0 _ true 3) Jf
 have h5:=(h4.XR (v:= .slice none 0 0) (l:=[]) (n0 _ true 3)).JO (wrap64 (1+gone))
 have hk:qV k 1 code gone={k with P:=[],L:=[],left:=0,S:=[],Pi:=[],H:=[],gone:=wrap64 (1+gone)}:=by unfold qV;rw[if_pos rfl]
 rw[hk]
 have hs:lN w b s k {s with P:= .slice none 0 0,L:= .slice none 0 0,S:= .slice none 0 0,Pi:= .slice none 0 0,H:= .slice none 0 0} {k with P:=[],L:=[],left:=0,S:=[],Pi:=[],H:=[],gone:=wrap64 (1+gone)}:=
  fun B hB _ h=>⟨.inl rfl,.inl rfl,h.2.2.1,h.2.2.2.1,⟨h.2.2.2.2.1.1,h.2.2.2.2.1.2.1,.inl rfl⟩,.inl rfl⟩
 exact bodyPost_ret (v:= .tuple #[]) Vt rfl ⟨rfl,⟨_,h5,hs⟩,aB (aB (aB (aB (aB (aB (aO _ _ _ _) (aO _ _ _ _)) (aO _ _ _ _)) (aO _ _ _ _)) (aO _ _ _ _)) (aO _ _ _ _)) (aO _ _ _ _)⟩
theorem J5(l:List Value)(q:Pf):∀i,(Di l q i).length=l.length
 |0=>rfl
 |i+1=>by rw[Di,Pipe.CG,J5 l q i]
theorem abb(b:Nat)(s:Ks)(k:Kn)(pid code gone:Int)(w:World)(hw:KW w b s k)(hk:Fit k)(hp:pid≠1)(hc:qK code):
  Calls Tryz.prog 116 #[.pointer (some ⟨b,0,none⟩),.int .i64 pid,.int .i64 code,.int .i64 gone] w fun en w'=>en=.returned (.tuple #[])∧KS w b s k w' (qV k pid code gone)∧w.grownBy w' (some b):=by
 have HW:=ah hw
 have hlt:=hw.lt
 have hpb:(pid==1)=false:=Ja
 have HF:=ah (fun(W:World) (h:Below w.heap.size w W)=>aT.n_ s.P k.P pid W (hw.kr.P.below h))
 obtain⟨aP,mP,nP,Xw⟩:=hw.kr.P.is
 rw[Xw] at HF
 obtain⟨y,hy⟩:∃y,y=qV k pid code gone:=⟨_,rfl⟩
 rw[←hy]
 unfold qV at hy
 rw[if_neg hp] at hy
 dsimp only at hy
 generalize aT.bK k.P pid=fs at*
 obtain⟨p,ok⟩:=fs
 dsimp only at hy HF
 rw[show aT.jQ p=.agg (iA p.pid p.par p.st (pq p)) from congrArg Value.agg (wM p)] at HF
 have hq:=jR p
 generalize pq p=q at*
 generalize p.pid=Oi at*
 generalize p.par=par at*
 generalize p.st=st at*
 have HQ:=ah hq
 have HY:=ah hy
 have ug:=qY Oi par st q
 have yg:=Below.refl w.heap.size w
 ((try clear hcb bC bn bA bE);have bg:=HW.out.below yg;obtain⟨hcb,bC,bn,bA,bE⟩:=aD.rules bg.box;have lG:=ah bg;clear bg)
 clear hw hy hq
 go_enter Tryz.func116,Tryz.ntmps116
 go_wp2_with fail
 with_reducible refine(HF.out _ aG).mono ?_
 rintro en w1 ⟨rfl,hb1⟩
 ((try clear hcb bC bn bA bE);have bg:=HW.out.below hb1;obtain⟨hcb,bC,bn,bA,bE⟩:=aD.rules bg.box;have qA:=ah bg;clear bg)
 have A9:=ah (aD.new w1 (iA Oi par st q) 126)
 obtain⟨fF,h_,gF,gQ,g_⟩:=aD.rules A9.out
 clear lG yg
 go_wp2_with(first|((with_reducible refine bS 126 ?_);(refine aU rfl 126 _ _ rfl (iA Oi par st q) aT.bf (ug) aF ?_ ?_ ?_;(exact aM);(exact aM)))|fail)
 generalize bR:World.alloc _ _=w2
 have CV:=ah (show aD w2 w1.heap.size (iA Oi par st q) 126 from bR▸A9.out)
 have f_:Below w1.heap.size w1 w2:=bN
 have bW:=hb1
 have bM:=bW.trans (f_.mono bW.size)
 have hz2:w2.heap.size=w1.heap.size+1:=bX
 have hz1:=bW.size
 ((try clear hcb bC bn bA bE);have bg:=qA.out.below f_;obtain⟨hcb,bC,bn,bA,bE⟩:=aD.rules bg.box;have tC:=ah bg;clear bg)
 ((try clear fF h_ gF gQ g_);have bx0:=CV.out;obtain⟨fF,h_,gF,gQ,g_⟩:=aD.rules bx0;have BL:=ah bx0;clear bx0)
 clear bR A9 qA
 go_loopw [56] (fun t W=>∃(i:Nat) (a:Option Addr) (m n:Nat),i≤4∧t=.int .i64 i∧KW W b {s with Pi:= .slice a m n} {k with Pi:=Di k.Pi q i}∧(∀B,B<w2.heap.size→Apart B s.Pi k.Pi→Apart B (.slice a m n) (Di k.Pi q i))∧aD W w1.heap.size (iA Oi par st q) 126∧w2.grownBy W (some b)) (fun t _=>4-(intOf t).toNat)
 case atStart=>
  obtain⟨a0,m0,n0,hv0⟩:=tC.out.kr.Pi.is
  refine⟨0,a0,m0,n0,aj,rfl,?_,?_,BL.out,r9 _ _⟩
  ·rw[←hv0];exact tC.out
  ·rw[←hv0];exact fun _ _ h=>h
 case round=>
  obtain⟨i,a0,m0,n0,hi,rfl,hkw,hst,hbp,qI⟩:=hrel
  have HK:=ah hkw
  have HB:=ah hbp
  have HS:=ah hst
  clear hkw hbp hst
  by_cases apU:i<4
  ·have h4:i=0∨i=1∨i=2∨i=3:=by omega
   rcases h4 with rfl|rfl|rfl|rfl
   ·obtain⟨hcb,bC,bn,bA,bE⟩:=aD.rules HK.out.box
    have QH:=uw (q.p0,q.b0)
    have hix:∀W:World,(Instr.index 122 (.agg #[.int .i64 q.p0,.bool q.b0,.int .i64 q.p1,.bool q.b1,.int .i64 q.p2,.bool q.b2,.int .i64 q.p3,.bool q.b3]) (.int .i64 0)).run Tryz.prog W=.ok (qd (q.p0,q.b0)) W:=fun _=>by kernel_rfl
    go_wp2_with(first|((with_reducible refine bS 121 ?_);(refine aU rfl 121 _ _ rfl ((qd (q.p0,q.b0)).cells) yE (QH) aF ?_ ?_ ?_;(exact aM);(exact aM)))|fail)
    generalize bR:World.alloc _ _=w3
    have KD:=ah (show aD w3 wr.heap.size (qd (q.p0,q.b0)).cells 121 from by rw[←bR];exact aD.new _ _ _)
    have hb3:Below wr.heap.size wr w3:=yZ
    clear bR
    ((try clear hcb bC bn bA bE);have bg:=HK.out.below hb3;obtain⟨hcb,bC,bn,bA,bE⟩:=aD.rules bg.box;have pF:=ah bg;clear bg)
    ((try clear hcd zy wY yQ zx);have bx0:=KD.out;obtain⟨hcd,zy,wY,yQ,zx⟩:=aD.rules bx0;have Un:=ah bx0;clear bx0)
    have hgs:=qI.size
    have hpi:=hk.Pi
    have GV:=ah pF.out.kr.pi
    have hfw:qK q.p0:=HQ.out.p0
    ((refine aY (fun W=>Below w3.heap.size w3 W) (fun i=>decide (i<11)) ay ?_);
          have hS:Below w3.heap.size w3 w3.drew:=(Below.refl _ _).drew;
          (refine tk 0 59 hS ?_);
          (refine tk 1 60 hS ?_);
          (refine tk 2 61 hS ?_);
          (refine tk 3 62 hS ?_);
          (refine tk 4 63 hS ?_);
          (refine tk 5 64 hS ?_ (hy:=Or.inl ⟨aF,rM⟩));
          (refine tk 6 65 hS ?_ (hy:=Or.inl ⟨aF,rM⟩));
          (refine aJ 7 (oi:=⟨some 66,_,_,_,_,_⟩) rfl ay rfl (fun K hK=>?_));
          (go_simp;(with_reducible refine(Pipe.oJ _ (Di k.Pi q 0) q.p0 q.b0 (-1) _ (pF.out.kr.Pi.below hS) GV.out OX hfw).mono ?_);rintro en w4 ⟨v4,rfl,mg,hr4,hb4⟩;have hS:=hS.trans (Below.mono hb4 hS.size);obtain⟨a4,m4,n4,rfl⟩:=mg.is;(try go_wp2_with fail));
          (refine hK.out _ _ (fun _=>b_) ?_;clear hK K);
          (try simp only[pt]);
          (refine tk 8 67 hS ?_);
          (refine tk 9 68 hS ?_);
          (refine tk 10 69 hS ?_);
          (refine aZ 11 ay ?_ rfl);
          simp only[List.toList_toArray,List.drop_succ_cons,List.drop_zero])
    ((try clear hcb bC bn bA bE);have bg:=pF.out.below hS;obtain⟨hcb,bC,bn,bA,bE⟩:=aD.rules bg.box;have zK:=ah bg;clear bg)
    have H4:=ah mg
    have IC:=aB qI (aA (hb3.trans (hS.mono hb3.size)) (some b))
    have Y9:=ah ((HB.out.below hb3 HB.out.lt).below hS (HB.out.below hb3 HB.out.lt).lt)
    have IQ:=ah (fun(B:Nat) (hB:B<w2.heap.size) (h:Apart B s.Pi k.Pi)=>hr4.apart (HS.out B hB h) (B:=B) FY)
    exact aiU
   ·obtain⟨hcb,bC,bn,bA,bE⟩:=aD.rules HK.out.box
    have QH:=uw (q.p1,q.b1)
    have hix:∀W:World,(Instr.index 122 (.agg #[.int .i64 q.p0,.bool q.b0,.int .i64 q.p1,.bool q.b1,.int .i64 q.p2,.bool q.b2,.int .i64 q.p3,.bool q.b3]) (.int .i64 1)).run Tryz.prog W=.ok (qd (q.p1,q.b1)) W:=fun _=>by kernel_rfl
    go_wp2_with(first|((with_reducible refine bS 121 ?_);(refine aU rfl 121 _ _ rfl ((qd (q.p1,q.b1)).cells) yE (QH) aF ?_ ?_ ?_;(exact aM);(exact aM)))|fail)
    generalize bR:World.alloc _ _=w3
    have KD:=ah (show aD w3 wr.heap.size (qd (q.p1,q.b1)).cells 121 from by rw[←bR];exact aD.new _ _ _)
    have hb3:Below wr.heap.size wr w3:=yZ
    clear bR
    ((try clear hcb bC bn bA bE);have bg:=HK.out.below hb3;obtain⟨hcb,bC,bn,bA,bE⟩:=aD.rules bg.box;have pF:=ah bg;clear bg)
    ((try clear hcd zy wY yQ zx);have bx0:=KD.out;obtain⟨hcd,zy,wY,yQ,zx⟩:=aD.rules bx0;have Un:=ah bx0;clear bx0)
    have hgs:=qI.size
    have hpi:=hk.Pi
    have GV:=ah pF.out.kr.pi
    have hfw:qK q.p1:=HQ.out.p1
    ((refine aY (fun W=>Below w3.heap.size w3 W) (fun i=>decide (i<11)) ay ?_);
          have hS:Below w3.heap.size w3 w3.drew:=(Below.refl _ _).drew;
          (refine tk 0 59 hS ?_);
          (refine tk 1 60 hS ?_);
          (refine tk 2 61 hS ?_);
          (refine tk 3 62 hS ?_);
          (refine tk 4 63 hS ?_);
          (refine tk 5 64 hS ?_ (hy:=Or.inl ⟨aF,rM⟩));
          (refine tk 6 65 hS ?_ (hy:=Or.inl ⟨aF,rM⟩));
          (refine aJ 7 (oi:=⟨some 66,_,_,_,_,_⟩) rfl ay rfl (fun K hK=>?_));
          (go_simp;(with_reducible refine(Pipe.oJ _ (Di k.Pi q 1) q.p1 q.b1 (-1) _ (pF.out.kr.Pi.below hS) GV.out OX hfw).mono ?_);rintro en w4 ⟨v4,rfl,mg,hr4,hb4⟩;have hS:=hS.trans (Below.mono hb4 hS.size);obtain⟨a4,m4,n4,rfl⟩:=mg.is;(try go_wp2_with fail));
          (refine hK.out _ _ (fun _=>b_) ?_;clear hK K);
          (try simp only[pt]);
          (refine tk 8 67 hS ?_);
          (refine tk 9 68 hS ?_);
          (refine tk 10 69 hS ?_);
          (refine aZ 11 ay ?_ rfl);
          simp only[List.toList_toArray,List.drop_succ_cons,List.drop_zero])
    ((try clear hcb bC bn bA bE);have bg:=pF.out.below hS;obtain⟨hcb,bC,bn,bA,bE⟩:=aD.rules bg.box;have zK:=ah bg;clear bg)
    have H4:=ah mg
    have IC:=aB qI (aA (hb3.trans (hS.mono hb3.size)) (some b))
    have Y9:=ah ((HB.out.below hb3 HB.out.lt).below hS (HB.out.below hb3 HB.out.lt).lt)
    have IQ:=ah (fun(B:Nat) (hB:B<w2.heap.size) (h:Apart B s.Pi k.Pi)=>hr4.apart (HS.out B hB h) (B:=B) FY)
    exact aiT
   ·obtain⟨hcb,bC,bn,bA,bE⟩:=aD.rules HK.out.box
    have QH:=uw (q.p2,q.b2)
    have hix:∀W:World,(Instr.index 122 (.agg #[.int .i64 q.p0,.bool q.b0,.int .i64 q.p1,.bool q.b1,.int .i64 q.p2,.bool q.b2,.int .i64 q.p3,.bool q.b3]) (.int .i64 2)).run Tryz.prog W=.ok (qd (q.p2,q.b2)) W:=fun _=>by kernel_rfl
    go_wp2_with(first|((with_reducible refine bS 121 ?_);(refine aU rfl 121 _ _ rfl ((qd (q.p2,q.b2)).cells) yE (QH) aF ?_ ?_ ?_;(exact aM);(exact aM)))|fail)
    generalize bR:World.alloc _ _=w3
    have KD:=ah (show aD w3 wr.heap.size (qd (q.p2,q.b2)).cells 121 from by rw[←bR];exact aD.new _ _ _)
    have hb3:Below wr.heap.size wr w3:=yZ
    clear bR
    ((try clear hcb bC bn bA bE);have bg:=HK.out.below hb3;obtain⟨hcb,bC,bn,bA,bE⟩:=aD.rules bg.box;have pF:=ah bg;clear bg)
    ((try clear hcd zy wY yQ zx);have bx0:=KD.out;obtain⟨hcd,zy,wY,yQ,zx⟩:=aD.rules bx0;have Un:=ah bx0;clear bx0)
    have hgs:=qI.size
    have hpi:=hk.Pi
    have GV:=ah pF.out.kr.pi
    have hfw:qK q.p2:=HQ.out.p2
    ((refine aY (fun W=>Below w3.heap.size w3 W) (fun i=>decide (i<11)) ay ?_);
          have hS:Below w3.heap.size w3 w3.drew:=(Below.refl _ _).drew;
          (refine tk 0 59 hS ?_);
          (refine tk 1 60 hS ?_);
          (refine tk 2 61 hS ?_);
          (refine tk 3 62 hS ?_);
          (refine tk 4 63 hS ?_);
          (refine tk 5 64 hS ?_ (hy:=Or.inl ⟨aF,rM⟩));
          (refine tk 6 65 hS ?_ (hy:=Or.inl ⟨aF,rM⟩));
          (refine aJ 7 (oi:=⟨some 66,_,_,_,_,_⟩) rfl ay rfl (fun K hK=>?_));
          (go_simp;(with_reducible refine(Pipe.oJ _ (Di k.Pi q 2) q.p2 q.b2 (-1) _ (pF.out.kr.Pi.below hS) GV.out OX hfw).mono ?_);rintro en w4 ⟨v4,rfl,mg,hr4,hb4⟩;have hS:=hS.trans (Below.mono hb4 hS.size);obtain⟨a4,m4,n4,rfl⟩:=mg.is;(try go_wp2_with fail));
          (refine hK.out _ _ (fun _=>b_) ?_;clear hK K);
          (try simp only[pt]);
          (refine tk 8 67 hS ?_);
          (refine tk 9 68 hS ?_);
          (refine tk 10 69 hS ?_);
          (refine aZ 11 ay ?_ rfl);
          simp only[List.toList_toArray,List.drop_succ_cons,List.drop_zero])
    ((try clear hcb bC bn bA bE);have bg:=pF.out.below hS;obtain⟨hcb,bC,bn,bA,bE⟩:=aD.rules bg.box;have zK:=ah bg;clear bg)
    have H4:=ah mg
    have IC:=aB qI (aA (hb3.trans (hS.mono hb3.size)) (some b))
    have Y9:=ah ((HB.out.below hb3 HB.out.lt).below hS (HB.out.below hb3 HB.out.lt).lt)
    have IQ:=ah (fun(B:Nat) (hB:B<w2.heap.size) (h:Apart B s.Pi k.Pi)=>hr4.apart (HS.out B hB h) (B:=B) FY)
    exact aiS
   ·obtain⟨hcb,bC,bn,bA,bE⟩:=aD.rules HK.out.box
    have QH:=uw (q.p3,q.b3)
    have hix:∀W:World,(Instr.index 122 (.agg #[.int .i64 q.p0,.bool q.b0,.int .i64 q.p1,.bool q.b1,.int .i64 q.p2,.bool q.b2,.int .i64 q.p3,.bool q.b3]) (.int .i64 3)).run Tryz.prog W=.ok (qd (q.p3,q.b3)) W:=fun _=>by kernel_rfl
    go_wp2_with(first|((with_reducible refine bS 121 ?_);(refine aU rfl 121 _ _ rfl ((qd (q.p3,q.b3)).cells) yE (QH) aF ?_ ?_ ?_;(exact aM);(exact aM)))|fail)
    generalize bR:World.alloc _ _=w3
    have KD:=ah (show aD w3 wr.heap.size (qd (q.p3,q.b3)).cells 121 from by rw[←bR];exact aD.new _ _ _)
    have hb3:Below wr.heap.size wr w3:=yZ
    clear bR
    ((try clear hcb bC bn bA bE);have bg:=HK.out.below hb3;obtain⟨hcb,bC,bn,bA,bE⟩:=aD.rules bg.box;have pF:=ah bg;clear bg)
    ((try clear hcd zy wY yQ zx);have bx0:=KD.out;obtain⟨hcd,zy,wY,yQ,zx⟩:=aD.rules bx0;have Un:=ah bx0;clear bx0)
    have hgs:=qI.size
    have hpi:=hk.Pi
    have GV:=ah pF.out.kr.pi
    have hfw:qK q.p3:=HQ.out.p3
    ((refine aY (fun W=>Below w3.heap.size w3 W) (fun i=>decide (i<11)) ay ?_);
          have hS:Below w3.heap.size w3 w3.drew:=(Below.refl _ _).drew;
          (refine tk 0 59 hS ?_);
          (refine tk 1 60 hS ?_);
          (refine tk 2 61 hS ?_);
          (refine tk 3 62 hS ?_);
          (refine tk 4 63 hS ?_);
          (refine tk 5 64 hS ?_ (hy:=Or.inl ⟨aF,rM⟩));
          (refine tk 6 65 hS ?_ (hy:=Or.inl ⟨aF,rM⟩));
          (refine aJ 7 (oi:=⟨some 66,_,_,_,_,_⟩) rfl ay rfl (fun K hK=>?_));
          (go_simp;(with_reducible refine(Pipe.oJ _ (Di k.Pi q 3) q.p3 q.b3 (-1) _ (pF.out.kr.Pi.below hS) GV.out OX hfw).mono ?_);rintro en w4 ⟨v4,rfl,mg,hr4,hb4⟩;have hS:=hS.trans (Below.mono hb4 hS.size);obtain⟨a4,m4,n4,rfl⟩:=mg.is;(try go_wp2_with fail));
          (refine hK.out _ _ (fun _=>b_) ?_;clear hK K);
          (try simp only[pt]);
          (refine tk 8 67 hS ?_);
          (refine tk 9 68 hS ?_);
          (refine tk 10 69 hS ?_);
          (refine aZ 11 ay ?_ rfl);
          simp only[List.toList_toArray,List.drop_succ_cons,List.drop_zero])
    ((try clear hcb bC bn bA bE);have bg:=pF.out.below hS;obtain⟨hcb,bC,bn,bA,bE⟩:=aD.rules bg.box;have zK:=ah bg;clear bg)
    have H4:=ah mg
    have IC:=aB qI (aA (hb3.trans (hS.mono hb3.size)) (some b))
    have Y9:=ah ((HB.out.below hb3 HB.out.lt).below hS (HB.out.below hb3 HB.out.lt).lt)
    have IQ:=ah (fun(B:Nat) (hB:B<w2.heap.size) (h:Apart B s.Pi k.Pi)=>hr4.apart (HS.out B hB h) (B:=B) FY)
    exact aiR
  ·obtain rfl:i=4:=by omega
   obtain⟨hcb,bC,bn,bA,bE⟩:=aD.rules HK.out.box
   ((try clear fF h_ gF gQ g_);have bx0:=HB.out;obtain⟨fF,h_,gF,gQ,g_⟩:=aD.rules bx0;have Ao:=ah bx0;clear bx0)
   go_wp2_with fail
   have U0:=HW.out.kr.away hz1
   have Uz:=show jF w1.heap.size {s with Pi:= .slice a0 m0 n0} {k with Pi:=Di k.Pi q 4} from⟨U0.1,U0.2.1,U0.2.2.1,U0.2.2.2.1,U0.2.2.2.2.1,HS.out _ aj U0.2.2.2.2.2⟩
   have haP:=HW.out.kr.P.apart hz1
   generalize bR:World.setCell _ _ _=w5
   have LH:aD w5 w1.heap.size (iA Oi par st (xH q)) 126:=by
    rw[←bR]
    exact((((((((Ao.out.set 14 _).set 15 _).set 16 _).set 17 _).set 18 _).set 19 _).set 20 _).set 21 _).cast (by simp only[Yu,Yt,Yr,Yq,Yp,Yo,Yn,Ym];rfl)
   have nK:wr.grownBy w5 (some w1.heap.size):=by
    rw[←bR]
    exact aB (aB (aB (aB (aB (aB (aB (aO _ _ _ _) (aO _ _ _ _)) (aO _ _ _ _)) (aO _ _ _ _)) (aO _ _ _ _)) (aO _ _ _ _)) (aO _ _ _ _)) (aO _ _ _ _)
   clear bR
   have Uc:=HK.out.ad1 Uz haP aj (Ao.out.cast (F9 HQ.out).symm) nK
   have sN:=ah Uc
   have UK:=ah Uz
   have HQ5:Hid (Pf.Ok (xH q)):=ah {HQ.out with p0:=rfl,p1:=rfl,p2:=rfl,p3:=rfl}
   have Ez:=ah LH
   clear Uc Uz U0 LH
   obtain⟨hcb,bC,bn,bA,bE⟩:=aD.rules sN.out.box
   ((try clear fF h_ gF gQ g_);have bx0:=Ez.out;obtain⟨fF,h_,gF,gQ,g_⟩:=aD.rules bx0;have M4:=ah bx0;clear bx0)
   ((refine aY (fun W=>Below w5.heap.size w5 W) (fun i=>decide (i<27)&&i !=1&&i !=2) ay ?_);
          have hS:Below w5.heap.size w5 w5.drew:=(Below.refl _ _).drew;
          (refine bV 1 (oi:=⟨some 74,_,_,_,_,_⟩) (v:=?_) rfl ay om (Or.inl ⟨aF,?_⟩) ?_;rotate_left;focus(intro W hW;go_simp;(all_goals with_reducible rfl)));
          (try simp only[pt]);
          (refine bV 2 (oi:=⟨some 75,_,_,_,_,_⟩) (v:=?_) rfl ay om (Or.inl ⟨aF,?_⟩) ?_;rotate_left;focus(intro W hW;go_simp;(all_goals with_reducible rfl)));
          (try simp only[pt]);
          (refine tk 0 73 hS ?_);
          (refine tk 3 76 hS ?_);
          (refine tk 4 77 hS ?_);
          (refine tk 5 78 hS ?_);
          (refine tk 6 79 hS ?_);
          (refine tk 7 80 hS ?_ (hy:=Or.inl ⟨aF,sQ⟩));
          (refine tk 8 81 hS ?_);
          (refine tk 10 83 hS ?_);
          (refine tk 11 84 hS ?_);
          (refine tk 12 85 hS ?_);
          (refine tk 13 86 hS ?_);
          (refine tk 14 87 hS ?_ (hy:=Or.inl ⟨aF,sQ⟩));
          (refine tk 15 88 hS ?_);
          (refine tk 17 90 hS ?_);
          (refine tk 18 91 hS ?_);
          (refine tk 19 92 hS ?_);
          (refine tk 20 93 hS ?_);
          (refine tk 21 94 hS ?_ (hy:=Or.inl ⟨aF,sQ⟩));
          (refine tk 22 95 hS ?_);
          (refine aJ 9 (oi:=⟨some 82,_,_,_,_,_⟩) rfl ay rfl (fun K hK=>?_));
          (go_simp;(with_reducible refine(Heap.Ea k.hs _ k.H pid _ (sN.out.kr.H.below hS) (by have:=hk.H;omega)).mono ?_);rintro en w6 ⟨v6,rfl,Ew,hr6,kM⟩;have hS:=hS.trans (Below.mono kM hS.size);obtain⟨a6,m6,n6,rfl⟩:=Ew.is;(try go_wp2_with fail));
          (refine hK.out _ _ (fun _=>b_) ?_;clear hK K);
          (try simp only[pt]);
          (refine aJ 16 (oi:=⟨some 89,_,_,_,_,_⟩) rfl ay rfl (fun K hK=>?_));
          (go_simp;(with_reducible refine(ji.Eb _ k.L k.left pid _ (sN.out.kr.L.below hS) U9).mono ?_);rintro en w7 ⟨v7,rfl,hs7,hr7,pE⟩;have hS:=hS.trans (Below.mono pE hS.size);obtain⟨a7,m7,n7,rfl⟩:=hs7.is;have Ew:=Ew.below pE;(try go_wp2_with fail));
          (refine hK.out _ _ (fun _=>b_) ?_;clear hK K);
          (try simp only[pt]);
          (refine aJ 23 (oi:=⟨some 96,_,_,_,_,_⟩) rfl ay rfl (fun K hK=>?_));
          (go_simp;(with_reducible refine(Sleep.Ea _ k.S pid _ (sN.out.kr.S.below hS) (by have:=hk.S;omega)).mono ?_);rintro en w8 ⟨v8,rfl,GN,Ue,ku⟩;have hS:=hS.trans (Below.mono ku hS.size);obtain⟨a8,m8,n8,rfl⟩:=GN.is;have Ew:=Ew.below ku;have hs7:=hs7.below ku;(try go_wp2_with fail));
          (refine hK.out _ _ (fun _=>b_) ?_;clear hK K);
          (try simp only[pt]);
          (refine tk 24 97 hS ?_);
          (refine tk 25 98 hS ?_);
          (refine tk 26 99 hS ?_);
          (refine aZ 27 ay ?_ rfl);
          simp only[List.toList_toArray,List.drop_succ_cons,List.drop_zero])
   ((try clear hcb bC bn bA bE);have bg:=sN.out.below hS;obtain⟨hcb,bC,bn,bA,bE⟩:=aD.rules bg.box;have UF:=ah bg;clear bg)
   have H6:=ah Ew
   have H7:=ah hs7
   have H8:=ah GN
   have nE:=nK.size
   have hgs:=qI.size
   have HR6:=ah (fun(B:Nat) (hB:B<w2.heap.size) (h:Apart B s.H (Heap.pW k.H))=>hr6.apart h (B:=B) (by simp only[bQ,eG];omega))
   have amD:=fun(B:Nat) (hB:B<w2.heap.size) (h:Apart B s.L (ints k.L))=>hr7.apart h (B:=B) (by have:=Below.size ‹Below w5.heap.size w5 w6›;omega)
   have HR7:=ah amD
   have amC:∀(B:Nat) (hB:B<w2.heap.size),Apart B (.slice a8 m8 n8) (Sleep.sM (Sleep.iX k.S pid)):=fun(B:Nat) (hB:B<w2.heap.size)=> .inr fun c hc=>by have:=Ue c hc;have:=Below.size ‹Below w5.heap.size w5 w7›;omega
   have HR8:=ah amC
   clear Ew hs7 GN hr6 hr7 amD Ue amC
   go_wp2_with fail
   have hbL:Apart b (.slice a7 m7 n7) (ints (ji.iX k.L k.left pid).1):=HR7.out b aj HW.out.aL
   have BI:=UF.out.aoD (ji.iX k.L k.left pid).2 H6.out H7.out hbL H8.out
   generalize bR:World.setCell _ _ _=w9
   rw[bR] at BI
   have amX:w8.grownBy w9 (some b):=by
    rw[←bR]
    exact aB (aB (aB (aB (aO _ _ _ _) (aO _ _ _ _)) (aO _ _ _ _)) (aO _ _ _ _)) (aO _ _ _ _)
   clear bR
   have HAD:=ah (fun W h=>aT.abu s.P k.P pid 1 W h OV)
   have hs9:Sl w9 true 26 s.P (aT.rH k.P):=BI.kr.P
   rw[Xw] at HAD hs9
   have KP9:=ah ((M4.out.below hS M4.out.lt).grown amX aV)
   have FU:=ah BI
   have Zj:=aB (aA hS (some b)) amX
   clear BI
   with_reducible refine(HAD.out _ hs9).mono ?_
   rintro en zw ⟨v10,rfl,abG,Md,uK⟩
   obtain⟨Ep,m10,n10,rfl⟩:=abG.is
   ((try clear hcb bC bn bA bE);have bg:=FU.out.below uK;obtain⟨hcb,bC,bn,bA,bE⟩:=aD.rules bg.box;have ant:=ah bg;clear bg)
   have H10:=ah abG
   have wO:=ah Md
   have OJ:=ah (KP9.out.below uK KP9.out.lt)
   clear hs9 abG Md fF h_ gF gQ g_
   go_wp2_with fail
   have GY:=ant.out.C8 H10.out
   generalize bR:World.setCell _ _ _=rT
   rw[bR] at GY
   have qR:zw.grownBy rT (some b):=qg
   clear bR
   have arl:=ah (OJ.out.grown qR aV)
   have Mh:=ah GY
   have UH:=ah (fun(W:World) (h:Below rT.heap.size rT W)=>aT.n_ _ (aT.nX k.P pid 1) par W (GY.kr.P.below h))
   have hy:=HY.out
   generalize aT.bK (aT.nX k.P pid 1) par=fs at*
   obtain⟨f,fok⟩:=fs
   dsimp only at hy UH
   have hfv:=aT.fG f
   clear GY hcb bC bn bA bE
   obtain⟨hcb,bC,bn,bA,bE⟩:=aD.rules Mh.out.box
   ((try clear fF h_ gF gQ g_);have bx0:=arl.out;obtain⟨fF,h_,gF,gQ,g_⟩:=aD.rules bx0;have anz:=ah bx0;clear bx0)
   have hpz:=aT.jI (aT.kQ 0)
   refine Hy (α:=Nat) (fun q2 W=>aD W q2 (aT.eT f) 126∧Below rT.heap.size rT W∧rT.heap.size≤q2) ?G ?_ ?_
   rotate_left
   ·((refine aY (fun W=>Below rT.heap.size rT W) (fun i=>decide (i<12)&&i !=10) ay ?_);
          have hS:Below rT.heap.size rT rT.drew:=(Below.refl _ _).drew;
          (refine tk 0 118 hS ?_);
          (refine tk 1 119 hS ?_);
          (refine tk 2 120 hS ?_);
          (refine tk 3 121 hS ?_);
          (refine tk 4 122 hS ?_ (hy:=Or.inl ⟨aF,qB⟩));
          (refine tk 5 123 hS ?_);
          (refine tk 6 124 hS ?_ (hy:=Or.inl ⟨aF,qB⟩));
          (refine eX 7 11 (oi:=⟨some 125,_,_,_,_,_⟩) (oj:=⟨some 12,_,_,_,_,_⟩) rfl rfl ay rfl rfl (fun K hK=>?_) (fun K hK=>?_));
          (focus((go_simp;(with_reducible refine(UH.out _ hS).mono ?_);rintro en AX ⟨rfl,II⟩;have hS:=hS.trans (Below.mono II hS.size);(try(have bT:=aD.below bT II bT.lt));(try go_wp2_with fail));(refine hK.out _ _ (fun _=>b_) ?_;clear hK K);(try simp only[pt]);(refine tk 8 117 hS ?_);(try simp only[pt]);(refine bV 10 (oi:=⟨some 127,_,_,_,_,_⟩) (v:=?_) rfl ay om (Or.inl ⟨aF,?_⟩) ?_;rotate_left;focus(intro W hW;go_simp;(all_goals with_reducible rfl)));(try simp only[pt]);(refine tk 9 126 hS ?_);(try simp only[pt]);(refine aJ 11 (oi:=⟨some 12,_,_,_,_,_⟩) rfl ay rfl (fun K hK=>?_));(refine eF 126 rfl (z:=aT.jQ (aT.kQ 0)) ay (aT.eT (aT.kQ 0)) rfl ?_);(refine hidS hK (hS.alloc hS.size _) (fun hS=>?_);clear hK K);(try simp only[pt]);(first|(have bT:=aD.new AX (aT.eT (aT.kQ 0)) 126;have dK:Below AX.heap.size AX (AX.alloc (.cells (aT.eT (aT.kQ 0)) 126)):=(Below.refl _ _).alloc (Nat.le_refl _) _;have gy:rT.heap.size≤AX.heap.size:=ah1;generalize AX.alloc (.cells (aT.eT (aT.kQ 0)) 126)=w5 at hS bT dK⊢;generalize AX.heap.size=qa at bT gy⊢)|(have bT:=aD.new rT.drew (aT.eT (aT.kQ 0)) 126;have dK:Below rT.drew.heap.size rT.drew (rT.drew.alloc (.cells (aT.eT (aT.kQ 0)) 126)):=(Below.refl _ _).alloc (Nat.le_refl _) _;have gy:rT.heap.size≤rT.drew.heap.size:=ah3;generalize rT.drew.alloc (.cells (aT.eT (aT.kQ 0)) 126)=w5 at hS bT dK⊢;generalize rT.drew.heap.size=qa at bT gy⊢));exact ajj));
          (focus((refine eF 126 rfl (z:=aT.jQ (aT.kQ 0)) ay (aT.eT (aT.kQ 0)) rfl ?_);(refine hidS hK (hS.alloc hS.size _) (fun hS=>?_);clear hK K);(try simp only[pt]);(first|(have bT:=aD.new AX (aT.eT (aT.kQ 0)) 126;have dK:Below AX.heap.size AX (AX.alloc (.cells (aT.eT (aT.kQ 0)) 126)):=(Below.refl _ _).alloc (Nat.le_refl _) _;have gy:rT.heap.size≤AX.heap.size:=ah1;generalize AX.alloc (.cells (aT.eT (aT.kQ 0)) 126)=w5 at hS bT dK⊢;generalize AX.heap.size=qa at bT gy⊢)|(have bT:=aD.new rT.drew (aT.eT (aT.kQ 0)) 126;have dK:Below rT.drew.heap.size rT.drew (rT.drew.alloc (.cells (aT.eT (aT.kQ 0)) 126)):=(Below.refl _ _).alloc (Nat.le_refl _) _;have gy:rT.heap.size≤rT.drew.heap.size:=ah3;generalize rT.drew.alloc (.cells (aT.eT (aT.kQ 0)) 126)=w5 at hS bT dK⊢;generalize rT.drew.heap.size=qa at bT gy⊢));(refine aJ 7 (oi:=⟨some 125,_,_,_,_,_⟩) rfl ay rfl (fun K hK=>?_));(go_simp;(with_reducible refine(UH.out _ hS).mono ?_);rintro en AX ⟨rfl,II⟩;have hS:=hS.trans (Below.mono II hS.size);(try(have bT:=aD.below bT II bT.lt));(try go_wp2_with fail));(refine hK.out _ _ (fun _=>b_) ?_;clear hK K);(try simp only[pt]);(refine tk 8 117 hS ?_);(try simp only[pt]);(refine bV 10 (oi:=⟨some 127,_,_,_,_,_⟩) (v:=?_) rfl ay om (Or.inl ⟨aF,?_⟩) ?_;rotate_left;focus(intro W hW;go_simp;(all_goals with_reducible rfl)));(try simp only[pt]);(refine tk 9 126 hS ?_);(try simp only[pt]);exact ajj)))
   ·rintro q2 w14 ⟨bT,xX,gy⟩
    have hG2:=nu (aB (aA bM (some b)) qI) nK hz1
    have Zt:=aB (aB (aB (aB hG2 Zj) (aA uK (some b))) qR) (aA xX (some b))
    have hST:∀(P6:Value) (l6:List aT.dz),lN w b s k {s with Pi:= .slice a0 m0 n0,H:= .slice a6 m6 n6,L:= .slice a7 m7 n7,S:= .slice a8 m8 n8,P:=P6} {k with Pi:=Di k.Pi q 4,H:=Heap.iX k.H pid,L:=(ji.iX k.L k.left pid).1,left:=(ji.iX k.L k.left pid).2,S:=Sleep.iX k.S pid,P:=l6}:=
     fun P6 l6 B hB _ h=>⟨HR7.out B aj h.1,HR6.out B aj h.2.1,h.2.2.1,h.2.2.2.1,⟨h.2.2.2.2.1.1,h.2.2.2.2.1.2.1,HR8.out B aj⟩,HS.out B aj h.2.2.2.2.2⟩
    have HST:=ah hST
    ((try clear hcb bC bn bA bE);have bg:=Mh.out.below xX;obtain⟨hcb,bC,bn,bA,bE⟩:=aD.rules bg.box;have akX:=ah bg;clear bg)
    ((try clear fF h_ gF gQ g_);have bx0:=anz.out.below xX anz.out.lt;obtain⟨fF,h_,gF,gQ,g_⟩:=aD.rules bx0;have anx:=ah bx0;clear bx0)
    have Qz:=bT.rules.1
    have asz:=(Qz 2).trans (aT.Ma f)
    have arN:(aT.nX k.P pid 1).length=k.P.length:=by unfold aT.nX;simp
    have hkP:=hk.P
    have hRM:=ah (fun W h=>aT.Ki _ (aT.nX k.P pid 1) pid W (akX.out.kr.P.below h) aj)
    clear hST Qz
    cases fok
    ·rw[if_pos (.inl rfl)] at hy
     exact ai1
    ·by_cases h4:f.st=4
     ·have e4:(f.st==4)=true:=by simp[h4]
      rw[if_pos (.inr h4)] at hy
      exact ai1
     ·have e4:(f.st==4)=false:=by simp[h4]
      rw[if_neg EK] at hy
      go_wp2_with fail
      have ajG:jF w1.heap.size {s with Pi:= .slice a0 m0 n0,H:= .slice a6 m6 n6,L:= .slice a7 m7 n7,S:= .slice a8 m8 n8,P:= .slice Ep m10 n10} {k with Pi:=Di k.Pi q 4,H:=Heap.iX k.H pid,L:=(ji.iX k.L k.left pid).1,left:=(ji.iX k.L k.left pid).2,S:=Sleep.iX k.S pid,P:=aT.nX k.P pid 1}:=
       ⟨HR7.out _ aj UK.out.1,HR6.out _ aj UK.out.2.1,UK.out.2.2.1,UK.out.2.2.2.1,⟨UK.out.2.2.2.2.1.1,UK.out.2.2.2.2.1.2.1,HR8.out _ aj⟩,UK.out.2.2.2.2.2⟩
      have asx:=Zj.size
      have ajI:Apart w1.heap.size (.slice Ep m10 n10) (aT.rH (aT.nX k.P pid 1)):= .inr fun c hc he=>by have:=wO.out c hc;omega
      generalize bR:World.setCell _ _ _=w15
      have anH:Hid (Pf.Ok {xH q with code:=code}):=ah {HQ5.out with code:=hc}
      have akT:aD w15 w1.heap.size (iA Oi par 4 {xH q with code:=code}) 126:=by
       rw[←bR]
       exact((anx.out.set 2 _).set 13 _).cast (by simp only[VL,ag0])
      have amY:w14.grownBy w15 (some w1.heap.size):=by
       rw[←bR];exact aB (aO _ _ _ _) (aO _ _ _ _)
      have amw:=akX.out.ad1 ajG ajI aj (anx.out.cast (F9 HQ5.out).symm) amY
      have ara:=nu Zt amY hz1
      obtain⟨q15,akb⟩:∃q15:Pf,q15={xH q with code:=code}:=⟨_,rfl⟩
      rw[←akb] at akT anH
      have arF:=ah akb
      have akZ:=ah akT
      have abY:=ah amw
      clear bR amw akT akb ajG ajI hcb bC bn bA bE fF h_ gF gQ g_
      obtain⟨hcb,bC,bn,bA,bE⟩:=aD.rules abY.out.box
      ((try clear fF h_ gF gQ g_);have bx0:=akZ.out;obtain⟨fF,h_,gF,gQ,g_⟩:=aD.rules bx0;have asI:=ah bx0;clear bx0)
      ((refine aY (fun W=>Below w15.heap.size w15 W) (fun i=>decide (i<11)) ay ?_);
          have hS:Below w15.heap.size w15 w15.drew:=(Below.refl _ _).drew;
          (refine tk 0 149 hS ?_);
          (refine tk 1 150 hS ?_);
          (refine tk 2 151 hS ?_);
          (refine tk 3 152 hS ?_);
          (refine tk 4 153 hS ?_);
          (refine tk 5 154 hS ?_ (hy:=Or.inl ⟨aF,qB⟩));
          (refine bL 6 (oi:=⟨some 155,_,_,_,_,_⟩) rfl ay om hS (dh 126 _ rfl (iA Oi par 4 q15) aT.bf (qY _ _ _ _) aF bG (fun W hs=>akZ.out.below hs akZ.out.lt)) ?_);
          (try simp only[pt]);
          (refine aJ 7 (oi:=⟨some 156,_,_,_,_,_⟩) rfl ay rfl (fun K hK=>?_));
          (go_simp;(with_reducible refine(F8 _ (aT.nX k.P pid 1) Oi par 4 q15 anH.out _ (abY.out.kr.P.below hS) aj).mono ?_);rintro en w16 ⟨v16,rfl,aj9,aq9⟩;have hS:=hS.trans (Below.mono aq9 hS.size);obtain⟨a16,m16,n16,rfl⟩:=aj9.is;(try go_wp2_with fail));
          (refine hK.out _ _ (fun _=>b_) ?_;clear hK K);
          (try simp only[pt]);
          (refine tk 8 157 hS ?_);
          (refine tk 9 158 hS ?_);
          (refine tk 10 159 hS ?_);
          (refine aZ 11 ay ?_ rfl);
          simp only[List.toList_toArray,List.drop_succ_cons,List.drop_zero])
      ((try clear hcb bC bn bA bE);have bg:=abY.out.below hS;obtain⟨hcb,bC,bn,bA,bE⟩:=aD.rules bg.box;have arj:=ah bg;clear bg)
      have H16:=ah aj9
      have HG:=ah (aB ara (aA hS (some b)))
      clear aj9 fF h_ gF gQ g_
      go_wp2_with fail
      rw[←arF.out] at hy
      subst hy
      exact bodyPost_end (v:= .tuple #[]) Vt rfl ⟨rfl,⟨_,arj.out.C8 H16.out,HST.out _ _⟩,aB HG.out (aO _ _ _ _)⟩
theorem J2(b:Nat)(s:Ks)(k:Kn)(pid code gone:Int)(w:World)(hw:KW w b s k)(hk:Fit k)(hc:qK code):
  Calls Tryz.prog 116 #[.pointer (some ⟨b,0,none⟩),.int .i64 pid,.int .i64 code,.int .i64 gone] w fun en w'=>en=.returned (.tuple #[])∧KS w b s k w' (qV k pid code gone)∧w.grownBy w' (some b):=by
 by_cases hp:pid=1
 ·subst hp;exact afm b s k code gone w hw
 ·exact abb b s k pid code gone w hw hk hp hc
end Go.Proofs.YtgmodehldmahiaaGreatDoor
