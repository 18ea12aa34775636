/- Part 19 of 50 of the proof of topWindows_holds. Conditions: see each. -/
import Derived.Test.YtgmodehldmahiaaGreatDoorW14
import Derived.Test.YtgmodehldmahiaaGreatDoorW18
import Derived.Test.YtgmodehldmahiaaGreatDoorW10
set_option linter.unusedVariables false
set_option linter.unusedSimpArgs false
set_option maxRecDepth 8192
set_option maxHeartbeats 40000000
namespace Go.Proofs.YtgmodehldmahiaaGreatDoor
open Go Go.RowKit Go.Tm
attribute [local go_sem] fB fA fu dR dA dQ dP dO dN dM dL dK dJ dI dH dG dF iq ig h_ g_ gZ gY gX gN gW gV fF fE fD fC eY eX eU
def uh(q:Pf):Pf:={q with p0:=0,b0:=false,p1:=0,b1:=false,p2:=0,b2:=false,p3:=0,b3:=false}
def zY(l:List Value)(q:Pf):Nat→List Value
 |0=>l
 |i+1=>Pipe.pz (zY l q i) (jY q i).1 (jY q i).2 (-1)
noncomputable def mW(k:Kn)(pid code gone:Int):Kn:=
 if pid=1 then{k with P:=[],L:=[],left:=0,S:=[],Pi:=[],H:=[],gone:=wrap64 (1+gone)} else
  let p:=(Tab.bD k.P pid).1
  let q:=uh (pq p)
  let k1:={k with Pi:=zY k.Pi (pq p) 4,H:=Heap.gM k.H pid,L:=(Turn.gM k.L k.left pid).1,left:=(Turn.gM k.L k.left pid).2,S:=Sleep.gM k.S pid,P:=Tab.lK k.P pid 1}
  let f:=Tab.bD k1.P p.par
  if f.2=false∨f.1.st=4 then{k1 with P:=Tab.xw k1.P pid} else{k1 with P:=Tab.lW k1.P (yK p.pid p.par 4 {q with code:=code})}
theorem aaU(b:Nat)(s:Ks)(k:Kn)(code gone:Int)(w:World)(hw:KW w b s k):
  Calls Tryz.prog 116 #[.pointer (some ⟨b,0,none⟩),.int .i64 1,.int .i64 code,.int .i64 gone] w fun en w'=>en=.returned (.tuple #[])∧KS w b s k w' (mW k 1 code gone)∧w.grownBy w' (some b):=by
 have HW:=Lib.hid hw
 have hlt:=hw.lt
 have tY:=Below.refl w.heap.size w
 ((try clear hcb bn hlb hnb hmb);(have aW:=HW.out.below tY);(obtain⟨hcb,bn,hlb,hnb,hmb⟩:=aC.rules aW.box);(have jV:=Lib.hid aW);(clear aW))
 clear hw tY
 go_enter Tryz.func116,Tryz.ntmps116
 go_wp2_with fail
 have n0:∀(W:World) (ag:Bool) (n:Nat),Sl W ag n (.slice none 0 0) []:=fun W ag n=>Sl.nil W ag n
 have h1:=(HW.out.zP (v:= .slice none 0 0) (l:=[]) (n0 w true 26))
 have h2:=(h1.Ah (v:= .slice none 0 0) (l:=[]) (n0 _ false 1) (.inl rfl)).set_left 0
 have h3:=h2.tT (v:= .slice none 0 0) (l:=[]) (n0 _ true 2)
 have h4:=h3.EJ (v:= .slice none 0 0) (l:=[]) (n0 _ true 3) EY
 have h5:=(h4.Sz (v:= .slice none 0 0) (l:=[]) (n0 _ true 3)).FQ (wrap64 (1+gone))
 have hk:mW k 1 code gone={k with P:=[],L:=[],left:=0,S:=[],Pi:=[],H:=[],gone:=wrap64 (1+gone)}:=by unfold mW;rw[if_pos rfl]
 rw[hk]
 have hs:j3 w b s k {s with P:= .slice none 0 0,L:= .slice none 0 0,S:= .slice none 0 0,Pi:= .slice none 0 0,H:= .slice none 0 0} {k with P:=[],L:=[],left:=0,S:=[],Pi:=[],H:=[],gone:=wrap64 (1+gone)}:=
  fun B hB _ h=>⟨.inl rfl,.inl rfl,h.2.2.1,h.2.2.2.1,⟨h.2.2.2.2.1.1,h.2.2.2.2.1.2.1,.inl rfl⟩,.inl rfl⟩
 exact bodyPost_ret (v:= .tuple #[]) P8 rfl ⟨rfl,⟨_,h5,hs⟩,aA (aA (aA (aA (aA (aA (aM _ _ _ _) (aM _ _ _ _)) (aM _ _ _ _)) (aM _ _ _ _)) (aM _ _ _ _)) (aM _ _ _ _)) (aM _ _ _ _)⟩
theorem F4(l:List Value)(q:Pf):∀i,(zY l q i).length=l.length
 |0=>rfl
 |i+1=>by rw[zY,Pipe.zC,F4 l q i]
theorem Wh(b:Nat)(s:Ks)(k:Kn)(pid code gone:Int)(w:World)(hw:KW w b s k)(hk:Fit k)(hp:pid≠1)(hc:wfi code):
  Calls Tryz.prog 116 #[.pointer (some ⟨b,0,none⟩),.int .i64 pid,.int .i64 code,.int .i64 gone] w fun en w'=>en=.returned (.tuple #[])∧KS w b s k w' (mW k pid code gone)∧w.grownBy w' (some b):=by
 have HW:=Lib.hid hw
 have hlt:=hw.lt
 have hpb:(pid==1)=false:=by simpa using hp
 have HF:=Lib.hid (fun(W:World) (h:Below w.heap.size w W)=>Tab.lN s.P k.P pid W (hw.kr.P.below h))
 obtain⟨aP,mP,nP,R7⟩:=hw.kr.P.is
 rw[R7] at HF
 obtain⟨y,hy⟩:∃y,y=mW k pid code gone:=⟨_,rfl⟩
 rw[←hy]
 unfold mW at hy
 rw[if_neg hp] at hy
 dsimp only at hy
 generalize Tab.bD k.P pid=fs at*
 obtain⟨p,ok⟩:=fs
 dsimp only at hy HF
 rw[show Tab.je p=.agg (gu p.pid p.par p.st (pq p)) from congrArg Value.agg (sW p)] at HF
 have hq:=iY p
 generalize pq p=q at*
 generalize p.pid=Jz at*
 generalize p.par=par at*
 generalize p.st=st at*
 have HQ:=Lib.hid hq
 have HY:=Lib.hid hy
 have hpv:=oz Jz par st q
 have tY:=Below.refl w.heap.size w
 ((try clear hcb bn hlb hnb hmb);(have aW:=HW.out.below tY);(obtain⟨hcb,bn,hlb,hnb,hmb⟩:=aC.rules aW.box);(have jV:=Lib.hid aW);(clear aW))
 clear hw hy hq
 go_enter Tryz.func116,Tryz.ntmps116
 go_wp2_with fail
 with_reducible refine(HF.out _ aD).mono ?_
 rintro en w1 ⟨rfl,hb1⟩
 ((try clear hcb bn hlb hnb hmb);(have aW:=HW.out.below hb1);(obtain⟨hcb,bn,hlb,hnb,hmb⟩:=aC.rules aW.box);(have nL:=Lib.hid aW);(clear aW))
 have xS:=Lib.hid (aC.new w1 (gu Jz par st q) 126)
 (obtain⟨hcp,hfp,hlp,hnp,hmp⟩:=aC.rules xS.out)
 clear jV tY
 go_wp2_with(first|((with_reducible refine bO 126 ?_);(refine aU rfl 126 _ _ rfl (gu Jz par st q) Tab.aX (hpv) aF ?_ ?_ ?_;(exact aG);(exact aG)))|fail)
 generalize bN:World.alloc _ _=w2
 have zM:=Lib.hid (show aC w2 w1.heap.size (gu Jz par st q) 126 from bN▸xS.out)
 have eP:Below w1.heap.size w1 w2:=bM
 have bP:=hb1
 have hbw2:=bP.trans (eP.mono bP.size)
 have hz2:w2.heap.size=w1.heap.size+1:=bX
 have hz1:=bP.size
 ((try clear hcb bn hlb hnb hmb);(have aW:=nL.out.below eP);(obtain⟨hcb,bn,hlb,hnb,hmb⟩:=aC.rules aW.box);(have qg:=Lib.hid aW);(clear aW))
 ((try clear hcp hfp hlp hnp hmp);(have bx0:=zM.out);(obtain⟨hcp,hfp,hlp,hnp,hmp⟩:=aC.rules bx0);(have yN:=Lib.hid bx0);(clear bx0))
 clear bN xS nL
 go_loopw [56] (fun t W=>∃(i:Nat) (a:Option Addr) (m n:Nat),i≤4∧t=.int .i64 i∧KW W b {s with Pi:= .slice a m n} {k with Pi:=zY k.Pi q i}∧(∀B,B<w2.heap.size→Apart B s.Pi k.Pi→Apart B (.slice a m n) (zY k.Pi q i))∧aC W w1.heap.size (gu Jz par st q) 126∧w2.grownBy W (some b)) (fun t _=>4-(intOf t).toNat)
 case atStart=>
  obtain⟨a0,m0,n0,hv0⟩:=qg.out.kr.Pi.is
  refine⟨0,a0,m0,n0,ah,rfl,?_,?_,yN.out,pI _ _⟩
  ·rw[←hv0];exact qg.out
  ·rw[←hv0];exact fun _ _ h=>h
 case round=>
  obtain⟨i,a0,m0,n0,hi,rfl,W_,hst,hbp,hgw⟩:=hrel
  have HK:=Lib.hid W_
  have HB:=Lib.hid hbp
  have HS:=Lib.hid hst
  clear W_ hbp hst
  by_cases ajZ:i<4
  ·have h4:i=0∨i=1∨i=2∨i=3:=by omega
   rcases h4 with rfl|rfl|rfl|rfl
   ·(obtain⟨hcb,bn,hlb,hnb,hmb⟩:=aC.rules HK.out.box)
    have LA:=qM (q.p0,q.b0)
    have hix:∀W:World,(Instr.index 122 (.agg #[.int .i64 q.p0,.bool q.b0,.int .i64 q.p1,.bool q.b1,.int .i64 q.p2,.bool q.b2,.int .i64 q.p3,.bool q.b3]) (.int .i64 0)).run Tryz.prog W=.ok (ny (q.p0,q.b0)) W:=fun _=>by kernel_rfl
    go_wp2_with(first|((with_reducible refine bO 121 ?_);(refine aU rfl 121 _ _ rfl ((ny (q.p0,q.b0)).cells) uT (LA) aF ?_ ?_ ?_;(exact aG);(exact aG)))|fail)
    generalize bN:World.alloc _ _=w3
    have KD:=Lib.hid (show aC w3 wr.heap.size (ny (q.p0,q.b0)).cells 121 from by rw[←bN];exact aC.new _ _ _)
    have hb3:Below wr.heap.size wr w3:=wh
    clear bN
    ((try clear hcb bn hlb hnb hmb);(have aW:=HK.out.below hb3);(obtain⟨hcb,bn,hlb,hnb,hmb⟩:=aC.rules aW.box);(have mM:=Lib.hid aW);(clear aW))
    ((try clear hcd uF hld hnd hmd);(have bx0:=KD.out);(obtain⟨hcd,uF,hld,hnd,hmd⟩:=aC.rules bx0);(have OC:=Lib.hid bx0);(clear bx0))
    have hgs:=hgw.size
    have hpi:=hk.Pi
    have G_:=Lib.hid mM.out.kr.pi
    have hfw:wfi q.p0:=HQ.out.p0
    ((refine aY (fun W=>Below w3.heap.size w3 W) (fun i=>decide (i<11)) aj ?_);
                (have hS:Below w3.heap.size w3 w3.drew:=(Below.refl _ _).drew);
                (refine tk 0 59 hS ?_);
                (refine tk 1 60 hS ?_);
                (refine tk 2 61 hS ?_);
                (refine tk 3 62 hS ?_);
                (refine tk 4 63 hS ?_);
                (refine tk 5 64 hS ?_ (hy:=Or.inl ⟨aF,oN⟩));
                (refine tk 6 65 hS ?_ (hy:=Or.inl ⟨aF,oN⟩));
                (refine aK 7 (oi:=⟨some 66,_,_,_,_,_⟩) rfl aj rfl (fun K hK=>?_));
                (go_simp;(with_reducible refine(Pipe.lZ _ (zY k.Pi q 0) q.p0 q.b0 (-1) _ (mM.out.kr.Pi.below hS) G_.out JR hfw).mono ?_);rintro en w4 ⟨v4,rfl,hs4,hr4,hb4⟩;(have hS:=hS.trans (Below.mono hb4 hS.size));(obtain⟨a4,m4,n4,rfl⟩:=hs4.is);(try go_wp2_with fail));
                (refine hK.out _ _ (fun _=>bF) ?_;clear hK K);
                (try simp only[pt]);
                (refine tk 8 67 hS ?_);
                (refine tk 9 68 hS ?_);
                (refine tk 10 69 hS ?_);
                (refine aT 11 aj ?_ rfl);
                (simp only[List.toList_toArray,List.drop_succ_cons,List.drop_zero]))
    ((try clear hcb bn hlb hnb hmb);(have aW:=mM.out.below hS);(obtain⟨hcb,bn,hlb,hnb,hmb⟩:=aC.rules aW.box);(have vU:=Lib.hid aW);(clear aW))
    have H4:=Lib.hid hs4
    have Et:=aA hgw (ay (hb3.trans (hS.mono hb3.size)) (some b))
    have Xi:=Lib.hid ((HB.out.below hb3 HB.out.lt).below hS (HB.out.below hb3 HB.out.lt).lt)
    have EB:=Lib.hid (fun(B:Nat) (hB:B<w2.heap.size) (h:Apart B s.Pi k.Pi)=>hr4.apart (HS.out B hB h) (B:=B) CX)
    exact aeA
   ·(obtain⟨hcb,bn,hlb,hnb,hmb⟩:=aC.rules HK.out.box)
    have LA:=qM (q.p1,q.b1)
    have hix:∀W:World,(Instr.index 122 (.agg #[.int .i64 q.p0,.bool q.b0,.int .i64 q.p1,.bool q.b1,.int .i64 q.p2,.bool q.b2,.int .i64 q.p3,.bool q.b3]) (.int .i64 1)).run Tryz.prog W=.ok (ny (q.p1,q.b1)) W:=fun _=>by kernel_rfl
    go_wp2_with(first|((with_reducible refine bO 121 ?_);(refine aU rfl 121 _ _ rfl ((ny (q.p1,q.b1)).cells) uT (LA) aF ?_ ?_ ?_;(exact aG);(exact aG)))|fail)
    generalize bN:World.alloc _ _=w3
    have KD:=Lib.hid (show aC w3 wr.heap.size (ny (q.p1,q.b1)).cells 121 from by rw[←bN];exact aC.new _ _ _)
    have hb3:Below wr.heap.size wr w3:=wh
    clear bN
    ((try clear hcb bn hlb hnb hmb);(have aW:=HK.out.below hb3);(obtain⟨hcb,bn,hlb,hnb,hmb⟩:=aC.rules aW.box);(have mM:=Lib.hid aW);(clear aW))
    ((try clear hcd uF hld hnd hmd);(have bx0:=KD.out);(obtain⟨hcd,uF,hld,hnd,hmd⟩:=aC.rules bx0);(have OC:=Lib.hid bx0);(clear bx0))
    have hgs:=hgw.size
    have hpi:=hk.Pi
    have G_:=Lib.hid mM.out.kr.pi
    have hfw:wfi q.p1:=HQ.out.p1
    ((refine aY (fun W=>Below w3.heap.size w3 W) (fun i=>decide (i<11)) aj ?_);
                (have hS:Below w3.heap.size w3 w3.drew:=(Below.refl _ _).drew);
                (refine tk 0 59 hS ?_);
                (refine tk 1 60 hS ?_);
                (refine tk 2 61 hS ?_);
                (refine tk 3 62 hS ?_);
                (refine tk 4 63 hS ?_);
                (refine tk 5 64 hS ?_ (hy:=Or.inl ⟨aF,oN⟩));
                (refine tk 6 65 hS ?_ (hy:=Or.inl ⟨aF,oN⟩));
                (refine aK 7 (oi:=⟨some 66,_,_,_,_,_⟩) rfl aj rfl (fun K hK=>?_));
                (go_simp;(with_reducible refine(Pipe.lZ _ (zY k.Pi q 1) q.p1 q.b1 (-1) _ (mM.out.kr.Pi.below hS) G_.out JR hfw).mono ?_);rintro en w4 ⟨v4,rfl,hs4,hr4,hb4⟩;(have hS:=hS.trans (Below.mono hb4 hS.size));(obtain⟨a4,m4,n4,rfl⟩:=hs4.is);(try go_wp2_with fail));
                (refine hK.out _ _ (fun _=>bF) ?_;clear hK K);
                (try simp only[pt]);
                (refine tk 8 67 hS ?_);
                (refine tk 9 68 hS ?_);
                (refine tk 10 69 hS ?_);
                (refine aT 11 aj ?_ rfl);
                (simp only[List.toList_toArray,List.drop_succ_cons,List.drop_zero]))
    ((try clear hcb bn hlb hnb hmb);(have aW:=mM.out.below hS);(obtain⟨hcb,bn,hlb,hnb,hmb⟩:=aC.rules aW.box);(have vU:=Lib.hid aW);(clear aW))
    have H4:=Lib.hid hs4
    have Et:=aA hgw (ay (hb3.trans (hS.mono hb3.size)) (some b))
    have Xi:=Lib.hid ((HB.out.below hb3 HB.out.lt).below hS (HB.out.below hb3 HB.out.lt).lt)
    have EB:=Lib.hid (fun(B:Nat) (hB:B<w2.heap.size) (h:Apart B s.Pi k.Pi)=>hr4.apart (HS.out B hB h) (B:=B) CX)
    exact aez
   ·(obtain⟨hcb,bn,hlb,hnb,hmb⟩:=aC.rules HK.out.box)
    have LA:=qM (q.p2,q.b2)
    have hix:∀W:World,(Instr.index 122 (.agg #[.int .i64 q.p0,.bool q.b0,.int .i64 q.p1,.bool q.b1,.int .i64 q.p2,.bool q.b2,.int .i64 q.p3,.bool q.b3]) (.int .i64 2)).run Tryz.prog W=.ok (ny (q.p2,q.b2)) W:=fun _=>by kernel_rfl
    go_wp2_with(first|((with_reducible refine bO 121 ?_);(refine aU rfl 121 _ _ rfl ((ny (q.p2,q.b2)).cells) uT (LA) aF ?_ ?_ ?_;(exact aG);(exact aG)))|fail)
    generalize bN:World.alloc _ _=w3
    have KD:=Lib.hid (show aC w3 wr.heap.size (ny (q.p2,q.b2)).cells 121 from by rw[←bN];exact aC.new _ _ _)
    have hb3:Below wr.heap.size wr w3:=wh
    clear bN
    ((try clear hcb bn hlb hnb hmb);(have aW:=HK.out.below hb3);(obtain⟨hcb,bn,hlb,hnb,hmb⟩:=aC.rules aW.box);(have mM:=Lib.hid aW);(clear aW))
    ((try clear hcd uF hld hnd hmd);(have bx0:=KD.out);(obtain⟨hcd,uF,hld,hnd,hmd⟩:=aC.rules bx0);(have OC:=Lib.hid bx0);(clear bx0))
    have hgs:=hgw.size
    have hpi:=hk.Pi
    have G_:=Lib.hid mM.out.kr.pi
    have hfw:wfi q.p2:=HQ.out.p2
    ((refine aY (fun W=>Below w3.heap.size w3 W) (fun i=>decide (i<11)) aj ?_);
                (have hS:Below w3.heap.size w3 w3.drew:=(Below.refl _ _).drew);
                (refine tk 0 59 hS ?_);
                (refine tk 1 60 hS ?_);
                (refine tk 2 61 hS ?_);
                (refine tk 3 62 hS ?_);
                (refine tk 4 63 hS ?_);
                (refine tk 5 64 hS ?_ (hy:=Or.inl ⟨aF,oN⟩));
                (refine tk 6 65 hS ?_ (hy:=Or.inl ⟨aF,oN⟩));
                (refine aK 7 (oi:=⟨some 66,_,_,_,_,_⟩) rfl aj rfl (fun K hK=>?_));
                (go_simp;(with_reducible refine(Pipe.lZ _ (zY k.Pi q 2) q.p2 q.b2 (-1) _ (mM.out.kr.Pi.below hS) G_.out JR hfw).mono ?_);rintro en w4 ⟨v4,rfl,hs4,hr4,hb4⟩;(have hS:=hS.trans (Below.mono hb4 hS.size));(obtain⟨a4,m4,n4,rfl⟩:=hs4.is);(try go_wp2_with fail));
                (refine hK.out _ _ (fun _=>bF) ?_;clear hK K);
                (try simp only[pt]);
                (refine tk 8 67 hS ?_);
                (refine tk 9 68 hS ?_);
                (refine tk 10 69 hS ?_);
                (refine aT 11 aj ?_ rfl);
                (simp only[List.toList_toArray,List.drop_succ_cons,List.drop_zero]))
    ((try clear hcb bn hlb hnb hmb);(have aW:=mM.out.below hS);(obtain⟨hcb,bn,hlb,hnb,hmb⟩:=aC.rules aW.box);(have vU:=Lib.hid aW);(clear aW))
    have H4:=Lib.hid hs4
    have Et:=aA hgw (ay (hb3.trans (hS.mono hb3.size)) (some b))
    have Xi:=Lib.hid ((HB.out.below hb3 HB.out.lt).below hS (HB.out.below hb3 HB.out.lt).lt)
    have EB:=Lib.hid (fun(B:Nat) (hB:B<w2.heap.size) (h:Apart B s.Pi k.Pi)=>hr4.apart (HS.out B hB h) (B:=B) CX)
    exact aey
   ·(obtain⟨hcb,bn,hlb,hnb,hmb⟩:=aC.rules HK.out.box)
    have LA:=qM (q.p3,q.b3)
    have hix:∀W:World,(Instr.index 122 (.agg #[.int .i64 q.p0,.bool q.b0,.int .i64 q.p1,.bool q.b1,.int .i64 q.p2,.bool q.b2,.int .i64 q.p3,.bool q.b3]) (.int .i64 3)).run Tryz.prog W=.ok (ny (q.p3,q.b3)) W:=fun _=>by kernel_rfl
    go_wp2_with(first|((with_reducible refine bO 121 ?_);(refine aU rfl 121 _ _ rfl ((ny (q.p3,q.b3)).cells) uT (LA) aF ?_ ?_ ?_;(exact aG);(exact aG)))|fail)
    generalize bN:World.alloc _ _=w3
    have KD:=Lib.hid (show aC w3 wr.heap.size (ny (q.p3,q.b3)).cells 121 from by rw[←bN];exact aC.new _ _ _)
    have hb3:Below wr.heap.size wr w3:=wh
    clear bN
    ((try clear hcb bn hlb hnb hmb);(have aW:=HK.out.below hb3);(obtain⟨hcb,bn,hlb,hnb,hmb⟩:=aC.rules aW.box);(have mM:=Lib.hid aW);(clear aW))
    ((try clear hcd uF hld hnd hmd);(have bx0:=KD.out);(obtain⟨hcd,uF,hld,hnd,hmd⟩:=aC.rules bx0);(have OC:=Lib.hid bx0);(clear bx0))
    have hgs:=hgw.size
    have hpi:=hk.Pi
    have G_:=Lib.hid mM.out.kr.pi
    have hfw:wfi q.p3:=HQ.out.p3
    ((refine aY (fun W=>Below w3.heap.size w3 W) (fun i=>decide (i<11)) aj ?_);
                (have hS:Below w3.heap.size w3 w3.drew:=(Below.refl _ _).drew);
                (refine tk 0 59 hS ?_);
                (refine tk 1 60 hS ?_);
                (refine tk 2 61 hS ?_);
                (refine tk 3 62 hS ?_);
                (refine tk 4 63 hS ?_);
                (refine tk 5 64 hS ?_ (hy:=Or.inl ⟨aF,oN⟩));
                (refine tk 6 65 hS ?_ (hy:=Or.inl ⟨aF,oN⟩));
                (refine aK 7 (oi:=⟨some 66,_,_,_,_,_⟩) rfl aj rfl (fun K hK=>?_));
                (go_simp;(with_reducible refine(Pipe.lZ _ (zY k.Pi q 3) q.p3 q.b3 (-1) _ (mM.out.kr.Pi.below hS) G_.out JR hfw).mono ?_);rintro en w4 ⟨v4,rfl,hs4,hr4,hb4⟩;(have hS:=hS.trans (Below.mono hb4 hS.size));(obtain⟨a4,m4,n4,rfl⟩:=hs4.is);(try go_wp2_with fail));
                (refine hK.out _ _ (fun _=>bF) ?_;clear hK K);
                (try simp only[pt]);
                (refine tk 8 67 hS ?_);
                (refine tk 9 68 hS ?_);
                (refine tk 10 69 hS ?_);
                (refine aT 11 aj ?_ rfl);
                (simp only[List.toList_toArray,List.drop_succ_cons,List.drop_zero]))
    ((try clear hcb bn hlb hnb hmb);(have aW:=mM.out.below hS);(obtain⟨hcb,bn,hlb,hnb,hmb⟩:=aC.rules aW.box);(have vU:=Lib.hid aW);(clear aW))
    have H4:=Lib.hid hs4
    have Et:=aA hgw (ay (hb3.trans (hS.mono hb3.size)) (some b))
    have Xi:=Lib.hid ((HB.out.below hb3 HB.out.lt).below hS (HB.out.below hb3 HB.out.lt).lt)
    have EB:=Lib.hid (fun(B:Nat) (hB:B<w2.heap.size) (h:Apart B s.Pi k.Pi)=>hr4.apart (HS.out B hB h) (B:=B) CX)
    exact aex
  ·obtain rfl:i=4:=by omega
   (obtain⟨hcb,bn,hlb,hnb,hmb⟩:=aC.rules HK.out.box)
   ((try clear hcp hfp hlp hnp hmp);(have bx0:=HB.out);(obtain⟨hcp,hfp,hlp,hnp,hmp⟩:=aC.rules bx0);(have HB2:=Lib.hid bx0);(clear bx0))
   go_wp2_with fail
   have Ph:=HW.out.kr.away hz1
   have haw:=show iL w1.heap.size {s with Pi:= .slice a0 m0 n0} {k with Pi:=zY k.Pi q 4} from⟨Ph.1,Ph.2.1,Ph.2.2.1,Ph.2.2.2.1,Ph.2.2.2.2.1,HS.out _ ah Ph.2.2.2.2.2⟩
   have haP:=HW.out.kr.P.apart hz1
   generalize bN:World.setCell _ _ _=w5
   have G5:aC w5 w1.heap.size (gu Jz par st (uh q)) 126:=by
    rw[←bN]
    exact((((((((HB2.out.set 14 _).set 15 _).set 16 _).set 17 _).set 18 _).set 19 _).set 20 _).set 21 _).cast (by simp only[Tt,Tq,Tp,Tn,Tk,Tj,Ti,Tg];rfl)
   have hg5:wr.grownBy w5 (some w1.heap.size):=by
    rw[←bN]
    exact aA (aA (aA (aA (aA (aA (aA (aM _ _ _ _) (aM _ _ _ _)) (aM _ _ _ _)) (aM _ _ _ _)) (aM _ _ _ _)) (aM _ _ _ _)) (aM _ _ _ _)) (aM _ _ _ _)
   clear bN
   have Oo:=HK.out.Zl haw haP ah (HB2.out.cast (C_ HQ.out).symm) hg5
   have pU:=Lib.hid Oo
   have OZ:=Lib.hid haw
   have HQ5:Hid (Pf.Ok (uh q)):=Lib.hid {HQ.out with p0:=rfl,p1:=rfl,p2:=rfl,p3:=rfl}
   have Bu:=Lib.hid G5
   clear Oo haw Ph G5
   (obtain⟨hcb,bn,hlb,hnb,hmb⟩:=aC.rules pU.out.box)
   ((try clear hcp hfp hlp hnp hmp);(have bx0:=Bu.out);(obtain⟨hcp,hfp,hlp,hnp,hmp⟩:=aC.rules bx0);(have Iy:=Lib.hid bx0);(clear bx0))
   ((refine aY (fun W=>Below w5.heap.size w5 W) (fun i=>decide (i<27)&&i !=1&&i !=2) aj ?_);
          (have hS:Below w5.heap.size w5 w5.drew:=(Below.refl _ _).drew);
          (refine bG 1 (oi:=⟨some 74,_,_,_,_,_⟩) (v:=?_) rfl aj sx (Or.inl ⟨aF,?_⟩) ?_;rotate_left;focus((intro W hW);go_simp;(all_goals with_reducible rfl)));
          (try simp only[pt]);
          (refine bG 2 (oi:=⟨some 75,_,_,_,_,_⟩) (v:=?_) rfl aj sx (Or.inl ⟨aF,?_⟩) ?_;rotate_left;focus((intro W hW);go_simp;(all_goals with_reducible rfl)));
          (try simp only[pt]);
          (refine tk 0 73 hS ?_);
          (refine tk 3 76 hS ?_);
          (refine tk 4 77 hS ?_);
          (refine tk 5 78 hS ?_);
          (refine tk 6 79 hS ?_);
          (refine tk 7 80 hS ?_ (hy:=Or.inl ⟨aF,wu⟩));
          (refine tk 8 81 hS ?_);
          (refine tk 10 83 hS ?_);
          (refine tk 11 84 hS ?_);
          (refine tk 12 85 hS ?_);
          (refine tk 13 86 hS ?_);
          (refine tk 14 87 hS ?_ (hy:=Or.inl ⟨aF,wu⟩));
          (refine tk 15 88 hS ?_);
          (refine tk 17 90 hS ?_);
          (refine tk 18 91 hS ?_);
          (refine tk 19 92 hS ?_);
          (refine tk 20 93 hS ?_);
          (refine tk 21 94 hS ?_ (hy:=Or.inl ⟨aF,wu⟩));
          (refine tk 22 95 hS ?_);
          (refine aK 9 (oi:=⟨some 82,_,_,_,_,_⟩) rfl aj rfl (fun K hK=>?_));
          (go_simp;(with_reducible refine(Heap.AY k.hs _ k.H pid _ (pU.out.kr.H.below hS) (by have:=hk.H;omega)).mono ?_);rintro en w6 ⟨v6,rfl,hs6,hr6,hb6⟩;(have hS:=hS.trans (Below.mono hb6 hS.size));(obtain⟨a6,m6,n6,rfl⟩:=hs6.is);(try go_wp2_with fail));
          (refine hK.out _ _ (fun _=>bF) ?_;clear hK K);
          (try simp only[pt]);
          (refine aK 16 (oi:=⟨some 89,_,_,_,_,_⟩) rfl aj rfl (fun K hK=>?_));
          (go_simp;(with_reducible refine(Turn.AZ _ k.L k.left pid _ (pU.out.kr.L.below hS) Pz).mono ?_);rintro en w7 ⟨v7,rfl,hs7,hr7,oZ⟩;(have hS:=hS.trans (Below.mono oZ hS.size));(obtain⟨a7,m7,n7,rfl⟩:=hs7.is);(have hs6:=hs6.below oZ);(try go_wp2_with fail));
          (refine hK.out _ _ (fun _=>bF) ?_;clear hK K);
          (try simp only[pt]);
          (refine aK 23 (oi:=⟨some 96,_,_,_,_,_⟩) rfl aj rfl (fun K hK=>?_));
          (go_simp;(with_reducible refine(Sleep.AY _ k.S pid _ (pU.out.kr.S.below hS) (by have:=hk.S;omega)).mono ?_);rintro en w8 ⟨v8,rfl,DK,R8,jU⟩;(have hS:=hS.trans (Below.mono jU hS.size));(obtain⟨a8,m8,n8,rfl⟩:=DK.is);(have hs6:=hs6.below jU);(have hs7:=hs7.below jU);(try go_wp2_with fail));
          (refine hK.out _ _ (fun _=>bF) ?_;clear hK K);
          (try simp only[pt]);
          (refine tk 24 97 hS ?_);
          (refine tk 25 98 hS ?_);
          (refine tk 26 99 hS ?_);
          (refine aT 27 aj ?_ rfl);
          (simp only[List.toList_toArray,List.drop_succ_cons,List.drop_zero]))
   ((try clear hcb bn hlb hnb hmb);(have aW:=pU.out.below hS);(obtain⟨hcb,bn,hlb,hnb,hmb⟩:=aC.rules aW.box);(have OT:=Lib.hid aW);(clear aW))
   have H6:=Lib.hid hs6
   have H7:=Lib.hid hs7
   have H8:=Lib.hid DK
   have lg:=hg5.size
   have hgs:=hgw.size
   have HR6:=Lib.hid (fun(B:Nat) (hB:B<w2.heap.size) (h:Apart B s.H (Heap.nV k.H))=>hr6.apart h (B:=B) (by simp only[bE,dh];omega))
   have ahC:=fun(B:Nat) (hB:B<w2.heap.size) (h:Apart B s.L (ints k.L))=>hr7.apart h (B:=B) (by have:=Below.size ‹Below w5.heap.size w5 w6›;omega)
   have HR7:=Lib.hid ahC
   have ahB:∀(B:Nat) (hB:B<w2.heap.size),Apart B (.slice a8 m8 n8) (Sleep.qh (Sleep.gM k.S pid)):=fun(B:Nat) (hB:B<w2.heap.size)=> .inr fun c hc=>by have:=R8 c hc;have:=Below.size ‹Below w5.heap.size w5 w7›;omega
   have HR8:=Lib.hid ahB
   clear hs6 hs7 DK hr6 hr7 ahC R8 ahB
   go_wp2_with fail
   have hbL:Apart b (.slice a7 m7 n7) (ints (Turn.gM k.L k.left pid).1):=HR7.out b ah HW.out.aL
   have yL:=OT.out.ajm (Turn.gM k.L k.left pid).2 H6.out H7.out hbL H8.out
   generalize bN:World.setCell _ _ _=w9
   rw[bN] at yL
   have ah0:w8.grownBy w9 (some b):=by
    rw[←bN]
    exact aA (aA (aA (aA (aM _ _ _ _) (aM _ _ _ _)) (aM _ _ _ _)) (aM _ _ _ _)) (aM _ _ _ _)
   clear bN
   have HAD:=Lib.hid (fun W h=>Tab.WH s.P k.P pid 1 W h JO)
   have hs9:Sl w9 true 26 s.P (Tab.pO k.P):=yL.kr.P
   rw[R7] at HAD hs9
   have KP9:=Lib.hid ((Iy.out.below hS Iy.out.lt).grown ah0 aR)
   have Br:=Lib.hid yL
   have LV:=aA (ay hS (some b)) ah0
   clear yL
   with_reducible refine(HAD.out _ hs9).mono ?_
   rintro en uH ⟨v10,rfl,Xo,zV,pV⟩
   obtain⟨yM,m10,n10,rfl⟩:=Xo.is
   ((try clear hcb bn hlb hnb hmb);(have aW:=Br.out.below pV);(obtain⟨hcb,bn,hlb,hnb,hmb⟩:=aC.rules aW.box);(have aiq:=Lib.hid aW);(clear aW))
   have H10:=Lib.hid Xo
   have qp:=Lib.hid zV
   have JH:=Lib.hid (KP9.out.below pV KP9.out.lt)
   clear hs9 Xo zV hcp hfp hlp hnp hmp
   go_wp2_with fail
   have DR:=aiq.out.zP H10.out
   generalize bN:World.setCell _ _ _=oW
   rw[bN] at DR
   have nY:uH.grownBy oW (some b):=nA
   clear bN
   have akt:=Lib.hid (JH.out.grown nY aR)
   have H_:=Lib.hid DR
   have HF2:=Lib.hid (fun(W:World) (h:Below oW.heap.size oW W)=>Tab.lN _ (Tab.lK k.P pid 1) par W (DR.kr.P.below h))
   have hy:=HY.out
   generalize Tab.bD (Tab.lK k.P pid 1) par=fs at*
   obtain⟨f,fok⟩:=fs
   dsimp only at hy HF2
   have WO:=Tab.fq f
   clear DR hcb bn hlb hnb hmb
   (obtain⟨hcb,bn,hlb,hnb,hmb⟩:=aC.rules H_.out.box)
   ((try clear hcp hfp hlp hnp hmp);(have bx0:=akt.out);(obtain⟨hcp,hfp,hlp,hnp,hmp⟩:=aC.rules bx0);(have ait:=Lib.hid bx0);(clear bx0))
   have hpz:=Tab.jd (Tab.jl 0)
   refine Ed (α:=Nat) (fun q2 W=>aC W q2 (Tab.dS f) 126∧Below oW.heap.size oW W∧oW.heap.size≤q2) ?G ?_ ?_
   rotate_left
   ·((refine aY (fun W=>Below oW.heap.size oW W) (fun i=>decide (i<12)&&i !=10) aj ?_);
                (have hS:Below oW.heap.size oW oW.drew:=(Below.refl _ _).drew);
                (refine tk 0 118 hS ?_);
                (refine tk 1 119 hS ?_);
                (refine tk 2 120 hS ?_);
                (refine tk 3 121 hS ?_);
                (refine tk 4 122 hS ?_ (hy:=Or.inl ⟨aF,nM⟩));
                (refine tk 5 123 hS ?_);
                (refine tk 6 124 hS ?_ (hy:=Or.inl ⟨aF,nM⟩));
                (refine gI 7 11 (oi:=⟨some 125,_,_,_,_,_⟩) (oj:=⟨some 12,_,_,_,_,_⟩) rfl rfl aj rfl rfl (fun K hK=>?_) (fun K hK=>?_));
                (focus((go_simp;(with_reducible refine(HF2.out _ hS).mono ?_);rintro en xP ⟨rfl,Ey⟩;(have hS:=hS.trans (Below.mono Ey hS.size));(try(have fV:=aC.below fV Ey fV.lt));(try go_wp2_with fail));(refine hK.out _ _ (fun _=>bF) ?_;clear hK K);(try simp only[pt]);(refine tk 8 117 hS ?_);(try simp only[pt]);(refine bG 10 (oi:=⟨some 127,_,_,_,_,_⟩) (v:=?_) rfl aj sx (Or.inl ⟨aF,?_⟩) ?_;rotate_left;focus((intro W hW);go_simp;(all_goals with_reducible rfl)));(try simp only[pt]);(refine tk 9 126 hS ?_);(try simp only[pt]);(refine aK 11 (oi:=⟨some 12,_,_,_,_,_⟩) rfl aj rfl (fun K hK=>?_));(refine iH 126 rfl (z:=Tab.je (Tab.jl 0)) aj (Tab.dS (Tab.jl 0)) rfl ?_);(refine hidS hK (hS.alloc hS.size _) (fun hS=>?_);clear hK K);(try simp only[pt]);(first|((have fV:=aC.new xP (Tab.dS (Tab.jl 0)) 126);(have hd5:Below xP.heap.size xP (xP.alloc (.cells (Tab.dS (Tab.jl 0)) 126)):=(Below.refl _ _).alloc (Nat.le_refl _) _);(have mK:oW.heap.size≤xP.heap.size:=adA);(generalize xP.alloc (.cells (Tab.dS (Tab.jl 0)) 126)=w5 at hS fV hd5⊢);(generalize xP.heap.size=qa at fV mK⊢))|((have fV:=aC.new oW.drew (Tab.dS (Tab.jl 0)) 126);(have hd5:Below oW.drew.heap.size oW.drew (oW.drew.alloc (.cells (Tab.dS (Tab.jl 0)) 126)):=(Below.refl _ _).alloc (Nat.le_refl _) _);(have mK:oW.heap.size≤oW.drew.heap.size:=adE);(generalize oW.drew.alloc (.cells (Tab.dS (Tab.jl 0)) 126)=w5 at hS fV hd5⊢);(generalize oW.drew.heap.size=qa at fV mK⊢)));(refine aT 12 aj ?_ rfl);(simp only[List.toList_toArray,List.drop_succ_cons,List.drop_zero]);((have OU:=Lib.hid fV);go_wp2_with(first|((with_reducible refine bO 126 ?_);(refine aN rfl 126 _ _ rfl OU.out (Tab.je f) Tab.aX (WO) ?_ (Tab.dS f) (Ap (Tab.jl 0) f) ?_ ?_ ?_;(exact fK);(exact aG);(exact aG);(intro w14 Pm afO afq O_)))|fail);(refine Joined.of qa ⟨Pm,?_,mK⟩ ?_);(focus(exact hS.trans (O_.mono mK)));with_reducible rfl)));
                (focus((refine iH 126 rfl (z:=Tab.je (Tab.jl 0)) aj (Tab.dS (Tab.jl 0)) rfl ?_);(refine hidS hK (hS.alloc hS.size _) (fun hS=>?_);clear hK K);(try simp only[pt]);(first|((have fV:=aC.new xP (Tab.dS (Tab.jl 0)) 126);(have hd5:Below xP.heap.size xP (xP.alloc (.cells (Tab.dS (Tab.jl 0)) 126)):=(Below.refl _ _).alloc (Nat.le_refl _) _);(have mK:oW.heap.size≤xP.heap.size:=adA);(generalize xP.alloc (.cells (Tab.dS (Tab.jl 0)) 126)=w5 at hS fV hd5⊢);(generalize xP.heap.size=qa at fV mK⊢))|((have fV:=aC.new oW.drew (Tab.dS (Tab.jl 0)) 126);(have hd5:Below oW.drew.heap.size oW.drew (oW.drew.alloc (.cells (Tab.dS (Tab.jl 0)) 126)):=(Below.refl _ _).alloc (Nat.le_refl _) _);(have mK:oW.heap.size≤oW.drew.heap.size:=adE);(generalize oW.drew.alloc (.cells (Tab.dS (Tab.jl 0)) 126)=w5 at hS fV hd5⊢);(generalize oW.drew.heap.size=qa at fV mK⊢)));(refine aK 7 (oi:=⟨some 125,_,_,_,_,_⟩) rfl aj rfl (fun K hK=>?_));(go_simp;(with_reducible refine(HF2.out _ hS).mono ?_);rintro en xP ⟨rfl,Ey⟩;(have hS:=hS.trans (Below.mono Ey hS.size));(try(have fV:=aC.below fV Ey fV.lt));(try go_wp2_with fail));(refine hK.out _ _ (fun _=>bF) ?_;clear hK K);(try simp only[pt]);(refine tk 8 117 hS ?_);(try simp only[pt]);(refine bG 10 (oi:=⟨some 127,_,_,_,_,_⟩) (v:=?_) rfl aj sx (Or.inl ⟨aF,?_⟩) ?_;rotate_left;focus((intro W hW);go_simp;(all_goals with_reducible rfl)));(try simp only[pt]);(refine tk 9 126 hS ?_);(try simp only[pt]);(refine aT 12 aj ?_ rfl);(simp only[List.toList_toArray,List.drop_succ_cons,List.drop_zero]);((have OU:=Lib.hid fV);go_wp2_with(first|((with_reducible refine bO 126 ?_);(refine aN rfl 126 _ _ rfl OU.out (Tab.je f) Tab.aX (WO) ?_ (Tab.dS f) (Ap (Tab.jl 0) f) ?_ ?_ ?_;(exact fK);(exact aG);(exact aG);(intro w14 Pm afO afq O_)))|fail);(refine Joined.of qa ⟨Pm,?_,mK⟩ ?_);(focus(exact hS.trans (O_.mono mK)));with_reducible rfl))))
   ·rintro q2 w14 ⟨fV,hS5,mK⟩
    have hG2:=kV (aA (ay hbw2 (some b)) hgw) hg5 hz1
    have Uo:=aA (aA (aA (aA hG2 LV) (ay pV (some b))) nY) (ay hS5 (some b))
    have hST:∀(P6:Value) (l6:List Tab.bV),j3 w b s k {s with Pi:= .slice a0 m0 n0,H:= .slice a6 m6 n6,L:= .slice a7 m7 n7,S:= .slice a8 m8 n8,P:=P6} {k with Pi:=zY k.Pi q 4,H:=Heap.gM k.H pid,L:=(Turn.gM k.L k.left pid).1,left:=(Turn.gM k.L k.left pid).2,S:=Sleep.gM k.S pid,P:=l6}:=
     fun P6 l6 B hB _ h=>⟨HR7.out B ah h.1,HR6.out B ah h.2.1,h.2.2.1,h.2.2.2.1,⟨h.2.2.2.2.1.1,h.2.2.2.2.1.2.1,HR8.out B ah⟩,HS.out B ah h.2.2.2.2.2⟩
    have HST:=Lib.hid hST
    ((try clear hcb bn hlb hnb hmb);(have aW:=H_.out.below hS5);(obtain⟨hcb,bn,hlb,hnb,hmb⟩:=aC.rules aW.box);(have agf:=Lib.hid aW);(clear aW))
    ((try clear hcp hfp hlp hnp hmp);(have bx0:=ait.out.below hS5 ait.out.lt);(obtain⟨hcp,hfp,hlp,hnp,hmp⟩:=aC.rules bx0);(have ais:=Lib.hid bx0);(clear bx0))
    have hcq:=fV.rules.1
    have alq:=(hcq 2).trans (Tab.Ht f)
    have akR:(Tab.lK k.P pid 1).length=k.P.length:=by unfold Tab.lK;simp
    have hkP:=hk.P
    have hRM:=Lib.hid (fun W h=>Tab.Gg _ (Tab.lK k.P pid 1) pid W (agf.out.kr.P.below h) ah)
    clear hST hcq
    cases fok
    ·rw[if_pos (.inl rfl)] at hy
     exact aeI
    ·by_cases h4:f.st=4
     ·have e4:(f.st==4)=true:=by simp[h4]
      rw[if_pos (.inr h4)] at hy
      exact aeI
     ·have e4:(f.st==4)=false:=by simp[h4]
      rw[if_neg BG] at hy
      go_wp2_with fail
      have ae6:iL w1.heap.size {s with Pi:= .slice a0 m0 n0,H:= .slice a6 m6 n6,L:= .slice a7 m7 n7,S:= .slice a8 m8 n8,P:= .slice yM m10 n10} {k with Pi:=zY k.Pi q 4,H:=Heap.gM k.H pid,L:=(Turn.gM k.L k.left pid).1,left:=(Turn.gM k.L k.left pid).2,S:=Sleep.gM k.S pid,P:=Tab.lK k.P pid 1}:=
       ⟨HR7.out _ ah OZ.out.1,HR6.out _ ah OZ.out.2.1,OZ.out.2.2.1,OZ.out.2.2.2.1,⟨OZ.out.2.2.2.2.1.1,OZ.out.2.2.2.2.1.2.1,HR8.out _ ah⟩,OZ.out.2.2.2.2.2⟩
      have alo:=LV.size
      have ae8:Apart w1.heap.size (.slice yM m10 n10) (Tab.pO (Tab.lK k.P pid 1)):= .inr fun c hc he=>by have:=qp.out c hc;omega
      generalize bN:World.setCell _ _ _=w15
      have aiB:Hid (Pf.Ok {uh q with code:=code}):=Lib.hid {HQ5.out with code:=hc}
      have agb:aC w15 w1.heap.size (gu Jz par 4 {uh q with code:=code}) 126:=by
       rw[←bN]
       exact((ais.out.set 2 _).set 13 _).cast (by simp only[Qn,acn])
      have ah1:w14.grownBy w15 (some w1.heap.size):=by
       rw[←bN];exact aA (aM _ _ _ _) (aM _ _ _ _)
      have ahy:=agf.out.Zl ae6 ae8 ah (ais.out.cast (C_ HQ5.out).symm) ah1
      have akn:=kV Uo ah1 hz1
      obtain⟨q15,afF⟩:∃q15:Pf,q15={uh q with code:=code}:=⟨_,rfl⟩
      rw[←afF] at agb aiB
      have akJ:=Lib.hid afF
      have agi:=Lib.hid agb
      have XC:=Lib.hid ahy
      clear bN ahy agb afF ae6 ae8 hcb bn hlb hnb hmb hcp hfp hlp hnp hmp
      (obtain⟨hcb,bn,hlb,hnb,hmb⟩:=aC.rules XC.out.box)
      ((try clear hcp hfp hlp hnp hmp);(have bx0:=agi.out);(obtain⟨hcp,hfp,hlp,hnp,hmp⟩:=aC.rules bx0);(have alz:=Lib.hid bx0);(clear bx0))
      ((refine aY (fun W=>Below w15.heap.size w15 W) (fun i=>decide (i<11)) aj ?_);
          (have hS:Below w15.heap.size w15 w15.drew:=(Below.refl _ _).drew);
          (refine tk 0 149 hS ?_);
          (refine tk 1 150 hS ?_);
          (refine tk 2 151 hS ?_);
          (refine tk 3 152 hS ?_);
          (refine tk 4 153 hS ?_);
          (refine tk 5 154 hS ?_ (hy:=Or.inl ⟨aF,nM⟩));
          (refine cO 6 (oi:=⟨some 155,_,_,_,_,_⟩) rfl aj sx hS (dx 126 _ rfl (gu Jz par 4 q15) Tab.aX (oz _ _ _ _) aF bg (fun W hs=>agi.out.below hs agi.out.lt)) ?_);
          (try simp only[pt]);
          (refine aK 7 (oi:=⟨some 156,_,_,_,_,_⟩) rfl aj rfl (fun K hK=>?_));
          (go_simp;(with_reducible refine(C9 _ (Tab.lK k.P pid 1) Jz par 4 q15 aiB.out _ (XC.out.kr.P.below hS) ah).mono ?_);rintro en w16 ⟨v16,rfl,afC,akl⟩;(have hS:=hS.trans (Below.mono akl hS.size));(obtain⟨a16,m16,n16,rfl⟩:=afC.is);(try go_wp2_with fail));
          (refine hK.out _ _ (fun _=>bF) ?_;clear hK K);
          (try simp only[pt]);
          (refine tk 8 157 hS ?_);
          (refine tk 9 158 hS ?_);
          (refine tk 10 159 hS ?_);
          (refine aT 11 aj ?_ rfl);
          (simp only[List.toList_toArray,List.drop_succ_cons,List.drop_zero]))
      ((try clear hcb bn hlb hnb hmb);(have aW:=XC.out.below hS);(obtain⟨hcb,bn,hlb,hnb,hmb⟩:=aC.rules aW.box);(have akr:=Lib.hid aW);(clear aW))
      have H16:=Lib.hid afC
      have HG:=Lib.hid (aA akn (ay hS (some b)))
      clear afC hcp hfp hlp hnp hmp
      go_wp2_with fail
      rw[←akJ.out] at hy
      subst hy
      exact bodyPost_end (v:= .tuple #[]) P8 rfl ⟨rfl,⟨_,akr.out.zP H16.out,HST.out _ _⟩,aA HG.out (aM _ _ _ _)⟩
theorem FY(b:Nat)(s:Ks)(k:Kn)(pid code gone:Int)(w:World)(hw:KW w b s k)(hk:Fit k)(hc:wfi code):
  Calls Tryz.prog 116 #[.pointer (some ⟨b,0,none⟩),.int .i64 pid,.int .i64 code,.int .i64 gone] w fun en w'=>en=.returned (.tuple #[])∧KS w b s k w' (mW k pid code gone)∧w.grownBy w' (some b):=by
 by_cases hp:pid=1
 ·subst hp;exact aaU b s k code gone w hw
 ·exact Wh b s k pid code gone w hw hk hp hc
end Go.Proofs.YtgmodehldmahiaaGreatDoor
