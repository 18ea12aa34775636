/- Part 18 of 50 of the proof of topWindows_holds. Conditions: see each. -/
import Derived.Test.YtgmodehldmahiaaGreatDoorW14
import Derived.Test.YtgmodehldmahiaaGreatDoorW17
import Derived.Test.YtgmodehldmahiaaGreatDoorW10
set_option linter.unusedVariables false
set_option linter.unusedSimpArgs false
set_option maxRecDepth 8192
set_option maxHeartbeats 40000000
section
namespace Go.Proofs.YtgmodehldmahiaaGreatDoor
open Go Go.RowKit Go.Tm
attribute [local go_sem] fB fA fu dR dA dQ dP dO dN dM dL dK dJ dI dH dG dF iq ig h_ g_ gZ gY gX gN gW gV fF fE fD fC eY eX eU
def bY(k:Kn)(n:Int):ByteArray×Int:=if n<k.im.length then IL 64 (k.im.getD n.toNat ⟨#[]⟩) else(⟨#[]⟩,7)
theorem wU(l:List ByteArray):(vQ l).length=l.length:=by simp
theorem uw(b:Nat)(s:Ks)(k:Kn)(n:Int)(w:World)(hw:KW w b s k)(hk:Fit k)(hn:cK n):
  Calls Tryz.prog 73 #[.pointer (some ⟨b,0,none⟩),.int .u32 n] w fun en w'=>en=.returned (.tuple #[.string (bY k n).1,.int .i64 (bY k n).2])∧Below w.heap.size w w':=by
 have HW:=Lib.hid hw
 obtain⟨hn1,hn2⟩:=hn
 have him:=hk.im
 have hsl:=hw.kr.Im
 obtain⟨r,hr⟩:∃r,r=bY k n:=⟨_,rfl⟩
 rw[←hr]
 unfold bY at hr
 obtain⟨a,cap,hv,hl⟩:=hsl.shape
 rw[wU] at hv
 (obtain⟨hcb,bn,hlb,hnb,hmb⟩:=aC.rules hw.box)
 by_cases hlt:n<k.im.length
 ·rw[if_pos hlt] at hr
  obtain⟨m,rfl⟩:∃m:Nat,n=m:=⟨n.toNat,ah⟩
  rw[Int.toNat_natCast] at hr
  obtain⟨x,hx⟩:∃x,k.im[m]?=some x:=⟨_,List.getElem?_eq_getElem ah⟩
  rw[List.getD_eq_getElem?_getD,hx,Option.getD_some] at hr
  have hxs:=hk.dZ x (List.mem_of_getElem? hx)
  rw[hv] at hsl
  obtain⟨b2,off,rfl,hb2,hcell⟩:=hsl.at (i:=m) (x:= .string x) (by simp[hx])
  have c0:w.cell? ⟨b2,off+m,none⟩=some (.string x):=by simpa using hcell 0 (.string x) rfl
  have HM:=Lib.hid (fun W=>aaD 64 x W hxs)
  rw[←hr] at HM
  clear hw hr hcell hx hsl
  go_enter Tryz.func73,Tryz.ntmps73
  go_wp2_with fail
  with_reducible refine(HM.out _).mono ?_
  rintro en w1 ⟨rfl,hb1⟩
  go_wp2_with fail
  exact bodyPost_ret (v:= .tuple #[.string r.1,.int .i64 r.2]) (by simp[results,Tryz.results73,go_sem]) rfl ⟨rfl,hb1⟩
 ·rw[if_neg hlt] at hr
  subst hr
  clear hw hsl
  go_enter Tryz.func73,Tryz.ntmps73
  go_wp2_with fail
  exact bodyPost_ret (v:= .tuple #[.string ⟨#[]⟩,.int .i64 7]) (by simp[results,Tryz.results73,go_sem]) rfl ⟨rfl,Below.refl _ _⟩
def jY(q:Pf)(n:Int):Int×Bool:=if n=0 then(q.p0,q.b0) else if n=1 then(q.p1,q.b1) else if n=2 then(q.p2,q.b2) else(q.p3,q.b3)
def zX(q:Pf)(np:Nat)(n:Int):(Int×Bool)×Bool:=if n<4∧1≤(jY q n).1∧(jY q n).1≤np then(jY q n,true) else((0,false),false)
theorem KG(b:Nat)(s:Ks)(k:Kn)(pid par st:Int)(q:Pf)(n:Int)(w:World)(hw:KW w b s k)(hn:cK n):
  Calls Tryz.prog 200 #[.pointer (some ⟨b,0,none⟩),.agg (gu pid par st q),.int .u32 n] w fun en w'=>en=.returned (.tuple #[.agg #[.int .i64 (zX q k.Pi.length n).1.1,.bool (zX q k.Pi.length n).1.2],.bool (zX q k.Pi.length n).2])∧Below w.heap.size w w':=by
 have HW:=Lib.hid hw
 obtain⟨hn1,hn2⟩:=hn
 have hsl:=hw.kr.Pi
 obtain⟨r,hr⟩:∃r,r=zX q k.Pi.length n:=⟨_,rfl⟩
 rw[←hr]
 unfold zX jY at hr
 obtain⟨a,cap,hv,hl⟩:=hsl.shape
 (obtain⟨hcb,bn,hlb,hnb,hmb⟩:=aC.rules hw.box)
 clear hw hsl
 by_cases h4:n<4
 ·have e0:decide (4≤n)=false:=decide_eq_false ah
  obtain rfl|rfl|rfl|rfl:n=0∨n=1∨n=2∨n=3:=by omega
  ·by_cases h1:1≤q.p0
   ·have e1:decide (q.p0<1)=false:=decide_eq_false ah
    by_cases h2:q.p0≤k.Pi.length
    ·rw[if_pos aR] at hr
     have e2:decide ((k.Pi.length:Int)<q.p0)=false:=decide_eq_false ah
     subst hr
     go_enter Tryz.func200,Tryz.ntmps200
     go_wp2_with fail
     go_region
     go_wp2_with fail
     exact bodyPost_ret (v:= .tuple #[.agg #[.int .i64 q.p0,.bool q.b0],.bool true]) Fe rfl ⟨rfl,aD⟩
    ·rw[if_neg aR] at hr
     have e2:decide ((k.Pi.length:Int)<q.p0)=true:=decide_eq_true ah
     exact Ab
   ·rw[if_neg aR] at hr
    have e1:decide (q.p0<1)=true:=decide_eq_true ah
    exact Ab
  ·by_cases h1:1≤q.p1
   ·have e1:decide (q.p1<1)=false:=decide_eq_false ah
    by_cases h2:q.p1≤k.Pi.length
    ·rw[if_pos aR] at hr
     have e2:decide ((k.Pi.length:Int)<q.p1)=false:=decide_eq_false ah
     subst hr
     go_enter Tryz.func200,Tryz.ntmps200
     go_wp2_with fail
     go_region
     go_wp2_with fail
     exact bodyPost_ret (v:= .tuple #[.agg #[.int .i64 q.p1,.bool q.b1],.bool true]) Fe rfl ⟨rfl,aD⟩
    ·rw[if_neg aR] at hr
     have e2:decide ((k.Pi.length:Int)<q.p1)=true:=decide_eq_true ah
     exact Ab
   ·rw[if_neg aR] at hr
    have e1:decide (q.p1<1)=true:=decide_eq_true ah
    exact Ab
  ·by_cases h1:1≤q.p2
   ·have e1:decide (q.p2<1)=false:=decide_eq_false ah
    by_cases h2:q.p2≤k.Pi.length
    ·rw[if_pos aR] at hr
     have e2:decide ((k.Pi.length:Int)<q.p2)=false:=decide_eq_false ah
     subst hr
     go_enter Tryz.func200,Tryz.ntmps200
     go_wp2_with fail
     go_region
     go_wp2_with fail
     exact bodyPost_ret (v:= .tuple #[.agg #[.int .i64 q.p2,.bool q.b2],.bool true]) Fe rfl ⟨rfl,aD⟩
    ·rw[if_neg aR] at hr
     have e2:decide ((k.Pi.length:Int)<q.p2)=true:=decide_eq_true ah
     exact Ab
   ·rw[if_neg aR] at hr
    have e1:decide (q.p2<1)=true:=decide_eq_true ah
    exact Ab
  ·by_cases h1:1≤q.p3
   ·have e1:decide (q.p3<1)=false:=decide_eq_false ah
    by_cases h2:q.p3≤k.Pi.length
    ·rw[if_pos aR] at hr
     have e2:decide ((k.Pi.length:Int)<q.p3)=false:=decide_eq_false ah
     subst hr
     go_enter Tryz.func200,Tryz.ntmps200
     go_wp2_with fail
     go_region
     go_wp2_with fail
     exact bodyPost_ret (v:= .tuple #[.agg #[.int .i64 q.p3,.bool q.b3],.bool true]) Fe rfl ⟨rfl,aD⟩
    ·rw[if_neg aR] at hr
     have e2:decide ((k.Pi.length:Int)<q.p3)=true:=decide_eq_true ah
     exact Ab
   ·rw[if_neg aR] at hr
    have e1:decide (q.p3<1)=true:=decide_eq_true ah
    exact Ab
 ·rw[if_neg ah] at hr
  have e0:decide (4≤n)=true:=decide_eq_true ah
  exact Ab
end Go.Proofs.YtgmodehldmahiaaGreatDoor
end
section
namespace Go.Proofs.YtgmodehldmahiaaGreatDoor
open Go Go.RowKit Go.Tm
attribute [local go_sem] fB fA fu dR dA dQ dP dO dN dM dL dK dJ dI dH dG dF iq ig h_ g_ gZ gY gX gN gW gV fF fE fD fC eY eX eU
def Mk(q:Pf)(n:Int)(e:Int×Bool):Pf:=if n=0 then{q with p0:=e.1,b0:=e.2} else if n=1 then{q with p1:=e.1,b1:=e.2} else if n=2 then{q with p2:=e.1,b2:=e.2} else{q with p3:=e.1,b3:=e.2}
theorem Z8{q:Pf}(h:q.Ok)(n:Int){e:Int×Bool}(he:wfi e.1):(Mk q n e).Ok:=by
 unfold Mk
 split
 ·exact{h with p0:=he}
 ·split
  ·exact{h with p1:=he}
  ·split
   ·exact{h with p2:=he}
   ·exact{h with p3:=he}
theorem acC{q:Pf}(h:q.Ok)(n:Int):wfi (jY q n).1:=by
 unfold jY
 split
 ·exact h.p0
 ·split
  ·exact h.p1
  ·split
   ·exact h.p2
   ·exact h.p3
theorem uT:Ty Tryz.prog 121 2 true:=⟨aj,aj,aB,aj⟩
abbrev ny(e:Int×Bool):Value:= .agg #[.int .i64 e.1,.bool e.2]
theorem qM(e:Int×Bool):Val true 2 (ny e):=⟨_,rfl,rfl,CW⟩
theorem aas{pid par st:Int}{q:Pf}{m:Nat}(hm:m<4)(e:Int×Bool):((gu pid par st q).toList.take (14+m*2)++(ny e).cells.toList++(gu pid par st q).toList.drop (14+m*2+2)).toArray=gu pid par st (Mk q m e):=by
 obtain rfl|rfl|rfl|rfl:m=0∨m=1∨m=2∨m=3:=by omega
 all_goals(rw[dz,dz];rfl)
theorem Ct{q:Pf}{np:Nat}{n:Int}(h:(zX q np n).2=true):n<4∧1≤(jY q n).1∧(jY q n).1≤np∧(zX q np n).1=jY q n:=by
 unfold zX at*
 split at h
 ·rename_i hc
  exact⟨hc.1,hc.2.1,hc.2.2,by rw[if_pos hc]⟩
 ·cases h
noncomputable def oC(k:Kn)(p:Tab.bV)(x:nW):Kn×Int×Int:=
 if(zX (pq p) k.Pi.length x.2.1).2=true then
  ({k with Pi:=Pipe.pz k.Pi (jY (pq p) x.2.1).1 (jY (pq p) x.2.1).2 (-1),P:=Tab.lW k.P (yK p.pid p.par p.st (Mk (pq p) x.2.1 (0,false)))},0,0)
 else(k,0,1)
theorem RD:wG 170 oC:=by
 intro b s k p x w hw hk hx
 have HW:=Lib.hid hw
 obtain⟨r,hr⟩:∃r,r=oC k p x:=⟨_,rfl⟩
 rw[←hr]
 unfold oC at hr
 ((rw[show Tab.je p=.agg (gu p.pid p.par p.st (pq p)) from congrArg Value.agg (sW p)]);(have hq:=iY p);(generalize pq p=q at*);(generalize p.pid=pid at*);(generalize p.par=par at*);(generalize p.st=st at*);(have HQ:=Lib.hid hq);(clear hq))
 have hlt:=hw.lt
 have hpl:=hk.P
 have hpi:=hk.Pi
 have hpp:=hw.kr.pi
 have HPP:=Lib.hid hpp
 have HE:=Lib.hid (fun W h=>KG b s k pid par st q x.2.1 W h hx.2.1)
 have hA:=hx.2.1
 have hes:=fun h=>Ct (q:=q) (np:=k.Pi.length) (n:=x.2.1) h
 generalize zX q k.Pi.length x.2.1=es at*
 obtain⟨⟨e1,e2⟩,eb⟩:=es
 dsimp only at hes HE hr
 have HR:=Lib.hid hr
 have HES:=Lib.hid hes
 clear hw hes hr hpp
 have hv0:=oz pid par st q
 go_enter Tryz.func170,Tryz.ntmps170
 go_wp2_with(first|((with_reducible refine bS 126 ?_);(refine aJ rfl 126 _ rfl (gu pid par st q) Tab.aX (hv0) ((aC.new w _ _).alloc _) ?_ ?_;(exact aG)))|fail)
 ((generalize bN:World.alloc _ _=w0);(have KP:aC w0 (w.heap.size) (gu pid par st q) 126:=bA);(have KX:aC w0 (w.heap.size+1) (#[.int .u32 x.1,.int .u32 x.2.1,.int .u32 x.2.2.1,.int .u32 x.2.2.2]) 124:=bA);(have hb0:Below w.heap.size w w0:=bM);(have hz0:w0.heap.size=w.heap.size+1+1:=bX);(clear bN);(have KP:=Lib.hid KP);(have KX:=Lib.hid KX))
 ((try clear hcb bn hlb hnb hmb);(have aW:=HW.out.below hb0);(obtain⟨hcb,bn,hlb,hnb,hmb⟩:=aC.rules aW.box);(have jV:=Lib.hid aW);(clear aW))
 with_reducible refine(HE.out _ jV.out).mono ?_
 rintro en w1 ⟨rfl,hb1⟩
 have bP:=hb0.trans (hb1.mono hb0.size)
 have hz1:=hb1.size
 cases eb
 ·have hr:=HR.out
  rw[if_neg aB] at hr
  subst hr
  go_wp2_with fail
  exact bodyPost_ret (v:= .tuple #[.int .u32 0,.int .i64 1]) Yz rfl ⟨rfl,⟨s,HW.out.below aD,fun _ _ _ h=>h⟩,ay aD _⟩
 ·have hr:=HR.out
  rw[if_pos rfl] at hr
  obtain⟨h4,hf1,hf2,hfe⟩:=HES.out rfl
  have hfw:=acC HQ.out x.2.1
  rw[←hfe] at hr hf1 hf2 hfw
  dsimp only at hr hf1 hf2 hfw
  obtain⟨m,hm⟩:∃m:Nat,x.2.1=m:=⟨x.2.1.toNat,by have:=hA.1;omega⟩
  rw[hm] at hr h4
  have h4':m<4:=ah
  ((try clear hcb bn hlb hnb hmb);(have aW:=jV.out.below hb1);(obtain⟨hcb,bn,hlb,hnb,hmb⟩:=aC.rules aW.box);(have nL:=Lib.hid aW);(clear aW))
  ((try clear hcp hfp hlp hnp hmp);(have bx0:=KP.out.below hb1 KP.out.lt);(obtain⟨hcp,hfp,hlp,hnp,hmp⟩:=aC.rules bx0);(have xS:=Lib.hid bx0);(clear bx0))
  ((try clear hcx hfx hlx hnx hmx);(have bx0:=KX.out.below hb1 KX.out.lt);(obtain⟨hcx,hfx,hlx,hnx,hmx⟩:=aC.rules bx0);(have CV:=Lib.hid bx0);(clear bx0))
  rw[hm] at hcx
  have hm0:(0:Int)≤(m:Int):=ah
  have hn1:¬w.heap.size=w1.heap.size:=ah
  have LA:=qM (0,false)
  have hsz:=rV pid par st q
  have Hq:=Lib.hid (Z8 HQ.out m (e:=(0,false)) (show wfi 0 from rfl))
  clear hb1 hb0
  go_wp2_with(first|((with_reducible refine bO 121 ?_);(refine aN rfl 121 _ _ rfl (xS.out.alloc _) (ny (0,false)) uT (LA) ?_ (_) (aas h4' (0,false)) ?_ ?_ ?_;(exact fK);(exact aG);(exact aG);(intro w2 bp2 hg2 hz2 hb2;(have zM:=Lib.hid bp2);(have KD2:=Lib.hid ((aC.new w1 (ny (e1,e2)).cells 121).grown hg2 aR));(have hbw2:Below w.heap.size w w2:=(bP.alloc bP.size _).trans hb2);(clear bp2 hg2 hb2))))|fail)
  ((try clear hcb bn hlb hnb hmb);(have aW:=HW.out.below hbw2);(obtain⟨hcb,bn,hlb,hnb,hmb⟩:=aC.rules aW.box);(have qg:=Lib.hid aW);(clear aW))
  ((try clear hcp hfp hlp hnp hmp);(have bx0:=zM.out);(obtain⟨hcp,hfp,hlp,hnp,hmp⟩:=aC.rules bx0);(have yN:=Lib.hid bx0);(clear bx0))
  ((try clear hcd uF hld hnd hmd);(have bx0:=KD2.out);(obtain⟨hcd,uF,hld,hnd,hmd⟩:=aC.rules bx0);(have OC:=Lib.hid bx0);(clear bx0))
  clear hcx hfx hlx hnx hmx KX CV KP xS jV nL KD2 zM
  ((refine aY (fun W=>Below w2.heap.size w2 W) (fun i=>decide (i<19)&&i !=1) aj ?_);
          (have hS:Below w2.heap.size w2 w2.drew:=(Below.refl _ _).drew);
          (refine bG 1 (oi:=⟨some 26,_,_,_,_,_⟩) (v:=?_) rfl aj sx (Or.inl ⟨aF,?_⟩) ?_;rotate_left;focus((intro W hW);go_simp;(all_goals with_reducible rfl)));
          (try simp only[pt]);
          (refine tk 0 25 hS ?_);
          (refine tk 2 27 hS ?_);
          (refine tk 3 28 hS ?_);
          (refine tk 4 29 hS ?_);
          (refine tk 5 30 hS ?_);
          (refine tk 6 31 hS ?_ (hy:=Or.inl ⟨aF,afh⟩));
          (refine tk 7 32 hS ?_ (hy:=Or.inl ⟨aF,afh⟩));
          (refine tk 9 34 hS ?_);
          (refine tk 10 35 hS ?_);
          (refine tk 11 36 hS ?_);
          (refine tk 12 37 hS ?_);
          (refine tk 13 38 hS ?_ (hy:=Or.inl ⟨aF,afh⟩));
          (refine cO 14 (oi:=⟨some 39,_,_,_,_,_⟩) rfl aj sx hS (dx 126 _ rfl (gu pid par st (Mk q m (0,false))) Tab.aX (oz _ _ _ _) aF bg (fun W hs=>yN.out.below hs yN.out.lt)) ?_);
          (try simp only[pt]);
          (refine aK 8 (oi:=⟨some 33,_,_,_,_,_⟩) rfl aj rfl (fun K hK=>?_));
          (go_simp;(with_reducible refine(Pipe.lZ _ k.Pi e1 e2 (-1) _ (qg.out.kr.Pi.below hS) HPP.out ah hfw).mono ?_);rintro en w4 ⟨v4,rfl,hs4,hr4,hb4⟩;(have hS:=hS.trans (Below.mono hb4 hS.size));(obtain⟨a4,m4,n4,rfl⟩:=hs4.is);(have Xn:∀B,B<w.heap.size→Apart B s.Pi k.Pi→Apart B _ _:=fun B hB h=>hr4.apart h (by have:=hbw2.size;first|(simp only[bE,dh];omega)|(have:=Below.size ‹Below w2.heap.size w2 w5›;omega)|(have:=hS.size;omega)));(try go_wp2_with fail));
          (refine hK.out _ _ (fun _=>bF) ?_;clear hK K);
          (try simp only[pt]);
          (refine aK 15 (oi:=⟨some 40,_,_,_,_,_⟩) rfl aj rfl (fun K hK=>?_));
          (go_simp;(with_reducible refine(C9 _ k.P pid par st _ Hq.out _ (qg.out.kr.P.below hS) hpl).mono ?_);rintro en w5 ⟨v5,rfl,hs5,hb5⟩;(have hS:=hS.trans (Below.mono hb5 hS.size));(obtain⟨a5,m5,n5,rfl⟩:=hs5.is);(have hs4:=hs4.below hb5);(try go_wp2_with fail));
          (refine hK.out _ _ (fun _=>bF) ?_;clear hK K);
          (try simp only[pt]);
          (refine tk 16 41 hS ?_);
          (refine tk 17 42 hS ?_);
          (refine tk 18 43 hS ?_);
          (refine aT 19 aj ?_ rfl);
          (simp only[List.toList_toArray,List.drop_succ_cons,List.drop_zero]))
  ((try clear hcb bn hlb hnb hmb);(have aW:=qg.out.below hS);(obtain⟨hcb,bn,hlb,hnb,hmb⟩:=aC.rules aW.box);(have pU:=Lib.hid aW);(clear aW))
  have HG:=Lib.hid (aA (ay hbw2 (some b)) (ay hS (some b)))
  have H4:=Lib.hid hs4
  have HST:=Lib.hid Xn
  have H5:=Lib.hid hs5
  clear hcp hfp hlp hnp hmp hcd uF hld hnd hmd hs4 hs5 Xn hr4 hbw2 bP
  go_wp2_with fail
  have hw6:=pU.out.EJ H4.out (Pipe.qd HPP.out e1 e2 (-1))
  have hw7:=hw6.zP (H5.out.bC (aM _ _ _ _) (pG pU.out.box H5.out))
  subst hr
  exact bodyPost_ret (v:= .tuple #[.int .u32 0,.int .i64 0]) Yz rfl ⟨rfl,⟨_,hw7,fun B hB _ h=>⟨h.1,h.2.1,h.2.2.1,h.2.2.2.1,h.2.2.2.2.1,HST.out B hB h.2.2.2.2.2⟩⟩,aA HG.out (aA (aM _ _ _ _) (aM _ _ _ _))⟩
end Go.Proofs.YtgmodehldmahiaaGreatDoor
end
section
namespace Go.Proofs.YtgmodehldmahiaaGreatDoor
open Go Go.RowKit Go.Tm
def uY(ks pat:List Nat):Bool:=(List.range (ks.length+1)).all fun o=>decide ((ks.drop o).take pat.length≠pat)
theorem kF{W:World}{b:Nat}{cs:Array Value}{t:TypeId}{ks:List Nat}(hk:cs.toList.map kind=ks)(hb:aC W b cs t){ag:Bool}{n:Nat}{v:Value}{xs:List Value}(hv:Sl W ag n v xs)(pat:List Nat)(hp:∀x∈xs,x.cells.toList.map kind=pat)(hno:uY ks pat=true):Apart b v xs:=by
 cases xs with
 |nil=>exact .inl rfl
 |cons x r=>
  right
  intro b' hb' hbb
  subst hbb
  obtain⟨a,cap,rfl,_⟩:=hv.shape
  obtain⟨b2,off,rfl,hlt,hc⟩:=hv.at (i:=0) (x:=x) rfl
  simp only[Value.ownBlock,Option.some.injEq] at hb'
  subst hb'
  have hx:=hp x aI
  have hcell:∀j c,x.cells.toList[j]?=some c→cs.toList[off+j]?=some c:=fun j c hj=>by
   have:=hc j c hj
   rw[Nat.zero_mul,Nat.add_zero,hb.rules.1] at this
   simpa using this
  have hk2:∀j q,pat[j]?=some q→ks[off+j]?=some q:=fun j q hq=>by
   exact aeg
  have h1:(ks.drop off).take pat.length=pat:=aeo
  by_cases ho:off<ks.length+1
  ·exact adZ
  ·have h2:=List.all_eq_true.1 hno ks.length (List.mem_range.2 ah)
   simp only[decide_eq_true_eq] at h2
   apply h2
   rw[List.drop_of_length_le ah] at h1
   rw[List.drop_of_length_le ah]
   exact h1
def agW:List Nat:=[1,1,1,2,2,2,2,2,2,2,2,2,4,1,1,0,1,0,1,0,1,0,2,2,2,2]
theorem S_(p:Tab.bV):(Tab.dS p).toList.map kind=agW:=by
 rw[sW p,dz];rfl
theorem aci{p q:Tab.bV}(h:Tab.dS p=Tab.dS q):p=q:=by
 rw[Tab.tN,Tab.tN] at h
 have h':=congrArg Array.toList h
 simp only[List.toList_toArray,List.cons.injEq,Value.int.injEq,true_and] at h'
 exact Tab.bV.ext h'.1 h'.2.1 h'.2.2.1 h'.2.2.2
theorem WC{W:World}{B:Nat}{p:Tab.bV}{t:TypeId}(hb:aC W B (Tab.dS p) t){v:Value}{l:List Tab.bV}(hv:Sl W true 26 v (Tab.pO l))(hne:l≠[p]):Apart B v (Tab.pO l):=by
 cases l with
 |nil=>exact .inl rfl
 |cons x r=>
  right
  intro b' hb' hbb
  subst hbb
  obtain⟨a,cap,rfl,_⟩:=hv.shape
  obtain⟨b2,off,rfl,hlt,hc⟩:=hv.at (i:=0) (x:=Tab.je x) rfl
  simp only[Value.ownBlock,Option.some.injEq] at hb'
  subst hb'
  have hcs:∀y:Tab.bV,(Tab.je y).cells.toList=(Tab.dS y).toList:=fun _=>rfl
  have hsz:∀y:Tab.bV,(Tab.dS y).toList.length=26:=fun y=>by rw[Array.length_toList,Tab.jd]
  rw[hcs] at hc
  have h25:=hc 25 _ (List.getElem?_eq_getElem (by rw[hsz];omega))
  rw[hb.rules.1] at h25
  have hoff:off=0:=by
   have:=(Array.getElem?_eq_some_iff.1 h25).1
   rw[Tab.jd] at this
   omega
  subst hoff
  have hpx:Tab.dS x=Tab.dS p:=by
   apply Array.ext_getElem?
   intro j
   by_cases hj:j<26
   ·have:=hc j _ (List.getElem?_eq_getElem (by rw[hsz];omega))
    rw[hb.rules.1] at this
    rw[show 0+0*26+j=j by omega] at this
    rw[this]
    simp[Array.getElem?_eq_getElem (show j<(Tab.dS x).size by rw[Tab.jd];exact hj)]
   ·rw[Array.getElem?_eq_none PK,Array.getElem?_eq_none PK]
  have hxp:=aci hpx
  subst hxp
  cases r with
  |nil=>exact hne rfl
  |cons y r=>
   obtain⟨b3,akV,h3,_,hc3⟩:=hv.at (i:=1) (x:=Tab.je y) rfl
   simp only[Option.some.injEq,Addr.mk.injEq] at h3
   obtain⟨rfl,rfl,_⟩:=h3
   rw[hcs] at hc3
   have:=hc3 0 _ (List.getElem?_eq_getElem (by rw[hsz];omega))
   rw[hb.rules.1,Array.getElem?_eq_none PK] at this
   cases this
theorem aa3{vs:List Value}{l:List Bx}{x:Value}(h:x∈tZ vs l):∃(i:Nat) (u:Value) (y:Bx),vs[i]?=some u∧l[i]?=some y∧x=WQ u y:=by
 obtain⟨i,hi⟩:=List.getElem?_of_mem h
 unfold tZ at hi
 rw[List.getElem?_zipWith] at hi
 cases hu:vs[i]? with
 |none=>simp[hu] at hi
 |some u=>
  cases hy:l[i]? with
  |none=>simp[hu,hy] at hi
  |some y=>
   simp[hu,hy] at hi
   exact⟨i,u,y,hu,hy,hi.symm⟩
theorem KW.local{w w':World}{b:Nat}{s:Ks}{k:Kn}{B:Nat}{p p4:Tab.bV}{t:TypeId}(h:KW w b s k)(ha:iL B s k)(hB:B≠b)(hb:aC w B (Tab.dS p) t)(hb':aC w' B (Tab.dS p4) t)(hg:w.grownBy w' (some B))(hp:k.P=[p]→p4=p):KW w' b s k:=by
 by_cases h1:k.P=[p]
 ·have:=hp h1
  subst this
  refine h.below ⟨hg.os,hg.tape,hg.output,hg.size,fun j hj=>?_⟩
  by_cases hjB:j=B
  ·subst hjB
   exact(show w'.heap[j]?=_ from hb').trans (show w.heap[j]?=_ from hb).symm
  ·exact hg.block j hj (by simp[hjB])
 have hk:=S_ p
 refine⟨h.box.grown hg (by simp[Ne.symm hB]),⟨h.kr.P.bC hg (WC hb h.kr.P h1),h.kr.L.bC hg ha.1,?_,h.kr.Pi.bC hg ha.2.2.2.2.2,h.kr.H.bC hg ha.2.1,h.kr.Im.bC hg ha.2.2.1,h.kr.Ou.bC hg ha.2.2.2.1,h.kr.In.bC hg ha.2.2.2.2.1.1,⟨?_,h.kr.Bx.len,?_⟩,?_,?_,h.kr.pi⟩,h.aL,h.Hg,h.Iu⟩
 ·exact ad8
 ·exact aem
 ·exact ael
 ·exact aea
 ·exact ad_
theorem KW.Zl{w w':World}{b:Nat}{s:Ks}{k:Kn}{B:Nat}{p:Tab.bV}{t:TypeId}(h:KW w b s k)(ha:iL B s k)(hP:Apart B s.P (Tab.pO k.P))(hB:B≠b)(hb:aC w B (Tab.dS p) t)(hg:w.grownBy w' (some B)):KW w' b s k:=by
 have hk:=S_ p
 refine⟨h.box.grown hg (by simp[Ne.symm hB]),⟨h.kr.P.bC hg hP,h.kr.L.bC hg ha.1,?_,h.kr.Pi.bC hg ha.2.2.2.2.2,h.kr.H.bC hg ha.2.1,h.kr.Im.bC hg ha.2.2.1,h.kr.Ou.bC hg ha.2.2.2.1,h.kr.In.bC hg ha.2.2.2.2.1.1,⟨?_,h.kr.Bx.len,?_⟩,?_,?_,h.kr.pi⟩,h.aL,h.Hg,h.Iu⟩
 ·exact ad8
 ·exact aem
 ·exact ael
 ·exact aea
 ·exact ad_
theorem KW.ajm{w:World}{b:Nat}{s:Ks}{k:Kn}(h:KW w b s k){v6 v7 v8:Value}{l6:List Heap.Sp}{l7:List Int}{l8:List Sleep.Al}(n:Int)(h6:Sl w true 3 v6 (Heap.nV l6))(h7:Sl w false 1 v7 (ints l7))(hL:Apart b v7 (ints l7))(h8:Sl w true 2 v8 (Sleep.qh l8)):
  KW (((((w.setCell ⟨b,5,none⟩ (.int .i64 k.hs)).setCell ⟨b,6,none⟩ v6).setCell ⟨b,1,none⟩ v7).setCell ⟨b,2,none⟩ (.int .i64 n)).setCell ⟨b,3,none⟩ v8) b {s with H:=v6,L:=v7,S:=v8} {k with H:=l6,L:=l7,left:=n,S:=l8}:=by
 have g1:=aM w b 5 (.int .i64 k.hs)
 have a6:=xO h.kr h.box h6
 have a8:=Cx h.kr h.box h8
 have k1:=h.Ql k.hs
 have k2:=k1.Sz (h6.bC g1 a6)
 have g2:=aA g1 (aM (w.setCell ⟨b,5,none⟩ (.int .i64 k.hs)) b 6 v6)
 have k3:=k2.Ah (h7.bC g2 hL) hL
 have g3:=aA g2 (aM _ b 1 v7)
 have k4:=k3.set_left n
 have g4:=aA g3 (aM _ b 2 (.int .i64 n))
 exact k4.tT (h8.bC g4 a8)
theorem Ap(p p':Tab.bV):((Tab.dS p).toList.take 0++(Tab.je p').cells.toList++(Tab.dS p).toList.drop (0+26)).toArray=Tab.dS p':=adY
theorem KR.away{w:World}{s:Ks}{k:Kn}(h:KR w s k){B:Nat}(hB:w.heap.size≤B):iL B s k:=
 ⟨h.L.apart hB,h.H.apart hB,h.Im.apart hB,h.Ou.apart hB,⟨h.In.apart hB,h.Bx.sl.apart hB,h.S.apart hB⟩,h.Pi.apart hB⟩
end Go.Proofs.YtgmodehldmahiaaGreatDoor
end
