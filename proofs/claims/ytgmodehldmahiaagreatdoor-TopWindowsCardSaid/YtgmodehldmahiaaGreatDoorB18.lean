/- Part 18 of 53 of the proof of topAlone_and_topApart. Conditions: see each. -/
import Derived.Test.YtgmodehldmahiaaGreatDoorB14
import Derived.Test.YtgmodehldmahiaaGreatDoorB17
import Derived.Test.YtgmodehldmahiaaGreatDoorB10
set_option linter.unusedVariables false
set_option linter.unusedSimpArgs false
set_option maxRecDepth 8192
set_option maxHeartbeats 40000000
section
namespace Go.Proofs.YtgmodehldmahiaaGreatDoor
open Go Go.RowKit Go.Tm
attribute [local go_sem] fO fM fK d_ dM dZ dY dX dW dV dU dS dR dQ dP dO dN iQ iP iO iN iM iL iK iG iJ iI fU fT fQ fP fI fH fC
def dB(k:Kn)(n:Int):ByteArray×Int:=if n<k.im.length then Np 64 (k.im.getD n.toNat ⟨#[]⟩) else(⟨#[]⟩,7)
theorem xE(l:List ByteArray):(rE l).length=l.length:=by simp
theorem xL(b:Nat)(s:Ks)(k:Kn)(n:Int)(w:World)(hw:KW w b s k)(hk:Fit k)(hn:dI n):
  Calls Tryz.prog 73 #[.pointer (some ⟨b,0,none⟩),.int .u32 n] w fun en w'=>en=.returned (.tuple #[.string (dB k n).1,.int .i64 (dB k n).2])∧Below w.heap.size w w':=by
 have HW:=ah hw
 obtain⟨mE,rD⟩:=hn
 have CX:=hk.im
 have hsl:=hw.kr.Im
 obtain⟨r,hr⟩:∃r,r=dB k n:=⟨_,rfl⟩
 rw[←hr]
 unfold dB at hr
 obtain⟨a,cap,hv,hl⟩:=hsl.shape
 rw[xE] at hv
 obtain⟨hcb,bC,bn,bA,bE⟩:=aD.rules hw.box
 by_cases hlt:n<k.im.length
 ·rw[if_pos hlt] at hr
  obtain⟨m,rfl⟩:∃m:Nat,n=m:=⟨n.toNat,aj⟩
  rw[Int.toNat_natCast] at hr
  obtain⟨x,hx⟩:∃x,k.im[m]?=some x:=⟨_,List.getElem?_eq_getElem aj⟩
  rw[List.getD_eq_getElem?_getD,hx,Option.getD_some] at hr
  have hxs:=hk.dx x (List.mem_of_getElem? hx)
  rw[hv] at hsl
  obtain⟨b2,off,rfl,hb2,hcell⟩:=hsl.at (i:=m) (x:= .string x) (by simp[hx])
  have c0:w.cell? ⟨b2,off+m,none⟩=some (.string x):=by simpa using hcell 0 (.string x) rfl
  have HM:=ah (fun W=>ae6 64 x W hxs)
  rw[←hr] at HM
  clear hw hr hcell hx hsl
  go_enter Tryz.func73,Tryz.ntmps73
  go_wp2_with fail
  with_reducible refine(HM.out _).mono ?_
  rintro en w1 ⟨rfl,hb1⟩
  go_wp2_with fail
  exact bodyPost_ret (v:= .tuple #[.string r.1,.int .i64 r.2]) (by simp[results,Tryz.results73,go_sem]) rfl ⟨rfl,hb1⟩
 ·rw[if_neg hlt] at hr
  subst hr
  clear hw hsl
  go_enter Tryz.func73,Tryz.ntmps73
  go_wp2_with fail
  exact bodyPost_ret (v:= .tuple #[.string ⟨#[]⟩,.int .i64 7]) (by simp[results,Tryz.results73,go_sem]) rfl ⟨rfl,Below.refl _ _⟩
def lJ(q:Pf)(n:Int):Int×Bool:=if n=0 then(q.p0,q.b0) else if n=1 then(q.p1,q.b1) else if n=2 then(q.p2,q.b2) else(q.p3,q.b3)
def Dh(q:Pf)(np:Nat)(n:Int):(Int×Bool)×Bool:=if n<4∧1≤(lJ q n).1∧(lJ q n).1≤np then(lJ q n,true) else((0,false),false)
theorem PZ(b:Nat)(s:Ks)(k:Kn)(pid par st:Int)(q:Pf)(n:Int)(w:World)(hw:KW w b s k)(hn:dI n):
  Calls Tryz.prog 200 #[.pointer (some ⟨b,0,none⟩),.agg (iA pid par st q),.int .u32 n] w fun en w'=>en=.returned (.tuple #[.agg #[.int .i64 (Dh q k.Pi.length n).1.1,.bool (Dh q k.Pi.length n).1.2],.bool (Dh q k.Pi.length n).2])∧Below w.heap.size w w':=by
 have HW:=ah hw
 obtain⟨mE,rD⟩:=hn
 have hsl:=hw.kr.Pi
 obtain⟨r,hr⟩:∃r,r=Dh q k.Pi.length n:=⟨_,rfl⟩
 rw[←hr]
 unfold Dh lJ at hr
 obtain⟨a,cap,hv,hl⟩:=hsl.shape
 obtain⟨hcb,bC,bn,bA,bE⟩:=aD.rules hw.box
 clear hw hsl
 by_cases h4:n<4
 ·have e0:decide (4≤n)=false:=decide_eq_false aj
  obtain rfl|rfl|rfl|rfl:n=0∨n=1∨n=2∨n=3:=by omega
  ·by_cases h1:1≤q.p0
   ·have e1:decide (q.p0<1)=false:=decide_eq_false aj
    by_cases h2:q.p0≤k.Pi.length
    ·rw[if_pos aV] at hr
     have e2:decide ((k.Pi.length:Int)<q.p0)=false:=decide_eq_false aj
     subst hr
     go_enter Tryz.func200,Tryz.ntmps200
     go_wp2_with fail
     go_region
     go_wp2_with fail
     exact bodyPost_ret (v:= .tuple #[.agg #[.int .i64 q.p0,.bool q.b0],.bool true]) Jm rfl ⟨rfl,aG⟩
    ·rw[if_neg aV] at hr
     have e2:decide ((k.Pi.length:Int)<q.p0)=true:=decide_eq_true aj
     exact Dp
   ·rw[if_neg aV] at hr
    have e1:decide (q.p0<1)=true:=decide_eq_true aj
    exact Dp
  ·by_cases h1:1≤q.p1
   ·have e1:decide (q.p1<1)=false:=decide_eq_false aj
    by_cases h2:q.p1≤k.Pi.length
    ·rw[if_pos aV] at hr
     have e2:decide ((k.Pi.length:Int)<q.p1)=false:=decide_eq_false aj
     subst hr
     go_enter Tryz.func200,Tryz.ntmps200
     go_wp2_with fail
     go_region
     go_wp2_with fail
     exact bodyPost_ret (v:= .tuple #[.agg #[.int .i64 q.p1,.bool q.b1],.bool true]) Jm rfl ⟨rfl,aG⟩
    ·rw[if_neg aV] at hr
     have e2:decide ((k.Pi.length:Int)<q.p1)=true:=decide_eq_true aj
     exact Dp
   ·rw[if_neg aV] at hr
    have e1:decide (q.p1<1)=true:=decide_eq_true aj
    exact Dp
  ·by_cases h1:1≤q.p2
   ·have e1:decide (q.p2<1)=false:=decide_eq_false aj
    by_cases h2:q.p2≤k.Pi.length
    ·rw[if_pos aV] at hr
     have e2:decide ((k.Pi.length:Int)<q.p2)=false:=decide_eq_false aj
     subst hr
     go_enter Tryz.func200,Tryz.ntmps200
     go_wp2_with fail
     go_region
     go_wp2_with fail
     exact bodyPost_ret (v:= .tuple #[.agg #[.int .i64 q.p2,.bool q.b2],.bool true]) Jm rfl ⟨rfl,aG⟩
    ·rw[if_neg aV] at hr
     have e2:decide ((k.Pi.length:Int)<q.p2)=true:=decide_eq_true aj
     exact Dp
   ·rw[if_neg aV] at hr
    have e1:decide (q.p2<1)=true:=decide_eq_true aj
    exact Dp
  ·by_cases h1:1≤q.p3
   ·have e1:decide (q.p3<1)=false:=decide_eq_false aj
    by_cases h2:q.p3≤k.Pi.length
    ·rw[if_pos aV] at hr
     have e2:decide ((k.Pi.length:Int)<q.p3)=false:=decide_eq_false aj
     subst hr
     go_enter Tryz.func200,Tryz.ntmps200
     go_wp2_with fail
     go_region
     go_wp2_with fail
     exact bodyPost_ret (v:= .tuple #[.agg #[.int .i64 q.p3,.bool q.b3],.bool true]) Jm rfl ⟨rfl,aG⟩
    ·rw[if_neg aV] at hr
     have e2:decide ((k.Pi.length:Int)<q.p3)=true:=decide_eq_true aj
     exact Dp
   ·rw[if_neg aV] at hr
    have e1:decide (q.p3<1)=true:=decide_eq_true aj
    exact Dp
 ·rw[if_neg aj] at hr
  have e0:decide (4≤n)=true:=decide_eq_true aj
  exact Dp
end Go.Proofs.YtgmodehldmahiaaGreatDoor
end
section
namespace Go.Proofs.YtgmodehldmahiaaGreatDoor
open Go Go.RowKit Go.Tm
attribute [local go_sem] fO fM fK d_ dM dZ dY dX dW dV dU dS dR dQ dP dO dN iQ iP iO iN iM iL iK iG iJ iI fU fT fQ fP fI fH fC
def Rt(q:Pf)(n:Int)(e:Int×Bool):Pf:=if n=0 then{q with p0:=e.1,b0:=e.2} else if n=1 then{q with p1:=e.1,b1:=e.2} else if n=2 then{q with p2:=e.1,b2:=e.2} else{q with p3:=e.1,b3:=e.2}
theorem aeI{q:Pf}(h:q.Ok)(n:Int){e:Int×Bool}(he:qK e.1):(Rt q n e).Ok:=by
 unfold Rt
 split
 ·exact{h with p0:=he}
 ·split
  ·exact{h with p1:=he}
  ·split
   ·exact{h with p2:=he}
   ·exact{h with p3:=he}
theorem aha{q:Pf}(h:q.Ok)(n:Int):qK (lJ q n).1:=by
 unfold lJ
 split
 ·exact h.p0
 ·split
  ·exact h.p1
  ·split
   ·exact h.p2
   ·exact h.p3
theorem yE:Ty Tryz.prog 121 2 true:=⟨ay,ay,aC,ay⟩
abbrev qd(e:Int×Bool):Value:= .agg #[.int .i64 e.1,.bool e.2]
theorem uw(e:Int×Bool):Val true 2 (qd e):=⟨_,rfl,rfl,FX⟩
theorem aeY{pid par st:Int}{q:Pf}{m:Nat}(hm:m<4)(e:Int×Bool):((iA pid par st q).toList.take (14+m*2)++(qd e).cells.toList++(iA pid par st q).toList.drop (14+m*2+2)).toArray=iA pid par st (Rt q m e):=by
 obtain rfl|rfl|rfl|rfl:m=0∨m=1∨m=2∨m=3:=by omega
 all_goals(rw[eD,eD];rfl)
theorem Fw{q:Pf}{np:Nat}{n:Int}(h:(Dh q np n).2=true):n<4∧1≤(lJ q n).1∧(lJ q n).1≤np∧(Dh q np n).1=lJ q n:=by
 unfold Dh at*
 split at h
 ·rename_i hc
  exact⟨hc.1,hc.2.1,hc.2.2,by rw[if_pos hc]⟩
 ·cases h
noncomputable def tO(k:Kn)(p:aT.dz)(x:qJ):Kn×Int×Int:=
 if(Dh (pq p) k.Pi.length x.2.1).2=true then
  ({k with Pi:=Pipe.rW k.Pi (lJ (pq p) x.2.1).1 (lJ (pq p) x.2.1).2 (-1),P:=aT.oF k.P (BH p.pid p.par p.st (Rt (pq p) x.2.1 (0,false)))},0,0)
 else(k,0,1)
theorem Xe:zP 170 tO:=by
 intro b s k p x w hw hk hx
 have HW:=ah hw
 obtain⟨r,hr⟩:∃r,r=tO k p x:=⟨_,rfl⟩
 rw[←hr]
 unfold tO at hr
 (rw[show aT.jQ p=.agg (iA p.pid p.par p.st (pq p)) from congrArg Value.agg (wM p)];have hq:=jR p;generalize pq p=q at*;generalize p.pid=pid at*;generalize p.par=par at*;generalize p.st=st at*;have HQ:=ah hq;clear hq)
 have hlt:=hw.lt
 have hpl:=hk.P
 have hpi:=hk.Pi
 have hpp:=hw.kr.pi
 have HPP:=ah hpp
 have HE:=ah (fun W h=>PZ b s k pid par st q x.2.1 W h hx.2.1)
 have hA:=hx.2.1
 have hes:=fun h=>Fw (q:=q) (np:=k.Pi.length) (n:=x.2.1) h
 generalize Dh q k.Pi.length x.2.1=es at*
 obtain⟨⟨e1,e2⟩,eb⟩:=es
 dsimp only at hes HE hr
 have HR:=ah hr
 have HES:=ah hes
 clear hw hes hr hpp
 have hv0:=qY pid par st q
 go_enter Tryz.func170,Tryz.ntmps170
 go_wp2_with(first|((with_reducible refine cK 126 ?_);(refine aK rfl 126 _ rfl (iA pid par st q) aT.bf (hv0) ((aD.new w _ _).alloc _) ?_ ?_;(exact aM)))|fail)
 (generalize bR:World.alloc _ _=w0;have KP:aD w0 (w.heap.size) (iA pid par st q) 126:=bH;have KX:aD w0 (w.heap.size+1) (#[.int .u32 x.1,.int .u32 x.2.1,.int .u32 x.2.2.1,.int .u32 x.2.2.2]) 124:=bH;have hb0:Below w.heap.size w w0:=bN;have hz0:w0.heap.size=w.heap.size+1+1:=bX;clear bR;have KP:=ah KP;have KX:=ah KX)
 ((try clear hcb bC bn bA bE);have bg:=HW.out.below hb0;obtain⟨hcb,bC,bn,bA,bE⟩:=aD.rules bg.box;have lG:=ah bg;clear bg)
 with_reducible refine(HE.out _ lG.out).mono ?_
 rintro en w1 ⟨rfl,hb1⟩
 have bW:=hb0.trans (hb1.mono hb0.size)
 have hz1:=hb1.size
 cases eb
 ·have hr:=HR.out
  rw[if_neg aC] at hr
  subst hr
  go_wp2_with fail
  exact bodyPost_ret (v:= .tuple #[.int .u32 0,.int .i64 1]) ada rfl ⟨rfl,⟨s,HW.out.below aG,fun _ _ _ h=>h⟩,aA aG _⟩
 ·have hr:=HR.out
  rw[if_pos rfl] at hr
  obtain⟨h4,mF,hf2,hfe⟩:=HES.out rfl
  have hfw:=aha HQ.out x.2.1
  rw[←hfe] at hr mF hf2 hfw
  dsimp only at hr mF hf2 hfw
  obtain⟨m,hm⟩:∃m:Nat,x.2.1=m:=⟨x.2.1.toNat,by have:=hA.1;omega⟩
  rw[hm] at hr h4
  have h4':m<4:=aj
  ((try clear hcb bC bn bA bE);have bg:=lG.out.below hb1;obtain⟨hcb,bC,bn,bA,bE⟩:=aD.rules bg.box;have qA:=ah bg;clear bg)
  ((try clear fF h_ gF gQ g_);have bx0:=KP.out.below hb1 KP.out.lt;obtain⟨fF,h_,gF,gQ,g_⟩:=aD.rules bx0;have A9:=ah bx0;clear bx0)
  ((try clear gL iZ hlx iY hmx);have bx0:=KX.out.below hb1 KX.out.lt;obtain⟨gL,iZ,hlx,iY,hmx⟩:=aD.rules bx0;have FT:=ah bx0;clear bx0)
  rw[hm] at gL
  have hm0:(0:Int)≤(m:Int):=aj
  have mE:¬w.heap.size=w1.heap.size:=aj
  have QH:=uw (0,false)
  have hsz:=vD pid par st q
  have L8:=ah (aeI HQ.out m (e:=(0,false)) (show qK 0 from rfl))
  clear hb1 hb0
  go_wp2_with(first|((with_reducible refine bS 121 ?_);(refine aR rfl 121 _ _ rfl (A9.out.alloc _) (qd (0,false)) yE (QH) ?_ (_) (aeY h4' (0,false)) ?_ ?_ ?_;(exact gG);(exact aM);(exact aM);(intro w2 bp2 hg2 hz2 hb2;have CV:=ah bp2;have KD2:=ah ((aD.new w1 (qd (e1,e2)).cells 121).grown hg2 aV);have bM:Below w.heap.size w w2:=(bW.alloc bW.size _).trans hb2;clear bp2 hg2 hb2)))|fail)
  ((try clear hcb bC bn bA bE);have bg:=HW.out.below bM;obtain⟨hcb,bC,bn,bA,bE⟩:=aD.rules bg.box;have tC:=ah bg;clear bg)
  ((try clear fF h_ gF gQ g_);have bx0:=CV.out;obtain⟨fF,h_,gF,gQ,g_⟩:=aD.rules bx0;have BL:=ah bx0;clear bx0)
  ((try clear hcd zy wY yQ zx);have bx0:=KD2.out;obtain⟨hcd,zy,wY,yQ,zx⟩:=aD.rules bx0;have Un:=ah bx0;clear bx0)
  clear gL iZ hlx iY hmx KX FT KP A9 lG qA KD2 CV
  ((refine aY (fun W=>Below w2.heap.size w2 W) (fun i=>decide (i<19)&&i !=1) ay ?_);
          have hS:Below w2.heap.size w2 w2.drew:=(Below.refl _ _).drew;
          (refine bV 1 (oi:=⟨some 26,_,_,_,_,_⟩) (v:=?_) rfl ay om (Or.inl ⟨aF,?_⟩) ?_;rotate_left;focus(intro W hW;go_simp;(all_goals with_reducible rfl)));
          (try simp only[pt]);
          (refine tk 0 25 hS ?_);
          (refine tk 2 27 hS ?_);
          (refine tk 3 28 hS ?_);
          (refine tk 4 29 hS ?_);
          (refine tk 5 30 hS ?_);
          (refine tk 6 31 hS ?_ (hy:=Or.inl ⟨aF,ajR⟩));
          (refine tk 7 32 hS ?_ (hy:=Or.inl ⟨aF,ajR⟩));
          (refine tk 9 34 hS ?_);
          (refine tk 10 35 hS ?_);
          (refine tk 11 36 hS ?_);
          (refine tk 12 37 hS ?_);
          (refine tk 13 38 hS ?_ (hy:=Or.inl ⟨aF,ajR⟩));
          (refine bL 14 (oi:=⟨some 39,_,_,_,_,_⟩) rfl ay om hS (dh 126 _ rfl (iA pid par st (Rt q m (0,false))) aT.bf (qY _ _ _ _) aF bG (fun W hs=>BL.out.below hs BL.out.lt)) ?_);
          (try simp only[pt]);
          (refine aJ 8 (oi:=⟨some 33,_,_,_,_,_⟩) rfl ay rfl (fun K hK=>?_));
          (go_simp;(with_reducible refine(Pipe.oJ _ k.Pi e1 e2 (-1) _ (tC.out.kr.Pi.below hS) HPP.out aj hfw).mono ?_);rintro en w4 ⟨v4,rfl,mg,hr4,hb4⟩;have hS:=hS.trans (Below.mono hb4 hS.size);obtain⟨a4,m4,n4,rfl⟩:=mg.is;(have abF:∀B,B<w.heap.size→Apart B s.Pi k.Pi→Apart B _ _:=fun B hB h=>hr4.apart h (by have:=bM.size;first|(simp only[bQ,eG];omega)|(have:=Below.size ‹Below w2.heap.size w2 w5›;omega)|(have:=hS.size;omega)));(try go_wp2_with fail));
          (refine hK.out _ _ (fun _=>b_) ?_;clear hK K);
          (try simp only[pt]);
          (refine aJ 15 (oi:=⟨some 40,_,_,_,_,_⟩) rfl ay rfl (fun K hK=>?_));
          (go_simp;(with_reducible refine(F8 _ k.P pid par st _ L8.out _ (tC.out.kr.P.below hS) hpl).mono ?_);rintro en w5 ⟨v5,rfl,hs5,kV⟩;have hS:=hS.trans (Below.mono kV hS.size);obtain⟨a5,m5,n5,rfl⟩:=hs5.is;have mg:=mg.below kV;(try go_wp2_with fail));
          (refine hK.out _ _ (fun _=>b_) ?_;clear hK K);
          (try simp only[pt]);
          (refine tk 16 41 hS ?_);
          (refine tk 17 42 hS ?_);
          (refine tk 18 43 hS ?_);
          (refine aZ 19 ay ?_ rfl);
          simp only[List.toList_toArray,List.drop_succ_cons,List.drop_zero])
  ((try clear hcb bC bn bA bE);have bg:=tC.out.below hS;obtain⟨hcb,bC,bn,bA,bE⟩:=aD.rules bg.box;have sN:=ah bg;clear bg)
  have HG:=ah (aB (aA bM (some b)) (aA hS (some b)))
  have H4:=ah mg
  have HST:=ah abF
  have H5:=ah hs5
  clear fF h_ gF gQ g_ hcd zy wY yQ zx mg hs5 abF hr4 bM bW
  go_wp2_with fail
  have hw6:=sN.out.I5 H4.out (Pipe.tq HPP.out e1 e2 (-1))
  have hw7:=hw6.C8 (H5.out.bO (aO _ _ _ _) (rY sN.out.box H5.out))
  subst hr
  exact bodyPost_ret (v:= .tuple #[.int .u32 0,.int .i64 0]) ada rfl ⟨rfl,⟨_,hw7,fun B hB _ h=>⟨h.1,h.2.1,h.2.2.1,h.2.2.2.1,h.2.2.2.2.1,HST.out B hB h.2.2.2.2.2⟩⟩,aB HG.out (aB (aO _ _ _ _) (aO _ _ _ _))⟩
end Go.Proofs.YtgmodehldmahiaaGreatDoor
end
section
namespace Go.Proofs.YtgmodehldmahiaaGreatDoor
open Go Go.RowKit Go.Tm
def yH(ks pat:List Nat):Bool:=(List.range (ks.length+1)).all fun o=>decide ((ks.drop o).take pat.length≠pat)
theorem lZ{W:World}{b:Nat}{cs:Array Value}{t:TypeId}{ks:List Nat}(hk:cs.toList.map kind=ks)(hb:aD W b cs t){ag:Bool}{n:Nat}{v:Value}{xs:List Value}(hv:Sl W ag n v xs)(pat:List Nat)(hp:∀x∈xs,x.cells.toList.map kind=pat)(hno:yH ks pat=true):Apart b v xs:=by
 cases xs with
 |nil=>exact .inl rfl
 |cons x r=>
  right
  intro b' hb' yT
  subst yT
  obtain⟨a,cap,rfl,_⟩:=hv.shape
  obtain⟨b2,off,rfl,hlt,hc⟩:=hv.at (i:=0) (x:=x) rfl
  simp only[Value.ownBlock,Option.some.injEq] at hb'
  subst hb'
  have hx:=hp x aI
  have hcell:∀j c,x.cells.toList[j]?=some c→cs.toList[off+j]?=some c:=fun j c hj=>by
   have:=hc j c hj
   rw[Nat.zero_mul,Nat.add_zero,hb.rules.1] at this
   simpa using this
  have hk2:∀j q,pat[j]?=some q→ks[off+j]?=some q:=fun j q hq=>by
   exact aiB
  have h1:(ks.drop off).take pat.length=pat:=aiL
  by_cases ho:off<ks.length+1
  ·exact aik
  ·have h2:=List.all_eq_true.1 hno ks.length (List.mem_range.2 aj)
   simp only[decide_eq_true_eq] at h2
   apply h2
   rw[List.drop_of_length_le aj] at h1
   rw[List.drop_of_length_le aj]
   exact h1
def alB:List Nat:=[1,1,1,2,2,2,2,2,2,2,2,2,4,1,1,0,1,0,1,0,1,0,2,2,2,2]
theorem Yg(p:aT.dz):(aT.eT p).toList.map kind=alB:=by
 rw[wM p,eD];rfl
theorem agY{p q:aT.dz}(h:aT.eT p=aT.eT q):p=q:=by
 rw[aT.vg,aT.vg] at h
 have h':=congrArg Array.toList h
 simp only[List.toList_toArray,List.cons.injEq,Value.int.injEq,true_and] at h'
 exact aT.dz.ext h'.1 h'.2.1 h'.2.2.1 h'.2.2.2
theorem abq{W:World}{B:Nat}{p:aT.dz}{t:TypeId}(hb:aD W B (aT.eT p) t){v:Value}{l:List aT.dz}(hv:Sl W true 26 v (aT.rH l))(hne:l≠[p]):Apart B v (aT.rH l):=by
 cases l with
 |nil=>exact .inl rfl
 |cons x r=>
  right
  intro b' hb' yT
  subst yT
  obtain⟨a,cap,rfl,_⟩:=hv.shape
  obtain⟨b2,off,rfl,hlt,hc⟩:=hv.at (i:=0) (x:=aT.jQ x) rfl
  simp only[Value.ownBlock,Option.some.injEq] at hb'
  subst hb'
  have hcs:∀y:aT.dz,(aT.jQ y).cells.toList=(aT.eT y).toList:=fun _=>rfl
  have hsz:∀y:aT.dz,(aT.eT y).toList.length=26:=fun y=>by rw[Array.length_toList,aT.jI]
  rw[hcs] at hc
  have h25:=hc 25 _ (List.getElem?_eq_getElem (by rw[hsz];omega))
  rw[hb.rules.1] at h25
  have aph:off=0:=by
   have:=(Array.getElem?_eq_some_iff.1 h25).1
   rw[aT.jI] at this
   omega
  subst aph
  have jJ:aT.eT x=aT.eT p:=by
   apply Array.ext_getElem?
   intro j
   by_cases hj:j<26
   ·have:=hc j _ (List.getElem?_eq_getElem (by rw[hsz];omega))
    rw[hb.rules.1] at this
    rw[show 0+0*26+j=j by omega] at this
    rw[this]
    simp[Array.getElem?_eq_getElem (show j<(aT.eT x).size by rw[aT.jI];exact hj)]
   ·rw[Array.getElem?_eq_none Vf,Array.getElem?_eq_none Vf]
  have hxp:=agY jJ
  subst hxp
  cases r with
  |nil=>exact hne rfl
  |cons y r=>
   obtain⟨b3,arS,h3,_,hc3⟩:=hv.at (i:=1) (x:=aT.jQ y) rfl
   simp only[Option.some.injEq,Addr.mk.injEq] at h3
   obtain⟨rfl,rfl,_⟩:=h3
   rw[hcs] at hc3
   have:=hc3 0 _ (List.getElem?_eq_getElem (by rw[hsz];omega))
   rw[hb.rules.1,Array.getElem?_eq_none Vf] at this
   cases this
theorem afw{vs:List Value}{l:List Bx}{x:Value}(h:x∈vS vs l):∃(i:Nat) (u:Value) (y:Bx),vs[i]?=some u∧l[i]?=some y∧x=QC u y:=by
 obtain⟨i,hi⟩:=List.getElem?_of_mem h
 unfold vS at hi
 rw[List.getElem?_zipWith] at hi
 cases hu:vs[i]? with
 |none=>simp[hu] at hi
 |some u=>
  cases hy:l[i]? with
  |none=>simp[hu,hy] at hi
  |some y=>
   simp[hu,hy] at hi
   exact⟨i,u,y,hu,hy,hi.symm⟩
theorem KW.local{w w':World}{b:Nat}{s:Ks}{k:Kn}{B:Nat}{p p4:aT.dz}{t:TypeId}(h:KW w b s k)(ha:jF B s k)(hB:B≠b)(hb:aD w B (aT.eT p) t)(hb':aD w' B (aT.eT p4) t)(hg:w.grownBy w' (some B))(hp:k.P=[p]→p4=p):KW w' b s k:=by
 by_cases h1:k.P=[p]
 ·have:=hp h1
  subst this
  refine h.below ⟨hg.os,hg.tape,hg.output,hg.size,fun j hj=>?_⟩
  by_cases hjB:j=B
  ·subst hjB
   exact(show w'.heap[j]?=_ from hb').trans (show w.heap[j]?=_ from hb).symm
  ·exact hg.block j hj (by simp[hjB])
 have hk:=Yg p
 refine⟨h.box.grown hg (by simp[Ne.symm hB]),⟨h.kr.P.bO hg (abq hb h.kr.P h1),h.kr.L.bO hg ha.1,?_,h.kr.Pi.bO hg ha.2.2.2.2.2,h.kr.H.bO hg ha.2.1,h.kr.Im.bO hg ha.2.2.1,h.kr.Ou.bO hg ha.2.2.2.1,h.kr.In.bO hg ha.2.2.2.2.1.1,⟨?_,h.kr.Bx.len,?_⟩,?_,?_,h.kr.pi⟩,h.aL,h.LX,h.MZ⟩
 ·exact ais
 ·exact aiJ
 ·exact aiH
 ·exact aiv
 ·exact ait
theorem KW.ad1{w w':World}{b:Nat}{s:Ks}{k:Kn}{B:Nat}{p:aT.dz}{t:TypeId}(h:KW w b s k)(ha:jF B s k)(hP:Apart B s.P (aT.rH k.P))(hB:B≠b)(hb:aD w B (aT.eT p) t)(hg:w.grownBy w' (some B)):KW w' b s k:=by
 have hk:=Yg p
 refine⟨h.box.grown hg (by simp[Ne.symm hB]),⟨h.kr.P.bO hg hP,h.kr.L.bO hg ha.1,?_,h.kr.Pi.bO hg ha.2.2.2.2.2,h.kr.H.bO hg ha.2.1,h.kr.Im.bO hg ha.2.2.1,h.kr.Ou.bO hg ha.2.2.2.1,h.kr.In.bO hg ha.2.2.2.2.1.1,⟨?_,h.kr.Bx.len,?_⟩,?_,?_,h.kr.pi⟩,h.aL,h.LX,h.MZ⟩
 ·exact ais
 ·exact aiJ
 ·exact aiH
 ·exact aiv
 ·exact ait
theorem KW.aoD{w:World}{b:Nat}{s:Ks}{k:Kn}(h:KW w b s k){v6 v7 v8:Value}{l6:List Heap.Sp}{l7:List Int}{l8:List Sleep.Al}(n:Int)(h6:Sl w true 3 v6 (Heap.pW l6))(h7:Sl w false 1 v7 (ints l7))(hL:Apart b v7 (ints l7))(h8:Sl w true 2 v8 (Sleep.sM l8)):
  KW (((((w.setCell ⟨b,5,none⟩ (.int .i64 k.hs)).setCell ⟨b,6,none⟩ v6).setCell ⟨b,1,none⟩ v7).setCell ⟨b,2,none⟩ (.int .i64 n)).setCell ⟨b,3,none⟩ v8) b {s with H:=v6,L:=v7,S:=v8} {k with H:=l6,L:=l7,left:=n,S:=l8}:=by
 have g1:=aO w b 5 (.int .i64 k.hs)
 have a6:=AV h.kr h.box h6
 have a8:=FB h.kr h.box h8
 have k1:=h.VJ k.hs
 have k2:=k1.XR (h6.bO g1 a6)
 have g2:=aB g1 (aO (w.setCell ⟨b,5,none⟩ (.int .i64 k.hs)) b 6 v6)
 have k3:=k2.Dw (h7.bO g2 hL) hL
 have g3:=aB g2 (aO _ b 1 v7)
 have k4:=k3.set_left n
 have g4:=aB g3 (aO _ b 2 (.int .i64 n))
 exact k4.xk (h8.bO g4 a8)
theorem PU(p p':aT.dz):((aT.eT p).toList.take 0++(aT.jQ p').cells.toList++(aT.eT p).toList.drop (0+26)).toArray=aT.eT p':=adN
theorem KR.away{w:World}{s:Ks}{k:Kn}(h:KR w s k){B:Nat}(hB:w.heap.size≤B):jF B s k:=
 ⟨h.L.apart hB,h.H.apart hB,h.Im.apart hB,h.Ou.apart hB,⟨h.In.apart hB,h.Bx.sl.apart hB,h.S.apart hB⟩,h.Pi.apart hB⟩
end Go.Proofs.YtgmodehldmahiaaGreatDoor
end
