/- Part 23 of 53 of the proof of topAlone_and_topApart. Conditions: see each. -/
import Derived.Test.YtgmodehldmahiaaGreatDoorB14
import Derived.Test.YtgmodehldmahiaaGreatDoorB18
import Derived.Test.YtgmodehldmahiaaGreatDoorB10
set_option linter.unusedVariables false
set_option linter.unusedSimpArgs false
set_option maxRecDepth 8192
set_option maxHeartbeats 40000000
section
namespace Go.Proofs.YtgmodehldmahiaaGreatDoor
open Go Go.RowKit Go.Tm
attribute [local go_sem] fO fM fK d_ dM dZ dY dX dW dV dU dS dR dQ dP dO dN iQ iP iO iN iM iL iK iG iJ iI fU fT fQ fP fI fH fC
abbrev agl(q:Pf):Array Value:=Pipe.yh q.p0 q.p1 q.p2 q.p3 q.b0 q.b1 q.b2 q.b3
def pG(q:Pf)(n:Int)(wb:Bool):Pf×Int×Int:=
 if q.p0=0 then({q with p0:=n,b0:=wb},0,0) else if q.p1=0 then({q with p1:=n,b1:=wb},1,0) else if q.p2=0 then({q with p2:=n,b2:=wb},2,0) else if q.p3=0 then({q with p3:=n,b3:=wb},3,0) else(q,0,5)
theorem R9(q:Pf)(n:Int)(wb:Bool)(w:World):
  Calls Tryz.prog 199 #[.agg (agl q),.agg #[.int .i64 n,.bool wb]] w fun e w'=>e=.returned (.tuple #[.agg (agl (pG q n wb).1),.int .i64 (pG q n wb).2.1,.int .i64 (pG q n wb).2.2])∧Below w.heap.size w w':=by
 have h:=Pipe.agR q.p0 q.p1 q.p2 q.p3 n q.b0 q.b1 q.b2 q.b3 wb w
 have he:Pipe.xk q.p0 q.p1 q.p2 q.p3 q.b0 q.b1 q.b2 q.b3 n wb=(agl (pG q n wb).1,(pG q n wb).2.1,(pG q n wb).2.2):=by
  unfold Pipe.xk pG
  split;·rfl
  split;·rfl
  split;·rfl
  split;·rfl
  rfl
 rw[he] at h
 exact h
theorem Yc{q:Pf}(h:q.Ok){n:Int}(hn:qK n)(wb:Bool):(pG q n wb).1.Ok:=by
 unfold pG
 split;·exact{h with p0:=hn}
 split;·exact{h with p1:=hn}
 split;·exact{h with p2:=hn}
 split;·exact{h with p3:=hn}
 exact h
theorem ND(q:Pf)(n:Int)(wb:Bool):(pG q n wb).1={q with p0:=(pG q n wb).1.p0,b0:=(pG q n wb).1.b0,p1:=(pG q n wb).1.p1,b1:=(pG q n wb).1.b1,p2:=(pG q n wb).1.p2,b2:=(pG q n wb).1.b2,p3:=(pG q n wb).1.p3,b3:=(pG q n wb).1.b3}:=by
 unfold pG
 split;·rfl
 split;·rfl
 split;·rfl
 split;·rfl
 rfl
noncomputable def zl(k:Kn)(p:aT.dz)(x:qJ):Kn×Int×Int:=
 if(Pipe.mI k.Pi).2.2=0 then
  if(pG (pq p) (Pipe.mI k.Pi).2.1 false).2.2=0 then
   if(pG (pG (pq p) (Pipe.mI k.Pi).2.1 false).1 (Pipe.mI k.Pi).2.1 true).2.2=0 then
    ({k with Pi:=(Pipe.mI k.Pi).1,P:=aT.oF k.P (BH p.pid p.par p.st (pG (pG (pq p) (Pipe.mI k.Pi).2.1 false).1 (Pipe.mI k.Pi).2.1 true).1)},
     wrap64 ((pG (pq p) (Pipe.mI k.Pi).2.1 false).2.1+wrap64 (256*(pG (pG (pq p) (Pipe.mI k.Pi).2.1 false).1 (Pipe.mI k.Pi).2.1 true).2.1))%4294967296,0)
   else(k,0,(pG (pG (pq p) (Pipe.mI k.Pi).2.1 false).1 (Pipe.mI k.Pi).2.1 true).2.2)
  else(k,0,(pG (pq p) (Pipe.mI k.Pi).2.1 false).2.2)
 else(k,0,(Pipe.mI k.Pi).2.2)
theorem aay(xs:List Value)(h:xs.length≤1000000000):qK (Pipe.mI xs).2.1:=by
 unfold Pipe.mI
 have hi:idx Pipe.zm xs≤xs.length:=by
  unfold idx
  split
  ·rename_i i hi
   rw[List.findIdx?_eq_some_iff_getElem] at hi
   obtain⟨hi,_⟩:=hi
   omega
  ·omega
 split
 ·split
  ·rfl
  ·exact air
 ·exact air
theorem aap:zP 167 zl:=by
 intro b s k p x w hw hk hx
 have HW:=ah hw
 obtain⟨r,hr⟩:∃r,r=zl k p x:=⟨_,rfl⟩
 rw[←hr]
 unfold zl at hr
 (rw[show aT.jQ p=.agg (iA p.pid p.par p.st (pq p)) from congrArg Value.agg (wM p)];have hq:=jR p;generalize pq p=q at*;generalize p.pid=pid at*;generalize p.par=par at*;generalize p.st=st at*;have HQ:=ah hq;clear hq)
 have hlt:=hw.lt
 have hpl:=hk.P
 have HMK:=ah (fun v W h=>Pipe.ae7 v k.Pi W h hw.kr.pi (by have:=hk.Pi;omega))
 have HMP:=ah (Pipe.WK hw.kr.pi)
 have ake:=aay k.Pi hk.Pi
 generalize Pipe.mI k.Pi=mk at*
 obtain⟨mk1,n,me⟩:=mk
 dsimp only at HMK HMP hr ake
 have Y4:=ah (fun W=>R9 q n false W)
 have gD:=Yc HQ.out ake false
 have hs1:=ND q n false
 generalize pG q n false=t1 at*
 obtain⟨q1,n1,e1⟩:=t1
 dsimp only at Y4 gD hr hs1
 have HS2:=ah (fun W=>R9 q1 n true W)
 have mh:=Yc gD ake true
 have hs2:=ND q1 n true
 generalize pG q1 n true=t2 at*
 obtain⟨q2,n2,e2⟩:=t2
 dsimp only at HS2 mh hr hs2
 have L8:=ah mh
 have hqq:q2={q with p0:=q2.p0,b0:=q2.b0,p1:=q2.p1,b1:=q2.b1,p2:=q2.p2,b2:=q2.b2,p3:=q2.p3,b3:=q2.b3}:=by
  rw[hs1] at hs2;exact hs2
 have HR:=ah hr
 have HQQ:=ah hqq
 clear hw hr gD mh hs1 hs2 hqq
 obtain⟨hcb,bC,bn,bA,bE⟩:=aD.rules HW.out.box
 go_enter Tryz.func167,Tryz.ntmps167
 go_wp2_with fail
 (generalize bR:World.alloc _ _=w0;have KP:aD w0 (w.heap.size) (iA pid par st q) 126:=bH;have KX:aD w0 (w.heap.size+1) (#[.int .u32 x.1,.int .u32 x.2.1,.int .u32 x.2.2.1,.int .u32 x.2.2.2]) 124:=bH;have hb0:Below w.heap.size w w0:=bN;have hz0:w0.heap.size=w.heap.size+1+1:=bX;clear bR;have KP:=ah KP;have KX:=ah KX)
 ((try clear hcb bC bn bA bE);have bg:=HW.out.below hb0;obtain⟨hcb,bC,bn,bA,bE⟩:=aD.rules bg.box;have lG:=ah bg;clear bg)
 ((try clear fF h_ gF gQ g_);have bx0:=KP.out;obtain⟨fF,h_,gF,gQ,g_⟩:=aD.rules bx0;have rJ:=ah bx0;clear bx0)
 with_reducible refine(HMK.out _ _ lG.out.kr.Pi).mono ?_
 rintro en w1 ⟨v1,rfl,hs1,hr1,hb1⟩
 have hr:=HR.out
 have bW:=hb0.trans (hb1.mono hb0.size)
 obtain⟨a1,m1,c1,rfl⟩:=hs1.is
 have H1:=ah hs1
 have HST:=ah (fun(B:Nat) (hB:B<w.heap.size) (h:Apart B s.Pi k.Pi)=>hr1.apart h (B:=B) aj)
 have Od:=ah (hr1.apart (B:=w.heap.size) (HW.out.kr.Pi.apart (Nat.le_refl _)) aj)
 ((try clear fF h_ gF gQ g_);have bx0:=rJ.out.below hb1 rJ.out.lt;obtain⟨fF,h_,gF,gQ,g_⟩:=aD.rules bx0;have A9:=ah bx0;clear bx0)
 ((try clear hcb bC bn bA bE);have bg:=lG.out.below hb1;obtain⟨hcb,bC,bn,bA,bE⟩:=aD.rules bg.box;have qA:=ah bg;clear bg)
 clear hs1 hr1
 by_cases h1:me=0
 rotate_left
 ·rw[if_neg h1] at hr
  have d1:(me !=0)=true:=yt
  subst hr
  go_wp2_with fail
  exact bodyPost_ret (v:= .tuple #[.int .u32 0,.int .i64 me]) Pj rfl ⟨rfl,⟨s,HW.out.below bW,fun _ _ _ h=>h⟩,aA bW _⟩
 rw[if_pos h1] at hr
 subst h1
 go_wp2_with fail
 with_reducible refine(Y4.out _).mono ?_
 rintro en w2 ⟨rfl,hb2⟩
 have bM:=bW.trans (hb2.mono bW.size)
 ((try clear fF h_ gF gQ g_);have bx0:=A9.out.below hb2 A9.out.lt;obtain⟨fF,h_,gF,gQ,g_⟩:=aD.rules bx0;have CV:=ah bx0;clear bx0)
 have hz2:w.heap.size<w2.heap.size:=gF
 by_cases h2:e1=0
 rotate_left
 ·rw[if_neg h2] at hr
  have d1:(e1 !=0)=true:=uR
  subst hr
  go_wp2_with fail
  exact bodyPost_ret (v:= .tuple #[.int .u32 0,.int .i64 e1]) Pj rfl ⟨rfl,⟨s,HW.out.below aG,fun _ _ _ h=>h⟩,aA aG _⟩
 rw[if_pos h2] at hr
 subst h2
 go_wp2_with fail
 with_reducible refine(HS2.out _).mono ?_
 rintro en w3 ⟨rfl,hb3⟩
 have bt:aD w3 w2.heap.size (agl q1) 122:=(by(try have kt:=(ah True.intro).out);exact bx);obtain⟨hct,hft,hlt,hnt,hmt⟩:=bt.rules;have Kt:=ah bt;clear bt
 have lu:Below w2.heap.size w2 w3:=aG
 have gZ:=bM.trans (lu.mono bM.size)
 ((try clear fF h_ gF gQ g_);have bx0:=CV.out.below lu CV.out.lt;obtain⟨fF,h_,gF,gQ,g_⟩:=aD.rules bx0;have BL:=ah bx0;clear bx0)
 have abH:¬w.heap.size=w2.heap.size:=aj
 have akg:¬w2.heap.size=w.heap.size:=aj
 by_cases h3:e2=0
 rotate_left
 ·rw[if_neg h3] at hr
  have d1:(e2 !=0)=true:=rV
  subst hr
  go_wp2_with fail
  exact bodyPost_ret (v:= .tuple #[.int .u32 0,.int .i64 e2]) Pj rfl ⟨rfl,⟨s,HW.out.below aG,fun _ _ _ h=>h⟩,aA aG _⟩
 rw[if_pos h3] at hr
 subst h3
 have f_:Below w1.heap.size w1 w2:=aG
 clear hb1 hb2 hb3
 go_wp2_with fail
 generalize bR:World.setCell _ _ _=w4
 have jK:Below w.heap.size w w4:=bN
 have akC:EI w3 w4 w.heap.size w2.heap.size:=by
  rw[←bR]
  repeat(first|with_reducible exact EI.refl _ _ _|with_reducible refine EI.aoO ?_ _ _|with_reducible refine EI.aoN ?_ _ _)
 have H3:=ah (H1.out.below (f_.trans (lu.mono f_.size)))
 have H4:=ah (H3.out.ari akC Od.out (H1.out.apart f_.size))
 have Uj:aD w4 w.heap.size (iA pid par st q2) 126:=by
  have kk:=BL.out
  rw[←bR]
  apply aD.cast
  ·repeat(first|with_reducible assumption|with_reducible apply aD.set|with_reducible apply aD.other|omega)
  ·simp only[Yu,Yt,Yr,Yq,Yp,Yo,Yn,Ym]
   exact congrArg (iA pid par st) HQQ.out.symm
 have UG:=ah Uj
 ((try clear hcb bC bn bA bE);have bg:=HW.out.below jK;obtain⟨hcb,bC,bn,bA,bE⟩:=aD.rules bg.box;have zK:=ah bg;clear bg)
 clear bR hct hft hnt hmt
 clear fF h_ gF gQ g_
 ((try clear fF h_ gF gQ g_);have bx0:=UG.out;obtain⟨fF,h_,gF,gQ,g_⟩:=aD.rules bx0;have Ez:=ah bx0;clear bx0)
 ((refine aY (fun W=>Below w4.heap.size w4 W) (fun i=>decide (i<13)&&i !=1) ay ?_);
          have hS:Below w4.heap.size w4 w4.drew:=(Below.refl _ _).drew;
          (refine bV 1 (oi:=⟨some 53,_,_,_,_,_⟩) (v:=?_) rfl ay om (Or.inl ⟨aF,?_⟩) ?_;rotate_left;focus(intro W hW;go_simp;(all_goals with_reducible rfl)));
          (try simp only[pt]);
          (refine tk 0 52 hS ?_);
          (refine tk 2 54 hS ?_);
          (refine tk 3 55 hS ?_);
          (refine tk 4 56 hS ?_);
          (refine tk 5 57 hS ?_);
          (refine tk 6 58 hS ?_);
          (refine tk 7 59 hS ?_ (hy:=Or.inl ⟨aF,qB⟩));
          (refine bL 8 (oi:=⟨some 60,_,_,_,_,_⟩) rfl ay om hS (dh 126 _ rfl (iA pid par st q2) aT.bf (qY _ _ _ _) aF bG (fun W hs=>Ez.out.below hs Ez.out.lt)) ?_);
          (try simp only[pt]);
          (refine aJ 9 (oi:=⟨some 61,_,_,_,_,_⟩) rfl ay rfl (fun K hK=>?_));
          (go_simp;(with_reducible refine(F8 _ k.P pid par st _ L8.out _ (zK.out.kr.P.below hS) hpl).mono ?_);rintro en w5 ⟨v5,rfl,hs5,kV⟩;have hS:=hS.trans (Below.mono kV hS.size);obtain⟨a5,m5,n5,rfl⟩:=hs5.is;(try go_wp2_with fail));
          (refine hK.out _ _ (fun _=>b_) ?_;clear hK K);
          (try simp only[pt]);
          (refine tk 10 62 hS ?_);
          (refine tk 11 63 hS ?_);
          (refine tk 12 64 hS ?_);
          (refine aZ 13 ay ?_ rfl);
          simp only[List.toList_toArray,List.drop_succ_cons,List.drop_zero])
 ((try clear hcb bC bn bA bE);have bg:=zK.out.below hS;obtain⟨hcb,bC,bn,bA,bE⟩:=aD.rules bg.box;have sN:=ah bg;clear bg)
 have H5:=ah hs5
 have H6:=ah (H4.out.below hS)
 have hG:=aB (aA jK (some b)) (aA hS _)
 clear fF h_ gF gQ g_ hs5
 go_wp2_with fail
 have hw6:=sN.out.I5 H6.out HMP.out
 have hw7:=hw6.C8 (H5.out.bO (aO _ _ _ _) (rY sN.out.box H5.out))
 subst hr
 exact bodyPost_ret (v:= .tuple #[.int .u32 (wrap64 (n1+wrap64 (256*n2))%4294967296),.int .i64 0]) Pj rfl ⟨rfl,⟨_,hw7,fun B hB _ h=>⟨h.1,h.2.1,h.2.2.1,h.2.2.2.1,h.2.2.2.2.1,HST.out B hB h.2.2.2.2.2⟩⟩,aB hG (aB (aO _ _ _ _) (aO _ _ _ _))⟩
end Go.Proofs.YtgmodehldmahiaaGreatDoor
end
section
namespace Go.Proofs.YtgmodehldmahiaaGreatDoor
open Go Go.RowKit Go.Tm
attribute [local go_sem] fO fM fK d_ dM dZ dY dX dW dV dU dS dR dQ dP dO dN iQ iP iO iN iM iL iK iG iJ iI fU fT fQ fP fI fH fC
def alv:Value→ByteArray×Int×Int
 |.agg a=>(match a.toList with|[.string d,.int _ r,.int _ q]=>(d,r,q)|_=>(⟨#[]⟩,0,0))
 |_=>(⟨#[]⟩,0,0)
def jY(k:Kn)(n:Int):ByteArray×Int×Int:=alv (k.Pi.getD (n-1).toNat undef)
def sF(k:Kn)(n:Int)(v:Value):Kn:={k with Pi:=k.Pi.set (n-1).toNat v}
def DJ(k:Kn)(q:Pf)(x:qJ):Kn×Int×Int:=
 if(Dh q k.Pi.length x.2.1).2=true∧(lJ q x.2.1).2=true then
  if(vN q.mem x.2.2.1 x.2.2.2).2=0 then
   if(Pipe.uW (jY k (lJ q x.2.1).1).1 (jY k (lJ q x.2.1).1).2.1 (vN q.mem x.2.2.1 x.2.2.2).1).2.2=0 then
    (sF k (lJ q x.2.1).1 (.agg #[.string (Pipe.uW (jY k (lJ q x.2.1).1).1 (jY k (lJ q x.2.1).1).2.1 (vN q.mem x.2.2.1 x.2.2.2).1).1,.int .i64 (jY k (lJ q x.2.1).1).2.1,.int .i64 (jY k (lJ q x.2.1).1).2.2]),
     (Pipe.uW (jY k (lJ q x.2.1).1).1 (jY k (lJ q x.2.1).1).2.1 (vN q.mem x.2.2.1 x.2.2.2).1).2.1%4294967296,0)
   else(k,0,(Pipe.uW (jY k (lJ q x.2.1).1).1 (jY k (lJ q x.2.1).1).2.1 (vN q.mem x.2.2.1 x.2.2.2).1).2.2)
  else(k,0,(vN q.mem x.2.2.1 x.2.2.2).2)
 else(k,0,1)
noncomputable def tL(k:Kn)(p:aT.dz)(x:qJ):Kn×Int×Int:=DJ k (pq p) x
theorem Yh{k:Kn}(h:∀x∈k.Pi,Pipe.nL x){n:Int}(h1:1≤n)(h2:n≤k.Pi.length):∃(i:Nat) (d:ByteArray) (r w:Int),n=(i:Int)+1∧i<k.Pi.length∧k.Pi[i]?=some (.agg #[.string d,.int .i64 r,.int .i64 w])∧jY k n=(d,r,w)∧d.size≤9223372036854775807∧qK r∧qK w:=by
 obtain⟨i,rfl⟩:∃i:Nat,n=(i:Int)+1:=⟨(n-1).toNat,aj⟩
 have hi:i<k.Pi.length:=aj
 obtain⟨d,r,w,he,hd,hr,hw⟩:=h _ (List.getElem_mem hi)
 refine⟨i,d,r,w,rfl,hi,Vm,?_,hd,hr,hw⟩
 unfold jY
 rw[show((i:Int)+1-1).toNat=i by omega,List.getD_eq_getElem?_getD,List.getElem?_eq_getElem hi,he]
 rfl
theorem KW.aju{w w':World}{b:Nat}{s:Ks}{k:Kn}(h:KW w b s k)(hg:w.grownBy w' (some b)){v:Value}{l:List Value}(hb:aD w' b (kC {s with Pi:=v} {k with Pi:=l}) kT)(hv:Sl w' true 3 v l)(hl:∀x∈l,Pipe.nL x):KW w' b {s with Pi:=v} {k with Pi:=l}:=
 ⟨hb,{h.ng hg with Pi:=hv,pi:=hl},h.aL,h.LX,h.MZ⟩
theorem V5:zP 168 tL:=by
 intro b s k p x w hw hk hx
 have HW:=ah hw
 obtain⟨r,hr⟩:∃r,r=tL k p x:=⟨_,rfl⟩
 rw[←hr]
 unfold tL DJ at hr
 (rw[show aT.jQ p=.agg (iA p.pid p.par p.st (pq p)) from congrArg Value.agg (wM p)];have hq:=jR p;generalize pq p=q at*;generalize p.pid=pid at*;generalize p.par=par at*;generalize p.st=st at*;have HQ:=ah hq;clear hq)
 have hlt:=hw.lt
 have hpi:=hk.Pi
 have HPP:=ah hw.kr.pi
 have HPA:=ah (fun n h1 h2=>Yh hw.kr.pi (n:=n) h1 h2)
 have HE:=ah (fun W h=>PZ b s k pid par st q x.2.1 W h hx.2.1)
 have hes:=fun h=>Fw (q:=q) (np:=k.Pi.length) (n:=x.2.1) h
 have jW:=HQ.out.mem
 unfold maxLen at jW
 have HO:=ah (fun W=>PX q.mem x.2.2.1 x.2.2.2 W hx.2.2.1 hx.2.2.2 jW)
 have hos:(vN q.mem x.2.2.1 x.2.2.2).1.size≤9223372036854775807:=by
  unfold vN;split
  ·simp only[ByteArray.size_extract];omega
  ·exact Nat.zero_le _
 generalize vN q.mem x.2.2.1 x.2.2.2=os at*
 obtain⟨o1,o2⟩:=os
 generalize Dh q k.Pi.length x.2.1=es at*
 obtain⟨⟨e1,e2⟩,eb⟩:=es
 dsimp only at hes HE HO hr hos
 have HR:=ah hr
 have HES:=ah hes
 clear hw hes hr
 have hv0:=qY pid par st q
 go_enter Tryz.func168,Tryz.ntmps168
 go_wp2_with(first|((with_reducible refine cK 126 ?_);(refine aK rfl 126 _ rfl (iA pid par st q) aT.bf (hv0) ((aD.new w _ _).alloc _) ?_ ?_;(exact aM)))|fail)
 (generalize bR:World.alloc _ _=w0;have KP:aD w0 (w.heap.size) (iA pid par st q) 126:=bH;have KX:aD w0 (w.heap.size+1) (#[.int .u32 x.1,.int .u32 x.2.1,.int .u32 x.2.2.1,.int .u32 x.2.2.2]) 124:=bH;have hb0:Below w.heap.size w w0:=bN;have hz0:w0.heap.size=w.heap.size+1+1:=bX;clear bR;have KP:=ah KP;have KX:=ah KX)
 ((try clear hcb bC bn bA bE);have bg:=HW.out.below hb0;obtain⟨hcb,bC,bn,bA,bE⟩:=aD.rules bg.box;have lG:=ah bg;clear bg)
 with_reducible refine(HE.out _ lG.out).mono ?_
 rintro en w1 ⟨rfl,hb1⟩
 have bW:=hb0.trans (hb1.mono hb0.size)
 have hz1:=hb1.size
 cases eb
 ·have hr:=HR.out
  exact aiN
 obtain⟨h4,mF,hf2,hfe⟩:=HES.out rfl
 have hr:=HR.out
 rw[←hfe] at hr mF hf2
 dsimp only at hr mF hf2
 cases e2
 ·exact aiN
 rw[if_pos ⟨rfl,rfl⟩] at hr
 ((try clear hcb bC bn bA bE);have bg:=lG.out.below hb1;obtain⟨hcb,bC,bn,bA,bE⟩:=aD.rules bg.box;have qA:=ah bg;clear bg)
 ((try clear fF h_ gF gQ g_);have bx0:=KP.out.below hb1 KP.out.lt;obtain⟨fF,h_,gF,gQ,g_⟩:=aD.rules bx0;have A9:=ah bx0;clear bx0)
 ((try clear gL iZ hlx iY hmx);have bx0:=KX.out.below hb1 KX.out.lt;obtain⟨gL,iZ,hlx,iY,hmx⟩:=aD.rules bx0;have FT:=ah bx0;clear bx0)
 have mE:¬w.heap.size=w1.heap.size:=aj
 have rD:¬w.heap.size+1=w1.heap.size:=aj
 clear hb1
 go_wp2_with fail
 with_reducible refine(HO.out _).mono ?_
 rintro en w2 ⟨rfl,hb2⟩
 have hz2:=hb2.size
 simp only[World.size_alloc] at hz2
 have KD2:=ah ((aD.new w1 (qd (e1,true)).cells 121).below hb2 aI)
 have f_:Below w1.heap.size w1 w2:=aG
 have bM:=bW.trans (f_.mono bW.size)
 ((try clear hcb bC bn bA bE);have bg:=qA.out.below f_;obtain⟨hcb,bC,bn,bA,bE⟩:=aD.rules bg.box;have tC:=ah bg;clear bg)
 clear fF h_ gF gQ g_ gL iZ hlx iY hmx hb2
 ((try clear hcd zy wY yQ zx);have bx0:=KD2.out;obtain⟨hcd,zy,wY,yQ,zx⟩:=aD.rules bx0;have Un:=ah bx0;clear bx0)
 by_cases h2:o2=0
 rotate_left
 ·rw[if_neg h2] at hr
  have e2:(o2 !=0)=true:=uR
  subst hr
  go_wp2_with fail
  exact bodyPost_ret (v:= .tuple #[.int .u32 0,.int .i64 o2]) Ph rfl ⟨rfl,⟨s,HW.out.below bM,fun _ _ _ h=>h⟩,aA bM _⟩
 rw[if_pos h2] at hr
 subst h2
 obtain⟨i,d,pr,pw,rfl,hi,zF,hpa,hd,hpr,hpw⟩:=HPA.out e1 mF hf2
 rw[hpa] at hr
 dsimp only at hr
 have hsl:=tC.out.kr.Pi
 obtain⟨a,cap,hv,hl⟩:=hsl.shape
 rw[hv] at hsl
 obtain⟨b2,off,rfl,akE,hcell⟩:=hsl.at (i:=i) zF
 have hwi:IntKind.i64.wrap ((i:Int)+1-1)=i:=ah0
 have ao1:IntKind.i64.wrap (i:Int)=i:=IntWalk.i64_in _ aj
 have qN:(0:Int)≤(i:Int):=aj
 have xW:(i:Int)<k.Pi.length:=aj
 have HWR:=ah (fun W=>Pipe.ZC d pr pw o1 W hd hos)
 have abE:=Pipe.Tp d pr o1 hd
 generalize Pipe.uW d pr o1=wr at*
 obtain⟨wr1,wr2,wr3⟩:=wr
 dsimp only at HWR hr abE
 have qP:=ah hcell
 have hvp:Val true 3 (.agg #[.string d,.int .i64 pr,.int .i64 pw]):=hsl.val _ (List.mem_of_getElem? zF)
 clear hcell
 go_wp2_with fail
 refine Hy (α:=Nat) (fun q W=>aD W q #[.string wr1,.int .i64 pr,.int .i64 pw] 131∧Below w2.heap.size w2 W∧w2.heap.size≤q) ?G ?_ ?_
 rotate_left
 ·((refine aY (fun W=>Below w2.heap.size w2 W) (fun i=>decide (i<17)&&i !=14&&i !=15) ay ?_);
          have hS:Below w2.heap.size w2 w2.drew:=(Below.refl _ _).drew;
          (refine tk 0 43 hS ?_);
          (refine tk 1 44 hS ?_);
          (refine tk 2 45 hS ?_);
          (refine tk 3 46 hS ?_);
          (refine tk 4 47 hS ?_ (hy:=Or.inl ⟨aF,rM⟩));
          (refine tk 5 48 hS ?_);
          (refine tk 6 49 hS ?_ (hy:=Or.inl ⟨aF,rM⟩));
          (refine tk 7 50 hS ?_);
          (refine tk 8 51 hS ?_);
          (refine bL 9 (oi:=⟨some 52,_,_,_,_,_⟩) rfl ay om hS (jh 131 _ rfl (b:=b2) (off:=off+i*3) #[.string d,.int .i64 pr,.int .i64 pw] Pipe.uo hvp aF bG (fun W hs=>qP.out.below hs akE)) ?_);
          (try simp only[pt]);
          (refine tk 10 53 hS ?_);
          (refine eX 11 16 (oi:=⟨some 54,_,_,_,_,_⟩) (oj:=⟨some 12,_,_,_,_,_⟩) rfl rfl ay rfl rfl (fun K hK=>?_) (fun K hK=>?_));
          (focus((go_simp;(with_reducible refine(HWR.out _).mono ?_);rintro en w4 ⟨rfl,hb4⟩;have hS:=hS.trans (Below.mono hb4 hS.size);(try(have bT:=aD.below bT hb4 bT.lt));(try go_wp2_with fail));(refine hK.out _ _ (fun _=>b_) ?_;clear hK K);(try simp only[pt]);(refine tk 12 42 hS ?_);(try simp only[pt]);(refine bV 14 (oi:=⟨some 56,_,_,_,_,_⟩) (v:=?_) rfl ay om (Or.inl ⟨aF,?_⟩) ?_;rotate_left;focus(intro W hW;go_simp;(all_goals with_reducible rfl)));(try simp only[pt]);(refine bV 15 (oi:=⟨some 57,_,_,_,_,_⟩) (v:=?_) rfl ay om (Or.inl ⟨aF,?_⟩) ?_;rotate_left;focus(intro W hW;go_simp;(all_goals with_reducible rfl)));(try simp only[pt]);(refine tk 13 55 hS ?_);(try simp only[pt]);(refine aJ 16 (oi:=⟨some 12,_,_,_,_,_⟩) rfl ay rfl (fun K hK=>?_));(refine eF 131 rfl (z:= .agg #[.string ⟨#[]⟩,.int .i64 0,.int .i64 0]) ay #[.string ⟨#[]⟩,.int .i64 0,.int .i64 0] rfl ?_);(refine hidS hK (hS.alloc hS.size _) (fun hS=>?_);clear hK K);(try simp only[pt]);(first|(have bT:=aD.new w4 #[.string ⟨#[]⟩,.int .i64 0,.int .i64 0] 131;have dK:Below w4.heap.size w4 (w4.alloc (.cells #[.string ⟨#[]⟩,.int .i64 0,.int .i64 0] 131)):=(Below.refl _ _).alloc (Nat.le_refl _) _;have gy:w2.heap.size≤w4.heap.size:=XI;generalize w4.alloc (.cells #[.string ⟨#[]⟩,.int .i64 0,.int .i64 0] 131)=w5 at hS bT dK⊢;generalize w4.heap.size=qa at bT gy⊢)|(have bT:=aD.new w2.drew #[.string ⟨#[]⟩,.int .i64 0,.int .i64 0] 131;have dK:Below w2.drew.heap.size w2.drew (w2.drew.alloc (.cells #[.string ⟨#[]⟩,.int .i64 0,.int .i64 0] 131)):=(Below.refl _ _).alloc (Nat.le_refl _) _;have gy:w2.heap.size≤w2.drew.heap.size:=M8;generalize w2.drew.alloc (.cells #[.string ⟨#[]⟩,.int .i64 0,.int .i64 0] 131)=w5 at hS bT dK⊢;generalize w2.drew.heap.size=qa at bT gy⊢));exact ajf));
          (focus((refine eF 131 rfl (z:= .agg #[.string ⟨#[]⟩,.int .i64 0,.int .i64 0]) ay #[.string ⟨#[]⟩,.int .i64 0,.int .i64 0] rfl ?_);(refine hidS hK (hS.alloc hS.size _) (fun hS=>?_);clear hK K);(try simp only[pt]);(first|(have bT:=aD.new w4 #[.string ⟨#[]⟩,.int .i64 0,.int .i64 0] 131;have dK:Below w4.heap.size w4 (w4.alloc (.cells #[.string ⟨#[]⟩,.int .i64 0,.int .i64 0] 131)):=(Below.refl _ _).alloc (Nat.le_refl _) _;have gy:w2.heap.size≤w4.heap.size:=XI;generalize w4.alloc (.cells #[.string ⟨#[]⟩,.int .i64 0,.int .i64 0] 131)=w5 at hS bT dK⊢;generalize w4.heap.size=qa at bT gy⊢)|(have bT:=aD.new w2.drew #[.string ⟨#[]⟩,.int .i64 0,.int .i64 0] 131;have dK:Below w2.drew.heap.size w2.drew (w2.drew.alloc (.cells #[.string ⟨#[]⟩,.int .i64 0,.int .i64 0] 131)):=(Below.refl _ _).alloc (Nat.le_refl _) _;have gy:w2.heap.size≤w2.drew.heap.size:=M8;generalize w2.drew.alloc (.cells #[.string ⟨#[]⟩,.int .i64 0,.int .i64 0] 131)=w5 at hS bT dK⊢;generalize w2.drew.heap.size=qa at bT gy⊢));(refine aJ 11 (oi:=⟨some 54,_,_,_,_,_⟩) rfl ay rfl (fun K hK=>?_));(go_simp;(with_reducible refine(HWR.out _).mono ?_);rintro en w4 ⟨rfl,hb4⟩;have hS:=hS.trans (Below.mono hb4 hS.size);(try(have bT:=aD.below bT hb4 bT.lt));(try go_wp2_with fail));(refine hK.out _ _ (fun _=>b_) ?_;clear hK K);(try simp only[pt]);(refine tk 12 42 hS ?_);(try simp only[pt]);(refine bV 14 (oi:=⟨some 56,_,_,_,_,_⟩) (v:=?_) rfl ay om (Or.inl ⟨aF,?_⟩) ?_;rotate_left;focus(intro W hW;go_simp;(all_goals with_reducible rfl)));(try simp only[pt]);(refine bV 15 (oi:=⟨some 57,_,_,_,_,_⟩) (v:=?_) rfl ay om (Or.inl ⟨aF,?_⟩) ?_;rotate_left;focus(intro W hW;go_simp;(all_goals with_reducible rfl)));(try simp only[pt]);(refine tk 13 55 hS ?_);(try simp only[pt]);exact ajf)))
 ·rintro qa w5 ⟨bT,xX,gy⟩
  have iE:=bM.trans (xX.mono bM.size)
  ((try clear hcb bC bn bA bE);have bg:=tC.out.below xX;obtain⟨hcb,bC,bn,bA,bE⟩:=aD.rules bg.box;have sN:=ah bg;clear bg)
  clear hcd zy wY yQ zx
  ((try clear hcd zy wY yQ zx);have bx0:=Un.out.below xX Un.out.lt;obtain⟨hcd,zy,wY,yQ,zx⟩:=aD.rules bx0;have KD5:=ah bx0;clear bx0)
  have apk:w1.heap.size<w2.heap.size:=by have:=Un.out.lt;omega
  have zI:=ah bT
  ((try clear Qz YQ Uw Uf YM);have bx0:=zI.out;obtain⟨Qz,YQ,Uw,Uf,YM⟩:=aD.rules bx0;have vL:=ah bx0;clear bx0)
  by_cases h3:wr3=0
  rotate_left
  ·rw[if_neg h3] at hr
   have e3:(wr3 !=0)=true:=rV
   subst hr
   go_wp2_with fail
   exact bodyPost_ret (v:= .tuple #[.int .u32 0,.int .i64 wr3]) Ph rfl ⟨rfl,⟨s,HW.out.below iE,fun _ _ _ h=>h⟩,aA iE _⟩
  rw[if_pos h3] at hr
  subst h3
  have aj7:=sN.out.kr.Pi
  rw[hv] at aj7
  have ab1:=ah aj7
  clear aj7 bT hsl
  go_wp2_with fail
  with_reducible refine(Pipe.yN _ k.Pi _ ab1.out aj).mono ?_
  rintro en w6 ⟨v6,rfl,Uv,kM⟩
  obtain⟨g,n6,rfl,UQ,abN,hbg,N_,hfg,hcg⟩:=Uv.form aj
  ((try clear hcb bC bn bA bE);have bg:=sN.out.below kM;obtain⟨hcb,bC,bn,bA,bE⟩:=aD.rules bg.box;have LZ:=ah bg;clear bg)
  have KD6:=ah (KD5.out.below kM KD5.out.lt)
  have M5:=ah (vL.out.below kM vL.out.lt)
  have apT:=sN.out.lt
  have dK:=KD5.out.lt
  have kV:=vL.out.lt
  have Ip:=ah Uv
  clear hcd zy wY yQ zx Qz YQ Uw Uf YM hfg hcg Uv
  go_wp2_with fail
  generalize bR:World.setCell _ _ _=w7
  have yS:w6.grownBy w7 (some b):=qg
  have bb7:aD w7 b (kC {s with Pi:= .slice (some ⟨g,0,none⟩) k.Pi.length n6} k) kT:=by rw[←bR];exact(LZ.out.box.set 4 _).cast (acY _ _ _)
  have KD7:=ah (KD6.out.grown yS aV)
  have xg:=ah (M5.out.grown yS aV)
  have HO7:=ah (Ip.out.Dx yS apT)
  have Y0:=ah bb7
  clear bR hcb bC bn bA bE bb7
  obtain⟨hcb,bC,bn,bA,bE⟩:=aD.rules Y0.out
  obtain⟨hcd,zy,wY,yQ,zx⟩:=aD.rules KD7.out
  obtain⟨Qz,YQ,Uw,Uf,YM⟩:=aD.rules xg.out
  ((refine aY (fun W=>Below w7.heap.size w7 W) (fun i=>decide (i<10)) ay ?_);
          have hS:Below w7.heap.size w7 w7.drew:=(Below.refl _ _).drew;
          (refine tk 0 71 hS ?_);
          (refine tk 1 72 hS ?_);
          (refine tk 2 73 hS ?_);
          (refine tk 3 74 hS ?_);
          (refine tk 4 75 hS ?_ (hy:=Or.inl ⟨aF,Zc⟩));
          (refine tk 5 76 hS ?_);
          (refine tk 6 77 hS ?_ (hy:=Or.inl ⟨aF,Zc⟩));
          (refine tk 7 78 hS ?_);
          (refine tk 8 79 hS ?_ (hy:=Or.inl ⟨aF,Zc⟩));
          (refine tk 9 80 hS ?_);
          (refine aZ 10 ay ?_ rfl);
          simp only[List.toList_toArray,List.drop_succ_cons,List.drop_zero])
  have Ba:=ah (HO7.out.kept hS)
  have hvn:Val true 3 (.agg #[.string wr1,.int .i64 pr,.int .i64 pw]):=⟨_,rfl,rfl,M7⟩
  have QL:=ah (Y0.out.below hS Y0.out.lt)
  go_wp2_with(first|((with_reducible refine bS 131 ?_);(refine eB (base:=w5.heap.size) rfl _ _ rfl Pipe.uo g k.Pi.length n6 Ba.out i hi ?_ (.agg #[.string wr1,.int .i64 pr,.int .i64 pw]) ?_ hvn ?_;(exact aM);(exact aM);(intro w8 AY Uh;have GX:=ah AY;have KBD:=ah (QL.out.grown Uh aV);clear AY)))|fail)
  have hG5:w5.grownBy w8 (some b):=nu (aB (aB (aA kM _) yS) (aA hS _)) Uh hbg
  have ajY:Pipe.nL (.agg #[.string wr1,.int .i64 pr,.int .i64 pw]):=⟨wr1,pr,pw,rfl,abE,hpr,hpw⟩
  have hw8:=sN.out.aju hG5 (KBD.out.cast wQ) GX.out.sl (Pipe.R8 HPP.out ajY)
  unfold sF at hr
  rw[show((i:Int)+1-1).toNat=i by omega] at hr
  subst hr
  exact bodyPost_ret (v:= .tuple #[.int .u32 (wr2%4294967296),.int .i64 0]) Ph rfl ⟨rfl,⟨_,hw8,fun B hB _ h=>⟨h.1,h.2.1,h.2.2.1,h.2.2.2.1,h.2.2.2.2.1,.inr fun c hc=>by have:=GX.out.iy c hc;have:=iE.size;omega⟩⟩,aB (aA iE _) hG5⟩
end Go.Proofs.YtgmodehldmahiaaGreatDoor
end
