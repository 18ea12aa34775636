/- Part 23 of 50 of the proof of topWindows_holds. Conditions: see each. -/
import Derived.Test.YtgmodehldmahiaaGreatDoorW14
import Derived.Test.YtgmodehldmahiaaGreatDoorW18
import Derived.Test.YtgmodehldmahiaaGreatDoorW10
set_option linter.unusedVariables false
set_option linter.unusedSimpArgs false
set_option maxRecDepth 8192
set_option maxHeartbeats 40000000
section
namespace Go.Proofs.YtgmodehldmahiaaGreatDoor
open Go Go.RowKit Go.Tm
attribute [local go_sem] fB fA fu dR dA dQ dP dO dN dM dL dK dJ dI dH dG dF iq ig h_ g_ gZ gY gX gN gW gV fF fE fD fC eY eX eU
abbrev abF(q:Pf):Array Value:=Pipe.uM q.p0 q.p1 q.p2 q.p3 q.b0 q.b1 q.b2 q.b3
def mO(q:Pf)(n:Int)(wb:Bool):Pf×Int×Int:=
 if q.p0=0 then({q with p0:=n,b0:=wb},0,0) else if q.p1=0 then({q with p1:=n,b1:=wb},1,0) else if q.p2=0 then({q with p2:=n,b2:=wb},2,0) else if q.p3=0 then({q with p3:=n,b3:=wb},3,0) else(q,0,5)
theorem MW(q:Pf)(n:Int)(wb:Bool)(w:World):
  Calls Tryz.prog 199 #[.agg (abF q),.agg #[.int .i64 n,.bool wb]] w fun e w'=>e=.returned (.tuple #[.agg (abF (mO q n wb).1),.int .i64 (mO q n wb).2.1,.int .i64 (mO q n wb).2.2])∧Below w.heap.size w w':=by
 have h:=Pipe.ab_ q.p0 q.p1 q.p2 q.p3 n q.b0 q.b1 q.b2 q.b3 wb w
 have he:Pipe.tT q.p0 q.p1 q.p2 q.p3 q.b0 q.b1 q.b2 q.b3 n wb=(abF (mO q n wb).1,(mO q n wb).2.1,(mO q n wb).2.2):=by
  unfold Pipe.tT mO
  split;·rfl
  split;·rfl
  split;·rfl
  split;·rfl
  rfl
 rw[he] at h
 exact h
theorem SX{q:Pf}(h:q.Ok){n:Int}(hn:wfi n)(wb:Bool):(mO q n wb).1.Ok:=by
 unfold mO
 split;·exact{h with p0:=hn}
 split;·exact{h with p1:=hn}
 split;·exact{h with p2:=hn}
 split;·exact{h with p3:=hn}
 exact h
theorem Jb(q:Pf)(n:Int)(wb:Bool):(mO q n wb).1={q with p0:=(mO q n wb).1.p0,b0:=(mO q n wb).1.b0,p1:=(mO q n wb).1.p1,b1:=(mO q n wb).1.b1,p2:=(mO q n wb).1.p2,b2:=(mO q n wb).1.b2,p3:=(mO q n wb).1.p3,b3:=(mO q n wb).1.b3}:=by
 unfold mO
 split;·rfl
 split;·rfl
 split;·rfl
 split;·rfl
 rfl
noncomputable def sN(k:Kn)(p:Tab.bV)(x:nW):Kn×Int×Int:=
 if(Pipe.kH k.Pi).2.2=0 then
  if(mO (pq p) (Pipe.kH k.Pi).2.1 false).2.2=0 then
   if(mO (mO (pq p) (Pipe.kH k.Pi).2.1 false).1 (Pipe.kH k.Pi).2.1 true).2.2=0 then
    ({k with Pi:=(Pipe.kH k.Pi).1,P:=Tab.lW k.P (yK p.pid p.par p.st (mO (mO (pq p) (Pipe.kH k.Pi).2.1 false).1 (Pipe.kH k.Pi).2.1 true).1)},
     wrap64 ((mO (pq p) (Pipe.kH k.Pi).2.1 false).2.1+wrap64 (256*(mO (mO (pq p) (Pipe.kH k.Pi).2.1 false).1 (Pipe.kH k.Pi).2.1 true).2.1))%4294967296,0)
   else(k,0,(mO (mO (pq p) (Pipe.kH k.Pi).2.1 false).1 (Pipe.kH k.Pi).2.1 true).2.2)
  else(k,0,(mO (pq p) (Pipe.kH k.Pi).2.1 false).2.2)
 else(k,0,(Pipe.kH k.Pi).2.2)
theorem Vu(xs:List Value)(h:xs.length≤1000000000):wfi (Pipe.kH xs).2.1:=by
 unfold Pipe.kH
 have hi:idx Pipe.vJ xs≤xs.length:=by
  unfold idx
  split
  ·rename_i i hi
   rw[List.findIdx?_eq_some_iff_getElem] at hi
   obtain⟨hi,_⟩:=hi
   omega
  ·omega
 split
 ·split
  ·rfl
  ·exact ad7
 ·exact ad7
theorem Vo:wG 167 sN:=by
 intro b s k p x w hw hk hx
 have HW:=Lib.hid hw
 obtain⟨r,hr⟩:∃r,r=sN k p x:=⟨_,rfl⟩
 rw[←hr]
 unfold sN at hr
 ((rw[show Tab.je p=.agg (gu p.pid p.par p.st (pq p)) from congrArg Value.agg (sW p)]);(have hq:=iY p);(generalize pq p=q at*);(generalize p.pid=pid at*);(generalize p.par=par at*);(generalize p.st=st at*);(have HQ:=Lib.hid hq);(clear hq))
 have hlt:=hw.lt
 have hpl:=hk.P
 have HMK:=Lib.hid (fun v W h=>Pipe.aaE v k.Pi W h hw.kr.pi (by have:=hk.Pi;omega))
 have HMP:=Lib.hid (Pipe.Rf hw.kr.pi)
 have afH:=Vu k.Pi hk.Pi
 generalize Pipe.kH k.Pi=mk at*
 obtain⟨mk1,n,me⟩:=mk
 dsimp only at HMK HMP hr afH
 have TV:=Lib.hid (fun W=>MW q n false W)
 have hq1:=SX HQ.out afH false
 have hs1:=Jb q n false
 generalize mO q n false=t1 at*
 obtain⟨q1,n1,e1⟩:=t1
 dsimp only at TV hq1 hr hs1
 have HS2:=Lib.hid (fun W=>MW q1 n true W)
 have hq2:=SX hq1 afH true
 have hs2:=Jb q1 n true
 generalize mO q1 n true=t2 at*
 obtain⟨q2,n2,e2⟩:=t2
 dsimp only at HS2 hq2 hr hs2
 have Hq:=Lib.hid hq2
 have hqq:q2={q with p0:=q2.p0,b0:=q2.b0,p1:=q2.p1,b1:=q2.b1,p2:=q2.p2,b2:=q2.b2,p3:=q2.p3,b3:=q2.b3}:=by
  rw[hs1] at hs2;exact hs2
 have HR:=Lib.hid hr
 have HQQ:=Lib.hid hqq
 clear hw hr hq1 hq2 hs1 hs2 hqq
 (obtain⟨hcb,bn,hlb,hnb,hmb⟩:=aC.rules HW.out.box)
 go_enter Tryz.func167,Tryz.ntmps167
 go_wp2_with fail
 ((generalize bN:World.alloc _ _=w0);(have KP:aC w0 (w.heap.size) (gu pid par st q) 126:=bA);(have KX:aC w0 (w.heap.size+1) (#[.int .u32 x.1,.int .u32 x.2.1,.int .u32 x.2.2.1,.int .u32 x.2.2.2]) 124:=bA);(have hb0:Below w.heap.size w w0:=bM);(have hz0:w0.heap.size=w.heap.size+1+1:=bX);(clear bN);(have KP:=Lib.hid KP);(have KX:=Lib.hid KX))
 ((try clear hcb bn hlb hnb hmb);(have aW:=HW.out.below hb0);(obtain⟨hcb,bn,hlb,hnb,hmb⟩:=aC.rules aW.box);(have jV:=Lib.hid aW);(clear aW))
 ((try clear hcp hfp hlp hnp hmp);(have bx0:=KP.out);(obtain⟨hcp,hfp,hlp,hnp,hmp⟩:=aC.rules bx0);(have oM:=Lib.hid bx0);(clear bx0))
 with_reducible refine(HMK.out _ _ jV.out.kr.Pi).mono ?_
 rintro en w1 ⟨v1,rfl,hs1,hr1,hb1⟩
 have hr:=HR.out
 have bP:=hb0.trans (hb1.mono hb0.size)
 obtain⟨a1,m1,c1,rfl⟩:=hs1.is
 have H1:=Lib.hid hs1
 have HST:=Lib.hid (fun(B:Nat) (hB:B<w.heap.size) (h:Apart B s.Pi k.Pi)=>hr1.apart h (B:=B) ah)
 have HA1:=Lib.hid (hr1.apart (B:=w.heap.size) (HW.out.kr.Pi.apart (Nat.le_refl _)) ah)
 ((try clear hcp hfp hlp hnp hmp);(have bx0:=oM.out.below hb1 oM.out.lt);(obtain⟨hcp,hfp,hlp,hnp,hmp⟩:=aC.rules bx0);(have xS:=Lib.hid bx0);(clear bx0))
 ((try clear hcb bn hlb hnb hmb);(have aW:=jV.out.below hb1);(obtain⟨hcb,bn,hlb,hnb,hmb⟩:=aC.rules aW.box);(have nL:=Lib.hid aW);(clear aW))
 clear hs1 hr1
 by_cases h1:me=0
 rotate_left
 ·rw[if_neg h1] at hr
  have d1:(me !=0)=true:=rH
  subst hr
  go_wp2_with fail
  exact bodyPost_ret (v:= .tuple #[.int .u32 0,.int .i64 me]) J6 rfl ⟨rfl,⟨s,HW.out.below bP,fun _ _ _ h=>h⟩,ay bP _⟩
 rw[if_pos h1] at hr
 subst h1
 go_wp2_with fail
 with_reducible refine(TV.out _).mono ?_
 rintro en w2 ⟨rfl,hb2⟩
 have hbw2:=bP.trans (hb2.mono bP.size)
 ((try clear hcp hfp hlp hnp hmp);(have bx0:=xS.out.below hb2 xS.out.lt);(obtain⟨hcp,hfp,hlp,hnp,hmp⟩:=aC.rules bx0);(have zM:=Lib.hid bx0);(clear bx0))
 have hz2:w.heap.size<w2.heap.size:=hlp
 by_cases h2:e1=0
 rotate_left
 ·rw[if_neg h2] at hr
  have d1:(e1 !=0)=true:=rG
  subst hr
  go_wp2_with fail
  exact bodyPost_ret (v:= .tuple #[.int .u32 0,.int .i64 e1]) J6 rfl ⟨rfl,⟨s,HW.out.below aD,fun _ _ _ h=>h⟩,ay aD _⟩
 rw[if_pos h2] at hr
 subst h2
 go_wp2_with fail
 with_reducible refine(HS2.out _).mono ?_
 rintro en w3 ⟨rfl,hb3⟩
 (have bt:aC w3 w2.heap.size (abF q1) 122:=(by(try have kt:=(Lib.hid True.intro).out);exact bx));(obtain⟨hct,hft,hlt,hnt,hmt⟩:=bt.rules);(have Kt:=Lib.hid bt);(clear bt)
 have jO:Below w2.heap.size w2 w3:=aD
 have fJ:=hbw2.trans (jO.mono hbw2.size)
 ((try clear hcp hfp hlp hnp hmp);(have bx0:=zM.out.below jO zM.out.lt);(obtain⟨hcp,hfp,hlp,hnp,hmp⟩:=aC.rules bx0);(have yN:=Lib.hid bx0);(clear bx0))
 have hne1:¬w.heap.size=w2.heap.size:=ah
 have hne2:¬w2.heap.size=w.heap.size:=ah
 by_cases h3:e2=0
 rotate_left
 ·rw[if_neg h3] at hr
  have d1:(e2 !=0)=true:=o_
  subst hr
  go_wp2_with fail
  exact bodyPost_ret (v:= .tuple #[.int .u32 0,.int .i64 e2]) J6 rfl ⟨rfl,⟨s,HW.out.below aD,fun _ _ _ h=>h⟩,ay aD _⟩
 rw[if_pos h3] at hr
 subst h3
 have eP:Below w1.heap.size w1 w2:=aD
 clear hb1 hb2 hb3
 go_wp2_with fail
 generalize bN:World.setCell _ _ _=w4
 have nU:Below w.heap.size w w4:=bM
 have afW:BF w3 w4 w.heap.size w2.heap.size:=by
  rw[←bN]
  repeat(first|with_reducible exact BF.refl _ _ _|with_reducible refine BF.ajw ?_ _ _|with_reducible refine BF.ajv ?_ _ _)
 have H3:=Lib.hid (H1.out.below (eP.trans (jO.mono eP.size)))
 have H4:=Lib.hid (H3.out.akp afW HA1.out (H1.out.apart eP.size))
 have Oy:aC w4 w.heap.size (gu pid par st q2) 126:=by
  have kk:=yN.out
  rw[←bN]
  apply aC.cast
  ·repeat(first|with_reducible assumption|with_reducible apply aC.set|with_reducible apply aC.other|omega)
  ·simp only[Tt,Tq,Tp,Tn,Tk,Tj,Ti,Tg]
   exact congrArg (gu pid par st) HQQ.out.symm
 have OV:=Lib.hid Oy
 ((try clear hcb bn hlb hnb hmb);(have aW:=HW.out.below nU);(obtain⟨hcb,bn,hlb,hnb,hmb⟩:=aC.rules aW.box);(have vU:=Lib.hid aW);(clear aW))
 clear bN hct hft hnt hmt
 clear hcp hfp hlp hnp hmp
 ((try clear hcp hfp hlp hnp hmp);(have bx0:=OV.out);(obtain⟨hcp,hfp,hlp,hnp,hmp⟩:=aC.rules bx0);(have Bu:=Lib.hid bx0);(clear bx0))
 ((refine aY (fun W=>Below w4.heap.size w4 W) (fun i=>decide (i<13)&&i !=1) aj ?_);
          (have hS:Below w4.heap.size w4 w4.drew:=(Below.refl _ _).drew);
          (refine bG 1 (oi:=⟨some 53,_,_,_,_,_⟩) (v:=?_) rfl aj sx (Or.inl ⟨aF,?_⟩) ?_;rotate_left;focus((intro W hW);go_simp;(all_goals with_reducible rfl)));
          (try simp only[pt]);
          (refine tk 0 52 hS ?_);
          (refine tk 2 54 hS ?_);
          (refine tk 3 55 hS ?_);
          (refine tk 4 56 hS ?_);
          (refine tk 5 57 hS ?_);
          (refine tk 6 58 hS ?_);
          (refine tk 7 59 hS ?_ (hy:=Or.inl ⟨aF,nM⟩));
          (refine cO 8 (oi:=⟨some 60,_,_,_,_,_⟩) rfl aj sx hS (dx 126 _ rfl (gu pid par st q2) Tab.aX (oz _ _ _ _) aF bg (fun W hs=>Bu.out.below hs Bu.out.lt)) ?_);
          (try simp only[pt]);
          (refine aK 9 (oi:=⟨some 61,_,_,_,_,_⟩) rfl aj rfl (fun K hK=>?_));
          (go_simp;(with_reducible refine(C9 _ k.P pid par st _ Hq.out _ (vU.out.kr.P.below hS) hpl).mono ?_);rintro en w5 ⟨v5,rfl,hs5,hb5⟩;(have hS:=hS.trans (Below.mono hb5 hS.size));(obtain⟨a5,m5,n5,rfl⟩:=hs5.is);(try go_wp2_with fail));
          (refine hK.out _ _ (fun _=>bF) ?_;clear hK K);
          (try simp only[pt]);
          (refine tk 10 62 hS ?_);
          (refine tk 11 63 hS ?_);
          (refine tk 12 64 hS ?_);
          (refine aT 13 aj ?_ rfl);
          (simp only[List.toList_toArray,List.drop_succ_cons,List.drop_zero]))
 ((try clear hcb bn hlb hnb hmb);(have aW:=vU.out.below hS);(obtain⟨hcb,bn,hlb,hnb,hmb⟩:=aC.rules aW.box);(have pU:=Lib.hid aW);(clear aW))
 have H5:=Lib.hid hs5
 have H6:=Lib.hid (H4.out.below hS)
 have hG:=aA (ay nU (some b)) (ay hS _)
 clear hcp hfp hlp hnp hmp hs5
 go_wp2_with fail
 have hw6:=pU.out.EJ H6.out HMP.out
 have hw7:=hw6.zP (H5.out.bC (aM _ _ _ _) (pG pU.out.box H5.out))
 subst hr
 exact bodyPost_ret (v:= .tuple #[.int .u32 (wrap64 (n1+wrap64 (256*n2))%4294967296),.int .i64 0]) J6 rfl ⟨rfl,⟨_,hw7,fun B hB _ h=>⟨h.1,h.2.1,h.2.2.1,h.2.2.2.1,h.2.2.2.2.1,HST.out B hB h.2.2.2.2.2⟩⟩,aA hG (aA (aM _ _ _ _) (aM _ _ _ _))⟩
end Go.Proofs.YtgmodehldmahiaaGreatDoor
end
section
namespace Go.Proofs.YtgmodehldmahiaaGreatDoor
open Go Go.RowKit Go.Tm
attribute [local go_sem] fB fA fu dR dA dQ dP dO dN dM dL dK dJ dI dH dG dF iq ig h_ g_ gZ gY gX gN gW gV fF fE fD fC eY eX eU
def agQ:Value→ByteArray×Int×Int
 |.agg a=>(match a.toList with|[.string d,.int _ r,.int _ q]=>(d,r,q)|_=>(⟨#[]⟩,0,0))
 |_=>(⟨#[]⟩,0,0)
def jf(k:Kn)(n:Int):ByteArray×Int×Int:=agQ (k.Pi.getD (n-1).toNat undef)
def ni(k:Kn)(n:Int)(v:Value):Kn:={k with Pi:=k.Pi.set (n-1).toNat v}
def xq(k:Kn)(q:Pf)(x:nW):Kn×Int×Int:=
 if(zX q k.Pi.length x.2.1).2=true∧(jY q x.2.1).2=true then
  if(sD q.mem x.2.2.1 x.2.2.2).2=0 then
   if(Pipe.rO (jf k (jY q x.2.1).1).1 (jf k (jY q x.2.1).1).2.1 (sD q.mem x.2.2.1 x.2.2.2).1).2.2=0 then
    (ni k (jY q x.2.1).1 (.agg #[.string (Pipe.rO (jf k (jY q x.2.1).1).1 (jf k (jY q x.2.1).1).2.1 (sD q.mem x.2.2.1 x.2.2.2).1).1,.int .i64 (jf k (jY q x.2.1).1).2.1,.int .i64 (jf k (jY q x.2.1).1).2.2]),
     (Pipe.rO (jf k (jY q x.2.1).1).1 (jf k (jY q x.2.1).1).2.1 (sD q.mem x.2.2.1 x.2.2.2).1).2.1%4294967296,0)
   else(k,0,(Pipe.rO (jf k (jY q x.2.1).1).1 (jf k (jY q x.2.1).1).2.1 (sD q.mem x.2.2.1 x.2.2.2).1).2.2)
  else(k,0,(sD q.mem x.2.2.1 x.2.2.2).2)
 else(k,0,1)
noncomputable def oq(k:Kn)(p:Tab.bV)(x:nW):Kn×Int×Int:=xq k (pq p) x
theorem Ta{k:Kn}(h:∀x∈k.Pi,Pipe.lI x){n:Int}(h1:1≤n)(h2:n≤k.Pi.length):∃(i:Nat) (d:ByteArray) (r w:Int),n=(i:Int)+1∧i<k.Pi.length∧k.Pi[i]?=some (.agg #[.string d,.int .i64 r,.int .i64 w])∧jf k n=(d,r,w)∧d.size≤9223372036854775807∧wfi r∧wfi w:=by
 obtain⟨i,rfl⟩:∃i:Nat,n=(i:Int)+1:=⟨(n-1).toNat,ah⟩
 have hi:i<k.Pi.length:=ah
 obtain⟨d,r,w,he,hd,hr,hw⟩:=h _ (List.getElem_mem hi)
 refine⟨i,d,r,w,rfl,hi,PW,?_,hd,hr,hw⟩
 unfold jf
 rw[show((i:Int)+1-1).toNat=i by omega,List.getD_eq_getElem?_getD,List.getElem?_eq_getElem hi,he]
 rfl
theorem KW.aeX{w w':World}{b:Nat}{s:Ks}{k:Kn}(h:KW w b s k)(hg:w.grownBy w' (some b)){v:Value}{l:List Value}(hb:aC w' b (kC {s with Pi:=v} {k with Pi:=l}) kT)(hv:Sl w' true 3 v l)(hl:∀x∈l,Pipe.lI x):KW w' b {s with Pi:=v} {k with Pi:=l}:=
 ⟨hb,{h.kS hg with Pi:=hv,pi:=hl},h.aL,h.Hg,h.Iu⟩
theorem QA:wG 168 oq:=by
 intro b s k p x w hw hk hx
 have HW:=Lib.hid hw
 obtain⟨r,hr⟩:∃r,r=oq k p x:=⟨_,rfl⟩
 rw[←hr]
 unfold oq xq at hr
 ((rw[show Tab.je p=.agg (gu p.pid p.par p.st (pq p)) from congrArg Value.agg (sW p)]);(have hq:=iY p);(generalize pq p=q at*);(generalize p.pid=pid at*);(generalize p.par=par at*);(generalize p.st=st at*);(have HQ:=Lib.hid hq);(clear hq))
 have hlt:=hw.lt
 have hpi:=hk.Pi
 have HPP:=Lib.hid hw.kr.pi
 have HPA:=Lib.hid (fun n h1 h2=>Ta hw.kr.pi (n:=n) h1 h2)
 have HE:=Lib.hid (fun W h=>KG b s k pid par st q x.2.1 W h hx.2.1)
 have hes:=fun h=>Ct (q:=q) (np:=k.Pi.length) (n:=x.2.1) h
 have hmem:=HQ.out.mem
 unfold maxLen at hmem
 have HO:=Lib.hid (fun W=>Kz q.mem x.2.2.1 x.2.2.2 W hx.2.2.1 hx.2.2.2 hmem)
 have hos:(sD q.mem x.2.2.1 x.2.2.2).1.size≤9223372036854775807:=by
  unfold sD;split
  ·simp only[ByteArray.size_extract];omega
  ·exact Nat.zero_le _
 generalize sD q.mem x.2.2.1 x.2.2.2=os at*
 obtain⟨o1,o2⟩:=os
 generalize zX q k.Pi.length x.2.1=es at*
 obtain⟨⟨e1,e2⟩,eb⟩:=es
 dsimp only at hes HE HO hr hos
 have HR:=Lib.hid hr
 have HES:=Lib.hid hes
 clear hw hes hr
 have hv0:=oz pid par st q
 go_enter Tryz.func168,Tryz.ntmps168
 go_wp2_with(first|((with_reducible refine bS 126 ?_);(refine aJ rfl 126 _ rfl (gu pid par st q) Tab.aX (hv0) ((aC.new w _ _).alloc _) ?_ ?_;(exact aG)))|fail)
 ((generalize bN:World.alloc _ _=w0);(have KP:aC w0 (w.heap.size) (gu pid par st q) 126:=bA);(have KX:aC w0 (w.heap.size+1) (#[.int .u32 x.1,.int .u32 x.2.1,.int .u32 x.2.2.1,.int .u32 x.2.2.2]) 124:=bA);(have hb0:Below w.heap.size w w0:=bM);(have hz0:w0.heap.size=w.heap.size+1+1:=bX);(clear bN);(have KP:=Lib.hid KP);(have KX:=Lib.hid KX))
 ((try clear hcb bn hlb hnb hmb);(have aW:=HW.out.below hb0);(obtain⟨hcb,bn,hlb,hnb,hmb⟩:=aC.rules aW.box);(have jV:=Lib.hid aW);(clear aW))
 with_reducible refine(HE.out _ jV.out).mono ?_
 rintro en w1 ⟨rfl,hb1⟩
 have bP:=hb0.trans (hb1.mono hb0.size)
 have hz1:=hb1.size
 cases eb
 ·have hr:=HR.out
  exact aer
 obtain⟨h4,hf1,hf2,hfe⟩:=HES.out rfl
 have hr:=HR.out
 rw[←hfe] at hr hf1 hf2
 dsimp only at hr hf1 hf2
 cases e2
 ·exact aer
 rw[if_pos ⟨rfl,rfl⟩] at hr
 ((try clear hcb bn hlb hnb hmb);(have aW:=jV.out.below hb1);(obtain⟨hcb,bn,hlb,hnb,hmb⟩:=aC.rules aW.box);(have nL:=Lib.hid aW);(clear aW))
 ((try clear hcp hfp hlp hnp hmp);(have bx0:=KP.out.below hb1 KP.out.lt);(obtain⟨hcp,hfp,hlp,hnp,hmp⟩:=aC.rules bx0);(have xS:=Lib.hid bx0);(clear bx0))
 ((try clear hcx hfx hlx hnx hmx);(have bx0:=KX.out.below hb1 KX.out.lt);(obtain⟨hcx,hfx,hlx,hnx,hmx⟩:=aC.rules bx0);(have CV:=Lib.hid bx0);(clear bx0))
 have hn1:¬w.heap.size=w1.heap.size:=ah
 have hn2:¬w.heap.size+1=w1.heap.size:=ah
 clear hb1
 go_wp2_with fail
 with_reducible refine(HO.out _).mono ?_
 rintro en w2 ⟨rfl,hb2⟩
 have hz2:=hb2.size
 simp only[World.size_alloc] at hz2
 have KD2:=Lib.hid ((aC.new w1 (ny (e1,true)).cells 121).below hb2 aI)
 have eP:Below w1.heap.size w1 w2:=aD
 have hbw2:=bP.trans (eP.mono bP.size)
 ((try clear hcb bn hlb hnb hmb);(have aW:=nL.out.below eP);(obtain⟨hcb,bn,hlb,hnb,hmb⟩:=aC.rules aW.box);(have qg:=Lib.hid aW);(clear aW))
 clear hcp hfp hlp hnp hmp hcx hfx hlx hnx hmx hb2
 ((try clear hcd uF hld hnd hmd);(have bx0:=KD2.out);(obtain⟨hcd,uF,hld,hnd,hmd⟩:=aC.rules bx0);(have OC:=Lib.hid bx0);(clear bx0))
 by_cases h2:o2=0
 rotate_left
 ·rw[if_neg h2] at hr
  have e2:(o2 !=0)=true:=rG
  subst hr
  go_wp2_with fail
  exact bodyPost_ret (v:= .tuple #[.int .u32 0,.int .i64 o2]) J5 rfl ⟨rfl,⟨s,HW.out.below hbw2,fun _ _ _ h=>h⟩,ay hbw2 _⟩
 rw[if_pos h2] at hr
 subst h2
 obtain⟨i,d,pr,pw,rfl,hi,hget,hpa,hd,hpr,hpw⟩:=HPA.out e1 hf1 hf2
 rw[hpa] at hr
 dsimp only at hr
 have hsl:=qg.out.kr.Pi
 obtain⟨a,cap,hv,hl⟩:=hsl.shape
 rw[hv] at hsl
 obtain⟨b2,off,rfl,af4,hcell⟩:=hsl.at (i:=i) hget
 have hwi:IntKind.i64.wrap ((i:Int)+1-1)=i:=adz
 have ajI:IntKind.i64.wrap (i:Int)=i:=IntWalk.i64_in _ ah
 have hi0:(0:Int)≤(i:Int):=ah
 have hil:(i:Int)<k.Pi.length:=ah
 have HWR:=Lib.hid (fun W=>Pipe.UC d pr pw o1 W hd hos)
 have Xm:=Pipe.NH d pr o1 hd
 generalize Pipe.rO d pr o1=wr at*
 obtain⟨WL,wr2,wr3⟩:=wr
 dsimp only at HWR hr Xm
 have nu:=Lib.hid hcell
 have hvp:Val true 3 (.agg #[.string d,.int .i64 pr,.int .i64 pw]):=hsl.val _ (List.mem_of_getElem? hget)
 clear hcell
 go_wp2_with fail
 refine Ed (α:=Nat) (fun q W=>aC W q #[.string WL,.int .i64 pr,.int .i64 pw] 131∧Below w2.heap.size w2 W∧w2.heap.size≤q) ?G ?_ ?_
 rotate_left
 ·((refine aY (fun W=>Below w2.heap.size w2 W) (fun i=>decide (i<17)&&i !=14&&i !=15) aj ?_);
          (have hS:Below w2.heap.size w2 w2.drew:=(Below.refl _ _).drew);
          (refine tk 0 43 hS ?_);
          (refine tk 1 44 hS ?_);
          (refine tk 2 45 hS ?_);
          (refine tk 3 46 hS ?_);
          (refine tk 4 47 hS ?_ (hy:=Or.inl ⟨aF,oN⟩));
          (refine tk 5 48 hS ?_);
          (refine tk 6 49 hS ?_ (hy:=Or.inl ⟨aF,oN⟩));
          (refine tk 7 50 hS ?_);
          (refine tk 8 51 hS ?_);
          (refine cO 9 (oi:=⟨some 52,_,_,_,_,_⟩) rfl aj sx hS (gU 131 _ rfl (b:=b2) (off:=off+i*3) #[.string d,.int .i64 pr,.int .i64 pw] Pipe.qJ hvp aF bg (fun W hs=>nu.out.below hs af4)) ?_);
          (try simp only[pt]);
          (refine tk 10 53 hS ?_);
          (refine gI 11 16 (oi:=⟨some 54,_,_,_,_,_⟩) (oj:=⟨some 12,_,_,_,_,_⟩) rfl rfl aj rfl rfl (fun K hK=>?_) (fun K hK=>?_));
          (focus((go_simp;(with_reducible refine(HWR.out _).mono ?_);rintro en w4 ⟨rfl,hb4⟩;(have hS:=hS.trans (Below.mono hb4 hS.size));(try(have fV:=aC.below fV hb4 fV.lt));(try go_wp2_with fail));(refine hK.out _ _ (fun _=>bF) ?_;clear hK K);(try simp only[pt]);(refine tk 12 42 hS ?_);(try simp only[pt]);(refine bG 14 (oi:=⟨some 56,_,_,_,_,_⟩) (v:=?_) rfl aj sx (Or.inl ⟨aF,?_⟩) ?_;rotate_left;focus((intro W hW);go_simp;(all_goals with_reducible rfl)));(try simp only[pt]);(refine bG 15 (oi:=⟨some 57,_,_,_,_,_⟩) (v:=?_) rfl aj sx (Or.inl ⟨aF,?_⟩) ?_;rotate_left;focus((intro W hW);go_simp;(all_goals with_reducible rfl)));(try simp only[pt]);(refine tk 13 55 hS ?_);(try simp only[pt]);(refine aK 16 (oi:=⟨some 12,_,_,_,_,_⟩) rfl aj rfl (fun K hK=>?_));(refine iH 131 rfl (z:= .agg #[.string ⟨#[]⟩,.int .i64 0,.int .i64 0]) aj #[.string ⟨#[]⟩,.int .i64 0,.int .i64 0] rfl ?_);(refine hidS hK (hS.alloc hS.size _) (fun hS=>?_);clear hK K);(try simp only[pt]);(first|((have fV:=aC.new w4 #[.string ⟨#[]⟩,.int .i64 0,.int .i64 0] 131);(have hd5:Below w4.heap.size w4 (w4.alloc (.cells #[.string ⟨#[]⟩,.int .i64 0,.int .i64 0] 131)):=(Below.refl _ _).alloc (Nat.le_refl _) _);(have mK:w2.heap.size≤w4.heap.size:=Si);(generalize w4.alloc (.cells #[.string ⟨#[]⟩,.int .i64 0,.int .i64 0] 131)=w5 at hS fV hd5⊢);(generalize w4.heap.size=qa at fV mK⊢))|((have fV:=aC.new w2.drew #[.string ⟨#[]⟩,.int .i64 0,.int .i64 0] 131);(have hd5:Below w2.drew.heap.size w2.drew (w2.drew.alloc (.cells #[.string ⟨#[]⟩,.int .i64 0,.int .i64 0] 131)):=(Below.refl _ _).alloc (Nat.le_refl _) _);(have mK:w2.heap.size≤w2.drew.heap.size:=IC);(generalize w2.drew.alloc (.cells #[.string ⟨#[]⟩,.int .i64 0,.int .i64 0] 131)=w5 at hS fV hd5⊢);(generalize w2.drew.heap.size=qa at fV mK⊢)));(refine aT 17 aj ?_ rfl);(simp only[List.toList_toArray,List.drop_succ_cons,List.drop_zero]);((obtain⟨hcq,Ov,hlq,hnq,Oq⟩:=aC.rules fV);go_wp2_with fail;(refine Joined.of qa ⟨?_,?_,mK⟩ ?_);(focus(exact((fV.set 0 _).set 1 _).set 2 _));(focus exact bl);with_reducible rfl)));
          (focus((refine iH 131 rfl (z:= .agg #[.string ⟨#[]⟩,.int .i64 0,.int .i64 0]) aj #[.string ⟨#[]⟩,.int .i64 0,.int .i64 0] rfl ?_);(refine hidS hK (hS.alloc hS.size _) (fun hS=>?_);clear hK K);(try simp only[pt]);(first|((have fV:=aC.new w4 #[.string ⟨#[]⟩,.int .i64 0,.int .i64 0] 131);(have hd5:Below w4.heap.size w4 (w4.alloc (.cells #[.string ⟨#[]⟩,.int .i64 0,.int .i64 0] 131)):=(Below.refl _ _).alloc (Nat.le_refl _) _);(have mK:w2.heap.size≤w4.heap.size:=Si);(generalize w4.alloc (.cells #[.string ⟨#[]⟩,.int .i64 0,.int .i64 0] 131)=w5 at hS fV hd5⊢);(generalize w4.heap.size=qa at fV mK⊢))|((have fV:=aC.new w2.drew #[.string ⟨#[]⟩,.int .i64 0,.int .i64 0] 131);(have hd5:Below w2.drew.heap.size w2.drew (w2.drew.alloc (.cells #[.string ⟨#[]⟩,.int .i64 0,.int .i64 0] 131)):=(Below.refl _ _).alloc (Nat.le_refl _) _);(have mK:w2.heap.size≤w2.drew.heap.size:=IC);(generalize w2.drew.alloc (.cells #[.string ⟨#[]⟩,.int .i64 0,.int .i64 0] 131)=w5 at hS fV hd5⊢);(generalize w2.drew.heap.size=qa at fV mK⊢)));(refine aK 11 (oi:=⟨some 54,_,_,_,_,_⟩) rfl aj rfl (fun K hK=>?_));(go_simp;(with_reducible refine(HWR.out _).mono ?_);rintro en w4 ⟨rfl,hb4⟩;(have hS:=hS.trans (Below.mono hb4 hS.size));(try(have fV:=aC.below fV hb4 fV.lt));(try go_wp2_with fail));(refine hK.out _ _ (fun _=>bF) ?_;clear hK K);(try simp only[pt]);(refine tk 12 42 hS ?_);(try simp only[pt]);(refine bG 14 (oi:=⟨some 56,_,_,_,_,_⟩) (v:=?_) rfl aj sx (Or.inl ⟨aF,?_⟩) ?_;rotate_left;focus((intro W hW);go_simp;(all_goals with_reducible rfl)));(try simp only[pt]);(refine bG 15 (oi:=⟨some 57,_,_,_,_,_⟩) (v:=?_) rfl aj sx (Or.inl ⟨aF,?_⟩) ?_;rotate_left;focus((intro W hW);go_simp;(all_goals with_reducible rfl)));(try simp only[pt]);(refine tk 13 55 hS ?_);(try simp only[pt]);(refine aT 17 aj ?_ rfl);(simp only[List.toList_toArray,List.drop_succ_cons,List.drop_zero]);((obtain⟨hcq,Ov,hlq,hnq,Oq⟩:=aC.rules fV);go_wp2_with fail;(refine Joined.of qa ⟨?_,?_,mK⟩ ?_);(focus(exact((fV.set 0 _).set 1 _).set 2 _));(focus exact bl);with_reducible rfl))))
 ·rintro qa w5 ⟨fV,hS5,mK⟩
  have jC:=hbw2.trans (hS5.mono hbw2.size)
  ((try clear hcb bn hlb hnb hmb);(have aW:=qg.out.below hS5);(obtain⟨hcb,bn,hlb,hnb,hmb⟩:=aC.rules aW.box);(have pU:=Lib.hid aW);(clear aW))
  clear hcd uF hld hnd hmd
  ((try clear hcd uF hld hnd hmd);(have bx0:=OC.out.below hS5 OC.out.lt);(obtain⟨hcd,uF,hld,hnd,hmd⟩:=aC.rules bx0);(have KD5:=Lib.hid bx0);(clear bx0))
  have hneq:w1.heap.size<w2.heap.size:=by have:=OC.out.lt;omega
  have G6:=Lib.hid fV
  ((try clear hcq Ov hlq hnq Oq);(have bx0:=G6.out);(obtain⟨hcq,Ov,hlq,hnq,Oq⟩:=aC.rules bx0);(have yc:=Lib.hid bx0);(clear bx0))
  by_cases h3:wr3=0
  rotate_left
  ·rw[if_neg h3] at hr
   have e3:(wr3 !=0)=true:=o_
   subst hr
   go_wp2_with fail
   exact bodyPost_ret (v:= .tuple #[.int .u32 0,.int .i64 wr3]) J5 rfl ⟨rfl,⟨s,HW.out.below jC,fun _ _ _ h=>h⟩,ay jC _⟩
  rw[if_pos h3] at hr
  subst h3
  have afA:=pU.out.kr.Pi
  rw[hv] at afA
  have XG:=Lib.hid afA
  clear afA fV hsl
  go_wp2_with fail
  with_reducible refine(Pipe.vB _ k.Pi _ XG.out ah).mono ?_
  rintro en w6 ⟨v6,rfl,OL,hb6⟩
  obtain⟨g,n6,rfl,O7,Xu,hbg,hgl,hfg,hcg⟩:=OL.form ah
  ((try clear hcb bn hlb hnb hmb);(have aW:=pU.out.below hb6);(obtain⟨hcb,bn,hlb,hnb,hmb⟩:=aC.rules aW.box);(have Ho:=Lib.hid aW);(clear aW))
  have KD6:=Lib.hid (KD5.out.below hb6 KD5.out.lt)
  have KB7:=Lib.hid (yc.out.below hb6 yc.out.lt)
  have ahN:=pU.out.lt
  have hd5:=KD5.out.lt
  have hb5:=yc.out.lt
  have OX:=Lib.hid OL
  clear hcd uF hld hnd hmd hcq Ov hlq hnq Oq hfg hcg OL
  go_wp2_with fail
  generalize bN:World.setCell _ _ _=w7
  have vC:w6.grownBy w7 (some b):=nA
  have bb7:aC w7 b (kC {s with Pi:= .slice (some ⟨g,0,none⟩) k.Pi.length n6} k) kT:=by rw[←bN];exact(Ho.out.box.set 4 _).cast (Yp _ _ _)
  have KD7:=Lib.hid (KD6.out.grown vC aR)
  have x9:=Lib.hid (KB7.out.grown vC aR)
  have HO7:=Lib.hid (OX.out.Ai vC ahN)
  have TR:=Lib.hid bb7
  clear bN hcb bn hlb hnb hmb bb7
  (obtain⟨hcb,bn,hlb,hnb,hmb⟩:=aC.rules TR.out)
  (obtain⟨hcd,uF,hld,hnd,hmd⟩:=aC.rules KD7.out)
  (obtain⟨hcq,Ov,hlq,hnq,Oq⟩:=aC.rules x9.out)
  ((refine aY (fun W=>Below w7.heap.size w7 W) (fun i=>decide (i<10)) aj ?_);
          (have hS:Below w7.heap.size w7 w7.drew:=(Below.refl _ _).drew);
          (refine tk 0 71 hS ?_);
          (refine tk 1 72 hS ?_);
          (refine tk 2 73 hS ?_);
          (refine tk 3 74 hS ?_);
          (refine tk 4 75 hS ?_ (hy:=Or.inl ⟨aF,Ua⟩));
          (refine tk 5 76 hS ?_);
          (refine tk 6 77 hS ?_ (hy:=Or.inl ⟨aF,Ua⟩));
          (refine tk 7 78 hS ?_);
          (refine tk 8 79 hS ?_ (hy:=Or.inl ⟨aF,Ua⟩));
          (refine tk 9 80 hS ?_);
          (refine aT 10 aj ?_ rfl);
          (simp only[List.toList_toArray,List.drop_succ_cons,List.drop_zero]))
  have zN:=Lib.hid (HO7.out.kept hS)
  have WZ:Val true 3 (.agg #[.string WL,.int .i64 pr,.int .i64 pw]):=⟨_,rfl,rfl,IB⟩
  have KBC:=Lib.hid (TR.out.below hS TR.out.lt)
  go_wp2_with(first|((with_reducible refine bO 131 ?_);(refine dw (base:=w5.heap.size) rfl _ _ rfl Pipe.qJ g k.Pi.length n6 zN.out i hi ?_ (.agg #[.string WL,.int .i64 pr,.int .i64 pw]) ?_ WZ ?_;(exact aG);(exact aG);(intro w8 xQ Ot;(have Bt:=Lib.hid xQ);(have KBD:=Lib.hid (KBC.out.grown Ot aR));(clear xQ))))|fail)
  have hG5:w5.grownBy w8 (some b):=kV (aA (aA (ay hb6 _) vC) (ay hS _)) Ot hbg
  have afs:Pipe.lI (.agg #[.string WL,.int .i64 pr,.int .i64 pw]):=⟨WL,pr,pw,rfl,Xm,hpr,hpw⟩
  have hw8:=pU.out.aeX hG5 (KBD.out.cast tC) Bt.out.sl (Pipe.MV HPP.out afs)
  unfold ni at hr
  rw[show((i:Int)+1-1).toNat=i by omega] at hr
  subst hr
  exact bodyPost_ret (v:= .tuple #[.int .u32 (wr2%4294967296),.int .i64 0]) J5 rfl ⟨rfl,⟨_,hw8,fun B hB _ h=>⟨h.1,h.2.1,h.2.2.1,h.2.2.2.1,h.2.2.2.2.1,.inr fun c hc=>by have:=Bt.out.fP c hc;have:=jC.size;omega⟩⟩,aA (ay jC _) hG5⟩
end Go.Proofs.YtgmodehldmahiaaGreatDoor
end
