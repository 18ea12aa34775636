/- Part 22 of 50 of the proof of topWindows_holds. Conditions: see each. -/
import Derived.Test.YtgmodehldmahiaaGreatDoorW14
import Derived.Test.YtgmodehldmahiaaGreatDoorW17
import Derived.Test.YtgmodehldmahiaaGreatDoorW20
import Derived.Test.YtgmodehldmahiaaGreatDoorW18
import Derived.Test.YtgmodehldmahiaaGreatDoorW10
set_option linter.unusedVariables false
set_option linter.unusedSimpArgs false
set_option maxRecDepth 8192
set_option maxHeartbeats 40000000
section
namespace Go.Proofs.YtgmodehldmahiaaGreatDoor
open Go Go.RowKit Go.Tm
attribute [local go_sem] fB fA fu dR dA dQ dP dO dN dM dL dK dJ dI dH dG dF iq ig h_ g_ gZ gY gX gN gW gV fF fE fD fC eY eX eU
noncomputable def vH(k:Kn)(p:Tab.bV)(st:Int)(x:nW):Kn:=
 {k with P:=Tab.lW k.P (yK p.pid p.par st {pq p with x:=x}),L:=(Turn.gM k.L k.left p.pid).1,left:=(Turn.gM k.L k.left p.pid).2}
theorem I_(b:Nat)(s:Ks)(k:Kn)(p:Tab.bV)(st2:Int)(x:nW)(w:World)(hw:KW w b s k)(hk:Fit k)(hx:iJ x):
  Calls Tryz.prog 147 #[.pointer (some ⟨b,0,none⟩),Tab.je p,.int .i64 st2,sP x] w fun en w'=>en=.returned (.tuple #[])∧KS w b s k w' (vH k p st2 x)∧w.grownBy w' (some b):=by
 have HW:=Lib.hid hw
 unfold vH
 ((rw[show Tab.je p=.agg (gu p.pid p.par p.st (pq p)) from congrArg Value.agg (sW p)]);(have hq:=iY p);(generalize pq p=q at*);(generalize p.pid=pid at*);(generalize p.par=par at*);(generalize p.st=st at*);(have HQ:=Lib.hid hq);(clear hq))
 have hlt:=hw.lt
 clear hw
 go_enter Tryz.func147,Tryz.ntmps147
 go_wp2_with fail
 ((generalize bN:World.alloc _ _=w0);(have KP:aC w0 (w.heap.size) (gu pid par st q) 126:=bA);(have KX:aC w0 (w.heap.size+1) (#[.int .u32 x.1,.int .u32 x.2.1,.int .u32 x.2.2.1,.int .u32 x.2.2.2]) 124:=bA);(have hb0:Below w.heap.size w w0:=bM);(have hz0:w0.heap.size=w.heap.size+1+1:=bX);(clear bN);(have KP:=Lib.hid KP);(have KX:=Lib.hid KX))
 have hT:Ty Tryz.prog 3 1 false:=Turn.j5
 ((refine aY (fun W=>aC W (w.heap.size+1) #[.int .u32 x.1,.int .u32 x.2.1,.int .u32 x.2.2.1,.int .u32 x.2.2.2] 124∧Below w.heap.size w0 W) (fun i=>decide (i<6)) aj ?_);
          (have hS:(fun W=>aC W (w.heap.size+1) #[.int .u32 x.1,.int .u32 x.2.1,.int .u32 x.2.2.1,.int .u32 x.2.2.2] 124∧Below w.heap.size w0 W) w0.drew:=⟨KX.out.drew,(Below.refl _ _).drew⟩);
          (refine tk 0 8 hS ?_);
          (refine tk 1 9 hS ?_ (hy:=Or.inl ⟨aF,by((intro W hW);((obtain⟨hW,hWb⟩:=hW);(have hcx:=hW.rules.1));go_simp;(all_goals with_reducible rfl))⟩));
          (refine tk 2 10 hS ?_);
          (refine aK 3 (oi:=⟨none,_,_,_,_,_⟩) rfl aj rfl (fun K hK=>?_));
          ((refine dB 3 _ _ rfl KP.out.drew (.int .i64 st2) hT ⟨rfl,rfl⟩ (by rw[rV];decide) (gu pid par st2 q) (agR st2) bg bg ?_;intro w1 hp1 hg1 hz1 hb1));
          (refine hidS hK (⟨hS.1.grown hg1 aI,hS.2.trans hb1⟩) (fun hS=>?_);clear hK K);
          (try simp only[pt]);
          (refine tk 4 11 hS ?_);
          (refine aK 5 (oi:=⟨none,_,_,_,_,_⟩) rfl aj rfl (fun K hK=>?_));
          ((refine dB 124 _ _ rfl hp1 (sP x) Kq (F5 x) (by rw[rV];decide) (gu pid par st2 {q with x:=x}) (acj x) bg bg ?_;intro w2 hp2 hg2 hz2 hb2));
          (refine hidS hK (⟨hS.1.grown hg2 aI,hS.2.trans hb2⟩) (fun hS=>?_);clear hK K);
          (try simp only[pt]);
          (refine lQ aj ?_))
 have hb1:=hS.2
 have bp1:=hp2
 have HQ1:Hid (Pf.Ok {q with x:=x}):=Lib.hid {HQ.out with x:=hx}
 obtain⟨q1,hq1⟩:∃q1:Pf,q1={q with x:=x}:=⟨_,rfl⟩
 rw[←hq1] at bp1 HQ1
 have HE1:=Lib.hid hq1
 have bP:Below w.heap.size w w2:=hb0.trans hb1
 have xS:=Lib.hid bp1
 ((try clear hcb bn hlb hnb hmb);(have aW:=HW.out.below bP);(obtain⟨hcb,bn,hlb,hnb,hmb⟩:=aC.rules aW.box);(have nL:=Lib.hid aW);(clear aW))
 ((try clear hcp hfp hlp hnp hmp);(have bx0:=xS.out);(obtain⟨hcp,hfp,hlp,hnp,hmp⟩:=aC.rules bx0);(have zM:=Lib.hid bx0);(clear bx0))
 clear hq1 bp1 hb1 KP KX hS hp1 hp2 hg1 hg2
 go_wp2_with fail
 ((refine aY (fun W=>Below w2.heap.size w2 W) (fun i=>decide (i<20)&&i !=1) aj ?_);
          (have hS:Below w2.heap.size w2 w2.drew:=(Below.refl _ _).drew);
          (refine bG 1 (oi:=⟨some 13,_,_,_,_,_⟩) (v:=?_) rfl aj sx (Or.inl ⟨aF,?_⟩) ?_;rotate_left;focus((intro W hW);go_simp;(all_goals with_reducible rfl)));
          (try simp only[pt]);
          (refine tk 0 12 hS ?_);
          (refine tk 2 14 hS ?_);
          (refine tk 3 15 hS ?_);
          (refine tk 4 16 hS ?_);
          (refine tk 5 17 hS ?_);
          (refine tk 6 18 hS ?_ (hy:=Or.inl ⟨aF,nM⟩));
          (refine cO 7 (oi:=⟨some 19,_,_,_,_,_⟩) rfl aj sx hS (dx 126 _ rfl (gu pid par st2 q1) Tab.aX (oz _ _ _ _) aF bg (fun W hs=>xS.out.below hs xS.out.lt)) ?_);
          (try simp only[pt]);
          (refine tk 9 21 hS ?_);
          (refine tk 10 22 hS ?_);
          (refine tk 11 23 hS ?_);
          (refine tk 12 24 hS ?_);
          (refine tk 13 25 hS ?_ (hy:=Or.inl ⟨aF,nM⟩));
          (refine tk 14 26 hS ?_);
          (refine tk 15 27 hS ?_ (hy:=Or.inl ⟨aF,nM⟩));
          (refine aK 8 (oi:=⟨some 20,_,_,_,_,_⟩) rfl aj rfl (fun K hK=>?_));
          (go_simp;(with_reducible refine(C9 _ k.P pid par st2 q1 HQ1.out _ (nL.out.kr.P.below hS) hk.P).mono ?_);rintro en w4 ⟨v4,rfl,hs4,hb4⟩;(have hS:=hS.trans (Below.mono hb4 hS.size));(obtain⟨a4,m4,n4,rfl⟩:=hs4.is);(try go_wp2_with fail));
          (refine hK.out _ _ (fun _=>bF) ?_;clear hK K);
          (try simp only[pt]);
          (refine aK 16 (oi:=⟨some 28,_,_,_,_,_⟩) rfl aj rfl (fun K hK=>?_));
          (go_simp;(with_reducible refine(Turn.AZ s.L k.L k.left pid _ (nL.out.kr.L.below hS) Pz).mono ?_);rintro en w5 ⟨v5,rfl,hs5,hr5,hb5⟩;(have hS:=hS.trans (Below.mono hb5 hS.size));(obtain⟨a5,m5,n5,rfl⟩:=hs5.is);(have hs4:=hs4.below hb5);(have ha5:=hr5.apart nL.out.aL (by have:=Below.size ‹Below w2.heap.size w2 w4›;have:=nL.out.lt;omega));(have vX:∀B,B<w.heap.size→Apart B s.L (ints k.L)→Apart B _ _:=fun B hB h=>hr5.apart h (by have:=Below.size ‹Below w2.heap.size w2 w4›;have:=bP.size;omega));(try go_wp2_with fail));
          (refine hK.out _ _ (fun _=>bF) ?_;clear hK K);
          (try simp only[pt]);
          (refine tk 17 29 hS ?_);
          (refine tk 18 30 hS ?_);
          (refine tk 19 31 hS ?_);
          (refine aT 20 aj ?_ rfl);
          (simp only[List.toList_toArray,List.drop_succ_cons,List.drop_zero]))
 ((try clear hcb bn hlb hnb hmb);(have aW:=nL.out.below hS);(obtain⟨hcb,bn,hlb,hnb,hmb⟩:=aC.rules aW.box);(have pU:=Lib.hid aW);(clear aW))
 have HG:=Lib.hid (aA (ay bP (some b)) (ay hS (some b)))
 have H4:=Lib.hid hs4
 have H5:=Lib.hid hs5
 have HA:=Lib.hid ha5
 have HST:=Lib.hid vX
 clear hcp hfp hlp hnp hmp hs4 hs5 ha5 hr5 vX bP
 go_wp2_with fail
 have hw6:=(pU.out.zP H4.out).Ah (H5.out.bC (aM _ _ _ _) HA.out) HA.out
 rw[←HE1.out]
 exact bodyPost_end (v:= .tuple #[]) (by simp[results,Tryz.results147,go_sem]) rfl ⟨rfl,⟨_,hw6.set_left _,fun B hB _ h=>⟨HST.out B hB h.1,h.2⟩⟩,aA HG.out (aA (aM _ _ _ _) (aA (aM _ _ _ _) (aM _ _ _ _)))⟩
end Go.Proofs.YtgmodehldmahiaaGreatDoor
end
section
namespace Go.Proofs.YtgmodehldmahiaaGreatDoor
open Go Go.RowKit Go.Tm
theorem abV(w:World):Calls Tryz.prog 139 #[.int .u32 4] w fun en w'=>en=.returned (.tuple #[.agg #[.func (.func 163) #[] #[]],.bool true])∧Below w.heap.size w w':=by
 go_enter Tryz.func139,Tryz.ntmps139
 go_wp2_with fail
 exact bodyPost_ret (v:= .tuple #[.agg #[.func (.func 163) #[] #[]],.bool true]) rJ rfl ⟨rfl,aD⟩
theorem ahh:Body Tryz.prog 163:=eZ Tryz.func163 aj aj
theorem abU(w:World):Calls Tryz.prog 139 #[.int .u32 6] w fun en w'=>en=.returned (.tuple #[.agg #[.func (.func 164) #[] #[]],.bool true])∧Below w.heap.size w w':=by
 go_enter Tryz.func139,Tryz.ntmps139
 go_wp2_with fail
 exact bodyPost_ret (v:= .tuple #[.agg #[.func (.func 164) #[] #[]],.bool true]) rJ rfl ⟨rfl,aD⟩
theorem ahg:Body Tryz.prog 164:=eZ Tryz.func164 aj aj
theorem abT(w:World):Calls Tryz.prog 139 #[.int .u32 9] w fun en w'=>en=.returned (.tuple #[.agg #[.func (.func 165) #[] #[]],.bool true])∧Below w.heap.size w w':=by
 go_enter Tryz.func139,Tryz.ntmps139
 go_wp2_with fail
 exact bodyPost_ret (v:= .tuple #[.agg #[.func (.func 165) #[] #[]],.bool true]) rJ rfl ⟨rfl,aD⟩
theorem ahf:Body Tryz.prog 165:=eZ Tryz.func165 aj aj
theorem ZR(w:World):Calls Tryz.prog 139 #[.int .u32 10] w fun en w'=>en=.returned (.tuple #[.agg #[.func (.func 166) #[] #[]],.bool true])∧Below w.heap.size w w':=by
 go_enter Tryz.func139,Tryz.ntmps139
 go_wp2_with fail
 exact bodyPost_ret (v:= .tuple #[.agg #[.func (.func 166) #[] #[]],.bool true]) rJ rfl ⟨rfl,aD⟩
theorem ac3:Body Tryz.prog 166:=eZ Tryz.func166 aj aj
theorem ZQ(w:World):Calls Tryz.prog 139 #[.int .u32 11] w fun en w'=>en=.returned (.tuple #[.agg #[.func (.func 167) #[] #[]],.bool true])∧Below w.heap.size w w':=by
 go_enter Tryz.func139,Tryz.ntmps139
 go_wp2_with fail
 exact bodyPost_ret (v:= .tuple #[.agg #[.func (.func 167) #[] #[]],.bool true]) rJ rfl ⟨rfl,aD⟩
theorem ac2:Body Tryz.prog 167:=eZ Tryz.func167 aj aj
theorem ZP(w:World):Calls Tryz.prog 139 #[.int .u32 12] w fun en w'=>en=.returned (.tuple #[.agg #[.func (.func 168) #[] #[]],.bool true])∧Below w.heap.size w w':=by
 go_enter Tryz.func139,Tryz.ntmps139
 go_wp2_with fail
 exact bodyPost_ret (v:= .tuple #[.agg #[.func (.func 168) #[] #[]],.bool true]) rJ rfl ⟨rfl,aD⟩
theorem ac1:Body Tryz.prog 168:=eZ Tryz.func168 aj aj
theorem ZO(w:World):Calls Tryz.prog 139 #[.int .u32 13] w fun en w'=>en=.returned (.tuple #[.agg #[.func (.func 169) #[] #[]],.bool true])∧Below w.heap.size w w':=by
 go_enter Tryz.func139,Tryz.ntmps139
 go_wp2_with fail
 exact bodyPost_ret (v:= .tuple #[.agg #[.func (.func 169) #[] #[]],.bool true]) rJ rfl ⟨rfl,aD⟩
theorem ac0:Body Tryz.prog 169:=eZ Tryz.func169 aj aj
theorem ZN(w:World):Calls Tryz.prog 139 #[.int .u32 14] w fun en w'=>en=.returned (.tuple #[.agg #[.func (.func 170) #[] #[]],.bool true])∧Below w.heap.size w w':=by
 go_enter Tryz.func139,Tryz.ntmps139
 go_wp2_with fail
 exact bodyPost_ret (v:= .tuple #[.agg #[.func (.func 170) #[] #[]],.bool true]) rJ rfl ⟨rfl,aD⟩
theorem acZ:Body Tryz.prog 170:=eZ Tryz.func170 aj aj
theorem ZM(w:World):Calls Tryz.prog 139 #[.int .u32 15] w fun en w'=>en=.returned (.tuple #[.agg #[.func (.func 171) #[] #[]],.bool true])∧Below w.heap.size w w':=by
 go_enter Tryz.func139,Tryz.ntmps139
 go_wp2_with fail
 exact bodyPost_ret (v:= .tuple #[.agg #[.func (.func 171) #[] #[]],.bool true]) rJ rfl ⟨rfl,aD⟩
theorem acY:Body Tryz.prog 171:=eZ Tryz.func171 aj aj
theorem ZL(w:World):Calls Tryz.prog 139 #[.int .u32 16] w fun en w'=>en=.returned (.tuple #[.agg #[.func (.func 172) #[] #[]],.bool true])∧Below w.heap.size w w':=by
 go_enter Tryz.func139,Tryz.ntmps139
 go_wp2_with fail
 exact bodyPost_ret (v:= .tuple #[.agg #[.func (.func 172) #[] #[]],.bool true]) rJ rfl ⟨rfl,aD⟩
theorem acX:Body Tryz.prog 172:=eZ Tryz.func172 aj aj
def Fx(n:Int):Bool:=decide (n=4∨n=6∨n=9∨n=10∨n=11∨n=12∨n=13∨n=14∨n=15∨n=16)
theorem ZK(n:Int)(w:World)(h:Fx n=false):Calls Tryz.prog 139 #[.int .u32 n] w fun en w'=>en=.returned (.tuple #[.agg #[.nilFunc],.bool false])∧Below w.heap.size w w':=by
 unfold Fx at h
 simp only[decide_eq_false_iff_not,not_or] at h
 obtain⟨h1,h2,h3,h4,h5,h6,h7,h8,h9,h10⟩:=h
 have e1:(n==4)=false:=BJ
 have e2:(n==6)=false:=BI
 have e3:(n==9)=false:=by simpa using h3
 have e4:(n==10)=false:=by simpa using h4
 have e5:(n==11)=false:=by simpa using h5
 have e6:(n==12)=false:=by simpa using h6
 have e7:(n==13)=false:=by simpa using h7
 have e8:(n==14)=false:=by simpa using h8
 have e9:(n==15)=false:=by simpa using h9
 have e10:(n==16)=false:=by simpa using h10
 go_enter Tryz.func139,Tryz.ntmps139
 go_wp2_with fail
 exact bodyPost_ret (v:= .tuple #[.agg #[.nilFunc],.bool false]) rJ rfl ⟨rfl,aD⟩
end Go.Proofs.YtgmodehldmahiaaGreatDoor
end
section
namespace Go.Proofs.YtgmodehldmahiaaGreatDoor
open Go Go.RowKit Go.Tm
attribute [local go_sem] fB fA fu dR dA dQ dP dO dN dM dL dK dJ dI dH dG dF iq ig h_ g_ gZ gY gX gN gW gV fF fE fD fC eY eX eU
noncomputable def CQ(r:Kn×Int×Int)(pid:Int)(x:nW):Kn×Bool:=
 if r.2.2=6∧x.1≠16 then(r.1,false) else(bU r.1 (Tab.bD r.1.P pid).1 x r.2.1 r.2.2,true)
def zh(r:Kn×Int×Int)(b:Nat)(s:Ks)(k:Kn)(pid:Int)(x:nW)(w:World):Prop:=
 Calls Tryz.prog 111 #[.pointer (some ⟨b,0,none⟩),.int .i64 pid,sP x] w fun en w'=>en=.returned (.bool (CQ r pid x).2)∧KS w b s k w' (CQ r pid x).1∧w.grownBy w' (some b)
theorem Zi(p p':Tab.bV):((Tab.dS p).toList.take 0++(Tab.je p').cells.toList++(Tab.dS p).toList.drop (0+26)).toArray=Tab.dS p':=adY
theorem V_(l:List Tab.bV)(pid:Int):(Tab.bD [(Tab.bD l pid).1] pid).1=(Tab.bD l pid).1:=by
 unfold Tab.bD
 cases h:l.find? (fun x=>decide (x.pid=pid)) with
 |none=>
  simp only[List.find?_cons,List.find?_nil]
  cases decide ((Tab.jl 0).pid=pid)<;>rfl
 |some x=>
  have:=List.find?_some h
  simp only[decide_eq_true_eq] at this
  simp[List.find?_cons,this]
theorem mX{fid:FuncId}{D:Kn→Tab.bV→nW→Kn×Int×Int}(hB:Body Tryz.prog fid)(hD:wG fid D)(b:Nat)(s:Ks)(k:Kn)(pid:Int)(x:nW)(w:World)
  (hT:∀W:World,Calls Tryz.prog 139 #[.int .u32 x.1] W fun en w'=>en=.returned (.tuple #[.agg #[.func (.func fid) #[] #[]],.bool true])∧Below W.heap.size W w')
  (hw:KW w b s k)(hk:Fit k)(hx:iJ x)(hk2:Fit (D k (Tab.bD k.P pid).1 x).1)(hv:cK (Call.qj (D k (Tab.bD k.P pid).1 x).2.2 (D k (Tab.bD k.P pid).1 x).2.1)):
  zh (D k (Tab.bD k.P pid).1 x) b s k pid x w:=by
 unfold zh
 have HW:=Lib.hid hw
 have hlt:=hw.lt
 have HF:=Lib.hid (fun(W:World) (h:Below w.heap.size w W)=>Tab.lN s.P k.P pid W (hw.kr.P.below h))
 have HT:=Lib.hid hT
 have HD:=Lib.hid (fun W h=>hD b s k (Tab.bD k.P pid).1 x W h hk hx)
 have hself:=V_ k.P pid
 generalize Tab.bD k.P pid=fs at*
 obtain⟨p,ok⟩:=fs
 dsimp only at HD hk2 hv hself⊢
 generalize D k p x=r at*
 obtain⟨k1,r1,r2⟩:=r
 dsimp only at HD hk2 hv⊢
 obtain⟨y,hy⟩:∃y,y=CQ (k1,r1,r2) pid x:=⟨_,rfl⟩
 rw[←hy]
 unfold CQ at hy
 dsimp only at hy
 have HY:=Lib.hid hy
 unfold Body at hB
 have hpv:=Tab.fq p
 obtain⟨aP,mP,nP,R7⟩:=hw.kr.P.is
 rw[R7] at HF
 clear hw hT hD hy
 have tY:=Below.refl w.heap.size w
 ((try clear hcb bn hlb hnb hmb);(have aW:=HW.out.below tY);(obtain⟨hcb,bn,hlb,hnb,hmb⟩:=aC.rules aW.box);(have jV:=Lib.hid aW);(clear aW))
 go_enter Tryz.func111,Tryz.ntmps111
 go_wp2_with fail
 with_reducible refine(HF.out _ aD).mono ?_
 rintro en w1 ⟨rfl,hb1⟩
 have KX:=Lib.hid (aC.new w #[.int .u32 x.1,.int .u32 x.2.1,.int .u32 x.2.2.1,.int .u32 x.2.2.2] 124)
 have hz1:=hb1.size
 simp only[World.size_alloc] at hz1
 have bP:Below w.heap.size w w1:=aD
 ((try clear hcb bn hlb hnb hmb);(have aW:=HW.out.below bP);(obtain⟨hcb,bn,hlb,hnb,hmb⟩:=aC.rules aW.box);(have nL:=Lib.hid aW);(clear aW))
 ((try clear hcx hfx hlx hnx hmx);(have bx0:=KX.out.below hb1 KX.out.lt);(obtain⟨hcx,hfx,hlx,hnx,hmx⟩:=aC.rules bx0);(have CV:=Lib.hid bx0);(clear bx0))
 clear hb1 jV tY
 go_wp2_with(first|((with_reducible refine bO 126 ?_);(refine aU rfl 126 _ _ rfl (Tab.dS p) Tab.aX (hpv) aF ?_ ?_ ?_;(exact aG);(exact aG)))|fail)
 with_reducible refine(HT.out _).mono ?_
 rintro en w2 ⟨rfl,hb2⟩
 have xS:=Lib.hid (aC.new w1 (Tab.dS p) 126)
 have hz2:=hb2.size
 simp only[World.size_alloc] at hz2
 have eP:Below w1.heap.size w1 w2:=aD
 have hbw2:=bP.trans (eP.mono bP.size)
 ((try clear hcb bn hlb hnb hmb);(have aW:=nL.out.below eP);(obtain⟨hcb,bn,hlb,hnb,hmb⟩:=aC.rules aW.box);(have qg:=Lib.hid aW);(clear aW))
 ((try clear hcx hfx hlx hnx hmx);(have bx0:=CV.out.below eP CV.out.lt);(obtain⟨hcx,hfx,hlx,hnx,hmx⟩:=aC.rules bx0);(have OB:=Lib.hid bx0);(clear bx0))
 have zM:=Lib.hid (xS.out.below hb2 aI)
 have hlx:=CV.out.lt
 clear nL hb2
 go_wp2_with(first|((with_reducible refine bS 126 ?_);(refine aJ rfl 126 _ rfl (Tab.dS p) Tab.aX (hpv) (zM.out.alloc _) ?_ ?_;(exact aG)))|fail)
 with_reducible refine(HD.out _ ((qg.out.below ((Below.refl _ _).alloc (Nat.le_refl _) _)))).mono ?_
 rintro en w3 ⟨rfl,⟨s3,CS,JB⟩,hg3⟩
 have hz3:=hg3.size
 simp only[World.size_alloc] at hz3
 have zO:=Lib.hid (aA (ay (hbw2.alloc hbw2.size _) (some b)) hg3)
 have hlp:=zM.out.lt
 have yN:=Lib.hid ((zM.out.alloc _).grown hg3 aR)
 have LC:=Lib.hid ((OB.out.alloc _).grown hg3 aR)
 have hxr:=LC.out.lt
 have haw:=JB w1.heap.size aR ah (HW.out.kr.away bP.size)
 have abu:w.heap.size≤w3.heap.size:=zO.out.size
 have HST:=Lib.hid (j3.trans (j3.refl w b s k) JB (Nat.le_trans hbw2.size aI))
 have OZ:=Lib.hid haw
 have hps:=Tab.jd p
 clear JB haw
 (obtain⟨hcb,bn,hlb,hnb,hmb⟩:=aC.rules CS.box)
 have mM:=Lib.hid CS
 clear CS hg3
 by_cases h6:r2=6
 ·subst h6
  by_cases h16:x.1=16
  ·have hy:=HY.out
   rw[if_neg (by simp[h16])] at hy
   have e16:(x.1 !=16)=false:=by simp[h16]
   clear h16
   obtain⟨aQ,mQ,nQ,hvQ⟩:=mM.out.kr.P.is
   have HF3:=Lib.hid (fun W h=>Tab.lN s3.P k1.P pid W (mM.out.kr.P.below h))
   rw[hvQ] at HF3
   have W9:k1.P=[p]→(Tab.bD k1.P pid).1=p:=fun h=>by rw[h];exact hself
   generalize Tab.bD k1.P pid=fs at*
   obtain⟨p4,ok4⟩:=fs
   dsimp only at HF3 hy W9
   have Ue:=Tab.fq p4
   have HP4:=Lib.hid W9
   have HA:=Lib.hid (fun s W h=>fQ b s k1 p4 x r1 6 W h hk2 hv)
   generalize hK4:bU k1 p4 x r1 6=k4 at*
   exact aeK
  ·have hy:=HY.out
   rw[if_pos ⟨rfl,h16⟩] at hy
   subst hy
   have e16:(x.1 !=16)=true:=by simp[h16]
   ((try clear hcx hfx hlx hnx hmx);(have bx0:=LC.out);(obtain⟨hcx,hfx,hlx,hnx,hmx⟩:=aC.rules bx0);(have KX4:=Lib.hid bx0);(clear bx0))
   go_wp2_with fail
   exact bodyPost_ret (v:= .bool false) P7 rfl ⟨rfl,⟨_,mM.out,HST.out⟩,zO.out⟩
 ·have hy:=HY.out
  rw[if_neg (by simp[h6])] at hy
  have e6:(r2==6)=false:=by simp[h6]
  obtain⟨aQ,mQ,nQ,hvQ⟩:=mM.out.kr.P.is
  have HF3:=Lib.hid (fun W h=>Tab.lN s3.P k1.P pid W (mM.out.kr.P.below h))
  rw[hvQ] at HF3
  have W9:k1.P=[p]→(Tab.bD k1.P pid).1=p:=fun h=>by rw[h];exact hself
  generalize Tab.bD k1.P pid=fs at*
  obtain⟨p4,ok4⟩:=fs
  dsimp only at HF3 hy W9
  have Ue:=Tab.fq p4
  have HP4:=Lib.hid W9
  have HA:=Lib.hid (fun s W h=>fQ b s k1 p4 x r1 r2 W h hk2 hv)
  generalize hK4:bU k1 p4 x r1 r2=k4 at*
  exact aeK
theorem QK(b:Nat)(s:Ks)(k:Kn)(pid:Int)(x:nW)(w:World)
  (hT:∀W:World,Calls Tryz.prog 139 #[.int .u32 x.1] W fun en w'=>en=.returned (.tuple #[.agg #[.nilFunc],.bool false])∧Below W.heap.size W w')
  (hw:KW w b s k)(hk:Fit k)(hx:iJ x)(hv:cK (Call.qj 1 0)):
  zh (k,0,1) b s k pid x w:=by
 unfold zh
 have HW:=Lib.hid hw
 have hlt:=hw.lt
 have HF:=Lib.hid (fun(W:World) (h:Below w.heap.size w W)=>Tab.lN s.P k.P pid W (hw.kr.P.below h))
 have HT:=Lib.hid hT
 have hy0:CQ (k,0,1) pid x=(bU k (Tab.bD k.P pid).1 x 0 1,true):=by unfold CQ;rw[if_neg aI]
 generalize hfs:Tab.bD k.P pid=fs at*
 obtain⟨p,ok⟩:=fs
 dsimp only at hy0
 obtain⟨y,hy⟩:∃y,y=CQ (k,0,1) pid x:=⟨_,rfl⟩
 rw[←hy]
 rw[hy0] at hy
 have HFS:=Lib.hid hfs
 have HY:=Lib.hid hy
 clear hy0 hfs
 have hpv:=Tab.fq p
 obtain⟨aP,mP,nP,R7⟩:=hw.kr.P.is
 rw[R7] at HF
 clear hw hT hy
 have tY:=Below.refl w.heap.size w
 ((try clear hcb bn hlb hnb hmb);(have aW:=HW.out.below tY);(obtain⟨hcb,bn,hlb,hnb,hmb⟩:=aC.rules aW.box);(have jV:=Lib.hid aW);(clear aW))
 go_enter Tryz.func111,Tryz.ntmps111
 go_wp2_with fail
 with_reducible refine(HF.out _ aD).mono ?_
 rintro en w1 ⟨rfl,hb1⟩
 have KX:=Lib.hid (aC.new w #[.int .u32 x.1,.int .u32 x.2.1,.int .u32 x.2.2.1,.int .u32 x.2.2.2] 124)
 have hz1:=hb1.size
 simp only[World.size_alloc] at hz1
 have bP:Below w.heap.size w w1:=aD
 ((try clear hcb bn hlb hnb hmb);(have aW:=HW.out.below bP);(obtain⟨hcb,bn,hlb,hnb,hmb⟩:=aC.rules aW.box);(have nL:=Lib.hid aW);(clear aW))
 ((try clear hcx hfx hlx hnx hmx);(have bx0:=KX.out.below hb1 KX.out.lt);(obtain⟨hcx,hfx,hlx,hnx,hmx⟩:=aC.rules bx0);(have CV:=Lib.hid bx0);(clear bx0))
 clear hb1 jV tY
 go_wp2_with(first|((with_reducible refine bO 126 ?_);(refine aU rfl 126 _ _ rfl (Tab.dS p) Tab.aX (hpv) aF ?_ ?_ ?_;(exact aG);(exact aG)))|fail)
 with_reducible refine(HT.out _).mono ?_
 rintro en w2 ⟨rfl,hb2⟩
 have xS:=Lib.hid (aC.new w1 (Tab.dS p) 126)
 have hz2:=hb2.size
 simp only[World.size_alloc] at hz2
 have eP:Below w1.heap.size w1 w2:=aD
 have hbw2:=bP.trans (eP.mono bP.size)
 ((try clear hcb bn hlb hnb hmb);(have aW:=nL.out.below eP);(obtain⟨hcb,bn,hlb,hnb,hmb⟩:=aC.rules aW.box);(have qg:=Lib.hid aW);(clear aW))
 ((try clear hcx hfx hlx hnx hmx);(have bx0:=CV.out.below eP CV.out.lt);(obtain⟨hcx,hfx,hlx,hnx,hmx⟩:=aC.rules bx0);(have OB:=Lib.hid bx0);(clear bx0))
 have zM:=Lib.hid (xS.out.below hb2 aI)
 have hlx:=CV.out.lt
 clear nL hb2
 go_wp2_with fail
 with_reducible refine(HF.out _ aD).mono ?_
 rintro en w4 ⟨rfl,hb4⟩
 have OA:=Lib.hid ((OB.out.alloc _).below hb4 aR)
 have hlp:=zM.out.lt
 have Bu:=Lib.hid ((zM.out.alloc _).below hb4 aR)
 have vT:=hb4.size
 simp only[World.size_alloc] at vT
 have nU:=(hbw2.alloc hbw2.size _).trans (hb4.mono (Nat.le_trans hbw2.size aI))
 have HA:=Lib.hid (fun W h=>fQ b s k p x 0 1 W h hk (show cK _ from hv))
 have hy:=HY.out
 generalize hK4:bU k p x 0 1=k4 at*
 subst hy
 clear hcx hfx hlx hnx hmx
 have hps:=Tab.jd p
 have hBb:w1.heap.size≠b:=ah
 have hBx:¬w.heap.size=w1.heap.size:=ah
 go_wp2_with(first|((with_reducible refine bO 126 ?_);(refine aN rfl 126 _ _ rfl Bu.out (Tab.je p) Tab.aX (hpv) ?_ (Tab.dS p) (Zi p p) ?_ ?_ ?_;(exact fK);(exact aG);(exact aG);(intro w5 G5 hg5 GY hb5;(have Iy:=Lib.hid G5);(have KX6:=Lib.hid (OA.out.grown hg5 aR));(have jC:=nU.trans (hb5.mono bP.size));(have Ho:=Lib.hid (HW.out.below jC));(have hx6:=KX6.out);(have hc6:=hx6.rules.1);(clear G5 hx6))))|((with_reducible refine bS 126 ?_);(refine aJ rfl 126 _ rfl (Tab.dS p) Tab.aX (hpv) Iy.out ?_ ?_;(exact aG)))|fail)
 with_reducible refine(HA.out _ Ho.out).mono ?_
 rintro en w7 ⟨rfl,⟨s7,kw7,afz⟩,vC⟩
 go_wp2_with fail
 exact bodyPost_ret (v:= .bool true) P7 rfl ⟨rfl,⟨s7,kw7,(j3.refl w b s k).trans afz jC.size⟩,aA (ay jC (some b)) vC⟩
end Go.Proofs.YtgmodehldmahiaaGreatDoor
end
section
namespace Go.Proofs.YtgmodehldmahiaaGreatDoor
open Go Go.RowKit Go.Tm
attribute [local go_sem] fB fA fu dR dA dQ dP dO dN dM dL dK dJ dI dH dG dF iq ig h_ g_ gZ gY gX gN gW gV fF fE fD fC eY eX eU
def abn(k:Kn)(p:Tab.bV)(x:nW):Kn×Int×Int:=(k,p.pid%4294967296,0)
theorem aar:wG 164 abn:=by
 intro b s k p x w hw hk hx
 have HW:=Lib.hid hw
 unfold abn
 ((rw[show Tab.je p=.agg (gu p.pid p.par p.st (pq p)) from congrArg Value.agg (sW p)]);(have hq:=iY p);(generalize pq p=q at*);(generalize p.pid=pid at*);(generalize p.par=par at*);(generalize p.st=st at*);(have HQ:=Lib.hid hq);(clear hq))
 have hlt:=hw.lt
 clear hw
 go_enter Tryz.func164,Tryz.ntmps164
 go_wp2_with fail
 exact bodyPost_ret (v:= .tuple #[.int .u32 (pid%4294967296),.int .i64 0]) (by simp[results,Tryz.results164,go_sem]) rfl ⟨rfl,⟨s,HW.out.below aD,fun _ _ _ h=>h⟩,ay aD _⟩
def Sy(k:Kn)(p:Tab.bV)(x:nW):Kn×Int×Int:=(k,k.now%4294967296,0)
theorem UQ:wG 165 Sy:=by
 intro b s k p x w hw hk hx
 have HW:=Lib.hid hw
 unfold Sy
 ((rw[show Tab.je p=.agg (gu p.pid p.par p.st (pq p)) from congrArg Value.agg (sW p)]);(have hq:=iY p);(generalize pq p=q at*);(generalize p.pid=pid at*);(generalize p.par=par at*);(generalize p.st=st at*);(have HQ:=Lib.hid hq);(clear hq))
 (obtain⟨hcb,bn,hlb,hnb,hmb⟩:=aC.rules hw.box)
 clear hw
 go_enter Tryz.func165,Tryz.ntmps165
 go_wp2_with fail
 exact bodyPost_ret (v:= .tuple #[.int .u32 (k.now%4294967296),.int .i64 0]) (by simp[results,Tryz.results165,go_sem]) rfl ⟨rfl,⟨s,HW.out.below aD,fun _ _ _ h=>h⟩,ay aD _⟩
theorem aiO:Ty Tryz.prog 5 1 false:=⟨aj,aj,aB,aj⟩
theorem agy:∃i,TyM Tryz.prog 5 1 false i (.int .u8 0) 1 225:=by
 have h:(Tryz.prog.info? 5).map (fun i=>(i.zero,i.size,i.bytes))=some (some (.int .u8 0),1,1):=aj
 obtain⟨i,hi,hz,hs,hb⟩:=info_parts h
 exact⟨i,aiO,Tryz.underlying225,hi,hz,hs,hb,rfl⟩
theorem u8w(n:Int):IntKind.u8.wrap n=n%256:=rfl
def Ub(k:Kn)(p:Tab.bV)(x:nW):Kn×Int×Int:=({k with co:=k.co++⟨#[byteOf x.2.1]⟩},0,0)
theorem aan:wG 166 Ub:=by
 intro b s k p x w hw hk hx
 have HW:=Lib.hid hw
 unfold Ub
 ((rw[show Tab.je p=.agg (gu p.pid p.par p.st (pq p)) from congrArg Value.agg (sW p)]);(have hq:=iY p);(generalize pq p=q at*);(generalize p.pid=pid at*);(generalize p.par=par at*);(generalize p.st=st at*);(have HQ:=Lib.hid hq);(clear hq))
 have hco:¬9223372036854775807<k.co.size+1:=by have:=hk.co;omega
 obtain⟨i0,hM⟩:=agy
 clear hw
 go_enter Tryz.func166,Tryz.ntmps166
 go_wp2_with fail
 ((generalize bN:World.alloc _ _=w0);(have KP:aC w0 (w.heap.size) (gu pid par st q) 126:=bA);(have KX:aC w0 (w.heap.size+1) (#[.int .u32 x.1,.int .u32 x.2.1,.int .u32 x.2.2.1,.int .u32 x.2.2.2]) 124:=bA);(have hb0:Below w.heap.size w w0:=bM);(have hz0:w0.heap.size=w.heap.size+1+1:=bX);(clear bN);(have KP:=Lib.hid KP);(have KX:=Lib.hid KX))
 ((try clear hcb bn hlb hnb hmb);(have aW:=HW.out.below hb0);(obtain⟨hcb,bn,hlb,hnb,hmb⟩:=aC.rules aW.box);(have jV:=Lib.hid aW);(clear aW))
 ((try clear hcx hfx hlx hnx hmx);(have bx0:=KX.out);(obtain⟨hcx,hfx,hlx,hnx,hmx⟩:=aC.rules bx0);(have sV:=Lib.hid bx0);(clear bx0))
 ((refine aY (fun W=>Below w0.heap.size w0 W) (fun i=>decide (i<14)) aj ?_);
          (have hS:Below w0.heap.size w0 w0.drew:=(Below.refl _ _).drew);
          (refine tk 0 8 hS ?_);
          (refine tk 1 9 hS ?_);
          (refine tk 2 10 hS ?_);
          (refine tk 3 11 hS ?_);
          (refine tk 4 12 hS ?_ (hy:=Or.inl ⟨aF,yt⟩));
          (refine tk 5 13 hS ?_);
          (refine tk 6 14 hS ?_ (hy:=Or.inl ⟨aF,yt⟩));
          (refine tk 7 15 hS ?_);
          (refine aK 8 (oi:=⟨some 16,_,_,_,_,_⟩) rfl aj rfl (fun K hK=>?_));
          (refine kJ _ rfl hM aB (.int .u8 (IntKind.u8.wrap x.2.1)) bg ⟨rfl,rfl⟩ ?_);
          (refine hidS hK (hS.alloc hS.size _) (fun hS=>?_);clear hK K);
          (try simp only[pt]);
          (refine aK 9 (oi:=⟨some 17,_,_,_,_,_⟩) rfl aj rfl (fun K hK=>?_));
          (refine Ih _ _ _ rfl (.slice (some ⟨w0.heap.size,0,none⟩) 1 1) bg (FZ [byteOf x.2.1] (aC.new _ _ _) (by simp[Cv,Value.cells,u8w])) ?_);
          (refine hidS hK (hS) (fun hS=>?_);clear hK K);
          (try simp only[pt]);
          (refine tk 10 18 hS ?_);
          (refine tk 11 19 hS ?_);
          (refine tk 12 20 hS ?_);
          (refine tk 13 21 hS ?_);
          (refine aT 14 aj ?_ rfl);
          (simp only[List.toList_toArray,List.drop_succ_cons,List.drop_zero]))
 generalize World.alloc _ _=w1 at hS⊢
 ((try clear hcb bn hlb hnb hmb);(have aW:=jV.out.below hS);(obtain⟨hcb,bn,hlb,hnb,hmb⟩:=aC.rules aW.box);(have nL:=Lib.hid aW);(clear aW))
 go_wp2_with fail
 exact bodyPost_ret (v:= .tuple #[.int .u32 0,.int .i64 0]) (by simp[results,Tryz.results166,go_sem]) rfl ⟨rfl,⟨_,nL.out.agI _,fun _ _ _ h=>h⟩,aA (ay (hb0.trans (hS.mono hb0.size)) _) (aM _ _ _ _)⟩
noncomputable def sH(k:Kn)(p:Tab.bV)(x:nW):Kn×Int×Int:=
 if(Tab.wD k.P p.pid).2=true then({k with P:=Tab.xw k.P (Tab.wD k.P p.pid).1},wrap64 (wrap64 (256*(Tab.wD k.P p.pid).1)+(pq (Tab.bD k.P (Tab.wD k.P p.pid).1).1).code)%4294967296,0)
 else if(Tab.afo k.P p.pid).length=0 then(k,0,12) else(k,0,6)
theorem UK:wG 163 sH:=by
 intro b s k p x w hw hk hx
 have HW:=Lib.hid hw
 obtain⟨r,hr⟩:∃r,r=sH k p x:=⟨_,rfl⟩
 rw[←hr]
 unfold sH at hr
 ((rw[show Tab.je p=.agg (gu p.pid p.par p.st (pq p)) from congrArg Value.agg (sW p)]);(have hq:=iY p);(generalize pq p=q at*);(generalize p.pid=pid at*);(generalize p.par=par at*);(generalize p.st=st at*);(have HQ:=Lib.hid hq);(clear hq))
 have hlt:=hw.lt
 clear hw
 have HD:=Lib.hid (fun v W h=>Tab.aaY v k.P pid W h)
 have HK:=Lib.hid (fun v W h=>Tab.Lf v k.P pid W h JO)
 generalize Tab.wD k.P pid=d at*
 obtain⟨d1,d2⟩:=d
 generalize Tab.afo k.P pid=ks at*
 dsimp only at hr
 have HR:=Lib.hid hr
 clear hr
 go_enter Tryz.func163,Tryz.ntmps163
 go_wp2_with fail
 ((generalize bN:World.alloc _ _=w0);(have KP:aC w0 (w.heap.size) (gu pid par st q) 126:=bA);(have KX:aC w0 (w.heap.size+1) (#[.int .u32 x.1,.int .u32 x.2.1,.int .u32 x.2.2.1,.int .u32 x.2.2.2]) 124:=bA);(have hb0:Below w.heap.size w w0:=bM);(have hz0:w0.heap.size=w.heap.size+1+1:=bX);(clear bN);(have KP:=Lib.hid KP);(have KX:=Lib.hid KX))
 ((try clear hcb bn hlb hnb hmb);(have aW:=HW.out.below hb0);(obtain⟨hcb,bn,hlb,hnb,hmb⟩:=aC.rules aW.box);(have jV:=Lib.hid aW);(clear aW))
 ((try clear hcp hfp hlp hnp hmp);(have bx0:=KP.out);(obtain⟨hcp,hfp,hlp,hnp,hmp⟩:=aC.rules bx0);(have oM:=Lib.hid bx0);(clear bx0))
 ((refine aY (fun W=>Below w0.heap.size w0 W) (fun i=>decide (i<13)) aj ?_);
          (have hS:Below w0.heap.size w0 w0.drew:=(Below.refl _ _).drew);
          (refine tk 0 13 hS ?_);
          (refine tk 1 14 hS ?_);
          (refine tk 2 15 hS ?_);
          (refine tk 3 16 hS ?_);
          (refine tk 4 17 hS ?_ (hy:=Or.inl ⟨aF,nM⟩));
          (refine tk 5 18 hS ?_);
          (refine tk 6 19 hS ?_ (hy:=Or.inl ⟨aF,nM⟩));
          (refine aK 7 (oi:=⟨some 20,_,_,_,_,_⟩) rfl aj rfl (fun K hK=>?_));
          (go_simp;(with_reducible refine(HD.out _ _ (jV.out.kr.P.below hS)).mono ?_);rintro en w1 ⟨rfl,hb1⟩;(have hS:=hS.trans (Below.mono hb1 hS.size));skip;(try go_wp2_with fail));
          (refine hK.out _ _ (fun _=>bF) ?_;clear hK K);
          (try simp only[pt]);
          (refine tk 8 12 hS ?_);
          (refine tk 9 21 hS ?_);
          (refine tk 10 22 hS ?_);
          (refine tk 11 8 hS ?_);
          (refine tk 12 9 hS ?_);
          (refine lQ aj ?_))
 ((try clear hcb bn hlb hnb hmb);(have aW:=jV.out.below hS);(obtain⟨hcb,bn,hlb,hnb,hmb⟩:=aC.rules aW.box);(have nL:=Lib.hid aW);(clear aW))
 ((try clear hcp hfp hlp hnp hmp);(have bx0:=oM.out.below hS oM.out.lt);(obtain⟨hcp,hfp,hlp,hnp,hmp⟩:=aC.rules bx0);(have xS:=Lib.hid bx0);(clear bx0))
 have bP:=hb0.trans (hS.mono hb0.size)
 cases d2
 ·have hr:=HR.out
  rw[if_neg aB] at hr
  go_wp2_with fail
  ((refine aY (fun W=>Below w1.heap.size w1 W) (fun i=>decide (i<11)) aj ?_);
          (have hS2:Below w1.heap.size w1 w1.drew:=(Below.refl _ _).drew);
          (refine tk 0 53 hS2 ?_);
          (refine tk 1 54 hS2 ?_);
          (refine tk 2 55 hS2 ?_);
          (refine tk 3 56 hS2 ?_);
          (refine tk 4 57 hS2 ?_ (hy:=Or.inl ⟨aF,nM⟩));
          (refine tk 5 58 hS2 ?_);
          (refine tk 6 59 hS2 ?_ (hy:=Or.inl ⟨aF,nM⟩));
          (refine aK 7 (oi:=⟨some 60,_,_,_,_,_⟩) rfl aj rfl (fun K hK=>?_));
          (go_simp;(with_reducible refine(HK.out _ _ (nL.out.kr.P.below hS2)).mono ?_);rintro en w2 ⟨v2,rfl,ho2,hb2⟩;(have hS2:=hS2.trans (Below.mono hb2 hS2.size));(have hso:=ho2.sl);(obtain⟨a2,n2,rfl,hl2⟩:=hso.shape);(rw[gT] at hl2);(try go_wp2_with fail));
          (refine hK.out _ _ (fun _=>bF) ?_;clear hK K);
          (try simp only[pt]);
          (refine tk 8 61 hS2 ?_);
          (refine tk 9 62 hS2 ?_);
          (refine tk 10 52 hS2 ?_);
          (refine lQ aj ?_))
  have hbw2:=bP.trans (hS2.mono bP.size)
  by_cases h0:ks.length=0
  ·rw[if_pos h0] at hr
   subst hr
   go_wp2_with fail
   exact bodyPost_ret (v:= .tuple #[.int .u32 0,.int .i64 12]) P5 rfl ⟨rfl,⟨s,HW.out.below hbw2,fun _ _ _ h=>h⟩,ay hbw2 _⟩
  ·rw[if_neg h0] at hr
   subst hr
   go_wp2_with fail
   exact bodyPost_ret (v:= .tuple #[.int .u32 0,.int .i64 6]) P5 rfl ⟨rfl,⟨s,HW.out.below hbw2,fun _ _ _ h=>h⟩,ay hbw2 _⟩
 ·have hr:=HR.out
  rw[if_pos rfl] at hr
  have HF:=Lib.hid (fun v W h=>Tab.lN v k.P d1 W h)
  have hq2:=sW (Tab.bD k.P d1).1
  generalize Tab.bD k.P d1=f at*
  obtain⟨p2,f2⟩:=f
  dsimp only at*
  have hcode:=dA p2.pid p2.par p2.st (pq p2)
  rw[show Tab.je p2=.agg (gu p2.pid p2.par p2.st (pq p2)) from congrArg Value.agg hq2] at HF
  go_wp2_with fail
  with_reducible refine(HF.out _ _ (nL.out.kr.P)).mono ?_
  rintro en w2 ⟨rfl,hb2⟩
  have hbw2:=bP.trans (hb2.mono bP.size)
  ((try clear hcb bn hlb hnb hmb);(have aW:=nL.out.below hb2);(obtain⟨hcb,bn,hlb,hnb,hmb⟩:=aC.rules aW.box);(have qg:=Lib.hid aW);(clear aW))
  clear hcp hfp hlp hnp hmp
  have hv2:=oz p2.pid p2.par p2.st (pq p2)
  go_wp2_with(first|((with_reducible refine bO 126 ?_);(refine aU rfl 126 _ _ rfl (gu p2.pid p2.par p2.st (pq p2)) Tab.aX (hv2) aF ?_ ?_ ?_;(exact aG);(exact aG)))|fail)
  with_reducible refine(Tab.Gg _ k.P d1 _ (qg.out.kr.P.alloc _) JO).mono ?_
  rintro en w3 ⟨v3,rfl,hs3,hb3⟩
  have hz3:=hb3.size
  simp only[World.size_alloc] at hz3
  obtain⟨a3,m3,n3,rfl⟩:=hs3.is
  have bq3:aC w3 w2.heap.size (gu p2.pid p2.par p2.st (pq p2)) 126:=(aC.new w2 _ _).below hb3 aI
  have ah':Below w2.heap.size w2 w3:=aD
  have fJ:=hbw2.trans (ah'.mono hbw2.size)
  ((try clear hcb bn hlb hnb hmb);(have aW:=qg.out.below ah');(obtain⟨hcb,bn,hlb,hnb,hmb⟩:=aC.rules aW.box);(have mM:=Lib.hid aW);(clear aW))
  have KQ3:=Lib.hid bq3
  ((try clear hcq Ov hlq hnq Oq);(have bx0:=KQ3.out);(obtain⟨hcq,Ov,hlq,hnq,Oq⟩:=aC.rules bx0);(have KQ4:=Lib.hid bx0);(clear bx0))
  have H3:=Lib.hid hs3
  have hlt3:=qg.out.lt
  clear bq3 hs3 hb3
  have alh:¬b=w2.heap.size:=ah
  have alg:¬w2.heap.size=b:=ah
  go_wp2_with fail
  subst hr
  exact bodyPost_ret (v:= .tuple #[.int .u32 (wrap64 (wrap64 (256*d1)+(pq p2).code)%4294967296),.int .i64 0]) P5 rfl ⟨rfl,⟨_,mM.out.zP H3.out,fun _ _ _ h=>h⟩,aA (ay fJ _) (aM _ _ _ _)⟩
end Go.Proofs.YtgmodehldmahiaaGreatDoor
end
