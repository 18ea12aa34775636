/- Part 22 of 53 of the proof of topAlone_and_topApart. Conditions: see each. -/
import Derived.Test.YtgmodehldmahiaaGreatDoorB14
import Derived.Test.YtgmodehldmahiaaGreatDoorB17
import Derived.Test.YtgmodehldmahiaaGreatDoorB20
import Derived.Test.YtgmodehldmahiaaGreatDoorB18
import Derived.Test.YtgmodehldmahiaaGreatDoorB10
set_option linter.unusedVariables false
set_option linter.unusedSimpArgs false
set_option maxRecDepth 8192
set_option maxHeartbeats 40000000
section
namespace Go.Proofs.YtgmodehldmahiaaGreatDoor
open Go Go.RowKit Go.Tm
attribute [local go_sem] fO fM fK d_ dM dZ dY dX dW dV dU dS dR dQ dP dO dN iQ iP iO iN iM iL iK iG iJ iI fU fT fQ fP fI fH fC
noncomputable def ze(k:Kn)(p:aT.dz)(st:Int)(x:qJ):Kn:=
 {k with P:=aT.oF k.P (BH p.pid p.par st {pq p with x:=x}),L:=(ji.iX k.L k.left p.pid).1,left:=(ji.iX k.L k.left p.pid).2}
theorem NC(b:Nat)(s:Ks)(k:Kn)(p:aT.dz)(st2:Int)(x:qJ)(w:World)(hw:KW w b s k)(hk:Fit k)(hx:jB x):
  Calls Tryz.prog 147 #[.pointer (some ⟨b,0,none⟩),aT.jQ p,.int .i64 st2,vZ x] w fun en w'=>en=.returned (.tuple #[])∧KS w b s k w' (ze k p st2 x)∧w.grownBy w' (some b):=by
 have HW:=ah hw
 unfold ze
 (rw[show aT.jQ p=.agg (iA p.pid p.par p.st (pq p)) from congrArg Value.agg (wM p)];have hq:=jR p;generalize pq p=q at*;generalize p.pid=pid at*;generalize p.par=par at*;generalize p.st=st at*;have HQ:=ah hq;clear hq)
 have hlt:=hw.lt
 clear hw
 go_enter Tryz.func147,Tryz.ntmps147
 go_wp2_with fail
 (generalize bR:World.alloc _ _=w0;have KP:aD w0 (w.heap.size) (iA pid par st q) 126:=bH;have KX:aD w0 (w.heap.size+1) (#[.int .u32 x.1,.int .u32 x.2.1,.int .u32 x.2.2.1,.int .u32 x.2.2.2]) 124:=bH;have hb0:Below w.heap.size w w0:=bN;have hz0:w0.heap.size=w.heap.size+1+1:=bX;clear bR;have KP:=ah KP;have KX:=ah KX)
 have hT:Ty Tryz.prog 3 1 false:=ji.lS
 ((refine aY (fun W=>aD W (w.heap.size+1) #[.int .u32 x.1,.int .u32 x.2.1,.int .u32 x.2.2.1,.int .u32 x.2.2.2] 124∧Below w.heap.size w0 W) (fun i=>decide (i<6)) ay ?_);
          have hS:(fun W=>aD W (w.heap.size+1) #[.int .u32 x.1,.int .u32 x.2.1,.int .u32 x.2.2.1,.int .u32 x.2.2.2] 124∧Below w.heap.size w0 W) w0.drew:=⟨KX.out.drew,(Below.refl _ _).drew⟩;
          (refine tk 0 8 hS ?_);
          (refine tk 1 9 hS ?_ (hy:=Or.inl ⟨aF,by(intro W hW;(obtain⟨hW,hWb⟩:=hW;have gL:=hW.rules.1);go_simp;(all_goals with_reducible rfl))⟩));
          (refine tk 2 10 hS ?_);
          (refine aJ 3 (oi:=⟨none,_,_,_,_,_⟩) rfl ay rfl (fun K hK=>?_));
          ((refine eP 3 _ _ rfl KP.out.drew (.int .i64 st2) hT ⟨rfl,rfl⟩ (by rw[vD];decide) (iA pid par st2 q) (alx st2) bG bG ?_;intro w1 FM hg1 hz1 hb1));
          (refine hidS hK (⟨hS.1.grown hg1 aI,hS.2.trans hb1⟩) (fun hS=>?_);clear hK K);
          (try simp only[pt]);
          (refine tk 4 11 hS ?_);
          (refine aJ 5 (oi:=⟨none,_,_,_,_,_⟩) rfl ay rfl (fun K hK=>?_));
          ((refine eP 124 _ _ rfl FM (vZ x) PK (J6 x) (by rw[vD];decide) (iA pid par st2 {q with x:=x}) (agZ x) bG bG ?_;intro w2 N8 hg2 hz2 hb2));
          (refine hidS hK (⟨hS.1.grown hg2 aI,hS.2.trans hb2⟩) (fun hS=>?_);clear hK K);
          (try simp only[pt]);
          (refine mJ ay ?_))
 have hb1:=hS.2
 have bp1:=N8
 have HQ1:Hid (Pf.Ok {q with x:=x}):=ah {HQ.out with x:=hx}
 obtain⟨q1,gD⟩:∃q1:Pf,q1={q with x:=x}:=⟨_,rfl⟩
 rw[←gD] at bp1 HQ1
 have HE1:=ah gD
 have bW:Below w.heap.size w w2:=hb0.trans hb1
 have A9:=ah bp1
 ((try clear hcb bC bn bA bE);have bg:=HW.out.below bW;obtain⟨hcb,bC,bn,bA,bE⟩:=aD.rules bg.box;have qA:=ah bg;clear bg)
 ((try clear fF h_ gF gQ g_);have bx0:=A9.out;obtain⟨fF,h_,gF,gQ,g_⟩:=aD.rules bx0;have CV:=ah bx0;clear bx0)
 clear gD bp1 hb1 KP KX hS FM N8 hg1 hg2
 go_wp2_with fail
 ((refine aY (fun W=>Below w2.heap.size w2 W) (fun i=>decide (i<20)&&i !=1) ay ?_);
          have hS:Below w2.heap.size w2 w2.drew:=(Below.refl _ _).drew;
          (refine bV 1 (oi:=⟨some 13,_,_,_,_,_⟩) (v:=?_) rfl ay om (Or.inl ⟨aF,?_⟩) ?_;rotate_left;focus(intro W hW;go_simp;(all_goals with_reducible rfl)));
          (try simp only[pt]);
          (refine tk 0 12 hS ?_);
          (refine tk 2 14 hS ?_);
          (refine tk 3 15 hS ?_);
          (refine tk 4 16 hS ?_);
          (refine tk 5 17 hS ?_);
          (refine tk 6 18 hS ?_ (hy:=Or.inl ⟨aF,qB⟩));
          (refine bL 7 (oi:=⟨some 19,_,_,_,_,_⟩) rfl ay om hS (dh 126 _ rfl (iA pid par st2 q1) aT.bf (qY _ _ _ _) aF bG (fun W hs=>A9.out.below hs A9.out.lt)) ?_);
          (try simp only[pt]);
          (refine tk 9 21 hS ?_);
          (refine tk 10 22 hS ?_);
          (refine tk 11 23 hS ?_);
          (refine tk 12 24 hS ?_);
          (refine tk 13 25 hS ?_ (hy:=Or.inl ⟨aF,qB⟩));
          (refine tk 14 26 hS ?_);
          (refine tk 15 27 hS ?_ (hy:=Or.inl ⟨aF,qB⟩));
          (refine aJ 8 (oi:=⟨some 20,_,_,_,_,_⟩) rfl ay rfl (fun K hK=>?_));
          (go_simp;(with_reducible refine(F8 _ k.P pid par st2 q1 HQ1.out _ (qA.out.kr.P.below hS) hk.P).mono ?_);rintro en w4 ⟨v4,rfl,mg,hb4⟩;have hS:=hS.trans (Below.mono hb4 hS.size);obtain⟨a4,m4,n4,rfl⟩:=mg.is;(try go_wp2_with fail));
          (refine hK.out _ _ (fun _=>b_) ?_;clear hK K);
          (try simp only[pt]);
          (refine aJ 16 (oi:=⟨some 28,_,_,_,_,_⟩) rfl ay rfl (fun K hK=>?_));
          (go_simp;(with_reducible refine(ji.Eb s.L k.L k.left pid _ (qA.out.kr.L.below hS) U9).mono ?_);rintro en w5 ⟨v5,rfl,hs5,hr5,kV⟩;have hS:=hS.trans (Below.mono kV hS.size);obtain⟨a5,m5,n5,rfl⟩:=hs5.is;have mg:=mg.below kV;have ha5:=hr5.apart qA.out.aL (by have:=Below.size ‹Below w2.heap.size w2 w4›;have:=qA.out.lt;omega);(have C_:∀B,B<w.heap.size→Apart B s.L (ints k.L)→Apart B _ _:=fun B hB h=>hr5.apart h (by have:=Below.size ‹Below w2.heap.size w2 w4›;have:=bW.size;omega));(try go_wp2_with fail));
          (refine hK.out _ _ (fun _=>b_) ?_;clear hK K);
          (try simp only[pt]);
          (refine tk 17 29 hS ?_);
          (refine tk 18 30 hS ?_);
          (refine tk 19 31 hS ?_);
          (refine aZ 20 ay ?_ rfl);
          simp only[List.toList_toArray,List.drop_succ_cons,List.drop_zero])
 ((try clear hcb bC bn bA bE);have bg:=qA.out.below hS;obtain⟨hcb,bC,bn,bA,bE⟩:=aD.rules bg.box;have sN:=ah bg;clear bg)
 have HG:=ah (aB (aA bW (some b)) (aA hS (some b)))
 have H4:=ah mg
 have H5:=ah hs5
 have HA:=ah ha5
 have HST:=ah C_
 clear fF h_ gF gQ g_ mg hs5 ha5 hr5 C_ bW
 go_wp2_with fail
 have hw6:=(sN.out.C8 H4.out).Dw (H5.out.bO (aO _ _ _ _) HA.out) HA.out
 rw[←HE1.out]
 exact bodyPost_end (v:= .tuple #[]) (by simp[results,Tryz.results147,go_sem]) rfl ⟨rfl,⟨_,hw6.set_left _,fun B hB _ h=>⟨HST.out B hB h.1,h.2⟩⟩,aB HG.out (aB (aO _ _ _ _) (aB (aO _ _ _ _) (aO _ _ _ _)))⟩
end Go.Proofs.YtgmodehldmahiaaGreatDoor
end
section
namespace Go.Proofs.YtgmodehldmahiaaGreatDoor
open Go Go.RowKit Go.Tm
theorem agC(w:World):Calls Tryz.prog 139 #[.int .u32 4] w fun en w'=>en=.returned (.tuple #[.agg #[.func (.func 163) #[] #[]],.bool true])∧Below w.heap.size w w':=by
 go_enter Tryz.func139,Tryz.ntmps139
 go_wp2_with fail
 exact bodyPost_ret (v:= .tuple #[.agg #[.func (.func 163) #[] #[]],.bool true]) uS rfl ⟨rfl,aG⟩
theorem al4:Body Tryz.prog 163:=gq Tryz.func163 ay ay
theorem agB(w:World):Calls Tryz.prog 139 #[.int .u32 6] w fun en w'=>en=.returned (.tuple #[.agg #[.func (.func 164) #[] #[]],.bool true])∧Below w.heap.size w w':=by
 go_enter Tryz.func139,Tryz.ntmps139
 go_wp2_with fail
 exact bodyPost_ret (v:= .tuple #[.agg #[.func (.func 164) #[] #[]],.bool true]) uS rfl ⟨rfl,aG⟩
theorem al3:Body Tryz.prog 164:=gq Tryz.func164 ay ay
theorem agA(w:World):Calls Tryz.prog 139 #[.int .u32 9] w fun en w'=>en=.returned (.tuple #[.agg #[.func (.func 165) #[] #[]],.bool true])∧Below w.heap.size w w':=by
 go_enter Tryz.func139,Tryz.ntmps139
 go_wp2_with fail
 exact bodyPost_ret (v:= .tuple #[.agg #[.func (.func 165) #[] #[]],.bool true]) uS rfl ⟨rfl,aG⟩
theorem al2:Body Tryz.prog 165:=gq Tryz.func165 ay ay
theorem aew(w:World):Calls Tryz.prog 139 #[.int .u32 10] w fun en w'=>en=.returned (.tuple #[.agg #[.func (.func 166) #[] #[]],.bool true])∧Below w.heap.size w w':=by
 go_enter Tryz.func139,Tryz.ntmps139
 go_wp2_with fail
 exact bodyPost_ret (v:= .tuple #[.agg #[.func (.func 166) #[] #[]],.bool true]) uS rfl ⟨rfl,aG⟩
theorem ahB:Body Tryz.prog 166:=gq Tryz.func166 ay ay
theorem aev(w:World):Calls Tryz.prog 139 #[.int .u32 11] w fun en w'=>en=.returned (.tuple #[.agg #[.func (.func 167) #[] #[]],.bool true])∧Below w.heap.size w w':=by
 go_enter Tryz.func139,Tryz.ntmps139
 go_wp2_with fail
 exact bodyPost_ret (v:= .tuple #[.agg #[.func (.func 167) #[] #[]],.bool true]) uS rfl ⟨rfl,aG⟩
theorem ahA:Body Tryz.prog 167:=gq Tryz.func167 ay ay
theorem aeu(w:World):Calls Tryz.prog 139 #[.int .u32 12] w fun en w'=>en=.returned (.tuple #[.agg #[.func (.func 168) #[] #[]],.bool true])∧Below w.heap.size w w':=by
 go_enter Tryz.func139,Tryz.ntmps139
 go_wp2_with fail
 exact bodyPost_ret (v:= .tuple #[.agg #[.func (.func 168) #[] #[]],.bool true]) uS rfl ⟨rfl,aG⟩
theorem ahz:Body Tryz.prog 168:=gq Tryz.func168 ay ay
theorem aes(w:World):Calls Tryz.prog 139 #[.int .u32 13] w fun en w'=>en=.returned (.tuple #[.agg #[.func (.func 169) #[] #[]],.bool true])∧Below w.heap.size w w':=by
 go_enter Tryz.func139,Tryz.ntmps139
 go_wp2_with fail
 exact bodyPost_ret (v:= .tuple #[.agg #[.func (.func 169) #[] #[]],.bool true]) uS rfl ⟨rfl,aG⟩
theorem ahy:Body Tryz.prog 169:=gq Tryz.func169 ay ay
theorem aer(w:World):Calls Tryz.prog 139 #[.int .u32 14] w fun en w'=>en=.returned (.tuple #[.agg #[.func (.func 170) #[] #[]],.bool true])∧Below w.heap.size w w':=by
 go_enter Tryz.func139,Tryz.ntmps139
 go_wp2_with fail
 exact bodyPost_ret (v:= .tuple #[.agg #[.func (.func 170) #[] #[]],.bool true]) uS rfl ⟨rfl,aG⟩
theorem ahx:Body Tryz.prog 170:=gq Tryz.func170 ay ay
theorem aep(w:World):Calls Tryz.prog 139 #[.int .u32 15] w fun en w'=>en=.returned (.tuple #[.agg #[.func (.func 171) #[] #[]],.bool true])∧Below w.heap.size w w':=by
 go_enter Tryz.func139,Tryz.ntmps139
 go_wp2_with fail
 exact bodyPost_ret (v:= .tuple #[.agg #[.func (.func 171) #[] #[]],.bool true]) uS rfl ⟨rfl,aG⟩
theorem ahw:Body Tryz.prog 171:=gq Tryz.func171 ay ay
theorem aeo(w:World):Calls Tryz.prog 139 #[.int .u32 16] w fun en w'=>en=.returned (.tuple #[.agg #[.func (.func 172) #[] #[]],.bool true])∧Below w.heap.size w w':=by
 go_enter Tryz.func139,Tryz.ntmps139
 go_wp2_with fail
 exact bodyPost_ret (v:= .tuple #[.agg #[.func (.func 172) #[] #[]],.bool true]) uS rfl ⟨rfl,aG⟩
theorem ahv:Body Tryz.prog 172:=gq Tryz.func172 ay ay
def Jw(n:Int):Bool:=decide (n=4∨n=6∨n=9∨n=10∨n=11∨n=12∨n=13∨n=14∨n=15∨n=16)
theorem aen(n:Int)(w:World)(h:Jw n=false):Calls Tryz.prog 139 #[.int .u32 n] w fun en w'=>en=.returned (.tuple #[.agg #[.nilFunc],.bool false])∧Below w.heap.size w w':=by
 unfold Jw at h
 simp only[decide_eq_false_iff_not,not_or] at h
 obtain⟨h1,h2,h3,h4,h5,h6,h7,h8,h9,h10⟩:=h
 have e1:(n==4)=false:=by simpa using h1
 have e2:(n==6)=false:=Jb
 have e3:(n==9)=false:=by simpa using h3
 have e4:(n==10)=false:=by simpa using h4
 have e5:(n==11)=false:=by simpa using h5
 have e6:(n==12)=false:=by simpa using h6
 have e7:(n==13)=false:=by simpa using h7
 have e8:(n==14)=false:=by simpa using h8
 have e9:(n==15)=false:=by simpa using h9
 have e10:(n==16)=false:=by simpa using h10
 go_enter Tryz.func139,Tryz.ntmps139
 go_wp2_with fail
 exact bodyPost_ret (v:= .tuple #[.agg #[.nilFunc],.bool false]) uS rfl ⟨rfl,aG⟩
end Go.Proofs.YtgmodehldmahiaaGreatDoor
end
section
namespace Go.Proofs.YtgmodehldmahiaaGreatDoor
open Go Go.RowKit Go.Tm
attribute [local go_sem] fO fM fK d_ dM dZ dY dX dW dV dU dS dR dQ dP dO dN iQ iP iO iN iM iL iK iG iJ iI fU fT fQ fP fI fH fC
noncomputable def Lx(r:Kn×Int×Int)(pid:Int)(x:qJ):Kn×Bool:=
 if r.2.2=6∧x.1≠16 then(r.1,false) else(dA r.1 (aT.bK r.1.P pid).1 x r.2.1 r.2.2,true)
def Co(r:Kn×Int×Int)(b:Nat)(s:Ks)(k:Kn)(pid:Int)(x:qJ)(w:World):Prop:=
 Calls Tryz.prog 111 #[.pointer (some ⟨b,0,none⟩),.int .i64 pid,vZ x] w fun en w'=>en=.returned (.bool (Lx r pid x).2)∧KS w b s k w' (Lx r pid x).1∧w.grownBy w' (some b)
theorem adX(p p':aT.dz):((aT.eT p).toList.take 0++(aT.jQ p').cells.toList++(aT.eT p).toList.drop (0+26)).toArray=aT.eT p':=adN
theorem aa_(l:List aT.dz)(pid:Int):(aT.bK [(aT.bK l pid).1] pid).1=(aT.bK l pid).1:=by
 unfold aT.bK
 cases h:l.find? (fun x=>decide (x.pid=pid)) with
 |none=>
  simp only[List.find?_cons,List.find?_nil]
  cases decide ((aT.kQ 0).pid=pid)<;>rfl
 |some x=>
  have:=List.find?_some h
  simp only[decide_eq_true_eq] at this
  simp[List.find?_cons,this]
theorem pU{mG:FuncId}{D:Kn→aT.dz→qJ→Kn×Int×Int}(hB:Body Tryz.prog mG)(hD:zP mG D)(b:Nat)(s:Ks)(k:Kn)(pid:Int)(x:qJ)(w:World)
  (hT:∀W:World,Calls Tryz.prog 139 #[.int .u32 x.1] W fun en w'=>en=.returned (.tuple #[.agg #[.func (.func mG) #[] #[]],.bool true])∧Below W.heap.size W w')
  (hw:KW w b s k)(hk:Fit k)(hx:jB x)(hk2:Fit (D k (aT.bK k.P pid).1 x).1)(hv:dI (Call.tF (D k (aT.bK k.P pid).1 x).2.2 (D k (aT.bK k.P pid).1 x).2.1)):
  Co (D k (aT.bK k.P pid).1 x) b s k pid x w:=by
 unfold Co
 have HW:=ah hw
 have hlt:=hw.lt
 have HF:=ah (fun(W:World) (h:Below w.heap.size w W)=>aT.n_ s.P k.P pid W (hw.kr.P.below h))
 have HT:=ah hT
 have HD:=ah (fun W h=>hD b s k (aT.bK k.P pid).1 x W h hk hx)
 have Rz:=aa_ k.P pid
 generalize aT.bK k.P pid=fs at*
 obtain⟨p,ok⟩:=fs
 dsimp only at HD hk2 hv Rz⊢
 generalize D k p x=r at*
 obtain⟨k1,r1,r2⟩:=r
 dsimp only at HD hk2 hv⊢
 obtain⟨y,hy⟩:∃y,y=Lx (k1,r1,r2) pid x:=⟨_,rfl⟩
 rw[←hy]
 unfold Lx at hy
 dsimp only at hy
 have HY:=ah hy
 unfold Body at hB
 have ug:=aT.fG p
 obtain⟨aP,mP,nP,Xw⟩:=hw.kr.P.is
 rw[Xw] at HF
 clear hw hT hD hy
 have yg:=Below.refl w.heap.size w
 ((try clear hcb bC bn bA bE);have bg:=HW.out.below yg;obtain⟨hcb,bC,bn,bA,bE⟩:=aD.rules bg.box;have lG:=ah bg;clear bg)
 go_enter Tryz.func111,Tryz.ntmps111
 go_wp2_with fail
 with_reducible refine(HF.out _ aG).mono ?_
 rintro en w1 ⟨rfl,hb1⟩
 have KX:=ah (aD.new w #[.int .u32 x.1,.int .u32 x.2.1,.int .u32 x.2.2.1,.int .u32 x.2.2.2] 124)
 have hz1:=hb1.size
 simp only[World.size_alloc] at hz1
 have bW:Below w.heap.size w w1:=aG
 ((try clear hcb bC bn bA bE);have bg:=HW.out.below bW;obtain⟨hcb,bC,bn,bA,bE⟩:=aD.rules bg.box;have qA:=ah bg;clear bg)
 ((try clear gL iZ hlx iY hmx);have bx0:=KX.out.below hb1 KX.out.lt;obtain⟨gL,iZ,hlx,iY,hmx⟩:=aD.rules bx0;have FT:=ah bx0;clear bx0)
 clear hb1 lG yg
 go_wp2_with(first|((with_reducible refine bS 126 ?_);(refine aU rfl 126 _ _ rfl (aT.eT p) aT.bf (ug) aF ?_ ?_ ?_;(exact aM);(exact aM)))|fail)
 with_reducible refine(HT.out _).mono ?_
 rintro en w2 ⟨rfl,hb2⟩
 have A9:=ah (aD.new w1 (aT.eT p) 126)
 have hz2:=hb2.size
 simp only[World.size_alloc] at hz2
 have f_:Below w1.heap.size w1 w2:=aG
 have bM:=bW.trans (f_.mono bW.size)
 ((try clear hcb bC bn bA bE);have bg:=qA.out.below f_;obtain⟨hcb,bC,bn,bA,bE⟩:=aD.rules bg.box;have tC:=ah bg;clear bg)
 ((try clear gL iZ hlx iY hmx);have bx0:=FT.out.below f_ FT.out.lt;obtain⟨gL,iZ,hlx,iY,hmx⟩:=aD.rules bx0;have Um:=ah bx0;clear bx0)
 have CV:=ah (A9.out.below hb2 aI)
 have hlx:=FT.out.lt
 clear qA hb2
 go_wp2_with(first|((with_reducible refine cK 126 ?_);(refine aK rfl 126 _ rfl (aT.eT p) aT.bf (ug) (CV.out.alloc _) ?_ ?_;(exact aM)))|fail)
 with_reducible refine(HD.out _ ((tC.out.below ((Below.refl _ _).alloc (Nat.le_refl _) _)))).mono ?_
 rintro en w3 ⟨rfl,⟨s3,FK,Oo⟩,hg3⟩
 have hz3:=hg3.size
 simp only[World.size_alloc] at hz3
 have CZ:=ah (aB (aA (bM.alloc bM.size _) (some b)) hg3)
 have gF:=CV.out.lt
 have BL:=ah ((CV.out.alloc _).grown hg3 aV)
 have QK:=ah ((Um.out.alloc _).grown hg3 aV)
 have hxr:=QK.out.lt
 have Uz:=Oo w1.heap.size aV aj (HW.out.kr.away bW.size)
 have afZ:w.heap.size≤w3.heap.size:=CZ.out.size
 have HST:=ah (lN.trans (lN.refl w b s k) Oo (Nat.le_trans bM.size aI))
 have UK:=ah Uz
 have hps:=aT.jI p
 clear Oo Uz
 obtain⟨hcb,bC,bn,bA,bE⟩:=aD.rules FK.box
 have pF:=ah FK
 clear FK hg3
 by_cases h6:r2=6
 ·subst h6
  by_cases UC:x.1=16
  ·have hy:=HY.out
   rw[if_neg (by simp[UC])] at hy
   have e16:(x.1 !=16)=false:=by simp[UC]
   clear UC
   obtain⟨aQ,mQ,nQ,hvQ⟩:=pF.out.kr.P.is
   have HF3:=ah (fun W h=>aT.n_ s3.P k1.P pid W (pF.out.kr.P.below h))
   rw[hvQ] at HF3
   have YJ:k1.P=[p]→(aT.bK k1.P pid).1=p:=fun h=>by rw[h];exact Rz
   generalize aT.bK k1.P pid=fs at*
   obtain⟨p4,ok4⟩:=fs
   dsimp only at HF3 hy YJ
   have Zh:=aT.fG p4
   have HP4:=ah YJ
   have HA:=ah (fun s W h=>gW b s k1 p4 x r1 6 W h hk2 hv)
   generalize hK4:dA k1 p4 x r1 6=k4 at*
   exact ai7
  ·have hy:=HY.out
   rw[if_pos ⟨rfl,UC⟩] at hy
   subst hy
   have e16:(x.1 !=16)=true:=by simp[UC]
   ((try clear gL iZ hlx iY hmx);have bx0:=QK.out;obtain⟨gL,iZ,hlx,iY,hmx⟩:=aD.rules bx0;have KX4:=ah bx0;clear bx0)
   go_wp2_with fail
   exact bodyPost_ret (v:= .bool false) Vs rfl ⟨rfl,⟨_,pF.out,HST.out⟩,CZ.out⟩
 ·have hy:=HY.out
  rw[if_neg (by simp[h6])] at hy
  have e6:(r2==6)=false:=by simp[h6]
  obtain⟨aQ,mQ,nQ,hvQ⟩:=pF.out.kr.P.is
  have HF3:=ah (fun W h=>aT.n_ s3.P k1.P pid W (pF.out.kr.P.below h))
  rw[hvQ] at HF3
  have YJ:k1.P=[p]→(aT.bK k1.P pid).1=p:=fun h=>by rw[h];exact Rz
  generalize aT.bK k1.P pid=fs at*
  obtain⟨p4,ok4⟩:=fs
  dsimp only at HF3 hy YJ
  have Zh:=aT.fG p4
  have HP4:=ah YJ
  have HA:=ah (fun s W h=>gW b s k1 p4 x r1 r2 W h hk2 hv)
  generalize hK4:dA k1 p4 x r1 r2=k4 at*
  exact ai7
theorem Wd(b:Nat)(s:Ks)(k:Kn)(pid:Int)(x:qJ)(w:World)
  (hT:∀W:World,Calls Tryz.prog 139 #[.int .u32 x.1] W fun en w'=>en=.returned (.tuple #[.agg #[.nilFunc],.bool false])∧Below W.heap.size W w')
  (hw:KW w b s k)(hk:Fit k)(hx:jB x)(hv:dI (Call.tF 1 0)):
  Co (k,0,1) b s k pid x w:=by
 unfold Co
 have HW:=ah hw
 have hlt:=hw.lt
 have HF:=ah (fun(W:World) (h:Below w.heap.size w W)=>aT.n_ s.P k.P pid W (hw.kr.P.below h))
 have HT:=ah hT
 have hy0:Lx (k,0,1) pid x=(dA k (aT.bK k.P pid).1 x 0 1,true):=by unfold Lx;rw[if_neg aI]
 generalize MV:aT.bK k.P pid=fs at*
 obtain⟨p,ok⟩:=fs
 dsimp only at hy0
 obtain⟨y,hy⟩:∃y,y=Lx (k,0,1) pid x:=⟨_,rfl⟩
 rw[←hy]
 rw[hy0] at hy
 have HFS:=ah MV
 have HY:=ah hy
 clear hy0 MV
 have ug:=aT.fG p
 obtain⟨aP,mP,nP,Xw⟩:=hw.kr.P.is
 rw[Xw] at HF
 clear hw hT hy
 have yg:=Below.refl w.heap.size w
 ((try clear hcb bC bn bA bE);have bg:=HW.out.below yg;obtain⟨hcb,bC,bn,bA,bE⟩:=aD.rules bg.box;have lG:=ah bg;clear bg)
 go_enter Tryz.func111,Tryz.ntmps111
 go_wp2_with fail
 with_reducible refine(HF.out _ aG).mono ?_
 rintro en w1 ⟨rfl,hb1⟩
 have KX:=ah (aD.new w #[.int .u32 x.1,.int .u32 x.2.1,.int .u32 x.2.2.1,.int .u32 x.2.2.2] 124)
 have hz1:=hb1.size
 simp only[World.size_alloc] at hz1
 have bW:Below w.heap.size w w1:=aG
 ((try clear hcb bC bn bA bE);have bg:=HW.out.below bW;obtain⟨hcb,bC,bn,bA,bE⟩:=aD.rules bg.box;have qA:=ah bg;clear bg)
 ((try clear gL iZ hlx iY hmx);have bx0:=KX.out.below hb1 KX.out.lt;obtain⟨gL,iZ,hlx,iY,hmx⟩:=aD.rules bx0;have FT:=ah bx0;clear bx0)
 clear hb1 lG yg
 go_wp2_with(first|((with_reducible refine bS 126 ?_);(refine aU rfl 126 _ _ rfl (aT.eT p) aT.bf (ug) aF ?_ ?_ ?_;(exact aM);(exact aM)))|fail)
 with_reducible refine(HT.out _).mono ?_
 rintro en w2 ⟨rfl,hb2⟩
 have A9:=ah (aD.new w1 (aT.eT p) 126)
 have hz2:=hb2.size
 simp only[World.size_alloc] at hz2
 have f_:Below w1.heap.size w1 w2:=aG
 have bM:=bW.trans (f_.mono bW.size)
 ((try clear hcb bC bn bA bE);have bg:=qA.out.below f_;obtain⟨hcb,bC,bn,bA,bE⟩:=aD.rules bg.box;have tC:=ah bg;clear bg)
 ((try clear gL iZ hlx iY hmx);have bx0:=FT.out.below f_ FT.out.lt;obtain⟨gL,iZ,hlx,iY,hmx⟩:=aD.rules bx0;have Um:=ah bx0;clear bx0)
 have CV:=ah (A9.out.below hb2 aI)
 have hlx:=FT.out.lt
 clear qA hb2
 go_wp2_with fail
 with_reducible refine(HF.out _ aG).mono ?_
 rintro en w4 ⟨rfl,hb4⟩
 have Ul:=ah ((Um.out.alloc _).below hb4 aV)
 have gF:=CV.out.lt
 have Ez:=ah ((CV.out.alloc _).below hb4 aV)
 have xU:=hb4.size
 simp only[World.size_alloc] at xU
 have jK:=(bM.alloc bM.size _).trans (hb4.mono (Nat.le_trans bM.size aI))
 have HA:=ah (fun W h=>gW b s k p x 0 1 W h hk (show dI _ from hv))
 have hy:=HY.out
 generalize hK4:dA k p x 0 1=k4 at*
 subst hy
 clear gL iZ hlx iY hmx
 have hps:=aT.jI p
 have w_:w1.heap.size≠b:=aj
 have hBx:¬w.heap.size=w1.heap.size:=aj
 go_wp2_with(first|((with_reducible refine bS 126 ?_);(refine aR rfl 126 _ _ rfl Ez.out (aT.jQ p) aT.bf (ug) ?_ (aT.eT p) (adX p p) ?_ ?_ ?_;(exact gG);(exact aM);(exact aM);(intro w5 LH nK LP kV;have M4:=ah LH;have KX6:=ah (Ul.out.grown nK aV);have iE:=jK.trans (kV.mono bW.size);have LZ:=ah (HW.out.below iE);have hx6:=KX6.out;have Oa:=hx6.rules.1;clear LH hx6)))|((with_reducible refine cK 126 ?_);(refine aK rfl 126 _ rfl (aT.eT p) aT.bf (ug) M4.out ?_ ?_;(exact aM)))|fail)
 with_reducible refine(HA.out _ LZ.out).mono ?_
 rintro en w7 ⟨rfl,⟨s7,kw7,aj6⟩,yS⟩
 go_wp2_with fail
 exact bodyPost_ret (v:= .bool true) Vs rfl ⟨rfl,⟨s7,kw7,(lN.refl w b s k).trans aj6 iE.size⟩,aB (aA iE (some b)) yS⟩
end Go.Proofs.YtgmodehldmahiaaGreatDoor
end
section
namespace Go.Proofs.YtgmodehldmahiaaGreatDoor
open Go Go.RowKit Go.Tm
attribute [local go_sem] fO fM fK d_ dM dZ dY dX dW dV dU dS dR dQ dP dO dN iQ iP iO iN iM iL iK iG iJ iI fU fT fQ fP fI fH fC
def afV(k:Kn)(p:aT.dz)(x:qJ):Kn×Int×Int:=(k,p.pid%4294967296,0)
theorem aeX:zP 164 afV:=by
 intro b s k p x w hw hk hx
 have HW:=ah hw
 unfold afV
 (rw[show aT.jQ p=.agg (iA p.pid p.par p.st (pq p)) from congrArg Value.agg (wM p)];have hq:=jR p;generalize pq p=q at*;generalize p.pid=pid at*;generalize p.par=par at*;generalize p.st=st at*;have HQ:=ah hq;clear hq)
 have hlt:=hw.lt
 clear hw
 go_enter Tryz.func164,Tryz.ntmps164
 go_wp2_with fail
 exact bodyPost_ret (v:= .tuple #[.int .u32 (pid%4294967296),.int .i64 0]) (by simp[results,Tryz.results164,go_sem]) rfl ⟨rfl,⟨s,HW.out.below aG,fun _ _ _ h=>h⟩,aA aG _⟩
def XQ(k:Kn)(p:aT.dz)(x:qJ):Kn×Int×Int:=(k,k.now%4294967296,0)
theorem ZM:zP 165 XQ:=by
 intro b s k p x w hw hk hx
 have HW:=ah hw
 unfold XQ
 (rw[show aT.jQ p=.agg (iA p.pid p.par p.st (pq p)) from congrArg Value.agg (wM p)];have hq:=jR p;generalize pq p=q at*;generalize p.pid=pid at*;generalize p.par=par at*;generalize p.st=st at*;have HQ:=ah hq;clear hq)
 obtain⟨hcb,bC,bn,bA,bE⟩:=aD.rules hw.box
 clear hw
 go_enter Tryz.func165,Tryz.ntmps165
 go_wp2_with fail
 exact bodyPost_ret (v:= .tuple #[.int .u32 (k.now%4294967296),.int .i64 0]) (by simp[results,Tryz.results165,go_sem]) rfl ⟨rfl,⟨s,HW.out.below aG,fun _ _ _ h=>h⟩,aA aG _⟩
theorem anY:Ty Tryz.prog 5 1 false:=⟨ay,ay,aC,ay⟩
theorem alc:∃i,TyM Tryz.prog 5 1 false i (.int .u8 0) 1 225:=by
 have h:(Tryz.prog.info? 5).map (fun i=>(i.zero,i.size,i.bytes))=some (some (.int .u8 0),1,1):=ay
 obtain⟨i,hi,hz,hs,hb⟩:=info_parts h
 exact⟨i,anY,Tryz.underlying225,hi,hz,hs,hb,rfl⟩
theorem u8w(n:Int):IntKind.u8.wrap n=n%256:=rfl
def Ze(k:Kn)(p:aT.dz)(x:qJ):Kn×Int×Int:=({k with co:=k.co++⟨#[byteOf x.2.1]⟩},0,0)
theorem aeU:zP 166 Ze:=by
 intro b s k p x w hw hk hx
 have HW:=ah hw
 unfold Ze
 (rw[show aT.jQ p=.agg (iA p.pid p.par p.st (pq p)) from congrArg Value.agg (wM p)];have hq:=jR p;generalize pq p=q at*;generalize p.pid=pid at*;generalize p.par=par at*;generalize p.st=st at*;have HQ:=ah hq;clear hq)
 have hco:¬9223372036854775807<k.co.size+1:=by have:=hk.co;omega
 obtain⟨i0,hM⟩:=alc
 clear hw
 go_enter Tryz.func166,Tryz.ntmps166
 go_wp2_with fail
 (generalize bR:World.alloc _ _=w0;have KP:aD w0 (w.heap.size) (iA pid par st q) 126:=bH;have KX:aD w0 (w.heap.size+1) (#[.int .u32 x.1,.int .u32 x.2.1,.int .u32 x.2.2.1,.int .u32 x.2.2.2]) 124:=bH;have hb0:Below w.heap.size w w0:=bN;have hz0:w0.heap.size=w.heap.size+1+1:=bX;clear bR;have KP:=ah KP;have KX:=ah KX)
 ((try clear hcb bC bn bA bE);have bg:=HW.out.below hb0;obtain⟨hcb,bC,bn,bA,bE⟩:=aD.rules bg.box;have lG:=ah bg;clear bg)
 ((try clear gL iZ hlx iY hmx);have bx0:=KX.out;obtain⟨gL,iZ,hlx,iY,hmx⟩:=aD.rules bx0;have wL:=ah bx0;clear bx0)
 ((refine aY (fun W=>Below w0.heap.size w0 W) (fun i=>decide (i<14)) ay ?_);
          have hS:Below w0.heap.size w0 w0.drew:=(Below.refl _ _).drew;
          (refine tk 0 8 hS ?_);
          (refine tk 1 9 hS ?_);
          (refine tk 2 10 hS ?_);
          (refine tk 3 11 hS ?_);
          (refine tk 4 12 hS ?_ (hy:=Or.inl ⟨aF,Bo⟩));
          (refine tk 5 13 hS ?_);
          (refine tk 6 14 hS ?_ (hy:=Or.inl ⟨aF,Bo⟩));
          (refine tk 7 15 hS ?_);
          (refine aJ 8 (oi:=⟨some 16,_,_,_,_,_⟩) rfl ay rfl (fun K hK=>?_));
          (refine mK _ rfl hM aC (.int .u8 (IntKind.u8.wrap x.2.1)) bG ⟨rfl,rfl⟩ ?_);
          (refine hidS hK (hS.alloc hS.size _) (fun hS=>?_);clear hK K);
          (try simp only[pt]);
          (refine aJ 9 (oi:=⟨some 17,_,_,_,_,_⟩) rfl ay rfl (fun K hK=>?_));
          (refine MG _ _ _ rfl (.slice (some ⟨w0.heap.size,0,none⟩) 1 1) bG (J3 [byteOf x.2.1] (aD.new _ _ _) (by simp[Fy,Value.cells,u8w])) ?_);
          (refine hidS hK (hS) (fun hS=>?_);clear hK K);
          (try simp only[pt]);
          (refine tk 10 18 hS ?_);
          (refine tk 11 19 hS ?_);
          (refine tk 12 20 hS ?_);
          (refine tk 13 21 hS ?_);
          (refine aZ 14 ay ?_ rfl);
          simp only[List.toList_toArray,List.drop_succ_cons,List.drop_zero])
 generalize World.alloc _ _=w1 at hS⊢
 ((try clear hcb bC bn bA bE);have bg:=lG.out.below hS;obtain⟨hcb,bC,bn,bA,bE⟩:=aD.rules bg.box;have qA:=ah bg;clear bg)
 go_wp2_with fail
 exact bodyPost_ret (v:= .tuple #[.int .u32 0,.int .i64 0]) (by simp[results,Tryz.results166,go_sem]) rfl ⟨rfl,⟨_,qA.out.aln _,fun _ _ _ h=>h⟩,aB (aA (hb0.trans (hS.mono hb0.size)) _) (aO _ _ _ _)⟩
noncomputable def y7(k:Kn)(p:aT.dz)(x:qJ):Kn×Int×Int:=
 if(aT.zO k.P p.pid).2=true then({k with P:=aT.Aq k.P (aT.zO k.P p.pid).1},wrap64 (wrap64 (256*(aT.zO k.P p.pid).1)+(pq (aT.bK k.P (aT.zO k.P p.pid).1).1).code)%4294967296,0)
 else if(aT.ajW k.P p.pid).length=0 then(k,0,12) else(k,0,6)
theorem ZH:zP 163 y7:=by
 intro b s k p x w hw hk hx
 have HW:=ah hw
 obtain⟨r,hr⟩:∃r,r=y7 k p x:=⟨_,rfl⟩
 rw[←hr]
 unfold y7 at hr
 (rw[show aT.jQ p=.agg (iA p.pid p.par p.st (pq p)) from congrArg Value.agg (wM p)];have hq:=jR p;generalize pq p=q at*;generalize p.pid=pid at*;generalize p.par=par at*;generalize p.st=st at*;have HQ:=ah hq;clear hq)
 have hlt:=hw.lt
 clear hw
 have HD:=ah (fun v W h=>aT.afq v k.P pid W h)
 have HK:=ah (fun v W h=>aT.Ql v k.P pid W h OV)
 generalize aT.zO k.P pid=d at*
 obtain⟨d1,d2⟩:=d
 generalize aT.ajW k.P pid=ks at*
 dsimp only at hr
 have HR:=ah hr
 clear hr
 go_enter Tryz.func163,Tryz.ntmps163
 go_wp2_with fail
 (generalize bR:World.alloc _ _=w0;have KP:aD w0 (w.heap.size) (iA pid par st q) 126:=bH;have KX:aD w0 (w.heap.size+1) (#[.int .u32 x.1,.int .u32 x.2.1,.int .u32 x.2.2.1,.int .u32 x.2.2.2]) 124:=bH;have hb0:Below w.heap.size w w0:=bN;have hz0:w0.heap.size=w.heap.size+1+1:=bX;clear bR;have KP:=ah KP;have KX:=ah KX)
 ((try clear hcb bC bn bA bE);have bg:=HW.out.below hb0;obtain⟨hcb,bC,bn,bA,bE⟩:=aD.rules bg.box;have lG:=ah bg;clear bg)
 ((try clear fF h_ gF gQ g_);have bx0:=KP.out;obtain⟨fF,h_,gF,gQ,g_⟩:=aD.rules bx0;have rJ:=ah bx0;clear bx0)
 ((refine aY (fun W=>Below w0.heap.size w0 W) (fun i=>decide (i<13)) ay ?_);
          have hS:Below w0.heap.size w0 w0.drew:=(Below.refl _ _).drew;
          (refine tk 0 13 hS ?_);
          (refine tk 1 14 hS ?_);
          (refine tk 2 15 hS ?_);
          (refine tk 3 16 hS ?_);
          (refine tk 4 17 hS ?_ (hy:=Or.inl ⟨aF,qB⟩));
          (refine tk 5 18 hS ?_);
          (refine tk 6 19 hS ?_ (hy:=Or.inl ⟨aF,qB⟩));
          (refine aJ 7 (oi:=⟨some 20,_,_,_,_,_⟩) rfl ay rfl (fun K hK=>?_));
          (go_simp;(with_reducible refine(HD.out _ _ (lG.out.kr.P.below hS)).mono ?_);rintro en w1 ⟨rfl,hb1⟩;have hS:=hS.trans (Below.mono hb1 hS.size);skip;(try go_wp2_with fail));
          (refine hK.out _ _ (fun _=>b_) ?_;clear hK K);
          (try simp only[pt]);
          (refine tk 8 12 hS ?_);
          (refine tk 9 21 hS ?_);
          (refine tk 10 22 hS ?_);
          (refine tk 11 8 hS ?_);
          (refine tk 12 9 hS ?_);
          (refine mJ ay ?_))
 ((try clear hcb bC bn bA bE);have bg:=lG.out.below hS;obtain⟨hcb,bC,bn,bA,bE⟩:=aD.rules bg.box;have qA:=ah bg;clear bg)
 ((try clear fF h_ gF gQ g_);have bx0:=rJ.out.below hS rJ.out.lt;obtain⟨fF,h_,gF,gQ,g_⟩:=aD.rules bx0;have A9:=ah bx0;clear bx0)
 have bW:=hb0.trans (hS.mono hb0.size)
 cases d2
 ·have hr:=HR.out
  rw[if_neg aC] at hr
  go_wp2_with fail
  ((refine aY (fun W=>Below w1.heap.size w1 W) (fun i=>decide (i<11)) ay ?_);
          have qG:Below w1.heap.size w1 w1.drew:=(Below.refl _ _).drew;
          (refine tk 0 53 qG ?_);
          (refine tk 1 54 qG ?_);
          (refine tk 2 55 qG ?_);
          (refine tk 3 56 qG ?_);
          (refine tk 4 57 qG ?_ (hy:=Or.inl ⟨aF,qB⟩));
          (refine tk 5 58 qG ?_);
          (refine tk 6 59 qG ?_ (hy:=Or.inl ⟨aF,qB⟩));
          (refine aJ 7 (oi:=⟨some 60,_,_,_,_,_⟩) rfl ay rfl (fun K hK=>?_));
          (go_simp;(with_reducible refine(HK.out _ _ (qA.out.kr.P.below qG)).mono ?_);rintro en w2 ⟨v2,rfl,o7,hb2⟩;have qG:=qG.trans (Below.mono hb2 qG.size);have hso:=o7.sl;obtain⟨a2,n2,rfl,hl2⟩:=hso.shape;rw[gH] at hl2;(try go_wp2_with fail));
          (refine hK.out _ _ (fun _=>b_) ?_;clear hK K);
          (try simp only[pt]);
          (refine tk 8 61 qG ?_);
          (refine tk 9 62 qG ?_);
          (refine tk 10 52 qG ?_);
          (refine mJ ay ?_))
  have bM:=bW.trans (qG.mono bW.size)
  by_cases h0:ks.length=0
  ·rw[if_pos h0] at hr
   subst hr
   go_wp2_with fail
   exact bodyPost_ret (v:= .tuple #[.int .u32 0,.int .i64 12]) Vr rfl ⟨rfl,⟨s,HW.out.below bM,fun _ _ _ h=>h⟩,aA bM _⟩
  ·rw[if_neg h0] at hr
   subst hr
   go_wp2_with fail
   exact bodyPost_ret (v:= .tuple #[.int .u32 0,.int .i64 6]) Vr rfl ⟨rfl,⟨s,HW.out.below bM,fun _ _ _ h=>h⟩,aA bM _⟩
 ·have hr:=HR.out
  rw[if_pos rfl] at hr
  have HF:=ah (fun v W h=>aT.n_ v k.P d1 W h)
  have mh:=wM (aT.bK k.P d1).1
  generalize aT.bK k.P d1=f at*
  obtain⟨p2,f2⟩:=f
  dsimp only at*
  have arR:=dM p2.pid p2.par p2.st (pq p2)
  rw[show aT.jQ p2=.agg (iA p2.pid p2.par p2.st (pq p2)) from congrArg Value.agg mh] at HF
  go_wp2_with fail
  with_reducible refine(HF.out _ _ (qA.out.kr.P)).mono ?_
  rintro en w2 ⟨rfl,hb2⟩
  have bM:=bW.trans (hb2.mono bW.size)
  ((try clear hcb bC bn bA bE);have bg:=qA.out.below hb2;obtain⟨hcb,bC,bn,bA,bE⟩:=aD.rules bg.box;have tC:=ah bg;clear bg)
  clear fF h_ gF gQ g_
  have hv2:=qY p2.pid p2.par p2.st (pq p2)
  go_wp2_with(first|((with_reducible refine bS 126 ?_);(refine aU rfl 126 _ _ rfl (iA p2.pid p2.par p2.st (pq p2)) aT.bf (hv2) aF ?_ ?_ ?_;(exact aM);(exact aM)))|fail)
  with_reducible refine(aT.Ki _ k.P d1 _ (tC.out.kr.P.alloc _) OV).mono ?_
  rintro en w3 ⟨v3,rfl,hs3,hb3⟩
  have hz3:=hb3.size
  simp only[World.size_alloc] at hz3
  obtain⟨a3,m3,n3,rfl⟩:=hs3.is
  have bq3:aD w3 w2.heap.size (iA p2.pid p2.par p2.st (pq p2)) 126:=(aD.new w2 _ _).below hb3 aI
  have ana:Below w2.heap.size w2 w3:=aG
  have gZ:=bM.trans (ana.mono bM.size)
  ((try clear hcb bC bn bA bE);have bg:=tC.out.below ana;obtain⟨hcb,bC,bn,bA,bE⟩:=aD.rules bg.box;have pF:=ah bg;clear bg)
  have KQ3:=ah bq3
  ((try clear Qz YQ Uw Uf YM);have bx0:=KQ3.out;obtain⟨Qz,YQ,Uw,Uf,YM⟩:=aD.rules bx0;have KQ4:=ah bx0;clear bx0)
  have H3:=ah hs3
  have asq:=tC.out.lt
  clear bq3 hs3 hb3
  have asj:¬b=w2.heap.size:=aj
  have asi:¬w2.heap.size=b:=aj
  go_wp2_with fail
  subst hr
  exact bodyPost_ret (v:= .tuple #[.int .u32 (wrap64 (wrap64 (256*d1)+(pq p2).code)%4294967296),.int .i64 0]) Vr rfl ⟨rfl,⟨_,pF.out.C8 H3.out,fun _ _ _ h=>h⟩,aB (aA gZ _) (aO _ _ _ _)⟩
end Go.Proofs.YtgmodehldmahiaaGreatDoor
end
