/- Part 47 of 53 of the proof of topAlone_and_topApart. Conditions: see each. -/
import Derived.Test.YtgmodehldmahiaaGreatDoorB14
import Derived.Test.YtgmodehldmahiaaGreatDoorB45
import Derived.Test.YtgmodehldmahiaaGreatDoorB44
import Derived.Test.YtgmodehldmahiaaGreatDoorB13
set_option linter.unusedVariables false
set_option linter.unusedSimpArgs false
set_option maxRecDepth 8192
set_option maxHeartbeats 40000000
section
namespace Go.Proofs.YtgmodehldmahiaaGreatDoor
open Go Go.RowKit Go.Tm
def iB:bF.jE:=⟨[(64,1,1,1)],10,[[(0,0,10)]],[]⟩
theorem H_:bF.gJ iB:=
 ⟨aC,aC,aC,aC,aC,aC,aC,aC,aC,by
  intro l hl
  simp only[iB,List.mem_singleton] at hl
  subst hl
  refine⟨?_,aC,trivial⟩
  unfold bF.uf
  decide,aC⟩
structure Idle(x:St)(t:Int):Prop where
 st:x.2.1=1
 gone:x.1.gone=1
 now:x.1.now=t
theorem aff{x:St}{t:Int}(h:Idle x t)(ht:t<1000):Idle (qQ iB 0 x) (t+1)∧(qQ iB 0 x).1.se=[]∧(qQ iB 0 x).1.want=0:=by
 obtain⟨k,st,bo⟩:=x
 obtain⟨h1,h2,h3⟩:=h
 dsimp only at h1 h2 h3
 subst h1
 have hs:lK k=zL (iW k):=by unfold lK;rw[if_neg aj]
 have hg:(lK k).gone=1:=by rw[hs];exact h2
 have hw:(lK k).want=0:=by rw[hs];rfl
 have hse:(lK k).se=[]:=by rw[hs];rfl
 have hn:(lK k).now=t+1:=by rw[hs];unfold zL iW;dsimp only;omega
 have e:qQ iB 0 (k,1,bo)=(lK k,1,bo):=by
  unfold qQ oZ
  rw[if_pos rfl,hw,if_neg aC,if_neg aC]
  unfold eY
  rw[if_neg (by rw[hg];decide),hg]
  have ha:Mg (partAt iB 0) 1=1:=rfl
  rw[ha,if_neg aC,if_neg aC]
 rw[e]
 exact⟨⟨rfl,hg,hn⟩,hse,hw⟩
theorem at0(n:Nat)(hn:n<10):bF.Bn iB 0 n=(0,if n<2 then 1 else 2):=by
 have hc:bF.cyc iB.frame n=n:=by
  unfold bF.cyc bF.frm
  rw[if_neg aC]
  show(n:Int)%10=n
  omega
 unfold bF.Bn bF.atL
 rw[bF.EZ H_ aC aC (show iB.wins[(0:Int).toNat]?=some [(0,0,10)] from rfl),hc]
 have hh:bF.Me n (0,0,10)=true:=by unfold bF.Me;simp;omega
 rw[List.find?_cons_of_pos hh]
 unfold bF.Oy
 dsimp only
 by_cases h2:n<2
 ·rw[if_pos aj,if_pos h2]
 ·rw[if_neg aj,if_neg h2]
structure Z0(n:Nat)(h:Hn):Prop where
 now:h.now=n
 sched:h.sched=0
 next:h.next=0
 seat:∃x,h.seats=[x]∧Idle x ((n-2:Nat):Int)
theorem agr{n:Nat}{h:Hn}(hz:Z0 n h)(hn:n<10):Z0 (n+1) (pO iB h):=by
 obtain⟨z1,z2,z3,x,hx,hi⟩:=hz
 obtain⟨now,sched,next,seats,owner⟩:=h
 dsimp only at z1 z2 z3 hx
 subst z1 z2 z3 hx
 have hat:=at0 n hn
 have BM:∃o,iD iB ⟨n,0,0,[x],owner⟩=⟨n,0,0,[x],o⟩:=by
  have e:F4 x=x:=by unfold F4;rw[if_neg (by rw[hi.st];decide)]
  unfold iD
  dsimp only
  rw[hat]
  split
  ·refine⟨owner,?_⟩
   simp[e]
  ·exact⟨owner,rfl⟩
 obtain⟨o,BM⟩:=BM
 have aoe:∀g:Hn,g.next=0→g.sched=0→(y9 iB g).sched=0∧(y9 iB g).next=0∧(y9 iB g).now=g.now+1∧(y9 iB g).seats=g.seats:=by
  intro g h1 h2
  unfold y9
  split
  ·exact⟨h1,h1,rfl,rfl⟩
  ·exact⟨h2,h1,rfl,rfl⟩
 have key:∃y,(j4 iB ⟨n,0,0,[x],o⟩ (bF.Bn iB 0 n)).seats=[y]∧(j4 iB ⟨n,0,0,[x],o⟩ (bF.Bn iB 0 n)).next=0∧(j4 iB ⟨n,0,0,[x],o⟩ (bF.Bn iB 0 n)).sched=0∧(j4 iB ⟨n,0,0,[x],o⟩ (bF.Bn iB 0 n)).now=n∧Idle y ((n+1-2:Nat):Int):=by
  rw[hat]
  by_cases h2:n<2
  ·rw[if_pos h2]
   have e0:n-2=0:=aj
   have e1:n+1-2=0:=aj
   rw[e0] at hi
   refine⟨x,?_⟩
   unfold j4
   rw[if_neg aC,e1]
   exact⟨rfl,rfl,rfl,rfl,hi⟩
  ·rw[if_neg h2]
   obtain⟨a1,a2,a3⟩:=aff hi aj
   have e1:((n+1-2:Nat):Int)=((n-2:Nat):Int)+1:=aj
   rw[←e1] at a1
   have hg:Gn ⟨n,0,0,[x],o⟩ (0:Int).toNat=true:=by
    unfold Gn
    simp[hi.st]
   have hc:kR iB (0:Int).toNat ⟨n,0,0,[x],o⟩=⟨n,0,0,[qQ iB 0 x],o⟩:=by
    show mZ iB 0 ⟨n,0,0,[x],o⟩ (qQ iB 0 x)=_
    unfold mZ
    rw[a2,a3,if_neg (by unfold wrap64;omega)]
    rfl
   refine⟨qQ iB 0 x,?_⟩
   unfold j4
   rw[if_pos rfl]
   dsimp only
   rw[if_pos hg,hc]
   exact⟨rfl,rfl,rfl,rfl,a1⟩
 obtain⟨y,k1,k2,k3,k4,k5⟩:=key
 have hs:pO iB ⟨n,0,0,[x],owner⟩=y9 iB (j4 iB ⟨n,0,0,[x],o⟩ (bF.Bn iB 0 n)):=by
  unfold pO
  rw[BM]
 rw[hs]
 obtain⟨t1,t2,t3,t4⟩:=aoe _ k2 k3
 exact⟨by rw[t3,k4];omega,t1,t2,y,by rw[t4,k1],k5⟩
theorem aeg:Z0 0 (fu iB []):=by
 refine⟨rfl,rfl,rfl,j3 iB [] 0,rfl,?_⟩
 have CX:jr [] ((0:Nat):Int)=[]:=rfl
 have hi:(dB (nC (partAt iB 0).1 [] (aW.uQ iB.chans ((0:Nat):Int)) (aW.qc iB.chans ((0:Nat):Int)) 0) 0).2=7:=by
  unfold dB
  rw[if_neg (by show¬((0:Int)<((([]:List ByteArray).length:Nat):Int));simp)]
 have hk:kN (partAt iB 0).1 [] (aW.uQ iB.chans ((0:Nat):Int)) (aW.qc iB.chans ((0:Nat):Int)) 0={nC (partAt iB 0).1 [] (aW.uQ iB.chans ((0:Nat):Int)) (aW.qc iB.chans ((0:Nat):Int)) 0 with gone:=1}:=by
  unfold kN DC
  rw[if_neg (by rw[hi];decide)]
  dsimp only
  rw[if_neg (by rw[hi];decide)]
 have e:j3 iB [] 0=({nC (partAt iB 0).1 [] (aW.uQ iB.chans ((0:Nat):Int)) (aW.qc iB.chans ((0:Nat):Int)) 0 with gone:=1},1,1):=by
  unfold j3 vv
  rw[CX,hk]
  unfold eY
  rw[if_neg aC]
  have ha:Mg (partAt iB 0) 1=1:=rfl
  dsimp only
  rw[ha,if_neg aC,if_neg aC]
 rw[e]
 exact⟨rfl,rfl,rfl⟩
theorem adO:∀n:Nat,n≤10→Z0 n (nT iB (fu iB []) n)
 |0,_=>aeg
 |n+1,h=>agr (adO n aj) aj
end Go.Proofs.YtgmodehldmahiaaGreatDoor
end
section
namespace Go.Proofs.YtgmodehldmahiaaGreatDoor
open Go Go.RowKit Go.Tm
attribute [local go_sem] fO fM fK d_ dM dZ dY dX dW dV dU dS dR dQ dP dO dN iQ iP iO iN iM iL iK iG iJ iI fU fT fQ fP fI fH fC
attribute [local go_sem] Gm Gl Gj Gi Gh Dy Gg Gf Gc Gb zZ
theorem Fb{W:World}{ag:Bool}{k b:Nat}{x:Value}{t:TypeId}(h:aD W b x.cells t)(hx:Val ag k x):Sl W ag k (.slice (some ⟨b,0,none⟩) 1 1) [x]:=by
 refine⟨by intro y hy;rw[List.mem_singleton] at hy;subst hy;exact hx,some ⟨b,0,none⟩,1,rfl,Nat.le_refl _,by unfold maxLen;decide,.inr ⟨b,0,rfl,h.lt,fun i y hy=>?_⟩⟩
 have hi:i=0:=by
  have:=(List.getElem?_eq_some_iff.1 hy).1
  simp at this;exact this
 subst hi
 simp only[List.getElem?_cons_zero,Option.some.injEq] at hy
 subst hy
 intro j v hv
 rw[h.rules.1,Nat.zero_mul,Nat.add_zero,Nat.zero_add]
 rwa[Array.getElem?_toList] at hv
theorem agv(x:bF.Wn):Val true 3 (bF.QF x):=⟨_,rfl,rfl,M7⟩
theorem AA(w:World)(hT:jw w):Calls Tryz.prog 6 #[] w fun e w'=>e=.returned (.bool true)∧Below w.heap.size w w':=by
 have Et:=ah (fun W (h:Below w.heap.size w W)=>hT.below h)
 clear hT
 go_enter Tryz.func6,Tryz.ntmps6
 go_wp2_with fail
 (generalize bR:World.alloc _ _=w0;have KP:aD w0 (w.heap.size) (#[.int .i64 64,.int .i64 1,.int .i64 1,.int .i64 1]) 74:=bH;have KW:aD w0 (w.heap.size+1) (#[.int .i64 0,.int .i64 0,.int .i64 10]) 76:=bH;have KV:aD w0 (w.heap.size+1+1) (#[.slice (some ⟨w.heap.size+1,0,none⟩) 1 1]) 77:=bH;have hb0:Below w.heap.size w w0:=bN;have hz0:w0.heap.size=w.heap.size+1+1+1:=bX;clear bR;have KP:=ah KP;have KW:=ah KW;have KV:=ah KV)
 have hpl:bF.jf w0 (.slice (some ⟨w.heap.size,0,none⟩) 1 1) (.slice (some ⟨w.heap.size+1+1,0,none⟩) 1 1) (.slice none 0 0) iB:=by
  refine⟨Fb (x:=bF.Ut (64,1,1,1)) KP.out (JV _),⟨[.slice (some ⟨w.heap.size+1,0,none⟩) 1 1],Fb (x:= .slice (some ⟨w.heap.size+1,0,none⟩) 1 1) KV.out ⟨rfl,rfl⟩,rfl,fun i u l hu hl=>?_⟩,Sl.nil _ _ _⟩
  have hi:i=0:=by
   have:=(List.getElem?_eq_some_iff.1 hu).1
   simp at this;exact this
  subst hi
  have e1:u=.slice (some ⟨w.heap.size+1,0,none⟩) 1 1:=by simpa using hu.symm
  have e2:l=[(0,0,10)]:=(by simpa[iB] using hl:[((0:Int),(0:Int),(10:Int))]=l).symm
  subst e1 e2
  exact Fb (x:=bF.QF (0,0,10)) KW.out (agv _)
 have CX:mR w0 (.slice none 0 0) []:=⟨[],Sl.nil _ _ _,rfl,fun i u l hu hl=>by cases hu⟩
 have HBG:=ah (Ab _ _ _ _ iB [] w0 hpl CX H_ (fun l hl=>by cases hl))
 have HPL:=ah hpl
 clear hpl CX
 refine HBG.out.mono ?_
 rintro en w1 ⟨s1,rfl,oz,aq_,hb1⟩
 have bW:=hb0.trans (hb1.mono hb0.size)
 have HP1:=ah (HPL.out.below hb1)
 have N9:kind (Value.slice none 0 0)=5:=rfl
 have Ud:=je HP1.out N9 oz
 have Y2:=ah Ud
 have HM1:=ah oz
 have Ol:=nk (.slice (some ⟨w.heap.size,0,none⟩) 1 1) (.slice (some ⟨w.heap.size+1+1,0,none⟩) 1 1) (.slice none 0 0) (.slice none 0 0) iB s1 (fu iB [])
 clear Ud oz aq_ hz0
 go_wp2_with(first|((with_reducible refine bS 36 ?_);(refine aU rfl 36 _ _ rfl (hC (.slice (some ⟨w.heap.size,0,none⟩) 1 1) (.slice (some ⟨w.heap.size+1+1,0,none⟩) 1 1) (.slice none 0 0) (.slice none 0 0) iB s1 (fu iB [])) eH (Y2.out) aF ?_ ?_ ?_;(exact aM);(exact aM)))|((with_reducible refine cK 36 ?_);(refine aK rfl 36 _ rfl (hC (.slice (some ⟨w.heap.size,0,none⟩) 1 1) (.slice (some ⟨w.heap.size+1+1,0,none⟩) 1 1) (.slice none 0 0) (.slice none 0 0) iB s1 (fu iB [])) eH (Y2.out) (aD.new w1 _ _) ?_ ?_;(exact aM)))|fail)
 (generalize bR:World.alloc _ _=w2;have KB:aD w2 (w1.heap.size) (hC (.slice (some ⟨w.heap.size,0,none⟩) 1 1) (.slice (some ⟨w.heap.size+1+1,0,none⟩) 1 1) (.slice none 0 0) (.slice none 0 0) iB s1 (fu iB [])) 36:=bH;have hb0:Below w1.heap.size w1 w2:=bN;have hz0:w2.heap.size=w1.heap.size+1:=bX;clear bR;have KB:=ah KB)
 have f_:=hb0
 have zB:=hz0
 have bM:=bW.trans (f_.mono bW.size)
 have HRN:=ah (Ru _ _ _ _ iB s1 (fu iB []) 0 0 10 w2 (HP1.out.below f_) N9 (HM1.out.below f_) (Et.out _ bM) H_ (vG H_ (fun l hl=>by cases hl)) aj aj)
 obtain⟨z1,z2,z3,x,z4,z5⟩:=adO 10 (Nat.le_refl _)
 refine HRN.out.mono ?_
 rintro en w3 ⟨⟨sv,ss,av,rows,got⟩,rfl,qL,vQ,hb3⟩
 generalize nT iB (fu iB []) 10=h3 at*
 have gZ:=bM.trans (hb3.mono bM.size)
 have hx:h3.seats[0]?=some x:=by rw[z4];rfl
 have jO:h3.seats.length=1:=by rw[z4];rfl
 obtain⟨u,hu⟩:∃u,ss[0]?=some u:=⟨_,List.getElem?_eq_getElem (by rw[show ss.length=_ from qL.mo,jO];decide)⟩
 obtain⟨asv,Ui,xP,Iz⟩:=qL.sv.shape
 rw[gV qL.mo,jO] at xP
 dsimp only at xP
 subst xP
 obtain⟨bs,os,hbs,UU,hcs⟩:=qL.sv.at (kI hu hx)
 subst hbs
 have hc7:w3.cell? ⟨bs,os+7,none⟩=some (.int .u64 8):=by
  have h8:x.1.now=8:=z5.now
  have:=hcs 7 (.int .u64 x.1.now) (by rw[show(stV u x).cells=xC u x.1 (sx x.2.1 x.2.2) from rfl,Array.getElem?_toList,Dr])
  rw[h8] at this
  simpa using this
 have hv3:=je (HP1.out.below (f_.trans (hb3.mono f_.size))) N9 qL
 have HV3:=ah hv3
 have QW:h3.now=10:=z1
 clear hv3 hcs qL vQ z1 z2 z3 z4 z5 Ol HBG HRN
 have nK:=Dy (.slice (some ⟨w.heap.size,0,none⟩) 1 1) (.slice (some ⟨w.heap.size+1+1,0,none⟩) 1 1) (.slice none 0 0) (.slice none 0 0) iB ⟨.slice (some ⟨bs,os,none⟩) 1 Ui,ss,av,rows,got⟩ h3
 rw[QW] at nK
 go_wp2_with(first|((with_reducible refine bS 36 ?_);(refine aU rfl 36 _ _ rfl (hC (.slice (some ⟨w.heap.size,0,none⟩) 1 1) (.slice (some ⟨w.heap.size+1+1,0,none⟩) 1 1) (.slice none 0 0) (.slice none 0 0) iB ⟨.slice (some ⟨bs,os,none⟩) 1 Ui,ss,av,rows,got⟩ h3) eH (HV3.out) aF ?_ ?_ ?_;(exact aM);(exact aM)))|fail)
 go_ret
 exact⟨rfl,by first|exact gZ.alloc gZ.size _|exact bl⟩
end Go.Proofs.YtgmodehldmahiaaGreatDoor
end
section
namespace Go.Proofs.YtgmodehldmahiaaGreatDoor
open Go Go.RowKit Go.Tm
theorem NV{p:bF.jE}(hok:bF.gJ p){c:aW.Ch}(hc:c∈p.chans):okP p.parts.length c.2.1∧okP p.parts.length c.2.2.1:=by
 have h:=hok.chans c hc
 unfold bF.lU at h
 unfold okP
 exact⟨⟨aj,aj⟩,aj,aj⟩
theorem GK{R:Nat→Prop}{p:bF.jE}{dx kS:List (List ByteArray)}(h:∀i:Nat,R i→i<p.parts.length∧jr dx i=jr kS i):Agree R (fu p dx) (fu p kS):=
 ⟨rfl,rfl,rfl,fun i hi=>by
  obtain⟨h1,h2⟩:=h i hi
  unfold fu
  rw[wH h1,wH h1]
  unfold j3
  rw[h2]⟩
theorem T_{p:bF.jE}{dx kS:List (List ByteArray)}{M:Int}(hok:bF.gJ p)(h0:0≤M)(h1:M<p.parts.length)(hw:p.wins.length=1)(CW:(aW.qc p.chans M).length=0)(he:jr dx M=jr kS M)(n:Nat):
  (nT p (fu p dx) n).seats[M.toNat]?=(nT p (fu p kS) n).seats[M.toNat]?:=by
 have hc:Closed (fun i=>i=M.toNat) p:=by
  intro c hc
  obtain⟨⟨a1,a2⟩,b1,b2⟩:=NV hok hc
  refine⟨a1,fun h=>?_⟩
  exfalso
  have:c∈aW.qc p.chans M:=List.mem_filter.2 ⟨hc,aV⟩
  rw[List.length_eq_zero_iff.1 CW] at this
  cases this
 exact(Agree.run hc (GK (p:=p) (dx:=dx) (kS:=kS) (fun i hi=>by subst hi;exact⟨aj,by rw[show((M.toNat:Nat):Int)=M by omega];exact he⟩)) (.inr ⟨hw,rfl⟩) (.inr ⟨hw,rfl⟩) n).seat _ rfl
end Go.Proofs.YtgmodehldmahiaaGreatDoor
namespace Go.Tm
open Go Go.RowKit
theorem sZ{P:Program}{ops:Array Oper}{Q:Exit→Act→World→Prop}{md:Region.Mode}{S S':World→Prop}{E:Nat→Bool}(hS:∀w,S' w→S w):
  ∀{f:Nat} {ls:Array Bool} {a:Act} {w:World},wpAnyS P md ops Q S' E f ls a w→wpAnyS P md ops Q S E f ls a w
 |0,_,_,_,h=>h
 |f+1,_,_,_,h=>⟨h.1,fun i hi=>wpOp_mono (fun a' w' h'=>⟨fun e=>hS w' (h'.1 e),sZ hS h'.2⟩) (h.2 i hi)⟩
end Go.Tm
namespace Go.Tm
open Go Go.RowKit
structure EJ(n:Nat)(fix:List (Nat×Value))(a:Act):Prop where
 act:∃f:Nat→Value,a={tmps:=((List.range n).map f).toArray,defers:=[]}∧∀x∈fix,f x.1=x.2
theorem EJ.of{n:Nat}{fix:List (Nat×Value)}{a:Act}(hd:a.defers=[])(hs:a.tmps.size=n)(h:∀x∈fix,a.tmps.getD x.1 undef=x.2):EJ n fix a:=by
 refine⟨fun i=>a.tmps.getD i undef,?_,h⟩
 obtain⟨t,d⟩:=a
 dsimp only at hd hs⊢
 subst hd hs
 congr 1
 apply Array.ext
 ·simp
 ·intro i h1 h2
  simp[Array.getD,h1]
end Go.Tm
namespace Go.Proofs.YtgmodehldmahiaaGreatDoor
open Go Go.RowKit Go.Tm
theorem wJ(pv wv cv iv:Value)(p:bF.jE)(s:Hs)(h:Hn)(W:World):(Instr.field 36 (.agg (hC pv wv cv iv p s h)) 5).run Tryz.prog W=.ok s.sv W:=by
 rw[kX]
 kernel_rfl
end Go.Proofs.YtgmodehldmahiaaGreatDoor
namespace Go.Tm
open Go Go.RowKit
theorem rC{P:Program}{ops:Array Oper}{S:World→Prop}{o:Oper}{a:Act}(E:TypeId)(p:Operand)(n:Nat)(ho:o.op=.field E p n)(hw:Region.wanted o (yielded ops a.tmps)=true)(x v:Value)(hx:a.eval p=x)
  (hr:∀W,(Instr.field E x n).run P W=.ok v W):YieldsIf P ops S o v a:=Or.inl ⟨hw,fun w _=>by
 unfold execOp
 simp only[ho,hx,Sem.run_bind,hr,Result.andThen_ok,Sem.run_pure]⟩
end Go.Tm
end
