/- Part 48 of 50 of the proof of topWindows_holds. Conditions: see each. -/
import Derived.Test.YtgmodehldmahiaaGreatDoorW14
import Derived.Test.YtgmodehldmahiaaGreatDoorW47
set_option linter.unusedVariables false
set_option linter.unusedSimpArgs false
set_option maxRecDepth 8192
set_option maxHeartbeats 40000000
section
namespace Go.Proofs.YtgmodehldmahiaaGreatDoor
open Go Go.RowKit Go.Tm
attribute [local go_sem] fB fA fu dR dA dQ dP dO dN dM dL dK dJ dI dH dG dF iq ig h_ g_ gZ gY gX gN gW gV fF fE fD fC eY eX eU
def rF(n:Int):Nat:=if n<0 then 0 else if 600<n then 600 else n.toNat
theorem aaC(n:Int):rF n≤600:=by
 unfold rF
 split
 ·omega
 split<;>omega
theorem aaB(n:Int)(w:World):Calls Tryz.prog 11 #[.int .i64 n] w fun e w'=>e=.returned (.int .i64 (rF n))∧Below w.heap.size w w':=by
 unfold rF
 by_cases h0:n<0
 ·have d0:decide (n<0)=true:=by simp[h0]
  rw[if_pos h0]
  exact X8
 ·have d0:decide (n<0)=false:=by simp[h0]
  rw[if_neg h0]
  by_cases h1:600<n
  ·have d1:decide (600<n)=true:=by simp[h1]
   rw[if_pos h1]
   exact X8
  ·have d1:decide (600<n)=false:=by simp[h1]
   obtain⟨m,rfl⟩:∃m:Nat,n=m:=⟨n.toNat,ah⟩
   rw[if_neg h1,Int.toNat_natCast]
   exact X8
theorem TB(v:Value)(dZ:List (List ByteArray))(w:World)(hv:xV w v dZ):Calls Tryz.prog 7 #[v] w fun e w'=>(∃b,e=.returned (.bool b))∧Below w.heap.size w w':=by
 obtain⟨a,cap,rfl,hl⟩:=hv.shape
 obtain⟨vs,h1,h2,h3⟩:=hv.row
 have H1:=Lib.hid h1
 have H3:=Lib.hid h3
 clear hv h1 h3
 go_enter Tryz.func7,Tryz.ntmps7
 go_wp2_with fail
 go_loopw [3] (fun t W=>∃i:Nat,i≤dZ.length∧t=.int .i64 i∧Below w.heap.size w W) (fun t _=>dZ.length-(intOf t).toNat)
 case atStart=>exact⟨0,Nat.zero_le _,rfl,Below.refl _ _⟩
 case round=>
  obtain⟨i,hi,rfl,hbw⟩:=hrel
  have hws:=hbw.size
  by_cases hlt:i<dZ.length
  ·obtain⟨u,hu⟩:∃u,vs[i]?=some u:=⟨_,List.getElem?_eq_getElem ah⟩
   obtain⟨l,Eb⟩:∃l,dZ[i]?=some l:=⟨_,List.getElem?_eq_getElem hlt⟩
   obtain⟨ua,un,uc,rfl⟩:=(H3.out i u l hu Eb).is
   obtain⟨b,off,hbe,hbl,hc⟩:=(H1.out.below hbw).at hu
   subst hbe
   have hc0:wr.cell? ⟨b,off+i,none⟩=some (.slice ua un uc):=by simpa using hc 0 (.slice ua un uc) rfl
   have hwr:IntKind.i64.wrap ((i:Int)+1)=i+1:=IntWalk.i64_in _ ah
   have hd:decide ((un:Int)>8)=true∨decide ((un:Int)>8)=false:=by cases decide ((un:Int)>8)<;>simp
   clear hu Eb hc
   rcases hd with hd|hd
   ·go_wp2_with fail
    go_ret
    exact⟨⟨_,rfl⟩,hbw⟩
   ·go_wp2_with fail
    go_roundw
    case rel=>exact⟨i+1,ah,bI,hbw⟩
    case measure=>simp[intOf];omega
  ·go_wp2_with fail
   go_ret
   exact⟨⟨_,rfl⟩,hbw⟩
end Go.Proofs.YtgmodehldmahiaaGreatDoor
end
section
namespace Go.Proofs.YtgmodehldmahiaaGreatDoor
open Go Go.RowKit Go.Tm
def gy:Plan.iE:=⟨[(64,1,1,1)],10,[[(0,0,10)]],[]⟩
theorem Eh:Plan.dW gy:=
 ⟨aB,aB,aB,aB,aB,aB,aB,aB,aB,by
  intro l hl
  simp only[gy,List.mem_singleton] at hl
  subst hl
  refine⟨?_,aB,trivial⟩
  unfold Plan.mq
  decide,aB⟩
structure Idle(x:St)(t:Int):Prop where
 st:x.2.1=1
 gone:x.1.gone=1
 now:x.1.now=t
theorem aaN{x:St}{t:Int}(h:Idle x t)(ht:t<1000):Idle (mD gy 0 x) (t+1)∧(mD gy 0 x).1.se=[]∧(mD gy 0 x).1.want=0:=by
 obtain⟨k,st,bo⟩:=x
 obtain⟨h1,h2,h3⟩:=h
 dsimp only at h1 h2 h3
 subst h1
 have hs:jI k=vP (gF k):=by unfold jI;rw[if_neg ah]
 have hg:(jI k).gone=1:=by rw[hs];exact h2
 have hw:(jI k).want=0:=by rw[hs];rfl
 have hse:(jI k).se=[]:=by rw[hs];rfl
 have hn:(jI k).now=t+1:=by rw[hs];unfold vP gF;dsimp only;omega
 have e:mD gy 0 (k,1,bo)=(jI k,1,bo):=by
  unfold mD lC
  rw[if_pos rfl,hw,if_neg aB,if_neg aB]
  unfold dU
  rw[if_neg (by rw[hg];decide),hg]
  have ha:H9 (partAt gy 0) 1=1:=rfl
  rw[ha,if_neg aB,if_neg aB]
 rw[e]
 exact⟨⟨rfl,hg,hn⟩,hse,hw⟩
theorem at0(n:Nat)(hn:n<10):Plan.qF gy 0 n=(0,if n<2 then 1 else 2):=by
 have hc:Plan.OO gy.frame n=n:=by
  unfold Plan.OO Plan.Xa
  rw[if_neg aB]
  show(n:Int)%10=n
  omega
 unfold Plan.qF Plan.LB
 rw[Plan.xE Eh aB aB (show gy.wins[(0:Int).toNat]?=some [(0,0,10)] from rfl),hc]
 have hh:Plan.vZ n (0,0,10)=true:=by unfold Plan.vZ;simp;omega
 rw[List.find?_cons_of_pos hh]
 unfold Plan.zT
 dsimp only
 by_cases h2:n<2
 ·rw[if_pos ah,if_pos h2]
 ·rw[if_neg ah,if_neg h2]
structure Z0(n:Nat)(h:Hn):Prop where
 now:h.now=n
 sched:h.sched=0
 next:h.next=0
 seat:∃x,h.seats=[x]∧Idle x ((n-2:Nat):Int)
theorem abK{n:Nat}{h:Hn}(hz:Z0 n h)(hn:n<10):Z0 (n+1) (iX gy h):=by
 obtain⟨z1,z2,z3,x,hx,hi⟩:=hz
 obtain⟨now,sched,next,seats,owner⟩:=h
 dsimp only at z1 z2 z3 hx
 subst z1 z2 z3 hx
 have hat:=at0 n hn
 have hwin:∃o,dD gy ⟨n,0,0,[x],owner⟩=⟨n,0,0,[x],o⟩:=by
  have e:vG x=x:=by unfold vG;rw[if_neg (by rw[hi.st];decide)]
  unfold dD
  dsimp only
  rw[hat]
  split
  ·refine⟨owner,?_⟩
   simp[e]
  ·exact⟨owner,rfl⟩
 obtain⟨o,hwin⟩:=hwin
 have ai6:∀g:Hn,g.next=0→g.sched=0→(rC gy g).sched=0∧(rC gy g).next=0∧(rC gy g).now=g.now+1∧(rC gy g).seats=g.seats:=by
  intro g h1 h2
  unfold rC
  split
  ·exact⟨h1,h1,rfl,rfl⟩
  ·exact⟨h2,h1,rfl,rfl⟩
 have key:∃y,(iI gy ⟨n,0,0,[x],o⟩ (Plan.qF gy 0 n)).seats=[y]∧(iI gy ⟨n,0,0,[x],o⟩ (Plan.qF gy 0 n)).next=0∧(iI gy ⟨n,0,0,[x],o⟩ (Plan.qF gy 0 n)).sched=0∧(iI gy ⟨n,0,0,[x],o⟩ (Plan.qF gy 0 n)).now=n∧Idle y ((n+1-2:Nat):Int):=by
  rw[hat]
  by_cases h2:n<2
  ·rw[if_pos h2]
   have e0:n-2=0:=ah
   have e1:n+1-2=0:=ah
   rw[e0] at hi
   refine⟨x,?_⟩
   unfold iI
   rw[if_neg aB,e1]
   exact⟨rfl,rfl,rfl,rfl,hi⟩
  ·rw[if_neg h2]
   obtain⟨a1,a2,a3⟩:=aaN hi ah
   have e1:((n+1-2:Nat):Int)=((n-2:Nat):Int)+1:=ah
   rw[←e1] at a1
   have hg:yG ⟨n,0,0,[x],o⟩ (0:Int).toNat=true:=by
    unfold yG
    simp[hi.st]
   have hc:iN gy (0:Int).toNat ⟨n,0,0,[x],o⟩=⟨n,0,0,[mD gy 0 x],o⟩:=by
    show jQ gy 0 ⟨n,0,0,[x],o⟩ (mD gy 0 x)=_
    unfold jQ
    rw[a2,a3,if_neg (by unfold wrap64;omega)]
    rfl
   refine⟨mD gy 0 x,?_⟩
   unfold iI
   rw[if_pos rfl]
   dsimp only
   rw[if_pos hg,hc]
   exact⟨rfl,rfl,rfl,rfl,a1⟩
 obtain⟨y,k1,k2,k3,k4,k5⟩:=key
 have hs:iX gy ⟨n,0,0,[x],owner⟩=rC gy (iI gy ⟨n,0,0,[x],o⟩ (Plan.qF gy 0 n)):=by
  unfold iX
  rw[hwin]
 rw[hs]
 obtain⟨t1,t2,t3,t4⟩:=ai6 _ k2 k3
 exact⟨by rw[t3,k4];omega,t1,t2,y,by rw[t4,k1],k5⟩
theorem ZA:Z0 0 (f_ gy []):=by
 refine⟨rfl,rfl,rfl,iT gy [] 0,rfl,?_⟩
 have him:zQ [] ((0:Nat):Int)=[]:=rfl
 have hi:(bY (kI (partAt gy 0).1 [] (bf.rE gy.chans ((0:Nat):Int)) (bf.sZ gy.chans ((0:Nat):Int)) 0) 0).2=7:=by
  unfold bY
  rw[if_neg (by show¬((0:Int)<((([]:List ByteArray).length:Nat):Int));simp)]
 have hk:jk (partAt gy 0).1 [] (bf.rE gy.chans ((0:Nat):Int)) (bf.sZ gy.chans ((0:Nat):Int)) 0={kI (partAt gy 0).1 [] (bf.rE gy.chans ((0:Nat):Int)) (bf.sZ gy.chans ((0:Nat):Int)) 0 with gone:=1}:=by
  unfold jk wF
  rw[if_neg (by rw[hi];decide)]
  dsimp only
  rw[if_neg (by rw[hi];decide)]
 have e:iT gy [] 0=({kI (partAt gy 0).1 [] (bf.rE gy.chans ((0:Nat):Int)) (bf.sZ gy.chans ((0:Nat):Int)) 0 with gone:=1},1,1):=by
  unfold iT qz
  rw[him,hk]
  unfold dU
  rw[if_neg aB]
  have ha:H9 (partAt gy 0) 1=1:=rfl
  dsimp only
  rw[ha,if_neg aB,if_neg aB]
 rw[e]
 exact⟨rfl,rfl,rfl⟩
theorem Y9:∀n:Nat,n≤10→Z0 n (kX gy (f_ gy []) n)
 |0,_=>ZA
 |n+1,h=>abK (Y9 n ah) ah
end Go.Proofs.YtgmodehldmahiaaGreatDoor
end
section
namespace Go.Proofs.YtgmodehldmahiaaGreatDoor
open Go Go.RowKit Go.Tm
attribute [local go_sem] fB fA fu dR dA dQ dP dO dN dM dL dK dJ dI dH dG dF iq ig h_ g_ gZ gY gX gN gW gV fF fE fD fC eY eX eU
attribute [local go_sem] Dm Dl Dk Dj Di Aj Dh Df Dc Db wQ
theorem Ci{W:World}{ag:Bool}{k b:Nat}{x:Value}{t:TypeId}(h:aC W b x.cells t)(hx:Val ag k x):Sl W ag k (.slice (some ⟨b,0,none⟩) 1 1) [x]:=by
 refine⟨by intro y hy;rw[List.mem_singleton] at hy;subst hy;exact hx,some ⟨b,0,none⟩,1,rfl,Nat.le_refl _,by unfold maxLen;decide,.inr ⟨b,0,rfl,h.lt,fun i y hy=>?_⟩⟩
 have hi:i=0:=by
  have:=(List.getElem?_eq_some_iff.1 hy).1
  simp at this;exact this
 subst hi
 simp only[List.getElem?_cons_zero,Option.some.injEq] at hy
 subst hy
 intro j v hv
 rw[h.rules.1,Nat.zero_mul,Nat.add_zero,Nat.zero_add]
 rwa[Array.getElem?_toList] at hv
theorem abO(x:Plan.Wn):Val true 3 (Plan.Lv x):=⟨_,rfl,rfl,IB⟩
theorem Ja(w:World)(hT:iV w):Calls Tryz.prog 6 #[] w fun e w'=>e=.returned (.bool true)∧Below w.heap.size w w':=by
 have Ec:=Lib.hid (fun W (h:Below w.heap.size w W)=>hT.below h)
 clear hT
 go_enter Tryz.func6,Tryz.ntmps6
 go_wp2_with fail
 ((generalize bN:World.alloc _ _=w0);(have KP:aC w0 (w.heap.size) (#[.int .i64 64,.int .i64 1,.int .i64 1,.int .i64 1]) 74:=bA);(have KW:aC w0 (w.heap.size+1) (#[.int .i64 0,.int .i64 0,.int .i64 10]) 76:=bA);(have KV:aC w0 (w.heap.size+1+1) (#[.slice (some ⟨w.heap.size+1,0,none⟩) 1 1]) 77:=bA);(have hb0:Below w.heap.size w w0:=bM);(have hz0:w0.heap.size=w.heap.size+1+1+1:=bX);(clear bN);(have KP:=Lib.hid KP);(have KW:=Lib.hid KW);(have KV:=Lib.hid KV))
 have hpl:Plan.gq w0 (.slice (some ⟨w.heap.size,0,none⟩) 1 1) (.slice (some ⟨w.heap.size+1+1,0,none⟩) 1 1) (.slice none 0 0) gy:=by
  refine⟨Ci (x:=Plan.OI (64,1,1,1)) KP.out (FV _),⟨[.slice (some ⟨w.heap.size+1,0,none⟩) 1 1],Ci (x:= .slice (some ⟨w.heap.size+1,0,none⟩) 1 1) KV.out ⟨rfl,rfl⟩,rfl,fun i u l hu hl=>?_⟩,Sl.nil _ _ _⟩
  have hi:i=0:=by
   have:=(List.getElem?_eq_some_iff.1 hu).1
   simp at this;exact this
  subst hi
  have e1:u=.slice (some ⟨w.heap.size+1,0,none⟩) 1 1:=by simpa using hu.symm
  have e2:l=[(0,0,10)]:=(by simpa[gy] using hl:[((0:Int),(0:Int),(10:Int))]=l).symm
  subst e1 e2
  exact Ci (x:=Plan.Lv (0,0,10)) KW.out (abO _)
 have him:xV w0 (.slice none 0 0) []:=⟨[],Sl.nil _ _ _,rfl,fun i u l hu hl=>by cases hu⟩
 have HBG:=Lib.hid (Nt _ _ _ _ gy [] w0 hpl him Eh (fun l hl=>by cases hl))
 have WT:=Lib.hid hpl
 clear hpl him
 refine HBG.out.mono ?_
 rintro en w1 ⟨s1,rfl,hm1,akm,hb1⟩
 have bP:=hb0.trans (hb1.mono hb0.size)
 have HP1:=Lib.hid (WT.out.below hb1)
 have hki:kind (Value.slice none 0 0)=5:=rfl
 have hv1:=mJ HP1.out hki hm1
 have TU:=Lib.hid hv1
 have HM1:=Lib.hid hm1
 have hsz1:=jL (.slice (some ⟨w.heap.size,0,none⟩) 1 1) (.slice (some ⟨w.heap.size+1+1,0,none⟩) 1 1) (.slice none 0 0) (.slice none 0 0) gy s1 (f_ gy [])
 clear hv1 hm1 akm hz0
 go_wp2_with(first|((with_reducible refine bO 36 ?_);(refine aU rfl 36 _ _ rfl (hC (.slice (some ⟨w.heap.size,0,none⟩) 1 1) (.slice (some ⟨w.heap.size+1+1,0,none⟩) 1 1) (.slice none 0 0) (.slice none 0 0) gy s1 (f_ gy [])) d_ (TU.out) aF ?_ ?_ ?_;(exact aG);(exact aG)))|((with_reducible refine bS 36 ?_);(refine aJ rfl 36 _ rfl (hC (.slice (some ⟨w.heap.size,0,none⟩) 1 1) (.slice (some ⟨w.heap.size+1+1,0,none⟩) 1 1) (.slice none 0 0) (.slice none 0 0) gy s1 (f_ gy [])) d_ (TU.out) (aC.new w1 _ _) ?_ ?_;(exact aG)))|fail)
 ((generalize bN:World.alloc _ _=w2);(have KB:aC w2 (w1.heap.size) (hC (.slice (some ⟨w.heap.size,0,none⟩) 1 1) (.slice (some ⟨w.heap.size+1+1,0,none⟩) 1 1) (.slice none 0 0) (.slice none 0 0) gy s1 (f_ gy [])) 36:=bA);(have hb0:Below w1.heap.size w1 w2:=bM);(have hz0:w2.heap.size=w1.heap.size+1:=bX);(clear bN);(have KB:=Lib.hid KB))
 have eP:=hb0
 have tq:=hz0
 have hbw2:=bP.trans (eP.mono bP.size)
 have HRN:=Lib.hid (aiR _ _ _ _ gy s1 (f_ gy []) 0 0 10 w2 (HP1.out.below eP) hki (HM1.out.below eP) (Ec.out _ hbw2) Eh (Nf Eh (fun l hl=>by cases hl)) ah ah)
 obtain⟨z1,z2,z3,x,z4,z5⟩:=Y9 10 (Nat.le_refl _)
 refine HRN.out.mono ?_
 rintro en w3 ⟨⟨sv,ss,av,rows,got⟩,rfl,ng,qH,hb3⟩
 generalize kX gy (f_ gy []) 10=h3 at*
 have fJ:=hbw2.trans (hb3.mono hbw2.size)
 have hx:h3.seats[0]?=some x:=by rw[z4];rfl
 have hl1:h3.seats.length=1:=by rw[z4];rfl
 obtain⟨u,hu⟩:∃u,ss[0]?=some u:=⟨_,List.getElem?_eq_getElem (by rw[show ss.length=_ from ng.nX,hl1];decide)⟩
 obtain⟨asv,Ox,hsv,Es⟩:=ng.sv.shape
 rw[ku ng.nX,hl1] at hsv
 dsimp only at hsv
 subst hsv
 obtain⟨bs,os,hbs,O8,hcs⟩:=ng.sv.at (kD hu hx)
 subst hbs
 have hc7:w3.cell? ⟨bs,os+7,none⟩=some (.int .u64 8):=by
  have h8:x.1.now=8:=z5.now
  have:=hcs 7 (.int .u64 x.1.now) (by rw[show(R5 u x).cells=xC u x.1 (sx x.2.1 x.2.2) from rfl,Array.getElem?_toList,wz])
  rw[h8] at this
  simpa using this
 have hv3:=mJ (HP1.out.below (eP.trans (hb3.mono eP.size))) hki ng
 have HV3:=Lib.hid hv3
 have LQ:h3.now=10:=z1
 clear hv3 hcs ng qH z1 z2 z3 z4 z5 hsz1 HBG HRN
 have hg5:=Aj (.slice (some ⟨w.heap.size,0,none⟩) 1 1) (.slice (some ⟨w.heap.size+1+1,0,none⟩) 1 1) (.slice none 0 0) (.slice none 0 0) gy ⟨.slice (some ⟨bs,os,none⟩) 1 Ox,ss,av,rows,got⟩ h3
 rw[LQ] at hg5
 go_wp2_with(first|((with_reducible refine bO 36 ?_);(refine aU rfl 36 _ _ rfl (hC (.slice (some ⟨w.heap.size,0,none⟩) 1 1) (.slice (some ⟨w.heap.size+1+1,0,none⟩) 1 1) (.slice none 0 0) (.slice none 0 0) gy ⟨.slice (some ⟨bs,os,none⟩) 1 Ox,ss,av,rows,got⟩ h3) d_ (HV3.out) aF ?_ ?_ ?_;(exact aG);(exact aG)))|fail)
 go_ret
 exact⟨rfl,Qd⟩
end Go.Proofs.YtgmodehldmahiaaGreatDoor
end
section
namespace Go.Proofs.YtgmodehldmahiaaGreatDoor
open Go Go.RowKit Go.Tm
attribute [local go_sem] fB fA fu dR dA dQ dP dO dN dM dL dK dJ dI dH dG dF iq ig h_ g_ gZ gY gX gN gW gV fF fE fD fC eY eX eU
attribute [local go_sem] Dm Dl Dk Dj Di Aj Dh Df Dc Db wQ
theorem QF(pv wv cv iv:Value)(p:Plan.iE)(dZ:List (List ByteArray))(N:Int)(w:World)(hp:Plan.gq w pv wv cv p)(hi:xV w iv dZ)(hT:iV w)(hok:¬Plan.dW p):
  Calls Tryz.prog 5 #[.agg #[pv,.int .i64 p.frame,wv,cv,iv,.int .i64 N]] w fun e w'=>e=.returned (.bool true)∧Below w.heap.size w w':=by
 have HSH:=Lib.hid (fun W (h:Below w.heap.size w W)=>Ja W (hT.below h))
 have HFW:=Lib.hid (fun W (h:Below w.heap.size w W)=>TB iv dZ W (hi.below h))
 have HBG:=Lib.hid (fun W (h:Below w.heap.size w W)=>aa5 pv wv cv iv p dZ W (hp.below h) (hi.below h) hok)
 obtain⟨a1,c1,a2,c2,a3,c3,rfl,rfl,rfl,hl1,hl2,hl3⟩:=hp.shape
 obtain⟨ia,ic,rfl,hil⟩:=hi.shape
 clear hp hi hT
 go_enter Tryz.func5,Tryz.ntmps5
 go_wp2_with fail
 ((generalize bN:World.alloc _ _=w0);(have KB:aC w0 (w.heap.size) (#[.slice a1 p.parts.length c1,.int .i64 p.frame,.slice a2 p.wins.length c2,.slice a3 p.chans.length c3,.slice ia dZ.length ic,.int .i64 N]) 67:=bA);(have hb0:Below w.heap.size w w0:=bM);(have hz0:w0.heap.size=w.heap.size+1:=bX);(clear bN);(have KB:=Lib.hid KB))
 with_reducible refine(HSH.out w0 hb0).mono ?_
 rintro en w1 ⟨rfl,hb1⟩
 have bP:=hb0.trans (hb1.mono hb0.size)
 have vV:=Lib.hid (KB.out.below hb1 KB.out.lt)
 (obtain⟨hcb,bn,hlb,hnb,hmb⟩:=aC.rules vV.out)
 go_wp2_with fail
 with_reducible refine(HFW.out w1 bP).mono ?_
 rintro en w2 ⟨⟨bb,rfl⟩,hb2⟩
 have hbw2:=bP.trans (hb2.mono bP.size)
 have Eo:=Lib.hid (vV.out.below hb2 vV.out.lt)
 clear hcb bn hlb hnb hmb
 (obtain⟨hcb,bn,hlb,hnb,hmb⟩:=aC.rules Eo.out)
 go_wp2_with fail
 with_reducible refine(HBG.out w2 hbw2).mono ?_
 rintro en w3 ⟨⟨k,rfl,hk⟩,hb3⟩
 have hkb:(k !=0)=true:=by simp[hk]
 have fJ:=hbw2.trans (hb3.mono hbw2.size)
 have hval:=Tz
 clear hk
 cases bb
 all_goals
  go_wp2_with(first|((with_reducible refine bO 36 ?_);(refine aU rfl 36 _ _ rfl (hC0) d_ (hval) aF ?_ ?_ ?_;(exact aG);(exact aG)))|fail)
  go_ret
  exact⟨rfl,Qd⟩
end Go.Proofs.YtgmodehldmahiaaGreatDoor
end
section
namespace Go.Proofs.YtgmodehldmahiaaGreatDoor
open Go Go.RowKit Go.Tm
theorem Wy{p:Plan.iE}{dZ:List (List ByteArray)}(i:Nat):(iT p dZ i).1.now=0:=by
 unfold iT qz
 rw[Jf,Ns]
theorem clocks(p:Plan.iE)(dZ:List (List ByteArray)):∀n:Nat,n≤100000→∀x∈(kX p (f_ p dZ) n).seats,0≤x.1.now∧x.1.now≤n
 |0,_,x,hx=>by
  have hx':x∈(f_ p dZ).seats:=hx
  unfold f_ iK at hx'
  obtain⟨i,_,rfl⟩:=List.mem_map.1 hx'
  rw[Wy]
  omega
 |n+1,hn,y,hy=>by
  have ih:=clocks p dZ n ah
  obtain⟨j,hj⟩:=List.mem_iff_getElem?.1 hy
  have hl:=(Cg (p:=p) (kX p (f_ p dZ) n)).2
  have hjl:j<(kX p (f_ p dZ) n).seats.length:=by rw[←hl];exact(List.getElem?_eq_some_iff.1 hj).1
  have hx:=List.getElem?_eq_getElem hjl
  have h1:=(Ba (p:=p) (fun x hx=>by have:=ih x hx;omega) hx hj).1
  have h2:=ih _ (List.mem_of_getElem? hx)
  rcases h1 with h1|h1<;>rw[h1]<;>omega
def LK(r:Int×Int):Int:=if r.2=2 then r.1 else-1
structure TK(p:Plan.iE)(h1 h2:Hn)(r:Int×Int):Prop where
 owner:h2.owner=LK r
 now:h2.now=h1.now+1
 agL:(h1.now+1)%p.frame≠0→h2.sched=h1.sched
 agK:(h1.now+1)%p.frame=0→h2.sched=h2.next
 len:h2.seats.length=h1.seats.length
 clk:∀(j:Nat) (x y:St),h1.seats[j]?=some x→h2.seats[j]?=some y→0≤x.1.now∧x.1.now≤100000∧∃d:Int,(d=0∨d=1)∧y.1.now=x.1.now+d∧((j:Int)≠LK r→d=0)∧((j:Int)=LK r→x.2.1=1→d=1)∧(x.2.1≠1→x.2.1≠2→d=0)
theorem ZF(p:Plan.iE)(dZ:List (List ByteArray))(n:Nat)(hn:n≤1000):
  TK p (kX p (f_ p dZ) n) (kX p (f_ p dZ) (n+1)) (Plan.qF p (kX p (f_ p dZ) n).sched (kX p (f_ p dZ) n).now):=by
 have hc:=clocks p dZ n ah
 show TK p (kX p (f_ p dZ) n) (iX p (kX p (f_ p dZ) n)) _
 generalize kX p (f_ p dZ) n=h at*
 obtain⟨t1,t2⟩:=Cg (p:=p) h
 have hav:(Plan.qF p h.sched h.now).2=2→0≤(Plan.qF p h.sched h.now).1:=fun e=>(Nu (by rw[e];decide)).2.1
 refine⟨?_,t1,fun hn=>?_,Gc.2,t2,fun j x y hx hy=>?_⟩
 ·rw[QT];rfl
 ·apply Classical.byContradiction
  intro hne
  exact hn (Gc.1 hne)
 ·have hxc:=hc x (List.mem_of_getElem? hx)
  obtain⟨a1,a2,a3,a4⟩:=Ba (p:=p) (fun x hx=>by have:=hc x hx;omega) hx hy
  refine⟨hxc.1,ah,y.1.now-x.1.now,ah,ah,fun hj=>?_,fun hj hs=>?_,fun h1 h2=>by have:=a4 h1 h2;omega⟩
  ·have:=a2 (fun⟨e1,e2⟩=>hj (by unfold LK;rw[if_pos e1];have:=hav e1;omega))
   omega
  ·have e1:(Plan.qF p h.sched h.now).2=2:=by
    apply Classical.byContradiction
    intro hne
    unfold LK at hj
    rw[if_neg hne] at hj
    omega
   unfold LK at hj
   rw[if_pos e1] at hj
   have:=a3 e1 (by have:=hav e1;omega) hs
   omega
end Go.Proofs.YtgmodehldmahiaaGreatDoor
end
