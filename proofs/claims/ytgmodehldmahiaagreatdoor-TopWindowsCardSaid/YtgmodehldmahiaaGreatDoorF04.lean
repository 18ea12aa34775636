/- Part 4 of 6 (beside the texts B) of the proof of topWindows_holds. Conditions: see each. -/
import Derived.Test.YtgmodehldmahiaaGreatDoorF03
import Derived.Test.YtgmodehldmahiaaGreatDoorB47
set_option linter.unusedVariables false
set_option linter.unusedSimpArgs false
set_option maxRecDepth 8192
set_option maxHeartbeats 40000000
section
theorem auC{P:Prop}(h:P:=by
 first|exact EJ.of rfl asS atU|exact⟨rfl,EJ.of rfl asS atU⟩):P:=h
theorem atV{P:Prop}(h:P:=by
 go_wp2_with fail
 go_region
 go_wp2_with fail
 go_roundw
 case rel=>exact⟨j+1,asQ,asU,by exact bl⟩
 case measure=>simp[intOf];omega):P:=h
theorem auy{P:Prop}(h:P:=by
 rw[←f0,←f1,←f3,←f4,←f5,←f6,←f7,←f8,←f9,←f15,←f16,←f17,←f18,←f19,←f20,←f21,←f22,←f23,←f24,←f25,←f26,←f27,←f28,←f29,←f30,←f31,←f32,←f33,←f34,←f35,←f36,←f37]
 kernel_rfl):P:=h
theorem atU{P:Prop}(h:P:=by intro x hx;simp only[List.mem_cons,List.not_mem_nil,or_false] at hx;rcases hx with rfl|rfl|rfl|rfl|rfl|rfl|rfl|rfl|rfl|rfl|rfl|rfl|rfl|rfl|rfl|rfl|rfl|rfl|rfl|rfl|rfl|rfl|rfl|rfl|rfl|rfl|rfl|rfl|rfl|rfl|rfl|rfl<;>rfl):P:=h
theorem asZ{P:Prop}(h:P:=by first|(solve|simp[Act.eval,Act.put])|fail):P:=h
theorem auv{P:Prop}(h:P:=by first|exact gZ.alloc gZ.size _|exact bl):P:=h
theorem atQ{P:Prop}(h:P:=by rw[←bR];exact bx):P:=h
theorem atP{P:Prop}(h:P:=by rw[←bR];exact bl):P:=h
theorem atu{P:Prop}(h:P:=by rw[←bR];simp):P:=h
end
section
namespace Go.Tm
open Go Go.RowKit
theorem atG{P:Program}{c:Code}{Q:Exit→Act→World→Prop}{a:Act}{w:World}{n:Nat}{fix:List (Nat×Value)}(hm:EJ n fix a)
  (h:∀f:Nat→Value,(∀x∈fix,f x.1=x.2)→c.wp P Q {tmps:=((List.range n).map f).toArray,defers:=[]} w):c.wp P Q a w:=by
 obtain⟨f,rfl,hf⟩:=hm.act
 exact h f hf
end Go.Tm
end
section
namespace Go.Proofs.YtgmodehldmahiaaGreatDoor
open Go Go.RowKit Go.Tm
section
variable (k:Kn) (p:aT.dz) (x:qJ)
theorem as0(pid code gone:Int):(qV k pid code gone).now=k.now:=by
 unfold qV
 split
 ·rfl
 ·dsimp only
  split<;>rfl
theorem as8:(eZ k p).1.now=k.now:=by
 unfold eZ
 split
 ·rfl
 ·dsimp only
  split<;>rfl
theorem auj:(y7 k p x).1.now=k.now:=by
 unfold y7
 repeat' split
 all_goals rfl
theorem auo:(zl k p x).1.now=k.now:=by
 unfold zl
 repeat' split
 all_goals rfl
theorem atY:(tL k p x).1.now=k.now:=by
 unfold tL DJ sF
 repeat' split
 all_goals rfl
theorem aun:(zk k p x).1.now=k.now:=by
 unfold zk sF
 repeat' split
 all_goals rfl
theorem aub:(tO k p x).1.now=k.now:=by
 unfold tO
 repeat' split
 all_goals rfl
theorem aul:(zf k p x).1.now=k.now:=by
 unfold zf JA
 repeat' split
 all_goals rfl
theorem aum:(zi k p x).1.now=k.now:=by
 unfold zi
 repeat' split
 all_goals rfl
theorem as3:(gu k p x).1.now=k.now:=by
 unfold gu
 refine iU (fun r:Kn×Int×Int=>r.1.now=k.now) (fun _=>auj k p x) fun _=>?_
 refine iU (fun r:Kn×Int×Int=>r.1.now=k.now) (fun _=>rfl) fun _=>?_
 refine iU (fun r:Kn×Int×Int=>r.1.now=k.now) (fun _=>rfl) fun _=>?_
 refine iU (fun r:Kn×Int×Int=>r.1.now=k.now) (fun _=>rfl) fun _=>?_
 refine iU (fun r:Kn×Int×Int=>r.1.now=k.now) (fun _=>auo k p x) fun _=>?_
 refine iU (fun r:Kn×Int×Int=>r.1.now=k.now) (fun _=>atY k p x) fun _=>?_
 refine iU (fun r:Kn×Int×Int=>r.1.now=k.now) (fun _=>aun k p x) fun _=>?_
 refine iU (fun r:Kn×Int×Int=>r.1.now=k.now) (fun _=>aub k p x) fun _=>?_
 refine iU (fun r:Kn×Int×Int=>r.1.now=k.now) (fun _=>aul k p x) fun _=>?_
 refine iU (fun r:Kn×Int×Int=>r.1.now=k.now) (fun _=>aum k p x) fun _=>?_
 rfl
theorem atw(r:Kn×Int×Int)(pid:Int):(Lx r pid x).1.now=r.1.now:=by
 unfold Lx
 split<;>rfl
theorem at6:(Cj k p x).1.now=k.now:=by
 unfold Cj
 dsimp only
 split
 ·rw[atw,as3]
 ·show(Lx _ _ _).1.now=_
  rw[atw,as3]
theorem auu(v e:Int):(dA k p x v e).now=k.now:=rfl
theorem aup:(Bz k p x).1.now=k.now:=by
 unfold Bz
 repeat' split
 ·rfl
 ·rfl
 ·exact as0 ..
 ·rw[auu];exact as0 ..
theorem atW:(IL k p x).1.now=k.now:=by
 unfold IL
 refine iU (fun r:Kn×Bool=>r.1.now=k.now) (fun _=>as0 ..) fun _=>?_
 refine iU (fun r:Kn×Bool=>r.1.now=k.now) (fun _=>rfl) fun _=>?_
 refine iU (fun r:Kn×Bool=>r.1.now=k.now) (fun _=>iU (fun r:Kn×Bool=>r.1.now=k.now) (fun _=>rfl) fun _=>rfl) fun _=>?_
 refine iU (fun r:Kn×Bool=>r.1.now=k.now) (fun _=>iU (fun r:Kn×Bool=>r.1.now=k.now) (fun _=>rfl) fun _=>rfl) fun _=>?_
 refine iU (fun r:Kn×Bool=>r.1.now=k.now) (fun _=>rfl) fun _=>?_
 refine iU (fun r:Kn×Bool=>r.1.now=k.now) (fun _=>rfl) fun _=>?_
 refine iU (fun r:Kn×Bool=>r.1.now=k.now) (fun _=>aup ..) fun _=>?_
 refine iU (fun r:Kn×Bool=>r.1.now=k.now) (fun _=>as8 ..) fun _=>?_
 refine iU (fun r:Kn×Bool=>r.1.now=k.now) (fun _=>iU (fun r:Kn×Bool=>r.1.now=k.now) (fun _=>as8 ..) fun _=>rfl) fun _=>?_
 refine iU (fun r:Kn×Bool=>r.1.now=k.now) (fun _=>iU (fun r:Kn×Bool=>r.1.now=k.now) (fun _=>rfl) fun _=>rfl) fun _=>?_
 exact at6 ..
theorem auq:(t_ k).now=k.now:=by
 unfold t_
 split
 ·rfl
 ·unfold RH
  repeat' split
  ·rfl
  ·show(IL _ _ _).1.now=_
   rw[atW];rfl
  ·rw[atW];rfl
  ·exact as0 ..
theorem at5(n:Int):(F6 k n).now=k.now:=by
 unfold F6
 split<;>rfl
theorem at1:(F5 k p).now=k.now:=by
 unfold F5
 repeat' split
 ·show(Lx _ _ _).1.now=_
  rw[atw,as3]
 ·rw[atw,as3]
 ·rfl
theorem atM(l:List Int):∀k:Kn,(lD k l).now=k.now:=by
 induction l with
 |nil=>intro k;rfl
 |cons n r ih=>intro k;exact(ih _).trans (at5 k n)
theorem atK(l:List aT.dz):∀k:Kn,(uY k l).now=k.now:=by
 induction l with
 |nil=>intro k;rfl
 |cons n r ih=>intro k;exact(ih _).trans (at1 k n)
theorem atZ:(mX k).now=k.now:=by
 unfold mX
 rw[atK,atM]
 rfl
theorem auk(h:k.now<18446744073709551615):(lK k).now=k.now+1:=by
 have e:(if k.gone=0 then t_ (mX (iW k)) else iW k).now=k.now:=by
  split
  ·rw[auq,atZ];rfl
  ·rfl
 unfold lK zL
 dsimp only
 rw[e]
 omega
theorem atC(mem:Int)(im:List ByteArray)(ou ins:List aW.Ch)(now:Int):(kN mem im ou ins now).now=now:=by
 have e:(DC (nC mem im ou ins now)).1.now=now:=by
  unfold DC
  split
  ·exact as8 ..
  ·rfl
 unfold kN
 split
 ·exact e
 ·exact e
theorem atr(x:Il)(st bo:Int):(eY x k st bo).1.now=k.now:=by
 unfold eY
 repeat' split
 ·rfl
 ·rfl
 ·exact atC ..
 ·rfl
theorem aua(x:Il)(st bo:Int)(h:k.now<18446744073709551615):(oZ x k st bo).1.now=if st=1 then k.now+1 else k.now:=by
 unfold oZ
 split
 ·rw[atr,auk k h]
 ·rfl
theorem atO(n:Int)(body:ByteArray)(now:Int):(kZ k n body now).now=k.now:=by
 unfold kZ
 split<;>rfl
end
end Go.Proofs.YtgmodehldmahiaaGreatDoor
end
section
namespace Go.Proofs.YtgmodehldmahiaaGreatDoor
open Go Go.RowKit Go.Tm
section
variable {a e c:Nat} {h:Hn} {p:bF.jE}
end
section
variable {p:bF.jE} {h:Hn}
def clock(h:Hn)(i:Nat):Option Int:=(h.seats[i]?).map (fun x=>x.1.now)
theorem aud(dst port:Int)(body:ByteArray)(i:Nat):clock (wN h dst port body) i=clock h i:=by
 unfold clock wN
 split
 ·rename_i x hx
  dsimp only
  rw[List.getElem?_set]
  split
  ·rename_i hd
   rw[←hd,hx]
   split
   ·simp[atO]
   ·rename_i hn
    have:=(List.getElem?_eq_some_iff.1 hx).1
    omega
  ·rfl
 ·rfl
theorem atc(who:Int)(l:List Ms)(i:Nat):∀h:Hn,clock (jd p who h l) i=clock h i:=by
 induction l with
 |nil=>intro h;rfl
 |cons m r ih=>
  intro h
  refine(ih (mH p who h m)).trans ?_
  unfold mH
  split
  ·exact aud ..
  ·rfl
theorem atd(who i:Nat):clock (kR p who h) i=if i=who then(h.seats[i]?).map (fun x=>(qQ p who x).1.now) else clock h i:=by
 unfold kR
 split
 ·rename_i x hx
  have e:clock (mZ p who h (qQ p who x)) i=clock {h with seats:=h.seats.set who (qQ p who x)} i:=by
   unfold mZ
   split
   ·exact atc _ _ _ _
   ·exact atc _ _ _ _
  rw[e]
  unfold clock
  dsimp only
  by_cases hi:i=who
  ·subst hi
   rw[if_pos rfl,hx]
   have:=(List.getElem?_eq_some_iff.1 hx).1
   simp[this]
  ·rw[if_neg hi,List.getElem?_set,if_neg (fun e=>hi e.symm)]
 ·rename_i hx
  split
  ·rename_i hi;subst hi;unfold clock;rw[hx];rfl
  ·rfl
theorem atl(i:Nat):∃f:St→St,(iD p h).seats[i]?=(h.seats[i]?).map f∧∀x,(f x).1=x.1∧(x.2.1≠2→f x=x):=by
 have hw:∀x,(F4 x).1=x.1∧(x.2.1≠2→F4 x=x):=fun x=>⟨rfl,fun h2=>by unfold F4;rw[if_neg h2]⟩
 have hid:∀o:Option St,o=o.map id:=fun o=>by simp
 unfold iD
 split
 ·split
  ·rename_i x hx
   by_cases hi:(bF.Bn p h.sched h.now).1.toNat=i
   ·refine⟨F4,?_,hw⟩
    rw[hi] at hx⊢
    have:=(List.getElem?_eq_some_iff.1 hx).1
    dsimp only
    rw[List.getElem?_set,if_pos rfl,if_pos this,hx]
    rfl
   ·refine⟨id,?_,fun x=>⟨rfl,fun _=>rfl⟩⟩
    dsimp only
    rw[List.getElem?_set,if_neg hi]
    exact hid _
  ·exact⟨id,hid _,fun x=>⟨rfl,fun _=>rfl⟩⟩
 ·exact⟨id,hid _,fun x=>⟨rfl,fun _=>rfl⟩⟩
theorem as5(hb:∀x∈h.seats,x.1.now<18446744073709551615){i:Nat}{x y:St}(hx:h.seats[i]?=some x)(hy:(pO p h).seats[i]?=some y):
  (y.1.now=x.1.now∨y.1.now=x.1.now+1)∧
  (¬((bF.Bn p h.sched h.now).2=2∧i=(bF.Bn p h.sched h.now).1.toNat)→y.1.now=x.1.now)∧
  ((bF.Bn p h.sched h.now).2=2→i=(bF.Bn p h.sched h.now).1.toNat→x.2.1=1→y.1.now=x.1.now+1)∧
  (x.2.1≠1→x.2.1≠2→y.1.now=x.1.now):=by
 obtain⟨f,hf,hf2⟩:=atl (p:=p) (h:=h) i
 rw[hx] at hf
 simp only[Option.map_some] at hf
 have hlt:=hb x (List.mem_of_getElem? hx)
 generalize hr:bF.Bn p h.sched h.now=r at*
 have nO:clock (j4 p (iD p h) r) i=some y.1.now:=by
  have:(pO p h).seats=(j4 p (iD p h) r).seats:=by
   unfold pO y9
   rw[hr]
   split<;>rfl
  unfold clock
  rw[←this,hy]
  rfl
 have hcw:clock (iD p h) i=some x.1.now:=by
  unfold clock;rw[hf];simp[(hf2 x).1]
 unfold j4 at nO
 by_cases h2:r.2=2
 ·rw[if_pos h2] at nO
  by_cases hi:i=r.1.toNat
  ·have hg:Gn (iD p h) r.1.toNat=decide ((f x).2.1=1):=by
    unfold Gn;rw[←hi,hf]
   rw[hg] at nO
   by_cases h1:(f x).2.1=1
   ·rw[if_pos (by simp[h1])] at nO
    have hcc:clock (kR p r.1.toNat (iD p h)) i=some y.1.now:=nO
    rw[atd,if_pos hi,hf] at hcc
    simp only[Option.map_some,Option.some.injEq] at hcc
    unfold qQ at hcc
    rw[aua _ _ _ _ (by rw[(hf2 x).1];exact hlt),if_pos h1,(hf2 x).1] at hcc
    refine⟨.inr hcc.symm,fun hn=>absurd ⟨h2,hi⟩ hn,fun _ _ _=>hcc.symm,fun n1 n2=>?_⟩
    rw[(hf2 x).2 n2] at h1
    exact absurd h1 n1
   ·rw[if_neg (by simp[h1])] at nO
    have hcc:clock (iD p h) i=some y.1.now:=nO
    rw[hcw] at hcc
    simp only[Option.some.injEq] at hcc
    refine⟨.inl hcc.symm,fun hn=>hcc.symm,fun _ _ e1=>?_,fun _ _=>hcc.symm⟩
    rw[(hf2 x).2 asQ] at h1
    exact absurd e1 h1
  ·have hcc:clock (iD p h) i=some y.1.now:=by
    split at nO
    ·have:clock (kR p r.1.toNat (iD p h)) i=some y.1.now:=nO
     rwa[atd,if_neg hi] at this
    ·exact nO
   rw[hcw] at hcc
   simp only[Option.some.injEq] at hcc
   exact⟨.inl hcc.symm,fun _=>hcc.symm,fun _ e=>absurd e hi,fun _ _=>hcc.symm⟩
 ·rw[if_neg h2] at nO
  have hcc:clock (iD p h) i=some y.1.now:=nO
  rw[hcw] at hcc
  simp only[Option.some.injEq] at hcc
  exact⟨.inl hcc.symm,fun _=>hcc.symm,fun e=>absurd e h2,fun _ _=>hcc.symm⟩
theorem atN:(pO p h).owner=if(bF.Bn p h.sched h.now).2=2 then(bF.Bn p h.sched h.now).1 else-1:=by
 unfold pO y9 j4
 repeat' split
 all_goals rfl
theorem atj:((pO p h).sched≠h.sched→(h.now+1)%p.frame=0)∧((h.now+1)%p.frame=0→(pO p h).sched=(pO p h).next):=by
 obtain⟨a1,a2,a3⟩:=Kc (p:=p) (iD p h) (bF.Bn p h.sched h.now)
 obtain⟨b1,b2,b3,b4⟩:=yO p h
 unfold pO y9
 rw[a1,b1]
 split
 ·rename_i hc;exact⟨fun _=>hc,fun _=>rfl⟩
 ·rename_i hc
  refine⟨fun hn=>absurd ?_ hn,fun h0=>absurd h0 hc⟩
  dsimp only
  rw[a2,b2]
end
end Go.Proofs.YtgmodehldmahiaaGreatDoor
end
section
namespace Go.Proofs.YtgmodehldmahiaaGreatDoor
open Go Go.RowKit Go.Tm
attribute [local go_sem] fO fM fK d_ dM dZ dY dX dW dV dU dS dR dQ dP dO dN iQ iP iO iN iM iL iK iG iJ iI fU fT fQ fP fI fH fC
attribute [local go_sem] Gm Gl Gj Gi Gh Dy Gg Gf Gc Gb zZ
theorem atJ(pv wv cv iv:Value)(p:bF.jE)(dx:List (List ByteArray))(N:Int)(w:World)(hp:bF.jf w pv wv cv p)(hi:mR w iv dx)(hT:jw w)(hok:¬bF.gJ p):
  Calls Tryz.prog 5 #[.agg #[pv,.int .i64 p.frame,wv,cv,iv,.int .i64 N]] w fun e w'=>e=.returned (.bool true)∧Below w.heap.size w w':=by
 have HSH:=ah (fun W (h:Below w.heap.size w W)=>AA W (hT.below h))
 have HFW:=ah (fun W (h:Below w.heap.size w W)=>wz iv dx W (hi.below h))
 have HBG:=ah (fun W (h:Below w.heap.size w W)=>Ee pv wv cv iv p dx W (hp.below h) (hi.below h) hok)
 obtain⟨a1,c1,a2,c2,a3,c3,rfl,rfl,rfl,jO,hl2,qM⟩:=hp.shape
 obtain⟨ia,ic,rfl,xW⟩:=hi.shape
 clear hp hi hT
 go_enter Tryz.func5,Tryz.ntmps5
 go_wp2_with fail
 (generalize bR:World.alloc _ _=w0;have KB:aD w0 (w.heap.size) (#[.slice a1 p.parts.length c1,.int .i64 p.frame,.slice a2 p.wins.length c2,.slice a3 p.chans.length c3,.slice ia dx.length ic,.int .i64 N]) 67:=atQ;have hb0:Below w.heap.size w w0:=atP;have hz0:w0.heap.size=w.heap.size+1:=atu;clear bR;have KB:=ah KB)
 with_reducible refine(HSH.out w0 hb0).mono ?_
 rintro en w1 ⟨rfl,hb1⟩
 have bW:=hb0.trans (hb1.mono hb0.size)
 have p8:=ah (KB.out.below hb1 KB.out.lt)
 obtain⟨hcb,bC,bn,bA,bE⟩:=aD.rules p8.out
 go_wp2_with fail
 with_reducible refine(HFW.out w1 bW).mono ?_
 rintro en w2 ⟨⟨bb,rfl⟩,hb2⟩
 have bM:=bW.trans (hb2.mono bW.size)
 have qO:=ah (p8.out.below hb2 p8.out.lt)
 clear hcb bC bn bA bE
 obtain⟨hcb,bC,bn,bA,bE⟩:=aD.rules qO.out
 go_wp2_with fail
 with_reducible refine(HBG.out w2 bM).mono ?_
 rintro en w3 ⟨⟨k,rfl,hk⟩,hb3⟩
 have hkb:(k !=0)=true:=by simp[hk]
 have gZ:=bM.trans (hb3.mono bM.size)
 have hval:=Yy
 clear hk
 cases bb
 all_goals
  go_wp2_with(first|((with_reducible refine bS 36 ?_);(refine aU rfl 36 _ _ rfl (jV) eH (hval) (by rfl) ?_ ?_ ?_;(exact asZ);(exact asZ)))|fail)
  go_ret
  exact⟨rfl,auv⟩
end Go.Proofs.YtgmodehldmahiaaGreatDoor
end
section
namespace Go.Proofs.YtgmodehldmahiaaGreatDoor
open Go Go.RowKit Go.Tm
theorem auc{p:bF.jE}{dx:List (List ByteArray)}(i:Nat):(j3 p dx i).1.now=0:=by
 unfold j3 vv
 rw[atr,atC]
theorem clocks(p:bF.jE)(dx:List (List ByteArray)):∀n:Nat,n≤100000→∀x∈(nT p (fu p dx) n).seats,0≤x.1.now∧x.1.now≤n
 |0,_,x,hx=>by
  have hx':x∈(fu p dx).seats:=hx
  unfold fu jL at hx'
  obtain⟨i,_,rfl⟩:=List.mem_map.1 hx'
  rw[auc]
  omega
 |n+1,hn,y,hy=>by
  have ih:=clocks p dx n asQ
  obtain⟨j,hj⟩:=List.mem_iff_getElem?.1 hy
  have hl:=(ZU (p:=p) (nT p (fu p dx) n)).2
  have YO:j<(nT p (fu p dx) n).seats.length:=by rw[←hl];exact(List.getElem?_eq_some_iff.1 hj).1
  have hx:=List.getElem?_eq_getElem YO
  have h1:=(as5 (p:=p) (fun x hx=>by have:=ih x hx;omega) hx hj).1
  have h2:=ih _ (List.mem_of_getElem? hx)
  rcases h1 with h1|h1<;>rw[h1]<;>omega
def atz(r:Int×Int):Int:=if r.2=2 then r.1 else-1
structure atX(p:bF.jE)(h1 h2:Hn)(r:Int×Int):Prop where
 owner:h2.owner=atz r
 now:h2.now=h1.now+1
 auP:(h1.now+1)%p.frame≠0→h2.sched=h1.sched
 auO:(h1.now+1)%p.frame=0→h2.sched=h2.next
 len:h2.seats.length=h1.seats.length
 clk:∀(j:Nat) (x y:St),h1.seats[j]?=some x→h2.seats[j]?=some y→0≤x.1.now∧x.1.now≤100000∧∃d:Int,(d=0∨d=1)∧y.1.now=x.1.now+d∧((j:Int)≠atz r→d=0)∧((j:Int)=atz r→x.2.1=1→d=1)∧(x.2.1≠1→x.2.1≠2→d=0)
theorem aui(p:bF.jE)(dx:List (List ByteArray))(n:Nat)(hn:n≤1000):
  atX p (nT p (fu p dx) n) (nT p (fu p dx) (n+1)) (bF.Bn p (nT p (fu p dx) n).sched (nT p (fu p dx) n).now):=by
 have hc:=clocks p dx n asQ
 show atX p (nT p (fu p dx) n) (pO p (nT p (fu p dx) n)) _
 generalize nT p (fu p dx) n=h at*
 obtain⟨t1,t2⟩:=ZU (p:=p) h
 have hav:(bF.Bn p h.sched h.now).2=2→0≤(bF.Bn p h.sched h.now).1:=fun e=>(afD (by rw[e];decide)).2.1
 refine⟨?_,t1,fun hn=>?_,atj.2,t2,fun j x y hx hy=>?_⟩
 ·rw[atN];rfl
 ·apply Classical.byContradiction
  intro hne
  exact hn (atj.1 hne)
 ·have hxc:=hc x (List.mem_of_getElem? hx)
  obtain⟨a1,a2,a3,a4⟩:=as5 (p:=p) (fun x hx=>by have:=hc x hx;omega) hx hy
  refine⟨hxc.1,asQ,y.1.now-x.1.now,asQ,asQ,fun hj=>?_,fun hj hs=>?_,fun h1 h2=>by have:=a4 h1 h2;omega⟩
  ·have:=a2 (fun⟨e1,e2⟩=>hj (by unfold atz;rw[if_pos e1];have:=hav e1;omega))
   omega
  ·have e1:(bF.Bn p h.sched h.now).2=2:=by
    apply Classical.byContradiction
    intro hne
    unfold atz at hj
    rw[if_neg hne] at hj
    omega
   unfold atz at hj
   rw[if_pos e1] at hj
   have:=a3 e1 (by have:=hav e1;omega) hs
   omega
end Go.Proofs.YtgmodehldmahiaaGreatDoor
end
