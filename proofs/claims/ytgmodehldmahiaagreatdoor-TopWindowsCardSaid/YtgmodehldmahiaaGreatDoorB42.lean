/- Part 42 of 53 of the proof of topAlone_and_topApart. Conditions: see each. -/
import Derived.Test.YtgmodehldmahiaaGreatDoorB14
import Derived.Test.YtgmodehldmahiaaGreatDoorB40
import Derived.Test.YtgmodehldmahiaaGreatDoorB41
set_option linter.unusedVariables false
set_option linter.unusedSimpArgs false
set_option maxRecDepth 8192
set_option maxHeartbeats 40000000
section
namespace Go.Proofs.YtgmodehldmahiaaGreatDoor
open Go Go.RowKit Go.Tm
def partAt(p:bF.jE)(i:Nat):Il:=p.parts.getD i (0,0,0,0)
noncomputable def qQ(p:bF.jE)(who:Nat)(x:St):St:=oZ (partAt p who) x.1 x.2.1 x.2.2
noncomputable def mZ(p:bF.jE)(who:Nat)(h:Hn)(y:St):Hn:=
 if who=0∧0≤wrap64 (y.1.want-3)∧wrap64 (y.1.want-3)<p.wins.length then{jd p who {h with seats:=h.seats.set who y} y.1.se with next:=wrap64 (y.1.want-3)}
 else jd p who {h with seats:=h.seats.set who y} y.1.se
noncomputable def kR(p:bF.jE)(who:Nat)(h:Hn):Hn:=
 match h.seats[who]? with
 |some x=>mZ p who h (qQ p who x)
 |none=>h
def F4(x:St):St:=(x.1,if x.2.1=2 then 1 else x.2.1,x.2.2)
noncomputable def iD(p:bF.jE)(h:Hn):Hn:=
 if bF.yF p h.sched h.now=true then
  match h.seats[(bF.Bn p h.sched h.now).1.toNat]? with
  |some x=>{h with seats:=h.seats.set (bF.Bn p h.sched h.now).1.toNat (F4 x)}
  |none=>h
 else h
def Gn(h:Hn)(who:Nat):Bool:=match h.seats[who]? with|some x=>decide (x.2.1=1)|none=>false
noncomputable def j4(p:bF.jE)(h:Hn)(r:Int×Int):Hn:=
 if r.2=2 then(if Gn h r.1.toNat=true then{kR p r.1.toNat h with owner:=r.1} else{h with owner:=r.1}) else{h with owner:=-1}
noncomputable def y9(p:bF.jE)(h:Hn):Hn:=
 if(h.now+1)%p.frame=0 then{h with now:=h.now+1,sched:=h.next} else{h with now:=h.now+1}
noncomputable def pO(p:bF.jE)(h:Hn):Hn:=y9 p (j4 p (iD p h) (bF.Bn p h.sched h.now))
noncomputable def nT(p:bF.jE)(h:Hn):Nat→Hn
 |0=>h
 |n+1=>pO p (nT p h n)
section
variable (p:bF.jE) (h:Hn)
theorem AU(dst port:Int)(body:ByteArray):(wN h dst port body).now=h.now∧(wN h dst port body).sched=h.sched∧(wN h dst port body).next=h.next∧(wN h dst port body).owner=h.owner:=by
 unfold wN;split<;>exact⟨rfl,rfl,rfl,rfl⟩
theorem Wu(who:Int)(m:Ms):(mH p who h m).now=h.now∧(mH p who h m).sched=h.sched∧(mH p who h m).next=h.next∧(mH p who h m).owner=h.owner:=by
 unfold mH;split
 ·exact AU ..
 ·exact⟨rfl,rfl,rfl,rfl⟩
theorem Gv(who:Int)(l:List Ms):∀h:Hn,(jd p who h l).now=h.now∧(jd p who h l).sched=h.sched∧(jd p who h l).next=h.next∧(jd p who h l).owner=h.owner:=by
 induction l with
 |nil=>intro h;exact⟨rfl,rfl,rfl,rfl⟩
 |cons m r ih=>
  intro h
  obtain⟨a,b,c,d⟩:=Wu p h who m
  obtain⟨a',b',c',d'⟩:=ih (mH p who h m)
  exact⟨a'.trans a,b'.trans b,c'.trans c,d'.trans d⟩
theorem Cu(who:Int)(l:List Ms):∀h:Hn,(jd p who h l).seats.length=h.seats.length:=by
 induction l with
 |nil=>intro h;rfl
 |cons m r ih=>intro h;exact(ih (mH p who h m)).trans (Z7 ..)
theorem TP(who:Nat)(y:St):(mZ p who h y).now=h.now∧(mZ p who h y).sched=h.sched∧(mZ p who h y).seats.length=h.seats.length:=by
 obtain⟨a,b,_⟩:=Gv p who y.1.se {h with seats:=h.seats.set who y}
 have e:=Cu p who y.1.se {h with seats:=h.seats.set who y}
 simp only[List.length_set] at e
 unfold mZ
 split
 ·exact⟨a,b,e⟩
 ·exact⟨a,b,e⟩
theorem TN(who:Nat):(kR p who h).now=h.now∧(kR p who h).sched=h.sched∧(kR p who h).seats.length=h.seats.length:=by
 unfold kR
 split
 ·exact TP ..
 ·exact⟨rfl,rfl,rfl⟩
theorem yO:(iD p h).now=h.now∧(iD p h).sched=h.sched∧(iD p h).next=h.next∧(iD p h).seats.length=h.seats.length:=by
 unfold iD
 split
 ·split
  ·exact⟨rfl,rfl,rfl,aI⟩
  ·exact⟨rfl,rfl,rfl,rfl⟩
 ·exact⟨rfl,rfl,rfl,rfl⟩
end
theorem JL:∀(l pre:List aW.Ch) (part port:Int),(aW.LA pre l part port).2.2=true→∃c∈l,c.2.1=part∧c.2.2.1=(aW.LA pre l part port).1
 |[],pre,part,port,h=>by simp[aW.LA] at h
 |c::r,pre,part,port,h=>by
  rw[aW.LA] at h⊢
  split at h
  ·rename_i hc
   rw[if_pos hc]
   split at h
   ·rename_i hp
    rw[if_pos hp]
    exact⟨c,aI,hc,rfl⟩
   ·rename_i hp
    rw[if_neg hp]
    obtain⟨c',h1,h2⟩:=JL r _ part _ h
    exact⟨c',yt,h2⟩
  ·rename_i hc
   rw[if_neg hc]
   obtain⟨c',h1,h2⟩:=JL r _ part _ h
   exact⟨c',yt,h2⟩
theorem aey{l:List aW.Ch}{part port:Int}(h:(aW.toS l part port).2.2=true):∃c∈l,c.2.1=part∧c.2.2.1=(aW.toS l part port).1:=by
 unfold aW.toS at h⊢
 split at h
 ·simp at h
 ·rename_i hp
  rw[if_neg hp]
  exact JL l [] part port h
structure Agree(R:Nat→Prop)(h k:Hn):Prop where
 now:h.now=k.now
 sched:h.sched=k.sched
 next:h.next=k.next
 seat:∀i,R i→h.seats[i]?=k.seats[i]?
section
variable {R:Nat→Prop} {p:bF.jE} {h k:Hn}
theorem Agree.arr(ha:Agree R h k)(dst port:Int)(body:ByteArray):Agree R (wN h dst port body) (wN k dst port body):=by
 obtain⟨a1,a2,a3,_⟩:=AU h dst port body
 obtain⟨b1,b2,b3,_⟩:=AU k dst port body
 refine⟨by rw[a1,b1];exact ha.now,by rw[a2,b2];exact ha.sched,by rw[a3,b3];exact ha.next,fun i hi=>?_⟩
 by_cases hd:dst.toNat=i
 ·subst hd
  have e:=ha.seat _ hi
  unfold wN
  rw[←e]
  cases hx:h.seats[dst.toNat]? with
  |none=>dsimp only;rw[hx];rw[hx] at e;exact e
  |some x=>
   dsimp only
   have h1:=(List.getElem?_eq_some_iff.1 hx).1
   have h2:=(List.getElem?_eq_some_iff.1 (e.symm.trans hx)).1
   simp[h1,h2]
 ·have hs:∀g:Hn,(wN g dst port body).seats[i]?=g.seats[i]?:=by
   intro g
   unfold wN
   split
   ·simp[hd]
   ·rfl
  rw[hs,hs]
  exact ha.seat i hi
theorem Agree.send(ha:Agree R h k)(who:Int)(m:Ms):Agree R (mH p who h m) (mH p who k m):=by
 unfold mH
 split
 ·exact ha.arr _ _ _
 ·exact ha
theorem Agree.sends(who:Int)(l:List Ms):∀{h k:Hn},Agree R h k→Agree R (jd p who h l) (jd p who k l):=by
 induction l with
 |nil=>intro h k ha;exact ha
 |cons m r ih=>intro h k ha;exact ih (ha.send who m)
theorem Agree.refl(R:Nat→Prop)(h:Hn):Agree R h h:=⟨rfl,rfl,rfl,fun _ _=>rfl⟩
theorem Agree.symm(ha:Agree R h k):Agree R k h:=⟨ha.now.symm,ha.sched.symm,ha.next.symm,fun i hi=>(ha.seat i hi).symm⟩
theorem Agree.trans{g:Hn}(ha:Agree R h k)(hb:Agree R k g):Agree R h g:=⟨ha.now.trans hb.now,ha.sched.trans hb.sched,ha.next.trans hb.next,fun i hi=>(ha.seat i hi).trans (hb.seat i hi)⟩
def Closed(R:Nat→Prop)(p:bF.jE):Prop:=∀c∈p.chans,0≤c.2.1∧(R c.2.2.1.toNat→R c.2.1.toNat)
theorem Agree.agT(hc:Closed R p){who:Nat}(hw:¬R who)(h:Hn)(m:Ms):Agree R h (mH p who h m):=by
 unfold mH
 split
 ·rename_i ht
  obtain⟨c,hc1,hc2,hc3⟩:=aey ht
  have hr:¬R (aW.toS p.chans who m.1).1.toNat:=by
   intro hr
   rw[←hc3] at hr
   have:=(hc c hc1).2 hr
   rw[hc2,Int.toNat_natCast] at this
   exact hw this
  obtain⟨a1,a2,a3,_⟩:=AU h (aW.toS p.chans who m.1).1 (aW.toS p.chans who m.1).2.1 m.2
  refine⟨a1.symm,a2.symm,a3.symm,fun i hi=>?_⟩
  unfold wN
  split
  ·have hd:(aW.toS p.chans who m.1).1.toNat≠i:=by rintro rfl;exact hr hi
   simp[hd]
  ·rfl
 ·exact Agree.refl R h
theorem Agree.aeJ(hc:Closed R p){who:Nat}(hw:¬R who)(l:List Ms):∀h:Hn,Agree R h (jd p who h l):=by
 induction l with
 |nil=>intro h;exact Agree.refl R h
 |cons m r ih=>intro h;exact(Agree.agT hc hw h m).trans (ih _)
theorem Agree.set(ha:Agree R h k){i:Nat}{x:St}(hx:h.seats[i]?=k.seats[i]?):Agree R {h with seats:=h.seats.set i x} {k with seats:=k.seats.set i x}:=by
 refine⟨ha.now,ha.sched,ha.next,fun j hj=>?_⟩
 dsimp only
 by_cases hij:i=j
 ·subst hij
  by_cases hl:i<h.seats.length
  ·have hl2:i<k.seats.length:=by
    rw[List.getElem?_eq_getElem hl] at hx
    exact(List.getElem?_eq_some_iff.1 hx.symm).1
   simp[hl,hl2]
  ·have hl2:¬i<k.seats.length:=by
    rw[List.getElem?_eq_none aj] at hx
    have:=List.getElem?_eq_none_iff.1 hx.symm
    omega
   simp[hl,hl2]
 ·simp[hij,ha.seat j hj]
theorem Agree.adW{i:Nat}(hi:¬R i)(h:Hn)(x:St):Agree R h {h with seats:=h.seats.set i x}:=
 ⟨rfl,rfl,rfl,fun j hj=>by
  have:i≠j:=by rintro rfl;exact hi hj
  simp[this]⟩
def One(R:Nat→Prop)(p:bF.jE)(h:Hn):Prop:=R 0∨(p.wins.length=1∧h.next=0)
theorem Xc(ho:One R p h)(who:Nat)(y:St):One R p (mZ p who h y):=by
 rcases ho with h0|⟨h1,h2⟩
 ·exact .inl h0
 ·refine .inr ⟨h1,?_⟩
  unfold mZ
  split
  ·rename_i hc
   dsimp only
   omega
  ·exact(Gv p who y.1.se _).2.2.1.trans h2
theorem Agree.ahr(ha:Agree R h k){who:Nat}(hw:R who):Agree R (kR p who h) (kR p who k):=by
 unfold kR
 have e:=ha.seat who hw
 rw[←e]
 cases hx:h.seats[who]? with
 |none=>exact ha
 |some x=>
  dsimp only
  have hs:=Agree.sends (p:=p) (who:Int) (qQ p who x).1.se (ha.set (x:=qQ p who x) e)
  unfold mZ
  split
  ·exact⟨hs.now,hs.sched,rfl,hs.seat⟩
  ·exact hs
theorem Agree.afr(hc:Closed R p)(ho:One R p h){who:Nat}(hw:¬R who):Agree R h (kR p who h):=by
 unfold kR
 split
 ·rename_i x hx
  have hs:=(Agree.adW hw h (qQ p who x)).trans (Agree.aeJ hc hw (qQ p who x).1.se _)
  unfold mZ
  split
  ·rename_i h0
   rcases ho with hr|⟨h1,h2⟩
   ·rw[h0.1] at hw;exact absurd hr hw
   ·exact⟨hs.now,hs.sched,nG,hs.seat⟩
  ·exact hs
 ·exact Agree.refl R h
theorem Agree.owner(ha:Agree R h k)(a b:Int):Agree R {h with owner:=a} {k with owner:=b}:=⟨ha.now,ha.sched,ha.next,ha.seat⟩
theorem Agree.window(ha:Agree R h k):Agree R (iD p h) (iD p k):=by
 have e1:bF.yF p k.sched k.now=bF.yF p h.sched h.now:=by rw[ha.sched,ha.now]
 have e2:bF.Bn p k.sched k.now=bF.Bn p h.sched h.now:=by rw[ha.sched,ha.now]
 unfold iD
 rw[e1,e2]
 split
 ·generalize(bF.Bn p h.sched h.now).1.toNat=who
  by_cases hw:R who
  ·have e:=ha.seat who hw
   rw[←e]
   cases hx:h.seats[who]? with
   |none=>exact ha
   |some x=>exact ha.set (x:=F4 x) e
  ·have hh:∀g:Hn,Agree R g (match g.seats[who]? with|some x=>{g with seats:=g.seats.set who (F4 x)}|none=>g):=by
    intro g
    split
    ·exact Agree.adW hw g _
    ·exact Agree.refl R g
   exact(hh h).symm.trans (ha.trans (hh k))
 ·exact ha
theorem Ad(ho:One R p h):One R p (iD p h):=by
 rcases ho with h0|⟨h1,h2⟩
 ·exact .inl h0
 ·exact .inr ⟨h1,(yO p h).2.2.1.trans h2⟩
theorem WT(ha:Agree R h k){who:Nat}(hw:R who):Gn h who=Gn k who:=by
 unfold Gn
 rw[ha.seat who hw]
theorem Agree.turn(hc:Closed R p)(ha:Agree R h k)(h1:One R p h)(h2:One R p k)(r:Int×Int):Agree R (j4 p h r) (j4 p k r):=by
 unfold j4
 split
 ·by_cases hw:R r.1.toNat
  ·rw[WT ha hw]
   split
   ·exact(ha.ahr hw).owner _ _
   ·exact ha.owner _ _
  ·have hh:∀g:Hn,One R p g→Agree R g (if Gn g r.1.toNat=true then{kR p r.1.toNat g with owner:=r.1} else{g with owner:=r.1}):=by
    intro g hg
    split
    ·exact(Agree.afr hc hg hw).trans ((Agree.refl R _).owner _ _)
    ·exact(Agree.refl R _).owner _ _
   exact(hh h h1).symm.trans (ha.trans (hh k h2))
 ·exact ha.owner _ _
theorem Xb(ho:One R p h)(who:Nat):One R p (kR p who h):=by
 unfold kR
 split
 ·exact Xc ho _ _
 ·exact ho
theorem ZL(ho:One R p h)(r:Int×Int):One R p (j4 p h r):=by
 unfold j4
 split
 ·split
  ·exact(Xb ho r.1.toNat).imp id id
  ·exact ho.imp id id
 ·exact ho.imp id id
theorem ZT(ho:One R p h):One R p (pO p h):=by
 have:=ZL (Ad ho) (bF.Bn p h.sched h.now)
 unfold pO y9
 split
 ·exact this.imp id id
 ·exact this.imp id id
theorem Agree.step(hc:Closed R p)(ha:Agree R h k)(h1:One R p h)(h2:One R p k):Agree R (pO p h) (pO p k):=by
 have e2:bF.Bn p k.sched k.now=bF.Bn p h.sched h.now:=by rw[ha.sched,ha.now]
 unfold pO
 rw[e2]
 have ht:=Agree.turn hc (ha.window (p:=p)) (Ad h1) (Ad h2) (bF.Bn p h.sched h.now)
 generalize j4 p (iD p h) _=g1 at*
 generalize j4 p (iD p k) _=g2 at*
 have e3:g2.now=g1.now:=ht.now.symm
 unfold y9
 rw[e3]
 split
 ·exact⟨rfl,ht.next,ht.next,ht.seat⟩
 ·exact⟨rfl,ht.sched,ht.next,ht.seat⟩
theorem JQ(ho:One R p h):∀n,One R p (nT p h n)
 |0=>ho
 |n+1=>ZT (JQ ho n)
theorem Agree.run(hc:Closed R p)(ha:Agree R h k)(h1:One R p h)(h2:One R p k):∀n,Agree R (nT p h n) (nT p k n)
 |0=>ha
 |n+1=>(Agree.run hc ha h1 h2 n).step hc (JQ h1 n) (JQ h2 n)
end
end Go.Proofs.YtgmodehldmahiaaGreatDoor
end
section
namespace Go.Proofs.YtgmodehldmahiaaGreatDoor
open Go Go.RowKit Go.Tm
section
variable (k:Kn) (p:aT.dz) (x:qJ)
theorem TW(n:Int)(body:ByteArray)(now:Int):(kZ k n body now).want=k.want:=by
 unfold kZ
 split<;>rfl
end
end Go.Proofs.YtgmodehldmahiaaGreatDoor
end
section
namespace Go.Proofs.YtgmodehldmahiaaGreatDoor
open Go Go.RowKit Go.Tm
def jT(a e c:Nat)(h:Hn):Prop:=∀x∈h.seats,Bd a e c x.1
section
variable {a e c:Nat} {h:Hn} {p:bF.jE}
theorem jT.arr(hb:jT a e c h)(dst port:Int){body:ByteArray}(hs:body.size≤9223372036854775807):jT a e c (wN h dst port body):=by
 unfold wN
 split
 ·rename_i x hx
  intro y hy
  rcases List.mem_or_eq_of_mem_set hy with hy|rfl
  ·exact hb y hy
  ·exact(hb x (List.mem_of_getElem? hx)).amc _ hs (hb x (List.mem_of_getElem? hx)).now
 ·exact hb
theorem jT.send(hb:jT a e c h)(who:Int){m:Ms}(hs:m.2.size≤9223372036854775807):jT a e c (mH p who h m):=by
 unfold mH
 split
 ·exact hb.arr _ _ hs
 ·exact hb
theorem jT.sends(who:Int)(l:List Ms):∀{h:Hn},jT a e c h→(∀m∈l,m.2.size≤9223372036854775807)→jT a e c (jd p who h l):=by
 induction l with
 |nil=>intro h hb _;exact hb
 |cons m r ih=>intro h hb hl;exact ih (hb.send who (hl m aI)) (fun m' hm=>hl m' (by simp[hm]))
theorem jT.set(hb:jT a e c h)(i:Nat){y:St}(hy:Bd a e c y.1):jT a e c {h with seats:=h.seats.set i y}:=by
 intro z hz
 rcases List.mem_or_eq_of_mem_set hz with hz|rfl
 ·exact hb z hz
 ·exact hy
theorem jT.mono{a' e' c':Nat}(hb:jT a e c h)(h1:a≤a')(h2:e≤e')(h3:c≤c'):jT a' e' c' h:=fun x hx=>(hb x hx).mono h1 h2 h3
theorem yG(hp:bF.gJ p)(i:Nat):qK (partAt p i).1:=by
 unfold partAt
 rw[List.getD_eq_getElem?_getD]
 cases hb:p.parts[i]? with
 |none=>exact nY.2 ⟨aC,aC⟩
 |some x=>
  have:=hp.part x (List.mem_of_getElem? hb)
  unfold bF.q9 at this
  exact nY.2 ⟨by simp only[Option.getD_some];omega,by simp only[Option.getD_some];omega⟩
theorem jT.cycle(hp:bF.gJ p)(hb:jT a e 8 h)(who:Nat):jT (a+2*e+24) (e+1) 8 (kR p who h):=by
 unfold kR
 split
 ·rename_i x hx
  have hy:Bd (a+2*e+24) (e+1) 8 (qQ p who x).1:=(hb x (List.mem_of_getElem? hx)).cycle aj (yG hp who) _ _
  have h1:=(hb.mono (a':=a+2*e+24) (e':=e+1) (c':=8) aj aj aj).set who hy
  have h2:=jT.sends (p:=p) (who:Int) (qQ p who x).1.se h1 (fun m hm=>(hy.ses m hm).2)
  unfold mZ
  split
  ·exact h2
  ·exact h2
 ·exact hb.mono aj aj aj
theorem jT.window(hb:jT a e c h):jT a e c (iD p h):=by
 unfold iD
 split
 ·split
  ·rename_i x hx
   exact hb.set _ (y:=F4 x) (hb x (List.mem_of_getElem? hx))
  ·exact hb
 ·exact hb
theorem jT.step(hp:bF.gJ p)(hb:jT a e 8 h):jT (a+2*e+24) (e+1) 8 (pO p h):=by
 have ht:jT (a+2*e+24) (e+1) 8 (j4 p (iD p h) (bF.Bn p h.sched h.now)):=by
  unfold j4
  split
  ·split
   ·exact(hb.window (p:=p)).cycle hp _
   ·exact(hb.window (p:=p)).mono aj aj aj
  ·exact(hb.window (p:=p)).mono aj aj aj
 unfold pO y9
 split
 ·exact ht
 ·exact ht
theorem Kc(h:Hn)(r:Int×Int):(j4 p h r).now=h.now∧(j4 p h r).sched=h.sched∧(j4 p h r).seats.length=h.seats.length:=by
 unfold j4
 split
 ·split
  ·exact TN ..
  ·exact⟨rfl,rfl,rfl⟩
 ·exact⟨rfl,rfl,rfl⟩
theorem ZU(h:Hn):(pO p h).now=h.now+1∧(pO p h).seats.length=h.seats.length:=by
 obtain⟨a1,a2,a3⟩:=Kc (p:=p) (iD p h) (bF.Bn p h.sched h.now)
 obtain⟨b1,b2,b3,b4⟩:=yO p h
 unfold pO y9
 split
 ·exact⟨by dsimp only;rw[a1,b1],by dsimp only;rw[a3,b4]⟩
 ·exact⟨by dsimp only;rw[a1,b1],by dsimp only;rw[a3,b4]⟩
end
structure Gd(p:bF.jE)(n:Nat)(h:Hn):Prop where
 len:h.seats.length=p.parts.length
 now:h.now=n
 bd:jT (n*(n+40)+2) n 8 h
theorem Gd.step{p:bF.jE}{n:Nat}{h:Hn}(hp:bF.gJ p)(hg:Gd p n h):Gd p (n+1) (pO p h):=by
 obtain⟨a1,a2⟩:=ZU (p:=p) h
 refine⟨a2.trans hg.len,by rw[a1,hg.now];omega,(hg.bd.step hp).mono ?_ (Nat.le_refl _) (Nat.le_refl _)⟩
 have e1:(n+1)*(n+1+40)=n*(n+40)+n+(n+41):=by
  simp only[Nat.add_mul,Nat.mul_add,Nat.mul_one,Nat.one_mul];omega
 omega
theorem Gd.run{p:bF.jE}{n:Nat}{h:Hn}(hp:bF.gJ p)(hg:Gd p n h):∀m,Gd p (n+m) (nT p h m)
 |0=>hg
 |m+1=>(Gd.run hp hg m).step hp
theorem afz{n:Nat}(hn:n≤2000):n*(n+40)+2≤5000000:=by
 have:=Nat.mul_le_mul hn (Nat.add_le_add_right hn 40)
 omega
theorem jT.aoP{a e c:Nat}{h:Hn}{p:bF.jE}(hp:bF.gJ p)(hb:jT a e c h)(hl:h.seats.length=p.parts.length)(ha:a≤1000000000)(he:e≤1000000000)(hc:c≤1000000000){n:Nat}(hn:n≤1000000):akW p h n:=
 ⟨fun x hx=>(hb x hx).fit ha he hc,by have:=hp.zX;omega,hn,by have:=hp.Cn;omega,fun ch hch=>by
  have:=hp.chans ch hch
  unfold bF.lU at this
  rw[hl]
  omega⟩
section
variable {p:bF.jE} {h:Hn}
end
end Go.Proofs.YtgmodehldmahiaaGreatDoor
end
section
namespace Go.Proofs.YtgmodehldmahiaaGreatDoor
open Go Go.RowKit Go.Tm
attribute [local go_sem] fO fM fK d_ dM dZ dY dX dW dV dU dS dR dQ dP dO dN iQ iP iO iN iM iL iK iG iJ iI fU fT fQ fP fI fH fC
attribute [local go_sem] Gm Gl Gj Gi Gh Dy Gg Gf Gc Gb zZ
def zW(h:Hn)(i:Nat):Option Int:=(h.seats[i]?).map (fun x=>x.1.want)
theorem afH(h:Hn)(dst port:Int)(body:ByteArray)(i:Nat):zW (wN h dst port body) i=zW h i:=by
 unfold zW wN
 split
 ·rename_i x hx
  dsimp only
  rw[List.getElem?_set]
  split
  ·rename_i hd
   rw[←hd,hx]
   split
   ·simp[TW]
   ·rename_i hn
    have:=(List.getElem?_eq_some_iff.1 hx).1
    omega
  ·rfl
 ·rfl
theorem Wt(p:bF.jE)(who:Int)(l:List Ms)(i:Nat):∀h:Hn,zW (jd p who h l) i=zW h i:=by
 induction l with
 |nil=>intro h;rfl
 |cons m r ih=>
  intro h
  refine(ih (mH p who h m)).trans ?_
  unfold mH
  split
  ·exact afH ..
  ·rfl
theorem MR.num{w:World}{s:Hs}{h h':Hn}{n:Nat}(hr:MR w s h n)(e:h'.seats=h.seats):MR w s h' n:=by
 obtain⟨a,b,c,d,e2⟩:=h
 obtain⟨a',b',c',d',e2'⟩:=h'
 dsimp only at e
 subst e
 exact⟨hr.sv,hr.mo,hr.kr,hr.av,hr.Oh,hr.U3,hr.row⟩
theorem iR.num{B:Nat}{s:Hs}{h h':Hn}(hr:iR B s h)(e:h'.seats=h.seats):iR B s h':=by
 obtain⟨a,b,c,d,e2⟩:=h
 obtain⟨a',b',c',d',e2'⟩:=h'
 dsimp only at e
 subst e
 exact⟨hr.sv,hr.kr,hr.av,hr.row⟩
theorem JV(x:Il):Val true 4 (I7 x):=⟨_,rfl,rfl,XH⟩
theorem ahq(pv wv cv iv:Value)(p:bF.jE)(s:Hs)(h:Hn)(n who:Nat)(x:St)(pt:Il)(w:World)(hp:bF.jf w pv wv cv p)(hi:kind iv=5)(hr:MR w s h n)(hT:jw w)(hx:h.seats[who]?=some x)(hpt:p.parts[who]?=some pt)
  (hf:x.2.1=1→DX x.1)(hl:x.2.1=1→(lK x.1).gone≠0→Mg pt (lK x.1).gone=3→rA pt.1 (lK x.1))
  (MV:∀j,akW p (jd p who {h with seats:=h.seats.set who (qQ p who x)} ((qQ p who x).1.se.take j)) (n+(qQ p who x).1.se.length))(YL:∀m∈(qQ p who x).1.se,qK m.1∧m.2.size≤9223372036854775807):
  Calls Tryz.prog 39 #[.agg (hC pv wv cv iv p s h),.int .i64 who] w (JH w pv wv cv iv p s h (mZ p who h (qQ p who x)) (n+(qQ p who x).1.se.length)):=by
 have HP:=ah hp
 have HM:=ah hr
 have hwl:=(List.getElem?_eq_some_iff.1 hx).1
 have hpe:partAt p who=pt:=ace
 obtain⟨u,hu⟩:∃u,s.ss[who]?=some u:=⟨_,List.getElem?_eq_getElem Vd⟩
 have MS:=hr.kr who u x hu hx
 obtain⟨a1,c1,a2,c2,a3,c3,rfl,rfl,rfl,jO,hl2,qM⟩:=hp.shape
 obtain⟨asv,Ui,xP,Iz⟩:=hr.sv.shape
 obtain⟨sv,ss,av,rows,got⟩:=s
 dsimp only at xP hu
 subst xP
 obtain⟨bs,os,hbs,UU,hcs⟩:=hr.sv.at (kI hu hx)
 obtain⟨bp,op,hbp,am9,fF⟩:=hp.parts.at (i:=who) (x:=bF.Ut pt) (by rw[List.getElem?_map,hpt];rfl)
 have hpl:who<p.parts.length:=(List.getElem?_eq_some_iff.1 hpt).1
 subst hbs hbp
 rw[gV hr.mo] at Iz hr HM⊢
 have HCS:=ah hcs
 have HCP:=ah fF
 have HKR:=ah MS
 have Om:=iT MS x.2.1 x.2.2
 have akc:=JV pt
 have HCA:=ah (fun W h1 h2=>AQ u x.1 x.2.1 x.2.2 pt W h1 h2 hf hl)
 have hown:qQ p who x=oZ pt x.1 x.2.1 x.2.2:=by unfold qQ;rw[hpe]
 rw[hown] at MV YL⊢
 obtain⟨y,hy⟩:∃y,y=oZ pt x.1 x.2.1 x.2.2:=⟨_,rfl⟩
 rw[←hy] at MV YL HCA⊢
 have HFS:=ah MV
 have HMS:=ah YL
 have Et:=ah (fun W (h:Below w.heap.size w W)=>hT.below h)
 have ac1:h.seats.length≤1000000:=by
  have:=(MV 0).len
  have e:(jd p who {h with seats:=h.seats.set who y} (y.1.se.take 0)).seats.length=h.seats.length:=by rw[Cu];simp
  omega
 have hsl:(tH ss h.seats).length=h.seats.length:=gV hr.mo
 have hsz:=nk (.slice (some ⟨bp,op,none⟩) p.parts.length c1) (.slice a2 p.wins.length c2) (.slice a3 p.chans.length c3) iv p ⟨.slice (some ⟨bs,os,none⟩) h.seats.length Ui,ss,av,rows,got⟩ h
 have QV:jV.size=11:=rfl
 have UM:(xC u x.1 (sx x.2.1 x.2.2)).size=19:=yw
 obtain⟨hq,hhq⟩:∃hq,hq=mZ p who h y:=⟨_,rfl⟩
 rw[←hhq]
 have HHQ:=ah hhq
 clear hr hf hp MS hcs fF MV YL hl hpt hT hsz hy hhq
 go_enter Tryz.func39,Tryz.ntmps39
 go_wp2_with fail
 (generalize bR:World.alloc _ _=w0;have KB:aD w0 (w.heap.size) (hC (.slice (some ⟨bp,op,none⟩) p.parts.length c1) (.slice a2 p.wins.length c2) (.slice a3 p.chans.length c3) iv p ⟨.slice (some ⟨bs,os,none⟩) h.seats.length Ui,ss,av,rows,got⟩ h) 36:=bH;have KZ:aD w0 (w.heap.size+1) (jV) 36:=bH;have hb0:Below w.heap.size w w0:=bN;have hz0:w0.heap.size=w.heap.size+1+1:=bX;clear bR;have KB:=ah KB;have KZ:=ah KZ)
 have vO:w.heap.size+2≤w0.heap.size:=aj
 have aqS:bs<w0.heap.size:=aj
 have aqT:bp<w0.heap.size:=aj
 have arG:=ah (HCS.out.below hb0 UU)
 have arH:=ah (HCP.out.below hb0 am9)
 have HM0:=ah (HM.out.below hb0)
 have arC:=ah (HKR.out.below hb0)
 clear hz0
 obtain⟨hcb,bC,bn,bA,bE⟩:=aD.rules KB.out
 ((refine aY (fun W=>Below w0.heap.size w0 W) (fun i=>decide (i<17)) ay ?_);
          have hS:Below w0.heap.size w0 w0.drew:=(Below.refl _ _).drew;
          (refine tk 0 6 hS ?_);
          (refine tk 1 7 hS ?_ (hy:=Or.inl ⟨aF,sQ⟩));
          (refine tk 2 8 hS ?_);
          (refine tk 3 9 hS ?_);
          (refine tk 4 10 hS ?_);
          (refine tk 5 11 hS ?_ (hy:=Or.inl ⟨aF,sQ⟩));
          (refine tk 6 12 hS ?_);
          (refine tk 7 13 hS ?_);
          (refine bL 8 (oi:=⟨some 14,_,_,_,_,_⟩) rfl ay om hS (fZ 74 _ rfl (b:=bp) (off:=op+who*4) (I7 pt) Ap akc aF bG (fun W hs=>arH.out.below hs aqT)) ?_);
          (try simp only[pt]);
          (refine tk 9 15 hS ?_);
          (refine tk 10 16 hS ?_ (hy:=Or.inl ⟨aF,sQ⟩));
          (refine tk 11 17 hS ?_);
          (refine tk 12 18 hS ?_);
          (refine bL 13 (oi:=⟨some 19,_,_,_,_,_⟩) rfl ay om hS (fZ 59 _ rfl (b:=bs) (off:=os+who*19) (iC u x.1 x.2.1 x.2.2) dH Om aF bG (fun W hs=>arG.out.below hs aqS)) ?_);
          (try simp only[pt]);
          (refine aJ 14 (oi:=⟨some 20,_,_,_,_,_⟩) rfl ay rfl (fun K hK=>?_));
          (go_simp;(with_reducible refine(HCA.out _ (arC.out.below hS) (Et.out _ (hb0.trans (hS.mono hb0.size)))).mono ?_);rintro en w5 ⟨s5,rfl,Q0,G6,kV⟩;have hS:=hS.trans (Below.mono kV hS.size);have Rh:=ah Q0;have IW:=ah G6;(try go_wp2_with fail));
          (refine hK.out _ _ (fun _=>b_) ?_;clear hK K);
          (try simp only[pt]);
          (refine aJ 15 (oi:=⟨some 21,_,_,_,_,_⟩) rfl ay rfl (fun K hK=>?_));
          (go_simp;(with_reducible refine(JN _ (tH ss h.seats) who s5 y.1 y.2.1 y.2.2 _ (HM0.out.sv.below hS) aj Rh.out aj).mono ?_);rintro en w6 ⟨v6,rfl,Uv,kM⟩;have hS:=hS.trans (Below.mono kM hS.size);obtain⟨a6,m6,n6,rfl⟩:=Uv.sl.is;have Ip:=ah (Uv.le (base':=w0.heap.size) acg);have ab4:=ah (Rh.out.below kM);clear Uv Q0 G6;(try go_wp2_with fail));
          (refine hK.out _ _ (fun _=>b_) ?_;clear hK K);
          (try simp only[pt]);
          (refine tk 16 22 hS ?_);
          (refine aZ 17 ay ?_ rfl);
          simp only[List.toList_toArray,List.drop_succ_cons,List.drop_zero])
 have vL:=ah (KB.out.below hS KB.out.lt)
 have mD:=hb0.trans (hS.mono hb0.size)
 have zM:=MR.Fa (d:=who) (u:=s5) (x:=y) vL.out (HM0.out.below hS) (HM.out.away (Nat.le_refl _)) (HP.out.below mD) hi Ip.out.sl (lY Ip.out aj) ab4.out (IW.out w.heap.size EO (HKR.out.away (Nat.le_refl _)))
 have QN:=ah zM
 have ar8:=hS.size
 have KZ7:=ah ((KZ.out.below hS KZ.out.lt).other ⟨w.heap.size,8,none⟩ (.slice a6 m6 n6) aI)
 have HMA:=ah (show∀B,B<w0.heap.size→iR B ⟨.slice (some ⟨bs,os,none⟩) h.seats.length Ui,ss,av,rows,got⟩ h→iR B ⟨.slice a6 m6 n6,ss.set who s5,av,rows,got⟩ {h with seats:=h.seats.set who y} from fun B hB ha=>ha.DK HM0.out.mo (lY Ip.out hB) (IW.out B EO (ha.kr who u x hu hx)))
 have Y8:=ah (show Below w.heap.size w (w6.setCell ⟨w.heap.size,8,none⟩ (.slice a6 m6 n6)) from Below.setCell mD (Nat.le_refl _) _)
 have amy:w6.heap.size≤(w6.setCell ⟨w.heap.size,8,none⟩ (.slice a6 m6 n6)).heap.size:=aI
 generalize hW7:w6.setCell ⟨w.heap.size,8,none⟩ (.slice a6 m6 n6)=w7 at QN KZ7 Y8 amy
 have LC:w0.heap.size≤w7.heap.size:=aj
 clear zM hcb bC bn bA bE amy
 obtain⟨hcb,bC,bn,bA,bE⟩:=aD.rules vL.out
 have hv7:=je (HP.out.below Y8.out) hi QN.out.2
 have HV7:=ah hv7
 have XT:=nk (.slice (some ⟨bp,op,none⟩) p.parts.length c1) (.slice a2 p.wins.length c2) (.slice a3 p.chans.length c3) iv p ⟨.slice a6 m6 n6,ss.set who s5,av,rows,got⟩ {h with seats:=h.seats.set who y}
 clear hv7
 go_wp2_with(first|((with_reducible refine cK 36 ?_);(refine aK rfl 36 _ rfl (hC (.slice (some ⟨bp,op,none⟩) p.parts.length c1) (.slice a2 p.wins.length c2) (.slice a3 p.chans.length c3) iv p ⟨.slice a6 m6 n6,ss.set who s5,av,rows,got⟩ {h with seats:=h.seats.set who y}) eH HV7.out QN.out.1 ?_ ?_;(exact aM)))|fail)
 with_reducible refine(Z5 (.slice (some ⟨bp,op,none⟩) p.parts.length c1) (.slice a2 p.wins.length c2) (.slice a3 p.chans.length c3) iv p ⟨.slice a6 m6 n6,ss.set who s5,av,rows,got⟩ {h with seats:=h.seats.set who y} n who y w7 (HP.out.below Y8.out) hi QN.out.2 (by simp[hwl]) HFS.out HMS.out).mono ?_
 rintro en w8 ⟨⟨sv8,QG,UE,uP,BR⟩,rfl,Qw,Zr,ku⟩
 have HM8:=ah Qw
 have Rj:=ah Zr
 obtain⟨h8,hh8⟩:∃h8,h8=jd p who {h with seats:=h.seats.set who y} y.1.se:=⟨_,rfl⟩
 have hwt:zW h8 who=some y.1.want:=by rw[hh8,Wt];unfold zW;simp[hwl]
 have BK:mZ p who h y=if who=0∧0≤wrap64 (y.1.want-3)∧wrap64 (y.1.want-3)<p.wins.length then{h8 with next:=wrap64 (y.1.want-3)} else h8:=by unfold mZ;rw[←hh8]
 rw[←hh8] at Qw Zr HM8 Rj⊢
 clear hh8 Zr
 obtain⟨y8,hy8,hyw⟩:∃y8,h8.seats[who]?=some y8∧y8.1.want=y.1.want:=by
  unfold zW at hwt
  obtain⟨y8,e1,e2⟩:=Option.map_eq_some_iff.1 hwt
  exact⟨y8,e1,e2⟩
 obtain⟨u8,hu8⟩:∃u8,QG[who]?=some u8:=⟨_,List.getElem?_eq_getElem (by rw[show QG.length=_ from Qw.mo];exact(List.getElem?_eq_some_iff.1 hy8).1)⟩
 obtain⟨asG,BS,aj4,ajB⟩:=Qw.sv.shape
 rw[gV Qw.mo] at aj4 ajB
 dsimp only at aj4 ajB
 subst aj4
 obtain⟨b8,o8,aq4,aq3,hc8⟩:=Qw.sv.at (kI hu8 hy8)
 subst aq4
 have QS:=ah BK
 have xg:=ah (QN.out.1.below ku QN.out.1.lt)
 have KZ8:=ah (KZ7.out.below ku KZ7.out.lt)
 have Uu:=ku.size
 have hv8:=je (HP.out.below (Y8.out.trans (ku.mono Y8.out.size))) hi Qw
 have HV8:=ah hv8
 have hk8:(hC (.slice (some ⟨bp,op,none⟩) p.parts.length c1) (.slice a2 p.wins.length c2) (.slice a3 p.chans.length c3) iv p ⟨.slice a6 m6 n6,ss.set who s5,av,rows,got⟩ {h with seats:=h.seats.set who y}).toList.map kind=wV:=vF (HP.out.below Y8.out) hi QN.out.2
 have HK8:=ah hk8
 have BP:=Y8.out.trans (ku.mono Y8.out.size)
 have ar6:who<h8.seats.length:=(List.getElem?_eq_some_iff.1 hy8).1
 have anf:iR w.heap.size ⟨.slice (some ⟨b8,o8,none⟩) h8.seats.length BS,QG,UE,uP,BR⟩ h8:=Rj.out w.heap.size aj (HMA.out w.heap.size aj (HM.out.away (Nat.le_refl _)))
 have HAB:=ah anf
 clear Qw hwt BK aq3 hc8 hv8 hk8 anf hcb bC bn bA bE hW7
 by_cases g0:who=0
 ·subst g0
  by_cases g1:0≤wrap64 (y.1.want-3)
  ·by_cases g2:wrap64 (y.1.want-3)<p.wins.length
   ·
    have BK:=HHQ.out.trans QS.out
    rw[if_pos ⟨rfl,g1,g2⟩] at BK
    clear HHQ QS
    subst hq
    go_upto_if 47 with(first|((with_reducible refine bS 36 ?_);(refine aR rfl 36 _ _ rfl xg.out (.agg (hC (.slice (some ⟨bp,op,none⟩) p.parts.length c1) (.slice a2 p.wins.length c2) (.slice a3 p.chans.length c3) iv p ⟨.slice (some ⟨b8,o8,none⟩) h8.seats.length BS,QG,UE,uP,BR⟩ h8)) eH (HV8.out) ?_ (_) (gM 11 XT ()) ?_ ?_ ?_;(exact gG);(exact aM);(exact aM);(intro w9 Eo nE Qr oN;have Za:=ah Eo;have hm9:=HM8.out.bP HAB.out xg.out HK8.out j6 aC aC aC nE;have HM9:=ah hm9;obtain⟨b9,o9,akH,aq1,LG⟩:=hm9.sv.at (kI hu8 hy8);(cases akH);have aky:=LG 15 (.int .i64 y.1.want) aia;clear hm9 LG Eo;obtain⟨hcb,bC,bn,bA,bE⟩:=aD.rules Za.out)))|fail)
    have KZ9:=ah (KZ8.out.grown nE aI)
    have HAF:=ah (show∀B,B<w0.heap.size→iR B ⟨.slice (some ⟨bs,os,none⟩) h.seats.length Ui,ss,av,rows,got⟩ h→iR B ⟨.slice (some ⟨b8,o8,none⟩) h8.seats.length BS,QG,UE,uP,BR⟩ h8 from fun B hB ha=>Rj.out B aj (HMA.out B hB ha))
    have mO:Below w.heap.size w w9:=BP.trans (bJ nE aj aj)
    have aoS:=nE.size
    clear aky XT
    have aki:=((HM9.out.bP HAB.out Za.out (vF (HP.out.below mO) hi HM9.out) j6 aC aC aC (aO w9 w.heap.size 7 (.int .i64 (wrap64 (y.1.want-3))))).num (h':={h8 with next:=wrap64 (y.1.want-3)}) rfl)
    have amx:aD (w9.setCell ⟨w.heap.size,7,none⟩ (.int .i64 (wrap64 (y.1.want-3)))) w.heap.size (hC (.slice (some ⟨bp,op,none⟩) p.parts.length c1) (.slice a2 p.wins.length c2) (.slice a3 p.chans.length c3) iv p ⟨.slice (some ⟨b8,o8,none⟩) h8.seats.length BS,QG,UE,uP,BR⟩ {h8 with next:=wrap64 (y.1.want-3)}) 36:=(Za.out.set 7 _).cast (aoz ..)
    have EG:=ah amx
    have anN:=ah aki
    have ajV:=KZ9.out.other ⟨w.heap.size,7,none⟩ (.int .i64 (wrap64 (y.1.want-3))) aI
    have ac5:Below w.heap.size w (w9.setCell ⟨w.heap.size,7,none⟩ (.int .i64 (wrap64 (y.1.want-3)))):=Below.setCell mO (Nat.le_refl _) _
    have aod:w9.heap.size≤(w9.setCell ⟨w.heap.size,7,none⟩ (.int .i64 (wrap64 (y.1.want-3)))).heap.size:=aI
    have ak1:=ah (je (HP.out.below ac5) hi aki)
    clear amx aki
    generalize asE:w9.setCell ⟨w.heap.size,7,none⟩ (.int .i64 (wrap64 (y.1.want-3)))=zw at EG anN ajV ac5 aod
    clear KZ9
    have KZ9:=ah ajV
    clear ajV
    have anT:=ah (show∀B,B<w0.heap.size→iR B ⟨.slice (some ⟨bs,os,none⟩) h.seats.length Ui,ss,av,rows,got⟩ h→iR B ⟨.slice (some ⟨b8,o8,none⟩) h8.seats.length BS,QG,UE,uP,BR⟩ {h8 with next:=wrap64 (y.1.want-3)} from fun B hB ha=>(HAF.out B hB ha).num rfl)
    have aj2:=nk (.slice (some ⟨bp,op,none⟩) p.parts.length c1) (.slice a2 p.wins.length c2) (.slice a3 p.chans.length c3) iv p ⟨.slice (some ⟨b8,o8,none⟩) h8.seats.length BS,QG,UE,uP,BR⟩ ({h8 with next:=wrap64 (y.1.want-3)})
    have acZ:jV.size=11:=rfl
    go_wp2_with(first|((with_reducible refine cK 36 ?_);(refine aK rfl 36 _ rfl (hC (.slice (some ⟨bp,op,none⟩) p.parts.length c1) (.slice a2 p.wins.length c2) (.slice a3 p.chans.length c3) iv p ⟨.slice (some ⟨b8,o8,none⟩) h8.seats.length BS,QG,UE,uP,BR⟩ ({h8 with next:=wrap64 (y.1.want-3)})) eH (ak1.out) EG.out ?_ ?_;(exact aM)))|((with_reducible refine bS 36 ?_);(refine aR rfl 36 _ _ rfl KZ9.out (.agg (hC (.slice (some ⟨bp,op,none⟩) p.parts.length c1) (.slice a2 p.wins.length c2) (.slice a3 p.chans.length c3) iv p ⟨.slice (some ⟨b8,o8,none⟩) h8.seats.length BS,QG,UE,uP,BR⟩ ({h8 with next:=wrap64 (y.1.want-3)}))) eH (ak1.out) ?_ (_) (gM 11 lX ()) ?_ ?_ ?_;(exact gG);(exact aM);(exact aM);(intro N7 nN oP zB f_;have pI:=ah nN)))|fail)
    have sK:=MR.bP (R:=w.heap.size+1) (ks:=wV) (anN.out) (anT.out (w.heap.size+1) aj (HM.out.away aj)) KZ9.out rfl aC aC aC aC oP
    exact jH Tryz.results39 eH ak1.out aF pI.out rfl ⟨⟨.slice (some ⟨b8,o8,none⟩) h8.seats.length BS,QG,UE,uP,BR⟩,rfl,sK,fun B hB h=>anT.out B aj h,(ac5).trans (f_.mono aj)⟩
   ·
    have BK:=HHQ.out.trans QS.out
    rw[if_neg (fun h=>g2 h.2.2)] at BK
    exact ajT
  ·
   have BK:=HHQ.out.trans QS.out
   rw[if_neg (fun h=>g1 h.2.1)] at BK
   exact ajT
 ·
  have BK:=HHQ.out.trans QS.out
  rw[if_neg (fun h=>g0 h.1)] at BK
  exact ajT
end Go.Proofs.YtgmodehldmahiaaGreatDoor
end
