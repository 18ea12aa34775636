/- Part 43 of 50 of the proof of topWindows_holds. Conditions: see each. -/
import Derived.Test.YtgmodehldmahiaaGreatDoorW14
import Derived.Test.YtgmodehldmahiaaGreatDoorW40
import Derived.Test.YtgmodehldmahiaaGreatDoorW42
set_option linter.unusedVariables false
set_option linter.unusedSimpArgs false
set_option maxRecDepth 8192
set_option maxHeartbeats 40000000
section
namespace Go.Proofs.YtgmodehldmahiaaGreatDoor
open Go Go.RowKit Go.Tm
def partAt(p:Plan.iE)(i:Nat):DN:=p.parts.getD i (0,0,0,0)
noncomputable def mD(p:Plan.iE)(who:Nat)(x:St):St:=lC (partAt p who) x.1 x.2.1 x.2.2
noncomputable def jQ(p:Plan.iE)(who:Nat)(h:Hn)(y:St):Hn:=
 if who=0∧0≤wrap64 (y.1.want-3)∧wrap64 (y.1.want-3)<p.wins.length then{gL p who {h with seats:=h.seats.set who y} y.1.se with next:=wrap64 (y.1.want-3)}
 else gL p who {h with seats:=h.seats.set who y} y.1.se
noncomputable def iN(p:Plan.iE)(who:Nat)(h:Hn):Hn:=
 match h.seats[who]? with
 |some x=>jQ p who h (mD p who x)
 |none=>h
def vG(x:St):St:=(x.1,if x.2.1=2 then 1 else x.2.1,x.2.2)
noncomputable def dD(p:Plan.iE)(h:Hn):Hn:=
 if Plan.uW p h.sched h.now=true then
  match h.seats[(Plan.qF p h.sched h.now).1.toNat]? with
  |some x=>{h with seats:=h.seats.set (Plan.qF p h.sched h.now).1.toNat (vG x)}
  |none=>h
 else h
def yG(h:Hn)(who:Nat):Bool:=match h.seats[who]? with|some x=>decide (x.2.1=1)|none=>false
noncomputable def iI(p:Plan.iE)(h:Hn)(r:Int×Int):Hn:=
 if r.2=2 then(if yG h r.1.toNat=true then{iN p r.1.toNat h with owner:=r.1} else{h with owner:=r.1}) else{h with owner:=-1}
noncomputable def rC(p:Plan.iE)(h:Hn):Hn:=
 if(h.now+1)%p.frame=0 then{h with now:=h.now+1,sched:=h.next} else{h with now:=h.now+1}
noncomputable def iX(p:Plan.iE)(h:Hn):Hn:=rC p (iI p (dD p h) (Plan.qF p h.sched h.now))
noncomputable def kX(p:Plan.iE)(h:Hn):Nat→Hn
 |0=>h
 |n+1=>iX p (kX p h n)
section
variable (p:Plan.iE) (h:Hn)
theorem xM(dst port:Int)(body:ByteArray):(qZ h dst port body).now=h.now∧(qZ h dst port body).sched=h.sched∧(qZ h dst port body).next=h.next∧(qZ h dst port body).owner=h.owner:=by
 unfold qZ;split<;>exact⟨rfl,rfl,rfl,rfl⟩
theorem QY(who:Int)(m:Ms):(jR p who h m).now=h.now∧(jR p who h m).sched=h.sched∧(jR p who h m).next=h.next∧(jR p who h m).owner=h.owner:=by
 unfold jR;split
 ·exact xM ..
 ·exact⟨rfl,rfl,rfl,rfl⟩
theorem Dt(who:Int)(l:List Ms):∀h:Hn,(gL p who h l).now=h.now∧(gL p who h l).sched=h.sched∧(gL p who h l).next=h.next∧(gL p who h l).owner=h.owner:=by
 induction l with
 |nil=>intro h;exact⟨rfl,rfl,rfl,rfl⟩
 |cons m r ih=>
  intro h
  obtain⟨a,b,c,d⟩:=QY p h who m
  obtain⟨a',b',c',d'⟩:=ih (jR p who h m)
  exact⟨a'.trans a,b'.trans b,c'.trans c,d'.trans d⟩
theorem zo(who:Int)(l:List Ms):∀h:Hn,(gL p who h l).seats.length=h.seats.length:=by
 induction l with
 |nil=>intro h;rfl
 |cons m r ih=>intro h;exact(ih (jR p who h m)).trans (U7 ..)
theorem Oa(who:Nat)(y:St):(jQ p who h y).now=h.now∧(jQ p who h y).sched=h.sched∧(jQ p who h y).seats.length=h.seats.length:=by
 obtain⟨a,b,_⟩:=Dt p who y.1.se {h with seats:=h.seats.set who y}
 have e:=zo p who y.1.se {h with seats:=h.seats.set who y}
 simp only[List.length_set] at e
 unfold jQ
 split
 ·exact⟨a,b,e⟩
 ·exact⟨a,b,e⟩
theorem N_(who:Nat):(iN p who h).now=h.now∧(iN p who h).sched=h.sched∧(iN p who h).seats.length=h.seats.length:=by
 unfold iN
 split
 ·exact Oa ..
 ·exact⟨rfl,rfl,rfl⟩
theorem qP:(dD p h).now=h.now∧(dD p h).sched=h.sched∧(dD p h).next=h.next∧(dD p h).seats.length=h.seats.length:=by
 unfold dD
 split
 ·split
  ·exact⟨rfl,rfl,rfl,aI⟩
  ·exact⟨rfl,rfl,rfl,rfl⟩
 ·exact⟨rfl,rfl,rfl,rfl⟩
end
theorem FM:∀(l pre:List bf.Ch) (part port:Int),(bf.GU pre l part port).2.2=true→∃c∈l,c.2.1=part∧c.2.2.1=(bf.GU pre l part port).1
 |[],pre,part,port,h=>by simp[bf.GU] at h
 |c::r,pre,part,port,h=>by
  rw[bf.GU] at h⊢
  split at h
  ·rename_i hc
   rw[if_pos hc]
   split at h
   ·rename_i hp
    rw[if_pos hp]
    exact⟨c,aI,hc,rfl⟩
   ·rename_i hp
    rw[if_neg hp]
    obtain⟨c',h1,h2⟩:=FM r _ part _ h
    exact⟨c',rH,h2⟩
  ·rename_i hc
   rw[if_neg hc]
   obtain⟨c',h1,h2⟩:=FM r _ part _ h
   exact⟨c',rH,h2⟩
theorem ZU{l:List bf.Ch}{part port:Int}(h:(bf.toS l part port).2.2=true):∃c∈l,c.2.1=part∧c.2.2.1=(bf.toS l part port).1:=by
 unfold bf.toS at h⊢
 split at h
 ·simp at h
 ·rename_i hp
  rw[if_neg hp]
  exact FM l [] part port h
structure Agree(R:Nat→Prop)(h k:Hn):Prop where
 now:h.now=k.now
 sched:h.sched=k.sched
 next:h.next=k.next
 seat:∀i,R i→h.seats[i]?=k.seats[i]?
section
variable {R:Nat→Prop} {p:Plan.iE} {h k:Hn}
theorem Agree.arr(ha:Agree R h k)(dst port:Int)(body:ByteArray):Agree R (qZ h dst port body) (qZ k dst port body):=by
 obtain⟨a1,a2,a3,_⟩:=xM h dst port body
 obtain⟨b1,b2,b3,_⟩:=xM k dst port body
 refine⟨by rw[a1,b1];exact ha.now,by rw[a2,b2];exact ha.sched,by rw[a3,b3];exact ha.next,fun i hi=>?_⟩
 by_cases hd:dst.toNat=i
 ·subst hd
  have e:=ha.seat _ hi
  unfold qZ
  rw[←e]
  cases hx:h.seats[dst.toNat]? with
  |none=>dsimp only;rw[hx];rw[hx] at e;exact e
  |some x=>
   dsimp only
   have h1:=(List.getElem?_eq_some_iff.1 hx).1
   have h2:=(List.getElem?_eq_some_iff.1 (e.symm.trans hx)).1
   simp[h1,h2]
 ·have hs:∀g:Hn,(qZ g dst port body).seats[i]?=g.seats[i]?:=by
   intro g
   unfold qZ
   split
   ·simp[hd]
   ·rfl
  rw[hs,hs]
  exact ha.seat i hi
theorem Agree.send(ha:Agree R h k)(who:Int)(m:Ms):Agree R (jR p who h m) (jR p who k m):=by
 unfold jR
 split
 ·exact ha.arr _ _ _
 ·exact ha
theorem Agree.sends(who:Int)(l:List Ms):∀{h k:Hn},Agree R h k→Agree R (gL p who h l) (gL p who k l):=by
 induction l with
 |nil=>intro h k ha;exact ha
 |cons m r ih=>intro h k ha;exact ih (ha.send who m)
theorem Agree.refl(R:Nat→Prop)(h:Hn):Agree R h h:=⟨rfl,rfl,rfl,fun _ _=>rfl⟩
theorem Agree.symm(ha:Agree R h k):Agree R k h:=⟨ha.now.symm,ha.sched.symm,ha.next.symm,fun i hi=>(ha.seat i hi).symm⟩
theorem Agree.trans{g:Hn}(ha:Agree R h k)(hb:Agree R k g):Agree R h g:=⟨ha.now.trans hb.now,ha.sched.trans hb.sched,ha.next.trans hb.next,fun i hi=>(ha.seat i hi).trans (hb.seat i hi)⟩
def Closed(R:Nat→Prop)(p:Plan.iE):Prop:=∀c∈p.chans,0≤c.2.1∧(R c.2.2.1.toNat→R c.2.1.toNat)
theorem Agree.acd(hc:Closed R p){who:Nat}(hw:¬R who)(h:Hn)(m:Ms):Agree R h (jR p who h m):=by
 unfold jR
 split
 ·rename_i ht
  obtain⟨c,hc1,hc2,hc3⟩:=ZU ht
  have hr:¬R (bf.toS p.chans who m.1).1.toNat:=by
   intro hr
   rw[←hc3] at hr
   have:=(hc c hc1).2 hr
   rw[hc2,Int.toNat_natCast] at this
   exact hw this
  obtain⟨a1,a2,a3,_⟩:=xM h (bf.toS p.chans who m.1).1 (bf.toS p.chans who m.1).2.1 m.2
  refine⟨a1.symm,a2.symm,a3.symm,fun i hi=>?_⟩
  unfold qZ
  split
  ·have hd:(bf.toS p.chans who m.1).1.toNat≠i:=by rintro rfl;exact hr hi
   simp[hd]
  ·rfl
 ·exact Agree.refl R h
theorem Agree.Z9(hc:Closed R p){who:Nat}(hw:¬R who)(l:List Ms):∀h:Hn,Agree R h (gL p who h l):=by
 induction l with
 |nil=>intro h;exact Agree.refl R h
 |cons m r ih=>intro h;exact(Agree.acd hc hw h m).trans (ih _)
theorem Agree.set(ha:Agree R h k){i:Nat}{x:St}(hx:h.seats[i]?=k.seats[i]?):Agree R {h with seats:=h.seats.set i x} {k with seats:=k.seats.set i x}:=by
 refine⟨ha.now,ha.sched,ha.next,fun j hj=>?_⟩
 dsimp only
 by_cases hij:i=j
 ·subst hij
  by_cases hl:i<h.seats.length
  ·have hl2:i<k.seats.length:=by
    rw[List.getElem?_eq_getElem hl] at hx
    exact(List.getElem?_eq_some_iff.1 hx.symm).1
   simp[hl,hl2]
  ·have hl2:¬i<k.seats.length:=by
    rw[List.getElem?_eq_none ah] at hx
    have:=List.getElem?_eq_none_iff.1 hx.symm
    omega
   simp[hl,hl2]
 ·simp[hij,ha.seat j hj]
theorem Agree.Zh{i:Nat}(hi:¬R i)(h:Hn)(x:St):Agree R h {h with seats:=h.seats.set i x}:=
 ⟨rfl,rfl,rfl,fun j hj=>by
  have:i≠j:=by rintro rfl;exact hi hj
  simp[this]⟩
def One(R:Nat→Prop)(p:Plan.iE)(h:Hn):Prop:=R 0∨(p.wins.length=1∧h.next=0)
theorem RA(ho:One R p h)(who:Nat)(y:St):One R p (jQ p who h y):=by
 rcases ho with h0|⟨h1,h2⟩
 ·exact .inl h0
 ·refine .inr ⟨h1,?_⟩
  unfold jQ
  split
  ·rename_i hc
   dsimp only
   omega
  ·exact(Dt p who y.1.se _).2.2.1.trans h2
theorem Agree.acT(ha:Agree R h k){who:Nat}(hw:R who):Agree R (iN p who h) (iN p who k):=by
 unfold iN
 have e:=ha.seat who hw
 rw[←e]
 cases hx:h.seats[who]? with
 |none=>exact ha
 |some x=>
  dsimp only
  have hs:=Agree.sends (p:=p) (who:Int) (mD p who x).1.se (ha.set (x:=mD p who x) e)
  unfold jQ
  split
  ·exact⟨hs.now,hs.sched,rfl,hs.seat⟩
  ·exact hs
theorem Agree.aaZ(hc:Closed R p)(ho:One R p h){who:Nat}(hw:¬R who):Agree R h (iN p who h):=by
 unfold iN
 split
 ·rename_i x hx
  have hs:=(Agree.Zh hw h (mD p who x)).trans (Agree.Z9 hc hw (mD p who x).1.se _)
  unfold jQ
  split
  ·rename_i h0
   rcases ho with hr|⟨h1,h2⟩
   ·rw[h0.1] at hw;exact absurd hr hw
   ·exact⟨hs.now,hs.sched,lq,hs.seat⟩
  ·exact hs
 ·exact Agree.refl R h
theorem Agree.owner(ha:Agree R h k)(a b:Int):Agree R {h with owner:=a} {k with owner:=b}:=⟨ha.now,ha.sched,ha.next,ha.seat⟩
theorem Agree.window(ha:Agree R h k):Agree R (dD p h) (dD p k):=by
 have e1:Plan.uW p k.sched k.now=Plan.uW p h.sched h.now:=by rw[ha.sched,ha.now]
 have e2:Plan.qF p k.sched k.now=Plan.qF p h.sched h.now:=by rw[ha.sched,ha.now]
 unfold dD
 rw[e1,e2]
 split
 ·generalize(Plan.qF p h.sched h.now).1.toNat=who
  by_cases hw:R who
  ·have e:=ha.seat who hw
   rw[←e]
   cases hx:h.seats[who]? with
   |none=>exact ha
   |some x=>exact ha.set (x:=vG x) e
  ·have hh:∀g:Hn,Agree R g (match g.seats[who]? with|some x=>{g with seats:=g.seats.set who (vG x)}|none=>g):=by
    intro g
    split
    ·exact Agree.Zh hw g _
    ·exact Agree.refl R g
   exact(hh h).symm.trans (ha.trans (hh k))
 ·exact ha
theorem wV(ho:One R p h):One R p (dD p h):=by
 rcases ho with h0|⟨h1,h2⟩
 ·exact .inl h0
 ·exact .inr ⟨h1,(qP p h).2.2.1.trans h2⟩
theorem Ro(ha:Agree R h k){who:Nat}(hw:R who):yG h who=yG k who:=by
 unfold yG
 rw[ha.seat who hw]
theorem Agree.turn(hc:Closed R p)(ha:Agree R h k)(h1:One R p h)(h2:One R p k)(r:Int×Int):Agree R (iI p h r) (iI p k r):=by
 unfold iI
 split
 ·by_cases hw:R r.1.toNat
  ·rw[Ro ha hw]
   split
   ·exact(ha.acT hw).owner _ _
   ·exact ha.owner _ _
  ·have hh:∀g:Hn,One R p g→Agree R g (if yG g r.1.toNat=true then{iN p r.1.toNat g with owner:=r.1} else{g with owner:=r.1}):=by
    intro g hg
    split
    ·exact(Agree.aaZ hc hg hw).trans ((Agree.refl R _).owner _ _)
    ·exact(Agree.refl R _).owner _ _
   exact(hh h h1).symm.trans (ha.trans (hh k h2))
 ·exact ha.owner _ _
theorem Rz(ho:One R p h)(who:Nat):One R p (iN p who h):=by
 unfold iN
 split
 ·exact RA ho _ _
 ·exact ho
theorem UN(ho:One R p h)(r:Int×Int):One R p (iI p h r):=by
 unfold iI
 split
 ·split
  ·exact(Rz ho r.1.toNat).imp id id
  ·exact ho.imp id id
 ·exact ho.imp id id
theorem U0(ho:One R p h):One R p (iX p h):=by
 have:=UN (wV ho) (Plan.qF p h.sched h.now)
 unfold iX rC
 split
 ·exact this.imp id id
 ·exact this.imp id id
theorem Agree.step(hc:Closed R p)(ha:Agree R h k)(h1:One R p h)(h2:One R p k):Agree R (iX p h) (iX p k):=by
 have e2:Plan.qF p k.sched k.now=Plan.qF p h.sched h.now:=by rw[ha.sched,ha.now]
 unfold iX
 rw[e2]
 have ht:=Agree.turn hc (ha.window (p:=p)) (wV h1) (wV h2) (Plan.qF p h.sched h.now)
 generalize iI p (dD p h) _=g1 at*
 generalize iI p (dD p k) _=g2 at*
 have e3:g2.now=g1.now:=ht.now.symm
 unfold rC
 rw[e3]
 split
 ·exact⟨rfl,ht.next,ht.next,ht.seat⟩
 ·exact⟨rfl,ht.sched,ht.next,ht.seat⟩
theorem FR(ho:One R p h):∀n,One R p (kX p h n)
 |0=>ho
 |n+1=>U0 (FR ho n)
theorem Agree.run(hc:Closed R p)(ha:Agree R h k)(h1:One R p h)(h2:One R p k):∀n,Agree R (kX p h n) (kX p k n)
 |0=>ha
 |n+1=>(Agree.run hc ha h1 h2 n).step hc (FR h1 n) (FR h2 n)
end
end Go.Proofs.YtgmodehldmahiaaGreatDoor
end
section
namespace Go.Proofs.YtgmodehldmahiaaGreatDoor
open Go Go.RowKit Go.Tm
section
variable (k:Kn) (p:Tab.bV) (x:nW)
theorem AX(pid code gone:Int):(mW k pid code gone).now=k.now:=by
 unfold mW
 split
 ·rfl
 ·dsimp only
  split<;>rfl
theorem Cq:(dV k p).1.now=k.now:=by
 unfold dV
 split
 ·rfl
 ·dsimp only
  split<;>rfl
theorem ZH:(sH k p x).1.now=k.now:=by
 unfold sH
 repeat' split
 all_goals rfl
theorem aap:(sN k p x).1.now=k.now:=by
 unfold sN
 repeat' split
 all_goals rfl
theorem Uy:(oq k p x).1.now=k.now:=by
 unfold oq xq ni
 repeat' split
 all_goals rfl
theorem aai:(sM k p x).1.now=k.now:=by
 unfold sM ni
 repeat' split
 all_goals rfl
theorem Wq:(oC k p x).1.now=k.now:=by
 unfold oC
 repeat' split
 all_goals rfl
theorem Z_:(sI k p x).1.now=k.now:=by
 unfold sI BX
 repeat' split
 all_goals rfl
theorem aag:(sK k p x).1.now=k.now:=by
 unfold sK
 repeat' split
 all_goals rfl
theorem A8:(eT k p x).1.now=k.now:=by
 unfold eT
 refine bW (fun r:Kn×Int×Int=>r.1.now=k.now) (fun _=>ZH k p x) fun _=>?_
 refine bW (fun r:Kn×Int×Int=>r.1.now=k.now) (fun _=>rfl) fun _=>?_
 refine bW (fun r:Kn×Int×Int=>r.1.now=k.now) (fun _=>rfl) fun _=>?_
 refine bW (fun r:Kn×Int×Int=>r.1.now=k.now) (fun _=>rfl) fun _=>?_
 refine bW (fun r:Kn×Int×Int=>r.1.now=k.now) (fun _=>aap k p x) fun _=>?_
 refine bW (fun r:Kn×Int×Int=>r.1.now=k.now) (fun _=>Uy k p x) fun _=>?_
 refine bW (fun r:Kn×Int×Int=>r.1.now=k.now) (fun _=>aai k p x) fun _=>?_
 refine bW (fun r:Kn×Int×Int=>r.1.now=k.now) (fun _=>Wq k p x) fun _=>?_
 refine bW (fun r:Kn×Int×Int=>r.1.now=k.now) (fun _=>Z_ k p x) fun _=>?_
 refine bW (fun r:Kn×Int×Int=>r.1.now=k.now) (fun _=>aag k p x) fun _=>?_
 rfl
theorem Kg(r:Kn×Int×Int)(pid:Int):(CQ r pid x).1.now=r.1.now:=by
 unfold CQ
 split<;>rfl
theorem UO:(uU k p x).1.now=k.now:=by
 unfold uU
 dsimp only
 split
 ·rw[Kg,A8]
 ·show(CQ _ _ _).1.now=_
  rw[Kg,A8]
theorem ac7(v e:Int):(bU k p x v e).now=k.now:=rfl
theorem aaI:(vI k p x).1.now=k.now:=by
 unfold vI
 repeat' split
 ·rfl
 ·rfl
 ·exact AX ..
 ·rw[ac7];exact AX ..
theorem TI:(zZ k p x).1.now=k.now:=by
 unfold zZ
 refine bW (fun r:Kn×Bool=>r.1.now=k.now) (fun _=>AX ..) fun _=>?_
 refine bW (fun r:Kn×Bool=>r.1.now=k.now) (fun _=>rfl) fun _=>?_
 refine bW (fun r:Kn×Bool=>r.1.now=k.now) (fun _=>bW (fun r:Kn×Bool=>r.1.now=k.now) (fun _=>rfl) fun _=>rfl) fun _=>?_
 refine bW (fun r:Kn×Bool=>r.1.now=k.now) (fun _=>bW (fun r:Kn×Bool=>r.1.now=k.now) (fun _=>rfl) fun _=>rfl) fun _=>?_
 refine bW (fun r:Kn×Bool=>r.1.now=k.now) (fun _=>rfl) fun _=>?_
 refine bW (fun r:Kn×Bool=>r.1.now=k.now) (fun _=>rfl) fun _=>?_
 refine bW (fun r:Kn×Bool=>r.1.now=k.now) (fun _=>aaI ..) fun _=>?_
 refine bW (fun r:Kn×Bool=>r.1.now=k.now) (fun _=>Cq ..) fun _=>?_
 refine bW (fun r:Kn×Bool=>r.1.now=k.now) (fun _=>bW (fun r:Kn×Bool=>r.1.now=k.now) (fun _=>Cq ..) fun _=>rfl) fun _=>?_
 refine bW (fun r:Kn×Bool=>r.1.now=k.now) (fun _=>bW (fun r:Kn×Bool=>r.1.now=k.now) (fun _=>rfl) fun _=>rfl) fun _=>?_
 exact UO ..
theorem aaQ:(n_ k).now=k.now:=by
 unfold n_
 split
 ·rfl
 ·unfold IU
  repeat' split
  ·rfl
  ·show(zZ _ _ _).1.now=_
   rw[TI];rfl
  ·rw[TI];rfl
  ·exact AX ..
theorem UJ(n:Int):(yE k n).now=k.now:=by
 unfold yE
 split<;>rfl
theorem UH:(yD k p).now=k.now:=by
 unfold yD
 repeat' split
 ·show(CQ _ _ _).1.now=_
  rw[Kg,A8]
 ·rw[Kg,A8]
 ·rfl
theorem QI(l:List Int):∀k:Kn,(jF k l).now=k.now:=by
 induction l with
 |nil=>intro k;rfl
 |cons n r ih=>intro k;exact(ih _).trans (UJ k n)
theorem QH(l:List Tab.bV):∀k:Kn,(qx k l).now=k.now:=by
 induction l with
 |nil=>intro k;rfl
 |cons n r ih=>intro k;exact(ih _).trans (UH k n)
theorem UF:(jE k).now=k.now:=by
 unfold jE
 rw[QH,QI]
 rfl
theorem ZY(h:k.now<18446744073709551615):(jI k).now=k.now+1:=by
 have e:(if k.gone=0 then n_ (jE (gF k)) else gF k).now=k.now:=by
  split
  ·rw[aaQ,UF];rfl
  ·rfl
 unfold jI vP
 dsimp only
 rw[e]
 omega
theorem Ns(mem:Int)(im:List ByteArray)(ou ins:List bf.Ch)(now:Int):(jk mem im ou ins now).now=now:=by
 have e:(wF (kI mem im ou ins now)).1.now=now:=by
  unfold wF
  split
  ·exact Cq ..
  ·rfl
 unfold jk
 split
 ·exact e
 ·exact e
theorem Jf(x:DN)(st bo:Int):(dU x k st bo).1.now=k.now:=by
 unfold dU
 repeat' split
 ·rfl
 ·rfl
 ·exact Ns ..
 ·rfl
theorem Wo(x:DN)(st bo:Int)(h:k.now<18446744073709551615):(lC x k st bo).1.now=if st=1 then k.now+1 else k.now:=by
 unfold lC
 split
 ·rw[Jf,ZY k h]
 ·rfl
theorem RS(n:Int)(body:ByteArray)(now:Int):(ji k n body now).now=k.now:=by
 unfold ji
 split<;>rfl
theorem Oi(n:Int)(body:ByteArray)(now:Int):(ji k n body now).want=k.want:=by
 unfold ji
 split<;>rfl
end
end Go.Proofs.YtgmodehldmahiaaGreatDoor
end
section
namespace Go.Proofs.YtgmodehldmahiaaGreatDoor
open Go Go.RowKit Go.Tm
def iZ(a e c:Nat)(h:Hn):Prop:=∀x∈h.seats,Bd a e c x.1
section
variable {a e c:Nat} {h:Hn} {p:Plan.iE}
theorem iZ.arr(hb:iZ a e c h)(dst port:Int){body:ByteArray}(hs:body.size≤9223372036854775807):iZ a e c (qZ h dst port body):=by
 unfold qZ
 split
 ·rename_i x hx
  intro y hy
  rcases List.mem_or_eq_of_mem_set hy with hy|rfl
  ·exact hb y hy
  ·exact(hb x (List.mem_of_getElem? hx)).arrive _ hs (hb x (List.mem_of_getElem? hx)).now
 ·exact hb
theorem iZ.send(hb:iZ a e c h)(who:Int){m:Ms}(hs:m.2.size≤9223372036854775807):iZ a e c (jR p who h m):=by
 unfold jR
 split
 ·exact hb.arr _ _ hs
 ·exact hb
theorem iZ.sends(who:Int)(l:List Ms):∀{h:Hn},iZ a e c h→(∀m∈l,m.2.size≤9223372036854775807)→iZ a e c (gL p who h l):=by
 induction l with
 |nil=>intro h hb _;exact hb
 |cons m r ih=>intro h hb hl;exact ih (hb.send who (hl m aI)) (fun m' hm=>hl m' (by simp[hm]))
theorem iZ.set(hb:iZ a e c h)(i:Nat){y:St}(hy:Bd a e c y.1):iZ a e c {h with seats:=h.seats.set i y}:=by
 intro z hz
 rcases List.mem_or_eq_of_mem_set hz with hz|rfl
 ·exact hb z hz
 ·exact hy
theorem iZ.mono{a' e' c':Nat}(hb:iZ a e c h)(h1:a≤a')(h2:e≤e')(h3:c≤c'):iZ a' e' c' h:=fun x hx=>(hb x hx).mono h1 h2 h3
theorem uX(hp:Plan.dW p)(i:Nat):wfi (partAt p i).1:=by
 unfold partAt
 rw[List.getD_eq_getElem?_getD]
 cases hb:p.parts[i]? with
 |none=>exact lM.2 ⟨aB,aB⟩
 |some x=>
  have:=hp.part x (List.mem_of_getElem? hb)
  unfold Plan.j_ at this
  exact lM.2 ⟨by simp only[Option.getD_some];omega,by simp only[Option.getD_some];omega⟩
theorem iZ.cycle(hp:Plan.dW p)(hb:iZ a e 8 h)(who:Nat):iZ (a+2*e+24) (e+1) 8 (iN p who h):=by
 unfold iN
 split
 ·rename_i x hx
  have hy:Bd (a+2*e+24) (e+1) 8 (mD p who x).1:=(hb x (List.mem_of_getElem? hx)).cycle ah (uX hp who) _ _
  have h1:=(hb.mono (a':=a+2*e+24) (e':=e+1) (c':=8) ah ah ah).set who hy
  have h2:=iZ.sends (p:=p) (who:Int) (mD p who x).1.se h1 (fun m hm=>(hy.ses m hm).2)
  unfold jQ
  split
  ·exact h2
  ·exact h2
 ·exact hb.mono ah ah ah
theorem iZ.window(hb:iZ a e c h):iZ a e c (dD p h):=by
 unfold dD
 split
 ·split
  ·rename_i x hx
   exact hb.set _ (y:=vG x) (hb x (List.mem_of_getElem? hx))
  ·exact hb
 ·exact hb
theorem iZ.step(hp:Plan.dW p)(hb:iZ a e 8 h):iZ (a+2*e+24) (e+1) 8 (iX p h):=by
 have ht:iZ (a+2*e+24) (e+1) 8 (iI p (dD p h) (Plan.qF p h.sched h.now)):=by
  unfold iI
  split
  ·split
   ·exact(hb.window (p:=p)).cycle hp _
   ·exact(hb.window (p:=p)).mono ah ah ah
  ·exact(hb.window (p:=p)).mono ah ah ah
 unfold iX rC
 split
 ·exact ht
 ·exact ht
theorem zm(h:Hn)(r:Int×Int):(iI p h r).now=h.now∧(iI p h r).sched=h.sched∧(iI p h r).seats.length=h.seats.length:=by
 unfold iI
 split
 ·split
  ·exact N_ ..
  ·exact⟨rfl,rfl,rfl⟩
 ·exact⟨rfl,rfl,rfl⟩
theorem Cg(h:Hn):(iX p h).now=h.now+1∧(iX p h).seats.length=h.seats.length:=by
 obtain⟨a1,a2,a3⟩:=zm (p:=p) (dD p h) (Plan.qF p h.sched h.now)
 obtain⟨b1,b2,b3,b4⟩:=qP p h
 unfold iX rC
 split
 ·exact⟨by dsimp only;rw[a1,b1],by dsimp only;rw[a3,b4]⟩
 ·exact⟨by dsimp only;rw[a1,b1],by dsimp only;rw[a3,b4]⟩
end
structure Gd(p:Plan.iE)(n:Nat)(h:Hn):Prop where
 len:h.seats.length=p.parts.length
 now:h.now=n
 bd:iZ (n*(n+40)+2) n 8 h
theorem Gd.step{p:Plan.iE}{n:Nat}{h:Hn}(hp:Plan.dW p)(hg:Gd p n h):Gd p (n+1) (iX p h):=by
 obtain⟨a1,a2⟩:=Cg (p:=p) h
 refine⟨a2.trans hg.len,by rw[a1,hg.now];omega,(hg.bd.step hp).mono ?_ (Nat.le_refl _) (Nat.le_refl _)⟩
 have e1:(n+1)*(n+1+40)=n*(n+40)+n+(n+41):=by
  simp only[Nat.add_mul,Nat.mul_add,Nat.mul_one,Nat.one_mul];omega
 omega
theorem Gd.run{p:Plan.iE}{n:Nat}{h:Hn}(hp:Plan.dW p)(hg:Gd p n h):∀m,Gd p (n+m) (kX p h m)
 |0=>hg
 |m+1=>(Gd.run hp hg m).step hp
theorem aa6{n:Nat}(hn:n≤2000):n*(n+40)+2≤5000000:=by
 have:=Nat.mul_le_mul hn (Nat.add_le_add_right hn 40)
 omega
theorem iZ.ajx{a e c:Nat}{h:Hn}{p:Plan.iE}(hp:Plan.dW p)(hb:iZ a e c h)(hl:h.seats.length=p.parts.length)(ha:a≤1000000000)(he:e≤1000000000)(hc:c≤1000000000){n:Nat}(hn:n≤1000000):agd p h n:=
 ⟨fun x hx=>(hb x hx).fit ha he hc,by have:=hp.ze;omega,hn,by have:=hp.B_;omega,fun ch hch=>by
  have:=hp.chans ch hch
  unfold Plan.iW at this
  rw[hl]
  omega⟩
section
variable {p:Plan.iE} {h:Hn}
def clock(h:Hn)(i:Nat):Option Int:=(h.seats[i]?).map (fun x=>x.1.now)
theorem WB(dst port:Int)(body:ByteArray)(i:Nat):clock (qZ h dst port body) i=clock h i:=by
 unfold clock qZ
 split
 ·rename_i x hx
  dsimp only
  rw[List.getElem?_set]
  split
  ·rename_i hd
   rw[←hd,hx]
   split
   ·simp[RS]
   ·rename_i hn
    have:=(List.getElem?_eq_some_iff.1 hx).1
    omega
  ·rfl
 ·rfl
theorem Dr(who:Int)(l:List Ms)(i:Nat):∀h:Hn,clock (gL p who h l) i=clock h i:=by
 induction l with
 |nil=>intro h;rfl
 |cons m r ih=>
  intro h
  refine(ih (jR p who h m)).trans ?_
  unfold jR
  split
  ·exact WB ..
  ·rfl
theorem DI(who i:Nat):clock (iN p who h) i=if i=who then(h.seats[i]?).map (fun x=>(mD p who x).1.now) else clock h i:=by
 unfold iN
 split
 ·rename_i x hx
  have e:clock (jQ p who h (mD p who x)) i=clock {h with seats:=h.seats.set who (mD p who x)} i:=by
   unfold jQ
   split
   ·exact Dr _ _ _ _
   ·exact Dr _ _ _ _
  rw[e]
  unfold clock
  dsimp only
  by_cases hi:i=who
  ·subst hi
   rw[if_pos rfl,hx]
   have:=(List.getElem?_eq_some_iff.1 hx).1
   simp[this]
  ·rw[if_neg hi,List.getElem?_set,if_neg (fun e=>hi e.symm)]
 ·rename_i hx
  split
  ·rename_i hi;subst hi;unfold clock;rw[hx];rfl
  ·rfl
theorem Gx(i:Nat):∃f:St→St,(dD p h).seats[i]?=(h.seats[i]?).map f∧∀x,(f x).1=x.1∧(x.2.1≠2→f x=x):=by
 have hw:∀x,(vG x).1=x.1∧(x.2.1≠2→vG x=x):=fun x=>⟨rfl,fun h2=>by unfold vG;rw[if_neg h2]⟩
 have hid:∀o:Option St,o=o.map id:=fun o=>by simp
 unfold dD
 split
 ·split
  ·rename_i x hx
   by_cases hi:(Plan.qF p h.sched h.now).1.toNat=i
   ·refine⟨vG,?_,hw⟩
    rw[hi] at hx⊢
    have:=(List.getElem?_eq_some_iff.1 hx).1
    dsimp only
    rw[List.getElem?_set,if_pos rfl,if_pos this,hx]
    rfl
   ·refine⟨id,?_,fun x=>⟨rfl,fun _=>rfl⟩⟩
    dsimp only
    rw[List.getElem?_set,if_neg hi]
    exact hid _
  ·exact⟨id,hid _,fun x=>⟨rfl,fun _=>rfl⟩⟩
 ·exact⟨id,hid _,fun x=>⟨rfl,fun _=>rfl⟩⟩
theorem Ba(hb:∀x∈h.seats,x.1.now<18446744073709551615){i:Nat}{x y:St}(hx:h.seats[i]?=some x)(hy:(iX p h).seats[i]?=some y):
  (y.1.now=x.1.now∨y.1.now=x.1.now+1)∧
  (¬((Plan.qF p h.sched h.now).2=2∧i=(Plan.qF p h.sched h.now).1.toNat)→y.1.now=x.1.now)∧
  ((Plan.qF p h.sched h.now).2=2→i=(Plan.qF p h.sched h.now).1.toNat→x.2.1=1→y.1.now=x.1.now+1)∧
  (x.2.1≠1→x.2.1≠2→y.1.now=x.1.now):=by
 obtain⟨f,hf,hf2⟩:=Gx (p:=p) (h:=h) i
 rw[hx] at hf
 simp only[Option.map_some] at hf
 have hlt:=hb x (List.mem_of_getElem? hx)
 generalize hr:Plan.qF p h.sched h.now=r at*
 have hcl:clock (iI p (dD p h) r) i=some y.1.now:=by
  have:(iX p h).seats=(iI p (dD p h) r).seats:=by
   unfold iX rC
   rw[hr]
   split<;>rfl
  unfold clock
  rw[←this,hy]
  rfl
 have hcw:clock (dD p h) i=some x.1.now:=by
  unfold clock;rw[hf];simp[(hf2 x).1]
 unfold iI at hcl
 by_cases h2:r.2=2
 ·rw[if_pos h2] at hcl
  by_cases hi:i=r.1.toNat
  ·have hg:yG (dD p h) r.1.toNat=decide ((f x).2.1=1):=by
    unfold yG;rw[←hi,hf]
   rw[hg] at hcl
   by_cases h1:(f x).2.1=1
   ·rw[if_pos rH] at hcl
    have hcc:clock (iN p r.1.toNat (dD p h)) i=some y.1.now:=hcl
    rw[DI,if_pos hi,hf] at hcc
    simp only[Option.map_some,Option.some.injEq] at hcc
    unfold mD at hcc
    rw[Wo _ _ _ _ (by rw[(hf2 x).1];exact hlt),if_pos h1,(hf2 x).1] at hcc
    refine⟨.inr hcc.symm,fun hn=>absurd ⟨h2,hi⟩ hn,fun _ _ _=>hcc.symm,fun n1 n2=>?_⟩
    rw[(hf2 x).2 n2] at h1
    exact absurd h1 n1
   ·rw[if_neg rH] at hcl
    have hcc:clock (dD p h) i=some y.1.now:=hcl
    rw[hcw] at hcc
    simp only[Option.some.injEq] at hcc
    refine⟨.inl hcc.symm,fun hn=>hcc.symm,fun _ _ e1=>?_,fun _ _=>hcc.symm⟩
    rw[(hf2 x).2 ah] at h1
    exact absurd e1 h1
  ·have hcc:clock (dD p h) i=some y.1.now:=by
    split at hcl
    ·have:clock (iN p r.1.toNat (dD p h)) i=some y.1.now:=hcl
     rwa[DI,if_neg hi] at this
    ·exact hcl
   rw[hcw] at hcc
   simp only[Option.some.injEq] at hcc
   exact⟨.inl hcc.symm,fun _=>hcc.symm,fun _ e=>absurd e hi,fun _ _=>hcc.symm⟩
 ·rw[if_neg h2] at hcl
  have hcc:clock (dD p h) i=some y.1.now:=hcl
  rw[hcw] at hcc
  simp only[Option.some.injEq] at hcc
  exact⟨.inl hcc.symm,fun _=>hcc.symm,fun e=>absurd e h2,fun _ _=>hcc.symm⟩
theorem QT:(iX p h).owner=if(Plan.qF p h.sched h.now).2=2 then(Plan.qF p h.sched h.now).1 else-1:=by
 unfold iX rC iI
 repeat' split
 all_goals rfl
theorem Gc:((iX p h).sched≠h.sched→(h.now+1)%p.frame=0)∧((h.now+1)%p.frame=0→(iX p h).sched=(iX p h).next):=by
 obtain⟨a1,a2,a3⟩:=zm (p:=p) (dD p h) (Plan.qF p h.sched h.now)
 obtain⟨b1,b2,b3,b4⟩:=qP p h
 unfold iX rC
 rw[a1,b1]
 split
 ·rename_i hc;exact⟨fun _=>hc,fun _=>rfl⟩
 ·rename_i hc
  refine⟨fun hn=>absurd ?_ hn,fun h0=>absurd h0 hc⟩
  dsimp only
  rw[a2,b2]
end
end Go.Proofs.YtgmodehldmahiaaGreatDoor
end
