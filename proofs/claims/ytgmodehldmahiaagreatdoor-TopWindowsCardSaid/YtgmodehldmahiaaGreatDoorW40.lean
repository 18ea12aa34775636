/- Part 40 of 50 of the proof of topWindows_holds. Conditions: see each. -/
import Derived.Test.YtgmodehldmahiaaGreatDoorW14
import Derived.Test.YtgmodehldmahiaaGreatDoorW39
import Derived.Test.YtgmodehldmahiaaGreatDoorW11
import Derived.Test.YtgmodehldmahiaaGreatDoorW12
import Derived.Test.YtgmodehldmahiaaGreatDoorW09
set_option linter.unusedVariables false
set_option linter.unusedSimpArgs false
set_option maxRecDepth 8192
set_option maxHeartbeats 40000000
section
namespace Go.Proofs.YtgmodehldmahiaaGreatDoor
open Go Go.RowKit Go.Tm
abbrev St:=Kn×Int×Int
def R5(s:Ks)(x:St):Value:=iM s x.1 x.2.1 x.2.2
def ql(ss:List Ks)(xs:List St):List Value:=List.zipWith R5 ss xs
theorem ku{ss:List Ks}{xs:List St}(h:ss.length=xs.length):(ql ss xs).length=xs.length:=by simp[ql,h]
theorem kD{ss:List Ks}{xs:List St}{i:Nat}{s:Ks}{x:St}(h1:ss[i]?=some s)(h2:xs[i]?=some x):(ql ss xs)[i]?=some (R5 s x):=by
 simp[ql,List.getElem?_zipWith,h1,h2]
theorem MQ{ss:List Ks}{xs:List St}(h:ss.length=xs.length)(i:Nat)(s:Ks)(x:St):(ql ss xs).set i (R5 s x)=ql (ss.set i s) (xs.set i x):=by
 apply List.ext_getElem?
 intro j
 simp only[ql,List.getElem?_set,List.getElem?_zipWith,List.length_zipWith]
 by_cases hij:i=j
 ·subst hij
  by_cases hi:i<xs.length
  ·simp[h,hi]
  ·simp[h,hi]
 ·simp[hij]
structure Hs where
 sv:Value
 ss:List Ks
 av:Value
 rows:List Value
 got:List (List Value)
structure Hn where
 now:Int
 sched:Int
 next:Int
 seats:List St
 owner:Int
@[irreducible] def hC(pv wv cv iv:Value)(p:Plan.iE)(s:Hs)(h:Hn):Array Value:=
  #[pv,.int .i64 p.frame,wv,cv,iv,.int .u64 h.now,.int .i64 h.sched,.int .i64 h.next,s.sv,s.av,.int .i64 h.owner]
structure MR(w:World)(s:Hs)(h:Hn)(n:Nat):Prop where
 sv:Sl w true 19 s.sv (ql s.ss h.seats)
 nX:s.ss.length=h.seats.length
 kr:∀(i:Nat) (u:Ks) (x:St),s.ss[i]?=some u→h.seats[i]?=some x→KR w u x.1
 av:Sl w false 1 s.av s.rows
 rlen:s.rows.length=h.seats.length
 Pn:s.got.length=h.seats.length
 row:∀(i:Nat) (v:Value) (l:List Value),s.rows[i]?=some v→s.got[i]?=some l→Sl w true 3 v l∧l.length≤n
structure gG(B:Nat)(s:Hs)(h:Hn):Prop where
 sv:Apart B s.sv (ql s.ss h.seats)
 kr:∀(i:Nat) (u:Ks) (x:St),s.ss[i]?=some u→h.seats[i]?=some x→iL B u x.1
 av:Apart B s.av s.rows
 row:∀(i:Nat) (v:Value) (l:List Value),s.rows[i]?=some v→s.got[i]?=some l→Apart B v l
theorem MR.below{w w':World}{s:Hs}{h:Hn}{n:Nat}(hr:MR w s h n)(hb:Below w.heap.size w w'):MR w' s h n:=
 ⟨hr.sv.below hb,hr.nX,fun i u x h1 h2=>(hr.kr i u x h1 h2).below hb,hr.av.below hb,hr.rlen,hr.Pn,fun i v l h1 h2=>⟨(hr.row i v l h1 h2).1.below hb,(hr.row i v l h1 h2).2⟩⟩
theorem MR.away{w:World}{s:Hs}{h:Hn}{n:Nat}(hr:MR w s h n){B:Nat}(hB:w.heap.size≤B):gG B s h:=
 ⟨hr.sv.apart hB,fun i u x h1 h2=>(hr.kr i u x h1 h2).away hB,hr.av.apart hB,fun i v l h1 h2=>(hr.row i v l h1 h2).1.apart hB⟩
theorem MR.bL{W W':World}{R:Nat}{s:Hs}{h:Hn}{n:Nat}{cs:Array Value}{t:TypeId}{ks:List Nat}(hr:MR W s h n)(ha:gG R s h)(hb:aC W R cs t)(hk:cs.toList.map kind=ks)(hsz:cs.size<26)
  (h1:uY ks [1,2,2,3]=true)(h2:uY ks [1,4]=true)(h3:uY ks [3,4]=true)(hg:W.grownBy W' (some R)):MR W' s h n:=
 ⟨hr.sv.bC hg ha.sv,hr.nX,fun i u x e1 e2=>(hr.kr i u x e1 e2).bL (ha.kr i u x e1 e2) hb hk hsz h1 h2 h3 hg,hr.av.bC hg ha.av,hr.rlen,hr.Pn,fun i v l e1 e2=>⟨(hr.row i v l e1 e2).1.bC hg (ha.row i v l e1 e2),(hr.row i v l e1 e2).2⟩⟩
theorem jK(pv wv cv iv:Value)(p:Plan.iE)(s:Hs)(h:Hn):hC pv wv cv iv p s h=#[pv,.int .i64 p.frame,wv,cv,iv,.int .u64 h.now,.int .i64 h.sched,.int .i64 h.next,s.sv,s.av,.int .i64 h.owner]:=by unfold hC;rfl
theorem jL(pv wv cv iv:Value)(p:Plan.iE)(s:Hs)(h:Hn):(hC pv wv cv iv p s h).size=11:=by rw[jK];rfl
theorem MR.Ao{w:World}{s:Hs}{h:Hn}{n:Nat}(hr:MR w s h n){i:Nat}{u:Ks}{x:St}{v:Value}(hv:Sl w true 19 v ((ql s.ss h.seats).set i (R5 u x)))(hk:KR w u x.1):
  MR w {s with sv:=v,ss:=s.ss.set i u} {h with seats:=h.seats.set i x} n:=
 ⟨by rw[MQ hr.nX] at hv;exact hv,by simp[hr.nX],fun j u' x' h1 h2=>by
  dsimp only at h1 h2
  rw[List.getElem?_set] at h1 h2
  by_cases hij:i=j
  ·exact Y2
  ·rw[if_neg hij] at h1 h2
   exact hr.kr j u' x' h1 h2,hr.av,by simp[hr.rlen],by simp[hr.Pn],hr.row⟩
theorem gG.Ao{B:Nat}{s:Hs}{h:Hn}(ha:gG B s h)(hl:s.ss.length=h.seats.length){i:Nat}{u:Ks}{x:St}{v:Value}(hv:Apart B v ((ql s.ss h.seats).set i (R5 u x)))(hk:iL B u x.1):
  gG B {s with sv:=v,ss:=s.ss.set i u} {h with seats:=h.seats.set i x}:=
 ⟨by rw[MQ hl] at hv;exact hv,fun j u' x' h1 h2=>by
  dsimp only at h1 h2
  rw[List.getElem?_set] at h1 h2
  by_cases hij:i=j
  ·exact Y2
  ·rw[if_neg hij] at h1 h2
   exact ha.kr j u' x' h1 h2,ha.av,ha.row⟩
theorem MR.setRow{w:World}{s:Hs}{h:Hn}{n m:Nat}(hr:MR w s h n)(hnm:n≤m){i:Nat}{v u:Value}{l:List Value}(hv:Sl w false 1 v (s.rows.set i u))(hu:Sl w true 3 u l)(hl:l.length≤m):
  MR w {s with av:=v,rows:=s.rows.set i u,got:=s.got.set i l} h m:=
 ⟨hr.sv,hr.nX,hr.kr,hv,by simp[hr.rlen],by simp[hr.Pn],fun j u' l' h1 h2=>by
  dsimp only at h1 h2
  rw[List.getElem?_set] at h1 h2
  by_cases hij:i=j
  ·subst hij
   rw[if_pos rfl] at h1 h2
   split at h1<;>cases h1
   split at h2<;>cases h2
   exact⟨hu,hl⟩
  ·rw[if_neg hij] at h1 h2
   exact⟨(hr.row j u' l' h1 h2).1,Nat.le_trans (hr.row j u' l' h1 h2).2 hnm⟩⟩
theorem gG.setRow{B:Nat}{s:Hs}{h:Hn}(ha:gG B s h){i:Nat}{v u:Value}{l:List Value}(hv:Apart B v (s.rows.set i u))(hu:Apart B u l):
  gG B {s with av:=v,rows:=s.rows.set i u,got:=s.got.set i l} h:=
 ⟨ha.sv,ha.kr,hv,fun j u' l' h1 h2=>by
  dsimp only at h1 h2
  rw[List.getElem?_set] at h1 h2
  by_cases hij:i=j
  ·subst hij
   rw[if_pos rfl] at h1 h2
   split at h1<;>cases h1
   split at h2<;>cases h2
   exact hu
  ·rw[if_neg hij] at h1 h2
   exact ha.row j u' l' h1 h2⟩
theorem MR.mono{w:World}{s:Hs}{h:Hn}{n m:Nat}(hr:MR w s h n)(hnm:n≤m):MR w s h m:=
 ⟨hr.sv,hr.nX,hr.kr,hr.av,hr.rlen,hr.Pn,fun i v l h1 h2=>⟨(hr.row i v l h1 h2).1,Nat.le_trans (hr.row i v l h1 h2).2 hnm⟩⟩
def tO:List Nat:=[5,1,5,5,5,3,1,1,5,5,1]
theorem oI{w:World}{pv wv cv iv:Value}{p:Plan.iE}{s:Hs}{h:Hn}{n:Nat}(hp:Plan.gq w pv wv cv p)(hi:kind iv=5)(hr:MR w s h n):
  (hC pv wv cv iv p s h).toList.map kind=tO:=by
 obtain⟨vs,hw,_⟩:=hp.wins.row
 rw[jK]
 simp only[List.map_cons,List.map_nil,jr hp.parts,jr hw,jr hp.chans,hi,jr hr.sv,jr hr.av]
 rfl
theorem nR{v:Value}(h:kind v=5):v.oneCell'=true:=by
 cases v<;>first|rfl|(exfalso;revert h;simp[kind])
theorem d_:Ty Tryz.prog 36 11 true:=⟨aj,aj,aB,aj⟩
theorem mJ{w:World}{pv wv cv iv:Value}{p:Plan.iE}{s:Hs}{h:Hn}{n:Nat}(hp:Plan.gq w pv wv cv p)(hi:kind iv=5)(hr:MR w s h n):Val true 11 (.agg (hC pv wv cv iv p s h)):=by
 obtain⟨vs,hw,_⟩:=hp.wins.row
 have h1:=nR (jr hp.parts)
 have h2:=nR (jr hw)
 have h3:=nR (jr hp.chans)
 have h4:=nR hi
 have h5:=nR (jr hr.sv)
 have h6:=nR (jr hr.av)
 refine⟨_,rfl,jL ..,?_⟩
 rw[jK]
 intro c hc
 simp at hc
 rcases hc with rfl|rfl|rfl|rfl|rfl|rfl|rfl|rfl|rfl|rfl|rfl<;>first|assumption|rfl
theorem Dm(pv wv cv iv:Value)(p:Plan.iE)(s:Hs)(h:Hn):(hC pv wv cv iv p s h)[0]?=some (pv):=by rw[jK];rfl
theorem Dl(pv wv cv iv:Value)(p:Plan.iE)(s:Hs)(h:Hn):(hC pv wv cv iv p s h)[1]?=some (.int .i64 p.frame):=by rw[jK];rfl
theorem Dk(pv wv cv iv:Value)(p:Plan.iE)(s:Hs)(h:Hn):(hC pv wv cv iv p s h)[2]?=some (wv):=by rw[jK];rfl
theorem Dj(pv wv cv iv:Value)(p:Plan.iE)(s:Hs)(h:Hn):(hC pv wv cv iv p s h)[3]?=some (cv):=by rw[jK];rfl
theorem Di(pv wv cv iv:Value)(p:Plan.iE)(s:Hs)(h:Hn):(hC pv wv cv iv p s h)[4]?=some (iv):=by rw[jK];rfl
theorem Aj(pv wv cv iv:Value)(p:Plan.iE)(s:Hs)(h:Hn):(hC pv wv cv iv p s h)[5]?=some (.int .u64 h.now):=by rw[jK];rfl
theorem Dh(pv wv cv iv:Value)(p:Plan.iE)(s:Hs)(h:Hn):(hC pv wv cv iv p s h)[6]?=some (.int .i64 h.sched):=by rw[jK];rfl
theorem Df(pv wv cv iv:Value)(p:Plan.iE)(s:Hs)(h:Hn):(hC pv wv cv iv p s h)[7]?=some (.int .i64 h.next):=by rw[jK];rfl
theorem Dc(pv wv cv iv:Value)(p:Plan.iE)(s:Hs)(h:Hn):(hC pv wv cv iv p s h)[8]?=some (s.sv):=by rw[jK];rfl
theorem Db(pv wv cv iv:Value)(p:Plan.iE)(s:Hs)(h:Hn):(hC pv wv cv iv p s h)[9]?=some (s.av):=by rw[jK];rfl
theorem wQ(pv wv cv iv:Value)(p:Plan.iE)(s:Hs)(h:Hn):(hC pv wv cv iv p s h)[10]?=some (.int .i64 h.owner):=by rw[jK];rfl
theorem ajk(pv wv cv iv:Value)(p:Plan.iE)(s:Hs)(h:Hn)(x:Int):(hC pv wv cv iv p s h).setIfInBounds 5 (.int .u64 x)=hC pv wv cv iv p s {h with now:=x}:=by rw[jK,jK];rfl
theorem ajj(pv wv cv iv:Value)(p:Plan.iE)(s:Hs)(h:Hn)(x:Int):(hC pv wv cv iv p s h).setIfInBounds 6 (.int .i64 x)=hC pv wv cv iv p s {h with sched:=x}:=by rw[jK,jK];rfl
theorem aji(pv wv cv iv:Value)(p:Plan.iE)(s:Hs)(h:Hn)(x:Int):(hC pv wv cv iv p s h).setIfInBounds 7 (.int .i64 x)=hC pv wv cv iv p s {h with next:=x}:=by rw[jK,jK];rfl
theorem Qs(pv wv cv iv:Value)(p:Plan.iE)(s:Hs)(h:Hn)(x:Int):(hC pv wv cv iv p s h).setIfInBounds 10 (.int .i64 x)=hC pv wv cv iv p s {h with owner:=x}:=by rw[jK,jK];rfl
theorem ae9(pv wv cv iv:Value)(p:Plan.iE)(s:Hs)(h:Hn)(v:Value)(ss:List Ks)(l:List St):(hC pv wv cv iv p s h).setIfInBounds 8 v=hC pv wv cv iv p {s with sv:=v,ss:=ss} {h with seats:=l}:=by rw[jK,jK];rfl
theorem ajh(pv wv cv iv:Value)(p:Plan.iE)(s:Hs)(h:Hn)(v:Value)(r:List Value)(g:List (List Value)):(hC pv wv cv iv p s h).setIfInBounds 9 v=hC pv wv cv iv p {s with av:=v,rows:=r,got:=g} h:=by rw[jK,jK];rfl
end Go.Proofs.YtgmodehldmahiaaGreatDoor
end
section
namespace Go.Proofs.YtgmodehldmahiaaGreatDoor
open Go Go.RowKit Go.Tm
attribute [local go_sem] fB fA fu dR dA dQ dP dO dN dM dL dK dJ dI dH dG dF iq ig h_ g_ gZ gY gX gN gW gV fF fE fD fC eY eX eU
theorem MN:Ty Tryz.prog 175 3 true:=⟨aj,aj,aB,aj⟩
theorem UM:∃i,TyM Tryz.prog 175 3 true i (.agg #[.int .u64 0,.int .i64 0,.string ⟨#[]⟩]) 32 172:=by
 have h:(Tryz.prog.info? 175).map (fun i=>(i.zero,i.size,i.bytes))=some (some (.agg #[.int .u64 0,.int .i64 0,.string ⟨#[]⟩]),3,32):=aj
 obtain⟨i,hi,hz,hs,hb⟩:=info_parts h
 exact⟨i,MN,Tryz.underlying172,hi,hz,hs,hb,rfl⟩
theorem Gs(v:Value)(xs:List Value)(w:World)(hv:Sl w true 3 v xs):Calls Tryz.prog 81 #[v] w fun e w'=>(∃ao,e=.returned (.slice ao xs.length xs.length)∧Sl w true 3 (.slice ao xs.length xs.length) xs)∧w=w':=by
 obtain⟨ao,hr,hs⟩:=Sl.um (m:=xs.length) MN Tryz.underlying172 hv (xs.length:Int) rfl (Nat.le_refl _)
 rw[List.take_length] at hs
 obtain⟨a,cap,rfl,hl⟩:=hv.shape
 have HS:=Lib.hid hs
 clear hs hv
 go_enter Tryz.func81,Tryz.ntmps81
 exact Sq
abbrev TM(t port:Int)(body:ByteArray):Value:= .agg #[.int .u64 t,.int .i64 port,.string body]
noncomputable def qZ(h:Hn)(dst port:Int)(body:ByteArray):Hn:=
 match h.seats[dst.toNat]? with
 |some x=>{h with seats:=h.seats.set dst.toNat (ji x.1 port body x.1.now,x.2)}
 |none=>h
noncomputable def jR(p:Plan.iE)(who:Int)(h:Hn)(m:Ms):Hn:=
 if(bf.toS p.chans who m.1).2.2=true then qZ h (bf.toS p.chans who m.1).1 (bf.toS p.chans who m.1).2.1 m.2 else h
noncomputable def gL(p:Plan.iE)(who:Int)(h:Hn)(l:List Ms):Hn:=l.foldl (jR p who) h
theorem abe(h:Hn)(dst port:Int)(body:ByteArray):(qZ h dst port body).seats.length=h.seats.length:=by
 unfold qZ;split
 ·simp
 ·rfl
theorem U7(p:Plan.iE)(who:Int)(h:Hn)(m:Ms):(jR p who h m).seats.length=h.seats.length:=by
 unfold jR;split
 ·exact abe ..
 ·rfl
theorem NQ{p:Plan.iE}{who:Int}{h:Hn}{l:List Ms}{i:Nat}{m:Ms}(hm:l[i]?=some m):gL p who h (l.take (i+1))=jR p who (gL p who h (l.take i)) m:=by
 obtain⟨hl,rfl⟩:=List.getElem?_eq_some_iff.1 hm
 unfold gL
 rw[List.take_succ_eq_append_getElem hl,List.foldl_append]
 rfl
def FI(w:World)(pv wv cv iv:Value)(p:Plan.iE)(s:Hs)(h h':Hn)(n':Nat)(e:Ending)(w':World):Prop:=
 ∃s',e=.returned (.agg (hC pv wv cv iv p s' h'))∧MR w' s' h' n'∧(∀B,B<w.heap.size→gG B s h→gG B s' h')∧Below w.heap.size w w'
structure agd(p:Plan.iE)(h:Hn)(n:Nat):Prop where
 seats:∀x∈h.seats,Fit x.1
 len:h.seats.length≤1000000
 n:n≤1000000
 ch:p.chans.length≤1000000
 goes:∀c∈p.chans,0≤c.2.2.1∧c.2.2.1<h.seats.length
theorem FL{N:Int}:∀(l pre:List bf.Ch) (part port:Int),(∀c∈l,0≤c.2.2.1∧c.2.2.1<N)→(bf.GU pre l part port).2.2=true→0≤(bf.GU pre l part port).1∧(bf.GU pre l part port).1<N
 |[],pre,part,port,_,h2=>by simp[bf.GU] at h2
 |c::r,pre,part,port,h1,h2=>by
  rw[bf.GU] at h2⊢
  split at h2
  ·rename_i hc
   rw[if_pos hc]
   split at h2
   ·rename_i hp
    rw[if_pos hp]
    exact h1 c aI
   ·rename_i hp
    rw[if_neg hp]
    exact FL r _ part _ (fun c' hc'=>h1 c' (by simp[hc'])) h2
  ·rename_i hc
   rw[if_neg hc]
   exact FL r _ part _ (fun c' hc'=>h1 c' (by simp[hc'])) h2
theorem ZT{N:Int}{l:List bf.Ch}{part port:Int}(h1:∀c∈l,0≤c.2.2.1∧c.2.2.1<N)(h2:(bf.toS l part port).2.2=true):0≤(bf.toS l part port).1∧(bf.toS l part port).1<N:=by
 unfold bf.toS at h2⊢
 split at h2
 ·simp at h2
 ·rename_i hp
  rw[if_neg hp]
  exact FL l [] part port h1 h2
end Go.Proofs.YtgmodehldmahiaaGreatDoor
end
