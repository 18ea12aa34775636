/- Part 40 of 53 of the proof of topAlone_and_topApart. Conditions: see each. -/
import Derived.Test.YtgmodehldmahiaaGreatDoorB14
import Derived.Test.YtgmodehldmahiaaGreatDoorB39
import Derived.Test.YtgmodehldmahiaaGreatDoorB11
import Derived.Test.YtgmodehldmahiaaGreatDoorB12
import Derived.Test.YtgmodehldmahiaaGreatDoorB09
set_option linter.unusedVariables false
set_option linter.unusedSimpArgs false
set_option maxRecDepth 8192
set_option maxHeartbeats 40000000
section
namespace Go.Proofs.YtgmodehldmahiaaGreatDoor
open Go Go.RowKit Go.Tm
abbrev St:=Kn×Int×Int
def stV(s:Ks)(x:St):Value:=iC s x.1 x.2.1 x.2.2
def tH(ss:List Ks)(xs:List St):List Value:=List.zipWith stV ss xs
theorem gV{ss:List Ks}{xs:List St}(h:ss.length=xs.length):(tH ss xs).length=xs.length:=by simp[tH,h]
theorem kI{ss:List Ks}{xs:List St}{i:Nat}{s:Ks}{x:St}(h1:ss[i]?=some s)(h2:xs[i]?=some x):(tH ss xs)[i]?=some (stV s x):=by
 simp[tH,List.getElem?_zipWith,h1,h2]
theorem R5{ss:List Ks}{xs:List St}(h:ss.length=xs.length)(i:Nat)(s:Ks)(x:St):(tH ss xs).set i (stV s x)=tH (ss.set i s) (xs.set i x):=by
 apply List.ext_getElem?
 intro j
 simp only[tH,List.getElem?_set,List.getElem?_zipWith,List.length_zipWith]
 by_cases hij:i=j
 ·subst hij
  by_cases hi:i<xs.length
  ·simp[h,hi]
  ·simp[h,hi]
 ·simp[hij]
structure Hs where
 sv:Value
 ss:List Ks
 av:Value
 rows:List Value
 got:List (List Value)
structure Hn where
 now:Int
 sched:Int
 next:Int
 seats:List St
 owner:Int
@[irreducible] def hC(pv wv cv iv:Value)(p:bF.jE)(s:Hs)(h:Hn):Array Value:=
  #[pv,.int .i64 p.frame,wv,cv,iv,.int .u64 h.now,.int .i64 h.sched,.int .i64 h.next,s.sv,s.av,.int .i64 h.owner]
structure MR(w:World)(s:Hs)(h:Hn)(n:Nat):Prop where
 sv:Sl w true 19 s.sv (tH s.ss h.seats)
 mo:s.ss.length=h.seats.length
 kr:∀(i:Nat) (u:Ks) (x:St),s.ss[i]?=some u→h.seats[i]?=some x→KR w u x.1
 av:Sl w false 1 s.av s.rows
 Oh:s.rows.length=h.seats.length
 U3:s.got.length=h.seats.length
 row:∀(i:Nat) (v:Value) (l:List Value),s.rows[i]?=some v→s.got[i]?=some l→Sl w true 3 v l∧l.length≤n
structure iR(B:Nat)(s:Hs)(h:Hn):Prop where
 sv:Apart B s.sv (tH s.ss h.seats)
 kr:∀(i:Nat) (u:Ks) (x:St),s.ss[i]?=some u→h.seats[i]?=some x→jF B u x.1
 av:Apart B s.av s.rows
 row:∀(i:Nat) (v:Value) (l:List Value),s.rows[i]?=some v→s.got[i]?=some l→Apart B v l
theorem MR.below{w w':World}{s:Hs}{h:Hn}{n:Nat}(hr:MR w s h n)(hb:Below w.heap.size w w'):MR w' s h n:=
 ⟨hr.sv.below hb,hr.mo,fun i u x h1 h2=>(hr.kr i u x h1 h2).below hb,hr.av.below hb,hr.Oh,hr.U3,fun i v l h1 h2=>⟨(hr.row i v l h1 h2).1.below hb,(hr.row i v l h1 h2).2⟩⟩
theorem MR.away{w:World}{s:Hs}{h:Hn}{n:Nat}(hr:MR w s h n){B:Nat}(hB:w.heap.size≤B):iR B s h:=
 ⟨hr.sv.apart hB,fun i u x h1 h2=>(hr.kr i u x h1 h2).away hB,hr.av.apart hB,fun i v l h1 h2=>(hr.row i v l h1 h2).1.apart hB⟩
theorem MR.bP{W W':World}{R:Nat}{s:Hs}{h:Hn}{n:Nat}{cs:Array Value}{t:TypeId}{ks:List Nat}(hr:MR W s h n)(ha:iR R s h)(hb:aD W R cs t)(hk:cs.toList.map kind=ks)(hsz:cs.size<26)
  (h1:yH ks [1,2,2,3]=true)(h2:yH ks [1,4]=true)(h3:yH ks [3,4]=true)(hg:W.grownBy W' (some R)):MR W' s h n:=
 ⟨hr.sv.bO hg ha.sv,hr.mo,fun i u x e1 e2=>(hr.kr i u x e1 e2).bP (ha.kr i u x e1 e2) hb hk hsz h1 h2 h3 hg,hr.av.bO hg ha.av,hr.Oh,hr.U3,fun i v l e1 e2=>⟨(hr.row i v l e1 e2).1.bO hg (ha.row i v l e1 e2),(hr.row i v l e1 e2).2⟩⟩
theorem kX(pv wv cv iv:Value)(p:bF.jE)(s:Hs)(h:Hn):hC pv wv cv iv p s h=#[pv,.int .i64 p.frame,wv,cv,iv,.int .u64 h.now,.int .i64 h.sched,.int .i64 h.next,s.sv,s.av,.int .i64 h.owner]:=by unfold hC;rfl
theorem nk(pv wv cv iv:Value)(p:bF.jE)(s:Hs)(h:Hn):(hC pv wv cv iv p s h).size=11:=by rw[kX];rfl
theorem MR.DK{w:World}{s:Hs}{h:Hn}{n:Nat}(hr:MR w s h n){i:Nat}{u:Ks}{x:St}{v:Value}(hv:Sl w true 19 v ((tH s.ss h.seats).set i (stV u x)))(hk:KR w u x.1):
  MR w {s with sv:=v,ss:=s.ss.set i u} {h with seats:=h.seats.set i x} n:=
 ⟨by rw[R5 hr.mo] at hv;exact hv,by simp[hr.mo],fun j u' x' h1 h2=>by
  dsimp only at h1 h2
  rw[List.getElem?_set] at h1 h2
  by_cases hij:i=j
  ·exact adF
  ·rw[if_neg hij] at h1 h2
   exact hr.kr j u' x' h1 h2,hr.av,by simp[hr.Oh],by simp[hr.U3],hr.row⟩
theorem iR.DK{B:Nat}{s:Hs}{h:Hn}(ha:iR B s h)(hl:s.ss.length=h.seats.length){i:Nat}{u:Ks}{x:St}{v:Value}(hv:Apart B v ((tH s.ss h.seats).set i (stV u x)))(hk:jF B u x.1):
  iR B {s with sv:=v,ss:=s.ss.set i u} {h with seats:=h.seats.set i x}:=
 ⟨by rw[R5 hl] at hv;exact hv,fun j u' x' h1 h2=>by
  dsimp only at h1 h2
  rw[List.getElem?_set] at h1 h2
  by_cases hij:i=j
  ·exact adF
  ·rw[if_neg hij] at h1 h2
   exact ha.kr j u' x' h1 h2,ha.av,ha.row⟩
theorem MR.setRow{w:World}{s:Hs}{h:Hn}{n m:Nat}(hr:MR w s h n)(hnm:n≤m){i:Nat}{v u:Value}{l:List Value}(hv:Sl w false 1 v (s.rows.set i u))(hu:Sl w true 3 u l)(hl:l.length≤m):
  MR w {s with av:=v,rows:=s.rows.set i u,got:=s.got.set i l} h m:=
 ⟨hr.sv,hr.mo,hr.kr,hv,by simp[hr.Oh],by simp[hr.U3],fun j u' l' h1 h2=>by
  dsimp only at h1 h2
  rw[List.getElem?_set] at h1 h2
  by_cases hij:i=j
  ·subst hij
   rw[if_pos rfl] at h1 h2
   split at h1<;>cases h1
   split at h2<;>cases h2
   exact⟨hu,hl⟩
  ·rw[if_neg hij] at h1 h2
   exact⟨(hr.row j u' l' h1 h2).1,Nat.le_trans (hr.row j u' l' h1 h2).2 hnm⟩⟩
theorem iR.setRow{B:Nat}{s:Hs}{h:Hn}(ha:iR B s h){i:Nat}{v u:Value}{l:List Value}(hv:Apart B v (s.rows.set i u))(hu:Apart B u l):
  iR B {s with av:=v,rows:=s.rows.set i u,got:=s.got.set i l} h:=
 ⟨ha.sv,ha.kr,hv,fun j u' l' h1 h2=>by
  dsimp only at h1 h2
  rw[List.getElem?_set] at h1 h2
  by_cases hij:i=j
  ·subst hij
   rw[if_pos rfl] at h1 h2
   split at h1<;>cases h1
   split at h2<;>cases h2
   exact hu
  ·rw[if_neg hij] at h1 h2
   exact ha.row j u' l' h1 h2⟩
theorem MR.mono{w:World}{s:Hs}{h:Hn}{n m:Nat}(hr:MR w s h n)(hnm:n≤m):MR w s h m:=
 ⟨hr.sv,hr.mo,hr.kr,hr.av,hr.Oh,hr.U3,fun i v l h1 h2=>⟨(hr.row i v l h1 h2).1,Nat.le_trans (hr.row i v l h1 h2).2 hnm⟩⟩
def wV:List Nat:=[5,1,5,5,5,3,1,1,5,5,1]
theorem vF{w:World}{pv wv cv iv:Value}{p:bF.jE}{s:Hs}{h:Hn}{n:Nat}(hp:bF.jf w pv wv cv p)(hi:kind iv=5)(hr:MR w s h n):
  (hC pv wv cv iv p s h).toList.map kind=wV:=by
 obtain⟨vs,hw,_⟩:=hp.wins.row
 rw[kX]
 simp only[List.map_cons,List.map_nil,kG hp.parts,kG hw,kG hp.chans,hi,kG hr.sv,kG hr.av]
 rfl
theorem qE{v:Value}(h:kind v=5):v.oneCell'=true:=by
 cases v<;>first|rfl|(exfalso;revert h;simp[kind])
theorem eH:Ty Tryz.prog 36 11 true:=⟨ay,ay,aC,ay⟩
theorem je{w:World}{pv wv cv iv:Value}{p:bF.jE}{s:Hs}{h:Hn}{n:Nat}(hp:bF.jf w pv wv cv p)(hi:kind iv=5)(hr:MR w s h n):Val true 11 (.agg (hC pv wv cv iv p s h)):=by
 obtain⟨vs,hw,_⟩:=hp.wins.row
 have h1:=qE (kG hp.parts)
 have h2:=qE (kG hw)
 have h3:=qE (kG hp.chans)
 have h4:=qE hi
 have h5:=qE (kG hr.sv)
 have h6:=qE (kG hr.av)
 refine⟨_,rfl,nk ..,?_⟩
 rw[kX]
 intro c hc
 simp at hc
 rcases hc with rfl|rfl|rfl|rfl|rfl|rfl|rfl|rfl|rfl|rfl|rfl<;>first|assumption|rfl
theorem Gm(pv wv cv iv:Value)(p:bF.jE)(s:Hs)(h:Hn):(hC pv wv cv iv p s h)[0]?=some (pv):=by rw[kX];rfl
theorem Gl(pv wv cv iv:Value)(p:bF.jE)(s:Hs)(h:Hn):(hC pv wv cv iv p s h)[1]?=some (.int .i64 p.frame):=by rw[kX];rfl
theorem Gj(pv wv cv iv:Value)(p:bF.jE)(s:Hs)(h:Hn):(hC pv wv cv iv p s h)[2]?=some (wv):=by rw[kX];rfl
theorem Gi(pv wv cv iv:Value)(p:bF.jE)(s:Hs)(h:Hn):(hC pv wv cv iv p s h)[3]?=some (cv):=by rw[kX];rfl
theorem Gh(pv wv cv iv:Value)(p:bF.jE)(s:Hs)(h:Hn):(hC pv wv cv iv p s h)[4]?=some (iv):=by rw[kX];rfl
theorem Dy(pv wv cv iv:Value)(p:bF.jE)(s:Hs)(h:Hn):(hC pv wv cv iv p s h)[5]?=some (.int .u64 h.now):=by rw[kX];rfl
theorem Gg(pv wv cv iv:Value)(p:bF.jE)(s:Hs)(h:Hn):(hC pv wv cv iv p s h)[6]?=some (.int .i64 h.sched):=by rw[kX];rfl
theorem Gf(pv wv cv iv:Value)(p:bF.jE)(s:Hs)(h:Hn):(hC pv wv cv iv p s h)[7]?=some (.int .i64 h.next):=by rw[kX];rfl
theorem Gc(pv wv cv iv:Value)(p:bF.jE)(s:Hs)(h:Hn):(hC pv wv cv iv p s h)[8]?=some (s.sv):=by rw[kX];rfl
theorem Gb(pv wv cv iv:Value)(p:bF.jE)(s:Hs)(h:Hn):(hC pv wv cv iv p s h)[9]?=some (s.av):=by rw[kX];rfl
theorem zZ(pv wv cv iv:Value)(p:bF.jE)(s:Hs)(h:Hn):(hC pv wv cv iv p s h)[10]?=some (.int .i64 h.owner):=by rw[kX];rfl
theorem aoB(pv wv cv iv:Value)(p:bF.jE)(s:Hs)(h:Hn)(x:Int):(hC pv wv cv iv p s h).setIfInBounds 5 (.int .u64 x)=hC pv wv cv iv p s {h with now:=x}:=by rw[kX,kX];rfl
theorem aoA(pv wv cv iv:Value)(p:bF.jE)(s:Hs)(h:Hn)(x:Int):(hC pv wv cv iv p s h).setIfInBounds 6 (.int .i64 x)=hC pv wv cv iv p s {h with sched:=x}:=by rw[kX,kX];rfl
theorem aoz(pv wv cv iv:Value)(p:bF.jE)(s:Hs)(h:Hn)(x:Int):(hC pv wv cv iv p s h).setIfInBounds 7 (.int .i64 x)=hC pv wv cv iv p s {h with next:=x}:=by rw[kX,kX];rfl
theorem VW(pv wv cv iv:Value)(p:bF.jE)(s:Hs)(h:Hn)(x:Int):(hC pv wv cv iv p s h).setIfInBounds 10 (.int .i64 x)=hC pv wv cv iv p s {h with owner:=x}:=by rw[kX,kX];rfl
theorem ajJ(pv wv cv iv:Value)(p:bF.jE)(s:Hs)(h:Hn)(v:Value)(ss:List Ks)(l:List St):(hC pv wv cv iv p s h).setIfInBounds 8 v=hC pv wv cv iv p {s with sv:=v,ss:=ss} {h with seats:=l}:=by rw[kX,kX];rfl
theorem aoy(pv wv cv iv:Value)(p:bF.jE)(s:Hs)(h:Hn)(v:Value)(r:List Value)(g:List (List Value)):(hC pv wv cv iv p s h).setIfInBounds 9 v=hC pv wv cv iv p {s with av:=v,rows:=r,got:=g} h:=by rw[kX,kX];rfl
end Go.Proofs.YtgmodehldmahiaaGreatDoor
end
section
namespace Go.Proofs.YtgmodehldmahiaaGreatDoor
open Go Go.RowKit Go.Tm
attribute [local go_sem] fO fM fK d_ dM dZ dY dX dW dV dU dS dR dQ dP dO dN iQ iP iO iN iM iL iK iG iJ iI fU fT fQ fP fI fH fC
theorem RY:Ty Tryz.prog 175 3 true:=⟨ay,ay,aC,ay⟩
theorem ZJ:∃i,TyM Tryz.prog 175 3 true i (.agg #[.int .u64 0,.int .i64 0,.string ⟨#[]⟩]) 32 172:=by
 have h:(Tryz.prog.info? 175).map (fun i=>(i.zero,i.size,i.bytes))=some (some (.agg #[.int .u64 0,.int .i64 0,.string ⟨#[]⟩]),3,32):=ay
 obtain⟨i,hi,hz,hs,hb⟩:=info_parts h
 exact⟨i,RY,Tryz.underlying172,hi,hz,hs,hb,rfl⟩
theorem KH(v:Value)(xs:List Value)(w:World)(hv:Sl w true 3 v xs):Calls Tryz.prog 81 #[v] w fun e w'=>(∃ao,e=.returned (.slice ao xs.length xs.length)∧Sl w true 3 (.slice ao xs.length xs.length) xs)∧w=w':=by
 obtain⟨ao,hr,hs⟩:=Sl.xI (m:=xs.length) RY Tryz.underlying172 hv (xs.length:Int) rfl (Nat.le_refl _)
 rw[List.take_length] at hs
 obtain⟨a,cap,rfl,hl⟩:=hv.shape
 have HS:=ah hs
 clear hs hv
 go_enter Tryz.func81,Tryz.ntmps81
 exact XL
abbrev smV(t port:Int)(body:ByteArray):Value:= .agg #[.int .u64 t,.int .i64 port,.string body]
noncomputable def wN(h:Hn)(dst port:Int)(body:ByteArray):Hn:=
 match h.seats[dst.toNat]? with
 |some x=>{h with seats:=h.seats.set dst.toNat (kZ x.1 port body x.1.now,x.2)}
 |none=>h
noncomputable def mH(p:bF.jE)(who:Int)(h:Hn)(m:Ms):Hn:=
 if(aW.toS p.chans who m.1).2.2=true then wN h (aW.toS p.chans who m.1).1 (aW.toS p.chans who m.1).2.1 m.2 else h
noncomputable def jd(p:bF.jE)(who:Int)(h:Hn)(l:List Ms):Hn:=l.foldl (mH p who) h
theorem afI(h:Hn)(dst port:Int)(body:ByteArray):(wN h dst port body).seats.length=h.seats.length:=by
 unfold wN;split
 ·simp
 ·rfl
theorem Z7(p:bF.jE)(who:Int)(h:Hn)(m:Ms):(mH p who h m).seats.length=h.seats.length:=by
 unfold mH;split
 ·exact afI ..
 ·rfl
theorem Tz{p:bF.jE}{who:Int}{h:Hn}{l:List Ms}{i:Nat}{m:Ms}(hm:l[i]?=some m):jd p who h (l.take (i+1))=mH p who (jd p who h (l.take i)) m:=by
 obtain⟨hl,rfl⟩:=List.getElem?_eq_some_iff.1 hm
 unfold jd
 rw[List.take_succ_eq_append_getElem hl,List.foldl_append]
 rfl
def JH(w:World)(pv wv cv iv:Value)(p:bF.jE)(s:Hs)(h h':Hn)(n':Nat)(e:Ending)(w':World):Prop:=
 ∃s',e=.returned (.agg (hC pv wv cv iv p s' h'))∧MR w' s' h' n'∧(∀B,B<w.heap.size→iR B s h→iR B s' h')∧Below w.heap.size w w'
structure akW(p:bF.jE)(h:Hn)(n:Nat):Prop where
 seats:∀x∈h.seats,Fit x.1
 len:h.seats.length≤1000000
 n:n≤1000000
 ch:p.chans.length≤1000000
 goes:∀c∈p.chans,0≤c.2.2.1∧c.2.2.1<h.seats.length
theorem JK{N:Int}:∀(l pre:List aW.Ch) (part port:Int),(∀c∈l,0≤c.2.2.1∧c.2.2.1<N)→(aW.LA pre l part port).2.2=true→0≤(aW.LA pre l part port).1∧(aW.LA pre l part port).1<N
 |[],pre,part,port,_,h2=>by simp[aW.LA] at h2
 |c::r,pre,part,port,h1,h2=>by
  rw[aW.LA] at h2⊢
  split at h2
  ·rename_i hc
   rw[if_pos hc]
   split at h2
   ·rename_i hp
    rw[if_pos hp]
    exact h1 c aI
   ·rename_i hp
    rw[if_neg hp]
    exact JK r _ part _ (fun c' hc'=>h1 c' (by simp[hc'])) h2
  ·rename_i hc
   rw[if_neg hc]
   exact JK r _ part _ (fun c' hc'=>h1 c' (by simp[hc'])) h2
theorem aex{N:Int}{l:List aW.Ch}{part port:Int}(h1:∀c∈l,0≤c.2.2.1∧c.2.2.1<N)(h2:(aW.toS l part port).2.2=true):0≤(aW.toS l part port).1∧(aW.toS l part port).1<N:=by
 unfold aW.toS at h2⊢
 split at h2
 ·simp at h2
 ·rename_i hp
  rw[if_neg hp]
  exact JK l [] part port h1 h2
end Go.Proofs.YtgmodehldmahiaaGreatDoor
end
section
namespace Go.Proofs.YtgmodehldmahiaaGreatDoor
open Go Go.RowKit Go.Tm
attribute [local go_sem] fO fM fK d_ dM dZ dY dX dW dV dU dS dR dQ dP dO dN iQ iP iO iN iM iL iK iG iJ iI fU fT fQ fP fI fH fC
attribute [local go_sem] Gm Gl Gj Gi Gh Dy Gg Gf Gc Gb zZ
def jV:Array Value:=#[.slice none 0 0,.int .i64 0,.slice none 0 0,.slice none 0 0,.slice none 0 0,.int .u64 0,.int .i64 0,.int .i64 0,.slice none 0 0,.slice none 0 0,.int .i64 0]
theorem lX:jV.size=11:=rfl
attribute [local go_sem] Dr
theorem alm(t port:Int)(body:ByteArray):Val true 3 (smV t port body):=⟨_,rfl,rfl,M7⟩
theorem Kh(a:Option Addr)(n c:Nat):Val false 1 (.slice a n c):=⟨rfl,rfl⟩
theorem fZ{P:Program}{ops:Array Oper}{S:World→Prop}{o:Oper}{a:Act}{k:Nat}{ag:Bool}(E:TypeId)(p:Operand)(ho:o.op=.load E p){b off:Nat}(x:Value)(ht:Ty P E k ag)(hx:Val ag k x)
  (hw:Region.wanted o (yielded ops a.tmps)=true)(hp:a.eval p=.pointer (some ⟨b,off,none⟩))(hS:∀w,S w→Cells w b off x.cells.toList):YieldsIf P ops S o x a:=
 Or.inl ⟨hw,fun w hs=>by
  unfold execOp
  simp only[ho,hp,Instr.loadAt,Instr.sureAddr,Sem.run_bind,Sem.run_pure,Result.andThen_ok,iF ht hx (show Cells w b off x.cells.toList from hS w hs)]⟩
theorem j6{pv wv cv iv:Value}{p:bF.jE}{s:Hs}{h:Hn}:(hC pv wv cv iv p s h).size<26:=by rw[nk];decide
theorem MR.aeC{w:World}{pv wv cv iv:Value}{p:bF.jE}{s:Hs}{h:Hn}{n m B d:Nat}{t:TypeId}{v u:Value}{l:List Value}(hb:aD w B (hC pv wv cv iv p s h) t)(hm:MR w s h n)(ha:iR B s h)(hp:bF.jf w pv wv cv p)(hi:kind iv=5)
  (hv:Sl w false 1 v (s.rows.set d u))(hva:Apart B v (s.rows.set d u))(hu:Sl w true 3 u l)(hua:Apart B u l)(hl:l.length≤m)(hnm:n≤m):
  aD (w.setCell ⟨B,9,none⟩ v) B (hC pv wv cv iv p {s with av:=v,rows:=s.rows.set d u,got:=s.got.set d l} h) t∧MR (w.setCell ⟨B,9,none⟩ v) {s with av:=v,rows:=s.rows.set d u,got:=s.got.set d l} h m:=by
 have hg:=aO w B 9 v
 refine⟨(hb.set 9 v).cast (aoy ..),?_⟩
 exact(hm.bP ha hb (vF hp hi hm) j6 aC aC aC hg).setRow hnm (hv.bO hg hva) (hu.bO hg hua) hl
theorem MR.Fa{w:World}{pv wv cv iv:Value}{p:bF.jE}{s:Hs}{h:Hn}{n B d:Nat}{t:TypeId}{v:Value}{u:Ks}{x:St}(hb:aD w B (hC pv wv cv iv p s h) t)(hm:MR w s h n)(ha:iR B s h)(hp:bF.jf w pv wv cv p)(hi:kind iv=5)
  (hv:Sl w true 19 v ((tH s.ss h.seats).set d (stV u x)))(hva:Apart B v ((tH s.ss h.seats).set d (stV u x)))(hk:KR w u x.1)(hka:jF B u x.1):
  aD (w.setCell ⟨B,8,none⟩ v) B (hC pv wv cv iv p {s with sv:=v,ss:=s.ss.set d u} {h with seats:=h.seats.set d x}) t∧MR (w.setCell ⟨B,8,none⟩ v) {s with sv:=v,ss:=s.ss.set d u} {h with seats:=h.seats.set d x} n:=by
 have hg:=aO w B 8 v
 have xV:=vF hp hi hm
 refine⟨(hb.set 8 v).cast (ajJ ..),?_⟩
 exact(hm.bP ha hb xV j6 aC aC aC hg).DK (hv.bO hg hva) (hk.bP hka hb xV j6 aC aC aC hg)
theorem lY{w:World}{base:Nat}{E:TypeId}{ag:Bool}{k:Nat}{v:Value}{xs:List Value}(h:bI w base E ag k v xs){B:Nat}(hB:B<base):Apart B v xs:= .inr fun b hb=>by have:=h.iy b hb;omega
structure Ig(F:Option Addr→Nat→Nat→Option Addr→Nat→Nat→World→Prop)(G:Option Addr→Nat→Nat→Option Addr→Nat→Nat→Act)(a':Act)(w':World):Prop where
 ex:∃a g n b m l,F a g n b m l w'∧a'=G a g n b m l
theorem Ig.of{F:Option Addr→Nat→Nat→Option Addr→Nat→Nat→World→Prop}{G:Option Addr→Nat→Nat→Option Addr→Nat→Nat→Act}{a':Act}{w':World}(a:Option Addr)(g n:Nat)(b:Option Addr)(m l:Nat)(h:F a g n b m l w')(e:a'=G a g n b m l):Ig F G a' w':=⟨a,g,n,b,m,l,h,e⟩
theorem aej{P:Program}{c:Code}{Q:Exit→Act→World→Prop}{a:Act}{w:World}(F:Option Addr→Nat→Nat→Option Addr→Nat→Nat→World→Prop)(G:Option Addr→Nat→Nat→Option Addr→Nat→Nat→Act)
  (h:c.wp P (fun e a' w'=>e=.normal∧Ig F G a' w') a w)(hM:∀a g n b m l W,F a g n b m l W→Q .normal (G a g n b m l) W):c.wp P Q a w:=
 Code.wp_mono (fun e a w h=>by obtain⟨rfl,a1,g,n,b,m,l,h1,rfl⟩:=h;exact hM _ _ _ _ _ _ w h1) h
theorem Z5(pv wv cv iv:Value)(p:bF.jE)(s:Hs)(h:Hn)(n who:Nat)(x:St)(w:World)(hp:bF.jf w pv wv cv p)(hi:kind iv=5)(hr:MR w s h n)(hx:h.seats[who]?=some x)
  (hf:∀j,akW p (jd p who h (x.1.se.take j)) (n+x.1.se.length))(YL:∀m∈x.1.se,qK m.1∧m.2.size≤9223372036854775807):
  Calls Tryz.prog 63 #[.agg (hC pv wv cv iv p s h),.int .i64 who] w (JH w pv wv cv iv p s h (jd p who h x.1.se) (n+x.1.se.length)):=by
 have HP:=ah hp
 have HM:=ah hr
 have HF:=ah hf
 have hwl:=(List.getElem?_eq_some_iff.1 hx).1
 obtain⟨u,hu⟩:∃u,s.ss[who]?=some u:=⟨_,List.getElem?_eq_getElem Vd⟩
 have MS:=hr.kr who u x hu hx
 obtain⟨asv,Ui,xP,Iz⟩:=hr.sv.shape
 obtain⟨ase,cse,hse,apV⟩:=MS.Se.shape
 obtain⟨sv,ss,av,rows,got⟩:=s
 dsimp only at xP
 subst xP
 obtain⟨bs,os,hbs,UU,hcs⟩:=hr.sv.at (kI hu hx)
 dsimp only at hu Iz
 rw[gV hr.mo] at Iz hr HM⊢
 rw[List.length_map] at hse apV
 have am6:=hcs 14 u.Se (by rw[show(stV u x).cells=xC u x.1 (sx x.2.1 x.2.2) from rfl,Array.getElem?_toList,Dq _ _ _ aC,fI])
 rw[hse] at am6
 have hsz:=nk pv wv cv iv p ⟨.slice asv h.seats.length Ui,ss,av,rows,got⟩ h
 have QV:jV.size=11:=rfl
 have hkz:=MS.Se
 rw[hse] at hkz
 have HSE:=ah hkz
 subst hbs
 clear hr hf hp MS hkz hcs hsz
 go_enter Tryz.func63,Tryz.ntmps63
 go_wp2_with fail
 (generalize bR:World.alloc _ _=w0;have KB:aD w0 (w.heap.size) (hC pv wv cv iv p ⟨.slice (some ⟨bs,os,none⟩) h.seats.length Ui,ss,av,rows,got⟩ h) 36:=bH;have KZ:aD w0 (w.heap.size+1) (jV) 36:=bH;have hb0:Below w.heap.size w w0:=bN;have hz0:w0.heap.size=w.heap.size+1+1:=bX;clear bR;have KB:=ah KB;have KZ:=ah KZ)
 clear am6 UU hwl Iz
 generalize hs0:(⟨.slice (some ⟨bs,os,none⟩) h.seats.length Ui,ss,av,rows,got⟩:Hs)=s at*
 go_loopw [18] (fun t W=>∃(i:Nat) (s':Hs),i≤x.1.se.length∧t=.int .i64 i∧aD W w.heap.size (hC pv wv cv iv p s' (jd p who h (x.1.se.take i))) 36∧aD W (w.heap.size+1) jV 36∧MR W s' (jd p who h (x.1.se.take i)) (n+i)∧(∀B,B<w.heap.size+2→iR B s h→iR B s' (jd p who h (x.1.se.take i)))∧Below w.heap.size w W) (fun t _=>x.1.se.length-(intOf t).toNat)
 case atStart=>exact⟨0,s,Nat.zero_le _,rfl,KB.out,KZ.out,HM.out.below hb0,fun _ _ h=>h,hb0⟩
 case round=>
  obtain⟨i,s',hi',rfl,hkb,hkz,hmr,Uz,bZ⟩:=hrel
  have p8:=ah hkb
  have Er:=ah hkz
  have HM1:=ah hmr
  have Od:=ah Uz
  have FW:=ah bZ
  have hwz:=bZ.size
  clear hkb hkz hmr Uz
  by_cases xW:i<x.1.se.length
  ·obtain⟨m,hm⟩:∃m,x.1.se[i]?=some m:=⟨_,List.getElem?_eq_getElem xW⟩
   have hst:=ah (Tz (p:=p) (who:=(who:Int)) (h:=h) hm)
   have Qx:=(HF.out i)
   have asy:=(HF.out (i+1))
   obtain⟨be,oe,rfl,xR,hce⟩:=(HSE.out.below bZ).at (i:=i) (x:=LM m) (by rw[List.getElem?_map,hm];rfl)
   have qP:=ah hce
   obtain⟨a1,c1,a2,c2,a3,c3,rfl,rfl,rfl,jO,hl2,qM⟩:=HP.out.shape
   generalize jd p who h (x.1.se.take i)=h1 at*
   obtain⟨hcb,bC,bn,bA,bE⟩:=aD.rules p8.out
   have hmw:=YL m (List.mem_of_getElem? hm)
   have apf:=JB m
   have uJ:be<wr.heap.size:=aj
   go_wp2_with(first|((with_reducible refine cK 136 ?_);(refine aN rfl 136 _ rfl be (oe+i*2) ?_ (LM m) acU (apf) qP.out ?_;(exact aM)))|fail)
   (generalize bR:World.alloc _ _=w1;have KM:aD w1 (wr.heap.size) (#[.int .i64 m.1,.string m.2]) 136:=bH;have hb0:Below wr.heap.size wr w1:=bN;have hz0:w1.heap.size=wr.heap.size+1:=bX;clear bR;have KM:=ah KM)
   have am1:Sl w1 true 5 (.slice a3 p.chans.length c3) (aW.oC p.chans):=(HP.out.chans.below bZ).below hb0
   with_reducible refine(aW.ali a1 p.parts.length c1 p.frame (.slice a2 p.wins.length c2) (.slice a3 p.chans.length c3) p.chans who m.1 w1 am1 hmw.1 (by have:=Qx.ch;omega)).mono ?_
   rintro en w2 ⟨rfl,hb2⟩
   obtain⟨r,hr⟩:∃r,r=aW.toS p.chans who m.1:=⟨_,rfl⟩
   have hrg:r.2.2=true→0≤r.1∧r.1<h1.seats.length:=fun e=>by rw[hr] at e⊢;exact aex Qx.goes e
   have tJ:=hst.out
   unfold mH at tJ
   rw[←hr] at tJ⊢
   clear hr hst
   obtain⟨r1,r2,r3⟩:=r
   dsimp only at tJ hrg⊢
   have f_:Below wr.heap.size wr w2:=hb0.trans (hb2.mono hb0.size)
   have hz2:=hb2.size
   have qO:=ah (p8.out.below f_ p8.out.lt)
   have Uk:=ah (Er.out.below f_ Er.out.lt)
   have KM2:=ah (KM.out.below hb2 KM.out.lt)
   have bM:=bZ.trans (f_.mono hwz)
   have HM2:=ah (HM1.out.below f_)
   have ajX:IntKind.i64.wrap ((i:Int)+1)=i+1:=IntWalk.i64_in _ (by have:=Qx.n;omega)
   clear hcb bC bn bA bE xR hce qP am1 hb2
   cases r3
   ·rw[if_neg aC] at tJ
    go_wp2_with fail
    generalize hW3:World.alloc _ _=w3
    have lu:Below w2.heap.size w2 w3:=by rw[←hW3];exact bl
    clear hW3
    go_roundw
    case rel=>exact⟨i+1,s',aj,dn,by rw[tJ];exact qO.out.below lu qO.out.lt,Uk.out.below lu Uk.out.lt,by rw[tJ];exact(HM2.out.below lu).mono aj,by rw[tJ];exact Od.out,bM.trans (lu.mono aj)⟩
    case measure=>simp[intOf];omega
   ·rw[if_pos rfl] at tJ
    obtain⟨d,rfl⟩:∃d:Nat,r1=d:=⟨r1.toNat,by have:=(hrg rfl).1;omega⟩
    have hd:d<h1.seats.length:=by have:=(hrg rfl).2;omega
    obtain⟨sv2,ss2,av2,Bw,abW⟩:=s'
    have nS:=HM2.out
    obtain⟨y,hy⟩:∃y,h1.seats[d]?=some y:=⟨_,List.getElem?_eq_getElem hd⟩
    obtain⟨uu,huu⟩:∃uu,ss2[d]?=some uu:=⟨_,List.getElem?_eq_getElem (by rw[show ss2.length=_ from nS.mo];exact hd)⟩
    obtain⟨rv,hrv⟩:∃rv,Bw[d]?=some rv:=⟨_,List.getElem?_eq_getElem (by rw[show Bw.length=_ from nS.Oh];exact hd)⟩
    obtain⟨gl,N_⟩:∃gl,abW[d]?=some gl:=⟨_,List.getElem?_eq_getElem (by rw[show abW.length=_ from nS.U3];exact hd)⟩
    have MS:=nS.kr d uu y huu hy
    obtain⟨hrow,arM⟩:=nS.row d rv gl hrv N_
    obtain⟨asH,ank,aj5,ajC⟩:=nS.sv.shape
    obtain⟨aav,cav,hav,amP⟩:=nS.av.shape
    obtain⟨ar,cr,ao_,hlr⟩:=hrow.shape
    rw[gV nS.mo] at aj5 ajC
    rw[nS.Oh] at hav amP
    dsimp only at aj5 ajC hav amP
    subst aj5 hav ao_
    obtain⟨b3,o3,hb3,aq7,hc3⟩:=nS.sv.at (kI huu hy)
    obtain⟨b4,o4,hb4,aq6,QJ⟩:=nS.av.at hrv
    subst hb3 hb4
    have HC3:=ah hc3
    have HC4:=ah QJ
    have Om:=iT MS y.2.1 y.2.2
    have HKR:=ah MS
    have aru:=ah hrow
    have UM:(xC uu y.1 (sx y.2.1 y.2.2)).size=19:=yw
    clear nS hc3 QJ MS hrow
    obtain⟨hcb,bC,bn,bA,bE⟩:=aD.rules qO.out
    obtain⟨hcm,hfm,hlm,hnm,hmm⟩:=aD.rules KM2.out
    go_wp2_with(first|((with_reducible refine cK 59 ?_);(refine aN rfl 59 _ rfl b3 (o3+d*19) ?_ (iC uu y.1 y.2.1 y.2.2) dH (Om) (HC3.out.below aG aq7) ?_;(exact aM)))|((with_reducible refine bS 59 ?_);(refine aU rfl 59 _ _ rfl (xC uu y.1 (sx y.2.1 y.2.2)) dH (Om) aF ?_ ?_ ?_;(exact aM);(exact aM)))|fail)
    (generalize bR:World.alloc _ _=w3;have KRT:aD w3 (w2.heap.size) (#[.int .i64 d,.int .i64 r2]) 168:=bH;have KST:aD w3 (w2.heap.size+1) (xC uu y.1 (sx y.2.1 y.2.2)) 59:=bH;have hb0:Below w2.heap.size w2 w3:=bN;have hz0:w3.heap.size=w2.heap.size+1+1:=bX;clear bR;have KRT:=ah KRT;have KST:=ah KST)
    have lu:=hb0
    have arY:w2.heap.size+1+1≤w3.heap.size:=aj
    clear hb0 hz0 hcb bC bn bA bE hcm hfm hlm hnm hmm UM
    have vK:=ah (qO.out.below lu qO.out.lt)
    have Ob:=ah (Uk.out.below lu Uk.out.lt)
    have KM3:=ah (KM2.out.below lu KM2.out.lt)
    have HM3:=ah (HM2.out.below lu)
    have ajM:=ah (aru.out.below lu)
    have arJ:=ah (HC4.out.below lu aq6)
    have aox:b4<w3.heap.size:=aj
    have gZ:=bM.trans (lu.mono aj)
    obtain⟨hcb,bC,bn,bA,bE⟩:=aD.rules vK.out
    obtain⟨hcm,hfm,hlm,hnm,hmm⟩:=aD.rules KM3.out
    obtain⟨hcr,sK,abK,hnr,akh⟩:=aD.rules KRT.out
    obtain⟨hcs,MV,hls,hns,apC⟩:=aD.rules KST.out
    obtain⟨i0,hMM⟩:=ZJ
    have af2:=alm y.1.now r2 m.2
    have arQ:gl.length≤1000000:=by have:=Qx.n;omega
    have hrl:Bw.length≤1000000:=by rw[show Bw.length=_ from HM3.out.Oh];exact Qx.len
    have hdr:d<Bw.length:=(List.getElem?_eq_some_iff.1 hrv).1
    refine aej (fun ao g nn Ep m10 n10 W=>aD W w.heap.size (hC (.slice a1 p.parts.length c1) (.slice a2 p.wins.length c2) (.slice a3 p.chans.length c3) iv p ⟨.slice (some ⟨b3,o3,none⟩) h1.seats.length ank,ss2,.slice Ep m10 n10,Bw.set d (.slice (some ⟨g,0,none⟩) (gl.length+1) nn),abW.set d (gl++[smV y.1.now r2 m.2])⟩ h1) 36∧MR W ⟨.slice (some ⟨b3,o3,none⟩) h1.seats.length ank,ss2,.slice Ep m10 n10,Bw.set d (.slice (some ⟨g,0,none⟩) (gl.length+1) nn),abW.set d (gl++[smV y.1.now r2 m.2])⟩ h1 (n+i+1)∧(∀B,B<w3.heap.size→Apart B (.slice Ep m10 n10) (Bw.set d (.slice (some ⟨g,0,none⟩) (gl.length+1) nn))∧Apart B (.slice (some ⟨g,0,none⟩) (gl.length+1) nn) (gl++[smV y.1.now r2 m.2]))∧Below w.heap.size w W∧w3.grownBy W (some w.heap.size)) ?G ?_ ?_
    rotate_left
    focus((refine aY (fun W=>Below w3.heap.size w3 W) (fun i=>decide (i<23)) ay ?_);
          have hS:Below w3.heap.size w3 w3.drew:=(Below.refl _ _).drew;
          (refine tk 0 39 hS ?_);
          (refine tk 1 40 hS ?_ (hy:=Or.inl ⟨aF,UL⟩));
          (refine tk 2 41 hS ?_);
          (refine tk 3 42 hS ?_ (hy:=Or.inl ⟨aF,UL⟩));
          (refine tk 4 43 hS ?_);
          (refine tk 5 44 hS ?_ (hy:=Or.inl ⟨aF,UL⟩));
          (refine tk 6 45 hS ?_);
          (refine tk 7 46 hS ?_ (hy:=Or.inl ⟨aF,UL⟩));
          (refine tk 8 47 hS ?_);
          (refine bL 9 (oi:=⟨some 48,_,_,_,_,_⟩) rfl ay om hS (fZ 172 _ rfl (b:=b4) (off:=o4+d*1) (.slice ar gl.length cr) X8 (Kh _ _ _) aF bG (fun W hs=>arJ.out.below hs aox)) ?_);
          (try simp only[pt]);
          (refine tk 11 50 hS ?_);
          (refine tk 12 51 hS ?_);
          (refine tk 13 52 hS ?_ (hy:=Or.inl ⟨aF,UL⟩));
          (refine tk 14 53 hS ?_);
          (refine tk 15 54 hS ?_ (hy:=Or.inl ⟨aF,UL⟩));
          (refine tk 16 55 hS ?_);
          (refine tk 17 56 hS ?_ (hy:=Or.inl ⟨aF,UL⟩));
          (refine tk 18 57 hS ?_);
          (refine eX 10 19 (oi:=⟨some 49,_,_,_,_,_⟩) (oj:=⟨some 58,_,_,_,_,_⟩) rfl rfl ay rfl rfl (fun K hK=>?_) (fun K hK=>?_));
          (focus((go_simp;(with_reducible refine(KH (.slice ar gl.length cr) gl _ (ajM.out.below hS)).mono ?_);rintro en w6 ⟨⟨ao,rfl,nO⟩,rfl⟩;have Uq:=ah nO;clear nO;(try go_wp2_with fail));(refine hK.out _ _ (fun _=>b_) ?_;clear hK K);(try simp only[pt]);(refine aJ 19 (oi:=⟨some 58,_,_,_,_,_⟩) rfl ay rfl (fun K hK=>?_));(refine mK _ rfl hMM aC (smV y.1.now r2 m.2) bG af2 ?_);(refine hidS hK (hS.alloc hS.size _) (fun hS=>?_);clear hK K);(try simp only[pt]);(have HY:=Sl.pQ (w:=w3.drew) (E:=175) af2 rfl;have hd8:Below w3.drew.heap.size w3.drew (w3.drew.alloc (.cells (smV y.1.now r2 m.2).cells 175)):=(Below.refl _ _).alloc (Nat.le_refl _) _;generalize w3.drew.alloc (.cells (smV y.1.now r2 m.2).cells 175)=w8 at hS HY hd8⊢);exact amr));
          (focus((refine mK _ rfl hMM aC (smV y.1.now r2 m.2) bG af2 ?_);(refine hidS hK (hS.alloc hS.size _) (fun hS=>?_);clear hK K);(try simp only[pt]);(have HY:=Sl.pQ (w:=w3.drew) (E:=175) af2 rfl;have hd8:Below w3.drew.heap.size w3.drew (w3.drew.alloc (.cells (smV y.1.now r2 m.2).cells 175)):=(Below.refl _ _).alloc (Nat.le_refl _) _;generalize w3.drew.alloc (.cells (smV y.1.now r2 m.2).cells 175)=w8 at hS HY hd8⊢);(refine aJ 10 (oi:=⟨some 49,_,_,_,_,_⟩) rfl ay rfl (fun K hK=>?_));(go_simp;(with_reducible refine(KH (.slice ar gl.length cr) gl _ (ajM.out.below hS)).mono ?_);rintro en w6 ⟨⟨ao,rfl,nO⟩,rfl⟩;have Uq:=ah nO;clear nO;(try go_wp2_with fail));(refine hK.out _ _ (fun _=>b_) ?_;clear hK K);(try simp only[pt]);exact amr)))
    rintro ao g9 n9 Ep m10 n10 w4 ⟨hk4,yR,ani,jK,hg4⟩
    have A_:=ah hk4
    have QO:=ah yR
    have agp:=ah ani
    have QX:=Uk.out.lt
    have aso:=p8.out.lt
    have ark:=ah (KRT.out.grown hg4 OT)
    have anu:=ah (KST.out.grown hg4 OT)
    have KM4:=ah (KM3.out.grown hg4 OT)
    have M0:=ah (Ob.out.grown hg4 OT)
    have xU:=hg4.size
    have amR:=yR.kr d uu y huu hy
    have arB:=ah amR
    have hkf:Fit y.1:=Qx.seats y (List.mem_of_getElem? hy)
    have ar':(tH ss2 h1.seats).length=h1.seats.length:=gV yR.mo
    have ac1:=Qx.len
    clear hk4 yR ani amR hcb bC bn bA bE hcm hfm hlm hnm hmm hcr sK abK hnr akh hcs MV hls hns apC
    have Xy:w.heap.size<w4.heap.size:=aj
    have ajF:w.heap.size≤w4.heap.size:=aj
    obtain⟨hcb,bC,bn,bA,bE⟩:=aD.rules A_.out
    obtain⟨hcm,hfm,hlm,hnm,hmm⟩:=aD.rules KM4.out
    obtain⟨hcr,sK,abK,hnr,akh⟩:=aD.rules ark.out
    go_wp2_with fail
    ((refine aY (fun W=>Below w4.heap.size w4 W) (fun i=>decide (i<12)) ay ?_);
          have hS:Below w4.heap.size w4 w4.drew:=(Below.refl _ _).drew;
          (refine tk 0 62 hS ?_);
          (refine tk 1 63 hS ?_ (hy:=Or.inl ⟨aF,afR⟩));
          (refine tk 2 64 hS ?_);
          (refine tk 3 65 hS ?_ (hy:=Or.inl ⟨aF,afR⟩));
          (refine bL 4 (oi:=⟨some 66,_,_,_,_,_⟩) rfl ay om hS (dh 59 _ rfl (xC uu y.1 (sx y.2.1 y.2.2)) dH Om aF bG (fun W hs=>anu.out.below hs anu.out.lt)) ?_);
          (try simp only[pt]);
          (refine tk 5 67 hS ?_);
          (refine tk 6 68 hS ?_ (hy:=Or.inl ⟨aF,afR⟩));
          (refine tk 7 69 hS ?_);
          (refine tk 8 70 hS ?_ (hy:=Or.inl ⟨aF,afR⟩));
          (refine aJ 9 (oi:=⟨some 71,_,_,_,_,_⟩) rfl ay rfl (fun K hK=>?_));
          (go_simp;(with_reducible refine(TY uu y.1 y.2.1 y.2.2 r2 m.2 _ (arB.out.below hS) hkf hmw.2).mono ?_);rintro en w5 ⟨s5,rfl,Q0,G6,kV⟩;have hS:=hS.trans (Below.mono kV hS.size);have Rh:=ah Q0;have IW:=ah G6;(try go_wp2_with fail));
          (refine hK.out _ _ (fun _=>b_) ?_;clear hK K);
          (try simp only[pt]);
          (refine aJ 10 (oi:=⟨some 72,_,_,_,_,_⟩) rfl ay rfl (fun K hK=>?_));
          (go_simp;(with_reducible refine(JN _ (tH ss2 h1.seats) d s5 (kZ y.1 r2 m.2 y.1.now) y.2.1 y.2.2 _ (QO.out.sv.below hS) aj Rh.out aj).mono ?_);rintro en w6 ⟨v6,rfl,Uv,kM⟩;have hS:=hS.trans (Below.mono kM hS.size);obtain⟨a6,m6,n6,rfl⟩:=Uv.sl.is;have Ip:=ah (Uv.le (base':=w4.heap.size) acg);have ab4:=ah (Rh.out.below kM);clear Uv Q0 G6;(try go_wp2_with fail));
          (refine hK.out _ _ (fun _=>b_) ?_;clear hK K);
          (try simp only[pt]);
          (refine tk 11 73 hS ?_);
          (refine aZ 12 ay ?_ rfl);
          simp only[List.toList_toArray,List.drop_succ_cons,List.drop_zero])
    have vL:=ah (A_.out.below hS A_.out.lt)
    have zM:=MR.Fa (d:=d) (u:=s5) (x:=(kZ y.1 r2 m.2 y.1.now,y.2)) vL.out (QO.out.below hS) ((Od.out w.heap.size aj (HM.out.away (Nat.le_refl _))).setRow (agp.out w.heap.size aj).1 (agp.out w.heap.size aj).2) (HP.out.below (jK.trans (hS.mono ajF))) hi Ip.out.sl (lY Ip.out aj) ab4.out (IW.out w.heap.size EO ((Od.out w.heap.size aj (HM.out.away (Nat.le_refl _))).kr d uu y huu hy))
    have QN:=ah zM
    have KZ7:=ah ((M0.out.below hS M0.out.lt).other ⟨w.heap.size,8,none⟩ (.slice a6 m6 n6) aI)
    have anh:wN h1 (d:Int) r2 m.2={h1 with seats:=h1.seats.set d (kZ y.1 r2 m.2 y.1.now,y.2)}:=by unfold wN;rw[Int.toNat_natCast,hy]
    have ak9:=ah (tJ.trans anh)
    have HMA:=ah (show∀B,B<w.heap.size+2→iR B s h→iR B ⟨.slice a6 m6 n6,ss2.set d s5,.slice Ep m10 n10,Bw.set d (.slice (some ⟨g9,0,none⟩) (gl.length+1) n9),abW.set d (gl++[smV y.1.now r2 m.2])⟩ {h1 with seats:=h1.seats.set d (kZ y.1 r2 m.2 y.1.now,y.2)} from fun B hB ha=>((Od.out B hB ha).setRow (agp.out B aj).1 (agp.out B aj).2).DK QO.out.mo (lY Ip.out aj) (IW.out B EO ((Od.out B hB ha).kr d uu y huu hy)))
    have Y8:=ah (show Below w.heap.size w (w6.setCell ⟨w.heap.size,8,none⟩ (.slice a6 m6 n6)) from Below.setCell (jK.trans (hS.mono ajF)) (Nat.le_refl _) _)
    clear zM anh tJ hcb bC bn bA bE hcm hfm hlm hnm hmm hcr sK abK hnr akh
    obtain⟨hcb,bC,bn,bA,bE⟩:=aD.rules vL.out
    go_wp2_with fail
    generalize World.setCell _ _ _=w7 at QN KZ7 Y8⊢
    go_roundw
    case rel=>exact⟨i+1,_,aj,dn,by rw[ak9.out];exact QN.out.1,KZ7.out,by rw[ak9.out];exact QN.out.2.mono aj,by rw[ak9.out];exact HMA.out,Y8.out⟩
    case measure=>simp[intOf];omega
  ·have hie:i=x.1.se.length:=by omega
   subst hie
   rw[List.take_length] at p8 HM1 Od
   have hv:=je (HP.out.below bZ) hi HM1.out
   have HV:=ah hv
   have hdn:decide ((x.1.se.length:Int)<x.1.se.length)=false:=decide_eq_false aj
   generalize jd p who h x.1.se=h2 at*
   have Ol:=nk pv wv cv iv p s' h2
   have QV:jV.size=11:=rfl
   clear hv
   go_wp2_with(first|((with_reducible refine cK 36 ?_);(refine aK rfl 36 _ rfl (hC pv wv cv iv p s' h2) eH (HV.out) p8.out ?_ ?_;(exact aM)))|((with_reducible refine bS 36 ?_);(refine aR rfl 36 _ _ rfl Er.out (.agg (hC pv wv cv iv p s' h2)) eH (HV.out) ?_ (_) (gM 11 lX ()) ?_ ?_ ?_;(exact gG);(exact aM);(exact aM);(intro N7 nN oP zB f_;have pI:=ah nN)))|fail)
   have sK:=HM1.out.bP (R:=w.heap.size+1) (ks:=wV) (Od.out (w.heap.size+1) aj (HM.out.away aj)) Er.out rfl aC aC aC aC oP
   exact jH Tryz.results63 eH HV.out aF pI.out rfl ⟨s',rfl,sK,fun B hB h=>Od.out B aj h,FW.out.trans (f_.mono aj)⟩
end Go.Proofs.YtgmodehldmahiaaGreatDoor
end
