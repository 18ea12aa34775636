/- Part 17 of 53 of the proof of topAlone_and_topApart. Conditions: see each. -/
import Derived.Test.YtgmodehldmahiaaGreatDoorB14
import Derived.Test.YtgmodehldmahiaaGreatDoorB02
import Derived.Test.YtgmodehldmahiaaGreatDoorB03
import Derived.Test.YtgmodehldmahiaaGreatDoorB04
import Derived.Test.YtgmodehldmahiaaGreatDoorB05
import Derived.Test.YtgmodehldmahiaaGreatDoorB06
import Derived.Test.YtgmodehldmahiaaGreatDoorB07
import Derived.Test.YtgmodehldmahiaaGreatDoorB08
import Derived.Test.YtgmodehldmahiaaGreatDoorB09
import Derived.Test.YtgmodehldmahiaaGreatDoorB15
import Derived.Test.YtgmodehldmahiaaGreatDoorB16
set_option linter.unusedVariables false
set_option linter.unusedSimpArgs false
set_option maxRecDepth 8192
set_option maxHeartbeats 40000000
section
namespace Go.Proofs.YtgmodehldmahiaaGreatDoor
open Go Go.RowKit Go.Tm
structure gU(c:List Int):Prop where
 len:c.length=9
 w:∀x∈c,dI x
@[irreducible] def fB(c:List Int):Array Value:=#[.int .u32 (c.getD 0 0),.int .u32 (c.getD 1 0),.int .u32 (c.getD 2 0),.int .u32 (c.getD 3 0),.int .u32 (c.getD 4 0),.int .u32 (c.getD 5 0),.int .u32 (c.getD 6 0),.int .u32 (c.getD 7 0),.int .u32 (c.getD 8 0)]
theorem iV(c:List Int):fB c=#[.int .u32 (c.getD 0 0),.int .u32 (c.getD 1 0),.int .u32 (c.getD 2 0),.int .u32 (c.getD 3 0),.int .u32 (c.getD 4 0),.int .u32 (c.getD 5 0),.int .u32 (c.getD 6 0),.int .u32 (c.getD 7 0),.int .u32 (c.getD 8 0)]:=by unfold fB;rfl
abbrev kD(c:List Int):Value:= .agg (fB c)
theorem dG(c:List Int):(fB c).size=9:=by simp[iV]
theorem jg(c:List Int):Val true 9 (kD c):=⟨_,rfl,dG c,by
 rw[iV];intro x hx
 simp only[List.mem_cons,List.not_mem_nil,or_false] at hx
 rcases hx with rfl|rfl|rfl|rfl|rfl|rfl|rfl|rfl|rfl<;>rfl⟩
theorem gU.set{c:List Int}(h:gU c)(i:Nat){x:Int}(hx:dI x):gU (c.set i x):=
 ⟨by rw[List.length_set];exact h.len,fun y hy=>by
  rcases List.mem_or_eq_of_mem_set hy with h1|rfl
  ·exact h.w _ h1
  ·exact hx⟩
theorem Zu{c:List Int}(h:c.length=9):∃r0 r1 r2 r3 r4 r5 r6 r7 pc,c=[r0,r1,r2,r3,r4,r5,r6,r7,pc]:=by
 match c,h with
 |[r0,r1,r2,r3,r4,r5,r6,r7,pc],_=>exact⟨_,_,_,_,_,_,_,_,_,rfl⟩
theorem jm:Ty Tryz.prog 119 9 true:=⟨ay,ay,aC,ay⟩
abbrev qJ:=Int×Int×Int×Int
abbrev vZ(x:qJ):Value:= .agg #[.int .u32 x.1,.int .u32 x.2.1,.int .u32 x.2.2.1,.int .u32 x.2.2.2]
def jB(x:qJ):Prop:=dI x.1∧dI x.2.1∧dI x.2.2.1∧dI x.2.2.2
theorem J6(x:qJ):Val true 4 (vZ x):=⟨_,rfl,rfl,XH⟩
theorem PK:Ty Tryz.prog 124 4 true:=⟨ay,ay,aC,ay⟩
theorem al5(c:List Int)(k v:Int)(w:World)(h:c.length=9):Calls Tryz.prog 136 #[kD c,.int .i64 k,.int .u32 v] w fun en w'=>en=.returned (kD (c.set 0 (Call.tF k v)))∧Below w.heap.size w w':=by
 obtain⟨r0,r1,r2,r3,r4,r5,r6,r7,pc,rfl⟩:=Zu h
 have:=Call.afC r0 r1 r2 r3 r4 r5 r6 r7 pc k v w
 simpa[kD,iV] using this
def sS(c:List Int):qJ:=(c.getD 0 0,c.getD 1 0,c.getD 2 0,c.getD 3 0)
theorem alJ(c:List Int)(w:World)(h:c.length=9):Calls Tryz.prog 115 #[kD c] w fun en w'=>en=.returned (vZ (sS c))∧Below w.heap.size w w':=by
 obtain⟨r0,r1,r2,r3,r4,r5,r6,r7,pc,rfl⟩:=Zu h
 have:=Call.afj r0 r1 r2 r3 r4 r5 r6 r7 pc w
 simpa[kD,iV,sS,vZ] using this
theorem SI{c:List Int}(h:gU c):jB (sS c):=by
 obtain⟨h1,h2⟩:=h
 obtain⟨r0,r1,r2,r3,r4,r5,r6,r7,pc,rfl⟩:=Zu h1
 exact⟨h2 _ (by simp[sS]),h2 _ (by simp[sS]),h2 _ (by simp[sS]),h2 _ (by simp[sS])⟩
structure Pf where
 c:List Int
 mem:ByteArray
 code:Int
 p0:Int
 b0:Bool
 p1:Int
 b1:Bool
 p2:Int
 b2:Bool
 p3:Int
 b3:Bool
 x:qJ
abbrev qK(n:Int):Prop:=(Lit.int .i64 n).wf=true
structure Pf.Ok(q:Pf):Prop where
 c:gU q.c
 mem:q.mem.size≤maxLen
 code:qK q.code
 p0:qK q.p0
 p1:qK q.p1
 p2:qK q.p2
 p3:qK q.p3
 x:jB q.x
def Pf.rest(q:Pf):List Value:=[.int .u32 (q.c.getD 0 0),.int .u32 (q.c.getD 1 0),.int .u32 (q.c.getD 2 0),.int .u32 (q.c.getD 3 0),.int .u32 (q.c.getD 4 0),.int .u32 (q.c.getD 5 0),.int .u32 (q.c.getD 6 0),.int .u32 (q.c.getD 7 0),.int .u32 (q.c.getD 8 0),.string q.mem,.int .i64 q.code,.int .i64 q.p0,.bool q.b0,.int .i64 q.p1,.bool q.b1,.int .i64 q.p2,.bool q.b2,.int .i64 q.p3,.bool q.b3,.int .u32 q.x.1,.int .u32 q.x.2.1,.int .u32 q.x.2.2.1,.int .u32 q.x.2.2.2]
theorem Po{n:Int}:dI n↔(Lit.int .u32 n).wf=true:=by
 unfold dI
 simp[Lit.wf,IntKind.min,IntKind.max,IntKind.signed,IntKind.bits]
theorem Pf.Ok.rest{q:Pf}(h:q.Ok):aT.wW q.rest:=by
 obtain⟨c,mem,code,p0,b0,p1,b1,p2,b2,p3,b3,n,a,b,d⟩:=q
 obtain⟨⟨h1,h2⟩,h3,h4,h5,h6,h7,h8,h9,h10,h11,h12⟩:=h
 obtain⟨r0,r1,r2,r3,r4,r5,r6,r7,pc,rfl⟩:=Zu h1
 refine⟨r0,r1,r2,r3,r4,r5,r6,r7,pc,mem,code,p0,b0,p1,b1,p2,b2,p3,b3,n,a,b,d,rfl,h3,?_,?_⟩
 ·intro x hx
  rw[←Po]
  simp only[List.mem_cons,List.not_mem_nil,or_false] at hx
  rcases hx with rfl|rfl|rfl|rfl|rfl|rfl|rfl|rfl|rfl|rfl|rfl|rfl|rfl
  all_goals first|assumption|exact h2 _ aI
 ·intro x hx
  simp only[List.mem_cons,List.not_mem_nil,or_false] at hx
  rcases hx with rfl|rfl|rfl|rfl|rfl<;>assumption
theorem agU{l:List Value}(h:aT.wW l):∃q:Pf,q.Ok∧l=q.rest:=by
 obtain⟨r0,r1,r2,r3,r4,r5,r6,r7,pc,mem,code,p0,b0,p1,b1,p2,b2,p3,b3,n,a,b,d,rfl,hm,h32,h64⟩:=h
 simp only[List.forall_mem_cons,←Po] at h32 h64
 obtain⟨g0,g1,g2,g3,g4,g5,g6,g7,g8,g9,g10,g11,g12,_⟩:=h32
 obtain⟨f0,f1,f2,f3,f4,_⟩:=h64
 refine⟨⟨[r0,r1,r2,r3,r4,r5,r6,r7,pc],mem,code,p0,b0,p1,b1,p2,b2,p3,b3,n,a,b,d⟩,⟨⟨rfl,?_⟩,hm,f0,f1,f2,f3,f4,g9,g10,g11,g12⟩,rfl⟩
 intro x hx
 simp only[List.mem_cons,List.not_mem_nil,or_false] at hx
 rcases hx with rfl|rfl|rfl|rfl|rfl|rfl|rfl|rfl|rfl<;>assumption
@[irreducible] def iA(pid par st:Int)(q:Pf):Array Value:=#[.int .i64 pid,.int .i64 par,.int .i64 st,.int .u32 (q.c.getD 0 0),.int .u32 (q.c.getD 1 0),.int .u32 (q.c.getD 2 0),.int .u32 (q.c.getD 3 0),.int .u32 (q.c.getD 4 0),.int .u32 (q.c.getD 5 0),.int .u32 (q.c.getD 6 0),.int .u32 (q.c.getD 7 0),.int .u32 (q.c.getD 8 0),.string q.mem,.int .i64 q.code,.int .i64 q.p0,.bool q.b0,.int .i64 q.p1,.bool q.b1,.int .i64 q.p2,.bool q.b2,.int .i64 q.p3,.bool q.b3,.int .u32 q.x.1,.int .u32 q.x.2.1,.int .u32 q.x.2.2.1,.int .u32 q.x.2.2.2]
theorem eD(pid par st:Int)(q:Pf):iA pid par st q=#[.int .i64 pid,.int .i64 par,.int .i64 st,.int .u32 (q.c.getD 0 0),.int .u32 (q.c.getD 1 0),.int .u32 (q.c.getD 2 0),.int .u32 (q.c.getD 3 0),.int .u32 (q.c.getD 4 0),.int .u32 (q.c.getD 5 0),.int .u32 (q.c.getD 6 0),.int .u32 (q.c.getD 7 0),.int .u32 (q.c.getD 8 0),.string q.mem,.int .i64 q.code,.int .i64 q.p0,.bool q.b0,.int .i64 q.p1,.bool q.b1,.int .i64 q.p2,.bool q.b2,.int .i64 q.p3,.bool q.b3,.int .u32 q.x.1,.int .u32 q.x.2.1,.int .u32 q.x.2.2.1,.int .u32 q.x.2.2.2]:=by unfold iA;rfl
section
variable (pid par st:Int) (q:Pf)
theorem vD:(iA pid par st q).size=26:=by rw[eD];rfl
theorem qY:Val true 26 (.agg (iA pid par st q)):=⟨_,rfl,vD _ _ _ _,by
 rw[eD];intro x hx
 simp only[List.mem_cons,List.not_mem_nil,or_false] at hx
 rcases hx with rfl|rfl|rfl|rfl|rfl|rfl|rfl|rfl|rfl|rfl|rfl|rfl|rfl|rfl|rfl|rfl|rfl|rfl|rfl|rfl|rfl|rfl|rfl|rfl|rfl|rfl<;>rfl⟩
theorem fO:(iA pid par st q)[0]?=some (.int .i64 pid):=by rw[eD];rfl
theorem fM:(iA pid par st q)[1]?=some (.int .i64 par):=by rw[eD];rfl
theorem fK:(iA pid par st q)[2]?=some (.int .i64 st):=by rw[eD];rfl
theorem d_:(iA pid par st q)[12]?=some (.string q.mem):=by rw[eD];rfl
theorem dM:(iA pid par st q)[13]?=some (.int .i64 q.code):=by rw[eD];rfl
theorem dZ:(iA pid par st q)[14]?=some (.int .i64 q.p0):=by rw[eD];rfl
theorem dY:(iA pid par st q)[15]?=some (.bool q.b0):=by rw[eD];rfl
theorem dX:(iA pid par st q)[16]?=some (.int .i64 q.p1):=by rw[eD];rfl
theorem dW:(iA pid par st q)[17]?=some (.bool q.b1):=by rw[eD];rfl
theorem dV:(iA pid par st q)[18]?=some (.int .i64 q.p2):=by rw[eD];rfl
theorem dU:(iA pid par st q)[19]?=some (.bool q.b2):=by rw[eD];rfl
theorem dS:(iA pid par st q)[20]?=some (.int .i64 q.p3):=by rw[eD];rfl
theorem dR:(iA pid par st q)[21]?=some (.bool q.b3):=by rw[eD];rfl
theorem dQ:(iA pid par st q)[22]?=some (.int .u32 q.x.1):=by rw[eD];rfl
theorem dP:(iA pid par st q)[23]?=some (.int .u32 q.x.2.1):=by rw[eD];rfl
theorem dO:(iA pid par st q)[24]?=some (.int .u32 q.x.2.2.1):=by rw[eD];rfl
theorem dN:(iA pid par st q)[25]?=some (.int .u32 q.x.2.2.2):=by rw[eD];rfl
theorem alA(x:Int):(iA pid par st q).setIfInBounds 0 (.int .i64 x)=iA x par st q:=by simp only[eD];rfl
theorem alz(x:Int):(iA pid par st q).setIfInBounds 1 (.int .i64 x)=iA pid x st q:=by simp only[eD];rfl
theorem VL(x:Int):(iA pid par st q).setIfInBounds 2 (.int .i64 x)=iA pid par x q:=by simp only[eD];rfl
theorem PV(x:ByteArray):(iA pid par st q).setIfInBounds 12 (.string x)=iA pid par st {q with mem:=x}:=by simp only[eD];rfl
theorem ag0(x:Int):(iA pid par st q).setIfInBounds 13 (.int .i64 x)=iA pid par st {q with code:=x}:=by simp only[eD];rfl
theorem Yu(x:Int):(iA pid par st q).setIfInBounds 14 (.int .i64 x)=iA pid par st {q with p0:=x}:=by simp only[eD];rfl
theorem Yt(x:Bool):(iA pid par st q).setIfInBounds 15 (.bool x)=iA pid par st {q with b0:=x}:=by simp only[eD];rfl
theorem Yr(x:Int):(iA pid par st q).setIfInBounds 16 (.int .i64 x)=iA pid par st {q with p1:=x}:=by simp only[eD];rfl
theorem Yq(x:Bool):(iA pid par st q).setIfInBounds 17 (.bool x)=iA pid par st {q with b1:=x}:=by simp only[eD];rfl
theorem Yp(x:Int):(iA pid par st q).setIfInBounds 18 (.int .i64 x)=iA pid par st {q with p2:=x}:=by simp only[eD];rfl
theorem Yo(x:Bool):(iA pid par st q).setIfInBounds 19 (.bool x)=iA pid par st {q with b2:=x}:=by simp only[eD];rfl
theorem Yn(x:Int):(iA pid par st q).setIfInBounds 20 (.int .i64 x)=iA pid par st {q with p3:=x}:=by simp only[eD];rfl
theorem Ym(x:Bool):(iA pid par st q).setIfInBounds 21 (.bool x)=iA pid par st {q with b3:=x}:=by simp only[eD];rfl
theorem Yl(x:Int):(iA pid par st q).setIfInBounds 22 (.int .u32 x)=iA pid par st {q with x:=(x,q.x.2.1,q.x.2.2.1,q.x.2.2.2)}:=by simp only[eD];rfl
theorem Yk(x:Int):(iA pid par st q).setIfInBounds 23 (.int .u32 x)=iA pid par st {q with x:=(q.x.1,x,q.x.2.2.1,q.x.2.2.2)}:=by simp only[eD];rfl
theorem Yj(x:Int):(iA pid par st q).setIfInBounds 24 (.int .u32 x)=iA pid par st {q with x:=(q.x.1,q.x.2.1,x,q.x.2.2.2)}:=by simp only[eD];rfl
theorem Yi(x:Int):(iA pid par st q).setIfInBounds 25 (.int .u32 x)=iA pid par st {q with x:=(q.x.1,q.x.2.1,q.x.2.2.1,x)}:=by simp only[eD];rfl
variable {pid par st q}
theorem aD.cpu{W:World}{b:Nat}{t:TypeId}(h:aD W b (iA pid par st q) t):Cells W b 3 (kD q.c).cells.toList:=fun j v hv=>by
 rw[h.rules.1]
 have hj:j<9:=by
  have:=(List.getElem?_eq_some_iff.1 hv).1
  rwa[show(kD q.c).cells=fB q.c from rfl,Array.length_toList,dG] at this
 rw[show(kD q.c).cells=fB q.c from rfl,iV] at hv
 rw[eD]
 obtain rfl|rfl|rfl|rfl|rfl|rfl|rfl|rfl|rfl:j=0∨j=1∨j=2∨j=3∨j=4∨j=5∨j=6∨j=7∨j=8:=by omega
 all_goals exact hv
theorem JU(c:List Int):((iA pid par st q).toList.take 3++(kD c).cells.toList++(iA pid par st q).toList.drop (3+9)).toArray=iA pid par st {q with c:=c}:=by
 rw[show(kD c).cells=fB c from rfl,iV,eD,eD];rfl
theorem alx(x:Int):((iA pid par st q).toList.take 2++(Value.int .i64 x).cells.toList++(iA pid par st q).toList.drop (2+1)).toArray=iA pid par x q:=by
 rw[eD,eD];rfl
theorem agZ(x:qJ):((iA pid par st q).toList.take 22++(vZ x).cells.toList++(iA pid par st q).toList.drop (22+4)).toArray=iA pid par st {q with x:=x}:=by
 rw[eD,eD];rfl
end
theorem Pf.Ok.rest'{q:Pf}(pid par st:Int)(h:q.Ok):aT.eT ⟨pid,par,st,q.rest,h.rest⟩=iA pid par st q:=by
 rw[aT.vg,eD];rfl
open Classical in
noncomputable def BH(pid par st:Int)(q:Pf):aT.dz:=if h:q.Ok then⟨pid,par,st,q.rest,h.rest⟩ else⟨pid,par,st,aT.RL,(aT.kQ 0).ok⟩
theorem DR(pid par st:Int)(q:Pf):(BH pid par st q).pid=pid:=by unfold BH;split<;>rfl
theorem Ia(pid par st:Int)(q:Pf):(BH pid par st q).par=par:=by unfold BH;split<;>rfl
theorem Pv(pid par st:Int)(q:Pf):(BH pid par st q).st=st:=by unfold BH;split<;>rfl
theorem F9{pid par st:Int}{q:Pf}(h:q.Ok):aT.eT (BH pid par st q)=iA pid par st q:=by
 unfold BH;rw[dif_pos h];exact h.rest' pid par st
theorem VK(p:aT.dz):∃q:Pf,q.Ok∧p=BH p.pid p.par p.st q:=by
 obtain⟨pid,par,st,l,hok⟩:=p
 obtain⟨q,hq,rfl⟩:=agU hok
 exact⟨q,hq,by unfold BH;rw[dif_pos hq]⟩
noncomputable def pq(p:aT.dz):Pf:=Classical.choose (VK p)
theorem jR(p:aT.dz):(pq p).Ok:=(Classical.choose_spec (VK p)).1
theorem an3(p:aT.dz):BH p.pid p.par p.st (pq p)=p:=(Classical.choose_spec (VK p)).2.symm
theorem wM(p:aT.dz):aT.eT p=iA p.pid p.par p.st (pq p):=by
 conv=>lhs;rw[←an3 p]
 exact F9 (jR p)
end Go.Proofs.YtgmodehldmahiaaGreatDoor
end
section
namespace Go.Proofs.YtgmodehldmahiaaGreatDoor
open Go Go.RowKit Go.Tm
structure Bx where
 ms:List (Int×ByteArray)
 lost:Int
abbrev Ev:=Int×Int×Int×Int
abbrev Ms:=Int×ByteArray
abbrev YS(e:Ev):Value:= .agg #[.int .i64 e.1,.int .u32 e.2.1,.int .u32 e.2.2.1,.int .u64 e.2.2.2]
abbrev Bg(m:Ms):Value:= .agg #[.int .u64 m.1,.string m.2]
abbrev LM(m:Ms):Value:= .agg #[.int .i64 m.1,.string m.2]
abbrev rE(l:List ByteArray):List Value:=l.map Value.string
theorem ad_(e:Ev):Val true 4 (YS e):=⟨_,rfl,rfl,XH⟩
theorem JC(e:Ms):Val true 2 (Bg e):=⟨_,rfl,rfl,FX⟩
theorem JB(e:Ms):Val true 2 (LM e):=⟨_,rfl,rfl,FX⟩
theorem ajp:Ty Tryz.prog 134 4 true:=⟨ay,ay,aC,ay⟩
theorem XP:Ty Tryz.prog 138 2 true:=⟨ay,ay,aC,ay⟩
theorem acU:Ty Tryz.prog 136 2 true:=⟨ay,ay,aC,ay⟩
theorem Nl:Ty Tryz.prog 93 2 true:=⟨ay,ay,aC,ay⟩
abbrev QC(u:Value)(b:Bx):Value:= .agg #[u,.int .i64 b.lost]
abbrev vS(vs:List Value)(l:List Bx):List Value:=List.zipWith QC vs l
structure Rk(W:World)(v:Value)(vs:List Value)(l:List Bx):Prop where
 sl:Sl W true 2 v (vS vs l)
 len:vs.length=l.length
 el:∀(i:Nat) (u:Value) (x:Bx),vs[i]?=some u→l[i]?=some x→Sl W true 2 u (x.ms.map Bg)
theorem Rk.below{w w':World}{v:Value}{vs:List Value}{l:List Bx}(h:Rk w v vs l)(hb:Below w.heap.size w w'):Rk w' v vs l:=
 ⟨h.sl.below hb,h.len,fun i u x hu hx=>(h.el i u x hu hx).below hb⟩
structure Ks where
 P:Value
 L:Value
 S:Value
 Pi:Value
 H:Value
 Im:Value
 Ou:Value
 In:Value
 Bx:Value
 bs:List Value
 Tr:Value
 Se:Value
structure Kn where
 P:List aT.dz
 L:List Int
 left:Int
 S:List Sleep.Al
 Pi:List Value
 hs:Int
 H:List Heap.Sp
 now:Int
 im:List ByteArray
 ou:List aW.Ch
 ins:List aW.Ch
 bx:List Bx
 co:ByteArray
 tr:List Ev
 se:List Ms
 want:Int
 gone:Int
structure KR(W:World)(s:Ks)(k:Kn):Prop where
 P:Sl W true 26 s.P (aT.rH k.P)
 L:Sl W false 1 s.L (ints k.L)
 S:Sl W true 2 s.S (Sleep.sM k.S)
 Pi:Sl W true 3 s.Pi k.Pi
 H:Sl W true 3 s.H (Heap.pW k.H)
 Im:Sl W false 1 s.Im (rE k.im)
 Ou:Sl W true 5 s.Ou (aW.oC k.ou)
 In:Sl W true 5 s.In (aW.oC k.ins)
 Bx:Rk W s.Bx s.bs k.bx
 Tr:Sl W true 4 s.Tr (k.tr.map YS)
 Se:Sl W true 2 s.Se (k.se.map LM)
 pi:∀x∈k.Pi,Pipe.nL x
theorem KR.below{w w':World}{s:Ks}{k:Kn}(h:KR w s k)(hb:Below w.heap.size w w'):KR w' s k:=
 ⟨h.P.below hb,h.L.below hb,h.S.below hb,h.Pi.below hb,h.H.below hb,h.Im.below hb,h.Ou.below hb,h.In.below hb,h.Bx.below hb,h.Tr.below hb,h.Se.below hb,h.pi⟩
@[irreducible] def kC(s:Ks)(k:Kn):Array Value:=#[s.P,s.L,.int .i64 k.left,s.S,s.Pi,.int .i64 k.hs,s.H,.int .u64 k.now,s.Im,s.Ou,s.In,s.Bx,.string k.co,s.Tr,s.Se,.int .i64 k.want,.int .i64 k.gone]
theorem gT(s:Ks)(k:Kn):kC s k=#[s.P,s.L,.int .i64 k.left,s.S,s.Pi,.int .i64 k.hs,s.H,.int .u64 k.now,s.Im,s.Ou,s.In,s.Bx,.string k.co,s.Tr,s.Se,.int .i64 k.want,.int .i64 k.gone]:=by unfold kC;rfl
abbrev kT:TypeId:=155
section
variable (s:Ks) (k:Kn)
theorem kY:(kC s k).size=17:=by rw[gT];rfl
theorem iQ:(kC s k)[0]?=some (s.P):=by rw[gT];rfl
theorem iP:(kC s k)[1]?=some (s.L):=by rw[gT];rfl
theorem iO:(kC s k)[2]?=some (.int .i64 k.left):=by rw[gT];rfl
theorem iN:(kC s k)[3]?=some (s.S):=by rw[gT];rfl
theorem iM:(kC s k)[4]?=some (s.Pi):=by rw[gT];rfl
theorem iL:(kC s k)[5]?=some (.int .i64 k.hs):=by rw[gT];rfl
theorem iK:(kC s k)[6]?=some (s.H):=by rw[gT];rfl
theorem iG:(kC s k)[7]?=some (.int .u64 k.now):=by rw[gT];rfl
theorem iJ:(kC s k)[8]?=some (s.Im):=by rw[gT];rfl
theorem iI:(kC s k)[9]?=some (s.Ou):=by rw[gT];rfl
theorem fU:(kC s k)[10]?=some (s.In):=by rw[gT];rfl
theorem fT:(kC s k)[11]?=some (s.Bx):=by rw[gT];rfl
theorem fQ:(kC s k)[12]?=some (.string k.co):=by rw[gT];rfl
theorem fP:(kC s k)[13]?=some (s.Tr):=by rw[gT];rfl
theorem fI:(kC s k)[14]?=some (s.Se):=by rw[gT];rfl
theorem fH:(kC s k)[15]?=some (.int .i64 k.want):=by rw[gT];rfl
theorem fC:(kC s k)[16]?=some (.int .i64 k.gone):=by rw[gT];rfl
theorem aoa(v:Value):(kC s k).setIfInBounds 0 v=kC {s with P:=v} k:=by simp only[gT];rfl
theorem an'(v:Value):(kC s k).setIfInBounds 1 v=kC {s with L:=v} k:=by simp only[gT];rfl
theorem an_(x:Int):(kC s k).setIfInBounds 2 (.int .i64 x)=kC s {k with left:=x}:=by simp only[gT];rfl
theorem an9(v:Value):(kC s k).setIfInBounds 3 v=kC {s with S:=v} k:=by simp only[gT];rfl
theorem acY(v:Value):(kC s k).setIfInBounds 4 v=kC {s with Pi:=v} k:=by simp only[gT];rfl
theorem an8(x:Int):(kC s k).setIfInBounds 5 (.int .i64 x)=kC s {k with hs:=x}:=by simp only[gT];rfl
theorem an7(v:Value):(kC s k).setIfInBounds 6 v=kC {s with H:=v} k:=by simp only[gT];rfl
theorem an6(x:Int):(kC s k).setIfInBounds 7 (.int .u64 x)=kC s {k with now:=x}:=by simp only[gT];rfl
theorem VU(v:Value):(kC s k).setIfInBounds 11 v=kC {s with Bx:=v} k:=by simp only[gT];rfl
theorem ad3(x:ByteArray):(kC s k).setIfInBounds 12 (.string x)=kC s {k with co:=x}:=by simp only[gT];rfl
theorem ad2(v:Value):(kC s k).setIfInBounds 13 v=kC {s with Tr:=v} k:=by simp only[gT];rfl
theorem VT(v:Value):(kC s k).setIfInBounds 14 v=kC {s with Se:=v} k:=by simp only[gT];rfl
theorem VR(x:Int):(kC s k).setIfInBounds 15 (.int .i64 x)=kC s {k with want:=x}:=by simp only[gT];rfl
theorem alF(x:Int):(kC s k).setIfInBounds 16 (.int .i64 x)=kC s {k with gone:=x}:=by simp only[gT];rfl
end
def kind:Value→Nat
 |.int .i64 _=>1
 |.int .u32 _=>2
 |.int .u64 _=>3
 |.string _=>4
 |.slice _ _ _=>5
 |_=>0
def nH:List Nat:=[5,5,1,5,5,1,5,3,5,5,5,5,4,5,5,1,1]
theorem kG{w:World}{ag:Bool}{n:Nat}{v:Value}{xs:List Value}(h:Sl w ag n v xs):kind v=5:=by
 obtain⟨_,a,cap,rfl,_⟩:=h;rfl
theorem KR.kinds{W:World}{s:Ks}{k:Kn}(h:KR W s k):(kC s k).toList.map kind=nH:=by
 rw[gT]
 simp only[List.map_cons,List.map_nil,kG h.P,kG h.L,kG h.S,kG h.Pi,kG h.H,kG h.Im,kG h.Ou,kG h.In,kG h.Bx.sl,kG h.Tr,kG h.Se]
 rfl
def noKind(pat:List Nat):Bool:=(List.range 18).all fun o=>decide ((nH.drop o).take pat.length≠pat)
theorem qp{W:World}{s:Ks}{k:Kn}{b:Nat}{t:TypeId}{n:Nat}{v:Value}{xs:List Value}(h:KR W s k)(hb:aD W b (kC s k) t)(hv:Sl W true n v xs)(pat:List Nat)(hp:∀x∈xs,x.cells.toList.map kind=pat)(hno:noKind pat=true):Apart b v xs:=by
 cases xs with
 |nil=>exact .inl rfl
 |cons x r=>
  right
  intro b' hb' yT
  subst yT
  obtain⟨a,cap,rfl,_⟩:=hv.shape
  obtain⟨b2,off,rfl,hlt,hc⟩:=hv.at (i:=0) (x:=x) rfl
  simp only[Value.ownBlock,Option.some.injEq] at hb'
  subst hb'
  have hx:=hp x aI
  have hcell:∀j c,x.cells.toList[j]?=some c→(kC s k).toList[off+j]?=some c:=fun j c hj=>by
   have:=hc j c hj
   rw[Nat.zero_mul,Nat.add_zero,hb.rules.1] at this
   simpa using this
  have hk:=h.kinds
  have hk2:∀j q,pat[j]?=some q→nH[off+j]?=some q:=fun j q hq=>by
   exact aiB
  have h1:(nH.drop off).take pat.length=pat:=aiL
  by_cases ho:off<18
  ·exact aik
  ·have h2:=List.all_eq_true.1 hno 17 (List.mem_range.2 aj)
   simp only[decide_eq_true_eq] at h2
   apply h2
   rw[List.drop_of_length_le (by simp[nH];omega)] at h1
   rw[List.drop_of_length_le (by simp[nH])]
   exact h1
section
variable {W:World} {s:Ks} {k:Kn} {b:Nat} {t:TypeId} {v:Value}
theorem rY{l:List aT.dz}(hb:aD W b (kC s k) t)(hv:Sl W true 26 v (aT.rH l)):Apart b v (aT.rH l):=by
 cases l with
 |nil=>exact .inl rfl
 |cons x r=>
  right
  intro b' hb' yT
  subst yT
  obtain⟨a,cap,rfl,_⟩:=hv.shape
  obtain⟨b2,off,rfl,hlt,hc⟩:=hv.at (i:=0) (x:=aT.jQ x) rfl
  simp only[Value.ownBlock,Option.some.injEq] at hb'
  subst hb'
  have hs:(aT.jQ x).cells.toList.length=26:=by show(aT.eT x).toList.length=26;rw[Array.length_toList,aT.jI]
  have:=hc 25 _ (List.getElem?_eq_getElem aj)
  rw[hb.rules.1,Array.getElem?_eq_none U_] at this
  cases this
theorem FB{l:List Sleep.Al}(h:KR W s k)(hb:aD W b (kC s k) t)(hv:Sl W true 2 v (Sleep.sM l)):Apart b v (Sleep.sM l):=
 qp h hb hv [3,1] (fun x hx=>oW) aC
theorem Td{l:List Value}(hl:∀x∈l,Pipe.nL x)(h:KR W s k)(hb:aD W b (kC s k) t)(hv:Sl W true 3 v l):Apart b v l:=
 qp h hb hv [4,1,1] (fun x hx=>by obtain⟨_,_,_,rfl,_⟩:=hl x hx;rfl) aC
theorem AV{l:List Heap.Sp}(h:KR W s k)(hb:aD W b (kC s k) t)(hv:Sl W true 3 v (Heap.pW l)):Apart b v (Heap.pW l):=
 qp h hb hv [1,1,1] (fun x hx=>oW) aC
theorem NZ{l:List aW.Ch}(h:KR W s k)(hb:aD W b (kC s k) t)(hv:Sl W true 5 v (aW.oC l)):Apart b v (aW.oC l):=
 qp h hb hv [1,1,1,1,1] (fun x hx=>oW) aC
theorem NY{l:List Ev}(h:KR W s k)(hb:aD W b (kC s k) t)(hv:Sl W true 4 v (l.map YS)):Apart b v (l.map YS):=
 qp h hb hv [1,2,2,3] (fun x hx=>oW) aC
theorem NW{l:List Ms}(h:KR W s k)(hb:aD W b (kC s k) t)(hv:Sl W true 2 v (l.map LM)):Apart b v (l.map LM):=
 qp h hb hv [1,4] (fun x hx=>oW) aC
theorem Fz{l:List Ms}(h:KR W s k)(hb:aD W b (kC s k) t)(hv:Sl W true 2 v (l.map Bg)):Apart b v (l.map Bg):=
 qp h hb hv [3,4] (fun x hx=>oW) aC
end
structure KW(w:World)(b:Nat)(s:Ks)(k:Kn):Prop where
 box:aD w b (kC s k) kT
 kr:KR w s k
 aL:Apart b s.L (ints k.L)
 LX:Apart b s.Im (rE k.im)
 MZ:Apart b s.Bx (vS s.bs k.bx)
section
variable {w w':World} {b:Nat} {s:Ks} {k:Kn}
theorem KW.lt(h:KW w b s k):b<w.heap.size:=h.box.lt
theorem KW.below(h:KW w b s k)(hb:Below w.heap.size w w'):KW w' b s k:=⟨h.box.below hb h.lt,h.kr.below hb,h.aL,h.LX,h.MZ⟩
theorem KW.ng(h:KW w b s k)(hg:w.grownBy w' (some b)):KR w' s k:=
 ⟨h.kr.P.bO hg (rY h.box h.kr.P),h.kr.L.bO hg h.aL,h.kr.S.bO hg (FB h.kr h.box h.kr.S),h.kr.Pi.bO hg (Td h.kr.pi h.kr h.box h.kr.Pi),h.kr.H.bO hg (AV h.kr h.box h.kr.H),
  h.kr.Im.bO hg h.LX,h.kr.Ou.bO hg (NZ h.kr h.box h.kr.Ou),h.kr.In.bO hg (NZ h.kr h.box h.kr.In),
  ⟨h.kr.Bx.sl.bO hg h.MZ,h.kr.Bx.len,fun i u x hu hx=>(h.kr.Bx.el i u x hu hx).bO hg (Fz h.kr h.box (h.kr.Bx.el i u x hu hx))⟩,
  h.kr.Tr.bO hg (NY h.kr h.box h.kr.Tr),h.kr.Se.bO hg (NW h.kr h.box h.kr.Se),h.kr.pi⟩
theorem KW.C8(h:KW w b s k){v:Value}{l:List aT.dz}(hv:Sl w true 26 v (aT.rH l)):KW (w.setCell ⟨b,0,none⟩ v) b {s with P:=v} {k with P:=l}:=
 ⟨((h.box.set 0 v).cast (aoa s k v)).cast wQ,{h.ng (aO w b 0 v) with P:=hv.bO (aO w b 0 v) (rY h.box hv)},h.aL,h.LX,h.MZ⟩
theorem KW.xk(h:KW w b s k){v:Value}{l:List Sleep.Al}(hv:Sl w true 2 v (Sleep.sM l)):KW (w.setCell ⟨b,3,none⟩ v) b {s with S:=v} {k with S:=l}:=
 ⟨((h.box.set 3 v).cast (an9 s k v)).cast wQ,{h.ng (aO w b 3 v) with S:=hv.bO (aO w b 3 v) (FB h.kr h.box hv)},h.aL,h.LX,h.MZ⟩
theorem KW.I5(h:KW w b s k){v:Value}{l:List Value}(hv:Sl w true 3 v l)(hl:∀x∈l,Pipe.nL x):KW (w.setCell ⟨b,4,none⟩ v) b {s with Pi:=v} {k with Pi:=l}:=
 ⟨((h.box.set 4 v).cast (acY s k v)).cast wQ,{h.ng (aO w b 4 v) with Pi:=hv.bO (aO w b 4 v) (Td hl h.kr h.box hv),pi:=hl},h.aL,h.LX,h.MZ⟩
theorem KW.XR(h:KW w b s k){v:Value}{l:List Heap.Sp}(hv:Sl w true 3 v (Heap.pW l)):KW (w.setCell ⟨b,6,none⟩ v) b {s with H:=v} {k with H:=l}:=
 ⟨((h.box.set 6 v).cast (an7 s k v)).cast wQ,{h.ng (aO w b 6 v) with H:=hv.bO (aO w b 6 v) (AV h.kr h.box hv)},h.aL,h.LX,h.MZ⟩
theorem KW.Dw(h:KW w b s k){v:Value}{l:List Int}(hv:Sl w false 1 v (ints l))(ha:Apart b v (ints l)):KW (w.setCell ⟨b,1,none⟩ v) b {s with L:=v} {k with L:=l}:=
 ⟨((h.box.set 1 v).cast (an' s k v)).cast wQ,{h.ng (aO w b 1 v) with L:=hv.bO (aO w b 1 v) ha},ha,h.LX,h.MZ⟩
theorem KW.an0(h:KW w b s k){v:Value}{l:List Ev}(hv:Sl w true 4 v (l.map YS)):KW (w.setCell ⟨b,13,none⟩ v) b {s with Tr:=v} {k with tr:=l}:=
 ⟨((h.box.set 13 v).cast (ad2 s k v)).cast wQ,{h.ng (aO w b 13 v) with Tr:=hv.bO (aO w b 13 v) (NY h.kr h.box hv)},h.aL,h.LX,h.MZ⟩
theorem KW.an1(h:KW w b s k){v:Value}{l:List Ms}(hv:Sl w true 2 v (l.map LM)):KW (w.setCell ⟨b,14,none⟩ v) b {s with Se:=v} {k with se:=l}:=
 ⟨((h.box.set 14 v).cast (VT s k v)).cast wQ,{h.ng (aO w b 14 v) with Se:=hv.bO (aO w b 14 v) (NW h.kr h.box hv)},h.aL,h.LX,h.MZ⟩
theorem KW.set_left(h:KW w b s k)(x:Int):KW (w.setCell ⟨b,2,none⟩ (.int .i64 x)) b s {k with left:=x}:=
 ⟨(h.box.set 2 (.int .i64 x)).cast (an_ s k x),{h.ng (aO w b 2 (.int .i64 x)) with},h.aL,h.LX,h.MZ⟩
theorem KW.VJ(h:KW w b s k)(x:Int):KW (w.setCell ⟨b,5,none⟩ (.int .i64 x)) b s {k with hs:=x}:=
 ⟨(h.box.set 5 (.int .i64 x)).cast (an8 s k x),{h.ng (aO w b 5 (.int .i64 x)) with},h.aL,h.LX,h.MZ⟩
theorem KW.Yb(h:KW w b s k)(x:Int):KW (w.setCell ⟨b,7,none⟩ (.int .u64 x)) b s {k with now:=x}:=
 ⟨(h.box.set 7 (.int .u64 x)).cast (an6 s k x),{h.ng (aO w b 7 (.int .u64 x)) with},h.aL,h.LX,h.MZ⟩
theorem KW.aln(h:KW w b s k)(x:ByteArray):KW (w.setCell ⟨b,12,none⟩ (.string x)) b s {k with co:=x}:=
 ⟨(h.box.set 12 (.string x)).cast (ad3 s k x),{h.ng (aO w b 12 (.string x)) with},h.aL,h.LX,h.MZ⟩
theorem KW.D5(h:KW w b s k)(x:Int):KW (w.setCell ⟨b,15,none⟩ (.int .i64 x)) b s {k with want:=x}:=
 ⟨(h.box.set 15 (.int .i64 x)).cast (VR s k x),{h.ng (aO w b 15 (.int .i64 x)) with},h.aL,h.LX,h.MZ⟩
theorem KW.JO(h:KW w b s k)(x:Int):KW (w.setCell ⟨b,16,none⟩ (.int .i64 x)) b s {k with gone:=x}:=
 ⟨(h.box.set 16 (.int .i64 x)).cast (alF s k x),{h.ng (aO w b 16 (.int .i64 x)) with},h.aL,h.LX,h.MZ⟩
end
structure Fit(k:Kn):Prop where
 P:k.P.length≤1000000000
 L:k.L.length≤1000000000
 S:k.S.length≤1000000000
 Pi:k.Pi.length≤1000000000
 H:k.H.length≤1000000000
 tr:k.tr.length≤1000000000
 se:k.se.length≤1000000000
 bx:k.bx.length≤1000000000
 im:k.im.length≤9000000000000
 ou:k.ou.length≤1000000000
 ins:k.ins.length≤1000000000
 co:k.co.size≤1000000000
 hs:qK k.hs
 hw:∀x∈k.H,Heap.Dj x
 now:0≤k.now∧k.now≤18446744073709551615
 dx:∀x∈k.im,x.size≤9223372036854775807
 XC:∀x∈k.bx,x.ms.length≤1000000000∧∀m∈x.ms,m.2.size≤9223372036854775807
def jF(B:Nat)(s:Ks)(k:Kn):Prop:=Apart B s.L (ints k.L)∧Apart B s.H (Heap.pW k.H)∧Apart B s.Im (rE k.im)∧Apart B s.Ou (aW.oC k.ou)∧(Apart B s.In (aW.oC k.ins)∧Apart B s.Bx (vS s.bs k.bx)∧Apart B s.S (Sleep.sM k.S))∧Apart B s.Pi k.Pi
def lN(w:World)(b:Nat)(s:Ks)(k:Kn)(s':Ks)(k':Kn):Prop:=∀B,B<w.heap.size→B≠b→jF B s k→jF B s' k'
theorem lN.refl(w:World)(b:Nat)(s:Ks)(k:Kn):lN w b s k s k:=fun _ _ _ h=>h
theorem lN.trans{w w1:World}{b:Nat}{s s1 s2:Ks}{k k1 k2:Kn}(h:lN w b s k s1 k1)(h1:lN w1 b s1 k1 s2 k2)(hz:w.heap.size≤w1.heap.size):lN w b s k s2 k2:=
 fun B hB hb ha=>h1 B (Nat.lt_of_lt_of_le hB hz) hb (h B hB hb ha)
def KS(w:World)(b:Nat)(s:Ks)(k:Kn)(w':World)(k':Kn):Prop:=∃s',KW w' b s' k'∧lN w b s k s' k'
def zP(mG:FuncId)(D:Kn→aT.dz→qJ→Kn×Int×Int):Prop:=∀(b:Nat) (s:Ks) (k:Kn) (p:aT.dz) (x:qJ) (w:World),KW w b s k→Fit k→jB x→
 Calls Tryz.prog mG #[.pointer (some ⟨b,0,none⟩),aT.jQ p,vZ x] w fun en w'=>en=.returned (.tuple #[.int .u32 (D k p x).2.1,.int .i64 (D k p x).2.2])∧KS w b s k w' (D k p x).1∧w.grownBy w' (some b)
theorem F8(v:Value)(l:List aT.dz)(pid par st:Int)(q:Pf)(hq:q.Ok)(w:World)(hv:Sl w true 26 v (aT.rH l))(hby:l.length≤1000000000):
  Calls Tryz.prog 88 #[v,.agg (iA pid par st q)] w fun e w'=>∃v',e=.returned v'∧Sl w' true 26 v' (aT.rH (aT.oF l (BH pid par st q)))∧Below w.heap.size w w':=by
 rw[←F9 hq]
 exact aT.Yf v l (BH pid par st q) w hv aj
theorem alf:∃i,TyM Tryz.prog 134 4 true i (.agg #[.int .i64 0,.int .u32 0,.int .u32 0,.int .u64 0]) 24 54:=by
 have h:(Tryz.prog.info? 134).map (fun i=>(i.zero,i.size,i.bytes))=some (some (.agg #[.int .i64 0,.int .u32 0,.int .u32 0,.int .u64 0]),4,24):=ay
 obtain⟨i,hi,hz,hs,hb⟩:=info_parts h
 exact⟨i,ajp,Tryz.underlying54,hi,hz,hs,hb,rfl⟩
theorem aht(v:Value)(xs:List Value)(w:World)(hv:Sl w true 4 v xs):Calls Tryz.prog 137 #[v] w fun e w'=>(∃ao,e=.returned (.slice ao xs.length xs.length)∧Sl w true 4 (.slice ao xs.length xs.length) xs)∧w=w':=by
 obtain⟨ao,hr,hs⟩:=Sl.xI (m:=xs.length) ajp Tryz.underlying54 hv (xs.length:Int) rfl (Nat.le_refl _)
 rw[List.take_length] at hs
 obtain⟨a,cap,rfl,hl⟩:=hv.shape
 have HS:=ah hs
 clear hs hv
 go_enter Tryz.func137,Tryz.ntmps137
 exact XL
theorem ald:∃i,TyM Tryz.prog 136 2 true i (.agg #[.int .i64 0,.string ⟨#[]⟩]) 24 55:=by
 have h:(Tryz.prog.info? 136).map (fun i=>(i.zero,i.size,i.bytes))=some (some (.agg #[.int .i64 0,.string ⟨#[]⟩]),2,24):=ay
 obtain⟨i,hi,hz,hs,hb⟩:=info_parts h
 exact⟨i,acU,Tryz.underlying55,hi,hz,hs,hb,rfl⟩
theorem YB(v:Value)(xs:List Value)(w:World)(hv:Sl w true 2 v xs):Calls Tryz.prog 205 #[v] w fun e w'=>(∃ao,e=.returned (.slice ao xs.length xs.length)∧Sl w true 2 (.slice ao xs.length xs.length) xs)∧w=w':=by
 obtain⟨ao,hr,hs⟩:=Sl.xI (m:=xs.length) acU Tryz.underlying55 hv (xs.length:Int) rfl (Nat.le_refl _)
 rw[List.take_length] at hs
 obtain⟨a,cap,rfl,hl⟩:=hv.shape
 have HS:=ah hs
 clear hs hv
 go_enter Tryz.func205,Tryz.ntmps205
 exact XL
theorem agw(e v:Int)(w:World):Calls Tryz.prog 138 #[.int .i64 e,.int .u32 v] w fun en w'=>en=.returned (.int .u32 (Call.tF e v))∧Below w.heap.size w w':=Call.ZI e v w
theorem akS:jB (0,0,0,0):=⟨⟨aC,aC⟩,⟨aC,aC⟩,⟨aC,aC⟩,aC,aC⟩
end Go.Proofs.YtgmodehldmahiaaGreatDoor
end
