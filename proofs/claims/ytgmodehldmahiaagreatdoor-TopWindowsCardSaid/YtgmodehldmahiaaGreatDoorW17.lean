/- Part 17 of 50 of the proof of topWindows_holds. Conditions: see each. -/
import Derived.Test.YtgmodehldmahiaaGreatDoorW14
import Derived.Test.YtgmodehldmahiaaGreatDoorW02
import Derived.Test.YtgmodehldmahiaaGreatDoorW03
import Derived.Test.YtgmodehldmahiaaGreatDoorW04
import Derived.Test.YtgmodehldmahiaaGreatDoorW05
import Derived.Test.YtgmodehldmahiaaGreatDoorW06
import Derived.Test.YtgmodehldmahiaaGreatDoorW07
import Derived.Test.YtgmodehldmahiaaGreatDoorW08
import Derived.Test.YtgmodehldmahiaaGreatDoorW09
import Derived.Test.YtgmodehldmahiaaGreatDoorW15
import Derived.Test.YtgmodehldmahiaaGreatDoorW16
set_option linter.unusedVariables false
set_option linter.unusedSimpArgs false
set_option maxRecDepth 8192
set_option maxHeartbeats 40000000
section
namespace Go.Proofs.YtgmodehldmahiaaGreatDoor
open Go Go.RowKit Go.Tm
structure fO(c:List Int):Prop where
 len:c.length=9
 w:∀x∈c,cK x
@[irreducible] def dY(c:List Int):Array Value:=#[.int .u32 (c.getD 0 0),.int .u32 (c.getD 1 0),.int .u32 (c.getD 2 0),.int .u32 (c.getD 3 0),.int .u32 (c.getD 4 0),.int .u32 (c.getD 5 0),.int .u32 (c.getD 6 0),.int .u32 (c.getD 7 0),.int .u32 (c.getD 8 0)]
theorem gK(c:List Int):dY c=#[.int .u32 (c.getD 0 0),.int .u32 (c.getD 1 0),.int .u32 (c.getD 2 0),.int .u32 (c.getD 3 0),.int .u32 (c.getD 4 0),.int .u32 (c.getD 5 0),.int .u32 (c.getD 6 0),.int .u32 (c.getD 7 0),.int .u32 (c.getD 8 0)]:=by unfold dY;rfl
abbrev jm(c:List Int):Value:= .agg (dY c)
theorem b_(c:List Int):(dY c).size=9:=by simp[gK]
theorem gQ(c:List Int):Val true 9 (jm c):=⟨_,rfl,b_ c,by
 rw[gK];intro x hx
 simp only[List.mem_cons,List.not_mem_nil,or_false] at hx
 rcases hx with rfl|rfl|rfl|rfl|rfl|rfl|rfl|rfl|rfl<;>rfl⟩
theorem fO.set{c:List Int}(h:fO c)(i:Nat){x:Int}(hx:cK x):fO (c.set i x):=
 ⟨by rw[List.length_set];exact h.len,fun y hy=>by
  rcases List.mem_or_eq_of_mem_set hy with h1|rfl
  ·exact h.w _ h1
  ·exact hx⟩
theorem Uq{c:List Int}(h:c.length=9):∃r0 r1 r2 r3 r4 r5 r6 r7 pc,c=[r0,r1,r2,r3,r4,r5,r6,r7,pc]:=by
 match c,h with
 |[r0,r1,r2,r3,r4,r5,r6,r7,pc],_=>exact⟨_,_,_,_,_,_,_,_,_,rfl⟩
theorem iC:Ty Tryz.prog 119 9 true:=⟨aj,aj,aB,aj⟩
abbrev nW:=Int×Int×Int×Int
abbrev sP(x:nW):Value:= .agg #[.int .u32 x.1,.int .u32 x.2.1,.int .u32 x.2.2.1,.int .u32 x.2.2.2]
def iJ(x:nW):Prop:=cK x.1∧cK x.2.1∧cK x.2.2.1∧cK x.2.2.2
theorem F5(x:nW):Val true 4 (sP x):=⟨_,rfl,rfl,Sg⟩
theorem Kq:Ty Tryz.prog 124 4 true:=⟨aj,aj,aB,aj⟩
theorem ahi(c:List Int)(k v:Int)(w:World)(h:c.length=9):Calls Tryz.prog 136 #[jm c,.int .i64 k,.int .u32 v] w fun en w'=>en=.returned (jm (c.set 0 (Call.qj k v)))∧Below w.heap.size w w':=by
 obtain⟨r0,r1,r2,r3,r4,r5,r6,r7,pc,rfl⟩:=Uq h
 have:=Call.aa9 r0 r1 r2 r3 r4 r5 r6 r7 pc k v w
 simpa[jm,gK] using this
def pX(c:List Int):nW:=(c.getD 0 0,c.getD 1 0,c.getD 2 0,c.getD 3 0)
theorem ag4(c:List Int)(w:World)(h:c.length=9):Calls Tryz.prog 115 #[jm c] w fun en w'=>en=.returned (sP (pX c))∧Below w.heap.size w w':=by
 obtain⟨r0,r1,r2,r3,r4,r5,r6,r7,pc,rfl⟩:=Uq h
 have:=Call.aaS r0 r1 r2 r3 r4 r5 r6 r7 pc w
 simpa[jm,gK,pX,sP] using this
theorem Nh{c:List Int}(h:fO c):iJ (pX c):=by
 obtain⟨h1,h2⟩:=h
 obtain⟨r0,r1,r2,r3,r4,r5,r6,r7,pc,rfl⟩:=Uq h1
 exact⟨h2 _ (by simp[pX]),h2 _ (by simp[pX]),h2 _ (by simp[pX]),h2 _ (by simp[pX])⟩
structure Pf where
 c:List Int
 mem:ByteArray
 code:Int
 p0:Int
 b0:Bool
 p1:Int
 b1:Bool
 p2:Int
 b2:Bool
 p3:Int
 b3:Bool
 x:nW
abbrev wfi(n:Int):Prop:=(Lit.int .i64 n).wf=true
structure Pf.Ok(q:Pf):Prop where
 c:fO q.c
 mem:q.mem.size≤maxLen
 code:wfi q.code
 p0:wfi q.p0
 p1:wfi q.p1
 p2:wfi q.p2
 p3:wfi q.p3
 x:iJ q.x
def Pf.rest(q:Pf):List Value:=[.int .u32 (q.c.getD 0 0),.int .u32 (q.c.getD 1 0),.int .u32 (q.c.getD 2 0),.int .u32 (q.c.getD 3 0),.int .u32 (q.c.getD 4 0),.int .u32 (q.c.getD 5 0),.int .u32 (q.c.getD 6 0),.int .u32 (q.c.getD 7 0),.int .u32 (q.c.getD 8 0),.string q.mem,.int .i64 q.code,.int .i64 q.p0,.bool q.b0,.int .i64 q.p1,.bool q.b1,.int .i64 q.p2,.bool q.b2,.int .i64 q.p3,.bool q.b3,.int .u32 q.x.1,.int .u32 q.x.2.1,.int .u32 q.x.2.2.1,.int .u32 q.x.2.2.2]
theorem Zf{n:Int}:cK n↔(Lit.int .u32 n).wf=true:=by
 unfold cK
 simp[Lit.wf,IntKind.min,IntKind.max,IntKind.signed,IntKind.bits]
theorem Pf.Ok.rest{q:Pf}(h:q.Ok):Tab.zi q.rest:=by
 obtain⟨c,mem,code,p0,b0,p1,b1,p2,b2,p3,b3,n,a,b,d⟩:=q
 obtain⟨⟨h1,h2⟩,h3,h4,h5,h6,h7,h8,h9,h10,h11,h12⟩:=h
 obtain⟨r0,r1,r2,r3,r4,r5,r6,r7,pc,rfl⟩:=Uq h1
 refine⟨r0,r1,r2,r3,r4,r5,r6,r7,pc,mem,code,p0,b0,p1,b1,p2,b2,p3,b3,n,a,b,d,rfl,h3,?_,?_⟩
 ·intro x hx
  rw[←Zf]
  simp only[List.mem_cons,List.not_mem_nil,or_false] at hx
  rcases hx with rfl|rfl|rfl|rfl|rfl|rfl|rfl|rfl|rfl|rfl|rfl|rfl|rfl
  all_goals first|assumption|exact h2 _ aI
 ·intro x hx
  simp only[List.mem_cons,List.not_mem_nil,or_false] at hx
  rcases hx with rfl|rfl|rfl|rfl|rfl<;>assumption
theorem ace{l:List Value}(h:Tab.zi l):∃q:Pf,q.Ok∧l=q.rest:=by
 obtain⟨r0,r1,r2,r3,r4,r5,r6,r7,pc,mem,code,p0,b0,p1,b1,p2,b2,p3,b3,n,a,b,d,rfl,hm,h32,h64⟩:=h
 simp only[List.forall_mem_cons,←Zf] at h32 h64
 obtain⟨g0,g1,g2,g3,g4,g5,g6,g7,g8,g9,g10,g11,g12,_⟩:=h32
 obtain⟨f0,f1,f2,f3,f4,_⟩:=h64
 refine⟨⟨[r0,r1,r2,r3,r4,r5,r6,r7,pc],mem,code,p0,b0,p1,b1,p2,b2,p3,b3,n,a,b,d⟩,⟨⟨rfl,?_⟩,hm,f0,f1,f2,f3,f4,g9,g10,g11,g12⟩,rfl⟩
 intro x hx
 simp only[List.mem_cons,List.not_mem_nil,or_false] at hx
 rcases hx with rfl|rfl|rfl|rfl|rfl|rfl|rfl|rfl|rfl<;>assumption
@[irreducible] def gu(pid par st:Int)(q:Pf):Array Value:=#[.int .i64 pid,.int .i64 par,.int .i64 st,.int .u32 (q.c.getD 0 0),.int .u32 (q.c.getD 1 0),.int .u32 (q.c.getD 2 0),.int .u32 (q.c.getD 3 0),.int .u32 (q.c.getD 4 0),.int .u32 (q.c.getD 5 0),.int .u32 (q.c.getD 6 0),.int .u32 (q.c.getD 7 0),.int .u32 (q.c.getD 8 0),.string q.mem,.int .i64 q.code,.int .i64 q.p0,.bool q.b0,.int .i64 q.p1,.bool q.b1,.int .i64 q.p2,.bool q.b2,.int .i64 q.p3,.bool q.b3,.int .u32 q.x.1,.int .u32 q.x.2.1,.int .u32 q.x.2.2.1,.int .u32 q.x.2.2.2]
theorem dz(pid par st:Int)(q:Pf):gu pid par st q=#[.int .i64 pid,.int .i64 par,.int .i64 st,.int .u32 (q.c.getD 0 0),.int .u32 (q.c.getD 1 0),.int .u32 (q.c.getD 2 0),.int .u32 (q.c.getD 3 0),.int .u32 (q.c.getD 4 0),.int .u32 (q.c.getD 5 0),.int .u32 (q.c.getD 6 0),.int .u32 (q.c.getD 7 0),.int .u32 (q.c.getD 8 0),.string q.mem,.int .i64 q.code,.int .i64 q.p0,.bool q.b0,.int .i64 q.p1,.bool q.b1,.int .i64 q.p2,.bool q.b2,.int .i64 q.p3,.bool q.b3,.int .u32 q.x.1,.int .u32 q.x.2.1,.int .u32 q.x.2.2.1,.int .u32 q.x.2.2.2]:=by unfold gu;rfl
section
variable (pid par st:Int) (q:Pf)
theorem rV:(gu pid par st q).size=26:=by rw[dz];rfl
theorem oz:Val true 26 (.agg (gu pid par st q)):=⟨_,rfl,rV _ _ _ _,by
 rw[dz];intro x hx
 simp only[List.mem_cons,List.not_mem_nil,or_false] at hx
 rcases hx with rfl|rfl|rfl|rfl|rfl|rfl|rfl|rfl|rfl|rfl|rfl|rfl|rfl|rfl|rfl|rfl|rfl|rfl|rfl|rfl|rfl|rfl|rfl|rfl|rfl|rfl<;>rfl⟩
theorem fB:(gu pid par st q)[0]?=some (.int .i64 pid):=by rw[dz];rfl
theorem fA:(gu pid par st q)[1]?=some (.int .i64 par):=by rw[dz];rfl
theorem fu:(gu pid par st q)[2]?=some (.int .i64 st):=by rw[dz];rfl
theorem dR:(gu pid par st q)[12]?=some (.string q.mem):=by rw[dz];rfl
theorem dA:(gu pid par st q)[13]?=some (.int .i64 q.code):=by rw[dz];rfl
theorem dQ:(gu pid par st q)[14]?=some (.int .i64 q.p0):=by rw[dz];rfl
theorem dP:(gu pid par st q)[15]?=some (.bool q.b0):=by rw[dz];rfl
theorem dO:(gu pid par st q)[16]?=some (.int .i64 q.p1):=by rw[dz];rfl
theorem dN:(gu pid par st q)[17]?=some (.bool q.b1):=by rw[dz];rfl
theorem dM:(gu pid par st q)[18]?=some (.int .i64 q.p2):=by rw[dz];rfl
theorem dL:(gu pid par st q)[19]?=some (.bool q.b2):=by rw[dz];rfl
theorem dK:(gu pid par st q)[20]?=some (.int .i64 q.p3):=by rw[dz];rfl
theorem dJ:(gu pid par st q)[21]?=some (.bool q.b3):=by rw[dz];rfl
theorem dI:(gu pid par st q)[22]?=some (.int .u32 q.x.1):=by rw[dz];rfl
theorem dH:(gu pid par st q)[23]?=some (.int .u32 q.x.2.1):=by rw[dz];rfl
theorem dG:(gu pid par st q)[24]?=some (.int .u32 q.x.2.2.1):=by rw[dz];rfl
theorem dF:(gu pid par st q)[25]?=some (.int .u32 q.x.2.2.2):=by rw[dz];rfl
theorem agU(x:Int):(gu pid par st q).setIfInBounds 0 (.int .i64 x)=gu x par st q:=by simp only[dz];rfl
theorem agT(x:Int):(gu pid par st q).setIfInBounds 1 (.int .i64 x)=gu pid x st q:=by simp only[dz];rfl
theorem Qn(x:Int):(gu pid par st q).setIfInBounds 2 (.int .i64 x)=gu pid par x q:=by simp only[dz];rfl
theorem Ky(x:ByteArray):(gu pid par st q).setIfInBounds 12 (.string x)=gu pid par st {q with mem:=x}:=by simp only[dz];rfl
theorem acn(x:Int):(gu pid par st q).setIfInBounds 13 (.int .i64 x)=gu pid par st {q with code:=x}:=by simp only[dz];rfl
theorem Tt(x:Int):(gu pid par st q).setIfInBounds 14 (.int .i64 x)=gu pid par st {q with p0:=x}:=by simp only[dz];rfl
theorem Tq(x:Bool):(gu pid par st q).setIfInBounds 15 (.bool x)=gu pid par st {q with b0:=x}:=by simp only[dz];rfl
theorem Tp(x:Int):(gu pid par st q).setIfInBounds 16 (.int .i64 x)=gu pid par st {q with p1:=x}:=by simp only[dz];rfl
theorem Tn(x:Bool):(gu pid par st q).setIfInBounds 17 (.bool x)=gu pid par st {q with b1:=x}:=by simp only[dz];rfl
theorem Tk(x:Int):(gu pid par st q).setIfInBounds 18 (.int .i64 x)=gu pid par st {q with p2:=x}:=by simp only[dz];rfl
theorem Tj(x:Bool):(gu pid par st q).setIfInBounds 19 (.bool x)=gu pid par st {q with b2:=x}:=by simp only[dz];rfl
theorem Ti(x:Int):(gu pid par st q).setIfInBounds 20 (.int .i64 x)=gu pid par st {q with p3:=x}:=by simp only[dz];rfl
theorem Tg(x:Bool):(gu pid par st q).setIfInBounds 21 (.bool x)=gu pid par st {q with b3:=x}:=by simp only[dz];rfl
theorem Tf(x:Int):(gu pid par st q).setIfInBounds 22 (.int .u32 x)=gu pid par st {q with x:=(x,q.x.2.1,q.x.2.2.1,q.x.2.2.2)}:=by simp only[dz];rfl
theorem Te(x:Int):(gu pid par st q).setIfInBounds 23 (.int .u32 x)=gu pid par st {q with x:=(q.x.1,x,q.x.2.2.1,q.x.2.2.2)}:=by simp only[dz];rfl
theorem Td(x:Int):(gu pid par st q).setIfInBounds 24 (.int .u32 x)=gu pid par st {q with x:=(q.x.1,q.x.2.1,x,q.x.2.2.2)}:=by simp only[dz];rfl
theorem Tc(x:Int):(gu pid par st q).setIfInBounds 25 (.int .u32 x)=gu pid par st {q with x:=(q.x.1,q.x.2.1,q.x.2.2.1,x)}:=by simp only[dz];rfl
variable {pid par st q}
theorem aC.cpu{W:World}{b:Nat}{t:TypeId}(h:aC W b (gu pid par st q) t):Cells W b 3 (jm q.c).cells.toList:=fun j v hv=>by
 rw[h.rules.1]
 have hj:j<9:=by
  have:=(List.getElem?_eq_some_iff.1 hv).1
  rwa[show(jm q.c).cells=dY q.c from rfl,Array.length_toList,b_] at this
 rw[show(jm q.c).cells=dY q.c from rfl,gK] at hv
 rw[dz]
 obtain rfl|rfl|rfl|rfl|rfl|rfl|rfl|rfl|rfl:j=0∨j=1∨j=2∨j=3∨j=4∨j=5∨j=6∨j=7∨j=8:=by omega
 all_goals exact hv
theorem FU(c:List Int):((gu pid par st q).toList.take 3++(jm c).cells.toList++(gu pid par st q).toList.drop (3+9)).toArray=gu pid par st {q with c:=c}:=by
 rw[show(jm c).cells=dY c from rfl,gK,dz,dz];rfl
theorem agR(x:Int):((gu pid par st q).toList.take 2++(Value.int .i64 x).cells.toList++(gu pid par st q).toList.drop (2+1)).toArray=gu pid par x q:=by
 rw[dz,dz];rfl
theorem acj(x:nW):((gu pid par st q).toList.take 22++(sP x).cells.toList++(gu pid par st q).toList.drop (22+4)).toArray=gu pid par st {q with x:=x}:=by
 rw[dz,dz];rfl
end
theorem Pf.Ok.rest'{q:Pf}(pid par st:Int)(h:q.Ok):Tab.dS ⟨pid,par,st,q.rest,h.rest⟩=gu pid par st q:=by
 rw[Tab.tN,dz];rfl
open Classical in
noncomputable def yK(pid par st:Int)(q:Pf):Tab.bV:=if h:q.Ok then⟨pid,par,st,q.rest,h.rest⟩ else⟨pid,par,st,Tab.MC,(Tab.jl 0).ok⟩
theorem Au(pid par st:Int)(q:Pf):(yK pid par st q).pid=pid:=by unfold yK;split<;>rfl
theorem Ei(pid par st:Int)(q:Pf):(yK pid par st q).par=par:=by unfold yK;split<;>rfl
theorem Kh(pid par st:Int)(q:Pf):(yK pid par st q).st=st:=by unfold yK;split<;>rfl
theorem C_{pid par st:Int}{q:Pf}(h:q.Ok):Tab.dS (yK pid par st q)=gu pid par st q:=by
 unfold yK;rw[dif_pos h];exact h.rest' pid par st
theorem Qm(p:Tab.bV):∃q:Pf,q.Ok∧p=yK p.pid p.par p.st q:=by
 obtain⟨pid,par,st,l,hok⟩:=p
 obtain⟨q,hq,rfl⟩:=ace hok
 exact⟨q,hq,by unfold yK;rw[dif_pos hq]⟩
noncomputable def pq(p:Tab.bV):Pf:=Classical.choose (Qm p)
theorem iY(p:Tab.bV):(pq p).Ok:=(Classical.choose_spec (Qm p)).1
theorem aiT(p:Tab.bV):yK p.pid p.par p.st (pq p)=p:=(Classical.choose_spec (Qm p)).2.symm
theorem sW(p:Tab.bV):Tab.dS p=gu p.pid p.par p.st (pq p):=by
 conv=>lhs;rw[←aiT p]
 exact C_ (iY p)
end Go.Proofs.YtgmodehldmahiaaGreatDoor
end
section
namespace Go.Proofs.YtgmodehldmahiaaGreatDoor
open Go Go.RowKit Go.Tm
structure Bx where
 ms:List (Int×ByteArray)
 lost:Int
abbrev Ev:=Int×Int×Int×Int
abbrev Ms:=Int×ByteArray
abbrev evV(e:Ev):Value:= .agg #[.int .i64 e.1,.int .u32 e.2.1,.int .u32 e.2.2.1,.int .u64 e.2.2.2]
abbrev Bo(m:Ms):Value:= .agg #[.int .u64 m.1,.string m.2]
abbrev Ju(m:Ms):Value:= .agg #[.int .i64 m.1,.string m.2]
abbrev vQ(l:List ByteArray):List Value:=l.map Value.string
theorem Zu(e:Ev):Val true 4 (evV e):=⟨_,rfl,rfl,Sg⟩
theorem FC(e:Ms):Val true 2 (Bo e):=⟨_,rfl,rfl,CW⟩
theorem FB(e:Ms):Val true 2 (Ju e):=⟨_,rfl,rfl,CW⟩
theorem aeR:Ty Tryz.prog 134 4 true:=⟨aj,aj,aB,aj⟩
theorem Sv:Ty Tryz.prog 138 2 true:=⟨aj,aj,aB,aj⟩
theorem Yl:Ty Tryz.prog 136 2 true:=⟨aj,aj,aB,aj⟩
theorem Sw:Ty Tryz.prog 93 2 true:=⟨aj,aj,aB,aj⟩
abbrev WQ(u:Value)(b:Bx):Value:= .agg #[u,.int .i64 b.lost]
abbrev tZ(vs:List Value)(l:List Bx):List Value:=List.zipWith WQ vs l
structure Md(W:World)(v:Value)(vs:List Value)(l:List Bx):Prop where
 sl:Sl W true 2 v (tZ vs l)
 len:vs.length=l.length
 el:∀(i:Nat) (u:Value) (x:Bx),vs[i]?=some u→l[i]?=some x→Sl W true 2 u (x.ms.map Bo)
theorem Md.below{w w':World}{v:Value}{vs:List Value}{l:List Bx}(h:Md w v vs l)(hb:Below w.heap.size w w'):Md w' v vs l:=
 ⟨h.sl.below hb,h.len,fun i u x hu hx=>(h.el i u x hu hx).below hb⟩
structure Ks where
 P:Value
 L:Value
 S:Value
 Pi:Value
 H:Value
 Im:Value
 Ou:Value
 In:Value
 Bx:Value
 bs:List Value
 Tr:Value
 Se:Value
structure Kn where
 P:List Tab.bV
 L:List Int
 left:Int
 S:List Sleep.Al
 Pi:List Value
 hs:Int
 H:List Heap.Sp
 now:Int
 im:List ByteArray
 ou:List bf.Ch
 ins:List bf.Ch
 bx:List Bx
 co:ByteArray
 tr:List Ev
 se:List Ms
 want:Int
 gone:Int
structure KR(W:World)(s:Ks)(k:Kn):Prop where
 P:Sl W true 26 s.P (Tab.pO k.P)
 L:Sl W false 1 s.L (ints k.L)
 S:Sl W true 2 s.S (Sleep.qh k.S)
 Pi:Sl W true 3 s.Pi k.Pi
 H:Sl W true 3 s.H (Heap.nV k.H)
 Im:Sl W false 1 s.Im (vQ k.im)
 Ou:Sl W true 5 s.Ou (bf.lU k.ou)
 In:Sl W true 5 s.In (bf.lU k.ins)
 Bx:Md W s.Bx s.bs k.bx
 Tr:Sl W true 4 s.Tr (k.tr.map evV)
 Se:Sl W true 2 s.Se (k.se.map Ju)
 pi:∀x∈k.Pi,Pipe.lI x
theorem KR.below{w w':World}{s:Ks}{k:Kn}(h:KR w s k)(hb:Below w.heap.size w w'):KR w' s k:=
 ⟨h.P.below hb,h.L.below hb,h.S.below hb,h.Pi.below hb,h.H.below hb,h.Im.below hb,h.Ou.below hb,h.In.below hb,h.Bx.below hb,h.Tr.below hb,h.Se.below hb,h.pi⟩
@[irreducible] def kC(s:Ks)(k:Kn):Array Value:=#[s.P,s.L,.int .i64 k.left,s.S,s.Pi,.int .i64 k.hs,s.H,.int .u64 k.now,s.Im,s.Ou,s.In,s.Bx,.string k.co,s.Tr,s.Se,.int .i64 k.want,.int .i64 k.gone]
theorem fM(s:Ks)(k:Kn):kC s k=#[s.P,s.L,.int .i64 k.left,s.S,s.Pi,.int .i64 k.hs,s.H,.int .u64 k.now,s.Im,s.Ou,s.In,s.Bx,.string k.co,s.Tr,s.Se,.int .i64 k.want,.int .i64 k.gone]:=by unfold kC;rfl
abbrev kT:TypeId:=155
section
variable (s:Ks) (k:Kn)
theorem jX:(kC s k).size=17:=by rw[fM];rfl
theorem iq:(kC s k)[0]?=some (s.P):=by rw[fM];rfl
theorem ig:(kC s k)[1]?=some (s.L):=by rw[fM];rfl
theorem h_:(kC s k)[2]?=some (.int .i64 k.left):=by rw[fM];rfl
theorem g_:(kC s k)[3]?=some (s.S):=by rw[fM];rfl
theorem gZ:(kC s k)[4]?=some (s.Pi):=by rw[fM];rfl
theorem gY:(kC s k)[5]?=some (.int .i64 k.hs):=by rw[fM];rfl
theorem gX:(kC s k)[6]?=some (s.H):=by rw[fM];rfl
theorem gN:(kC s k)[7]?=some (.int .u64 k.now):=by rw[fM];rfl
theorem gW:(kC s k)[8]?=some (s.Im):=by rw[fM];rfl
theorem gV:(kC s k)[9]?=some (s.Ou):=by rw[fM];rfl
theorem fF:(kC s k)[10]?=some (s.In):=by rw[fM];rfl
theorem fE:(kC s k)[11]?=some (s.Bx):=by rw[fM];rfl
theorem fD:(kC s k)[12]?=some (.string k.co):=by rw[fM];rfl
theorem fC:(kC s k)[13]?=some (s.Tr):=by rw[fM];rfl
theorem eY:(kC s k)[14]?=some (s.Se):=by rw[fM];rfl
theorem eX:(kC s k)[15]?=some (.int .i64 k.want):=by rw[fM];rfl
theorem eU:(kC s k)[16]?=some (.int .i64 k.gone):=by rw[fM];rfl
theorem ai2(v:Value):(kC s k).setIfInBounds 0 v=kC {s with P:=v} k:=by simp only[fM];rfl
theorem ai1(v:Value):(kC s k).setIfInBounds 1 v=kC {s with L:=v} k:=by simp only[fM];rfl
theorem ai0(x:Int):(kC s k).setIfInBounds 2 (.int .i64 x)=kC s {k with left:=x}:=by simp only[fM];rfl
theorem aiZ(v:Value):(kC s k).setIfInBounds 3 v=kC {s with S:=v} k:=by simp only[fM];rfl
theorem Yp(v:Value):(kC s k).setIfInBounds 4 v=kC {s with Pi:=v} k:=by simp only[fM];rfl
theorem aiY(x:Int):(kC s k).setIfInBounds 5 (.int .i64 x)=kC s {k with hs:=x}:=by simp only[fM];rfl
theorem aiX(v:Value):(kC s k).setIfInBounds 6 v=kC {s with H:=v} k:=by simp only[fM];rfl
theorem aiW(x:Int):(kC s k).setIfInBounds 7 (.int .u64 x)=kC s {k with now:=x}:=by simp only[fM];rfl
theorem Qr(v:Value):(kC s k).setIfInBounds 11 v=kC {s with Bx:=v} k:=by simp only[fM];rfl
theorem Zn(x:ByteArray):(kC s k).setIfInBounds 12 (.string x)=kC s {k with co:=x}:=by simp only[fM];rfl
theorem Zm(v:Value):(kC s k).setIfInBounds 13 v=kC {s with Tr:=v} k:=by simp only[fM];rfl
theorem Qq(v:Value):(kC s k).setIfInBounds 14 v=kC {s with Se:=v} k:=by simp only[fM];rfl
theorem Qp(x:Int):(kC s k).setIfInBounds 15 (.int .i64 x)=kC s {k with want:=x}:=by simp only[fM];rfl
theorem agZ(x:Int):(kC s k).setIfInBounds 16 (.int .i64 x)=kC s {k with gone:=x}:=by simp only[fM];rfl
end
def kind:Value→Nat
 |.int .i64 _=>1
 |.int .u32 _=>2
 |.int .u64 _=>3
 |.string _=>4
 |.slice _ _ _=>5
 |_=>0
def lu:List Nat:=[5,5,1,5,5,1,5,3,5,5,5,5,4,5,5,1,1]
theorem jr{w:World}{ag:Bool}{n:Nat}{v:Value}{xs:List Value}(h:Sl w ag n v xs):kind v=5:=by
 obtain⟨_,a,cap,rfl,_⟩:=h;rfl
theorem KR.kinds{W:World}{s:Ks}{k:Kn}(h:KR W s k):(kC s k).toList.map kind=lu:=by
 rw[fM]
 simp only[List.map_cons,List.map_nil,jr h.P,jr h.L,jr h.S,jr h.Pi,jr h.H,jr h.Im,jr h.Ou,jr h.In,jr h.Bx.sl,jr h.Tr,jr h.Se]
 rfl
def noKind(pat:List Nat):Bool:=(List.range 18).all fun o=>decide ((lu.drop o).take pat.length≠pat)
theorem nI{W:World}{s:Ks}{k:Kn}{b:Nat}{t:TypeId}{n:Nat}{v:Value}{xs:List Value}(h:KR W s k)(hb:aC W b (kC s k) t)(hv:Sl W true n v xs)(pat:List Nat)(hp:∀x∈xs,x.cells.toList.map kind=pat)(hno:noKind pat=true):Apart b v xs:=by
 cases xs with
 |nil=>exact .inl rfl
 |cons x r=>
  right
  intro b' hb' hbb
  subst hbb
  obtain⟨a,cap,rfl,_⟩:=hv.shape
  obtain⟨b2,off,rfl,hlt,hc⟩:=hv.at (i:=0) (x:=x) rfl
  simp only[Value.ownBlock,Option.some.injEq] at hb'
  subst hb'
  have hx:=hp x aI
  have hcell:∀j c,x.cells.toList[j]?=some c→(kC s k).toList[off+j]?=some c:=fun j c hj=>by
   have:=hc j c hj
   rw[Nat.zero_mul,Nat.add_zero,hb.rules.1] at this
   simpa using this
  have hk:=h.kinds
  have hk2:∀j q,pat[j]?=some q→lu[off+j]?=some q:=fun j q hq=>by
   exact aeg
  have h1:(lu.drop off).take pat.length=pat:=aeo
  by_cases ho:off<18
  ·exact adZ
  ·have h2:=List.all_eq_true.1 hno 17 (List.mem_range.2 ah)
   simp only[decide_eq_true_eq] at h2
   apply h2
   rw[List.drop_of_length_le (by simp[lu];omega)] at h1
   rw[List.drop_of_length_le (by simp[lu])]
   exact h1
section
variable {W:World} {s:Ks} {k:Kn} {b:Nat} {t:TypeId} {v:Value}
theorem pG{l:List Tab.bV}(hb:aC W b (kC s k) t)(hv:Sl W true 26 v (Tab.pO l)):Apart b v (Tab.pO l):=by
 cases l with
 |nil=>exact .inl rfl
 |cons x r=>
  right
  intro b' hb' hbb
  subst hbb
  obtain⟨a,cap,rfl,_⟩:=hv.shape
  obtain⟨b2,off,rfl,hlt,hc⟩:=hv.at (i:=0) (x:=Tab.je x) rfl
  simp only[Value.ownBlock,Option.some.injEq] at hb'
  subst hb'
  have hs:(Tab.je x).cells.toList.length=26:=by show(Tab.dS x).toList.length=26;rw[Array.length_toList,Tab.jd]
  have:=hc 25 _ (List.getElem?_eq_getElem ah)
  rw[hb.rules.1,Array.getElem?_eq_none PD] at this
  cases this
theorem Cx{l:List Sleep.Al}(h:KR W s k)(hb:aC W b (kC s k) t)(hv:Sl W true 2 v (Sleep.qh l)):Apart b v (Sleep.qh l):=
 nI h hb hv [3,1] (fun x hx=>mH) aB
theorem Nw{l:List Value}(hl:∀x∈l,Pipe.lI x)(h:KR W s k)(hb:aC W b (kC s k) t)(hv:Sl W true 3 v l):Apart b v l:=
 nI h hb hv [4,1,1] (fun x hx=>by obtain⟨_,_,_,rfl,_⟩:=hl x hx;rfl) aB
theorem xO{l:List Heap.Sp}(h:KR W s k)(hb:aC W b (kC s k) t)(hv:Sl W true 3 v (Heap.nV l)):Apart b v (Heap.nV l):=
 nI h hb hv [1,1,1] (fun x hx=>mH) aB
theorem Jt{l:List bf.Ch}(h:KR W s k)(hb:aC W b (kC s k) t)(hv:Sl W true 5 v (bf.lU l)):Apart b v (bf.lU l):=
 nI h hb hv [1,1,1,1,1] (fun x hx=>mH) aB
theorem Js{l:List Ev}(h:KR W s k)(hb:aC W b (kC s k) t)(hv:Sl W true 4 v (l.map evV)):Apart b v (l.map evV):=
 nI h hb hv [1,2,2,3] (fun x hx=>mH) aB
theorem Jr{l:List Ms}(h:KR W s k)(hb:aC W b (kC s k) t)(hv:Sl W true 2 v (l.map Ju)):Apart b v (l.map Ju):=
 nI h hb hv [1,4] (fun x hx=>mH) aB
theorem Cw{l:List Ms}(h:KR W s k)(hb:aC W b (kC s k) t)(hv:Sl W true 2 v (l.map Bo)):Apart b v (l.map Bo):=
 nI h hb hv [3,4] (fun x hx=>mH) aB
end
structure KW(w:World)(b:Nat)(s:Ks)(k:Kn):Prop where
 box:aC w b (kC s k) kT
 kr:KR w s k
 aL:Apart b s.L (ints k.L)
 Hg:Apart b s.Im (vQ k.im)
 Iu:Apart b s.Bx (tZ s.bs k.bx)
section
variable {w w':World} {b:Nat} {s:Ks} {k:Kn}
theorem KW.lt(h:KW w b s k):b<w.heap.size:=h.box.lt
theorem KW.below(h:KW w b s k)(hb:Below w.heap.size w w'):KW w' b s k:=⟨h.box.below hb h.lt,h.kr.below hb,h.aL,h.Hg,h.Iu⟩
theorem KW.kS(h:KW w b s k)(hg:w.grownBy w' (some b)):KR w' s k:=
 ⟨h.kr.P.bC hg (pG h.box h.kr.P),h.kr.L.bC hg h.aL,h.kr.S.bC hg (Cx h.kr h.box h.kr.S),h.kr.Pi.bC hg (Nw h.kr.pi h.kr h.box h.kr.Pi),h.kr.H.bC hg (xO h.kr h.box h.kr.H),
  h.kr.Im.bC hg h.Hg,h.kr.Ou.bC hg (Jt h.kr h.box h.kr.Ou),h.kr.In.bC hg (Jt h.kr h.box h.kr.In),
  ⟨h.kr.Bx.sl.bC hg h.Iu,h.kr.Bx.len,fun i u x hu hx=>(h.kr.Bx.el i u x hu hx).bC hg (Cw h.kr h.box (h.kr.Bx.el i u x hu hx))⟩,
  h.kr.Tr.bC hg (Js h.kr h.box h.kr.Tr),h.kr.Se.bC hg (Jr h.kr h.box h.kr.Se),h.kr.pi⟩
theorem KW.zP(h:KW w b s k){v:Value}{l:List Tab.bV}(hv:Sl w true 26 v (Tab.pO l)):KW (w.setCell ⟨b,0,none⟩ v) b {s with P:=v} {k with P:=l}:=
 ⟨((h.box.set 0 v).cast (ai2 s k v)).cast tC,{h.kS (aM w b 0 v) with P:=hv.bC (aM w b 0 v) (pG h.box hv)},h.aL,h.Hg,h.Iu⟩
theorem KW.tT(h:KW w b s k){v:Value}{l:List Sleep.Al}(hv:Sl w true 2 v (Sleep.qh l)):KW (w.setCell ⟨b,3,none⟩ v) b {s with S:=v} {k with S:=l}:=
 ⟨((h.box.set 3 v).cast (aiZ s k v)).cast tC,{h.kS (aM w b 3 v) with S:=hv.bC (aM w b 3 v) (Cx h.kr h.box hv)},h.aL,h.Hg,h.Iu⟩
theorem KW.EJ(h:KW w b s k){v:Value}{l:List Value}(hv:Sl w true 3 v l)(hl:∀x∈l,Pipe.lI x):KW (w.setCell ⟨b,4,none⟩ v) b {s with Pi:=v} {k with Pi:=l}:=
 ⟨((h.box.set 4 v).cast (Yp s k v)).cast tC,{h.kS (aM w b 4 v) with Pi:=hv.bC (aM w b 4 v) (Nw hl h.kr h.box hv),pi:=hl},h.aL,h.Hg,h.Iu⟩
theorem KW.Sz(h:KW w b s k){v:Value}{l:List Heap.Sp}(hv:Sl w true 3 v (Heap.nV l)):KW (w.setCell ⟨b,6,none⟩ v) b {s with H:=v} {k with H:=l}:=
 ⟨((h.box.set 6 v).cast (aiX s k v)).cast tC,{h.kS (aM w b 6 v) with H:=hv.bC (aM w b 6 v) (xO h.kr h.box hv)},h.aL,h.Hg,h.Iu⟩
theorem KW.Ah(h:KW w b s k){v:Value}{l:List Int}(hv:Sl w false 1 v (ints l))(ha:Apart b v (ints l)):KW (w.setCell ⟨b,1,none⟩ v) b {s with L:=v} {k with L:=l}:=
 ⟨((h.box.set 1 v).cast (ai1 s k v)).cast tC,{h.kS (aM w b 1 v) with L:=hv.bC (aM w b 1 v) ha},ha,h.Hg,h.Iu⟩
theorem KW.aiQ(h:KW w b s k){v:Value}{l:List Ev}(hv:Sl w true 4 v (l.map evV)):KW (w.setCell ⟨b,13,none⟩ v) b {s with Tr:=v} {k with tr:=l}:=
 ⟨((h.box.set 13 v).cast (Zm s k v)).cast tC,{h.kS (aM w b 13 v) with Tr:=hv.bC (aM w b 13 v) (Js h.kr h.box hv)},h.aL,h.Hg,h.Iu⟩
theorem KW.aeV(h:KW w b s k){v:Value}{l:List Ms}(hv:Sl w true 2 v (l.map Ju)):KW (w.setCell ⟨b,14,none⟩ v) b {s with Se:=v} {k with se:=l}:=
 ⟨((h.box.set 14 v).cast (Qq s k v)).cast tC,{h.kS (aM w b 14 v) with Se:=hv.bC (aM w b 14 v) (Jr h.kr h.box hv)},h.aL,h.Hg,h.Iu⟩
theorem KW.set_left(h:KW w b s k)(x:Int):KW (w.setCell ⟨b,2,none⟩ (.int .i64 x)) b s {k with left:=x}:=
 ⟨(h.box.set 2 (.int .i64 x)).cast (ai0 s k x),{h.kS (aM w b 2 (.int .i64 x)) with},h.aL,h.Hg,h.Iu⟩
theorem KW.Ql(h:KW w b s k)(x:Int):KW (w.setCell ⟨b,5,none⟩ (.int .i64 x)) b s {k with hs:=x}:=
 ⟨(h.box.set 5 (.int .i64 x)).cast (aiY s k x),{h.kS (aM w b 5 (.int .i64 x)) with},h.aL,h.Hg,h.Iu⟩
theorem KW.SV(h:KW w b s k)(x:Int):KW (w.setCell ⟨b,7,none⟩ (.int .u64 x)) b s {k with now:=x}:=
 ⟨(h.box.set 7 (.int .u64 x)).cast (aiW s k x),{h.kS (aM w b 7 (.int .u64 x)) with},h.aL,h.Hg,h.Iu⟩
theorem KW.agI(h:KW w b s k)(x:ByteArray):KW (w.setCell ⟨b,12,none⟩ (.string x)) b s {k with co:=x}:=
 ⟨(h.box.set 12 (.string x)).cast (Zn s k x),{h.kS (aM w b 12 (.string x)) with},h.aL,h.Hg,h.Iu⟩
theorem KW.AO(h:KW w b s k)(x:Int):KW (w.setCell ⟨b,15,none⟩ (.int .i64 x)) b s {k with want:=x}:=
 ⟨(h.box.set 15 (.int .i64 x)).cast (Qp s k x),{h.kS (aM w b 15 (.int .i64 x)) with},h.aL,h.Hg,h.Iu⟩
theorem KW.FQ(h:KW w b s k)(x:Int):KW (w.setCell ⟨b,16,none⟩ (.int .i64 x)) b s {k with gone:=x}:=
 ⟨(h.box.set 16 (.int .i64 x)).cast (agZ s k x),{h.kS (aM w b 16 (.int .i64 x)) with},h.aL,h.Hg,h.Iu⟩
end
structure Fit(k:Kn):Prop where
 P:k.P.length≤1000000000
 L:k.L.length≤1000000000
 S:k.S.length≤1000000000
 Pi:k.Pi.length≤1000000000
 H:k.H.length≤1000000000
 tr:k.tr.length≤1000000000
 se:k.se.length≤1000000000
 bx:k.bx.length≤1000000000
 im:k.im.length≤9000000000000
 ou:k.ou.length≤1000000000
 ins:k.ins.length≤1000000000
 co:k.co.size≤1000000000
 hs:wfi k.hs
 hw:∀x∈k.H,Heap.Po x
 now:0≤k.now∧k.now≤18446744073709551615
 dZ:∀x∈k.im,x.size≤9223372036854775807
 TN:∀x∈k.bx,x.ms.length≤1000000000∧∀m∈x.ms,m.2.size≤9223372036854775807
def iL(B:Nat)(s:Ks)(k:Kn):Prop:=Apart B s.L (ints k.L)∧Apart B s.H (Heap.nV k.H)∧Apart B s.Im (vQ k.im)∧Apart B s.Ou (bf.lU k.ou)∧(Apart B s.In (bf.lU k.ins)∧Apart B s.Bx (tZ s.bs k.bx)∧Apart B s.S (Sleep.qh k.S))∧Apart B s.Pi k.Pi
def j3(w:World)(b:Nat)(s:Ks)(k:Kn)(s':Ks)(k':Kn):Prop:=∀B,B<w.heap.size→B≠b→iL B s k→iL B s' k'
theorem j3.refl(w:World)(b:Nat)(s:Ks)(k:Kn):j3 w b s k s k:=fun _ _ _ h=>h
theorem j3.trans{w w1:World}{b:Nat}{s s1 s2:Ks}{k k1 k2:Kn}(h:j3 w b s k s1 k1)(h1:j3 w1 b s1 k1 s2 k2)(hz:w.heap.size≤w1.heap.size):j3 w b s k s2 k2:=
 fun B hB hb ha=>h1 B (Nat.lt_of_lt_of_le hB hz) hb (h B hB hb ha)
def KS(w:World)(b:Nat)(s:Ks)(k:Kn)(w':World)(k':Kn):Prop:=∃s',KW w' b s' k'∧j3 w b s k s' k'
def wG(fid:FuncId)(D:Kn→Tab.bV→nW→Kn×Int×Int):Prop:=∀(b:Nat) (s:Ks) (k:Kn) (p:Tab.bV) (x:nW) (w:World),KW w b s k→Fit k→iJ x→
 Calls Tryz.prog fid #[.pointer (some ⟨b,0,none⟩),Tab.je p,sP x] w fun en w'=>en=.returned (.tuple #[.int .u32 (D k p x).2.1,.int .i64 (D k p x).2.2])∧KS w b s k w' (D k p x).1∧w.grownBy w' (some b)
theorem C9(v:Value)(l:List Tab.bV)(pid par st:Int)(q:Pf)(hq:q.Ok)(w:World)(hv:Sl w true 26 v (Tab.pO l))(hby:l.length≤1000000000):
  Calls Tryz.prog 88 #[v,.agg (gu pid par st q)] w fun e w'=>∃v',e=.returned v'∧Sl w' true 26 v' (Tab.pO (Tab.lW l (yK pid par st q)))∧Below w.heap.size w w':=by
 rw[←C_ hq]
 exact Tab.S9 v l (yK pid par st q) w hv ah
theorem agB:∃i,TyM Tryz.prog 134 4 true i (.agg #[.int .i64 0,.int .u32 0,.int .u32 0,.int .u64 0]) 24 54:=by
 have h:(Tryz.prog.info? 134).map (fun i=>(i.zero,i.size,i.bytes))=some (some (.agg #[.int .i64 0,.int .u32 0,.int .u32 0,.int .u64 0]),4,24):=aj
 obtain⟨i,hi,hz,hs,hb⟩:=info_parts h
 exact⟨i,aeR,Tryz.underlying54,hi,hz,hs,hb,rfl⟩
theorem acV(v:Value)(xs:List Value)(w:World)(hv:Sl w true 4 v xs):Calls Tryz.prog 137 #[v] w fun e w'=>(∃ao,e=.returned (.slice ao xs.length xs.length)∧Sl w true 4 (.slice ao xs.length xs.length) xs)∧w=w':=by
 obtain⟨ao,hr,hs⟩:=Sl.um (m:=xs.length) aeR Tryz.underlying54 hv (xs.length:Int) rfl (Nat.le_refl _)
 rw[List.take_length] at hs
 obtain⟨a,cap,rfl,hl⟩:=hv.shape
 have HS:=Lib.hid hs
 clear hs hv
 go_enter Tryz.func137,Tryz.ntmps137
 exact Sq
theorem agz:∃i,TyM Tryz.prog 136 2 true i (.agg #[.int .i64 0,.string ⟨#[]⟩]) 24 55:=by
 have h:(Tryz.prog.info? 136).map (fun i=>(i.zero,i.size,i.bytes))=some (some (.agg #[.int .i64 0,.string ⟨#[]⟩]),2,24):=aj
 obtain⟨i,hi,hz,hs,hb⟩:=info_parts h
 exact⟨i,Yl,Tryz.underlying55,hi,hz,hs,hb,rfl⟩
theorem TF(v:Value)(xs:List Value)(w:World)(hv:Sl w true 2 v xs):Calls Tryz.prog 205 #[v] w fun e w'=>(∃ao,e=.returned (.slice ao xs.length xs.length)∧Sl w true 2 (.slice ao xs.length xs.length) xs)∧w=w':=by
 obtain⟨ao,hr,hs⟩:=Sl.um (m:=xs.length) Yl Tryz.underlying55 hv (xs.length:Int) rfl (Nat.le_refl _)
 rw[List.take_length] at hs
 obtain⟨a,cap,rfl,hl⟩:=hv.shape
 have HS:=Lib.hid hs
 clear hs hv
 go_enter Tryz.func205,Tryz.ntmps205
 exact Sq
theorem abP(e v:Int)(w:World):Calls Tryz.prog 138 #[.int .i64 e,.int .u32 v] w fun en w'=>en=.returned (.int .u32 (Call.qj e v))∧Below w.heap.size w w':=Call.UL e v w
theorem aga:iJ (0,0,0,0):=⟨⟨aB,aB⟩,⟨aB,aB⟩,⟨aB,aB⟩,aB,aB⟩
end Go.Proofs.YtgmodehldmahiaaGreatDoor
end
