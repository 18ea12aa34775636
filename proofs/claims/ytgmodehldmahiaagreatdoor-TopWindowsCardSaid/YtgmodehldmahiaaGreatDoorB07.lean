/- Part 7 of 53 of the proof of topAlone_and_topApart. Conditions: see each. -/
import Derived.Test.YtgmodehldmahiaaGreatDoorB01
import Derived.Test.YtgmodehldmahiaaGreatDoorRows
import Derived.Test.YtgmodehldmahiaaGreatDoorB02
set_option linter.unusedVariables false
set_option linter.unusedSimpArgs false
set_option maxRecDepth 8192
set_option maxHeartbeats 40000000
namespace Go.Proofs.YtgmodehldmahiaaGreatDoor.aT
open Go Go.RowKit Go.Tm
def Rv(r0 r1 r2 r3 r4 r5 r6 r7 pc:Int)(mem:ByteArray)(code p0:Int)(b0:Bool)(p1:Int)(b1:Bool)(p2:Int)(b2:Bool)(p3:Int)(b3:Bool)(n a b c:Int):List Value:=
 [.int .u32 r0,.int .u32 r1,.int .u32 r2,.int .u32 r3,.int .u32 r4,.int .u32 r5,.int .u32 r6,.int .u32 r7,.int .u32 pc,.string mem,.int .i64 code,.int .i64 p0,.bool b0,.int .i64 p1,.bool b1,.int .i64 p2,.bool b2,.int .i64 p3,.bool b3,.int .u32 n,.int .u32 a,.int .u32 b,.int .u32 c]
def Yd(r0 r1 r2 r3 r4 r5 r6 r7 pc:Int)(mem:ByteArray)(code p0:Int)(b0:Bool)(p1:Int)(b1:Bool)(p2:Int)(b2:Bool)(p3:Int)(b3:Bool)(n a b c:Int):List Lit:=
 [.int .u32 r0,.int .u32 r1,.int .u32 r2,.int .u32 r3,.int .u32 r4,.int .u32 r5,.int .u32 r6,.int .u32 r7,.int .u32 pc,.string mem.data.toList,.int .i64 code,.int .i64 p0,.bool b0,.int .i64 p1,.bool b1,.int .i64 p2,.bool b2,.int .i64 p3,.bool b3,.int .u32 n,.int .u32 a,.int .u32 b,.int .u32 c]
def wW(l:List Value):Prop:=∃r0 r1 r2 r3 r4 r5 r6 r7 pc mem code p0 b0 p1 b1 p2 b2 p3 b3 n a b c,l=Rv r0 r1 r2 r3 r4 r5 r6 r7 pc mem code p0 b0 p1 b1 p2 b2 p3 b3 n a b c∧mem.size≤maxLen∧
 (∀x∈[r0,r1,r2,r3,r4,r5,r6,r7,pc,n,a,b,c],(Lit.int .u32 x).wf=true)∧∀x∈[code,p0,p1,p2,p3],(Lit.int .i64 x).wf=true
theorem wW.len{l:List Value}(h:wW l):l.length=23:=by
 obtain⟨_,_,_,_,_,_,_,_,_,_,_,_,_,_,_,_,_,_,_,_,_,_,_,rfl,_⟩:=h;rfl
theorem wW.one{l:List Value}(h:wW l):∀c∈l,c.oneCell'=true:=by
 obtain⟨_,_,_,_,_,_,_,_,_,_,_,_,_,_,_,_,_,_,_,_,_,_,_,rfl,_⟩:=h
 intro c hc
 simp only[Rv,List.mem_cons,List.not_mem_nil,or_false] at hc
 rcases hc with rfl|rfl|rfl|rfl|rfl|rfl|rfl|rfl|rfl|rfl|rfl|rfl|rfl|rfl|rfl|rfl|rfl|rfl|rfl|rfl|rfl|rfl|rfl<;>rfl
@[ext] structure dz where
  pid:Int
  par:Int
  st:Int
  rest:List Value
  ok:wW rest
@[irreducible] def eT(p:dz):Array Value:=(.int .i64 p.pid::.int .i64 p.par::.int .i64 p.st::p.rest).toArray
abbrev jQ(p:dz):Value:= .agg (eT p)
abbrev rH(l:List dz):List Value:=l.map jQ
theorem vg(p:dz):eT p=(.int .i64 p.pid::.int .i64 p.par::.int .i64 p.st::p.rest).toArray:=by unfold eT;rfl
theorem xZ(p:dz):(eT p)[0]?=some (.int .i64 p.pid):=by simp[vg]
theorem QT(p:dz):(eT p)[1]?=some (.int .i64 p.par):=by simp[vg]
theorem Ma(p:dz):(eT p)[2]?=some (.int .i64 p.st):=by simp[vg]
theorem jI(p:dz):(eT p).size=26:=by simp[vg,p.ok.len]
theorem fG(p:dz):Val true 26 (jQ p):=⟨_,rfl,jI p,fun c hc=>by
 rw[vg,List.toList_toArray] at hc
 simp only[List.mem_cons] at hc
 rcases hc with rfl|rfl|rfl|hc
 ·rfl
 ·rfl
 ·rfl
 ·exact p.ok.one c hc⟩
theorem agX(p:dz)(asK:Int):(eT p).setIfInBounds 1 (.int .i64 asK)=eT {p with par:=asK}:=by simp[vg]
theorem jC(l:List dz):(rH l).length=l.length:=by simp
theorem H9{l:List dz}{i:Nat}{a:dz}(h:l[i]?=some a):(rH l)[i]?=some (jQ a):=by simp[h]
theorem Sl.pr{w:World}{a:Option Addr}{n cap:Nat}{l:List dz}(h:Sl w true 26 (.slice a n cap) (rH l)){i:Nat}{x:dz}(hx:l[i]?=some x):
  ∃b off,a=some ⟨b,off,none⟩∧b<w.heap.size∧Cells w b (off+i*26) (jQ x).cells.toList∧w.cell? ⟨b,off+i*26,none⟩=some (.int .i64 x.pid)∧w.cell? ⟨b,off+i*26+1,none⟩=some (.int .i64 x.par)∧w.cell? ⟨b,off+i*26+2,none⟩=some (.int .i64 x.st):=by
 obtain⟨b,off,ha,hb,hcell⟩:=h.at (H9 hx)
 exact⟨b,off,ha,hb,hcell,hcell 0 _ (by rw[show(jQ x).cells=eT x from rfl];simpa using xZ x),hcell 1 _ ahS,hcell 2 _ (by rw[show(jQ x).cells=eT x from rfl];simpa using Ma x)⟩
def Bc(p:dz):Prop:=(Lit.int .i64 p.pid).wf=true∧(Lit.int .i64 p.par).wf=true∧(Lit.int .i64 p.st).wf=true
noncomputable instance:DecidableEq dz:=fun _ _=>Classical.propDecidable _
def abA:Value→Lit
 |.int k n=> .int k n
 |.bool b=> .bool b
 |.string s=> .string s.data.toList
 |_=> .bool false
theorem ae'{a b:ByteArray}(h:a.data.toList=b.data.toList):a=b:=by
 cases a;cases b;congr 1;exact Array.ext' h
theorem Sg{l:List Value}(h:wW l):∃r0 r1 r2 r3 r4 r5 r6 r7 pc mem code p0 b0 p1 b1 p2 b2 p3 b3 n a b c,l=Rv r0 r1 r2 r3 r4 r5 r6 r7 pc mem code p0 b0 p1 b1 p2 b2 p3 b3 n a b c∧l.map abA=Yd r0 r1 r2 r3 r4 r5 r6 r7 pc mem code p0 b0 p1 b1 p2 b2 p3 b3 n a b c:=by
 obtain⟨r0,r1,r2,r3,r4,r5,r6,r7,pc,mem,code,p0,b0,p1,b1,p2,b2,p3,b3,n,a,b,c,rfl,_⟩:=h
 exact⟨r0,r1,r2,r3,r4,r5,r6,r7,pc,mem,code,p0,b0,p1,b1,p2,b2,p3,b3,n,a,b,c,rfl,rfl⟩
theorem aeN{l l':List Value}(h:wW l)(h':wW l')(he:l.map abA=l'.map abA):l=l':=by
 obtain⟨r0,r1,r2,r3,r4,r5,r6,r7,pc,mem,code,p0,b0,p1,b1,p2,b2,p3,b3,n,a,b,c,rfl,e1⟩:=Sg h
 obtain⟨s0,s1,s2,s3,s4,s5,s6,s7,pc',mem',code',q0,d0,q1,d1,q2,d2,q3,d3,n',a',b',c',rfl,e2⟩:=Sg h'
 rw[e1,e2] at he
 simp only[Yd,List.cons.injEq,Lit.int.injEq,Lit.bool.injEq,Lit.string.injEq,true_and,and_true] at he
 obtain⟨rfl,rfl,rfl,rfl,rfl,rfl,rfl,rfl,rfl,hm,rfl,rfl,rfl,rfl,rfl,rfl,rfl,rfl,rfl,rfl,rfl,rfl,rfl⟩:=he
 rw[ae' hm]
theorem Sj(p:dz)(h:Bc p):Plain Tryz.prog 126 (eT p) (.int .i64 p.pid::.int .i64 p.par::.int .i64 p.st::p.rest.map abA):=by
 obtain⟨pid,par,st,l,hok⟩:=p
 obtain⟨w1,w2,w3⟩:=h
 dsimp only at w1 w2 w3
 refine⟨(jI _).trans ay,8,?_⟩
 rw[vg]
 dsimp only
 obtain⟨r0,r1,r2,r3,r4,r5,r6,r7,pc,mem,code,p0,b0,p1,b1,p2,b2,p3,b3,n,a,b,c,rfl,hm,h32,h64⟩:=hok
 simp only[List.forall_mem_cons] at h32 h64
 obtain⟨g0,g1,g2,g3,g4,g5,g6,g7,g8,g9,g10,g11,g12,_⟩:=h32
 obtain⟨f0,f1,f2,f3,f4,_⟩:=h64
 have e0:Tryz.prog.cellsOf 126=26:=ay
 have e1:Tryz.prog.cellsOf 119=9:=ay
 have e2:Tryz.prog.cellsOf 117=8:=ay
 have e3:Tryz.prog.cellsOf 116=1:=ay
 have e4:Tryz.prog.cellsOf 9=1:=ay
 have e5:Tryz.prog.cellsOf 3=1:=ay
 have e6:Tryz.prog.cellsOf 4=1:=ay
 have e7:Tryz.prog.cellsOf 122=8:=ay
 have e8:Tryz.prog.cellsOf 121=2:=ay
 have e9:Tryz.prog.cellsOf 124=4:=ay
 have hr:List.range 4=[0,1,2,3]:=rfl
 have Ue:List.range 8=[0,1,2,3,4,5,6,7]:=rfl
 simp (config := { maxSteps := 4000000 }) [Program.keyLits,Tryz.underlying126,Tryz.underlying119,Tryz.underlying117,Tryz.underlying116,Tryz.underlying9,Tryz.underlying3,Tryz.underlying4,Tryz.underlying122,Tryz.underlying121,Tryz.underlying124,e0,e1,e2,e3,e4,e5,e6,e7,e8,e9,hr,Ue,Rv,abA,w1,w2,w3,hm,g0,g1,g2,g3,g4,g5,g6,g7,g8,g9,g10,g11,g12,f0,f1,f2,f3,f4]
 simp +decide
theorem aea(x y:dz)(hx:Bc x)(hy:Bc y):∀w,(Op.equalIn 10000 126 (jQ x) (jQ y)).run Tryz.prog w=.ok (decide (x=y)) w:=by
 refine j_ (m:=8) aj ay ay (Sj x hx) (Sj y hy) _ ?_
 rw[decide_eq_true_iff]
 constructor
 ·rintro rfl;rfl
 ·intro h
  simp only[List.cons.injEq,Lit.int.injEq,true_and] at h
  exact dz.ext h.1 h.2.1 h.2.2.1 (aeN x.ok y.ok h.2.2.2)
def RL:List Value:=Rv 0 0 0 0 0 0 0 0 0 ⟨#[]⟩ 0 0 false 0 false 0 false 0 false 0 0 0 0
def kQ(n:Int):dz:=⟨n,0,0,RL,⟨0,0,0,0,0,0,0,0,0,⟨#[]⟩,0,0,false,0,false,0,false,0,false,0,0,0,0,rfl,aC,aC,aC⟩⟩
theorem adY(n:Int):eT (kQ n)=#[.int .i64 n,.int .i64 0,.int .i64 0,.int .u32 0,.int .u32 0,.int .u32 0,.int .u32 0,.int .u32 0,.int .u32 0,.int .u32 0,.int .u32 0,.int .u32 0,.string ⟨#[]⟩,.int .i64 0,.int .i64 0,.bool false,.int .i64 0,.bool false,.int .i64 0,.bool false,.int .i64 0,.bool false,.int .u32 0,.int .u32 0,.int .u32 0,.int .u32 0]:=by rw[vg];rfl
theorem bf:Ty Tryz.prog 126 26 true:=⟨ay,ay,aC,ay⟩
theorem AO:(Tryz.prog.info? 126).map (fun i=>(i.zero,i.size,i.bytes))=some (some (.agg #[.int .i64 0,.int .i64 0,.int .i64 0,.int .u32 0,.int .u32 0,.int .u32 0,.int .u32 0,.int .u32 0,.int .u32 0,.int .u32 0,.int .u32 0,.int .u32 0,.string ⟨#[]⟩,.int .i64 0,.int .i64 0,.bool false,.int .i64 0,.bool false,.int .i64 0,.bool false,.int .i64 0,.bool false,.int .u32 0,.int .u32 0,.int .u32 0,.int .u32 0]),26,168):=by kernel_rfl
theorem CJ(v:Value)(xs:List Value)(w:World)(hsl:Sl w true 26 v xs)(hbytes:xs.length*168≤140737488355328):
  Calls Tryz.prog 101 #[v] w fun e w'=>∃v',e=.returned v'∧bI w' w.heap.size 126 true 26 v' xs∧Below w.heap.size w w':=by
 have rF:=ah hsl
 obtain⟨hsz,a,cap,rfl,hl,hm,dL⟩:=hsl
 have hlen:xs.length≤maxLen:=aj
 cases a with
 |none=>
  have h0:xs=[]:=Bp
  subst h0
  have hnil:=fun(n c:Nat) (w:World)=>fE Tryz.prog (t:=43) (n:=n) (c:=c) Tryz.underlying43 w
  clear dL hsz hl hm hlen
  go_enter Tryz.func101,Tryz.ntmps101
  exact Bq
 |some a=>
  have hnil:=fun(n c:Nat) (w:World)=>fD Tryz.prog (t:=43) (a:=a) (n:=n) (c:=c) Tryz.underlying43 w
  obtain⟨i0,hi,hz0,hz1,hz2⟩:=info_parts AO
  have HI:=ah hi
  have HZ:=ah (And.intro hz0 (And.intro hz1 hz2))
  have HS:=ah hsz
  clear hi hz0 hz1 hz2 dL hl hm hsz
  go_enter Tryz.func101,Tryz.ntmps101
  go_wp2_with(first|(refine wpList_append_own _ rfl _ _ 43 rfl w.heap.size 126 i0 (.agg #[.int .i64 0,.int .i64 0,.int .i64 0,.int .u32 0,.int .u32 0,.int .u32 0,.int .u32 0,.int .u32 0,.int .u32 0,.int .u32 0,.int .u32 0,.int .u32 0,.string ⟨#[]⟩,.int .i64 0,.int .i64 0,.bool false,.int .i64 0,.bool false,.int .i64 0,.bool false,.int .i64 0,.bool false,.int .u32 0,.int .u32 0,.int .u32 0,.int .u32 0]) 26 168 Tryz.underlying43 HI.out HZ.out.1 HZ.out.2.1 HZ.out.2.2 rfl aC (.slice (some ⟨w.heap.size,0,none⟩) 0 0) 0 [] dw (World.ownsRow_made w #[] 0 (Nat.le_refl _) (Nat.zero_le _) rfl) a xs.length cap (flat xs) dw ?c1 ?c2 ?c3 ?c4 ?c5 ?c6 ?_)|fail)
  case c1=>exact fA HS.out
  case c2=>exact(rF.out.below ((Below.refl _ _).alloc (Nat.le_refl _) _)).news
  case c3=>exact jq HS.out
  case c4=>omega
  case c5=>omega
  case c6=>simp
  exact L9
theorem XZ:Val true 26 (.agg #[.int .i64 0,.int .i64 0,.int .i64 0,.int .u32 0,.int .u32 0,.int .u32 0,.int .u32 0,.int .u32 0,.int .u32 0,.int .u32 0,.int .u32 0,.int .u32 0,.string ⟨#[]⟩,.int .i64 0,.int .i64 0,.bool false,.int .i64 0,.bool false,.int .i64 0,.bool false,.int .i64 0,.bool false,.int .u32 0,.int .u32 0,.int .u32 0,.int .u32 0]):=by
 rw[←adY];exact fG (kQ 0)
end Go.Proofs.YtgmodehldmahiaaGreatDoor.aT
namespace Go.Proofs.YtgmodehldmahiaaGreatDoor.aT
open Go Go.RowKit Go.Tm
theorem TF(v:Value)(xs:List Value)(i:Nat)(x:Value)(U:Nat)(w:World)(base:Nat)(ho:bI w base 126 true 26 v xs)(hi:i≤xs.length)(hx:Val true 26 x)(jo:aD w U x.cells 126)
  (hU:∀b,v.ownBlock=some b→b≠U)(hbase:base≤w.heap.size)(hby:(xs.length+1)*168≤140737488355328):
  Calls Tryz.prog 105 #[v,.int .i64 i,.slice (some ⟨U,0,none⟩) 1 1] w fun e w'=>∃v',e=.returned v'∧bI w' base 126 true 26 v' (xs.take i++x::xs.drop i)∧w.grownBy w' v.ownBlock:=by
 obtain⟨i0,qN,oq,gD,mh⟩:=info_parts AO
 have HI:=ah (And.intro qN (And.intro oq (And.intro gD mh)))
 clear qN oq gD mh
 have HU:=ah (Sl.Nn (ag:=true) (k:=26) hx jo)
 have HO:=ah ho
 have ad6:xs.length+1≤9223372036854775807:=aj
 by_cases CW:i=xs.length
 ·subst CW
  obtain⟨_,a,cap,rfl,hlc,hcm,_⟩:=ho.sl
  have HL:=ah (show xs.take xs.length++x::xs.drop xs.length=xs++[x] by simp)
  clear ho jo hU
  by_cases hce:cap=xs.length
  ·subst hce
   go_enter Tryz.func105,Tryz.ntmps105
   go_wp2_with(first|(refine dJ (v:= .slice a xs.length xs.length) (xs:=xs) (base:=base) rfl _ _ 43 rfl bf i0 (.agg #[.int .i64 0,.int .i64 0,.int .i64 0,.int .u32 0,.int .u32 0,.int .u32 0,.int .u32 0,.int .u32 0,.int .u32 0,.int .u32 0,.int .u32 0,.int .u32 0,.string ⟨#[]⟩,.int .i64 0,.int .i64 0,.bool false,.int .i64 0,.bool false,.int .i64 0,.bool false,.int .i64 0,.bool false,.int .u32 0,.int .u32 0,.int .u32 0,.int .u32 0]) 168 Tryz.underlying43 HI.out.1 HI.out.2.1 HI.out.2.2.1 HI.out.2.2.2 rfl ?_ ?_ (.slice (some ⟨U,0,none⟩) 1 1) ([x]) ?_ ?_ ?_ ?_ ?_ ?_;(exact aM);(focus(exact HO.out));(exact aM);(focus(exact HU.out));(exact vV);(exact vU);(exact vW);(intro v4 w4 qz hg4 xQ;have sD:=ah qz;have M6:=ah hg4;clear qz hg4 xQ))|fail)
   exact Ni
  ·go_enter Tryz.func105,Tryz.ntmps105
   go_wp2_with(first|(refine dJ (v:= .slice a xs.length cap) (xs:=xs) (base:=base) rfl _ _ 43 rfl bf i0 (.agg #[.int .i64 0,.int .i64 0,.int .i64 0,.int .u32 0,.int .u32 0,.int .u32 0,.int .u32 0,.int .u32 0,.int .u32 0,.int .u32 0,.int .u32 0,.int .u32 0,.string ⟨#[]⟩,.int .i64 0,.int .i64 0,.bool false,.int .i64 0,.bool false,.int .i64 0,.bool false,.int .i64 0,.bool false,.int .u32 0,.int .u32 0,.int .u32 0,.int .u32 0]) 168 Tryz.underlying43 HI.out.1 HI.out.2.1 HI.out.2.2.1 HI.out.2.2.2 rfl ?_ ?_ (.slice (some ⟨U,0,none⟩) 1 1) ([x]) ?_ ?_ ?_ ?_ ?_ ?_;(exact aM);(focus(exact HO.out));(exact aM);(focus(exact HU.out));(exact vV);(exact vU);(exact vW);(intro v4 w4 qz hg4 xQ;have sD:=ah qz;have M6:=ah hg4;clear qz hg4 xQ))|fail)
   exact Ni
 have hlt:i<xs.length:=aj
 obtain⟨g,cap,rfl,hlc,hcm,hbg,qI,_,_⟩:=ho.form aj
 unfold maxLen at hcm
 have MO:(Value.slice (some ⟨g,0,none⟩) xs.length cap).ownBlock=some g:=rfl
 rw[MO]
 have hgU:g≠U:=hU g rfl
 have amU:(i:Int)<xs.length:=aj
 have amT:((i:Int)==xs.length)=false:=qW
 have hwn:IntKind.i64.wrap ((xs.length:Int)+1)=xs.length+1:=IntWalk.i64_in _ aj
 have hwi:IntKind.i64.wrap ((i:Int)+1)=i+1:=IntWalk.i64_in _ aj
 have LV:¬cap=i:=aj
 have xq:=fun n W (h:n≤cap) (h':i≤n)=>rz (P:=Tryz.prog) (t:=43) bf Tryz.underlying43 g 0 n cap i i rfl h' h aj W
 by_cases hroom:xs.length+1≤cap
 ·
  have JD:¬(cap:Int)<(xs.length:Int)+1:=aj
  have ad5:(xs.length:Int)+1≤cap:=aj
  have am3:¬cap=i+1:=aj
  obtain⟨cur,hg,hcs,wK⟩:∃cur,w.heap[g]?=some (.cells cur 126 (0,0))∧cur.size=cap*26∧cur.toList.take (xs.length*26)=flat xs:=acJ
  have hgb:aD w g cur 126:=hg
  have hsz:∀w,(Go.sizeOf 126).run Tryz.prog w=.ok 26 w:=fun w=>by simp[sizeOf,typeInfo,HI.out.1,HI.out.2.2.1]
  have hov:∀lb cb,(callFunc 132 #[.slice (some ⟨U,0,none⟩) 1 1,.slice (some ⟨g,(i+1)*26,none⟩) lb cb]).run Tryz.prog w=.ok (.value (.bool false)) w:=fun lb cb=>by
   rw[run_callFunc_extern Tryz.func132 ay ay ay (e:=Extern.SlicesOverlaps.overlaps #[43,43] #[4]) ay,
    Lib.run_overlaps_apart w 43 4 126 Tryz.underlying43 26 hsz ⟨U,0,none⟩ ⟨g,(i+1)*26,none⟩ 1 1 lb cb (Ne.symm hgU) _ _ _ _ jo.shape hgb.shape (by rw[hcs];omega) (jo.rules.2.1 0) (jo.rules.2.1 _)]
   rfl
  have Iw:=fun W=>rz (P:=Tryz.prog) (t:=43) bf Tryz.underlying43 g 0 (xs.length+1) cap ((i:Int)+1) (i+1) aj aj hroom aj W
  have xq:=fun W=>xq (xs.length+1) W hroom aj
  have hval:=ho.val
  have hDl:(flat (xs.drop i)).length=(xs.length-i)*26:=acn
  have hD1:∀u∈flat (xs.drop i),u.oneCell'=true:=jq (fun y hy=>hval y (List.mem_of_mem_drop hy))
  have hDn:=(HO.out.sl.EX (m:=i) aj).news
  simp only[Nat.zero_add] at Iw xq hDn
  have HDN:=ah hDn
  have HD1:=ah hD1
  have XF:=ah jo
  have HGB:=ah hgb
  have L6:=ah wK
  have ak0:=ah hval
  clear ho hU hg hgb hsz hDn hD1 hval wK jo
  go_enter Tryz.func105,Tryz.ntmps105
  go_wp2_with fail
  clear hov
  ((refine gX 8 ay ay ?_);simp only[List.take_succ_cons,List.take_zero,List.drop_succ_cons,List.drop_zero];(repeat(go_big_quiet_step (fail)));(refine wpQuiet_nil ?_);intro _ hw';obtain⟨⟨dq,osq⟩,hw''⟩:=hw';subst hw'';have hq:=below_regrown w dq osq;generalize Go.Sort.grow (redrawn w dq) osq=w3 at*;have hz3:=hq.size)
  have hb3:aD w3 g cur 126:=HGB.out.below hq HGB.out.lt
  have QE:=ah hb3
  have IJ:∀j u,(flat (xs.drop i))[j]?=some u→w3.cell? ((⟨g,i*26,none⟩:Addr).add j)=some u:=fun j u hu=>by
   have:=HDN.out j u hu
   rw[addr_add] at this⊢
   exact(hq.cell (p:=⟨g,i*26+j,none⟩) HGB.out.lt).trans this
  have anP:=ah IJ
  have vP:(i+1)*26+(flat (xs.drop i)).length≤cur.size:=by
   have e3:(xs.length+1)*26≤cap*26:=Nat.mul_le_mul_right _ hroom
   rw[hDl,hcs];omega
  have Oz:min (xs.length+1-i) (xs.length-i)=xs.length-i:=aj
  have fF:=fun ty=>oh (P:=Tryz.prog) (t:=43) (ty:=ty) (k:=26) (ag:=true) (c:=cap-(i+1)) (cs:=cap-i) (n:=xs.length+1-i) (m:=xs.length-i) (o:=(i+1)*26) bf Tryz.underlying43 hb3 Vb IJ HD1.out vP
  obtain⟨C1,hC1⟩:∃C1,C1=(cur.toList.take ((i+1)*26)++flat (xs.drop i)++cur.toList.drop ((i+1)*26+(flat (xs.drop i)).length)).toArray:=⟨_,rfl⟩
  rw[←hC1] at fF
  have Ra:C1.size=cur.size:=acD
  have ac3:i*26+26≤C1.size:=by rw[Ra];omega
  have HC1:=ah hC1
  have HCP:=ah fF
  clear hb3 IJ fF hC1 Ra
  go_wp2_with(first|(refine wpList_copy_run rfl _ _ 43 43 rfl _ _ ?_ ?_ (HCP.out _) ?_;(focus(simp[Act.eval]));(focus(simp[Act.eval]));generalize XB:w3.setRow g C1=w4;((have hg4:aD w4 g C1 126:=by rw[←XB];exact setRow_heap w3 g cur _ _ (0,0) QE.out);(have hu4:aD w4 U x.cells 126:=by rw[←XB];exact((XF.out.below hq XF.out.lt).row g _ (Ne.symm hgU)));(have Q5:w3.grownBy w4 (some g):=by rw[←XB];exact⟨rfl,rfl,rfl,yx,fun b hb hne=>setRow_other w3 g b _ yB⟩);have M6:=ah hg4;have HU4:=ah (Sl.Nn (ag:=true) (k:=26) hx hu4);have ak5:=ah Q5;clear hg4 hu4 Q5 XB))|((have hl4:x.cells.toList.length=min 1 (xs.length+1-i)*26:=by rw[show min 1 (xs.length+1-i)=1 by omega,hx.len]);(have GR:∀j u,x.cells.toList[j]?=some u→w4.cell? ((⟨U,0,none⟩:Addr).add j)=some u:=by(have hnw:=HU4.out.news);simpa[flat] using hnw);(refine wpList_copy_run rfl _ _ 43 43 rfl (.slice (some ⟨g,i*26,none⟩) (xs.length+1-i) (cap-i)) (.slice (some ⟨U,0,none⟩) 1 1) ?_ ?_ (oh bf Tryz.underlying43 M6.out hl4 GR hx.one Vg) ?_);(focus(simp[Act.eval]));(focus(simp[Act.eval]));clear hl4 GR;generalize QA:w4.setRow g (C1.toList.take (i*26)++x.cells.toList++C1.toList.drop (i*26+x.cells.toList.length)).toArray=w5;have Y1:=ah QA;clear QA)|fail)
  go_ret
  have QA:=Y1.out
  subst QA
  have hC2:C1.toList.take (i*26)++x.cells.toList++C1.toList.drop (i*26+x.cells.toList.length)=cur.toList.take (i*26)++x.cells.toList++flat (xs.drop i)++cur.toList.drop (i*26+26+(flat (xs.drop i)).length):=by
   have h:=Cv cur.toList (flat (xs.drop i)) x.cells.toList (i*26) 26 hx.len Jh
   rw[HC1.out,show(i+1)*26=i*26+26 from Nat.succ_mul _ _]
   exact h
  exact acL
 ·
  obtain⟨m,hm⟩:∃m,i+m=xs.length+1:=⟨xs.length+1-i,aj⟩
  have JD:(cap:Int)<(xs.length:Int)+1:=aj
  have hwm:IntKind.i64.wrap ((xs.length:Int)+1-i)=m:=Jk
  have xq:=fun W=>xq xs.length W hlc aj
  simp only[Nat.zero_add] at xq
  have HDA:=ah (HO.out.sl.EX (m:=i) aj)
  have Qs:Val true 26 (.agg #[.int .i64 0,.int .i64 0,.int .i64 0,.int .u32 0,.int .u32 0,.int .u32 0,.int .u32 0,.int .u32 0,.int .u32 0,.int .u32 0,.int .u32 0,.int .u32 0,.string ⟨#[]⟩,.int .i64 0,.int .i64 0,.bool false,.int .i64 0,.bool false,.int .i64 0,.bool false,.int .i64 0,.bool false,.int .u32 0,.int .u32 0,.int .u32 0,.int .u32 0]):=XZ
  clear ho jo hU
  go_enter Tryz.func105,Tryz.ntmps105
  go_wp2_with(first|(refine ny (base:=base) rfl _ _ 43 3 rfl bf i0 (.agg #[.int .i64 0,.int .i64 0,.int .i64 0,.int .u32 0,.int .u32 0,.int .u32 0,.int .u32 0,.int .u32 0,.int .u32 0,.int .u32 0,.int .u32 0,.int .u32 0,.string ⟨#[]⟩,.int .i64 0,.int .i64 0,.bool false,.int .i64 0,.bool false,.int .i64 0,.bool false,.int .i64 0,.bool false,.int .u32 0,.int .u32 0,.int .u32 0,.int .u32 0]) .i64 168 Tryz.underlying43 Tryz.underlying3 HI.out.1 HI.out.2.1 HI.out.2.2.1 HI.out.2.2.2 Qs g xs.length cap HO.out i m aj aj aj yA (by rw[hm];exact hby) hbase ?_ ?_ ?_;(focus(simp[Act.eval]));(focus(simp[Act.eval]));(intro jl w2 hc2 o7 hg2;have hb2:Below w.heap.size w w2:=bJ hg2;(have akg:¬jl=i:=by omega);have nR:=ah o7;have HU2:=ah (HU.out.below hb2);clear o7 hg2))|(refine wpList_copy_own (base:=base) rfl _ _ 43 rfl bf Tryz.underlying43 w.heap.size (i+m) jl (xs.take i++List.replicate m (.agg #[.int .i64 0,.int .i64 0,.int .i64 0,.int .u32 0,.int .u32 0,.int .u32 0,.int .u32 0,.int .u32 0,.int .u32 0,.int .u32 0,.int .u32 0,.int .u32 0,.string ⟨#[]⟩,.int .i64 0,.int .i64 0,.bool false,.int .i64 0,.bool false,.int .i64 0,.bool false,.int .i64 0,.bool false,.int .u32 0,.int .u32 0,.int .u32 0,.int .u32 0])) [x] nR.out i (xs.length+1-i) (jl-i) ⟨U,0,none⟩ 1 HU2.out ?_ ?_ ?_ ?_ ?_;(focus(simp;omega));(focus(simp;omega));(focus(simp[Act.eval]));(focus(simp[Act.eval]));(intro w3 pz hg3;have uH:=ah pz;have hb3:Below w.heap.size w w3:=hb2.grown hg3 hb2.size ER;clear pz hg3))|fail)
  have Iw:=fun W=>rz (P:=Tryz.prog) (t:=43) bf Tryz.underlying43 w.heap.size 0 (xs.length+1) jl ((i:Int)+1) (i+1) aj aj aj aj W
  simp only[Nat.zero_add] at Iw
  simp only[Act.put,List.setIfInBounds_toArray,List.set_cons_succ,List.set_cons_zero,goInt,List.length_cons,List.length_nil]
  ((refine gX 8 ay ay ?_);simp only[List.take_succ_cons,List.take_zero,List.drop_succ_cons,List.drop_zero];(repeat(go_big_quiet_step (fail)));(refine wpQuiet_nil ?_);intro _ hw';obtain⟨⟨dq,osq⟩,hw''⟩:=hw';subst hw'';have hq:=below_regrown w3 dq osq;generalize Go.Sort.grow (redrawn w3 dq) osq=w4 at*;have xU:=hq.size)
  have hb4:Below w.heap.size w w4:=hb3.trans (hq.mono hb3.size)
  have sD:=ah (uH.out.kept hq)
  have ab7:=ah (HDA.out.below hb4)
  go_wp2_with(first|(refine wpList_copy_own (base:=base) rfl _ _ 43 rfl bf Tryz.underlying43 w.heap.size (i+m) jl _ (xs.drop i) sD.out (i+1) (xs.length-i) (jl-(i+1)) ⟨g,0+i*26,none⟩ (cap-i) ab7.out ?_ ?_ ?_ ?_ ?_;(focus(simp));(focus(simp;omega));(focus(simp[Act.eval]));(focus(simp[Act.eval]));(intro w5 MP nK;have Ht:=ah MP;have kV:Below w.heap.size w w5:=hb4.grown nK hb4.size ER;clear MP nK))|fail)
  go_ret
  refine⟨_,rfl,?_,aA kV _⟩
  have h:=Ht.out
  rw[hm] at h
  rw[←JY (z:= .agg #[.int .i64 0,.int .i64 0,.int .i64 0,.int .u32 0,.int .u32 0,.int .u32 0,.int .u32 0,.int .u32 0,.int .u32 0,.int .u32 0,.int .u32 0,.int .u32 0,.string ⟨#[]⟩,.int .i64 0,.int .i64 0,.bool false,.int .i64 0,.bool false,.int .i64 0,.bool false,.int .i64 0,.bool false,.int .u32 0,.int .u32 0,.int .u32 0,.int .u32 0]) (x:=x) hlt hm]
  exact h
theorem Ah(v:Value)(xs:List Value)(mG:FuncId)(gI:Array Value)(p:Value→Bool)(w:World)(hsl:Sl w true 26 v xs)(hp:Pred Tryz.prog w none mG gI p xs):
  Calls Tryz.prog 131 #[v,.func (.func mG) #[] gI] w fun e w'=>e=.returned (.int .i64 (idx p xs))∧Below w.heap.size w w':=by
 obtain⟨hsz,a,cap,rfl,hl,hm,dL⟩:=hsl
 unfold maxLen at hm
 have hlen:xs.length≤9223372036854775807:=aj
 go_enter Tryz.func131,Tryz.ntmps131
 go_wp2_with fail
 go_loopw [8] (fun t wr=>∃i:Nat,i≤xs.length∧t=.int .i64 i∧Below w.heap.size w wr∧∀j y,j<i→xs[j]?=some y→p y=false) (fun t _=>xs.length-(intOf t).toNat)
 case atStart=>exact⟨0,Nat.zero_le _,rfl,Below.refl _ _,wR⟩
 case round=>
  obtain⟨i,hi,rfl,bZ,iq⟩:=hrel
  have HP:=ah iq
  clear iq
  by_cases hlt:i<xs.length
  ·obtain⟨x,hx⟩:∃x,xs[i]?=some x:=⟨_,List.getElem?_eq_getElem hlt⟩
   have jW:x∈xs:=List.mem_of_getElem? hx
   have HV:=ah (hsz _ jW)
   obtain⟨b,off,rfl,hb,hcell⟩:∃b off,a=some ⟨b,off,none⟩∧b<w.heap.size∧Cells wr b (off+i*26) x.cells.toList:=Br
   have HX:=ah hx
   have qP:=ah hcell
   clear hx hcell dL hsz
   have jS:=hp.asks wr (aA bZ none) _ jW
   have fJ:=hp.body
   unfold Body at fJ
   have HC:=ah jS
   clear jS hp
   cases jJ:p x
   ·have xS:=ah jJ
    rw[jJ] at HC
    clear jJ
    go_wp2_with(first|(refine aN rfl 126 _ rfl b (off+i*26) dw x bf HV.out qP.out ?_)|fail)
    exact L_
   ·have xS:=ah jJ
    rw[jJ] at HC
    clear jJ
    go_wp2_with(first|(refine aN rfl 126 _ rfl b (off+i*26) dw x bf HV.out qP.out ?_)|fail)
    exact Bt
  ·exact Bu
theorem Zx:Val true 26 (.agg #[.int .i64 0,.int .i64 0,.int .i64 0,.int .u32 0,.int .u32 0,.int .u32 0,.int .u32 0,.int .u32 0,.int .u32 0,.int .u32 0,.int .u32 0,.int .u32 0,.string ⟨#[]⟩,.int .i64 0,.int .i64 0,.bool false,.int .i64 0,.bool false,.int .i64 0,.bool false,.int .i64 0,.bool false,.int .u32 0,.int .u32 0,.int .u32 0,.int .u32 0]):=XZ
theorem Hl(v:Value)(xs:List Value)(mG:FuncId)(gI:Array Value)(p:Value→Bool)(w:World)(base:Nat)(dL:∀x∈xs,(fun x:Value=>∃cs:Array Value,x=.agg cs∧cs.size=26) x)(ho:bI w base 126 true 26 v xs)(hp:Pred Tryz.prog w v.ownBlock mG gI p xs):
  Calls Tryz.prog 190 #[v,.func (.func mG) #[] gI] w fun e w'=>∃v',e=.returned v'∧Sl w' true 26 v' (xs.filter fun x=>!p x)∧v'.ownBlock=v.ownBlock∧w.grownBy w' v.ownBlock:=by
 have hI:=Ah v xs mG gI p w ho.sl ⟨hp.body,fun w' hg x hx=>hp.asks w' ⟨hg.os,hg.tape,hg.output,hg.size,fun b hb _=>hg.block b hb aI⟩ x hx⟩
 rcases kU p xs with⟨hi,hall⟩|⟨i0,x0,hi,hx0,Mc,iq⟩
 ·rw[hi] at hI
  have HF:=ah (show xs.filter (fun x=>!p x)=xs from List.filter_eq_self.2 (fun x hx=>Je))
  have HO:=ah ho
  clear hp ho hall
  go_enter Tryz.func190,Tryz.ntmps190
  exact Rq
 ·rw[hi] at hI
  have af6:i0<xs.length:=(List.getElem?_eq_some_iff.1 hx0).1
  obtain⟨g,cap,rfl,hlc,hcm,hbg,qI,Hr,_⟩:=ho.form aj
  have hlen:xs.length≤9223372036854775807:=Jg
  have MO:(Value.slice (some ⟨g,0,none⟩) xs.length cap).ownBlock=some g:=rfl
  rw[MO] at hp⊢
  obtain⟨i1,qN,oq,gD,mh⟩:=info_parts AO
  have GL:∀w,(zeroValue 126).run Tryz.prog w=.ok (.agg #[.int .i64 0,.int .i64 0,.int .i64 0,.int .u32 0,.int .u32 0,.int .u32 0,.int .u32 0,.int .u32 0,.int .u32 0,.int .u32 0,.int .u32 0,.int .u32 0,.string ⟨#[]⟩,.int .i64 0,.int .i64 0,.bool false,.int .i64 0,.bool false,.int .i64 0,.bool false,.int .i64 0,.bool false,.int .u32 0,.int .u32 0,.int .u32 0,.int .u32 0]) w:=fun w=>by simp[zeroValue,typeInfo,qN,oq]
  have HZV:=ah GL
  clear qN oq gD mh GL Hr
  have Y6:=ah ho
  have HPR:=ah hp
  have fJ:=hp.body
  unfold Body at fJ
  have Da:xs.take i0=(xs.take (i0+1)).filter (fun x=>!p x):=Rs
  have EH:=ah Da
  have afY:IntKind.i64.wrap ((i0:Int)+1)=i0+1:=IntWalk.i64_in _ aj
  have abH:((i0:Int)==-1)=false:=qW
  clear ho hp iq Da hx0 Mc
  go_enter Tryz.func190,Tryz.ntmps190
  go_wp2_with fail
  with_reducible refine hI.mono ?_
  rintro e w1 ⟨rfl,hb1⟩
  have hz1:=hb1.size
  go_wp2_with fail
  go_loopw [5,6] (fun u t W=>∃(i j:Nat) (zs:List Value),i<j∧j≤xs.length∧u=.int .i64 i∧t=.int .i64 j∧zs.length=xs.length∧bI W base 126 true 26 (.slice (some ⟨g,0,none⟩) xs.length cap) zs∧w.grownBy W (some g)∧
   zs.take i=(xs.take j).filter (fun x=>!p x)∧∀r,j≤r→zs[r]?=xs[r]?) (fun _ t _=>xs.length-(intOf t).toNat)
  case atStart=>exact⟨i0,i0+1,xs,aj,aj,rfl,dn,rfl,Y6.out.kept hb1,aA hb1 _,EH.out,fun _ _=>rfl⟩
  case round=>
   obtain⟨i,j,zs,hij,hj,rfl,rfl,hzl,how,qI,wK,hdr⟩:=hrel
   have HO:=ah how
   have HZL:=ah hzl
   have L6:=ah wK
   have UJ:=ah hdr
   have HG:=ah qI
   clear how hzl wK hdr qI
   by_cases hlt:j<xs.length
   ·obtain⟨x,hx⟩:∃x,xs[j]?=some x:=⟨_,List.getElem?_eq_getElem hlt⟩
    have Bh:zs[j]?=some x:=(UJ.out j (Nat.le_refl _)).trans hx
    obtain⟨b',off',FN,agf,hcell⟩:=HO.out.sl.at Bh
    simp only[Option.some.injEq,Addr.mk.injEq,and_true] at FN
    obtain⟨rfl,rfl⟩:=FN
    rw[Nat.zero_add] at hcell
    have qP:=ah hcell
    have HV:=ah (HO.out.val x (List.mem_of_getElem? Bh))
    have HC:=ah (fun W h=>HPR.out.asks W h x (List.mem_of_getElem? hx))
    obtain⟨cs,rfl,hcs⟩:=dL x (List.mem_of_getElem? hx)
    have HX:=ah hx
    have hwj:IntKind.i64.wrap ((j:Int)+1)=j+1:=IntWalk.i64_in _ aj
    have hwi:IntKind.i64.wrap ((i:Int)+1)=i+1:=IntWalk.i64_in _ aj
    clear hx Bh hcell
    cases jJ:p (.agg cs)
    ·have xS:=ah jJ
     rw[jJ] at HC
     clear jJ
     have xu:i<zs.length:=wS
     go_wp2_with(first|(refine aN rfl 126 _ rfl g (j*26) dw (.agg cs) bf HV.out qP.out ?_)|(refine aU rfl 126 _ _ rfl cs bf HV.out aF dw dw ?_)|(refine aK rfl 126 _ rfl (b:=wr.heap.size) (t:=126) cs bf HV.out (aD.new wr _ _) dw ?_)|(refine aK rfl 126 _ rfl (b:=wr.heap.size) (t:=126) cs bf HV.out ab8.out dw ?_)|((with_reducible refine(HC.out _ ?_).mono ?_);(focus exact aB HG.out (World.grownBy_alloc _ _ _));rintro e w2 ⟨rfl,hb2⟩;have hz2:=hb2.size;simp only[World.size_alloc] at hz2;have xw:Below wr.heap.size wr w2:=((Below.refl wr.heap.size wr).alloc (Nat.le_refl _) _).trans (hb2.mono dF);have nR:=ah (HO.out.kept xw);have tu:aD w2 wr.heap.size cs 126:=aD.below (aD.new wr _ _) hb2 dF;obtain⟨gL,iZ,hlx,iY,hmx⟩:=tu.rules;have ab8:=ah tu;clear tu)|(refine eB (base:=base) rfl _ _ rfl bf g xs.length cap nR.out i xu ?_ (.agg cs) ?_ HV.out ?_;(focus(simp[Act.eval]));(focus(simp[Act.eval]));(intro w3 pz hg3;have uH:=ah pz;have hg3':=aB HG.out (aB (aA xw (some g)) hg3);have CZ:=ah hg3';clear pz hg3 hg3'))|fail)
     go_roundw
     case rel=>
      refine⟨i+1,j+1,_,aj,aj,dn,dn,?_,uH.out,CZ.out,?_,?_⟩
      ·exact Jr
      ·rw[eO HX.out,List.filter_append,←L6.out,eO (i:=i) (x:= .agg cs) Ji,List.take_set_of_le (Nat.le_refl _)]
       simp[xS.out]
      ·exact Ro
     case measure=>simp[intOf];omega
    ·have xS:=ah jJ
     rw[jJ] at HC
     clear jJ
     go_wp2_with(first|(refine aN rfl 126 _ rfl g (j*26) dw (.agg cs) bf HV.out qP.out ?_)|(refine aU rfl 126 _ _ rfl cs bf HV.out aF dw dw ?_)|(refine aK rfl 126 _ rfl (b:=wr.heap.size) (t:=126) cs bf HV.out (aD.new wr _ _) dw ?_)|(refine aK rfl 126 _ rfl (b:=wr.heap.size) (t:=126) cs bf HV.out ab8.out dw ?_)|((with_reducible refine(HC.out _ ?_).mono ?_);(focus exact aB HG.out (World.grownBy_alloc _ _ _));rintro e w2 ⟨rfl,hb2⟩;have hz2:=hb2.size;simp only[World.size_alloc] at hz2;have xw:Below wr.heap.size wr w2:=((Below.refl wr.heap.size wr).alloc (Nat.le_refl _) _).trans (hb2.mono dF);have nR:=ah (HO.out.kept xw);have tu:aD w2 wr.heap.size cs 126:=aD.below (aD.new wr _ _) hb2 dF;obtain⟨gL,iZ,hlx,iY,hmx⟩:=tu.rules;have ab8:=ah tu;clear tu)|fail)
     exact XO
   ·have YO:j=xs.length:=by omega
    subst YO
    have xu:i<zs.length:=wS
    have zC:zs.length-i=xs.length-i:=I_
    go_wp2_with(first|(refine l5 (base:=base) rfl _ 43 rfl bf Tryz.underlying43 HZV.out Zx g xs.length cap (cap-i) HO.out i xu ?_ ?_;(focus(rw[zC];simp[Act.eval]));(intro w3 pz hg3;have uH:=ah pz;have CZ:=ah (aB HG.out hg3);clear pz hg3))|fail)
    exact Rp
end Go.Proofs.YtgmodehldmahiaaGreatDoor.aT
namespace Go.Proofs.YtgmodehldmahiaaGreatDoor.aT
open Go Go.RowKit Go.Tm
def uj(pid:Int):Value→Bool:=fun v=>match(v.cells)[0]? with|some (Value.int _ n)=>decide (n=pid)|_=>false
def gtP(pid:Int):Value→Bool:=fun v=>match(v.cells)[0]? with|some (Value.int _ n)=>decide (pid<n)|_=>false
theorem NI(x:dz):(jQ x).cells=eT x:=rfl
theorem Au(pid:Int)(x:dz):uj pid (jQ x)=decide (x.pid=pid):=by unfold uj;rw[NI,xZ]
theorem ad8(pid:Int)(x:dz):gtP pid (jQ x)=decide (pid<x.pid):=by unfold gtP;rw[NI,xZ]
theorem afE:Body Tryz.prog 130:=gq Tryz.func130 ay ay
theorem aag:Body Tryz.prog 191:=gq Tryz.func191 ay ay
theorem aao:Body Tryz.prog 104:=gq Tryz.func104 ay ay
theorem ahD(x:dz)(pid:Int)(B:Nat)(w:World)(hB:B<w.heap.size)(hc0:w.cell? ⟨B,0,none⟩=some (.int .i64 pid)):
  Calls Tryz.prog 130 #[jQ x,.pointer (some ⟨B,0,none⟩)] w fun e w'=>e=.returned (.bool (uj pid (jQ x)))∧Below w.heap.size w w':=by
 rw[Au]
 have hne:¬B=w.heap.size:=aj
 have q0:=xZ x
 by_cases h:x.pid=pid
 ·have hb:(x.pid==pid)=true:=by simpa using h
  go_enter Tryz.func130,Tryz.ntmps130
  exact rO
 ·have hb:(x.pid==pid)=false:=by simpa using h
  go_enter Tryz.func130,Tryz.ntmps130
  exact rO
theorem aeO(x:dz)(pid:Int)(B:Nat)(w:World)(hB:B<w.heap.size)(hc0:w.cell? ⟨B,0,none⟩=some (.int .i64 pid)):
  Calls Tryz.prog 191 #[jQ x,.pointer (some ⟨B,0,none⟩)] w fun e w'=>e=.returned (.bool (uj pid (jQ x)))∧Below w.heap.size w w':=by
 rw[Au]
 have hne:¬B=w.heap.size:=aj
 have q0:=xZ x
 by_cases h:x.pid=pid
 ·have hb:(x.pid==pid)=true:=by simpa using h
  go_enter Tryz.func191,Tryz.ntmps191
  exact rO
 ·have hb:(x.pid==pid)=false:=by simpa using h
  go_enter Tryz.func191,Tryz.ntmps191
  exact rO
theorem aeV(x:dz)(pid:Int)(B:Nat)(w:World)(hB:B<w.heap.size)(hc0:w.cell? ⟨B,0,none⟩=some (.int .i64 pid)):
  Calls Tryz.prog 104 #[jQ x,.pointer (some ⟨B,0,none⟩)] w fun e w'=>e=.returned (.bool (gtP pid (jQ x)))∧Below w.heap.size w w':=by
 rw[ad8]
 have hne:¬B=w.heap.size:=aj
 have q0:=xZ x
 by_cases h:pid<x.pid
 ·go_enter Tryz.func104,Tryz.ntmps104
  exact rO
 ·go_enter Tryz.func104,Tryz.ntmps104
  exact rO
theorem xJ{f:FuncId}{q:Value→Bool}(fJ:Body Tryz.prog f)(pid:Int)(l:List dz)(B:Nat)(w:World)(hB:B<w.heap.size)(hc0:w.cell? ⟨B,0,none⟩=some (.int .i64 pid))(g:Option Nat)(hg:some B≠g)
  (h:∀(x:dz) (w':World),B<w'.heap.size→w'.cell? ⟨B,0,none⟩=some (.int .i64 pid)→Calls Tryz.prog f #[jQ x,.pointer (some ⟨B,0,none⟩)] w' fun e w''=>e=.returned (.bool (q (jQ x)))∧Below w'.heap.size w' w''):
  Pred Tryz.prog w g f #[.pointer (some ⟨B,0,none⟩)] q (rH l):=
 ⟨fJ,fun w' hw x hm=>by
  obtain⟨n,_,rfl⟩:=List.mem_map.1 hm
  exact h n w' (Nat.lt_of_lt_of_le hB hw.size) ((World.cell?_of_block (a:=⟨B,0,none⟩) (hw.block B hB hg)).trans hc0)⟩
theorem xM(v:Value)(xs:List Value)(mG:FuncId)(gI:Array Value)(p:Value→Bool)(w:World)(hsl:Sl w true 26 v xs)(hp:Pred Tryz.prog w none mG gI p xs):
  Calls Tryz.prog 103 #[v,.func (.func mG) #[] gI] w fun e w'=>e=.returned (.int .i64 (idx p xs))∧Below w.heap.size w w':=by
 have HI:=ah (Ah v xs mG gI p w hsl hp)
 go_enter Tryz.func103,Tryz.ntmps103
 go_wp2_with fail
 with_reducible refine HI.out.mono ?_
 rintro e w1 ⟨rfl,hb1⟩
 go_wp2_with fail
 go_ret
 exact⟨rfl,hb1⟩
def atI(l:List dz)(pid:Int):Int:=idx (uj pid) (rH l)
theorem Py(v:Value)(l:List dz)(pid:Int)(w:World)(hv:Sl w true 26 v (rH l)):
  Calls Tryz.prog 102 #[v,.int .i64 pid] w fun e w'=>e=.returned (.int .i64 (atI l pid))∧Below w.heap.size w w':=by
 have HV:=ah hv
 have HF:=ah (fun W h hB hc=>xM v (rH l) 130 #[.pointer (some ⟨w.heap.size,0,none⟩)] (uj pid) W h (xJ afE pid l w.heap.size W hB hc none aI (fun x w'=>ahD x pid w.heap.size w')))
 unfold atI
 clear hv
 go_enter Tryz.func102,Tryz.ntmps102
 go_wp2_with fail
 with_reducible refine(HF.out _ (HV.out.below ?_) ?_ ?_).mono ?_
 focus exact bl
 focus(simp only[World.size_alloc];omega)
 focus exact(aD.new _ _ _).rules.1 0
 rintro e w1 ⟨rfl,hb1⟩
 have hz1:=hb1.size
 simp only[World.size_alloc] at hz1
 have bZ:Below w.heap.size w w1:=aG
 go_wp2_with fail
 go_ret
 exact⟨rfl,bZ⟩
theorem Tc(l:List dz)(pid:Int):(atI l pid=-1∧∀x∈l,x.pid≠pid)∨∃(i:Nat) (x:dz),atI l pid=i∧l[i]?=some x∧x.pid=pid∧∀j y,j<i→l[j]?=some y→y.pid≠pid:=by
 rcases kU (uj pid) (rH l) with⟨h1,h2⟩|⟨i,x,h1,h2,h3,h4⟩
 ·refine .inl ⟨h1,fun x hx=>?_⟩
  have:=h2 _ (List.mem_map_of_mem hx)
  rw[Au] at this
  simpa using this
 ·obtain⟨y,hy,rfl⟩:∃y,l[i]?=some y∧jQ y=x:=by
   rw[List.getElem?_map] at h2
   cases hl:l[i]? with
   |none=>rw[hl] at h2;cases h2
   |some y=>rw[hl] at h2;exact⟨y,rfl,Jb⟩
  rw[Au] at h3
  refine .inr ⟨i,y,h1,hy,by simpa using h3,fun j z hj hz=>?_⟩
  have:=h4 j _ hj (H9 hz)
  rw[Au] at this
  simpa using this
def bK(l:List dz)(pid:Int):dz×Bool:=match l.find? (fun x=>decide (x.pid=pid)) with|some x=>(x,true)|none=>(kQ 0,false)
theorem WW{l:List dz}{pid:Int}(h:∀x∈l,x.pid≠pid):bK l pid=(kQ 0,false):=by
 unfold bK
 rw[List.find?_eq_none.2 (by intro x hx;simpa using h x hx)]
theorem WV{l:List dz}{pid:Int}{i:Nat}{x:dz}(h1:l[i]?=some x)(h2:x.pid=pid)(h3:∀j y,j<i→l[j]?=some y→y.pid≠pid):bK l pid=(x,true):=by
 unfold bK
 have:l.find? (fun x=>decide (x.pid=pid))=some x:=by
  induction l generalizing i with
  |nil=>simp at h1
  |cons y r ih=>
   cases i with
   |zero=>simp at h1;subst h1;simp[h2]
   |succ i=>
    have hy:y.pid≠pid:=h3 0 y aj rfl
    rw[List.find?_cons_of_neg (by simpa using hy)]
    exact ih (by simpa using h1) (fun j z hj hz=>h3 (j+1) z aj (by simpa using hz))
 rw[this]
theorem n_(v:Value)(l:List dz)(pid:Int)(w:World)(hv:Sl w true 26 v (rH l)):
  Calls Tryz.prog 109 #[v,.int .i64 pid] w fun e w'=>e=.returned (.tuple #[jQ (bK l pid).1,.bool (bK l pid).2])∧Below w.heap.size w w':=by
 have HV:=ah hv
 have HA:=ah (fun W h=>Py v l pid W h)
 obtain⟨a,cap,rfl,hl⟩:=hv.shape
 rw[jC] at hl HV HA⊢
 clear hv
 rcases Tc l pid with⟨hi,hno⟩|⟨i,x,hi,hx,hp,hno⟩
 ·rw[hi] at HA
  rw[WW hno]
  clear hi hno
  go_enter Tryz.func109,Tryz.ntmps109
  go_wp2_with fail
  have hb0:=fun cs=>aD.new w cs 126
  with_reducible refine(HA.out _ (HV.out.below ?_)).mono ?_
  focus exact bl
  rintro e w1 ⟨rfl,hb1⟩
  have hz1:=hb1.size
  simp only[World.size_alloc] at hz1
  have bx1:=(hb0 _).below hb1 dF
  have bZ:Below w.heap.size w w1:=aG
  clear hb0 hb1
  have hv0:Val true 26 (.agg (eT (kQ 0))):=fG _
  go_wp2_with(first|(refine nM rfl 126 _ _ rfl bx1 (eT (kQ 0)) bf hv0 aF dw (by simp[Act.eval,adY]) ?_;intro w2 tu hb2 hz2 hg2;have Ao:=ah tu;clear tu)|fail)
  exact bodyPost_ret (v:= .tuple #[jQ (kQ 0),.bool false]) ((oM Tryz.results109 _ rfl bf hv0 Ao.out).trans rfl) rfl ⟨rfl,bZ.trans hb2⟩
 ·rw[hi] at HA
  rw[WV hx hp hno]
  have hlt:=(List.getElem?_eq_some_iff.1 hx).1
  have HX:=ah hx
  clear hi hno hx
  go_enter Tryz.func109,Tryz.ntmps109
  go_wp2_with fail
  have hb0:=fun cs=>aD.new w cs 126
  with_reducible refine(HA.out _ (HV.out.below ?_)).mono ?_
  focus exact bl
  rintro e w1 ⟨rfl,hb1⟩
  have hz1:=hb1.size
  simp only[World.size_alloc] at hz1
  have bx1:=(hb0 _).below hb1 dF
  have bZ:Below w.heap.size w w1:=aG
  clear hb0 hb1
  obtain⟨b,off,rfl,hb,qZ,-,-,-⟩:=Sl.pr (HV.out.below bZ) HX.out
  have hv0:Val true 26 (.agg (eT x)):=fG _
  go_wp2_with(first|(refine aN rfl 126 _ rfl b (off+i*26) dw (jQ x) bf (fG x) qZ ?_)|(refine nM rfl 126 _ _ rfl bx1 (eT x) bf hv0 aF bG bG ?_;intro w2 tu hb2 hz2 hg2;have Ao:=ah tu;clear tu)|fail)
  exact bodyPost_ret (v:= .tuple #[jQ x,.bool true]) ((oM Tryz.results109 _ rfl bf hv0 Ao.out).trans rfl) rfl ⟨rfl,bZ.trans hb2⟩
end Go.Proofs.YtgmodehldmahiaaGreatDoor.aT
namespace Go.Proofs.YtgmodehldmahiaaGreatDoor.aT
open Go Go.RowKit Go.Tm
attribute [local go_sem] Oper.semAt_some
def I8(l:List dz)(pid:Int):List dz:=l.filter fun x=>decide (x.par=pid)
theorem FH{α:Type}{l:List α}{i:Nat}{x:α}(h:l[i]?=some x)(q:α→Bool):(l.take (i+1)).filter q=(l.take i).filter q++(if q x=true then[x] else[]):=by
 rw[eO h,List.filter_append]
 by_cases hx:q x=true
 ·simp[hx]
 ·simp[hx]
theorem Lu{α:Type}(l:List α)(i:Nat)(q:α→Bool):((l.take i).filter q).length≤i:=by
 refine Nat.le_trans (List.length_filter_le _ _) ?_
 simp;omega
theorem Ej(a:Option Addr)(n cap:Nat)(pid:Int)(w:World):Calls Tryz.prog 210 #[.slice a n cap,.int .i64 pid] w fun e w'=>
  e=.returned (.func (.func 216) #[] #[.pointer (some ⟨w.heap.size,0,none⟩),.pointer (some ⟨w.heap.size+1,0,none⟩)])∧w'=(w.alloc (.cells #[.slice a n cap] 43)).alloc (.cells #[.int .i64 pid] 3):=by
 go_enter Tryz.func210,Tryz.ntmps210
 go_wp2_with fail
 go_ret
 exact⟨rfl,rfl⟩
def LK(B N:Nat)(X Y:World):Prop:=Below B X Y∧∀b,B<b→b<N→Y.heap[b]?=X.heap[b]?
theorem LK.trans{B N:Nat}{X Y Z:World}(h:LK B N X Y)(k:LK B N Y Z):LK B N X Z:=⟨h.1.trans k.1,fun b h1 h2=>(k.2 b h1 h2).trans (h.2 b h1 h2)⟩
theorem LK.of{B N:Nat}{X Y:World}(h:Below N X Y)(hB:B≤N):LK B N X Y:=⟨h.mono hB,fun b _ h2=>h.block b h2⟩
theorem LK.set{B N:Nat}(X:World)(o:Nat)(v:Value):LK B N X (X.setCell ⟨B,o,none⟩ v):=⟨(Below.refl B X).setCell (p:=⟨B,o,none⟩) (Nat.le_refl _) _,fun b h1 _=>heap_setCell_other _ _ _ _ (by show¬b=B;omega)⟩
theorem LK.sl{B N:Nat}{X Y:World}(h:LK B N X Y){v:Value}{xs:List Value}{w:World}(hs:Sl w true 26 v xs)(hB:w.heap.size≤B)(hX:Below w.heap.size w X):Sl Y true 26 v xs:=hs.below (hX.trans (h.1.mono hB))
theorem LK.box{B N:Nat}{X Y:World}(h:LK B N X Y){b:Nat}{cs:Array Value}{t:TypeId}(hb:aD X b cs t)(h1:B<b)(h2:b<N):aD Y b cs t:=(h.2 b h1 h2).trans hb
set_option maxRecDepth 100000 in
set_option maxHeartbeats 4000000 in
theorem Aj(n B1 B2:Nat)(v:Value)(pid:Int)(l:List dz)(w:World)(KK:World→World→Prop)(hn:1≤n)(hR:KK w w)(hv:∀W,KK w W→Sl W true 26 v (rH l))
  (h1:∀W,KK w W→aD W B1 #[v] 43)(h2:∀W,KK w W→aD W B2 #[.int .i64 pid] 3)(hT:∀{A B C:World},KK A B→KK B C→KK A C)(hA:∀W W',KK w W→Below W.heap.size W W'→KK W W'):
  SeqStopsK Fence.wide n Tryz.prog 216 #[.pointer (some ⟨B1,0,none⟩),.pointer (some ⟨B2,0,none⟩)] (fun x:dz=>#[jQ x]) KK (fun ys=>ys=I8 l pid) (fun ys=>ys<+:I8 l pid) l.length w:=by
 unfold I8
 intro l' J Jx W hW0 hJ hJx hY h0
 have hW:=hA _ _ hR hW0
 have HV:=ah hv
 have FW:=ah h1
 have Ao:=ah h2
 have HJ:=ah hJ
 have HY:=ah hY
 obtain⟨a,cap,rfl,hl⟩:=(hv W hW).shape
 rw[jC] at hl HV FW
 clear hv hJ hY
 have hx1:aD W B1 #[.slice a l.length cap] 43:=FW.out W hW
 obtain⟨c1,f1,l1,n1,m1⟩:=hx1.rules
 clear h1 h2 hx1
 ((refine callsIn_of_wp Tryz.func216 rfl trivial ?_ rfl);simp only[Tryz.ntmps216,List.size_toArray,List.length_cons,List.length_nil,Nat.reduceAdd,Nat.reduceSub,Array.replicate_succ,Array.replicate_zero,List.push_toArray,List.append_toArray,List.nil_append,List.cons_append])
 gi_wp2
 gi_loopw [8] (fun t wr=>∃k:Nat,k≤l.length∧t=.int .i64 k∧KK w wr∧J ((l.take k).filter fun x=>decide (x.par=pid)) wr) (fun t _=>l.length-(intOf t).toNat)
 case atStart=>exact⟨0,Nat.zero_le _,rfl,hW,h0⟩
 case round=>
  obtain⟨k,hk,rfl,bZ,hJs⟩:=hrel
  have HJS:=ah hJs
  clear hJs
  by_cases hlt:k<l.length
  ·obtain⟨x,hx⟩:∃x,l[k]?=some x:=⟨_,List.getElem?_eq_getElem hlt⟩
   obtain⟨b,off,rfl,hb,qZ,-,-,-⟩:=Sl.pr (HV.out wr bZ) hx
   have hx2:aD wr B2 #[.int .i64 pid] 3:=Ao.out wr bZ
   obtain⟨c2,f2,l2,n2,m2⟩:=hx2.rules
   clear hx2
   have hstep:=FH hx (fun x=>decide (x.par=pid))
   have LU:=Lu l k (fun x=>decide (x.par=pid))
   have hwr:IntKind.i64.wrap ((k:Int)+1)=k+1:=IntWalk.i64_in _ aj
   have q1:=QT x
   have qP:=ah qZ
   have HVX:=ah (fG x)
   have jo:Below wr.heap.size wr (wr.alloc (.cells (eT x) 126)):=(Below.refl _ _).alloc (Nat.le_refl _) _
   clear qZ
   by_cases hq:x.par=pid
   ·rw[if_pos EM] at hstep
    have Ij:(x.par==pid)=true:=EM
    have HST:=ah hstep
    clear hstep hx hq
    have hJ1:J ((l.take k).filter fun x=>decide (x.par=pid)) (wr.alloc (.cells (eT x) 126)):=HJ.out _ wr _ none HJS.out (aA jo none) (fun r e=>by cases e)
    obtain⟨fn,tmps,assign,body,hy,hR⟩:=HY.out _ x _ hJ1 aj
    have HR:=ah hR
    clear hR hJ1
    gi_wp2_with (first|(refine qw rfl 126 _ rfl b (off+k*26) (eT x) bf HVX.out qP.out dw ?_)|(refine kL rfl 126 _ _ rfl (eT x) bf HVX.out aF bG bG ?_)|(refine FD aF (CQ rfl 126 _ rfl (eT x) bf HVX.out (aD.new wr _ _) bG ?_))|fail)
    refine HR.out.mono ?_
    rintro e w3 (⟨rfl,hJ3,hk3⟩|⟨rfl,abV⟩)
    ·gi_wp2
     go_roundw
     case rel=>exact⟨k+1,aj,dn,hT (hT bZ (hA _ _ bZ jo)) hk3,by rw[HST.out];exact hJ3⟩
     case measure=>simp[intOf];omega
    ·gi_wp2
     refine bodyPost_ret (results_none rfl _ _ _) rfl ?_
     exact⟨⟨_,rfl⟩,.inr ⟨_,by rw[←HST.out];exact(List.take_prefix _ _).filter _,abV⟩⟩
   ·rw[if_neg EM,List.append_nil] at hstep
    have Ij:(x.par==pid)=false:=EM
    have HST:=ah hstep
    clear hstep hx hq
    gi_wp2_with (first|(refine qw rfl 126 _ rfl b (off+k*26) (eT x) bf HVX.out qP.out dw ?_)|(refine kL rfl 126 _ _ rfl (eT x) bf HVX.out aF bG bG ?_)|fail)
    refine⟨fun _ h=>(by cases h),?_⟩
    gi_wp2
    go_roundw
    case rel=>exact⟨k+1,aj,dn,hT bZ (hA _ _ bZ jo),by rw[HST.out];exact HJ.out _ wr _ none HJS.out (aA jo none) (fun r e=>by cases e)⟩
    case measure=>simp[intOf];omega
  ·obtain rfl:k=l.length:=by omega
   gi_wp2
   go_end0
   exact⟨⟨_,rfl⟩,.inl ⟨_,rfl,by rw[List.take_length] at HJS;exact HJS.out⟩⟩
end Go.Proofs.YtgmodehldmahiaaGreatDoor.aT
namespace Go.Proofs.YtgmodehldmahiaaGreatDoor.aT
open Go Go.RowKit Go.Tm
attribute [local go_sem] Oper.semAt_some
theorem gN{β:Type}(B:Nat)(t:TypeId)(f:β→Array Value):Own (fun s W=>aD W B (f s) t):=fun s X Y row hs hg hrow=>
 hs.grown hg (fun e'=>acp)
theorem sV:(Tryz.prog.info? 3).map (fun i=>(i.zero,i.size,i.bytes))=some (some (.int .i64 0),1,8):=by kernel_rfl
abbrev ajW(l:List dz)(pid:Int):List Int:=(I8 l pid).map (·.pid)
theorem aa7(l:List Int):flat (ints l)=ints l:=by
 induction l with
 |nil=>rfl
 |cons x r ih=>rw[ints,List.map_cons,oI,ih];rfl
theorem LK.appended{B N:Nat}{W w1:World}{tmp:Obj}{v:Value}(hgrow:(W.alloc tmp).grownBy w1 v.ownBlock)(hG:∀b,v.ownBlock=some b→N≤b)(hN:N≤W.heap.size)(v':Value):
  ∀b,B<b→b<N→(w1.setCell ⟨B,0,none⟩ v').heap[b]?=W.heap[b]?:=fun b h1 h2=>by
 rw[heap_setCell_other _ _ _ _ (by show¬b=B;omega),hgrow.block b aV (fun e=>by have:=hG b e.symm;omega)]
 exact heap_alloc_old _ _ aj
theorem abm(w:World)(cs:Array Value)(t:TypeId):∀j u,cs.toList[j]?=some u→(w.alloc (.cells cs t)).cell? ((⟨w.heap.size,0,none⟩:Addr).add j)=some u:=by
 intro j u hj
 rw[Array.getElem?_toList] at hj
 have h:=(aD.new w cs t).rules.1 j
 rw[hj] at h
 by_cases h0:j=0
 ·subst h0;exact h
 ·simpa[Addr.add,h0] using h
set_option maxRecDepth 100000 in
set_option maxHeartbeats 4000000 in
theorem Ql(v:Value)(l:List dz)(pid:Int)(w:World)(hv:Sl w true 26 v (rH l))(hby:l.length*168≤140737488355328):
  Calls Tryz.prog 197 #[v,.int .i64 pid] w fun e w'=>∃v',e=.returned v'∧bI w' w.heap.size 3 false 1 v' (ints (ajW l pid))∧Below w.heap.size w w':=by
 have HV:=ah hv
 obtain⟨i0,hi,hz0,hz1,hz2⟩:=info_parts sV
 obtain⟨a,cap,rfl,hl⟩:=hv.shape
 rw[jC] at hl HV
 clear hv
 refine(callsIn_wide (n:=3)).1 ?_
 ((refine callsIn_of_wp_marks Tryz.func197 rfl trivial ?_ rfl);simp only[Tryz.ntmps197,List.size_toArray,List.length_cons,List.length_nil,Nat.reduceAdd,Nat.reduceSub,Array.replicate_succ,Array.replicate_zero,List.push_toArray,List.append_toArray,List.nil_append,List.cons_append])
 gi_wp2
 refine⟨trivial,callsIn_wide.2 ((Ej _ _ _ _ _).mono ?_)⟩
 rintro e w2 ⟨rfl,hw2⟩
 have hx0:Below w.heap.size w (w.alloc (.cells #[.slice none 0 0] 44)):=(Below.refl _ _).alloc (Nat.le_refl _) _
 have oq:aD (w.alloc (.cells #[.slice none 0 0] 44)) w.heap.size #[.slice none 0 0] 44:=aD.new _ _ _
 have hz0':(w.alloc (.cells #[.slice none 0 0] 44)).heap.size=w.heap.size+1:=aI
 generalize hW1:w.alloc (.cells #[.slice none 0 0] 44)=w1 at*
 clear hW1
 have hb2:Below w1.heap.size w1 w2:=Jd
 have hs1:aD w2 w1.heap.size #[.slice a l.length cap] 43:=Pm
 have hs2:aD w2 (w1.heap.size+1) #[.int .i64 pid] 3:=Jp
 have hB0:Below w.heap.size w w2:=hx0.trans (hb2.mono hx0.size)
 have mh:=oq.below hb2 oq.lt
 have fJ:Body Tryz.prog 216:=gq Tryz.func216 ay ay
 unfold Body at fJ
 clear hw2 oq
 rw[hz0'] at hs1 hs2
 have Bh:=hB0.size
 gi_wp2
 clear hz0'
 have HB:=LK.of (B:=w.heap.size) (Below.refl w2.heap.size w2) Bh
 have bn:LK w.heap.size w2.heap.size w2 w2:=⟨Below.refl _ _,fun _ _ _=>rfl⟩
 refine wpIn_rangeFunc_ownH rfl aj (gf:=216) (lb:=#[.pointer (some ⟨w.heap.size+1,0,none⟩),.pointer (some ⟨w.heap.size+1+1,0,none⟩)]) rfl trivial fJ
  (Aj 2 _ _ _ pid l w2 (LK w.heap.size w2.heap.size) aj bn (fun W h=>h.sl HV.out (Nat.le_refl _) hB0) (fun W h=>h.box hs1 aj hs1.lt) (fun W h=>h.box hs2 aj hs2.lt) LK.trans (fun W W' h hb=>LK.of (hb.mono h.1.size) Bh))
  LK.trans (fun W l' o o' h1 h2 h3 h4=>LK.of (belowK_b (w:=w2) (Nat.le_refl _) W l' o o' h1 h2 h3 h4) Bh) (Below.refl _ _) (fun _=>rfl)
  (fun pre W=>(∃v,Boxed W w.heap.size 44 v∧W.ownsRow w.heap.size 3 1 v pre.length (ints (pre.map (·.pid)))∧∀b,v.ownBlock=some b→w2.heap.size≤b)∧Below w.heap.size w W∧w2.heap.size≤W.heap.size) (fun _ _ _=>False)
  (OwnFrom.and (Own.from (holdsRow_own w.heap.size w.heap.size 44 3 1 (fun pre:List dz=>pre.length) (fun pre=>ints (pre.map (·.pid))) (fun _ v=>∀b,v.ownBlock=some b→w2.heap.size≤b)) _) (OwnFrom.and (ownFrom_below (Nat.le_refl _) Bh) (fun _ X Y row hs hg _=>Nat.le_trans hs hg.size)))
  (fun _ _ _ _ _ hs _ _=>hs)
  ⟨⟨_,mh,World.ownsRow_nil _ _ _ _,by intro b hb;cases hb⟩,hB0,Nat.le_refl _⟩
  (fun x a' W=>∃Bx,aD W Bx (eT x) 126∧
   a'={tmps:=#[.slice a l.length cap,.int .i64 pid,undef,undef,.slice none 0 0,.pointer (some ⟨w.heap.size,0,none⟩),.pointer (some ⟨Bx,0,none⟩),.slice a l.length cap,.int .i64 pid,.func (.func 216) #[] #[.pointer (some ⟨w.heap.size+1,0,none⟩),.pointer (some ⟨w.heap.size+1+1,0,none⟩)],jQ x,undef,undef,undef,undef,undef,undef],defers:=[]})
  (fun x a' _ X Y row hs hg hr=>by
   obtain⟨Bx,hb,rfl⟩:=hs
   exact⟨Bx,Own.from (gN (β:=Unit) Bx 126 (fun _=>eT x)) _ () X Y row hb hg hr,rfl⟩) ?assign ?body ?done ?stop
 case assign=>
  rintro l' pre x W K ⟨⟨v,hv,hr,hG⟩,hB,hN⟩ hK
  gi_wp2_with (first|(refine kL rfl 126 _ _ rfl (eT x) bf (fG x) aF bG bG ?_)|fail)
  exact hK _ _ ((KeepsOthers.alloc _ _).from _) (LK.of ((Below.refl _ W).alloc hN _) Bh) ⟨⟨v,hv.alloc _,hr.alloc _,hG⟩,hB.alloc hB.size _,Nat.le_trans hN aI⟩ ⟨W.heap.size,aD.new W _ _,rfl⟩
 case body=>
  rintro l' pre x a' W hl' ⟨r,hr⟩ ⟨⟨v,hv,hrow,hG⟩,hB,hN⟩ ⟨Bx,hb,rfl⟩ hlt
  have hc:=hv.cell
  obtain⟨c1,f1,l1,n1,m1⟩:=hb.rules
  have hsz:=hB.size
  have q0:=xZ x
  gi_wp2_with (gi_at_builtin;refine wpListIn_append_own_at _ rfl _ _ 44 rfl w.heap.size 3 i0 (.int .i64 0) 1 8 Tryz.underlying44 hi hz0 hz1 hz2 rfl aC _ _ _ rfl (hrow.alloc _) ⟨W.heap.size,0,none⟩ 1 1 [.int .i64 x.pid] rfl rfl (abm _ _ _) (by simp[Value.oneCell']) Va aj aV ?_;intro v' w1 hown' hgrow _ hat;obtain⟨g',cap',rfl⟩:=ownsRow_succ hown';obtain⟨Ud,hv2,hr2,hk2,hb2⟩:=hv.appended aC hrow hB.size (Nat.le_refl _) hown' hgrow;have hc1:=Ud.cell;have mF:=Ud.frozen)
  have akC:=LK.appended (B:=w.heap.size) (v:=v) hgrow hG hN (.slice (some ⟨g',0,none⟩) (pre.length+1) cap')
  refine⟨hk2.from _,⟨hb2,akC⟩,⟨_,hv2,by have h:=hr2;unfold ints at h⊢;rw[List.length_append,List.map_append,List.map_append];exact h,?_⟩,hB.trans hb2,Nat.le_trans hN hb2.size⟩
  intro b hb
  rcases hat with h|h
  ·exact hG b (h▸hb)
  ·rw[h] at hb;cases hb;simp;omega
 case done=>
  rintro D ys W hD rfl ⟨⟨v,hv,hrow,-⟩,hB,hN⟩ hK
  have hc:=hv.cell
  gi_wp2
  refine⟨aI,.inl ⟨_,_,rfl,run_takeDeferred hK,?_⟩⟩
  refine⟨_,results_tmp rfl _ _ _,v,rfl,⟨by rw[gH];rw[aa7,List.length_map];exact ownsRow_putObj hrow _ hK rfl,?_⟩,hB.trans (belowK_b (w:=w) (Nat.le_refl _) W D _ _ aj hK rfl rfl)⟩
  exact JX _
 case stop=>
  rintro D c pre W _ _ h _
  exact h.elim
def Gp(x:dz):Bool:=decide (x.st=4)
def zO(l:List dz)(pid:Int):Int×Bool:=match(I8 l pid).find? Gp with|some x=>(x.pid,true)|none=>(0,false)
def qD(q:dz→Bool)(pre:List dz):Prop:=∀x∈pre,q x=false
theorem W9{l:List dz}{pid:Int}(h:(I8 l pid).find? Gp=none):zO l pid=(0,false):=by unfold zO;rw[h]
theorem WZ{l:List dz}{pid:Int}{x:dz}(h:(I8 l pid).find? Gp=some x):zO l pid=(x.pid,true):=by unfold zO;rw[h]
theorem qD.snoc{q:dz→Bool}{pre:List dz}{x:dz}(h:qD q pre)(hx:q x=false):qD q (pre++[x]):=adJ
theorem qD.none{q:dz→Bool}{za:List dz}(h:qD q za):za.find? q=none:=by
 rw[List.find?_eq_none];intro x hx;rw[h x hx];simp
theorem qD.some{q:dz→Bool}{ys:List dz}{x:dz}{za:List dz}(h:qD q ys)(hx:q x=true)(hp:ys++[x]<+:za):za.find? q=some x:=by
 obtain⟨r,rfl⟩:=hp
 rw[List.append_assoc,List.find?_append,h.none]
 simp[hx]
def RI(B1 B2:Nat)(w:World)(pre:List dz)(W:World):Prop:=
 ∃(x:dz) (ys:List dz),pre=ys++[x]∧qD Gp ys∧Gp x=true∧(aD W B1 #[.int .i64 x.pid] 3∧aD W B2 #[.bool true] 4)∧Below w.heap.size w W
theorem Fj{B1 B2:Nat}{w:World}{B:Nat}(hB:w.heap.size≤B):OwnFrom B (RI B1 B2 w):=by
 intro pre X Y row hs hg hr
 obtain⟨x,ys,h1,h2,h3,⟨h4,h5⟩,h6⟩:=hs
 exact⟨x,ys,h1,h2,h3,⟨Own.from (gN (β:=Unit) _ 3 (fun _=>#[.int .i64 x.pid])) _ () X Y row h4 hg hr,Own.from (gN (β:=Unit) _ 4 (fun _=>#[.bool true])) _ () X Y row h5 hg hr⟩,ownFrom_below (β:=Unit) (Nat.le_refl _) hB () X Y row h6 hg hr⟩
set_option maxRecDepth 100000 in
set_option maxHeartbeats 8000000 in
theorem afq(v:Value)(l:List dz)(pid:Int)(w:World)(hv:Sl w true 26 v (rH l)):
  Calls Tryz.prog 196 #[v,.int .i64 pid] w fun e w'=>e=.returned (.tuple #[.int .i64 (zO l pid).1,.bool (zO l pid).2])∧Below w.heap.size w w':=by
 have HV:=ah hv
 obtain⟨a,cap,rfl,hl⟩:=hv.shape
 rw[jC] at hl HV
 clear hv
 refine(callsIn_wide (n:=3)).1 ?_
 ((refine callsIn_of_wp_marks Tryz.func196 rfl trivial ?_ rfl);simp only[Tryz.ntmps196,List.size_toArray,List.length_cons,List.length_nil,Nat.reduceAdd,Nat.reduceSub,Array.replicate_succ,Array.replicate_zero,List.push_toArray,List.append_toArray,List.nil_append,List.cons_append])
 gi_wp2
 refine⟨trivial,callsIn_wide.2 ((Ej _ _ _ _ _).mono ?_)⟩
 rintro e w2 ⟨rfl,hw2⟩
 have hx0:Below w.heap.size w ((w.alloc (.cells #[.int .i64 0] 3)).alloc (.cells #[.bool false] 4)):=((Below.refl _ _).alloc (Nat.le_refl _) _).alloc aI _
 have oq:aD ((w.alloc (.cells #[.int .i64 0] 3)).alloc (.cells #[.bool false] 4)) w.heap.size #[.int .i64 0] 3:=(aD.new _ _ _).alloc _
 have gD:aD ((w.alloc (.cells #[.int .i64 0] 3)).alloc (.cells #[.bool false] 4)) (w.heap.size+1) #[.bool false] 4:=aD.p9 _ _ _ aI
 have hz0':((w.alloc (.cells #[.int .i64 0] 3)).alloc (.cells #[.bool false] 4)).heap.size=w.heap.size+1+1:=aI
 generalize hW1:(w.alloc (.cells #[.int .i64 0] 3)).alloc (.cells #[.bool false] 4)=w1 at*
 clear hW1
 have hb2:Below w1.heap.size w1 w2:=Jd
 have hs1:aD w2 w1.heap.size #[.slice a l.length cap] 43:=Pm
 have hs2:aD w2 (w1.heap.size+1) #[.int .i64 pid] 3:=Jp
 have hx3:Below w.heap.size w w2:=hx0.trans (hb2.mono hx0.size)
 have Ox:=oq.below hb2 oq.lt
 have Iy:=gD.below hb2 gD.lt
 have fJ:Body Tryz.prog 216:=gq Tryz.func216 ay ay
 unfold Body at fJ
 clear hw2 oq gD
 rw[hz0'] at hs1 hs2
 have Bh:=hx3.size
 gi_wp2
 clear hz0'
 refine wpIn_rangeFunc_ownH rfl aj (gf:=216) (lb:=#[.pointer (some ⟨w.heap.size+1+1,0,none⟩),.pointer (some ⟨w.heap.size+1+1+1,0,none⟩)]) rfl trivial fJ
  (Aj 2 _ _ _ pid l w2 (Below w2.heap.size) aj (Below.refl _ _) (fun W h=>HV.out.below (hx3.trans (h.mono Bh))) (fun W h=>hs1.below h hs1.lt) (fun W h=>hs2.below h hs2.lt) belowK_t (fun W W' h hb=>hb.mono h.size)) belowK_t (belowK_b (Nat.le_refl _)) (Below.refl _ _) (fun _=>rfl)
  (fun pre W=>qD Gp pre∧Below w2.heap.size w2 W)
  (fun c pre W=>c=.ret∧RI (w.heap.size) (w.heap.size+1) w pre W)
  (OwnFrom.and (ownFrom_pure _ _) (ownFrom_below (Nat.le_refl _) (Nat.le_refl _)))
  (fun c=>OwnFrom.and (ownFrom_pure _ (fun _=>c=.ret)) (Fj hx3.size))
  ⟨OY,Below.refl _ _⟩
  (fun x a' W=>∃Bx,aD W Bx (eT x) 126∧
   a'={tmps:=#[.slice a l.length cap,.int .i64 pid,undef,undef,.pointer (some ⟨w.heap.size,0,none⟩),.pointer (some ⟨w.heap.size+1,0,none⟩),.pointer (some ⟨Bx,0,none⟩),.slice a l.length cap,.int .i64 pid,.func (.func 216) #[] #[.pointer (some ⟨w.heap.size+1+1,0,none⟩),.pointer (some ⟨w.heap.size+1+1+1,0,none⟩)],jQ x,undef,undef,undef,undef,undef],defers:=[]})
  (fun x a' _ X Y row hs hg hr=>by
   obtain⟨Bx,hb,rfl⟩:=hs
   exact⟨Bx,Own.from (gN (β:=Unit) Bx 126 (fun _=>eT x)) _ () X Y row hb hg hr,rfl⟩) ?assign ?body ?done ?stop
 case assign=>
  rintro l' pre x W K ⟨hno,hB⟩ hK
  gi_wp2_with (first|(refine kL rfl 126 _ _ rfl (eT x) bf (fG x) aF bG bG ?_)|fail)
  exact acG
 case body=>
  rintro l' pre x a' W hl' ⟨r,hr⟩ ⟨hno,hB⟩ ⟨Bx,hb,rfl⟩ hlt
  have EA:=Ox.below hB Ox.lt
  have zN:=Iy.below hB Iy.lt
  obtain⟨c2,f2,l2,n2,m2⟩:=hb.rules
  obtain⟨c3,f3,l3,n3,m3⟩:=EA.rules
  obtain⟨c4,f4,l4,n4,m4⟩:=zN.rules
  have hxB:Below w.heap.size w W:=hx3.trans (hB.mono hx3.size)
  have q0:=xZ x
  have q2:=Ma x
  have Uo:=ah hno
  have BA:=EA.set 0 (.int .i64 x.pid)
  have XU:=zN.other ⟨w.heap.size,0,none⟩ (.int .i64 x.pid) adr
  clear hno
  by_cases g1:x.st=4
  ·have g1b:(x.st==4)=true:=by simpa using g1
   gi_wp2
   refine⟨((KeepsOthers.setCell _ _ _).from _).trans ((KeepsOthers.setCell _ _ _).from _),rfl,x,pre,rfl,Uo.out,by unfold Gp;simpa using g1,⟨?_,?_⟩,?_⟩
   ·exact BA.other ⟨w.heap.size+1,0,none⟩ _ adq
   ·exact XU.set 0 (.bool true)
   ·exact aiE
  ·have g1b:(x.st==4)=false:=by simpa using g1
   gi_wp2
   exact⟨KeepsFrom.refl _ _,Below.refl _ _,Uo.out.snoc (by unfold Gp;simpa using g1),hB⟩
 case done=>
  rintro D ys W hD rfl ⟨hno,hB⟩ hK
  have EA:=Ox.below hB Ox.lt
  have zN:=Iy.below hB Iy.lt
  obtain⟨c3,f3,l3,n3,m3⟩:=EA.rules
  obtain⟨c4,f4,l4,n4,m4⟩:=zN.rules
  have hxB:Below w.heap.size w W:=hx3.trans (hB.mono hx3.size)
  have Hw:=ah hno.none
  have BA:=(EA.set 0 (.int .i64 0)).other ⟨w.heap.size+1,0,none⟩ (.bool false) adq
  have Ry:=(zN.other ⟨w.heap.size,0,none⟩ (.int .i64 0) adr).set 0 (.bool false)
  have QX:=Iy.lt
  have Bl:((W.setCell ⟨w.heap.size,0,none⟩ (.int .i64 0)).setCell ⟨w.heap.size+1,0,none⟩ (.bool false)).heap[D]?=some (.deferred (some [])):=by
   rw[heap_setCell_other _ _ _ _ (by show¬D=w.heap.size+1;omega),heap_setCell_other _ _ _ _ O5];exact hK
  clear hno
  gi_wp2
  rw[W9 Hw.out]
  refine⟨aI,.inl ⟨_,_,rfl,run_takeDeferred Bl,?_⟩⟩
  have b1:=((Own.from (gN (β:=Unit) _ 3 (fun _=>_)) w2.heap.size).putObj (s:=()) (Obj.deferred none) BA hD Bl rfl).rules.1 0
  have b2:=((Own.from (gN (β:=Unit) _ 4 (fun _=>_)) w2.heap.size).putObj (s:=()) (Obj.deferred none) Ry hD Bl rfl).rules.1 0
  refine⟨.tuple #[.int .i64 0,.bool false],adx,rfl,?_⟩
  refine Below.trans ?_ (belowK_b (w:=w2) hx3.size _ D _ _ hD Bl rfl rfl)
  exact aiE
 case stop=>
  rintro D c pre W hD G5 ⟨rfl,x,ys,rfl,h2,h3,⟨h4,h5⟩,h6⟩ hK
  have hat:=h2.some h3 G5
  gi_wp2
  rw[WZ hat]
  refine⟨aI,.inl ⟨_,_,rfl,run_takeDeferred hK,?_⟩⟩
  have b1:=((Own.from (gN (β:=Unit) _ 3 (fun _=>_)) w2.heap.size).putObj (s:=()) (Obj.deferred none) h4 hD hK rfl).rules.1 0
  have b2:=((Own.from (gN (β:=Unit) _ 4 (fun _=>_)) w2.heap.size).putObj (s:=()) (Obj.deferred none) h5 hD hK rfl).rules.1 0
  refine⟨.tuple #[.int .i64 x.pid,.bool true],adx,rfl,?_⟩
  exact acw
end Go.Proofs.YtgmodehldmahiaaGreatDoor.aT
namespace Go.Proofs.YtgmodehldmahiaaGreatDoor.aT
open Go Go.RowKit Go.Tm
def oF(l:List dz)(p:dz):List dz:=
 match l.findIdx? (fun x=>decide (x.pid=p.pid)) with
 |some i=>l.set i p
 |none=>l.takeWhile (fun x=>!decide (p.pid<x.pid))++p::l.dropWhile (fun x=>!decide (p.pid<x.pid))
theorem NG{l:List dz}{p:dz}(h:∀x∈l,x.pid≠p.pid):oF l p=l.takeWhile (fun x=>!decide (p.pid<x.pid))++p::l.dropWhile (fun x=>!decide (p.pid<x.pid)):=by
 unfold oF
 rw[List.findIdx?_eq_none_iff.2 (by intro x hx;simpa using h x hx)]
theorem aam{l:List dz}{p x:dz}{i:Nat}(h1:l[i]?=some x)(h2:x.pid=p.pid)(h3:∀j y,j<i→l[j]?=some y→y.pid≠p.pid):oF l p=l.set i p:=by
 unfold oF
 have hlt:=(List.getElem?_eq_some_iff.1 h1).1
 have e:l.findIdx? (fun x=>decide (x.pid=p.pid))=some i:=by
  rw[List.findIdx?_eq_some_iff_getElem]
  refine⟨hlt,?_,?_⟩
  ·rw[List.getElem?_eq_getElem hlt] at h1
   rw[Option.some.inj h1];simpa using h2
  ·intro j hj
   have:=h3 j l[j] hj (List.getElem?_eq_getElem aj)
   simpa using this
 rw[e]
theorem PS(l:List dz)(i:Nat)(p:dz):(rH l).set i (jQ p)=rH (l.set i p):=by simp[rH,List.map_set]
theorem agW(l:List dz)(p:dz):(rH l).take (l.takeWhile (fun x=>!decide (p.pid<x.pid))).length++jQ p::(rH l).drop (l.takeWhile (fun x=>!decide (p.pid<x.pid))).length=rH (l.takeWhile (fun x=>!decide (p.pid<x.pid))++p::l.dropWhile (fun x=>!decide (p.pid<x.pid))):=by
 rw[rH,rH,←List.map_take,←List.map_drop,X9,agz,List.map_append,List.map_cons]
theorem Yf(v:Value)(l:List dz)(p:dz)(w:World)(hv:Sl w true 26 v (rH l))(hby:(l.length+1)*168≤140737488355328):
  Calls Tryz.prog 88 #[v,jQ p] w fun e w'=>∃v',e=.returned v'∧Sl w' true 26 v' (rH (oF l p))∧Below w.heap.size w w':=by
 have HV:=ah hv
 have Uq:=ah (fun W h=>CJ v (rH l) W h (by rw[jC];omega))
 have HA:=ah (fun u W h=>Py u l p.pid W h)
 have HF:=ah (fun u W hs hB hc=>xM u (rH l) 104 #[.pointer (some ⟨w.heap.size,0,none⟩)] (gtP p.pid) W hs (xJ aao p.pid l w.heap.size W hB hc none aI (fun x w'=>aeV x p.pid w.heap.size w')))
 obtain⟨i0,qN,oq,gD,mh⟩:=info_parts AO
 have HI:=ah (And.intro qN (And.intro oq (And.intro gD mh)))
 clear qN oq gD mh
 obtain⟨a,cap,rfl,hl⟩:=hv.shape
 rw[jC] at hl HV Uq⊢
 have q0:=xZ p
 have HVP:=ah (fG p)
 clear hv
 rcases Tc l p.pid with⟨hi,hno⟩|⟨i,x,hi,hx,hp,hno⟩
 ·rw[hi] at HA
  have HP:=ah (NG hno)
  have GV:=ah (agW l p)
  have abM:=alH jQ (gtP p.pid) (fun x:dz=>decide (p.pid<x.pid)) (ad8 p.pid) l
  have xW:=ajq (fun x:dz=>!decide (p.pid<x.pid)) l
  clear hi hno
  generalize(l.takeWhile (fun x:dz=>!decide (p.pid<x.pid))).length=i at*
  have HVL:=ah (fun u W h=>HF.out u W h)
  rcases abM with⟨hi1,hi2⟩|⟨hi1,hi2⟩
  ·rw[hi1] at HF
   subst hi2
   clear hi1 HVL
   go_enter Tryz.func88,Tryz.ntmps88
   go_wp2_with fail
   have hb0:=aD.new w (eT p) 126
   with_reducible refine(Uq.out _ (HV.out.below ?_)).mono ?_
   focus exact bl
   rintro e w1 ⟨v1,rfl,zG,hb1⟩
   have hz1:=hb1.size
   simp only[World.size_alloc] at hz1 zG
   have b1:aD w1 w.heap.size (eT p) 126:=Vz;obtain⟨hc1,mF,jO,mE,oz⟩:=b1.rules;have K1:=ah b1;clear b1
   have bZ:Below w.heap.size w w1:=aG
   have Hu:=ah zG
   clear hb0 hb1 zG
   go_wp2_with fail
   with_reducible refine(HA.out _ _ Hu.out.sl).mono ?_
   rintro e w2 ⟨rfl,hb2⟩
   have hz2:=hb2.size
   have b2:aD w2 w.heap.size (eT p) 126:=O7;obtain⟨hc2,hf2,hl2,rD,nS⟩:=b2.rules;have K2:=ah b2;clear b2
   have nR:=ah (Hu.out.kept hb2)
   have bM:Below w.heap.size w w2:=bZ.trans (hb2.mono bZ.size)
   clear hb2 bZ Hu K1 hc1 mF jO mE oz
   go_wp2_with fail
   with_reducible refine(HF.out _ _ nR.out.sl aj ((hc2 0).trans q0)).mono ?_
   rintro e w3 ⟨rfl,hb3⟩
   have hz3:=hb3.size
   have b3:aD w3 w.heap.size (eT p) 126:=Vi;obtain⟨hc3,hf3,qM,wX,qL⟩:=b3.rules;have K3:=ah b3;clear b3
   have uH:=ah (nR.out.kept hb3)
   have gZ:Below w.heap.size w w3:=bM.trans (hb3.mono bM.size)
   clear hb3 bM nR K2 hc2 hf2 hl2 rD nS
   go_wp2_with(first|(refine aK rfl 126 _ rfl (eT p) bf HVP.out K3.out bG ?_)|((with_reducible refine DF 43 ?_);(refine jA rfl 43 _ rfl bf aC i0 (.agg #[.int .i64 0,.int .i64 0,.int .i64 0,.int .u32 0,.int .u32 0,.int .u32 0,.int .u32 0,.int .u32 0,.int .u32 0,.int .u32 0,.int .u32 0,.int .u32 0,.string ⟨#[]⟩,.int .i64 0,.int .i64 0,.bool false,.int .i64 0,.bool false,.int .i64 0,.bool false,.int .i64 0,.bool false,.int .u32 0,.int .u32 0,.int .u32 0,.int .u32 0]) Tryz.underlying43 HI.out.1 HI.out.2.1 HI.out.2.2.1 (jQ p) ?_ (HVP.out) ?_;(exact aM)))|(refine dJ (v:=v1) (xs:=rH l) (base:=w.heap.size+1) rfl _ _ 43 rfl bf i0 (.agg #[.int .i64 0,.int .i64 0,.int .i64 0,.int .u32 0,.int .u32 0,.int .u32 0,.int .u32 0,.int .u32 0,.int .u32 0,.int .u32 0,.int .u32 0,.int .u32 0,.string ⟨#[]⟩,.int .i64 0,.int .i64 0,.bool false,.int .i64 0,.bool false,.int .i64 0,.bool false,.int .i64 0,.bool false,.int .u32 0,.int .u32 0,.int .u32 0,.int .u32 0]) 168 Tryz.underlying43 HI.out.1 HI.out.2.1 HI.out.2.2.1 HI.out.2.2.2 rfl ?_ ?_ (.slice (some ⟨w3.heap.size,0,none⟩) 1 1) ([jQ p]) ?_ ?_ ?_ ?_ ?_ ?_;(exact aM);(focus(exact(uH.out.kept aG)));(exact aM);(focus(exact(Sl.pQ HVP.out rfl)));(exact vV);(exact vU);(exact vW);(intro v4 w4 qz hg4 xQ;have hb4:Below w.heap.size w w4:=(uH.out.kept aG).below hg4 aG aj dF;have sD:=ah qz;clear qz hg4 xQ))|fail)
   go_ret
   refine⟨_,rfl,?_,hb4⟩
   rw[HP.out,←GV.out,List.take_of_length_le aI,List.drop_of_length_le aI]
   exact sD.out.sl
  ·rw[hi2] at HF
   have mE:¬(i:Int)<0:=aj
   clear hi2 HVL
   go_enter Tryz.func88,Tryz.ntmps88
   go_wp2_with fail
   have hb0:=aD.new w (eT p) 126
   with_reducible refine(Uq.out _ (HV.out.below ?_)).mono ?_
   focus exact bl
   rintro e w1 ⟨v1,rfl,zG,hb1⟩
   have hz1:=hb1.size
   simp only[World.size_alloc] at hz1 zG
   have b1:aD w1 w.heap.size (eT p) 126:=Vz;obtain⟨hc1,mF,jO,mE,oz⟩:=b1.rules;have K1:=ah b1;clear b1
   have bZ:Below w.heap.size w w1:=aG
   have Hu:=ah zG
   clear hb0 hb1 zG
   go_wp2_with fail
   with_reducible refine(HA.out _ _ Hu.out.sl).mono ?_
   rintro e w2 ⟨rfl,hb2⟩
   have hz2:=hb2.size
   have b2:aD w2 w.heap.size (eT p) 126:=O7;obtain⟨hc2,hf2,hl2,rD,nS⟩:=b2.rules;have K2:=ah b2;clear b2
   have nR:=ah (Hu.out.kept hb2)
   have bM:Below w.heap.size w w2:=bZ.trans (hb2.mono bZ.size)
   clear hb2 bZ Hu K1 hc1 mF jO mE oz
   go_wp2_with fail
   with_reducible refine(HF.out _ _ nR.out.sl aj ((hc2 0).trans q0)).mono ?_
   rintro e w3 ⟨rfl,hb3⟩
   have hz3:=hb3.size
   have b3:aD w3 w.heap.size (eT p) 126:=Vi;obtain⟨hc3,hf3,qM,wX,qL⟩:=b3.rules;have K3:=ah b3;clear b3
   have uH:=ah (nR.out.kept hb3)
   have gZ:Below w.heap.size w w3:=bM.trans (hb3.mono bM.size)
   clear hb3 bM nR K2 hc2 hf2 hl2 rD nS
   go_wp2_with(first|(refine aK rfl 126 _ rfl (eT p) bf HVP.out K3.out bG ?_)|((with_reducible refine DF 43 ?_);(refine jA rfl 43 _ rfl bf aC i0 (.agg #[.int .i64 0,.int .i64 0,.int .i64 0,.int .u32 0,.int .u32 0,.int .u32 0,.int .u32 0,.int .u32 0,.int .u32 0,.int .u32 0,.int .u32 0,.int .u32 0,.string ⟨#[]⟩,.int .i64 0,.int .i64 0,.bool false,.int .i64 0,.bool false,.int .i64 0,.bool false,.int .i64 0,.bool false,.int .u32 0,.int .u32 0,.int .u32 0,.int .u32 0]) Tryz.underlying43 HI.out.1 HI.out.2.1 HI.out.2.2.1 (jQ p) ?_ (HVP.out) ?_;(exact aM)))|fail)
   with_reducible refine(TF v1 (rH l) i (jQ p) w3.heap.size _ (w.heap.size+1) (uH.out.kept aG) ?_ HVP.out ?_ ?_ ?_ ?_).mono ?_
   focus(rw[jC];omega)
   focus exact aD.new _ _ _
   focus(intro b hb;have h2:=(uH.out.row.lt b hb).2;omega)
   focus(simp only[World.size_alloc];omega)
   focus(rw[jC];exact hby)
   rintro en w5 ⟨v5,rfl,MP,nK⟩
   have kV:Below w.heap.size w w5:=(uH.out.kept aG).below nK aG aj dF
   have Ht:=ah MP
   clear MP nK
   go_wp2_with fail
   go_ret
   refine⟨_,rfl,?_,kV⟩
   rw[HP.out,←GV.out]
   exact Ht.out.sl
 ·rw[hi] at HA
  have HP:=ah (aam hx hp hno)
  have hlt:=(List.getElem?_eq_some_iff.1 hx).1
  clear hi hno hx hp HF
  go_enter Tryz.func88,Tryz.ntmps88
  go_wp2_with fail
  have hb0:=aD.new w (eT p) 126
  with_reducible refine(Uq.out _ (HV.out.below ?_)).mono ?_
  focus exact bl
  rintro e w1 ⟨v1,rfl,zG,hb1⟩
  have hz1:=hb1.size
  simp only[World.size_alloc] at hz1 zG
  have b1:aD w1 w.heap.size (eT p) 126:=Vz;obtain⟨hc1,mF,jO,mE,oz⟩:=b1.rules;have K1:=ah b1;clear b1
  have bZ:Below w.heap.size w w1:=aG
  have Hu:=ah zG
  clear hb0 hb1 zG
  go_wp2_with fail
  with_reducible refine(HA.out _ _ Hu.out.sl).mono ?_
  rintro e w2 ⟨rfl,hb2⟩
  have hz2:=hb2.size
  have b2:aD w2 w.heap.size (eT p) 126:=O7;obtain⟨hc2,hf2,hl2,rD,nS⟩:=b2.rules;have K2:=ah b2;clear b2
  have nR:=ah (Hu.out.kept hb2)
  have bM:Below w.heap.size w w2:=bZ.trans (hb2.mono bZ.size)
  clear hb2 bZ Hu K1 hc1 mF jO mE oz
  obtain⟨g,jl,rfl,hlc,hcm,hbg,qI,Hr,qZ⟩:=nR.out.form (by rw[jC];omega)
  rw[jC] at nR hlc
  clear Hr qZ
  have hi':i<(rH l).length:=by rw[jC];exact hlt
  go_wp2_with(first|(refine aK rfl 126 _ rfl (eT p) bf HVP.out K2.out bG ?_)|(refine eB (base:=w.heap.size+1) rfl _ _ rfl bf g l.length jl nR.out i hi' ?_ (jQ p) ?_ HVP.out ?_;(focus(simp[Act.eval]));(focus(simp[Act.eval]));(intro w3 pz hg3;have uH:=ah pz;have hb3:Below w.heap.size w w3:=bM.grown hg3 bM.size (by intro k hk;cases hk;omega);clear pz hg3))|fail)
  go_ret
  refine⟨_,rfl,?_,hb3⟩
  rw[HP.out,←PS]
  exact uH.out.sl
end Go.Proofs.YtgmodehldmahiaaGreatDoor.aT
namespace Go.Proofs.YtgmodehldmahiaaGreatDoor.aT
open Go Go.RowKit Go.Tm
def Aq(l:List dz)(pid:Int):List dz:=l.filter fun x=>!decide (x.pid=pid)
theorem TA(l:List dz)(pid:Int):(rH l).filter (fun x=>!uj pid x)=rH (Aq l pid):=by
 unfold Aq
 induction l with
 |nil=>rfl
 |cons x r ih=>
  rw[rH,List.map_cons,List.filter_cons,List.filter_cons,Au]
  rw[rH] at ih
  split
  ·rw[ih];rfl
  ·rw[ih]
theorem Ki(v:Value)(l:List dz)(pid:Int)(w:World)(hv:Sl w true 26 v (rH l))(hby:l.length*168≤140737488355328):
  Calls Tryz.prog 154 #[v,.int .i64 pid] w fun e w'=>∃v',e=.returned v'∧Sl w' true 26 v' (rH (Aq l pid))∧Below w.heap.size w w':=by
 have HV:=ah hv
 have HE:=ah (TA l pid)
 clear hv
 go_enter Tryz.func154,Tryz.ntmps154
 go_wp2_with fail
 with_reducible refine(CJ v (rH l) _ (HV.out.below aG) (by rw[jC];exact hby)).mono ?_
 rintro e w2 ⟨v2,rfl,o7,hb2⟩
 have hz2:=hb2.size
 simp only[World.size_alloc] at hz2
 have b1:aD w2 w.heap.size #[.int .i64 pid] 3:=sP;obtain⟨hc1,mF,jO,mE,oz⟩:=b1.rules;have K1:=ah b1;clear b1
 have nR:=ah (o7.le (base':=w.heap.size+1) dF)
 have uh:some w.heap.size≠v2.ownBlock:=fun h=>by have:=nR.out.iy _ h.symm;omega
 have BQ:=Hl v2 (rH l) 191 #[.pointer (some ⟨w.heap.size,0,none⟩)] (uj pid) w2 (w.heap.size+1) (fun x hx=>by obtain⟨a,_,rfl⟩:=List.mem_map.1 hx;exact⟨_,rfl,jI a⟩) nR.out (xJ aag pid l w.heap.size w2 jO (hc1 0) v2.ownBlock uh (fun x w'=>aeO x pid w.heap.size w'))
 rw[HE.out] at BQ
 have HD:=ah BQ
 have bZ:Below w.heap.size w w2:=aG
 clear o7 BQ hc1 mF jO mE oz
 go_wp2_with fail
 with_reducible refine HD.out.mono ?_
 rintro e w4 ⟨v4,rfl,mg,_,hg4⟩
 have LJ:=ah mg
 have hb4:Below w.heap.size w w4:=nR.out.below hg4 bZ aj aj
 clear mg hg4
 go_wp2_with fail
 go_ret
 exact⟨_,rfl,LJ.out,hb4⟩
def tZ(l:List dz):Int:=l.foldl (fun m x=>max m x.pid) 0
theorem WJ{l:List dz}{i:Nat}{x:dz}(h:l[i]?=some x):tZ (l.take (i+1))=max (tZ (l.take i)) x.pid:=by
 unfold tZ;rw[eO h,List.foldl_append];rfl
theorem ae5(v:Value)(l:List dz)(w:World)(hv:Sl w true 26 v (rH l)):
  Calls Tryz.prog 85 #[v] w fun e w'=>e=.returned (.int .i64 (wrap64 (tZ l+1)))∧Below w.heap.size w w':=by
 have HV:=ah hv
 obtain⟨a,cap,rfl,hl⟩:=hv.shape
 rw[jC] at hl HV⊢
 clear hv
 go_enter Tryz.func85,Tryz.ntmps85
 go_wp2_with fail
 go_loopw [3,8] (fun m t W=>∃i:Nat,i≤l.length∧t=.int .i64 i∧m=.int .i64 (tZ (l.take i))∧Below w.heap.size w W) (fun _ t _=>l.length-(intOf t).toNat)
 case atStart=>exact⟨0,Nat.zero_le _,rfl,rfl,Below.refl _ _⟩
 case round=>
  obtain⟨i,hi,rfl,rfl,bZ⟩:=hrel
  have Bj:=bZ.size
  by_cases hlt:i<l.length
  ·obtain⟨x,hx⟩:∃x,l[i]?=some x:=⟨_,List.getElem?_eq_getElem hlt⟩
   obtain⟨b,off,rfl,hb,qZ,c0,c1,c2⟩:=Sl.pr (HV.out.below bZ) hx
   have hst:=WJ hx
   have HST:=ah hst
   have qP:=ah qZ
   have q0:=xZ x
   have HVX:=ah (fG x)
   have hwr:IntKind.i64.wrap ((i:Int)+1)=i+1:=IntWalk.i64_in _ aj
   clear hx hst qZ
   generalize tZ (l.take i)=m at*
   go_wp2_with(first|(refine aN rfl 126 _ rfl b (off+i*26) dw (jQ x) bf HVX.out qP.out ?_)|(refine aU rfl 126 _ _ rfl (eT x) bf HVX.out aF bG bG ?_)|fail)
   go_roundw
   case rel=>exact⟨i+1,aj,dn,by rw[HST.out];first|rfl|(refine congrArg (Value.int .i64) ?_;split<;>omega)|(refine congrArg (Value.int .i64) ?_;omega),aG⟩
   case measure=>simp[intOf];omega
  ·obtain rfl:i=l.length:=by omega
   rw[List.take_length]
   go_wp2_with fail
   go_ret
   exact⟨aI,bZ⟩
def vw(a b:Int)(x:dz):dz:=if x.par=a then{x with par:=b} else x
def nX(l:List dz)(a b:Int):List dz:=l.map (vw a b)
def pX(l:List dz)(a b:Int)(i:Nat):List dz:=(l.take i).map (vw a b)++l.drop i
theorem Ua(l:List dz)(a b:Int)(i:Nat):(pX l a b i).length=l.length:=by
 unfold pX;simp;omega
theorem Xr{l:List dz}{a b:Int}{i:Nat}{x:dz}(h:l[i]?=some x):(pX l a b i)[i]?=some x:=by
 unfold pX
 have hi:=(List.getElem?_eq_some_iff.1 h).1
 rw[List.getElem?_append_right aV,List.getElem?_drop]
 rw[show i+(i-((l.take i).map (vw a b)).length)=i by simp;omega]
 exact h
theorem Qp{l:List dz}{a b:Int}{i:Nat}{x:dz}(h:l[i]?=some x):pX l a b (i+1)=(pX l a b i).set i (vw a b x):=by
 have hi:=(List.getElem?_eq_some_iff.1 h).1
 have hd:l.drop i=x::l.drop (i+1):=by
  rw[List.drop_eq_getElem_cons hi]
  rw[List.getElem?_eq_getElem hi] at h
  rw[Option.some.inj h]
 unfold pX
 rw[eO h,List.map_append,hd,List.set_append_right _ _ aV]
 rw[show i-((l.take i).map (vw a b)).length=0 by simp;omega]
 simp
theorem Qo(l:List dz)(a b:Int):pX l a b 0=l:=by simp[pX]
theorem Ub(l:List dz)(a b:Int):pX l a b l.length=nX l a b:=by simp[pX,nX]
end Go.Proofs.YtgmodehldmahiaaGreatDoor.aT
namespace Go.Proofs.YtgmodehldmahiaaGreatDoor.aT
open Go Go.RowKit Go.Tm
theorem ahC(x y:dz)(hx:Bc x)(hy:Bc y):∀w,(binOp .neq 126 (jQ x) (jQ y)).run Tryz.prog w=.ok (.bool (!decide (x=y))) w:=fun w=>by
 have:=aea x y hx hy w
 simp only[binOp]
 simp[Op.equal,Op.maxDepth,this]
end Go.Proofs.YtgmodehldmahiaaGreatDoor.aT
namespace Go.Proofs.YtgmodehldmahiaaGreatDoor.aT
open Go Go.RowKit Go.Tm
theorem VQ{α:Type}{l m:List α}(h:l.length≠m.length):¬l=m:=fun e=>h (by rw[e])
theorem GI{α:Type}{l m:List α}(h:l.length=m.length)(ht:l.take l.length=m.take l.length):l=m:=by
 rw[List.take_length] at ht
 rw[ht,h,List.take_length]
theorem Ke{α:Type}{l m:List α}{i:Nat}{x:α}(h:l.take i=m.take i)(hx:l[i]?=some x)(hy:m[i]?=some x):l.take (i+1)=m.take (i+1):=by
 rw[eO hx,eO hy,h]
theorem acW{α:Type}{l m:List α}{i:Nat}{x y:α}(hx:l[i]?=some x)(hy:m[i]?=some y)(h:x≠y):¬l=m:=fun e=>by
 subst e;rw[hx] at hy;cases hy;exact h rfl
theorem Ae(v u:Value)(l m:List dz)(w:World)(hv:Sl w true 26 v (rH l))(hu:Sl w true 26 u (rH m))(hl:∀x∈l,Bc x)(hm:∀x∈m,Bc x):
  Calls Tryz.prog 24 #[v,u] w fun e w'=>e=.returned (.bool (decide (l=m)))∧Below w.heap.size w w':=by
 have HV:=ah hv
 have HU:=ah hu
 have HL:=ah hl
 have HM:=ah hm
 obtain⟨a,cap,rfl,af7⟩:=hv.shape
 obtain⟨a2,jl,rfl,abJ⟩:=hu.shape
 rw[jC] at af7 abJ HV HU⊢
 rw[jC]
 clear hv hu hl hm
 by_cases hlen:l.length=m.length
 ·have HLEN:=ah hlen
  rw[←hlen] at HU abJ⊢
  clear hlen
  go_enter Tryz.func24,Tryz.ntmps24
  go_wp2_with fail
  go_loopw [5] (fun t W=>∃i:Nat,i≤l.length∧t=.int .i64 i∧Below w.heap.size w W∧Hid (l.take i=m.take i)) (fun t _=>l.length-(intOf t).toNat)
  case atStart=>exact⟨0,Nat.zero_le _,rfl,Below.refl _ _,ah rfl⟩
  case round=>
   obtain⟨i,hi,rfl,bZ,HT⟩:=hrel
   have Bj:=bZ.size
   by_cases hlt:i<l.length
   ·obtain⟨x,hx⟩:∃x,l[i]?=some x:=⟨_,List.getElem?_eq_getElem hlt⟩
    obtain⟨y,hy⟩:∃y,m[i]?=some y:=⟨_,List.getElem?_eq_getElem (by rw[←HLEN.out];exact hlt)⟩
    obtain⟨b,off,rfl,hb,gL,-,-,-⟩:=Sl.pr (HV.out.below bZ) hx
    obtain⟨b2,nU,rfl,hb2,BK,-,-,-⟩:=Sl.pr (HU.out.below bZ) hy
    have HCX:=ah gL
    have QS:=ah BK
    have am':=ahC x y (HL.out x (List.mem_of_getElem? hx)) (HM.out y (List.mem_of_getElem? hy))
    have heq:=aea x y (HL.out x (List.mem_of_getElem? hx)) (HM.out y (List.mem_of_getElem? hy))
    have hwr:IntKind.i64.wrap ((i:Int)+1)=i+1:=IntWalk.i64_in _ aj
    have HX:=ah hx
    have HY:=ah hy
    clear hx hy gL BK
    by_cases Hq:x=y
    ·rw[decide_eq_true Hq] at am' heq
     have HXY:=ah Hq
     clear Hq
     go_wp2_with fail
     ((refine wp_region_quiet_below ay ay ?_);(repeat(first|go_big_quiet_skip|(go_big_quiet_want;first|((first|(refine pY 126 _ rfl b (off+i*26) (eT x) bf (fG x) HCX.out hb ?_ ?_;(exact aM))|(refine pY 126 _ rfl b2 (nU+i*26) (eT y) bf (fG y) QS.out hb2 ?_ ?_;(exact aM)));simp only[Act.put,List.setIfInBounds_toArray,List.set_cons_succ,List.set_cons_zero];go_big_quiet_on)|(go_big_quiet_op;first|go_big_quiet_on|go_big_quiet_call (fail)))));(refine wpQuiet_nil ?_);intro _ hw';obtain⟨⟨dq,osq⟩,hw''⟩:=hw';subst hw'';have pE:=below_regrown wr dq osq;generalize Go.Sort.grow (redrawn wr dq) osq=w7 at*;have LC:=pE.size)
     exact aiI
    ·rw[decide_eq_false Hq] at am' heq
     have HN:=ah (decide_eq_false (acW HX.out HY.out Hq))
     clear Hq
     go_wp2_with fail
     ((refine wp_region_quiet_below ay ay ?_);(repeat(first|go_big_quiet_skip|(go_big_quiet_want;first|((first|(refine pY 126 _ rfl b (off+i*26) (eT x) bf (fG x) HCX.out hb ?_ ?_;(exact aM))|(refine pY 126 _ rfl b2 (nU+i*26) (eT y) bf (fG y) QS.out hb2 ?_ ?_;(exact aM)));simp only[Act.put,List.setIfInBounds_toArray,List.set_cons_succ,List.set_cons_zero];go_big_quiet_on)|(go_big_quiet_op;first|go_big_quiet_on|go_big_quiet_call (fail)))));(refine wpQuiet_nil ?_);intro _ hw';obtain⟨⟨dq,osq⟩,hw''⟩:=hw';subst hw'';have pE:=below_regrown wr dq osq;generalize Go.Sort.grow (redrawn wr dq) osq=w7 at*;have LC:=pE.size)
     go_wp2_with fail
     go_ret
     exact⟨zR,bZ.trans (pE.mono Bj)⟩
   ·exact aiF
 ·have HN:=ah (decide_eq_false (VQ hlen))
  have hne:((l.length:Int)!=(m.length:Int))=true:=aV
  clear hlen
  go_enter Tryz.func24,Tryz.ntmps24
  go_wp2_with fail
  go_ret
  exact⟨zR,Below.refl _ _⟩
end Go.Proofs.YtgmodehldmahiaaGreatDoor.aT
