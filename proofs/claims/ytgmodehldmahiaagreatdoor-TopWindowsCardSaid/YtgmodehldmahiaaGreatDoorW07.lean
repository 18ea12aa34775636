/- Part 7 of 50 of the proof of topWindows_holds. Conditions: see each. -/
import Derived.Test.YtgmodehldmahiaaGreatDoorW01
import Derived.Test.YtgmodehldmahiaaGreatDoorW02
set_option linter.unusedVariables false
set_option linter.unusedSimpArgs false
set_option maxRecDepth 8192
set_option maxHeartbeats 40000000
namespace Go.Proofs.YtgmodehldmahiaaGreatDoor.Tab
open Go Go.RowKit Go.Tm
def Yn(r0 r1 r2 r3 r4 r5 r6 r7 pc:Int)(mem:ByteArray)(code p0:Int)(b0:Bool)(p1:Int)(b1:Bool)(p2:Int)(b2:Bool)(p3:Int)(b3:Bool)(n a b c:Int):List Value:=
 [.int .u32 r0,.int .u32 r1,.int .u32 r2,.int .u32 r3,.int .u32 r4,.int .u32 r5,.int .u32 r6,.int .u32 r7,.int .u32 pc,.string mem,.int .i64 code,.int .i64 p0,.bool b0,.int .i64 p1,.bool b1,.int .i64 p2,.bool b2,.int .i64 p3,.bool b3,.int .u32 n,.int .u32 a,.int .u32 b,.int .u32 c]
def zi(l:List Value):Prop:=∃r0 r1 r2 r3 r4 r5 r6 r7 pc mem code p0 b0 p1 b1 p2 b2 p3 b3 n a b c,l=Yn r0 r1 r2 r3 r4 r5 r6 r7 pc mem code p0 b0 p1 b1 p2 b2 p3 b3 n a b c∧mem.size≤maxLen∧
 (∀x∈[r0,r1,r2,r3,r4,r5,r6,r7,pc,n,a,b,c],(Lit.int .u32 x).wf=true)∧∀x∈[code,p0,p1,p2,p3],(Lit.int .i64 x).wf=true
theorem zi.len{l:List Value}(h:zi l):l.length=23:=by
 obtain⟨_,_,_,_,_,_,_,_,_,_,_,_,_,_,_,_,_,_,_,_,_,_,_,rfl,_⟩:=h;rfl
theorem zi.one{l:List Value}(h:zi l):∀c∈l,c.oneCell'=true:=by
 obtain⟨_,_,_,_,_,_,_,_,_,_,_,_,_,_,_,_,_,_,_,_,_,_,_,rfl,_⟩:=h
 intro c hc
 simp only[Yn,List.mem_cons,List.not_mem_nil,or_false] at hc
 rcases hc with rfl|rfl|rfl|rfl|rfl|rfl|rfl|rfl|rfl|rfl|rfl|rfl|rfl|rfl|rfl|rfl|rfl|rfl|rfl|rfl|rfl|rfl|rfl<;>rfl
@[ext] structure bV where
  pid:Int
  par:Int
  st:Int
  rest:List Value
  ok:zi rest
@[irreducible] def dS(p:bV):Array Value:=(.int .i64 p.pid::.int .i64 p.par::.int .i64 p.st::p.rest).toArray
abbrev je(p:bV):Value:= .agg (dS p)
abbrev pO(l:List bV):List Value:=l.map je
theorem tN(p:bV):dS p=(.int .i64 p.pid::.int .i64 p.par::.int .i64 p.st::p.rest).toArray:=by unfold dS;rfl
theorem uK(p:bV):(dS p)[0]?=some (.int .i64 p.pid):=by simp[tN]
theorem LM(p:bV):(dS p)[1]?=some (.int .i64 p.par):=by simp[tN]
theorem Ht(p:bV):(dS p)[2]?=some (.int .i64 p.st):=by simp[tN]
theorem jd(p:bV):(dS p).size=26:=by simp[tN,p.ok.len]
theorem fq(p:bV):Val true 26 (je p):=⟨_,rfl,jd p,fun c hc=>by
 rw[tN,List.toList_toArray] at hc
 simp only[List.mem_cons] at hc
 rcases hc with rfl|rfl|rfl|hc
 ·rfl
 ·rfl
 ·rfl
 ·exact p.ok.one c hc⟩
theorem ach(p:bV)(alA:Int):(dS p).setIfInBounds 1 (.int .i64 alA)=dS {p with par:=alA}:=by simp[tN]
theorem jh(l:List bV):(pO l).length=l.length:=by simp
theorem Ef{l:List bV}{i:Nat}{a:bV}(h:l[i]?=some a):(pO l)[i]?=some (je a):=by simp[h]
theorem Sl.pr{w:World}{a:Option Addr}{n cap:Nat}{l:List bV}(h:Sl w true 26 (.slice a n cap) (pO l)){i:Nat}{x:bV}(hx:l[i]?=some x):
  ∃b off,a=some ⟨b,off,none⟩∧b<w.heap.size∧Cells w b (off+i*26) (je x).cells.toList∧w.cell? ⟨b,off+i*26,none⟩=some (.int .i64 x.pid)∧w.cell? ⟨b,off+i*26+1,none⟩=some (.int .i64 x.par)∧w.cell? ⟨b,off+i*26+2,none⟩=some (.int .i64 x.st):=by
 obtain⟨b,off,ha,hb,hcell⟩:=h.at (Ef hx)
 exact⟨b,off,ha,hb,hcell,hcell 0 _ (by rw[show(je x).cells=dS x from rfl];simpa using uK x),hcell 1 _ ado,hcell 2 _ (by rw[show(je x).cells=dS x from rfl];simpa using Ht x)⟩
def JG(p:bV):Prop:=(Lit.int .i64 p.pid).wf=true∧(Lit.int .i64 p.par).wf=true∧(Lit.int .i64 p.st).wf=true
noncomputable instance:DecidableEq bV:=fun _ _=>Classical.propDecidable _
def MC:List Value:=Yn 0 0 0 0 0 0 0 0 0 ⟨#[]⟩ 0 0 false 0 false 0 false 0 false 0 0 0 0
def jl(n:Int):bV:=⟨n,0,0,MC,⟨0,0,0,0,0,0,0,0,0,⟨#[]⟩,0,0,false,0,false,0,false,0,false,0,0,0,0,rfl,aB,aB,aB⟩⟩
theorem Zj(n:Int):dS (jl n)=#[.int .i64 n,.int .i64 0,.int .i64 0,.int .u32 0,.int .u32 0,.int .u32 0,.int .u32 0,.int .u32 0,.int .u32 0,.int .u32 0,.int .u32 0,.int .u32 0,.string ⟨#[]⟩,.int .i64 0,.int .i64 0,.bool false,.int .i64 0,.bool false,.int .i64 0,.bool false,.int .i64 0,.bool false,.int .u32 0,.int .u32 0,.int .u32 0,.int .u32 0]:=by rw[tN];rfl
theorem aX:Ty Tryz.prog 126 26 true:=⟨aj,aj,aB,aj⟩
theorem xJ:(Tryz.prog.info? 126).map (fun i=>(i.zero,i.size,i.bytes))=some (some (.agg #[.int .i64 0,.int .i64 0,.int .i64 0,.int .u32 0,.int .u32 0,.int .u32 0,.int .u32 0,.int .u32 0,.int .u32 0,.int .u32 0,.int .u32 0,.int .u32 0,.string ⟨#[]⟩,.int .i64 0,.int .i64 0,.bool false,.int .i64 0,.bool false,.int .i64 0,.bool false,.int .i64 0,.bool false,.int .u32 0,.int .u32 0,.int .u32 0,.int .u32 0]),26,168):=by kernel_rfl
theorem zD(v:Value)(xs:List Value)(w:World)(hsl:Sl w true 26 v xs)(hbytes:xs.length*168≤140737488355328):
  Calls Tryz.prog 101 #[v] w fun e w'=>∃v',e=.returned v'∧bB w' w.heap.size 126 true 26 v' xs∧Below w.heap.size w w':=by
 have hsl0:=Lib.hid hsl
 obtain⟨hsz,a,cap,rfl,hl,hm,hform⟩:=hsl
 have hlen:xs.length≤maxLen:=ah
 cases a with
 |none=>
  have h0:xs=[]:=yu
  subst h0
  have hnil:=fun(n c:Nat) (w:World)=>eD Tryz.prog (t:=43) (n:=n) (c:=c) Tryz.underlying43 w
  clear hform hsz hl hm hlen
  go_enter Tryz.func101,Tryz.ntmps101
  exact yw
 |some a=>
  have hnil:=fun(n c:Nat) (w:World)=>eB Tryz.prog (t:=43) (a:=a) (n:=n) (c:=c) Tryz.underlying43 w
  obtain⟨i0,hi,hz0,hz1,hz2⟩:=info_parts xJ
  have HI:=Lib.hid hi
  have HZ:=Lib.hid (And.intro hz0 (And.intro hz1 hz2))
  have HS:=Lib.hid hsz
  clear hi hz0 hz1 hz2 hform hl hm hsz
  go_enter Tryz.func101,Tryz.ntmps101
  go_wp2_with(first|(refine wpList_append_own _ rfl _ _ 43 rfl w.heap.size 126 i0 (.agg #[.int .i64 0,.int .i64 0,.int .i64 0,.int .u32 0,.int .u32 0,.int .u32 0,.int .u32 0,.int .u32 0,.int .u32 0,.int .u32 0,.int .u32 0,.int .u32 0,.string ⟨#[]⟩,.int .i64 0,.int .i64 0,.bool false,.int .i64 0,.bool false,.int .i64 0,.bool false,.int .i64 0,.bool false,.int .u32 0,.int .u32 0,.int .u32 0,.int .u32 0]) 26 168 Tryz.underlying43 HI.out HZ.out.1 HZ.out.2.1 HZ.out.2.2 rfl aB (.slice (some ⟨w.heap.size,0,none⟩) 0 0) 0 [] bT (World.ownsRow_made w #[] 0 (Nat.le_refl _) (Nat.zero_le _) rfl) a xs.length cap (flat xs) bT ?c1 ?c2 ?c3 ?c4 ?c5 ?c6 ?_)|fail)
  case c1=>exact dX HS.out
  case c2=>exact(hsl0.out.below ((Below.refl _ _).alloc (Nat.le_refl _) _)).news
  case c3=>exact iD HS.out
  case c4=>omega
  case c5=>omega
  case c6=>simp
  exact yC
theorem SH:Val true 26 (.agg #[.int .i64 0,.int .i64 0,.int .i64 0,.int .u32 0,.int .u32 0,.int .u32 0,.int .u32 0,.int .u32 0,.int .u32 0,.int .u32 0,.int .u32 0,.int .u32 0,.string ⟨#[]⟩,.int .i64 0,.int .i64 0,.bool false,.int .i64 0,.bool false,.int .i64 0,.bool false,.int .i64 0,.bool false,.int .u32 0,.int .u32 0,.int .u32 0,.int .u32 0]):=by
 rw[←Zj];exact fq (jl 0)
end Go.Proofs.YtgmodehldmahiaaGreatDoor.Tab
namespace Go.Proofs.YtgmodehldmahiaaGreatDoor.Tab
open Go Go.RowKit Go.Tm
theorem NU(v:Value)(xs:List Value)(i:Nat)(x:Value)(U:Nat)(w:World)(base:Nat)(ho:bB w base 126 true 26 v xs)(hi:i≤xs.length)(hx:Val true 26 x)(hbx:aC w U x.cells 126)
  (hU:∀b,v.ownBlock=some b→b≠U)(hbase:base≤w.heap.size)(hby:(xs.length+1)*168≤140737488355328):
  Calls Tryz.prog 105 #[v,.int .i64 i,.slice (some ⟨U,0,none⟩) 1 1] w fun e w'=>∃v',e=.returned v'∧bB w' base 126 true 26 v' (xs.take i++x::xs.drop i)∧w.grownBy w' v.ownBlock:=by
 obtain⟨i0,hi0,hq0,hq1,hq2⟩:=info_parts xJ
 have HI:=Lib.hid (And.intro hi0 (And.intro hq0 (And.intro hq1 hq2)))
 clear hi0 hq0 hq1 hq2
 have HU:=Lib.hid (Sl.IK (ag:=true) (k:=26) hx hbx)
 have HO:=Lib.hid ho
 have Zq:xs.length+1≤9223372036854775807:=ah
 by_cases hin:i=xs.length
 ·subst hin
  obtain⟨_,a,cap,rfl,hlc,hcm,_⟩:=ho.sl
  have HL:=Lib.hid (show xs.take xs.length++x::xs.drop xs.length=xs++[x] by simp)
  clear ho hbx hU
  by_cases hce:cap=xs.length
  ·subst hce
   go_enter Tryz.func105,Tryz.ntmps105
   go_wp2_with(first|(refine eO (v:= .slice a xs.length xs.length) (xs:=xs) (base:=base) rfl _ _ 43 rfl aX i0 (.agg #[.int .i64 0,.int .i64 0,.int .i64 0,.int .u32 0,.int .u32 0,.int .u32 0,.int .u32 0,.int .u32 0,.int .u32 0,.int .u32 0,.int .u32 0,.int .u32 0,.string ⟨#[]⟩,.int .i64 0,.int .i64 0,.bool false,.int .i64 0,.bool false,.int .i64 0,.bool false,.int .i64 0,.bool false,.int .u32 0,.int .u32 0,.int .u32 0,.int .u32 0]) 168 Tryz.underlying43 HI.out.1 HI.out.2.1 HI.out.2.2.1 HI.out.2.2.2 rfl ?_ ?_ (.slice (some ⟨U,0,none⟩) 1 1) ([x]) ?_ ?_ ?_ ?_ ?_ ?_;(exact aG);(focus(exact HO.out));(exact aG);(focus(exact HU.out));(exact yh);(exact yg);(exact yj);(intro v4 w4 qR hg4 xY;(have sj:=Lib.hid qR);(have Iz:=Lib.hid hg4);(clear qR hg4 xY)))|fail)
   exact IG
  ·go_enter Tryz.func105,Tryz.ntmps105
   go_wp2_with(first|(refine eO (v:= .slice a xs.length cap) (xs:=xs) (base:=base) rfl _ _ 43 rfl aX i0 (.agg #[.int .i64 0,.int .i64 0,.int .i64 0,.int .u32 0,.int .u32 0,.int .u32 0,.int .u32 0,.int .u32 0,.int .u32 0,.int .u32 0,.int .u32 0,.int .u32 0,.string ⟨#[]⟩,.int .i64 0,.int .i64 0,.bool false,.int .i64 0,.bool false,.int .i64 0,.bool false,.int .i64 0,.bool false,.int .u32 0,.int .u32 0,.int .u32 0,.int .u32 0]) 168 Tryz.underlying43 HI.out.1 HI.out.2.1 HI.out.2.2.1 HI.out.2.2.2 rfl ?_ ?_ (.slice (some ⟨U,0,none⟩) 1 1) ([x]) ?_ ?_ ?_ ?_ ?_ ?_;(exact aG);(focus(exact HO.out));(exact aG);(focus(exact HU.out));(exact yh);(exact yg);(exact yj);(intro v4 w4 qR hg4 xY;(have sj:=Lib.hid qR);(have Iz:=Lib.hid hg4);(clear qR hg4 xY)))|fail)
   exact IG
 have hlt:i<xs.length:=ah
 obtain⟨g,cap,rfl,hlc,hcm,hbg,hgw,_,_⟩:=ho.form ah
 unfold maxLen at hcm
 have Ip:(Value.slice (some ⟨g,0,none⟩) xs.length cap).ownBlock=some g:=rfl
 rw[Ip]
 have hgU:g≠U:=hU g rfl
 have hilt:(i:Int)<xs.length:=ah
 have ahX:((i:Int)==xs.length)=false:=mF
 have hwn:IntKind.i64.wrap ((xs.length:Int)+1)=xs.length+1:=IntWalk.i64_in _ ah
 have hwi:IntKind.i64.wrap ((i:Int)+1)=i+1:=IntWalk.i64_in _ ah
 have hci:¬cap=i:=ah
 have tV:=fun n W (h:n≤cap) (h':i≤n)=>oH (P:=Tryz.prog) (t:=43) aX Tryz.underlying43 g 0 n cap i i rfl h' h ah W
 by_cases hroom:xs.length+1≤cap
 ·--in place
  have hroom':¬(cap:Int)<(xs.length:Int)+1:=ah
  have Zp:(xs.length:Int)+1≤cap:=ah
  have ah6:¬cap=i+1:=ah
  obtain⟨cur,hg,hcs,htk⟩:∃cur,w.heap[g]?=some (.cells cur 126 (0,0))∧cur.size=cap*26∧cur.toList.take (xs.length*26)=flat xs:=Yg
  have hgb:aC w g cur 126:=hg
  have hsz:∀w,(Go.sizeOf 126).run Tryz.prog w=.ok 26 w:=fun w=>by simp[sizeOf,typeInfo,HI.out.1,HI.out.2.2.1]
  have hov:∀lb cb,(callFunc 132 #[.slice (some ⟨U,0,none⟩) 1 1,.slice (some ⟨g,(i+1)*26,none⟩) lb cb]).run Tryz.prog w=.ok (.value (.bool false)) w:=fun lb cb=>by
   rw[run_callFunc_extern Tryz.func132 aj aj aj (e:=Extern.SlicesOverlaps.overlaps #[43,43] #[4]) aj,
    Lib.run_overlaps_apart w 43 4 126 Tryz.underlying43 26 hsz ⟨U,0,none⟩ ⟨g,(i+1)*26,none⟩ 1 1 lb cb (Ne.symm hgU) _ _ _ _ hbx.shape hgb.shape (by rw[hcs];omega) (hbx.rules.2.1 0) (hbx.rules.2.1 _)]
   rfl
  have Er:=fun W=>oH (P:=Tryz.prog) (t:=43) aX Tryz.underlying43 g 0 (xs.length+1) cap ((i:Int)+1) (i+1) ah ah hroom ah W
  have tV:=fun W=>tV (xs.length+1) W hroom ah
  have hval:=ho.val
  have hDl:(flat (xs.drop i)).length=(xs.length-i)*26:=XU
  have hD1:∀u∈flat (xs.drop i),u.oneCell'=true:=iD (fun y hy=>hval y (List.mem_of_mem_drop hy))
  have hDn:=(HO.out.sl.BZ (m:=i) ah).news
  simp only[Nat.zero_add] at Er tV hDn
  have HDN:=Lib.hid hDn
  have HD1:=Lib.hid hD1
  have He:=Lib.hid hbx
  have Xh:=Lib.hid hgb
  have G8:=Lib.hid htk
  have agj:=Lib.hid hval
  clear ho hU hg hgb hsz hDn hD1 hval htk hbx
  go_enter Tryz.func105,Tryz.ntmps105
  go_wp2_with fail
  clear hov
  ((refine fT 8 aj aj ?_);(simp only[List.take_succ_cons,List.take_zero,List.drop_succ_cons,List.drop_zero]);(repeat(go_big_quiet_step (fail)));(refine wpQuiet_nil ?_);(intro _ hw');(obtain⟨⟨dq,osq⟩,hw''⟩:=hw');(subst hw'');(have hq:=below_regrown w dq osq);(generalize Go.Sort.grow (redrawn w dq) osq=w3 at*);(have hz3:=hq.size))
  have hb3:aC w3 g cur 126:=Xh.out.below hq Xh.out.lt
  have HB3:=Lib.hid hb3
  have Ez:∀j u,(flat (xs.drop i))[j]?=some u→w3.cell? ((⟨g,i*26,none⟩:Addr).add j)=some u:=fun j u hu=>by
   have:=HDN.out j u hu
   rw[addr_add] at this⊢
   exact(hq.cell (p:=⟨g,i*26+j,none⟩) Xh.out.lt).trans this
  have aiH:=Lib.hid Ez
  have hfit:(i+1)*26+(flat (xs.drop i)).length≤cur.size:=by
   have e3:(xs.length+1)*26≤cap*26:=Nat.mul_le_mul_right _ hroom
   rw[hDl,hcs];omega
  have hmin:min (xs.length+1-i) (xs.length-i)=xs.length-i:=ah
  have hcp:=fun ty=>lS (P:=Tryz.prog) (t:=43) (ty:=ty) (k:=26) (ag:=true) (c:=cap-(i+1)) (cs:=cap-i) (n:=xs.length+1-i) (m:=xs.length-i) (o:=(i+1)*26) aX Tryz.underlying43 hb3 PE Ez HD1.out hfit
  obtain⟨C1,OM⟩:∃C1,C1=(cur.toList.take ((i+1)*26)++flat (xs.drop i)++cur.toList.drop ((i+1)*26+(flat (xs.drop i)).length)).toArray:=⟨_,rfl⟩
  rw[←OM] at hcp
  have LZ:C1.size=cur.size:=Ya
  have Yu:i*26+26≤C1.size:=by rw[LZ];omega
  have HC1:=Lib.hid OM
  have HCP:=Lib.hid hcp
  clear hb3 Ez hcp OM LZ
  go_wp2_with(first|(refine wpList_copy_run rfl _ _ 43 43 rfl _ _ ?_ ?_ (HCP.out _) ?_;(focus(simp[Act.eval]));(focus(simp[Act.eval]));(generalize Ow:w3.setRow g C1=w4);((have hg4:aC w4 g C1 126:=by rw[←Ow];exact setRow_heap w3 g cur _ _ (0,0) HB3.out);(have hu4:aC w4 U x.cells 126:=by rw[←Ow];exact((He.out.below hq He.out.lt).row g _ (Ne.symm hgU)));(have LW:w3.grownBy w4 (some g):=by rw[←Ow];exact⟨rfl,rfl,rfl,uP,fun b hb hne=>setRow_other w3 g b _ uQ⟩);(have Iz:=Lib.hid hg4);(have HU4:=Lib.hid (Sl.IK (ag:=true) (k:=26) hx hu4));(have agn:=Lib.hid LW);(clear hg4 hu4 LW Ow)))|((have hl4:x.cells.toList.length=min 1 (xs.length+1-i)*26:=by rw[show min 1 (xs.length+1-i)=1 by omega,hx.len]);(have DL:∀j u,x.cells.toList[j]?=some u→w4.cell? ((⟨U,0,none⟩:Addr).add j)=some u:=by(have hnw:=HU4.out.news);simpa[flat] using hnw);(refine wpList_copy_run rfl _ _ 43 43 rfl (.slice (some ⟨g,i*26,none⟩) (xs.length+1-i) (cap-i)) (.slice (some ⟨U,0,none⟩) 1 1) ?_ ?_ (lS aX Tryz.underlying43 Iz.out hl4 DL hx.one PL) ?_);(focus(simp[Act.eval]));(focus(simp[Act.eval]));(clear hl4 DL);(generalize Lr:w4.setRow g (C1.toList.take (i*26)++x.cells.toList++C1.toList.drop (i*26+x.cells.toList.length)).toArray=w5);(have TT:=Lib.hid Lr);(clear Lr))|fail)
  go_ret
  have Lr:=TT.out
  subst Lr
  have hC2:C1.toList.take (i*26)++x.cells.toList++C1.toList.drop (i*26+x.cells.toList.length)=cur.toList.take (i*26)++x.cells.toList++flat (xs.drop i)++cur.toList.drop (i*26+26+(flat (xs.drop i)).length):=by
   have h:=zq cur.toList (flat (xs.drop i)) x.cells.toList (i*26) 26 hx.len E8
   rw[HC1.out,show(i+1)*26=i*26+26 from Nat.succ_mul _ _]
   exact h
  exact Yj
 ·--a new row
  obtain⟨m,hm⟩:∃m,i+m=xs.length+1:=⟨xs.length+1-i,ah⟩
  have hroom':(cap:Int)<(xs.length:Int)+1:=ah
  have hwm:IntKind.i64.wrap ((xs.length:Int)+1-i)=m:=BO
  have tV:=fun W=>tV xs.length W hlc ah
  simp only[Nat.zero_add] at tV
  have HDA:=Lib.hid (HO.out.sl.BZ (m:=i) ah)
  have hvz:Val true 26 (.agg #[.int .i64 0,.int .i64 0,.int .i64 0,.int .u32 0,.int .u32 0,.int .u32 0,.int .u32 0,.int .u32 0,.int .u32 0,.int .u32 0,.int .u32 0,.int .u32 0,.string ⟨#[]⟩,.int .i64 0,.int .i64 0,.bool false,.int .i64 0,.bool false,.int .i64 0,.bool false,.int .i64 0,.bool false,.int .u32 0,.int .u32 0,.int .u32 0,.int .u32 0]):=SH
  clear ho hbx hU
  go_enter Tryz.func105,Tryz.ntmps105
  go_wp2_with(first|(refine kW (base:=base) rfl _ _ 43 3 rfl aX i0 (.agg #[.int .i64 0,.int .i64 0,.int .i64 0,.int .u32 0,.int .u32 0,.int .u32 0,.int .u32 0,.int .u32 0,.int .u32 0,.int .u32 0,.int .u32 0,.int .u32 0,.string ⟨#[]⟩,.int .i64 0,.int .i64 0,.bool false,.int .i64 0,.bool false,.int .i64 0,.bool false,.int .i64 0,.bool false,.int .u32 0,.int .u32 0,.int .u32 0,.int .u32 0]) .i64 168 Tryz.underlying43 Tryz.underlying3 HI.out.1 HI.out.2.1 HI.out.2.2.1 HI.out.2.2.2 hvz g xs.length cap HO.out i m ah ah ah wJ (by rw[hm];exact hby) hbase ?_ ?_ ?_;(focus(simp[Act.eval]));(focus(simp[Act.eval]));(intro cap2 w2 hc2 ho2 hg2;(have hb2:Below w.heap.size w w2:=bq hg2);(have hne2:¬cap2=i:=by omega);(have lV:=Lib.hid ho2);(have HU2:=Lib.hid (HU.out.below hb2));(clear ho2 hg2)))|(refine wpList_copy_own (base:=base) rfl _ _ 43 rfl aX Tryz.underlying43 w.heap.size (i+m) cap2 (xs.take i++List.replicate m (.agg #[.int .i64 0,.int .i64 0,.int .i64 0,.int .u32 0,.int .u32 0,.int .u32 0,.int .u32 0,.int .u32 0,.int .u32 0,.int .u32 0,.int .u32 0,.int .u32 0,.string ⟨#[]⟩,.int .i64 0,.int .i64 0,.bool false,.int .i64 0,.bool false,.int .i64 0,.bool false,.int .i64 0,.bool false,.int .u32 0,.int .u32 0,.int .u32 0,.int .u32 0])) [x] lV.out i (xs.length+1-i) (cap2-i) ⟨U,0,none⟩ 1 HU2.out ?_ ?_ ?_ ?_ ?_;(focus(simp;omega));(focus(simp;omega));(focus(simp[Act.eval]));(focus(simp[Act.eval]));(intro w3 ho3 hg3;(have r_:=Lib.hid ho3);(have hb3:Below w.heap.size w w3:=hb2.grown hg3 hb2.size BQ);(clear ho3 hg3)))|fail)
  have Er:=fun W=>oH (P:=Tryz.prog) (t:=43) aX Tryz.underlying43 w.heap.size 0 (xs.length+1) cap2 ((i:Int)+1) (i+1) ah ah ah ah W
  simp only[Nat.zero_add] at Er
  simp only[Act.put,List.setIfInBounds_toArray,List.set_cons_succ,List.set_cons_zero,goInt,List.length_cons,List.length_nil]
  ((refine fT 8 aj aj ?_);(simp only[List.take_succ_cons,List.take_zero,List.drop_succ_cons,List.drop_zero]);(repeat(go_big_quiet_step (fail)));(refine wpQuiet_nil ?_);(intro _ hw');(obtain⟨⟨dq,osq⟩,hw''⟩:=hw');(subst hw'');(have hq:=below_regrown w3 dq osq);(generalize Go.Sort.grow (redrawn w3 dq) osq=w4 at*);(have vT:=hq.size))
  have hb4:Below w.heap.size w w4:=hb3.trans (hq.mono hb3.size)
  have sj:=Lib.hid (r_.out.kept hq)
  have XL:=Lib.hid (HDA.out.below hb4)
  go_wp2_with(first|(refine wpList_copy_own (base:=base) rfl _ _ 43 rfl aX Tryz.underlying43 w.heap.size (i+m) cap2 _ (xs.drop i) sj.out (i+1) (xs.length-i) (cap2-(i+1)) ⟨g,0+i*26,none⟩ (cap-i) XL.out ?_ ?_ ?_ ?_ ?_;(focus(simp));(focus(simp;omega));(focus(simp[Act.eval]));(focus(simp[Act.eval]));(intro w5 Iq hg5;(have LG:=Lib.hid Iq);(have hb5:Below w.heap.size w w5:=hb4.grown hg5 hb4.size BQ);(clear Iq hg5)))|fail)
  go_ret
  refine⟨_,rfl,?_,ay hb5 _⟩
  have h:=LG.out
  rw[hm] at h
  rw[←FX (z:= .agg #[.int .i64 0,.int .i64 0,.int .i64 0,.int .u32 0,.int .u32 0,.int .u32 0,.int .u32 0,.int .u32 0,.int .u32 0,.int .u32 0,.int .u32 0,.int .u32 0,.string ⟨#[]⟩,.int .i64 0,.int .i64 0,.bool false,.int .i64 0,.bool false,.int .i64 0,.bool false,.int .i64 0,.bool false,.int .u32 0,.int .u32 0,.int .u32 0,.int .u32 0]) (x:=x) hlt hm]
  exact h
theorem wZ(v:Value)(xs:List Value)(fid:FuncId)(caps:Array Value)(p:Value→Bool)(w:World)(hsl:Sl w true 26 v xs)(hp:Pred Tryz.prog w none fid caps p xs):
  Calls Tryz.prog 131 #[v,.func (.func fid) #[] caps] w fun e w'=>e=.returned (.int .i64 (idx p xs))∧Below w.heap.size w w':=by
 obtain⟨hsz,a,cap,rfl,hl,hm,hform⟩:=hsl
 unfold maxLen at hm
 have hlen:xs.length≤9223372036854775807:=ah
 go_enter Tryz.func131,Tryz.ntmps131
 go_wp2_with fail
 go_loopw [8] (fun t wr=>∃i:Nat,i≤xs.length∧t=.int .i64 i∧Below w.heap.size w wr∧∀j y,j<i→xs[j]?=some y→p y=false) (fun t _=>xs.length-(intOf t).toNat)
 case atStart=>exact⟨0,Nat.zero_le _,rfl,Below.refl _ _,tF⟩
 case round=>
  obtain⟨i,hi,rfl,hbw,fG⟩:=hrel
  have HP:=Lib.hid fG
  clear fG
  by_cases hlt:i<xs.length
  ·obtain⟨x,hx⟩:∃x,xs[i]?=some x:=⟨_,List.getElem?_eq_getElem hlt⟩
   have hmem:x∈xs:=List.mem_of_getElem? hx
   have HV:=Lib.hid (hsz _ hmem)
   obtain⟨b,off,rfl,hb,hcell⟩:∃b off,a=some ⟨b,off,none⟩∧b<w.heap.size∧Cells wr b (off+i*26) x.cells.toList:=yx
   have HX:=Lib.hid hx
   have nu:=Lib.hid hcell
   clear hx hcell hform hsz
   have hcall:=hp.asks wr (ay hbw none) _ hmem
   have hbody:=hp.body
   unfold Body at hbody
   have HC:=Lib.hid hcall
   clear hcall hp
   cases hpx:p x
   ·have uG:=Lib.hid hpx
    rw[hpx] at HC
    clear hpx
    go_wp2_with(first|(refine aO rfl 126 _ rfl b (off+i*26) bT x aX HV.out nu.out ?_)|fail)
    exact Hr
   ·have uG:=Lib.hid hpx
    rw[hpx] at HC
    clear hpx
    go_wp2_with(first|(refine aO rfl 126 _ rfl b (off+i*26) bT x aX HV.out nu.out ?_)|fail)
    exact yA
  ·exact yB
theorem Uv:Val true 26 (.agg #[.int .i64 0,.int .i64 0,.int .i64 0,.int .u32 0,.int .u32 0,.int .u32 0,.int .u32 0,.int .u32 0,.int .u32 0,.int .u32 0,.int .u32 0,.int .u32 0,.string ⟨#[]⟩,.int .i64 0,.int .i64 0,.bool false,.int .i64 0,.bool false,.int .i64 0,.bool false,.int .i64 0,.bool false,.int .u32 0,.int .u32 0,.int .u32 0,.int .u32 0]):=SH
theorem D_(v:Value)(xs:List Value)(fid:FuncId)(caps:Array Value)(p:Value→Bool)(w:World)(base:Nat)(hform:∀x∈xs,(fun x:Value=>∃cs:Array Value,x=.agg cs∧cs.size=26) x)(ho:bB w base 126 true 26 v xs)(hp:Pred Tryz.prog w v.ownBlock fid caps p xs):
  Calls Tryz.prog 190 #[v,.func (.func fid) #[] caps] w fun e w'=>∃v',e=.returned v'∧Sl w' true 26 v' (xs.filter fun x=>!p x)∧v'.ownBlock=v.ownBlock∧w.grownBy w' v.ownBlock:=by
 have hI:=wZ v xs fid caps p w ho.sl ⟨hp.body,fun w' hg x hx=>hp.asks w' ⟨hg.os,hg.tape,hg.output,hg.size,fun b hb _=>hg.block b hb aI⟩ x hx⟩
 rcases jH p xs with⟨hi,hall⟩|⟨i0,x0,hi,hx0,Hw,fG⟩
 ·rw[hi] at hI
  have HF:=Lib.hid (show xs.filter (fun x=>!p x)=xs from List.filter_eq_self.2 (fun x hx=>EX))
  have HO:=Lib.hid ho
  clear hp ho hall
  go_enter Tryz.func190,Tryz.ntmps190
  exact Mi
 ·rw[hi] at hI
  have aby:i0<xs.length:=(List.getElem?_eq_some_iff.1 hx0).1
  obtain⟨g,cap,rfl,hlc,hcm,hbg,hgw,hfz,_⟩:=ho.form ah
  have hlen:xs.length≤9223372036854775807:=E5
  have Ip:(Value.slice (some ⟨g,0,none⟩) xs.length cap).ownBlock=some g:=rfl
  rw[Ip] at hp⊢
  obtain⟨i1,hi0,hq0,hq1,hq2⟩:=info_parts xJ
  have hzv:∀w,(zeroValue 126).run Tryz.prog w=.ok (.agg #[.int .i64 0,.int .i64 0,.int .i64 0,.int .u32 0,.int .u32 0,.int .u32 0,.int .u32 0,.int .u32 0,.int .u32 0,.int .u32 0,.int .u32 0,.int .u32 0,.string ⟨#[]⟩,.int .i64 0,.int .i64 0,.bool false,.int .i64 0,.bool false,.int .i64 0,.bool false,.int .i64 0,.bool false,.int .u32 0,.int .u32 0,.int .u32 0,.int .u32 0]) w:=fun w=>by simp[zeroValue,typeInfo,hi0,hq0]
  have HZV:=Lib.hid hzv
  clear hi0 hq0 hq1 hq2 hzv hfz
  have R_:=Lib.hid ho
  have TW:=Lib.hid hp
  have hbody:=hp.body
  unfold Body at hbody
  have zS:xs.take i0=(xs.take (i0+1)).filter (fun x=>!p x):=Mj
  have BD:=Lib.hid zS
  have abt:IntKind.i64.wrap ((i0:Int)+1)=i0+1:=IntWalk.i64_in _ ah
  have hne1:((i0:Int)==-1)=false:=mF
  clear ho hp fG zS hx0 Hw
  go_enter Tryz.func190,Tryz.ntmps190
  go_wp2_with fail
  with_reducible refine hI.mono ?_
  rintro e w1 ⟨rfl,hb1⟩
  have hz1:=hb1.size
  go_wp2_with fail
  go_loopw [5,6] (fun u t W=>∃(i j:Nat) (zs:List Value),i<j∧j≤xs.length∧u=.int .i64 i∧t=.int .i64 j∧zs.length=xs.length∧bB W base 126 true 26 (.slice (some ⟨g,0,none⟩) xs.length cap) zs∧w.grownBy W (some g)∧
   zs.take i=(xs.take j).filter (fun x=>!p x)∧∀r,j≤r→zs[r]?=xs[r]?) (fun _ t _=>xs.length-(intOf t).toNat)
  case atStart=>exact⟨i0,i0+1,xs,ah,ah,rfl,bI,rfl,R_.out.kept hb1,ay hb1 _,BD.out,fun _ _=>rfl⟩
  case round=>
   obtain⟨i,j,zs,hij,hj,rfl,rfl,hzl,how,hgw,htk,hdr⟩:=hrel
   have HO:=Lib.hid how
   have Xd:=Lib.hid hzl
   have G8:=Lib.hid htk
   have HDR:=Lib.hid hdr
   have HG:=Lib.hid hgw
   clear how hzl htk hdr hgw
   by_cases hlt:j<xs.length
   ·obtain⟨x,hx⟩:∃x,xs[j]?=some x:=⟨_,List.getElem?_eq_getElem hlt⟩
    have hzx:zs[j]?=some x:=(HDR.out j (Nat.le_refl _)).trans hx
    obtain⟨b',off',CU,hblt,hcell⟩:=HO.out.sl.at hzx
    simp only[Option.some.injEq,Addr.mk.injEq,and_true] at CU
    obtain⟨rfl,rfl⟩:=CU
    rw[Nat.zero_add] at hcell
    have nu:=Lib.hid hcell
    have HV:=Lib.hid (HO.out.val x (List.mem_of_getElem? hzx))
    have HC:=Lib.hid (fun W h=>TW.out.asks W h x (List.mem_of_getElem? hx))
    obtain⟨cs,rfl,hcs⟩:=hform x (List.mem_of_getElem? hx)
    have HX:=Lib.hid hx
    have hwj:IntKind.i64.wrap ((j:Int)+1)=j+1:=IntWalk.i64_in _ ah
    have hwi:IntKind.i64.wrap ((i:Int)+1)=i+1:=IntWalk.i64_in _ ah
    clear hx hzx hcell
    cases hpx:p (.agg cs)
    ·have uG:=Lib.hid hpx
     rw[hpx] at HC
     clear hpx
     have tX:i<zs.length:=tH
     go_wp2_with(first|(refine aO rfl 126 _ rfl g (j*26) bT (.agg cs) aX HV.out nu.out ?_)|(refine aU rfl 126 _ _ rfl cs aX HV.out aF bT bT ?_)|(refine aJ rfl 126 _ rfl (b:=wr.heap.size) (t:=126) cs aX HV.out (aC.new wr _ _) bT ?_)|(refine aJ rfl 126 _ rfl (b:=wr.heap.size) (t:=126) cs aX HV.out L_.out bT ?_)|((with_reducible refine(HC.out _ ?_).mono ?_);(focus exact aA HG.out (World.grownBy_alloc _ _ _));rintro e w2 ⟨rfl,hb2⟩;(have hz2:=hb2.size);(simp only[World.size_alloc] at hz2);(have hb2':Below wr.heap.size wr w2:=((Below.refl wr.heap.size wr).alloc (Nat.le_refl _) _).trans (hb2.mono cZ));(have lV:=Lib.hid (HO.out.kept hb2'));(have qU:aC w2 wr.heap.size cs 126:=aC.below (aC.new wr _ _) hb2 cZ);(obtain⟨hcx,hfx,hlx,hnx,hmx⟩:=qU.rules);(have L_:=Lib.hid qU);(clear qU))|(refine dw (base:=base) rfl _ _ rfl aX g xs.length cap lV.out i tX ?_ (.agg cs) ?_ HV.out ?_;(focus(simp[Act.eval]));(focus(simp[Act.eval]));(intro w3 ho3 hg3;(have r_:=Lib.hid ho3);(have hg3':=aA HG.out (aA (ay hb2' (some g)) hg3));(have zO:=Lib.hid hg3');clear ho3 hg3 hg3'))|fail)
     go_roundw
     case rel=>
      refine⟨i+1,j+1,_,ah,ah,bI,bI,?_,r_.out,zO.out,?_,?_⟩
      ·exact Fp
      ·rw[eH HX.out,List.filter_append,←G8.out,eH (i:=i) (x:= .agg cs) E9,List.take_set_of_le (Nat.le_refl _)]
       simp[uG.out]
      ·exact Mg
     case measure=>simp[intOf];omega
    ·have uG:=Lib.hid hpx
     rw[hpx] at HC
     clear hpx
     go_wp2_with(first|(refine aO rfl 126 _ rfl g (j*26) bT (.agg cs) aX HV.out nu.out ?_)|(refine aU rfl 126 _ _ rfl cs aX HV.out aF bT bT ?_)|(refine aJ rfl 126 _ rfl (b:=wr.heap.size) (t:=126) cs aX HV.out (aC.new wr _ _) bT ?_)|(refine aJ rfl 126 _ rfl (b:=wr.heap.size) (t:=126) cs aX HV.out L_.out bT ?_)|((with_reducible refine(HC.out _ ?_).mono ?_);(focus exact aA HG.out (World.grownBy_alloc _ _ _));rintro e w2 ⟨rfl,hb2⟩;(have hz2:=hb2.size);(simp only[World.size_alloc] at hz2);(have hb2':Below wr.heap.size wr w2:=((Below.refl wr.heap.size wr).alloc (Nat.le_refl _) _).trans (hb2.mono cZ));(have lV:=Lib.hid (HO.out.kept hb2'));(have qU:aC w2 wr.heap.size cs 126:=aC.below (aC.new wr _ _) hb2 cZ);(obtain⟨hcx,hfx,hlx,hnx,hmx⟩:=qU.rules);(have L_:=Lib.hid qU);(clear qU))|fail)
     exact Sr
   ·have hjl:j=xs.length:=by omega
    subst hjl
    have tX:i<zs.length:=tH
    have hsub:zs.length-i=xs.length-i:=ER
    go_wp2_with(first|(refine kG (base:=base) rfl _ 43 rfl aX Tryz.underlying43 HZV.out Uv g xs.length cap (cap-i) HO.out i tX ?_ ?_;(focus(rw[hsub];simp[Act.eval]));(intro w3 ho3 hg3;(have r_:=Lib.hid ho3);(have zO:=Lib.hid (aA HG.out hg3));clear ho3 hg3))|fail)
    exact Mh
end Go.Proofs.YtgmodehldmahiaaGreatDoor.Tab
namespace Go.Proofs.YtgmodehldmahiaaGreatDoor.Tab
open Go Go.RowKit Go.Tm
def qG(pid:Int):Value→Bool:=fun v=>match(v.cells)[0]? with|some (Value.int _ n)=>decide (n=pid)|_=>false
def gtP(pid:Int):Value→Bool:=fun v=>match(v.cells)[0]? with|some (Value.int _ n)=>decide (pid<n)|_=>false
theorem Je(x:bV):(je x).cells=dS x:=rfl
theorem xA(pid:Int)(x:bV):qG pid (je x)=decide (x.pid=pid):=by unfold qG;rw[Je,uK]
theorem Zt(pid:Int)(x:bV):gtP pid (je x)=decide (pid<x.pid):=by unfold gtP;rw[Je,uK]
theorem aa_:Body Tryz.prog 130:=eZ Tryz.func130 aj aj
theorem Ve:Body Tryz.prog 191:=eZ Tryz.func191 aj aj
theorem Vn:Body Tryz.prog 104:=eZ Tryz.func104 aj aj
theorem ac4(x:bV)(pid:Int)(B:Nat)(w:World)(hB:B<w.heap.size)(hc0:w.cell? ⟨B,0,none⟩=some (.int .i64 pid)):
  Calls Tryz.prog 130 #[je x,.pointer (some ⟨B,0,none⟩)] w fun e w'=>e=.returned (.bool (qG pid (je x)))∧Below w.heap.size w w':=by
 rw[xA]
 have hne:¬B=w.heap.size:=ah
 have q0:=uK x
 by_cases h:x.pid=pid
 ·have hb:(x.pid==pid)=true:=by simpa using h
  go_enter Tryz.func130,Tryz.ntmps130
  exact oO
 ·have hb:(x.pid==pid)=false:=by simpa using h
  go_enter Tryz.func130,Tryz.ntmps130
  exact oO
theorem aaf(x:bV)(pid:Int)(B:Nat)(w:World)(hB:B<w.heap.size)(hc0:w.cell? ⟨B,0,none⟩=some (.int .i64 pid)):
  Calls Tryz.prog 191 #[je x,.pointer (some ⟨B,0,none⟩)] w fun e w'=>e=.returned (.bool (qG pid (je x)))∧Below w.heap.size w w':=by
 rw[xA]
 have hne:¬B=w.heap.size:=ah
 have q0:=uK x
 by_cases h:x.pid=pid
 ·have hb:(x.pid==pid)=true:=by simpa using h
  go_enter Tryz.func191,Tryz.ntmps191
  exact oO
 ·have hb:(x.pid==pid)=false:=by simpa using h
  go_enter Tryz.func191,Tryz.ntmps191
  exact oO
theorem aao(x:bV)(pid:Int)(B:Nat)(w:World)(hB:B<w.heap.size)(hc0:w.cell? ⟨B,0,none⟩=some (.int .i64 pid)):
  Calls Tryz.prog 104 #[je x,.pointer (some ⟨B,0,none⟩)] w fun e w'=>e=.returned (.bool (gtP pid (je x)))∧Below w.heap.size w w':=by
 rw[Zt]
 have hne:¬B=w.heap.size:=ah
 have q0:=uK x
 by_cases h:pid<x.pid
 ·go_enter Tryz.func104,Tryz.ntmps104
  exact oO
 ·go_enter Tryz.func104,Tryz.ntmps104
  exact oO
theorem uo{f:FuncId}{q:Value→Bool}(hbody:Body Tryz.prog f)(pid:Int)(l:List bV)(B:Nat)(w:World)(hB:B<w.heap.size)(hc0:w.cell? ⟨B,0,none⟩=some (.int .i64 pid))(g:Option Nat)(hg:some B≠g)
  (h:∀(x:bV) (w':World),B<w'.heap.size→w'.cell? ⟨B,0,none⟩=some (.int .i64 pid)→Calls Tryz.prog f #[je x,.pointer (some ⟨B,0,none⟩)] w' fun e w''=>e=.returned (.bool (q (je x)))∧Below w'.heap.size w' w''):
  Pred Tryz.prog w g f #[.pointer (some ⟨B,0,none⟩)] q (pO l):=
 ⟨hbody,fun w' hw x hm=>by
  obtain⟨n,_,rfl⟩:=List.mem_map.1 hm
  exact h n w' (Nat.lt_of_lt_of_le hB hw.size) ((World.cell?_of_block (a:=⟨B,0,none⟩) (hw.block B hB hg)).trans hc0)⟩
theorem uz(v:Value)(xs:List Value)(fid:FuncId)(caps:Array Value)(p:Value→Bool)(w:World)(hsl:Sl w true 26 v xs)(hp:Pred Tryz.prog w none fid caps p xs):
  Calls Tryz.prog 103 #[v,.func (.func fid) #[] caps] w fun e w'=>e=.returned (.int .i64 (idx p xs))∧Below w.heap.size w w':=by
 have HI:=Lib.hid (wZ v xs fid caps p w hsl hp)
 go_enter Tryz.func103,Tryz.ntmps103
 go_wp2_with fail
 with_reducible refine HI.out.mono ?_
 rintro e w1 ⟨rfl,hb1⟩
 go_wp2_with fail
 go_ret
 exact⟨rfl,hb1⟩
def atI(l:List bV)(pid:Int):Int:=idx (qG pid) (pO l)
theorem Ki(v:Value)(l:List bV)(pid:Int)(w:World)(hv:Sl w true 26 v (pO l)):
  Calls Tryz.prog 102 #[v,.int .i64 pid] w fun e w'=>e=.returned (.int .i64 (atI l pid))∧Below w.heap.size w w':=by
 have HV:=Lib.hid hv
 have HF:=Lib.hid (fun W h hB hc=>uz v (pO l) 130 #[.pointer (some ⟨w.heap.size,0,none⟩)] (qG pid) W h (uo aa_ pid l w.heap.size W hB hc none aI (fun x w'=>ac4 x pid w.heap.size w')))
 unfold atI
 clear hv
 go_enter Tryz.func102,Tryz.ntmps102
 go_wp2_with fail
 with_reducible refine(HF.out _ (HV.out.below ?_) ?_ ?_).mono ?_
 focus exact bl
 focus(simp only[World.size_alloc];omega)
 focus exact(aC.new _ _ _).rules.1 0
 rintro e w1 ⟨rfl,hb1⟩
 have hz1:=hb1.size
 simp only[World.size_alloc] at hz1
 have hbw:Below w.heap.size w w1:=aD
 go_wp2_with fail
 go_ret
 exact⟨rfl,hbw⟩
theorem Nv(l:List bV)(pid:Int):(atI l pid=-1∧∀x∈l,x.pid≠pid)∨∃(i:Nat) (x:bV),atI l pid=i∧l[i]?=some x∧x.pid=pid∧∀j y,j<i→l[j]?=some y→y.pid≠pid:=by
 rcases jH (qG pid) (pO l) with⟨h1,h2⟩|⟨i,x,h1,h2,h3,h4⟩
 ·refine .inl ⟨h1,fun x hx=>?_⟩
  have:=h2 _ (List.mem_map_of_mem hx)
  rw[xA] at this
  simpa using this
 ·obtain⟨y,hy,rfl⟩:∃y,l[i]?=some y∧je y=x:=by
   rw[List.getElem?_map] at h2
   cases hl:l[i]? with
   |none=>rw[hl] at h2;cases h2
   |some y=>rw[hl] at h2;exact⟨y,rfl,BI⟩
  rw[xA] at h3
  refine .inr ⟨i,y,h1,hy,by simpa using h3,fun j z hj hz=>?_⟩
  have:=h4 j _ hj (Ef hz)
  rw[xA] at this
  simpa using this
def bD(l:List bV)(pid:Int):bV×Bool:=match l.find? (fun x=>decide (x.pid=pid)) with|some x=>(x,true)|none=>(jl 0,false)
theorem Rs{l:List bV}{pid:Int}(h:∀x∈l,x.pid≠pid):bD l pid=(jl 0,false):=by
 unfold bD
 rw[List.find?_eq_none.2 (by intro x hx;simpa using h x hx)]
theorem Rq{l:List bV}{pid:Int}{i:Nat}{x:bV}(h1:l[i]?=some x)(h2:x.pid=pid)(h3:∀j y,j<i→l[j]?=some y→y.pid≠pid):bD l pid=(x,true):=by
 unfold bD
 have:l.find? (fun x=>decide (x.pid=pid))=some x:=by
  induction l generalizing i with
  |nil=>simp at h1
  |cons y r ih=>
   cases i with
   |zero=>simp at h1;subst h1;simp[h2]
   |succ i=>
    have hy:y.pid≠pid:=h3 0 y ah rfl
    rw[List.find?_cons_of_neg (by simpa using hy)]
    exact ih BJ (fun j z hj hz=>h3 (j+1) z ah (by simpa using hz))
 rw[this]
theorem lN(v:Value)(l:List bV)(pid:Int)(w:World)(hv:Sl w true 26 v (pO l)):
  Calls Tryz.prog 109 #[v,.int .i64 pid] w fun e w'=>e=.returned (.tuple #[je (bD l pid).1,.bool (bD l pid).2])∧Below w.heap.size w w':=by
 have HV:=Lib.hid hv
 have HA:=Lib.hid (fun W h=>Ki v l pid W h)
 obtain⟨a,cap,rfl,hl⟩:=hv.shape
 rw[jh] at hl HV HA⊢
 clear hv
 rcases Nv l pid with⟨hi,hno⟩|⟨i,x,hi,hx,hp,hno⟩
 ·rw[hi] at HA
  rw[Rs hno]
  clear hi hno
  go_enter Tryz.func109,Tryz.ntmps109
  go_wp2_with fail
  have hb0:=fun cs=>aC.new w cs 126
  with_reducible refine(HA.out _ (HV.out.below ?_)).mono ?_
  focus exact bl
  rintro e w1 ⟨rfl,hb1⟩
  have hz1:=hb1.size
  simp only[World.size_alloc] at hz1
  have bx1:=(hb0 _).below hb1 cZ
  have hbw:Below w.heap.size w w1:=aD
  clear hb0 hb1
  have hv0:Val true 26 (.agg (dS (jl 0))):=fq _
  go_wp2_with(first|(refine lH rfl 126 _ _ rfl bx1 (dS (jl 0)) aX hv0 aF bT (by simp[Act.eval,Zj]) ?_;(intro w2 qU hb2 hz2 hg2);(have HB2:=Lib.hid qU);(clear qU))|fail)
  exact bodyPost_ret (v:= .tuple #[je (jl 0),.bool false]) ((mo Tryz.results109 _ rfl aX hv0 HB2.out).trans rfl) rfl ⟨rfl,hbw.trans hb2⟩
 ·rw[hi] at HA
  rw[Rq hx hp hno]
  have hlt:=(List.getElem?_eq_some_iff.1 hx).1
  have HX:=Lib.hid hx
  clear hi hno hx
  go_enter Tryz.func109,Tryz.ntmps109
  go_wp2_with fail
  have hb0:=fun cs=>aC.new w cs 126
  with_reducible refine(HA.out _ (HV.out.below ?_)).mono ?_
  focus exact bl
  rintro e w1 ⟨rfl,hb1⟩
  have hz1:=hb1.size
  simp only[World.size_alloc] at hz1
  have bx1:=(hb0 _).below hb1 cZ
  have hbw:Below w.heap.size w w1:=aD
  clear hb0 hb1
  obtain⟨b,off,rfl,hb,hcells,-,-,-⟩:=Sl.pr (HV.out.below hbw) HX.out
  have hv0:Val true 26 (.agg (dS x)):=fq _
  go_wp2_with(first|(refine aO rfl 126 _ rfl b (off+i*26) bT (je x) aX (fq x) hcells ?_)|(refine lH rfl 126 _ _ rfl bx1 (dS x) aX hv0 aF bg bg ?_;(intro w2 qU hb2 hz2 hg2);(have HB2:=Lib.hid qU);(clear qU))|fail)
  exact bodyPost_ret (v:= .tuple #[je x,.bool true]) ((mo Tryz.results109 _ rfl aX hv0 HB2.out).trans rfl) rfl ⟨rfl,hbw.trans hb2⟩
end Go.Proofs.YtgmodehldmahiaaGreatDoor.Tab
namespace Go.Proofs.YtgmodehldmahiaaGreatDoor.Tab
open Go Go.RowKit Go.Tm
attribute [local go_sem] Oper.semAt_some
def EL(l:List bV)(pid:Int):List bV:=l.filter fun x=>decide (x.par=pid)
theorem CK{α:Type}{l:List α}{i:Nat}{x:α}(h:l[i]?=some x)(q:α→Bool):(l.take (i+1)).filter q=(l.take i).filter q++(if q x=true then[x] else[]):=by
 rw[eH h,List.filter_append]
 by_cases hx:q x=true
 ·simp[hx]
 ·simp[hx]
theorem GN{α:Type}(l:List α)(i:Nat)(q:α→Bool):((l.take i).filter q).length≤i:=by
 refine Nat.le_trans (List.length_filter_le _ _) ?_
 simp;omega
theorem Bg(a:Option Addr)(n cap:Nat)(pid:Int)(w:World):Calls Tryz.prog 210 #[.slice a n cap,.int .i64 pid] w fun e w'=>
  e=.returned (.func (.func 216) #[] #[.pointer (some ⟨w.heap.size,0,none⟩),.pointer (some ⟨w.heap.size+1,0,none⟩)])∧w'=(w.alloc (.cells #[.slice a n cap] 43)).alloc (.cells #[.int .i64 pid] 3):=by
 go_enter Tryz.func210,Tryz.ntmps210
 go_wp2_with fail
 go_ret
 exact⟨rfl,rfl⟩
def But(B N:Nat)(X Y:World):Prop:=Below B X Y∧∀b,B<b→b<N→Y.heap[b]?=X.heap[b]?
theorem But.trans{B N:Nat}{X Y Z:World}(h:But B N X Y)(k:But B N Y Z):But B N X Z:=⟨h.1.trans k.1,fun b h1 h2=>(k.2 b h1 h2).trans (h.2 b h1 h2)⟩
theorem But.of{B N:Nat}{X Y:World}(h:Below N X Y)(hB:B≤N):But B N X Y:=⟨h.mono hB,fun b _ h2=>h.block b h2⟩
theorem But.set{B N:Nat}(X:World)(o:Nat)(v:Value):But B N X (X.setCell ⟨B,o,none⟩ v):=⟨(Below.refl B X).setCell (p:=⟨B,o,none⟩) (Nat.le_refl _) _,fun b h1 _=>heap_setCell_other _ _ _ _ (by show¬b=B;omega)⟩
theorem But.sl{B N:Nat}{X Y:World}(h:But B N X Y){v:Value}{xs:List Value}{w:World}(hs:Sl w true 26 v xs)(hB:w.heap.size≤B)(hX:Below w.heap.size w X):Sl Y true 26 v xs:=hs.below (hX.trans (h.1.mono hB))
theorem But.box{B N:Nat}{X Y:World}(h:But B N X Y){b:Nat}{cs:Array Value}{t:TypeId}(hb:aC X b cs t)(h1:B<b)(h2:b<N):aC Y b cs t:=(h.2 b h1 h2).trans hb
set_option maxRecDepth 100000 in
set_option maxHeartbeats 4000000 in
theorem xg(n B1 B2:Nat)(v:Value)(pid:Int)(l:List bV)(w:World)(KK:World→World→Prop)(hn:1≤n)(hR:KK w w)(hv:∀W,KK w W→Sl W true 26 v (pO l))
  (h1:∀W,KK w W→aC W B1 #[v] 43)(h2:∀W,KK w W→aC W B2 #[.int .i64 pid] 3)(hT:∀{A B C:World},KK A B→KK B C→KK A C)(hA:∀W W',KK w W→Below W.heap.size W W'→KK W W'):
  SeqStopsK Fence.wide n Tryz.prog 216 #[.pointer (some ⟨B1,0,none⟩),.pointer (some ⟨B2,0,none⟩)] (fun x:bV=>#[je x]) KK (fun ys=>ys=EL l pid) (fun ys=>ys<+:EL l pid) l.length w:=by
 unfold EL
 intro l' J Jx W hW0 hJ hJx hY h0
 have hW:=hA _ _ hR hW0
 have HV:=Lib.hid hv
 have HB1:=Lib.hid h1
 have HB2:=Lib.hid h2
 have HJ:=Lib.hid hJ
 have HY:=Lib.hid hY
 obtain⟨a,cap,rfl,hl⟩:=(hv W hW).shape
 rw[jh] at hl HV HB1
 clear hv hJ hY
 have hx1:aC W B1 #[.slice a l.length cap] 43:=HB1.out W hW
 obtain⟨c1,f1,l1,n1,m1⟩:=hx1.rules
 clear h1 h2 hx1
 ((refine callsIn_of_wp Tryz.func216 rfl trivial ?_ rfl);(simp only[Tryz.ntmps216,List.size_toArray,List.length_cons,List.length_nil,Nat.reduceAdd,Nat.reduceSub,Array.replicate_succ,Array.replicate_zero,List.push_toArray,List.append_toArray,List.nil_append,List.cons_append]))
 gi_wp2
 gi_loopw [8] (fun t wr=>∃k:Nat,k≤l.length∧t=.int .i64 k∧KK w wr∧J ((l.take k).filter fun x=>decide (x.par=pid)) wr) (fun t _=>l.length-(intOf t).toNat)
 case atStart=>exact⟨0,Nat.zero_le _,rfl,hW,h0⟩
 case round=>
  obtain⟨k,hk,rfl,hbw,hJs⟩:=hrel
  have Xf:=Lib.hid hJs
  clear hJs
  by_cases hlt:k<l.length
  ·obtain⟨x,hx⟩:∃x,l[k]?=some x:=⟨_,List.getElem?_eq_getElem hlt⟩
   obtain⟨b,off,rfl,hb,hcells,-,-,-⟩:=Sl.pr (HV.out wr hbw) hx
   have hx2:aC wr B2 #[.int .i64 pid] 3:=HB2.out wr hbw
   obtain⟨c2,f2,l2,n2,m2⟩:=hx2.rules
   clear hx2
   have hstep:=CK hx (fun x=>decide (x.par=pid))
   have hfl:=GN l k (fun x=>decide (x.par=pid))
   have hwr:IntKind.i64.wrap ((k:Int)+1)=k+1:=IntWalk.i64_in _ ah
   have q1:=LM x
   have nu:=Lib.hid hcells
   have HVX:=Lib.hid (fq x)
   have hbx:Below wr.heap.size wr (wr.alloc (.cells (dS x) 126)):=(Below.refl _ _).alloc (Nat.le_refl _) _
   clear hcells
   by_cases hq:x.par=pid
   ·rw[if_pos BK] at hstep
    have zK:(x.par==pid)=true:=BK
    have HST:=Lib.hid hstep
    clear hstep hx hq
    have hJ1:J ((l.take k).filter fun x=>decide (x.par=pid)) (wr.alloc (.cells (dS x) 126)):=HJ.out _ wr _ none Xf.out (ay hbx none) (fun r e=>by cases e)
    obtain⟨fn,tmps,assign,body,hy,hR⟩:=HY.out _ x _ hJ1 ah
    have HR:=Lib.hid hR
    clear hR hJ1
    gi_wp2_with (first|(refine nJ rfl 126 _ rfl b (off+k*26) (dS x) aX HVX.out nu.out bT ?_)|(refine jA rfl 126 _ _ rfl (dS x) aX HVX.out aF bg bg ?_)|(refine Cz aF (zI rfl 126 _ rfl (dS x) aX HVX.out (aC.new wr _ _) bg ?_))|fail)
    refine HR.out.mono ?_
    rintro e w3 (⟨rfl,hJ3,hk3⟩|⟨rfl,hJx3⟩)
    ·gi_wp2
     go_roundw
     case rel=>exact⟨k+1,ah,bI,hT (hT hbw (hA _ _ hbw hbx)) hk3,by rw[HST.out];exact hJ3⟩
     case measure=>simp[intOf];omega
    ·gi_wp2
     refine bodyPost_ret (results_none rfl _ _ _) rfl ?_
     exact⟨⟨_,rfl⟩,.inr ⟨_,by rw[←HST.out];exact(List.take_prefix _ _).filter _,hJx3⟩⟩
   ·rw[if_neg BK,List.append_nil] at hstep
    have zK:(x.par==pid)=false:=BK
    have HST:=Lib.hid hstep
    clear hstep hx hq
    gi_wp2_with (first|(refine nJ rfl 126 _ rfl b (off+k*26) (dS x) aX HVX.out nu.out bT ?_)|(refine jA rfl 126 _ _ rfl (dS x) aX HVX.out aF bg bg ?_)|fail)
    refine⟨fun _ h=>(by cases h),?_⟩
    gi_wp2
    go_roundw
    case rel=>exact⟨k+1,ah,bI,hT hbw (hA _ _ hbw hbx),by rw[HST.out];exact HJ.out _ wr _ none Xf.out (ay hbx none) (fun r e=>by cases e)⟩
    case measure=>simp[intOf];omega
  ·obtain rfl:k=l.length:=by omega
   gi_wp2
   go_end0
   exact⟨⟨_,rfl⟩,.inl ⟨_,rfl,by rw[List.take_length] at Xf;exact Xf.out⟩⟩
end Go.Proofs.YtgmodehldmahiaaGreatDoor.Tab
namespace Go.Proofs.YtgmodehldmahiaaGreatDoor.Tab
open Go Go.RowKit Go.Tm
attribute [local go_sem] Oper.semAt_some
theorem fI{β:Type}(B:Nat)(t:TypeId)(f:β→Array Value):Own (fun s W=>aC W B (f s) t):=fun s X Y row hs hg hrow=>
 hs.grown hg (fun e'=>XW)
theorem p9:(Tryz.prog.info? 3).map (fun i=>(i.zero,i.size,i.bytes))=some (some (.int .i64 0),1,8):=by kernel_rfl
abbrev afo(l:List bV)(pid:Int):List Int:=(EL l pid).map (·.pid)
theorem V7(l:List Int):flat (ints l)=ints l:=by
 induction l with
 |nil=>rfl
 |cons x r ih=>rw[ints,List.map_cons,lY,ih];rfl
theorem But.appended{B N:Nat}{W w1:World}{tmp:Obj}{v:Value}(hgrow:(W.alloc tmp).grownBy w1 v.ownBlock)(hG:∀b,v.ownBlock=some b→N≤b)(hN:N≤W.heap.size)(v':Value):
  ∀b,B<b→b<N→(w1.setCell ⟨B,0,none⟩ v').heap[b]?=W.heap[b]?:=fun b h1 h2=>by
 rw[heap_setCell_other _ _ _ _ (by show¬b=B;omega),hgrow.block b aR (fun e=>by have:=hG b e.symm;omega)]
 exact heap_alloc_old _ _ ah
theorem Ww(w:World)(cs:Array Value)(t:TypeId):∀j u,cs.toList[j]?=some u→(w.alloc (.cells cs t)).cell? ((⟨w.heap.size,0,none⟩:Addr).add j)=some u:=by
 intro j u hj
 rw[Array.getElem?_toList] at hj
 have h:=(aC.new w cs t).rules.1 j
 rw[hj] at h
 by_cases h0:j=0
 ·subst h0;exact h
 ·simpa[Addr.add,h0] using h
set_option maxRecDepth 100000 in
set_option maxHeartbeats 4000000 in
theorem Lf(v:Value)(l:List bV)(pid:Int)(w:World)(hv:Sl w true 26 v (pO l))(hby:l.length*168≤140737488355328):
  Calls Tryz.prog 197 #[v,.int .i64 pid] w fun e w'=>∃v',e=.returned v'∧bB w' w.heap.size 3 false 1 v' (ints (afo l pid))∧Below w.heap.size w w':=by
 have HV:=Lib.hid hv
 obtain⟨i0,hi,hz0,hz1,hz2⟩:=info_parts p9
 obtain⟨a,cap,rfl,hl⟩:=hv.shape
 rw[jh] at hl HV
 clear hv
 refine(callsIn_wide (n:=3)).1 ?_
 ((refine callsIn_of_wp_marks Tryz.func197 rfl trivial ?_ rfl);(simp only[Tryz.ntmps197,List.size_toArray,List.length_cons,List.length_nil,Nat.reduceAdd,Nat.reduceSub,Array.replicate_succ,Array.replicate_zero,List.push_toArray,List.append_toArray,List.nil_append,List.cons_append]))
 gi_wp2
 refine⟨trivial,callsIn_wide.2 ((Bg _ _ _ _ _).mono ?_)⟩
 rintro e w2 ⟨rfl,hw2⟩
 have hx0:Below w.heap.size w (w.alloc (.cells #[.slice none 0 0] 44)):=(Below.refl _ _).alloc (Nat.le_refl _) _
 have hq0:aC (w.alloc (.cells #[.slice none 0 0] 44)) w.heap.size #[.slice none 0 0] 44:=aC.new _ _ _
 have hz0':(w.alloc (.cells #[.slice none 0 0] 44)).heap.size=w.heap.size+1:=aI
 generalize hW1:w.alloc (.cells #[.slice none 0 0] 44)=w1 at*
 clear hW1
 have hb2:Below w1.heap.size w1 w2:=EW
 have hs1:aC w2 w1.heap.size #[.slice a l.length cap] 43:=J8
 have hs2:aC w2 (w1.heap.size+1) #[.int .i64 pid] 3:=Fh
 have hB0:Below w.heap.size w w2:=hx0.trans (hb2.mono hx0.size)
 have hq2:=hq0.below hb2 hq0.lt
 have hbody:Body Tryz.prog 216:=eZ Tryz.func216 aj aj
 unfold Body at hbody
 clear hw2 hq0
 rw[hz0'] at hs1 hs2
 have hzx:=hB0.size
 gi_wp2
 clear hz0'
 have HB:=But.of (B:=w.heap.size) (Below.refl w2.heap.size w2) hzx
 have hlb:But w.heap.size w2.heap.size w2 w2:=⟨Below.refl _ _,fun _ _ _=>rfl⟩
 refine wpIn_rangeFunc_ownH rfl ah (gf:=216) (lb:=#[.pointer (some ⟨w.heap.size+1,0,none⟩),.pointer (some ⟨w.heap.size+1+1,0,none⟩)]) rfl trivial hbody
  (xg 2 _ _ _ pid l w2 (But w.heap.size w2.heap.size) ah hlb (fun W h=>h.sl HV.out (Nat.le_refl _) hB0) (fun W h=>h.box hs1 ah hs1.lt) (fun W h=>h.box hs2 ah hs2.lt) But.trans (fun W W' h hb=>But.of (hb.mono h.1.size) hzx))
  But.trans (fun W l' o o' h1 h2 h3 h4=>But.of (belowK_b (w:=w2) (Nat.le_refl _) W l' o o' h1 h2 h3 h4) hzx) (Below.refl _ _) (fun _=>rfl)
  (fun pre W=>(∃v,Boxed W w.heap.size 44 v∧W.ownsRow w.heap.size 3 1 v pre.length (ints (pre.map (·.pid)))∧∀b,v.ownBlock=some b→w2.heap.size≤b)∧Below w.heap.size w W∧w2.heap.size≤W.heap.size) (fun _ _ _=>False)
  (OwnFrom.and (Own.from (holdsRow_own w.heap.size w.heap.size 44 3 1 (fun pre:List bV=>pre.length) (fun pre=>ints (pre.map (·.pid))) (fun _ v=>∀b,v.ownBlock=some b→w2.heap.size≤b)) _) (OwnFrom.and (ownFrom_below (Nat.le_refl _) hzx) (fun _ X Y row hs hg _=>Nat.le_trans hs hg.size)))
  (fun _ _ _ _ _ hs _ _=>hs)
  ⟨⟨_,hq2,World.ownsRow_nil _ _ _ _,by intro b hb;cases hb⟩,hB0,Nat.le_refl _⟩
  (fun x a' W=>∃Bx,aC W Bx (dS x) 126∧
   a'={tmps:=#[.slice a l.length cap,.int .i64 pid,undef,undef,.slice none 0 0,.pointer (some ⟨w.heap.size,0,none⟩),.pointer (some ⟨Bx,0,none⟩),.slice a l.length cap,.int .i64 pid,.func (.func 216) #[] #[.pointer (some ⟨w.heap.size+1,0,none⟩),.pointer (some ⟨w.heap.size+1+1,0,none⟩)],je x,undef,undef,undef,undef,undef,undef],defers:=[]})
  (fun x a' _ X Y row hs hg hr=>by
   obtain⟨Bx,hb,rfl⟩:=hs
   exact⟨Bx,Own.from (fI (β:=Unit) Bx 126 (fun _=>dS x)) _ () X Y row hb hg hr,rfl⟩) ?assign ?body ?done ?stop
 case assign=>
  rintro l' pre x W K ⟨⟨v,hv,hr,hG⟩,hB,hN⟩ hK
  gi_wp2_with (first|(refine jA rfl 126 _ _ rfl (dS x) aX (fq x) aF bg bg ?_)|fail)
  exact hK _ _ ((KeepsOthers.alloc _ _).from _) (But.of ((Below.refl _ W).alloc hN _) hzx) ⟨⟨v,hv.alloc _,hr.alloc _,hG⟩,hB.alloc hB.size _,Nat.le_trans hN aI⟩ ⟨W.heap.size,aC.new W _ _,rfl⟩
 case body=>
  rintro l' pre x a' W hl' ⟨r,hr⟩ ⟨⟨v,hv,hrow,hG⟩,hB,hN⟩ ⟨Bx,hb,rfl⟩ hlt
  have hc:=hv.cell
  obtain⟨c1,f1,l1,n1,m1⟩:=hb.rules
  have hsz:=hB.size
  have q0:=uK x
  gi_wp2_with (gi_at_builtin;refine wpListIn_append_own_at _ rfl _ _ 44 rfl w.heap.size 3 i0 (.int .i64 0) 1 8 Tryz.underlying44 hi hz0 hz1 hz2 rfl aB _ _ _ rfl (hrow.alloc _) ⟨W.heap.size,0,none⟩ 1 1 [.int .i64 x.pid] rfl rfl (Ww _ _ _) (by simp[Value.oneCell']) JU ah aR ?_;intro v' w1 hown' hgrow _ hat;obtain⟨g',cap',rfl⟩:=ownsRow_succ hown';obtain⟨hv1,hv2,hr2,hk2,hb2⟩:=hv.appended aB hrow hB.size (Nat.le_refl _) hown' hgrow;have hc1:=hv1.cell;have hf1:=hv1.frozen)
  have afW:=But.appended (B:=w.heap.size) (v:=v) hgrow hG hN (.slice (some ⟨g',0,none⟩) (pre.length+1) cap')
  refine⟨hk2.from _,⟨hb2,afW⟩,⟨_,hv2,by have h:=hr2;unfold ints at h⊢;rw[List.length_append,List.map_append,List.map_append];exact h,?_⟩,hB.trans hb2,Nat.le_trans hN hb2.size⟩
  intro b hb
  rcases hat with h|h
  ·exact hG b (h▸hb)
  ·rw[h] at hb;cases hb;simp;omega
 case done=>
  rintro D ys W hD rfl ⟨⟨v,hv,hrow,-⟩,hB,hN⟩ hK
  have hc:=hv.cell
  gi_wp2
  refine⟨aI,.inl ⟨_,_,rfl,run_takeDeferred hK,?_⟩⟩
  refine⟨_,results_tmp rfl _ _ _,v,rfl,⟨by rw[gT];rw[V7,List.length_map];exact ownsRow_putObj hrow _ hK rfl,?_⟩,hB.trans (belowK_b (w:=w) (Nat.le_refl _) W D _ _ ah hK rfl rfl)⟩
  exact M8 _
 case stop=>
  rintro D c pre W _ _ h _
  exact h.elim
def Dn(x:bV):Bool:=decide (x.st=4)
def wD(l:List bV)(pid:Int):Int×Bool:=match(EL l pid).find? Dn with|some x=>(x.pid,true)|none=>(0,false)
def nO(q:bV→Bool)(pre:List bV):Prop:=∀x∈pre,q x=false
theorem Rw{l:List bV}{pid:Int}(h:(EL l pid).find? Dn=none):wD l pid=(0,false):=by unfold wD;rw[h]
theorem Rv{l:List bV}{pid:Int}{x:bV}(h:(EL l pid).find? Dn=some x):wD l pid=(x.pid,true):=by unfold wD;rw[h]
theorem nO.snoc{q:bV→Bool}{pre:List bV}{x:bV}(h:nO q pre)(hx:q x=false):nO q (pre++[x]):=Y5
theorem nO.none{q:bV→Bool}{za:List bV}(h:nO q za):za.find? q=none:=by
 rw[List.find?_eq_none];intro x hx;rw[h x hx];simp
theorem nO.some{q:bV→Bool}{ys:List bV}{x:bV}{za:List bV}(h:nO q ys)(hx:q x=true)(hp:ys++[x]<+:za):za.find? q=some x:=by
 obtain⟨r,rfl⟩:=hp
 rw[List.append_assoc,List.find?_append,h.none]
 simp[hx]
def Mx(B1 B2:Nat)(w:World)(pre:List bV)(W:World):Prop:=
 ∃(x:bV) (ys:List bV),pre=ys++[x]∧nO Dn ys∧Dn x=true∧(aC W B1 #[.int .i64 x.pid] 3∧aC W B2 #[.bool true] 4)∧Below w.heap.size w W
theorem Cm{B1 B2:Nat}{w:World}{B:Nat}(hB:w.heap.size≤B):OwnFrom B (Mx B1 B2 w):=by
 intro pre X Y row hs hg hr
 obtain⟨x,ys,h1,h2,h3,⟨h4,h5⟩,h6⟩:=hs
 exact⟨x,ys,h1,h2,h3,⟨Own.from (fI (β:=Unit) _ 3 (fun _=>#[.int .i64 x.pid])) _ () X Y row h4 hg hr,Own.from (fI (β:=Unit) _ 4 (fun _=>#[.bool true])) _ () X Y row h5 hg hr⟩,ownFrom_below (β:=Unit) (Nat.le_refl _) hB () X Y row h6 hg hr⟩
set_option maxRecDepth 100000 in
set_option maxHeartbeats 8000000 in
theorem aaY(v:Value)(l:List bV)(pid:Int)(w:World)(hv:Sl w true 26 v (pO l)):
  Calls Tryz.prog 196 #[v,.int .i64 pid] w fun e w'=>e=.returned (.tuple #[.int .i64 (wD l pid).1,.bool (wD l pid).2])∧Below w.heap.size w w':=by
 have HV:=Lib.hid hv
 obtain⟨a,cap,rfl,hl⟩:=hv.shape
 rw[jh] at hl HV
 clear hv
 refine(callsIn_wide (n:=3)).1 ?_
 ((refine callsIn_of_wp_marks Tryz.func196 rfl trivial ?_ rfl);(simp only[Tryz.ntmps196,List.size_toArray,List.length_cons,List.length_nil,Nat.reduceAdd,Nat.reduceSub,Array.replicate_succ,Array.replicate_zero,List.push_toArray,List.append_toArray,List.nil_append,List.cons_append]))
 gi_wp2
 refine⟨trivial,callsIn_wide.2 ((Bg _ _ _ _ _).mono ?_)⟩
 rintro e w2 ⟨rfl,hw2⟩
 have hx0:Below w.heap.size w ((w.alloc (.cells #[.int .i64 0] 3)).alloc (.cells #[.bool false] 4)):=((Below.refl _ _).alloc (Nat.le_refl _) _).alloc aI _
 have hq0:aC ((w.alloc (.cells #[.int .i64 0] 3)).alloc (.cells #[.bool false] 4)) w.heap.size #[.int .i64 0] 3:=(aC.new _ _ _).alloc _
 have hq1:aC ((w.alloc (.cells #[.int .i64 0] 3)).alloc (.cells #[.bool false] 4)) (w.heap.size+1) #[.bool false] 4:=aC.new1 _ _ _ aI
 have hz0':((w.alloc (.cells #[.int .i64 0] 3)).alloc (.cells #[.bool false] 4)).heap.size=w.heap.size+1+1:=aI
 generalize hW1:(w.alloc (.cells #[.int .i64 0] 3)).alloc (.cells #[.bool false] 4)=w1 at*
 clear hW1
 have hb2:Below w1.heap.size w1 w2:=EW
 have hs1:aC w2 w1.heap.size #[.slice a l.length cap] 43:=J8
 have hs2:aC w2 (w1.heap.size+1) #[.int .i64 pid] 3:=Fh
 have hx3:Below w.heap.size w w2:=hx0.trans (hb2.mono hx0.size)
 have hr1':=hq0.below hb2 hq0.lt
 have hr2':=hq1.below hb2 hq1.lt
 have hbody:Body Tryz.prog 216:=eZ Tryz.func216 aj aj
 unfold Body at hbody
 clear hw2 hq0 hq1
 rw[hz0'] at hs1 hs2
 have hzx:=hx3.size
 gi_wp2
 clear hz0'
 refine wpIn_rangeFunc_ownH rfl ah (gf:=216) (lb:=#[.pointer (some ⟨w.heap.size+1+1,0,none⟩),.pointer (some ⟨w.heap.size+1+1+1,0,none⟩)]) rfl trivial hbody
  (xg 2 _ _ _ pid l w2 (Below w2.heap.size) ah (Below.refl _ _) (fun W h=>HV.out.below (hx3.trans (h.mono hzx))) (fun W h=>hs1.below h hs1.lt) (fun W h=>hs2.below h hs2.lt) belowK_t (fun W W' h hb=>hb.mono h.size)) belowK_t (belowK_b (Nat.le_refl _)) (Below.refl _ _) (fun _=>rfl)
  (fun pre W=>nO Dn pre∧Below w2.heap.size w2 W)
  (fun c pre W=>c=.ret∧Mx (w.heap.size) (w.heap.size+1) w pre W)
  (OwnFrom.and (ownFrom_pure _ _) (ownFrom_below (Nat.le_refl _) (Nat.le_refl _)))
  (fun c=>OwnFrom.and (ownFrom_pure _ (fun _=>c=.ret)) (Cm hx3.size))
  ⟨JV,Below.refl _ _⟩
  (fun x a' W=>∃Bx,aC W Bx (dS x) 126∧
   a'={tmps:=#[.slice a l.length cap,.int .i64 pid,undef,undef,.pointer (some ⟨w.heap.size,0,none⟩),.pointer (some ⟨w.heap.size+1,0,none⟩),.pointer (some ⟨Bx,0,none⟩),.slice a l.length cap,.int .i64 pid,.func (.func 216) #[] #[.pointer (some ⟨w.heap.size+1+1,0,none⟩),.pointer (some ⟨w.heap.size+1+1+1,0,none⟩)],je x,undef,undef,undef,undef,undef],defers:=[]})
  (fun x a' _ X Y row hs hg hr=>by
   obtain⟨Bx,hb,rfl⟩:=hs
   exact⟨Bx,Own.from (fI (β:=Unit) Bx 126 (fun _=>dS x)) _ () X Y row hb hg hr,rfl⟩) ?assign ?body ?done ?stop
 case assign=>
  rintro l' pre x W K ⟨hno,hB⟩ hK
  gi_wp2_with (first|(refine jA rfl 126 _ _ rfl (dS x) aX (fq x) aF bg bg ?_)|fail)
  exact Yd
 case body=>
  rintro l' pre x a' W hl' ⟨r,hr⟩ ⟨hno,hB⟩ ⟨Bx,hb,rfl⟩ hlt
  have Bv:=hr1'.below hB hr1'.lt
  have vY:=hr2'.below hB hr2'.lt
  obtain⟨c2,f2,l2,n2,m2⟩:=hb.rules
  obtain⟨c3,f3,l3,n3,m3⟩:=Bv.rules
  obtain⟨c4,f4,l4,n4,m4⟩:=vY.rules
  have hxB:Below w.heap.size w W:=hx3.trans (hB.mono hx3.size)
  have q0:=uK x
  have q2:=Ht x
  have LJ:=Lib.hid hno
  have yF:=Bv.set 0 (.int .i64 x.pid)
  have SC:=vY.other ⟨w.heap.size,0,none⟩ (.int .i64 x.pid) YO
  clear hno
  by_cases g1:x.st=4
  ·have g1b:(x.st==4)=true:=by simpa using g1
   gi_wp2
   refine⟨((KeepsOthers.setCell _ _ _).from _).trans ((KeepsOthers.setCell _ _ _).from _),rfl,x,pre,rfl,LJ.out,by unfold Dn;simpa using g1,⟨?_,?_⟩,?_⟩
   ·exact yF.other ⟨w.heap.size+1,0,none⟩ _ YN
   ·exact SC.set 0 (.bool true)
   ·exact aej
  ·have g1b:(x.st==4)=false:=by simpa using g1
   gi_wp2
   exact⟨KeepsFrom.refl _ _,Below.refl _ _,LJ.out.snoc (by unfold Dn;simpa using g1),hB⟩
 case done=>
  rintro D ys W hD rfl ⟨hno,hB⟩ hK
  have Bv:=hr1'.below hB hr1'.lt
  have vY:=hr2'.below hB hr2'.lt
  obtain⟨c3,f3,l3,n3,m3⟩:=Bv.rules
  obtain⟨c4,f4,l4,n4,m4⟩:=vY.rules
  have hxB:Below w.heap.size w W:=hx3.trans (hB.mono hx3.size)
  have HAT:=Lib.hid hno.none
  have yF:=(Bv.set 0 (.int .i64 0)).other ⟨w.heap.size+1,0,none⟩ (.bool false) YN
  have Mr:=(vY.other ⟨w.heap.size,0,none⟩ (.int .i64 0) YO).set 0 (.bool false)
  have hlt2:=hr2'.lt
  have xZ:((W.setCell ⟨w.heap.size,0,none⟩ (.int .i64 0)).setCell ⟨w.heap.size+1,0,none⟩ (.bool false)).heap[D]?=some (.deferred (some [])):=by
   rw[heap_setCell_other _ _ _ _ (by show¬D=w.heap.size+1;omega),heap_setCell_other _ _ _ _ JY];exact hK
  clear hno
  gi_wp2
  rw[Rw HAT.out]
  refine⟨aI,.inl ⟨_,_,rfl,run_takeDeferred xZ,?_⟩⟩
  have b1:=((Own.from (fI (β:=Unit) _ 3 (fun _=>_)) w2.heap.size).putObj (s:=()) (Obj.deferred none) yF hD xZ rfl).rules.1 0
  have b2:=((Own.from (fI (β:=Unit) _ 4 (fun _=>_)) w2.heap.size).putObj (s:=()) (Obj.deferred none) Mr hD xZ rfl).rules.1 0
  refine⟨.tuple #[.int .i64 0,.bool false],YU,rfl,?_⟩
  refine Below.trans ?_ (belowK_b (w:=w2) hx3.size _ D _ _ hD xZ rfl rfl)
  exact aej
 case stop=>
  rintro D c pre W hD hpre ⟨rfl,x,ys,rfl,h2,h3,⟨h4,h5⟩,h6⟩ hK
  have hat:=h2.some h3 hpre
  gi_wp2
  rw[Rv hat]
  refine⟨aI,.inl ⟨_,_,rfl,run_takeDeferred hK,?_⟩⟩
  have b1:=((Own.from (fI (β:=Unit) _ 3 (fun _=>_)) w2.heap.size).putObj (s:=()) (Obj.deferred none) h4 hD hK rfl).rules.1 0
  have b2:=((Own.from (fI (β:=Unit) _ 4 (fun _=>_)) w2.heap.size).putObj (s:=()) (Obj.deferred none) h5 hD hK rfl).rules.1 0
  refine⟨.tuple #[.int .i64 x.pid,.bool true],YU,rfl,?_⟩
  exact X6
end Go.Proofs.YtgmodehldmahiaaGreatDoor.Tab
namespace Go.Proofs.YtgmodehldmahiaaGreatDoor.Tab
open Go Go.RowKit Go.Tm
def lW(l:List bV)(p:bV):List bV:=
 match l.findIdx? (fun x=>decide (x.pid=p.pid)) with
 |some i=>l.set i p
 |none=>l.takeWhile (fun x=>!decide (p.pid<x.pid))++p::l.dropWhile (fun x=>!decide (p.pid<x.pid))
theorem Jc{l:List bV}{p:bV}(h:∀x∈l,x.pid≠p.pid):lW l p=l.takeWhile (fun x=>!decide (p.pid<x.pid))++p::l.dropWhile (fun x=>!decide (p.pid<x.pid)):=by
 unfold lW
 rw[List.findIdx?_eq_none_iff.2 (by intro x hx;simpa using h x hx)]
theorem Vl{l:List bV}{p x:bV}{i:Nat}(h1:l[i]?=some x)(h2:x.pid=p.pid)(h3:∀j y,j<i→l[j]?=some y→y.pid≠p.pid):lW l p=l.set i p:=by
 unfold lW
 have hlt:=(List.getElem?_eq_some_iff.1 h1).1
 have e:l.findIdx? (fun x=>decide (x.pid=p.pid))=some i:=by
  rw[List.findIdx?_eq_some_iff_getElem]
  refine⟨hlt,?_,?_⟩
  ·rw[List.getElem?_eq_getElem hlt] at h1
   rw[Option.some.inj h1];simpa using h2
  ·intro j hj
   have:=h3 j l[j] hj (List.getElem?_eq_getElem ah)
   simpa using this
 rw[e]
theorem Kw(l:List bV)(i:Nat)(p:bV):(pO l).set i (je p)=pO (l.set i p):=by simp[pO,List.map_set]
theorem acg(l:List bV)(p:bV):(pO l).take (l.takeWhile (fun x=>!decide (p.pid<x.pid))).length++je p::(pO l).drop (l.takeWhile (fun x=>!decide (p.pid<x.pid))).length=pO (l.takeWhile (fun x=>!decide (p.pid<x.pid))++p::l.dropWhile (fun x=>!decide (p.pid<x.pid))):=by
 rw[pO,pO,←List.map_take,←List.map_drop,SS,abS,List.map_append,List.map_cons]
theorem S9(v:Value)(l:List bV)(p:bV)(w:World)(hv:Sl w true 26 v (pO l))(hby:(l.length+1)*168≤140737488355328):
  Calls Tryz.prog 88 #[v,je p] w fun e w'=>∃v',e=.returned v'∧Sl w' true 26 v' (pO (lW l p))∧Below w.heap.size w w':=by
 have HV:=Lib.hid hv
 have OG:=Lib.hid (fun W h=>zD v (pO l) W h (by rw[jh];omega))
 have HA:=Lib.hid (fun u W h=>Ki u l p.pid W h)
 have HF:=Lib.hid (fun u W hs hB hc=>uz u (pO l) 104 #[.pointer (some ⟨w.heap.size,0,none⟩)] (gtP p.pid) W hs (uo Vn p.pid l w.heap.size W hB hc none aI (fun x w'=>aao x p.pid w.heap.size w')))
 obtain⟨i0,hi0,hq0,hq1,hq2⟩:=info_parts xJ
 have HI:=Lib.hid (And.intro hi0 (And.intro hq0 (And.intro hq1 hq2)))
 clear hi0 hq0 hq1 hq2
 obtain⟨a,cap,rfl,hl⟩:=hv.shape
 rw[jh] at hl HV OG⊢
 have q0:=uK p
 have HVP:=Lib.hid (fq p)
 clear hv
 rcases Nv l p.pid with⟨hi,hno⟩|⟨i,x,hi,hx,hp,hno⟩
 ·rw[hi] at HA
  have HP:=Lib.hid (Jc hno)
  have G_:=Lib.hid (acg l p)
  have hidx:=ag1 je (gtP p.pid) (fun x:bV=>decide (p.pid<x.pid)) (Zt p.pid) l
  have hil:=aeS (fun x:bV=>!decide (p.pid<x.pid)) l
  clear hi hno
  generalize(l.takeWhile (fun x:bV=>!decide (p.pid<x.pid))).length=i at*
  have HVL:=Lib.hid (fun u W h=>HF.out u W h)
  rcases hidx with⟨hi1,hi2⟩|⟨hi1,hi2⟩
  ·rw[hi1] at HF
   subst hi2
   clear hi1 HVL
   go_enter Tryz.func88,Tryz.ntmps88
   go_wp2_with fail
   have hb0:=aC.new w (dS p) 126
   with_reducible refine(OG.out _ (HV.out.below ?_)).mono ?_
   focus exact bl
   rintro e w1 ⟨v1,rfl,ho1,hb1⟩
   have hz1:=hb1.size
   simp only[World.size_alloc] at hz1 ho1
   (have b1:aC w1 w.heap.size (dS p) 126:=Qc);(obtain⟨hc1,hf1,hl1,hn1,hm1⟩:=b1.rules);(have K1:=Lib.hid b1);(clear b1)
   have hbw:Below w.heap.size w w1:=aD
   have LH:=Lib.hid ho1
   clear hb0 hb1 ho1
   go_wp2_with fail
   with_reducible refine(HA.out _ _ LH.out.sl).mono ?_
   rintro e w2 ⟨rfl,hb2⟩
   have hz2:=hb2.size
   (have b2:aC w2 w.heap.size (dS p) 126:=JZ);(obtain⟨hc2,hf2,hl2,hn2,hm2⟩:=b2.rules);(have K2:=Lib.hid b2);(clear b2)
   have lV:=Lib.hid (LH.out.kept hb2)
   have hbw2:Below w.heap.size w w2:=hbw.trans (hb2.mono hbw.size)
   clear hb2 hbw LH K1 hc1 hf1 hl1 hn1 hm1
   go_wp2_with fail
   with_reducible refine(HF.out _ _ lV.out.sl ah ((hc2 0).trans q0)).mono ?_
   rintro e w3 ⟨rfl,hb3⟩
   have hz3:=hb3.size
   (have b3:aC w3 w.heap.size (dS p) 126:=PS);(obtain⟨hc3,hf3,hl3,sU,ng⟩:=b3.rules);(have K3:=Lib.hid b3);(clear b3)
   have r_:=Lib.hid (lV.out.kept hb3)
   have fJ:Below w.heap.size w w3:=hbw2.trans (hb3.mono hbw2.size)
   clear hb3 hbw2 lV K2 hc2 hf2 hl2 hn2 hm2
   go_wp2_with(first|(refine aJ rfl 126 _ rfl (dS p) aX HVP.out K3.out bg ?_)|((with_reducible refine SF 43 ?_);(refine uD rfl 43 _ rfl aX aB i0 (.agg #[.int .i64 0,.int .i64 0,.int .i64 0,.int .u32 0,.int .u32 0,.int .u32 0,.int .u32 0,.int .u32 0,.int .u32 0,.int .u32 0,.int .u32 0,.int .u32 0,.string ⟨#[]⟩,.int .i64 0,.int .i64 0,.bool false,.int .i64 0,.bool false,.int .i64 0,.bool false,.int .i64 0,.bool false,.int .u32 0,.int .u32 0,.int .u32 0,.int .u32 0]) Tryz.underlying43 HI.out.1 HI.out.2.1 HI.out.2.2.1 (je p) ?_ (HVP.out) ?_;(exact aG)))|(refine eO (v:=v1) (xs:=pO l) (base:=w.heap.size+1) rfl _ _ 43 rfl aX i0 (.agg #[.int .i64 0,.int .i64 0,.int .i64 0,.int .u32 0,.int .u32 0,.int .u32 0,.int .u32 0,.int .u32 0,.int .u32 0,.int .u32 0,.int .u32 0,.int .u32 0,.string ⟨#[]⟩,.int .i64 0,.int .i64 0,.bool false,.int .i64 0,.bool false,.int .i64 0,.bool false,.int .i64 0,.bool false,.int .u32 0,.int .u32 0,.int .u32 0,.int .u32 0]) 168 Tryz.underlying43 HI.out.1 HI.out.2.1 HI.out.2.2.1 HI.out.2.2.2 rfl ?_ ?_ (.slice (some ⟨w3.heap.size,0,none⟩) 1 1) ([je p]) ?_ ?_ ?_ ?_ ?_ ?_;(exact aG);(focus(exact(r_.out.kept aD)));(exact aG);(focus(exact(Sl.qE HVP.out rfl)));(exact yh);(exact yg);(exact yj);(intro v4 w4 qR hg4 xY;(have hb4:Below w.heap.size w w4:=(r_.out.kept aD).below hg4 aD ah cZ);(have sj:=Lib.hid qR);(clear qR hg4 xY)))|fail)
   go_ret
   refine⟨_,rfl,?_,hb4⟩
   rw[HP.out,←G_.out,List.take_of_length_le aI,List.drop_of_length_le aI]
   exact sj.out.sl
  ·rw[hi2] at HF
   have hn1:¬(i:Int)<0:=ah
   clear hi2 HVL
   go_enter Tryz.func88,Tryz.ntmps88
   go_wp2_with fail
   have hb0:=aC.new w (dS p) 126
   with_reducible refine(OG.out _ (HV.out.below ?_)).mono ?_
   focus exact bl
   rintro e w1 ⟨v1,rfl,ho1,hb1⟩
   have hz1:=hb1.size
   simp only[World.size_alloc] at hz1 ho1
   (have b1:aC w1 w.heap.size (dS p) 126:=Qc);(obtain⟨hc1,hf1,hl1,hn1,hm1⟩:=b1.rules);(have K1:=Lib.hid b1);(clear b1)
   have hbw:Below w.heap.size w w1:=aD
   have LH:=Lib.hid ho1
   clear hb0 hb1 ho1
   go_wp2_with fail
   with_reducible refine(HA.out _ _ LH.out.sl).mono ?_
   rintro e w2 ⟨rfl,hb2⟩
   have hz2:=hb2.size
   (have b2:aC w2 w.heap.size (dS p) 126:=JZ);(obtain⟨hc2,hf2,hl2,hn2,hm2⟩:=b2.rules);(have K2:=Lib.hid b2);(clear b2)
   have lV:=Lib.hid (LH.out.kept hb2)
   have hbw2:Below w.heap.size w w2:=hbw.trans (hb2.mono hbw.size)
   clear hb2 hbw LH K1 hc1 hf1 hl1 hn1 hm1
   go_wp2_with fail
   with_reducible refine(HF.out _ _ lV.out.sl ah ((hc2 0).trans q0)).mono ?_
   rintro e w3 ⟨rfl,hb3⟩
   have hz3:=hb3.size
   (have b3:aC w3 w.heap.size (dS p) 126:=PS);(obtain⟨hc3,hf3,hl3,sU,ng⟩:=b3.rules);(have K3:=Lib.hid b3);(clear b3)
   have r_:=Lib.hid (lV.out.kept hb3)
   have fJ:Below w.heap.size w w3:=hbw2.trans (hb3.mono hbw2.size)
   clear hb3 hbw2 lV K2 hc2 hf2 hl2 hn2 hm2
   go_wp2_with(first|(refine aJ rfl 126 _ rfl (dS p) aX HVP.out K3.out bg ?_)|((with_reducible refine SF 43 ?_);(refine uD rfl 43 _ rfl aX aB i0 (.agg #[.int .i64 0,.int .i64 0,.int .i64 0,.int .u32 0,.int .u32 0,.int .u32 0,.int .u32 0,.int .u32 0,.int .u32 0,.int .u32 0,.int .u32 0,.int .u32 0,.string ⟨#[]⟩,.int .i64 0,.int .i64 0,.bool false,.int .i64 0,.bool false,.int .i64 0,.bool false,.int .i64 0,.bool false,.int .u32 0,.int .u32 0,.int .u32 0,.int .u32 0]) Tryz.underlying43 HI.out.1 HI.out.2.1 HI.out.2.2.1 (je p) ?_ (HVP.out) ?_;(exact aG)))|fail)
   with_reducible refine(NU v1 (pO l) i (je p) w3.heap.size _ (w.heap.size+1) (r_.out.kept aD) ?_ HVP.out ?_ ?_ ?_ ?_).mono ?_
   focus(rw[jh];omega)
   focus exact aC.new _ _ _
   focus(intro b hb;(have h2:=(r_.out.row.lt b hb).2);omega)
   focus(simp only[World.size_alloc];omega)
   focus(rw[jh];exact hby)
   rintro en w5 ⟨v5,rfl,Iq,hg5⟩
   have hb5:Below w.heap.size w w5:=(r_.out.kept aD).below hg5 aD ah cZ
   have LG:=Lib.hid Iq
   clear Iq hg5
   go_wp2_with fail
   go_ret
   refine⟨_,rfl,?_,hb5⟩
   rw[HP.out,←G_.out]
   exact LG.out.sl
 ·rw[hi] at HA
  have HP:=Lib.hid (Vl hx hp hno)
  have hlt:=(List.getElem?_eq_some_iff.1 hx).1
  clear hi hno hx hp HF
  go_enter Tryz.func88,Tryz.ntmps88
  go_wp2_with fail
  have hb0:=aC.new w (dS p) 126
  with_reducible refine(OG.out _ (HV.out.below ?_)).mono ?_
  focus exact bl
  rintro e w1 ⟨v1,rfl,ho1,hb1⟩
  have hz1:=hb1.size
  simp only[World.size_alloc] at hz1 ho1
  (have b1:aC w1 w.heap.size (dS p) 126:=Qc);(obtain⟨hc1,hf1,hl1,hn1,hm1⟩:=b1.rules);(have K1:=Lib.hid b1);(clear b1)
  have hbw:Below w.heap.size w w1:=aD
  have LH:=Lib.hid ho1
  clear hb0 hb1 ho1
  go_wp2_with fail
  with_reducible refine(HA.out _ _ LH.out.sl).mono ?_
  rintro e w2 ⟨rfl,hb2⟩
  have hz2:=hb2.size
  (have b2:aC w2 w.heap.size (dS p) 126:=JZ);(obtain⟨hc2,hf2,hl2,hn2,hm2⟩:=b2.rules);(have K2:=Lib.hid b2);(clear b2)
  have lV:=Lib.hid (LH.out.kept hb2)
  have hbw2:Below w.heap.size w w2:=hbw.trans (hb2.mono hbw.size)
  clear hb2 hbw LH K1 hc1 hf1 hl1 hn1 hm1
  obtain⟨g,cap2,rfl,hlc,hcm,hbg,hgw,hfz,hcells⟩:=lV.out.form (by rw[jh];omega)
  rw[jh] at lV hlc
  clear hfz hcells
  have hi':i<(pO l).length:=by rw[jh];exact hlt
  go_wp2_with(first|(refine aJ rfl 126 _ rfl (dS p) aX HVP.out K2.out bg ?_)|(refine dw (base:=w.heap.size+1) rfl _ _ rfl aX g l.length cap2 lV.out i hi' ?_ (je p) ?_ HVP.out ?_;(focus(simp[Act.eval]));(focus(simp[Act.eval]));(intro w3 ho3 hg3;(have r_:=Lib.hid ho3);(have hb3:Below w.heap.size w w3:=hbw2.grown hg3 hbw2.size (by intro k hk;cases hk;omega));(clear ho3 hg3)))|fail)
  go_ret
  refine⟨_,rfl,?_,hb3⟩
  rw[HP.out,←Kw]
  exact r_.out.sl
end Go.Proofs.YtgmodehldmahiaaGreatDoor.Tab
namespace Go.Proofs.YtgmodehldmahiaaGreatDoor.Tab
open Go Go.RowKit Go.Tm
def xw(l:List bV)(pid:Int):List bV:=l.filter fun x=>!decide (x.pid=pid)
theorem NR(l:List bV)(pid:Int):(pO l).filter (fun x=>!qG pid x)=pO (xw l pid):=by
 unfold xw
 induction l with
 |nil=>rfl
 |cons x r ih=>
  rw[pO,List.map_cons,List.filter_cons,List.filter_cons,xA]
  rw[pO] at ih
  split
  ·rw[ih];rfl
  ·rw[ih]
theorem Gg(v:Value)(l:List bV)(pid:Int)(w:World)(hv:Sl w true 26 v (pO l))(hby:l.length*168≤140737488355328):
  Calls Tryz.prog 154 #[v,.int .i64 pid] w fun e w'=>∃v',e=.returned v'∧Sl w' true 26 v' (pO (xw l pid))∧Below w.heap.size w w':=by
 have HV:=Lib.hid hv
 have HE:=Lib.hid (NR l pid)
 clear hv
 go_enter Tryz.func154,Tryz.ntmps154
 go_wp2_with fail
 with_reducible refine(zD v (pO l) _ (HV.out.below aD) (by rw[jh];exact hby)).mono ?_
 rintro e w2 ⟨v2,rfl,ho2,hb2⟩
 have hz2:=hb2.size
 simp only[World.size_alloc] at hz2
 (have b1:aC w2 w.heap.size #[.int .i64 pid] 3:=pW);(obtain⟨hc1,hf1,hl1,hn1,hm1⟩:=b1.rules);(have K1:=Lib.hid b1);(clear b1)
 have lV:=Lib.hid (ho2.le (base':=w.heap.size+1) cZ)
 have hB2:some w.heap.size≠v2.ownBlock:=fun h=>by have:=lV.out.fP _ h.symm;omega
 have yO:=D_ v2 (pO l) 191 #[.pointer (some ⟨w.heap.size,0,none⟩)] (qG pid) w2 (w.heap.size+1) (fun x hx=>by obtain⟨a,_,rfl⟩:=List.mem_map.1 hx;exact⟨_,rfl,jd a⟩) lV.out (uo Ve pid l w.heap.size w2 hl1 (hc1 0) v2.ownBlock hB2 (fun x w'=>aaf x pid w.heap.size w'))
 rw[HE.out] at yO
 have HD:=Lib.hid yO
 have hbw:Below w.heap.size w w2:=aD
 clear ho2 yO hc1 hf1 hl1 hn1 hm1
 go_wp2_with fail
 with_reducible refine HD.out.mono ?_
 rintro e w4 ⟨v4,rfl,hs4,_,hg4⟩
 have G9:=Lib.hid hs4
 have hb4:Below w.heap.size w w4:=lV.out.below hg4 hbw ah ah
 clear hs4 hg4
 go_wp2_with fail
 go_ret
 exact⟨_,rfl,G9.out,hb4⟩
def rF(l:List bV):Int:=l.foldl (fun m x=>max m x.pid) 0
theorem Rb{l:List bV}{i:Nat}{x:bV}(h:l[i]?=some x):rF (l.take (i+1))=max (rF (l.take i)) x.pid:=by
 unfold rF;rw[eH h,List.foldl_append];rfl
theorem aaA(v:Value)(l:List bV)(w:World)(hv:Sl w true 26 v (pO l)):
  Calls Tryz.prog 85 #[v] w fun e w'=>e=.returned (.int .i64 (wrap64 (rF l+1)))∧Below w.heap.size w w':=by
 have HV:=Lib.hid hv
 obtain⟨a,cap,rfl,hl⟩:=hv.shape
 rw[jh] at hl HV⊢
 clear hv
 go_enter Tryz.func85,Tryz.ntmps85
 go_wp2_with fail
 go_loopw [3,8] (fun m t W=>∃i:Nat,i≤l.length∧t=.int .i64 i∧m=.int .i64 (rF (l.take i))∧Below w.heap.size w W) (fun _ t _=>l.length-(intOf t).toNat)
 case atStart=>exact⟨0,Nat.zero_le _,rfl,rfl,Below.refl _ _⟩
 case round=>
  obtain⟨i,hi,rfl,rfl,hbw⟩:=hrel
  have hws:=hbw.size
  by_cases hlt:i<l.length
  ·obtain⟨x,hx⟩:∃x,l[i]?=some x:=⟨_,List.getElem?_eq_getElem hlt⟩
   obtain⟨b,off,rfl,hb,hcells,c0,c1,c2⟩:=Sl.pr (HV.out.below hbw) hx
   have hst:=Rb hx
   have HST:=Lib.hid hst
   have nu:=Lib.hid hcells
   have q0:=uK x
   have HVX:=Lib.hid (fq x)
   have hwr:IntKind.i64.wrap ((i:Int)+1)=i+1:=IntWalk.i64_in _ ah
   clear hx hst hcells
   generalize rF (l.take i)=m at*
   go_wp2_with(first|(refine aO rfl 126 _ rfl b (off+i*26) bT (je x) aX HVX.out nu.out ?_)|(refine aU rfl 126 _ _ rfl (dS x) aX HVX.out aF bg bg ?_)|fail)
   go_roundw
   case rel=>exact⟨i+1,ah,bI,by rw[HST.out];first|rfl|(refine congrArg (Value.int .i64) ?_;split<;>omega)|(refine congrArg (Value.int .i64) ?_;omega),aD⟩
   case measure=>simp[intOf];omega
  ·obtain rfl:i=l.length:=by omega
   rw[List.take_length]
   go_wp2_with fail
   go_ret
   exact⟨aI,hbw⟩
def rT(a b:Int)(x:bV):bV:=if x.par=a then{x with par:=b} else x
def lK(l:List bV)(a b:Int):List bV:=l.map (rT a b)
def nk(l:List bV)(a b:Int)(i:Nat):List bV:=(l.take i).map (rT a b)++l.drop i
theorem Ol(l:List bV)(a b:Int)(i:Nat):(nk l a b i).length=l.length:=by
 unfold nk;simp;omega
theorem RX{l:List bV}{a b:Int}{i:Nat}{x:bV}(h:l[i]?=some x):(nk l a b i)[i]?=some x:=by
 unfold nk
 have hi:=(List.getElem?_eq_some_iff.1 h).1
 rw[List.getElem?_append_right aR,List.getElem?_drop]
 rw[show i+(i-((l.take i).map (rT a b)).length)=i by simp;omega]
 exact h
theorem Lj{l:List bV}{a b:Int}{i:Nat}{x:bV}(h:l[i]?=some x):nk l a b (i+1)=(nk l a b i).set i (rT a b x):=by
 have hi:=(List.getElem?_eq_some_iff.1 h).1
 have hd:l.drop i=x::l.drop (i+1):=by
  rw[List.drop_eq_getElem_cons hi]
  rw[List.getElem?_eq_getElem hi] at h
  rw[Option.some.inj h]
 unfold nk
 rw[eH h,List.map_append,hd,List.set_append_right _ _ aR]
 rw[show i-((l.take i).map (rT a b)).length=0 by simp;omega]
 simp
theorem Li(l:List bV)(a b:Int):nk l a b 0=l:=by simp[nk]
theorem Om(l:List bV)(a b:Int):nk l a b l.length=lK l a b:=by simp[nk,lK]
end Go.Proofs.YtgmodehldmahiaaGreatDoor.Tab
namespace Go.Proofs.YtgmodehldmahiaaGreatDoor.Tab
open Go Go.RowKit Go.Tm
end Go.Proofs.YtgmodehldmahiaaGreatDoor.Tab
namespace Go.Proofs.YtgmodehldmahiaaGreatDoor.Tab
open Go Go.RowKit Go.Tm
end Go.Proofs.YtgmodehldmahiaaGreatDoor.Tab
