/- Part 11 of 53 of the proof of topAlone_and_topApart. Conditions: see each. -/
import Derived.Test.YtgmodehldmahiaaGreatDoorB01
import Derived.Test.YtgmodehldmahiaaGreatDoorRows
import Derived.Test.YtgmodehldmahiaaGreatDoorB02
set_option linter.unusedVariables false
set_option linter.unusedSimpArgs false
set_option maxRecDepth 8192
set_option maxHeartbeats 40000000
namespace Go.Proofs.YtgmodehldmahiaaGreatDoor.bF
open Go Go.RowKit Go.Tm
theorem lS:Ty Tryz.prog 3 1 false:=⟨ay,ay,aC,ay⟩
theorem Ap:Ty Tryz.prog 74 4 true:=⟨ay,ay,aC,ay⟩
theorem alg:Ty Tryz.prog 76 3 true:=⟨ay,ay,aC,ay⟩
theorem PG:Ty Tryz.prog 77 1 false:=⟨ay,ay,aC,ay⟩
theorem kK:Ty Tryz.prog 95 5 true:=⟨ay,ay,aC,ay⟩
theorem Ie(p:Value→Bool)(xs:List Value):decide (0≤idx p xs)=xs.any p:=by
 rcases kU p xs with⟨h,hn⟩|⟨i,x,h,hx,hp,_⟩
 ·rw[h]
  have:xs.any p=false:=by rw[List.any_eq_false];intro x hx;rw[hn x hx];simp
  rw[this];rfl
 ·rw[h]
  have:xs.any p=true:=by rw[List.any_eq_true];exact⟨x,List.mem_of_getElem? hx,hp⟩
  rw[this];simp
theorem sI(v:Value)(xs:List Value)(mG:FuncId)(gI:Array Value)(p:Value→Bool)(w:World)(hsl:Sl w false 1 v xs)(hp:Pred Tryz.prog w none mG gI p xs):
  Calls Tryz.prog 83 #[v,.func (.func mG) #[] gI] w fun e w'=>e=.returned (.int .i64 (idx p xs))∧Below w.heap.size w w':=by
 obtain⟨hsz,a,cap,rfl,hl,hm,dL⟩:=hsl
 unfold maxLen at hm
 have hlen:xs.length≤9223372036854775807:=aj
 go_enter Tryz.func83,Tryz.ntmps83
 go_wp2_with fail
 go_loopw [8] (fun t wr=>∃i:Nat,i≤xs.length∧t=.int .i64 i∧Below w.heap.size w wr∧∀j y,j<i→xs[j]?=some y→p y=false) (fun t _=>xs.length-(intOf t).toNat)
 case atStart=>exact⟨0,Nat.zero_le _,rfl,Below.refl _ _,wR⟩
 case round=>
  obtain⟨i,hi,rfl,bZ,iq⟩:=hrel
  have HP:=ah iq
  clear iq
  by_cases hlt:i<xs.length
  ·obtain⟨x,hx⟩:∃x,xs[i]?=some x:=⟨_,List.getElem?_eq_getElem hlt⟩
   have jW:x∈xs:=List.mem_of_getElem? hx
   have HV:=ah (hsz _ jW)
   obtain⟨b,off,rfl,hb,hcell⟩:∃b off,a=some ⟨b,off,none⟩∧b<w.heap.size∧Cells wr b (off+i*1) x.cells.toList:=Br
   have HX:=ah hx
   have qP:=ah hcell
   clear hx hcell dL hsz
   have jS:=hp.asks wr (aA bZ none) _ jW
   have fJ:=hp.body
   unfold Body at fJ
   have HC:=ah jS
   clear jS hp
   cases jJ:p x
   ·have xS:=ah jJ
    rw[jJ] at HC
    clear jJ
    go_wp2_with(first|(refine aN rfl 3 _ rfl b (off+i*1) dw x lS HV.out qP.out ?_)|fail)
    exact L_
   ·have xS:=ah jJ
    rw[jJ] at HC
    clear jJ
    go_wp2_with(first|(refine aN rfl 3 _ rfl b (off+i*1) dw x lS HV.out qP.out ?_)|fail)
    exact Bt
  ·exact Bu
theorem Ls(v:Value)(xs:List Value)(mG:FuncId)(gI:Array Value)(p:Value→Bool)(w:World)(hsl:Sl w true 4 v xs)(hp:Pred Tryz.prog w none mG gI p xs):
  Calls Tryz.prog 66 #[v,.func (.func mG) #[] gI] w fun e w'=>e=.returned (.int .i64 (idx p xs))∧Below w.heap.size w w':=by
 obtain⟨hsz,a,cap,rfl,hl,hm,dL⟩:=hsl
 unfold maxLen at hm
 have hlen:xs.length≤9223372036854775807:=aj
 go_enter Tryz.func66,Tryz.ntmps66
 go_wp2_with fail
 go_loopw [8] (fun t wr=>∃i:Nat,i≤xs.length∧t=.int .i64 i∧Below w.heap.size w wr∧∀j y,j<i→xs[j]?=some y→p y=false) (fun t _=>xs.length-(intOf t).toNat)
 case atStart=>exact⟨0,Nat.zero_le _,rfl,Below.refl _ _,wR⟩
 case round=>
  obtain⟨i,hi,rfl,bZ,iq⟩:=hrel
  have HP:=ah iq
  clear iq
  by_cases hlt:i<xs.length
  ·obtain⟨x,hx⟩:∃x,xs[i]?=some x:=⟨_,List.getElem?_eq_getElem hlt⟩
   have jW:x∈xs:=List.mem_of_getElem? hx
   have HV:=ah (hsz _ jW)
   obtain⟨b,off,rfl,hb,hcell⟩:∃b off,a=some ⟨b,off,none⟩∧b<w.heap.size∧Cells wr b (off+i*4) x.cells.toList:=Br
   have HX:=ah hx
   have qP:=ah hcell
   clear hx hcell dL hsz
   have jS:=hp.asks wr (aA bZ none) _ jW
   have fJ:=hp.body
   unfold Body at fJ
   have HC:=ah jS
   clear jS hp
   cases jJ:p x
   ·have xS:=ah jJ
    rw[jJ] at HC
    clear jJ
    go_wp2_with(first|(refine aN rfl 74 _ rfl b (off+i*4) dw x Ap HV.out qP.out ?_)|fail)
    exact L_
   ·have xS:=ah jJ
    rw[jJ] at HC
    clear jJ
    go_wp2_with(first|(refine aN rfl 74 _ rfl b (off+i*4) dw x Ap HV.out qP.out ?_)|fail)
    exact Bt
  ·exact Bu
theorem Lm(v:Value)(xs:List Value)(mG:FuncId)(gI:Array Value)(p:Value→Bool)(w:World)(hsl:Sl w false 1 v xs)(hp:Pred Tryz.prog w none mG gI p xs):
  Calls Tryz.prog 65 #[v,.func (.func mG) #[] gI] w fun e w'=>e=.returned (.int .i64 (idx p xs))∧Below w.heap.size w w':=by
 obtain⟨hsz,a,cap,rfl,hl,hm,dL⟩:=hsl
 unfold maxLen at hm
 have hlen:xs.length≤9223372036854775807:=aj
 go_enter Tryz.func65,Tryz.ntmps65
 go_wp2_with fail
 go_loopw [8] (fun t wr=>∃i:Nat,i≤xs.length∧t=.int .i64 i∧Below w.heap.size w wr∧∀j y,j<i→xs[j]?=some y→p y=false) (fun t _=>xs.length-(intOf t).toNat)
 case atStart=>exact⟨0,Nat.zero_le _,rfl,Below.refl _ _,wR⟩
 case round=>
  obtain⟨i,hi,rfl,bZ,iq⟩:=hrel
  have HP:=ah iq
  clear iq
  by_cases hlt:i<xs.length
  ·obtain⟨x,hx⟩:∃x,xs[i]?=some x:=⟨_,List.getElem?_eq_getElem hlt⟩
   have jW:x∈xs:=List.mem_of_getElem? hx
   have HV:=ah (hsz _ jW)
   obtain⟨b,off,rfl,hb,hcell⟩:∃b off,a=some ⟨b,off,none⟩∧b<w.heap.size∧Cells wr b (off+i*1) x.cells.toList:=Br
   have HX:=ah hx
   have qP:=ah hcell
   clear hx hcell dL hsz
   have jS:=hp.asks wr (aA bZ none) _ jW
   have fJ:=hp.body
   unfold Body at fJ
   have HC:=ah jS
   clear jS hp
   cases jJ:p x
   ·have xS:=ah jJ
    rw[jJ] at HC
    clear jJ
    go_wp2_with(first|(refine aN rfl 77 _ rfl b (off+i*1) dw x PG HV.out qP.out ?_)|fail)
    exact L_
   ·have xS:=ah jJ
    rw[jJ] at HC
    clear jJ
    go_wp2_with(first|(refine aN rfl 77 _ rfl b (off+i*1) dw x PG HV.out qP.out ?_)|fail)
    exact Bt
  ·exact Bu
theorem vJ(v:Value)(xs:List Value)(mG:FuncId)(gI:Array Value)(p:Value→Bool)(w:World)(hsl:Sl w true 5 v xs)(hp:Pred Tryz.prog w none mG gI p xs):
  Calls Tryz.prog 69 #[v,.func (.func mG) #[] gI] w fun e w'=>e=.returned (.int .i64 (idx p xs))∧Below w.heap.size w w':=by
 obtain⟨hsz,a,cap,rfl,hl,hm,dL⟩:=hsl
 unfold maxLen at hm
 have hlen:xs.length≤9223372036854775807:=aj
 go_enter Tryz.func69,Tryz.ntmps69
 go_wp2_with fail
 go_loopw [8] (fun t wr=>∃i:Nat,i≤xs.length∧t=.int .i64 i∧Below w.heap.size w wr∧∀j y,j<i→xs[j]?=some y→p y=false) (fun t _=>xs.length-(intOf t).toNat)
 case atStart=>exact⟨0,Nat.zero_le _,rfl,Below.refl _ _,wR⟩
 case round=>
  obtain⟨i,hi,rfl,bZ,iq⟩:=hrel
  have HP:=ah iq
  clear iq
  by_cases hlt:i<xs.length
  ·obtain⟨x,hx⟩:∃x,xs[i]?=some x:=⟨_,List.getElem?_eq_getElem hlt⟩
   have jW:x∈xs:=List.mem_of_getElem? hx
   have HV:=ah (hsz _ jW)
   obtain⟨b,off,rfl,hb,hcell⟩:∃b off,a=some ⟨b,off,none⟩∧b<w.heap.size∧Cells wr b (off+i*5) x.cells.toList:=Br
   have HX:=ah hx
   have qP:=ah hcell
   clear hx hcell dL hsz
   have jS:=hp.asks wr (aA bZ none) _ jW
   have fJ:=hp.body
   unfold Body at fJ
   have HC:=ah jS
   clear jS hp
   cases jJ:p x
   ·have xS:=ah jJ
    rw[jJ] at HC
    clear jJ
    go_wp2_with(first|(refine aN rfl 95 _ rfl b (off+i*5) dw x kK HV.out qP.out ?_)|fail)
    exact L_
   ·have xS:=ah jJ
    rw[jJ] at HC
    clear jJ
    go_wp2_with(first|(refine aN rfl 95 _ rfl b (off+i*5) dw x kK HV.out qP.out ?_)|fail)
    exact Bt
  ·exact Bu
theorem FJ(v:Value)(xs:List Value)(mG:FuncId)(gI:Array Value)(p:Value→Bool)(w:World)(hsl:Sl w false 1 v xs)(hp:Pred Tryz.prog w none mG gI p xs):
  Calls Tryz.prog 68 #[v,.func (.func mG) #[] gI] w fun e w'=>e=.returned (.bool (xs.any p))∧Below w.heap.size w w':=by
 have HI:=ah (sI v xs mG gI p w hsl hp)
 have ha:=Ie p xs
 obtain⟨a,cap,rfl,_⟩:=hsl.shape
 generalize idx p xs=i at*
 generalize xs.any p=r at*
 clear hsl hp
 go_enter Tryz.func68,Tryz.ntmps68
 go_wp2_with fail
 with_reducible refine HI.out.mono ?_
 rintro e w1 ⟨rfl,hb1⟩
 go_wp2_with fail
 go_ret
 exact⟨rfl,hb1⟩
theorem Em(v:Value)(xs:List Value)(mG:FuncId)(gI:Array Value)(p:Value→Bool)(w:World)(hsl:Sl w true 4 v xs)(hp:Pred Tryz.prog w none mG gI p xs):
  Calls Tryz.prog 44 #[v,.func (.func mG) #[] gI] w fun e w'=>e=.returned (.bool (xs.any p))∧Below w.heap.size w w':=by
 have HI:=ah (Ls v xs mG gI p w hsl hp)
 have ha:=Ie p xs
 obtain⟨a,cap,rfl,_⟩:=hsl.shape
 generalize idx p xs=i at*
 generalize xs.any p=r at*
 clear hsl hp
 go_enter Tryz.func44,Tryz.ntmps44
 go_wp2_with fail
 with_reducible refine HI.out.mono ?_
 rintro e w1 ⟨rfl,hb1⟩
 go_wp2_with fail
 go_ret
 exact⟨rfl,hb1⟩
theorem El(v:Value)(xs:List Value)(mG:FuncId)(gI:Array Value)(p:Value→Bool)(w:World)(hsl:Sl w false 1 v xs)(hp:Pred Tryz.prog w none mG gI p xs):
  Calls Tryz.prog 43 #[v,.func (.func mG) #[] gI] w fun e w'=>e=.returned (.bool (xs.any p))∧Below w.heap.size w w':=by
 have HI:=ah (Lm v xs mG gI p w hsl hp)
 have ha:=Ie p xs
 obtain⟨a,cap,rfl,_⟩:=hsl.shape
 generalize idx p xs=i at*
 generalize xs.any p=r at*
 clear hsl hp
 go_enter Tryz.func43,Tryz.ntmps43
 go_wp2_with fail
 with_reducible refine HI.out.mono ?_
 rintro e w1 ⟨rfl,hb1⟩
 go_wp2_with fail
 go_ret
 exact⟨rfl,hb1⟩
theorem En(v:Value)(xs:List Value)(mG:FuncId)(gI:Array Value)(p:Value→Bool)(w:World)(hsl:Sl w true 5 v xs)(hp:Pred Tryz.prog w none mG gI p xs):
  Calls Tryz.prog 48 #[v,.func (.func mG) #[] gI] w fun e w'=>e=.returned (.bool (xs.any p))∧Below w.heap.size w w':=by
 have HI:=ah (vJ v xs mG gI p w hsl hp)
 have ha:=Ie p xs
 obtain⟨a,cap,rfl,_⟩:=hsl.shape
 generalize idx p xs=i at*
 generalize xs.any p=r at*
 clear hsl hp
 go_enter Tryz.func48,Tryz.ntmps48
 go_wp2_with fail
 with_reducible refine HI.out.mono ?_
 rintro e w1 ⟨rfl,hb1⟩
 go_wp2_with fail
 go_ret
 exact⟨rfl,hb1⟩
abbrev Pt:=Int×Int×Int×Int
abbrev Wn:=Int×Int×Int
abbrev Ch:=Int×Int×Int×Int×Int
abbrev Ut(x:Pt):Value:= .agg #[.int .i64 x.1,.int .i64 x.2.1,.int .i64 x.2.2.1,.int .i64 x.2.2.2]
abbrev QF(x:Wn):Value:= .agg #[.int .i64 x.1,.int .i64 x.2.1,.int .i64 x.2.2]
abbrev uG(x:Ch):Value:= .agg #[.int .i64 x.1,.int .i64 x.2.1,.int .i64 x.2.2.1,.int .i64 x.2.2.2.1,.int .i64 x.2.2.2.2]
structure jE where
 parts:List Pt
 frame:Int
 wins:List (List Wn)
 chans:List Ch
structure vB(W:World)(v:Value)(ls:List (List Wn)):Prop where
 row:∃vs,Sl W false 1 v vs∧vs.length=ls.length∧∀(i:Nat) (u:Value) (l:List Wn),vs[i]?=some u→ls[i]?=some l→Sl W true 3 u (l.map QF)
theorem vB.below{w w':World}{v:Value}{ls:List (List Wn)}(h:vB w v ls)(hb:Below w.heap.size w w'):vB w' v ls:=acC
theorem vB.shape{w:World}{v:Value}{ls:List (List Wn)}(h:vB w v ls):∃a cap,v=.slice a ls.length cap∧ls.length≤9223372036854775807:=acB
theorem vB.at{w:World}{a:Option Addr}{n cap:Nat}{ls:List (List Wn)}(h:vB w (.slice a n cap) ls){i:Nat}{l:List Wn}(hl:ls[i]?=some l):
  ∃b off a2 jl,a=some ⟨b,off,none⟩∧b<w.heap.size∧w.cell? ⟨b,off+i,none⟩=some (.slice a2 l.length jl)∧l.length≤9223372036854775807∧Sl w true 3 (.slice a2 l.length jl) (l.map QF):=by
 obtain⟨vs,h1,h2,h3⟩:=h.row
 have hi:i<vs.length:=by rw[h2];exact(List.getElem?_eq_some_iff.1 hl).1
 have hu:=List.getElem?_eq_getElem hi
 obtain⟨b,off,ha,hb,hc⟩:=h1.at hu
 have hs:=h3 i _ l hu hl
 obtain⟨a2,jl,he,hle⟩:=hs.shape
 have hv:=hc 0 (.slice a2 l.length jl) (by rw[he];simp[Value.cells])
 rw[he] at hs
 simp only[List.length_map] at hs hle
 exact⟨b,off,a2,jl,ha,hb,by simpa using hv,hle,hs⟩
structure jf(W:World)(pv wv cv:Value)(p:jE):Prop where
 parts:Sl W true 4 pv (p.parts.map Ut)
 wins:vB W wv p.wins
 chans:Sl W true 5 cv (p.chans.map uG)
theorem jf.below{w w':World}{pv wv cv:Value}{p:jE}(h:jf w pv wv cv p)(hb:Below w.heap.size w w'):jf w' pv wv cv p:=
 ⟨h.parts.below hb,h.wins.below hb,h.chans.below hb⟩
abbrev I6(pv wv cv:Value)(p:jE):Value:= .agg #[pv,.int .i64 p.frame,wv,cv]
theorem jf.shape{w:World}{pv wv cv:Value}{p:jE}(h:jf w pv wv cv p):
  ∃a1 c1 a2 c2 a3 c3,pv=.slice a1 p.parts.length c1∧wv=.slice a2 p.wins.length c2∧cv=.slice a3 p.chans.length c3∧
   p.parts.length≤9223372036854775807∧p.wins.length≤9223372036854775807∧p.chans.length≤9223372036854775807:=by
 obtain⟨a1,c1,h1,l1⟩:=h.parts.shape
 obtain⟨a2,c2,h2,l2⟩:=h.wins.shape
 obtain⟨a3,c3,h3,l3⟩:=h.chans.shape
 simp only[List.length_map] at h1 h3 l1 l3
 exact⟨a1,c1,a2,c2,a3,c3,h1,h2,h3,l1,l2,l3⟩
theorem Sl.pt{w:World}{a:Option Addr}{n cap:Nat}{l:List Pt}(h:Sl w true 4 (.slice a n cap) (l.map Ut)){i:Nat}{x:Pt}(hx:l[i]?=some x):
  ∃b off,a=some ⟨b,off,none⟩∧b<w.heap.size∧w.cell? ⟨b,off+i*4,none⟩=some (.int .i64 x.1)∧w.cell? ⟨b,off+i*4+1,none⟩=some (.int .i64 x.2.1)∧
   w.cell? ⟨b,off+i*4+2,none⟩=some (.int .i64 x.2.2.1)∧w.cell? ⟨b,off+i*4+3,none⟩=some (.int .i64 x.2.2.2):=by
 obtain⟨b,off,ha,hb,hcell⟩:=h.at (show(l.map Ut)[i]?=some (Ut x) by simp[hx])
 exact⟨b,off,ha,hb,hcell 0 _ rfl,hcell 1 _ rfl,hcell 2 _ rfl,hcell 3 _ rfl⟩
theorem Sl.wn{w:World}{a:Option Addr}{n cap:Nat}{l:List Wn}(h:Sl w true 3 (.slice a n cap) (l.map QF)){i:Nat}{x:Wn}(hx:l[i]?=some x):
  ∃b off,a=some ⟨b,off,none⟩∧b<w.heap.size∧w.cell? ⟨b,off+i*3,none⟩=some (.int .i64 x.1)∧w.cell? ⟨b,off+i*3+1,none⟩=some (.int .i64 x.2.1)∧
   w.cell? ⟨b,off+i*3+2,none⟩=some (.int .i64 x.2.2):=by
 obtain⟨b,off,ha,hb,hcell⟩:=h.at (show(l.map QF)[i]?=some (QF x) by simp[hx])
 exact⟨b,off,ha,hb,hcell 0 _ rfl,hcell 1 _ rfl,hcell 2 _ rfl⟩
theorem Sl.ch{w:World}{a:Option Addr}{n cap:Nat}{l:List Ch}(h:Sl w true 5 (.slice a n cap) (l.map uG)){i:Nat}{x:Ch}(hx:l[i]?=some x):
  ∃b off,a=some ⟨b,off,none⟩∧b<w.heap.size∧w.cell? ⟨b,off+i*5,none⟩=some (.int .i64 x.1)∧w.cell? ⟨b,off+i*5+1,none⟩=some (.int .i64 x.2.1)∧
   w.cell? ⟨b,off+i*5+2,none⟩=some (.int .i64 x.2.2.1)∧w.cell? ⟨b,off+i*5+3,none⟩=some (.int .i64 x.2.2.2.1)∧w.cell? ⟨b,off+i*5+4,none⟩=some (.int .i64 x.2.2.2.2):=by
 obtain⟨b,off,ha,hb,hcell⟩:=h.at (show(l.map uG)[i]?=some (uG x) by simp[hx])
 exact⟨b,off,ha,hb,hcell 0 _ rfl,hcell 1 _ rfl,hcell 2 _ rfl,hcell 3 _ rfl,hcell 4 _ rfl⟩
def Rx:Value→Bool:=fun v=>match v with|.slice _ n _=>decide (8<n)|_=>false
theorem TT:Body Tryz.prog 42:=gq Tryz.func42 ay ay
theorem Xk(a:Option Addr)(n cap:Nat)(w:World):Calls Tryz.prog 42 #[.slice a n cap] w fun e w'=>e=.returned (.bool (decide (8<n)))∧Below w.heap.size w w':=by
 go_enter Tryz.func42,Tryz.ntmps42
 go_wp2_with fail
 go_ret
 exact⟨aV,aG⟩
def abz:Value→Bool:=fun v=>match v with|.int _ n=>decide (n<1∨3<n)|_=>false
theorem WG:Body Tryz.prog 67:=gq Tryz.func67 ay ay
theorem aas(n:Int)(w:World):Calls Tryz.prog 67 #[.int .i64 n] w fun e w'=>e=.returned (.bool (decide (n<1∨3<n)))∧Below w.heap.size w w':=by
 by_cases h:n<1
 ·go_enter Tryz.func67,Tryz.ntmps67
  exact rO
 ·rw[show decide (n<1∨3<n)=decide (3<n) by simp[h]]
  go_enter Tryz.func67,Tryz.ntmps67
  exact pK
theorem ae4(l:List Int)(w:World):Pred Tryz.prog w none 67 #[] abz (ints l):=
 ⟨WG,fun w' _ x hm=>by
  obtain⟨n,_,rfl⟩:=List.mem_map.1 hm
  exact aas n w'⟩
def q9(x:Pt):Prop:=64≤x.1∧x.1≤1024∧x.1%4=0∧1≤x.2.1∧x.2.1≤3∧1≤x.2.2.1∧x.2.2.1≤3∧1≤x.2.2.2∧x.2.2.2≤3
instance(x:Pt):Decidable (q9 x):=by unfold q9;infer_instance
theorem ahH(m a b c:Int)(w:World)(t:TypeId):Sl (w.alloc (.cells #[.int .i64 m,.int .i64 a,.int .i64 b,.int .i64 c] t)) false 1 (.slice (some ⟨w.heap.size,1,none⟩) 3 3) (ints [a,b,c]):=by
 have hr:=(aD.new w #[.int .i64 m,.int .i64 a,.int .i64 b,.int .i64 c] t).rules.1
 refine⟨JX _,some ⟨w.heap.size,1,none⟩,3,rfl,Nat.le_refl _,aC,.inr ⟨w.heap.size,1,rfl,aI,?_⟩⟩
 intro i x hx j v hj
 match i,hx with
 |0,hx=>cases hx;match j,hj with|0,hj=>cases hj;exact hr 1
 |1,hx=>cases hx;match j,hj with|0,hj=>cases hj;exact hr 2
 |2,hx=>cases hx;match j,hj with|0,hj=>cases hj;exact hr 3
theorem ae0(x:Pt)(w:World):Calls Tryz.prog 46 #[Ut x] w fun e w'=>e=.returned (.bool (decide (q9 x)))∧Below w.heap.size w w':=by
 obtain⟨m,a,b,c⟩:=x
 unfold q9
 dsimp only
 by_cases h1:64≤m
 case neg=>
  rw[show decide (64≤m∧m≤1024∧m%4=0∧1≤a∧a≤3∧1≤b∧b≤3∧1≤c∧c≤3)=false by simp[h1]]
  go_enter Tryz.func46,Tryz.ntmps46
  exact pK
 by_cases h2:m≤1024
 case neg=>
  rw[show decide (64≤m∧m≤1024∧m%4=0∧1≤a∧a≤3∧1≤b∧b≤3∧1≤c∧c≤3)=false by simp[h2]]
  go_enter Tryz.func46,Tryz.ntmps46
  exact pK
 by_cases h3:m%4=0
 case neg=>
  rw[show decide (64≤m∧m≤1024∧m%4=0∧1≤a∧a≤3∧1≤b∧b≤3∧1≤c∧c≤3)=false by simp[h3]]
  have h3':(m%4==0)=false:=by simpa using h3
  have h3t:m.tmod 4=m%4:=Int.tmod_eq_emod_of_nonneg aj
  go_enter Tryz.func46,Tryz.ntmps46
  exact pK
 have h3t:m.tmod 4=m%4:=Int.tmod_eq_emod_of_nonneg aj
 have HC:=ah (FJ _ (ints [a,b,c]) 67 #[] abz _ (ahH m a b c w 74) (ae4 [a,b,c] _))
 have anj:(!((ints [a,b,c]).any abz))=decide (64≤m∧m≤1024∧m%4=0∧1≤a∧a≤3∧1≤b∧b≤3∧1≤c∧c≤3):=by
  rw[Bool.eq_iff_iff]
  simp[abz,h1,h2,h3]
  omega
 have HN:=ah anj
 generalize(ints [a,b,c]).any abz=r at*
 clear anj
 go_enter Tryz.func46,Tryz.ntmps46
 go_wp2_with fail
 with_reducible refine HC.out.mono ?_
 rintro e w1 ⟨rfl,hb1⟩
 have bZ:Below w.heap.size w w1:=aG
 go_wp2_with fail
 go_ret
 exact⟨by rw[←HN.out];simp,bZ⟩
def uf(n:Nat)(frame:Int)(x:Wn):Prop:=0≤x.1∧x.1<n∧0≤x.2.1∧2<x.2.2∧x.2.2≤frame∧x.2.1≤frame-x.2.2
instance(n:Nat)(frame:Int)(x:Wn):Decidable (uf n frame x):=by unfold uf;infer_instance
def Oe(n:Nat)(frame:Int)(x:Wn)(behind:Int):Int:=if uf n frame x then(if x.2.1<behind then 9 else 0) else 1
theorem ZF{n:Nat}{frame:Int}{x:Wn}{behind:Int}:Oe n frame x behind=0↔uf n frame x∧behind≤x.2.1:=by
 unfold Oe
 by_cases h:uf n frame x
 ·by_cases h2:x.2.1<behind
  ·simp[h,h2]
  ·simp[h,h2];omega
 ·simp[h]
theorem V9(a1:Option Addr)(n c1:Nat)(frame:Int)(wv cv:Value)(x:Wn)(behind:Int)(w:World)(hf:1≤frame)(hf2:frame≤4096):
  Calls Tryz.prog 47 #[.agg #[.slice a1 n c1,.int .i64 frame,wv,cv],QF x,.int .i64 behind] w fun e w'=>e=.returned (.int .i64 (Oe n frame x behind))∧Below w.heap.size w w':=by
 obtain⟨p,f,l⟩:=x
 have h0:¬uf n frame (p,f,l)→Oe n frame (p,f,l) behind=1:=fun h=>if_neg h
 unfold uf at h0
 dsimp only at h0⊢
 by_cases p0:0≤p
 case neg=>
  rw[h0 jP]
  clear h0
  go_enter Tryz.func47,Tryz.ntmps47
  exact pK
 by_cases p1:p<n
 case neg=>
  rw[h0 jP]
  clear h0
  go_enter Tryz.func47,Tryz.ntmps47
  exact pK
 by_cases p2:0≤f
 case neg=>
  rw[h0 jP]
  clear h0
  go_enter Tryz.func47,Tryz.ntmps47
  exact pK
 by_cases p3:2<l
 case neg=>
  rw[h0 jP]
  clear h0
  go_enter Tryz.func47,Tryz.ntmps47
  exact pK
 by_cases p4:l≤frame
 case neg=>
  rw[h0 jP]
  clear h0
  go_enter Tryz.func47,Tryz.ntmps47
  exact pK
 by_cases p5:f≤frame-l
 case neg=>
  rw[h0 jP]
  have hw:IntKind.i64.wrap (frame-l)=frame-l:=IntWalk.i64_in _ aj
  clear h0
  go_enter Tryz.func47,Tryz.ntmps47
  exact pK
 have hw:IntKind.i64.wrap (frame-l)=frame-l:=IntWalk.i64_in _ aj
 by_cases p6:f<behind
 ·rw[show Oe n frame (p,f,l) behind=9 by unfold Oe;rw[if_pos adt,if_pos p6]]
  clear h0
  go_enter Tryz.func47,Tryz.ntmps47
  exact pK
 ·rw[show Oe n frame (p,f,l) behind=0 by unfold Oe;rw[if_pos adt,if_neg p6]]
  clear h0
  go_enter Tryz.func47,Tryz.ntmps47
  exact pK
def lU(n:Nat)(c:Ch):Prop:=(c.1=1∨c.1=2)∧0≤c.2.1∧c.2.1<n∧0≤c.2.2.1∧c.2.2.1<n∧c.2.1≠c.2.2.1∧1≤c.2.2.2.1∧c.2.2.2.1≤32∧1≤c.2.2.2.2∧c.2.2.2.2≤8∧(c.1=1→c.2.2.2.2≤1)
instance(n:Nat)(c:Ch):Decidable (lU n c):=by unfold lU;infer_instance
theorem TU(a1:Option Addr)(n c1:Nat)(frame:Int)(wv cv:Value)(x:Ch)(w:World):
  Calls Tryz.prog 50 #[.agg #[.slice a1 n c1,.int .i64 frame,wv,cv],uG x] w fun e w'=>e=.returned (.bool (decide (lU n x)))∧Below w.heap.size w w':=by
 obtain⟨k,f,t,s,d⟩:=x
 have h0:¬lU n (k,f,t,s,d)→decide (lU n (k,f,t,s,d))=false:=fun h=>decide_eq_false h
 have h1:lU n (k,f,t,s,d)→decide (lU n (k,f,t,s,d))=true:=fun h=>decide_eq_true h
 generalize hr:decide (lU n (k,f,t,s,d))=r at*
 clear hr
 unfold lU at h0 h1
 dsimp only at h0 h1
 by_cases k1:k=1
 case pos=>
  subst k1
  by_cases q0:0≤f
  case neg=>
   rw[h0 jP]
   clear h0 h1
   exact nA
  by_cases q1:f<n
  case neg=>
   rw[h0 jP]
   clear h0 h1
   exact nA
  by_cases q2:0≤t
  case neg=>
   rw[h0 jP]
   clear h0 h1
   exact nA
  by_cases q3:t<n
  case neg=>
   rw[h0 jP]
   clear h0 h1
   exact nA
  by_cases q4:f≠t
  case neg=>
   rw[h0 jP]
   clear h0 h1
   have e4:(f !=t)=false:=EL
   exact nA
  have e4:(f !=t)=true:=EL
  by_cases q5:1≤s
  case neg=>
   rw[h0 jP]
   clear h0 h1
   exact nA
  by_cases q6:s≤32
  case neg=>
   rw[h0 jP]
   clear h0 h1
   exact nA
  by_cases q7:1≤d
  case neg=>
   rw[h0 jP]
   clear h0 h1
   exact nA
  by_cases q8:d≤1
  case neg=>
   rw[h0 jP]
   clear h0 h1
   exact nA
  rw[h1 aj]
  clear h0 h1
  exact nA
 by_cases k2:k=2
 case pos=>
  subst k2
  by_cases q0:0≤f
  case neg=>
   rw[h0 jP]
   clear h0 h1
   exact nA
  by_cases q1:f<n
  case neg=>
   rw[h0 jP]
   clear h0 h1
   exact nA
  by_cases q2:0≤t
  case neg=>
   rw[h0 jP]
   clear h0 h1
   exact nA
  by_cases q3:t<n
  case neg=>
   rw[h0 jP]
   clear h0 h1
   exact nA
  by_cases q4:f≠t
  case neg=>
   rw[h0 jP]
   clear h0 h1
   have e4:(f !=t)=false:=EL
   exact nA
  have e4:(f !=t)=true:=EL
  by_cases q5:1≤s
  case neg=>
   rw[h0 jP]
   clear h0 h1
   exact nA
  by_cases q6:s≤32
  case neg=>
   rw[h0 jP]
   clear h0 h1
   exact nA
  by_cases q7:1≤d
  case neg=>
   rw[h0 jP]
   clear h0 h1
   exact nA
  by_cases q8:d≤8
  case neg=>
   rw[h0 jP]
   clear h0 h1
   exact nA
  rw[h1 aj]
  clear h0 h1
  exact nA
 have k1':(k==1)=false:=by simpa using k1
 have k2':(k==2)=false:=by simpa using k2
 rw[h0 jP]
 clear h0 h1
 by_cases q0:0≤f
 case neg=>
  exact nA
 by_cases q1:f<n
 case neg=>
  exact nA
 by_cases q2:0≤t
 case neg=>
  exact nA
 by_cases q3:t<n
 case neg=>
  exact nA
 by_cases q4:f≠t
 case neg=>
  have e4:(f !=t)=false:=EL
  exact nA
 have e4:(f !=t)=true:=EL
 go_enter Tryz.func50,Tryz.ntmps50
 go_wp2_with fail
 go_ret
 exact⟨rfl,aG⟩
end Go.Proofs.YtgmodehldmahiaaGreatDoor.bF
namespace Go.Proofs.YtgmodehldmahiaaGreatDoor.bF
open Go Go.RowKit Go.Tm
def Gs(n:Nat)(frame:Int):Int→List Wn→Prop
 |_,[]=>True
 |b,x::r=>uf n frame x∧b≤x.2.1∧Gs n frame (x.2.1+x.2.2) r
theorem Ww{n:Nat}{frame b:Int}{l:List Wn}{k:Nat}{x:Wn}(h:l[k]?=some x):Gs n frame b (l.drop k)↔uf n frame x∧b≤x.2.1∧Gs n frame (x.2.1+x.2.2) (l.drop (k+1)):=by
 have hl:=(List.getElem?_eq_some_iff.1 h).1
 have:l.drop k=x::l.drop (k+1):=by
  rw[List.drop_eq_getElem_cons hl]
  rw[List.getElem?_eq_getElem hl] at h
  cases h;rfl
 rw[this]
 exact Iff.rfl
structure gJ(p:jE):Prop where
 zX:p.parts.length≤4
 anW:p.wins.length≤3
 Cn:p.chans.length≤6
 anV:∀l∈p.wins,l.length≤8
 VN:p.parts.length≠0
 anX:p.wins.length≠0
 part:∀x∈p.parts,q9 x
 ad9:1≤p.frame
 Fv:p.frame≤4096
 rows:∀l∈p.wins,Gs p.parts.length p.frame 0 l
 chans:∀c∈p.chans,lU p.parts.length c
theorem aaO(vs:List Value)(ls:List (List Wn))(W0 w:World)(hl:vs.length=ls.length)(h:∀(i:Nat) (u:Value) (l:List Wn),vs[i]?=some u→ls[i]?=some l→Sl W0 true 3 u (l.map QF)):
  Pred Tryz.prog w none 42 #[] Rx vs:=
 ⟨TT,fun w' _ x hm=>by
  obtain⟨i,hi,he⟩:=List.mem_iff_getElem.1 hm
  obtain⟨a,cap,hs,_⟩:=(h i x ls[i] Vm (List.getElem?_eq_getElem aj)).shape
  subst hs
  exact Xk a _ cap w'⟩
theorem ae9{vs:List Value}{ls:List (List Wn)}{W0:World}(hl:vs.length=ls.length)(h:∀(i:Nat) (u:Value) (l:List Wn),vs[i]?=some u→ls[i]?=some l→Sl W0 true 3 u (l.map QF)):
  vs.any Rx=decide (∃l∈ls,8<l.length):=by
 rw[Bool.eq_iff_iff,List.any_eq_true,decide_eq_true_eq]
 constructor
 ·rintro⟨x,hm,hx⟩
  obtain⟨i,hi,he⟩:=List.mem_iff_getElem.1 hm
  obtain⟨a,cap,hs,_⟩:=(h i x ls[i] Vm (List.getElem?_eq_getElem aj)).shape
  subst hs
  exact⟨ls[i],List.getElem_mem _,by simpa[Rx] using hx⟩
 ·rintro⟨l,hm,hx⟩
  obtain⟨i,hi,he⟩:=List.mem_iff_getElem.1 hm
  obtain⟨a,cap,hs,_⟩:=(h i vs[i] ls[i] (List.getElem?_eq_getElem aj) (List.getElem?_eq_getElem aj)).shape
  exact⟨vs[i],List.getElem_mem _,by rw[hs,he];simpa[Rx] using hx⟩
def VZ:Value→Bool:=fun v=>match v with|.agg cs=>(match cs.toList with|[.int _ m,.int _ a,.int _ b,.int _ c]=>!decide (q9 (m,a,b,c))|_=>false)|_=>false
theorem TS:Body Tryz.prog 45:=gq Tryz.func45 ay ay
theorem Xj(x:Pt)(w:World):Calls Tryz.prog 45 #[Ut x] w fun e w'=>e=.returned (.bool (!decide (q9 x)))∧Below w.heap.size w w':=by
 have HP:=ah (fun W=>ae0 x W)
 generalize decide (q9 x)=r at*
 go_enter Tryz.func45,Tryz.ntmps45
 go_wp2_with fail
 with_reducible refine(HP.out _).mono ?_
 rintro e w1 ⟨rfl,hb1⟩
 have bZ:Below w.heap.size w w1:=aG
 exact Dm
theorem aar(l:List Pt)(w:World):Pred Tryz.prog w none 45 #[] VZ (l.map Ut):=
 ⟨TS,fun w' _ x hm=>by
  obtain⟨n,_,rfl⟩:=List.mem_map.1 hm
  exact Xj n w'⟩
theorem aaq(l:List Pt):(l.map Ut).any VZ=decide (∃x∈l,¬q9 x):=by
 rw[Bool.eq_iff_iff,List.any_eq_true,decide_eq_true_eq]
 constructor
 ·rintro⟨v,hm,hx⟩
  obtain⟨x,hx',rfl⟩:=List.mem_map.1 hm
  exact⟨x,hx',by have:(!decide (q9 x))=true:=hx;simpa using this⟩
 ·rintro⟨x,hm,hx⟩
  exact⟨Ut x,List.mem_map.2 ⟨x,hm,rfl⟩,by show(!decide (q9 x))=true;simpa using hx⟩
def V3(n:Nat):Value→Bool:=fun v=>match v with|.agg cs=>(match cs.toList with|[.int _ m,.int _ a,.int _ b,.int _ c,.int _ d]=>!decide (lU n (m,a,b,c,d))|_=>false)|_=>false
theorem TR:Body Tryz.prog 49:=gq Tryz.func49 ay ay
theorem Xi(a1:Option Addr)(n c1:Nat)(frame:Int)(wv cv:Value)(x:Ch)(B:Nat)(w:World)(hB:aD w B #[.slice a1 n c1,.int .i64 frame,wv,cv] 26)(hwv:wv.oneCell'=true)(hcv:cv.oneCell'=true):
  Calls Tryz.prog 49 #[uG x,.pointer (some ⟨B,0,none⟩)] w fun e w'=>e=.returned (.bool (!decide (lU n x)))∧Below w.heap.size w w':=by
 have HC:=ah (fun W=>TU a1 n c1 frame wv cv x W)
 have HB:=ah hB
 have hlt:=hB.lt
 generalize decide (lU n x)=r at*
 clear hB
 obtain⟨k,f,t,s,d⟩:=x
 try dsimp only at*
 go_enter Tryz.func49,Tryz.ntmps49
 have b1:aD (w.alloc (.cells #[.int .i64 k,.int .i64 f,.int .i64 t,.int .i64 s,.int .i64 d] 95)) B #[.slice a1 n c1,.int .i64 frame,wv,cv] 26:=(by(try have k1:=HB.out);exact bx);obtain⟨hc1,mF,jO,mE,oz⟩:=b1.rules;have K1:=ah b1;clear b1
 go_wp2_with fail
 with_reducible refine(HC.out _).mono ?_
 rintro e w1 ⟨rfl,hb1⟩
 have bZ:Below w.heap.size w w1:=aG
 go_wp2_with fail
 go_ret
 exact⟨rfl,bZ⟩
theorem abl(a1:Option Addr)(n c1:Nat)(frame:Int)(wv cv:Value)(l:List Ch)(B:Nat)(w:World)(hB:aD w B #[.slice a1 n c1,.int .i64 frame,wv,cv] 26)(hwv:wv.oneCell'=true)(hcv:cv.oneCell'=true):
  Pred Tryz.prog w none 49 #[.pointer (some ⟨B,0,none⟩)] (V3 n) (l.map uG):=
 ⟨TR,fun w' hw x hm=>by
  obtain⟨y,_,rfl⟩:=List.mem_map.1 hm
  exact Xi a1 n c1 frame wv cv y B w' (hB.below (bJ hw) hB.lt) hwv hcv⟩
theorem abk(n:Nat)(l:List Ch):(l.map uG).any (V3 n)=decide (∃x∈l,¬lU n x):=by
 rw[Bool.eq_iff_iff,List.any_eq_true,decide_eq_true_eq]
 constructor
 ·rintro⟨v,hm,hx⟩
  obtain⟨x,hx',rfl⟩:=List.mem_map.1 hm
  exact⟨x,hx',by have:(!decide (lU n x))=true:=hx;simpa using this⟩
 ·rintro⟨x,hm,hx⟩
  exact⟨uG x,List.mem_map.2 ⟨x,hm,rfl⟩,by show(!decide (lU n x))=true;simpa using hx⟩
end Go.Proofs.YtgmodehldmahiaaGreatDoor.bF
namespace Go.Proofs.YtgmodehldmahiaaGreatDoor.bF
open Go Go.RowKit Go.Tm
theorem Fx(pv wv cv:Value)(p:jE)(w:World)(hp:jf w pv wv cv p):
  Calls Tryz.prog 17 #[I6 pv wv cv p] w fun e w'=>(∃k,e=.returned (.int .i64 k)∧(k=0↔gJ p))∧Below w.heap.size w w':=by
 have HP:=ah hp
 obtain⟨a1,c1,a2,c2,a3,c3,rfl,rfl,rfl,jO,hl2,qM⟩:=hp.shape
 obtain⟨vs,hvs,hvl,hvr⟩:=hp.wins.row
 have HL:=ah (fun W h=>El (.slice a2 p.wins.length c2) vs 42 #[] Rx W h (aaO vs p.wins w W hvl hvr))
 rw[ae9 hvl hvr] at HL
 have HVS:=ah hvs
 have HPT:=ah (fun W h=>Em (.slice a1 p.parts.length c1) (p.parts.map Ut) 45 #[] VZ W h (aar p.parts W))
 rw[aaq] at HPT
 have HCH:=ah (fun(W:World) (B:Nat) hB h=>En (.slice a3 p.chans.length c3) (p.chans.map uG) 49 #[.pointer (some ⟨B,0,none⟩)] (V3 p.parts.length) W h (abl a1 p.parts.length c1 p.frame (.slice a2 p.wins.length c2) (.slice a3 p.chans.length c3) p.chans B W hB rfl rfl))
 rw[abk] at HCH
 clear hp hvs hvl hvr
 by_cases h1:p.parts.length≤4
 case neg=>
  have h1':(4:Int)<p.parts.length:=aj
  go_enter Tryz.func17,Tryz.ntmps17
  go_wp2_with fail
  go_ret
  exact⟨⟨4,aI,by constructor;(intro h;omega);(intro h;exact absurd h.zX h1)⟩,aG⟩
 by_cases h2:p.wins.length≤3
 case neg=>
  have h2':(3:Int)<p.wins.length:=aj
  go_enter Tryz.func17,Tryz.ntmps17
  go_wp2_with fail
  go_ret
  exact⟨⟨4,aI,by constructor;(intro h;omega);(intro h;exact absurd h.anW h2)⟩,aG⟩
 by_cases h3:p.chans.length≤6
 case neg=>
  have h3':(6:Int)<p.chans.length:=aj
  go_enter Tryz.func17,Tryz.ntmps17
  go_wp2_with fail
  go_ret
  exact⟨⟨4,aI,by constructor;(intro h;omega);(intro h;exact absurd h.Cn h3)⟩,aG⟩
 have h1':¬(4:Int)<p.parts.length:=aj
 have h2':¬(3:Int)<p.wins.length:=aj
 have h3':¬(6:Int)<p.chans.length:=aj
 have d1:decide (4<p.parts.length)=false:=aV
 have d2:decide (3<p.wins.length)=false:=aV
 have d3:decide (6<p.chans.length)=false:=aV
 by_cases h4:∃l∈p.wins,8<l.length
 case pos=>
  rw[decide_eq_true h4] at HL
  have HN:=ah (show¬gJ p from fun h=>by obtain⟨l,hl,h8⟩:=h4;have:=h.anV l hl;omega)
  clear h4
  go_enter Tryz.func17,Tryz.ntmps17
  go_wp2_with fail
  with_reducible refine(HL.out _ (HVS.out.below aG)).mono ?_
  rintro e w1 ⟨rfl,hb1⟩
  have bZ:Below w.heap.size w w1:=aG
  go_wp2_with fail
  go_ret
  exact⟨⟨4,aI,ach⟩,bZ⟩
 rw[decide_eq_false h4] at HL
 have H4:=ah (show∀l∈p.wins,l.length≤8 from fun l hl=>by rcases Nat.lt_or_ge 8 l.length with h|h;exact absurd ⟨l,hl,h⟩ h4;exact h)
 clear h4
 go_enter Tryz.func17,Tryz.ntmps17
 go_wp2_with fail
 with_reducible refine(HL.out _ (HVS.out.below aG)).mono ?_
 rintro e w1 ⟨rfl,hb1⟩
 have hz1:=hb1.size
 simp only[World.size_alloc] at hz1
 have b1:aD w1 w.heap.size #[.slice a1 p.parts.length c1,.int .i64 p.frame,.slice a2 p.wins.length c2,.slice a3 p.chans.length c3] 26:=sP;obtain⟨hc1,mF,jO,mE,oz⟩:=b1.rules;have K1:=ah b1;clear b1
 have hx1:Below w.heap.size w w1:=aG
 clear hb1 HL HVS
 by_cases h5:p.parts.length=0
 case pos=>
  go_wp2_with fail
  go_ret
  exact⟨⟨1,aI,by constructor;(intro h;omega);(intro h;exact absurd h5 h.VN)⟩,hx1⟩
 have e5:((p.parts.length:Int)==0)=false:=qW
 by_cases h6:p.wins.length=0
 case pos=>
  go_wp2_with fail
  go_ret
  exact⟨⟨1,aI,by constructor;(intro h;omega);(intro h;exact absurd h6 h.anX)⟩,hx1⟩
 have e6:((p.wins.length:Int)==0)=false:=qW
 by_cases h7:∃x∈p.parts,¬q9 x
 case pos=>
  rw[decide_eq_true h7] at HPT
  have HN:=ah (show¬gJ p from fun h=>by obtain⟨x,hx,h8⟩:=h7;exact h8 (h.part x hx))
  clear h7
  go_wp2_with fail
  with_reducible refine(HPT.out _ (HP.out.parts.below hx1)).mono ?_
  rintro e w2 ⟨rfl,hb2⟩
  have bZ:Below w.heap.size w w2:=hx1.trans (hb2.mono hx1.size)
  go_wp2_with fail
  go_ret
  exact⟨⟨1,aI,ach⟩,bZ⟩
 rw[decide_eq_false h7] at HPT
 have H7:=ah (show∀x∈p.parts,q9 x from fun x hx=>Classical.byContradiction fun h=>h7 ⟨x,hx,h⟩)
 clear h7
 go_wp2_with fail
 with_reducible refine(HPT.out _ (HP.out.parts.below hx1)).mono ?_
 rintro e w2 ⟨rfl,hb2⟩
 have hz2:=hb2.size
 have b2:aD w2 w.heap.size #[.slice a1 p.parts.length c1,.int .i64 p.frame,.slice a2 p.wins.length c2,.slice a3 p.chans.length c3] 26:=O7;obtain⟨hc2,hf2,hl2,rD,nS⟩:=b2.rules;have K2:=ah b2;clear b2
 have hx2:Below w.heap.size w w2:=hx1.trans (hb2.mono hx1.size)
 have HPL:=ah (HP.out.below hx2)
 clear hc1 mF jO mE oz hb2 hx1 HPT K1 HP hz1 hz2
 by_cases h8:p.frame<1
 case pos=>
  go_wp2_with fail
  go_ret
  exact⟨⟨1,aI,by constructor;(intro h;omega);(intro h;have:=h.ad9;omega)⟩,hx2⟩
 by_cases h9:4096<p.frame
 case pos=>
  go_wp2_with fail
  go_ret
  exact⟨⟨1,aI,by constructor;(intro h;omega);(intro h;have:=h.Fv;omega)⟩,hx2⟩
 have d8:decide (p.frame<1)=false:=by simpa using h8
 have d9:decide (4096<p.frame)=false:=by simpa using h9
 go_wp2_with fail
 have HF:=ah (And.intro (show 1≤p.frame by omega) (show p.frame≤4096 by omega))
 go_loopw [61] (fun t W=>∃i:Nat,i≤p.wins.length∧t=.int .i64 i∧(∀j l,j<i→p.wins[j]?=some l→Gs p.parts.length p.frame 0 l)∧Below w2.heap.size w2 W) (fun t _=>p.wins.length-(intOf t).toNat)
 case atStart=>exact⟨0,Nat.zero_le _,rfl,by intro j l h;omega,Below.refl _ _⟩
 case round=>
  obtain⟨i,hi,rfl,ajx,jo⟩:=hrel
  have HR:=ah ajx
  clear ajx
  have Bj:=jo.size
  obtain⟨wo,rfl⟩:∃x,x=wr:=⟨_,rfl⟩
  by_cases hlt:i<p.wins.length
  ·obtain⟨l,hl⟩:∃l,p.wins[i]?=some l:=⟨_,List.getElem?_eq_getElem hlt⟩
   obtain⟨b,off,a5,c5,rfl,hb,hcell,Ug,hsl⟩:=vB.at (HPL.out.wins.below jo) hl
   have HLI:=ah hl
   have HSL:=ah hsl
   have hwi:IntKind.i64.wrap ((i:Int)+1)=i+1:=IntWalk.i64_in _ aj
   clear hl hsl
   go_wp2_with fail
   go_loopw [6,67] (fun s t W=>∃(k:Nat) (b0:Int),k≤l.length∧t=.int .i64 k∧s=.int .i64 b0∧(Gs p.parts.length p.frame 0 l↔Gs p.parts.length p.frame b0 (l.drop k))∧Below wo.heap.size wo W) (fun _ t _=>l.length-(intOf t).toNat)
   case atStart=>exact⟨0,0,Nat.zero_le _,rfl,rfl,Iff.rfl,Below.refl _ _⟩
   case round=>
    obtain⟨k,b0,hk,rfl,rfl,af',hby⟩:=hrel
    have HIF:=ah af'
    clear af'
    have aoZ:=hby.size
    by_cases hkl:k<l.length
    ·obtain⟨x,hx⟩:∃x,l[k]?=some x:=⟨_,List.getElem?_eq_getElem hkl⟩
     obtain⟨b2,nU,rfl,hb2,q0,q1,q2⟩:=Sl.wn (HSL.out.below hby) hx
     have hdr:=Ww (n:=p.parts.length) (frame:=p.frame) (b:=b0) hx
     have UJ:=ah hdr
     have HWN:=ah (fun W=>V9 a1 p.parts.length c1 p.frame (.slice (some ⟨b,off,none⟩) p.wins.length c2) (.slice a3 p.chans.length c3) x b0 W HF.out.1 HF.out.2)
     have HEZ:=ah (ZF (n:=p.parts.length) (frame:=p.frame) (x:=x) (behind:=b0))
     generalize Oe p.parts.length p.frame x b0=e0 at*
     have hb3:=aD.below (aD.below K2.out jo K2.out.lt) hby (aD.below K2.out jo K2.out.lt).lt
     obtain⟨hc3,hf3,aqf,wX,qL⟩:=hb3.rules
     have hwk:IntKind.i64.wrap ((k:Int)+1)=k+1:=IntWalk.i64_in _ aj
     clear hx hdr hb3
     obtain⟨xp,xf,xl⟩:=x
     dsimp only at q0 q1 q2
     go_wp2_with fail
     with_reducible refine(HWN.out _).mono ?_
     rintro e w5 ⟨rfl,kV⟩
     have LP:=kV.size
     simp only[World.size_alloc] at LP
     have hb4:aD w5 wr.heap.size #[.int .i64 xp,.int .i64 xf,.int .i64 xl] 76:=aD.below (aD.new wr _ _) kV aI
     have hy5:Below wo.heap.size wo w5:=aG
     obtain⟨QJ,xQ,hl4,GR,yR⟩:=hb4.rules
     clear hb4 kV
     by_cases hz:e0=0
     ·subst hz
      have hok:=HEZ.out.1 rfl
      have akd:=hok.1
      unfold uf at akd
      dsimp only at akd
      have sK:=HF.out
      have hwa:IntKind.i64.wrap (xf+xl)=xf+xl:=IntWalk.i64_in _ aj
      have HOK:=ah hok
      clear hok akd sK
      go_wp2_with fail
      go_roundw
      case rel=>
       refine⟨k+1,xf+xl,aj,dn,rfl,?_,hy5⟩
       rw[HIF.out,UJ.out]
       exact⟨fun h=>h.2.2,fun h=>⟨HOK.out.1,HOK.out.2,h⟩⟩
      case measure=>simp[intOf];omega
     ·have hzb:(e0 !=0)=true:=by simpa using hz
      have HZ:=ah hz
      clear hz
      go_wp2_with fail
      go_ret
      refine⟨⟨e0,aI,fun h=>absurd h HZ.out,fun h=>?_⟩,hx2.trans (((jo.trans (hy5.mono Bj)).mono hx2.size))⟩
      have h1:=UJ.out.1 (HIF.out.1 (h.rows l (List.mem_of_getElem? HLI.out)))
      exact HEZ.out.2 ⟨h1.1,h1.2.1⟩
    ·obtain rfl:k=l.length:=by omega
     have hrow:=HIF.out.2 (by rw[List.drop_length];trivial)
     have HRO:=ah hrow
     clear hrow
     go_wp2_with fail
     go_roundw
     case rel=>
      refine⟨i+1,aj,dn,?_,jo.trans (hby.mono Bj)⟩
      intro j m hj hm
      rcases Nat.lt_succ_iff_lt_or_eq.1 hj with hj|rfl
      ·exact HR.out j m hj hm
      ·rw[HLI.out] at hm;cases hm;exact HRO.out
     case measure=>simp[intOf];omega
  ·obtain rfl:i=p.wins.length:=by omega
   have hb3:=aD.below K2.out jo K2.out.lt
   have HC3:=ah (HCH.out wo w.heap.size hb3 (HPL.out.chans.below jo))
   obtain⟨hc3,hf3,aqf,wX,qL⟩:=hb3.rules
   clear hb3 HCH
   by_cases hch:∃x∈p.chans,¬lU p.parts.length x
   ·rw[decide_eq_true hch] at HC3
    have HN:=ah (show¬gJ p from fun h=>by obtain⟨x,hx,h8⟩:=hch;exact h8 (h.chans x hx))
    clear hch
    go_wp2_with fail
    with_reducible refine HC3.out.mono ?_
    rintro e w5 ⟨rfl,kV⟩
    go_wp2_with fail
    go_ret
    exact⟨⟨1,aI,ach⟩,hx2.trans ((jo.trans (kV.mono Bj)).mono hx2.size)⟩
   ·rw[decide_eq_false hch] at HC3
    have HOK:=ah (show gJ p from⟨h1,h2,h3,H4.out,h5,h6,H7.out,HF.out.1,HF.out.2,fun l hl=>by
     obtain⟨j,hj,he⟩:=List.mem_iff_getElem.1 hl
     exact HR.out j l hj (by rw[List.getElem?_eq_getElem hj,he]),fun c hc=>Classical.byContradiction fun h=>hch ⟨c,hc,h⟩⟩)
    clear hch
    go_wp2_with fail
    with_reducible refine HC3.out.mono ?_
    rintro e w5 ⟨rfl,kV⟩
    go_wp2_with fail
    go_ret
    exact⟨⟨0,aI,fun _=>HOK.out,fun _=>rfl⟩,hx2.trans ((jo.trans (kV.mono Bj)).mono hx2.size)⟩
end Go.Proofs.YtgmodehldmahiaaGreatDoor.bF
namespace Go.Proofs.YtgmodehldmahiaaGreatDoor.bF
open Go Go.RowKit Go.Tm
theorem Nv{W:World}{fl:Nat}{cs:List Value}(h:Shaped Tryz.prog W fl 76 cs):
  ∃(a:Int) (b:Int) (c:Int),cs=[.int .i64 a,.int .i64 b,.int .i64 c]∧(Lit.int .i64 a).wf=true∧(Lit.int .i64 b).wf=true∧(Lit.int .i64 c).wf=true:=by
 obtain⟨g1,hl,hf⟩:=nD Tryz.underlying76 h
 have h3:Tryz.prog.cellsOf 76=3:=ay
 rw[h3] at hl
 have f0:Shaped Tryz.prog W g1 3 ((cs.drop 0).take (Tryz.prog.cellsOf 3)):=hf 0 _ rfl
 have f1:Shaped Tryz.prog W g1 3 ((cs.drop 1).take (Tryz.prog.cellsOf 3)):=hf 1 _ rfl
 have f2:Shaped Tryz.prog W g1 3 ((cs.drop 2).take (Tryz.prog.cellsOf 3)):=hf 2 _ rfl
 rw[show Tryz.prog.cellsOf 3=1 by kernel_rfl] at f0 f1 f2
 obtain⟨a,c0,ha⟩:=ko Tryz.underlying3 f0
 obtain⟨b,c1,hb⟩:=ko Tryz.underlying3 f1
 obtain⟨c,c2,hc⟩:=ko Tryz.underlying3 f2
 exact⟨a,b,c,acX hl (z8 c0) (z8 c1) (z8 c2),ha,hb,hc⟩
theorem agt{W:World}(g:Nat)(es:List Value)(h:Shaped Tryz.prog W g 76 es):∀c∈es,c.oneCell'=true:=by
 obtain⟨a,b,c,rfl,_⟩:=Nv h
 intro c hc
 simp only[List.mem_cons,List.not_mem_nil,or_false] at hc
 rcases hc with rfl|rfl|rfl<;>rfl
theorem ala{W:World}{x:Value}(hv:Val true 3 x)(h:∃g,Shaped Tryz.prog W g 76 x.cells.toList):
  ∃(a:Int) (b:Int) (c:Int),x=.agg #[.int .i64 a,.int .i64 b,.int .i64 c]∧(Lit.int .i64 a).wf=true∧(Lit.int .i64 b).wf=true∧(Lit.int .i64 c).wf=true:=by
 obtain⟨g,h⟩:=h
 obtain⟨cs,rfl,hs,_⟩:∃cs:Array Value,x=.agg cs∧cs.size=3∧∀c∈cs.toList,c.oneCell'=true:=hv
 obtain⟨a,b,c,he,hf⟩:=Nv h
 exact⟨a,b,c,by rw[show cs=#[.int .i64 a,.int .i64 b,.int .i64 c] from Array.ext' he],hf⟩
theorem NU{W:World}{fl:Nat}{cs:List Value}(h:Shaped Tryz.prog W fl 95 cs):
  ∃(a:Int) (b:Int) (c:Int) (d:Int) (e:Int),cs=[.int .i64 a,.int .i64 b,.int .i64 c,.int .i64 d,.int .i64 e]∧(Lit.int .i64 a).wf=true∧(Lit.int .i64 b).wf=true∧(Lit.int .i64 c).wf=true∧(Lit.int .i64 d).wf=true∧(Lit.int .i64 e).wf=true:=by
 obtain⟨g1,hl,hf⟩:=nD Tryz.underlying95 h
 have h3:Tryz.prog.cellsOf 95=5:=ay
 rw[h3] at hl
 have f0:Shaped Tryz.prog W g1 3 ((cs.drop 0).take (Tryz.prog.cellsOf 3)):=hf 0 _ rfl
 have f1:Shaped Tryz.prog W g1 3 ((cs.drop 1).take (Tryz.prog.cellsOf 3)):=hf 1 _ rfl
 have f2:Shaped Tryz.prog W g1 3 ((cs.drop 2).take (Tryz.prog.cellsOf 3)):=hf 2 _ rfl
 have f3:Shaped Tryz.prog W g1 3 ((cs.drop 3).take (Tryz.prog.cellsOf 3)):=hf 3 _ rfl
 have f4:Shaped Tryz.prog W g1 3 ((cs.drop 4).take (Tryz.prog.cellsOf 3)):=hf 4 _ rfl
 rw[show Tryz.prog.cellsOf 3=1 by kernel_rfl] at f0 f1 f2 f3 f4
 obtain⟨a,c0,ha⟩:=ko Tryz.underlying3 f0
 obtain⟨b,c1,hb⟩:=ko Tryz.underlying3 f1
 obtain⟨c,c2,hc⟩:=ko Tryz.underlying3 f2
 obtain⟨d,c3,hd⟩:=ko Tryz.underlying3 f3
 obtain⟨e,c4,he⟩:=ko Tryz.underlying3 f4
 exact⟨a,b,c,d,e,an5 hl (z8 c0) (z8 c1) (z8 c2) (z8 c3) (z8 c4),ha,hb,hc,hd,he⟩
theorem ahu{W:World}(g:Nat)(es:List Value)(h:Shaped Tryz.prog W g 95 es):∀c∈es,c.oneCell'=true:=by
 obtain⟨a,b,c,d,e,rfl,_⟩:=NU h
 intro c hc
 simp only[List.mem_cons,List.not_mem_nil,or_false] at hc
 rcases hc with rfl|rfl|rfl|rfl|rfl<;>rfl
theorem al1{W:World}{x:Value}(hv:Val true 5 x)(h:∃g,Shaped Tryz.prog W g 95 x.cells.toList):
  ∃(a:Int) (b:Int) (c:Int) (d:Int) (e:Int),x=.agg #[.int .i64 a,.int .i64 b,.int .i64 c,.int .i64 d,.int .i64 e]∧(Lit.int .i64 a).wf=true∧(Lit.int .i64 b).wf=true∧(Lit.int .i64 c).wf=true∧(Lit.int .i64 d).wf=true∧(Lit.int .i64 e).wf=true:=by
 obtain⟨g,h⟩:=h
 obtain⟨cs,rfl,hs,_⟩:∃cs:Array Value,x=.agg cs∧cs.size=5∧∀c∈cs.toList,c.oneCell'=true:=hv
 obtain⟨a,b,c,d,e,he,hf⟩:=NU h
 exact⟨a,b,c,d,e,by rw[show cs=#[.int .i64 a,.int .i64 b,.int .i64 c,.int .i64 d,.int .i64 e] from Array.ext' he],hf⟩
theorem acX{α:Type}{l:List α}(h:l.length=3):∃a b c,l=[a,b,c]:=by
 match l,h with
 |[a,b,c],_=>exact⟨a,b,c,rfl⟩
theorem NH{W:World}{fl:Nat}{cs:List Value}(h:Shaped Tryz.prog W fl 74 cs):
  ∃(m a b c:Int),cs=[.int .i64 m,.int .i64 a,.int .i64 b,.int .i64 c]:=by
 obtain⟨g1,hl,hf⟩:=nD Tryz.underlying74 h
 have h4:Tryz.prog.cellsOf 74=4:=ay
 have h3:Tryz.prog.cellsOf 72=3:=ay
 have h1:Tryz.prog.cellsOf 3=1:=ay
 rw[h4] at hl
 have hM:Shaped Tryz.prog W g1 3 ((cs.drop 0).take (Tryz.prog.cellsOf 3)):=hf 0 _ rfl
 have hR:Shaped Tryz.prog W g1 72 ((cs.drop 1).take (Tryz.prog.cellsOf 72)):=hf 1 _ rfl
 simp only[h3,h1,List.drop_zero] at hR hM
 obtain⟨l,ll,hls,hw⟩:=Tx Tryz.underlying72 Tryz.underlying3 h1 h3 hR
 obtain⟨m,hm,hwm⟩:=ko Tryz.underlying3 hM
 obtain⟨a,b,c,rfl⟩:=acX ll
 match cs,hl with
 |[x0,x1,x2,x3],_=>
  simp at hm hls
  obtain⟨rfl,rfl,rfl⟩:=hls
  subst hm
  exact⟨m,a,b,c,rfl⟩
theorem agV{W:World}(g:Nat)(es:List Value)(h:Shaped Tryz.prog W g 74 es):∀c∈es,c.oneCell'=true:=by
 obtain⟨m,a,b,c,rfl⟩:=NH h
 intro c hc
 simp only[List.mem_cons,List.not_mem_nil,or_false] at hc
 rcases hc with rfl|rfl|rfl|rfl<;>rfl
theorem agQ{W:World}(g:Nat)(es:List Value)(h:Shaped Tryz.prog W g 77 es):∀c∈es,c.oneCell'=true:=by
 obtain⟨a,n,cap,rfl,_⟩:=uy Tryz.underlying77 h
 exact acy
theorem PL{α:Type}{enc:α→Value}{xs:List Value}(h:∀x∈xs,∃a:α,x=enc a):∃l:List α,xs=l.map enc:=by
 induction xs with
 |nil=>exact⟨[],rfl⟩
 |cons x xs ih=>
  obtain⟨a,rfl⟩:=h x aI
  obtain⟨l,rfl⟩:=ih fun y hy=>h y zQ
  exact⟨a::l,rfl⟩
theorem WC{W:World}{fl:Nat}{v:Value}(h:Shaped Tryz.prog W fl 22 [v]):∃l:List Pt,Sl W true 4 v (l.map Ut):=by
 obtain⟨xs,hsl,hx,_⟩:=oK Ap aC agV Tryz.underlying22 h
 obtain⟨l,rfl⟩:=PL (enc:=Ut) (xs:=xs) fun x hm=>by
  obtain⟨g,hg⟩:=hx x hm
  obtain⟨cs,rfl,hs,_⟩:∃cs:Array Value,x=.agg cs∧cs.size=4∧∀c∈cs.toList,c.oneCell'=true:=hsl.val x hm
  obtain⟨m,a,b,c,he⟩:=NH hg
  exact⟨(m,a,b,c),by rw[show cs=#[.int .i64 m,.int .i64 a,.int .i64 b,.int .i64 c] from Array.ext' he]⟩
 exact⟨l,hsl⟩
theorem V8{W:World}{fl:Nat}{v:Value}(h:Shaped Tryz.prog W fl 77 [v]):∃l:List Wn,Sl W true 3 v (l.map QF):=by
 obtain⟨xs,hsl,hx,_⟩:=oK alg aC agt Tryz.underlying77 h
 obtain⟨l,rfl⟩:=PL (enc:=QF) (xs:=xs) fun x hm=>by
  obtain⟨a,b,c,he,_⟩:=ala (hsl.val x hm) (hx x hm)
  exact⟨(a,b,c),he⟩
 exact⟨l,hsl⟩
theorem Xh{W:World}{fl:Nat}{v:Value}(h:Shaped Tryz.prog W fl 24 [v]):∃l:List Ch,Sl W true 5 v (l.map uG):=by
 obtain⟨xs,hsl,hx,_⟩:=oK kK aC ahu Tryz.underlying24 h
 obtain⟨l,rfl⟩:=PL (enc:=uG) (xs:=xs) fun x hm=>by
  obtain⟨a,b,c,d,e,he,_⟩:=al1 (hsl.val x hm) (hx x hm)
  exact⟨(a,b,c,d,e),he⟩
 exact⟨l,hsl⟩
theorem agu{W:World}{xs:List Value}(h:∀x∈xs,∃l:List Wn,Sl W true 3 x (l.map QF)):
  ∃ls:List (List Wn),xs.length=ls.length∧∀(i:Nat) (u:Value) (l:List Wn),xs[i]?=some u→ls[i]?=some l→Sl W true 3 u (l.map QF):=by
 induction xs with
 |nil=>exact⟨[],rfl,by intro i u l hu;simp at hu⟩
 |cons x xs ih=>
  obtain⟨l,hl⟩:=h x aI
  obtain⟨ls,h1,h2⟩:=ih fun y hy=>h y zQ
  refine⟨l::ls,yt,?_⟩
  exact aix
theorem P_{W:World}{fl:Nat}{v:Value}(h:Shaped Tryz.prog W fl 23 [v]):∃ls:List (List Wn),vB W v ls:=by
 obtain⟨xs,hsl,hx,_⟩:=oK PG aC agQ Tryz.underlying23 h
 obtain⟨ls,h1,h2⟩:=agu (W:=W) (xs:=xs) fun x hm=>by
  obtain⟨g,hg⟩:=hx x hm
  obtain⟨a,n,cap,he,_⟩:=uy Tryz.underlying77 hg
  have hxe:x.cells.toList=[x]:=by
   have:x.oneCell'=true∧(1:Nat)=1:=hsl.val x hm
   cases x with
   |agg cs=>cases this.1
   |_=>rfl
  rw[hxe] at hg
  exact V8 hg
 exact⟨ls,⟨xs,hsl,h1,h2⟩⟩
end Go.Proofs.YtgmodehldmahiaaGreatDoor.bF
namespace Go.Proofs.YtgmodehldmahiaaGreatDoor.bF
open Go Go.RowKit Go.Tm
end Go.Proofs.YtgmodehldmahiaaGreatDoor.bF
