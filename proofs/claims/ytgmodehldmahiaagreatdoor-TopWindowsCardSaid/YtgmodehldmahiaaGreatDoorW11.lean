/- Part 11 of 50 of the proof of topWindows_holds. Conditions: see each. -/
import Derived.Test.YtgmodehldmahiaaGreatDoorW01
import Derived.Test.YtgmodehldmahiaaGreatDoorW02
set_option linter.unusedVariables false
set_option linter.unusedSimpArgs false
set_option maxRecDepth 8192
set_option maxHeartbeats 40000000
namespace Go.Proofs.YtgmodehldmahiaaGreatDoor.Plan
open Go Go.RowKit Go.Tm
theorem j5:Ty Tryz.prog 3 1 false:=⟨aj,aj,aB,aj⟩
theorem xu:Ty Tryz.prog 74 4 true:=⟨aj,aj,aB,aj⟩
theorem agC:Ty Tryz.prog 76 3 true:=⟨aj,aj,aB,aj⟩
theorem Km:Ty Tryz.prog 77 1 false:=⟨aj,aj,aB,aj⟩
theorem lX:Ty Tryz.prog 95 5 true:=⟨aj,aj,aB,aj⟩
theorem En(p:Value→Bool)(xs:List Value):decide (0≤idx p xs)=xs.any p:=by
 rcases jH p xs with⟨h,hn⟩|⟨i,x,h,hx,hp,_⟩
 ·rw[h]
  have:xs.any p=false:=by rw[List.any_eq_false];intro x hx;rw[hn x hx];simp
  rw[this];rfl
 ·rw[h]
  have:xs.any p=true:=by rw[List.any_eq_true];exact⟨x,List.mem_of_getElem? hx,hp⟩
  rw[this];simp
theorem pR(v:Value)(xs:List Value)(fid:FuncId)(caps:Array Value)(p:Value→Bool)(w:World)(hsl:Sl w false 1 v xs)(hp:Pred Tryz.prog w none fid caps p xs):
  Calls Tryz.prog 83 #[v,.func (.func fid) #[] caps] w fun e w'=>e=.returned (.int .i64 (idx p xs))∧Below w.heap.size w w':=by
 obtain⟨hsz,a,cap,rfl,hl,hm,hform⟩:=hsl
 unfold maxLen at hm
 have hlen:xs.length≤9223372036854775807:=ah
 go_enter Tryz.func83,Tryz.ntmps83
 go_wp2_with fail
 go_loopw [8] (fun t wr=>∃i:Nat,i≤xs.length∧t=.int .i64 i∧Below w.heap.size w wr∧∀j y,j<i→xs[j]?=some y→p y=false) (fun t _=>xs.length-(intOf t).toNat)
 case atStart=>exact⟨0,Nat.zero_le _,rfl,Below.refl _ _,tF⟩
 case round=>
  obtain⟨i,hi,rfl,hbw,fG⟩:=hrel
  have HP:=Lib.hid fG
  clear fG
  by_cases hlt:i<xs.length
  ·obtain⟨x,hx⟩:∃x,xs[i]?=some x:=⟨_,List.getElem?_eq_getElem hlt⟩
   have hmem:x∈xs:=List.mem_of_getElem? hx
   have HV:=Lib.hid (hsz _ hmem)
   obtain⟨b,off,rfl,hb,hcell⟩:∃b off,a=some ⟨b,off,none⟩∧b<w.heap.size∧Cells wr b (off+i*1) x.cells.toList:=yx
   have HX:=Lib.hid hx
   have nu:=Lib.hid hcell
   clear hx hcell hform hsz
   have hcall:=hp.asks wr (ay hbw none) _ hmem
   have hbody:=hp.body
   unfold Body at hbody
   have HC:=Lib.hid hcall
   clear hcall hp
   cases hpx:p x
   ·have uG:=Lib.hid hpx
    rw[hpx] at HC
    clear hpx
    go_wp2_with(first|(refine aO rfl 3 _ rfl b (off+i*1) bT x j5 HV.out nu.out ?_)|fail)
    exact Hr
   ·have uG:=Lib.hid hpx
    rw[hpx] at HC
    clear hpx
    go_wp2_with(first|(refine aO rfl 3 _ rfl b (off+i*1) bT x j5 HV.out nu.out ?_)|fail)
    exact yA
  ·exact yB
theorem GL(v:Value)(xs:List Value)(fid:FuncId)(caps:Array Value)(p:Value→Bool)(w:World)(hsl:Sl w true 4 v xs)(hp:Pred Tryz.prog w none fid caps p xs):
  Calls Tryz.prog 66 #[v,.func (.func fid) #[] caps] w fun e w'=>e=.returned (.int .i64 (idx p xs))∧Below w.heap.size w w':=by
 obtain⟨hsz,a,cap,rfl,hl,hm,hform⟩:=hsl
 unfold maxLen at hm
 have hlen:xs.length≤9223372036854775807:=ah
 go_enter Tryz.func66,Tryz.ntmps66
 go_wp2_with fail
 go_loopw [8] (fun t wr=>∃i:Nat,i≤xs.length∧t=.int .i64 i∧Below w.heap.size w wr∧∀j y,j<i→xs[j]?=some y→p y=false) (fun t _=>xs.length-(intOf t).toNat)
 case atStart=>exact⟨0,Nat.zero_le _,rfl,Below.refl _ _,tF⟩
 case round=>
  obtain⟨i,hi,rfl,hbw,fG⟩:=hrel
  have HP:=Lib.hid fG
  clear fG
  by_cases hlt:i<xs.length
  ·obtain⟨x,hx⟩:∃x,xs[i]?=some x:=⟨_,List.getElem?_eq_getElem hlt⟩
   have hmem:x∈xs:=List.mem_of_getElem? hx
   have HV:=Lib.hid (hsz _ hmem)
   obtain⟨b,off,rfl,hb,hcell⟩:∃b off,a=some ⟨b,off,none⟩∧b<w.heap.size∧Cells wr b (off+i*4) x.cells.toList:=yx
   have HX:=Lib.hid hx
   have nu:=Lib.hid hcell
   clear hx hcell hform hsz
   have hcall:=hp.asks wr (ay hbw none) _ hmem
   have hbody:=hp.body
   unfold Body at hbody
   have HC:=Lib.hid hcall
   clear hcall hp
   cases hpx:p x
   ·have uG:=Lib.hid hpx
    rw[hpx] at HC
    clear hpx
    go_wp2_with(first|(refine aO rfl 74 _ rfl b (off+i*4) bT x xu HV.out nu.out ?_)|fail)
    exact Hr
   ·have uG:=Lib.hid hpx
    rw[hpx] at HC
    clear hpx
    go_wp2_with(first|(refine aO rfl 74 _ rfl b (off+i*4) bT x xu HV.out nu.out ?_)|fail)
    exact yA
  ·exact yB
theorem GI(v:Value)(xs:List Value)(fid:FuncId)(caps:Array Value)(p:Value→Bool)(w:World)(hsl:Sl w false 1 v xs)(hp:Pred Tryz.prog w none fid caps p xs):
  Calls Tryz.prog 65 #[v,.func (.func fid) #[] caps] w fun e w'=>e=.returned (.int .i64 (idx p xs))∧Below w.heap.size w w':=by
 obtain⟨hsz,a,cap,rfl,hl,hm,hform⟩:=hsl
 unfold maxLen at hm
 have hlen:xs.length≤9223372036854775807:=ah
 go_enter Tryz.func65,Tryz.ntmps65
 go_wp2_with fail
 go_loopw [8] (fun t wr=>∃i:Nat,i≤xs.length∧t=.int .i64 i∧Below w.heap.size w wr∧∀j y,j<i→xs[j]?=some y→p y=false) (fun t _=>xs.length-(intOf t).toNat)
 case atStart=>exact⟨0,Nat.zero_le _,rfl,Below.refl _ _,tF⟩
 case round=>
  obtain⟨i,hi,rfl,hbw,fG⟩:=hrel
  have HP:=Lib.hid fG
  clear fG
  by_cases hlt:i<xs.length
  ·obtain⟨x,hx⟩:∃x,xs[i]?=some x:=⟨_,List.getElem?_eq_getElem hlt⟩
   have hmem:x∈xs:=List.mem_of_getElem? hx
   have HV:=Lib.hid (hsz _ hmem)
   obtain⟨b,off,rfl,hb,hcell⟩:∃b off,a=some ⟨b,off,none⟩∧b<w.heap.size∧Cells wr b (off+i*1) x.cells.toList:=yx
   have HX:=Lib.hid hx
   have nu:=Lib.hid hcell
   clear hx hcell hform hsz
   have hcall:=hp.asks wr (ay hbw none) _ hmem
   have hbody:=hp.body
   unfold Body at hbody
   have HC:=Lib.hid hcall
   clear hcall hp
   cases hpx:p x
   ·have uG:=Lib.hid hpx
    rw[hpx] at HC
    clear hpx
    go_wp2_with(first|(refine aO rfl 77 _ rfl b (off+i*1) bT x Km HV.out nu.out ?_)|fail)
    exact Hr
   ·have uG:=Lib.hid hpx
    rw[hpx] at HC
    clear hpx
    go_wp2_with(first|(refine aO rfl 77 _ rfl b (off+i*1) bT x Km HV.out nu.out ?_)|fail)
    exact yA
  ·exact yB
theorem r9(v:Value)(xs:List Value)(fid:FuncId)(caps:Array Value)(p:Value→Bool)(w:World)(hsl:Sl w true 5 v xs)(hp:Pred Tryz.prog w none fid caps p xs):
  Calls Tryz.prog 69 #[v,.func (.func fid) #[] caps] w fun e w'=>e=.returned (.int .i64 (idx p xs))∧Below w.heap.size w w':=by
 obtain⟨hsz,a,cap,rfl,hl,hm,hform⟩:=hsl
 unfold maxLen at hm
 have hlen:xs.length≤9223372036854775807:=ah
 go_enter Tryz.func69,Tryz.ntmps69
 go_wp2_with fail
 go_loopw [8] (fun t wr=>∃i:Nat,i≤xs.length∧t=.int .i64 i∧Below w.heap.size w wr∧∀j y,j<i→xs[j]?=some y→p y=false) (fun t _=>xs.length-(intOf t).toNat)
 case atStart=>exact⟨0,Nat.zero_le _,rfl,Below.refl _ _,tF⟩
 case round=>
  obtain⟨i,hi,rfl,hbw,fG⟩:=hrel
  have HP:=Lib.hid fG
  clear fG
  by_cases hlt:i<xs.length
  ·obtain⟨x,hx⟩:∃x,xs[i]?=some x:=⟨_,List.getElem?_eq_getElem hlt⟩
   have hmem:x∈xs:=List.mem_of_getElem? hx
   have HV:=Lib.hid (hsz _ hmem)
   obtain⟨b,off,rfl,hb,hcell⟩:∃b off,a=some ⟨b,off,none⟩∧b<w.heap.size∧Cells wr b (off+i*5) x.cells.toList:=yx
   have HX:=Lib.hid hx
   have nu:=Lib.hid hcell
   clear hx hcell hform hsz
   have hcall:=hp.asks wr (ay hbw none) _ hmem
   have hbody:=hp.body
   unfold Body at hbody
   have HC:=Lib.hid hcall
   clear hcall hp
   cases hpx:p x
   ·have uG:=Lib.hid hpx
    rw[hpx] at HC
    clear hpx
    go_wp2_with(first|(refine aO rfl 95 _ rfl b (off+i*5) bT x lX HV.out nu.out ?_)|fail)
    exact Hr
   ·have uG:=Lib.hid hpx
    rw[hpx] at HC
    clear hpx
    go_wp2_with(first|(refine aO rfl 95 _ rfl b (off+i*5) bT x lX HV.out nu.out ?_)|fail)
    exact yA
  ·exact yB
theorem CP(v:Value)(xs:List Value)(fid:FuncId)(caps:Array Value)(p:Value→Bool)(w:World)(hsl:Sl w false 1 v xs)(hp:Pred Tryz.prog w none fid caps p xs):
  Calls Tryz.prog 68 #[v,.func (.func fid) #[] caps] w fun e w'=>e=.returned (.bool (xs.any p))∧Below w.heap.size w w':=by
 have HI:=Lib.hid (pR v xs fid caps p w hsl hp)
 have ha:=En p xs
 obtain⟨a,cap,rfl,_⟩:=hsl.shape
 generalize idx p xs=i at*
 generalize xs.any p=r at*
 clear hsl hp
 go_enter Tryz.func68,Tryz.ntmps68
 go_wp2_with fail
 with_reducible refine HI.out.mono ?_
 rintro e w1 ⟨rfl,hb1⟩
 go_wp2_with fail
 go_ret
 exact⟨rfl,hb1⟩
theorem Bl(v:Value)(xs:List Value)(fid:FuncId)(caps:Array Value)(p:Value→Bool)(w:World)(hsl:Sl w true 4 v xs)(hp:Pred Tryz.prog w none fid caps p xs):
  Calls Tryz.prog 44 #[v,.func (.func fid) #[] caps] w fun e w'=>e=.returned (.bool (xs.any p))∧Below w.heap.size w w':=by
 have HI:=Lib.hid (GL v xs fid caps p w hsl hp)
 have ha:=En p xs
 obtain⟨a,cap,rfl,_⟩:=hsl.shape
 generalize idx p xs=i at*
 generalize xs.any p=r at*
 clear hsl hp
 go_enter Tryz.func44,Tryz.ntmps44
 go_wp2_with fail
 with_reducible refine HI.out.mono ?_
 rintro e w1 ⟨rfl,hb1⟩
 go_wp2_with fail
 go_ret
 exact⟨rfl,hb1⟩
theorem Bj(v:Value)(xs:List Value)(fid:FuncId)(caps:Array Value)(p:Value→Bool)(w:World)(hsl:Sl w false 1 v xs)(hp:Pred Tryz.prog w none fid caps p xs):
  Calls Tryz.prog 43 #[v,.func (.func fid) #[] caps] w fun e w'=>e=.returned (.bool (xs.any p))∧Below w.heap.size w w':=by
 have HI:=Lib.hid (GI v xs fid caps p w hsl hp)
 have ha:=En p xs
 obtain⟨a,cap,rfl,_⟩:=hsl.shape
 generalize idx p xs=i at*
 generalize xs.any p=r at*
 clear hsl hp
 go_enter Tryz.func43,Tryz.ntmps43
 go_wp2_with fail
 with_reducible refine HI.out.mono ?_
 rintro e w1 ⟨rfl,hb1⟩
 go_wp2_with fail
 go_ret
 exact⟨rfl,hb1⟩
theorem Bn(v:Value)(xs:List Value)(fid:FuncId)(caps:Array Value)(p:Value→Bool)(w:World)(hsl:Sl w true 5 v xs)(hp:Pred Tryz.prog w none fid caps p xs):
  Calls Tryz.prog 48 #[v,.func (.func fid) #[] caps] w fun e w'=>e=.returned (.bool (xs.any p))∧Below w.heap.size w w':=by
 have HI:=Lib.hid (r9 v xs fid caps p w hsl hp)
 have ha:=En p xs
 obtain⟨a,cap,rfl,_⟩:=hsl.shape
 generalize idx p xs=i at*
 generalize xs.any p=r at*
 clear hsl hp
 go_enter Tryz.func48,Tryz.ntmps48
 go_wp2_with fail
 with_reducible refine HI.out.mono ?_
 rintro e w1 ⟨rfl,hb1⟩
 go_wp2_with fail
 go_ret
 exact⟨rfl,hb1⟩
abbrev Pt:=Int×Int×Int×Int
abbrev Wn:=Int×Int×Int
abbrev Ch:=Int×Int×Int×Int×Int
abbrev OI(x:Pt):Value:= .agg #[.int .i64 x.1,.int .i64 x.2.1,.int .i64 x.2.2.1,.int .i64 x.2.2.2]
abbrev Lv(x:Wn):Value:= .agg #[.int .i64 x.1,.int .i64 x.2.1,.int .i64 x.2.2]
abbrev uI(x:Ch):Value:= .agg #[.int .i64 x.1,.int .i64 x.2.1,.int .i64 x.2.2.1,.int .i64 x.2.2.2.1,.int .i64 x.2.2.2.2]
structure iE where
 parts:List Pt
 frame:Int
 wins:List (List Wn)
 chans:List Ch
structure oD(W:World)(v:Value)(ls:List (List Wn)):Prop where
 row:∃vs,Sl W false 1 v vs∧vs.length=ls.length∧∀(i:Nat) (u:Value) (l:List Wn),vs[i]?=some u→ls[i]?=some l→Sl W true 3 u (l.map Lv)
theorem oD.below{w w':World}{v:Value}{ls:List (List Wn)}(h:oD w v ls)(hb:Below w.heap.size w w'):oD w' v ls:=adW
theorem oD.shape{w:World}{v:Value}{ls:List (List Wn)}(h:oD w v ls):∃a cap,v=.slice a ls.length cap∧ls.length≤9223372036854775807:=Y8
theorem oD.at{w:World}{a:Option Addr}{n cap:Nat}{ls:List (List Wn)}(h:oD w (.slice a n cap) ls){i:Nat}{l:List Wn}(hl:ls[i]?=some l):
  ∃b off a2 cap2,a=some ⟨b,off,none⟩∧b<w.heap.size∧w.cell? ⟨b,off+i,none⟩=some (.slice a2 l.length cap2)∧l.length≤9223372036854775807∧Sl w true 3 (.slice a2 l.length cap2) (l.map Lv):=by
 obtain⟨vs,h1,h2,h3⟩:=h.row
 have hi:i<vs.length:=by rw[h2];exact(List.getElem?_eq_some_iff.1 hl).1
 have hu:=List.getElem?_eq_getElem hi
 obtain⟨b,off,ha,hb,hc⟩:=h1.at hu
 have hs:=h3 i _ l hu hl
 obtain⟨a2,cap2,he,hle⟩:=hs.shape
 have hv:=hc 0 (.slice a2 l.length cap2) (by rw[he];simp[Value.cells])
 rw[he] at hs
 simp only[List.length_map] at hs hle
 exact⟨b,off,a2,cap2,ha,hb,by simpa using hv,hle,hs⟩
structure gq(W:World)(pv wv cv:Value)(p:iE):Prop where
 parts:Sl W true 4 pv (p.parts.map OI)
 wins:oD W wv p.wins
 chans:Sl W true 5 cv (p.chans.map uI)
theorem gq.below{w w':World}{pv wv cv:Value}{p:iE}(h:gq w pv wv cv p)(hb:Below w.heap.size w w'):gq w' pv wv cv p:=
 ⟨h.parts.below hb,h.wins.below hb,h.chans.below hb⟩
abbrev wC(pv wv cv:Value)(p:iE):Value:= .agg #[pv,.int .i64 p.frame,wv,cv]
theorem gq.shape{w:World}{pv wv cv:Value}{p:iE}(h:gq w pv wv cv p):
  ∃a1 c1 a2 c2 a3 c3,pv=.slice a1 p.parts.length c1∧wv=.slice a2 p.wins.length c2∧cv=.slice a3 p.chans.length c3∧
   p.parts.length≤9223372036854775807∧p.wins.length≤9223372036854775807∧p.chans.length≤9223372036854775807:=by
 obtain⟨a1,c1,h1,l1⟩:=h.parts.shape
 obtain⟨a2,c2,h2,l2⟩:=h.wins.shape
 obtain⟨a3,c3,h3,l3⟩:=h.chans.shape
 simp only[List.length_map] at h1 h3 l1 l3
 exact⟨a1,c1,a2,c2,a3,c3,h1,h2,h3,l1,l2,l3⟩
theorem Sl.pt{w:World}{a:Option Addr}{n cap:Nat}{l:List Pt}(h:Sl w true 4 (.slice a n cap) (l.map OI)){i:Nat}{x:Pt}(hx:l[i]?=some x):
  ∃b off,a=some ⟨b,off,none⟩∧b<w.heap.size∧w.cell? ⟨b,off+i*4,none⟩=some (.int .i64 x.1)∧w.cell? ⟨b,off+i*4+1,none⟩=some (.int .i64 x.2.1)∧
   w.cell? ⟨b,off+i*4+2,none⟩=some (.int .i64 x.2.2.1)∧w.cell? ⟨b,off+i*4+3,none⟩=some (.int .i64 x.2.2.2):=by
 obtain⟨b,off,ha,hb,hcell⟩:=h.at (show(l.map OI)[i]?=some (OI x) by simp[hx])
 exact⟨b,off,ha,hb,hcell 0 _ rfl,hcell 1 _ rfl,hcell 2 _ rfl,hcell 3 _ rfl⟩
theorem Sl.wn{w:World}{a:Option Addr}{n cap:Nat}{l:List Wn}(h:Sl w true 3 (.slice a n cap) (l.map Lv)){i:Nat}{x:Wn}(hx:l[i]?=some x):
  ∃b off,a=some ⟨b,off,none⟩∧b<w.heap.size∧w.cell? ⟨b,off+i*3,none⟩=some (.int .i64 x.1)∧w.cell? ⟨b,off+i*3+1,none⟩=some (.int .i64 x.2.1)∧
   w.cell? ⟨b,off+i*3+2,none⟩=some (.int .i64 x.2.2):=by
 obtain⟨b,off,ha,hb,hcell⟩:=h.at (show(l.map Lv)[i]?=some (Lv x) by simp[hx])
 exact⟨b,off,ha,hb,hcell 0 _ rfl,hcell 1 _ rfl,hcell 2 _ rfl⟩
theorem Sl.ch{w:World}{a:Option Addr}{n cap:Nat}{l:List Ch}(h:Sl w true 5 (.slice a n cap) (l.map uI)){i:Nat}{x:Ch}(hx:l[i]?=some x):
  ∃b off,a=some ⟨b,off,none⟩∧b<w.heap.size∧w.cell? ⟨b,off+i*5,none⟩=some (.int .i64 x.1)∧w.cell? ⟨b,off+i*5+1,none⟩=some (.int .i64 x.2.1)∧
   w.cell? ⟨b,off+i*5+2,none⟩=some (.int .i64 x.2.2.1)∧w.cell? ⟨b,off+i*5+3,none⟩=some (.int .i64 x.2.2.2.1)∧w.cell? ⟨b,off+i*5+4,none⟩=some (.int .i64 x.2.2.2.2):=by
 obtain⟨b,off,ha,hb,hcell⟩:=h.at (show(l.map uI)[i]?=some (uI x) by simp[hx])
 exact⟨b,off,ha,hb,hcell 0 _ rfl,hcell 1 _ rfl,hcell 2 _ rfl,hcell 3 _ rfl,hcell 4 _ rfl⟩
def Mq:Value→Bool:=fun v=>match v with|.slice _ n _=>decide (8<n)|_=>false
theorem Oe:Body Tryz.prog 42:=eZ Tryz.func42 aj aj
theorem RL(a:Option Addr)(n cap:Nat)(w:World):Calls Tryz.prog 42 #[.slice a n cap] w fun e w'=>e=.returned (.bool (decide (8<n)))∧Below w.heap.size w w':=by
 go_enter Tryz.func42,Tryz.ntmps42
 go_wp2_with fail
 go_ret
 exact⟨aR,aD⟩
def Xj:Value→Bool:=fun v=>match v with|.int _ n=>decide (n<1∨3<n)|_=>false
theorem Q9:Body Tryz.prog 67:=eZ Tryz.func67 aj aj
theorem Vr(n:Int)(w:World):Calls Tryz.prog 67 #[.int .i64 n] w fun e w'=>e=.returned (.bool (decide (n<1∨3<n)))∧Below w.heap.size w w':=by
 by_cases h:n<1
 ·go_enter Tryz.func67,Tryz.ntmps67
  exact oO
 ·rw[show decide (n<1∨3<n)=decide (3<n) by simp[h]]
  go_enter Tryz.func67,Tryz.ntmps67
  exact mU
theorem aaz(l:List Int)(w:World):Pred Tryz.prog w none 67 #[] Xj (ints l):=
 ⟨Q9,fun w' _ x hm=>by
  obtain⟨n,_,rfl⟩:=List.mem_map.1 hm
  exact Vr n w'⟩
def j_(x:Pt):Prop:=64≤x.1∧x.1≤1024∧x.1%4=0∧1≤x.2.1∧x.2.1≤3∧1≤x.2.2.1∧x.2.2.1≤3∧1≤x.2.2.2∧x.2.2.2≤3
instance(x:Pt):Decidable (j_ x):=by unfold j_;infer_instance
theorem ac9(m a b c:Int)(w:World)(t:TypeId):Sl (w.alloc (.cells #[.int .i64 m,.int .i64 a,.int .i64 b,.int .i64 c] t)) false 1 (.slice (some ⟨w.heap.size,1,none⟩) 3 3) (ints [a,b,c]):=by
 have hr:=(aC.new w #[.int .i64 m,.int .i64 a,.int .i64 b,.int .i64 c] t).rules.1
 refine⟨M8 _,some ⟨w.heap.size,1,none⟩,3,rfl,Nat.le_refl _,aB,.inr ⟨w.heap.size,1,rfl,aI,?_⟩⟩
 intro i x hx j v hj
 match i,hx with
 |0,hx=>cases hx;match j,hj with|0,hj=>cases hj;exact hr 1
 |1,hx=>cases hx;match j,hj with|0,hj=>cases hj;exact hr 2
 |2,hx=>cases hx;match j,hj with|0,hj=>cases hj;exact hr 3
theorem aau(x:Pt)(w:World):Calls Tryz.prog 46 #[OI x] w fun e w'=>e=.returned (.bool (decide (j_ x)))∧Below w.heap.size w w':=by
 obtain⟨m,a,b,c⟩:=x
 unfold j_
 dsimp only
 by_cases h1:64≤m
 case neg=>
  rw[show decide (64≤m∧m≤1024∧m%4=0∧1≤a∧a≤3∧1≤b∧b≤3∧1≤c∧c≤3)=false by simp[h1]]
  go_enter Tryz.func46,Tryz.ntmps46
  exact mU
 by_cases h2:m≤1024
 case neg=>
  rw[show decide (64≤m∧m≤1024∧m%4=0∧1≤a∧a≤3∧1≤b∧b≤3∧1≤c∧c≤3)=false by simp[h2]]
  go_enter Tryz.func46,Tryz.ntmps46
  exact mU
 by_cases h3:m%4=0
 case neg=>
  rw[show decide (64≤m∧m≤1024∧m%4=0∧1≤a∧a≤3∧1≤b∧b≤3∧1≤c∧c≤3)=false by simp[h3]]
  have h3':(m%4==0)=false:=by simpa using h3
  have h3t:m.tmod 4=m%4:=Int.tmod_eq_emod_of_nonneg ah
  go_enter Tryz.func46,Tryz.ntmps46
  exact mU
 have h3t:m.tmod 4=m%4:=Int.tmod_eq_emod_of_nonneg ah
 have HC:=Lib.hid (CP _ (ints [a,b,c]) 67 #[] Xj _ (ac9 m a b c w 74) (aaz [a,b,c] _))
 have hany:(!((ints [a,b,c]).any Xj))=decide (64≤m∧m≤1024∧m%4=0∧1≤a∧a≤3∧1≤b∧b≤3∧1≤c∧c≤3):=by
  rw[Bool.eq_iff_iff]
  simp[Xj,h1,h2,h3]
  omega
 have HN:=Lib.hid hany
 generalize(ints [a,b,c]).any Xj=r at*
 clear hany
 go_enter Tryz.func46,Tryz.ntmps46
 go_wp2_with fail
 with_reducible refine HC.out.mono ?_
 rintro e w1 ⟨rfl,hb1⟩
 have hbw:Below w.heap.size w w1:=aD
 go_wp2_with fail
 go_ret
 exact⟨by rw[←HN.out];simp,hbw⟩
def mq(n:Nat)(frame:Int)(x:Wn):Prop:=0≤x.1∧x.1<n∧0≤x.2.1∧2<x.2.2∧x.2.2≤frame∧x.2.1≤frame-x.2.2
instance(n:Nat)(frame:Int)(x:Wn):Decidable (mq n frame x):=by unfold mq;infer_instance
def Jy(n:Nat)(frame:Int)(x:Wn)(behind:Int):Int:=if mq n frame x then(if x.2.1<behind then 9 else 0) else 1
theorem UE{n:Nat}{frame:Int}{x:Wn}{behind:Int}:Jy n frame x behind=0↔mq n frame x∧behind≤x.2.1:=by
 unfold Jy
 by_cases h:mq n frame x
 ·by_cases h2:x.2.1<behind
  ·simp[h,h2]
  ·simp[h,h2];omega
 ·simp[h]
theorem QG(a1:Option Addr)(n c1:Nat)(frame:Int)(wv cv:Value)(x:Wn)(behind:Int)(w:World)(hf:1≤frame)(hf2:frame≤4096):
  Calls Tryz.prog 47 #[.agg #[.slice a1 n c1,.int .i64 frame,wv,cv],Lv x,.int .i64 behind] w fun e w'=>e=.returned (.int .i64 (Jy n frame x behind))∧Below w.heap.size w w':=by
 obtain⟨p,f,l⟩:=x
 have h0:¬mq n frame (p,f,l)→Jy n frame (p,f,l) behind=1:=fun h=>if_neg h
 unfold mq at h0
 dsimp only at h0⊢
 by_cases p0:0≤p
 case neg=>
  rw[h0 iU]
  clear h0
  go_enter Tryz.func47,Tryz.ntmps47
  exact mU
 by_cases p1:p<n
 case neg=>
  rw[h0 iU]
  clear h0
  go_enter Tryz.func47,Tryz.ntmps47
  exact mU
 by_cases p2:0≤f
 case neg=>
  rw[h0 iU]
  clear h0
  go_enter Tryz.func47,Tryz.ntmps47
  exact mU
 by_cases p3:2<l
 case neg=>
  rw[h0 iU]
  clear h0
  go_enter Tryz.func47,Tryz.ntmps47
  exact mU
 by_cases p4:l≤frame
 case neg=>
  rw[h0 iU]
  clear h0
  go_enter Tryz.func47,Tryz.ntmps47
  exact mU
 by_cases p5:f≤frame-l
 case neg=>
  rw[h0 iU]
  have hw:IntKind.i64.wrap (frame-l)=frame-l:=IntWalk.i64_in _ ah
  clear h0
  go_enter Tryz.func47,Tryz.ntmps47
  exact mU
 have hw:IntKind.i64.wrap (frame-l)=frame-l:=IntWalk.i64_in _ ah
 by_cases p6:f<behind
 ·rw[show Jy n frame (p,f,l) behind=9 by unfold Jy;rw[if_pos YQ,if_pos p6]]
  clear h0
  go_enter Tryz.func47,Tryz.ntmps47
  exact mU
 ·rw[show Jy n frame (p,f,l) behind=0 by unfold Jy;rw[if_pos YQ,if_neg p6]]
  clear h0
  go_enter Tryz.func47,Tryz.ntmps47
  exact mU
def iW(n:Nat)(c:Ch):Prop:=(c.1=1∨c.1=2)∧0≤c.2.1∧c.2.1<n∧0≤c.2.2.1∧c.2.2.1<n∧c.2.1≠c.2.2.1∧1≤c.2.2.2.1∧c.2.2.2.1≤32∧1≤c.2.2.2.2∧c.2.2.2.2≤8∧(c.1=1→c.2.2.2.2≤1)
instance(n:Nat)(c:Ch):Decidable (iW n c):=by unfold iW;infer_instance
theorem Og(a1:Option Addr)(n c1:Nat)(frame:Int)(wv cv:Value)(x:Ch)(w:World):
  Calls Tryz.prog 50 #[.agg #[.slice a1 n c1,.int .i64 frame,wv,cv],uI x] w fun e w'=>e=.returned (.bool (decide (iW n x)))∧Below w.heap.size w w':=by
 obtain⟨k,f,t,s,d⟩:=x
 have h0:¬iW n (k,f,t,s,d)→decide (iW n (k,f,t,s,d))=false:=fun h=>decide_eq_false h
 have h1:iW n (k,f,t,s,d)→decide (iW n (k,f,t,s,d))=true:=fun h=>decide_eq_true h
 generalize hr:decide (iW n (k,f,t,s,d))=r at*
 clear hr
 unfold iW at h0 h1
 dsimp only at h0 h1
 by_cases k1:k=1
 case pos=>
  subst k1
  by_cases q0:0≤f
  case neg=>
   rw[h0 iU]
   clear h0 h1
   exact kZ
  by_cases q1:f<n
  case neg=>
   rw[h0 iU]
   clear h0 h1
   exact kZ
  by_cases q2:0≤t
  case neg=>
   rw[h0 iU]
   clear h0 h1
   exact kZ
  by_cases q3:t<n
  case neg=>
   rw[h0 iU]
   clear h0 h1
   exact kZ
  by_cases q4:f≠t
  case neg=>
   rw[h0 iU]
   clear h0 h1
   have e4:(f !=t)=false:=BH
   exact kZ
  have e4:(f !=t)=true:=BH
  by_cases q5:1≤s
  case neg=>
   rw[h0 iU]
   clear h0 h1
   exact kZ
  by_cases q6:s≤32
  case neg=>
   rw[h0 iU]
   clear h0 h1
   exact kZ
  by_cases q7:1≤d
  case neg=>
   rw[h0 iU]
   clear h0 h1
   exact kZ
  by_cases q8:d≤1
  case neg=>
   rw[h0 iU]
   clear h0 h1
   exact kZ
  rw[h1 ah]
  clear h0 h1
  exact kZ
 by_cases k2:k=2
 case pos=>
  subst k2
  by_cases q0:0≤f
  case neg=>
   rw[h0 iU]
   clear h0 h1
   exact kZ
  by_cases q1:f<n
  case neg=>
   rw[h0 iU]
   clear h0 h1
   exact kZ
  by_cases q2:0≤t
  case neg=>
   rw[h0 iU]
   clear h0 h1
   exact kZ
  by_cases q3:t<n
  case neg=>
   rw[h0 iU]
   clear h0 h1
   exact kZ
  by_cases q4:f≠t
  case neg=>
   rw[h0 iU]
   clear h0 h1
   have e4:(f !=t)=false:=BH
   exact kZ
  have e4:(f !=t)=true:=BH
  by_cases q5:1≤s
  case neg=>
   rw[h0 iU]
   clear h0 h1
   exact kZ
  by_cases q6:s≤32
  case neg=>
   rw[h0 iU]
   clear h0 h1
   exact kZ
  by_cases q7:1≤d
  case neg=>
   rw[h0 iU]
   clear h0 h1
   exact kZ
  by_cases q8:d≤8
  case neg=>
   rw[h0 iU]
   clear h0 h1
   exact kZ
  rw[h1 ah]
  clear h0 h1
  exact kZ
 have k1':(k==1)=false:=by simpa using k1
 have k2':(k==2)=false:=by simpa using k2
 rw[h0 iU]
 clear h0 h1
 by_cases q0:0≤f
 case neg=>
  exact kZ
 by_cases q1:f<n
 case neg=>
  exact kZ
 by_cases q2:0≤t
 case neg=>
  exact kZ
 by_cases q3:t<n
 case neg=>
  exact kZ
 by_cases q4:f≠t
 case neg=>
  have e4:(f !=t)=false:=BH
  exact kZ
 have e4:(f !=t)=true:=BH
 go_enter Tryz.func50,Tryz.ntmps50
 go_wp2_with fail
 go_ret
 exact⟨rfl,aD⟩
end Go.Proofs.YtgmodehldmahiaaGreatDoor.Plan
namespace Go.Proofs.YtgmodehldmahiaaGreatDoor.Plan
open Go Go.RowKit Go.Tm
def vK(n:Nat)(frame:Int):Int→List Wn→Prop
 |_,[]=>True
 |b,x::r=>mq n frame x∧b≤x.2.1∧vK n frame (x.2.1+x.2.2) r
theorem Gf{n:Nat}{frame b:Int}{l:List Wn}{k:Nat}{x:Wn}(h:l[k]?=some x):vK n frame b (l.drop k)↔mq n frame x∧b≤x.2.1∧vK n frame (x.2.1+x.2.2) (l.drop (k+1)):=by
 have hl:=(List.getElem?_eq_some_iff.1 h).1
 have:l.drop k=x::l.drop (k+1):=by
  rw[List.drop_eq_getElem_cons hl]
  rw[List.getElem?_eq_getElem hl] at h
  cases h;rfl
 rw[this]
 exact Iff.rfl
structure dW(p:iE):Prop where
 ze:p.parts.length≤4
 aeQ:p.wins.length≤3
 B_:p.chans.length≤6
 aeP:∀l∈p.wins,l.length≤8
 agV:p.parts.length≠0
 aiN:p.wins.length≠0
 part:∀x∈p.parts,j_ x
 FE:1≤p.frame
 uy:p.frame≤4096
 rows:∀l∈p.wins,vK p.parts.length p.frame 0 l
 chans:∀c∈p.chans,iW p.parts.length c
theorem VL(vs:List Value)(ls:List (List Wn))(W0 w:World)(hl:vs.length=ls.length)(h:∀(i:Nat) (u:Value) (l:List Wn),vs[i]?=some u→ls[i]?=some l→Sl W0 true 3 u (l.map Lv)):
  Pred Tryz.prog w none 42 #[] Mq vs:=
 ⟨Oe,fun w' _ x hm=>by
  obtain⟨i,hi,he⟩:=List.mem_iff_getElem.1 hm
  obtain⟨a,cap,hs,_⟩:=(h i x ls[i] PW (List.getElem?_eq_getElem ah)).shape
  subst hs
  exact RL a _ cap w'⟩
theorem aaG{vs:List Value}{ls:List (List Wn)}{W0:World}(hl:vs.length=ls.length)(h:∀(i:Nat) (u:Value) (l:List Wn),vs[i]?=some u→ls[i]?=some l→Sl W0 true 3 u (l.map Lv)):
  vs.any Mq=decide (∃l∈ls,8<l.length):=by
 rw[Bool.eq_iff_iff,List.any_eq_true,decide_eq_true_eq]
 constructor
 ·rintro⟨x,hm,hx⟩
  obtain⟨i,hi,he⟩:=List.mem_iff_getElem.1 hm
  obtain⟨a,cap,hs,_⟩:=(h i x ls[i] PW (List.getElem?_eq_getElem ah)).shape
  subst hs
  exact⟨ls[i],List.getElem_mem _,by simpa[Mq] using hx⟩
 ·rintro⟨l,hm,hx⟩
  obtain⟨i,hi,he⟩:=List.mem_iff_getElem.1 hm
  obtain⟨a,cap,hs,_⟩:=(h i vs[i] ls[i] (List.getElem?_eq_getElem ah) (List.getElem?_eq_getElem ah)).shape
  exact⟨vs[i],List.getElem_mem _,by rw[hs,he];simpa[Mq] using hx⟩
def Qw:Value→Bool:=fun v=>match v with|.agg cs=>(match cs.toList with|[.int _ m,.int _ a,.int _ b,.int _ c]=>!decide (j_ (m,a,b,c))|_=>false)|_=>false
theorem Od:Body Tryz.prog 45:=eZ Tryz.func45 aj aj
theorem RJ(x:Pt)(w:World):Calls Tryz.prog 45 #[OI x] w fun e w'=>e=.returned (.bool (!decide (j_ x)))∧Below w.heap.size w w':=by
 have HP:=Lib.hid (fun W=>aau x W)
 generalize decide (j_ x)=r at*
 go_enter Tryz.func45,Tryz.ntmps45
 go_wp2_with fail
 with_reducible refine(HP.out _).mono ?_
 rintro e w1 ⟨rfl,hb1⟩
 have hbw:Below w.heap.size w w1:=aD
 go_wp2_with fail
 go_ret
 exact⟨rfl,hbw⟩
theorem Vq(l:List Pt)(w:World):Pred Tryz.prog w none 45 #[] Qw (l.map OI):=
 ⟨Od,fun w' _ x hm=>by
  obtain⟨n,_,rfl⟩:=List.mem_map.1 hm
  exact RJ n w'⟩
theorem Vp(l:List Pt):(l.map OI).any Qw=decide (∃x∈l,¬j_ x):=by
 rw[Bool.eq_iff_iff,List.any_eq_true,decide_eq_true_eq]
 constructor
 ·rintro⟨v,hm,hx⟩
  obtain⟨x,hx',rfl⟩:=List.mem_map.1 hm
  exact⟨x,hx',by have:(!decide (j_ x))=true:=hx;simpa using this⟩
 ·rintro⟨x,hm,hx⟩
  exact⟨OI x,List.mem_map.2 ⟨x,hm,rfl⟩,by show(!decide (j_ x))=true;simpa using hx⟩
def Qx(n:Nat):Value→Bool:=fun v=>match v with|.agg cs=>(match cs.toList with|[.int _ m,.int _ a,.int _ b,.int _ c,.int _ d]=>!decide (iW n (m,a,b,c,d))|_=>false)|_=>false
theorem Oc:Body Tryz.prog 49:=eZ Tryz.func49 aj aj
theorem RI(a1:Option Addr)(n c1:Nat)(frame:Int)(wv cv:Value)(x:Ch)(B:Nat)(w:World)(hB:aC w B #[.slice a1 n c1,.int .i64 frame,wv,cv] 26)(hwv:wv.oneCell'=true)(hcv:cv.oneCell'=true):
  Calls Tryz.prog 49 #[uI x,.pointer (some ⟨B,0,none⟩)] w fun e w'=>e=.returned (.bool (!decide (iW n x)))∧Below w.heap.size w w':=by
 have HC:=Lib.hid (fun W=>Og a1 n c1 frame wv cv x W)
 have HB:=Lib.hid hB
 have hlt:=hB.lt
 generalize decide (iW n x)=r at*
 clear hB
 obtain⟨k,f,t,s,d⟩:=x
 try dsimp only at*
 go_enter Tryz.func49,Tryz.ntmps49
 (have b1:aC (w.alloc (.cells #[.int .i64 k,.int .i64 f,.int .i64 t,.int .i64 s,.int .i64 d] 95)) B #[.slice a1 n c1,.int .i64 frame,wv,cv] 26:=(by(try have k1:=HB.out);exact bx));(obtain⟨hc1,hf1,hl1,hn1,hm1⟩:=b1.rules);(have K1:=Lib.hid b1);(clear b1)
 go_wp2_with fail
 with_reducible refine(HC.out _).mono ?_
 rintro e w1 ⟨rfl,hb1⟩
 have hbw:Below w.heap.size w w1:=aD
 go_wp2_with fail
 go_ret
 exact⟨rfl,hbw⟩
theorem Wv(a1:Option Addr)(n c1:Nat)(frame:Int)(wv cv:Value)(l:List Ch)(B:Nat)(w:World)(hB:aC w B #[.slice a1 n c1,.int .i64 frame,wv,cv] 26)(hwv:wv.oneCell'=true)(hcv:cv.oneCell'=true):
  Pred Tryz.prog w none 49 #[.pointer (some ⟨B,0,none⟩)] (Qx n) (l.map uI):=
 ⟨Oc,fun w' hw x hm=>by
  obtain⟨y,_,rfl⟩:=List.mem_map.1 hm
  exact RI a1 n c1 frame wv cv y B w' (hB.below (bq hw) hB.lt) hwv hcv⟩
theorem Wu(n:Nat)(l:List Ch):(l.map uI).any (Qx n)=decide (∃x∈l,¬iW n x):=by
 rw[Bool.eq_iff_iff,List.any_eq_true,decide_eq_true_eq]
 constructor
 ·rintro⟨v,hm,hx⟩
  obtain⟨x,hx',rfl⟩:=List.mem_map.1 hm
  exact⟨x,hx',by have:(!decide (iW n x))=true:=hx;simpa using this⟩
 ·rintro⟨x,hm,hx⟩
  exact⟨uI x,List.mem_map.2 ⟨x,hm,rfl⟩,by show(!decide (iW n x))=true;simpa using hx⟩
end Go.Proofs.YtgmodehldmahiaaGreatDoor.Plan
namespace Go.Proofs.YtgmodehldmahiaaGreatDoor.Plan
open Go Go.RowKit Go.Tm
theorem Cu(pv wv cv:Value)(p:iE)(w:World)(hp:gq w pv wv cv p):
  Calls Tryz.prog 17 #[wC pv wv cv p] w fun e w'=>(∃k,e=.returned (.int .i64 k)∧(k=0↔dW p))∧Below w.heap.size w w':=by
 have HP:=Lib.hid hp
 obtain⟨a1,c1,a2,c2,a3,c3,rfl,rfl,rfl,hl1,hl2,hl3⟩:=hp.shape
 obtain⟨vs,hvs,hvl,hvr⟩:=hp.wins.row
 have HL:=Lib.hid (fun W h=>Bj (.slice a2 p.wins.length c2) vs 42 #[] Mq W h (VL vs p.wins w W hvl hvr))
 rw[aaG hvl hvr] at HL
 have HVS:=Lib.hid hvs
 have HPT:=Lib.hid (fun W h=>Bl (.slice a1 p.parts.length c1) (p.parts.map OI) 45 #[] Qw W h (Vq p.parts W))
 rw[Vp] at HPT
 have HCH:=Lib.hid (fun(W:World) (B:Nat) hB h=>Bn (.slice a3 p.chans.length c3) (p.chans.map uI) 49 #[.pointer (some ⟨B,0,none⟩)] (Qx p.parts.length) W h (Wv a1 p.parts.length c1 p.frame (.slice a2 p.wins.length c2) (.slice a3 p.chans.length c3) p.chans B W hB rfl rfl))
 rw[Wu] at HCH
 clear hp hvs hvl hvr
 by_cases h1:p.parts.length≤4
 case neg=>
  have h1':(4:Int)<p.parts.length:=ah
  go_enter Tryz.func17,Tryz.ntmps17
  go_wp2_with fail
  go_ret
  exact⟨⟨4,aI,by constructor;(intro h;omega);(intro h;exact absurd h.ze h1)⟩,aD⟩
 by_cases h2:p.wins.length≤3
 case neg=>
  have h2':(3:Int)<p.wins.length:=ah
  go_enter Tryz.func17,Tryz.ntmps17
  go_wp2_with fail
  go_ret
  exact⟨⟨4,aI,by constructor;(intro h;omega);(intro h;exact absurd h.aeQ h2)⟩,aD⟩
 by_cases h3:p.chans.length≤6
 case neg=>
  have h3':(6:Int)<p.chans.length:=ah
  go_enter Tryz.func17,Tryz.ntmps17
  go_wp2_with fail
  go_ret
  exact⟨⟨4,aI,by constructor;(intro h;omega);(intro h;exact absurd h.B_ h3)⟩,aD⟩
 have h1':¬(4:Int)<p.parts.length:=ah
 have h2':¬(3:Int)<p.wins.length:=ah
 have h3':¬(6:Int)<p.chans.length:=ah
 have d1:decide (4<p.parts.length)=false:=aR
 have d2:decide (3<p.wins.length)=false:=aR
 have d3:decide (6<p.chans.length)=false:=aR
 by_cases h4:∃l∈p.wins,8<l.length
 case pos=>
  rw[decide_eq_true h4] at HL
  have HN:=Lib.hid (show¬dW p from fun h=>by obtain⟨l,hl,h8⟩:=h4;have:=h.aeP l hl;omega)
  clear h4
  go_enter Tryz.func17,Tryz.ntmps17
  go_wp2_with fail
  with_reducible refine(HL.out _ (HVS.out.below aD)).mono ?_
  rintro e w1 ⟨rfl,hb1⟩
  have hbw:Below w.heap.size w w1:=aD
  go_wp2_with fail
  go_ret
  exact⟨⟨4,aI,Aa⟩,hbw⟩
 rw[decide_eq_false h4] at HL
 have H4:=Lib.hid (show∀l∈p.wins,l.length≤8 from fun l hl=>by rcases Nat.lt_or_ge 8 l.length with h|h;exact absurd ⟨l,hl,h⟩ h4;exact h)
 clear h4
 go_enter Tryz.func17,Tryz.ntmps17
 go_wp2_with fail
 with_reducible refine(HL.out _ (HVS.out.below aD)).mono ?_
 rintro e w1 ⟨rfl,hb1⟩
 have hz1:=hb1.size
 simp only[World.size_alloc] at hz1
 (have b1:aC w1 w.heap.size #[.slice a1 p.parts.length c1,.int .i64 p.frame,.slice a2 p.wins.length c2,.slice a3 p.chans.length c3] 26:=pW);(obtain⟨hc1,hf1,hl1,hn1,hm1⟩:=b1.rules);(have K1:=Lib.hid b1);(clear b1)
 have hx1:Below w.heap.size w w1:=aD
 clear hb1 HL HVS
 by_cases h5:p.parts.length=0
 case pos=>
  exact ad4
 have e5:((p.parts.length:Int)==0)=false:=mF
 by_cases h6:p.wins.length=0
 case pos=>
  exact ad2
 have e6:((p.wins.length:Int)==0)=false:=mF
 by_cases h7:∃x∈p.parts,¬j_ x
 case pos=>
  rw[decide_eq_true h7] at HPT
  have HN:=Lib.hid (show¬dW p from fun h=>by obtain⟨x,hx,h8⟩:=h7;exact h8 (h.part x hx))
  clear h7
  go_wp2_with fail
  with_reducible refine(HPT.out _ (HP.out.parts.below hx1)).mono ?_
  rintro e w2 ⟨rfl,hb2⟩
  have hbw:Below w.heap.size w w2:=hx1.trans (hb2.mono hx1.size)
  go_wp2_with fail
  go_ret
  exact⟨⟨1,aI,Aa⟩,hbw⟩
 rw[decide_eq_false h7] at HPT
 have H7:=Lib.hid (show∀x∈p.parts,j_ x from fun x hx=>Classical.byContradiction fun h=>h7 ⟨x,hx,h⟩)
 clear h7
 go_wp2_with fail
 with_reducible refine(HPT.out _ (HP.out.parts.below hx1)).mono ?_
 rintro e w2 ⟨rfl,hb2⟩
 have hz2:=hb2.size
 (have b2:aC w2 w.heap.size #[.slice a1 p.parts.length c1,.int .i64 p.frame,.slice a2 p.wins.length c2,.slice a3 p.chans.length c3] 26:=JZ);(obtain⟨hc2,hf2,hl2,hn2,hm2⟩:=b2.rules);(have K2:=Lib.hid b2);(clear b2)
 have hx2:Below w.heap.size w w2:=hx1.trans (hb2.mono hx1.size)
 have WT:=Lib.hid (HP.out.below hx2)
 clear hc1 hf1 hl1 hn1 hm1 hb2 hx1 HPT K1 HP hz1 hz2
 by_cases h8:p.frame<1
 case pos=>
  go_wp2_with fail
  go_ret
  exact⟨⟨1,aI,adp⟩,hx2⟩
 by_cases h9:4096<p.frame
 case pos=>
  go_wp2_with fail
  go_ret
  exact⟨⟨1,aI,adq⟩,hx2⟩
 have d8:decide (p.frame<1)=false:=by simpa using h8
 have d9:decide (4096<p.frame)=false:=by simpa using h9
 go_wp2_with fail
 have HF:=Lib.hid (And.intro (show 1≤p.frame by omega) (show p.frame≤4096 by omega))
 go_loopw [61] (fun t W=>∃i:Nat,i≤p.wins.length∧t=.int .i64 i∧(∀j l,j<i→p.wins[j]?=some l→vK p.parts.length p.frame 0 l)∧Below w2.heap.size w2 W) (fun t _=>p.wins.length-(intOf t).toNat)
 case atStart=>exact⟨0,Nat.zero_le _,rfl,by intro j l h;omega,Below.refl _ _⟩
 case round=>
  obtain⟨i,hi,rfl,hrows,hbx⟩:=hrel
  have HR:=Lib.hid hrows
  clear hrows
  have hws:=hbx.size
  obtain⟨wo,rfl⟩:∃x,x=wr:=⟨_,rfl⟩
  by_cases hlt:i<p.wins.length
  ·obtain⟨l,hl⟩:∃l,p.wins[i]?=some l:=⟨_,List.getElem?_eq_getElem hlt⟩
   obtain⟨b,off,a5,c5,rfl,hb,hcell,hll,hsl⟩:=oD.at (WT.out.wins.below hbx) hl
   have HLI:=Lib.hid hl
   have HSL:=Lib.hid hsl
   have hwi:IntKind.i64.wrap ((i:Int)+1)=i+1:=IntWalk.i64_in _ ah
   clear hl hsl
   go_wp2_with fail
   go_loopw [6,67] (fun s t W=>∃(k:Nat) (b0:Int),k≤l.length∧t=.int .i64 k∧s=.int .i64 b0∧(vK p.parts.length p.frame 0 l↔vK p.parts.length p.frame b0 (l.drop k))∧Below wo.heap.size wo W) (fun _ t _=>l.length-(intOf t).toNat)
   case atStart=>exact⟨0,0,Nat.zero_le _,rfl,rfl,Iff.rfl,Below.refl _ _⟩
   case round=>
    obtain⟨k,b0,hk,rfl,rfl,hiff,hby⟩:=hrel
    have HIF:=Lib.hid hiff
    clear hiff
    have abq:=hby.size
    by_cases hkl:k<l.length
    ·obtain⟨x,hx⟩:∃x,l[k]?=some x:=⟨_,List.getElem?_eq_getElem hkl⟩
     obtain⟨b2,off2,rfl,hb2,q0,q1,q2⟩:=Sl.wn (HSL.out.below hby) hx
     have hdr:=Gf (n:=p.parts.length) (frame:=p.frame) (b:=b0) hx
     have HDR:=Lib.hid hdr
     have HWN:=Lib.hid (fun W=>QG a1 p.parts.length c1 p.frame (.slice (some ⟨b,off,none⟩) p.wins.length c2) (.slice a3 p.chans.length c3) x b0 W HF.out.1 HF.out.2)
     have HEZ:=Lib.hid (UE (n:=p.parts.length) (frame:=p.frame) (x:=x) (behind:=b0))
     generalize Jy p.parts.length p.frame x b0=e0 at*
     have hb3:=aC.below (aC.below K2.out hbx K2.out.lt) hby (aC.below K2.out hbx K2.out.lt).lt
     obtain⟨hc3,hf3,ahS,sU,ng⟩:=hb3.rules
     have hwk:IntKind.i64.wrap ((k:Int)+1)=k+1:=IntWalk.i64_in _ ah
     clear hx hdr hb3
     obtain⟨xp,xf,xl⟩:=x
     dsimp only at q0 q1 q2
     go_wp2_with fail
     with_reducible refine(HWN.out _).mono ?_
     rintro e w5 ⟨rfl,hb5⟩
     have GY:=hb5.size
     simp only[World.size_alloc] at GY
     have hb4:aC w5 wr.heap.size #[.int .i64 xp,.int .i64 xf,.int .i64 xl] 76:=aC.below (aC.new wr _ _) hb5 aI
     have hy5:Below wo.heap.size wo w5:=aD
     obtain⟨hc4,xY,hl4,DL,Ir⟩:=hb4.rules
     clear hb4 hb5
     by_cases hz:e0=0
     ·subst hz
      have hok:=HEZ.out.1 rfl
      have hok1:=hok.1
      unfold mq at hok1
      dsimp only at hok1
      have hfr:=HF.out
      have hwa:IntKind.i64.wrap (xf+xl)=xf+xl:=IntWalk.i64_in _ ah
      have OE:=Lib.hid hok
      clear hok hok1 hfr
      go_wp2_with fail
      go_roundw
      case rel=>
       refine⟨k+1,xf+xl,ah,bI,rfl,?_,hy5⟩
       rw[HIF.out,HDR.out]
       exact⟨fun h=>h.2.2,fun h=>⟨OE.out.1,OE.out.2,h⟩⟩
      case measure=>simp[intOf];omega
     ·have hzb:(e0 !=0)=true:=by simpa using hz
      have HZ:=Lib.hid hz
      clear hz
      go_wp2_with fail
      go_ret
      refine⟨⟨e0,aI,fun h=>absurd h HZ.out,fun h=>?_⟩,hx2.trans (((hbx.trans (hy5.mono hws)).mono hx2.size))⟩
      have h1:=HDR.out.1 (HIF.out.1 (h.rows l (List.mem_of_getElem? HLI.out)))
      exact HEZ.out.2 ⟨h1.1,h1.2.1⟩
    ·obtain rfl:k=l.length:=by omega
     have hrow:=HIF.out.2 (by rw[List.drop_length];trivial)
     have HRO:=Lib.hid hrow
     clear hrow
     go_wp2_with fail
     go_roundw
     case rel=>
      refine⟨i+1,ah,bI,?_,hbx.trans (hby.mono hws)⟩
      exact aeb
     case measure=>simp[intOf];omega
  ·obtain rfl:i=p.wins.length:=by omega
   have hb3:=aC.below K2.out hbx K2.out.lt
   have HC3:=Lib.hid (HCH.out wo w.heap.size hb3 (WT.out.chans.below hbx))
   obtain⟨hc3,hf3,ahS,sU,ng⟩:=hb3.rules
   clear hb3 HCH
   by_cases hch:∃x∈p.chans,¬iW p.parts.length x
   ·rw[decide_eq_true hch] at HC3
    have HN:=Lib.hid (show¬dW p from fun h=>by obtain⟨x,hx,h8⟩:=hch;exact h8 (h.chans x hx))
    clear hch
    go_wp2_with fail
    with_reducible refine HC3.out.mono ?_
    rintro e w5 ⟨rfl,hb5⟩
    go_wp2_with fail
    go_ret
    exact⟨⟨1,aI,Aa⟩,hx2.trans ((hbx.trans (hb5.mono hws)).mono hx2.size)⟩
   ·rw[decide_eq_false hch] at HC3
    have OE:=Lib.hid (show dW p from⟨h1,h2,h3,H4.out,h5,h6,H7.out,HF.out.1,HF.out.2,fun l hl=>by
     obtain⟨j,hj,he⟩:=List.mem_iff_getElem.1 hl
     exact HR.out j l hj BN,fun c hc=>Classical.byContradiction fun h=>hch ⟨c,hc,h⟩⟩)
    clear hch
    go_wp2_with fail
    with_reducible refine HC3.out.mono ?_
    rintro e w5 ⟨rfl,hb5⟩
    go_wp2_with fail
    go_ret
    exact⟨⟨0,aI,fun _=>OE.out,fun _=>rfl⟩,hx2.trans ((hbx.trans (hb5.mono hws)).mono hx2.size)⟩
end Go.Proofs.YtgmodehldmahiaaGreatDoor.Plan
namespace Go.Proofs.YtgmodehldmahiaaGreatDoor.Plan
open Go Go.RowKit Go.Tm
theorem IZ{W:World}{fl:Nat}{cs:List Value}(h:Shaped Tryz.prog W fl 76 cs):
  ∃(a:Int) (b:Int) (c:Int),cs=[.int .i64 a,.int .i64 b,.int .i64 c]∧(Lit.int .i64 a).wf=true∧(Lit.int .i64 b).wf=true∧(Lit.int .i64 c).wf=true:=by
 obtain⟨g1,hl,hf⟩:=mZ Tryz.underlying76 h
 have h3:Tryz.prog.cellsOf 76=3:=aj
 rw[h3] at hl
 have f0:Shaped Tryz.prog W g1 3 ((cs.drop 0).take (Tryz.prog.cellsOf 3)):=hf 0 _ rfl
 have f1:Shaped Tryz.prog W g1 3 ((cs.drop 1).take (Tryz.prog.cellsOf 3)):=hf 1 _ rfl
 have f2:Shaped Tryz.prog W g1 3 ((cs.drop 2).take (Tryz.prog.cellsOf 3)):=hf 2 _ rfl
 rw[show Tryz.prog.cellsOf 3=1 by kernel_rfl] at f0 f1 f2
 obtain⟨a,c0,ha⟩:=jG Tryz.underlying3 f0
 obtain⟨b,c1,hb⟩:=jG Tryz.underlying3 f1
 obtain⟨c,c2,hc⟩:=jG Tryz.underlying3 f2
 exact⟨a,b,c,Yo hl (wR c0) (wR c1) (wR c2),ha,hb,hc⟩
theorem abM{W:World}(g:Nat)(es:List Value)(h:Shaped Tryz.prog W g 76 es):∀c∈es,c.oneCell'=true:=by
 obtain⟨a,b,c,rfl,_⟩:=IZ h
 intro c hc
 simp only[List.mem_cons,List.not_mem_nil,or_false] at hc
 rcases hc with rfl|rfl|rfl<;>rfl
theorem agv{W:World}{x:Value}(hv:Val true 3 x)(h:∃g,Shaped Tryz.prog W g 76 x.cells.toList):
  ∃(a:Int) (b:Int) (c:Int),x=.agg #[.int .i64 a,.int .i64 b,.int .i64 c]∧(Lit.int .i64 a).wf=true∧(Lit.int .i64 b).wf=true∧(Lit.int .i64 c).wf=true:=by
 obtain⟨g,h⟩:=h
 obtain⟨cs,rfl,hs,_⟩:∃cs:Array Value,x=.agg cs∧cs.size=3∧∀c∈cs.toList,c.oneCell'=true:=hv
 obtain⟨a,b,c,he,hf⟩:=IZ h
 exact⟨a,b,c,by rw[show cs=#[.int .i64 a,.int .i64 b,.int .i64 c] from Array.ext' he],hf⟩
theorem Jq{W:World}{fl:Nat}{cs:List Value}(h:Shaped Tryz.prog W fl 95 cs):
  ∃(a:Int) (b:Int) (c:Int) (d:Int) (e:Int),cs=[.int .i64 a,.int .i64 b,.int .i64 c,.int .i64 d,.int .i64 e]∧(Lit.int .i64 a).wf=true∧(Lit.int .i64 b).wf=true∧(Lit.int .i64 c).wf=true∧(Lit.int .i64 d).wf=true∧(Lit.int .i64 e).wf=true:=by
 obtain⟨g1,hl,hf⟩:=mZ Tryz.underlying95 h
 have h3:Tryz.prog.cellsOf 95=5:=aj
 rw[h3] at hl
 have f0:Shaped Tryz.prog W g1 3 ((cs.drop 0).take (Tryz.prog.cellsOf 3)):=hf 0 _ rfl
 have f1:Shaped Tryz.prog W g1 3 ((cs.drop 1).take (Tryz.prog.cellsOf 3)):=hf 1 _ rfl
 have f2:Shaped Tryz.prog W g1 3 ((cs.drop 2).take (Tryz.prog.cellsOf 3)):=hf 2 _ rfl
 have f3:Shaped Tryz.prog W g1 3 ((cs.drop 3).take (Tryz.prog.cellsOf 3)):=hf 3 _ rfl
 have f4:Shaped Tryz.prog W g1 3 ((cs.drop 4).take (Tryz.prog.cellsOf 3)):=hf 4 _ rfl
 rw[show Tryz.prog.cellsOf 3=1 by kernel_rfl] at f0 f1 f2 f3 f4
 obtain⟨a,c0,ha⟩:=jG Tryz.underlying3 f0
 obtain⟨b,c1,hb⟩:=jG Tryz.underlying3 f1
 obtain⟨c,c2,hc⟩:=jG Tryz.underlying3 f2
 obtain⟨d,c3,hd⟩:=jG Tryz.underlying3 f3
 obtain⟨e,c4,he⟩:=jG Tryz.underlying3 f4
 exact⟨a,b,c,d,e,aiV hl (wR c0) (wR c1) (wR c2) (wR c3) (wR c4),ha,hb,hc,hd,he⟩
theorem acW{W:World}(g:Nat)(es:List Value)(h:Shaped Tryz.prog W g 95 es):∀c∈es,c.oneCell'=true:=by
 obtain⟨a,b,c,d,e,rfl,_⟩:=Jq h
 intro c hc
 simp only[List.mem_cons,List.not_mem_nil,or_false] at hc
 rcases hc with rfl|rfl|rfl|rfl|rfl<;>rfl
theorem ahe{W:World}{x:Value}(hv:Val true 5 x)(h:∃g,Shaped Tryz.prog W g 95 x.cells.toList):
  ∃(a:Int) (b:Int) (c:Int) (d:Int) (e:Int),x=.agg #[.int .i64 a,.int .i64 b,.int .i64 c,.int .i64 d,.int .i64 e]∧(Lit.int .i64 a).wf=true∧(Lit.int .i64 b).wf=true∧(Lit.int .i64 c).wf=true∧(Lit.int .i64 d).wf=true∧(Lit.int .i64 e).wf=true:=by
 obtain⟨g,h⟩:=h
 obtain⟨cs,rfl,hs,_⟩:∃cs:Array Value,x=.agg cs∧cs.size=5∧∀c∈cs.toList,c.oneCell'=true:=hv
 obtain⟨a,b,c,d,e,he,hf⟩:=Jq h
 exact⟨a,b,c,d,e,by rw[show cs=#[.int .i64 a,.int .i64 b,.int .i64 c,.int .i64 d,.int .i64 e] from Array.ext' he],hf⟩
theorem Yo{α:Type}{l:List α}(h:l.length=3):∃a b c,l=[a,b,c]:=by
 match l,h with
 |[a,b,c],_=>exact⟨a,b,c,rfl⟩
theorem Jd{W:World}{fl:Nat}{cs:List Value}(h:Shaped Tryz.prog W fl 74 cs):
  ∃(m a b c:Int),cs=[.int .i64 m,.int .i64 a,.int .i64 b,.int .i64 c]:=by
 obtain⟨g1,hl,hf⟩:=mZ Tryz.underlying74 h
 have h4:Tryz.prog.cellsOf 74=4:=aj
 have h3:Tryz.prog.cellsOf 72=3:=aj
 have h1:Tryz.prog.cellsOf 3=1:=aj
 rw[h4] at hl
 have hM:Shaped Tryz.prog W g1 3 ((cs.drop 0).take (Tryz.prog.cellsOf 3)):=hf 0 _ rfl
 have hR:Shaped Tryz.prog W g1 72 ((cs.drop 1).take (Tryz.prog.cellsOf 72)):=hf 1 _ rfl
 simp only[h3,h1,List.drop_zero] at hR hM
 obtain⟨l,ll,hls,hw⟩:=NP Tryz.underlying72 Tryz.underlying3 h1 h3 hR
 obtain⟨m,hm,hwm⟩:=jG Tryz.underlying3 hM
 obtain⟨a,b,c,rfl⟩:=Yo ll
 match cs,hl with
 |[x0,x1,x2,x3],_=>
  simp at hm hls
  obtain⟨rfl,rfl,rfl⟩:=hls
  subst hm
  exact⟨m,a,b,c,rfl⟩
theorem acf{W:World}(g:Nat)(es:List Value)(h:Shaped Tryz.prog W g 74 es):∀c∈es,c.oneCell'=true:=by
 obtain⟨m,a,b,c,rfl⟩:=Jd h
 intro c hc
 simp only[List.mem_cons,List.not_mem_nil,or_false] at hc
 rcases hc with rfl|rfl|rfl|rfl<;>rfl
theorem ab9{W:World}(g:Nat)(es:List Value)(h:Shaped Tryz.prog W g 77 es):∀c∈es,c.oneCell'=true:=by
 obtain⟨a,n,cap,rfl,_⟩:=qQ Tryz.underlying77 h
 exact X7
theorem Kr{α:Type}{enc:α→Value}{xs:List Value}(h:∀x∈xs,∃a:α,x=enc a):∃l:List α,xs=l.map enc:=by
 induction xs with
 |nil=>exact⟨[],rfl⟩
 |cons x xs ih=>
  obtain⟨a,rfl⟩:=h x aI
  obtain⟨l,rfl⟩:=ih fun y hy=>h y wI
  exact⟨a::l,rfl⟩
theorem Q7{W:World}{fl:Nat}{v:Value}(h:Shaped Tryz.prog W fl 22 [v]):∃l:List Pt,Sl W true 4 v (l.map OI):=by
 obtain⟨xs,hsl,hx,_⟩:=l5 xu aB acf Tryz.underlying22 h
 obtain⟨l,rfl⟩:=Kr (enc:=OI) (xs:=xs) fun x hm=>by
  obtain⟨g,hg⟩:=hx x hm
  obtain⟨cs,rfl,hs,_⟩:∃cs:Array Value,x=.agg cs∧cs.size=4∧∀c∈cs.toList,c.oneCell'=true:=hsl.val x hm
  obtain⟨m,a,b,c,he⟩:=Jd hg
  exact⟨(m,a,b,c),by rw[show cs=#[.int .i64 m,.int .i64 a,.int .i64 b,.int .i64 c] from Array.ext' he]⟩
 exact⟨l,hsl⟩
theorem QD{W:World}{fl:Nat}{v:Value}(h:Shaped Tryz.prog W fl 77 [v]):∃l:List Wn,Sl W true 3 v (l.map Lv):=by
 obtain⟨xs,hsl,hx,_⟩:=l5 agC aB abM Tryz.underlying77 h
 obtain⟨l,rfl⟩:=Kr (enc:=Lv) (xs:=xs) fun x hm=>by
  obtain⟨a,b,c,he,_⟩:=agv (hsl.val x hm) (hx x hm)
  exact⟨(a,b,c),he⟩
 exact⟨l,hsl⟩
theorem RH{W:World}{fl:Nat}{v:Value}(h:Shaped Tryz.prog W fl 24 [v]):∃l:List Ch,Sl W true 5 v (l.map uI):=by
 obtain⟨xs,hsl,hx,_⟩:=l5 lX aB acW Tryz.underlying24 h
 obtain⟨l,rfl⟩:=Kr (enc:=uI) (xs:=xs) fun x hm=>by
  obtain⟨a,b,c,d,e,he,_⟩:=ahe (hsl.val x hm) (hx x hm)
  exact⟨(a,b,c,d,e),he⟩
 exact⟨l,hsl⟩
theorem abN{W:World}{xs:List Value}(h:∀x∈xs,∃l:List Wn,Sl W true 3 x (l.map Lv)):
  ∃ls:List (List Wn),xs.length=ls.length∧∀(i:Nat) (u:Value) (l:List Wn),xs[i]?=some u→ls[i]?=some l→Sl W true 3 u (l.map Lv):=by
 induction xs with
 |nil=>exact⟨[],rfl,by intro i u l hu;simp at hu⟩
 |cons x xs ih=>
  obtain⟨l,hl⟩:=h x aI
  obtain⟨ls,h1,h2⟩:=ih fun y hy=>h y wI
  refine⟨l::ls,rH,?_⟩
  exact aed
theorem KO{W:World}{fl:Nat}{v:Value}(h:Shaped Tryz.prog W fl 23 [v]):∃ls:List (List Wn),oD W v ls:=by
 obtain⟨xs,hsl,hx,_⟩:=l5 Km aB ab9 Tryz.underlying23 h
 obtain⟨ls,h1,h2⟩:=abN (W:=W) (xs:=xs) fun x hm=>by
  obtain⟨g,hg⟩:=hx x hm
  obtain⟨a,n,cap,he,_⟩:=qQ Tryz.underlying77 hg
  have hxe:x.cells.toList=[x]:=by
   have:x.oneCell'=true∧(1:Nat)=1:=hsl.val x hm
   cases x with
   |agg cs=>cases this.1
   |_=>rfl
  rw[hxe] at hg
  exact QD hg
 exact⟨ls,⟨xs,hsl,h1,h2⟩⟩
end Go.Proofs.YtgmodehldmahiaaGreatDoor.Plan
namespace Go.Proofs.YtgmodehldmahiaaGreatDoor.Plan
open Go Go.RowKit Go.Tm
theorem ahs(m a b c:Int){k:Nat}(h:k<3):∃x:Int,(#[.int .i64 m,.int .i64 a,.int .i64 b,.int .i64 c]:Array Value)[1+k]?=some (.int .i64 x)∧(k=0→x=a)∧(k=1→x=b)∧(k=2→x=c):=by
 match k,h with
 |0,_=>exact⟨a,rfl,aI,aI,aI⟩
 |1,_=>exact⟨b,rfl,aI,aI,aI⟩
 |2,_=>exact⟨c,rfl,aI,aI,aI⟩
set_option maxRecDepth 100000 in
set_option maxHeartbeats 40000000 in
theorem Lb(pv wv cv:Value)(p:iE)(w:World)(hp:gq w pv wv cv p):
  Calls Tryz.prog 64 #[wC pv wv cv p] w fun e w'=>(∃k,e=.returned (.int .i64 k)∧(k=0↔dW p))∧Below w.heap.size w w':=by
 have HP:=Lib.hid hp
 obtain⟨a1,c1,a2,c2,a3,c3,rfl,rfl,rfl,hl1,hl2,hl3⟩:=hp.shape
 clear hp
 by_cases h1:p.parts.length≤4
 case neg=>as_aux_lemma=>
  have h1':(4:Int)<p.parts.length:=ah
  have d1:decide (4<p.parts.length)=true:=aR
  have HN:=Lib.hid (show¬dW p from fun h=>absurd h.ze h1)
  exact afi
 have h1':¬(4:Int)<p.parts.length:=ah
 have d1:decide (4<p.parts.length)=false:=aR
 by_cases h2:p.wins.length≤3
 case neg=>as_aux_lemma=>
  have h2':(3:Int)<p.wins.length:=ah
  have d2:decide (3<p.wins.length)=true:=aR
  have HN:=Lib.hid (show¬dW p from fun h=>absurd h.aeQ h2)
  exact afi
 have h2':¬(3:Int)<p.wins.length:=ah
 have d2:decide (3<p.wins.length)=false:=aR
 by_cases h3:p.chans.length≤6
 case neg=>as_aux_lemma=>
  have h3':(6:Int)<p.chans.length:=ah
  have d3:decide (6<p.chans.length)=true:=aR
  have HN:=Lib.hid (show¬dW p from fun h=>absurd h.B_ h3)
  exact afi
 have h3':¬(6:Int)<p.chans.length:=ah
 have d3:decide (6<p.chans.length)=false:=aR
 go_enter Tryz.func64,Tryz.ntmps64
 go_wp2_with fail
 have hbx:=aC.new w #[.slice a1 p.parts.length c1,.int .i64 p.frame,.slice a2 p.wins.length c2,.slice a3 p.chans.length c3] 26
 have hx1:Below w.heap.size w (w.alloc (.cells #[.slice a1 p.parts.length c1,.int .i64 p.frame,.slice a2 p.wins.length c2,.slice a3 p.chans.length c3] 26)):=(Below.refl _ _).alloc (Nat.le_refl _) _
 have hz1:(w.alloc (.cells #[.slice a1 p.parts.length c1,.int .i64 p.frame,.slice a2 p.wins.length c2,.slice a3 p.chans.length c3] 26)).heap.size=w.heap.size+1:=aI
 generalize hW1:w.alloc (.cells #[.slice a1 p.parts.length c1,.int .i64 p.frame,.slice a2 p.wins.length c2,.slice a3 p.chans.length c3] 26)=w1 at*
 clear hW1
 have He:=Lib.hid hbx
 obtain⟨hc1,hf1,ahT,hn1,hm1⟩:=hbx.rules
 clear hbx
 have WT:=Lib.hid (HP.out.below hx1)
 go_loopw [3,4] (fun s t W=>∃(i:Nat) (b:Bool),i≤p.wins.length∧s=.bool b∧t=.int .i64 i∧RowKit.Hid (b=false→∀j l,j<i→p.wins[j]?=some l→l.length≤8)∧RowKit.Hid (b=true→¬dW p)∧W=w1) (fun _ t _=>p.wins.length-(intOf t).toNat)
 case atStart=>exact⟨0,false,Nat.zero_le _,rfl,rfl,Lib.hid (by intro _ j l h;omega),Lib.hid JM,rfl⟩
 case round=>as_aux_lemma=>
  obtain⟨i,b,hi,rfl,rfl,HSM,HBG,rfl⟩:=hrel
  obtain⟨w1,rfl⟩:∃x,x=wr:=⟨_,rfl⟩
  have hwi:IntKind.i64.wrap ((i:Int)+1)=i+1:=IntWalk.i64_in _ ah
  by_cases hlt:i<p.wins.length
  case pos=>as_aux_lemma=>
   cases b
   ·obtain⟨l,hl⟩:∃l,p.wins[i]?=some l:=⟨_,List.getElem?_eq_getElem hlt⟩
    obtain⟨b,off,a5,c5,rfl,hb,hcell,hll,hsl⟩:=oD.at WT.out.wins hl
    have HLI:=Lib.hid hl
    clear hl hsl
    by_cases h8:8<l.length
    ·have d8:decide ((8:Int)<l.length)=true:=by simp;omega
     have HN:=Lib.hid (show¬dW p from fun h=>by have:=h.aeP l (List.mem_of_getElem? HLI.out);omega)
     go_wp2_with fail
     go_roundw
     case rel=>exact⟨i+1,true,ah,rfl,bI,Lib.hid JM,Lib.hid (fun _=>HN.out),EZ⟩
     case measure=>simp[intOf];omega
    ·have d8:decide ((8:Int)<l.length)=false:=by simp;omega
     go_wp2_with fail
     go_roundw
     case rel=>
      refine⟨i+1,false,ah,rfl,bI,Lib.hid ?_,Lib.hid JM,EZ⟩
      intro _ j m hj hm
      rcases Nat.lt_succ_iff_lt_or_eq.1 hj with hj|rfl
      ·exact HSM.out rfl j m hj hm
      ·rw[HLI.out] at hm;cases hm;omega
     case measure=>simp[intOf];omega
   ·go_wp2_with fail
    go_roundw
    case rel=>exact⟨i+1,true,ah,rfl,bI,Lib.hid JM,Lib.hid (fun _=>YW),EZ⟩
    case measure=>simp[intOf];omega
  obtain rfl:i=p.wins.length:=by omega
  cases b
  case true=>
   go_wp2_with fail
   go_ret
   exact⟨⟨4,aI,by constructor;(intro h;omega);(intro h;exact absurd h YW)⟩,hx1⟩
  have H4:=Lib.hid (show∀l∈p.wins,l.length≤8 from fun l hl=>by
   obtain⟨j,hj,he⟩:=List.mem_iff_getElem.1 hl
   exact HSM.out rfl j l hj BN)
  clear HSM HBG hlt hi
  by_cases h5:p.parts.length=0
  case pos=>as_aux_lemma=>
   exact ad4
  have e5:((p.parts.length:Int)==0)=false:=mF
  by_cases h6:p.wins.length=0
  case pos=>as_aux_lemma=>
   exact ad2
  have e6:((p.wins.length:Int)==0)=false:=mF
  go_wp2_with fail
  go_loopw [5] (fun t W=>∃i:Nat,i≤p.parts.length∧t=.int .i64 i∧(∀j x,j<i→p.parts[j]?=some x→j_ x)∧Below w1.heap.size w1 W) (fun t _=>p.parts.length-(intOf t).toNat)
  case atStart=>exact⟨0,Nat.zero_le _,rfl,by intro j x h;omega,Below.refl _ _⟩
  case round=>as_aux_lemma=>
   obtain⟨i,hi,rfl,fG,hbw⟩:=hrel
   have TW:=Lib.hid fG
   clear fG
   have hws:=hbw.size
   obtain⟨wo,rfl⟩:∃x,x=wr:=⟨_,rfl⟩
   have hbx:=aC.below He.out hbw He.out.lt
   obtain⟨hc2,hf2,JD,hn2,hm2⟩:=hbx.rules
   have L_:=Lib.hid hbx
   clear hbx
   have hwi:IntKind.i64.wrap ((i:Int)+1)=i+1:=IntWalk.i64_in _ ah
   by_cases hlt:i<p.parts.length
   case pos=>as_aux_lemma=>
    obtain⟨⟨m,a,b,c⟩,hx⟩:∃x,p.parts[i]?=some x:=⟨_,List.getElem?_eq_getElem hlt⟩
    obtain⟨b2,off2,rfl,hb2,q0,q1,q2,q3⟩:=Sl.pt (WT.out.parts.below hbw) hx
    have OW:=Lib.hid hx
    clear hx
    dsimp only at q0 q1 q2 q3
    by_cases m1:m<64
    case pos=>as_aux_lemma=>
     exact Yi
    have m1d:decide (m<64)=false:=by simpa using m1
    by_cases m2:1024<m
    case pos=>as_aux_lemma=>
     exact Yi
    have m2d:decide (1024<m)=false:=by simpa using m2
    have mt:m.tmod 4=m%4:=Int.tmod_eq_emod_of_nonneg ah
    by_cases m3:m%4=0
    case neg=>as_aux_lemma=>
     have m3d:(m%4 !=0)=true:=by simpa using m3
     exact Yi
    have m3d:(m%4 !=0)=false:=by simpa using m3
    go_wp2_with fail
    have hbp:=aC.new wo (#[.int .i64 m,.int .i64 a,.int .i64 b,.int .i64 c]:Array Value) 74
    have hx3:Below w1.heap.size w1 (wo.alloc (.cells #[.int .i64 m,.int .i64 a,.int .i64 b,.int .i64 c] 74)):=hbw.alloc hws _
    generalize hW3:wo.alloc (.cells #[.int .i64 m,.int .i64 a,.int .i64 b,.int .i64 c] 74)=w3 at*
    clear hW3 hc2 hf2 JD hn2 hm2
    obtain⟨hc3,hf3,ahS,sU,ng⟩:=hbp.rules
    have HC3:=Lib.hid hc3
    clear hbp hc3
    go_loopw [7] (fun t W=>∃k:Nat,k≤3∧t=.int .i64 k∧RowKit.Hid ((0<k→1≤a∧a≤3)∧(1<k→1≤b∧b≤3)∧(2<k→1≤c∧c≤3))∧W=w3) (fun t _=>3-(intOf t).toNat)
    case atStart=>exact⟨0,ah,rfl,Lib.hid ⟨ah,ah,ah⟩,rfl⟩
    case round=>as_aux_lemma=>
     obtain⟨k,hk,rfl,HAC,rfl⟩:=hrel
     obtain⟨w3,rfl⟩:∃x,x=wr:=⟨_,rfl⟩
     have hwk:IntKind.i64.wrap ((k:Int)+1)=k+1:=IntWalk.i64_in _ ah
     by_cases hk3:k<3
     case pos=>as_aux_lemma=>
      obtain⟨y,hy,y0,y1,y2⟩:=ahs m a b c hk3
      have hcy:=(HC3.out (1+k)).trans hy
      have HY:=Lib.hid (And.intro y0 (And.intro y1 y2))
      clear hy y0 y1 y2
      by_cases r1:y<1
      case pos=>as_aux_lemma=>
       exact aeF
      have r1d:decide (y<1)=false:=by simpa using r1
      by_cases r2:3<y
      case pos=>as_aux_lemma=>
       exact aeF
      have r2d:decide (3<y)=false:=by simpa using r2
      have HRR:=Lib.hid (And.intro r1 r2)
      go_wp2_with fail
      go_roundw
      case rel=>
       refine⟨k+1,ah,bI,Lib.hid ?_,EZ⟩
       obtain⟨y0,y1,y2⟩:=HY.out
       obtain⟨z0,z1,z2⟩:=HAC.out
       obtain⟨r1,r2⟩:=HRR.out
       rcases(show k=0∨k=1∨k=2 by omega) with e|e|e
       ·have:=y0 e;refine⟨fun _=>ah,fun _=>ah,fun _=>ah⟩
       ·have:=y1 e;refine⟨fun _=>z0 ah,fun _=>ah,fun _=>ah⟩
       ·have:=y2 e;refine⟨fun _=>z0 ah,fun _=>z1 ah,fun _=>ah⟩
      case measure=>simp[intOf];omega
     obtain rfl:k=3:=by omega
     have HPO:=Lib.hid (show j_ (m,a,b,c) from by
      obtain⟨z0,z1,z2⟩:=HAC.out
      have:=z0 ah
      have:=z1 ah
      have:=z2 ah
      unfold j_
      dsimp only
      omega)
     go_wp2_with fail
     go_roundw
     case rel=>
      refine⟨i+1,ah,bI,?_,hx3⟩
      intro j x hj hx
      rcases Nat.lt_succ_iff_lt_or_eq.1 hj with hj|rfl
      ·exact TW.out j x hj hx
      ·rw[OW.out] at hx;cases hx;exact HPO.out
     case measure=>simp[intOf];omega
   have H7:=Lib.hid (show∀x∈p.parts,j_ x from fun x hx=>by
    obtain⟨j,hj,he⟩:=List.mem_iff_getElem.1 hx
    exact TW.out j x ah BN)
   clear TW
   by_cases h8:p.frame<1
   case pos=>as_aux_lemma=>
    go_wp2_with fail
    go_ret
    exact⟨⟨1,aI,adp⟩,hx1.trans (hbw.mono hx1.size)⟩
   have d8:decide (p.frame<1)=false:=by simpa using h8
   by_cases h9:4096<p.frame
   case pos=>as_aux_lemma=>
    go_wp2_with fail
    go_ret
    exact⟨⟨1,aI,adq⟩,hx1.trans (hbw.mono hx1.size)⟩
   have d9:decide (4096<p.frame)=false:=by simpa using h9
   have HF:=Lib.hid (And.intro (show 1≤p.frame by omega) (show p.frame≤4096 by omega))
   go_wp2_with fail
   have HPO:=Lib.hid (WT.out.below hbw)
   have hX1:Below w.heap.size w wo:=hx1.trans (hbw.mono hx1.size)
   clear hc2 hf2 JD hn2 hm2 hc1 hf1 ahT hn1 hm1 hx1 hbw hlt hws WT He
   go_loopw [8] (fun t W=>∃i:Nat,i≤p.wins.length∧t=.int .i64 i∧RowKit.Hid (∀j l,j<i→p.wins[j]?=some l→vK p.parts.length p.frame 0 l)∧Below wo.heap.size wo W) (fun t _=>p.wins.length-(intOf t).toNat)
   case atStart=>exact⟨0,Nat.zero_le _,rfl,Lib.hid (by intro j l h;omega),Below.refl _ _⟩
   case round=>as_aux_lemma=>
    clear hi hwi
    obtain⟨i,hi,rfl,HR,hbw⟩:=hrel
    have hws:=hbw.size
    obtain⟨wa,rfl⟩:∃x,x=wr:=⟨_,rfl⟩
    have hX:Below w.heap.size w wa:=hX1.trans (hbw.mono hX1.size)
    have WU:=Lib.hid (aC.below L_.out hbw L_.out.lt)
    have HPA:=Lib.hid (HPO.out.below hbw)
    have Sc:=Lib.hid hbw
    clear hbw
    by_cases hlt:i<p.wins.length
    case pos=>as_aux_lemma=>
     obtain⟨l,hl⟩:∃l,p.wins[i]?=some l:=⟨_,List.getElem?_eq_getElem hlt⟩
     obtain⟨b,off,a5,c5,rfl,hb,hcell,hll,hsl⟩:=oD.at HPA.out.wins hl
     have HLI:=Lib.hid hl
     have HSL:=Lib.hid hsl
     have nu:=Lib.hid hcell
     have hwi:IntKind.i64.wrap ((i:Int)+1)=i+1:=IntWalk.i64_in _ ah
     obtain⟨hc2,hf2,JD,hn2,hm2⟩:=WU.out.rules
     clear hl hsl
     go_wp2_with fail
     clear hc2 hf2 JD hn2 hm2 hcell
     go_loopw [9] (fun t W=>∃(k:Nat) (b0:Int),k≤l.length∧t=.int .i64 k∧RowKit.Hid (vK p.parts.length p.frame 0 l↔vK p.parts.length p.frame b0 (l.drop k))∧RowKit.Hid ((k=0∧b0=0)∨∃y,0<k∧l[k-1]?=some y∧b0=y.2.1+y.2.2∧mq p.parts.length p.frame y)∧Below wa.heap.size wa W) (fun t _=>l.length-(intOf t).toNat)
     case atStart=>exact⟨0,0,Nat.zero_le _,rfl,Lib.hid Iff.rfl,Lib.hid (.inl ⟨rfl,rfl⟩),Below.refl _ _⟩
     case round=>as_aux_lemma=>
      obtain⟨k,b0,hk,rfl,HIF,HPV,hby⟩:=hrel
      have abq:=hby.size
      have hbb:=aC.below WU.out hby WU.out.lt
      obtain⟨hc2,hf2,JD,hn2,hm2⟩:=hbb.rules
      have HBB:=Lib.hid hbb
      have hcell:=(hby.cell (p:=⟨b,off+i,none⟩) hb).trans nu.out
      have hbl:=hb
      clear hbb
      by_cases hkl:k<l.length
      case pos=>as_aux_lemma=>
       obtain⟨⟨xp,xf,xl⟩,hx⟩:∃x,l[k]?=some x:=⟨_,List.getElem?_eq_getElem hkl⟩
       obtain⟨b2,off2,rfl,hb2,q0,q1,q2⟩:=Sl.wn (HSL.out.below hby) hx
       have HDR:=Lib.hid (Gf (n:=p.parts.length) (frame:=p.frame) (b:=b0) hx)
       have HXK:=Lib.hid hx
       have hwk:IntKind.i64.wrap ((k:Int)+1)=k+1:=IntWalk.i64_in _ ah
       have hne:¬b=wr.heap.size:=ah
       have hne2:¬b2=wr.heap.size:=ah
       clear hx
       dsimp only at q0 q1 q2
       by_cases x1:xp<0
       case pos=>as_aux_lemma=>
        exact II
       have x1d:decide (xp<0)=false:=by simpa using x1
       by_cases x2:(p.parts.length:Int)≤xp
       case pos=>as_aux_lemma=>
        exact II
       have x2d:decide ((p.parts.length:Int)≤xp)=false:=by simpa using x2
       by_cases x3:xf<0
       case pos=>as_aux_lemma=>
        exact II
       have x3d:decide (xf<0)=false:=by simpa using x3
       by_cases x4:p.frame<xf
       case pos=>as_aux_lemma=>
        exact II
       have x4d:decide (p.frame<xf)=false:=by simpa using x4
       by_cases x5:xl<3
       case pos=>as_aux_lemma=>
        exact II
       have x5d:decide (xl<3)=false:=by simpa using x5
       have hfr:=HF.out
       have hwf:IntKind.i64.wrap (p.frame-xf)=p.frame-xf:=IntWalk.i64_in _ ah
       by_cases x6:p.frame-xf<xl
       case pos=>as_aux_lemma=>
        exact II
       have x6d:decide (p.frame-xf<xl)=false:=by simpa using x6
       have OE:=Lib.hid (show mq p.parts.length p.frame (xp,xf,xl) by unfold mq;dsimp only;omega)
       go_wp2_with fail
       have hbn:=aC.new wr (#[.int .i64 xp,.int .i64 xf,.int .i64 xl]:Array Value) 76
       have hy4:Below wa.heap.size wa (wr.alloc (.cells #[.int .i64 xp,.int .i64 xf,.int .i64 xl] 76)):=hby.alloc abq _
       have hb4:Below wr.heap.size wr (wr.alloc (.cells #[.int .i64 xp,.int .i64 xf,.int .i64 xl] 76)):=(Below.refl _ _).alloc (Nat.le_refl _) _
       have vT:(wr.alloc (.cells #[.int .i64 xp,.int .i64 xf,.int .i64 xl] 76)).heap.size=wr.heap.size+1:=aI
       generalize Ow:wr.alloc (.cells #[.int .i64 xp,.int .i64 xf,.int .i64 xl] 76)=w4 at*
       clear Ow
       have hbr:b<wr.heap.size:=Nat.lt_of_lt_of_le hb abq
       have aj9:b<w4.heap.size:=ah
       have g0:=aC.qL hbn
       have g1:=aC.qL (aC.below HBB.out hb4 HBB.out.lt)
       have g2:=Az ((hb4.cell (p:=⟨b,off+i,none⟩) hbr).trans hcell) aj9
       clear hc2 hf2 JD hn2 hm2 q0 q1 q2 hcell
       by_cases hk0:k=0
       ·have aj3:decide (0<k)=false:=by simp;omega
        have aj2:decide ((0:Int)<k)=false:=aR
        ((refine wp_region_quiet_below aj aj ?_);(repeat(go_big_quiet_step (fail)));(refine wpQuiet_nil ?_);(intro _ hw');(obtain⟨⟨dq,osq⟩,hw''⟩:=hw');(subst hw'');(have oZ:=below_regrown w4 dq osq);(generalize Go.Sort.grow (redrawn w4 dq) osq=w7 at*);(have Io:=oZ.size))
        clear g0 g1 g2
        go_wp2_with fail
        go_roundw
        case rel=>
         refine⟨k+1,xf+xl,ah,bI,Lib.hid ?_,Lib.hid (.inr ⟨(xp,xf,xl),ah,by simpa using HXK.out,rfl,OE.out⟩),hy4.trans (oZ.mono ah)⟩
         rw[HIF.out,HDR.out]
         have tY:b0=0:=by
          rcases HPV.out with h|⟨y,h,_⟩
          ·exact h.2
          ·omega
         exact⟨fun h=>h.2.2,fun h=>⟨OE.out,by show b0≤xf;omega,h⟩⟩
        case measure=>simp[intOf];omega
       ·obtain⟨j,rfl⟩:∃j,k=j+1:=⟨k-1,ah⟩
        obtain⟨⟨yp,yf,yl⟩,_,hyj,hb0,afr⟩:∃y:Wn,0<j+1∧l[j]?=some y∧b0=y.2.1+y.2.2∧mq p.parts.length p.frame y:=by
         rcases HPV.out with h|⟨y,h1,h2,h3⟩
         ·omega
         ·exact⟨y,h1,BI,h3⟩
        unfold mq at afr
        dsimp only at hb0 afr
        obtain⟨_,_,he,_,r0,r1,r2⟩:=Sl.wn (HSL.out.below hy4) hyj
        simp only[Option.some.injEq,Addr.mk.injEq,and_true] at he
        obtain⟨rfl,rfl⟩:=he
        have g3:=Az r1 ah
        have g4:=Az r2 ah
        have aj3:decide (0<j+1)=true:=aI
        have aj2:decide ((0:Int)<(j:Int)+1)=true:=decide_eq_true ah
        have hwj:IntKind.i64.wrap ((j:Int)+1-1)=j:=BO
        have hwy:IntKind.i64.wrap (yf+yl)=yf+yl:=IntWalk.i64_in _ ah
        have HB0:=Lib.hid hb0
        clear r0 r1 r2 hyj afr hb0
        by_cases hlt2:xf<yf+yl
        ·have hld:decide (xf<yf+yl)=true:=by simpa using hlt2
         have HN:=Lib.hid (show¬dW p from fun h=>by
          have h':=(HDR.out.1 (HIF.out.1 (h.rows l (List.mem_of_getElem? HLI.out)))).2.1
          have:=HB0.out
          try dsimp only at h'
          omega)
         ((refine wp_region_quiet_below aj aj ?_);(repeat(go_big_quiet_step (fail)));(refine wpQuiet_nil ?_);(intro _ hw');(obtain⟨⟨dq,osq⟩,hw''⟩:=hw');(subst hw'');(have oZ:=below_regrown w4 dq osq);(generalize Go.Sort.grow (redrawn w4 dq) osq=w7 at*);(have Io:=oZ.size))
         clear g0 g1 g2 g3 g4
         go_wp2_with fail
         go_ret
         exact⟨⟨9,aI,Aa⟩,hX.trans ((hy4.trans (oZ.mono ah)).mono hX.size)⟩
        ·have hld:decide (xf<yf+yl)=false:=by simpa using hlt2
         ((refine wp_region_quiet_below aj aj ?_);(repeat(go_big_quiet_step (fail)));(refine wpQuiet_nil ?_);(intro _ hw');(obtain⟨⟨dq,osq⟩,hw''⟩:=hw');(subst hw'');(have oZ:=below_regrown w4 dq osq);(generalize Go.Sort.grow (redrawn w4 dq) osq=w7 at*);(have Io:=oZ.size))
         clear g0 g1 g2 g3 g4
         go_wp2_with fail
         go_roundw
         case rel=>
          refine⟨j+1+1,xf+xl,ah,bI,Lib.hid ?_,Lib.hid (.inr ⟨(xp,xf,xl),ah,by simpa using HXK.out,rfl,OE.out⟩),hy4.trans (oZ.mono ah)⟩
          rw[HIF.out,HDR.out]
          have:=HB0.out
          exact⟨fun h=>h.2.2,fun h=>⟨OE.out,by show b0≤xf;omega,h⟩⟩
         case measure=>simp[intOf];omega
      obtain rfl:k=l.length:=by omega
      have HRO:=Lib.hid (HIF.out.2 (by rw[List.drop_length];trivial))
      go_wp2_with fail
      go_roundw
      case rel=>
       refine⟨i+1,ah,bI,Lib.hid ?_,Sc.out.trans (hby.mono hws)⟩
       exact aeb
      case measure=>simp[intOf];omega
    obtain rfl:i=p.wins.length:=by omega
    have HRW:=Lib.hid (show∀l∈p.wins,vK p.parts.length p.frame 0 l from fun l hl=>by
     obtain⟨j,hj,he⟩:=List.mem_iff_getElem.1 hl
     exact HR.out j l hj BN)
    obtain⟨hc2,hf2,JD,hn2,hm2⟩:=WU.out.rules
    go_wp2_with fail
    clear hc2 hf2 JD hn2 hm2
    go_loopw [11] (fun t W=>∃i:Nat,i≤p.chans.length∧t=.int .i64 i∧RowKit.Hid (∀j x,j<i→p.chans[j]?=some x→iW p.parts.length x)∧Below wa.heap.size wa W) (fun t _=>p.chans.length-(intOf t).toNat)
    case atStart=>exact⟨0,Nat.zero_le _,rfl,Lib.hid (by intro j l h;omega),Below.refl _ _⟩
    case round=>as_aux_lemma=>
     clear hi hlt
     obtain⟨i,hi,rfl,HR3,hbc⟩:=hrel
     have ajF:=hbc.size
     have hbb:=aC.below WU.out hbc WU.out.lt
     obtain⟨hc2,hf2,JD,hn2,hm2⟩:=hbb.rules
     clear hbb
     by_cases hlt:i<p.chans.length
     case pos=>as_aux_lemma=>
      obtain⟨⟨kd,f,t,s,d⟩,hx⟩:∃x,p.chans[i]?=some x:=⟨_,List.getElem?_eq_getElem hlt⟩
      obtain⟨b2,off2,rfl,hb2,q0,q1,q2,q3,q4⟩:=Sl.ch (HPA.out.chans.below hbc) hx
      have OW:=Lib.hid hx
      have hwi:IntKind.i64.wrap ((i:Int)+1)=i+1:=IntWalk.i64_in _ ah
      have hne2:¬b2=wr.heap.size:=ah
      clear hx
      dsimp only at q0 q1 q2 q3 q4
      by_cases k1:kd=1
      ·subst k1
       by_cases y1:f<0
       case pos=>as_aux_lemma=>
        exact tQ
       have y1d:decide (f<0)=false:=by simpa using y1
       by_cases y2:(p.parts.length:Int)≤f
       case pos=>as_aux_lemma=>
        exact tQ
       have y2d:decide ((p.parts.length:Int)≤f)=false:=by simpa using y2
       by_cases y3:t<0
       case pos=>as_aux_lemma=>
        exact tQ
       have y3d:decide (t<0)=false:=by simpa using y3
       by_cases y4:(p.parts.length:Int)≤t
       case pos=>as_aux_lemma=>
        exact tQ
       have y4d:decide ((p.parts.length:Int)≤t)=false:=by simpa using y4
       by_cases y5:f=t
       case pos=>as_aux_lemma=>
        have y5d:(f==t)=true:=by simpa using y5
        exact tQ
       have y5d:(f==t)=false:=by simpa using y5
       by_cases y6:s<1
       case pos=>as_aux_lemma=>
        exact tQ
       have y6d:decide (s<1)=false:=by simpa using y6
       by_cases y7:32<s
       case pos=>as_aux_lemma=>
        exact tQ
       have y7d:decide (32<s)=false:=by simpa using y7
       by_cases y8:d<1
       case pos=>as_aux_lemma=>
        exact tQ
       have y8d:decide (d<1)=false:=by simpa using y8
       by_cases y9:8<d
       case pos=>as_aux_lemma=>
        exact tQ
       have y9d:decide (8<d)=false:=by simpa using y9
       by_cases y10:d=1
       case neg=>as_aux_lemma=>
        have ajt:(d !=1)=true:=by simpa using y10
        exact tQ
       have ajt:(d !=1)=false:=by simpa using y10
       have OE:=Lib.hid (show iW p.parts.length (1,f,t,s,d) by unfold iW;dsimp only;omega)
       exact aew
      by_cases k2:kd=2
      ·subst k2
       by_cases y1:f<0
       case pos=>as_aux_lemma=>
        exact tQ
       have y1d:decide (f<0)=false:=by simpa using y1
       by_cases y2:(p.parts.length:Int)≤f
       case pos=>as_aux_lemma=>
        exact tQ
       have y2d:decide ((p.parts.length:Int)≤f)=false:=by simpa using y2
       by_cases y3:t<0
       case pos=>as_aux_lemma=>
        exact tQ
       have y3d:decide (t<0)=false:=by simpa using y3
       by_cases y4:(p.parts.length:Int)≤t
       case pos=>as_aux_lemma=>
        exact tQ
       have y4d:decide ((p.parts.length:Int)≤t)=false:=by simpa using y4
       by_cases y5:f=t
       case pos=>as_aux_lemma=>
        have y5d:(f==t)=true:=by simpa using y5
        exact tQ
       have y5d:(f==t)=false:=by simpa using y5
       by_cases y6:s<1
       case pos=>as_aux_lemma=>
        exact tQ
       have y6d:decide (s<1)=false:=by simpa using y6
       by_cases y7:32<s
       case pos=>as_aux_lemma=>
        exact tQ
       have y7d:decide (32<s)=false:=by simpa using y7
       by_cases y8:d<1
       case pos=>as_aux_lemma=>
        exact tQ
       have y8d:decide (d<1)=false:=by simpa using y8
       by_cases y9:8<d
       case pos=>as_aux_lemma=>
        exact tQ
       have y9d:decide (8<d)=false:=by simpa using y9
       have OE:=Lib.hid (show iW p.parts.length (2,f,t,s,d) by unfold iW;dsimp only;omega)
       exact aew
      have k1d:(kd !=1)=true:=by simpa using k1
      have k2d:(kd !=2)=true:=by simpa using k2
      exact tQ
     obtain rfl:i=p.chans.length:=by omega
     have OE:=Lib.hid (show dW p from⟨h1,h2,h3,H4.out,h5,h6,H7.out,HF.out.1,HF.out.2,HRW.out,fun c hc=>by
      obtain⟨j,hj,he⟩:=List.mem_iff_getElem.1 hc
      exact HR3.out j c hj BN⟩)
     go_wp2_with fail
     go_ret
     exact⟨⟨0,aI,fun _=>OE.out,fun _=>rfl⟩,hX.trans (hbc.mono hX.size)⟩
end Go.Proofs.YtgmodehldmahiaaGreatDoor.Plan
