/- Part 46 of 53 of the proof of topAlone_and_topApart. Conditions: see each. -/
import Derived.Test.YtgmodehldmahiaaGreatDoorB14
import Derived.Test.YtgmodehldmahiaaGreatDoorB45
set_option linter.unusedVariables false
set_option linter.unusedSimpArgs false
set_option maxRecDepth 8192
set_option maxHeartbeats 40000000
section
namespace Go.Proofs.YtgmodehldmahiaaGreatDoor
open Go Go.RowKit Go.Tm
attribute [local go_sem] fO fM fK d_ dM dZ dY dX dW dV dU dS dR dQ dP dO dN iQ iP iO iN iM iL iK iG iJ iI fU fT fQ fP fI fH fC
theorem SN(x:Ev)(h:agq x):Plain Tryz.prog 134 #[.int .i64 x.1,.int .u32 x.2.1,.int .u32 x.2.2.1,.int .u64 x.2.2.2] [.int .i64 x.1,.int .u32 x.2.1,.int .u32 x.2.2.1,.int .u64 x.2.2.2]:=by
 obtain⟨h1,h2,h3,h4⟩:=h
 have g1:=h1
 have g2:=Po.1 h2
 have g3:=Po.1 h3
 have g4:=VI h4
 unfold qK at g1
 refine⟨ay,6,?_⟩
 have e0:Tryz.prog.cellsOf 134=4:=ay
 have e1:Tryz.prog.cellsOf 3=1:=ay
 have e2:Tryz.prog.cellsOf 116=1:=ay
 have e3:Tryz.prog.cellsOf 32=1:=ay
 simp[Program.keyLits,Tryz.underlying134,Tryz.underlying3,Tryz.underlying116,Tryz.underlying32,e0,e1,e2,e3,g1,g2,g3,g4]
theorem Sq(x:Ms)(h:qK x.1)(hs:x.2.size≤9223372036854775807):Plain Tryz.prog 136 #[.int .i64 x.1,.string x.2] [.int .i64 x.1,.string x.2.data.toList]:=by
 have g1:=h
 unfold qK at g1
 have g2:x.2.size≤maxLen:=hs
 refine⟨ay,6,?_⟩
 have e0:Tryz.prog.cellsOf 136=2:=ay
 have e1:Tryz.prog.cellsOf 3=1:=ay
 have e2:Tryz.prog.cellsOf 9=1:=ay
 simp[Program.keyLits,Tryz.underlying136,Tryz.underlying3,Tryz.underlying9,e0,e1,e2,g1,g2]
theorem Sv(x:Ms)(h:OI x):Plain Tryz.prog 138 #[.int .u64 x.1,.string x.2] [.int .u64 x.1,.string x.2.data.toList]:=by
 have g1:=VI h.1
 have g2:x.2.size≤maxLen:=h.2
 refine⟨ay,6,?_⟩
 have e0:Tryz.prog.cellsOf 138=2:=ay
 have e1:Tryz.prog.cellsOf 32=1:=ay
 have e2:Tryz.prog.cellsOf 9=1:=ay
 simp[Program.keyLits,Tryz.underlying138,Tryz.underlying32,Tryz.underlying9,e0,e1,e2,g1,g2]
theorem S9(x:aW.Ch)(h:Mj x):Plain Tryz.prog 95 #[.int .i64 x.1,.int .i64 x.2.1,.int .i64 x.2.2.1,.int .i64 x.2.2.2.1,.int .i64 x.2.2.2.2] [.int .i64 x.1,.int .i64 x.2.1,.int .i64 x.2.2.1,.int .i64 x.2.2.2.1,.int .i64 x.2.2.2.2]:=by
 obtain⟨g1,g2,g3,g4,g5⟩:=h
 unfold qK at g1 g2 g3 g4 g5
 refine⟨ay,6,?_⟩
 have e0:Tryz.prog.cellsOf 95=5:=ay
 have e1:Tryz.prog.cellsOf 3=1:=ay
 simp[Program.keyLits,Tryz.underlying95,Tryz.underlying3,e0,e1,g1,g2,g3,g4,g5]
theorem alM(x:Ev)(h:agq x):∀w,(Op.equalIn 10000 134 (.agg #[.int .i64 x.1,.int .u32 x.2.1,.int .u32 x.2.2.1,.int .u64 x.2.2.2]) (.agg #[.int .i64 x.1,.int .u32 x.2.1,.int .u32 x.2.2.1,.int .u64 x.2.2.2])).run Tryz.prog w=.ok true w:=
 j_ (m:=6) aj ay ay (SN x h) (SN x h) true aI
theorem alK(x:Ms)(h:qK x.1)(hs:x.2.size≤9223372036854775807):∀w,(Op.equalIn 10000 136 (.agg #[.int .i64 x.1,.string x.2]) (.agg #[.int .i64 x.1,.string x.2])).run Tryz.prog w=.ok true w:=
 j_ (m:=6) aj ay ay (Sq x h hs) (Sq x h hs) true aI
theorem alL(x:Ms)(h:OI x):∀w,(Op.equalIn 10000 138 (.agg #[.int .u64 x.1,.string x.2]) (.agg #[.int .u64 x.1,.string x.2])).run Tryz.prog w=.ok true w:=
 j_ (m:=6) aj ay ay (Sv x h) (Sv x h) true aI
theorem alN(x:aW.Ch)(h:Mj x):∀w,(Op.equalIn 10000 95 (.agg #[.int .i64 x.1,.int .i64 x.2.1,.int .i64 x.2.2.1,.int .i64 x.2.2.2.1,.int .i64 x.2.2.2.2]) (.agg #[.int .i64 x.1,.int .i64 x.2.1,.int .i64 x.2.2.1,.int .i64 x.2.2.2.1,.int .i64 x.2.2.2.2])).run Tryz.prog w=.ok true w:=
 j_ (m:=6) aj ay ay (S9 x h) (S9 x h) true aI
theorem TL(v u:Value)(l:List Ev)(w:World)(hv:Sl w true 4 v (l.map YS))(hu:Sl w true 4 u (l.map YS))(hw:∀x∈l,agq x):
  Calls Tryz.prog 29 #[v,u] w fun e w'=>e=.returned (.bool true)∧Below w.heap.size w w':=by
 have HV:=ah hv
 have HU:=ah hu
 have HW:=ah hw
 obtain⟨a,cap,rfl,hl⟩:=hv.shape
 obtain⟨a2,jl,rfl,_⟩:=hu.shape
 rw[List.length_map] at hl HV HU⊢
 clear hv hu hw
 go_enter Tryz.func29,Tryz.ntmps29
 go_wp2_with fail
 go_loopw [5] (fun t W=>∃i:Nat,i≤l.length∧t=.int .i64 i∧Below w.heap.size w W) (fun t _=>l.length-(intOf t).toNat)
 case atStart=>exact⟨0,Nat.zero_le _,rfl,Below.refl _ _⟩
 case round=>
  obtain⟨i,hi,rfl,bZ⟩:=hrel
  have Bj:=bZ.size
  by_cases hlt:i<l.length
  ·obtain⟨x,hx⟩:∃x,l[i]?=some x:=⟨_,List.getElem?_eq_getElem hlt⟩
   have heq:=alM x (HW.out x (List.mem_of_getElem? hx))
   obtain⟨b,off,xR,hbl,hc⟩:=(HV.out.below bZ).at (i:=i) (x:=YS x) zT
   obtain⟨b2,nU,uJ,UW,hc2⟩:=(HU.out.below bZ).at (i:=i) (x:=YS x) zT
   subst xR uJ
   have c0:wr.cell? ⟨b,off+i*4,none⟩=some (.int .i64 x.1):=Vl
   have c1:wr.cell? ⟨b,off+i*4+1,none⟩=some (.int .u32 x.2.1):=by simpa using hc 1 (.int .u32 x.2.1) rfl
   have c2:wr.cell? ⟨b,off+i*4+2,none⟩=some (.int .u32 x.2.2.1):=by simpa using hc 2 (.int .u32 x.2.2.1) rfl
   have c3:wr.cell? ⟨b,off+i*4+3,none⟩=some (.int .u64 x.2.2.2):=by simpa using hc 3 (.int .u64 x.2.2.2) rfl
   have d0:wr.cell? ⟨b2,nU+i*4,none⟩=some (.int .i64 x.1):=Vn
   have d1:wr.cell? ⟨b2,nU+i*4+1,none⟩=some (.int .u32 x.2.1):=by simpa using hc2 1 (.int .u32 x.2.1) rfl
   have d2:wr.cell? ⟨b2,nU+i*4+2,none⟩=some (.int .u32 x.2.2.1):=by simpa using hc2 2 (.int .u32 x.2.2.1) rfl
   have d3:wr.cell? ⟨b2,nU+i*4+3,none⟩=some (.int .u64 x.2.2.2):=by simpa using hc2 3 (.int .u64 x.2.2.2) rfl
   exact Nj
  ·exact Dm
theorem aau(v u:Value)(l:List Ms)(w:World)(hv:Sl w true 2 v (l.map LM))(hu:Sl w true 2 u (l.map LM))(hw:∀x∈l,qK x.1∧x.2.size≤9223372036854775807):
  Calls Tryz.prog 30 #[v,u] w fun e w'=>e=.returned (.bool true)∧Below w.heap.size w w':=by
 have HV:=ah hv
 have HU:=ah hu
 have HW:=ah hw
 obtain⟨a,cap,rfl,hl⟩:=hv.shape
 obtain⟨a2,jl,rfl,_⟩:=hu.shape
 rw[List.length_map] at hl HV HU⊢
 clear hv hu hw
 go_enter Tryz.func30,Tryz.ntmps30
 go_wp2_with fail
 go_loopw [5] (fun t W=>∃i:Nat,i≤l.length∧t=.int .i64 i∧Below w.heap.size w W) (fun t _=>l.length-(intOf t).toNat)
 case atStart=>exact⟨0,Nat.zero_le _,rfl,Below.refl _ _⟩
 case round=>
  obtain⟨i,hi,rfl,bZ⟩:=hrel
  have Bj:=bZ.size
  by_cases hlt:i<l.length
  ·obtain⟨x,hx⟩:∃x,l[i]?=some x:=⟨_,List.getElem?_eq_getElem hlt⟩
   have heq:=alK x (HW.out x (List.mem_of_getElem? hx)).1 (HW.out x (List.mem_of_getElem? hx)).2
   obtain⟨b,off,xR,hbl,hc⟩:=(HV.out.below bZ).at (i:=i) (x:=LM x) zT
   obtain⟨b2,nU,uJ,UW,hc2⟩:=(HU.out.below bZ).at (i:=i) (x:=LM x) zT
   subst xR uJ
   have c0:wr.cell? ⟨b,off+i*2,none⟩=some (.int .i64 x.1):=Vl
   have c1:wr.cell? ⟨b,off+i*2+1,none⟩=some (.string x.2):=by simpa using hc 1 (.string x.2) rfl
   have d0:wr.cell? ⟨b2,nU+i*2,none⟩=some (.int .i64 x.1):=Vn
   have d1:wr.cell? ⟨b2,nU+i*2+1,none⟩=some (.string x.2):=by simpa using hc2 1 (.string x.2) rfl
   exact Nj
  ·exact Dm
theorem KJ(v u:Value)(l:List aW.Ch)(w:World)(hv:Sl w true 5 v (l.map aW.uG))(hu:Sl w true 5 u (l.map aW.uG))(hw:∀x∈l,Mj x):
  Calls Tryz.prog 31 #[v,u] w fun e w'=>e=.returned (.bool true)∧Below w.heap.size w w':=by
 have HV:=ah hv
 have HU:=ah hu
 have HW:=ah hw
 obtain⟨a,cap,rfl,hl⟩:=hv.shape
 obtain⟨a2,jl,rfl,_⟩:=hu.shape
 rw[List.length_map] at hl HV HU⊢
 clear hv hu hw
 go_enter Tryz.func31,Tryz.ntmps31
 go_wp2_with fail
 go_loopw [5] (fun t W=>∃i:Nat,i≤l.length∧t=.int .i64 i∧Below w.heap.size w W) (fun t _=>l.length-(intOf t).toNat)
 case atStart=>exact⟨0,Nat.zero_le _,rfl,Below.refl _ _⟩
 case round=>
  obtain⟨i,hi,rfl,bZ⟩:=hrel
  have Bj:=bZ.size
  by_cases hlt:i<l.length
  ·obtain⟨x,hx⟩:∃x,l[i]?=some x:=⟨_,List.getElem?_eq_getElem hlt⟩
   have heq:=alN x (HW.out x (List.mem_of_getElem? hx))
   obtain⟨b,off,xR,hbl,hc⟩:=(HV.out.below bZ).at (i:=i) (x:=aW.uG x) zT
   obtain⟨b2,nU,uJ,UW,hc2⟩:=(HU.out.below bZ).at (i:=i) (x:=aW.uG x) zT
   subst xR uJ
   have c0:wr.cell? ⟨b,off+i*5,none⟩=some (.int .i64 x.1):=Vl
   have c1:wr.cell? ⟨b,off+i*5+1,none⟩=some (.int .i64 x.2.1):=by simpa using hc 1 (.int .i64 x.2.1) rfl
   have c2:wr.cell? ⟨b,off+i*5+2,none⟩=some (.int .i64 x.2.2.1):=by simpa using hc 2 (.int .i64 x.2.2.1) rfl
   have c3:wr.cell? ⟨b,off+i*5+3,none⟩=some (.int .i64 x.2.2.2.1):=by simpa using hc 3 (.int .i64 x.2.2.2.1) rfl
   have c4:wr.cell? ⟨b,off+i*5+4,none⟩=some (.int .i64 x.2.2.2.2):=by simpa using hc 4 (.int .i64 x.2.2.2.2) rfl
   have d0:wr.cell? ⟨b2,nU+i*5,none⟩=some (.int .i64 x.1):=Vn
   have d1:wr.cell? ⟨b2,nU+i*5+1,none⟩=some (.int .i64 x.2.1):=by simpa using hc2 1 (.int .i64 x.2.1) rfl
   have d2:wr.cell? ⟨b2,nU+i*5+2,none⟩=some (.int .i64 x.2.2.1):=by simpa using hc2 2 (.int .i64 x.2.2.1) rfl
   have d3:wr.cell? ⟨b2,nU+i*5+3,none⟩=some (.int .i64 x.2.2.2.1):=by simpa using hc2 3 (.int .i64 x.2.2.2.1) rfl
   have d4:wr.cell? ⟨b2,nU+i*5+4,none⟩=some (.int .i64 x.2.2.2.2):=by simpa using hc2 4 (.int .i64 x.2.2.2.2) rfl
   exact Nj
  ·exact Dm
end Go.Proofs.YtgmodehldmahiaaGreatDoor
end
section
namespace Go.Proofs.YtgmodehldmahiaaGreatDoor
open Go Go.RowKit Go.Tm
attribute [local go_sem] fO fM fK d_ dM dZ dY dX dW dV dU dS dR dQ dP dO dN iQ iP iO iN iM iL iK iG iJ iI fU fT fQ fP fI fH fC
theorem aaS(v u:Value)(l:List Int)(w:World)(hv:Sl w false 1 v (ints l))(hu:Sl w false 1 u (ints l)):
  Calls Tryz.prog 57 #[v,u] w fun e w'=>e=.returned (.bool true)∧Below w.heap.size w w':=by
 have HV:=ah hv
 have HU:=ah hu
 obtain⟨a,cap,rfl,hl⟩:=hv.shape
 obtain⟨a2,jl,rfl,_⟩:=hu.shape
 rw[gH] at hl HV HU⊢
 clear hv hu
 go_enter Tryz.func57,Tryz.ntmps57
 go_wp2_with fail
 go_loopw [5] (fun t W=>∃i:Nat,i≤l.length∧t=.int .i64 i∧Below w.heap.size w W) (fun t _=>l.length-(intOf t).toNat)
 case atStart=>exact⟨0,Nat.zero_le _,rfl,Below.refl _ _⟩
 case round=>
  obtain⟨i,hi,rfl,bZ⟩:=hrel
  have Bj:=bZ.size
  by_cases hlt:i<l.length
  ·obtain⟨x,hx⟩:∃x,l[i]?=some x:=⟨_,List.getElem?_eq_getElem hlt⟩
   obtain⟨b,off,xR,hbl,hc⟩:=(HV.out.below bZ).at (i:=i) (x:= .int .i64 x) (by simp[ints,hx])
   obtain⟨b2,nU,uJ,UW,hc2⟩:=(HU.out.below bZ).at (i:=i) (x:= .int .i64 x) (by simp[ints,hx])
   subst xR uJ
   have c0:wr.cell? ⟨b,off+i,none⟩=some (.int .i64 x):=by simpa using hc 0 (.int .i64 x) rfl
   have d0:wr.cell? ⟨b2,nU+i,none⟩=some (.int .i64 x):=by simpa using hc2 0 (.int .i64 x) rfl
   exact Nj
  ·exact Dm
theorem ZK(v u:Value)(l:List Int)(n:Int)(w:World)(hv:Sl w false 1 v (ints l))(hu:Sl w false 1 u (ints l)):
  Calls Tryz.prog 25 #[.agg #[v,.int .i64 n],.agg #[u,.int .i64 n]] w fun e w'=>e=.returned (.bool true)∧Below w.heap.size w w':=by
 have HS:=ah (fun W h1 h2=>aaS v u l W h1 h2)
 have HV:=ah hv
 have HU:=ah hu
 obtain⟨a,m,c,rfl⟩:=hv.is
 obtain⟨a2,m2,c2,rfl⟩:=hu.is
 clear hv hu
 go_enter Tryz.func25,Tryz.ntmps25
 go_wp2_with fail
 (generalize bR:World.alloc _ _=w0;have KB:aD w0 (w.heap.size) (#[.slice a m c,.int .i64 n]) 46:=bH;have KC:aD w0 (w.heap.size+1) (#[.slice a2 m2 c2,.int .i64 n]) 46:=bH;have hb0:Below w.heap.size w w0:=bN;have hz0:w0.heap.size=w.heap.size+1+1:=bX;clear bR;have KB:=ah KB;have KC:=ah KC)
 with_reducible refine(HS.out _ (HV.out.below hb0) (HU.out.below hb0)).mono ?_
 rintro en w1 ⟨rfl,hb1⟩
 have p8:=ah (KB.out.below hb1 KB.out.lt)
 have KC1:=ah (KC.out.below hb1 KC.out.lt)
 have bW:=hb0.trans (hb1.mono hb0.size)
 obtain⟨hcb,bC,bn,bA,bE⟩:=aD.rules p8.out
 obtain⟨hcc,Qy,hlc,Qv,LD⟩:=aD.rules KC1.out
 go_wp2_with fail
 go_ret
 exact⟨rfl,bW⟩
theorem afy(v u:Value)(l:List Ms)(n:Int)(w:World)(hv:Sl w true 2 v (l.map Bg))(hu:Sl w true 2 u (l.map Bg))(hw:∀x∈l,OI x):
  Calls Tryz.prog 32 #[.agg #[v,.int .i64 n],.agg #[u,.int .i64 n]] w fun e w'=>e=.returned (.bool true)∧Below w.heap.size w w':=by
 have HV:=ah hv
 have HU:=ah hu
 have HW:=ah hw
 obtain⟨a,cap,rfl,hl⟩:=hv.shape
 obtain⟨a2,jl,rfl,_⟩:=hu.shape
 rw[List.length_map] at hl HV HU⊢
 clear hv hu hw
 go_enter Tryz.func32,Tryz.ntmps32
 go_wp2_with fail
 (generalize bR:World.alloc _ _=w0;have KB:aD w0 (w.heap.size) (#[.slice a l.length cap,.int .i64 n]) 93:=bH;have KC:aD w0 (w.heap.size+1) (#[.slice a2 l.length jl,.int .i64 n]) 93:=bH;have hb0:Below w.heap.size w w0:=bN;have hz0:w0.heap.size=w.heap.size+1+1:=bX;clear bR;have KB:=ah KB;have KC:=ah KC)
 go_loopw [5] (fun t W=>∃i:Nat,i≤l.length∧t=.int .i64 i∧Below w0.heap.size w0 W) (fun t _=>l.length-(intOf t).toNat)
 case atStart=>exact⟨0,Nat.zero_le _,rfl,Below.refl _ _⟩
 case round=>
  obtain⟨i,hi,rfl,bZ⟩:=hrel
  have Bj:=bZ.size
  have Zm:=hb0.trans (bZ.mono hb0.size)
  have p8:=ah (KB.out.below bZ KB.out.lt)
  have KC1:=ah (KC.out.below bZ KC.out.lt)
  obtain⟨hcb,bC,bn,bA,bE⟩:=aD.rules p8.out
  obtain⟨hcc,Qy,hlc,Qv,LD⟩:=aD.rules KC1.out
  by_cases hlt:i<l.length
  ·obtain⟨x,hx⟩:∃x,l[i]?=some x:=⟨_,List.getElem?_eq_getElem hlt⟩
   have heq:=alL x (HW.out x (List.mem_of_getElem? hx))
   obtain⟨b,off,xR,hbl,hc⟩:=(HV.out.below Zm).at (i:=i) (x:=Bg x) zT
   obtain⟨b2,nU,uJ,UW,hc2⟩:=(HU.out.below Zm).at (i:=i) (x:=Bg x) zT
   subst xR uJ
   have c0:wr.cell? ⟨b,off+i*2,none⟩=some (.int .u64 x.1):=by simpa using hc 0 (.int .u64 x.1) rfl
   have c1:wr.cell? ⟨b,off+i*2+1,none⟩=some (.string x.2):=by simpa using hc 1 (.string x.2) rfl
   have d0:wr.cell? ⟨b2,nU+i*2,none⟩=some (.int .u64 x.1):=by simpa using hc2 0 (.int .u64 x.1) rfl
   have d1:wr.cell? ⟨b2,nU+i*2+1,none⟩=some (.string x.2):=by simpa using hc2 1 (.string x.2) rfl
   exact Nj
  ·go_wp2_with fail
   go_ret
   exact⟨rfl,Zm⟩
end Go.Proofs.YtgmodehldmahiaaGreatDoor
end
section
namespace Go.Proofs.YtgmodehldmahiaaGreatDoor
open Go Go.RowKit Go.Tm
attribute [local go_sem] fO fM fK d_ dM dZ dY dX dW dV dU dS dR dQ dP dO dN iQ iP iO iN iM iL iK iG iJ iI fU fT fQ fP fI fH fC
theorem NJ(s s2:Ks)(k:Kn)(a e c:Nat)(w:World)(hr:KR w s k)(hr2:KR w s2 k)(hb:Bd a e c k):
  Calls Tryz.prog 12 #[.agg (kC s k),.agg (kC s2 k)] w fun e w'=>e=.returned (.bool true)∧Below w.heap.size w w':=by
 have Eu:=ah hr
 have FV:=ah hr2
 have HBD:=ah hb
 have HP:=ah (fun W h1 h2=>(by simpa using aT.Ae s.P s2.P k.P k.P W h1 h2 hb.pw hb.pw:Calls Tryz.prog 24 #[s.P,s2.P] W fun e w'=>e=.returned (.bool true)∧Below W.heap.size W w'))
 have HT:=ah (fun W h1 h2=>ZK s.L s2.L k.L k.left W h1 h2)
 have HS:=ah (fun W h1 h2=>Sleep.Fe s.S s2.S k.S W h1 h2 hb.sw)
 have GV:=ah (fun W h1 h2=>Pipe.Fe s.Pi s2.Pi k.Pi W h1 h2 hr.pi)
 have HH:=ah (fun W h1 h2=>(by simpa using Heap.Ae k.hs k.hs s.H s2.H k.H k.H W h1 h2 hb.hw hb.hw:Calls Tryz.prog 28 #[.agg #[.int .i64 k.hs,s.H],.agg #[.int .i64 k.hs,s2.H]] W fun e w'=>e=.returned (.bool true)∧Below W.heap.size W w'))
 have HE:=ah (fun W h1 h2=>TL s.Tr s2.Tr k.tr W h1 h2 hb.tw)
 have HO:=ah (fun W h1 h2=>aau s.Se s2.Se k.se W h1 h2 hb.ses)
 have HOU:=ah (fun W h1 h2=>KJ s.Ou s2.Ou k.ou W h1 h2 hb.ow)
 have HIN:=ah (fun W h1 h2=>KJ s.In s2.In k.ins W h1 h2 hb.iw)
 have Zo:=hb.XC
 have HBM:=ah (fun(u u2:Value) (b:Bx) W (hm:b∈k.bx) h1 h2=>afy u u2 b.ms b.lost W h1 h2 (Zo b hm).2)
 obtain⟨ai,ci,hvi,vT⟩:=hr.Im.shape
 obtain⟨ai2,ci2,aj0,_⟩:=hr2.Im.shape
 obtain⟨ab,cb,hvb,bn⟩:=hr.Bx.sl.shape
 obtain⟨ab2,cb2,aj1,_⟩:=hr2.Bx.sl.shape
 rw[xE] at hvi vT aj0
 rw[sW hr.Bx.len] at hvb bn
 rw[sW hr2.Bx.len] at aj1
 obtain⟨P,L,S,Pi,H,Im,Ou,In,Bxv,bs,Tr,Se⟩:=s
 obtain⟨P2,L2,S2,Pi2,H2,Im2,Ou2,In2,asJ,bs2,Tr2,Se2⟩:=s2
 dsimp only at hvi aj0 hvb aj1 HP HT HS GV HH HE HO HOU HIN
 subst hvi aj0 hvb aj1
 have Ol:=kY ⟨P,L,S,Pi,H,.slice ai k.im.length ci,Ou,In,.slice ab k.bx.length cb,bs,Tr,Se⟩ k
 clear hr hr2 hb Zo Ol
 go_enter Tryz.func12,Tryz.ntmps12
 go_wp2_with fail
 (generalize bR:World.alloc _ _=w0;have KB:aD w0 (w.heap.size) (kC ⟨P,L,S,Pi,H,.slice ai k.im.length ci,Ou,In,.slice ab k.bx.length cb,bs,Tr,Se⟩ k) 57:=bH;have KC:aD w0 (w.heap.size+1) (kC ⟨P2,L2,S2,Pi2,H2,.slice ai2 k.im.length ci2,Ou2,In2,.slice ab2 k.bx.length cb2,bs2,Tr2,Se2⟩ k) 57:=bH;have hb0:Below w.heap.size w w0:=bN;have hz0:w0.heap.size=w.heap.size+1+1:=bX;clear bR;have KB:=ah KB;have KC:=ah KC)
 have hB0:=hb0
 have KB0:=KB
 have KC0:=KC
 with_reducible refine(HP.out _ (Eu.out.P.below hB0) (FV.out.P.below hB0)).mono ?_
 rintro en w1 ⟨rfl,hb1⟩
 have p8:=ah (KB0.out.below hb1 KB0.out.lt)
 have KC1:=ah (KC0.out.below hb1 KC0.out.lt)
 have FR:=hB0.trans (hb1.mono hB0.size)
 clear hb1 KB0 KC0
 obtain⟨agb,aga,UR,af3,af4⟩:=aD.rules p8.out
 obtain⟨aqJ,aqr,ap9,apu,apK⟩:=aD.rules KC1.out
 go_wp2_with fail
 clear agb aga UR af3 af4 aqJ aqr ap9 apu apK
 with_reducible refine(HT.out _ (Eu.out.L.below FR) (FV.out.L.below FR)).mono ?_
 rintro en w2 ⟨rfl,hb2⟩
 have qO:=ah (p8.out.below hb2 p8.out.lt)
 have KC2:=ah (KC1.out.below hb2 KC1.out.lt)
 have uh:=FR.trans (hb2.mono FR.size)
 clear hb2 p8 KC1
 obtain⟨aqQ,aqy,abL,apB,apR⟩:=aD.rules qO.out
 obtain⟨aqI,aqp,ap8,apt,apJ⟩:=aD.rules KC2.out
 go_wp2_with fail
 clear aqQ aqy abL apB apR aqI aqp ap8 apt apJ
 with_reducible refine(HS.out _ (Eu.out.S.below uh) (FV.out.S.below uh)).mono ?_
 rintro en w3 ⟨rfl,hb3⟩
 have vK:=ah (qO.out.below hb3 qO.out.lt)
 have KC3:=ah (KC2.out.below hb3 KC2.out.lt)
 have hB3:=uh.trans (hb3.mono uh.size)
 clear hb3 qO KC2
 obtain⟨aqP,aqx,aqd,apA,apQ⟩:=aD.rules vK.out
 obtain⟨aqH,aqo,ap7,aps,apI⟩:=aD.rules KC3.out
 go_wp2_with fail
 clear aqP aqx aqd apA apQ aqH aqo ap7 aps apI
 with_reducible refine(GV.out _ (Eu.out.Pi.below hB3) (FV.out.Pi.below hB3)).mono ?_
 rintro en w4 ⟨rfl,hb4⟩
 have A_:=ah (vK.out.below hb4 vK.out.lt)
 have KC4:=ah (KC3.out.below hb4 KC3.out.lt)
 have hB4:=hB3.trans (hb4.mono hB3.size)
 clear hb4 vK KC3
 obtain⟨aqO,aqw,aqc,apz,apP⟩:=aD.rules A_.out
 obtain⟨aqG,aqn,ap6,apr,apH⟩:=aD.rules KC4.out
 go_wp2_with fail
 clear aqO aqw aqc apz apP aqG aqn ap6 apr apH
 with_reducible refine(HH.out _ (Eu.out.H.below hB4) (FV.out.H.below hB4)).mono ?_
 rintro en w5 ⟨rfl,kV⟩
 have zI:=ah (A_.out.below kV A_.out.lt)
 have KC5:=ah (KC4.out.below kV KC4.out.lt)
 have bT:=hB4.trans (kV.mono hB4.size)
 clear kV A_ KC4
 obtain⟨aqN,aqv,aqb,apy,apO⟩:=aD.rules zI.out
 obtain⟨aqF,aqm,ap5,apq,apG⟩:=aD.rules KC5.out
 go_wp2_with fail
 clear aqN aqv aqb apy apO aqF aqm ap5 apq apG
 with_reducible refine(HE.out _ (Eu.out.Tr.below bT) (FV.out.Tr.below bT)).mono ?_
 rintro en w6 ⟨rfl,kM⟩
 have vL:=ah (zI.out.below kM zI.out.lt)
 have KC6:=ah (KC5.out.below kM KC5.out.lt)
 have hB6:=bT.trans (kM.mono bT.size)
 clear kM zI KC5
 obtain⟨aqM,aqu,aqa,apx,apN⟩:=aD.rules vL.out
 obtain⟨aqE,aql,ap4,apo,apF⟩:=aD.rules KC6.out
 go_wp2_with fail
 clear aqM aqu aqa apx apN aqE aql ap4 apo apF
 with_reducible refine(HO.out _ (Eu.out.Se.below hB6) (FV.out.Se.below hB6)).mono ?_
 rintro en w7 ⟨rfl,pE⟩
 have M5:=ah (vL.out.below pE vL.out.lt)
 have KC7:=ah (KC6.out.below pE KC6.out.lt)
 have hB7:=hB6.trans (pE.mono hB6.size)
 clear pE vL KC6
 obtain⟨aqL,aqt,ap',apw,apM⟩:=aD.rules M5.out
 obtain⟨aqD,aqk,ap0,apn,apE⟩:=aD.rules KC7.out
 go_wp2_with fail
 clear aqL aqt ap' apw apM aqD aqk ap0 apn apE
 with_reducible refine(HOU.out _ (Eu.out.Ou.below hB7) (FV.out.Ou.below hB7)).mono ?_
 rintro en w8 ⟨rfl,ku⟩
 have xg:=ah (M5.out.below ku M5.out.lt)
 have KC8:=ah (KC7.out.below ku KC7.out.lt)
 have hB8:=hB7.trans (ku.mono hB7.size)
 clear ku M5 KC7
 obtain⟨aqK,aqs,ap_,apv,apL⟩:=aD.rules xg.out
 obtain⟨aqC,aqj,apZ,apm,apD⟩:=aD.rules KC8.out
 go_wp2_with fail
 clear aqK aqs ap_ apv apL aqC aqj apZ apm apD
 with_reducible refine(HIN.out _ (Eu.out.In.below hB8) (FV.out.In.below hB8)).mono ?_
 rintro en w9 ⟨rfl,oN⟩
 have Io:=ah (xg.out.below oN xg.out.lt)
 have KC9:=ah (KC8.out.below oN KC8.out.lt)
 have hB9:=hB8.trans (oN.mono hB8.size)
 clear oN xg KC8
 obtain⟨hcb,bC,bn,bA,bE⟩:=aD.rules Io.out
 obtain⟨hcc,Qy,hlc,Qv,LD⟩:=aD.rules KC9.out
 go_wp2_with fail
 go_loopw [10] (fun t W=>∃i:Nat,i≤k.im.length∧t=.int .i64 i∧Below w9.heap.size w9 W) (fun t _=>k.im.length-(intOf t).toNat)
 case atStart=>exact⟨0,Nat.zero_le _,rfl,Below.refl _ _⟩
 case round=>
  obtain⟨i,hi,rfl,bZ⟩:=hrel
  have Bj:=bZ.size
  have Zm:=hB9.trans (bZ.mono hB9.size)
  have p8:=ah (Io.out.below bZ Io.out.lt)
  have KC1:=ah (KC9.out.below bZ KC9.out.lt)
  clear hcb bC bn bA bE hcc Qy hlc Qv LD
  obtain⟨hcb,bC,bn,bA,bE⟩:=aD.rules p8.out
  obtain⟨hcc,Qy,hlc,Qv,LD⟩:=aD.rules KC1.out
  by_cases hlt:i<k.im.length
  ·obtain⟨x,hx⟩:∃x,k.im[i]?=some x:=⟨_,List.getElem?_eq_getElem hlt⟩
   obtain⟨b,off,xR,hbl,hc⟩:=(Eu.out.Im.below Zm).at (i:=i) (x:= .string x) (by simp[rE,hx])
   obtain⟨b2,nU,uJ,UW,hc2⟩:=(FV.out.Im.below Zm).at (i:=i) (x:= .string x) (by simp[rE,hx])
   subst xR uJ
   have c0:wr.cell? ⟨b,off+i,none⟩=some (.string x):=by simpa using hc 0 (.string x) rfl
   have d0:wr.cell? ⟨b2,nU+i,none⟩=some (.string x):=by simpa using hc2 0 (.string x) rfl
   exact Nj
  ·go_wp2_with fail
   go_loopw [11] (fun t W=>∃i:Nat,i≤k.bx.length∧t=.int .i64 i∧Below w9.heap.size w9 W) (fun t _=>k.bx.length-(intOf t).toNat)
   case atStart=>exact⟨0,Nat.zero_le _,rfl,bZ⟩
   case round=>
    obtain⟨j,hj,rfl,zJ⟩:=hrel
    have hwv:=zJ.size
    have abP:=hB9.trans (zJ.mono hB9.size)
    have qO:=ah (Io.out.below zJ Io.out.lt)
    have KC2:=ah (KC9.out.below zJ KC9.out.lt)
    clear hcb bC bn bA bE hcc Qy hlc Qv LD
    obtain⟨hcb,bC,bn,bA,bE⟩:=aD.rules qO.out
    obtain⟨hcc,Qy,hlc,Qv,LD⟩:=aD.rules KC2.out
    by_cases hlj:j<k.bx.length
    ·obtain⟨x,hx⟩:∃x,k.bx[j]?=some x:=⟨_,List.getElem?_eq_getElem hlj⟩
     have aqW:bs.length=k.bx.length:=Eu.out.Bx.len
     have aqV:bs2.length=k.bx.length:=FV.out.Bx.len
     obtain⟨y,hy⟩:∃y,bs[j]?=some y:=⟨_,List.getElem?_eq_getElem aj⟩
     obtain⟨y2,hy2⟩:∃y2,bs2[j]?=some y2:=⟨_,List.getElem?_eq_getElem aj⟩
     have hel:=Eu.out.Bx.el j y x hy hx
     have akq:=FV.out.Bx.el j y2 x hy2 hx
     have HEL:=ah (fun W (hw:Below w.heap.size w W)=>HBM.out y y2 x W (List.mem_of_getElem? hx) (hel.below hw) (akq.below hw))
     obtain⟨b,off,xR,hbl,hc⟩:=(Eu.out.Bx.sl.below abP).at (i:=j) (x:=QC y x) (by simp[vS,List.getElem?_zipWith,hy,hx])
     obtain⟨b2,nU,uJ,UW,hc2⟩:=(FV.out.Bx.sl.below abP).at (i:=j) (x:=QC y2 x) (by simp[vS,List.getElem?_zipWith,hy2,hx])
     subst xR uJ
     have c0:wr.cell? ⟨b,off+j*2,none⟩=some y:=by simpa using hc 0 y rfl
     have c1:wr.cell? ⟨b,off+j*2+1,none⟩=some (.int .i64 x.lost):=by simpa using hc 1 (.int .i64 x.lost) rfl
     have d0:wr.cell? ⟨b2,nU+j*2,none⟩=some y2:=by simpa using hc2 0 y2 rfl
     have d1:wr.cell? ⟨b2,nU+j*2+1,none⟩=some (.int .i64 x.lost):=by simpa using hc2 1 (.int .i64 x.lost) rfl
     have hwr:IntKind.i64.wrap ((j:Int)+1)=j+1:=IntWalk.i64_in _ (by have:=HBD.out.bx;omega)
     have HC:=ah hc
     have HC2:=ah hc2
     have aqR:Val true 2 (QC y x):=⟨_,rfl,rfl,by intro z hz;simp at hz;rcases hz with rfl|rfl<;>first|exact j5 hel|rfl⟩
     have akB:Val true 2 (QC y2 x):=⟨_,rfl,rfl,by intro z hz;simp at hz;rcases hz with rfl|rfl<;>first|exact j5 akq|rfl⟩
     have aqX:b<wr.heap.size:=hbl
     have aou:b2<wr.heap.size:=UW
     clear hx hy hy2 hel akq hc hc2 aqW aqV c0 c1 d0 d1
     go_wp2_with fail
     ((refine aY (fun W=>Below wr.heap.size wr W) (fun i=>decide (i<12)) ay ?_);
          have hS:Below wr.heap.size wr wr.drew:=(Below.refl _ _).drew;
          (refine tk 0 155 hS ?_);
          (refine tk 1 156 hS ?_ (hy:=Or.inl ⟨aF,aib⟩));
          (refine tk 2 157 hS ?_);
          (refine tk 3 158 hS ?_);
          (refine bL 4 (oi:=⟨some 159,_,_,_,_,_⟩) rfl ay om hS (fZ 93 _ rfl (b:=b) (off:=off+j*2) (QC y x) Nl aqR aF bG (fun W hs=>HC.out.below hs aqX)) ?_);
          (try simp only[pt]);
          (refine tk 5 160 hS ?_);
          (refine tk 6 161 hS ?_ (hy:=Or.inl ⟨aF,aib⟩));
          (refine tk 7 162 hS ?_);
          (refine tk 8 163 hS ?_);
          (refine bL 9 (oi:=⟨some 164,_,_,_,_,_⟩) rfl ay om hS (fZ 93 _ rfl (b:=b2) (off:=nU+j*2) (QC y2 x) Nl akB aF bG (fun W hs=>HC2.out.below hs aou)) ?_);
          (try simp only[pt]);
          (refine aJ 10 (oi:=⟨some 165,_,_,_,_,_⟩) rfl ay rfl (fun K hK=>?_));
          (go_simp;(with_reducible refine(HEL.out _ (abP.trans (hS.mono abP.size))).mono ?_);rintro en w15 ⟨rfl,agk⟩;have hS:=hS.trans (Below.mono agk hS.size);skip;(try go_wp2_with fail));
          (refine hK.out _ _ (fun _=>b_) ?_;clear hK K);
          (try simp only[pt]);
          (refine tk 11 12 hS ?_);
          (refine mJ ay ?_))
     go_wp2_with fail
     go_roundw
     case rel=>exact⟨j+1,aj,dn,zJ.trans (hS.mono zJ.size)⟩
     case measure=>simp[intOf];omega
    ·go_wp2_with fail
     go_ret
     exact⟨rfl,abP⟩
end Go.Proofs.YtgmodehldmahiaaGreatDoor
end
