/- Part 15 of 53 of the proof of topAlone_and_topApart. Conditions: see each. -/
import Derived.Test.YtgmodehldmahiaaGreatDoorB14
import Derived.Test.YtgmodehldmahiaaGreatDoorRows
import Derived.Test.YtgmodehldmahiaaGreatDoorB02
set_option linter.unusedVariables false
set_option linter.unusedSimpArgs false
set_option maxRecDepth 8192
set_option maxHeartbeats 40000000
section
namespace Go.Proofs.YtgmodehldmahiaaGreatDoor
open Go Go.RowKit Go.Tm
theorem Lj{P:Program}{t:TypeId}(ht:P.underlying t=some .string)(s:ByteArray)(k1 k2:IntKind)(x y:Int)(a b:Nat)(hx:x=a)(hy:y=b)(h1:a≤b)(h2:b≤s.size)(W:World):
  (Instr.slice t (.string s) (some (.int k1 x)) (some (.int k2 y)) none).run P W=.ok (.string (s.extract a b)) W:=by
 subst hx;subst hy
 simp[Instr.slice,run_underlying ht,Instr.sliceBounds,Instr.sliceBound,asIntOf,h1,h2]
def dI(a:Int):Prop:=0≤a∧a≤4294967295
def hasB(m:ByteArray)(a n:Int):Bool:=decide (a+n≤m.size)
theorem DV(m:ByteArray)(a n:Int)(w:World)(ha:dI a)(hn:0≤n∧n≤9223372036854775807)(hm:m.size≤9223372036854775807):
  Calls Tryz.prog 175 #[.string m,.int .u32 a,.int .u64 n] w fun e w'=>e=.returned (.bool (hasB m a n))∧Below w.heap.size w w':=by
 obtain⟨ha1,ha2⟩:=ha
 obtain⟨mE,rD⟩:=hn
 unfold hasB
 go_enter Tryz.func175,Tryz.ntmps175
 go_wp2_with fail
 go_ret
 exact⟨rfl,aG⟩
def Dt(m:ByteArray)(a:Int):Bool:=decide (a%4=0)&&hasB m a 4
theorem RQ(m:ByteArray)(a:Int)(w:World)(ha:dI a)(hm:m.size≤9223372036854775807):
  Calls Tryz.prog 173 #[.string m,.int .u32 a] w fun e w'=>e=.returned (.bool (Dt m a))∧Below w.heap.size w w':=by
 have HH:=ah (fun W=>DV m a 4 W ha aj hm)
 obtain⟨ha1,ha2⟩:=ha
 unfold Dt
 by_cases h:a%4=0
 ·generalize hasB m a 4=b at*
  cases b
  ·go_enter Tryz.func173,Tryz.ntmps173
   go_wp2_with fail
   with_reducible refine(HH.out _).mono ?_
   rintro e w1 ⟨rfl,hb1⟩
   exact Nh
  ·go_enter Tryz.func173,Tryz.ntmps173
   go_wp2_with fail
   with_reducible refine(HH.out _).mono ?_
   rintro e w1 ⟨rfl,hb1⟩
   exact rO
 ·go_enter Tryz.func173,Tryz.ntmps173
  exact rO
def OH(m:ByteArray)(a:Int):Nat→Int
 |0=>0
 |k+1=>bits BinOp.or .u32 (OH m a k*256%4294967296) ((m[(a+(3-k)).toNat]!.toNat:Int)%4294967296)
def gK(m:ByteArray)(a:Int):Int×Int:=if Dt m a then(OH m a 4,0) else(0,10)
theorem ajL(m:ByteArray)(a:Int):∀k,dI (OH m a k)
 |0=>by unfold OH dI;omega
 |k+1=>⟨bits_lo_u32 _ _ _,bits_hi_u32 _ _ _⟩
theorem tN(m:ByteArray)(a:Int):dI (gK m a).1:=by
 unfold gK
 split
 ·exact ajL m a 4
 ·exact⟨aC,aC⟩
theorem lW(m:ByteArray)(a:Int)(w:World)(ha:dI a)(hm:m.size≤9223372036854775807):
  Calls Tryz.prog 140 #[.string m,.int .u32 a] w fun e w'=>e=.returned (.tuple #[.int .u32 (gK m a).1,.int .i64 (gK m a).2])∧Below w.heap.size w w':=by
 have HH:=ah (fun W=>RQ m a W ha hm)
 have HA:=ah (ajL m a)
 obtain⟨ha1,ha2⟩:=ha
 unfold gK
 cases hb:Dt m a
 ·rw[hb] at HH
  go_enter Tryz.func140,Tryz.ntmps140
  go_wp2_with fail
  with_reducible refine(HH.out _).mono ?_
  rintro e w1 ⟨rfl,hb1⟩
  go_wp2_with fail
  exact bodyPost_ret (v:= .tuple #[.int .u32 0,.int .i64 10]) adi rfl ⟨rfl,aG⟩
 ·rw[hb] at HH
  have h2:a+4≤m.size:=by
   unfold Dt hasB at hb
   simp only[Bool.and_eq_true,decide_eq_true_eq] at hb
   exact hb.2
  go_enter Tryz.func140,Tryz.ntmps140
  go_wp2_with fail
  with_reducible refine(HH.out _).mono ?_
  rintro e w1 ⟨rfl,hb1⟩
  go_wp2_with fail
  go_loopw [6,7] (fun s t W=>∃k:Nat,k≤4∧t=.int .i64 (3-k)∧s=.int .u32 (OH m a k)∧Below w.heap.size w W) (fun _ t _=>(intOf t+1).toNat)
  case atStart=>exact⟨0,aj,rfl,rfl,aG⟩
  case round=>
   obtain⟨k,hk,rfl,rfl,bZ⟩:=hrel
   by_cases hlt:k<4
   ·have hv:=HA.out k
    obtain⟨Ud,hv2⟩:=hv
    have hE:OH m a (k+1)=bits BinOp.or .u32 (OH m a k*256%4294967296) ((m[(a+(3-k)).toNat]!.toNat:Int)%4294967296):=rfl
    have HE:=ah hE
    clear hE
    generalize OH m a k=v at*
    have h3:(a+(3-k)).toNat<m.size:=aj
    replace HE:=ah (HE.out.trans (by rw[getElem!_pos m _ h3]))
    go_wp2_with fail
    refine⟨⟨k+1,aj,?_,?_,bZ⟩,?_⟩
    ·congr 1;omega
    ·exact(congrArg _ HE.out.symm)
    ·simp only[intOf];omega
   ·have hk4:k=4:=by omega
    subst hk4
    go_wp2_with fail
    exact bodyPost_ret (v:= .tuple #[.int .u32 (OH m a 4),.int .i64 0]) adi rfl ⟨rfl,aG⟩
def Nr(m:ByteArray)(a:Int):Int×Int:=if hasB m a 1 then((m[a.toNat]!.toNat:Int)%4294967296,0) else(0,10)
theorem afu(m:ByteArray)(a:Int)(w:World)(ha:dI a)(hm:m.size≤9223372036854775807):
  Calls Tryz.prog 142 #[.string m,.int .u32 a] w fun e w'=>e=.returned (.tuple #[.int .u32 (Nr m a).1,.int .i64 (Nr m a).2])∧Below w.heap.size w w':=by
 have HH:=ah (fun W=>DV m a 1 W ha aj hm)
 obtain⟨ha1,ha2⟩:=ha
 unfold Nr
 cases hb:hasB m a 1
 ·rw[hb] at HH
  go_enter Tryz.func142,Tryz.ntmps142
  go_wp2_with fail
  with_reducible refine(HH.out _).mono ?_
  rintro e w1 ⟨rfl,hb1⟩
  go_wp2_with fail
  exact bodyPost_ret (v:= .tuple #[.int .u32 0,.int .i64 10]) adh rfl ⟨rfl,aG⟩
 ·rw[hb] at HH
  have h2:a+1≤m.size:=by
   unfold hasB at hb
   simpa using hb
  have h3:a.toNat<m.size:=aj
  rw[getElem!_pos m _ h3]
  go_enter Tryz.func142,Tryz.ntmps142
  go_wp2_with fail
  with_reducible refine(HH.out _).mono ?_
  rintro e w1 ⟨rfl,hb1⟩
  go_wp2_with fail
  exact bodyPost_ret (v:= .tuple #[.int .u32 ((m[a.toNat].toNat:Int)%4294967296),.int .i64 0]) adh rfl ⟨rfl,aG⟩
def vN(m:ByteArray)(a n:Int):ByteArray×Int:=if hasB m a n then(m.extract a.toNat (a+n).toNat,0) else(⟨#[]⟩,10)
theorem PX(m:ByteArray)(a n:Int)(w:World)(ha:dI a)(hn:dI n)(hm:m.size≤9223372036854775807):
  Calls Tryz.prog 201 #[.string m,.int .u32 a,.int .u32 n] w fun e w'=>e=.returned (.tuple #[.string (vN m a n).1,.int .i64 (vN m a n).2])∧Below w.heap.size w w':=by
 obtain⟨mE,rD⟩:=hn
 have HH:=ah (fun W=>DV m a n W ha aj hm)
 obtain⟨ha1,ha2⟩:=ha
 unfold vN
 cases hb:hasB m a n
 ·rw[hb] at HH
  go_enter Tryz.func201,Tryz.ntmps201
  go_wp2_with fail
  with_reducible refine(HH.out _).mono ?_
  rintro e w1 ⟨rfl,hb1⟩
  go_wp2_with fail
  exact bodyPost_ret (v:= .tuple #[.string ⟨#[]⟩,.int .i64 10]) adg rfl ⟨rfl,aG⟩
 ·rw[hb] at HH
  have h2:a+n≤m.size:=by
   unfold hasB at hb
   simpa using hb
  have hsl:=fun W=>Lj Tryz.underlying9 m .u32 .u64 a (a+n) a.toNat (a+n).toNat aj aj aj aj W
  go_enter Tryz.func201,Tryz.ntmps201
  go_wp2_with fail
  with_reducible refine(HH.out _).mono ?_
  rintro e w1 ⟨rfl,hb1⟩
  go_wp2_with fail
  exact bodyPost_ret (v:= .tuple #[.string (m.extract a.toNat (a+n).toNat),.int .i64 0]) adg rfl ⟨rfl,aG⟩
end Go.Proofs.YtgmodehldmahiaaGreatDoor
end
section
namespace Go.Proofs.YtgmodehldmahiaaGreatDoor
open Go Go.RowKit Go.Tm
def Bv:List Int:=[0,5,5,3,3,3,3,3,3,3,3,3,3,5,7,7,7,7,4,5,1,7,7,7,0]
def jw(w:World):Prop:=0<w.heap.size∧∀i,i<25→w.cell? ⟨0,i,none⟩=some (.int .i64 (Bv.getD i 0))
theorem jw.below{w w':World}(h:jw w)(hb:Below w.heap.size w w'):jw w':=
 ⟨Nat.lt_of_lt_of_le h.1 hb.size,fun i hi=>(hb.cell (p:=⟨0,i,none⟩) h.1).trans (h.2 i hi)⟩
theorem jw.grown{w w':World}{b:Nat}(h:jw w)(hg:w.grownBy w' (some b))(hb:0<b):jw w':=by
 refine⟨Nat.lt_of_lt_of_le h.1 hg.size,fun i hi=>?_⟩
 rw[World.cell?_of_block (w:=w) (a:=⟨0,i,none⟩) (hg.block 0 h.1 aV)]
 exact h.2 i hi
def kW(op a b dD:Int):Prop:=1≤op∧op≤24∧0≤a∧a≤7∧0≤b∧b≤7∧-32768≤dD∧dD≤32767
abbrev QU(op a b dD:Int):Value:= .agg #[.int .i64 op,.int .i64 a,.int .i64 b,.int .i64 dD]
theorem alE(op a b dD:Int)(w:World)(h:¬kW op a b dD):Calls Tryz.prog 174 #[QU op a b dD] w fun e w'=>e=.returned (.bool false)∧Below w.heap.size w w':=by
 unfold kW at h
 by_cases h1:1≤op
 rotate_left
 ·clear h
  have e1:decide (op<1)=true:=decide_eq_true aj
  clear h1
  go_enter Tryz.func174,Tryz.ntmps174
  exact pK
 have e1:decide (op<1)=false:=decide_eq_false aj
 by_cases h2:op≤24
 rotate_left
 ·clear h
  have e2:decide (24<op)=true:=decide_eq_true aj
  clear h1 h2
  go_enter Tryz.func174,Tryz.ntmps174
  exact pK
 have e2:decide (24<op)=false:=decide_eq_false aj
 by_cases h3:0≤a
 rotate_left
 ·clear h
  have e3:decide (a<0)=true:=decide_eq_true aj
  clear h1 h2 h3
  go_enter Tryz.func174,Tryz.ntmps174
  exact pK
 have e3:decide (a<0)=false:=decide_eq_false aj
 by_cases h4:a≤7
 rotate_left
 ·clear h
  have e4:decide (8≤a)=true:=decide_eq_true aj
  clear h1 h2 h3 h4
  go_enter Tryz.func174,Tryz.ntmps174
  exact pK
 have e4:decide (8≤a)=false:=decide_eq_false aj
 by_cases h5:0≤b
 rotate_left
 ·clear h
  have e5:decide (b<0)=true:=decide_eq_true aj
  clear h1 h2 h3 h4 h5
  go_enter Tryz.func174,Tryz.ntmps174
  exact pK
 have e5:decide (b<0)=false:=decide_eq_false aj
 by_cases h6:b≤7
 rotate_left
 ·clear h
  have e6:decide (8≤b)=true:=decide_eq_true aj
  clear h1 h2 h3 h4 h5 h6
  go_enter Tryz.func174,Tryz.ntmps174
  exact pK
 have e6:decide (8≤b)=false:=decide_eq_false aj
 by_cases h7:-32768≤dD
 rotate_left
 ·clear h
  have e7:decide (dD< -32768)=true:=decide_eq_true aj
  clear h1 h2 h3 h4 h5 h6 h7
  go_enter Tryz.func174,Tryz.ntmps174
  exact pK
 have e7:decide (dD< -32768)=false:=decide_eq_false aj
 by_cases h8:dD≤32767
 rotate_left
 ·clear h
  have e8:decide (32767<dD)=true:=decide_eq_true aj
  clear h1 h2 h3 h4 h5 h6 h7 h8
  go_enter Tryz.func174,Tryz.ntmps174
  exact pK
 have e8:decide (32767<dD)=false:=decide_eq_false aj
 exact absurd ⟨h1,h2,h3,h4,h5,h6,h7,h8⟩ h
def bit(u k:Int):Bool:=!decide (bits BinOp.and .i64 u k=0)
def ajU(op a b dD:Int):Bool:=(bit (Bv.getD op.toNat 0) 1||decide (a=0))&&(bit (Bv.getD op.toNat 0) 2||decide (b=0))&&(bit (Bv.getD op.toNat 0) 4||decide (dD=0))
theorem alD(op a b dD:Int)(w:World)(hT:jw w)(h:kW op a b dD):Calls Tryz.prog 174 #[QU op a b dD] w fun e w'=>e=.returned (.bool (ajU op a b dD))∧Below w.heap.size w w':=by
 obtain⟨h1,h2,h3,h4,h5,h6,h7,h8⟩:=h
 obtain⟨n,rfl⟩:∃n:Nat,op=n:=⟨op.toNat,aj⟩
 have apd:=hT.1
 have hc:=hT.2 n aj
 have hcA:∀o o',((w.alloc o).alloc o').cell? ⟨0,n,none⟩=some (.int .i64 (Bv.getD n 0)):=fun o o'=>((((Below.refl _ _).alloc (Nat.le_refl _) o).alloc aI o').cell (p:=⟨0,n,none⟩) apd).trans hc
 clear hT
 unfold ajU
 rw[Int.toNat_natCast]
 generalize Bv.getD n 0=u at*
 have e1:decide ((n:Int)<1)=false:=decide_eq_false aj
 have e2:decide (24<(n:Int))=false:=decide_eq_false aj
 have e3:decide (a<0)=false:=decide_eq_false aj
 have e4:decide (8≤a)=false:=decide_eq_false aj
 have e5:decide (b<0)=false:=decide_eq_false aj
 have e6:decide (8≤b)=false:=decide_eq_false aj
 have e7:decide (dD< -32768)=false:=decide_eq_false aj
 have e8:decide (32767<dD)=false:=decide_eq_false aj
 have hn:n<25:=aj
 clear h1 h2 h3 h4 h5 h6 h7 h8
 go_enter Tryz.func174,Tryz.ntmps174
 go_wp2_with fail
 all_goals(go_ret;refine⟨?_,aG⟩)
 all_goals(unfold bit;simp_all)
 all_goals(intros;omega)
instance(op a b dD:Int):Decidable (kW op a b dD):=by unfold kW;infer_instance
def rU(op a b dD:Int):Bool:=decide (kW op a b dD)&&ajU op a b dD
theorem jM(op a b dD:Int)(w:World)(hT:jw w):Calls Tryz.prog 174 #[QU op a b dD] w fun e w'=>e=.returned (.bool (rU op a b dD))∧Below w.heap.size w w':=by
 unfold rU
 by_cases h:kW op a b dD
 ·rw[decide_eq_true h,Bool.true_and];exact alD op a b dD w hT h
 ·rw[decide_eq_false h,Bool.false_and];exact alE op a b dD w h
theorem ag2{op a b dD:Int}(h:rU op a b dD=true):kW op a b dD:=by
 unfold rU at h
 simp only[Bool.and_eq_true,decide_eq_true_eq] at h
 exact h.1
def Nq(x:Int):Int×Int×Int×Int:=(x/16777216,wrap64 (bits BinOp.and .u32 (x/1048576) 15),wrap64 (bits BinOp.and .u32 (x/65536) 15),wrap64 (IntKind.i16.wrap (IntKind.u16.wrap x)))
def ig(x:Int):(Int×Int×Int×Int)×Int:=if rU (Nq x).1 (Nq x).2.1 (Nq x).2.2.1 (Nq x).2.2.2 then(Nq x,0) else((0,0,0,0),11)
theorem aez{x:Int}(h:(ig x).2=0):kW (ig x).1.1 (ig x).1.2.1 (ig x).1.2.2.1 (ig x).1.2.2.2:=by
 unfold ig at*
 split
 ·rename_i h1;exact ag2 h1
 ·rename_i h1;rw[if_neg h1] at h;cases h
theorem Pq:Ty Tryz.prog 250 4 true:=⟨ay,ay,aC,ay⟩
theorem ni(a b c d:Int):Val true 4 (QU a b c d):=⟨_,rfl,rfl,XH⟩
theorem lV(x:Int)(w:World)(hT:jw w)(hx:dI x):Calls Tryz.prog 141 #[.int .u32 x] w fun e w'=>e=.returned (.tuple #[QU (ig x).1.1 (ig x).1.2.1 (ig x).1.2.2.1 (ig x).1.2.2.2,.int .i64 (ig x).2])∧Below w.heap.size w w':=by
 obtain⟨hx1,hx2⟩:=hx
 have HM:=ah (fun op a b dD W h=>jM op a b dD W h)
 have HT:=ah (fun W (h:Below w.heap.size w W)=>hT.below h)
 clear hT
 unfold ig Nq
 dsimp only
 obtain⟨op,HO⟩:∃op,Hid (op=x/16777216):=⟨_,ah rfl⟩
 obtain⟨a,HA⟩:∃a,Hid (a=wrap64 (bits BinOp.and .u32 (x/1048576) 15)):=⟨_,ah rfl⟩
 obtain⟨b,HB⟩:∃b,Hid (b=wrap64 (bits BinOp.and .u32 (x/65536) 15)):=⟨_,ah rfl⟩
 obtain⟨im,HI⟩:∃im,Hid (im=wrap64 (IntKind.i16.wrap (IntKind.u16.wrap x))):=⟨_,ah rfl⟩
 rw[←HO.out,←HA.out,←HB.out,←HI.out]
 cases hm:rU op a b im
 ·simp only[Bool.false_eq_true,if_false]
  go_enter Tryz.func141,Tryz.ntmps141
  go_wp2_with fail
  rw[←HO.out,←HA.out,←HB.out,←HI.out]
  have hb0:aD ((w.alloc (.cells #[.int .i64 0,.int .i64 0,.int .i64 0,.int .i64 0] 250)).alloc (.cells #[.int .i64 op,.int .i64 a,.int .i64 b,.int .i64 im] 250)) w.heap.size #[.int .i64 0,.int .i64 0,.int .i64 0,.int .i64 0] 250:=(aD.new _ _ _).alloc _
  have hb1:aD ((w.alloc (.cells #[.int .i64 0,.int .i64 0,.int .i64 0,.int .i64 0] 250)).alloc (.cells #[.int .i64 op,.int .i64 a,.int .i64 b,.int .i64 im] 250)) (w.heap.size+1) #[.int .i64 op,.int .i64 a,.int .i64 b,.int .i64 im] 250:=aD.p9 _ _ _ aI
  have HC:=ah (HM.out op a b im _ (HT.out ((w.alloc (.cells #[.int .i64 0,.int .i64 0,.int .i64 0,.int .i64 0] 250)).alloc (.cells #[.int .i64 op,.int .i64 a,.int .i64 b,.int .i64 im] 250)) aG))
  have hv0:=ni 0 0 0 0
  have Ud:=ni op a b im
  rw[hm] at HC
  refine HC.out.mono ?_
  rintro e w1 ⟨rfl,bZ⟩
  have hz1:=bZ.size
  simp only[World.size_alloc] at hz1
  have b2:aD w1 (w.heap.size+1) #[.int .i64 op,.int .i64 a,.int .i64 b,.int .i64 im] 250:=lC;obtain⟨hc2,hf2,hl2,rD,nS⟩:=b2.rules;have K2:=ah b2;clear b2
  have bx1:=hb0.below bZ dF
  have bM:Below w.heap.size w w1:=aG
  clear bZ hb0 hb1
  go_wp2_with(first|(refine nM rfl 250 _ _ rfl bx1 #[.int .i64 0,.int .i64 0,.int .i64 0,.int .i64 0] Pq hv0 aF bG bG ?_;intro w2 tu hb2 hz2 hg2;have Ao:=ah tu;clear tu)|fail)
  exact bodyPost_ret (v:= .tuple #[QU 0 0 0 0,.int .i64 11]) ((oM Tryz.results141 _ rfl Pq hv0 Ao.out).trans rfl) rfl ⟨rfl,bM.trans hb2⟩
 ·simp only[if_true]
  go_enter Tryz.func141,Tryz.ntmps141
  go_wp2_with fail
  rw[←HO.out,←HA.out,←HB.out,←HI.out]
  have hb0:aD ((w.alloc (.cells #[.int .i64 0,.int .i64 0,.int .i64 0,.int .i64 0] 250)).alloc (.cells #[.int .i64 op,.int .i64 a,.int .i64 b,.int .i64 im] 250)) w.heap.size #[.int .i64 0,.int .i64 0,.int .i64 0,.int .i64 0] 250:=(aD.new _ _ _).alloc _
  have hb1:aD ((w.alloc (.cells #[.int .i64 0,.int .i64 0,.int .i64 0,.int .i64 0] 250)).alloc (.cells #[.int .i64 op,.int .i64 a,.int .i64 b,.int .i64 im] 250)) (w.heap.size+1) #[.int .i64 op,.int .i64 a,.int .i64 b,.int .i64 im] 250:=aD.p9 _ _ _ aI
  have HC:=ah (HM.out op a b im _ (HT.out ((w.alloc (.cells #[.int .i64 0,.int .i64 0,.int .i64 0,.int .i64 0] 250)).alloc (.cells #[.int .i64 op,.int .i64 a,.int .i64 b,.int .i64 im] 250)) aG))
  have hv0:=ni 0 0 0 0
  have Ud:=ni op a b im
  rw[hm] at HC
  refine HC.out.mono ?_
  rintro e w1 ⟨rfl,bZ⟩
  have hz1:=bZ.size
  simp only[World.size_alloc] at hz1
  have b2:aD w1 (w.heap.size+1) #[.int .i64 op,.int .i64 a,.int .i64 b,.int .i64 im] 250:=lC;obtain⟨hc2,hf2,hl2,rD,nS⟩:=b2.rules;have K2:=ah b2;clear b2
  have bx1:=hb0.below bZ dF
  have bM:Below w.heap.size w w1:=aG
  clear bZ hb0 hb1
  go_wp2_with(first|(refine nM rfl 250 _ _ rfl bx1 #[.int .i64 op,.int .i64 a,.int .i64 b,.int .i64 im] Pq Ud aF bG bG ?_;intro w2 tu hb2 hz2 hg2;have Ao:=ah tu;clear tu)|fail)
  exact bodyPost_ret (v:= .tuple #[QU op a b im,.int .i64 0]) ((oM Tryz.results141 _ rfl Pq Ud Ao.out).trans rfl) rfl ⟨rfl,bM.trans hb2⟩
end Go.Proofs.YtgmodehldmahiaaGreatDoor
end
