/- Part 15 of 50 of the proof of topWindows_holds. Conditions: see each. -/
import Derived.Test.YtgmodehldmahiaaGreatDoorW14
import Derived.Test.YtgmodehldmahiaaGreatDoorW02
set_option linter.unusedVariables false
set_option linter.unusedSimpArgs false
set_option maxRecDepth 8192
set_option maxHeartbeats 40000000
section
namespace Go.Proofs.YtgmodehldmahiaaGreatDoor
open Go Go.RowKit Go.Tm
theorem GH{P:Program}{t:TypeId}(ht:P.underlying t=some .string)(s:ByteArray)(k1 k2:IntKind)(x y:Int)(a b:Nat)(hx:x=a)(hy:y=b)(h1:a≤b)(h2:b≤s.size)(W:World):
  (Instr.slice t (.string s) (some (.int k1 x)) (some (.int k2 y)) none).run P W=.ok (.string (s.extract a b)) W:=by
 subst hx;subst hy
 simp[Instr.slice,run_underlying ht,Instr.sliceBounds,Instr.sliceBound,asIntOf,h1,h2]
def cK(a:Int):Prop:=0≤a∧a≤4294967295
def hasB(m:ByteArray)(a n:Int):Bool:=decide (a+n≤m.size)
theorem Ay(m:ByteArray)(a n:Int)(w:World)(ha:cK a)(hn:0≤n∧n≤9223372036854775807)(hm:m.size≤9223372036854775807):
  Calls Tryz.prog 175 #[.string m,.int .u32 a,.int .u64 n] w fun e w'=>e=.returned (.bool (hasB m a n))∧Below w.heap.size w w':=by
 obtain⟨ha1,ha2⟩:=ha
 obtain⟨hn1,hn2⟩:=hn
 unfold hasB
 go_enter Tryz.func175,Tryz.ntmps175
 go_wp2_with fail
 go_ret
 exact⟨rfl,aD⟩
def Ad(m:ByteArray)(a:Int):Bool:=decide (a%4=0)&&hasB m a 4
theorem MH(m:ByteArray)(a:Int)(w:World)(ha:cK a)(hm:m.size≤9223372036854775807):
  Calls Tryz.prog 173 #[.string m,.int .u32 a] w fun e w'=>e=.returned (.bool (Ad m a))∧Below w.heap.size w w':=by
 have HH:=Lib.hid (fun W=>Ay m a 4 W ha ah hm)
 obtain⟨ha1,ha2⟩:=ha
 unfold Ad
 by_cases h:a%4=0
 ·generalize hasB m a 4=b at*
  cases b
  ·go_enter Tryz.func173,Tryz.ntmps173
   go_wp2_with fail
   with_reducible refine(HH.out _).mono ?_
   rintro e w1 ⟨rfl,hb1⟩
   exact IE
  ·go_enter Tryz.func173,Tryz.ntmps173
   go_wp2_with fail
   with_reducible refine(HH.out _).mono ?_
   rintro e w1 ⟨rfl,hb1⟩
   exact oO
 ·go_enter Tryz.func173,Tryz.ntmps173
  exact oO
def JF(m:ByteArray)(a:Int):Nat→Int
 |0=>0
 |k+1=>bits BinOp.or .u32 (JF m a k*256%4294967296) ((m[(a+(3-k)).toNat]!.toNat:Int)%4294967296)
def fH(m:ByteArray)(a:Int):Int×Int:=if Ad m a then(JF m a 4,0) else(0,10)
theorem ae'(m:ByteArray)(a:Int):∀k,cK (JF m a k)
 |0=>by unfold JF cK;omega
 |k+1=>⟨bits_lo_u32 _ _ _,bits_hi_u32 _ _ _⟩
theorem qy(m:ByteArray)(a:Int):cK (fH m a).1:=by
 unfold fH
 split
 ·exact ae' m a 4
 ·exact⟨aB,aB⟩
theorem kE(m:ByteArray)(a:Int)(w:World)(ha:cK a)(hm:m.size≤9223372036854775807):
  Calls Tryz.prog 140 #[.string m,.int .u32 a] w fun e w'=>e=.returned (.tuple #[.int .u32 (fH m a).1,.int .i64 (fH m a).2])∧Below w.heap.size w w':=by
 have HH:=Lib.hid (fun W=>MH m a W ha hm)
 have HA:=Lib.hid (ae' m a)
 obtain⟨ha1,ha2⟩:=ha
 unfold fH
 cases hb:Ad m a
 ·rw[hb] at HH
  go_enter Tryz.func140,Tryz.ntmps140
  go_wp2_with fail
  with_reducible refine(HH.out _).mono ?_
  rintro e w1 ⟨rfl,hb1⟩
  go_wp2_with fail
  exact bodyPost_ret (v:= .tuple #[.int .u32 0,.int .i64 10]) YF rfl ⟨rfl,aD⟩
 ·rw[hb] at HH
  have h2:a+4≤m.size:=by
   unfold Ad hasB at hb
   simp only[Bool.and_eq_true,decide_eq_true_eq] at hb
   exact hb.2
  go_enter Tryz.func140,Tryz.ntmps140
  go_wp2_with fail
  with_reducible refine(HH.out _).mono ?_
  rintro e w1 ⟨rfl,hb1⟩
  go_wp2_with fail
  go_loopw [6,7] (fun s t W=>∃k:Nat,k≤4∧t=.int .i64 (3-k)∧s=.int .u32 (JF m a k)∧Below w.heap.size w W) (fun _ t _=>(intOf t+1).toNat)
  case atStart=>exact⟨0,ah,rfl,rfl,aD⟩
  case round=>
   obtain⟨k,hk,rfl,rfl,hbw⟩:=hrel
   by_cases hlt:k<4
   ·have hv:=HA.out k
    obtain⟨hv1,hv2⟩:=hv
    have hE:JF m a (k+1)=bits BinOp.or .u32 (JF m a k*256%4294967296) ((m[(a+(3-k)).toNat]!.toNat:Int)%4294967296):=rfl
    have HE:=Lib.hid hE
    clear hE
    generalize JF m a k=v at*
    have h3:(a+(3-k)).toNat<m.size:=ah
    replace HE:=Lib.hid (HE.out.trans (by rw[getElem!_pos m _ h3]))
    go_wp2_with fail
    refine⟨⟨k+1,ah,?_,?_,hbw⟩,?_⟩
    ·congr 1;omega
    ·exact(congrArg _ HE.out.symm)
    ·simp only[intOf];omega
   ·have hk4:k=4:=by omega
    subst hk4
    go_wp2_with fail
    exact bodyPost_ret (v:= .tuple #[.int .u32 (JF m a 4),.int .i64 0]) YF rfl ⟨rfl,aD⟩
def IV(m:ByteArray)(a:Int):Int×Int:=if hasB m a 1 then((m[a.toNat]!.toNat:Int)%4294967296,0) else(0,10)
theorem aa1(m:ByteArray)(a:Int)(w:World)(ha:cK a)(hm:m.size≤9223372036854775807):
  Calls Tryz.prog 142 #[.string m,.int .u32 a] w fun e w'=>e=.returned (.tuple #[.int .u32 (IV m a).1,.int .i64 (IV m a).2])∧Below w.heap.size w w':=by
 have HH:=Lib.hid (fun W=>Ay m a 1 W ha ah hm)
 obtain⟨ha1,ha2⟩:=ha
 unfold IV
 cases hb:hasB m a 1
 ·rw[hb] at HH
  go_enter Tryz.func142,Tryz.ntmps142
  go_wp2_with fail
  with_reducible refine(HH.out _).mono ?_
  rintro e w1 ⟨rfl,hb1⟩
  go_wp2_with fail
  exact bodyPost_ret (v:= .tuple #[.int .u32 0,.int .i64 10]) YE rfl ⟨rfl,aD⟩
 ·rw[hb] at HH
  have h2:a+1≤m.size:=by
   unfold hasB at hb
   simpa using hb
  have h3:a.toNat<m.size:=ah
  rw[getElem!_pos m _ h3]
  go_enter Tryz.func142,Tryz.ntmps142
  go_wp2_with fail
  with_reducible refine(HH.out _).mono ?_
  rintro e w1 ⟨rfl,hb1⟩
  go_wp2_with fail
  exact bodyPost_ret (v:= .tuple #[.int .u32 ((m[a.toNat].toNat:Int)%4294967296),.int .i64 0]) YE rfl ⟨rfl,aD⟩
def sD(m:ByteArray)(a n:Int):ByteArray×Int:=if hasB m a n then(m.extract a.toNat (a+n).toNat,0) else(⟨#[]⟩,10)
theorem Kz(m:ByteArray)(a n:Int)(w:World)(ha:cK a)(hn:cK n)(hm:m.size≤9223372036854775807):
  Calls Tryz.prog 201 #[.string m,.int .u32 a,.int .u32 n] w fun e w'=>e=.returned (.tuple #[.string (sD m a n).1,.int .i64 (sD m a n).2])∧Below w.heap.size w w':=by
 obtain⟨hn1,hn2⟩:=hn
 have HH:=Lib.hid (fun W=>Ay m a n W ha ah hm)
 obtain⟨ha1,ha2⟩:=ha
 unfold sD
 cases hb:hasB m a n
 ·rw[hb] at HH
  go_enter Tryz.func201,Tryz.ntmps201
  go_wp2_with fail
  with_reducible refine(HH.out _).mono ?_
  rintro e w1 ⟨rfl,hb1⟩
  go_wp2_with fail
  exact bodyPost_ret (v:= .tuple #[.string ⟨#[]⟩,.int .i64 10]) YD rfl ⟨rfl,aD⟩
 ·rw[hb] at HH
  have h2:a+n≤m.size:=by
   unfold hasB at hb
   simpa using hb
  have hsl:=fun W=>GH Tryz.underlying9 m .u32 .u64 a (a+n) a.toNat (a+n).toNat ah ah ah ah W
  go_enter Tryz.func201,Tryz.ntmps201
  go_wp2_with fail
  with_reducible refine(HH.out _).mono ?_
  rintro e w1 ⟨rfl,hb1⟩
  go_wp2_with fail
  exact bodyPost_ret (v:= .tuple #[.string (m.extract a.toNat (a+n).toNat),.int .i64 0]) YD rfl ⟨rfl,aD⟩
end Go.Proofs.YtgmodehldmahiaaGreatDoor
end
section
namespace Go.Proofs.YtgmodehldmahiaaGreatDoor
open Go Go.RowKit Go.Tm
def Af:List Int:=[0,5,5,3,3,3,3,3,3,3,3,3,3,5,7,7,7,7,4,5,1,7,7,7,0]
def iV(w:World):Prop:=0<w.heap.size∧∀i,i<25→w.cell? ⟨0,i,none⟩=some (.int .i64 (Af.getD i 0))
theorem iV.below{w w':World}(h:iV w)(hb:Below w.heap.size w w'):iV w':=
 ⟨Nat.lt_of_lt_of_le h.1 hb.size,fun i hi=>(hb.cell (p:=⟨0,i,none⟩) h.1).trans (h.2 i hi)⟩
theorem iV.grown{w w':World}{b:Nat}(h:iV w)(hg:w.grownBy w' (some b))(hb:0<b):iV w':=by
 refine⟨Nat.lt_of_lt_of_le h.1 hg.size,fun i hi=>?_⟩
 rw[World.cell?_of_block (w:=w) (a:=⟨0,i,none⟩) (hg.block 0 h.1 aR)]
 exact h.2 i hi
def jJ(op a b bZ:Int):Prop:=1≤op∧op≤24∧0≤a∧a≤7∧0≤b∧b≤7∧-32768≤bZ∧bZ≤32767
abbrev LP(op a b bZ:Int):Value:= .agg #[.int .i64 op,.int .i64 a,.int .i64 b,.int .i64 bZ]
theorem agY(op a b bZ:Int)(w:World)(h:¬jJ op a b bZ):Calls Tryz.prog 174 #[LP op a b bZ] w fun e w'=>e=.returned (.bool false)∧Below w.heap.size w w':=by
 unfold jJ at h
 by_cases h1:1≤op
 rotate_left
 ·clear h
  have e1:decide (op<1)=true:=decide_eq_true ah
  clear h1
  go_enter Tryz.func174,Tryz.ntmps174
  exact mU
 have e1:decide (op<1)=false:=decide_eq_false ah
 by_cases h2:op≤24
 rotate_left
 ·clear h
  have e2:decide (24<op)=true:=decide_eq_true ah
  clear h1 h2
  go_enter Tryz.func174,Tryz.ntmps174
  exact mU
 have e2:decide (24<op)=false:=decide_eq_false ah
 by_cases h3:0≤a
 rotate_left
 ·clear h
  have e3:decide (a<0)=true:=decide_eq_true ah
  clear h1 h2 h3
  go_enter Tryz.func174,Tryz.ntmps174
  exact mU
 have e3:decide (a<0)=false:=decide_eq_false ah
 by_cases h4:a≤7
 rotate_left
 ·clear h
  have e4:decide (8≤a)=true:=decide_eq_true ah
  clear h1 h2 h3 h4
  go_enter Tryz.func174,Tryz.ntmps174
  exact mU
 have e4:decide (8≤a)=false:=decide_eq_false ah
 by_cases h5:0≤b
 rotate_left
 ·clear h
  have e5:decide (b<0)=true:=decide_eq_true ah
  clear h1 h2 h3 h4 h5
  go_enter Tryz.func174,Tryz.ntmps174
  exact mU
 have e5:decide (b<0)=false:=decide_eq_false ah
 by_cases h6:b≤7
 rotate_left
 ·clear h
  have e6:decide (8≤b)=true:=decide_eq_true ah
  clear h1 h2 h3 h4 h5 h6
  go_enter Tryz.func174,Tryz.ntmps174
  exact mU
 have e6:decide (8≤b)=false:=decide_eq_false ah
 by_cases h7:-32768≤bZ
 rotate_left
 ·clear h
  have e7:decide (bZ< -32768)=true:=decide_eq_true ah
  clear h1 h2 h3 h4 h5 h6 h7
  go_enter Tryz.func174,Tryz.ntmps174
  exact mU
 have e7:decide (bZ< -32768)=false:=decide_eq_false ah
 by_cases h8:bZ≤32767
 rotate_left
 ·clear h
  have e8:decide (32767<bZ)=true:=decide_eq_true ah
  clear h1 h2 h3 h4 h5 h6 h7 h8
  go_enter Tryz.func174,Tryz.ntmps174
  exact mU
 have e8:decide (32767<bZ)=false:=decide_eq_false ah
 exact absurd ⟨h1,h2,h3,h4,h5,h6,h7,h8⟩ h
def bit(u k:Int):Bool:=!decide (bits BinOp.and .i64 u k=0)
def afm(op a b bZ:Int):Bool:=(bit (Af.getD op.toNat 0) 1||decide (a=0))&&(bit (Af.getD op.toNat 0) 2||decide (b=0))&&(bit (Af.getD op.toNat 0) 4||decide (bZ=0))
theorem agX(op a b bZ:Int)(w:World)(hT:iV w)(h:jJ op a b bZ):Calls Tryz.prog 174 #[LP op a b bZ] w fun e w'=>e=.returned (.bool (afm op a b bZ))∧Below w.heap.size w w':=by
 obtain⟨h1,h2,h3,h4,h5,h6,h7,h8⟩:=h
 obtain⟨n,rfl⟩:∃n:Nat,op=n:=⟨op.toNat,ah⟩
 have hpos:=hT.1
 have hc:=hT.2 n ah
 have hcA:∀o o',((w.alloc o).alloc o').cell? ⟨0,n,none⟩=some (.int .i64 (Af.getD n 0)):=fun o o'=>((((Below.refl _ _).alloc (Nat.le_refl _) o).alloc aI o').cell (p:=⟨0,n,none⟩) hpos).trans hc
 clear hT
 unfold afm
 rw[Int.toNat_natCast]
 generalize Af.getD n 0=u at*
 have e1:decide ((n:Int)<1)=false:=decide_eq_false ah
 have e2:decide (24<(n:Int))=false:=decide_eq_false ah
 have e3:decide (a<0)=false:=decide_eq_false ah
 have e4:decide (8≤a)=false:=decide_eq_false ah
 have e5:decide (b<0)=false:=decide_eq_false ah
 have e6:decide (8≤b)=false:=decide_eq_false ah
 have e7:decide (bZ< -32768)=false:=decide_eq_false ah
 have e8:decide (32767<bZ)=false:=decide_eq_false ah
 have hn:n<25:=ah
 clear h1 h2 h3 h4 h5 h6 h7 h8
 go_enter Tryz.func174,Tryz.ntmps174
 go_wp2_with fail
 all_goals(go_ret;refine⟨?_,aD⟩)
 all_goals(unfold bit;simp_all)
 all_goals(intros;omega)
instance(op a b bZ:Int):Decidable (jJ op a b bZ):=by unfold jJ;infer_instance
def o7(op a b bZ:Int):Bool:=decide (jJ op a b bZ)&&afm op a b bZ
theorem iQ(op a b bZ:Int)(w:World)(hT:iV w):Calls Tryz.prog 174 #[LP op a b bZ] w fun e w'=>e=.returned (.bool (o7 op a b bZ))∧Below w.heap.size w w':=by
 unfold o7
 by_cases h:jJ op a b bZ
 ·rw[decide_eq_true h,Bool.true_and];exact agX op a b bZ w hT h
 ·rw[decide_eq_false h,Bool.false_and];exact agY op a b bZ w h
theorem acp{op a b bZ:Int}(h:o7 op a b bZ=true):jJ op a b bZ:=by
 unfold o7 at h
 simp only[Bool.and_eq_true,decide_eq_true_eq] at h
 exact h.1
def IQ(x:Int):Int×Int×Int×Int:=(x/16777216,wrap64 (bits BinOp.and .u32 (x/1048576) 15),wrap64 (bits BinOp.and .u32 (x/65536) 15),wrap64 (IntKind.i16.wrap (IntKind.u16.wrap x)))
def fZ(x:Int):(Int×Int×Int×Int)×Int:=if o7 (IQ x).1 (IQ x).2.1 (IQ x).2.2.1 (IQ x).2.2.2 then(IQ x,0) else((0,0,0,0),11)
theorem ZV{x:Int}(h:(fZ x).2=0):jJ (fZ x).1.1 (fZ x).1.2.1 (fZ x).1.2.2.1 (fZ x).1.2.2.2:=by
 unfold fZ at*
 split
 ·rename_i h1;exact acp h1
 ·rename_i h1;rw[if_neg h1] at h;cases h
theorem Ke:Ty Tryz.prog 250 4 true:=⟨aj,aj,aB,aj⟩
theorem kU(a b c d:Int):Val true 4 (LP a b c d):=⟨_,rfl,rfl,Sg⟩
theorem ko(x:Int)(w:World)(hT:iV w)(hx:cK x):Calls Tryz.prog 141 #[.int .u32 x] w fun e w'=>e=.returned (.tuple #[LP (fZ x).1.1 (fZ x).1.2.1 (fZ x).1.2.2.1 (fZ x).1.2.2.2,.int .i64 (fZ x).2])∧Below w.heap.size w w':=by
 obtain⟨hx1,hx2⟩:=hx
 have HM:=Lib.hid (fun op a b bZ W h=>iQ op a b bZ W h)
 have HT:=Lib.hid (fun W (h:Below w.heap.size w W)=>hT.below h)
 clear hT
 unfold fZ IQ
 dsimp only
 obtain⟨op,HO⟩:∃op,Hid (op=x/16777216):=⟨_,Lib.hid rfl⟩
 obtain⟨a,HA⟩:∃a,Hid (a=wrap64 (bits BinOp.and .u32 (x/1048576) 15)):=⟨_,Lib.hid rfl⟩
 obtain⟨b,HB⟩:∃b,Hid (b=wrap64 (bits BinOp.and .u32 (x/65536) 15)):=⟨_,Lib.hid rfl⟩
 obtain⟨im,HI⟩:∃im,Hid (im=wrap64 (IntKind.i16.wrap (IntKind.u16.wrap x))):=⟨_,Lib.hid rfl⟩
 rw[←HO.out,←HA.out,←HB.out,←HI.out]
 cases hm:o7 op a b im
 ·simp only[Bool.false_eq_true,if_false]
  go_enter Tryz.func141,Tryz.ntmps141
  go_wp2_with fail
  rw[←HO.out,←HA.out,←HB.out,←HI.out]
  have hb0:aC ((w.alloc (.cells #[.int .i64 0,.int .i64 0,.int .i64 0,.int .i64 0] 250)).alloc (.cells #[.int .i64 op,.int .i64 a,.int .i64 b,.int .i64 im] 250)) w.heap.size #[.int .i64 0,.int .i64 0,.int .i64 0,.int .i64 0] 250:=(aC.new _ _ _).alloc _
  have hb1:aC ((w.alloc (.cells #[.int .i64 0,.int .i64 0,.int .i64 0,.int .i64 0] 250)).alloc (.cells #[.int .i64 op,.int .i64 a,.int .i64 b,.int .i64 im] 250)) (w.heap.size+1) #[.int .i64 op,.int .i64 a,.int .i64 b,.int .i64 im] 250:=aC.new1 _ _ _ aI
  have HC:=Lib.hid (HM.out op a b im _ (HT.out ((w.alloc (.cells #[.int .i64 0,.int .i64 0,.int .i64 0,.int .i64 0] 250)).alloc (.cells #[.int .i64 op,.int .i64 a,.int .i64 b,.int .i64 im] 250)) aD))
  have hv0:=kU 0 0 0 0
  have hv1:=kU op a b im
  rw[hm] at HC
  refine HC.out.mono ?_
  rintro e w1 ⟨rfl,hbw⟩
  have hz1:=hbw.size
  simp only[World.size_alloc] at hz1
  (have b2:aC w1 (w.heap.size+1) #[.int .i64 op,.int .i64 a,.int .i64 b,.int .i64 im] 250:=jP);(obtain⟨hc2,hf2,hl2,hn2,hm2⟩:=b2.rules);(have K2:=Lib.hid b2);(clear b2)
  have bx1:=hb0.below hbw cZ
  have hbw2:Below w.heap.size w w1:=aD
  clear hbw hb0 hb1
  go_wp2_with(first|(refine lH rfl 250 _ _ rfl bx1 #[.int .i64 0,.int .i64 0,.int .i64 0,.int .i64 0] Ke hv0 aF bg bg ?_;(intro w2 qU hb2 hz2 hg2);(have HB2:=Lib.hid qU);(clear qU))|fail)
  exact bodyPost_ret (v:= .tuple #[LP 0 0 0 0,.int .i64 11]) ((mo Tryz.results141 _ rfl Ke hv0 HB2.out).trans rfl) rfl ⟨rfl,hbw2.trans hb2⟩
 ·simp only[if_true]
  go_enter Tryz.func141,Tryz.ntmps141
  go_wp2_with fail
  rw[←HO.out,←HA.out,←HB.out,←HI.out]
  have hb0:aC ((w.alloc (.cells #[.int .i64 0,.int .i64 0,.int .i64 0,.int .i64 0] 250)).alloc (.cells #[.int .i64 op,.int .i64 a,.int .i64 b,.int .i64 im] 250)) w.heap.size #[.int .i64 0,.int .i64 0,.int .i64 0,.int .i64 0] 250:=(aC.new _ _ _).alloc _
  have hb1:aC ((w.alloc (.cells #[.int .i64 0,.int .i64 0,.int .i64 0,.int .i64 0] 250)).alloc (.cells #[.int .i64 op,.int .i64 a,.int .i64 b,.int .i64 im] 250)) (w.heap.size+1) #[.int .i64 op,.int .i64 a,.int .i64 b,.int .i64 im] 250:=aC.new1 _ _ _ aI
  have HC:=Lib.hid (HM.out op a b im _ (HT.out ((w.alloc (.cells #[.int .i64 0,.int .i64 0,.int .i64 0,.int .i64 0] 250)).alloc (.cells #[.int .i64 op,.int .i64 a,.int .i64 b,.int .i64 im] 250)) aD))
  have hv0:=kU 0 0 0 0
  have hv1:=kU op a b im
  rw[hm] at HC
  refine HC.out.mono ?_
  rintro e w1 ⟨rfl,hbw⟩
  have hz1:=hbw.size
  simp only[World.size_alloc] at hz1
  (have b2:aC w1 (w.heap.size+1) #[.int .i64 op,.int .i64 a,.int .i64 b,.int .i64 im] 250:=jP);(obtain⟨hc2,hf2,hl2,hn2,hm2⟩:=b2.rules);(have K2:=Lib.hid b2);(clear b2)
  have bx1:=hb0.below hbw cZ
  have hbw2:Below w.heap.size w w1:=aD
  clear hbw hb0 hb1
  go_wp2_with(first|(refine lH rfl 250 _ _ rfl bx1 #[.int .i64 op,.int .i64 a,.int .i64 b,.int .i64 im] Ke hv1 aF bg bg ?_;(intro w2 qU hb2 hz2 hg2);(have HB2:=Lib.hid qU);(clear qU))|fail)
  exact bodyPost_ret (v:= .tuple #[LP op a b im,.int .i64 0]) ((mo Tryz.results141 _ rfl Ke hv1 HB2.out).trans rfl) rfl ⟨rfl,hbw2.trans hb2⟩
end Go.Proofs.YtgmodehldmahiaaGreatDoor
end
