/- Part 10 of 50 of the proof of topWindows_holds. Conditions: see each. -/
import Derived.Test.YtgmodehldmahiaaGreatDoorW01
import Derived.Test.YtgmodehldmahiaaGreatDoorW08
import Derived.Test.YtgmodehldmahiaaGreatDoorW04
import Derived.Test.YtgmodehldmahiaaGreatDoorW07
import Derived.Test.YtgmodehldmahiaaGreatDoorW03
set_option linter.unusedVariables false
set_option linter.unusedSimpArgs false
set_option maxRecDepth 8192
set_option maxHeartbeats 40000000
section
namespace Go.Proofs.YtgmodehldmahiaaGreatDoor.Pipe
open Go Go.RowKit Go.Tm
theorem aaE(v:Value)(xs:List Value)(w:World)(hsl:Sl w true 3 v xs)(hx:∀x∈xs,lI x)(hby:xs.length*32≤140737488355328):
  Calls Tryz.prog 198 #[v] w fun e w'=>∃v',e=.returned (.tuple #[v',.int .i64 (kH xs).2.1,.int .i64 (kH xs).2.2])∧Sl w' true 3 v' (kH xs).1∧vD w.heap.size v xs v' (kH xs).1∧Below w.heap.size w w':=by
 have hIdx:=GK v xs 212 #[] vJ w hsl (V6 xs hx w)
 have hCl:=fun W h=>vB v xs W h hby
 have hsl0:=Lib.hid hsl
 obtain⟨hsz,a,cap,rfl,hl,hm,hform⟩:=hsl
 unfold maxLen at hm
 have HM:=Lib.hid hform
 clear hform
 unfold kH
 have hidx:idx vJ xs=-1∨∃i x:Nat,idx vJ xs=(i:Int)∧i<xs.length:=by
  unfold idx
  cases h:xs.findIdx? vJ with
  |none=>exact .inl rfl
  |some i=>exact .inr ⟨i,0,rfl,by rw[List.findIdx?_eq_some_iff_getElem] at h;exact h.1⟩
 have HX:=Lib.hid hx
 clear hx
 generalize idx vJ xs=ii at*
 rcases hidx with rfl|⟨i,_,rfl,hi⟩
 ·by_cases h4:4≤xs.length
  ·have h4':(4:Int)≤xs.length:=by omega
   rw[if_pos aB,if_pos h4]
   go_enter Tryz.func198,Tryz.ntmps198
   go_wp2_with fail
   refine hIdx.mono ?_
   rintro e w1 ⟨rfl,hb1⟩
   go_wp2_with fail
   exact bodyPost_ret (v:= .tuple #[.slice a xs.length cap,.int .i64 0,.int .i64 5]) P9 rfl ⟨_,rfl,hsl0.out.below hb1,.inl ⟨rfl,rfl⟩,aD⟩
  ·have h4':¬(4:Int)≤xs.length:=by omega
   rw[if_pos aB,if_neg h4]
   obtain⟨i0,hi0,hq0,hq1,hq2⟩:=info_parts Ji
   have HI:=Lib.hid (And.intro hi0 (And.intro hq0 (And.intro hq1 hq2)))
   clear hi0 hq0 hq1 hq2
   go_enter Tryz.func198,Tryz.ntmps198
   go_wp2_with fail
   refine hIdx.mono ?_
   rintro e w1 ⟨rfl,hb1⟩
   have hz1:=hb1.size
   go_wp2_with fail
   refine(hCl w1 (hsl0.out.below hb1)).mono ?_
   rintro e w2 ⟨v2,rfl,ho2,hb2⟩
   have hz2:=hb2.size
   have HO:=Lib.hid ho2
   obtain⟨_,a2,cap2,rfl,hl2,hm2,_⟩:=ho2.sl
   clear ho2
   go_wp2_with(first|(refine eO (v:= .slice a2 xs.length cap2) (xs:=xs) (base:=w1.heap.size) rfl _ _ 48 rfl qJ i0 (.agg #[.string ⟨#[]⟩,.int .i64 0,.int .i64 0]) 32 Tryz.underlying48 HI.out.1 HI.out.2.1 HI.out.2.2.1 HI.out.2.2.2 rfl ?hs ?hown (.slice (some ⟨w2.heap.size,0,none⟩) 1 1) [.agg #[.string ⟨#[]⟩,.int .i64 0,.int .i64 0]] ?hx ?hsl ?c63 ?cby ?cba ?ck)|fail)
   case hs=>simp[Act.eval]
   case hx=>simp[Act.eval]
   case hown=>exact HO.out.kept aD
   case hsl=>exact(bB.qE (base:=w2.heap.size) (lI.val ⟨⟨#[]⟩,0,0,rfl,aB,rfl,rfl⟩) (Nat.le_refl _)).sl
   case c63=>simp only[List.length_singleton,maxLen];omega
   case cby=>simp only[List.length_singleton];omega
   case cba=>simp only[World.size_alloc];omega
   case ck=>
   intro v3 w3 ho3 hg3 g aik hv3
   subst hv3
   have hb3:Below w.heap.size w w3:=(HO.out.kept aD).below hg3 aD ah cZ
   clear hg3
   have r_:=Lib.hid ho3
   clear ho3
   have hz3:=hb3.size
   go_wp2_with(first|(refine dw (base:=w1.heap.size) rfl _ _ rfl qJ g (xs.length+1) aik r_.out xs.length ?d1 ?d2 newV ?d3 xG.val ?d4)|fail)
   case d1=>simp
   case d2=>simp[Act.eval]
   case d3=>simp[Act.eval,newV]
   case d4=>
   intro w4 qR hg4
   have hb4:Below w.heap.size w w4:=r_.out.below hg4 hb3 ah ah
   have hset:(xs++[Value.agg #[Value.string ⟨#[]⟩,.int .i64 0,.int .i64 0]]).set xs.length newV=xs++[newV]:=aI
   try rw[hset] at qR
   have sj:=Lib.hid qR
   clear qR hg4 hset
   go_wp2_with fail
   exact bodyPost_ret (v:= .tuple #[.slice (some ⟨g,0,none⟩) (xs.length+1) aik,.int .i64 (xs.length+1),.int .i64 0]) P9 rfl ⟨_,rfl,sj.out.sl,bB.res sj.out ah,hb4⟩
 ·have hn1:¬(i:Int)<0:=by omega
  have hn2:((i:Int)==xs.length)=false:=by simpa using(by omega:¬(i:Int)=xs.length)
  have hwr:IntKind.i64.wrap ((i:Int)+1)=i+1:=IntWalk.i64_in _ ah
  rw[if_neg hn1]
  go_enter Tryz.func198,Tryz.ntmps198
  go_wp2_with fail
  refine hIdx.mono ?_
  rintro e w1 ⟨rfl,hb1⟩
  have hz1:=hb1.size
  go_wp2_with fail
  refine(hCl w1 (hsl0.out.below hb1)).mono ?_
  rintro e w2 ⟨v2,rfl,ho2,hb2⟩
  have hz2:=hb2.size
  have HO:=Lib.hid ho2
  obtain⟨g,cap2,rfl,hl2,hm2,hbg,hgw,hfz,hc2⟩:=ho2.form ah
  clear ho2 hc2
  go_wp2_with(first|(refine dw (base:=w1.heap.size) rfl _ _ rfl qJ g xs.length cap2 HO.out i ?d1 ?d2 newV ?d3 xG.val ?d4)|fail)
  case d1=>exact hi
  case d2=>simp[Act.eval]
  case d3=>simp[Act.eval,newV]
  case d4=>
  intro w4 qR hg4
  have hb4:Below w.heap.size w w4:=HO.out.below hg4 aD ah ah
  have sj:=Lib.hid qR
  clear qR hg4
  go_wp2_with fail
  exact bodyPost_ret (v:= .tuple #[.slice (some ⟨g,0,none⟩) xs.length cap2,.int .i64 (i+1),.int .i64 0]) P9 rfl ⟨_,rfl,sj.out.sl,bB.res sj.out ah,hb4⟩
theorem lZ(v:Value)(xs:List Value)(p:Int)(wr:Bool)(n:Int)(w:World)(hsl:Sl w true 3 v xs)(hx:∀x∈xs,lI x)(hby:xs.length*32≤140737488355328)(hp:(Lit.int .i64 p).wf=true):
  Calls Tryz.prog 87 #[v,.agg #[.int .i64 p,.bool wr],.int .i64 n] w fun e w'=>∃v',e=.returned v'∧Sl w' true 3 v' (pz xs p wr n)∧vD w.heap.size v xs v' (pz xs p wr n)∧Below w.heap.size w w':=by
 have hCl:=fun W h=>vB v xs W h hby
 have hsl0:=Lib.hid hsl
 obtain⟨hsz,a,cap,rfl,hl,hm,hform⟩:=hsl
 unfold maxLen at hm
 clear hsz hform
 by_cases h1:p<1
 ·have HS:=Lib.hid (Gr (xs:=xs) (wr:=wr) (n:=n) (.inl h1))
  exact aei
 by_cases h2:(xs.length:Int)<p
 ·have HS:=Lib.hid (Gr (xs:=xs) (wr:=wr) (n:=n) (.inr h2))
  exact aei
 obtain⟨i,rfl,hi⟩:∃i:Nat,p=(i:Int)+1∧i<xs.length:=⟨(p-1).toNat,ah,ah⟩
 obtain⟨x,hxi⟩:∃x,xs[i]?=some x:=⟨_,List.getElem?_eq_getElem hi⟩
 obtain⟨d,r,q,rfl,hd,hr,hq⟩:=hx x (List.mem_of_getElem? hxi)
 have HS:=Lib.hid (Wp (wr:=wr) (n:=n) hxi)
 have OW:=Lib.hid hxi
 have hwr:IntKind.i64.wrap ((i:Int)+1-1)=i:=BO
 clear hxi hx hd hr hq hp
 cases wr
 all_goals
  go_enter Tryz.func87,Tryz.ntmps87
  go_wp2_with fail
  with_reducible refine(hCl _ (hsl0.out.below aD)).mono ?_
  rintro e w2 ⟨v2,rfl,ho2,hb2⟩
  have hz2:=hb2.size
  (have b1:aC w2 w.heap.size #[.int .i64 (i+1),.bool _] 121:=pW);(obtain⟨hc1,hf1,hl1,hn1,hm1⟩:=b1.rules);(have K1:=Lib.hid b1);(clear b1)
  have HO:=Lib.hid ho2
  obtain⟨g,cap2,rfl,hl3,ng,hbg,hgw,hfz,hc3⟩:=ho2.form ah
  have c1:w2.cell? ⟨g,i*3+1,none⟩=some (.int .i64 r):=hc3 i _ OW.out 1 _ rfl
  have c2:w2.cell? ⟨g,i*3+2,none⟩=some (.int .i64 q):=hc3 i _ OW.out 2 _ rfl
  clear ho2 hc3
  simp only[World.size_alloc] at hbg
  have hne:¬w.heap.size=g:=ah
  go_wp2_with fail
  go_ret
  rw[HS.out]
  first|exact⟨_,rfl,(HO.out.AA (j:=1) (u:= .int .i64 (wrap64 (r+n))) OW.out aB rfl).1.sl,(HO.out.AA (j:=1) (u:= .int .i64 (wrap64 (r+n))) OW.out aB rfl).1.res aI,aD⟩|exact⟨_,rfl,(HO.out.AA (j:=2) (u:= .int .i64 (wrap64 (q+n))) OW.out aB rfl).1.sl,(HO.out.AA (j:=2) (u:= .int .i64 (wrap64 (q+n))) OW.out aB rfl).1.res aI,aD⟩
end Go.Proofs.YtgmodehldmahiaaGreatDoor.Pipe
end
section
namespace Go.Proofs.YtgmodehldmahiaaGreatDoor.Heap
open Go Go.RowKit Go.Tm
theorem AY(size:Int)(v:Value)(l:List Sp)(who:Int)(w:World)(hv:Sl w true 3 v (nV l))(hby:l.length*24≤140737488355328):
  Calls Tryz.prog 150 #[.agg #[.int .i64 size,v],.int .i64 who] w fun e w'=>∃v',e=.returned (.agg #[.int .i64 size,v'])∧Sl w' true 3 v' (nV (gM l who))∧vD w.heap.size v (nV l) v' (nV (gM l who))∧Below w.heap.size w w':=by
 have HV:=Lib.hid hv
 have HE:=Lib.hid (Jm l who)
 have HWO:=Lib.hid (fun W h hB hc=>Dp v l 183 (w.heap.size+1) who (Ep who) W h hby pJ hB hc (fun x w'=>qW x who (w.heap.size+1) w'))
 clear hv
 go_enter Tryz.func150,Tryz.ntmps150
 go_wp2_with fail
 with_reducible refine(HWO.out _ (HV.out.below ?_) ?_ ?_).mono ?_
 focus exact bl
 focus(simp only[World.size_alloc];omega)
 focus exact((aC.new1 (w.alloc (.cells #[.int .i64 size,v] 51)) #[.int .i64 who] 3 (n:=w.heap.size+1) aI).alloc _).rules.1 0
 rintro e w4 ⟨v4,rfl,hs4,hg4,hb4⟩
 simp only[World.size_alloc] at hg4
 have Iz:=Lib.hid hg4
 have vT:=hb4.size
 simp only[World.size_alloc] at vT
 have bx1:aC w4 w.heap.size #[.int .i64 size,v] 51:=(((aC.new _ _ _).alloc _).alloc _).below hb4 cZ
 have OP:aC w4 (w.heap.size+1+1) #[.int .i64 0,.slice none 0 0] 51:=aC.below (aC.new1 _ _ _ aI) hb4 cZ
 have hbw:Below w.heap.size w w4:=aD
 rw[HE.out] at hs4
 obtain⟨c1,f1,l1,n1,m1⟩:=bx1.rules
 obtain⟨c3,f3,l3,n3,m3⟩:=OP.rules
 have G9:=Lib.hid hs4
 obtain⟨a4,cap4,rfl,_⟩:=hs4.shape
 rw[lF] at G9 Iz⊢
 clear hs4 bx1 OP hb4 hg4
 go_wp2_with fail
 refine bodyPost_ret (v:= .agg #[.int .i64 size,.slice a4 (gM l who).length cap4]) YV rfl ⟨_,rfl,?_,.inr fun b hb=>yR,aD⟩
 exact(((G9.out.setOther (.inr fun b hb=>yR) _ _).setOther (.inr fun b hb=>yR) _ _).setOther (.inr fun b hb=>yR) _ _)
end Go.Proofs.YtgmodehldmahiaaGreatDoor.Heap
end
section
namespace Go.Proofs.YtgmodehldmahiaaGreatDoor.Tab
open Go Go.RowKit Go.Tm
theorem WH(v:Value)(l:List bV)(fr alA:Int)(w:World)(hv:Sl w true 26 v (pO l))(hby:l.length*168≤140737488355328):
  Calls Tryz.prog 153 #[v,.int .i64 fr,.int .i64 alA] w fun e w'=>∃v',e=.returned v'∧Sl w' true 26 v' (pO (lK l fr alA))∧(∀b,v'.ownBlock=some b→w.heap.size≤b)∧Below w.heap.size w w':=by
 have HV:=Lib.hid hv
 have hl63:l.length≤9223372036854775807:=by obtain⟨a,cap,rfl,hl⟩:=hv.shape;rw[jh] at hl;exact hl
 clear hv
 go_enter Tryz.func153,Tryz.ntmps153
 go_wp2_with fail
 with_reducible refine(zD v (pO l) _ HV.out (by rw[jh];exact hby)).mono ?_
 rintro e w1 ⟨v1,rfl,ho1,hb1⟩
 have hz1:=hb1.size
 obtain⟨a,cap,rfl,_⟩:=ho1.sl.shape
 have LH:=Lib.hid ho1
 rw[jh] at LH⊢
 have HZ:=Lib.hid (Om l fr alA)
 clear ho1
 go_wp2_with fail
 go_loopw [12] (fun t W=>∃i:Nat,i≤l.length∧t=.int .i64 i∧Below w.heap.size w W∧bB W w.heap.size 126 true 26 (.slice a l.length cap) (pO (nk l fr alA i))) (fun t _=>l.length-(intOf t).toNat)
 case atStart=>exact⟨0,Nat.zero_le _,rfl,hb1,by rw[Li];exact LH.out⟩
 case round=>
  obtain⟨i,hi,rfl,hbw,hown⟩:=hrel
  have hws:=hbw.size
  have hwr:IntKind.i64.wrap ((i:Int)+1)=i+1:=IntWalk.i64_in _ ah
  have HO:=Lib.hid hown
  by_cases hlt:i<l.length
  ·obtain⟨x,hx⟩:∃x,l[i]?=some x:=⟨_,List.getElem?_eq_getElem hlt⟩
   have HX:=Lib.hid (Ef (RX (a:=fr) (b:=alA) hx))
   have HST:=Lib.hid (Lj (a:=fr) (b:=alA) hx)
   obtain⟨g,cap',he,hlc,hcm,hbg,hgw,hfz,hcells⟩:=hown.form (by rw[jh,Ol];omega)
   simp only[Value.slice.injEq] at he
   obtain⟨rfl,-,rfl⟩:=he
   have c1:wr.cell? ⟨g,i*26+1,none⟩=some (.int .i64 x.par):=hcells i _ HX.out 1 _ ado
   clear hx hcells hown
   by_cases hp:x.par=fr
   ·have hpb:(x.par==fr)=true:=by simpa using hp
    have HA:=Lib.hid (show rT fr alA x={x with par:=alA} by unfold rT;rw[if_pos hp])
    clear hp
    go_wp2_with fail
    go_roundw
    case rel=>
     have hset:=HO.out.AA (j:=1) (u:= .int .i64 alA) HX.out aB rfl
     refine⟨i+1,ah,bI,hbw.setCell (p:=⟨g,i*26+1,none⟩) hbg _,?_⟩
     have h:=hset.1
     rw[ach,Kw] at h
     rw[HST.out,HA.out]
     exact h
    case measure=>simp[intOf];omega
   ·have hpb:(x.par==fr)=false:=by simpa using hp
    have HA:=Lib.hid (show rT fr alA x=x by unfold rT;rw[if_neg hp])
    clear hp
    go_wp2_with fail
    go_roundw
    case rel=>
     refine⟨i+1,ah,bI,hbw,?_⟩
     rw[HST.out,HA.out,←Kw,set_self HX.out]
     exact HO.out
    case measure=>simp[intOf];omega
  ·obtain rfl:i=l.length:=by omega
   rw[HZ.out] at HO
   clear hown
   go_wp2_with fail
   go_ret
   exact⟨_,rfl,HO.out.sl,fun b hb=>HO.out.fP b hb,hbw⟩
end Go.Proofs.YtgmodehldmahiaaGreatDoor.Tab
end
section
namespace Go.Tm
open Go Go.RowKit
section
variable {P:Program} {w:World} {ops:Array Oper} {S:World→Prop} {k:Nat}
theorem iH{o:Oper}{a:Act}{K:Act→World→Prop}{Q:Exit→Act→World→Prop}(E:TypeId)(ho:o.op=.alloc E){z:Value}(hz:(P.info? E).map (·.zero)=some (some z))(cs:Array Value)(hc:z.cells=cs)
  (h:K (a.put o.dst (.pointer (some ⟨w.heap.size,0,none⟩))) (w.alloc (.cells cs E))):o.wp P a w K Q:=by
 subst hc
 obtain⟨i,hi,hz'⟩:=Option.map_eq_some_iff.1 hz
 unfold Oper.wp
 simp[execOp,ho,Instr.alloc,zeroValue,typeInfo,hi,hz']
 exact h
theorem gU{o:Oper}{a:Act}(E:TypeId)(p:Operand)(ho:o.op=.load E p){b off:Nat}(cs:Array Value)(ht:Ty P E k true)(hx:Val true k (.agg cs))
  (hw:Region.wanted o (yielded ops a.tmps)=true)(hp:a.eval p=.pointer (some ⟨b,off,none⟩))(hS:∀w,S w→Cells w b off cs.toList):YieldsIf P ops S o (.agg cs) a:=
 Or.inl ⟨hw,fun w hs=>by
  unfold execOp
  simp only[ho,hp,Instr.loadAt,Instr.sureAddr,Sem.run_bind,Sem.run_pure,Result.andThen_ok,iB ht hx (show Cells w b off (Value.agg cs).cells.toList from hS w hs)]⟩
end
structure Joined{α:Type}(F:α→World→Prop)(G:α→Act)(a':Act)(w':World):Prop where
 ex:∃x,F x w'∧a'=G x
theorem Joined.of{α:Type}{F:α→World→Prop}{G:α→Act}{a':Act}{w':World}(x:α)(h:F x w')(e:a'=G x):Joined F G a' w':=⟨x,h,e⟩
theorem Ed{P:Program}{c:Code}{Q:Exit→Act→World→Prop}{a:Act}{w:World}{α:Type}(F:α→World→Prop)(G:α→Act)(h:c.wp P (fun e a' w'=>e=.normal∧Joined F G a' w') a w)(hM:∀x W,F x W→Q .normal (G x) W):c.wp P Q a w:=
 Code.wp_mono (fun e a w h=>by obtain⟨rfl,x,h1,rfl⟩:=h;exact hM x w h1) h
structure oG{α β:Type}(F:α→β→World→Prop)(G:α→β→Act)(a':Act)(w':World):Prop where
 ex:∃x y,F x y w'∧a'=G x y
theorem oG.of{α β:Type}{F:α→β→World→Prop}{G:α→β→Act}{a':Act}{w':World}(x:α)(y:β)(h:F x y w')(e:a'=G x y):oG F G a' w':=⟨x,y,h,e⟩
theorem MF{P:Program}{c:Code}{Q:Exit→Act→World→Prop}{a:Act}{w:World}{α β:Type}(F:α→β→World→Prop)(G:α→β→Act)(h:c.wp P (fun e a' w'=>e=.normal∧oG F G a' w') a w)(hM:∀x y W,F x y W→Q .normal (G x y) W):c.wp P Q a w:=
 Code.wp_mono (fun e a w h=>by obtain⟨rfl,x,y,h1,rfl⟩:=h;exact hM x y w h1) h
theorem bB.Ai{w w':World}{base:Nat}{E:TypeId}{ag:Bool}{k:Nat}{v:Value}{xs:List Value}{b:Nat}(h:bB w base E ag k v xs)(hg:w.grownBy w' (some b))(hb:b<base):bB w' base E ag k v xs:=
 ⟨h.row.kept hg (by
  cases ho:v.ownBlock with
  |none=>exact .inl rfl
  |some c=>right;intro he;have:=h.fP c ho;cases he;omega),h.val⟩
theorem kV{w w1 w2:World}{row:Option Nat}{g:Nat}(h:w.grownBy w1 row)(h':w1.grownBy w2 (some g))(hg:w.heap.size≤g):w.grownBy w2 row:=
 ⟨h'.os.trans h.os,h'.tape.trans h.tape,h'.output.trans h.output,Nat.le_trans h.size h'.size,fun i hi hne=>(h'.block i (Nat.lt_of_lt_of_le hi h.size) (by intro he;cases he;omega)).trans (h.block i hi hne)⟩
structure BF(w w':World)(p t:Nat):Prop where
 size:w.heap.size≤w'.heap.size
 block:∀c,c<w.heap.size→c≠p→c≠t→w'.heap[c]?=w.heap[c]?
theorem BF.refl(w:World)(p t:Nat):BF w w p t:=⟨Nat.le_refl _,fun _ _ _ _=>rfl⟩
theorem BF.ajw{w w':World}{p t:Nat}(h:BF w w' p t)(o:Nat)(v:Value):BF w (w'.setCell ⟨p,o,none⟩ v) p t:=
 ⟨by simpa using h.size,fun c hc h1 h2=>(heap_setCell_other w' ⟨p,o,none⟩ c v h1).trans (h.block c hc h1 h2)⟩
theorem BF.ajv{w w':World}{p t:Nat}(h:BF w w' p t)(o:Nat)(v:Value):BF w (w'.setCell ⟨t,o,none⟩ v) p t:=
 ⟨by simpa using h.size,fun c hc h1 h2=>(heap_setCell_other w' ⟨t,o,none⟩ c v h2).trans (h.block c hc h1 h2)⟩
theorem Sl.akp{w w':World}{p t:Nat}{ag:Bool}{k:Nat}{v:Value}{xs:List Value}(h:Sl w ag k v xs)(hb:BF w w' p t)(h1:Apart p v xs)(h2:Apart t v xs):Sl w' ag k v xs:=by
 obtain⟨hv,a,cap,rfl,e1,e2,e3⟩:=h
 refine⟨hv,a,cap,rfl,e1,e2,?_⟩
 rcases e3 with rfl|⟨b,off,rfl,hlt,hc⟩
 ·exact .inl rfl
 ·rcases h1 with rfl|h1
  ·exact .inl rfl
  ·rcases h2 with rfl|h2
   ·exact .inl rfl
   ·refine .inr ⟨b,off,rfl,Nat.lt_of_lt_of_le hlt hb.size,fun i x hx j u' hu=>?_⟩
    rw[World.cell?_of_block (w:=w) (a:=⟨b,off+i*k+j,none⟩) (hb.block b hlt (h1 b rfl) (h2 b rfl))]
    exact hc i x hx j u' hu
section
variable {P:Program} {ops:Array Oper} {Q:Exit→Act→World→Prop} {md:Region.Mode} {S:World→Prop} {E:Nat→Bool}
theorem KN(i j l:Nat){oi oj ol:Oper}{f:Nat}{ls:Array Bool}{a:Act}{w:World}(hi:ops[i]?=some oi)(hj:ops[j]?=some oj)(hl:ops[l]?=some ol)(hr:decide (Region.ready md ops ls=[i,j,l])=true)(hg:oi.guard=none)(hg':oj.guard=none)(hg'':ol.guard=none)
  (h:∀K:Act→World→Prop,Hid (∀a' w',(E i=true→S w')→wpAnyS P md ops Q S E f (ls.setIfInBounds i true) a' w'→K a' w')→oi.wp P a w K Q)
  (h':∀K:Act→World→Prop,Hid (∀a' w',(E j=true→S w')→wpAnyS P md ops Q S E f (ls.setIfInBounds j true) a' w'→K a' w')→oj.wp P a w K Q)
  (h'':∀K:Act→World→Prop,Hid (∀a' w',(E l=true→S w')→wpAnyS P md ops Q S E f (ls.setIfInBounds l true) a' w'→K a' w')→ol.wp P a w K Q):wpAnyS P md ops Q S E (f+1) ls a w:=by
 have hr:=of_decide_eq_true hr
 refine⟨fun h0=>PI,fun m hm=>?_⟩
 rw[hr] at hm
 simp only[List.mem_cons,List.not_mem_nil,or_false] at hm
 rcases hm with rfl|rfl|rfl
 ·exact ad6
 ·exact ad9
 ·unfold wpOp
  simp only[hl]
  rw[if_pos (by unfold Region.wanted;rw[hg''])]
  exact .inl (h'' _ (Lib.hid fun _ _ h1 h2=>⟨h1,h2⟩))
end
theorem gD{P:Program}{w:World}{o:Oper}{a:Act}{K:Act→World→Prop}{Q:Exit→Act→World→Prop}(E:TypeId)(ho:o.op=.alloc E){z:Value}(hz:(P.info? E).map (·.zero)=some (some z))(cs:Array Value)(hc:z.cells=cs)
  (h:∀q w',aC w' q cs E→Below w.heap.size w w'→w.heap.size≤q→q<w'.heap.size→K (a.put o.dst (.pointer (some ⟨q,0,none⟩))) w'):o.wp P a w K Q:=
 iH E ho hz cs hc (h _ _ (aC.new w cs E) ((Below.refl _ _).alloc (Nat.le_refl _) _) (Nat.le_refl _) aI)
end Go.Tm
end
section
namespace Go.Tm
open Go Go.RowKit
section
variable {P:Program}
structure At(e0:Exit)(a':Act)(w':World)(e:Exit)(a:Act)(w:World):Prop where
 ex:e=e0
 ac:a=a'
 wo:w=w'
structure Pp(R:Exit→Act→World→Prop)(e:Exit)(a:Act)(w:World):Prop where
 how:e=.exit 0∨e=.ret
 is:R e a w
theorem bQ{id:Nat}{c d:Code}{R:Exit→Act→World→Prop}{a:Act}{w:World}(hid:id≠0)(h:c.wp P (Pp R) a w):((Code.block id c).seq d).wp P (Pp R) a w:=by
 refine wp_seq (wp_block (Code.wp_mono (fun e a w h=>?_) h))
 exact Y4
theorem bJ{id n:Nat}{c d:Code}{a':Act}{w':World}{a:Act}{w:World}(hid:(n==id)=false)(h:c.wp P (At (.exit n) a' w') a w):((Code.block id c).seq d).wp P (At (.exit n) a' w') a w:=by
 refine wp_seq (wp_block (Code.wp_mono (fun e a w h=>?_) h))
 exact ad5
theorem bR{id:Nat}{c d:Code}{R:Exit→Act→World→Prop}{a':Act}{w':World}{a:Act}{w:World}(h:c.wp P (At (.exit id) a' w') a w)(hd:d.wp P R a' w'):((Code.block id c).seq d).wp P R a w:=by
 refine wp_seq (wp_block (Code.wp_mono (fun e a w h=>?_) h))
 obtain⟨rfl,rfl,rfl⟩:=h
 simp only[Exit.inBlock,if_true]
 exact hd
theorem pF{id:Nat}{c d:Code}{R:Exit→Act→World→Prop}{a':Act}{w':World}{a:Act}{w:World}(h:c.wp P (At .normal a' w') a w)(hd:d.wp P R a' w'):((Code.block id c).seq d).wp P R a w:=by
 refine wp_seq (wp_block (Code.wp_mono (fun e a w h=>?_) h))
 obtain⟨rfl,rfl,rfl⟩:=h
 exact hd
theorem qV{id:Nat}{c:Code}{R:Exit→Act→World→Prop}{a:Act}{w:World}(hid:id≠0)(h:c.wp P (Pp R) a w):(Code.block id c).wp P (Pp R) a w:=by
 refine wp_block (Code.wp_mono (fun e a w h=>?_) h)
 exact Y4
theorem vv{id n:Nat}{c:Code}{a':Act}{w':World}{a:Act}{w:World}(hid:(n==id)=false)(h:c.wp P (At (.exit n) a' w') a w):(Code.block id c).wp P (At (.exit n) a' w') a w:=by
 refine wp_block (Code.wp_mono (fun e a w h=>?_) h)
 exact ad5
theorem Ck{id:Nat}{c:Code}{a':Act}{w':World}{a:Act}{w:World}(h:c.wp P (At (.exit id) a' w') a w):(Code.block id c).wp P (At .normal a' w') a w:=by
 refine wp_block (Code.wp_mono (fun e a w h=>?_) h)
 obtain⟨rfl,rfl,rfl⟩:=h
 simp only[Exit.inBlock,if_true]
 exact⟨rfl,rfl,rfl⟩
theorem bH{c:Code}{Q:Exit→Act→World→Prop}{a:Act}{w:World}(h:c.wp P (Pp (Exit.inBlock 0 Q)) a w):(Code.block 0 c).wp P Q a w:=
 wp_block (Code.wp_mono (fun e a w h=>h.is) h)
theorem dn{Q:Exit→Act→World→Prop}{a:Act}{w:World}(h:Q .normal a w):Pp (Exit.inBlock 0 Q) (.exit 0) a w:=⟨.inl rfl,by simp only[Exit.inBlock,if_true];exact h⟩
theorem wT{Q:Exit→Act→World→Prop}{a:Act}{w:World}(h:Q .ret a w):Pp (Exit.inBlock 0 Q) .ret a w:=⟨.inr rfl,h⟩
theorem iP{fn:Func}{R:Ending→World→Prop}{a:Act}{W:World}{E t:TypeId}{k b:Nat}{p:Tmp}{cs:Array Value}(h:fn.results=#[.cell p E])(hT:Ty P E k true)(hx:Val true k (.agg cs))(hp:a.tmps.getD p undef=.pointer (some ⟨b,0,none⟩))(hb:aC W b cs t)(hd:a.defers=[])
  (hR:R (.returned (.agg cs)) W):bodyPost P fn R .ret a W:=by
 refine bodyPost_ret (v:= .agg cs) ?_ hd hR
 have hp':a.tmps[p]?.getD undef=.pointer (some ⟨b,0,none⟩):=by simpa using hp
 simp[results,h,hp',asAddr,iB hT hx hb.cells]
end
end Go.Tm
end
