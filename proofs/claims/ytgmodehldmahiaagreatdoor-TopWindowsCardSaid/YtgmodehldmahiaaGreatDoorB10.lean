/- Part 10 of 53 of the proof of topAlone_and_topApart. Conditions: see each. -/
import Derived.Test.YtgmodehldmahiaaGreatDoorB01
import Derived.Test.YtgmodehldmahiaaGreatDoorB08
import Derived.Test.YtgmodehldmahiaaGreatDoorB04
import Derived.Test.YtgmodehldmahiaaGreatDoorB07
import Derived.Test.YtgmodehldmahiaaGreatDoorB03
set_option linter.unusedVariables false
set_option linter.unusedSimpArgs false
set_option maxRecDepth 8192
set_option maxHeartbeats 40000000
section
namespace Go.Proofs.YtgmodehldmahiaaGreatDoor.Pipe
open Go Go.RowKit Go.Tm
theorem ae7(v:Value)(xs:List Value)(w:World)(hsl:Sl w true 3 v xs)(hx:∀x∈xs,nL x)(hby:xs.length*32≤140737488355328):
  Calls Tryz.prog 198 #[v] w fun e w'=>∃v',e=.returned (.tuple #[v',.int .i64 (mI xs).2.1,.int .i64 (mI xs).2.2])∧Sl w' true 3 v' (mI xs).1∧yV w.heap.size v xs v' (mI xs).1∧Below w.heap.size w w':=by
 have hIdx:=Lr v xs 212 #[] zm w hsl (aa6 xs hx w)
 have hCl:=fun W h=>yN v xs W h hby
 have rF:=ah hsl
 obtain⟨hsz,a,cap,rfl,hl,hm,dL⟩:=hsl
 unfold maxLen at hm
 have HM:=ah dL
 clear dL
 unfold mI
 have abM:idx zm xs=-1∨∃i x:Nat,idx zm xs=(i:Int)∧i<xs.length:=by
  unfold idx
  cases h:xs.findIdx? zm with
  |none=>exact .inl rfl
  |some i=>exact .inr ⟨i,0,rfl,by rw[List.findIdx?_eq_some_iff_getElem] at h;exact h.1⟩
 have HX:=ah hx
 clear hx
 generalize idx zm xs=ii at*
 rcases abM with rfl|⟨i,_,rfl,hi⟩
 ·by_cases h4:4≤xs.length
  ·have h4':(4:Int)≤xs.length:=by omega
   rw[if_pos aC,if_pos h4]
   go_enter Tryz.func198,Tryz.ntmps198
   go_wp2_with fail
   refine hIdx.mono ?_
   rintro e w1 ⟨rfl,hb1⟩
   go_wp2_with fail
   exact bodyPost_ret (v:= .tuple #[.slice a xs.length cap,.int .i64 0,.int .i64 5]) Vu rfl ⟨_,rfl,rF.out.below hb1,.inl ⟨rfl,rfl⟩,aG⟩
  ·have h4':¬(4:Int)≤xs.length:=by omega
   rw[if_pos aC,if_neg h4]
   obtain⟨i0,qN,oq,gD,mh⟩:=info_parts NM
   have HI:=ah (And.intro qN (And.intro oq (And.intro gD mh)))
   clear qN oq gD mh
   go_enter Tryz.func198,Tryz.ntmps198
   go_wp2_with fail
   refine hIdx.mono ?_
   rintro e w1 ⟨rfl,hb1⟩
   have hz1:=hb1.size
   go_wp2_with fail
   refine(hCl w1 (rF.out.below hb1)).mono ?_
   rintro e w2 ⟨v2,rfl,o7,hb2⟩
   have hz2:=hb2.size
   have HO:=ah o7
   obtain⟨_,a2,jl,rfl,hl2,nS,_⟩:=o7.sl
   clear o7
   go_wp2_with(first|(refine dJ (v:= .slice a2 xs.length jl) (xs:=xs) (base:=w1.heap.size) rfl _ _ 48 rfl uo i0 (.agg #[.string ⟨#[]⟩,.int .i64 0,.int .i64 0]) 32 Tryz.underlying48 HI.out.1 HI.out.2.1 HI.out.2.2.1 HI.out.2.2.2 rfl ?hs ?hown (.slice (some ⟨w2.heap.size,0,none⟩) 1 1) [.agg #[.string ⟨#[]⟩,.int .i64 0,.int .i64 0]] ?hx ?hsl ?c63 ?cby ?cba ?ck)|fail)
   case hs=>simp[Act.eval]
   case hx=>simp[Act.eval]
   case hown=>exact HO.out.kept aG
   case hsl=>exact(bI.pQ (base:=w2.heap.size) (nL.val ⟨⟨#[]⟩,0,0,rfl,aC,rfl,rfl⟩) (Nat.le_refl _)).sl
   case c63=>simp only[List.length_singleton,maxLen];omega
   case cby=>simp only[List.length_singleton];omega
   case cba=>simp only[World.size_alloc];omega
   case ck=>
   intro v3 w3 pz hg3 g anl hv3
   subst hv3
   have hb3:Below w.heap.size w w3:=(HO.out.kept aG).below hg3 aG aj dF
   clear hg3
   have uH:=ah pz
   clear pz
   have hz3:=hb3.size
   go_wp2_with(first|(refine eB (base:=w1.heap.size) rfl _ _ rfl uo g (xs.length+1) anl uH.out xs.length ?d1 ?d2 Oj ?d3 AB.val ?d4)|fail)
   case d1=>simp
   case d2=>simp[Act.eval]
   case d3=>simp[Act.eval,Oj]
   case d4=>
   intro w4 qz hg4
   have hb4:Below w.heap.size w w4:=uH.out.below hg4 hb3 aj aj
   have BN:(xs++[Value.agg #[Value.string ⟨#[]⟩,.int .i64 0,.int .i64 0]]).set xs.length Oj=xs++[Oj]:=aI
   try rw[BN] at qz
   have sD:=ah qz
   clear qz hg4 BN
   go_wp2_with fail
   exact bodyPost_ret (v:= .tuple #[.slice (some ⟨g,0,none⟩) (xs.length+1) anl,.int .i64 (xs.length+1),.int .i64 0]) Vu rfl ⟨_,rfl,sD.out.sl,bI.res sD.out aj,hb4⟩
 ·have mE:¬(i:Int)<0:=by omega
  have rD:((i:Int)==xs.length)=false:=by simpa using(by omega:¬(i:Int)=xs.length)
  have hwr:IntKind.i64.wrap ((i:Int)+1)=i+1:=IntWalk.i64_in _ aj
  rw[if_neg mE]
  go_enter Tryz.func198,Tryz.ntmps198
  go_wp2_with fail
  refine hIdx.mono ?_
  rintro e w1 ⟨rfl,hb1⟩
  have hz1:=hb1.size
  go_wp2_with fail
  refine(hCl w1 (rF.out.below hb1)).mono ?_
  rintro e w2 ⟨v2,rfl,o7,hb2⟩
  have hz2:=hb2.size
  have HO:=ah o7
  obtain⟨g,jl,rfl,hl2,nS,hbg,qI,Hr,hc2⟩:=o7.form aj
  clear o7 hc2
  go_wp2_with(first|(refine eB (base:=w1.heap.size) rfl _ _ rfl uo g xs.length jl HO.out i ?d1 ?d2 Oj ?d3 AB.val ?d4)|fail)
  case d1=>exact hi
  case d2=>simp[Act.eval]
  case d3=>simp[Act.eval,Oj]
  case d4=>
  intro w4 qz hg4
  have hb4:Below w.heap.size w w4:=HO.out.below hg4 aG aj aj
  have sD:=ah qz
  clear qz hg4
  go_wp2_with fail
  exact bodyPost_ret (v:= .tuple #[.slice (some ⟨g,0,none⟩) xs.length jl,.int .i64 (i+1),.int .i64 0]) Vu rfl ⟨_,rfl,sD.out.sl,bI.res sD.out aj,hb4⟩
theorem oJ(v:Value)(xs:List Value)(p:Int)(wr:Bool)(n:Int)(w:World)(hsl:Sl w true 3 v xs)(hx:∀x∈xs,nL x)(hby:xs.length*32≤140737488355328)(hp:(Lit.int .i64 p).wf=true):
  Calls Tryz.prog 87 #[v,.agg #[.int .i64 p,.bool wr],.int .i64 n] w fun e w'=>∃v',e=.returned v'∧Sl w' true 3 v' (rW xs p wr n)∧yV w.heap.size v xs v' (rW xs p wr n)∧Below w.heap.size w w':=by
 have hCl:=fun W h=>yN v xs W h hby
 have rF:=ah hsl
 obtain⟨hsz,a,cap,rfl,hl,hm,dL⟩:=hsl
 unfold maxLen at hm
 clear hsz dL
 by_cases h1:p<1
 ·have HS:=ah (KE (xs:=xs) (wr:=wr) (n:=n) (.inl h1))
  exact aiD
 by_cases h2:(xs.length:Int)<p
 ·have HS:=ah (KE (xs:=xs) (wr:=wr) (n:=n) (.inr h2))
  exact aiD
 obtain⟨i,rfl,hi⟩:∃i:Nat,p=(i:Int)+1∧i<xs.length:=⟨(p-1).toNat,aj,aj⟩
 obtain⟨x,hxi⟩:∃x,xs[i]?=some x:=⟨_,List.getElem?_eq_getElem hi⟩
 obtain⟨d,r,q,rfl,hd,hr,hq⟩:=hx x (List.mem_of_getElem? hxi)
 have HS:=ah (abg (wr:=wr) (n:=n) hxi)
 have HXI:=ah hxi
 have hwr:IntKind.i64.wrap ((i:Int)+1-1)=i:=Jk
 clear hxi hx hd hr hq hp
 cases wr
 all_goals
  go_enter Tryz.func87,Tryz.ntmps87
  go_wp2_with fail
  with_reducible refine(hCl _ (rF.out.below aG)).mono ?_
  rintro e w2 ⟨v2,rfl,o7,hb2⟩
  have hz2:=hb2.size
  have b1:aD w2 w.heap.size #[.int .i64 (i+1),.bool _] 121:=sP;obtain⟨hc1,mF,jO,mE,oz⟩:=b1.rules;have K1:=ah b1;clear b1
  have HO:=ah o7
  obtain⟨g,jl,rfl,qM,qL,hbg,qI,Hr,hc3⟩:=o7.form aj
  have c1:w2.cell? ⟨g,i*3+1,none⟩=some (.int .i64 r):=hc3 i _ HXI.out 1 _ rfl
  have c2:w2.cell? ⟨g,i*3+2,none⟩=some (.int .i64 q):=hc3 i _ HXI.out 2 _ rfl
  clear o7 hc3
  simp only[World.size_alloc] at hbg
  have hne:¬w.heap.size=g:=aj
  go_wp2_with fail
  go_ret
  rw[HS.out]
  first|exact⟨_,rfl,(HO.out.DW (j:=1) (u:= .int .i64 (wrap64 (r+n))) HXI.out aC rfl).1.sl,(HO.out.DW (j:=1) (u:= .int .i64 (wrap64 (r+n))) HXI.out aC rfl).1.res aI,aG⟩|exact⟨_,rfl,(HO.out.DW (j:=2) (u:= .int .i64 (wrap64 (q+n))) HXI.out aC rfl).1.sl,(HO.out.DW (j:=2) (u:= .int .i64 (wrap64 (q+n))) HXI.out aC rfl).1.res aI,aG⟩
end Go.Proofs.YtgmodehldmahiaaGreatDoor.Pipe
end
section
namespace Go.Proofs.YtgmodehldmahiaaGreatDoor.Heap
open Go Go.RowKit Go.Tm
theorem Ea(size:Int)(v:Value)(l:List Sp)(who:Int)(w:World)(hv:Sl w true 3 v (pW l))(hby:l.length*24≤140737488355328):
  Calls Tryz.prog 150 #[.agg #[.int .i64 size,v],.int .i64 who] w fun e w'=>∃v',e=.returned (.agg #[.int .i64 size,v'])∧Sl w' true 3 v' (pW (iX l who))∧yV w.heap.size v (pW l) v' (pW (iX l who))∧Below w.heap.size w w':=by
 have HV:=ah hv
 have HE:=ah (NR l who)
 have HWO:=ah (fun W h hB hc=>Gt v l 183 (w.heap.size+1) who (Iq who) W h hby r_ hB hc (fun x w'=>uF x who (w.heap.size+1) w'))
 clear hv
 go_enter Tryz.func150,Tryz.ntmps150
 go_wp2_with fail
 with_reducible refine(HWO.out _ (HV.out.below ?_) ?_ ?_).mono ?_
 focus exact bl
 focus(simp only[World.size_alloc];omega)
 focus exact((aD.p9 (w.alloc (.cells #[.int .i64 size,v] 51)) #[.int .i64 who] 3 (n:=w.heap.size+1) aI).alloc _).rules.1 0
 rintro e w4 ⟨v4,rfl,mg,hg4,hb4⟩
 simp only[World.size_alloc] at hg4
 have M6:=ah hg4
 have xU:=hb4.size
 simp only[World.size_alloc] at xU
 have bx1:aD w4 w.heap.size #[.int .i64 size,v] 51:=(((aD.new _ _ _).alloc _).alloc _).below hb4 dF
 have UD:aD w4 (w.heap.size+1+1) #[.int .i64 0,.slice none 0 0] 51:=aD.below (aD.p9 _ _ _ aI) hb4 dF
 have bZ:Below w.heap.size w w4:=aG
 rw[HE.out] at mg
 obtain⟨c1,f1,l1,n1,m1⟩:=bx1.rules
 obtain⟨c3,f3,l3,n3,m3⟩:=UD.rules
 have LJ:=ah mg
 obtain⟨a4,EF,rfl,_⟩:=mg.shape
 rw[lI] at LJ M6⊢
 clear mg bx1 UD hb4 hg4
 go_wp2_with fail
 refine bodyPost_ret (v:= .agg #[.int .i64 size,.slice a4 (iX l who).length EF]) adz rfl ⟨_,rfl,?_,.inr fun b hb=>BX,aG⟩
 exact(((LJ.out.setOther (.inr fun b hb=>BX) _ _).setOther (.inr fun b hb=>BX) _ _).setOther (.inr fun b hb=>BX) _ _)
end Go.Proofs.YtgmodehldmahiaaGreatDoor.Heap
end
section
namespace Go.Proofs.YtgmodehldmahiaaGreatDoor.aT
open Go Go.RowKit Go.Tm
theorem abu(v:Value)(l:List dz)(fr asK:Int)(w:World)(hv:Sl w true 26 v (rH l))(hby:l.length*168≤140737488355328):
  Calls Tryz.prog 153 #[v,.int .i64 fr,.int .i64 asK] w fun e w'=>∃v',e=.returned v'∧Sl w' true 26 v' (rH (nX l fr asK))∧(∀b,v'.ownBlock=some b→w.heap.size≤b)∧Below w.heap.size w w':=by
 have HV:=ah hv
 have af7:l.length≤9223372036854775807:=by obtain⟨a,cap,rfl,hl⟩:=hv.shape;rw[jC] at hl;exact hl
 clear hv
 go_enter Tryz.func153,Tryz.ntmps153
 go_wp2_with fail
 with_reducible refine(CJ v (rH l) _ HV.out (by rw[jC];exact hby)).mono ?_
 rintro e w1 ⟨v1,rfl,zG,hb1⟩
 have hz1:=hb1.size
 obtain⟨a,cap,rfl,_⟩:=zG.sl.shape
 have Hu:=ah zG
 rw[jC] at Hu⊢
 have HZ:=ah (Ub l fr asK)
 clear zG
 go_wp2_with fail
 go_loopw [12] (fun t W=>∃i:Nat,i≤l.length∧t=.int .i64 i∧Below w.heap.size w W∧bI W w.heap.size 126 true 26 (.slice a l.length cap) (rH (pX l fr asK i))) (fun t _=>l.length-(intOf t).toNat)
 case atStart=>exact⟨0,Nat.zero_le _,rfl,hb1,by rw[Qo];exact Hu.out⟩
 case round=>
  obtain⟨i,hi,rfl,bZ,hown⟩:=hrel
  have Bj:=bZ.size
  have hwr:IntKind.i64.wrap ((i:Int)+1)=i+1:=IntWalk.i64_in _ aj
  have HO:=ah hown
  by_cases hlt:i<l.length
  ·obtain⟨x,hx⟩:∃x,l[i]?=some x:=⟨_,List.getElem?_eq_getElem hlt⟩
   have HX:=ah (H9 (Xr (a:=fr) (b:=asK) hx))
   have HST:=ah (Qp (a:=fr) (b:=asK) hx)
   obtain⟨g,cap',he,hlc,hcm,hbg,qI,Hr,qZ⟩:=hown.form (by rw[jC,Ua];omega)
   simp only[Value.slice.injEq] at he
   obtain⟨rfl,-,rfl⟩:=he
   have c1:wr.cell? ⟨g,i*26+1,none⟩=some (.int .i64 x.par):=qZ i _ HX.out 1 _ ahS
   clear hx qZ hown
   by_cases hp:x.par=fr
   ·have hpb:(x.par==fr)=true:=by simpa using hp
    have HA:=ah (show vw fr asK x={x with par:=asK} by unfold vw;rw[if_pos hp])
    clear hp
    go_wp2_with fail
    go_roundw
    case rel=>
     have BN:=HO.out.DW (j:=1) (u:= .int .i64 asK) HX.out aC rfl
     refine⟨i+1,aj,dn,bZ.setCell (p:=⟨g,i*26+1,none⟩) hbg _,?_⟩
     have h:=BN.1
     rw[agX,PS] at h
     rw[HST.out,HA.out]
     exact h
    case measure=>simp[intOf];omega
   ·have hpb:(x.par==fr)=false:=by simpa using hp
    have HA:=ah (show vw fr asK x=x by unfold vw;rw[if_neg hp])
    clear hp
    go_wp2_with fail
    go_roundw
    case rel=>
     refine⟨i+1,aj,dn,bZ,?_⟩
     rw[HST.out,HA.out,←PS,set_self HX.out]
     exact HO.out
    case measure=>simp[intOf];omega
  ·obtain rfl:i=l.length:=by omega
   rw[HZ.out] at HO
   clear hown
   go_wp2_with fail
   go_ret
   exact⟨_,rfl,HO.out.sl,fun b hb=>HO.out.iy b hb,bZ⟩
end Go.Proofs.YtgmodehldmahiaaGreatDoor.aT
end
section
namespace Go.Tm
open Go Go.RowKit
section
variable {P:Program} {w:World} {ops:Array Oper} {S:World→Prop} {k:Nat}
theorem eF{o:Oper}{a:Act}{K:Act→World→Prop}{Q:Exit→Act→World→Prop}(E:TypeId)(ho:o.op=.alloc E){z:Value}(hz:(P.info? E).map (·.zero)=some (some z))(cs:Array Value)(hc:z.cells=cs)
  (h:K (a.put o.dst (.pointer (some ⟨w.heap.size,0,none⟩))) (w.alloc (.cells cs E))):o.wp P a w K Q:=by
 subst hc
 obtain⟨i,hi,hz'⟩:=Option.map_eq_some_iff.1 hz
 unfold Oper.wp
 simp[execOp,ho,Instr.alloc,zeroValue,typeInfo,hi,hz']
 exact h
theorem jh{o:Oper}{a:Act}(E:TypeId)(p:Operand)(ho:o.op=.load E p){b off:Nat}(cs:Array Value)(ht:Ty P E k true)(hx:Val true k (.agg cs))
  (hw:Region.wanted o (yielded ops a.tmps)=true)(hp:a.eval p=.pointer (some ⟨b,off,none⟩))(hS:∀w,S w→Cells w b off cs.toList):YieldsIf P ops S o (.agg cs) a:=
 Or.inl ⟨hw,fun w hs=>by
  unfold execOp
  simp only[ho,hp,Instr.loadAt,Instr.sureAddr,Sem.run_bind,Sem.run_pure,Result.andThen_ok,iF ht hx (show Cells w b off (Value.agg cs).cells.toList from hS w hs)]⟩
end
structure Joined{α:Type}(F:α→World→Prop)(G:α→Act)(a':Act)(w':World):Prop where
 ex:∃x,F x w'∧a'=G x
theorem Joined.of{α:Type}{F:α→World→Prop}{G:α→Act}{a':Act}{w':World}(x:α)(h:F x w')(e:a'=G x):Joined F G a' w':=⟨x,h,e⟩
theorem Hy{P:Program}{c:Code}{Q:Exit→Act→World→Prop}{a:Act}{w:World}{α:Type}(F:α→World→Prop)(G:α→Act)(h:c.wp P (fun e a' w'=>e=.normal∧Joined F G a' w') a w)(hM:∀x W,F x W→Q .normal (G x) W):c.wp P Q a w:=
 Code.wp_mono (fun e a w h=>by obtain⟨rfl,x,h1,rfl⟩:=h;exact hM x w h1) h
structure yK{α β:Type}(F:α→β→World→Prop)(G:α→β→Act)(a':Act)(w':World):Prop where
 ex:∃x y,F x y w'∧a'=G x y
theorem yK.of{α β:Type}{F:α→β→World→Prop}{G:α→β→Act}{a':Act}{w':World}(x:α)(y:β)(h:F x y w')(e:a'=G x y):yK F G a' w':=⟨x,y,h,e⟩
theorem RO{P:Program}{c:Code}{Q:Exit→Act→World→Prop}{a:Act}{w:World}{α β:Type}(F:α→β→World→Prop)(G:α→β→Act)(h:c.wp P (fun e a' w'=>e=.normal∧yK F G a' w') a w)(hM:∀x y W,F x y W→Q .normal (G x y) W):c.wp P Q a w:=
 Code.wp_mono (fun e a w h=>by obtain⟨rfl,x,y,h1,rfl⟩:=h;exact hM x y w h1) h
theorem bI.Dx{w w':World}{base:Nat}{E:TypeId}{ag:Bool}{k:Nat}{v:Value}{xs:List Value}{b:Nat}(h:bI w base E ag k v xs)(hg:w.grownBy w' (some b))(hb:b<base):bI w' base E ag k v xs:=
 ⟨h.row.kept hg (by
  cases ho:v.ownBlock with
  |none=>exact .inl rfl
  |some c=>right;intro he;have:=h.iy c ho;cases he;omega),h.val⟩
theorem nu{w w1 w2:World}{row:Option Nat}{g:Nat}(h:w.grownBy w1 row)(h':w1.grownBy w2 (some g))(hg:w.heap.size≤g):w.grownBy w2 row:=
 ⟨h'.os.trans h.os,h'.tape.trans h.tape,h'.output.trans h.output,Nat.le_trans h.size h'.size,fun i hi hne=>(h'.block i (Nat.lt_of_lt_of_le hi h.size) (by intro he;cases he;omega)).trans (h.block i hi hne)⟩
structure EI(w w':World)(p t:Nat):Prop where
 size:w.heap.size≤w'.heap.size
 block:∀c,c<w.heap.size→c≠p→c≠t→w'.heap[c]?=w.heap[c]?
theorem EI.refl(w:World)(p t:Nat):EI w w p t:=⟨Nat.le_refl _,fun _ _ _ _=>rfl⟩
theorem EI.aoO{w w':World}{p t:Nat}(h:EI w w' p t)(o:Nat)(v:Value):EI w (w'.setCell ⟨p,o,none⟩ v) p t:=
 ⟨by simpa using h.size,fun c hc h1 h2=>(heap_setCell_other w' ⟨p,o,none⟩ c v h1).trans (h.block c hc h1 h2)⟩
theorem EI.aoN{w w':World}{p t:Nat}(h:EI w w' p t)(o:Nat)(v:Value):EI w (w'.setCell ⟨t,o,none⟩ v) p t:=
 ⟨by simpa using h.size,fun c hc h1 h2=>(heap_setCell_other w' ⟨t,o,none⟩ c v h2).trans (h.block c hc h1 h2)⟩
theorem Sl.ari{w w':World}{p t:Nat}{ag:Bool}{k:Nat}{v:Value}{xs:List Value}(h:Sl w ag k v xs)(hb:EI w w' p t)(h1:Apart p v xs)(h2:Apart t v xs):Sl w' ag k v xs:=by
 obtain⟨hv,a,cap,rfl,e1,e2,e3⟩:=h
 refine⟨hv,a,cap,rfl,e1,e2,?_⟩
 rcases e3 with rfl|⟨b,off,rfl,hlt,hc⟩
 ·exact .inl rfl
 ·rcases h1 with rfl|h1
  ·exact .inl rfl
  ·rcases h2 with rfl|h2
   ·exact .inl rfl
   ·refine .inr ⟨b,off,rfl,Nat.lt_of_lt_of_le hlt hb.size,fun i x hx j u' hu=>?_⟩
    rw[World.cell?_of_block (w:=w) (a:=⟨b,off+i*k+j,none⟩) (hb.block b hlt (h1 b rfl) (h2 b rfl))]
    exact hc i x hx j u' hu
section
variable {P:Program} {ops:Array Oper} {Q:Exit→Act→World→Prop} {md:Region.Mode} {S:World→Prop} {E:Nat→Bool}
theorem P9(i j l:Nat){oi oj ol:Oper}{f:Nat}{ls:Array Bool}{a:Act}{w:World}(hi:ops[i]?=some oi)(hj:ops[j]?=some oj)(hl:ops[l]?=some ol)(hr:decide (Region.ready md ops ls=[i,j,l])=true)(hg:oi.guard=none)(hg':oj.guard=none)(aqi:ol.guard=none)
  (h:∀K:Act→World→Prop,Hid (∀a' w',(E i=true→S w')→wpAnyS P md ops Q S E f (ls.setIfInBounds i true) a' w'→K a' w')→oi.wp P a w K Q)
  (h':∀K:Act→World→Prop,Hid (∀a' w',(E j=true→S w')→wpAnyS P md ops Q S E f (ls.setIfInBounds j true) a' w'→K a' w')→oj.wp P a w K Q)
  (h'':∀K:Act→World→Prop,Hid (∀a' w',(E l=true→S w')→wpAnyS P md ops Q S E f (ls.setIfInBounds l true) a' w'→K a' w')→ol.wp P a w K Q):wpAnyS P md ops Q S E (f+1) ls a w:=by
 have hr:=of_decide_eq_true hr
 refine⟨fun h0=>Ve,fun m hm=>?_⟩
 rw[hr] at hm
 simp only[List.mem_cons,List.not_mem_nil,or_false] at hm
 rcases hm with rfl|rfl|rfl
 ·exact aip
 ·exact aiq
 ·unfold wpOp
  simp only[hl]
  rw[if_pos (by unfold Region.wanted;rw[aqi])]
  exact .inl (h'' _ (ah fun _ _ h1 h2=>⟨h1,h2⟩))
end
theorem jD{P:Program}{w:World}{o:Oper}{a:Act}{K:Act→World→Prop}{Q:Exit→Act→World→Prop}(E:TypeId)(ho:o.op=.alloc E){z:Value}(hz:(P.info? E).map (·.zero)=some (some z))(cs:Array Value)(hc:z.cells=cs)
  (h:∀q w',aD w' q cs E→Below w.heap.size w w'→w.heap.size≤q→q<w'.heap.size→K (a.put o.dst (.pointer (some ⟨q,0,none⟩))) w'):o.wp P a w K Q:=
 eF E ho hz cs hc (h _ _ (aD.new w cs E) ((Below.refl _ _).alloc (Nat.le_refl _) _) (Nat.le_refl _) aI)
end Go.Tm
end
section
namespace Go.Tm
open Go Go.RowKit
section
variable {P:Program}
structure At(e0:Exit)(a':Act)(w':World)(e:Exit)(a:Act)(w:World):Prop where
 ex:e=e0
 ac:a=a'
 wo:w=w'
structure U4(R:Exit→Act→World→Prop)(e:Exit)(a:Act)(w:World):Prop where
 how:e=.exit 0∨e=.ret
 is:R e a w
theorem cO{id:Nat}{c d:Code}{R:Exit→Act→World→Prop}{a:Act}{w:World}(hid:id≠0)(h:c.wp P (U4 R) a w):((Code.block id c).seq d).wp P (U4 R) a w:=by
 refine wp_seq (wp_block (Code.wp_mono (fun e a w h=>?_) h))
 exact adI
theorem fV{id n:Nat}{c d:Code}{a':Act}{w':World}{a:Act}{w:World}(hid:(n==id)=false)(h:c.wp P (At (.exit n) a' w') a w):((Code.block id c).seq d).wp P (At (.exit n) a' w') a w:=by
 refine wp_seq (wp_block (Code.wp_mono (fun e a w h=>?_) h))
 exact aio
theorem cZ{id:Nat}{c d:Code}{R:Exit→Act→World→Prop}{a':Act}{w':World}{a:Act}{w:World}(h:c.wp P (At (.exit id) a' w') a w)(hd:d.wp P R a' w'):((Code.block id c).seq d).wp P R a w:=by
 refine wp_seq (wp_block (Code.wp_mono (fun e a w h=>?_) h))
 obtain⟨rfl,rfl,rfl⟩:=h
 simp only[Exit.inBlock,if_true]
 exact hd
theorem rX{id:Nat}{c d:Code}{R:Exit→Act→World→Prop}{a':Act}{w':World}{a:Act}{w:World}(h:c.wp P (At .normal a' w') a w)(hd:d.wp P R a' w'):((Code.block id c).seq d).wp P R a w:=by
 refine wp_seq (wp_block (Code.wp_mono (fun e a w h=>?_) h))
 obtain⟨rfl,rfl,rfl⟩:=h
 exact hd
theorem uE{id:Nat}{c:Code}{R:Exit→Act→World→Prop}{a:Act}{w:World}(hid:id≠0)(h:c.wp P (U4 R) a w):(Code.block id c).wp P (U4 R) a w:=by
 refine wp_block (Code.wp_mono (fun e a w h=>?_) h)
 exact adI
theorem Kq{id n:Nat}{c:Code}{a':Act}{w':World}{a:Act}{w:World}(hid:(n==id)=false)(h:c.wp P (At (.exit n) a' w') a w):(Code.block id c).wp P (At (.exit n) a' w') a w:=by
 refine wp_block (Code.wp_mono (fun e a w h=>?_) h)
 exact aio
theorem aax{id:Nat}{c:Code}{a':Act}{w':World}{a:Act}{w:World}(h:c.wp P (At (.exit id) a' w') a w):(Code.block id c).wp P (At .normal a' w') a w:=by
 refine wp_block (Code.wp_mono (fun e a w h=>?_) h)
 obtain⟨rfl,rfl,rfl⟩:=h
 simp only[Exit.inBlock,if_true]
 exact⟨rfl,rfl,rfl⟩
theorem bU{c:Code}{Q:Exit→Act→World→Prop}{a:Act}{w:World}(h:c.wp P (U4 (Exit.inBlock 0 Q)) a w):(Code.block 0 c).wp P Q a w:=
 wp_block (Code.wp_mono (fun e a w h=>h.is) h)
theorem eu{Q:Exit→Act→World→Prop}{a:Act}{w:World}(h:Q .normal a w):U4 (Exit.inBlock 0 Q) (.exit 0) a w:=⟨.inl rfl,by simp only[Exit.inBlock,if_true];exact h⟩
theorem Aa{Q:Exit→Act→World→Prop}{a:Act}{w:World}(h:Q .ret a w):U4 (Exit.inBlock 0 Q) .ret a w:=⟨.inr rfl,h⟩
theorem jH{fn:Func}{R:Ending→World→Prop}{a:Act}{W:World}{E t:TypeId}{k b:Nat}{p:Tmp}{cs:Array Value}(h:fn.results=#[.cell p E])(hT:Ty P E k true)(hx:Val true k (.agg cs))(hp:a.tmps.getD p undef=.pointer (some ⟨b,0,none⟩))(hb:aD W b cs t)(hd:a.defers=[])
  (hR:R (.returned (.agg cs)) W):bodyPost P fn R .ret a W:=by
 refine bodyPost_ret (v:= .agg cs) ?_ hd hR
 have hp':a.tmps[p]?.getD undef=.pointer (some ⟨b,0,none⟩):=Ja
 simp[results,h,hp',asAddr,iF hT hx hb.cells]
end
end Go.Tm
end
