/- Part 1 of 53 of the proof of topAlone_and_topApart. Conditions: see each. -/
import Derived.Test.YtgmodehldmahiaaGreatDoorChecked
import Derived.WalkKit
import Derived.Laws.StructEq
import Derived.DeepKeys
import Derived.Deep.QuietTactic
import Derived.BigQuiet
import Derived.Below
import Derived.Lib.Hide
import Derived.WalkSmall
import Derived.ProofKit
import Derived.OpenShut
import Derived.ShutString
import Derived.ChangeOld
import Derived.HandedShaped
import Derived.SizedLaws
import Derived.LoopTactic
import Derived.Carry
import Derived.Laws.OwnMore
import Derived.Lib.QuietBelow
import Derived.Great.BuildSlice
import Derived.Lib.AppendZeros
import Derived.Lib.Overlaps
import Derived.Deep.Quiet
import Derived.Laws.ResultCell
import Derived.OwnWalkIn
import Derived.TacticsInMore
import Derived.Deep.RegionHeld3
import Derived.ArgAppend
import Derived.Laws.MakeOwn
import Derived.StillTail
import Derived.RangeFuncCalls
import Derived.OrdersIn
import Derived.OrdersHeld
import Derived.RegionTactic
import Derived.BigRegion
import Derived.RangeFuncOwn
import Derived.ControlIn
import Derived.RangeFuncNested
import Derived.RangeFuncBound
import Derived.RangeFuncLeaves
import Derived.Shelf.Abstract
import Derived.LoopNIn
import Derived.LoopIn
import Derived.Maps.AppendAt
import Derived.Maps.OwnIn
import Derived.Scope
import Derived.Outline
import Derived.Deep.CutBlock
import Derived.Shelf.RegionOpen
import Derived.Deep.DeepHandedRow
import Derived.Lib.LaidTab
set_option linter.unusedVariables false
set_option linter.unusedSimpArgs false
set_option maxRecDepth 8192
set_option maxHeartbeats 40000000
theorem ah{p:Prop}(h:p):Go.RowKit.Hid p:=h
theorem bl{P:Prop}(h:P:=by(repeat(first|with_reducible assumption|with_reducible exact Below.refl _ _|with_reducible refine Below.setCell ?_ ?_ _|with_reducible refine Below.alloc ?_ ?_ _|with_reducible refine below_drewN' ?_ _|with_reducible refine Below.drew ?_|with_reducible refine Below.trans ?_ (Below.mono (by assumption) ?_)|omega|(dsimp only;omega)|(simp only[bQ,eG,World.size_alloc,World.size_setCell];omega)|(solve|simp)|(solve|(simp;omega))))):P:=h
theorem bx{P:Prop}(h:P:=by((apply aD.cast);(repeat(first|with_reducible assumption|((with_reducible apply aD.p9);(first|with_reducible rfl|rfl|(solve|simp)))|with_reducible apply aD.drewN|with_reducible apply aD.drew|with_reducible apply aD.set|with_reducible apply aD.other|with_reducible apply aD.alloc|(with_reducible apply aD.below;rotate_left;with_reducible assumption;rotate_right)|with_reducible rfl|omega|(dsimp only;omega)|(simp only[bQ,eG,World.size_alloc,World.size_setCell];omega)|rfl|(solve|simp)|(solve|(simp;omega)))))):P:=h
theorem amk{P:Prop}(h:P:=by
 go_wp2_with fail
 have mq:Below W.heap.size W w7:=bZ.trans (pE.mono bZ.size)
 have R1:=ah (H1.out.below mq H1.out.lt)
 have R2:=ah (H2.out.below mq H2.out.lt)
 have R3:=ah (H3.out.below mq H3.out.lt)
 have R4:=ah (H4.out.below mq H4.out.lt)
 have HV7:=ah (HV.out.below (HBW.out.trans (mq.mono HBW.out.size)))
 obtain⟨c1,f1,Qq,n1,m1⟩:=R1.out.rules
 obtain⟨c2,f2,l2',n2,m2⟩:=R2.out.rules
 obtain⟨c4,f4,l4',n4,m4⟩:=R4.out.rules
 have FQ:SK w7 w.heap.size (w.heap.size+1) w1.heap.size n p w7:=SK.of ⟨c2 0,c4 0⟩ Qq (Below.refl _ _)
 refine wp_region_noPanic ?_
 refine wp_region_held_drew (S:=(fun W'=>W'.cell? ⟨w.heap.size+1,0,none⟩=some (.int .i64 n)∧W'.cell? ⟨w1.heap.size,0,none⟩=some (.int .i64 p)∧∃X,Below w7.heap.size w7 X∧(W'=X∨∃u,W'=X.setCell ⟨w.heap.size,1,none⟩ u))) ay (SK.of ⟨c2 0,c4 0⟩ Qq aG) (fun hHeld=>?_)
 ((refine wpAnyH_take (i:=0) (oi:=⟨some 49,_,_,_,_,_⟩) (v:=?_) rfl ay ay ay (fun _ _ _ h=>h) (Or.inl ⟨aF,?_⟩) bq ?_);rotate_left;(focus(intro w hSw;(try dsimp only at hSw);go_simp;(try with_reducible rfl)));(try simp only[pt]))
 ((refine wpAnyH_take (i:=3) (oi:=⟨some 52,_,_,_,_,_⟩) (v:=?_) rfl ay ay ay (fun _ _ _ h=>h) (Or.inl ⟨aF,?_⟩) bq ?_);rotate_left;(focus(intro w hSw;(try dsimp only at hSw);go_simp;(try with_reducible rfl)));(try simp only[pt]))
 ((refine wpAnyH_take (i:=4) (oi:=⟨some 53,_,_,_,_,_⟩) (v:=?_) rfl ay ay ay (fun _ _ _ h=>h) (Or.inl ⟨aF,?_⟩) bq ?_);rotate_left;(focus(intro w hSw;(try dsimp only at hSw);go_simp;(try with_reducible rfl)));(try simp only[pt]))
 ((refine wpAnyH_take (i:=5) (oi:=⟨some 54,_,_,_,_,_⟩) (v:=?_) rfl ay ay ay (fun _ _ _ h=>h) (Or.inl ⟨aF,?_⟩) bq ?_);rotate_left;(focus(intro w hSw;(try dsimp only at hSw);go_simp;(try with_reducible rfl)));(try simp only[pt]))
 ((refine wpAnyH_take (i:=6) (oi:=⟨some 55,_,_,_,_,_⟩) (v:=?_) rfl ay ay ay (fun _ _ _ h=>h) (Or.inl ⟨aF,?_⟩) bq ?_);rotate_left;(focus(intro w hSw;(try dsimp only at hSw);go_simp;(try with_reducible rfl)));(try simp only[pt]))
 ((refine wpAnyH_take (i:=7) (oi:=⟨some 56,_,_,_,_,_⟩) (v:=?_) rfl ay ay ay (fun _ _ _ h=>h) (Or.inl ⟨aF,?_⟩) bq ?_);rotate_left;(focus(intro w hSw;(try dsimp only at hSw);go_simp;(try with_reducible rfl)));(try simp only[pt]))
 refine wpAnyH_ready (rs:=[1,8]) ay aI ?_
 refine AllReadyH.cons (o:=⟨some 50,_,_,_,_,_⟩) rfl (fun K hK=>?_) (AllReadyH.cons (o:=⟨some 57,_,_,_,_,_⟩) rfl (fun K hK=>?_) AllReadyH.nil)
 ·go_simp
  refine hK.out _ _ (SK.of ⟨c2 0,c4 0⟩ Qq aG) (fun hHeld=>?_)
  clear hK K
  (try simp only[pt])
  refine wpAnyH_ready (rs:=[2,8]) ay aI ?_
  refine AllReadyH.cons (o:=⟨some 51,_,_,_,_,_⟩) rfl (fun K hK=>?_) (AllReadyH.cons (o:=⟨some 57,_,_,_,_,_⟩) rfl (fun K hK=>?_) AllReadyH.nil)
  ·go_simp
   with_reducible refine(yM _ (pW l) _ (HV7.out.below aG) Vo).mono ?_
   rintro en w8 ⟨v8,rfl,AY,ku⟩
   have Uu:=ku.size
   (try simp only[bQ,eG,World.size_alloc] at Uu)
   have Q7:Below w7.heap.size w7 w8:=aG
   have Ba:=ah AY
   clear AY
   dsimp only
   refine hK.out _ _ (SK.of ⟨c2 0,c4 0⟩ Qq Q7) (fun hHeld=>?_)
   clear hK K
   (try simp only[pt])
   refine wpAnyH_ready (rs:=[8]) ay aI ?_
   refine AllReadyH.cons (o:=⟨some 57,_,_,_,_,_⟩) rfl (fun K hK=>?_) AllReadyH.nil
   go_simp
   refine hK.out _ _ (SK.of ⟨c2 0,c4 0⟩ Qq aG) (fun hHeld=>?_)
   clear hK K
   (try simp only[pt])
   refine wpAnyH_ready (rs:=[9]) ay aI ?_
   refine AllReadyH.cons (o:=⟨some 58,_,_,_,_,_⟩) rfl (fun K hK=>?_) AllReadyH.nil
   go_simp
   have Ga:Below w7.heap.size w7 (w8.alloc (.cells #[.int .i64 p,.int .i64 n,.int .i64 who] 164)):=aG
   with_reducible refine(Af v8 (pW l) l1.length (LB (p,n,who)) w8.heap.size _ w7.heap.size ((Ba.out.le (base':=w7.heap.size) uM).kept ?_) ?_ (Jy (p,n,who)) ?_ ?_ ?_ ?_).mono ?_
   focus exact bl
   focus(rw[lI];omega)
   focus(rw[aeF];exact bx)
   focus(intro b hb;have h1:=Ba.out.iy b hb;have h2:=(Ba.out.row.lt b hb).2;(try simp only[bQ,eG,World.size_alloc] at h1 h2⊢);omega)
   focus(first|omega|(simp only[bQ,eG,World.size_alloc];omega))
   focus(rw[lI];exact HBY.out)
   rintro en w9 ⟨v9,rfl,BJ,nE⟩
   have oN:Below w7.heap.size w7 w9:=(((Ba.out.le (base':=w7.heap.size) uM).kept aG)).below nE Ga (Nat.le_refl _) uM
   rw[HZ1.out] at BJ
   obtain⟨a9,kE,rfl,_⟩:=BJ.sl.shape
   have GX:=ah BJ
   clear BJ nE
   dsimp only
   refine hK.out _ _ (SK.of ⟨c2 0,c4 0⟩ Qq oN) (fun hHeld=>?_)
   clear hK K
   (try simp only[pt])
   clear Ba ku Q7 Ga
   ((refine wpAnyH_take (i:=10) (oi:=⟨some 59,_,_,_,_,_⟩) (v:=?_) rfl ay ay ay (fun _ _ _ h=>h) (Or.inl ⟨aF,?_⟩) bq ?_);rotate_left;(focus(intro w hSw;(try dsimp only at hSw);go_simp;(try with_reducible rfl)));(try simp only[pt]))
   obtain⟨c9,f9,l9,n9,m9⟩:=(R1.out.below oN R1.out.lt).rules
   refine wpAnyH_ready (rs:=[11]) ay aI ?_
   refine AllReadyH.cons (o:=⟨none,_,_,_,_,_⟩) rfl (fun K hK=>?_) AllReadyH.nil
   go_simp
   refine hK.out _ _ (SK.set ⟨c2 0,c4 0⟩ aj aj l2' l4' _ oN) (fun hHeld=>?_)
   clear hK K c9 f9 l9 n9 m9
   refine wpAnyH_done ay (NoPanic.normal ?_) _
   have X1:aD (w9.setCell ⟨w.heap.size,1,none⟩ (.slice a9 zs.length kE)) w.heap.size #[.int .i64 size,.slice a9 zs.length kE] 51:=(R1.out.below oN R1.out.lt).set 1 _
   have X3:=(R3.out.below oN R3.out.lt).other ⟨w.heap.size,1,none⟩ (.slice a9 zs.length kE) VA
   have X4:=(R4.out.below oN R4.out.lt).other ⟨w.heap.size,1,none⟩ (.slice a9 zs.length kE) Vv
   have wO:=ah (GX.out.setOther (b:=w.heap.size) aj 1 (.slice a9 zs.length kE))
   have uK:Below w.heap.size w (w9.setCell ⟨w.heap.size,1,none⟩ (.slice a9 zs.length kE)):=((HBW.out.trans (mq.mono HBW.out.size)).trans (oN.mono aj)).setCell (p:=⟨w.heap.size,1,none⟩) (Nat.le_refl _) _
   have hDl:D<W.heap.size:=(Array.getElem?_eq_some_iff.1 HK.out).1
   have hzw:=mq.size
   have abU:(w9.setCell ⟨w.heap.size,1,none⟩ (.slice a9 zs.length kE)).heap[D]?=some (.deferred (some [])):=by
    rw[heap_setCell_other _ _ _ _ O5]
    exact(oN.block D aj).trans ((mq.block D aj).trans HK.out)
   generalize w9.setCell ⟨w.heap.size,1,none⟩ (.slice a9 zs.length kE)=zw at*
   obtain⟨c1x,f1x,l1x,n1x,m1x⟩:=X1.rules
   obtain⟨c3x,f3x,l3x,n3x,m3x⟩:=X3.rules
   obtain⟨c4x,f4x,l4x,n4x,m4x⟩:=X4.rules
   clear c1 f1 Qq n1 m1 c2 f2 l2' n2 m2 c4 f4 l4' n4 m4
   go_wp2_with fail
   go_region
   all_goals
    go_wp2_with fail
    refine noGoto_ret ?_
    have BN:aD (((zw.setCell ⟨w.heap.size+1+1,0,none⟩ (.int .i64 size)).setCell ⟨w.heap.size+1+1,1,none⟩ (.slice a9 zs.length kE)).drew) (w.heap.size+1+1) #[.int .i64 size,.slice a9 zs.length kE] 51:=((X3.set 0 (.int .i64 size)).set 1 (.slice a9 zs.length kE)).drew
    have Bl:(((zw.setCell ⟨w.heap.size+1+1,0,none⟩ (.int .i64 size)).setCell ⟨w.heap.size+1+1,1,none⟩ (.slice a9 zs.length kE)).drew).heap[D]?=some (.deferred (some [])):=by
     rw[bQ,heap_setCell_other _ _ _ _ wT,heap_setCell_other _ _ _ _ wT];exact abU
    have xR:Below w.heap.size w (((zw.setCell ⟨w.heap.size+1+1,0,none⟩ (.int .i64 size)).setCell ⟨w.heap.size+1+1,1,none⟩ (.slice a9 zs.length kE)).drew):=
     ((uK.setCell (p:=⟨w.heap.size+1+1,0,none⟩) uT _).setCell (p:=⟨w.heap.size+1+1,1,none⟩) uT _).drew
    have uJ:=xR.trans (belowK_b (w:=w2) U7.out.size _ D _ (Obj.deferred none) hD Bl rfl rfl)
    refine⟨aI,.inl ⟨_,_,rfl,run_takeDeferred Bl,?_⟩⟩
    have b1:=((Own.from (gN (β:=Unit) _ 51 (fun _=>_)) w2.heap.size).putObj (s:=()) (Obj.deferred none) BN hD Bl rfl).rules.1
    have b10:=b1 0
    have b11:=b1 1
    refine⟨.tuple #[.agg #[.int .i64 size,.slice a9 zs.length kE],.int .i64 p,.int .i64 0],Pn,_,by rw[Hw.out],?_,wO.out.res aj,uJ⟩
    rw[←HZ2.out]
    have ho:=(((wO.out.setOther (b:=w.heap.size+1+1) aj 0 (.int .i64 size)).setOther (b:=w.heap.size+1+1) aj 1 (.slice a9 zs.length kE)).kept (Below.refl _ _).drew)
    exact bI.sl ⟨ownsRow_putObj ho.1 _ Bl rfl,ho.2⟩
  ·go_simp
   refine hK.out _ _ (SK.of ⟨c2 0,c4 0⟩ Qq aG) (fun hHeld=>?_)
   clear hK K
   (try simp only[pt])
   refine wpAnyH_ready (rs:=[2]) ay aI ?_
   refine AllReadyH.cons (o:=⟨some 51,_,_,_,_,_⟩) rfl (fun K hK=>?_) AllReadyH.nil
   go_simp
   with_reducible refine(yM _ (pW l) _ (HV7.out.below aG) Vo).mono ?_
   rintro en w8 ⟨v8,rfl,AY,ku⟩
   have Uu:=ku.size
   (try simp only[bQ,eG,World.size_alloc] at Uu)
   have Q7:Below w7.heap.size w7 w8:=aG
   have Ba:=ah AY
   clear AY
   dsimp only
   refine hK.out _ _ (SK.of ⟨c2 0,c4 0⟩ Qq Q7) (fun hHeld=>?_)
   clear hK K
   (try simp only[pt])
   refine wpAnyH_ready (rs:=[9]) ay aI ?_
   refine AllReadyH.cons (o:=⟨some 58,_,_,_,_,_⟩) rfl (fun K hK=>?_) AllReadyH.nil
   go_simp
   have Ga:Below w7.heap.size w7 w8:=aG
   with_reducible refine(Af v8 (pW l) l1.length (LB (p,n,who)) w7.heap.size w8 w7.heap.size ((Ba.out.le (base':=w7.heap.size) uM).kept ?_) ?_ (Jy (p,n,who)) ?_ ?_ ?_ ?_).mono ?_
   focus exact bl
   focus(rw[lI];omega)
   focus exact(aD.new w7.drew #[.int .i64 p,.int .i64 n,.int .i64 who] 164).below ku OU
   focus(intro b hb;have h1:=Ba.out.iy b hb;have h2:=(Ba.out.row.lt b hb).2;(try simp only[bQ,eG,World.size_alloc] at h1 h2⊢);omega)
   focus(first|omega|(simp only[bQ,eG,World.size_alloc];omega))
   focus(rw[lI];exact HBY.out)
   rintro en w9 ⟨v9,rfl,BJ,nE⟩
   have oN:Below w7.heap.size w7 w9:=(((Ba.out.le (base':=w7.heap.size) uM).kept aG)).below nE Ga (Nat.le_refl _) uM
   rw[HZ1.out] at BJ
   obtain⟨a9,kE,rfl,_⟩:=BJ.sl.shape
   have GX:=ah BJ
   clear BJ nE
   dsimp only
   refine hK.out _ _ (SK.of ⟨c2 0,c4 0⟩ Qq oN) (fun hHeld=>?_)
   clear hK K
   (try simp only[pt])
   clear Ba ku Q7 Ga
   ((refine wpAnyH_take (i:=10) (oi:=⟨some 59,_,_,_,_,_⟩) (v:=?_) rfl ay ay ay (fun _ _ _ h=>h) (Or.inl ⟨aF,?_⟩) bq ?_);rotate_left;(focus(intro w hSw;(try dsimp only at hSw);go_simp;(try with_reducible rfl)));(try simp only[pt]))
   obtain⟨c9,f9,l9,n9,m9⟩:=(R1.out.below oN R1.out.lt).rules
   refine wpAnyH_ready (rs:=[11]) ay aI ?_
   refine AllReadyH.cons (o:=⟨none,_,_,_,_,_⟩) rfl (fun K hK=>?_) AllReadyH.nil
   go_simp
   refine hK.out _ _ (SK.set ⟨c2 0,c4 0⟩ aj aj l2' l4' _ oN) (fun hHeld=>?_)
   clear hK K c9 f9 l9 n9 m9
   refine wpAnyH_done ay (NoPanic.normal ?_) _
   have X1:aD (w9.setCell ⟨w.heap.size,1,none⟩ (.slice a9 zs.length kE)) w.heap.size #[.int .i64 size,.slice a9 zs.length kE] 51:=(R1.out.below oN R1.out.lt).set 1 _
   have X3:=(R3.out.below oN R3.out.lt).other ⟨w.heap.size,1,none⟩ (.slice a9 zs.length kE) VA
   have X4:=(R4.out.below oN R4.out.lt).other ⟨w.heap.size,1,none⟩ (.slice a9 zs.length kE) Vv
   have wO:=ah (GX.out.setOther (b:=w.heap.size) aj 1 (.slice a9 zs.length kE))
   have uK:Below w.heap.size w (w9.setCell ⟨w.heap.size,1,none⟩ (.slice a9 zs.length kE)):=((HBW.out.trans (mq.mono HBW.out.size)).trans (oN.mono aj)).setCell (p:=⟨w.heap.size,1,none⟩) (Nat.le_refl _) _
   have hDl:D<W.heap.size:=(Array.getElem?_eq_some_iff.1 HK.out).1
   have hzw:=mq.size
   have abU:(w9.setCell ⟨w.heap.size,1,none⟩ (.slice a9 zs.length kE)).heap[D]?=some (.deferred (some [])):=by
    rw[heap_setCell_other _ _ _ _ O5]
    exact(oN.block D aj).trans ((mq.block D aj).trans HK.out)
   generalize w9.setCell ⟨w.heap.size,1,none⟩ (.slice a9 zs.length kE)=zw at*
   obtain⟨c1x,f1x,l1x,n1x,m1x⟩:=X1.rules
   obtain⟨c3x,f3x,l3x,n3x,m3x⟩:=X3.rules
   obtain⟨c4x,f4x,l4x,n4x,m4x⟩:=X4.rules
   clear c1 f1 Qq n1 m1 c2 f2 l2' n2 m2 c4 f4 l4' n4 m4
   go_wp2_with fail
   go_region
   all_goals
    go_wp2_with fail
    refine noGoto_ret ?_
    have BN:aD (((zw.setCell ⟨w.heap.size+1+1,0,none⟩ (.int .i64 size)).setCell ⟨w.heap.size+1+1,1,none⟩ (.slice a9 zs.length kE)).drew) (w.heap.size+1+1) #[.int .i64 size,.slice a9 zs.length kE] 51:=((X3.set 0 (.int .i64 size)).set 1 (.slice a9 zs.length kE)).drew
    have Bl:(((zw.setCell ⟨w.heap.size+1+1,0,none⟩ (.int .i64 size)).setCell ⟨w.heap.size+1+1,1,none⟩ (.slice a9 zs.length kE)).drew).heap[D]?=some (.deferred (some [])):=by
     rw[bQ,heap_setCell_other _ _ _ _ wT,heap_setCell_other _ _ _ _ wT];exact abU
    have xR:Below w.heap.size w (((zw.setCell ⟨w.heap.size+1+1,0,none⟩ (.int .i64 size)).setCell ⟨w.heap.size+1+1,1,none⟩ (.slice a9 zs.length kE)).drew):=
     ((uK.setCell (p:=⟨w.heap.size+1+1,0,none⟩) uT _).setCell (p:=⟨w.heap.size+1+1,1,none⟩) uT _).drew
    have uJ:=xR.trans (belowK_b (w:=w2) U7.out.size _ D _ (Obj.deferred none) hD Bl rfl rfl)
    refine⟨aI,.inl ⟨_,_,rfl,run_takeDeferred Bl,?_⟩⟩
    have b1:=((Own.from (gN (β:=Unit) _ 51 (fun _=>_)) w2.heap.size).putObj (s:=()) (Obj.deferred none) BN hD Bl rfl).rules.1
    have b10:=b1 0
    have b11:=b1 1
    refine⟨.tuple #[.agg #[.int .i64 size,.slice a9 zs.length kE],.int .i64 p,.int .i64 0],Pn,_,by rw[Hw.out],?_,wO.out.res aj,uJ⟩
    rw[←HZ2.out]
    have ho:=(((wO.out.setOther (b:=w.heap.size+1+1) aj 0 (.int .i64 size)).setOther (b:=w.heap.size+1+1) aj 1 (.slice a9 zs.length kE)).kept (Below.refl _ _).drew)
    exact bI.sl ⟨ownsRow_putObj ho.1 _ Bl rfl,ho.2⟩
 ·go_simp
  refine hK.out _ _ (SK.of ⟨c2 0,c4 0⟩ Qq aG) (fun hHeld=>?_)
  clear hK K
  (try simp only[pt])
  refine wpAnyH_ready (rs:=[1]) ay aI ?_
  refine AllReadyH.cons (o:=⟨some 50,_,_,_,_,_⟩) rfl (fun K hK=>?_) AllReadyH.nil
  go_simp
  refine hK.out _ _ (SK.of ⟨c2 0,c4 0⟩ Qq aG) (fun hHeld=>?_)
  clear hK K
  (try simp only[pt])
  refine wpAnyH_ready (rs:=[2]) ay aI ?_
  refine AllReadyH.cons (o:=⟨some 51,_,_,_,_,_⟩) rfl (fun K hK=>?_) AllReadyH.nil
  go_simp
  with_reducible refine(yM _ (pW l) _ (HV7.out.below aG) Vo).mono ?_
  rintro en w8 ⟨v8,rfl,AY,ku⟩
  have Uu:=ku.size
  (try simp only[bQ,eG,World.size_alloc] at Uu)
  have Q7:Below w7.heap.size w7 w8:=aG
  have Ba:=ah AY
  clear AY
  dsimp only
  refine hK.out _ _ (SK.of ⟨c2 0,c4 0⟩ Qq Q7) (fun hHeld=>?_)
  clear hK K
  (try simp only[pt])
  refine wpAnyH_ready (rs:=[9]) ay aI ?_
  refine AllReadyH.cons (o:=⟨some 58,_,_,_,_,_⟩) rfl (fun K hK=>?_) AllReadyH.nil
  go_simp
  have Ga:Below w7.heap.size w7 w8:=aG
  with_reducible refine(Af v8 (pW l) l1.length (LB (p,n,who)) w7.heap.size w8 w7.heap.size ((Ba.out.le (base':=w7.heap.size) uM).kept ?_) ?_ (Jy (p,n,who)) ?_ ?_ ?_ ?_).mono ?_
  focus exact bl
  focus(rw[lI];omega)
  focus exact(aD.new w7.drew #[.int .i64 p,.int .i64 n,.int .i64 who] 164).below ku OU
  focus(intro b hb;have h1:=Ba.out.iy b hb;have h2:=(Ba.out.row.lt b hb).2;(try simp only[bQ,eG,World.size_alloc] at h1 h2⊢);omega)
  focus(first|omega|(simp only[bQ,eG,World.size_alloc];omega))
  focus(rw[lI];exact HBY.out)
  rintro en w9 ⟨v9,rfl,BJ,nE⟩
  have oN:Below w7.heap.size w7 w9:=(((Ba.out.le (base':=w7.heap.size) uM).kept aG)).below nE Ga (Nat.le_refl _) uM
  rw[HZ1.out] at BJ
  obtain⟨a9,kE,rfl,_⟩:=BJ.sl.shape
  have GX:=ah BJ
  clear BJ nE
  dsimp only
  refine hK.out _ _ (SK.of ⟨c2 0,c4 0⟩ Qq oN) (fun hHeld=>?_)
  clear hK K
  (try simp only[pt])
  clear Ba ku Q7 Ga
  ((refine wpAnyH_take (i:=10) (oi:=⟨some 59,_,_,_,_,_⟩) (v:=?_) rfl ay ay ay (fun _ _ _ h=>h) (Or.inl ⟨aF,?_⟩) bq ?_);rotate_left;(focus(intro w hSw;(try dsimp only at hSw);go_simp;(try with_reducible rfl)));(try simp only[pt]))
  obtain⟨c9,f9,l9,n9,m9⟩:=(R1.out.below oN R1.out.lt).rules
  refine wpAnyH_ready (rs:=[11]) ay aI ?_
  refine AllReadyH.cons (o:=⟨none,_,_,_,_,_⟩) rfl (fun K hK=>?_) AllReadyH.nil
  go_simp
  refine hK.out _ _ (SK.set ⟨c2 0,c4 0⟩ aj aj l2' l4' _ oN) (fun hHeld=>?_)
  clear hK K c9 f9 l9 n9 m9
  refine wpAnyH_done ay (NoPanic.normal ?_) _
  have X1:aD (w9.setCell ⟨w.heap.size,1,none⟩ (.slice a9 zs.length kE)) w.heap.size #[.int .i64 size,.slice a9 zs.length kE] 51:=(R1.out.below oN R1.out.lt).set 1 _
  have X3:=(R3.out.below oN R3.out.lt).other ⟨w.heap.size,1,none⟩ (.slice a9 zs.length kE) VA
  have X4:=(R4.out.below oN R4.out.lt).other ⟨w.heap.size,1,none⟩ (.slice a9 zs.length kE) Vv
  have wO:=ah (GX.out.setOther (b:=w.heap.size) aj 1 (.slice a9 zs.length kE))
  have uK:Below w.heap.size w (w9.setCell ⟨w.heap.size,1,none⟩ (.slice a9 zs.length kE)):=((HBW.out.trans (mq.mono HBW.out.size)).trans (oN.mono aj)).setCell (p:=⟨w.heap.size,1,none⟩) (Nat.le_refl _) _
  have hDl:D<W.heap.size:=(Array.getElem?_eq_some_iff.1 HK.out).1
  have hzw:=mq.size
  have abU:(w9.setCell ⟨w.heap.size,1,none⟩ (.slice a9 zs.length kE)).heap[D]?=some (.deferred (some [])):=by
   rw[heap_setCell_other _ _ _ _ O5]
   exact(oN.block D aj).trans ((mq.block D aj).trans HK.out)
  generalize w9.setCell ⟨w.heap.size,1,none⟩ (.slice a9 zs.length kE)=zw at*
  obtain⟨c1x,f1x,l1x,n1x,m1x⟩:=X1.rules
  obtain⟨c3x,f3x,l3x,n3x,m3x⟩:=X3.rules
  obtain⟨c4x,f4x,l4x,n4x,m4x⟩:=X4.rules
  clear c1 f1 Qq n1 m1 c2 f2 l2' n2 m2 c4 f4 l4' n4 m4
  go_wp2_with fail
  go_region
  all_goals
   go_wp2_with fail
   refine noGoto_ret ?_
   have BN:aD (((zw.setCell ⟨w.heap.size+1+1,0,none⟩ (.int .i64 size)).setCell ⟨w.heap.size+1+1,1,none⟩ (.slice a9 zs.length kE)).drew) (w.heap.size+1+1) #[.int .i64 size,.slice a9 zs.length kE] 51:=((X3.set 0 (.int .i64 size)).set 1 (.slice a9 zs.length kE)).drew
   have Bl:(((zw.setCell ⟨w.heap.size+1+1,0,none⟩ (.int .i64 size)).setCell ⟨w.heap.size+1+1,1,none⟩ (.slice a9 zs.length kE)).drew).heap[D]?=some (.deferred (some [])):=by
    rw[bQ,heap_setCell_other _ _ _ _ wT,heap_setCell_other _ _ _ _ wT];exact abU
   have xR:Below w.heap.size w (((zw.setCell ⟨w.heap.size+1+1,0,none⟩ (.int .i64 size)).setCell ⟨w.heap.size+1+1,1,none⟩ (.slice a9 zs.length kE)).drew):=
    ((uK.setCell (p:=⟨w.heap.size+1+1,0,none⟩) uT _).setCell (p:=⟨w.heap.size+1+1,1,none⟩) uT _).drew
   have uJ:=xR.trans (belowK_b (w:=w2) U7.out.size _ D _ (Obj.deferred none) hD Bl rfl rfl)
   refine⟨aI,.inl ⟨_,_,rfl,run_takeDeferred Bl,?_⟩⟩
   have b1:=((Own.from (gN (β:=Unit) _ 51 (fun _=>_)) w2.heap.size).putObj (s:=()) (Obj.deferred none) BN hD Bl rfl).rules.1
   have b10:=b1 0
   have b11:=b1 1
   refine⟨.tuple #[.agg #[.int .i64 size,.slice a9 zs.length kE],.int .i64 p,.int .i64 0],Pn,_,by rw[Hw.out],?_,wO.out.res aj,uJ⟩
   rw[←HZ2.out]
   have ho:=(((wO.out.setOther (b:=w.heap.size+1+1) aj 0 (.int .i64 size)).setOther (b:=w.heap.size+1+1) aj 1 (.slice a9 zs.length kE)).kept (Below.refl _ _).drew)
   exact bI.sl ⟨ownsRow_putObj ho.1 _ Bl rfl,ho.2⟩):P:=h
theorem amj{P:Prop}(h:P:=by
 have HSL:=ah (show Sl (W.alloc (.cells #[.int .i64 size,.int .i64 0,.int .i64 0] 164)).drew true 3 (.slice (some ⟨W.heap.size,0,none⟩) [LB (size,0,0)].length 1) [LB (size,0,0)] from(Sl.pQ (Jy (size,0,0)) rfl).below (Below.refl _ _).drew)
 obtain⟨g,cp,w4,hrun,hown,hgr⟩:=zo (P:=Tryz.prog) (w:=(W.alloc (.cells #[.int .i64 size,.int .i64 0,.int .i64 0] 164)).drew) 49 49 kJ i0 (.agg #[.int .i64 0,.int .i64 0,.int .i64 0]) 24 Tryz.underlying49 HI.out.1 HI.out.2.1 HI.out.2.2.1 HI.out.2.2.2 rfl ao (pW l) HC.out ⟨W.heap.size,0,none⟩ 1 [LB (size,0,0)] HSL.out aI Va aV
 have hb4:Below W.heap.size W w4:=Below.grown ((Below.refl _ _).alloc (Nat.le_refl _) _).drew hgr OU (by intro k hk;cases hk)
 have sD:=ah hown
 have ars:=ah hrun
 clear hown hrun hgr
 refine wpAnyH_ready (rs:=[7]) ay aI ?_
 refine AllReadyH.cons (o:=⟨some 13,_,_,_,_,_⟩) rfl (fun K hK=>?_) AllReadyH.nil
 rw[if_pos aF]
 refine tV (v:= .slice ao (pW l).length (pW l).length) (u:= .slice (some ⟨W.heap.size,0,none⟩) [LB (size,0,0)].length 1) rfl dw dw ars.out ?_
 (try simp only[pt])
 refine hK.out _ _ (HKP.out _ hb4) (fun hHeld=>?_)
 clear hK K
 (try simp only[pt])
 refine wpAnyH_ready (rs:=[8]) ay aI ?_
 refine AllReadyH.cons (o:=⟨some 14,_,_,_,_,_⟩) rfl (fun K hK=>?_) AllReadyH.nil
 go_simp
 refine hK.out _ _ (HKP.out _ hb4) (fun hHeld=>?_)
 clear hK K
 (try simp only[pt])
 refine wpAnyH_done ay ?_ _
 have hgB:jk B w W:=hW
 have N_:W.heap.size≤g:=sD.out.iy g rfl|>Nat.le_trans OU
 obtain⟨og,hog,hoc⟩:∃o,w4.heap[g]?=some o∧o.isCells=true:=aat sD.out aI
 have hng:¬yj B g w4:=fun k=>by
  have h1:=k.same (hb4.block B (Nat.lt_of_lt_of_le hBlt hW0.size))
  have h2:=h1.same (hW0.block B hBlt)
  have:=RG g h2
  have:=hW0.size
  omega
 have hJ4:J [] w4:=HJ.out _ W w4 none h0 (aA hb4 none) (fun r e=>by cases e)
 have ao0:jk B w w4:=hW.trans (.of hb4 (Nat.lt_of_lt_of_le hBlt hW0.size))
 have HJ4:=ah hJ4
 have Ey:(pW l++[LB (size,0,0)])=pW (l++[(size,0,0)]):=aI
 rw[Ey] at sD
 simp only[lI,List.length_append,List.length_cons,List.length_nil] at sD⊢
 have ajA:(l++[(size,0,0)]).length=l.length+1:=aI
 have Hw:=ah (fun k x h=>afg (size:=size) (l:=l) (k:=k) (x:=x) hr h)
 have G5:∀k,kH 0 ((l++[(size,0,0)]).take k)<+:zY size l:=fun k=>Qi _ _ k
 have arv:=ah G5
 have hend:kH 0 ((l++[(size,0,0)]).take (l.length+1))=zY size l:=by rw[←ajA,List.take_length];rfl
 have arE:=ah hend
 have HEQ:=ah (fun k=>(aa0 0 ((l++[(size,0,0)]).take k)))
 clear hend G5 HE HKP n1 m1 l1 hJ4 Ey
 generalize(l++[(size,0,0)])=m at*
 gi_wp2
 gi_loopw [3,15] (fun t3 t wr=>∃k:Nat,k≤m.length∧t3=.int .i64 (oQ 0 (m.take k))∧t=.int .i64 k∧jk B w wr∧wr.heap[g]?=some og∧¬yj B g wr∧J (kH 0 (m.take k)) wr) (fun _ t _=>m.length-(intOf t).toNat)
 case atStart=>exact⟨0,Nat.zero_le _,rfl,rfl,ao0,hog,hng,HJ4.out⟩
 case round=>
  obtain⟨k,hk,rfl,rfl,bZ,hgo,amJ,hJs⟩:=hrel
  have HJS:=ah hJs
  have HGO:=ah (And.intro hgo amJ)
  clear hJs amJ
  have hBr:B<wr.heap.size:=Nat.lt_of_lt_of_le hBlt bZ.size
  have sK:¬yj B wr.heap.size wr:=fun k=>Nat.lt_irrefl _ (bZ.2.2.2 (fun b h=>by rw[RG b h];exact hBlt) _ k)
  have HFR:=ah sK
  clear sK
  by_cases hlt:k<m.length
  ·obtain⟨x,hx⟩:∃x,m[k]?=some x:=⟨_,List.getElem?_eq_getElem hlt⟩
   obtain⟨h1,h2,h3,h4,h5⟩:=Hw.out k x hx
   have HST:=ah (WR (a:=0) hx)
   have HEN:=ah (SQ (a:=0) hx)
   have LU:=HEQ.out k
   rw[List.length_take] at LU
   obtain⟨_,_,he,hb,d0,d1,d2⟩:=Sl.sp sD.out.sl hx
   cases he
   have c0:=(World.cell?_of_block (w:=w4) (a:=⟨g,0+k*3,none⟩) (hgo.trans hog.symm)).trans d0
   have c1:=(World.cell?_of_block (w:=w4) (a:=⟨g,0+k*3+1,none⟩) (hgo.trans hog.symm)).trans d1
   have c2:=(World.cell?_of_block (w:=w4) (a:=⟨g,0+k*3+2,none⟩) (hgo.trans hog.symm)).trans d2
   simp only[Nat.zero_add] at c0 c1 c2
   clear hgo hx d0 d1 d2
   have hwr:IntKind.i64.wrap ((k:Int)+1)=k+1:=IntWalk.i64_in _ aj
   obtain⟨p,q,u⟩:=x
   dsimp only at h1 h2 h3 h4 h5 c0 c1 c2
   have af0:IntKind.i64.wrap (p+q)=p+q:=IntWalk.i64_in _ aj
   have jo:Below wr.heap.size wr (wr.alloc (.cells #[.int .i64 p,.int .i64 q,.int .i64 u] 164)):=(Below.refl _ _).alloc (Nat.le_refl _) _
   have Am:aD (wr.alloc (.cells #[.int .i64 p,.int .i64 q,.int .i64 u] 164)) wr.heap.size #[.int .i64 p,.int .i64 q,.int .i64 u] 164:=aD.new _ _ _
   have HJ1:=ah (HJ.out _ wr _ none HJS.out (aA jo none) (fun r e=>by cases e))
   have HF1:=ah (jk.of jo hBr)
   have HBN:=ah Am
   have arD:=ah (show¬yj B wr.heap.size (wr.alloc (.cells #[.int .i64 p,.int .i64 q,.int .i64 u] 164)) from fun k=>HFR.out (k.same (jo.block B hBr)))
   clear Am jo
   generalize hat:oQ 0 (m.take k)=a0 at*
   by_cases hpa:a0<p
   ·have hgt:decide (a0<p)=true:=by simpa using hpa
    have zC:IntKind.i64.wrap (p-a0)=p-a0:=IntWalk.i64_in _ aj
    have hst:=HST.out
    rw[show hole a0 (p,q,u)=[(a0,p-a0,0)] from if_pos hpa] at hst
    have OL:=ah hst
    clear hst
    obtain⟨fn,tmps,assign,body,hy,hR⟩:=HY.out _ (a0,p-a0,0) _ HJ1.out aj
    have HR:=ah hR
    clear hR
    gi_wp2
    refine HR.out.mono ?_
    rintro e w3 (⟨rfl,hJ3,hk3⟩|⟨rfl,abV⟩)
    ·have hbs:=hk3.box HBN.out arD.out
     obtain⟨b1,b2,b3,b4,b5⟩:=hbs.rules
     have akn:=HF1.out.trans hk3
     obtain⟨amV,amK⟩:=akn.2.2.1 g og HGO.out.1 hoc HGO.out.2
     have CZ:=ah (And.intro amV amK)
     have HK3:=ah akn
     have HJ3:=ah hJ3
     clear hbs amV amK akn hk3 hJ3
     gi_wp2
     go_roundw
     case rel=>exact⟨k+1,aj,by rw[HEN.out],dn,bZ.trans HK3.out,CZ.out.1,CZ.out.2,by rw[OL.out];exact HJ3.out⟩
     case measure=>simp[intOf];omega
    ·gi_wp2
     refine bodyPost_ret (results_none rfl _ _ _) rfl ?_
     exact⟨⟨_,rfl⟩,.inr ⟨_,by rw[←OL.out];exact arv.out _,abV⟩⟩
   ·have hgt:decide (a0<p)=false:=by simpa using hpa
    have hst:=HST.out
    rw[show hole a0 (p,q,u)=[] from if_neg hpa,List.append_nil] at hst
    have OL:=ah hst
    clear hst
    gi_wp2
    refine⟨fun _ h=>(by cases h),?_⟩
    obtain⟨b1,b2,b3,b4,b5⟩:=HBN.out.rules
    gi_wp2
    go_roundw
    case rel=>exact⟨k+1,aj,by rw[HEN.out],dn,bZ.trans HF1.out,(HF1.out.2.2.1 g og HGO.out.1 hoc HGO.out.2).1,(HF1.out.2.2.1 g og HGO.out.1 hoc HGO.out.2).2,by rw[OL.out];exact HJ1.out⟩
    case measure=>simp[intOf];omega
  ·obtain rfl:k=m.length:=by omega
   gi_wp2
   go_end0
   exact⟨⟨_,rfl⟩,.inl ⟨_,rfl,by rw[←arE.out,←ajA];exact HJS.out⟩⟩):P:=h
theorem L_{P:Prop}(h:P:=by
 refine HC.out.mono ?_
 rintro e w1 ⟨rfl,hb1⟩
 go_wp2_with fail
 go_roundw
 case rel=>
  refine⟨i+1,aj,dn,bZ.trans (hb1.mono bZ.size),?_⟩
  intro j y hj hy
  rcases Nat.lt_succ_iff_lt_or_eq.1 hj with hj|rfl
  ·exact HP.out j y hj hy
  ·rw[HX.out] at hy;cases hy;exact xS.out
 case measure=>simp[intOf];omega):P:=h
theorem L9{P:Prop}(h:P:=by
 intro v' w1 hown hgrow _
 try simp only[Nat.zero_add,List.nil_append] at hown
 have HO:=ah hown
 have HG:=ah hgrow
 clear hown hgrow
 go_wp2_with fail
 go_ret
 exact⟨_,rfl,⟨HO.out,HS.out⟩,((Below.refl _ _).alloc (Nat.le_refl _) _).grown HG.out aI (by intro k hk;simp[Value.ownBlock] at hk;omega)⟩):P:=h
theorem Bu{P:Prop}(h:P:=by
 go_wp2_with fail
 go_ret
 refine⟨?_,bZ⟩
 rw[SE ?_];·rfl
 intro x hx
 obtain⟨j,hj,hxj⟩:=List.getElem_of_mem hx
 exact HP.out j x aj adv):P:=h
theorem nA{P:Prop}(h:P:=by
 go_enter Tryz.func50,Tryz.ntmps50
 go_wp2_with fail
 go_ret
 exact⟨rfl,aG⟩):P:=h
theorem pK{P:Prop}(h:P:=by
 go_wp2_with fail
 go_ret
 exact⟨rfl,aG⟩):P:=h
theorem Rs{P:Prop}(h:P:=by
 rw[eO hx0,List.filter_append]
 have h1:(xs.take i0).filter (fun x=>!p x)=xs.take i0:=List.filter_eq_self.2 (fun x hx=>by
  obtain⟨j,hj,rfl⟩:=List.getElem_of_mem hx
  have hj':j<i0:=by rw[List.length_take] at hj;omega
  rw[List.getElem_take,iq j _ hj' (List.getElem?_eq_getElem aj)];rfl)
 rw[h1]
 simp[Mc]):P:=h
theorem Bt{P:Prop}(h:P:=by
 refine HC.out.mono ?_
 rintro e w1 ⟨rfl,hb1⟩
 go_wp2_with fail
 go_ret
 exact⟨by rw[D8 HX.out xS.out HP.out];rfl,bZ.trans (hb1.mono bZ.size)⟩):P:=h
theorem ai5{P:Prop}(h:P:=by
 go_wp2_with fail
 go_region
 go_wp2_with fail
 go_roundw
 case rel=>exact⟨i+1,aj,dn,aG⟩
 case measure=>simp[intOf];omega):P:=h
theorem Br{P:Prop}(h:P:=by
 rcases dL with h0|⟨b,off,ha,hb,hc⟩
 ·subst h0;simp at hlt
 ·exact⟨b,off,ha,hb,(hc i _ hx).below bZ hb⟩):P:=h
theorem XO{P:Prop}(h:P:=by
 go_roundw
 case rel=>
  refine⟨i,j+1,zs,aj,aj,rfl,dn,HZL.out,nR.out,aB HG.out (aA xw (some g)),?_,fun r hr=>UJ.out r aj⟩
  rw[eO HX.out,List.filter_append,←L6.out]
  simp[xS.out]
 case measure=>simp[intOf];omega):P:=h
theorem ai4{P:Prop}(h:P:=by
 obtain⟨l,vT⟩:∃l,dx[j]?=some l:=⟨_,List.getElem?_eq_getElem hi⟩
 obtain⟨u,hu⟩:∃u,vs[j]?=some u:=⟨_,List.getElem?_eq_getElem aj⟩
 have hsu:=h3 j u l hu vT
 have he:jr dx j=l:=by
  unfold jr
  rw[if_neg aj,Int.toNat_natCast,List.getD_eq_getElem?_getD,vT];rfl
 obtain⟨b,off,xR,hbl,hc⟩:=h1.at hu
 subst xR
 obtain⟨ua,un,uc,rfl⟩:=hsu.is
 have hc0:w.cell? ⟨b,off+j,none⟩=some (.slice ua un uc):=O8
 have HSU:=ah hsu
 rw[he]
 clear h1 h3 hsu hv hc hu vT he h0
 have d1:decide ((dx.length:Int)≤j)=false:=decide_eq_false aj
 go_enter Tryz.func14,Tryz.ntmps14
 go_wp2_with fail
 go_ret
 exact⟨_,rfl,HSU.out,Below.refl _ _⟩):P:=h
theorem ai3{P:Prop}(h:P:=by
 obtain⟨l,vT⟩:∃l,dx[j]?=some l:=⟨_,List.getElem?_eq_getElem hi⟩
 obtain⟨u,hu⟩:∃u,vs[j]?=some u:=⟨_,List.getElem?_eq_getElem aj⟩
 have hsu:=h3 j u l hu vT
 have he:jr dx j=l:=by
  unfold jr
  rw[if_neg aj,Int.toNat_natCast,List.getD_eq_getElem?_getD,vT];rfl
 obtain⟨b,off,xR,hbl,hc⟩:=h1.at hu
 subst xR
 obtain⟨ua,un,uc,rfl⟩:=hsu.is
 have hc0:w.cell? ⟨b,off+j,none⟩=some (.slice ua un uc):=O8
 have HSU:=ah hsu
 rw[he]
 clear h1 h3 hsu hv hc hu vT he h0
 have d1:decide ((dx.length:Int)≤j)=false:=decide_eq_false aj
 go_enter Tryz.func23,Tryz.ntmps23
 go_wp2_with fail
 go_ret
 exact⟨_,rfl,HSU.out,Below.refl _ _⟩):P:=h
theorem rO{P:Prop}(h:P:=by
 go_wp2_with fail
 go_ret
 exact⟨by simp[h],aG⟩):P:=h
theorem Bq{P:Prop}(h:P:=by
 go_wp2_with fail
 go_ret
 exact⟨_,rfl,⟨World.ownsRow_nil _ _ _ _,aI⟩,Below.refl _ _⟩):P:=h
theorem Rq{P:Prop}(h:P:=by
 go_wp2_with fail
 with_reducible refine hI.mono ?_
 rintro e w1 ⟨rfl,hb1⟩
 go_wp2_with fail
 go_ret
 exact⟨_,rfl,by rw[HF.out];exact(HO.out.kept hb1).sl,rfl,aA hb1 _⟩):P:=h
theorem acL{P:Prop}(h:P:=by
 rw[hC2]
 refine⟨_,rfl,bI.inserted (cur:=cur) ak0.out hx hbg hroom hcm hcs L6.out hi (setRow_heap w4 g C1 _ _ (0,0) M6.out),?_⟩
 exact aB (aA hq (some g)) (aB ak5.out ⟨rfl,rfl,rfl,yx,fun b hb hne=>setRow_other w4 g b _ yB⟩)):P:=h
theorem ai0{P:Prop}(h:P:=by
 generalize vR l now=k at*
 go_wp2_with fail
 ((refine wp_region_quiet_below ay ay ?_);(repeat(go_big_quiet_step (fail)));(refine wpQuiet_nil ?_);intro _ hw';obtain⟨⟨dq,osq⟩,hw''⟩:=hw';subst hw'';have pE:=below_regrown wr dq osq;generalize Go.Sort.grow (redrawn wr dq) osq=w7 at*;have LC:=pE.size)
 go_wp2_with fail
 exact bodyPost_ret (v:= .tuple #[.slice as_ k gI,u2]) (by simp[results,Tryz.results108,go_sem]) rfl ⟨_,_,rfl,HOP.out.kept pE,HSD.out.below (bZ.trans (pE.mono Bj)),HOB.out,bZ.trans (pE.mono Bj)⟩):P:=h
theorem Rp{P:Prop}(h:P:=by
 go_ret
 refine⟨_,rfl,?_,rfl,CZ.out⟩
 have h:=uH.out.sl
 rw[L6.out,List.take_of_length_le (Nat.le_refl _)] at h
 exact h):P:=h
theorem acJ{P:Prop}(h:P:=by
 rcases ho.row.2 with⟨h0,_⟩|⟨g',cap',cur,he,_,hg,_,_,h3,h4⟩
 ·simp at h0
 ·simp only[Value.slice.injEq,Option.some.injEq,Addr.mk.injEq,and_true,true_and] at he
  obtain⟨rfl,_,rfl⟩:=he
  exact⟨cur,hg,h3,h4⟩):P:=h
theorem Dn{P:Prop}(h:P:=by
 go_wp2_with fail
 go_ret
 exact⟨_,rfl,Sl.nil _ _ _,Below.refl _ _⟩):P:=h
theorem Bp{P:Prop}(h:P:=by
 rcases dL with h0|⟨b,off,hb,_⟩
 ·exact h0
 ·cases hb):P:=h
theorem acI{P:Prop}(h:P:=by
 exact(hxB.setCell (p:=⟨w.heap.size+1,0,none⟩) adn _).setCell (p:=⟨w.heap.size+1+1,0,none⟩) uT _):P:=h
theorem Ni{P:Prop}(h:P:=by
 go_ret
 refine⟨_,rfl,?_,M6.out⟩
 first|(rw[HL.out];exact sD.out)|exact sD.out):P:=h
theorem aiQ{P:Prop}(h:P:=by
 induction l generalizing a with
 |nil=>simp[jX,oQ]
 |cons x r ih=>
  simp only[List.cons_append,jX,ih,oQ]
  constructor
  ·rintro⟨h1,h2,h3,h4,h5,h6⟩;exact⟨⟨h1,h2,h3,h4,h5⟩,h6⟩
  ·rintro⟨⟨h1,h2,h3,h4,h5⟩,h6⟩;exact⟨h1,h2,h3,h4,h5,h6⟩):P:=h
theorem aiP{P:Prop}(h:P:=by
 intro x hm
 rcases List.mem_or_eq_of_mem_set hm with hm|rfl
 ·exact h.val x hm
 ·exact⟨_,rfl,Jc,by
   intro c hc
   rw[Array.toList_setIfInBounds] at hc
   rcases List.mem_or_eq_of_mem_set hc with hc|rfl
   ·exact EB c hc
   ·exact hu⟩):P:=h
theorem acG{P:Prop}(h:P:=by
 exact hK _ _ ((KeepsOthers.alloc _ _).from _) ((Below.refl _ W).alloc hB.size _) ⟨hno,hB.alloc hB.size _⟩ ⟨W.heap.size,aD.new W _ _,rfl⟩):P:=h
theorem Ro{P:Prop}(h:P:=by
 intro r hr
 rw[List.getElem?_set_ne aj]
 exact UJ.out r aj):P:=h
theorem acF{P:Prop}(h:P:=by
 simp[Instr.slice,run_underlying ht,Instr.sliceBounds,Instr.sliceBound,asIntOf,sizeOf,typeInfo,hi,hs,hm,LD,h1]):P:=h
theorem acE{P:Prop}(h:P:=by
 exact⟨rfl,rfl,rfl,yx,fun c hc hne=>setRow_other W b c _ yB⟩):P:=h
theorem acD{P:Prop}(h:P:=by
 rw[hC1]
 simp only[List.size_toArray,List.length_append,List.length_take,List.length_drop,Array.length_toList]
 omega):P:=h
theorem Dm{P:Prop}(h:P:=by
 go_wp2_with fail
 go_ret
 exact⟨rfl,bZ⟩):P:=h
theorem aiK{P:Prop}(h:P:=by
 have hne:za=[]:=by have:=HZ.out;rw[Ac (fun h=>aj)] at this;simpa using this
 gi_wp2
 refine bodyPost_ret (results_none rfl _ _ _) rfl ?_
 exact⟨⟨_,rfl⟩,.inl ⟨_,hne.symm,HJ1.out⟩⟩):P:=h
theorem Nh{P:Prop}(h:P:=by
 go_wp2_with fail
 go_ret
 exact⟨aI,aG⟩):P:=h
theorem aiI{P:Prop}(h:P:=by
 go_wp2_with fail
 go_roundw
 case rel=>exact⟨i+1,aj,dn,bZ.trans (pE.mono Bj),ah (Ke HT.out HX.out (by rw[HXY.out];exact HY.out))⟩
 case measure=>simp[intOf];omega):P:=h
theorem acC{P:Prop}(h:P:=by
 obtain⟨vs,h1,h2,h3⟩:=h.row
 exact⟨vs,h1.below hb,h2,fun i u l hu hl=>(h3 i u l hu hl).below hb⟩):P:=h
theorem acB{P:Prop}(h:P:=by
 obtain⟨vs,h1,h2,h3⟩:=h.row
 obtain⟨a,cap,rfl,hl⟩:=h1.shape
 exact⟨a,cap,by rw[h2],aj⟩):P:=h
theorem acA{P:Prop}(h:P:=by
 exact⟨rfl,rfl,rfl,yx,fun c hc=>setRow_other W b c _ aj⟩):P:=h
theorem aiF{P:Prop}(h:P:=by
 obtain rfl:i=l.length:=by omega
 have HE:=ah (decide_eq_true (GI HLEN.out HT.out))
 go_wp2_with fail
 go_ret
 exact⟨by rw[HE.out];rfl,bZ⟩):P:=h
theorem aiE{P:Prop}(h:P:=by
 exact(hxB.setCell (p:=⟨w.heap.size,0,none⟩) (Nat.le_refl _) _).setCell (p:=⟨w.heap.size+1,0,none⟩) adn _):P:=h
theorem aiD{P:Prop}(h:P:=by
 go_enter Tryz.func87,Tryz.ntmps87
 go_wp2_with fail
 go_ret
 exact⟨_,rfl,by rw[HS.out];exact rF.out.below aG,.inl ⟨rfl,HS.out⟩,aG⟩):P:=h
theorem acy{P:Prop}(h:P:=by
 intro c hc
 simp only[List.mem_cons,List.not_mem_nil,or_false] at hc
 subst hc;rfl):P:=h
theorem aiy{P:Prop}(h:P:=by
 refine⟨b,off,Vh,hb,fun j x hx=>?_⟩
 rw[List.getElem?_take] at hx
 split at hx
 ·exact hc j x hx
 ·cases hx):P:=h
theorem aix{P:Prop}(h:P:=by
 intro i u m hu hm
 cases i with
 |zero=>simp at hu hm;subst hu hm;exact hl
 |succ i=>exact h2 i u m (by simpa using hu) (by simpa using hm)):P:=h
theorem aiw{P:Prop}(h:P:=by
 intro k ok hk N9 ao3 hno
 refine XV k ok hk N9 ?_ hno
 by_cases hjk:j=k
 ·subst hjk;exact af_
 ·rwa[getD_set_ne true hjk] at ao3):P:=h
theorem XL{P:Prop}(h:P:=by
 go_wp2_with fail
 go_ret
 exact⟨⟨ao,rfl,HS.out⟩,rfl⟩):P:=h
theorem aiu{P:Prop}(h:P:=by
 rw[List.take_zero,List.nil_append,Nat.zero_add,List.drop_of_length_le aV,List.append_nil,Array.toArray_toList]):P:=h
theorem aiq{P:Prop}(h:P:=by
 unfold wpOp
 simp only[hj]
 rw[if_pos (by unfold Region.wanted;rw[hg'])]
 exact .inl (h' _ (ah fun _ _ h1 h2=>⟨h1,h2⟩))):P:=h
theorem aip{P:Prop}(h:P:=by
 unfold wpOp
 simp only[hi]
 rw[if_pos (by unfold Region.wanted;rw[hg])]
 exact .inl (h _ (ah fun _ _ h1 h2=>⟨h1,h2⟩))):P:=h
theorem aio{P:Prop}(h:P:=by
 obtain⟨rfl,rfl,rfl⟩:=h
 have:n≠id:=by simpa using hid
 simp only[Exit.inBlock,if_neg this]
 exact⟨rfl,rfl,rfl⟩):P:=h
theorem ain{P:Prop}(h:P:=by
 rcases h3 with h3|⟨b,off,rfl,hlt,_⟩
 ·exact .inl h3
 ·right
  intro b' hb'
  simp[Value.ownBlock] at hb'
  omega):P:=h
theorem acw{P:Prop}(h:P:=by
 exact h6.trans (belowK_b (w:=w2) hx3.size _ D _ _ hD hK rfl rfl)):P:=h
theorem ail{P:Prop}(h:P:=by
 rename_i ht
 simp only[ht]
 obtain⟨cs,rfl,_⟩:=hv
 exact⟨cs,fuel,rfl,by simpa[Value.cells] using hs⟩):P:=h
theorem adM{P:Prop}(h:P:=by
 exact BA.other ⟨w.heap.size+1+1,0,none⟩ _ ahI):P:=h
theorem adK{P:Prop}(h:P:=by
 rw[List.getElem?_drop] at hx
 have:=hc (m+j) x hx
 rw[Nat.add_mul] at this
 rwa[Nat.add_assoc off]):P:=h
theorem adJ{P:Prop}(h:P:=by
 intro y hy
 rcases List.mem_append.1 hy with hy|hy
 ·exact h y hy
 ·simp at hy;subst hy;exact hx):P:=h
theorem Jr{P:Prop}(h:P:=by
 rw[List.length_set];exact HZL.out):P:=h
theorem adI{P:Prop}(h:P:=by
 rcases h.how with rfl|rfl
 ·simp only[Exit.inBlock,if_neg (Ne.symm hid)];exact h
 ·exact h):P:=h
theorem adH{P:Prop}(h:P:=by
 go_enter Tryz.func179,Tryz.ntmps179
 go_wp2_with fail
 go_ret
 exact⟨rV,aG⟩):P:=h
theorem adG{P:Prop}(h:P:=by
 have h:=HK.out
 rw[List.take_length,hq,List.take_length] at h
 rw[←HXX.out,←HYY.out,h]):P:=h
theorem adE{P:Prop}(h:P:=by
 exact⟨KeepsFrom.refl _ _,Below.refl _ _,Uo.out.snoc (by unfold Me;simp;omega),hB⟩):P:=h
theorem adD{P:Prop}(h:P:=by
 intro y hm
 rcases List.mem_or_eq_of_mem_set hm with hm|rfl
 ·exact hv y hm
 ·exact hx):P:=h
theorem ajd{P:Prop}(h:P:=by
 (intro b hb;have h1:=uH.out.iy b hb;have h2:=(uH.out.row.lt b hb).2;(try simp only[bQ,eG,World.size_alloc] at h1 h2⊢);omega)):P:=h
theorem aii{P:Prop}(h:P:=by simp only[List.length_append,Array.length_toList,size_zeroCells,GL.size,fA hsl.val,xW,←Nat.add_mul];exact Nat.le_refl _):P:=h
theorem acp{P:Prop}(h:P:=by obtain⟨o,ho,hc⟩:=hrow B e'.symm;rw[show X.heap[B]?=_ from hs] at ho;cases ho;cases hc):P:=h
theorem ah9{P:Prop}(h:P:=by first|(first|omega|(simp only[bQ,eG,World.size_alloc];omega))|fail):P:=h
theorem vW{P:Prop}(h:P:=by first|(first|omega|(simp only[World.size_alloc,World.size_setCell];omega))|fail):P:=h
theorem ah2{P:Prop}(h:P:=by simpa[Lit.wf,IntKind.min,IntKind.max,IntKind.bits,IntKind.signed] using hs):P:=h
theorem uM{P:Prop}(h:P:=by first|omega|(simp only[bQ,eG,World.size_alloc];omega)):P:=h
theorem acn{P:Prop}(h:P:=by rw[fA (fun y hy=>hval y (List.mem_of_mem_drop hy)),List.length_drop]):P:=h
theorem XJ{P:Prop}(h:P:=by have:=Sd h.1 HX.out;rw[Hw.out] at this;dsimp only at this;omega):P:=h
theorem vV{P:Prop}(h:P:=by first|(first|(simp[maxLen];omega)|(solve|simp[maxLen]))|fail):P:=h
theorem aci{P:Prop}(h:P:=by have:=hb1.size;simp only[World.size_alloc] at this;exact bl):P:=h
theorem ach{P:Prop}(h:P:=by constructor;(intro h;omega);(intro h;exact absurd h HN.out)):P:=h
theorem M7{P:Prop}(h:P:=by intro c hc;simp at hc;rcases hc with rfl|rfl|rfl<;>rfl):P:=h
theorem ahS{P:Prop}(h:P:=by rw[show(jQ x).cells=eT x from rfl];simpa using QT x):P:=h
theorem yZ{P:Prop}(h:P:=by rw[←bR];exact(Below.refl _ _).alloc (Nat.le_refl _) _):P:=h
theorem FX{P:Prop}(h:P:=by intro c hc;simp at hc;rcases hc with rfl|rfl<;>rfl):P:=h
theorem vU{P:Prop}(h:P:=by first|(first|(simp;omega)|(solve|simp))|fail):P:=h
theorem ahR{P:Prop}(h:P:=by simp only[World.size_alloc,World.size_setCell];omega):P:=h
theorem ahQ{P:Prop}(h:P:=by first|omega|(simp only[World.size_setCell];omega)):P:=h
theorem ahM{P:Prop}(h:P:=by rw[List.length_take,Array.length_toList,h3];omega):P:=h
theorem ahJ{P:Prop}(h:P:=by show¬w.heap.size+1+1=w.heap.size+1;omega):P:=h
theorem ahI{P:Prop}(h:P:=by show¬w.heap.size+1=w.heap.size+1+1;omega):P:=h
theorem XG{P:Prop}(h:P:=by simp[results,Tryz.results199,go_sem,h,c2,c0]):P:=h
theorem aM{P:Prop}(h:P:=by first|(solve|simp[Act.eval,Act.put])|fail):P:=h
theorem sP{P:Prop}(h:P:=by(try have k1:=(ah True.intro).out);exact bx):P:=h
theorem yY{P:Prop}(h:P:=by(try have k2:=(ah True.intro).out);exact bx):P:=h
theorem yC{P:Prop}(h:P:=by(try have k3:=(ah True.intro).out);exact bx):P:=h
theorem BZ{P:Prop}(h:P:=by(try have k4:=(ah True.intro).out);exact bx):P:=h
theorem adC{P:Prop}(h:P:=by(try have k5:=(ah True.intro).out);exact bx):P:=h
theorem adB{P:Prop}(h:P:=by(try have k6:=(ah True.intro).out);exact bx):P:=h
theorem Pn{P:Prop}(h:P:=by simp[results,Tryz.results86,go_sem,b10,b11]):P:=h
theorem VA{P:Prop}(h:P:=by show¬w.heap.size+1+1=w.heap.size;omega):P:=h
theorem adz{P:Prop}(h:P:=by simp[results,Tryz.results150,go_sem,c1,c3]):P:=h
theorem adx{P:Prop}(h:P:=by simp[results,Tryz.results196,go_sem,b1,b2]):P:=h
theorem adw{P:Prop}(h:P:=by simp[results,Tryz.results33,go_sem,b1,b2]):P:=h
theorem uT{P:Prop}(h:P:=by show w.heap.size≤w.heap.size+1+1;omega):P:=h
theorem adv{P:Prop}(h:P:=by rw[←hxj];exact List.getElem?_eq_getElem hj):P:=h
theorem adu{P:Prop}(h:P:=by simp[results,Tryz.results151,go_sem,hcb]):P:=h
theorem adt{P:Prop}(h:P:=by unfold uf;exact⟨p0,p1,p2,p3,p4,p5⟩):P:=h
theorem ads{P:Prop}(h:P:=by simp[results,Tryz.results89,go_sem,QJ]):P:=h
theorem adr{P:Prop}(h:P:=by show¬w.heap.size+1=w.heap.size;omega):P:=h
theorem adq{P:Prop}(h:P:=by show¬w.heap.size=w.heap.size+1;omega):P:=h
theorem Vz{P:Prop}(h:P:=by(try have k1:=(ah hb0).out);exact bx):P:=h
theorem ER{P:Prop}(h:P:=by intro k hk;cases hk;exact Nat.le_refl _):P:=h
theorem Jp{P:Prop}(h:P:=by subst hw2;exact aD.p9 _ _ _ (by simp)):P:=h
theorem adn{P:Prop}(h:P:=by show w.heap.size≤w.heap.size+1;omega):P:=h
theorem adl{P:Prop}(h:P:=by simp only[List.length_cons] at hk;omega):P:=h
theorem Pm{P:Prop}(h:P:=by subst hw2;exact(aD.new _ _ _).alloc _):P:=h
theorem Vv{P:Prop}(h:P:=by show¬w1.heap.size=w.heap.size;omega):P:=h
theorem EP{P:Prop}(h:P:=by simp[results,Tryz.results203,go_sem]):P:=h
theorem Jo{P:Prop}(h:P:=by simp[results,Tryz.results202,go_sem]):P:=h
theorem Jk{P:Prop}(h:P:=by rw[IntWalk.i64_in _ (by omega)];omega):P:=h
theorem Vu{P:Prop}(h:P:=by simp[results,Tryz.results198,go_sem]):P:=h
theorem adk{P:Prop}(h:P:=by simp[results,Tryz.results112,go_sem]):P:=h
theorem adj{P:Prop}(h:P:=by simp[results,Tryz.results117,go_sem]):P:=h
theorem O8{P:Prop}(h:P:=by simpa using hc 0 (.slice ua un uc) rfl):P:=h
theorem Vo{P:Prop}(h:P:=by rw[lI];(have:=HBY.out);omega):P:=h
theorem wT{P:Prop}(h:P:=by show¬D=w.heap.size+1+1;omega):P:=h
theorem Vm{P:Prop}(h:P:=by rw[List.getElem?_eq_getElem hi,he]):P:=h
theorem dF{P:Prop}(h:P:=by simp only[World.size_alloc];omega):P:=h
theorem Ji{P:Prop}(h:P:=by rw[List.getElem?_set];simp[xu]):P:=h
theorem O7{P:Prop}(h:P:=by(try have k2:=K1.out);exact bx):P:=h
theorem Vi{P:Prop}(h:P:=by(try have k3:=K2.out);exact bx):P:=h
theorem yB{P:Prop}(h:P:=by intro he;exact hne (by rw[he])):P:=h
theorem Vh{P:Prop}(h:P:=by rw[if_neg hcm];simp[addr_add]):P:=h
theorem qW{P:Prop}(h:P:=by rw[beq_eq_false_iff_ne];omega):P:=h
theorem Jh{P:Prop}(h:P:=by rw[Array.length_toList];omega):P:=h
theorem O6{P:Prop}(h:P:=by rw[←bR];exact aD.new _ _ _):P:=h
theorem O5{P:Prop}(h:P:=by show¬D=w.heap.size;omega):P:=h
theorem zS{P:Prop}(h:P:=by rw[List.length_take];omega):P:=h
theorem BX{P:Prop}(h:P:=by have:=M6.out b hb;omega):P:=h
theorem Jg{P:Prop}(h:P:=by unfold maxLen at hcm;omega):P:=h
theorem bG{P:Prop}(h:P:=by simp[Act.eval,Act.put]):P:=h
theorem O1{P:Prop}(h:P:=by rw[Nat.succ_mul];omega):P:=h
theorem Vg{P:Prop}(h:P:=by rw[hx.len];exact ac3):P:=h
theorem Ve{P:Prop}(h:P:=by rw[hr] at h0;cases h0):P:=h
theorem OZ{P:Prop}(h:P:=by rw[h] at hr;cases hr):P:=h
theorem bH{P:Prop}(h:P:=by rw[←bR];exact bx):P:=h
theorem bN{P:Prop}(h:P:=by rw[←bR];exact bl):P:=h
theorem yA{P:Prop}(h:P:=by unfold maxLen;omega):P:=h
theorem OY{P:Prop}(h:P:=by intro y hy;cases hy):P:=h
theorem Vb{P:Prop}(h:P:=by rw[Oz];exact hDl):P:=h
theorem Va{P:Prop}(h:P:=by simp[maxLen];omega):P:=h
theorem wS{P:Prop}(h:P:=by rw[HZL.out];omega):P:=h
theorem yx{P:Prop}(h:P:=by simp[World.setRow]):P:=h
theorem Je{P:Prop}(h:P:=by rw[hall x hx];rfl):P:=h
theorem Jd{P:Prop}(h:P:=by subst hw2;exact bl):P:=h
theorem wR{P:Prop}(h:P:=by intro j y h;omega):P:=h
theorem nG{P:Prop}(h:P:=by dsimp only;omega):P:=h
theorem OU{P:Prop}(h:P:=by simp[bQ]):P:=h
theorem bX{P:Prop}(h:P:=by rw[←bR];simp):P:=h
theorem zR{P:Prop}(h:P:=by rw[HN.out];rfl):P:=h
theorem dw{P:Prop}(h:P:=by simp[Act.eval]):P:=h
theorem Jc{P:Prop}(h:P:=by simpa using hsz):P:=h
theorem jP{P:Prop}(h:P:=by intro h;omega):P:=h
theorem EM{P:Prop}(h:P:=by simpa using hq):P:=h
theorem EL{P:Prop}(h:P:=by simpa using q4):P:=h
theorem Jb{P:Prop}(h:P:=by simpa using h2):P:=h
theorem Ja{P:Prop}(h:P:=by simpa using hp):P:=h
theorem OQ{P:Prop}(h:P:=by simpa using hi):P:=h
theorem OP{P:Prop}(h:P:=by simpa using hl):P:=h
theorem BU{P:Prop}(h:P:=by simpa using h):P:=h
theorem I_{P:Prop}(h:P:=by rw[HZL.out]):P:=h
theorem aV{P:Prop}(h:P:=by simp;omega):P:=h
theorem ay{P:Prop}(h:P:=by kernel_rfl):P:=h
theorem bq{P:Prop}(h:P:=by assumption):P:=h
theorem oU{P:Prop}(h:P:=by simp[hs]):P:=h
theorem rV{P:Prop}(h:P:=by simp[h3]):P:=h
theorem zQ{P:Prop}(h:P:=by simp[hy]):P:=h
theorem yu{P:Prop}(h:P:=by simp[h0]):P:=h
theorem yt{P:Prop}(h:P:=by simp[h1]):P:=h
theorem aG{P:Prop}(h:P:=by exact bl):P:=h
theorem aC{P:Prop}(h:P:=by decide):P:=h
theorem dn{P:Prop}(h:P:=by go_num):P:=h
theorem aj{P:Prop}(h:P:=by omega):P:=h
theorem aI{P:Prop}(h:P:=by simp):P:=h
theorem aF{P:Prop}(h:P:=by rfl):P:=h
