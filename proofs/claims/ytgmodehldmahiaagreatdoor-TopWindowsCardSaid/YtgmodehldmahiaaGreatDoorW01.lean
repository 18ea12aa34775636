/- Part 1 of 50 of the proof of topWindows_holds. Conditions: see each. -/
import Derived.Test.YtgmodehldmahiaaGreatDoorRows
import Derived.Test.YtgmodehldmahiaaGreatDoorChecked
import Derived.WalkKit
import Derived.Laws.StructEq
import Derived.DeepKeys
import Derived.Deep.QuietTactic
import Derived.BigQuiet
import Derived.Below
import Derived.Lib.Hide
import Derived.WalkSmall
import Derived.ProofKit
import Derived.OpenShut
import Derived.ShutString
import Derived.ChangeOld
import Derived.HandedShaped
import Derived.SizedLaws
import Derived.LoopTactic
import Derived.Carry
import Derived.Laws.OwnMore
import Derived.Lib.QuietBelow
import Derived.Great.BuildSlice
import Derived.Lib.AppendZeros
import Derived.Lib.Overlaps
import Derived.Deep.Quiet
import Derived.Laws.ResultCell
import Derived.OwnWalkIn
import Derived.TacticsInMore
import Derived.Deep.RegionHeld3
import Derived.ArgAppend
import Derived.Laws.MakeOwn
import Derived.StillTail
import Derived.RangeFuncCalls
import Derived.OrdersIn
import Derived.OrdersHeld
import Derived.RegionTactic
import Derived.BigRegion
import Derived.RangeFuncOwn
import Derived.ControlIn
import Derived.RangeFuncNested
import Derived.RangeFuncBound
import Derived.RangeFuncLeaves
import Derived.Shelf.Abstract
import Derived.LoopNIn
import Derived.LoopIn
import Derived.Maps.AppendAt
import Derived.Maps.OwnIn
import Derived.Scope
import Derived.Outline
import Derived.Deep.CutBlock
import Derived.Shelf.RegionOpen
import Derived.Deep.DeepHandedRow
import Derived.Lib.LaidTab
set_option linter.unusedVariables false
set_option linter.unusedSimpArgs false
set_option maxRecDepth 8192
set_option maxHeartbeats 40000000
theorem bl{P:Prop}(h:P:=by(repeat(first|with_reducible assumption|with_reducible exact Below.refl _ _|with_reducible refine Below.setCell ?_ ?_ _|with_reducible refine Below.alloc ?_ ?_ _|with_reducible refine below_drewN' ?_ _|with_reducible refine Below.drew ?_|with_reducible refine Below.trans ?_ (Below.mono (by assumption) ?_)|omega|(dsimp only;omega)|(simp only[bE,dh,World.size_alloc,World.size_setCell];omega)|(solve|simp)|(solve|(simp;omega))))):P:=h
theorem bx{P:Prop}(h:P:=by((apply aC.cast);(repeat(first|with_reducible assumption|((with_reducible apply aC.new1);(first|with_reducible rfl|rfl|(solve|simp)))|with_reducible apply aC.drewN|with_reducible apply aC.drew|with_reducible apply aC.set|with_reducible apply aC.other|with_reducible apply aC.alloc|(with_reducible apply aC.below;rotate_left;with_reducible assumption;rotate_right)|with_reducible rfl|omega|(dsimp only;omega)|(simp only[bE,dh,World.size_alloc,World.size_setCell];omega)|rfl|(solve|simp)|(solve|(simp;omega)))))):P:=h
theorem ahx{P:Prop}(h:P:=by
 go_wp2_with fail
 have oK:Below W.heap.size W w7:=hbw.trans (oZ.mono hbw.size)
 have R1:=Lib.hid (H1.out.below oK H1.out.lt)
 have R2:=Lib.hid (H2.out.below oK H2.out.lt)
 have R3:=Lib.hid (H3.out.below oK H3.out.lt)
 have R4:=Lib.hid (H4.out.below oK H4.out.lt)
 have HV7:=Lib.hid (HV.out.below (Sc.out.trans (oK.mono Sc.out.size)))
 obtain⟨c1,f1,Ll,n1,m1⟩:=R1.out.rules
 obtain⟨c2,f2,l2',n2,m2⟩:=R2.out.rules
 obtain⟨c4,f4,l4',n4,m4⟩:=R4.out.rules
 have hS0:SK w7 w.heap.size (w.heap.size+1) w1.heap.size n p w7:=SK.of ⟨c2 0,c4 0⟩ Ll (Below.refl _ _)
 refine wp_region_noPanic ?_
 refine wp_region_held_drew (S:=(fun W'=>W'.cell? ⟨w.heap.size+1,0,none⟩=some (.int .i64 n)∧W'.cell? ⟨w1.heap.size,0,none⟩=some (.int .i64 p)∧∃X,Below w7.heap.size w7 X∧(W'=X∨∃u,W'=X.setCell ⟨w.heap.size,1,none⟩ u))) aj (SK.of ⟨c2 0,c4 0⟩ Ll aD) (fun hHeld=>?_)
 ((refine wpAnyH_take (i:=0) (oi:=⟨some 49,_,_,_,_,_⟩) (v:=?_) rfl aj aj aj (fun _ _ _ h=>h) (Or.inl ⟨aF,?_⟩) aZ ?_);rotate_left;(focus((intro w hSw);(try dsimp only at hSw);go_simp;(try with_reducible rfl)));(try simp only[pt]))
 ((refine wpAnyH_take (i:=3) (oi:=⟨some 52,_,_,_,_,_⟩) (v:=?_) rfl aj aj aj (fun _ _ _ h=>h) (Or.inl ⟨aF,?_⟩) aZ ?_);rotate_left;(focus((intro w hSw);(try dsimp only at hSw);go_simp;(try with_reducible rfl)));(try simp only[pt]))
 ((refine wpAnyH_take (i:=4) (oi:=⟨some 53,_,_,_,_,_⟩) (v:=?_) rfl aj aj aj (fun _ _ _ h=>h) (Or.inl ⟨aF,?_⟩) aZ ?_);rotate_left;(focus((intro w hSw);(try dsimp only at hSw);go_simp;(try with_reducible rfl)));(try simp only[pt]))
 ((refine wpAnyH_take (i:=5) (oi:=⟨some 54,_,_,_,_,_⟩) (v:=?_) rfl aj aj aj (fun _ _ _ h=>h) (Or.inl ⟨aF,?_⟩) aZ ?_);rotate_left;(focus((intro w hSw);(try dsimp only at hSw);go_simp;(try with_reducible rfl)));(try simp only[pt]))
 ((refine wpAnyH_take (i:=6) (oi:=⟨some 55,_,_,_,_,_⟩) (v:=?_) rfl aj aj aj (fun _ _ _ h=>h) (Or.inl ⟨aF,?_⟩) aZ ?_);rotate_left;(focus((intro w hSw);(try dsimp only at hSw);go_simp;(try with_reducible rfl)));(try simp only[pt]))
 ((refine wpAnyH_take (i:=7) (oi:=⟨some 56,_,_,_,_,_⟩) (v:=?_) rfl aj aj aj (fun _ _ _ h=>h) (Or.inl ⟨aF,?_⟩) aZ ?_);rotate_left;(focus((intro w hSw);(try dsimp only at hSw);go_simp;(try with_reducible rfl)));(try simp only[pt]))
 refine wpAnyH_ready (rs:=[1,8]) aj aI ?_
 refine AllReadyH.cons (o:=⟨some 50,_,_,_,_,_⟩) rfl (fun K hK=>?_) (AllReadyH.cons (o:=⟨some 57,_,_,_,_,_⟩) rfl (fun K hK=>?_) AllReadyH.nil)
 ·go_simp
  refine hK.out _ _ (SK.of ⟨c2 0,c4 0⟩ Ll aD) (fun hHeld=>?_)
  clear hK K
  (try simp only[pt])
  refine wpAnyH_ready (rs:=[2,8]) aj aI ?_
  refine AllReadyH.cons (o:=⟨some 51,_,_,_,_,_⟩) rfl (fun K hK=>?_) (AllReadyH.cons (o:=⟨some 57,_,_,_,_,_⟩) rfl (fun K hK=>?_) AllReadyH.nil)
  ·go_simp
   with_reducible refine(vw _ (nV l) _ (HV7.out.below aD) PX).mono ?_
   rintro en w8 ⟨v8,rfl,xQ,jU⟩
   have OJ:=jU.size
   (try simp only[bE,dh,World.size_alloc] at OJ)
   have LX:Below w7.heap.size w7 w8:=aD
   have zN:=Lib.hid xQ
   clear xQ
   dsimp only
   refine hK.out _ _ (SK.of ⟨c2 0,c4 0⟩ Ll LX) (fun hHeld=>?_)
   clear hK K
   (try simp only[pt])
   refine wpAnyH_ready (rs:=[8]) aj aI ?_
   refine AllReadyH.cons (o:=⟨some 57,_,_,_,_,_⟩) rfl (fun K hK=>?_) AllReadyH.nil
   go_simp
   refine hK.out _ _ (SK.of ⟨c2 0,c4 0⟩ Ll aD) (fun hHeld=>?_)
   clear hK K
   (try simp only[pt])
   refine wpAnyH_ready (rs:=[9]) aj aI ?_
   refine AllReadyH.cons (o:=⟨some 58,_,_,_,_,_⟩) rfl (fun K hK=>?_) AllReadyH.nil
   go_simp
   have Da:Below w7.heap.size w7 (w8.alloc (.cells #[.int .i64 p,.int .i64 n,.int .i64 who] 164)):=aD
   with_reducible refine(wX v8 (nV l) l1.length (GV (p,n,who)) w8.heap.size _ w7.heap.size ((zN.out.le (base':=w7.heap.size) ru).kept ?_) ?_ (Fy (p,n,who)) ?_ ?_ ?_ ?_).mono ?_
   focus exact bl
   focus(rw[lF];omega)
   focus(rw[Z6];exact bx)
   focus(intro b hb;(have h1:=zN.out.fP b hb);(have h2:=(zN.out.row.lt b hb).2);(try simp only[bE,dh,World.size_alloc] at h1 h2⊢);omega)
   focus(first|omega|(simp only[bE,dh,World.size_alloc];omega))
   focus(rw[lF];exact HBY.out)
   rintro en w9 ⟨v9,rfl,vN,lg⟩
   have nK:Below w7.heap.size w7 w9:=(((zN.out.le (base':=w7.heap.size) ru).kept aD)).below lg Da (Nat.le_refl _) ru
   rw[HZ1.out] at vN
   obtain⟨a9,jo,rfl,_⟩:=vN.sl.shape
   have Bt:=Lib.hid vN
   clear vN lg
   dsimp only
   refine hK.out _ _ (SK.of ⟨c2 0,c4 0⟩ Ll nK) (fun hHeld=>?_)
   clear hK K
   (try simp only[pt])
   clear zN jU LX Da
   ((refine wpAnyH_take (i:=10) (oi:=⟨some 59,_,_,_,_,_⟩) (v:=?_) rfl aj aj aj (fun _ _ _ h=>h) (Or.inl ⟨aF,?_⟩) aZ ?_);rotate_left;(focus((intro w hSw);(try dsimp only at hSw);go_simp;(try with_reducible rfl)));(try simp only[pt]))
   obtain⟨c9,f9,l9,n9,m9⟩:=(R1.out.below nK R1.out.lt).rules
   refine wpAnyH_ready (rs:=[11]) aj aI ?_
   refine AllReadyH.cons (o:=⟨none,_,_,_,_,_⟩) rfl (fun K hK=>?_) AllReadyH.nil
   go_simp
   refine hK.out _ _ (SK.set ⟨c2 0,c4 0⟩ ah ah l2' l4' _ nK) (fun hHeld=>?_)
   clear hK K c9 f9 l9 n9 m9
   refine wpAnyH_done aj (NoPanic.normal ?_) _
   have X1:aC (w9.setCell ⟨w.heap.size,1,none⟩ (.slice a9 zs.length jo)) w.heap.size #[.int .i64 size,.slice a9 zs.length jo] 51:=(R1.out.below nK R1.out.lt).set 1 _
   have X3:=(R3.out.below nK R3.out.lt).other ⟨w.heap.size,1,none⟩ (.slice a9 zs.length jo) Qe
   have X4:=(R4.out.below nK R4.out.lt).other ⟨w.heap.size,1,none⟩ (.slice a9 zs.length jo) P_
   have qp:=Lib.hid (Bt.out.setOther (b:=w.heap.size) ah 1 (.slice a9 zs.length jo))
   have pV:Below w.heap.size w (w9.setCell ⟨w.heap.size,1,none⟩ (.slice a9 zs.length jo)):=((Sc.out.trans (oK.mono Sc.out.size)).trans (nK.mono ah)).setCell (p:=⟨w.heap.size,1,none⟩) (Nat.le_refl _) _
   have hDl:D<W.heap.size:=(Array.getElem?_eq_some_iff.1 HK.out).1
   have hzw:=oK.size
   have XA:(w9.setCell ⟨w.heap.size,1,none⟩ (.slice a9 zs.length jo)).heap[D]?=some (.deferred (some [])):=by
    rw[heap_setCell_other _ _ _ _ JY]
    exact(nK.block D ah).trans ((oK.block D ah).trans HK.out)
   generalize w9.setCell ⟨w.heap.size,1,none⟩ (.slice a9 zs.length jo)=uH at*
   obtain⟨c1x,f1x,l1x,n1x,m1x⟩:=X1.rules
   obtain⟨c3x,f3x,l3x,n3x,m3x⟩:=X3.rules
   obtain⟨c4x,f4x,l4x,n4x,m4x⟩:=X4.rules
   clear c1 f1 Ll n1 m1 c2 f2 l2' n2 m2 c4 f4 l4' n4 m4
   go_wp2_with fail
   go_region
   all_goals
    go_wp2_with fail
    refine noGoto_ret ?_
    have hset:aC (((uH.setCell ⟨w.heap.size+1+1,0,none⟩ (.int .i64 size)).setCell ⟨w.heap.size+1+1,1,none⟩ (.slice a9 zs.length jo)).drew) (w.heap.size+1+1) #[.int .i64 size,.slice a9 zs.length jo] 51:=((X3.set 0 (.int .i64 size)).set 1 (.slice a9 zs.length jo)).drew
    have xZ:(((uH.setCell ⟨w.heap.size+1+1,0,none⟩ (.int .i64 size)).setCell ⟨w.heap.size+1+1,1,none⟩ (.slice a9 zs.length jo)).drew).heap[D]?=some (.deferred (some [])):=by
     rw[bE,heap_setCell_other _ _ _ _ tJ,heap_setCell_other _ _ _ _ tJ];exact XA
    have hbe:Below w.heap.size w (((uH.setCell ⟨w.heap.size+1+1,0,none⟩ (.int .i64 size)).setCell ⟨w.heap.size+1+1,1,none⟩ (.slice a9 zs.length jo)).drew):=
     ((pV.setCell (p:=⟨w.heap.size+1+1,0,none⟩) rM _).setCell (p:=⟨w.heap.size+1+1,1,none⟩) rM _).drew
    have Bw:=hbe.trans (belowK_b (w:=w2) Pv.out.size _ D _ (Obj.deferred none) hD xZ rfl rfl)
    refine⟨aI,.inl ⟨_,_,rfl,run_takeDeferred xZ,?_⟩⟩
    have b1:=((Own.from (fI (β:=Unit) _ 51 (fun _=>_)) w2.heap.size).putObj (s:=()) (Obj.deferred none) hset hD xZ rfl).rules.1
    have b10:=b1 0
    have b11:=b1 1
    refine⟨.tuple #[.agg #[.int .i64 size,.slice a9 zs.length jo],.int .i64 p,.int .i64 0],J_,_,EP,?_,qp.out.res ah,Bw⟩
    rw[←HZ2.out]
    have ho:=(((qp.out.setOther (b:=w.heap.size+1+1) ah 0 (.int .i64 size)).setOther (b:=w.heap.size+1+1) ah 1 (.slice a9 zs.length jo)).kept (Below.refl _ _).drew)
    exact bB.sl ⟨ownsRow_putObj ho.1 _ xZ rfl,ho.2⟩
  ·go_simp
   refine hK.out _ _ (SK.of ⟨c2 0,c4 0⟩ Ll aD) (fun hHeld=>?_)
   clear hK K
   (try simp only[pt])
   refine wpAnyH_ready (rs:=[2]) aj aI ?_
   refine AllReadyH.cons (o:=⟨some 51,_,_,_,_,_⟩) rfl (fun K hK=>?_) AllReadyH.nil
   go_simp
   with_reducible refine(vw _ (nV l) _ (HV7.out.below aD) PX).mono ?_
   rintro en w8 ⟨v8,rfl,xQ,jU⟩
   have OJ:=jU.size
   (try simp only[bE,dh,World.size_alloc] at OJ)
   have LX:Below w7.heap.size w7 w8:=aD
   have zN:=Lib.hid xQ
   clear xQ
   dsimp only
   refine hK.out _ _ (SK.of ⟨c2 0,c4 0⟩ Ll LX) (fun hHeld=>?_)
   clear hK K
   (try simp only[pt])
   refine wpAnyH_ready (rs:=[9]) aj aI ?_
   refine AllReadyH.cons (o:=⟨some 58,_,_,_,_,_⟩) rfl (fun K hK=>?_) AllReadyH.nil
   go_simp
   have Da:Below w7.heap.size w7 w8:=aD
   with_reducible refine(wX v8 (nV l) l1.length (GV (p,n,who)) w7.heap.size w8 w7.heap.size ((zN.out.le (base':=w7.heap.size) ru).kept ?_) ?_ (Fy (p,n,who)) ?_ ?_ ?_ ?_).mono ?_
   focus exact bl
   focus(rw[lF];omega)
   focus exact(aC.new w7.drew #[.int .i64 p,.int .i64 n,.int .i64 who] 164).below jU JN
   focus(intro b hb;(have h1:=zN.out.fP b hb);(have h2:=(zN.out.row.lt b hb).2);(try simp only[bE,dh,World.size_alloc] at h1 h2⊢);omega)
   focus(first|omega|(simp only[bE,dh,World.size_alloc];omega))
   focus(rw[lF];exact HBY.out)
   rintro en w9 ⟨v9,rfl,vN,lg⟩
   have nK:Below w7.heap.size w7 w9:=(((zN.out.le (base':=w7.heap.size) ru).kept aD)).below lg Da (Nat.le_refl _) ru
   rw[HZ1.out] at vN
   obtain⟨a9,jo,rfl,_⟩:=vN.sl.shape
   have Bt:=Lib.hid vN
   clear vN lg
   dsimp only
   refine hK.out _ _ (SK.of ⟨c2 0,c4 0⟩ Ll nK) (fun hHeld=>?_)
   clear hK K
   (try simp only[pt])
   clear zN jU LX Da
   ((refine wpAnyH_take (i:=10) (oi:=⟨some 59,_,_,_,_,_⟩) (v:=?_) rfl aj aj aj (fun _ _ _ h=>h) (Or.inl ⟨aF,?_⟩) aZ ?_);rotate_left;(focus((intro w hSw);(try dsimp only at hSw);go_simp;(try with_reducible rfl)));(try simp only[pt]))
   obtain⟨c9,f9,l9,n9,m9⟩:=(R1.out.below nK R1.out.lt).rules
   refine wpAnyH_ready (rs:=[11]) aj aI ?_
   refine AllReadyH.cons (o:=⟨none,_,_,_,_,_⟩) rfl (fun K hK=>?_) AllReadyH.nil
   go_simp
   refine hK.out _ _ (SK.set ⟨c2 0,c4 0⟩ ah ah l2' l4' _ nK) (fun hHeld=>?_)
   clear hK K c9 f9 l9 n9 m9
   refine wpAnyH_done aj (NoPanic.normal ?_) _
   have X1:aC (w9.setCell ⟨w.heap.size,1,none⟩ (.slice a9 zs.length jo)) w.heap.size #[.int .i64 size,.slice a9 zs.length jo] 51:=(R1.out.below nK R1.out.lt).set 1 _
   have X3:=(R3.out.below nK R3.out.lt).other ⟨w.heap.size,1,none⟩ (.slice a9 zs.length jo) Qe
   have X4:=(R4.out.below nK R4.out.lt).other ⟨w.heap.size,1,none⟩ (.slice a9 zs.length jo) P_
   have qp:=Lib.hid (Bt.out.setOther (b:=w.heap.size) ah 1 (.slice a9 zs.length jo))
   have pV:Below w.heap.size w (w9.setCell ⟨w.heap.size,1,none⟩ (.slice a9 zs.length jo)):=((Sc.out.trans (oK.mono Sc.out.size)).trans (nK.mono ah)).setCell (p:=⟨w.heap.size,1,none⟩) (Nat.le_refl _) _
   have hDl:D<W.heap.size:=(Array.getElem?_eq_some_iff.1 HK.out).1
   have hzw:=oK.size
   have XA:(w9.setCell ⟨w.heap.size,1,none⟩ (.slice a9 zs.length jo)).heap[D]?=some (.deferred (some [])):=by
    rw[heap_setCell_other _ _ _ _ JY]
    exact(nK.block D ah).trans ((oK.block D ah).trans HK.out)
   generalize w9.setCell ⟨w.heap.size,1,none⟩ (.slice a9 zs.length jo)=uH at*
   obtain⟨c1x,f1x,l1x,n1x,m1x⟩:=X1.rules
   obtain⟨c3x,f3x,l3x,n3x,m3x⟩:=X3.rules
   obtain⟨c4x,f4x,l4x,n4x,m4x⟩:=X4.rules
   clear c1 f1 Ll n1 m1 c2 f2 l2' n2 m2 c4 f4 l4' n4 m4
   go_wp2_with fail
   go_region
   all_goals
    go_wp2_with fail
    refine noGoto_ret ?_
    have hset:aC (((uH.setCell ⟨w.heap.size+1+1,0,none⟩ (.int .i64 size)).setCell ⟨w.heap.size+1+1,1,none⟩ (.slice a9 zs.length jo)).drew) (w.heap.size+1+1) #[.int .i64 size,.slice a9 zs.length jo] 51:=((X3.set 0 (.int .i64 size)).set 1 (.slice a9 zs.length jo)).drew
    have xZ:(((uH.setCell ⟨w.heap.size+1+1,0,none⟩ (.int .i64 size)).setCell ⟨w.heap.size+1+1,1,none⟩ (.slice a9 zs.length jo)).drew).heap[D]?=some (.deferred (some [])):=by
     rw[bE,heap_setCell_other _ _ _ _ tJ,heap_setCell_other _ _ _ _ tJ];exact XA
    have hbe:Below w.heap.size w (((uH.setCell ⟨w.heap.size+1+1,0,none⟩ (.int .i64 size)).setCell ⟨w.heap.size+1+1,1,none⟩ (.slice a9 zs.length jo)).drew):=
     ((pV.setCell (p:=⟨w.heap.size+1+1,0,none⟩) rM _).setCell (p:=⟨w.heap.size+1+1,1,none⟩) rM _).drew
    have Bw:=hbe.trans (belowK_b (w:=w2) Pv.out.size _ D _ (Obj.deferred none) hD xZ rfl rfl)
    refine⟨aI,.inl ⟨_,_,rfl,run_takeDeferred xZ,?_⟩⟩
    have b1:=((Own.from (fI (β:=Unit) _ 51 (fun _=>_)) w2.heap.size).putObj (s:=()) (Obj.deferred none) hset hD xZ rfl).rules.1
    have b10:=b1 0
    have b11:=b1 1
    refine⟨.tuple #[.agg #[.int .i64 size,.slice a9 zs.length jo],.int .i64 p,.int .i64 0],J_,_,EP,?_,qp.out.res ah,Bw⟩
    rw[←HZ2.out]
    have ho:=(((qp.out.setOther (b:=w.heap.size+1+1) ah 0 (.int .i64 size)).setOther (b:=w.heap.size+1+1) ah 1 (.slice a9 zs.length jo)).kept (Below.refl _ _).drew)
    exact bB.sl ⟨ownsRow_putObj ho.1 _ xZ rfl,ho.2⟩
 ·go_simp
  refine hK.out _ _ (SK.of ⟨c2 0,c4 0⟩ Ll aD) (fun hHeld=>?_)
  clear hK K
  (try simp only[pt])
  refine wpAnyH_ready (rs:=[1]) aj aI ?_
  refine AllReadyH.cons (o:=⟨some 50,_,_,_,_,_⟩) rfl (fun K hK=>?_) AllReadyH.nil
  go_simp
  refine hK.out _ _ (SK.of ⟨c2 0,c4 0⟩ Ll aD) (fun hHeld=>?_)
  clear hK K
  (try simp only[pt])
  refine wpAnyH_ready (rs:=[2]) aj aI ?_
  refine AllReadyH.cons (o:=⟨some 51,_,_,_,_,_⟩) rfl (fun K hK=>?_) AllReadyH.nil
  go_simp
  with_reducible refine(vw _ (nV l) _ (HV7.out.below aD) PX).mono ?_
  rintro en w8 ⟨v8,rfl,xQ,jU⟩
  have OJ:=jU.size
  (try simp only[bE,dh,World.size_alloc] at OJ)
  have LX:Below w7.heap.size w7 w8:=aD
  have zN:=Lib.hid xQ
  clear xQ
  dsimp only
  refine hK.out _ _ (SK.of ⟨c2 0,c4 0⟩ Ll LX) (fun hHeld=>?_)
  clear hK K
  (try simp only[pt])
  refine wpAnyH_ready (rs:=[9]) aj aI ?_
  refine AllReadyH.cons (o:=⟨some 58,_,_,_,_,_⟩) rfl (fun K hK=>?_) AllReadyH.nil
  go_simp
  have Da:Below w7.heap.size w7 w8:=aD
  with_reducible refine(wX v8 (nV l) l1.length (GV (p,n,who)) w7.heap.size w8 w7.heap.size ((zN.out.le (base':=w7.heap.size) ru).kept ?_) ?_ (Fy (p,n,who)) ?_ ?_ ?_ ?_).mono ?_
  focus exact bl
  focus(rw[lF];omega)
  focus exact(aC.new w7.drew #[.int .i64 p,.int .i64 n,.int .i64 who] 164).below jU JN
  focus(intro b hb;(have h1:=zN.out.fP b hb);(have h2:=(zN.out.row.lt b hb).2);(try simp only[bE,dh,World.size_alloc] at h1 h2⊢);omega)
  focus(first|omega|(simp only[bE,dh,World.size_alloc];omega))
  focus(rw[lF];exact HBY.out)
  rintro en w9 ⟨v9,rfl,vN,lg⟩
  have nK:Below w7.heap.size w7 w9:=(((zN.out.le (base':=w7.heap.size) ru).kept aD)).below lg Da (Nat.le_refl _) ru
  rw[HZ1.out] at vN
  obtain⟨a9,jo,rfl,_⟩:=vN.sl.shape
  have Bt:=Lib.hid vN
  clear vN lg
  dsimp only
  refine hK.out _ _ (SK.of ⟨c2 0,c4 0⟩ Ll nK) (fun hHeld=>?_)
  clear hK K
  (try simp only[pt])
  clear zN jU LX Da
  ((refine wpAnyH_take (i:=10) (oi:=⟨some 59,_,_,_,_,_⟩) (v:=?_) rfl aj aj aj (fun _ _ _ h=>h) (Or.inl ⟨aF,?_⟩) aZ ?_);rotate_left;(focus((intro w hSw);(try dsimp only at hSw);go_simp;(try with_reducible rfl)));(try simp only[pt]))
  obtain⟨c9,f9,l9,n9,m9⟩:=(R1.out.below nK R1.out.lt).rules
  refine wpAnyH_ready (rs:=[11]) aj aI ?_
  refine AllReadyH.cons (o:=⟨none,_,_,_,_,_⟩) rfl (fun K hK=>?_) AllReadyH.nil
  go_simp
  refine hK.out _ _ (SK.set ⟨c2 0,c4 0⟩ ah ah l2' l4' _ nK) (fun hHeld=>?_)
  clear hK K c9 f9 l9 n9 m9
  refine wpAnyH_done aj (NoPanic.normal ?_) _
  have X1:aC (w9.setCell ⟨w.heap.size,1,none⟩ (.slice a9 zs.length jo)) w.heap.size #[.int .i64 size,.slice a9 zs.length jo] 51:=(R1.out.below nK R1.out.lt).set 1 _
  have X3:=(R3.out.below nK R3.out.lt).other ⟨w.heap.size,1,none⟩ (.slice a9 zs.length jo) Qe
  have X4:=(R4.out.below nK R4.out.lt).other ⟨w.heap.size,1,none⟩ (.slice a9 zs.length jo) P_
  have qp:=Lib.hid (Bt.out.setOther (b:=w.heap.size) ah 1 (.slice a9 zs.length jo))
  have pV:Below w.heap.size w (w9.setCell ⟨w.heap.size,1,none⟩ (.slice a9 zs.length jo)):=((Sc.out.trans (oK.mono Sc.out.size)).trans (nK.mono ah)).setCell (p:=⟨w.heap.size,1,none⟩) (Nat.le_refl _) _
  have hDl:D<W.heap.size:=(Array.getElem?_eq_some_iff.1 HK.out).1
  have hzw:=oK.size
  have XA:(w9.setCell ⟨w.heap.size,1,none⟩ (.slice a9 zs.length jo)).heap[D]?=some (.deferred (some [])):=by
   rw[heap_setCell_other _ _ _ _ JY]
   exact(nK.block D ah).trans ((oK.block D ah).trans HK.out)
  generalize w9.setCell ⟨w.heap.size,1,none⟩ (.slice a9 zs.length jo)=uH at*
  obtain⟨c1x,f1x,l1x,n1x,m1x⟩:=X1.rules
  obtain⟨c3x,f3x,l3x,n3x,m3x⟩:=X3.rules
  obtain⟨c4x,f4x,l4x,n4x,m4x⟩:=X4.rules
  clear c1 f1 Ll n1 m1 c2 f2 l2' n2 m2 c4 f4 l4' n4 m4
  go_wp2_with fail
  go_region
  all_goals
   go_wp2_with fail
   refine noGoto_ret ?_
   have hset:aC (((uH.setCell ⟨w.heap.size+1+1,0,none⟩ (.int .i64 size)).setCell ⟨w.heap.size+1+1,1,none⟩ (.slice a9 zs.length jo)).drew) (w.heap.size+1+1) #[.int .i64 size,.slice a9 zs.length jo] 51:=((X3.set 0 (.int .i64 size)).set 1 (.slice a9 zs.length jo)).drew
   have xZ:(((uH.setCell ⟨w.heap.size+1+1,0,none⟩ (.int .i64 size)).setCell ⟨w.heap.size+1+1,1,none⟩ (.slice a9 zs.length jo)).drew).heap[D]?=some (.deferred (some [])):=by
    rw[bE,heap_setCell_other _ _ _ _ tJ,heap_setCell_other _ _ _ _ tJ];exact XA
   have hbe:Below w.heap.size w (((uH.setCell ⟨w.heap.size+1+1,0,none⟩ (.int .i64 size)).setCell ⟨w.heap.size+1+1,1,none⟩ (.slice a9 zs.length jo)).drew):=
    ((pV.setCell (p:=⟨w.heap.size+1+1,0,none⟩) rM _).setCell (p:=⟨w.heap.size+1+1,1,none⟩) rM _).drew
   have Bw:=hbe.trans (belowK_b (w:=w2) Pv.out.size _ D _ (Obj.deferred none) hD xZ rfl rfl)
   refine⟨aI,.inl ⟨_,_,rfl,run_takeDeferred xZ,?_⟩⟩
   have b1:=((Own.from (fI (β:=Unit) _ 51 (fun _=>_)) w2.heap.size).putObj (s:=()) (Obj.deferred none) hset hD xZ rfl).rules.1
   have b10:=b1 0
   have b11:=b1 1
   refine⟨.tuple #[.agg #[.int .i64 size,.slice a9 zs.length jo],.int .i64 p,.int .i64 0],J_,_,EP,?_,qp.out.res ah,Bw⟩
   rw[←HZ2.out]
   have ho:=(((qp.out.setOther (b:=w.heap.size+1+1) ah 0 (.int .i64 size)).setOther (b:=w.heap.size+1+1) ah 1 (.slice a9 zs.length jo)).kept (Below.refl _ _).drew)
   exact bB.sl ⟨ownsRow_putObj ho.1 _ xZ rfl,ho.2⟩):P:=h
theorem ahw{P:Prop}(h:P:=by
 have HSL:=Lib.hid (show Sl (W.alloc (.cells #[.int .i64 size,.int .i64 0,.int .i64 0] 164)).drew true 3 (.slice (some ⟨W.heap.size,0,none⟩) [GV (size,0,0)].length 1) [GV (size,0,0)] from(Sl.qE (Fy (size,0,0)) rfl).below (Below.refl _ _).drew)
 obtain⟨g,cp,w4,hrun,hown,hgr⟩:=vL (P:=Tryz.prog) (w:=(W.alloc (.cells #[.int .i64 size,.int .i64 0,.int .i64 0] 164)).drew) 49 49 jy i0 (.agg #[.int .i64 0,.int .i64 0,.int .i64 0]) 24 Tryz.underlying49 HI.out.1 HI.out.2.1 HI.out.2.2.1 HI.out.2.2.2 rfl ao (nV l) HC.out ⟨W.heap.size,0,none⟩ 1 [GV (size,0,0)] HSL.out aI JU aR
 have hb4:Below W.heap.size W w4:=Below.grown ((Below.refl _ _).alloc (Nat.le_refl _) _).drew hgr JN (by intro k hk;cases hk)
 have sj:=Lib.hid hown
 have aky:=Lib.hid hrun
 clear hown hrun hgr
 refine wpAnyH_ready (rs:=[7]) aj aI ?_
 refine AllReadyH.cons (o:=⟨some 13,_,_,_,_,_⟩) rfl (fun K hK=>?_) AllReadyH.nil
 rw[if_pos aF]
 refine qC (v:= .slice ao (nV l).length (nV l).length) (u:= .slice (some ⟨W.heap.size,0,none⟩) [GV (size,0,0)].length 1) rfl bT bT aky.out ?_
 (try simp only[pt])
 refine hK.out _ _ (HKP.out _ hb4) (fun hHeld=>?_)
 clear hK K
 (try simp only[pt])
 refine wpAnyH_ready (rs:=[8]) aj aI ?_
 refine AllReadyH.cons (o:=⟨some 14,_,_,_,_,_⟩) rfl (fun K hK=>?_) AllReadyH.nil
 go_simp
 refine hK.out _ _ (HKP.out _ hb4) (fun hHeld=>?_)
 clear hK K
 (try simp only[pt])
 refine wpAnyH_done aj ?_ _
 have hgB:iy B w W:=hW
 have hgl:W.heap.size≤g:=sj.out.fP g rfl|>Nat.le_trans JN
 obtain⟨og,hog,hoc⟩:∃o,w4.heap[g]?=some o∧o.isCells=true:=Vs sj.out aI
 have hng:¬uN B g w4:=fun k=>by
  have h1:=k.same (hb4.block B (Nat.lt_of_lt_of_le hBlt hW0.size))
  have h2:=h1.same (hW0.block B hBlt)
  have:=Mw g h2
  have:=hW0.size
  omega
 have hJ4:J [] w4:=HJ.out _ W w4 none h0 (ay hb4 none) (fun r e=>by cases e)
 have ajH:iy B w w4:=hW.trans (.of hb4 (Nat.lt_of_lt_of_le hBlt hW0.size))
 have HJ4:=Lib.hid hJ4
 have hml:(nV l++[GV (size,0,0)])=nV (l++[(size,0,0)]):=aI
 rw[hml] at sj
 simp only[lF,List.length_append,List.length_cons,List.length_nil] at sj⊢
 have ae1:(l++[(size,0,0)]).length=l.length+1:=aI
 have HAT:=Lib.hid (fun k x h=>aaO (size:=size) (l:=l) (k:=k) (x:=x) hr h)
 have hpre:∀k,jv 0 ((l++[(size,0,0)]).take k)<+:wO size l:=fun k=>Lc _ _ k
 have akA:=Lib.hid hpre
 have hend:jv 0 ((l++[(size,0,0)]).take (l.length+1))=wO size l:=by rw[←ae1,List.take_length];rfl
 have akI:=Lib.hid hend
 have HEQ:=Lib.hid (fun k=>(VX 0 ((l++[(size,0,0)]).take k)))
 clear hend hpre HE HKP n1 m1 l1 hJ4 hml
 generalize(l++[(size,0,0)])=m at*
 gi_wp2
 gi_loopw [3,15] (fun t3 t wr=>∃k:Nat,k≤m.length∧t3=.int .i64 (mE 0 (m.take k))∧t=.int .i64 k∧iy B w wr∧wr.heap[g]?=some og∧¬uN B g wr∧J (jv 0 (m.take k)) wr) (fun _ t _=>m.length-(intOf t).toNat)
 case atStart=>exact⟨0,Nat.zero_le _,rfl,rfl,ajH,hog,hng,HJ4.out⟩
 case round=>
  obtain⟨k,hk,rfl,rfl,hbw,hgo,ahG,hJs⟩:=hrel
  have Xf:=Lib.hid hJs
  have HGO:=Lib.hid (And.intro hgo ahG)
  clear hJs ahG
  have hBr:B<wr.heap.size:=Nat.lt_of_lt_of_le hBlt hbw.size
  have hfr:¬uN B wr.heap.size wr:=fun k=>Nat.lt_irrefl _ (hbw.2.2.2 (fun b h=>by rw[Mw b h];exact hBlt) _ k)
  have HFR:=Lib.hid hfr
  clear hfr
  by_cases hlt:k<m.length
  ·obtain⟨x,hx⟩:∃x,m[k]?=some x:=⟨_,List.getElem?_eq_getElem hlt⟩
   obtain⟨h1,h2,h3,h4,h5⟩:=HAT.out k x hx
   have HST:=Lib.hid (Rm (a:=0) hx)
   have HEN:=Lib.hid (Nj (a:=0) hx)
   have hfl:=HEQ.out k
   rw[List.length_take] at hfl
   obtain⟨_,_,he,hb,d0,d1,d2⟩:=Sl.sp sj.out.sl hx
   cases he
   have c0:=(World.cell?_of_block (w:=w4) (a:=⟨g,0+k*3,none⟩) (hgo.trans hog.symm)).trans d0
   have c1:=(World.cell?_of_block (w:=w4) (a:=⟨g,0+k*3+1,none⟩) (hgo.trans hog.symm)).trans d1
   have c2:=(World.cell?_of_block (w:=w4) (a:=⟨g,0+k*3+2,none⟩) (hgo.trans hog.symm)).trans d2
   simp only[Nat.zero_add] at c0 c1 c2
   clear hgo hx d0 d1 d2
   have hwr:IntKind.i64.wrap ((k:Int)+1)=k+1:=IntWalk.i64_in _ ah
   obtain⟨p,q,u⟩:=x
   dsimp only at h1 h2 h3 h4 h5 c0 c1 c2
   have hsum:IntKind.i64.wrap (p+q)=p+q:=IntWalk.i64_in _ ah
   have hbx:Below wr.heap.size wr (wr.alloc (.cells #[.int .i64 p,.int .i64 q,.int .i64 u] 164)):=(Below.refl _ _).alloc (Nat.le_refl _) _
   have hbn:aC (wr.alloc (.cells #[.int .i64 p,.int .i64 q,.int .i64 u] 164)) wr.heap.size #[.int .i64 p,.int .i64 q,.int .i64 u] 164:=aC.new _ _ _
   have HJ1:=Lib.hid (HJ.out _ wr _ none Xf.out (ay hbx none) (fun r e=>by cases e))
   have HF1:=Lib.hid (iy.of hbx hBr)
   have HBN:=Lib.hid hbn
   have akH:=Lib.hid (show¬uN B wr.heap.size (wr.alloc (.cells #[.int .i64 p,.int .i64 q,.int .i64 u] 164)) from fun k=>HFR.out (k.same (hbx.block B hBr)))
   clear hbn hbx
   generalize hat:mE 0 (m.take k)=a0 at*
   by_cases hpa:a0<p
   ·have hgt:decide (a0<p)=true:=by simpa using hpa
    have hsub:IntKind.i64.wrap (p-a0)=p-a0:=IntWalk.i64_in _ ah
    have hst:=HST.out
    rw[show hole a0 (p,q,u)=[(a0,p-a0,0)] from if_pos hpa] at hst
    have JI:=Lib.hid hst
    clear hst
    obtain⟨fn,tmps,assign,body,hy,hR⟩:=HY.out _ (a0,p-a0,0) _ HJ1.out ah
    have HR:=Lib.hid hR
    clear hR
    gi_wp2
    refine HR.out.mono ?_
    rintro e w3 (⟨rfl,hJ3,hk3⟩|⟨rfl,hJx3⟩)
    ·have hbs:=hk3.box HBN.out akH.out
     obtain⟨b1,b2,b3,b4,b5⟩:=hbs.rules
     have afM:=HF1.out.trans hk3
     obtain⟨ahY,ahH⟩:=afM.2.2.1 g og HGO.out.1 hoc HGO.out.2
     have zO:=Lib.hid (And.intro ahY ahH)
     have HK3:=Lib.hid afM
     have HJ3:=Lib.hid hJ3
     clear hbs ahY ahH afM hk3 hJ3
     gi_wp2
     go_roundw
     case rel=>exact⟨k+1,ah,by rw[HEN.out],bI,hbw.trans HK3.out,zO.out.1,zO.out.2,by rw[JI.out];exact HJ3.out⟩
     case measure=>simp[intOf];omega
    ·gi_wp2
     refine bodyPost_ret (results_none rfl _ _ _) rfl ?_
     exact⟨⟨_,rfl⟩,.inr ⟨_,by rw[←JI.out];exact akA.out _,hJx3⟩⟩
   ·have hgt:decide (a0<p)=false:=by simpa using hpa
    have hst:=HST.out
    rw[show hole a0 (p,q,u)=[] from if_neg hpa,List.append_nil] at hst
    have JI:=Lib.hid hst
    clear hst
    gi_wp2
    refine⟨fun _ h=>(by cases h),?_⟩
    obtain⟨b1,b2,b3,b4,b5⟩:=HBN.out.rules
    gi_wp2
    go_roundw
    case rel=>exact⟨k+1,ah,by rw[HEN.out],bI,hbw.trans HF1.out,(HF1.out.2.2.1 g og HGO.out.1 hoc HGO.out.2).1,(HF1.out.2.2.1 g og HGO.out.1 hoc HGO.out.2).2,by rw[JI.out];exact HJ1.out⟩
    case measure=>simp[intOf];omega
  ·obtain rfl:k=m.length:=by omega
   gi_wp2
   go_end0
   exact⟨⟨_,rfl⟩,.inl ⟨_,rfl,by rw[←akI.out,←ae1];exact Xf.out⟩⟩):P:=h
theorem tQ{P:Prop}(h:P:=by
 have HN:=Lib.hid (show¬dW p from fun h=>by
  have h':=h.chans _ (List.mem_of_getElem? OW.out)
  unfold iW at h'
  dsimp only at h'
  omega)
 go_wp2_with fail
 go_ret
 exact⟨⟨1,aI,Aa⟩,(hX.trans (hbc.mono hX.size)).alloc (hX.trans (hbc.mono hX.size)).size _⟩):P:=h
theorem afi{P:Prop}(h:P:=by
 go_enter Tryz.func64,Tryz.ntmps64
 go_wp2_with fail
 have hbx:=aC.new w #[.slice a1 p.parts.length c1,.int .i64 p.frame,.slice a2 p.wins.length c2,.slice a3 p.chans.length c3] 26
 have hx1:Below w.heap.size w (w.alloc (.cells #[.slice a1 p.parts.length c1,.int .i64 p.frame,.slice a2 p.wins.length c2,.slice a3 p.chans.length c3] 26)):=(Below.refl _ _).alloc (Nat.le_refl _) _
 have hz1:(w.alloc (.cells #[.slice a1 p.parts.length c1,.int .i64 p.frame,.slice a2 p.wins.length c2,.slice a3 p.chans.length c3] 26)).heap.size=w.heap.size+1:=aI
 generalize hW1:w.alloc (.cells #[.slice a1 p.parts.length c1,.int .i64 p.frame,.slice a2 p.wins.length c2,.slice a3 p.chans.length c3] 26)=w1 at*
 clear hW1
 have He:=Lib.hid hbx
 obtain⟨hc1,hf1,ahT,hn1,hm1⟩:=hbx.rules
 clear hbx
 have WT:=Lib.hid (HP.out.below hx1)
 go_loopw [3,4] (fun s t W=>∃i:Nat,i≤p.wins.length∧s=.bool true∧t=.int .i64 i∧W=w1) (fun _ t _=>p.wins.length-(intOf t).toNat)
 case atStart=>exact⟨0,Nat.zero_le _,rfl,rfl,rfl⟩
 case round=>as_aux_lemma=>
  obtain⟨i,hi,rfl,rfl,rfl⟩:=hrel
  by_cases hlt:i<p.wins.length
  ·have hwi:IntKind.i64.wrap ((i:Int)+1)=i+1:=IntWalk.i64_in _ ah
   go_wp2_with fail
   go_roundw
   case rel=>exact⟨i+1,ah,rfl,bI,EZ⟩
   case measure=>simp[intOf];omega
  ·go_wp2_with fail
   go_ret
   exact⟨⟨4,aI,Aa⟩,hx1⟩):P:=h
theorem Hr{P:Prop}(h:P:=by
 refine HC.out.mono ?_
 rintro e w1 ⟨rfl,hb1⟩
 go_wp2_with fail
 go_roundw
 case rel=>
  refine⟨i+1,ah,bI,hbw.trans (hb1.mono hbw.size),?_⟩
  intro j y hj hy
  rcases Nat.lt_succ_iff_lt_or_eq.1 hj with hj|rfl
  ·exact HP.out j y hj hy
  ·rw[HX.out] at hy;cases hy;exact uG.out
 case measure=>simp[intOf];omega):P:=h
theorem yC{P:Prop}(h:P:=by
 intro v' w1 hown hgrow _
 try simp only[Nat.zero_add,List.nil_append] at hown
 have HO:=Lib.hid hown
 have HG:=Lib.hid hgrow
 clear hown hgrow
 go_wp2_with fail
 go_ret
 exact⟨_,rfl,⟨HO.out,HS.out⟩,((Below.refl _ _).alloc (Nat.le_refl _) _).grown HG.out aI (by intro k hk;simp[Value.ownBlock] at hk;omega)⟩):P:=h
theorem II{P:Prop}(h:P:=by
 have HN:=Lib.hid (show¬dW p from fun h=>by
  have h':=(HDR.out.1 (HIF.out.1 (h.rows l (List.mem_of_getElem? HLI.out)))).1
  unfold mq at h'
  dsimp only at h'
  omega)
 go_wp2_with fail
 go_ret
 exact⟨⟨1,aI,Aa⟩,(hX.trans (hby.mono hX.size)).alloc (hX.trans (hby.mono hX.size)).size _⟩):P:=h
theorem yB{P:Prop}(h:P:=by
 go_wp2_with fail
 go_ret
 refine⟨?_,hbw⟩
 rw[Na ?_];·rfl
 intro x hx
 obtain⟨j,hj,hxj⟩:=List.getElem_of_mem hx
 exact HP.out j x ah YS):P:=h
theorem kZ{P:Prop}(h:P:=by
 go_enter Tryz.func50,Tryz.ntmps50
 go_wp2_with fail
 go_ret
 exact⟨rfl,aD⟩):P:=h
theorem mU{P:Prop}(h:P:=by
 go_wp2_with fail
 go_ret
 exact⟨rfl,aD⟩):P:=h
theorem Mj{P:Prop}(h:P:=by
 rw[eH hx0,List.filter_append]
 have h1:(xs.take i0).filter (fun x=>!p x)=xs.take i0:=List.filter_eq_self.2 (fun x hx=>by
  obtain⟨j,hj,rfl⟩:=List.getElem_of_mem hx
  have hj':j<i0:=by rw[List.length_take] at hj;omega
  rw[List.getElem_take,fG j _ hj' (List.getElem?_eq_getElem ah)];rfl)
 rw[h1]
 simp[Hw]):P:=h
theorem yA{P:Prop}(h:P:=by
 refine HC.out.mono ?_
 rintro e w1 ⟨rfl,hb1⟩
 go_wp2_with fail
 go_ret
 exact⟨by rw[AQ HX.out uG.out HP.out];rfl,hbw.trans (hb1.mono hbw.size)⟩):P:=h
theorem yx{P:Prop}(h:P:=by
 rcases hform with h0|⟨b,off,ha,hb,hc⟩
 ·subst h0;simp at hlt
 ·exact⟨b,off,ha,hb,(hc i _ hx).below hbw hb⟩):P:=h
theorem Sr{P:Prop}(h:P:=by
 go_roundw
 case rel=>
  refine⟨i,j+1,zs,ah,ah,rfl,bI,Xd.out,lV.out,aA HG.out (ay hb2' (some g)),?_,fun r hr=>HDR.out r ah⟩
  rw[eH HX.out,List.filter_append,←G8.out]
  simp[uG.out]
 case measure=>simp[intOf];omega):P:=h
theorem oO{P:Prop}(h:P:=by
 go_wp2_with fail
 go_ret
 exact⟨by simp[h],aD⟩):P:=h
theorem yw{P:Prop}(h:P:=by
 go_wp2_with fail
 go_ret
 exact⟨_,rfl,⟨World.ownsRow_nil _ _ _ _,aI⟩,Below.refl _ _⟩):P:=h
theorem Mi{P:Prop}(h:P:=by
 go_wp2_with fail
 with_reducible refine hI.mono ?_
 rintro e w1 ⟨rfl,hb1⟩
 go_wp2_with fail
 go_ret
 exact⟨_,rfl,by rw[HF.out];exact(HO.out.kept hb1).sl,rfl,ay hb1 _⟩):P:=h
theorem Yj{P:Prop}(h:P:=by
 rw[hC2]
 refine⟨_,rfl,bB.inserted (cur:=cur) agj.out hx hbg hroom hcm hcs G8.out hi (setRow_heap w4 g C1 _ _ (0,0) Iz.out),?_⟩
 exact aA (ay hq (some g)) (aA agn.out ⟨rfl,rfl,rfl,uP,fun b hb hne=>setRow_other w4 g b _ uQ⟩)):P:=h
theorem Yi{P:Prop}(h:P:=by
 have HN:=Lib.hid (show¬dW p from fun h=>by have h':=h.part _ (List.mem_of_getElem? OW.out);unfold j_ at h';dsimp only at h';omega)
 go_wp2_with fail
 go_ret
 exact⟨⟨1,aI,Aa⟩,hx1.trans ((hbw.alloc hws _).mono hx1.size)⟩):P:=h
theorem aeH{P:Prop}(h:P:=by
 generalize sG l now=k at*
 go_wp2_with fail
 ((refine wp_region_quiet_below aj aj ?_);(repeat(go_big_quiet_step (fail)));(refine wpQuiet_nil ?_);(intro _ hw');(obtain⟨⟨dq,osq⟩,hw''⟩:=hw');(subst hw'');(have oZ:=below_regrown wr dq osq);(generalize Go.Sort.grow (redrawn wr dq) osq=w7 at*);(have Io:=oZ.size))
 go_wp2_with fail
 exact bodyPost_ret (v:= .tuple #[.slice as_ k caps,u2]) (by simp[results,Tryz.results108,go_sem]) rfl ⟨_,_,rfl,HOP.out.kept oZ,HSD.out.below (hbw.trans (oZ.mono hws)),HOB.out,hbw.trans (oZ.mono hws)⟩):P:=h
theorem Mh{P:Prop}(h:P:=by
 go_ret
 refine⟨_,rfl,?_,rfl,zO.out⟩
 have h:=r_.out.sl
 rw[G8.out,List.take_of_length_le (Nat.le_refl _)] at h
 exact h):P:=h
theorem aeF{P:Prop}(h:P:=by
 have HN:=Lib.hid (show¬dW p from fun h=>by
  have h':=h.part _ (List.mem_of_getElem? OW.out)
  unfold j_ at h'
  dsimp only at h'
  obtain⟨y0,y1,y2⟩:=HY.out
  rcases(show k=0∨k=1∨k=2 by omega) with e|e|e
  ·have:=y0 e;omega
  ·have:=y1 e;omega
  ·have:=y2 e;omega)
 go_wp2_with fail
 go_ret
 exact⟨⟨1,aI,Aa⟩,hx1.trans (hx3.mono hx1.size)⟩):P:=h
theorem Yg{P:Prop}(h:P:=by
 rcases ho.row.2 with⟨h0,_⟩|⟨g',cap',cur,he,_,hg,_,_,h3,h4⟩
 ·simp at h0
 ·simp only[Value.slice.injEq,Option.some.injEq,Addr.mk.injEq,and_true,true_and] at he
  obtain⟨rfl,_,rfl⟩:=he
  exact⟨cur,hg,h3,h4⟩):P:=h
theorem yu{P:Prop}(h:P:=by
 rcases hform with h0|⟨b,off,hb,_⟩
 ·exact h0
 ·cases hb):P:=h
theorem Yf{P:Prop}(h:P:=by
 exact(hxB.setCell (p:=⟨w.heap.size+1,0,none⟩) YJ _).setCell (p:=⟨w.heap.size+1+1,0,none⟩) rM _):P:=h
theorem IG{P:Prop}(h:P:=by
 go_ret
 refine⟨_,rfl,?_,Iz.out⟩
 first|(rw[HL.out];exact sj.out)|exact sj.out):P:=h
theorem aeD{P:Prop}(h:P:=by
 have HNH:=Lib.hid (show vZ m (xp,xf,xl)=false by unfold vZ;simp;omega)
 go_wp2_with fail
 go_roundw
 case rel=>
  refine⟨i+1,ah,bI,Lib.hid ?_,hbw.alloc hws _⟩
  intro j x hj hx
  rcases Nat.lt_succ_iff_lt_or_eq.1 hj with hj|rfl
  ·exact LJ.out j x hj hx
  ·rw[OW.out] at hx;cases hx;exact HNH.out
 case measure=>simp[intOf];omega):P:=h
theorem aew{P:Prop}(h:P:=by
 go_wp2_with fail
 go_roundw
 case rel=>
  refine⟨i+1,ah,bI,Lib.hid ?_,hbc.alloc ajF _⟩
  intro j x hj hx
  rcases Nat.lt_succ_iff_lt_or_eq.1 hj with hj|rfl
  ·exact HR3.out j x hj hx
  ·rw[OW.out] at hx;cases hx;exact OE.out
 case measure=>simp[intOf];omega):P:=h
theorem aev{P:Prop}(h:P:=by
 induction l generalizing a with
 |nil=>simp[rightG,mE]
 |cons x r ih=>
  simp only[List.cons_append,rightG,ih,mE]
  constructor
  ·rintro⟨h1,h2,h3,h4,h5,h6⟩;exact⟨⟨h1,h2,h3,h4,h5⟩,h6⟩
  ·rintro⟨⟨h1,h2,h3,h4,h5⟩,h6⟩;exact⟨h1,h2,h3,h4,h5,h6⟩):P:=h
theorem aeu{P:Prop}(h:P:=by
 intro x hm
 rcases List.mem_or_eq_of_mem_set hm with hm|rfl
 ·exact h.val x hm
 ·exact⟨_,rfl,EU,by
   intro c hc
   rw[Array.toList_setIfInBounds] at hc
   rcases List.mem_or_eq_of_mem_set hc with hc|rfl
   ·exact hone c hc
   ·exact hu⟩):P:=h
theorem Yd{P:Prop}(h:P:=by
 exact hK _ _ ((KeepsOthers.alloc _ _).from _) ((Below.refl _ W).alloc hB.size _) ⟨hno,hB.alloc hB.size _⟩ ⟨W.heap.size,aC.new W _ _,rfl⟩):P:=h
theorem Mg{P:Prop}(h:P:=by
 intro r hr
 rw[List.getElem?_set_ne ah]
 exact HDR.out r ah):P:=h
theorem Yc{P:Prop}(h:P:=by
 simp[Instr.slice,run_underlying ht,Instr.sliceBounds,Instr.sliceBound,asIntOf,sizeOf,typeInfo,hi,hs,hm,hmc,h1]):P:=h
theorem Yb{P:Prop}(h:P:=by
 exact⟨rfl,rfl,rfl,uP,fun c hc hne=>setRow_other W b c _ uQ⟩):P:=h
theorem Ya{P:Prop}(h:P:=by
 rw[OM]
 simp only[List.size_toArray,List.length_append,List.length_take,List.length_drop,Array.length_toList]
 omega):P:=h
theorem aen{P:Prop}(h:P:=by
 have hne:za=[]:=by have:=HZ.out;rw[qc (fun h=>ah)] at this;simpa using this
 gi_wp2
 refine bodyPost_ret (results_none rfl _ _ _) rfl ?_
 exact⟨⟨_,rfl⟩,.inl ⟨_,hne.symm,HJ1.out⟩⟩):P:=h
theorem IE{P:Prop}(h:P:=by
 go_wp2_with fail
 go_ret
 exact⟨aI,aD⟩):P:=h
theorem X_{P:Prop}(h:P:=by
 have HF:=Lib.hid hf
 clear hf
 go_wp2_with fail
 go_ret
 exact⟨by rw[HF.out];simp<;>omega,hx1⟩):P:=h
theorem X9{P:Prop}(h:P:=by
 exact⟨rfl,rfl,rfl,uP,fun c hc=>setRow_other W b c _ ah⟩):P:=h
theorem aej{P:Prop}(h:P:=by
 exact(hxB.setCell (p:=⟨w.heap.size,0,none⟩) (Nat.le_refl _) _).setCell (p:=⟨w.heap.size+1,0,none⟩) YJ _):P:=h
theorem aei{P:Prop}(h:P:=by
 go_enter Tryz.func87,Tryz.ntmps87
 go_wp2_with fail
 go_ret
 exact⟨_,rfl,by rw[HS.out];exact hsl0.out.below aD,.inl ⟨rfl,HS.out⟩,aD⟩):P:=h
theorem X7{P:Prop}(h:P:=by
 intro c hc
 simp only[List.mem_cons,List.not_mem_nil,or_false] at hc
 subst hc;rfl):P:=h
theorem aee{P:Prop}(h:P:=by
 refine⟨b,off,PO,hb,fun j x hx=>?_⟩
 rw[List.getElem?_take] at hx
 split at hx
 ·exact hc j x hx
 ·cases hx):P:=h
theorem aed{P:Prop}(h:P:=by
 intro i u m hu hm
 cases i with
 |zero=>simp at hu hm;subst hu hm;exact hl
 |succ i=>exact h2 i u m (by simpa using hu) (by simpa using hm)):P:=h
theorem aec{P:Prop}(h:P:=by
 intro k ok hk hki ajJ hno
 refine hfree k ok hk hki ?_ hno
 by_cases hjk:j=k
 ·subst hjk;exact hjun
 ·rwa[getD_set_ne true hjk] at ajJ):P:=h
theorem aeb{P:Prop}(h:P:=by
 intro j m hj hm
 rcases Nat.lt_succ_iff_lt_or_eq.1 hj with hj|rfl
 ·exact HR.out j m hj hm
 ·rw[HLI.out] at hm;cases hm;exact HRO.out):P:=h
theorem Sq{P:Prop}(h:P:=by
 go_wp2_with fail
 go_ret
 exact⟨⟨ao,rfl,HS.out⟩,rfl⟩):P:=h
theorem ad'{P:Prop}(h:P:=by
 rw[List.take_zero,List.nil_append,Nat.zero_add,List.drop_of_length_le aR,List.append_nil,Array.toArray_toList]):P:=h
theorem ad9{P:Prop}(h:P:=by
 unfold wpOp
 simp only[hj]
 rw[if_pos (by unfold Region.wanted;rw[hg'])]
 exact .inl (h' _ (Lib.hid fun _ _ h1 h2=>⟨h1,h2⟩))):P:=h
theorem ad6{P:Prop}(h:P:=by
 unfold wpOp
 simp only[hi]
 rw[if_pos (by unfold Region.wanted;rw[hg])]
 exact .inl (h _ (Lib.hid fun _ _ h1 h2=>⟨h1,h2⟩))):P:=h
theorem ad5{P:Prop}(h:P:=by
 obtain⟨rfl,rfl,rfl⟩:=h
 have:n≠id:=by simpa using hid
 simp only[Exit.inBlock,if_neg this]
 exact⟨rfl,rfl,rfl⟩):P:=h
theorem ad4{P:Prop}(h:P:=by
 go_wp2_with fail
 go_ret
 exact⟨⟨1,aI,by constructor;(intro h;omega);(intro h;exact absurd h5 h.agV)⟩,hx1⟩):P:=h
theorem ad3{P:Prop}(h:P:=by
 rcases h3 with h3|⟨b,off,rfl,hlt,_⟩
 ·exact .inl h3
 ·right
  intro b' hb'
  simp[Value.ownBlock] at hb'
  omega):P:=h
theorem ad2{P:Prop}(h:P:=by
 go_wp2_with fail
 go_ret
 exact⟨⟨1,aI,by constructor;(intro h;omega);(intro h;exact absurd h6 h.aiN)⟩,hx1⟩):P:=h
theorem X6{P:Prop}(h:P:=by
 exact h6.trans (belowK_b (w:=w2) hx3.size _ D _ _ hD hK rfl rfl)):P:=h
theorem ad1{P:Prop}(h:P:=by
 rename_i ht
 simp only[ht]
 obtain⟨cs,rfl,_⟩:=hv
 exact⟨cs,fuel,rfl,by simpa[Value.cells] using hs⟩):P:=h
theorem adX{P:Prop}(h:P:=by
 exact yF.other ⟨w.heap.size+1+1,0,none⟩ _ ac'):P:=h
theorem adW{P:Prop}(h:P:=by
 obtain⟨vs,h1,h2,h3⟩:=h.row
 exact⟨vs,h1.below hb,h2,fun i u l hu hl=>(h3 i u l hu hl).below hb⟩):P:=h
theorem Y8{P:Prop}(h:P:=by
 obtain⟨vs,h1,h2,h3⟩:=h.row
 obtain⟨a,cap,rfl,hl⟩:=h1.shape
 exact⟨a,cap,by rw[h2],ah⟩):P:=h
theorem Y6{P:Prop}(h:P:=by
 rw[List.getElem?_drop] at hx
 have:=hc (m+j) x hx
 rw[Nat.add_mul] at this
 rwa[Nat.add_assoc off]):P:=h
theorem Y5{P:Prop}(h:P:=by
 intro y hy
 rcases List.mem_append.1 hy with hy|hy
 ·exact h y hy
 ·simp at hy;subst hy;exact hx):P:=h
theorem Fp{P:Prop}(h:P:=by
 rw[List.length_set];exact Xd.out):P:=h
theorem Y4{P:Prop}(h:P:=by
 rcases h.how with rfl|rfl
 ·simp only[Exit.inBlock,if_neg (Ne.symm hid)];exact h
 ·exact h):P:=h
theorem Y3{P:Prop}(h:P:=by
 go_enter Tryz.func179,Tryz.ntmps179
 go_wp2_with fail
 go_ret
 exact⟨o_,aD⟩):P:=h
theorem Y1{P:Prop}(h:P:=by
 exact⟨KeepsFrom.refl _ _,Below.refl _ _,LJ.out.snoc (by unfold vZ;simp;omega),hB⟩):P:=h
theorem Y0{P:Prop}(h:P:=by
 intro y hm
 rcases List.mem_or_eq_of_mem_set hm with hm|rfl
 ·exact hv y hm
 ·exact hx):P:=h
theorem adU{P:Prop}(h:P:=by simp only[List.length_append,Array.length_toList,size_zeroCells,hzv.size,dX hsl.val,hil,←Nat.add_mul];exact Nat.le_refl _):P:=h
theorem XW{P:Prop}(h:P:=by obtain⟨o,ho,hc⟩:=hrow B e'.symm;rw[show X.heap[B]?=_ from hs] at ho;cases ho;cases hc):P:=h
theorem adL{P:Prop}(h:P:=by first|(first|omega|(simp only[bE,dh,World.size_alloc];omega))|fail):P:=h
theorem yj{P:Prop}(h:P:=by first|(first|omega|(simp only[World.size_alloc,World.size_setCell];omega))|fail):P:=h
theorem adC{P:Prop}(h:P:=by simpa[Lit.wf,IntKind.min,IntKind.max,IntKind.bits,IntKind.signed] using hs):P:=h
theorem ru{P:Prop}(h:P:=by first|omega|(simp only[bE,dh,World.size_alloc];omega)):P:=h
theorem XU{P:Prop}(h:P:=by rw[dX (fun y hy=>hval y (List.mem_of_mem_drop hy)),List.length_drop]):P:=h
theorem Sj{P:Prop}(h:P:=by have:=M0 h.1 HX.out;rw[HAT.out] at this;dsimp only at this;omega):P:=h
theorem yh{P:Prop}(h:P:=by first|(first|(simp[maxLen];omega)|(solve|simp[maxLen]))|fail):P:=h
theorem adq{P:Prop}(h:P:=by constructor;(intro h;omega);(intro h;have:=h.uy;omega)):P:=h
theorem adp{P:Prop}(h:P:=by constructor;(intro h;omega);(intro h;have:=h.FE;omega)):P:=h
theorem XR{P:Prop}(h:P:=by have:=hb1.size;simp only[World.size_alloc] at this;exact bl):P:=h
theorem Aa{P:Prop}(h:P:=by constructor;(intro h;omega);(intro h;exact absurd h HN.out)):P:=h
theorem IB{P:Prop}(h:P:=by intro c hc;simp at hc;rcases hc with rfl|rfl|rfl<;>rfl):P:=h
theorem ado{P:Prop}(h:P:=by rw[show(je x).cells=dS x from rfl];simpa using LM x):P:=h
theorem CW{P:Prop}(h:P:=by intro c hc;simp at hc;rcases hc with rfl|rfl<;>rfl):P:=h
theorem yg{P:Prop}(h:P:=by first|(first|(simp;omega)|(solve|simp))|fail):P:=h
theorem adl{P:Prop}(h:P:=by simp only[World.size_alloc,World.size_setCell];omega):P:=h
theorem adk{P:Prop}(h:P:=by first|omega|(simp only[World.size_setCell];omega)):P:=h
theorem adh{P:Prop}(h:P:=by rw[List.length_take,Array.length_toList,h3];omega):P:=h
theorem pW{P:Prop}(h:P:=by(try have k1:=(Lib.hid True.intro).out);exact bx):P:=h
theorem vE{P:Prop}(h:P:=by(try have k2:=(Lib.hid True.intro).out);exact bx):P:=h
theorem z_{P:Prop}(h:P:=by(try have k3:=(Lib.hid True.intro).out);exact bx):P:=h
theorem EF{P:Prop}(h:P:=by(try have k4:=(Lib.hid True.intro).out);exact bx):P:=h
theorem ade{P:Prop}(h:P:=by(try have k5:=(Lib.hid True.intro).out);exact bx):P:=h
theorem adb{P:Prop}(h:P:=by(try have k6:=(Lib.hid True.intro).out);exact bx):P:=h
theorem ada{P:Prop}(h:P:=by show¬w.heap.size+1+1=w.heap.size+1;omega):P:=h
theorem ac'{P:Prop}(h:P:=by show¬w.heap.size+1=w.heap.size+1+1;omega):P:=h
theorem Ka{P:Prop}(h:P:=by simp[results,Tryz.results199,go_sem,h,c2,c0]):P:=h
theorem aG{P:Prop}(h:P:=by first|(solve|simp[Act.eval,Act.put])|fail):P:=h
theorem YW{P:Prop}(h:P:=by first|exact HBG.out rfl|exact HBG.out trivial):P:=h
theorem J_{P:Prop}(h:P:=by simp[results,Tryz.results86,go_sem,b10,b11]):P:=h
theorem Qe{P:Prop}(h:P:=by show¬w.heap.size+1+1=w.heap.size;omega):P:=h
theorem YV{P:Prop}(h:P:=by simp[results,Tryz.results150,go_sem,c1,c3]):P:=h
theorem YU{P:Prop}(h:P:=by simp[results,Tryz.results196,go_sem,b1,b2]):P:=h
theorem YT{P:Prop}(h:P:=by simp[results,Tryz.results33,go_sem,b1,b2]):P:=h
theorem rM{P:Prop}(h:P:=by show w.heap.size≤w.heap.size+1+1;omega):P:=h
theorem YS{P:Prop}(h:P:=by rw[←hxj];exact List.getElem?_eq_getElem hj):P:=h
theorem Qc{P:Prop}(h:P:=by(try have k1:=(Lib.hid hb0).out);exact bx):P:=h
theorem YR{P:Prop}(h:P:=by simp[results,Tryz.results151,go_sem,hcb]):P:=h
theorem YQ{P:Prop}(h:P:=by unfold mq;exact⟨p0,p1,p2,p3,p4,p5⟩):P:=h
theorem YP{P:Prop}(h:P:=by simp[results,Tryz.results89,go_sem,hc4]):P:=h
theorem YO{P:Prop}(h:P:=by show¬w.heap.size+1=w.heap.size;omega):P:=h
theorem YN{P:Prop}(h:P:=by show¬w.heap.size=w.heap.size+1;omega):P:=h
theorem BQ{P:Prop}(h:P:=by intro k hk;cases hk;exact Nat.le_refl _):P:=h
theorem Fh{P:Prop}(h:P:=by subst hw2;exact aC.new1 _ _ _ (by simp)):P:=h
theorem YJ{P:Prop}(h:P:=by show w.heap.size≤w.heap.size+1;omega):P:=h
theorem YI{P:Prop}(h:P:=by simp only[List.length_cons] at hk;omega):P:=h
theorem J8{P:Prop}(h:P:=by subst hw2;exact(aC.new _ _ _).alloc _):P:=h
theorem P_{P:Prop}(h:P:=by show¬w1.heap.size=w.heap.size;omega):P:=h
theorem BP{P:Prop}(h:P:=by simp[results,Tryz.results203,go_sem]):P:=h
theorem BO{P:Prop}(h:P:=by rw[IntWalk.i64_in _ (by omega)];omega):P:=h
theorem Fg{P:Prop}(h:P:=by simp[results,Tryz.results202,go_sem]):P:=h
theorem P9{P:Prop}(h:P:=by simp[results,Tryz.results198,go_sem]):P:=h
theorem YH{P:Prop}(h:P:=by simp[results,Tryz.results112,go_sem]):P:=h
theorem YG{P:Prop}(h:P:=by simp[results,Tryz.results117,go_sem]):P:=h
theorem J2{P:Prop}(h:P:=by simp[results,Tryz.results41,go_sem]):P:=h
theorem PX{P:Prop}(h:P:=by rw[lF];(have:=HBY.out);omega):P:=h
theorem tJ{P:Prop}(h:P:=by show¬D=w.heap.size+1+1;omega):P:=h
theorem BN{P:Prop}(h:P:=by rw[List.getElem?_eq_getElem hj,he]):P:=h
theorem PW{P:Prop}(h:P:=by rw[List.getElem?_eq_getElem hi,he]):P:=h
theorem cZ{P:Prop}(h:P:=by simp only[World.size_alloc];omega):P:=h
theorem E9{P:Prop}(h:P:=by rw[List.getElem?_set];simp[tX]):P:=h
theorem JZ{P:Prop}(h:P:=by(try have k2:=K1.out);exact bx):P:=h
theorem PS{P:Prop}(h:P:=by(try have k3:=K2.out);exact bx):P:=h
theorem uQ{P:Prop}(h:P:=by intro he;exact hne (by rw[he])):P:=h
theorem PO{P:Prop}(h:P:=by rw[if_neg hcm];simp[addr_add]):P:=h
theorem mF{P:Prop}(h:P:=by rw[beq_eq_false_iff_ne];omega):P:=h
theorem E8{P:Prop}(h:P:=by rw[Array.length_toList];omega):P:=h
theorem JY{P:Prop}(h:P:=by show¬D=w.heap.size;omega):P:=h
theorem wK{P:Prop}(h:P:=by rw[List.length_take];omega):P:=h
theorem yR{P:Prop}(h:P:=by have:=Iz.out b hb;omega):P:=h
theorem E5{P:Prop}(h:P:=by unfold maxLen at hcm;omega):P:=h
theorem bg{P:Prop}(h:P:=by simp[Act.eval,Act.put]):P:=h
theorem JX{P:Prop}(h:P:=by rw[Nat.succ_mul];omega):P:=h
theorem PL{P:Prop}(h:P:=by rw[hx.len];exact Yu):P:=h
theorem PI{P:Prop}(h:P:=by rw[hr] at h0;cases h0):P:=h
theorem JW{P:Prop}(h:P:=by rw[h] at hr;cases hr):P:=h
theorem EZ{P:Prop}(h:P:=by first|rfl|trivial):P:=h
theorem wJ{P:Prop}(h:P:=by unfold maxLen;omega):P:=h
theorem JV{P:Prop}(h:P:=by intro y hy;cases hy):P:=h
theorem JU{P:Prop}(h:P:=by simp[maxLen];omega):P:=h
theorem PE{P:Prop}(h:P:=by rw[hmin];exact hDl):P:=h
theorem tH{P:Prop}(h:P:=by rw[Xd.out];omega):P:=h
theorem uP{P:Prop}(h:P:=by simp[World.setRow]):P:=h
theorem EX{P:Prop}(h:P:=by rw[hall x hx];rfl):P:=h
theorem EW{P:Prop}(h:P:=by subst hw2;exact bl):P:=h
theorem tF{P:Prop}(h:P:=by intro j y h;omega):P:=h
theorem lq{P:Prop}(h:P:=by dsimp only;omega):P:=h
theorem JN{P:Prop}(h:P:=by simp[bE]):P:=h
theorem JM{P:Prop}(h:P:=by intro h;cases h):P:=h
theorem JL{P:Prop}(h:P:=by rw[HN.out];rfl):P:=h
theorem bT{P:Prop}(h:P:=by simp[Act.eval]):P:=h
theorem EU{P:Prop}(h:P:=by simpa using hsz):P:=h
theorem iU{P:Prop}(h:P:=by intro h;omega):P:=h
theorem BK{P:Prop}(h:P:=by simpa using hq):P:=h
theorem BJ{P:Prop}(h:P:=by simpa using h1):P:=h
theorem BI{P:Prop}(h:P:=by simpa using h2):P:=h
theorem BH{P:Prop}(h:P:=by simpa using q4):P:=h
theorem ET{P:Prop}(h:P:=by simpa using hl):P:=h
theorem JJ{P:Prop}(h:P:=by simpa using hi):P:=h
theorem ES{P:Prop}(h:P:=by simpa using h):P:=h
theorem ER{P:Prop}(h:P:=by rw[Xd.out]):P:=h
theorem EP{P:Prop}(h:P:=by rw[HAT.out]):P:=h
theorem aR{P:Prop}(h:P:=by simp;omega):P:=h
theorem aj{P:Prop}(h:P:=by kernel_rfl):P:=h
theorem aZ{P:Prop}(h:P:=by assumption):P:=h
theorem o_{P:Prop}(h:P:=by simp[h3]):P:=h
theorem rH{P:Prop}(h:P:=by simp[h1]):P:=h
theorem wI{P:Prop}(h:P:=by simp[hy]):P:=h
theorem aD{P:Prop}(h:P:=by exact bl):P:=h
theorem aB{P:Prop}(h:P:=by decide):P:=h
theorem bI{P:Prop}(h:P:=by go_num):P:=h
theorem ah{P:Prop}(h:P:=by omega):P:=h
theorem aI{P:Prop}(h:P:=by simp):P:=h
theorem aF{P:Prop}(h:P:=by rfl):P:=h
