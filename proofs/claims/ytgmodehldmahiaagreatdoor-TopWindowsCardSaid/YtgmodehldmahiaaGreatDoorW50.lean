/- Part 50 of 50 of the proof of topWindows_holds. Conditions: see each. -/
import Derived.Test.YtgmodehldmahiaaGreatDoorW14
import Derived.Test.YtgmodehldmahiaaGreatDoorCards
import Derived.Test.YtgmodehldmahiaaGreatDoorTie
import Derived.Test.YtgmodehldmahiaaGreatDoorW46
import Derived.Test.YtgmodehldmahiaaGreatDoorW49
import Derived.Test.YtgmodehldmahiaaGreatDoorW13
set_option linter.unusedVariables false
set_option linter.unusedSimpArgs false
set_option maxRecDepth 8192
set_option maxHeartbeats 40000000
namespace Go.Proofs.YtgmodehldmahiaaGreatDoor
open Go Go.ChangeShapes Go.WideShapes Go.ChangeAt Go.RowKit Go.Tm
theorem CG{W:World}{fl:Nat}{cs:List Value}(h:Shaped Tryz.prog W fl 67 cs):
  ∃(pv wv cv iv:Value) (p:Plan.iE) (dZ:List (List ByteArray)) (N:Int),cs=[pv,.int .i64 p.frame,wv,cv,iv,.int .i64 N]∧Plan.gq W pv wv cv p∧xV W iv dZ∧L8 dZ:=by
 obtain⟨g1,hl,hf⟩:=mZ Tryz.underlying67 h
 have k0:Tryz.prog.cellsOf 67=6:=aj
 have k4:Tryz.prog.cellsOf 26=4:=aj
 have k1:Tryz.prog.cellsOf 27=1:=aj
 have ki:Tryz.prog.cellsOf 3=1:=aj
 rw[k0] at hl
 have f0:Shaped Tryz.prog W g1 26 ((cs.drop 0).take (Tryz.prog.cellsOf 26)):=hf 0 _ rfl
 rw[k4] at f0
 have f1:Shaped Tryz.prog W g1 27 ((cs.drop 4).take (Tryz.prog.cellsOf 27)):=hf 1 _ rfl
 rw[k1] at f1
 have f2:Shaped Tryz.prog W g1 3 ((cs.drop 5).take (Tryz.prog.cellsOf 3)):=hf 2 _ rfl
 rw[ki] at f2
 match cs,hl with
 |[a0,a1,a2,a3,a4,a5],_=>
  simp only[List.drop_zero,List.drop_succ_cons,List.take_succ_cons,List.take_zero] at f0 f1 f2
  obtain⟨pv,wv,cv,p,e0,hp⟩:=Q8 f0
  obtain⟨dZ,hi,him⟩:=Rl f1
  obtain⟨N,e2,_⟩:=jG Tryz.underlying3 f2
  simp at e0 e2
  obtain⟨rfl,rfl,rfl,rfl⟩:=e0
  subst e2
  exact⟨_,_,_,_,p,dZ,N,rfl,hp,hi,him⟩
theorem D6(W:World)(args:Array Value)(hs:args.size=Tryz.f5.params.size)
  (h:∀(j:Nat) (t:TypeId) (v:Value),Tryz.f5.params[j]?=some t→args[j]?=some v→qX Tryz.prog W t v)
  (hL:laidMetH Tryz.prog Rows.topWindowsRow.laid W):
  Calls Tryz.prog 5 args W fun e w'=>e=.returned (.bool true)∧Below W.heap.size W w':=by
 obtain⟨v0,rfl⟩:=akq (a:=args) hs
 obtain⟨cs,fl,rfl,hc⟩:=RV Tryz.underlying67 (h 0 _ v0 rfl rfl)
 obtain⟨pv,wv,cv,iv,p,dZ,N,e,hp,hi,him⟩:=CG hc
 obtain rfl:=Array.ext' (xs:=cs) (ys:=#[_,_,_,_,_,_]) e
 by_cases hok:Plan.dW p
 ·exact QE pv wv cv iv p dZ N W hp hi (I9 hL) hok him
 ·exact QF pv wv cv iv p dZ N W hp hi (I9 hL) hok
theorem Gz:ownKnob Tryz.prog.godebug=none:=by kernel_rfl
theorem D5:laidOutB Tryz.prog=true:=by kernel_rfl
theorem DY{H:Type}:∀ds:List (DataW H),ds.length=Tryz.f5.params.size→Rows.topWindowsSpec.fn H ds={results:=[.lit (.bool true)],args:=ds}:=by
 intro ds h
 have h':ds.length=1:=h
 match ds,h' with
 |[d0],_=>rfl
noncomputable def lT(os:Os):World:=
 {World.holding Tryz.prog os ⟨#[],#[],[]⟩ with heap:=(World.holding Tryz.prog os ⟨#[],#[],[]⟩).heap.modify 0 fun
   |.cells _ t frozen=> .cells (Af.map (Value.int .i64)).toArray t frozen
   |o=>o}
theorem GA(os:Os):laidMet Tryz.prog Rows.topWindowsRow.laid ((lT os).forCall (fun _ _=>0) ⟨#[],#[.agg #[.slice none 0 0,.int .i64 0,.slice none 0 0,.slice none 0 0,.slice none 0 0,.int .i64 0]],[]⟩).memory:=
 laidMet_of_run' 8 aj aj
theorem CB(os:Os){H:Type}(enc:TypeId×Value→H):∃places,DataW.whole enc Tryz.prog ((lT os).forCall (fun _ _=>0) ⟨#[],#[.agg #[.slice none 0 0,.int .i64 0,.slice none 0 0,.slice none 0 0,.slice none 0 0,.int .i64 0]],[]⟩).memory Tryz.f5.params.toList Rows.topWindowsSpec.vars false #[Value.agg #[.slice none 0 0,.int .i64 0,.slice none 0 0,.slice none 0 0,.slice none 0 0,.int .i64 0]].toList 8=some ([.agg [.agg [.nil,.lit (.int .i64 0),.nil,.nil],.nil,.lit (.int .i64 0)]],[],places):=
 ⟨[],aj⟩
set_option maxRecDepth 100000 in
theorem Bh(os:Os)(started:os.Started)(H:Type)(enc:TypeId×Value→H)(F:Stop.Interp):
  ReturnsInHanded {} Tryz.checked os 5 .any ((OpenSpec.ofChange Rows.topWindowsSpec).preRow enc Tryz.prog Tryz.f5 Rows.topWindowsRow.domain false Rows.topWindowsRow.laid) (((OpenSpec.ofChange Rows.topWindowsSpec).at F).post enc Tryz.prog Tryz.f5 false true false false):=by
 obtain⟨places,hx⟩:=CB os enc
 exact D8 (C:=Tryz.checked) F Gz D5 started aj Tryz.func5 aj Tryz.underlying4 rfl rfl DY
  (witness_row_at (enc:=enc) (C:=Tryz.checked) false (lT os) #[.agg #[.slice none 0 0,.int .i64 0,.slice none 0 0,.slice none 0 0,.slice none 0 0,.int .i64 0]] rfl aj aj aj
   (OpenSpec.preRow_of_cond 8 hx aj (fun k hk=>by cases hk) aj (GA os)))
  D6
theorem DZ:Rows.TopWindowsSaid:=
 OpenClaim.holds_of_cond 5 Tryz.f5 rfl rfl rfl rfl rfl rfl rfl ⟨rfl,rfl,rfl,rfl,rfl⟩ rfl rfl rfl rfl rfl aj Tryz.func5 aj
  (of_decide_eq_true aj) (by unfold Func.isWrapper;first|(rw[if_pos (by decide+kernel)];kernel_rfl)|(rw[if_neg (by decide+kernel)];exact⟨rfl,rfl⟩))
  (fun os started H enc _ F=>by rw[OpenClaim.pre_eq_preRow];exact Bh os started H enc F)
theorem CF(f:FuncId)(fn:Func)(hf:Tryz.pinned.checked.prog.funcNamed "transom/transomtop.TopWindows" =some f)(hfn:Tryz.pinned.checked.prog.funcs[f]?=some fn):
  false=Tryz.pinned.checked.prog.looks []∧∀(j:Nat) t,fn.params[j]?=some t→Tryz.pinned.checked.prog.wantsStandIn t=false:=by
 obtain rfl:f=5:=Option.some.inj ((show Tryz.prog.funcNamed "transom/transomtop.TopWindows" =some 5 by kernel_rfl).symm.trans hf)|>.symm
 obtain rfl:fn=Tryz.f5:=(Option.some.inj (Tryz.func5.symm.trans hfn)).symm
 refine⟨aj,fun j t ht=>?_⟩
 rw[Tryz.params5] at ht
 obtain rfl:t=67:=by simpa using Array.mem_of_getElem? ht
 exact(show Tryz.prog.wantsStandIn 67=false by kernel_rfl)
theorem topWindows_holds:Rows.TopWindowsCardSaid:=
 Claim7.holds_tied_plain_at .later [] _ _ _ _ DZ (fun _ h=>by cases h) aj (fun _ h=>by cases h) topWindows_row_tie rfl ⟨rfl,rfl⟩ aj rfl CF aj
end Go.Proofs.YtgmodehldmahiaaGreatDoor
