/- TopWindows: for every input the law returns true, and each argument reads as it did; the table 'uses' as the program's text lays it (the card). Conditions: none. -/
import Derived.Test.YtgmodehldmahiaaGreatDoorCards
import Derived.Test.YtgmodehldmahiaaGreatDoorTie
import Derived.Test.YtgmodehldmahiaaGreatDoorF05
set_option linter.unusedVariables false
set_option linter.unusedSimpArgs false
set_option maxRecDepth 8192
set_option maxHeartbeats 40000000
namespace Go.Proofs.YtgmodehldmahiaaGreatDoor
open Go Go.ChangeShapes Go.WideShapes Go.ChangeAt Go.RowKit Go.Tm
theorem atb{W:World}{fl:Nat}{cs:List Value}(h:Shaped Tryz.prog W fl 67 cs):
  ∃(pv wv cv iv:Value) (p:bF.jE) (dx:List (List ByteArray)) (N:Int),cs=[pv,.int .i64 p.frame,wv,cv,iv,.int .i64 N]∧bF.jf W pv wv cv p∧mR W iv dx∧Dk dx:=by
 obtain⟨g1,hl,hf⟩:=nD Tryz.underlying67 h
 have k0:Tryz.prog.cellsOf 67=6:=asS
 have k4:Tryz.prog.cellsOf 26=4:=asS
 have k1:Tryz.prog.cellsOf 27=1:=asS
 have ki:Tryz.prog.cellsOf 3=1:=asS
 rw[k0] at hl
 have f0:Shaped Tryz.prog W g1 26 ((cs.drop 0).take (Tryz.prog.cellsOf 26)):=hf 0 _ rfl
 rw[k4] at f0
 have f1:Shaped Tryz.prog W g1 27 ((cs.drop 4).take (Tryz.prog.cellsOf 27)):=hf 1 _ rfl
 rw[k1] at f1
 have f2:Shaped Tryz.prog W g1 3 ((cs.drop 5).take (Tryz.prog.cellsOf 3)):=hf 2 _ rfl
 rw[ki] at f2
 match cs,hl with
 |[a0,a1,a2,a3,a4,a5],_=>
  simp only[List.drop_zero,List.drop_succ_cons,List.take_succ_cons,List.take_zero] at f0 f1 f2
  obtain⟨pv,wv,cv,p,e0,hp⟩:=WE f0
  obtain⟨dx,hi,CX⟩:=Kr f1
  obtain⟨N,e2,_⟩:=ko Tryz.underlying3 f2
  simp at e0 e2
  obtain⟨rfl,rfl,rfl,rfl⟩:=e0
  subst e2
  exact⟨_,_,_,_,p,dx,N,rfl,hp,hi,CX⟩
theorem ath(W:World)(args:Array Value)(hs:args.size=Tryz.f5.params.size)
  (h:∀(j:Nat) (t:TypeId) (v:Value),Tryz.f5.params[j]?=some t→args[j]?=some v→rZ Tryz.prog W t v)
  (hL:laidMetH Tryz.prog Rows.topWindowsRow.laid W):
  Calls Tryz.prog 5 args W fun e w'=>e=.returned (.bool true)∧Below W.heap.size W w':=by
 obtain⟨v0,rfl⟩:=ano (a:=args) hs
 obtain⟨cs,fl,rfl,hc⟩:=KU Tryz.underlying67 (h 0 _ v0 rfl rfl)
 obtain⟨pv,wv,cv,iv,p,dx,N,e,hp,hi,CX⟩:=atb hc
 obtain rfl:=Array.ext' (xs:=cs) (ys:=#[_,_,_,_,_,_]) e
 by_cases hok:bF.gJ p
 ·exact atH pv wv cv iv p dx N W hp hi (Az hL) hok CX
 ·exact atJ pv wv cv iv p dx N W hp hi (Az hL) hok
theorem atm:ownKnob Tryz.prog.godebug=none:=by kernel_rfl
theorem atg:laidOutB Tryz.prog=true:=by kernel_rfl
theorem ate{H:Type}:∀ds:List (DataW H),ds.length=Tryz.f5.params.size→Rows.topWindowsSpec.fn H ds={results:=[.lit (.bool true)],args:=ds}:=by
 intro ds h
 have h':ds.length=1:=h
 match ds,h' with
 |[d0],_=>rfl
noncomputable def asT(os:Os):World:=
 {World.holding Tryz.prog os ⟨#[],#[],[]⟩ with heap:=(World.holding Tryz.prog os ⟨#[],#[],[]⟩).heap.modify 0 fun
   |.cells _ t frozen=> .cells (Bv.map (Value.int .i64)).toArray t frozen
   |o=>o}
theorem atn(os:Os):laidMet Tryz.prog Rows.topWindowsRow.laid ((asT os).forCall (fun _ _=>0) ⟨#[],#[.agg #[.slice none 0 0,.int .i64 0,.slice none 0 0,.slice none 0 0,.slice none 0 0,.int .i64 0]],[]⟩).memory:=
 laidMet_of_run' 8 asS asS
theorem as9(os:Os){H:Type}(enc:TypeId×Value→H):∃places,DataW.whole enc Tryz.prog ((asT os).forCall (fun _ _=>0) ⟨#[],#[.agg #[.slice none 0 0,.int .i64 0,.slice none 0 0,.slice none 0 0,.slice none 0 0,.int .i64 0]],[]⟩).memory Tryz.f5.params.toList Rows.topWindowsSpec.vars false #[Value.agg #[.slice none 0 0,.int .i64 0,.slice none 0 0,.slice none 0 0,.slice none 0 0,.int .i64 0]].toList 8=some ([.agg [.agg [.nil,.lit (.int .i64 0),.nil,.nil],.nil,.lit (.int .i64 0)]],[],places):=
 ⟨[],asS⟩
set_option maxRecDepth 100000 in
theorem as7(os:Os)(started:os.Started)(H:Type)(enc:TypeId×Value→H)(F:Stop.Interp):
  ReturnsInHanded {} Tryz.checked os 5 .any ((OpenSpec.ofChange Rows.topWindowsSpec).preRow enc Tryz.prog Tryz.f5 Rows.topWindowsRow.domain false Rows.topWindowsRow.laid) (((OpenSpec.ofChange Rows.topWindowsSpec).at F).post enc Tryz.prog Tryz.f5 false true false false):=by
 obtain⟨places,hx⟩:=as9 os enc
 exact zq (C:=Tryz.checked) F atm atg started asS Tryz.func5 asS Tryz.underlying4 rfl rfl ate
  (witness_row_at (enc:=enc) (C:=Tryz.checked) false (asT os) #[.agg #[.slice none 0 0,.int .i64 0,.slice none 0 0,.slice none 0 0,.slice none 0 0,.int .i64 0]] rfl asS asS asS
   (OpenSpec.preRow_of_cond 8 hx asS (fun k hk=>by cases hk) asS (atn os)))
  ath
theorem atf:Rows.TopWindowsSaid:=
 OpenClaim.holds_of_cond 5 Tryz.f5 rfl rfl rfl rfl rfl rfl rfl ⟨rfl,rfl,rfl,rfl,rfl⟩ rfl rfl rfl rfl rfl asS Tryz.func5 asS
  (of_decide_eq_true asS) (by unfold Func.isWrapper;first|(rw[if_pos (by decide+kernel)];kernel_rfl)|(rw[if_neg (by decide+kernel)];exact⟨rfl,rfl⟩))
  (fun os started H enc _ F=>by rw[OpenClaim.pre_eq_preRow];exact as7 os started H enc F)
theorem ata(f:FuncId)(fn:Func)(hf:Tryz.pinned.checked.prog.funcNamed "transom/transomtop.TopWindows" =some f)(hfn:Tryz.pinned.checked.prog.funcs[f]?=some fn):
  false=Tryz.pinned.checked.prog.looks []∧∀(j:Nat) t,fn.params[j]?=some t→Tryz.pinned.checked.prog.wantsStandIn t=false:=by
 obtain rfl:f=5:=Option.some.inj ((show Tryz.prog.funcNamed "transom/transomtop.TopWindows" =some 5 by kernel_rfl).symm.trans hf)|>.symm
 obtain rfl:fn=Tryz.f5:=(Option.some.inj (Tryz.func5.symm.trans hfn)).symm
 refine⟨asS,fun j t ht=>?_⟩
 rw[Tryz.params5] at ht
 obtain rfl:t=67:=by simpa using Array.mem_of_getElem? ht
 exact(show Tryz.prog.wantsStandIn 67=false by kernel_rfl)
theorem topWindows_holds:Rows.TopWindowsCardSaid:=
 Claim7.holds_tied_plain_at .later [] _ _ _ _ atf (fun _ h=>by cases h) asS (fun _ h=>by cases h) topWindows_row_tie rfl ⟨rfl,rfl⟩ asS rfl ata asS
end Go.Proofs.YtgmodehldmahiaaGreatDoor
