/- TopAlone: for every input the law returns true, and each argument reads as it did; the table 'uses' as the program's text lays it (the card). Conditions: none. -/
import Derived.Test.YtgmodehldmahiaaGreatDoorB14
import Derived.Test.YtgmodehldmahiaaGreatDoorCards
import Derived.Test.YtgmodehldmahiaaGreatDoorTie
import Derived.Test.YtgmodehldmahiaaGreatDoorB44
import Derived.Test.YtgmodehldmahiaaGreatDoorB49
import Derived.Test.YtgmodehldmahiaaGreatDoorB48
import Derived.Test.YtgmodehldmahiaaGreatDoorB13
set_option linter.unusedVariables false
set_option linter.unusedSimpArgs false
set_option maxRecDepth 8192
set_option maxHeartbeats 40000000
namespace Go.Proofs.YtgmodehldmahiaaGreatDoor
open Go Go.ChangeShapes Go.WideShapes Go.ChangeAt Go.RowKit Go.Tm
theorem Lh{W:World}{fl:Nat}{cs:List Value}(h:Shaped Tryz.prog W fl 62 cs):
  ∃(pv wv cv iv jv:Value) (p:bF.jE) (dx kS:List (List ByteArray)) (N M:Int),cs=[pv,.int .i64 p.frame,wv,cv,iv,jv,.int .i64 N,.int .i64 M]∧bF.jf W pv wv cv p∧mR W iv dx∧Dk dx∧mR W jv kS∧Dk kS∧qK M:=by
 obtain⟨g1,hl,hf⟩:=nD Tryz.underlying62 h
 have k0:Tryz.prog.cellsOf 62=8:=ay
 have k4:Tryz.prog.cellsOf 26=4:=ay
 have k1:Tryz.prog.cellsOf 27=1:=ay
 have ki:Tryz.prog.cellsOf 3=1:=ay
 rw[k0] at hl
 have f0:Shaped Tryz.prog W g1 26 ((cs.drop 0).take (Tryz.prog.cellsOf 26)):=hf 0 _ rfl
 rw[k4] at f0
 have f1:Shaped Tryz.prog W g1 27 ((cs.drop 4).take (Tryz.prog.cellsOf 27)):=hf 1 _ rfl
 rw[k1] at f1
 have f2:Shaped Tryz.prog W g1 27 ((cs.drop 5).take (Tryz.prog.cellsOf 27)):=hf 2 _ rfl
 rw[k1] at f2
 have f3:Shaped Tryz.prog W g1 3 ((cs.drop 6).take (Tryz.prog.cellsOf 3)):=hf 3 _ rfl
 rw[ki] at f3
 have f4:Shaped Tryz.prog W g1 3 ((cs.drop 7).take (Tryz.prog.cellsOf 3)):=hf 4 _ rfl
 rw[ki] at f4
 match cs,hl with
 |[a0,a1,a2,a3,a4,a5,a6,a7],_=>
  exact aiZ
theorem MC(W:World)(args:Array Value)(hs:args.size=Tryz.f4.params.size)
  (h:∀(j:Nat) (t:TypeId) (v:Value),Tryz.f4.params[j]?=some t→args[j]?=some v→rZ Tryz.prog W t v)
  (hL:laidMetH Tryz.prog Rows.topAloneRow.laid W):
  Calls Tryz.prog 4 args W fun e w'=>e=.returned (.bool true)∧Below W.heap.size W w':=by
 obtain⟨v0,rfl⟩:=ano (a:=args) hs
 obtain⟨cs,fl,rfl,hc⟩:=KU Tryz.underlying62 (h 0 _ v0 rfl rfl)
 obtain⟨pv,wv,cv,iv,jv,p,dx,kS,N,M,e,hp,hi,CX,hj,YN,hM⟩:=Lh hc
 obtain rfl:=Array.ext' (xs:=cs) (ys:=#[_,_,_,_,_,_,_,_]) e
 by_cases hok:bF.gJ p
 ·exact afL pv wv cv iv jv p dx kS N M W hp hi hj (Az hL) hok CX YN hM
 ·exact afM pv wv cv iv jv p dx kS N M W hp hi hj (Az hL) hok
theorem Qc:ownKnob Tryz.prog.godebug=none:=by kernel_rfl
theorem MB:laidOutB Tryz.prog=true:=by kernel_rfl
theorem Mw{H:Type}:∀ds:List (DataW H),ds.length=Tryz.f4.params.size→Rows.topAloneSpec.fn H ds={results:=[.lit (.bool true)],args:=ds}:=by
 intro ds h
 have h':ds.length=1:=h
 match ds,h' with
 |[d0],_=>rfl
noncomputable def qy(os:Os):World:=
 {World.holding Tryz.prog os ⟨#[],#[],[]⟩ with heap:=(World.holding Tryz.prog os ⟨#[],#[],[]⟩).heap.modify 0 fun
   |.cells _ t frozen=> .cells (Bv.map (Value.int .i64)).toArray t frozen
   |o=>o}
theorem Qd(os:Os):laidMet Tryz.prog Rows.topAloneRow.laid ((qy os).forCall (fun _ _=>0) ⟨#[],#[.agg #[.slice none 0 0,.int .i64 0,.slice none 0 0,.slice none 0 0,.slice none 0 0,.slice none 0 0,.int .i64 0,.int .i64 0]],[]⟩).memory:=
 laidMet_of_run' 8 ay ay
theorem Le(os:Os){H:Type}(enc:TypeId×Value→H):∃places,DataW.whole enc Tryz.prog ((qy os).forCall (fun _ _=>0) ⟨#[],#[.agg #[.slice none 0 0,.int .i64 0,.slice none 0 0,.slice none 0 0,.slice none 0 0,.slice none 0 0,.int .i64 0,.int .i64 0]],[]⟩).memory Tryz.f4.params.toList Rows.topAloneSpec.vars false #[Value.agg #[.slice none 0 0,.int .i64 0,.slice none 0 0,.slice none 0 0,.slice none 0 0,.slice none 0 0,.int .i64 0,.int .i64 0]].toList 8=some ([.agg [.agg [.nil,.lit (.int .i64 0),.nil,.nil],.nil,.nil,.lit (.int .i64 0),.lit (.int .i64 0)]],[],places):=
 ⟨[],ay⟩
set_option maxRecDepth 100000 in
theorem He(os:Os)(started:os.Started)(H:Type)(enc:TypeId×Value→H)(F:Stop.Interp):
  ReturnsInHanded {} Tryz.checked os 4 .any ((OpenSpec.ofChange Rows.topAloneSpec).preRow enc Tryz.prog Tryz.f4 Rows.topAloneRow.domain false Rows.topAloneRow.laid) (((OpenSpec.ofChange Rows.topAloneSpec).at F).post enc Tryz.prog Tryz.f4 false true false false):=by
 obtain⟨places,hx⟩:=Le os enc
 exact zq (C:=Tryz.checked) F Qc MB started ay Tryz.func4 ay Tryz.underlying4 rfl rfl Mw
  (witness_row_at (enc:=enc) (C:=Tryz.checked) false (qy os) #[.agg #[.slice none 0 0,.int .i64 0,.slice none 0 0,.slice none 0 0,.slice none 0 0,.slice none 0 0,.int .i64 0,.int .i64 0]] rfl ay ay ay
   (OpenSpec.preRow_of_cond 8 hx ay (fun k hk=>by cases hk) ay (Qd os)))
  MC
theorem Mx:Rows.TopAloneSaid:=
 OpenClaim.holds_of_cond 4 Tryz.f4 rfl rfl rfl rfl rfl rfl rfl ⟨rfl,rfl,rfl,rfl,rfl⟩ rfl rfl rfl rfl rfl ay Tryz.func4 ay
  (of_decide_eq_true ay) aie
  (fun os started H enc _ F=>by rw[OpenClaim.pre_eq_preRow];exact He os started H enc F)
theorem Lf(f:FuncId)(fn:Func)(hf:Tryz.pinned.checked.prog.funcNamed "transom/transomtop.TopAlone" =some f)(hfn:Tryz.pinned.checked.prog.funcs[f]?=some fn):
  false=Tryz.pinned.checked.prog.looks []∧∀(j:Nat) t,fn.params[j]?=some t→Tryz.pinned.checked.prog.wantsStandIn t=false:=by
 obtain rfl:f=4:=Option.some.inj ((show Tryz.prog.funcNamed "transom/transomtop.TopAlone" =some 4 by kernel_rfl).symm.trans hf)|>.symm
 obtain rfl:fn=Tryz.f4:=(Option.some.inj (Tryz.func4.symm.trans hfn)).symm
 refine⟨ay,fun j t ht=>?_⟩
 rw[Tryz.params4] at ht
 obtain rfl:t=62:=by simpa using Array.mem_of_getElem? ht
 exact(show Tryz.prog.wantsStandIn 62=false by kernel_rfl)
theorem topAlone_holds:Rows.TopAloneCardSaid:=
 Claim7.holds_tied_plain_at .later [] _ _ _ _ Mx (fun _ h=>by cases h) ay (fun _ h=>by cases h) topAlone_row_tie rfl ⟨rfl,rfl⟩ ay rfl Lf ay
end Go.Proofs.YtgmodehldmahiaaGreatDoor
