/- CallKnown: for every input the law returns true, and each argument reads as it did; the table 'kinds' as the program's text lays it (the card). Conditions: none. -/
import Derived.Test.YtmffbhlbikjmaaaDoorCards
import Derived.Test.YtmffbhlbikjmaaaDoorTie
import Derived.Test.YtmffbhlbikjmaaaDoorDoorLaws
import Derived.Test.YtmffbhlbikjmaaaDoorLaid
import Derived.SevenTiedAt
namespace Go.Proofs.YtmffbhlbikjmaaaDoor
open Go Go.ChangeShapes Go.WideShapes Go.ChangeAt Go.RowKit Go.Tm
set_option linter.unusedVariables false

theorem gKinds : Tryd.prog.globalNamed "transom/call.kinds" = some 0 := by kernel_rfl
/-- What the row's list gives: the table's cells. -/
theorem tabbed_of {W : World} (h : laidMetH Tryd.prog Rows.callKnownRow.laid W) (hs : 0 < W.heap.size) : Tabbed W :=
  ⟨hs, fun i hi => (Lib.tabIs_of_head (k := .i64) (zs := kindT) (rest := []) gKinds (show (Tryd.prog.globals[0]?).map (·.type) = some 44 by kernel_rfl) Tryd.underlying44 Tryd.underlying3 (by kernel_rfl) (by kernel_rfl) h).cell gKinds i hi⟩
theorem tab_pos {W : World} (h : laidMetH Tryd.prog Rows.callKnownRow.laid W) : 0 < W.heap.size := by
  have := (Lib.tabIs_of_head (k := .i64) (zs := kindT) (rest := []) gKinds (show (Tryd.prog.globals[0]?).map (·.type) = some 44 by kernel_rfl) Tryd.underlying44 Tryd.underlying3 (by kernel_rfl) (by kernel_rfl) h).cell gKinds 0 (by decide)
  rcases Nat.eq_zero_or_pos W.heap.size with h0 | h0
  · exfalso
    simp [World.cell?, Array.eq_empty_of_size_eq_zero h0] at this
  · exact h0

theorem call_cells {W : World} {fl : Nat} {cs : List Value} (h : Shaped Tryd.prog W fl 24 cs) :
    ∃ a b c d : Int, cs = [.int .u32 a, .int .u32 b, .int .u32 c, .int .u32 d] ∧ (Lit.int .u32 a).wf = true ∧ (Lit.int .u32 b).wf = true ∧ (Lit.int .u32 c).wf = true ∧ (Lit.int .u32 d).wf = true := by
  obtain ⟨g1, hl, hf⟩ := shaped_struct Tryd.underlying24 h
  have h4 : Tryd.prog.cellsOf 24 = 4 := by kernel_rfl
  have h1 : Tryd.prog.cellsOf 22 = 1 := by kernel_rfl
  rw [h4] at hl
  have f0 : Shaped Tryd.prog W g1 22 ((cs.drop 0).take (Tryd.prog.cellsOf 22)) := hf 0 _ rfl
  have f1 : Shaped Tryd.prog W g1 22 ((cs.drop 1).take (Tryd.prog.cellsOf 22)) := hf 1 _ rfl
  have f2 : Shaped Tryd.prog W g1 22 ((cs.drop 2).take (Tryd.prog.cellsOf 22)) := hf 2 _ rfl
  have f3 : Shaped Tryd.prog W g1 22 ((cs.drop 3).take (Tryd.prog.cellsOf 22)) := hf 3 _ rfl
  rw [h1] at f0 f1 f2 f3
  match cs, hl with
  | [a0, a1, a2, a3], _ =>
    simp only [List.drop_zero, List.drop_succ_cons, List.take_succ_cons, List.take_zero] at f0 f1 f2 f3
    obtain ⟨a, e0, w0⟩ := shaped_wf Tryd.underlying22 f0
    obtain ⟨b, e1, w1⟩ := shaped_wf Tryd.underlying22 f1
    obtain ⟨c, e2, w2⟩ := shaped_wf Tryd.underlying22 f2
    obtain ⟨d, e3, w3⟩ := shaped_wf Tryd.underlying22 f3
    simp at e0 e1 e2 e3
    subst e0 e1 e2 e3
    exact ⟨a, b, c, d, rfl, w0, w1, w2, w3⟩
theorem callKnown_args (W : World) (args : Array Value) (hs : args.size = Tryd.f3.params.size)
    (h : ∀ (j : Nat) (t : TypeId) (v : Value), Tryd.f3.params[j]? = some t → args[j]? = some v → ArgShaped Tryd.prog W t v)
    (hL : laidMetH Tryd.prog Rows.callKnownRow.laid W) :
    Calls Tryd.prog 3 args W fun e w' => e = .returned (.bool true) ∧ Below W.heap.size W w' := by
  obtain ⟨v0, rfl⟩ := arr1 (a := args) hs
  obtain ⟨cs, fl, rfl, hc⟩ := arg_struct Tryd.underlying24 (h 0 _ v0 rfl rfl)
  obtain ⟨a, b, c, d, e, wa, wb, wc, wd⟩ := call_cells hc
  obtain rfl := Array.ext' (xs := cs) (ys := #[_, _, _, _]) e
  exact callKnown_walk a b c d W (tabbed_of hL (tab_pos hL)) wa wb wc wd

theorem callKnown_own : ownKnob Tryd.prog.godebug = none := by kernel_rfl
theorem callKnown_laid : laidOutB Tryd.prog = true := by kernel_rfl
theorem callKnown_spec {H : Type} : ∀ ds : List (DataW H), ds.length = Tryd.f3.params.size → Rows.callKnownSpec.fn H ds = { results := [.lit (.bool true)], args := ds } := by
  intro ds h
  have h' : ds.length = 1 := h
  match ds, h' with
  | [d0], _ => rfl

/-- A world for the witness: the settled one, the table (block 0) holding what its initialiser lays. -/
noncomputable def laidWorld (os : Os) : World :=
  { World.holding Tryd.prog os ⟨#[], #[], []⟩ with heap := (World.holding Tryd.prog os ⟨#[], #[], []⟩).heap.modify 0 fun
      | .cells _ t frozen => .cells (kindT.map (Value.int .i64)).toArray t frozen
      | o => o }
theorem laid_met (os : Os) : laidMet Tryd.prog Rows.callKnownRow.laid ((laidWorld os).forCall (fun _ _ => 0) ⟨#[], #[.agg #[.int .u32 0, .int .u32 0, .int .u32 0, .int .u32 0]], []⟩).memory :=
  laidMet_of_run' 8 (by kernel_rfl) (by kernel_rfl)
theorem callKnown_reads (os : Os) {H : Type} (enc : TypeId × Value → H) : ∃ places, DataW.whole enc Tryd.prog ((laidWorld os).forCall (fun _ _ => 0) ⟨#[], #[.agg #[.int .u32 0, .int .u32 0, .int .u32 0, .int .u32 0]], []⟩).memory Tryd.f3.params.toList Rows.callKnownSpec.vars false #[Value.agg #[.int .u32 0, .int .u32 0, .int .u32 0, .int .u32 0]].toList 8 = some ([.agg [.lit (.int .u32 0), .lit (.int .u32 0), .lit (.int .u32 0), .lit (.int .u32 0)]], [], places) :=
  ⟨[], by kernel_rfl⟩

set_option maxRecDepth 100000 in
theorem callKnown_lifted (os : Os) (started : os.Started) (H : Type) (enc : TypeId × Value → H) (F : Stop.Interp) :
    ReturnsInHanded {} Tryd.checked os 3 .any ((OpenSpec.ofChange Rows.callKnownSpec).preRow enc Tryd.prog Tryd.f3 Rows.callKnownRow.domain false Rows.callKnownRow.laid) (((OpenSpec.ofChange Rows.callKnownSpec).at F).post enc Tryd.prog Tryd.f3 false true false false) := by
  obtain ⟨places, hx⟩ := callKnown_reads os enc
  exact law_lifted_laid (C := Tryd.checked) F callKnown_own callKnown_laid started (by kernel_rfl) Tryd.func3 (by kernel_rfl) Tryd.underlying4 rfl rfl callKnown_spec
    (witness_row_at (enc := enc) (C := Tryd.checked) false (laidWorld os) #[.agg #[.int .u32 0, .int .u32 0, .int .u32 0, .int .u32 0]] rfl (by kernel_rfl) (by kernel_rfl) (by kernel_rfl)
      (OpenSpec.preRow_of_cond 8 hx (by kernel_rfl) (fun k hk => by cases hk) (by kernel_rfl) (laid_met os)))
    callKnown_args

theorem callKnown_said : Rows.CallKnownSaid :=
  OpenClaim.holds_of_cond 3 Tryd.f3 rfl rfl rfl rfl rfl rfl rfl ⟨rfl, rfl, rfl, rfl, rfl⟩ rfl rfl rfl rfl rfl (by kernel_rfl) Tryd.func3 (by kernel_rfl)
    (of_decide_eq_true (by kernel_rfl)) (by unfold Func.isWrapper; first | (rw [if_pos (by decide +kernel)]; kernel_rfl) | (rw [if_neg (by decide +kernel)]; exact ⟨rfl, rfl⟩))
    (fun os started H enc _ F => by rw [OpenClaim.pre_eq_preRow]; exact callKnown_lifted os started H enc F)

theorem callKnown_plain (f : FuncId) (fn : Func) (hf : Tryd.pinned.checked.prog.funcNamed "transom/transomlaw12.CallKnown" = some f) (hfn : Tryd.pinned.checked.prog.funcs[f]? = some fn) :
    false = Tryd.pinned.checked.prog.looks [] ∧ ∀ (j : Nat) t, fn.params[j]? = some t → Tryd.pinned.checked.prog.wantsStandIn t = false := by
  obtain rfl : f = 3 := Option.some.inj ((show Tryd.prog.funcNamed "transom/transomlaw12.CallKnown" = some 3 by kernel_rfl).symm.trans hf) |>.symm
  obtain rfl : fn = Tryd.f3 := (Option.some.inj (Tryd.func3.symm.trans hfn)).symm
  refine ⟨by kernel_rfl, fun j t ht => ?_⟩
  rw [Tryd.params3] at ht
  obtain rfl : t = 24 := by simpa using Array.mem_of_getElem? ht
  exact (show Tryd.prog.wantsStandIn 24 = false by kernel_rfl)

theorem callKnown_holds : Rows.CallKnownCardSaid :=
  Claim7.holds_tied_plain_at .later [] _ _ _ _ callKnown_said (fun _ h => by cases h) (by kernel_rfl) (fun _ h => by cases h) callKnown_row_tie rfl ⟨rfl, rfl⟩ (by kernel_rfl) rfl callKnown_plain (by kernel_rfl)
#print axioms callKnown_holds
end Go.Proofs.YtmffbhlbikjmaaaDoor
