/- CallTells: for every input the law returns true, and each argument reads as it did; the table 'kinds' as the program's text lays it (the card). Conditions: none. -/
import Derived.Test.YtmffbhlbikjmaaaDoorCards
import Derived.Test.YtmffbhlbikjmaaaDoorTie
import Derived.Test.YtmffbhlbikjmaaaDoorDoorTells
import Derived.Test.YtmffbhlbikjmaaaDoorCpuArg
import Derived.Test.YtmffbhlbikjmaaaDoorDoorKnown
import Derived.Test.YtmffbhlbikjmaaaDoorLaid
import Derived.SevenTiedAt
namespace Go.Proofs.YtmffbhlbikjmaaaDoor
open Go Go.ChangeShapes Go.WideShapes Go.ChangeAt Go.RowKit Go.Tm
set_option linter.unusedVariables false

set_option maxHeartbeats 2000000 in
theorem tells_cells {W : World} {fl : Nat} {cs : List Value} (h : Shaped Tryd.prog W fl 31 cs) :
    ∃ a b c d e f g h pc xa xb xc xd k v : Int, cs = [.int .u32 a, .int .u32 b, .int .u32 c, .int .u32 d, .int .u32 e, .int .u32 f, .int .u32 g, .int .u32 h, .int .u32 pc, .int .u32 xa, .int .u32 xb, .int .u32 xc, .int .u32 xd, .int .i64 k, .int .u32 v] ∧
      ((Lit.int .u32 a).wf = true ∧ (Lit.int .u32 b).wf = true ∧ (Lit.int .u32 c).wf = true ∧ (Lit.int .u32 d).wf = true ∧ (Lit.int .u32 e).wf = true ∧ (Lit.int .u32 f).wf = true ∧ (Lit.int .u32 g).wf = true ∧ (Lit.int .u32 h).wf = true ∧ (Lit.int .u32 pc).wf = true) ∧
      ((Lit.int .u32 xa).wf = true ∧ (Lit.int .u32 xb).wf = true ∧ (Lit.int .u32 xc).wf = true ∧ (Lit.int .u32 xd).wf = true) ∧ (Lit.int .u32 v).wf = true := by
  obtain ⟨g1, hl, hf⟩ := shaped_struct Tryd.underlying31 h
  have k0 : Tryd.prog.cellsOf 31 = 15 := by kernel_rfl
  have k9 : Tryd.prog.cellsOf 29 = 9 := by kernel_rfl
  have k4 : Tryd.prog.cellsOf 24 = 4 := by kernel_rfl
  have k1 : Tryd.prog.cellsOf 22 = 1 := by kernel_rfl
  have ki : Tryd.prog.cellsOf 3 = 1 := by kernel_rfl
  rw [k0] at hl
  have f0 : Shaped Tryd.prog W g1 29 ((cs.drop 0).take (Tryd.prog.cellsOf 29)) := hf 0 _ rfl
  have f1 : Shaped Tryd.prog W g1 24 ((cs.drop 9).take (Tryd.prog.cellsOf 24)) := hf 1 _ rfl
  have f2 : Shaped Tryd.prog W g1 3 ((cs.drop 13).take (Tryd.prog.cellsOf 3)) := hf 2 _ rfl
  have f3 : Shaped Tryd.prog W g1 22 ((cs.drop 14).take (Tryd.prog.cellsOf 22)) := hf 3 _ rfl
  rw [k9] at f0
  rw [k4] at f1
  rw [ki] at f2
  rw [k1] at f3
  match cs, hl with
  | [a0, a1, a2, a3, a4, a5, a6, a7, a8, a9, a10, a11, a12, a13, a14], _ =>
    simp only [List.drop_zero, List.drop_succ_cons, List.take_succ_cons, List.take_zero] at f0 f1 f2 f3
    obtain ⟨a, b, c, d, e, f, g, hh, pc, e0, w0⟩ := cpu_cells f0
    obtain ⟨xa, xb, xc, xd, e1, w1⟩ := call_cells f1
    obtain ⟨k, e2, _⟩ := shaped_wf Tryd.underlying3 f2
    obtain ⟨v, e3, w3⟩ := shaped_wf Tryd.underlying22 f3
    simp at e0 e1 e2 e3
    obtain ⟨rfl, rfl, rfl, rfl, rfl, rfl, rfl, rfl, rfl⟩ := e0
    obtain ⟨rfl, rfl, rfl, rfl⟩ := e1
    subst e2 e3
    exact ⟨a, b, c, d, e, f, g, hh, pc, xa, xb, xc, xd, k, v, rfl, w0, w1, w3⟩
set_option maxHeartbeats 2000000 in
theorem callTells_args (W : World) (args : Array Value) (hs : args.size = Tryd.f4.params.size)
    (h : ∀ (j : Nat) (t : TypeId) (v : Value), Tryd.f4.params[j]? = some t → args[j]? = some v → ArgShaped Tryd.prog W t v)
    (hL : laidMetH Tryd.prog Rows.callTellsRow.laid W) :
    Calls Tryd.prog 4 args W fun e w' => e = .returned (.bool true) ∧ Below W.heap.size W w' := by
  obtain ⟨v0, rfl⟩ := arr1 (a := args) hs
  obtain ⟨cs, fl, rfl, hc⟩ := arg_struct Tryd.underlying31 (h 0 _ v0 rfl rfl)
  obtain ⟨a, b, c, d, e, f, g, h', pc, xa, xb, xc, xd, k, v, e', ⟨ha, hb, hcw, hd, he, hf, hg, hh, hpc⟩, ⟨wa, wb, wc, wd⟩, wv⟩ := tells_cells hc
  obtain rfl := Array.ext' (xs := cs) (ys := #[_, _, _, _, _, _, _, _, _, _, _, _, _, _, _]) e'
  exact callTells_walk a b c d e f g h' pc xa xb xc xd k v W (tabbed_of hL (tab_pos hL)) ha hb hcw hd he hf hg hh hpc wa wb wc wd wv

theorem callTells_own : ownKnob Tryd.prog.godebug = none := by kernel_rfl
theorem callTells_laid : laidOutB Tryd.prog = true := by kernel_rfl
theorem callTells_spec {H : Type} : ∀ ds : List (DataW H), ds.length = Tryd.f4.params.size → Rows.callTellsSpec.fn H ds = { results := [.lit (.bool true)], args := ds } := by
  intro ds h
  have h' : ds.length = 1 := h
  match ds, h' with
  | [d0], _ => rfl

/-- A world for the witness: the settled one, the table (block 0) holding what its initialiser lays. -/
noncomputable def laidWorld2 (os : Os) : World :=
  { World.holding Tryd.prog os ⟨#[], #[], []⟩ with heap := (World.holding Tryd.prog os ⟨#[], #[], []⟩).heap.modify 0 fun
      | .cells _ t frozen => .cells (kindT.map (Value.int .i64)).toArray t frozen
      | o => o }
theorem laid_met2 (os : Os) : laidMet Tryd.prog Rows.callTellsRow.laid ((laidWorld2 os).forCall (fun _ _ => 0) ⟨#[], #[.agg #[.int .u32 0, .int .u32 0, .int .u32 0, .int .u32 0, .int .u32 0, .int .u32 0, .int .u32 0, .int .u32 0, .int .u32 0, .int .u32 0, .int .u32 0, .int .u32 0, .int .u32 0, .int .i64 0, .int .u32 0]], []⟩).memory :=
  laidMet_of_run' 8 (by kernel_rfl) (by kernel_rfl)
theorem callTells_reads (os : Os) {H : Type} (enc : TypeId × Value → H) : ∃ places, DataW.whole enc Tryd.prog ((laidWorld2 os).forCall (fun _ _ => 0) ⟨#[], #[.agg #[.int .u32 0, .int .u32 0, .int .u32 0, .int .u32 0, .int .u32 0, .int .u32 0, .int .u32 0, .int .u32 0, .int .u32 0, .int .u32 0, .int .u32 0, .int .u32 0, .int .u32 0, .int .i64 0, .int .u32 0]], []⟩).memory Tryd.f4.params.toList Rows.callTellsSpec.vars false #[Value.agg #[.int .u32 0, .int .u32 0, .int .u32 0, .int .u32 0, .int .u32 0, .int .u32 0, .int .u32 0, .int .u32 0, .int .u32 0, .int .u32 0, .int .u32 0, .int .u32 0, .int .u32 0, .int .i64 0, .int .u32 0]].toList 8 = some ([.agg [.agg [.agg [.lit (.int .u32 0), .lit (.int .u32 0), .lit (.int .u32 0), .lit (.int .u32 0), .lit (.int .u32 0), .lit (.int .u32 0), .lit (.int .u32 0), .lit (.int .u32 0)], .lit (.int .u32 0)], .agg [.lit (.int .u32 0), .lit (.int .u32 0), .lit (.int .u32 0), .lit (.int .u32 0)], .lit (.int .i64 0), .lit (.int .u32 0)]], [], places) :=
  ⟨[], by kernel_rfl⟩

set_option maxRecDepth 100000 in
theorem callTells_lifted (os : Os) (started : os.Started) (H : Type) (enc : TypeId × Value → H) (F : Stop.Interp) :
    ReturnsInHanded {} Tryd.checked os 4 .any ((OpenSpec.ofChange Rows.callTellsSpec).preRow enc Tryd.prog Tryd.f4 Rows.callTellsRow.domain false Rows.callTellsRow.laid) (((OpenSpec.ofChange Rows.callTellsSpec).at F).post enc Tryd.prog Tryd.f4 false true false false) := by
  obtain ⟨places, hx⟩ := callTells_reads os enc
  exact law_lifted_laid (C := Tryd.checked) F callTells_own callTells_laid started (by kernel_rfl) Tryd.func4 (by kernel_rfl) Tryd.underlying4 rfl rfl callTells_spec
    (witness_row_at (enc := enc) (C := Tryd.checked) false (laidWorld2 os) #[.agg #[.int .u32 0, .int .u32 0, .int .u32 0, .int .u32 0, .int .u32 0, .int .u32 0, .int .u32 0, .int .u32 0, .int .u32 0, .int .u32 0, .int .u32 0, .int .u32 0, .int .u32 0, .int .i64 0, .int .u32 0]] rfl (by kernel_rfl) (by kernel_rfl) (by kernel_rfl)
      (OpenSpec.preRow_of_cond 8 hx (by kernel_rfl) (fun k hk => by cases hk) (by kernel_rfl) (laid_met2 os)))
    callTells_args

theorem callTells_said : Rows.CallTellsSaid :=
  OpenClaim.holds_of_cond 4 Tryd.f4 rfl rfl rfl rfl rfl rfl rfl ⟨rfl, rfl, rfl, rfl, rfl⟩ rfl rfl rfl rfl rfl (by kernel_rfl) Tryd.func4 (by kernel_rfl)
    (of_decide_eq_true (by kernel_rfl)) (by unfold Func.isWrapper; first | (rw [if_pos (by decide +kernel)]; kernel_rfl) | (rw [if_neg (by decide +kernel)]; exact ⟨rfl, rfl⟩))
    (fun os started H enc _ F => by rw [OpenClaim.pre_eq_preRow]; exact callTells_lifted os started H enc F)

theorem callTells_plain (f : FuncId) (fn : Func) (hf : Tryd.pinned.checked.prog.funcNamed "transom/transomlaw12.CallTells" = some f) (hfn : Tryd.pinned.checked.prog.funcs[f]? = some fn) :
    false = Tryd.pinned.checked.prog.looks [] ∧ ∀ (j : Nat) t, fn.params[j]? = some t → Tryd.pinned.checked.prog.wantsStandIn t = false := by
  obtain rfl : f = 4 := Option.some.inj ((show Tryd.prog.funcNamed "transom/transomlaw12.CallTells" = some 4 by kernel_rfl).symm.trans hf) |>.symm
  obtain rfl : fn = Tryd.f4 := (Option.some.inj (Tryd.func4.symm.trans hfn)).symm
  refine ⟨by kernel_rfl, fun j t ht => ?_⟩
  rw [Tryd.params4] at ht
  obtain rfl : t = 31 := by simpa using Array.mem_of_getElem? ht
  exact (show Tryd.prog.wantsStandIn 31 = false by kernel_rfl)

theorem callTells_holds : Rows.CallTellsCardSaid :=
  Claim7.holds_tied_plain_at .later [] _ _ _ _ callTells_said (fun _ h => by cases h) (by kernel_rfl) (fun _ h => by cases h) callTells_row_tie rfl ⟨rfl, rfl⟩ (by kernel_rfl) rfl callTells_plain (by kernel_rfl)
#print axioms callTells_holds
end Go.Proofs.YtmffbhlbikjmaaaDoor
