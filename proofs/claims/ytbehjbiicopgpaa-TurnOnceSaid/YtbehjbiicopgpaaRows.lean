/-
  No cell of these rows narrows 'for every input' (looked for: loops, veiled, ifaces, maps, wideKeys, modest, calm, conditions, laid).
  DERIVED. THE GIVEN ROWS OF THIS SEAT. 6 by the template 'for every input the law returns true; each argument reads behind the call as it read before'; 0 by the template 'total and deterministic' (their statements: YtbehjbiicopgpaaTotals.lean).
  GIVEN WITH THE SEED: the statements are not yours to turn. If you find one false, say at which input.
  Laid BY PROGRAM, IN A SANDBOX (cutbox-rows.mjs): the forced cells as the released guide's own fill.sh prints them over the translation f26f3d98dd13118a… (all of the seat's roots in one cut). By AI agents, Wed Nov 11 2026. No macro, syntax, notation, axiom, sorry.
-/
import Derived.Test.YtbehjbiicopgpaaChecked
import GoSem.Claim
import GoSem.ClaimJoined
import GoSem.ClaimMapViews
import Derived.JoinedTies
import Derived.KernelRfl
namespace Go.Proofs.Ytbehjbiicopgpaa
/- THE CELL 'sum', in the pinned program and in every row, IS THE sha256 OF THE DUMP (.gsa) THAT YtbehjbiicopgpaaProg.lean LOADS. Nothing in Lean hashes anything: it is a label: what it is worth is what the hold of that sum in a sandbox is worth. -/
noncomputable def Try.pinned : Pinned := { name := "ytbehjbiicopgpaa", sum := "f26f3d98dd13118ab5b7f66e627530a96ff8b36dff3fd287921d58990f54db3c", checked := Try.checked }
namespace Rows
def none {H : Type} : Left H := { results := [], args := [] }

/-- 'transomlaw09.TurnFair': WHATEVER THE INPUT: true; the input reads as it did. -/
def turnFairSpec : ChangeSpec := { name := "turnFair", fn := fun _ => fun
  | [d1, d2] => { results := [.lit (.bool true)], args := [d1, d2] }
  | _ => none }
def turnFairRow : OpenClaim := { program := "ytbehjbiicopgpaa", sum := "f26f3d98dd13118ab5b7f66e627530a96ff8b36dff3fd287921d58990f54db3c", func := "transom/transomlaw09.TurnFair", spec := "turnFair", apart := false }
def TurnFairSaid : Prop := turnFairRow.holds Try.pinned (OpenSpec.ofChange turnFairSpec)

/-- ITS FALSE NEIGHBOUR: 'it returns false'. Refute it at one input. -/
def turnFairWrong : ChangeSpec := { name := "turnFair", fn := fun _ => fun
  | [d1, d2] => { results := [.lit (.bool false)], args := [d1, d2] }
  | _ => none }
def TurnFairWrongFalsely : Prop := turnFairRow.holds Try.pinned (OpenSpec.ofChange turnFairWrong)

/-- 'transomlaw09.TurnNearer': WHATEVER THE INPUT: true; the input reads as it did. -/
def turnNearerSpec : ChangeSpec := { name := "turnNearer", fn := fun _ => fun
  | [d] => { results := [.lit (.bool true)], args := [d] }
  | _ => none }
def turnNearerRow : OpenClaim := { program := "ytbehjbiicopgpaa", sum := "f26f3d98dd13118ab5b7f66e627530a96ff8b36dff3fd287921d58990f54db3c", func := "transom/transomlaw09.TurnNearer", spec := "turnNearer", apart := false }
def TurnNearerSaid : Prop := turnNearerRow.holds Try.pinned (OpenSpec.ofChange turnNearerSpec)

/-- ITS FALSE NEIGHBOUR: 'it returns false'. Refute it at one input. -/
def turnNearerWrong : ChangeSpec := { name := "turnNearer", fn := fun _ => fun
  | [d] => { results := [.lit (.bool false)], args := [d] }
  | _ => none }
def TurnNearerWrongFalsely : Prop := turnNearerRow.holds Try.pinned (OpenSpec.ofChange turnNearerWrong)

/-- 'transomlaw09.TurnRound': WHATEVER THE INPUT: true; the input reads as it did. -/
def turnRoundSpec : ChangeSpec := { name := "turnRound", fn := fun _ => fun
  | [d] => { results := [.lit (.bool true)], args := [d] }
  | _ => none }
def turnRoundRow : OpenClaim := { program := "ytbehjbiicopgpaa", sum := "f26f3d98dd13118ab5b7f66e627530a96ff8b36dff3fd287921d58990f54db3c", func := "transom/transomlaw09.TurnRound", spec := "turnRound", apart := false }
def TurnRoundSaid : Prop := turnRoundRow.holds Try.pinned (OpenSpec.ofChange turnRoundSpec)

/-- ITS FALSE NEIGHBOUR: 'it returns false'. Refute it at one input. -/
def turnRoundWrong : ChangeSpec := { name := "turnRound", fn := fun _ => fun
  | [d] => { results := [.lit (.bool false)], args := [d] }
  | _ => none }
def TurnRoundWrongFalsely : Prop := turnRoundRow.holds Try.pinned (OpenSpec.ofChange turnRoundWrong)

/-- 'transomlaw09.TurnSpends': WHATEVER THE INPUT: true; the input reads as it did. -/
def turnSpendsSpec : ChangeSpec := { name := "turnSpends", fn := fun _ => fun
  | [d] => { results := [.lit (.bool true)], args := [d] }
  | _ => none }
def turnSpendsRow : OpenClaim := { program := "ytbehjbiicopgpaa", sum := "f26f3d98dd13118ab5b7f66e627530a96ff8b36dff3fd287921d58990f54db3c", func := "transom/transomlaw09.TurnSpends", spec := "turnSpends", apart := false }
def TurnSpendsSaid : Prop := turnSpendsRow.holds Try.pinned (OpenSpec.ofChange turnSpendsSpec)

/-- ITS FALSE NEIGHBOUR: 'it returns false'. Refute it at one input. -/
def turnSpendsWrong : ChangeSpec := { name := "turnSpends", fn := fun _ => fun
  | [d] => { results := [.lit (.bool false)], args := [d] }
  | _ => none }
def TurnSpendsWrongFalsely : Prop := turnSpendsRow.holds Try.pinned (OpenSpec.ofChange turnSpendsWrong)

/-- 'transomlaw09.TurnOnce': WHATEVER THE INPUT: true; the input reads as it did. -/
def turnOnceSpec : ChangeSpec := { name := "turnOnce", fn := fun _ => fun
  | [d] => { results := [.lit (.bool true)], args := [d] }
  | _ => none }
def turnOnceRow : OpenClaim := { program := "ytbehjbiicopgpaa", sum := "f26f3d98dd13118ab5b7f66e627530a96ff8b36dff3fd287921d58990f54db3c", func := "transom/transomlaw09.TurnOnce", spec := "turnOnce", unfollowed := true, recurses := true, apart := false }
def TurnOnceSaid : Prop := turnOnceRow.holds Try.pinned (OpenSpec.ofChange turnOnceSpec)

/-- ITS FALSE NEIGHBOUR: 'it returns false'. Refute it at one input. -/
def turnOnceWrong : ChangeSpec := { name := "turnOnce", fn := fun _ => fun
  | [d] => { results := [.lit (.bool false)], args := [d] }
  | _ => none }
def TurnOnceWrongFalsely : Prop := turnOnceRow.holds Try.pinned (OpenSpec.ofChange turnOnceWrong)

/-- 'transomlaw09.TurnGone': WHATEVER THE INPUT: true; the input reads as it did. -/
def turnGoneSpec : ChangeSpec := { name := "turnGone", fn := fun _ => fun
  | [d1, d2] => { results := [.lit (.bool true)], args := [d1, d2] }
  | _ => none }
def turnGoneRow : OpenClaim := { program := "ytbehjbiicopgpaa", sum := "f26f3d98dd13118ab5b7f66e627530a96ff8b36dff3fd287921d58990f54db3c", func := "transom/transomlaw09.TurnGone", spec := "turnGone", unfollowed := true, recurses := true, apart := false }
def TurnGoneSaid : Prop := turnGoneRow.holds Try.pinned (OpenSpec.ofChange turnGoneSpec)

/-- ITS FALSE NEIGHBOUR: 'it returns false'. Refute it at one input. -/
def turnGoneWrong : ChangeSpec := { name := "turnGone", fn := fun _ => fun
  | [d1, d2] => { results := [.lit (.bool false)], args := [d1, d2] }
  | _ => none }
def TurnGoneWrongFalsely : Prop := turnGoneRow.holds Try.pinned (OpenSpec.ofChange turnGoneWrong)

/- THE SECOND FORM. 'bulk': how many values and letters a reading holds, each counted each time it is reached (what is shared counts as often as it is met; a slice's spare places count too). A statement '..UptoSaid' is the law's where the arguments, and the package variables that the reading takes, are together of bulk at most 1048576: NARROWER than '..Said'. Prove '..Said' where nothing that the law and all that it calls make is longer than what came in: it says more and counts as full. Else prove '..UptoSaid'. A law counts once. -/
mutual
def uptoBulk {H : Type} : DataW H → Nat
  | .lit (.string bytes) => bytes.length + 1
  | .lit _ => 1
  | .nil => 1
  | .ptr d => uptoBulk d + 1
  | .slice elems spare => uptoBulkAll elems + uptoBulkAll spare + 1
  | .agg parts => uptoBulkAll parts + 1
  | .iface _ d => uptoBulk d + 1
  | .map entries => uptoBulkEntries entries + 1
  | .held _ => 1
def uptoBulkAll {H : Type} : List (DataW H) → Nat
  | [] => 0
  | d :: r => uptoBulk d + uptoBulkAll r
def uptoBulkEntries {H : Type} : List (Lit × DataW H) → Nat
  | [] => 0
  | x :: r => uptoBulkEntry x + uptoBulkEntries r
def uptoBulkEntry {H : Type} : Lit × DataW H → Nat
  | (.string bytes, d) => bytes.length + uptoBulk d + 1
  | (_, d) => uptoBulk d + 1
 end
def uptoSmall : (H : Type) → List (DataW H) → Bool := fun _ ds => decide (uptoBulkAll ds ≤ 1048576)
def OpenSpec.upto (s : _root_.Go.ChangeSpec) : _root_.Go.OpenSpec := { _root_.Go.OpenSpec.ofChange s with cond := some uptoSmall }

/-- 'transomlaw09.TurnFair', WHERE WHAT IT READS IS OF BULK AT MOST 1048576: true; the input reads as it did. -/
def turnFairUptoRow : OpenClaim := { program := "ytbehjbiicopgpaa", sum := "f26f3d98dd13118ab5b7f66e627530a96ff8b36dff3fd287921d58990f54db3c", func := "transom/transomlaw09.TurnFair", spec := "turnFair", apart := false, narrowed := true }
def TurnFairUptoSaid : Prop := turnFairUptoRow.holds Try.pinned (OpenSpec.upto turnFairSpec)

/-- 'transomlaw09.TurnNearer', WHERE WHAT IT READS IS OF BULK AT MOST 1048576: true; the input reads as it did. -/
def turnNearerUptoRow : OpenClaim := { program := "ytbehjbiicopgpaa", sum := "f26f3d98dd13118ab5b7f66e627530a96ff8b36dff3fd287921d58990f54db3c", func := "transom/transomlaw09.TurnNearer", spec := "turnNearer", apart := false, narrowed := true }
def TurnNearerUptoSaid : Prop := turnNearerUptoRow.holds Try.pinned (OpenSpec.upto turnNearerSpec)

/-- 'transomlaw09.TurnRound', WHERE WHAT IT READS IS OF BULK AT MOST 1048576: true; the input reads as it did. -/
def turnRoundUptoRow : OpenClaim := { program := "ytbehjbiicopgpaa", sum := "f26f3d98dd13118ab5b7f66e627530a96ff8b36dff3fd287921d58990f54db3c", func := "transom/transomlaw09.TurnRound", spec := "turnRound", apart := false, narrowed := true }
def TurnRoundUptoSaid : Prop := turnRoundUptoRow.holds Try.pinned (OpenSpec.upto turnRoundSpec)

/-- 'transomlaw09.TurnSpends', WHERE WHAT IT READS IS OF BULK AT MOST 1048576: true; the input reads as it did. -/
def turnSpendsUptoRow : OpenClaim := { program := "ytbehjbiicopgpaa", sum := "f26f3d98dd13118ab5b7f66e627530a96ff8b36dff3fd287921d58990f54db3c", func := "transom/transomlaw09.TurnSpends", spec := "turnSpends", apart := false, narrowed := true }
def TurnSpendsUptoSaid : Prop := turnSpendsUptoRow.holds Try.pinned (OpenSpec.upto turnSpendsSpec)

/-- 'transomlaw09.TurnOnce', WHERE WHAT IT READS IS OF BULK AT MOST 1048576: true; the input reads as it did. -/
def turnOnceUptoRow : OpenClaim := { program := "ytbehjbiicopgpaa", sum := "f26f3d98dd13118ab5b7f66e627530a96ff8b36dff3fd287921d58990f54db3c", func := "transom/transomlaw09.TurnOnce", spec := "turnOnce", unfollowed := true, recurses := true, apart := false, narrowed := true }
def TurnOnceUptoSaid : Prop := turnOnceUptoRow.holds Try.pinned (OpenSpec.upto turnOnceSpec)

/-- 'transomlaw09.TurnGone', WHERE WHAT IT READS IS OF BULK AT MOST 1048576: true; the input reads as it did. -/
def turnGoneUptoRow : OpenClaim := { program := "ytbehjbiicopgpaa", sum := "f26f3d98dd13118ab5b7f66e627530a96ff8b36dff3fd287921d58990f54db3c", func := "transom/transomlaw09.TurnGone", spec := "turnGone", unfollowed := true, recurses := true, apart := false, narrowed := true }
def TurnGoneUptoSaid : Prop := turnGoneUptoRow.holds Try.pinned (OpenSpec.upto turnGoneSpec)

end Rows
end Go.Proofs.Ytbehjbiicopgpaa
