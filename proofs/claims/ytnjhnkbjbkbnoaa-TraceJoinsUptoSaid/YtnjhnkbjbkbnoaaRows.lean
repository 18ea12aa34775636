/-
  No cell of these rows narrows 'for every input' (looked for: loops, veiled, ifaces, maps, wideKeys, modest, calm, conditions, laid).
  DERIVED. THE GIVEN ROWS OF THIS SEAT. 6 by the template 'for every input the law returns true; each argument reads behind the call as it read before'; 0 by the template 'total and deterministic' (their statements: YtnjhnkbjbkbnoaaTotals.lean).
  GIVEN WITH THE SEED: the statements are not yours to turn. If you find one false, say at which input.
  Laid BY PROGRAM, IN A SANDBOX (cutbox-rows.mjs): the forced cells as the released guide's own fill.sh prints them over the translation d27db13ece376d0f… (all of the seat's roots in one cut). By AI agents, Wed Nov 11 2026. No macro, syntax, notation, axiom, sorry.
-/
import Derived.Test.YtnjhnkbjbkbnoaaChecked
import GoSem.Claim
import GoSem.ClaimJoined
import GoSem.ClaimMapViews
import Derived.JoinedTies
import Derived.KernelRfl
namespace Go.Proofs.Ytnjhnkbjbkbnoaa
/- THE CELL 'sum', in the pinned program and in every row, IS THE sha256 OF THE DUMP (.gsa) THAT YtnjhnkbjbkbnoaaProg.lean LOADS. Nothing in Lean hashes anything: it is a label: what it is worth is what the hold of that sum in a sandbox is worth. -/
noncomputable def Try.pinned : Pinned := { name := "ytnjhnkbjbkbnoaa", sum := "d27db13ece376d0fe814e54fda94f555158a3a898099123bc5a113dddfb635a0", checked := Try.checked }
namespace Rows
def none {H : Type} : Left H := { results := [], args := [] }

/-- 'transomlaw18.TraceGaps': WHATEVER THE INPUT: true; the input reads as it did. -/
def traceGapsSpec : ChangeSpec := { name := "traceGaps", fn := fun _ => fun
  | [d1, d2] => { results := [.lit (.bool true)], args := [d1, d2] }
  | _ => none }
def traceGapsRow : OpenClaim := { program := "ytnjhnkbjbkbnoaa", sum := "d27db13ece376d0fe814e54fda94f555158a3a898099123bc5a113dddfb635a0", func := "transom/transomlaw18.TraceGaps", spec := "traceGaps", unfollowed := true, recurses := true, apart := false }
def TraceGapsSaid : Prop := traceGapsRow.holds Try.pinned (OpenSpec.ofChange traceGapsSpec)

/-- ITS FALSE NEIGHBOUR: 'it returns false'. Refute it at one input. -/
def traceGapsWrong : ChangeSpec := { name := "traceGaps", fn := fun _ => fun
  | [d1, d2] => { results := [.lit (.bool false)], args := [d1, d2] }
  | _ => none }
def TraceGapsWrongFalsely : Prop := traceGapsRow.holds Try.pinned (OpenSpec.ofChange traceGapsWrong)

/-- 'transomlaw18.TraceCuts': WHATEVER THE INPUT: true; the input reads as it did. -/
def traceCutsSpec : ChangeSpec := { name := "traceCuts", fn := fun _ => fun
  | [d1, d2, d3] => { results := [.lit (.bool true)], args := [d1, d2, d3] }
  | _ => none }
def traceCutsRow : OpenClaim := { program := "ytnjhnkbjbkbnoaa", sum := "d27db13ece376d0fe814e54fda94f555158a3a898099123bc5a113dddfb635a0", func := "transom/transomlaw18.TraceCuts", spec := "traceCuts", unfollowed := true, recurses := true, apart := false }
def TraceCutsSaid : Prop := traceCutsRow.holds Try.pinned (OpenSpec.ofChange traceCutsSpec)

/-- ITS FALSE NEIGHBOUR: 'it returns false'. Refute it at one input. -/
def traceCutsWrong : ChangeSpec := { name := "traceCuts", fn := fun _ => fun
  | [d1, d2, d3] => { results := [.lit (.bool false)], args := [d1, d2, d3] }
  | _ => none }
def TraceCutsWrongFalsely : Prop := traceCutsRow.holds Try.pinned (OpenSpec.ofChange traceCutsWrong)

/-- 'transomlaw18.TraceJoins': WHATEVER THE INPUT: true; the input reads as it did. -/
def traceJoinsSpec : ChangeSpec := { name := "traceJoins", fn := fun _ => fun
  | [d] => { results := [.lit (.bool true)], args := [d] }
  | _ => none }
def traceJoinsRow : OpenClaim := { program := "ytnjhnkbjbkbnoaa", sum := "d27db13ece376d0fe814e54fda94f555158a3a898099123bc5a113dddfb635a0", func := "transom/transomlaw18.TraceJoins", spec := "traceJoins", unfollowed := true, recurses := true, apart := false }
def TraceJoinsSaid : Prop := traceJoinsRow.holds Try.pinned (OpenSpec.ofChange traceJoinsSpec)

/-- ITS FALSE NEIGHBOUR: 'it returns false'. Refute it at one input. -/
def traceJoinsWrong : ChangeSpec := { name := "traceJoins", fn := fun _ => fun
  | [d] => { results := [.lit (.bool false)], args := [d] }
  | _ => none }
def TraceJoinsWrongFalsely : Prop := traceJoinsRow.holds Try.pinned (OpenSpec.ofChange traceJoinsWrong)

/-- 'transomlaw18.TraceAhead': WHATEVER THE INPUT: true; the input reads as it did. -/
def traceAheadSpec : ChangeSpec := { name := "traceAhead", fn := fun _ => fun
  | [d1, d2] => { results := [.lit (.bool true)], args := [d1, d2] }
  | _ => none }
def traceAheadRow : OpenClaim := { program := "ytnjhnkbjbkbnoaa", sum := "d27db13ece376d0fe814e54fda94f555158a3a898099123bc5a113dddfb635a0", func := "transom/transomlaw18.TraceAhead", spec := "traceAhead", unfollowed := true, recurses := true, apart := false }
def TraceAheadSaid : Prop := traceAheadRow.holds Try.pinned (OpenSpec.ofChange traceAheadSpec)

/-- ITS FALSE NEIGHBOUR: 'it returns false'. Refute it at one input. -/
def traceAheadWrong : ChangeSpec := { name := "traceAhead", fn := fun _ => fun
  | [d1, d2] => { results := [.lit (.bool false)], args := [d1, d2] }
  | _ => none }
def TraceAheadWrongFalsely : Prop := traceAheadRow.holds Try.pinned (OpenSpec.ofChange traceAheadWrong)

/-- 'transomlaw18.TraceOwn': WHATEVER THE INPUT: true; the input reads as it did. -/
def traceOwnSpec : ChangeSpec := { name := "traceOwn", fn := fun _ => fun
  | [d1, d2, d3] => { results := [.lit (.bool true)], args := [d1, d2, d3] }
  | _ => none }
def traceOwnRow : OpenClaim := { program := "ytnjhnkbjbkbnoaa", sum := "d27db13ece376d0fe814e54fda94f555158a3a898099123bc5a113dddfb635a0", func := "transom/transomlaw18.TraceOwn", spec := "traceOwn", unfollowed := true, recurses := true, apart := false }
def TraceOwnSaid : Prop := traceOwnRow.holds Try.pinned (OpenSpec.ofChange traceOwnSpec)

/-- ITS FALSE NEIGHBOUR: 'it returns false'. Refute it at one input. -/
def traceOwnWrong : ChangeSpec := { name := "traceOwn", fn := fun _ => fun
  | [d1, d2, d3] => { results := [.lit (.bool false)], args := [d1, d2, d3] }
  | _ => none }
def TraceOwnWrongFalsely : Prop := traceOwnRow.holds Try.pinned (OpenSpec.ofChange traceOwnWrong)

/-- 'transomlaw18.TraceTells': WHATEVER THE INPUT: true; the input reads as it did. -/
def traceTellsSpec : ChangeSpec := { name := "traceTells", fn := fun _ => fun
  | [d] => { results := [.lit (.bool true)], args := [d] }
  | _ => none }
def traceTellsRow : OpenClaim := { program := "ytnjhnkbjbkbnoaa", sum := "d27db13ece376d0fe814e54fda94f555158a3a898099123bc5a113dddfb635a0", func := "transom/transomlaw18.TraceTells", spec := "traceTells", unfollowed := true, recurses := true, apart := false }
def TraceTellsSaid : Prop := traceTellsRow.holds Try.pinned (OpenSpec.ofChange traceTellsSpec)

/-- ITS FALSE NEIGHBOUR: 'it returns false'. Refute it at one input. -/
def traceTellsWrong : ChangeSpec := { name := "traceTells", fn := fun _ => fun
  | [d] => { results := [.lit (.bool false)], args := [d] }
  | _ => none }
def TraceTellsWrongFalsely : Prop := traceTellsRow.holds Try.pinned (OpenSpec.ofChange traceTellsWrong)

/- THE SECOND FORM. 'bulk': how many values and letters a reading holds, each counted each time it is reached (what is shared counts as often as it is met; a slice's spare places count too). A statement '..UptoSaid' is the law's where the arguments, and the package variables that the reading takes, are together of bulk at most 1048576: NARROWER than '..Said'. Prove '..Said' where nothing that the law and all that it calls make is longer than what came in: it says more and counts as full. Else prove '..UptoSaid'. A law counts once. -/
mutual
def uptoBulk {H : Type} : DataW H → Nat
  | .lit (.string bytes) => bytes.length + 1
  | .lit _ => 1
  | .nil => 1
  | .ptr d => uptoBulk d + 1
  | .slice elems spare => uptoBulkAll elems + uptoBulkAll spare + 1
  | .agg parts => uptoBulkAll parts + 1
  | .iface _ d => uptoBulk d + 1
  | .map entries => uptoBulkEntries entries + 1
  | .held _ => 1
def uptoBulkAll {H : Type} : List (DataW H) → Nat
  | [] => 0
  | d :: r => uptoBulk d + uptoBulkAll r
def uptoBulkEntries {H : Type} : List (Lit × DataW H) → Nat
  | [] => 0
  | x :: r => uptoBulkEntry x + uptoBulkEntries r
def uptoBulkEntry {H : Type} : Lit × DataW H → Nat
  | (.string bytes, d) => bytes.length + uptoBulk d + 1
  | (_, d) => uptoBulk d + 1
 end
def uptoSmall : (H : Type) → List (DataW H) → Bool := fun _ ds => decide (uptoBulkAll ds ≤ 1048576)
def OpenSpec.upto (s : _root_.Go.ChangeSpec) : _root_.Go.OpenSpec := { _root_.Go.OpenSpec.ofChange s with cond := some uptoSmall }

/-- 'transomlaw18.TraceGaps', WHERE WHAT IT READS IS OF BULK AT MOST 1048576: true; the input reads as it did. -/
def traceGapsUptoRow : OpenClaim := { program := "ytnjhnkbjbkbnoaa", sum := "d27db13ece376d0fe814e54fda94f555158a3a898099123bc5a113dddfb635a0", func := "transom/transomlaw18.TraceGaps", spec := "traceGaps", unfollowed := true, recurses := true, apart := false, narrowed := true }
def TraceGapsUptoSaid : Prop := traceGapsUptoRow.holds Try.pinned (OpenSpec.upto traceGapsSpec)

/-- 'transomlaw18.TraceCuts', WHERE WHAT IT READS IS OF BULK AT MOST 1048576: true; the input reads as it did. -/
def traceCutsUptoRow : OpenClaim := { program := "ytnjhnkbjbkbnoaa", sum := "d27db13ece376d0fe814e54fda94f555158a3a898099123bc5a113dddfb635a0", func := "transom/transomlaw18.TraceCuts", spec := "traceCuts", unfollowed := true, recurses := true, apart := false, narrowed := true }
def TraceCutsUptoSaid : Prop := traceCutsUptoRow.holds Try.pinned (OpenSpec.upto traceCutsSpec)

/-- 'transomlaw18.TraceJoins', WHERE WHAT IT READS IS OF BULK AT MOST 1048576: true; the input reads as it did. -/
def traceJoinsUptoRow : OpenClaim := { program := "ytnjhnkbjbkbnoaa", sum := "d27db13ece376d0fe814e54fda94f555158a3a898099123bc5a113dddfb635a0", func := "transom/transomlaw18.TraceJoins", spec := "traceJoins", unfollowed := true, recurses := true, apart := false, narrowed := true }
def TraceJoinsUptoSaid : Prop := traceJoinsUptoRow.holds Try.pinned (OpenSpec.upto traceJoinsSpec)

/-- 'transomlaw18.TraceAhead', WHERE WHAT IT READS IS OF BULK AT MOST 1048576: true; the input reads as it did. -/
def traceAheadUptoRow : OpenClaim := { program := "ytnjhnkbjbkbnoaa", sum := "d27db13ece376d0fe814e54fda94f555158a3a898099123bc5a113dddfb635a0", func := "transom/transomlaw18.TraceAhead", spec := "traceAhead", unfollowed := true, recurses := true, apart := false, narrowed := true }
def TraceAheadUptoSaid : Prop := traceAheadUptoRow.holds Try.pinned (OpenSpec.upto traceAheadSpec)

/-- 'transomlaw18.TraceOwn', WHERE WHAT IT READS IS OF BULK AT MOST 1048576: true; the input reads as it did. -/
def traceOwnUptoRow : OpenClaim := { program := "ytnjhnkbjbkbnoaa", sum := "d27db13ece376d0fe814e54fda94f555158a3a898099123bc5a113dddfb635a0", func := "transom/transomlaw18.TraceOwn", spec := "traceOwn", unfollowed := true, recurses := true, apart := false, narrowed := true }
def TraceOwnUptoSaid : Prop := traceOwnUptoRow.holds Try.pinned (OpenSpec.upto traceOwnSpec)

/-- 'transomlaw18.TraceTells', WHERE WHAT IT READS IS OF BULK AT MOST 1048576: true; the input reads as it did. -/
def traceTellsUptoRow : OpenClaim := { program := "ytnjhnkbjbkbnoaa", sum := "d27db13ece376d0fe814e54fda94f555158a3a898099123bc5a113dddfb635a0", func := "transom/transomlaw18.TraceTells", spec := "traceTells", unfollowed := true, recurses := true, apart := false, narrowed := true }
def TraceTellsUptoSaid : Prop := traceTellsUptoRow.holds Try.pinned (OpenSpec.upto traceTellsSpec)

end Rows
end Go.Proofs.Ytnjhnkbjbkbnoaa
