/-
  No cell of these rows narrows 'for every input' (looked for: loops, veiled, ifaces, maps, wideKeys, modest, calm, conditions, laid).
  DERIVED. THE GIVEN ROWS OF THIS SEAT. 7 by the template 'for every input the law returns true; each argument reads behind the call as it read before'; 0 by the template 'total and deterministic' (their statements: YtinhnecgmokfkaaTotals.lean).
  GIVEN WITH THE SEED: the statements are not yours to turn. If you find one false, say at which input.
  Laid BY PROGRAM, IN A SANDBOX (cutbox-rows.mjs): the forced cells as the released guide's own fill.sh prints them over the translation 7e2a8cf4eda58102… (all of the seat's roots in one cut). By AI agents, Wed Nov 11 2026. No macro, syntax, notation, axiom, sorry.
-/
import Derived.Test.YtinhnecgmokfkaaChecked
import GoSem.Claim
import GoSem.ClaimJoined
import GoSem.ClaimMapViews
import Derived.JoinedTies
import Derived.KernelRfl
namespace Go.Proofs.Ytinhnecgmokfkaa
/- THE CELL 'sum', in the pinned program and in every row, IS THE sha256 OF THE DUMP (.gsa) THAT YtinhnecgmokfkaaProg.lean LOADS. Nothing in Lean hashes anything: it is a label: what it is worth is what the hold of that sum in a sandbox is worth. -/
noncomputable def Try.pinned : Pinned := { name := "ytinhnecgmokfkaa", sum := "7e2a8cf4eda581020051689724d99f48a714128e6b71166cff7c643bd36d9776", checked := Try.checked }
namespace Rows
def none {H : Type} : Left H := { results := [], args := [] }

/-- 'transomlaw06.WindowSums': WHATEVER THE INPUT: true; the input reads as it did. -/
def windowSumsSpec : ChangeSpec := { name := "windowSums", fn := fun _ => fun
  | [d1, d2, d3] => { results := [.lit (.bool true)], args := [d1, d2, d3] }
  | _ => none }
def windowSumsRow : OpenClaim := { program := "ytinhnecgmokfkaa", sum := "7e2a8cf4eda581020051689724d99f48a714128e6b71166cff7c643bd36d9776", func := "transom/transomlaw06.WindowSums", spec := "windowSums", unfollowed := true, recurses := true, apart := false }
def WindowSumsSaid : Prop := windowSumsRow.holds Try.pinned (OpenSpec.ofChange windowSumsSpec)

/-- ITS FALSE NEIGHBOUR: 'it returns false'. Refute it at one input. -/
def windowSumsWrong : ChangeSpec := { name := "windowSums", fn := fun _ => fun
  | [d1, d2, d3] => { results := [.lit (.bool false)], args := [d1, d2, d3] }
  | _ => none }
def WindowSumsWrongFalsely : Prop := windowSumsRow.holds Try.pinned (OpenSpec.ofChange windowSumsWrong)

/-- 'transomlaw06.WindowCounts': WHATEVER THE INPUT: true; the input reads as it did. -/
def windowCountsSpec : ChangeSpec := { name := "windowCounts", fn := fun _ => fun
  | [d] => { results := [.lit (.bool true)], args := [d] }
  | _ => none }
def windowCountsRow : OpenClaim := { program := "ytinhnecgmokfkaa", sum := "7e2a8cf4eda581020051689724d99f48a714128e6b71166cff7c643bd36d9776", func := "transom/transomlaw06.WindowCounts", spec := "windowCounts", unfollowed := true, recurses := true, apart := false }
def WindowCountsSaid : Prop := windowCountsRow.holds Try.pinned (OpenSpec.ofChange windowCountsSpec)

/-- ITS FALSE NEIGHBOUR: 'it returns false'. Refute it at one input. -/
def windowCountsWrong : ChangeSpec := { name := "windowCounts", fn := fun _ => fun
  | [d] => { results := [.lit (.bool false)], args := [d] }
  | _ => none }
def WindowCountsWrongFalsely : Prop := windowCountsRow.holds Try.pinned (OpenSpec.ofChange windowCountsWrong)

/-- 'transomlaw06.WindowFrames': WHATEVER THE INPUT: true; the input reads as it did. -/
def windowFramesSpec : ChangeSpec := { name := "windowFrames", fn := fun _ => fun
  | [d] => { results := [.lit (.bool true)], args := [d] }
  | _ => none }
def windowFramesRow : OpenClaim := { program := "ytinhnecgmokfkaa", sum := "7e2a8cf4eda581020051689724d99f48a714128e6b71166cff7c643bd36d9776", func := "transom/transomlaw06.WindowFrames", spec := "windowFrames", unfollowed := true, recurses := true, apart := false }
def WindowFramesSaid : Prop := windowFramesRow.holds Try.pinned (OpenSpec.ofChange windowFramesSpec)

/-- ITS FALSE NEIGHBOUR: 'it returns false'. Refute it at one input. -/
def windowFramesWrong : ChangeSpec := { name := "windowFrames", fn := fun _ => fun
  | [d] => { results := [.lit (.bool false)], args := [d] }
  | _ => none }
def WindowFramesWrongFalsely : Prop := windowFramesRow.holds Try.pinned (OpenSpec.ofChange windowFramesWrong)

/-- 'transomlaw06.WindowOne': WHATEVER THE INPUT: true; the input reads as it did. -/
def windowOneSpec : ChangeSpec := { name := "windowOne", fn := fun _ => fun
  | [d1, d2, d3] => { results := [.lit (.bool true)], args := [d1, d2, d3] }
  | _ => none }
def windowOneRow : OpenClaim := { program := "ytinhnecgmokfkaa", sum := "7e2a8cf4eda581020051689724d99f48a714128e6b71166cff7c643bd36d9776", func := "transom/transomlaw06.WindowOne", spec := "windowOne", unfollowed := true, recurses := true, apart := false }
def WindowOneSaid : Prop := windowOneRow.holds Try.pinned (OpenSpec.ofChange windowOneSpec)

/-- ITS FALSE NEIGHBOUR: 'it returns false'. Refute it at one input. -/
def windowOneWrong : ChangeSpec := { name := "windowOne", fn := fun _ => fun
  | [d1, d2, d3] => { results := [.lit (.bool false)], args := [d1, d2, d3] }
  | _ => none }
def WindowOneWrongFalsely : Prop := windowOneRow.holds Try.pinned (OpenSpec.ofChange windowOneWrong)

/-- 'transomlaw06.WindowBegins': WHATEVER THE INPUT: true; the input reads as it did. -/
def windowBeginsSpec : ChangeSpec := { name := "windowBegins", fn := fun _ => fun
  | [d1, d2, d3] => { results := [.lit (.bool true)], args := [d1, d2, d3] }
  | _ => none }
def windowBeginsRow : OpenClaim := { program := "ytinhnecgmokfkaa", sum := "7e2a8cf4eda581020051689724d99f48a714128e6b71166cff7c643bd36d9776", func := "transom/transomlaw06.WindowBegins", spec := "windowBegins", unfollowed := true, recurses := true, apart := false }
def WindowBeginsSaid : Prop := windowBeginsRow.holds Try.pinned (OpenSpec.ofChange windowBeginsSpec)

/-- ITS FALSE NEIGHBOUR: 'it returns false'. Refute it at one input. -/
def windowBeginsWrong : ChangeSpec := { name := "windowBegins", fn := fun _ => fun
  | [d1, d2, d3] => { results := [.lit (.bool false)], args := [d1, d2, d3] }
  | _ => none }
def WindowBeginsWrongFalsely : Prop := windowBeginsRow.holds Try.pinned (OpenSpec.ofChange windowBeginsWrong)

/-- 'transomlaw06.WindowTells': WHATEVER THE INPUT: true; the input reads as it did. -/
def windowTellsSpec : ChangeSpec := { name := "windowTells", fn := fun _ => fun
  | [d] => { results := [.lit (.bool true)], args := [d] }
  | _ => none }
def windowTellsRow : OpenClaim := { program := "ytinhnecgmokfkaa", sum := "7e2a8cf4eda581020051689724d99f48a714128e6b71166cff7c643bd36d9776", func := "transom/transomlaw06.WindowTells", spec := "windowTells", unfollowed := true, recurses := true, apart := false }
def WindowTellsSaid : Prop := windowTellsRow.holds Try.pinned (OpenSpec.ofChange windowTellsSpec)

/-- ITS FALSE NEIGHBOUR: 'it returns false'. Refute it at one input. -/
def windowTellsWrong : ChangeSpec := { name := "windowTells", fn := fun _ => fun
  | [d] => { results := [.lit (.bool false)], args := [d] }
  | _ => none }
def WindowTellsWrongFalsely : Prop := windowTellsRow.holds Try.pinned (OpenSpec.ofChange windowTellsWrong)

/-- 'transomlaw06.WindowGrants': WHATEVER THE INPUT: true; the input reads as it did. -/
def windowGrantsSpec : ChangeSpec := { name := "windowGrants", fn := fun _ => fun
  | [d] => { results := [.lit (.bool true)], args := [d] }
  | _ => none }
def windowGrantsRow : OpenClaim := { program := "ytinhnecgmokfkaa", sum := "7e2a8cf4eda581020051689724d99f48a714128e6b71166cff7c643bd36d9776", func := "transom/transomlaw06.WindowGrants", spec := "windowGrants", unfollowed := true, recurses := true, apart := false }
def WindowGrantsSaid : Prop := windowGrantsRow.holds Try.pinned (OpenSpec.ofChange windowGrantsSpec)

/-- ITS FALSE NEIGHBOUR: 'it returns false'. Refute it at one input. -/
def windowGrantsWrong : ChangeSpec := { name := "windowGrants", fn := fun _ => fun
  | [d] => { results := [.lit (.bool false)], args := [d] }
  | _ => none }
def WindowGrantsWrongFalsely : Prop := windowGrantsRow.holds Try.pinned (OpenSpec.ofChange windowGrantsWrong)

/- THE SECOND FORM. 'bulk': how many values and letters a reading holds, each counted each time it is reached (what is shared counts as often as it is met; a slice's spare places count too). A statement '..UptoSaid' is the law's where the arguments, and the package variables that the reading takes, are together of bulk at most 1048576: NARROWER than '..Said'. Prove '..Said' where nothing that the law and all that it calls make is longer than what came in: it says more and counts as full. Else prove '..UptoSaid'. A law counts once. -/
mutual
def uptoBulk {H : Type} : DataW H → Nat
  | .lit (.string bytes) => bytes.length + 1
  | .lit _ => 1
  | .nil => 1
  | .ptr d => uptoBulk d + 1
  | .slice elems spare => uptoBulkAll elems + uptoBulkAll spare + 1
  | .agg parts => uptoBulkAll parts + 1
  | .iface _ d => uptoBulk d + 1
  | .map entries => uptoBulkEntries entries + 1
  | .held _ => 1
def uptoBulkAll {H : Type} : List (DataW H) → Nat
  | [] => 0
  | d :: r => uptoBulk d + uptoBulkAll r
def uptoBulkEntries {H : Type} : List (Lit × DataW H) → Nat
  | [] => 0
  | x :: r => uptoBulkEntry x + uptoBulkEntries r
def uptoBulkEntry {H : Type} : Lit × DataW H → Nat
  | (.string bytes, d) => bytes.length + uptoBulk d + 1
  | (_, d) => uptoBulk d + 1
 end
def uptoSmall : (H : Type) → List (DataW H) → Bool := fun _ ds => decide (uptoBulkAll ds ≤ 1048576)
def OpenSpec.upto (s : _root_.Go.ChangeSpec) : _root_.Go.OpenSpec := { _root_.Go.OpenSpec.ofChange s with cond := some uptoSmall }

/-- 'transomlaw06.WindowSums', WHERE WHAT IT READS IS OF BULK AT MOST 1048576: true; the input reads as it did. -/
def windowSumsUptoRow : OpenClaim := { program := "ytinhnecgmokfkaa", sum := "7e2a8cf4eda581020051689724d99f48a714128e6b71166cff7c643bd36d9776", func := "transom/transomlaw06.WindowSums", spec := "windowSums", unfollowed := true, recurses := true, apart := false, narrowed := true }
def WindowSumsUptoSaid : Prop := windowSumsUptoRow.holds Try.pinned (OpenSpec.upto windowSumsSpec)

/-- 'transomlaw06.WindowCounts', WHERE WHAT IT READS IS OF BULK AT MOST 1048576: true; the input reads as it did. -/
def windowCountsUptoRow : OpenClaim := { program := "ytinhnecgmokfkaa", sum := "7e2a8cf4eda581020051689724d99f48a714128e6b71166cff7c643bd36d9776", func := "transom/transomlaw06.WindowCounts", spec := "windowCounts", unfollowed := true, recurses := true, apart := false, narrowed := true }
def WindowCountsUptoSaid : Prop := windowCountsUptoRow.holds Try.pinned (OpenSpec.upto windowCountsSpec)

/-- 'transomlaw06.WindowFrames', WHERE WHAT IT READS IS OF BULK AT MOST 1048576: true; the input reads as it did. -/
def windowFramesUptoRow : OpenClaim := { program := "ytinhnecgmokfkaa", sum := "7e2a8cf4eda581020051689724d99f48a714128e6b71166cff7c643bd36d9776", func := "transom/transomlaw06.WindowFrames", spec := "windowFrames", unfollowed := true, recurses := true, apart := false, narrowed := true }
def WindowFramesUptoSaid : Prop := windowFramesUptoRow.holds Try.pinned (OpenSpec.upto windowFramesSpec)

/-- 'transomlaw06.WindowOne', WHERE WHAT IT READS IS OF BULK AT MOST 1048576: true; the input reads as it did. -/
def windowOneUptoRow : OpenClaim := { program := "ytinhnecgmokfkaa", sum := "7e2a8cf4eda581020051689724d99f48a714128e6b71166cff7c643bd36d9776", func := "transom/transomlaw06.WindowOne", spec := "windowOne", unfollowed := true, recurses := true, apart := false, narrowed := true }
def WindowOneUptoSaid : Prop := windowOneUptoRow.holds Try.pinned (OpenSpec.upto windowOneSpec)

/-- 'transomlaw06.WindowBegins', WHERE WHAT IT READS IS OF BULK AT MOST 1048576: true; the input reads as it did. -/
def windowBeginsUptoRow : OpenClaim := { program := "ytinhnecgmokfkaa", sum := "7e2a8cf4eda581020051689724d99f48a714128e6b71166cff7c643bd36d9776", func := "transom/transomlaw06.WindowBegins", spec := "windowBegins", unfollowed := true, recurses := true, apart := false, narrowed := true }
def WindowBeginsUptoSaid : Prop := windowBeginsUptoRow.holds Try.pinned (OpenSpec.upto windowBeginsSpec)

/-- 'transomlaw06.WindowTells', WHERE WHAT IT READS IS OF BULK AT MOST 1048576: true; the input reads as it did. -/
def windowTellsUptoRow : OpenClaim := { program := "ytinhnecgmokfkaa", sum := "7e2a8cf4eda581020051689724d99f48a714128e6b71166cff7c643bd36d9776", func := "transom/transomlaw06.WindowTells", spec := "windowTells", unfollowed := true, recurses := true, apart := false, narrowed := true }
def WindowTellsUptoSaid : Prop := windowTellsUptoRow.holds Try.pinned (OpenSpec.upto windowTellsSpec)

/-- 'transomlaw06.WindowGrants', WHERE WHAT IT READS IS OF BULK AT MOST 1048576: true; the input reads as it did. -/
def windowGrantsUptoRow : OpenClaim := { program := "ytinhnecgmokfkaa", sum := "7e2a8cf4eda581020051689724d99f48a714128e6b71166cff7c643bd36d9776", func := "transom/transomlaw06.WindowGrants", spec := "windowGrants", unfollowed := true, recurses := true, apart := false, narrowed := true }
def WindowGrantsUptoSaid : Prop := windowGrantsUptoRow.holds Try.pinned (OpenSpec.upto windowGrantsSpec)

end Rows
end Go.Proofs.Ytinhnecgmokfkaa
