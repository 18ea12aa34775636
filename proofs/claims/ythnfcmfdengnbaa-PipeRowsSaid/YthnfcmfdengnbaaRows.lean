/-
  No cell of these rows narrows 'for every input' (looked for: loops, veiled, ifaces, maps, wideKeys, modest, calm, conditions, laid).
  DERIVED. THE GIVEN ROWS OF THIS SEAT. 8 by the template 'for every input the law returns true; each argument reads behind the call as it read before'; 0 by the template 'total and deterministic' (their statements: YthnfcmfdengnbaaTotals.lean).
  GIVEN WITH THE SEED: the statements are not yours to turn. If you find one false, say at which input.
  Laid BY PROGRAM, IN A SANDBOX (cutbox-rows.mjs): the forced cells as the released guide's own fill.sh prints them over the translation 2b532acc82bd1022… (all of the seat's roots in one cut). By AI agents, Wed Nov 11 2026. No macro, syntax, notation, axiom, sorry.
-/
import Derived.Test.YthnfcmfdengnbaaChecked
import GoSem.Claim
import GoSem.ClaimJoined
import GoSem.ClaimMapViews
import Derived.JoinedTies
import Derived.KernelRfl
namespace Go.Proofs.Ythnfcmfdengnbaa
/- THE CELL 'sum', in the pinned program and in every row, IS THE sha256 OF THE DUMP (.gsa) THAT YthnfcmfdengnbaaProg.lean LOADS. Nothing in Lean hashes anything: it is a label: what it is worth is what the hold of that sum in a sandbox is worth. -/
noncomputable def Try.pinned : Pinned := { name := "ythnfcmfdengnbaa", sum := "2b532acc82bd1022e1f28ceb8782c03f561dd5efbceeeca5b6670a9cc8016737", checked := Try.checked }
namespace Rows
def none {H : Type} : Left H := { results := [], args := [] }

/-- 'transomlaw10.PipeEnds': WHATEVER THE INPUT: true; the input reads as it did. -/
def pipeEndsSpec : ChangeSpec := { name := "pipeEnds", fn := fun _ => fun
  | [d] => { results := [.lit (.bool true)], args := [d] }
  | _ => none }
def pipeEndsRow : OpenClaim := { program := "ythnfcmfdengnbaa", sum := "2b532acc82bd1022e1f28ceb8782c03f561dd5efbceeeca5b6670a9cc8016737", func := "transom/transomlaw10.PipeEnds", spec := "pipeEnds", apart := false }
def PipeEndsSaid : Prop := pipeEndsRow.holds Try.pinned (OpenSpec.ofChange pipeEndsSpec)

/-- ITS FALSE NEIGHBOUR: 'it returns false'. Refute it at one input. -/
def pipeEndsWrong : ChangeSpec := { name := "pipeEnds", fn := fun _ => fun
  | [d] => { results := [.lit (.bool false)], args := [d] }
  | _ => none }
def PipeEndsWrongFalsely : Prop := pipeEndsRow.holds Try.pinned (OpenSpec.ofChange pipeEndsWrong)

/-- 'transomlaw10.PipeActs': WHATEVER THE INPUT: true; the input reads as it did. -/
def pipeActsSpec : ChangeSpec := { name := "pipeActs", fn := fun _ => fun
  | [d1, d2, d3] => { results := [.lit (.bool true)], args := [d1, d2, d3] }
  | _ => none }
def pipeActsRow : OpenClaim := { program := "ythnfcmfdengnbaa", sum := "2b532acc82bd1022e1f28ceb8782c03f561dd5efbceeeca5b6670a9cc8016737", func := "transom/transomlaw10.PipeActs", spec := "pipeActs", apart := false }
def PipeActsSaid : Prop := pipeActsRow.holds Try.pinned (OpenSpec.ofChange pipeActsSpec)

/-- ITS FALSE NEIGHBOUR: 'it returns false'. Refute it at one input. -/
def pipeActsWrong : ChangeSpec := { name := "pipeActs", fn := fun _ => fun
  | [d1, d2, d3] => { results := [.lit (.bool false)], args := [d1, d2, d3] }
  | _ => none }
def PipeActsWrongFalsely : Prop := pipeActsRow.holds Try.pinned (OpenSpec.ofChange pipeActsWrong)

/-- 'transomlaw10.PipeOrder': WHATEVER THE INPUT: true; the input reads as it did. -/
def pipeOrderSpec : ChangeSpec := { name := "pipeOrder", fn := fun _ => fun
  | [d] => { results := [.lit (.bool true)], args := [d] }
  | _ => none }
def pipeOrderRow : OpenClaim := { program := "ythnfcmfdengnbaa", sum := "2b532acc82bd1022e1f28ceb8782c03f561dd5efbceeeca5b6670a9cc8016737", func := "transom/transomlaw10.PipeOrder", spec := "pipeOrder", apart := false }
def PipeOrderSaid : Prop := pipeOrderRow.holds Try.pinned (OpenSpec.ofChange pipeOrderSpec)

/-- ITS FALSE NEIGHBOUR: 'it returns false'. Refute it at one input. -/
def pipeOrderWrong : ChangeSpec := { name := "pipeOrder", fn := fun _ => fun
  | [d] => { results := [.lit (.bool false)], args := [d] }
  | _ => none }
def PipeOrderWrongFalsely : Prop := pipeOrderRow.holds Try.pinned (OpenSpec.ofChange pipeOrderWrong)

/-- 'transomlaw10.PipeStays': WHATEVER THE INPUT: true; the input reads as it did. -/
def pipeStaysSpec : ChangeSpec := { name := "pipeStays", fn := fun _ => fun
  | [d1, d2, d3] => { results := [.lit (.bool true)], args := [d1, d2, d3] }
  | _ => none }
def pipeStaysRow : OpenClaim := { program := "ythnfcmfdengnbaa", sum := "2b532acc82bd1022e1f28ceb8782c03f561dd5efbceeeca5b6670a9cc8016737", func := "transom/transomlaw10.PipeStays", spec := "pipeStays", apart := false }
def PipeStaysSaid : Prop := pipeStaysRow.holds Try.pinned (OpenSpec.ofChange pipeStaysSpec)

/-- ITS FALSE NEIGHBOUR: 'it returns false'. Refute it at one input. -/
def pipeStaysWrong : ChangeSpec := { name := "pipeStays", fn := fun _ => fun
  | [d1, d2, d3] => { results := [.lit (.bool false)], args := [d1, d2, d3] }
  | _ => none }
def PipeStaysWrongFalsely : Prop := pipeStaysRow.holds Try.pinned (OpenSpec.ofChange pipeStaysWrong)

/-- 'transomlaw10.PipeSets': WHATEVER THE INPUT: true; the input reads as it did. -/
def pipeSetsSpec : ChangeSpec := { name := "pipeSets", fn := fun _ => fun
  | [d1, d2] => { results := [.lit (.bool true)], args := [d1, d2] }
  | _ => none }
def pipeSetsRow : OpenClaim := { program := "ythnfcmfdengnbaa", sum := "2b532acc82bd1022e1f28ceb8782c03f561dd5efbceeeca5b6670a9cc8016737", func := "transom/transomlaw10.PipeSets", spec := "pipeSets", apart := false }
def PipeSetsSaid : Prop := pipeSetsRow.holds Try.pinned (OpenSpec.ofChange pipeSetsSpec)

/-- ITS FALSE NEIGHBOUR: 'it returns false'. Refute it at one input. -/
def pipeSetsWrong : ChangeSpec := { name := "pipeSets", fn := fun _ => fun
  | [d1, d2] => { results := [.lit (.bool false)], args := [d1, d2] }
  | _ => none }
def PipeSetsWrongFalsely : Prop := pipeSetsRow.holds Try.pinned (OpenSpec.ofChange pipeSetsWrong)

/-- 'transomlaw10.PipeCounts': WHATEVER THE INPUT: true; the input reads as it did. -/
def pipeCountsSpec : ChangeSpec := { name := "pipeCounts", fn := fun _ => fun
  | [d1, d2] => { results := [.lit (.bool true)], args := [d1, d2] }
  | _ => none }
def pipeCountsRow : OpenClaim := { program := "ythnfcmfdengnbaa", sum := "2b532acc82bd1022e1f28ceb8782c03f561dd5efbceeeca5b6670a9cc8016737", func := "transom/transomlaw10.PipeCounts", spec := "pipeCounts", apart := false }
def PipeCountsSaid : Prop := pipeCountsRow.holds Try.pinned (OpenSpec.ofChange pipeCountsSpec)

/-- ITS FALSE NEIGHBOUR: 'it returns false'. Refute it at one input. -/
def pipeCountsWrong : ChangeSpec := { name := "pipeCounts", fn := fun _ => fun
  | [d1, d2] => { results := [.lit (.bool false)], args := [d1, d2] }
  | _ => none }
def PipeCountsWrongFalsely : Prop := pipeCountsRow.holds Try.pinned (OpenSpec.ofChange pipeCountsWrong)

/-- 'transomlaw10.PipeNew': WHATEVER THE INPUT: true; the input reads as it did. -/
def pipeNewSpec : ChangeSpec := { name := "pipeNew", fn := fun _ => fun
  | [d] => { results := [.lit (.bool true)], args := [d] }
  | _ => none }
def pipeNewRow : OpenClaim := { program := "ythnfcmfdengnbaa", sum := "2b532acc82bd1022e1f28ceb8782c03f561dd5efbceeeca5b6670a9cc8016737", func := "transom/transomlaw10.PipeNew", spec := "pipeNew", unfollowed := true, recurses := true, apart := false }
def PipeNewSaid : Prop := pipeNewRow.holds Try.pinned (OpenSpec.ofChange pipeNewSpec)

/-- ITS FALSE NEIGHBOUR: 'it returns false'. Refute it at one input. -/
def pipeNewWrong : ChangeSpec := { name := "pipeNew", fn := fun _ => fun
  | [d] => { results := [.lit (.bool false)], args := [d] }
  | _ => none }
def PipeNewWrongFalsely : Prop := pipeNewRow.holds Try.pinned (OpenSpec.ofChange pipeNewWrong)

/-- 'transomlaw10.PipeRows': WHATEVER THE INPUT: true; the input reads as it did. -/
def pipeRowsSpec : ChangeSpec := { name := "pipeRows", fn := fun _ => fun
  | [d] => { results := [.lit (.bool true)], args := [d] }
  | _ => none }
def pipeRowsRow : OpenClaim := { program := "ythnfcmfdengnbaa", sum := "2b532acc82bd1022e1f28ceb8782c03f561dd5efbceeeca5b6670a9cc8016737", func := "transom/transomlaw10.PipeRows", spec := "pipeRows", unfollowed := true, recurses := true, apart := false }
def PipeRowsSaid : Prop := pipeRowsRow.holds Try.pinned (OpenSpec.ofChange pipeRowsSpec)

/-- ITS FALSE NEIGHBOUR: 'it returns false'. Refute it at one input. -/
def pipeRowsWrong : ChangeSpec := { name := "pipeRows", fn := fun _ => fun
  | [d] => { results := [.lit (.bool false)], args := [d] }
  | _ => none }
def PipeRowsWrongFalsely : Prop := pipeRowsRow.holds Try.pinned (OpenSpec.ofChange pipeRowsWrong)

/- THE SECOND FORM. 'bulk': how many values and letters a reading holds, each counted each time it is reached (what is shared counts as often as it is met; a slice's spare places count too). A statement '..UptoSaid' is the law's where the arguments, and the package variables that the reading takes, are together of bulk at most 1048576: NARROWER than '..Said'. Prove '..Said' where nothing that the law and all that it calls make is longer than what came in: it says more and counts as full. Else prove '..UptoSaid'. A law counts once. -/
mutual
def uptoBulk {H : Type} : DataW H → Nat
  | .lit (.string bytes) => bytes.length + 1
  | .lit _ => 1
  | .nil => 1
  | .ptr d => uptoBulk d + 1
  | .slice elems spare => uptoBulkAll elems + uptoBulkAll spare + 1
  | .agg parts => uptoBulkAll parts + 1
  | .iface _ d => uptoBulk d + 1
  | .map entries => uptoBulkEntries entries + 1
  | .held _ => 1
def uptoBulkAll {H : Type} : List (DataW H) → Nat
  | [] => 0
  | d :: r => uptoBulk d + uptoBulkAll r
def uptoBulkEntries {H : Type} : List (Lit × DataW H) → Nat
  | [] => 0
  | x :: r => uptoBulkEntry x + uptoBulkEntries r
def uptoBulkEntry {H : Type} : Lit × DataW H → Nat
  | (.string bytes, d) => bytes.length + uptoBulk d + 1
  | (_, d) => uptoBulk d + 1
 end
def uptoSmall : (H : Type) → List (DataW H) → Bool := fun _ ds => decide (uptoBulkAll ds ≤ 1048576)
def OpenSpec.upto (s : _root_.Go.ChangeSpec) : _root_.Go.OpenSpec := { _root_.Go.OpenSpec.ofChange s with cond := some uptoSmall }

/-- 'transomlaw10.PipeEnds', WHERE WHAT IT READS IS OF BULK AT MOST 1048576: true; the input reads as it did. -/
def pipeEndsUptoRow : OpenClaim := { program := "ythnfcmfdengnbaa", sum := "2b532acc82bd1022e1f28ceb8782c03f561dd5efbceeeca5b6670a9cc8016737", func := "transom/transomlaw10.PipeEnds", spec := "pipeEnds", apart := false, narrowed := true }
def PipeEndsUptoSaid : Prop := pipeEndsUptoRow.holds Try.pinned (OpenSpec.upto pipeEndsSpec)

/-- 'transomlaw10.PipeActs', WHERE WHAT IT READS IS OF BULK AT MOST 1048576: true; the input reads as it did. -/
def pipeActsUptoRow : OpenClaim := { program := "ythnfcmfdengnbaa", sum := "2b532acc82bd1022e1f28ceb8782c03f561dd5efbceeeca5b6670a9cc8016737", func := "transom/transomlaw10.PipeActs", spec := "pipeActs", apart := false, narrowed := true }
def PipeActsUptoSaid : Prop := pipeActsUptoRow.holds Try.pinned (OpenSpec.upto pipeActsSpec)

/-- 'transomlaw10.PipeOrder', WHERE WHAT IT READS IS OF BULK AT MOST 1048576: true; the input reads as it did. -/
def pipeOrderUptoRow : OpenClaim := { program := "ythnfcmfdengnbaa", sum := "2b532acc82bd1022e1f28ceb8782c03f561dd5efbceeeca5b6670a9cc8016737", func := "transom/transomlaw10.PipeOrder", spec := "pipeOrder", apart := false, narrowed := true }
def PipeOrderUptoSaid : Prop := pipeOrderUptoRow.holds Try.pinned (OpenSpec.upto pipeOrderSpec)

/-- 'transomlaw10.PipeStays', WHERE WHAT IT READS IS OF BULK AT MOST 1048576: true; the input reads as it did. -/
def pipeStaysUptoRow : OpenClaim := { program := "ythnfcmfdengnbaa", sum := "2b532acc82bd1022e1f28ceb8782c03f561dd5efbceeeca5b6670a9cc8016737", func := "transom/transomlaw10.PipeStays", spec := "pipeStays", apart := false, narrowed := true }
def PipeStaysUptoSaid : Prop := pipeStaysUptoRow.holds Try.pinned (OpenSpec.upto pipeStaysSpec)

/-- 'transomlaw10.PipeSets', WHERE WHAT IT READS IS OF BULK AT MOST 1048576: true; the input reads as it did. -/
def pipeSetsUptoRow : OpenClaim := { program := "ythnfcmfdengnbaa", sum := "2b532acc82bd1022e1f28ceb8782c03f561dd5efbceeeca5b6670a9cc8016737", func := "transom/transomlaw10.PipeSets", spec := "pipeSets", apart := false, narrowed := true }
def PipeSetsUptoSaid : Prop := pipeSetsUptoRow.holds Try.pinned (OpenSpec.upto pipeSetsSpec)

/-- 'transomlaw10.PipeCounts', WHERE WHAT IT READS IS OF BULK AT MOST 1048576: true; the input reads as it did. -/
def pipeCountsUptoRow : OpenClaim := { program := "ythnfcmfdengnbaa", sum := "2b532acc82bd1022e1f28ceb8782c03f561dd5efbceeeca5b6670a9cc8016737", func := "transom/transomlaw10.PipeCounts", spec := "pipeCounts", apart := false, narrowed := true }
def PipeCountsUptoSaid : Prop := pipeCountsUptoRow.holds Try.pinned (OpenSpec.upto pipeCountsSpec)

/-- 'transomlaw10.PipeNew', WHERE WHAT IT READS IS OF BULK AT MOST 1048576: true; the input reads as it did. -/
def pipeNewUptoRow : OpenClaim := { program := "ythnfcmfdengnbaa", sum := "2b532acc82bd1022e1f28ceb8782c03f561dd5efbceeeca5b6670a9cc8016737", func := "transom/transomlaw10.PipeNew", spec := "pipeNew", unfollowed := true, recurses := true, apart := false, narrowed := true }
def PipeNewUptoSaid : Prop := pipeNewUptoRow.holds Try.pinned (OpenSpec.upto pipeNewSpec)

/-- 'transomlaw10.PipeRows', WHERE WHAT IT READS IS OF BULK AT MOST 1048576: true; the input reads as it did. -/
def pipeRowsUptoRow : OpenClaim := { program := "ythnfcmfdengnbaa", sum := "2b532acc82bd1022e1f28ceb8782c03f561dd5efbceeeca5b6670a9cc8016737", func := "transom/transomlaw10.PipeRows", spec := "pipeRows", unfollowed := true, recurses := true, apart := false, narrowed := true }
def PipeRowsUptoSaid : Prop := pipeRowsUptoRow.holds Try.pinned (OpenSpec.upto pipeRowsSpec)

end Rows
end Go.Proofs.Ythnfcmfdengnbaa
