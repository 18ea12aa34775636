/-
  No cell of these rows narrows 'for every input' (looked for: loops, veiled, ifaces, maps, wideKeys, modest, calm, conditions, laid).
  DERIVED. THE GIVEN ROWS OF THIS SEAT. 8 by the template 'for every input the law returns true; each argument reads behind the call as it read before'; 0 by the template 'total and deterministic' (their statements: YtdfkfoffinchhaaTotals.lean).
  GIVEN WITH THE SEED: the statements are not yours to turn. If you find one false, say at which input.
  Laid BY PROGRAM, IN A SANDBOX (cutbox-rows.mjs): the forced cells as the released guide's own fill.sh prints them over the translation 74d05ce051a1d7a8… (all of the seat's roots in one cut). By AI agents, Wed Nov 11 2026. No macro, syntax, notation, axiom, sorry.
-/
import Derived.Test.YtdfkfoffinchhaaChecked
import GoSem.Claim
import GoSem.ClaimJoined
import GoSem.ClaimMapViews
import Derived.JoinedTies
import Derived.KernelRfl
namespace Go.Proofs.Ytdfkfoffinchhaa
/- THE CELL 'sum', in the pinned program and in every row, IS THE sha256 OF THE DUMP (.gsa) THAT YtdfkfoffinchhaaProg.lean LOADS. Nothing in Lean hashes anything: it is a label: what it is worth is what the hold of that sum in a sandbox is worth. -/
noncomputable def Try.pinned : Pinned := { name := "ytdfkfoffinchhaa", sum := "74d05ce051a1d7a85206365fe2d7d4186efae4363bcd3f4b9a6c290a5952950b", checked := Try.checked }
namespace Rows
def none {H : Type} : Left H := { results := [], args := [] }

/-- 'transomlaw04.HeapFirst': WHATEVER THE INPUT: true; the input reads as it did. -/
def heapFirstSpec : ChangeSpec := { name := "heapFirst", fn := fun _ => fun
  | [d1, d2, d3] => { results := [.lit (.bool true)], args := [d1, d2, d3] }
  | _ => none }
def heapFirstRow : OpenClaim := { program := "ytdfkfoffinchhaa", sum := "74d05ce051a1d7a85206365fe2d7d4186efae4363bcd3f4b9a6c290a5952950b", func := "transom/transomlaw04.HeapFirst", spec := "heapFirst", inPlace := ["slices.overlaps[transom/api.Span]"], unfollowed := true, recurses := true, apart := false }
def HeapFirstSaid : Prop := heapFirstRow.holds Try.pinned (OpenSpec.ofChange heapFirstSpec)

/-- ITS FALSE NEIGHBOUR: 'it returns false'. Refute it at one input. -/
def heapFirstWrong : ChangeSpec := { name := "heapFirst", fn := fun _ => fun
  | [d1, d2, d3] => { results := [.lit (.bool false)], args := [d1, d2, d3] }
  | _ => none }
def HeapFirstWrongFalsely : Prop := heapFirstRow.holds Try.pinned (OpenSpec.ofChange heapFirstWrong)

/-- 'transomlaw04.HeapHoles': WHATEVER THE INPUT: true; the input reads as it did. -/
def heapHolesSpec : ChangeSpec := { name := "heapHoles", fn := fun _ => fun
  | [d] => { results := [.lit (.bool true)], args := [d] }
  | _ => none }
def heapHolesRow : OpenClaim := { program := "ytdfkfoffinchhaa", sum := "74d05ce051a1d7a85206365fe2d7d4186efae4363bcd3f4b9a6c290a5952950b", func := "transom/transomlaw04.HeapHoles", spec := "heapHoles", inPlace := ["slices.overlaps[transom/api.Span]"], unfollowed := true, recurses := true, apart := false }
def HeapHolesSaid : Prop := heapHolesRow.holds Try.pinned (OpenSpec.ofChange heapHolesSpec)

/-- ITS FALSE NEIGHBOUR: 'it returns false'. Refute it at one input. -/
def heapHolesWrong : ChangeSpec := { name := "heapHoles", fn := fun _ => fun
  | [d] => { results := [.lit (.bool false)], args := [d] }
  | _ => none }
def HeapHolesWrongFalsely : Prop := heapHolesRow.holds Try.pinned (OpenSpec.ofChange heapHolesWrong)

/-- 'transomlaw04.HeapStays': WHATEVER THE INPUT: true; the input reads as it did. -/
def heapStaysSpec : ChangeSpec := { name := "heapStays", fn := fun _ => fun
  | [d1, d2, d3] => { results := [.lit (.bool true)], args := [d1, d2, d3] }
  | _ => none }
def heapStaysRow : OpenClaim := { program := "ytdfkfoffinchhaa", sum := "74d05ce051a1d7a85206365fe2d7d4186efae4363bcd3f4b9a6c290a5952950b", func := "transom/transomlaw04.HeapStays", spec := "heapStays", inPlace := ["slices.overlaps[transom/api.Span]"], unfollowed := true, recurses := true, apart := false }
def HeapStaysSaid : Prop := heapStaysRow.holds Try.pinned (OpenSpec.ofChange heapStaysSpec)

/-- ITS FALSE NEIGHBOUR: 'it returns false'. Refute it at one input. -/
def heapStaysWrong : ChangeSpec := { name := "heapStays", fn := fun _ => fun
  | [d1, d2, d3] => { results := [.lit (.bool false)], args := [d1, d2, d3] }
  | _ => none }
def HeapStaysWrongFalsely : Prop := heapStaysRow.holds Try.pinned (OpenSpec.ofChange heapStaysWrong)

/-- 'transomlaw04.HeapDrops': WHATEVER THE INPUT: true; the input reads as it did. -/
def heapDropsSpec : ChangeSpec := { name := "heapDrops", fn := fun _ => fun
  | [d1, d2] => { results := [.lit (.bool true)], args := [d1, d2] }
  | _ => none }
def heapDropsRow : OpenClaim := { program := "ytdfkfoffinchhaa", sum := "74d05ce051a1d7a85206365fe2d7d4186efae4363bcd3f4b9a6c290a5952950b", func := "transom/transomlaw04.HeapDrops", spec := "heapDrops", inPlace := ["slices.overlaps[transom/api.Span]"], unfollowed := true, recurses := true, apart := false }
def HeapDropsSaid : Prop := heapDropsRow.holds Try.pinned (OpenSpec.ofChange heapDropsSpec)

/-- ITS FALSE NEIGHBOUR: 'it returns false'. Refute it at one input. -/
def heapDropsWrong : ChangeSpec := { name := "heapDrops", fn := fun _ => fun
  | [d1, d2] => { results := [.lit (.bool false)], args := [d1, d2] }
  | _ => none }
def HeapDropsWrongFalsely : Prop := heapDropsRow.holds Try.pinned (OpenSpec.ofChange heapDropsWrong)

/-- 'transomlaw04.HeapBack': WHATEVER THE INPUT: true; the input reads as it did. -/
def heapBackSpec : ChangeSpec := { name := "heapBack", fn := fun _ => fun
  | [d1, d2, d3] => { results := [.lit (.bool true)], args := [d1, d2, d3] }
  | _ => none }
def heapBackRow : OpenClaim := { program := "ytdfkfoffinchhaa", sum := "74d05ce051a1d7a85206365fe2d7d4186efae4363bcd3f4b9a6c290a5952950b", func := "transom/transomlaw04.HeapBack", spec := "heapBack", inPlace := ["slices.overlaps[transom/api.Span]"], unfollowed := true, recurses := true, apart := false }
def HeapBackSaid : Prop := heapBackRow.holds Try.pinned (OpenSpec.ofChange heapBackSpec)

/-- ITS FALSE NEIGHBOUR: 'it returns false'. Refute it at one input. -/
def heapBackWrong : ChangeSpec := { name := "heapBack", fn := fun _ => fun
  | [d1, d2, d3] => { results := [.lit (.bool false)], args := [d1, d2, d3] }
  | _ => none }
def HeapBackWrongFalsely : Prop := heapBackRow.holds Try.pinned (OpenSpec.ofChange heapBackWrong)

/-- 'transomlaw04.HeapAll': WHATEVER THE INPUT: true; the input reads as it did. -/
def heapAllSpec : ChangeSpec := { name := "heapAll", fn := fun _ => fun
  | [d1, d2] => { results := [.lit (.bool true)], args := [d1, d2] }
  | _ => none }
def heapAllRow : OpenClaim := { program := "ytdfkfoffinchhaa", sum := "74d05ce051a1d7a85206365fe2d7d4186efae4363bcd3f4b9a6c290a5952950b", func := "transom/transomlaw04.HeapAll", spec := "heapAll", inPlace := ["slices.overlaps[transom/api.Span]"], unfollowed := true, recurses := true, apart := false }
def HeapAllSaid : Prop := heapAllRow.holds Try.pinned (OpenSpec.ofChange heapAllSpec)

/-- ITS FALSE NEIGHBOUR: 'it returns false'. Refute it at one input. -/
def heapAllWrong : ChangeSpec := { name := "heapAll", fn := fun _ => fun
  | [d1, d2] => { results := [.lit (.bool false)], args := [d1, d2] }
  | _ => none }
def HeapAllWrongFalsely : Prop := heapAllRow.holds Try.pinned (OpenSpec.ofChange heapAllWrong)

/-- 'transomlaw04.HeapActs': WHATEVER THE INPUT: true; the input reads as it did. -/
def heapActsSpec : ChangeSpec := { name := "heapActs", fn := fun _ => fun
  | [d1, d2, d3] => { results := [.lit (.bool true)], args := [d1, d2, d3] }
  | _ => none }
def heapActsRow : OpenClaim := { program := "ytdfkfoffinchhaa", sum := "74d05ce051a1d7a85206365fe2d7d4186efae4363bcd3f4b9a6c290a5952950b", func := "transom/transomlaw04.HeapActs", spec := "heapActs", inPlace := ["slices.overlaps[transom/api.Span]"], unfollowed := true, recurses := true, apart := false }
def HeapActsSaid : Prop := heapActsRow.holds Try.pinned (OpenSpec.ofChange heapActsSpec)

/-- ITS FALSE NEIGHBOUR: 'it returns false'. Refute it at one input. -/
def heapActsWrong : ChangeSpec := { name := "heapActs", fn := fun _ => fun
  | [d1, d2, d3] => { results := [.lit (.bool false)], args := [d1, d2, d3] }
  | _ => none }
def HeapActsWrongFalsely : Prop := heapActsRow.holds Try.pinned (OpenSpec.ofChange heapActsWrong)

/-- 'transomlaw04.HeapMerges': WHATEVER THE INPUT: true; the input reads as it did. -/
def heapMergesSpec : ChangeSpec := { name := "heapMerges", fn := fun _ => fun
  | [d1, d2] => { results := [.lit (.bool true)], args := [d1, d2] }
  | _ => none }
def heapMergesRow : OpenClaim := { program := "ytdfkfoffinchhaa", sum := "74d05ce051a1d7a85206365fe2d7d4186efae4363bcd3f4b9a6c290a5952950b", func := "transom/transomlaw04.HeapMerges", spec := "heapMerges", inPlace := ["slices.overlaps[transom/api.Span]"], unfollowed := true, recurses := true, apart := false }
def HeapMergesSaid : Prop := heapMergesRow.holds Try.pinned (OpenSpec.ofChange heapMergesSpec)

/-- ITS FALSE NEIGHBOUR: 'it returns false'. Refute it at one input. -/
def heapMergesWrong : ChangeSpec := { name := "heapMerges", fn := fun _ => fun
  | [d1, d2] => { results := [.lit (.bool false)], args := [d1, d2] }
  | _ => none }
def HeapMergesWrongFalsely : Prop := heapMergesRow.holds Try.pinned (OpenSpec.ofChange heapMergesWrong)

/- THE SECOND FORM. 'bulk': how many values and letters a reading holds, each counted each time it is reached (what is shared counts as often as it is met; a slice's spare places count too). A statement '..UptoSaid' is the law's where the arguments, and the package variables that the reading takes, are together of bulk at most 1048576: NARROWER than '..Said'. Prove '..Said' where nothing that the law and all that it calls make is longer than what came in: it says more and counts as full. Else prove '..UptoSaid'. A law counts once. -/
mutual
def uptoBulk {H : Type} : DataW H → Nat
  | .lit (.string bytes) => bytes.length + 1
  | .lit _ => 1
  | .nil => 1
  | .ptr d => uptoBulk d + 1
  | .slice elems spare => uptoBulkAll elems + uptoBulkAll spare + 1
  | .agg parts => uptoBulkAll parts + 1
  | .iface _ d => uptoBulk d + 1
  | .map entries => uptoBulkEntries entries + 1
  | .held _ => 1
def uptoBulkAll {H : Type} : List (DataW H) → Nat
  | [] => 0
  | d :: r => uptoBulk d + uptoBulkAll r
def uptoBulkEntries {H : Type} : List (Lit × DataW H) → Nat
  | [] => 0
  | x :: r => uptoBulkEntry x + uptoBulkEntries r
def uptoBulkEntry {H : Type} : Lit × DataW H → Nat
  | (.string bytes, d) => bytes.length + uptoBulk d + 1
  | (_, d) => uptoBulk d + 1
 end
def uptoSmall : (H : Type) → List (DataW H) → Bool := fun _ ds => decide (uptoBulkAll ds ≤ 1048576)
def OpenSpec.upto (s : _root_.Go.ChangeSpec) : _root_.Go.OpenSpec := { _root_.Go.OpenSpec.ofChange s with cond := some uptoSmall }

/-- 'transomlaw04.HeapFirst', WHERE WHAT IT READS IS OF BULK AT MOST 1048576: true; the input reads as it did. -/
def heapFirstUptoRow : OpenClaim := { program := "ytdfkfoffinchhaa", sum := "74d05ce051a1d7a85206365fe2d7d4186efae4363bcd3f4b9a6c290a5952950b", func := "transom/transomlaw04.HeapFirst", spec := "heapFirst", inPlace := ["slices.overlaps[transom/api.Span]"], unfollowed := true, recurses := true, apart := false, narrowed := true }
def HeapFirstUptoSaid : Prop := heapFirstUptoRow.holds Try.pinned (OpenSpec.upto heapFirstSpec)

/-- 'transomlaw04.HeapHoles', WHERE WHAT IT READS IS OF BULK AT MOST 1048576: true; the input reads as it did. -/
def heapHolesUptoRow : OpenClaim := { program := "ytdfkfoffinchhaa", sum := "74d05ce051a1d7a85206365fe2d7d4186efae4363bcd3f4b9a6c290a5952950b", func := "transom/transomlaw04.HeapHoles", spec := "heapHoles", inPlace := ["slices.overlaps[transom/api.Span]"], unfollowed := true, recurses := true, apart := false, narrowed := true }
def HeapHolesUptoSaid : Prop := heapHolesUptoRow.holds Try.pinned (OpenSpec.upto heapHolesSpec)

/-- 'transomlaw04.HeapStays', WHERE WHAT IT READS IS OF BULK AT MOST 1048576: true; the input reads as it did. -/
def heapStaysUptoRow : OpenClaim := { program := "ytdfkfoffinchhaa", sum := "74d05ce051a1d7a85206365fe2d7d4186efae4363bcd3f4b9a6c290a5952950b", func := "transom/transomlaw04.HeapStays", spec := "heapStays", inPlace := ["slices.overlaps[transom/api.Span]"], unfollowed := true, recurses := true, apart := false, narrowed := true }
def HeapStaysUptoSaid : Prop := heapStaysUptoRow.holds Try.pinned (OpenSpec.upto heapStaysSpec)

/-- 'transomlaw04.HeapDrops', WHERE WHAT IT READS IS OF BULK AT MOST 1048576: true; the input reads as it did. -/
def heapDropsUptoRow : OpenClaim := { program := "ytdfkfoffinchhaa", sum := "74d05ce051a1d7a85206365fe2d7d4186efae4363bcd3f4b9a6c290a5952950b", func := "transom/transomlaw04.HeapDrops", spec := "heapDrops", inPlace := ["slices.overlaps[transom/api.Span]"], unfollowed := true, recurses := true, apart := false, narrowed := true }
def HeapDropsUptoSaid : Prop := heapDropsUptoRow.holds Try.pinned (OpenSpec.upto heapDropsSpec)

/-- 'transomlaw04.HeapBack', WHERE WHAT IT READS IS OF BULK AT MOST 1048576: true; the input reads as it did. -/
def heapBackUptoRow : OpenClaim := { program := "ytdfkfoffinchhaa", sum := "74d05ce051a1d7a85206365fe2d7d4186efae4363bcd3f4b9a6c290a5952950b", func := "transom/transomlaw04.HeapBack", spec := "heapBack", inPlace := ["slices.overlaps[transom/api.Span]"], unfollowed := true, recurses := true, apart := false, narrowed := true }
def HeapBackUptoSaid : Prop := heapBackUptoRow.holds Try.pinned (OpenSpec.upto heapBackSpec)

/-- 'transomlaw04.HeapAll', WHERE WHAT IT READS IS OF BULK AT MOST 1048576: true; the input reads as it did. -/
def heapAllUptoRow : OpenClaim := { program := "ytdfkfoffinchhaa", sum := "74d05ce051a1d7a85206365fe2d7d4186efae4363bcd3f4b9a6c290a5952950b", func := "transom/transomlaw04.HeapAll", spec := "heapAll", inPlace := ["slices.overlaps[transom/api.Span]"], unfollowed := true, recurses := true, apart := false, narrowed := true }
def HeapAllUptoSaid : Prop := heapAllUptoRow.holds Try.pinned (OpenSpec.upto heapAllSpec)

/-- 'transomlaw04.HeapActs', WHERE WHAT IT READS IS OF BULK AT MOST 1048576: true; the input reads as it did. -/
def heapActsUptoRow : OpenClaim := { program := "ytdfkfoffinchhaa", sum := "74d05ce051a1d7a85206365fe2d7d4186efae4363bcd3f4b9a6c290a5952950b", func := "transom/transomlaw04.HeapActs", spec := "heapActs", inPlace := ["slices.overlaps[transom/api.Span]"], unfollowed := true, recurses := true, apart := false, narrowed := true }
def HeapActsUptoSaid : Prop := heapActsUptoRow.holds Try.pinned (OpenSpec.upto heapActsSpec)

/-- 'transomlaw04.HeapMerges', WHERE WHAT IT READS IS OF BULK AT MOST 1048576: true; the input reads as it did. -/
def heapMergesUptoRow : OpenClaim := { program := "ytdfkfoffinchhaa", sum := "74d05ce051a1d7a85206365fe2d7d4186efae4363bcd3f4b9a6c290a5952950b", func := "transom/transomlaw04.HeapMerges", spec := "heapMerges", inPlace := ["slices.overlaps[transom/api.Span]"], unfollowed := true, recurses := true, apart := false, narrowed := true }
def HeapMergesUptoSaid : Prop := heapMergesUptoRow.holds Try.pinned (OpenSpec.upto heapMergesSpec)

end Rows
end Go.Proofs.Ytdfkfoffinchhaa
