/-
  No cell of these rows narrows 'for every input' (looked for: loops, veiled, ifaces, maps, wideKeys, modest, calm, conditions, laid).
  DERIVED. THE GIVEN ROWS OF THIS SEAT. 8 by the template 'for every input the law returns true; each argument reads behind the call as it read before'; 0 by the template 'total and deterministic' (their statements: YtianochlnbehnaaTotals.lean).
  GIVEN WITH THE SEED: the statements are not yours to turn. If you find one false, say at which input.
  Laid BY PROGRAM, IN A SANDBOX (cutbox-rows.mjs): the forced cells as the released guide's own fill.sh prints them over the translation d6b94886cb1f5f6e… (all of the seat's roots in one cut). By AI agents, Wed Nov 11 2026. No macro, syntax, notation, axiom, sorry.
-/
import Derived.Test.YtianochlnbehnaaChecked
import GoSem.Claim
import GoSem.ClaimJoined
import GoSem.ClaimMapViews
import Derived.JoinedTies
import Derived.KernelRfl
namespace Go.Proofs.Ytianochlnbehnaa
/- THE CELL 'sum', in the pinned program and in every row, IS THE sha256 OF THE DUMP (.gsa) THAT YtianochlnbehnaaProg.lean LOADS. Nothing in Lean hashes anything: it is a label: what it is worth is what the hold of that sum in a sandbox is worth. -/
noncomputable def Try.pinned : Pinned := { name := "ytianochlnbehnaa", sum := "d6b94886cb1f5f6e756ec6acc0e066a41d6325371dee8f70564d8f538f528fad", checked := Try.checked }
namespace Rows
def none {H : Type} : Left H := { results := [], args := [] }

/-- 'transomlaw11.TableFinds': WHATEVER THE INPUT: true; the input reads as it did. -/
def tableFindsSpec : ChangeSpec := { name := "tableFinds", fn := fun _ => fun
  | [d1, d2, d3] => { results := [.lit (.bool true)], args := [d1, d2, d3] }
  | _ => none }
def tableFindsRow : OpenClaim := { program := "ytianochlnbehnaa", sum := "d6b94886cb1f5f6e756ec6acc0e066a41d6325371dee8f70564d8f538f528fad", func := "transom/transomlaw11.TableFinds", spec := "tableFinds", inPlace := ["slices.overlaps[transom/api.Proc]"], unfollowed := true, recurses := true, apart := false }
def TableFindsSaid : Prop := tableFindsRow.holds Try.pinned (OpenSpec.ofChange tableFindsSpec)

/-- ITS FALSE NEIGHBOUR: 'it returns false'. Refute it at one input. -/
def tableFindsWrong : ChangeSpec := { name := "tableFinds", fn := fun _ => fun
  | [d1, d2, d3] => { results := [.lit (.bool false)], args := [d1, d2, d3] }
  | _ => none }
def TableFindsWrongFalsely : Prop := tableFindsRow.holds Try.pinned (OpenSpec.ofChange tableFindsWrong)

/-- 'transomlaw11.TableNew': WHATEVER THE INPUT: true; the input reads as it did. -/
def tableNewSpec : ChangeSpec := { name := "tableNew", fn := fun _ => fun
  | [d] => { results := [.lit (.bool true)], args := [d] }
  | _ => none }
def tableNewRow : OpenClaim := { program := "ytianochlnbehnaa", sum := "d6b94886cb1f5f6e756ec6acc0e066a41d6325371dee8f70564d8f538f528fad", func := "transom/transomlaw11.TableNew", spec := "tableNew", inPlace := ["slices.overlaps[transom/api.Proc]"], unfollowed := true, recurses := true, apart := false }
def TableNewSaid : Prop := tableNewRow.holds Try.pinned (OpenSpec.ofChange tableNewSpec)

/-- ITS FALSE NEIGHBOUR: 'it returns false'. Refute it at one input. -/
def tableNewWrong : ChangeSpec := { name := "tableNew", fn := fun _ => fun
  | [d] => { results := [.lit (.bool false)], args := [d] }
  | _ => none }
def TableNewWrongFalsely : Prop := tableNewRow.holds Try.pinned (OpenSpec.ofChange tableNewWrong)

/-- 'transomlaw11.TableKids': WHATEVER THE INPUT: true; the input reads as it did. -/
def tableKidsSpec : ChangeSpec := { name := "tableKids", fn := fun _ => fun
  | [d1, d2] => { results := [.lit (.bool true)], args := [d1, d2] }
  | _ => none }
def tableKidsRow : OpenClaim := { program := "ytianochlnbehnaa", sum := "d6b94886cb1f5f6e756ec6acc0e066a41d6325371dee8f70564d8f538f528fad", func := "transom/transomlaw11.TableKids", spec := "tableKids", inPlace := ["slices.overlaps[transom/api.Proc]"], unfollowed := true, recurses := true, apart := false }
def TableKidsSaid : Prop := tableKidsRow.holds Try.pinned (OpenSpec.ofChange tableKidsSpec)

/-- ITS FALSE NEIGHBOUR: 'it returns false'. Refute it at one input. -/
def tableKidsWrong : ChangeSpec := { name := "tableKids", fn := fun _ => fun
  | [d1, d2] => { results := [.lit (.bool false)], args := [d1, d2] }
  | _ => none }
def TableKidsWrongFalsely : Prop := tableKidsRow.holds Try.pinned (OpenSpec.ofChange tableKidsWrong)

/-- 'transomlaw11.TableGone': WHATEVER THE INPUT: true; the input reads as it did. -/
def tableGoneSpec : ChangeSpec := { name := "tableGone", fn := fun _ => fun
  | [d1, d2, d3] => { results := [.lit (.bool true)], args := [d1, d2, d3] }
  | _ => none }
def tableGoneRow : OpenClaim := { program := "ytianochlnbehnaa", sum := "d6b94886cb1f5f6e756ec6acc0e066a41d6325371dee8f70564d8f538f528fad", func := "transom/transomlaw11.TableGone", spec := "tableGone", inPlace := ["slices.overlaps[transom/api.Proc]"], unfollowed := true, recurses := true, apart := false }
def TableGoneSaid : Prop := tableGoneRow.holds Try.pinned (OpenSpec.ofChange tableGoneSpec)

/-- ITS FALSE NEIGHBOUR: 'it returns false'. Refute it at one input. -/
def tableGoneWrong : ChangeSpec := { name := "tableGone", fn := fun _ => fun
  | [d1, d2, d3] => { results := [.lit (.bool false)], args := [d1, d2, d3] }
  | _ => none }
def TableGoneWrongFalsely : Prop := tableGoneRow.holds Try.pinned (OpenSpec.ofChange tableGoneWrong)

/-- 'transomlaw11.TableAdopts': WHATEVER THE INPUT: true; the input reads as it did. -/
def tableAdoptsSpec : ChangeSpec := { name := "tableAdopts", fn := fun _ => fun
  | [d1, d2, d3] => { results := [.lit (.bool true)], args := [d1, d2, d3] }
  | _ => none }
def tableAdoptsRow : OpenClaim := { program := "ytianochlnbehnaa", sum := "d6b94886cb1f5f6e756ec6acc0e066a41d6325371dee8f70564d8f538f528fad", func := "transom/transomlaw11.TableAdopts", spec := "tableAdopts", inPlace := ["slices.overlaps[transom/api.Proc]"], unfollowed := true, recurses := true, apart := false }
def TableAdoptsSaid : Prop := tableAdoptsRow.holds Try.pinned (OpenSpec.ofChange tableAdoptsSpec)

/-- ITS FALSE NEIGHBOUR: 'it returns false'. Refute it at one input. -/
def tableAdoptsWrong : ChangeSpec := { name := "tableAdopts", fn := fun _ => fun
  | [d1, d2, d3] => { results := [.lit (.bool false)], args := [d1, d2, d3] }
  | _ => none }
def TableAdoptsWrongFalsely : Prop := tableAdoptsRow.holds Try.pinned (OpenSpec.ofChange tableAdoptsWrong)

/-- 'transomlaw11.TableStays': WHATEVER THE INPUT: true; the input reads as it did. -/
def tableStaysSpec : ChangeSpec := { name := "tableStays", fn := fun _ => fun
  | [d1, d2, d3] => { results := [.lit (.bool true)], args := [d1, d2, d3] }
  | _ => none }
def tableStaysRow : OpenClaim := { program := "ytianochlnbehnaa", sum := "d6b94886cb1f5f6e756ec6acc0e066a41d6325371dee8f70564d8f538f528fad", func := "transom/transomlaw11.TableStays", spec := "tableStays", inPlace := ["slices.overlaps[transom/api.Proc]"], unfollowed := true, recurses := true, apart := false }
def TableStaysSaid : Prop := tableStaysRow.holds Try.pinned (OpenSpec.ofChange tableStaysSpec)

/-- ITS FALSE NEIGHBOUR: 'it returns false'. Refute it at one input. -/
def tableStaysWrong : ChangeSpec := { name := "tableStays", fn := fun _ => fun
  | [d1, d2, d3] => { results := [.lit (.bool false)], args := [d1, d2, d3] }
  | _ => none }
def TableStaysWrongFalsely : Prop := tableStaysRow.holds Try.pinned (OpenSpec.ofChange tableStaysWrong)

/-- 'transomlaw11.TableTwice': WHATEVER THE INPUT: true; the input reads as it did. -/
def tableTwiceSpec : ChangeSpec := { name := "tableTwice", fn := fun _ => fun
  | [d1, d2] => { results := [.lit (.bool true)], args := [d1, d2] }
  | _ => none }
def tableTwiceRow : OpenClaim := { program := "ytianochlnbehnaa", sum := "d6b94886cb1f5f6e756ec6acc0e066a41d6325371dee8f70564d8f538f528fad", func := "transom/transomlaw11.TableTwice", spec := "tableTwice", inPlace := ["slices.overlaps[transom/api.Proc]"], unfollowed := true, recurses := true, apart := false }
def TableTwiceSaid : Prop := tableTwiceRow.holds Try.pinned (OpenSpec.ofChange tableTwiceSpec)

/-- ITS FALSE NEIGHBOUR: 'it returns false'. Refute it at one input. -/
def tableTwiceWrong : ChangeSpec := { name := "tableTwice", fn := fun _ => fun
  | [d1, d2] => { results := [.lit (.bool false)], args := [d1, d2] }
  | _ => none }
def TableTwiceWrongFalsely : Prop := tableTwiceRow.holds Try.pinned (OpenSpec.ofChange tableTwiceWrong)

/-- 'transomlaw11.TableActs': WHATEVER THE INPUT: true; the input reads as it did. -/
def tableActsSpec : ChangeSpec := { name := "tableActs", fn := fun _ => fun
  | [d] => { results := [.lit (.bool true)], args := [d] }
  | _ => none }
def tableActsRow : OpenClaim := { program := "ytianochlnbehnaa", sum := "d6b94886cb1f5f6e756ec6acc0e066a41d6325371dee8f70564d8f538f528fad", func := "transom/transomlaw11.TableActs", spec := "tableActs", inPlace := ["slices.overlaps[transom/api.Proc]"], unfollowed := true, recurses := true, apart := false }
def TableActsSaid : Prop := tableActsRow.holds Try.pinned (OpenSpec.ofChange tableActsSpec)

/-- ITS FALSE NEIGHBOUR: 'it returns false'. Refute it at one input. -/
def tableActsWrong : ChangeSpec := { name := "tableActs", fn := fun _ => fun
  | [d] => { results := [.lit (.bool false)], args := [d] }
  | _ => none }
def TableActsWrongFalsely : Prop := tableActsRow.holds Try.pinned (OpenSpec.ofChange tableActsWrong)

/- THE SECOND FORM. 'bulk': how many values and letters a reading holds, each counted each time it is reached (what is shared counts as often as it is met; a slice's spare places count too). A statement '..UptoSaid' is the law's where the arguments, and the package variables that the reading takes, are together of bulk at most 1048576: NARROWER than '..Said'. Prove '..Said' where nothing that the law and all that it calls make is longer than what came in: it says more and counts as full. Else prove '..UptoSaid'. A law counts once. -/
mutual
def uptoBulk {H : Type} : DataW H → Nat
  | .lit (.string bytes) => bytes.length + 1
  | .lit _ => 1
  | .nil => 1
  | .ptr d => uptoBulk d + 1
  | .slice elems spare => uptoBulkAll elems + uptoBulkAll spare + 1
  | .agg parts => uptoBulkAll parts + 1
  | .iface _ d => uptoBulk d + 1
  | .map entries => uptoBulkEntries entries + 1
  | .held _ => 1
def uptoBulkAll {H : Type} : List (DataW H) → Nat
  | [] => 0
  | d :: r => uptoBulk d + uptoBulkAll r
def uptoBulkEntries {H : Type} : List (Lit × DataW H) → Nat
  | [] => 0
  | x :: r => uptoBulkEntry x + uptoBulkEntries r
def uptoBulkEntry {H : Type} : Lit × DataW H → Nat
  | (.string bytes, d) => bytes.length + uptoBulk d + 1
  | (_, d) => uptoBulk d + 1
 end
def uptoSmall : (H : Type) → List (DataW H) → Bool := fun _ ds => decide (uptoBulkAll ds ≤ 1048576)
def OpenSpec.upto (s : _root_.Go.ChangeSpec) : _root_.Go.OpenSpec := { _root_.Go.OpenSpec.ofChange s with cond := some uptoSmall }

/-- 'transomlaw11.TableFinds', WHERE WHAT IT READS IS OF BULK AT MOST 1048576: true; the input reads as it did. -/
def tableFindsUptoRow : OpenClaim := { program := "ytianochlnbehnaa", sum := "d6b94886cb1f5f6e756ec6acc0e066a41d6325371dee8f70564d8f538f528fad", func := "transom/transomlaw11.TableFinds", spec := "tableFinds", inPlace := ["slices.overlaps[transom/api.Proc]"], unfollowed := true, recurses := true, apart := false, narrowed := true }
def TableFindsUptoSaid : Prop := tableFindsUptoRow.holds Try.pinned (OpenSpec.upto tableFindsSpec)

/-- 'transomlaw11.TableNew', WHERE WHAT IT READS IS OF BULK AT MOST 1048576: true; the input reads as it did. -/
def tableNewUptoRow : OpenClaim := { program := "ytianochlnbehnaa", sum := "d6b94886cb1f5f6e756ec6acc0e066a41d6325371dee8f70564d8f538f528fad", func := "transom/transomlaw11.TableNew", spec := "tableNew", inPlace := ["slices.overlaps[transom/api.Proc]"], unfollowed := true, recurses := true, apart := false, narrowed := true }
def TableNewUptoSaid : Prop := tableNewUptoRow.holds Try.pinned (OpenSpec.upto tableNewSpec)

/-- 'transomlaw11.TableKids', WHERE WHAT IT READS IS OF BULK AT MOST 1048576: true; the input reads as it did. -/
def tableKidsUptoRow : OpenClaim := { program := "ytianochlnbehnaa", sum := "d6b94886cb1f5f6e756ec6acc0e066a41d6325371dee8f70564d8f538f528fad", func := "transom/transomlaw11.TableKids", spec := "tableKids", inPlace := ["slices.overlaps[transom/api.Proc]"], unfollowed := true, recurses := true, apart := false, narrowed := true }
def TableKidsUptoSaid : Prop := tableKidsUptoRow.holds Try.pinned (OpenSpec.upto tableKidsSpec)

/-- 'transomlaw11.TableGone', WHERE WHAT IT READS IS OF BULK AT MOST 1048576: true; the input reads as it did. -/
def tableGoneUptoRow : OpenClaim := { program := "ytianochlnbehnaa", sum := "d6b94886cb1f5f6e756ec6acc0e066a41d6325371dee8f70564d8f538f528fad", func := "transom/transomlaw11.TableGone", spec := "tableGone", inPlace := ["slices.overlaps[transom/api.Proc]"], unfollowed := true, recurses := true, apart := false, narrowed := true }
def TableGoneUptoSaid : Prop := tableGoneUptoRow.holds Try.pinned (OpenSpec.upto tableGoneSpec)

/-- 'transomlaw11.TableAdopts', WHERE WHAT IT READS IS OF BULK AT MOST 1048576: true; the input reads as it did. -/
def tableAdoptsUptoRow : OpenClaim := { program := "ytianochlnbehnaa", sum := "d6b94886cb1f5f6e756ec6acc0e066a41d6325371dee8f70564d8f538f528fad", func := "transom/transomlaw11.TableAdopts", spec := "tableAdopts", inPlace := ["slices.overlaps[transom/api.Proc]"], unfollowed := true, recurses := true, apart := false, narrowed := true }
def TableAdoptsUptoSaid : Prop := tableAdoptsUptoRow.holds Try.pinned (OpenSpec.upto tableAdoptsSpec)

/-- 'transomlaw11.TableStays', WHERE WHAT IT READS IS OF BULK AT MOST 1048576: true; the input reads as it did. -/
def tableStaysUptoRow : OpenClaim := { program := "ytianochlnbehnaa", sum := "d6b94886cb1f5f6e756ec6acc0e066a41d6325371dee8f70564d8f538f528fad", func := "transom/transomlaw11.TableStays", spec := "tableStays", inPlace := ["slices.overlaps[transom/api.Proc]"], unfollowed := true, recurses := true, apart := false, narrowed := true }
def TableStaysUptoSaid : Prop := tableStaysUptoRow.holds Try.pinned (OpenSpec.upto tableStaysSpec)

/-- 'transomlaw11.TableTwice', WHERE WHAT IT READS IS OF BULK AT MOST 1048576: true; the input reads as it did. -/
def tableTwiceUptoRow : OpenClaim := { program := "ytianochlnbehnaa", sum := "d6b94886cb1f5f6e756ec6acc0e066a41d6325371dee8f70564d8f538f528fad", func := "transom/transomlaw11.TableTwice", spec := "tableTwice", inPlace := ["slices.overlaps[transom/api.Proc]"], unfollowed := true, recurses := true, apart := false, narrowed := true }
def TableTwiceUptoSaid : Prop := tableTwiceUptoRow.holds Try.pinned (OpenSpec.upto tableTwiceSpec)

/-- 'transomlaw11.TableActs', WHERE WHAT IT READS IS OF BULK AT MOST 1048576: true; the input reads as it did. -/
def tableActsUptoRow : OpenClaim := { program := "ytianochlnbehnaa", sum := "d6b94886cb1f5f6e756ec6acc0e066a41d6325371dee8f70564d8f538f528fad", func := "transom/transomlaw11.TableActs", spec := "tableActs", inPlace := ["slices.overlaps[transom/api.Proc]"], unfollowed := true, recurses := true, apart := false, narrowed := true }
def TableActsUptoSaid : Prop := tableActsUptoRow.holds Try.pinned (OpenSpec.upto tableActsSpec)

end Rows
end Go.Proofs.Ytianochlnbehnaa
