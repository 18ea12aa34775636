/-
  NARROWER THAN 'FOR EVERY INPUT', by the rows' own cells (each row's printed sentence says how): TopApart: laid · TopAlone: laid · TopWindows: laid.
  DERIVED. THE GIVEN ROWS OF THIS SEAT. 3 by the template 'for every input the law returns true; each argument reads behind the call as it read before'; 0 by the template 'total and deterministic' (their statements: YtgmodehldmahiaaGreatDoorTotals.lean).
  GIVEN WITH THE SEED: the statements are not yours to turn. If you find one false, say at which input.
  Laid BY PROGRAM, IN A SANDBOX (cutbox-rows.mjs): the forced cells as the released guide's own fill.sh prints them over the translation bc114b2970e844aa… (all of the seat's roots in one cut). By AI agents, Wed Nov 11 2026. No macro, syntax, notation, axiom, sorry.
-/
import Derived.Test.YtgmodehldmahiaaGreatDoorChecked
import GoSem.Claim
import GoSem.ClaimJoined
import GoSem.ClaimMapViews
import Derived.JoinedTies
import Derived.KernelRfl
namespace Go.Proofs.YtgmodehldmahiaaGreatDoor
/- THE CELL 'sum', in the pinned program and in every row, IS THE sha256 OF THE DUMP (.gsa) THAT YtgmodehldmahiaaGreatDoorProg.lean LOADS. Nothing in Lean hashes anything: it is a label: what it is worth is what the hold of that sum in a sandbox is worth. -/
noncomputable def Tryz.pinned : Pinned := { name := "ytgmodehldmahiaagreatdoor", sum := "bc114b2970e844aaa01fbaefbaadbe8ba02e855d372bbdd45817d9b70d1bbeb1", checked := Tryz.checked }
namespace Rows
def none {H : Type} : Left H := { results := [], args := [] }

/- WHAT THE LISTED PACKAGE-LEVEL VARIABLES READ AS WHEN THE CALL BEGINS. Each datum BY PROGRAM (the guide's laid-datum.mjs) off the statement by which the dump's own 'gosem.cut.vars' lays the variable. In a bare row this is a premise. The card (YtgmodehldmahiaaGreatDoorCards.lean) ties it to the program's text. -/
def laid_transom_isa_uses {H : Type} : DataW H := .agg [.lit (.int .i64 0), .lit (.int .i64 5), .lit (.int .i64 5), .lit (.int .i64 3), .lit (.int .i64 3), .lit (.int .i64 3), .lit (.int .i64 3), .lit (.int .i64 3), .lit (.int .i64 3), .lit (.int .i64 3), .lit (.int .i64 3), .lit (.int .i64 3), .lit (.int .i64 3), .lit (.int .i64 5), .lit (.int .i64 7), .lit (.int .i64 7), .lit (.int .i64 7), .lit (.int .i64 7), .lit (.int .i64 4), .lit (.int .i64 5), .lit (.int .i64 1), .lit (.int .i64 7), .lit (.int .i64 7), .lit (.int .i64 7), .lit (.int .i64 0)]

/-- 'transomtop.TopApart': WHATEVER THE INPUT: true; the input reads as it did. -/
def topApartSpec : ChangeSpec := { name := "topApart", fn := fun _ => fun
  | [d] => { results := [.lit (.bool true)], args := [d] }
  | _ => none }
def topApartRow : OpenClaim := { program := "ytgmodehldmahiaagreatdoor", sum := "bc114b2970e844aaa01fbaefbaadbe8ba02e855d372bbdd45817d9b70d1bbeb1", func := "transom/transomtop.TopApart", spec := "topApart", inPlace := ["internal/abi.NoEscape", "internal/bytealg.MakeNoZero", "slices.overlaps[transom/api.Span]", "slices.overlaps[transom/api.Proc]", "slices.overlaps[transom/api.Alarm]"], unfollowed := true, recurses := true, named := ["transom/isa.uses"], apart := false, laid := [("transom/isa.uses", laid_transom_isa_uses)] }
def TopApartSaid : Prop := topApartRow.holds Tryz.pinned (OpenSpec.ofChange topApartSpec)

/-- ITS FALSE NEIGHBOUR: 'it returns false'. Refute it at one input. -/
def topApartWrong : ChangeSpec := { name := "topApart", fn := fun _ => fun
  | [d] => { results := [.lit (.bool false)], args := [d] }
  | _ => none }
def TopApartWrongFalsely : Prop := topApartRow.holds Tryz.pinned (OpenSpec.ofChange topApartWrong)

/-- 'transomtop.TopAlone': WHATEVER THE INPUT: true; the input reads as it did. -/
def topAloneSpec : ChangeSpec := { name := "topAlone", fn := fun _ => fun
  | [d] => { results := [.lit (.bool true)], args := [d] }
  | _ => none }
def topAloneRow : OpenClaim := { program := "ytgmodehldmahiaagreatdoor", sum := "bc114b2970e844aaa01fbaefbaadbe8ba02e855d372bbdd45817d9b70d1bbeb1", func := "transom/transomtop.TopAlone", spec := "topAlone", inPlace := ["internal/abi.NoEscape", "internal/bytealg.MakeNoZero", "slices.overlaps[transom/api.Span]", "slices.overlaps[transom/api.Proc]", "slices.overlaps[transom/api.Alarm]"], unfollowed := true, recurses := true, named := ["transom/isa.uses"], apart := false, laid := [("transom/isa.uses", laid_transom_isa_uses)] }
def TopAloneSaid : Prop := topAloneRow.holds Tryz.pinned (OpenSpec.ofChange topAloneSpec)

/-- ITS FALSE NEIGHBOUR: 'it returns false'. Refute it at one input. -/
def topAloneWrong : ChangeSpec := { name := "topAlone", fn := fun _ => fun
  | [d] => { results := [.lit (.bool false)], args := [d] }
  | _ => none }
def TopAloneWrongFalsely : Prop := topAloneRow.holds Tryz.pinned (OpenSpec.ofChange topAloneWrong)

/-- 'transomtop.TopWindows': WHATEVER THE INPUT: true; the input reads as it did. -/
def topWindowsSpec : ChangeSpec := { name := "topWindows", fn := fun _ => fun
  | [d] => { results := [.lit (.bool true)], args := [d] }
  | _ => none }
def topWindowsRow : OpenClaim := { program := "ytgmodehldmahiaagreatdoor", sum := "bc114b2970e844aaa01fbaefbaadbe8ba02e855d372bbdd45817d9b70d1bbeb1", func := "transom/transomtop.TopWindows", spec := "topWindows", inPlace := ["internal/abi.NoEscape", "internal/bytealg.MakeNoZero", "slices.overlaps[transom/api.Span]", "slices.overlaps[transom/api.Proc]", "slices.overlaps[transom/api.Alarm]"], unfollowed := true, recurses := true, named := ["transom/isa.uses"], apart := false, laid := [("transom/isa.uses", laid_transom_isa_uses)] }
def TopWindowsSaid : Prop := topWindowsRow.holds Tryz.pinned (OpenSpec.ofChange topWindowsSpec)

/-- ITS FALSE NEIGHBOUR: 'it returns false'. Refute it at one input. -/
def topWindowsWrong : ChangeSpec := { name := "topWindows", fn := fun _ => fun
  | [d] => { results := [.lit (.bool false)], args := [d] }
  | _ => none }
def TopWindowsWrongFalsely : Prop := topWindowsRow.holds Tryz.pinned (OpenSpec.ofChange topWindowsWrong)

/- THE SECOND FORM. 'bulk': how many values and letters a reading holds, each counted each time it is reached (what is shared counts as often as it is met; a slice's spare places count too). A statement '..UptoSaid' is the law's where the arguments, and the package variables that the reading takes, are together of bulk at most 1048576: NARROWER than '..Said'. Prove '..Said' where nothing that the law and all that it calls make is longer than what came in: it says more and counts as full. Else prove '..UptoSaid'. A law counts once. -/
mutual
def uptoBulk {H : Type} : DataW H → Nat
  | .lit (.string bytes) => bytes.length + 1
  | .lit _ => 1
  | .nil => 1
  | .ptr d => uptoBulk d + 1
  | .slice elems spare => uptoBulkAll elems + uptoBulkAll spare + 1
  | .agg parts => uptoBulkAll parts + 1
  | .iface _ d => uptoBulk d + 1
  | .map entries => uptoBulkEntries entries + 1
  | .held _ => 1
def uptoBulkAll {H : Type} : List (DataW H) → Nat
  | [] => 0
  | d :: r => uptoBulk d + uptoBulkAll r
def uptoBulkEntries {H : Type} : List (Lit × DataW H) → Nat
  | [] => 0
  | x :: r => uptoBulkEntry x + uptoBulkEntries r
def uptoBulkEntry {H : Type} : Lit × DataW H → Nat
  | (.string bytes, d) => bytes.length + uptoBulk d + 1
  | (_, d) => uptoBulk d + 1
 end
def uptoSmall : (H : Type) → List (DataW H) → Bool := fun _ ds => decide (uptoBulkAll ds ≤ 1048576)
def OpenSpec.upto (s : _root_.Go.ChangeSpec) : _root_.Go.OpenSpec := { _root_.Go.OpenSpec.ofChange s with cond := some uptoSmall }

/-- 'transomtop.TopApart', WHERE WHAT IT READS IS OF BULK AT MOST 1048576: true; the input reads as it did. -/
def topApartUptoRow : OpenClaim := { program := "ytgmodehldmahiaagreatdoor", sum := "bc114b2970e844aaa01fbaefbaadbe8ba02e855d372bbdd45817d9b70d1bbeb1", func := "transom/transomtop.TopApart", spec := "topApart", inPlace := ["internal/abi.NoEscape", "internal/bytealg.MakeNoZero", "slices.overlaps[transom/api.Span]", "slices.overlaps[transom/api.Proc]", "slices.overlaps[transom/api.Alarm]"], unfollowed := true, recurses := true, named := ["transom/isa.uses"], apart := false, laid := [("transom/isa.uses", laid_transom_isa_uses)], narrowed := true }
def TopApartUptoSaid : Prop := topApartUptoRow.holds Tryz.pinned (OpenSpec.upto topApartSpec)

/-- 'transomtop.TopAlone', WHERE WHAT IT READS IS OF BULK AT MOST 1048576: true; the input reads as it did. -/
def topAloneUptoRow : OpenClaim := { program := "ytgmodehldmahiaagreatdoor", sum := "bc114b2970e844aaa01fbaefbaadbe8ba02e855d372bbdd45817d9b70d1bbeb1", func := "transom/transomtop.TopAlone", spec := "topAlone", inPlace := ["internal/abi.NoEscape", "internal/bytealg.MakeNoZero", "slices.overlaps[transom/api.Span]", "slices.overlaps[transom/api.Proc]", "slices.overlaps[transom/api.Alarm]"], unfollowed := true, recurses := true, named := ["transom/isa.uses"], apart := false, laid := [("transom/isa.uses", laid_transom_isa_uses)], narrowed := true }
def TopAloneUptoSaid : Prop := topAloneUptoRow.holds Tryz.pinned (OpenSpec.upto topAloneSpec)

/-- 'transomtop.TopWindows', WHERE WHAT IT READS IS OF BULK AT MOST 1048576: true; the input reads as it did. -/
def topWindowsUptoRow : OpenClaim := { program := "ytgmodehldmahiaagreatdoor", sum := "bc114b2970e844aaa01fbaefbaadbe8ba02e855d372bbdd45817d9b70d1bbeb1", func := "transom/transomtop.TopWindows", spec := "topWindows", inPlace := ["internal/abi.NoEscape", "internal/bytealg.MakeNoZero", "slices.overlaps[transom/api.Span]", "slices.overlaps[transom/api.Proc]", "slices.overlaps[transom/api.Alarm]"], unfollowed := true, recurses := true, named := ["transom/isa.uses"], apart := false, laid := [("transom/isa.uses", laid_transom_isa_uses)], narrowed := true }
def TopWindowsUptoSaid : Prop := topWindowsUptoRow.holds Tryz.pinned (OpenSpec.upto topWindowsSpec)

end Rows
end Go.Proofs.YtgmodehldmahiaaGreatDoor
