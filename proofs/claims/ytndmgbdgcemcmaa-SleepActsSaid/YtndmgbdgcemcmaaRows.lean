/-
  No cell of these rows narrows 'for every input' (looked for: loops, veiled, ifaces, maps, wideKeys, modest, calm, conditions, laid).
  DERIVED. THE GIVEN ROWS OF THIS SEAT. 6 by the template 'for every input the law returns true; each argument reads behind the call as it read before'; 0 by the template 'total and deterministic' (their statements: YtndmgbdgcemcmaaTotals.lean).
  GIVEN WITH THE SEED: the statements are not yours to turn. If you find one false, say at which input.
  Laid BY PROGRAM, IN A SANDBOX (cutbox-rows.mjs): the forced cells as the released guide's own fill.sh prints them over the translation b13729fd906e6105… (all of the seat's roots in one cut). By AI agents, Wed Nov 11 2026. No macro, syntax, notation, axiom, sorry.
-/
import Derived.Test.YtndmgbdgcemcmaaChecked
import GoSem.Claim
import GoSem.ClaimJoined
import GoSem.ClaimMapViews
import Derived.JoinedTies
import Derived.KernelRfl
namespace Go.Proofs.Ytndmgbdgcemcmaa
/- THE CELL 'sum', in the pinned program and in every row, IS THE sha256 OF THE DUMP (.gsa) THAT YtndmgbdgcemcmaaProg.lean LOADS. Nothing in Lean hashes anything: it is a label: what it is worth is what the hold of that sum in a sandbox is worth. -/
noncomputable def Try.pinned : Pinned := { name := "ytndmgbdgcemcmaa", sum := "b13729fd906e6105225a66fea096cb042b2998594171982718e82d814628e84a", checked := Try.checked }
namespace Rows
def none {H : Type} : Left H := { results := [], args := [] }

/-- 'transomlaw08.SleepWakes': WHATEVER THE INPUT: true; the input reads as it did. -/
def sleepWakesSpec : ChangeSpec := { name := "sleepWakes", fn := fun _ => fun
  | [d1, d2] => { results := [.lit (.bool true)], args := [d1, d2] }
  | _ => none }
def sleepWakesRow : OpenClaim := { program := "ytndmgbdgcemcmaa", sum := "b13729fd906e6105225a66fea096cb042b2998594171982718e82d814628e84a", func := "transom/transomlaw08.SleepWakes", spec := "sleepWakes", inPlace := ["slices.overlaps[transom/api.Alarm]"], unfollowed := true, recurses := true, apart := false }
def SleepWakesSaid : Prop := sleepWakesRow.holds Try.pinned (OpenSpec.ofChange sleepWakesSpec)

/-- ITS FALSE NEIGHBOUR: 'it returns false'. Refute it at one input. -/
def sleepWakesWrong : ChangeSpec := { name := "sleepWakes", fn := fun _ => fun
  | [d1, d2] => { results := [.lit (.bool false)], args := [d1, d2] }
  | _ => none }
def SleepWakesWrongFalsely : Prop := sleepWakesRow.holds Try.pinned (OpenSpec.ofChange sleepWakesWrong)

/-- 'transomlaw08.SleepParts': WHATEVER THE INPUT: true; the input reads as it did. -/
def sleepPartsSpec : ChangeSpec := { name := "sleepParts", fn := fun _ => fun
  | [d1, d2, d3] => { results := [.lit (.bool true)], args := [d1, d2, d3] }
  | _ => none }
def sleepPartsRow : OpenClaim := { program := "ytndmgbdgcemcmaa", sum := "b13729fd906e6105225a66fea096cb042b2998594171982718e82d814628e84a", func := "transom/transomlaw08.SleepParts", spec := "sleepParts", inPlace := ["slices.overlaps[transom/api.Alarm]"], unfollowed := true, recurses := true, apart := false }
def SleepPartsSaid : Prop := sleepPartsRow.holds Try.pinned (OpenSpec.ofChange sleepPartsSpec)

/-- ITS FALSE NEIGHBOUR: 'it returns false'. Refute it at one input. -/
def sleepPartsWrong : ChangeSpec := { name := "sleepParts", fn := fun _ => fun
  | [d1, d2, d3] => { results := [.lit (.bool false)], args := [d1, d2, d3] }
  | _ => none }
def SleepPartsWrongFalsely : Prop := sleepPartsRow.holds Try.pinned (OpenSpec.ofChange sleepPartsWrong)

/-- 'transomlaw08.SleepTime': WHATEVER THE INPUT: true; the input reads as it did. -/
def sleepTimeSpec : ChangeSpec := { name := "sleepTime", fn := fun _ => fun
  | [d1, d2] => { results := [.lit (.bool true)], args := [d1, d2] }
  | _ => none }
def sleepTimeRow : OpenClaim := { program := "ytndmgbdgcemcmaa", sum := "b13729fd906e6105225a66fea096cb042b2998594171982718e82d814628e84a", func := "transom/transomlaw08.SleepTime", spec := "sleepTime", inPlace := ["slices.overlaps[transom/api.Alarm]"], unfollowed := true, recurses := true, apart := false }
def SleepTimeSaid : Prop := sleepTimeRow.holds Try.pinned (OpenSpec.ofChange sleepTimeSpec)

/-- ITS FALSE NEIGHBOUR: 'it returns false'. Refute it at one input. -/
def sleepTimeWrong : ChangeSpec := { name := "sleepTime", fn := fun _ => fun
  | [d1, d2] => { results := [.lit (.bool false)], args := [d1, d2] }
  | _ => none }
def SleepTimeWrongFalsely : Prop := sleepTimeRow.holds Try.pinned (OpenSpec.ofChange sleepTimeWrong)

/-- 'transomlaw08.SleepStays': WHATEVER THE INPUT: true; the input reads as it did. -/
def sleepStaysSpec : ChangeSpec := { name := "sleepStays", fn := fun _ => fun
  | [d] => { results := [.lit (.bool true)], args := [d] }
  | _ => none }
def sleepStaysRow : OpenClaim := { program := "ytndmgbdgcemcmaa", sum := "b13729fd906e6105225a66fea096cb042b2998594171982718e82d814628e84a", func := "transom/transomlaw08.SleepStays", spec := "sleepStays", inPlace := ["slices.overlaps[transom/api.Alarm]"], unfollowed := true, recurses := true, apart := false }
def SleepStaysSaid : Prop := sleepStaysRow.holds Try.pinned (OpenSpec.ofChange sleepStaysSpec)

/-- ITS FALSE NEIGHBOUR: 'it returns false'. Refute it at one input. -/
def sleepStaysWrong : ChangeSpec := { name := "sleepStays", fn := fun _ => fun
  | [d] => { results := [.lit (.bool false)], args := [d] }
  | _ => none }
def SleepStaysWrongFalsely : Prop := sleepStaysRow.holds Try.pinned (OpenSpec.ofChange sleepStaysWrong)

/-- 'transomlaw08.SleepGone': WHATEVER THE INPUT: true; the input reads as it did. -/
def sleepGoneSpec : ChangeSpec := { name := "sleepGone", fn := fun _ => fun
  | [d1, d2] => { results := [.lit (.bool true)], args := [d1, d2] }
  | _ => none }
def sleepGoneRow : OpenClaim := { program := "ytndmgbdgcemcmaa", sum := "b13729fd906e6105225a66fea096cb042b2998594171982718e82d814628e84a", func := "transom/transomlaw08.SleepGone", spec := "sleepGone", inPlace := ["slices.overlaps[transom/api.Alarm]"], unfollowed := true, recurses := true, apart := false }
def SleepGoneSaid : Prop := sleepGoneRow.holds Try.pinned (OpenSpec.ofChange sleepGoneSpec)

/-- ITS FALSE NEIGHBOUR: 'it returns false'. Refute it at one input. -/
def sleepGoneWrong : ChangeSpec := { name := "sleepGone", fn := fun _ => fun
  | [d1, d2] => { results := [.lit (.bool false)], args := [d1, d2] }
  | _ => none }
def SleepGoneWrongFalsely : Prop := sleepGoneRow.holds Try.pinned (OpenSpec.ofChange sleepGoneWrong)

/-- 'transomlaw08.SleepActs': WHATEVER THE INPUT: true; the input reads as it did. -/
def sleepActsSpec : ChangeSpec := { name := "sleepActs", fn := fun _ => fun
  | [d] => { results := [.lit (.bool true)], args := [d] }
  | _ => none }
def sleepActsRow : OpenClaim := { program := "ytndmgbdgcemcmaa", sum := "b13729fd906e6105225a66fea096cb042b2998594171982718e82d814628e84a", func := "transom/transomlaw08.SleepActs", spec := "sleepActs", inPlace := ["slices.overlaps[transom/api.Alarm]"], unfollowed := true, recurses := true, apart := false }
def SleepActsSaid : Prop := sleepActsRow.holds Try.pinned (OpenSpec.ofChange sleepActsSpec)

/-- ITS FALSE NEIGHBOUR: 'it returns false'. Refute it at one input. -/
def sleepActsWrong : ChangeSpec := { name := "sleepActs", fn := fun _ => fun
  | [d] => { results := [.lit (.bool false)], args := [d] }
  | _ => none }
def SleepActsWrongFalsely : Prop := sleepActsRow.holds Try.pinned (OpenSpec.ofChange sleepActsWrong)

/- THE SECOND FORM. 'bulk': how many values and letters a reading holds, each counted each time it is reached (what is shared counts as often as it is met; a slice's spare places count too). A statement '..UptoSaid' is the law's where the arguments, and the package variables that the reading takes, are together of bulk at most 1048576: NARROWER than '..Said'. Prove '..Said' where nothing that the law and all that it calls make is longer than what came in: it says more and counts as full. Else prove '..UptoSaid'. A law counts once. -/
mutual
def uptoBulk {H : Type} : DataW H → Nat
  | .lit (.string bytes) => bytes.length + 1
  | .lit _ => 1
  | .nil => 1
  | .ptr d => uptoBulk d + 1
  | .slice elems spare => uptoBulkAll elems + uptoBulkAll spare + 1
  | .agg parts => uptoBulkAll parts + 1
  | .iface _ d => uptoBulk d + 1
  | .map entries => uptoBulkEntries entries + 1
  | .held _ => 1
def uptoBulkAll {H : Type} : List (DataW H) → Nat
  | [] => 0
  | d :: r => uptoBulk d + uptoBulkAll r
def uptoBulkEntries {H : Type} : List (Lit × DataW H) → Nat
  | [] => 0
  | x :: r => uptoBulkEntry x + uptoBulkEntries r
def uptoBulkEntry {H : Type} : Lit × DataW H → Nat
  | (.string bytes, d) => bytes.length + uptoBulk d + 1
  | (_, d) => uptoBulk d + 1
 end
def uptoSmall : (H : Type) → List (DataW H) → Bool := fun _ ds => decide (uptoBulkAll ds ≤ 1048576)
def OpenSpec.upto (s : _root_.Go.ChangeSpec) : _root_.Go.OpenSpec := { _root_.Go.OpenSpec.ofChange s with cond := some uptoSmall }

/-- 'transomlaw08.SleepWakes', WHERE WHAT IT READS IS OF BULK AT MOST 1048576: true; the input reads as it did. -/
def sleepWakesUptoRow : OpenClaim := { program := "ytndmgbdgcemcmaa", sum := "b13729fd906e6105225a66fea096cb042b2998594171982718e82d814628e84a", func := "transom/transomlaw08.SleepWakes", spec := "sleepWakes", inPlace := ["slices.overlaps[transom/api.Alarm]"], unfollowed := true, recurses := true, apart := false, narrowed := true }
def SleepWakesUptoSaid : Prop := sleepWakesUptoRow.holds Try.pinned (OpenSpec.upto sleepWakesSpec)

/-- 'transomlaw08.SleepParts', WHERE WHAT IT READS IS OF BULK AT MOST 1048576: true; the input reads as it did. -/
def sleepPartsUptoRow : OpenClaim := { program := "ytndmgbdgcemcmaa", sum := "b13729fd906e6105225a66fea096cb042b2998594171982718e82d814628e84a", func := "transom/transomlaw08.SleepParts", spec := "sleepParts", inPlace := ["slices.overlaps[transom/api.Alarm]"], unfollowed := true, recurses := true, apart := false, narrowed := true }
def SleepPartsUptoSaid : Prop := sleepPartsUptoRow.holds Try.pinned (OpenSpec.upto sleepPartsSpec)

/-- 'transomlaw08.SleepTime', WHERE WHAT IT READS IS OF BULK AT MOST 1048576: true; the input reads as it did. -/
def sleepTimeUptoRow : OpenClaim := { program := "ytndmgbdgcemcmaa", sum := "b13729fd906e6105225a66fea096cb042b2998594171982718e82d814628e84a", func := "transom/transomlaw08.SleepTime", spec := "sleepTime", inPlace := ["slices.overlaps[transom/api.Alarm]"], unfollowed := true, recurses := true, apart := false, narrowed := true }
def SleepTimeUptoSaid : Prop := sleepTimeUptoRow.holds Try.pinned (OpenSpec.upto sleepTimeSpec)

/-- 'transomlaw08.SleepStays', WHERE WHAT IT READS IS OF BULK AT MOST 1048576: true; the input reads as it did. -/
def sleepStaysUptoRow : OpenClaim := { program := "ytndmgbdgcemcmaa", sum := "b13729fd906e6105225a66fea096cb042b2998594171982718e82d814628e84a", func := "transom/transomlaw08.SleepStays", spec := "sleepStays", inPlace := ["slices.overlaps[transom/api.Alarm]"], unfollowed := true, recurses := true, apart := false, narrowed := true }
def SleepStaysUptoSaid : Prop := sleepStaysUptoRow.holds Try.pinned (OpenSpec.upto sleepStaysSpec)

/-- 'transomlaw08.SleepGone', WHERE WHAT IT READS IS OF BULK AT MOST 1048576: true; the input reads as it did. -/
def sleepGoneUptoRow : OpenClaim := { program := "ytndmgbdgcemcmaa", sum := "b13729fd906e6105225a66fea096cb042b2998594171982718e82d814628e84a", func := "transom/transomlaw08.SleepGone", spec := "sleepGone", inPlace := ["slices.overlaps[transom/api.Alarm]"], unfollowed := true, recurses := true, apart := false, narrowed := true }
def SleepGoneUptoSaid : Prop := sleepGoneUptoRow.holds Try.pinned (OpenSpec.upto sleepGoneSpec)

/-- 'transomlaw08.SleepActs', WHERE WHAT IT READS IS OF BULK AT MOST 1048576: true; the input reads as it did. -/
def sleepActsUptoRow : OpenClaim := { program := "ytndmgbdgcemcmaa", sum := "b13729fd906e6105225a66fea096cb042b2998594171982718e82d814628e84a", func := "transom/transomlaw08.SleepActs", spec := "sleepActs", inPlace := ["slices.overlaps[transom/api.Alarm]"], unfollowed := true, recurses := true, apart := false, narrowed := true }
def SleepActsUptoSaid : Prop := sleepActsUptoRow.holds Try.pinned (OpenSpec.upto sleepActsSpec)

end Rows
end Go.Proofs.Ytndmgbdgcemcmaa
