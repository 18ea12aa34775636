/-
  No cell of these rows narrows 'for every input' (looked for: loops, veiled, ifaces, maps, wideKeys, modest, calm, conditions, laid).
  DERIVED. THE GIVEN ROWS OF THIS SEAT. 6 by the template 'for every input the law returns true; each argument reads behind the call as it read before'; 0 by the template 'total and deterministic' (their statements: YtmcaeahjnhkbcaaTotals.lean).
  GIVEN WITH THE SEED: the statements are not yours to turn. If you find one false, say at which input.
  Laid BY PROGRAM, IN A SANDBOX (cutbox-rows.mjs): the forced cells as the released guide's own fill.sh prints them over the translation 4366ff6dbd91c7af… (all of the seat's roots in one cut). By AI agents, Wed Nov 11 2026. No macro, syntax, notation, axiom, sorry.
-/
import Derived.Test.YtmcaeahjnhkbcaaChecked
import GoSem.Claim
import GoSem.ClaimJoined
import GoSem.ClaimMapViews
import Derived.JoinedTies
import Derived.KernelRfl
namespace Go.Proofs.Ytmcaeahjnhkbcaa
/- THE CELL 'sum', in the pinned program and in every row, IS THE sha256 OF THE DUMP (.gsa) THAT YtmcaeahjnhkbcaaProg.lean LOADS. Nothing in Lean hashes anything: it is a label: what it is worth is what the hold of that sum in a sandbox is worth. -/
noncomputable def Try.pinned : Pinned := { name := "ytmcaeahjnhkbcaa", sum := "4366ff6dbd91c7afe617d7843372bf726efdd403307ec96a2f443a96deb3674b", checked := Try.checked }
namespace Rows
def none {H : Type} : Left H := { results := [], args := [] }

/-- 'transomlaw15.RouteOwn': WHATEVER THE INPUT: true; the input reads as it did. -/
def routeOwnSpec : ChangeSpec := { name := "routeOwn", fn := fun _ => fun
  | [d] => { results := [.lit (.bool true)], args := [d] }
  | _ => none }
def routeOwnRow : OpenClaim := { program := "ytmcaeahjnhkbcaa", sum := "4366ff6dbd91c7afe617d7843372bf726efdd403307ec96a2f443a96deb3674b", func := "transom/transomlaw15.RouteOwn", spec := "routeOwn", unfollowed := true, recurses := true, apart := false }
def RouteOwnSaid : Prop := routeOwnRow.holds Try.pinned (OpenSpec.ofChange routeOwnSpec)

/-- ITS FALSE NEIGHBOUR: 'it returns false'. Refute it at one input. -/
def routeOwnWrong : ChangeSpec := { name := "routeOwn", fn := fun _ => fun
  | [d] => { results := [.lit (.bool false)], args := [d] }
  | _ => none }
def RouteOwnWrongFalsely : Prop := routeOwnRow.holds Try.pinned (OpenSpec.ofChange routeOwnWrong)

/-- 'transomlaw15.RouteReach': WHATEVER THE INPUT: true; the input reads as it did. -/
def routeReachSpec : ChangeSpec := { name := "routeReach", fn := fun _ => fun
  | [d1, d2, d3] => { results := [.lit (.bool true)], args := [d1, d2, d3] }
  | _ => none }
def routeReachRow : OpenClaim := { program := "ytmcaeahjnhkbcaa", sum := "4366ff6dbd91c7afe617d7843372bf726efdd403307ec96a2f443a96deb3674b", func := "transom/transomlaw15.RouteReach", spec := "routeReach", unfollowed := true, recurses := true, apart := false }
def RouteReachSaid : Prop := routeReachRow.holds Try.pinned (OpenSpec.ofChange routeReachSpec)

/-- ITS FALSE NEIGHBOUR: 'it returns false'. Refute it at one input. -/
def routeReachWrong : ChangeSpec := { name := "routeReach", fn := fun _ => fun
  | [d1, d2, d3] => { results := [.lit (.bool false)], args := [d1, d2, d3] }
  | _ => none }
def RouteReachWrongFalsely : Prop := routeReachRow.holds Try.pinned (OpenSpec.ofChange routeReachWrong)

/-- 'transomlaw15.RouteSome': WHATEVER THE INPUT: true; the input reads as it did. -/
def routeSomeSpec : ChangeSpec := { name := "routeSome", fn := fun _ => fun
  | [d1, d2, d3] => { results := [.lit (.bool true)], args := [d1, d2, d3] }
  | _ => none }
def routeSomeRow : OpenClaim := { program := "ytmcaeahjnhkbcaa", sum := "4366ff6dbd91c7afe617d7843372bf726efdd403307ec96a2f443a96deb3674b", func := "transom/transomlaw15.RouteSome", spec := "routeSome", unfollowed := true, recurses := true, apart := false }
def RouteSomeSaid : Prop := routeSomeRow.holds Try.pinned (OpenSpec.ofChange routeSomeSpec)

/-- ITS FALSE NEIGHBOUR: 'it returns false'. Refute it at one input. -/
def routeSomeWrong : ChangeSpec := { name := "routeSome", fn := fun _ => fun
  | [d1, d2, d3] => { results := [.lit (.bool false)], args := [d1, d2, d3] }
  | _ => none }
def RouteSomeWrongFalsely : Prop := routeSomeRow.holds Try.pinned (OpenSpec.ofChange routeSomeWrong)

/-- 'transomlaw15.RouteJoins': WHATEVER THE INPUT: true; the input reads as it did. -/
def routeJoinsSpec : ChangeSpec := { name := "routeJoins", fn := fun _ => fun
  | [d1, d2, d3] => { results := [.lit (.bool true)], args := [d1, d2, d3] }
  | _ => none }
def routeJoinsRow : OpenClaim := { program := "ytmcaeahjnhkbcaa", sum := "4366ff6dbd91c7afe617d7843372bf726efdd403307ec96a2f443a96deb3674b", func := "transom/transomlaw15.RouteJoins", spec := "routeJoins", unfollowed := true, recurses := true, apart := false }
def RouteJoinsSaid : Prop := routeJoinsRow.holds Try.pinned (OpenSpec.ofChange routeJoinsSpec)

/-- ITS FALSE NEIGHBOUR: 'it returns false'. Refute it at one input. -/
def routeJoinsWrong : ChangeSpec := { name := "routeJoins", fn := fun _ => fun
  | [d1, d2, d3] => { results := [.lit (.bool false)], args := [d1, d2, d3] }
  | _ => none }
def RouteJoinsWrongFalsely : Prop := routeJoinsRow.holds Try.pinned (OpenSpec.ofChange routeJoinsWrong)

/-- 'transomlaw15.RouteCounts': WHATEVER THE INPUT: true; the input reads as it did. -/
def routeCountsSpec : ChangeSpec := { name := "routeCounts", fn := fun _ => fun
  | [d] => { results := [.lit (.bool true)], args := [d] }
  | _ => none }
def routeCountsRow : OpenClaim := { program := "ytmcaeahjnhkbcaa", sum := "4366ff6dbd91c7afe617d7843372bf726efdd403307ec96a2f443a96deb3674b", func := "transom/transomlaw15.RouteCounts", spec := "routeCounts", unfollowed := true, recurses := true, apart := false }
def RouteCountsSaid : Prop := routeCountsRow.holds Try.pinned (OpenSpec.ofChange routeCountsSpec)

/-- ITS FALSE NEIGHBOUR: 'it returns false'. Refute it at one input. -/
def routeCountsWrong : ChangeSpec := { name := "routeCounts", fn := fun _ => fun
  | [d] => { results := [.lit (.bool false)], args := [d] }
  | _ => none }
def RouteCountsWrongFalsely : Prop := routeCountsRow.holds Try.pinned (OpenSpec.ofChange routeCountsWrong)

/-- 'transomlaw15.RouteAlike': WHATEVER THE INPUT: true; the input reads as it did. -/
def routeAlikeSpec : ChangeSpec := { name := "routeAlike", fn := fun _ => fun
  | [d] => { results := [.lit (.bool true)], args := [d] }
  | _ => none }
def routeAlikeRow : OpenClaim := { program := "ytmcaeahjnhkbcaa", sum := "4366ff6dbd91c7afe617d7843372bf726efdd403307ec96a2f443a96deb3674b", func := "transom/transomlaw15.RouteAlike", spec := "routeAlike", unfollowed := true, recurses := true, apart := false }
def RouteAlikeSaid : Prop := routeAlikeRow.holds Try.pinned (OpenSpec.ofChange routeAlikeSpec)

/-- ITS FALSE NEIGHBOUR: 'it returns false'. Refute it at one input. -/
def routeAlikeWrong : ChangeSpec := { name := "routeAlike", fn := fun _ => fun
  | [d] => { results := [.lit (.bool false)], args := [d] }
  | _ => none }
def RouteAlikeWrongFalsely : Prop := routeAlikeRow.holds Try.pinned (OpenSpec.ofChange routeAlikeWrong)

/- THE SECOND FORM. 'bulk': how many values and letters a reading holds, each counted each time it is reached (what is shared counts as often as it is met; a slice's spare places count too). A statement '..UptoSaid' is the law's where the arguments, and the package variables that the reading takes, are together of bulk at most 1048576: NARROWER than '..Said'. Prove '..Said' where nothing that the law and all that it calls make is longer than what came in: it says more and counts as full. Else prove '..UptoSaid'. A law counts once. -/
mutual
def uptoBulk {H : Type} : DataW H → Nat
  | .lit (.string bytes) => bytes.length + 1
  | .lit _ => 1
  | .nil => 1
  | .ptr d => uptoBulk d + 1
  | .slice elems spare => uptoBulkAll elems + uptoBulkAll spare + 1
  | .agg parts => uptoBulkAll parts + 1
  | .iface _ d => uptoBulk d + 1
  | .map entries => uptoBulkEntries entries + 1
  | .held _ => 1
def uptoBulkAll {H : Type} : List (DataW H) → Nat
  | [] => 0
  | d :: r => uptoBulk d + uptoBulkAll r
def uptoBulkEntries {H : Type} : List (Lit × DataW H) → Nat
  | [] => 0
  | x :: r => uptoBulkEntry x + uptoBulkEntries r
def uptoBulkEntry {H : Type} : Lit × DataW H → Nat
  | (.string bytes, d) => bytes.length + uptoBulk d + 1
  | (_, d) => uptoBulk d + 1
 end
def uptoSmall : (H : Type) → List (DataW H) → Bool := fun _ ds => decide (uptoBulkAll ds ≤ 1048576)
def OpenSpec.upto (s : _root_.Go.ChangeSpec) : _root_.Go.OpenSpec := { _root_.Go.OpenSpec.ofChange s with cond := some uptoSmall }

/-- 'transomlaw15.RouteOwn', WHERE WHAT IT READS IS OF BULK AT MOST 1048576: true; the input reads as it did. -/
def routeOwnUptoRow : OpenClaim := { program := "ytmcaeahjnhkbcaa", sum := "4366ff6dbd91c7afe617d7843372bf726efdd403307ec96a2f443a96deb3674b", func := "transom/transomlaw15.RouteOwn", spec := "routeOwn", unfollowed := true, recurses := true, apart := false, narrowed := true }
def RouteOwnUptoSaid : Prop := routeOwnUptoRow.holds Try.pinned (OpenSpec.upto routeOwnSpec)

/-- 'transomlaw15.RouteReach', WHERE WHAT IT READS IS OF BULK AT MOST 1048576: true; the input reads as it did. -/
def routeReachUptoRow : OpenClaim := { program := "ytmcaeahjnhkbcaa", sum := "4366ff6dbd91c7afe617d7843372bf726efdd403307ec96a2f443a96deb3674b", func := "transom/transomlaw15.RouteReach", spec := "routeReach", unfollowed := true, recurses := true, apart := false, narrowed := true }
def RouteReachUptoSaid : Prop := routeReachUptoRow.holds Try.pinned (OpenSpec.upto routeReachSpec)

/-- 'transomlaw15.RouteSome', WHERE WHAT IT READS IS OF BULK AT MOST 1048576: true; the input reads as it did. -/
def routeSomeUptoRow : OpenClaim := { program := "ytmcaeahjnhkbcaa", sum := "4366ff6dbd91c7afe617d7843372bf726efdd403307ec96a2f443a96deb3674b", func := "transom/transomlaw15.RouteSome", spec := "routeSome", unfollowed := true, recurses := true, apart := false, narrowed := true }
def RouteSomeUptoSaid : Prop := routeSomeUptoRow.holds Try.pinned (OpenSpec.upto routeSomeSpec)

/-- 'transomlaw15.RouteJoins', WHERE WHAT IT READS IS OF BULK AT MOST 1048576: true; the input reads as it did. -/
def routeJoinsUptoRow : OpenClaim := { program := "ytmcaeahjnhkbcaa", sum := "4366ff6dbd91c7afe617d7843372bf726efdd403307ec96a2f443a96deb3674b", func := "transom/transomlaw15.RouteJoins", spec := "routeJoins", unfollowed := true, recurses := true, apart := false, narrowed := true }
def RouteJoinsUptoSaid : Prop := routeJoinsUptoRow.holds Try.pinned (OpenSpec.upto routeJoinsSpec)

/-- 'transomlaw15.RouteCounts', WHERE WHAT IT READS IS OF BULK AT MOST 1048576: true; the input reads as it did. -/
def routeCountsUptoRow : OpenClaim := { program := "ytmcaeahjnhkbcaa", sum := "4366ff6dbd91c7afe617d7843372bf726efdd403307ec96a2f443a96deb3674b", func := "transom/transomlaw15.RouteCounts", spec := "routeCounts", unfollowed := true, recurses := true, apart := false, narrowed := true }
def RouteCountsUptoSaid : Prop := routeCountsUptoRow.holds Try.pinned (OpenSpec.upto routeCountsSpec)

/-- 'transomlaw15.RouteAlike', WHERE WHAT IT READS IS OF BULK AT MOST 1048576: true; the input reads as it did. -/
def routeAlikeUptoRow : OpenClaim := { program := "ytmcaeahjnhkbcaa", sum := "4366ff6dbd91c7afe617d7843372bf726efdd403307ec96a2f443a96deb3674b", func := "transom/transomlaw15.RouteAlike", spec := "routeAlike", unfollowed := true, recurses := true, apart := false, narrowed := true }
def RouteAlikeUptoSaid : Prop := routeAlikeUptoRow.holds Try.pinned (OpenSpec.upto routeAlikeSpec)

end Rows
end Go.Proofs.Ytmcaeahjnhkbcaa
