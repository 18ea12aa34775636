/-
  No cell of these rows narrows 'for every input' (looked for: loops, veiled, ifaces, maps, wideKeys, modest, calm, conditions, laid).
  DERIVED. THE GIVEN ROWS OF THIS SEAT. 4 by the template 'for every input the law returns true; each argument reads behind the call as it read before'; 0 by the template 'total and deterministic' (their statements: YtmffbhlbikjmaaaTotals.lean).
  GIVEN WITH THE SEED: the statements are not yours to turn. If you find one false, say at which input.
  Laid BY PROGRAM, IN A SANDBOX (cutbox-rows.mjs): the forced cells as the released guide's own fill.sh prints them over the translation c38331c66ea8941d… (all of the seat's roots in one cut). By AI agents, Wed Nov 11 2026. No macro, syntax, notation, axiom, sorry.
-/
import Derived.Test.YtmffbhlbikjmaaaChecked
import GoSem.Claim
import GoSem.ClaimJoined
import GoSem.ClaimMapViews
import Derived.JoinedTies
import Derived.KernelRfl
namespace Go.Proofs.Ytmffbhlbikjmaaa
/- THE CELL 'sum', in the pinned program and in every row, IS THE sha256 OF THE DUMP (.gsa) THAT YtmffbhlbikjmaaaProg.lean LOADS. Nothing in Lean hashes anything: it is a label: what it is worth is what the hold of that sum in a sandbox is worth. -/
noncomputable def Try.pinned : Pinned := { name := "ytmffbhlbikjmaaa", sum := "c38331c66ea8941dd24a5b577b5827fac64ffa783e934a7a0bdbf6b48c3898ca", checked := Try.checked }
namespace Rows
def none {H : Type} : Left H := { results := [], args := [] }

/-- 'transomlaw12.CallErrors': WHATEVER THE INPUT: true; the input reads as it did. -/
def callErrorsSpec : ChangeSpec := { name := "callErrors", fn := fun _ => fun
  | [d1, d2] => { results := [.lit (.bool true)], args := [d1, d2] }
  | _ => none }
def callErrorsRow : OpenClaim := { program := "ytmffbhlbikjmaaa", sum := "c38331c66ea8941dd24a5b577b5827fac64ffa783e934a7a0bdbf6b48c3898ca", func := "transom/transomlaw12.CallErrors", spec := "callErrors", apart := false }
def CallErrorsSaid : Prop := callErrorsRow.holds Try.pinned (OpenSpec.ofChange callErrorsSpec)

/-- ITS FALSE NEIGHBOUR: 'it returns false'. Refute it at one input. -/
def callErrorsWrong : ChangeSpec := { name := "callErrors", fn := fun _ => fun
  | [d1, d2] => { results := [.lit (.bool false)], args := [d1, d2] }
  | _ => none }
def CallErrorsWrongFalsely : Prop := callErrorsRow.holds Try.pinned (OpenSpec.ofChange callErrorsWrong)

/-- 'transomlaw12.CallApart': WHATEVER THE INPUT: true; the input reads as it did. -/
def callApartSpec : ChangeSpec := { name := "callApart", fn := fun _ => fun
  | [d1, d2, d3] => { results := [.lit (.bool true)], args := [d1, d2, d3] }
  | _ => none }
def callApartRow : OpenClaim := { program := "ytmffbhlbikjmaaa", sum := "c38331c66ea8941dd24a5b577b5827fac64ffa783e934a7a0bdbf6b48c3898ca", func := "transom/transomlaw12.CallApart", spec := "callApart", apart := false }
def CallApartSaid : Prop := callApartRow.holds Try.pinned (OpenSpec.ofChange callApartSpec)

/-- ITS FALSE NEIGHBOUR: 'it returns false'. Refute it at one input. -/
def callApartWrong : ChangeSpec := { name := "callApart", fn := fun _ => fun
  | [d1, d2, d3] => { results := [.lit (.bool false)], args := [d1, d2, d3] }
  | _ => none }
def CallApartWrongFalsely : Prop := callApartRow.holds Try.pinned (OpenSpec.ofChange callApartWrong)

/-- 'transomlaw12.CallBack': WHATEVER THE INPUT: true; the input reads as it did. -/
def callBackSpec : ChangeSpec := { name := "callBack", fn := fun _ => fun
  | [d1, d2] => { results := [.lit (.bool true)], args := [d1, d2] }
  | _ => none }
def callBackRow : OpenClaim := { program := "ytmffbhlbikjmaaa", sum := "c38331c66ea8941dd24a5b577b5827fac64ffa783e934a7a0bdbf6b48c3898ca", func := "transom/transomlaw12.CallBack", spec := "callBack", apart := false }
def CallBackSaid : Prop := callBackRow.holds Try.pinned (OpenSpec.ofChange callBackSpec)

/-- ITS FALSE NEIGHBOUR: 'it returns false'. Refute it at one input. -/
def callBackWrong : ChangeSpec := { name := "callBack", fn := fun _ => fun
  | [d1, d2] => { results := [.lit (.bool false)], args := [d1, d2] }
  | _ => none }
def CallBackWrongFalsely : Prop := callBackRow.holds Try.pinned (OpenSpec.ofChange callBackWrong)

/-- 'transomlaw12.CallRegs': WHATEVER THE INPUT: true; the input reads as it did. -/
def callRegsSpec : ChangeSpec := { name := "callRegs", fn := fun _ => fun
  | [d1, d2, d3] => { results := [.lit (.bool true)], args := [d1, d2, d3] }
  | _ => none }
def callRegsRow : OpenClaim := { program := "ytmffbhlbikjmaaa", sum := "c38331c66ea8941dd24a5b577b5827fac64ffa783e934a7a0bdbf6b48c3898ca", func := "transom/transomlaw12.CallRegs", spec := "callRegs", apart := false }
def CallRegsSaid : Prop := callRegsRow.holds Try.pinned (OpenSpec.ofChange callRegsSpec)

/-- ITS FALSE NEIGHBOUR: 'it returns false'. Refute it at one input. -/
def callRegsWrong : ChangeSpec := { name := "callRegs", fn := fun _ => fun
  | [d1, d2, d3] => { results := [.lit (.bool false)], args := [d1, d2, d3] }
  | _ => none }
def CallRegsWrongFalsely : Prop := callRegsRow.holds Try.pinned (OpenSpec.ofChange callRegsWrong)

/- THE SECOND FORM. 'bulk': how many values and letters a reading holds, each counted each time it is reached (what is shared counts as often as it is met; a slice's spare places count too). A statement '..UptoSaid' is the law's where the arguments, and the package variables that the reading takes, are together of bulk at most 1048576: NARROWER than '..Said'. Prove '..Said' where nothing that the law and all that it calls make is longer than what came in: it says more and counts as full. Else prove '..UptoSaid'. A law counts once. -/
mutual
def uptoBulk {H : Type} : DataW H → Nat
  | .lit (.string bytes) => bytes.length + 1
  | .lit _ => 1
  | .nil => 1
  | .ptr d => uptoBulk d + 1
  | .slice elems spare => uptoBulkAll elems + uptoBulkAll spare + 1
  | .agg parts => uptoBulkAll parts + 1
  | .iface _ d => uptoBulk d + 1
  | .map entries => uptoBulkEntries entries + 1
  | .held _ => 1
def uptoBulkAll {H : Type} : List (DataW H) → Nat
  | [] => 0
  | d :: r => uptoBulk d + uptoBulkAll r
def uptoBulkEntries {H : Type} : List (Lit × DataW H) → Nat
  | [] => 0
  | x :: r => uptoBulkEntry x + uptoBulkEntries r
def uptoBulkEntry {H : Type} : Lit × DataW H → Nat
  | (.string bytes, d) => bytes.length + uptoBulk d + 1
  | (_, d) => uptoBulk d + 1
 end
def uptoSmall : (H : Type) → List (DataW H) → Bool := fun _ ds => decide (uptoBulkAll ds ≤ 1048576)
def OpenSpec.upto (s : _root_.Go.ChangeSpec) : _root_.Go.OpenSpec := { _root_.Go.OpenSpec.ofChange s with cond := some uptoSmall }

/-- 'transomlaw12.CallErrors', WHERE WHAT IT READS IS OF BULK AT MOST 1048576: true; the input reads as it did. -/
def callErrorsUptoRow : OpenClaim := { program := "ytmffbhlbikjmaaa", sum := "c38331c66ea8941dd24a5b577b5827fac64ffa783e934a7a0bdbf6b48c3898ca", func := "transom/transomlaw12.CallErrors", spec := "callErrors", apart := false, narrowed := true }
def CallErrorsUptoSaid : Prop := callErrorsUptoRow.holds Try.pinned (OpenSpec.upto callErrorsSpec)

/-- 'transomlaw12.CallApart', WHERE WHAT IT READS IS OF BULK AT MOST 1048576: true; the input reads as it did. -/
def callApartUptoRow : OpenClaim := { program := "ytmffbhlbikjmaaa", sum := "c38331c66ea8941dd24a5b577b5827fac64ffa783e934a7a0bdbf6b48c3898ca", func := "transom/transomlaw12.CallApart", spec := "callApart", apart := false, narrowed := true }
def CallApartUptoSaid : Prop := callApartUptoRow.holds Try.pinned (OpenSpec.upto callApartSpec)

/-- 'transomlaw12.CallBack', WHERE WHAT IT READS IS OF BULK AT MOST 1048576: true; the input reads as it did. -/
def callBackUptoRow : OpenClaim := { program := "ytmffbhlbikjmaaa", sum := "c38331c66ea8941dd24a5b577b5827fac64ffa783e934a7a0bdbf6b48c3898ca", func := "transom/transomlaw12.CallBack", spec := "callBack", apart := false, narrowed := true }
def CallBackUptoSaid : Prop := callBackUptoRow.holds Try.pinned (OpenSpec.upto callBackSpec)

/-- 'transomlaw12.CallRegs', WHERE WHAT IT READS IS OF BULK AT MOST 1048576: true; the input reads as it did. -/
def callRegsUptoRow : OpenClaim := { program := "ytmffbhlbikjmaaa", sum := "c38331c66ea8941dd24a5b577b5827fac64ffa783e934a7a0bdbf6b48c3898ca", func := "transom/transomlaw12.CallRegs", spec := "callRegs", apart := false, narrowed := true }
def CallRegsUptoSaid : Prop := callRegsUptoRow.holds Try.pinned (OpenSpec.upto callRegsSpec)

end Rows
end Go.Proofs.Ytmffbhlbikjmaaa
