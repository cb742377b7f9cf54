/-
  No cell of these rows narrows 'for every input' (looked for: loops, veiled, ifaces, maps, wideKeys, modest, calm, conditions, laid).
  DERIVED. THE GIVEN ROWS OF THIS SEAT. 5 by the template 'for every input the law returns true; each argument reads behind the call as it read before'; 0 by the template 'total and deterministic' (their statements: YtcehbdmpjebmbaaTotals.lean).
  GIVEN WITH THE SEED: the statements are not yours to turn. If you find one false, say at which input.
  Laid BY PROGRAM, IN A SANDBOX (cutbox-rows.mjs): the forced cells as the released guide's own fill.sh prints them over the translation 229c3bbe34830254… (all of the seat's roots in one cut). By AI agents, Wed Nov 11 2026. No macro, syntax, notation, axiom, sorry.
-/
import Derived.Test.YtcehbdmpjebmbaaChecked
import GoSem.Claim
import GoSem.ClaimJoined
import GoSem.ClaimMapViews
import Derived.JoinedTies
import Derived.KernelRfl
namespace Go.Proofs.Ytcehbdmpjebmbaa
/- THE CELL 'sum', in the pinned program and in every row, IS THE sha256 OF THE DUMP (.gsa) THAT YtcehbdmpjebmbaaProg.lean LOADS. Nothing in Lean hashes anything: it is a label: what it is worth is what the hold of that sum in a sandbox is worth. -/
noncomputable def Try.pinned : Pinned := { name := "ytcehbdmpjebmbaa", sum := "229c3bbe3483025431b68bc2e4224b23e4e15060e84a40af49ef80b99d186eac", checked := Try.checked }
namespace Rows
def none {H : Type} : Left H := { results := [], args := [] }

/-- 'choraguslaw26.StabSafe': WHATEVER THE INPUT: true; the input reads as it did. -/
def stabSafeSpec : ChangeSpec := { name := "stabSafe", fn := fun _ => fun
  | [d1, d2, d3] => { results := [.lit (.bool true)], args := [d1, d2, d3] }
  | _ => none }
def stabSafeRow : OpenClaim := { program := "ytcehbdmpjebmbaa", sum := "229c3bbe3483025431b68bc2e4224b23e4e15060e84a40af49ef80b99d186eac", func := "choragus/choraguslaw26.StabSafe", spec := "stabSafe", plainKeys := false, apart := false }
def StabSafeSaid : Prop := stabSafeRow.holds Try.pinned (OpenSpec.ofChange stabSafeSpec)

/-- ITS FALSE NEIGHBOUR: 'it returns false'. Refute it at one input. -/
def stabSafeWrong : ChangeSpec := { name := "stabSafe", fn := fun _ => fun
  | [d1, d2, d3] => { results := [.lit (.bool false)], args := [d1, d2, d3] }
  | _ => none }
def StabSafeWrongFalsely : Prop := stabSafeRow.holds Try.pinned (OpenSpec.ofChange stabSafeWrong)

/-- 'choraguslaw26.StabFull': WHATEVER THE INPUT: true; the input reads as it did. -/
def stabFullSpec : ChangeSpec := { name := "stabFull", fn := fun _ => fun
  | [d1, d2] => { results := [.lit (.bool true)], args := [d1, d2] }
  | _ => none }
def stabFullRow : OpenClaim := { program := "ytcehbdmpjebmbaa", sum := "229c3bbe3483025431b68bc2e4224b23e4e15060e84a40af49ef80b99d186eac", func := "choragus/choraguslaw26.StabFull", spec := "stabFull", plainKeys := false, apart := false }
def StabFullSaid : Prop := stabFullRow.holds Try.pinned (OpenSpec.ofChange stabFullSpec)

/-- ITS FALSE NEIGHBOUR: 'it returns false'. Refute it at one input. -/
def stabFullWrong : ChangeSpec := { name := "stabFull", fn := fun _ => fun
  | [d1, d2] => { results := [.lit (.bool false)], args := [d1, d2] }
  | _ => none }
def StabFullWrongFalsely : Prop := stabFullRow.holds Try.pinned (OpenSpec.ofChange stabFullWrong)

/-- 'choraguslaw26.StabPlays': WHATEVER THE INPUT: true; the input reads as it did. -/
def stabPlaysSpec : ChangeSpec := { name := "stabPlays", fn := fun _ => fun
  | [d1, d2] => { results := [.lit (.bool true)], args := [d1, d2] }
  | _ => none }
def stabPlaysRow : OpenClaim := { program := "ytcehbdmpjebmbaa", sum := "229c3bbe3483025431b68bc2e4224b23e4e15060e84a40af49ef80b99d186eac", func := "choragus/choraguslaw26.StabPlays", spec := "stabPlays", plainKeys := false, apart := false }
def StabPlaysSaid : Prop := stabPlaysRow.holds Try.pinned (OpenSpec.ofChange stabPlaysSpec)

/-- ITS FALSE NEIGHBOUR: 'it returns false'. Refute it at one input. -/
def stabPlaysWrong : ChangeSpec := { name := "stabPlays", fn := fun _ => fun
  | [d1, d2] => { results := [.lit (.bool false)], args := [d1, d2] }
  | _ => none }
def StabPlaysWrongFalsely : Prop := stabPlaysRow.holds Try.pinned (OpenSpec.ofChange stabPlaysWrong)

/-- 'choraguslaw26.StabNil': WHATEVER THE INPUT: true; the input reads as it did. -/
def stabNilSpec : ChangeSpec := { name := "stabNil", fn := fun _ => fun
  | [d1, d2, d3] => { results := [.lit (.bool true)], args := [d1, d2, d3] }
  | _ => none }
def stabNilRow : OpenClaim := { program := "ytcehbdmpjebmbaa", sum := "229c3bbe3483025431b68bc2e4224b23e4e15060e84a40af49ef80b99d186eac", func := "choragus/choraguslaw26.StabNil", spec := "stabNil", plainKeys := false, apart := false }
def StabNilSaid : Prop := stabNilRow.holds Try.pinned (OpenSpec.ofChange stabNilSpec)

/-- ITS FALSE NEIGHBOUR: 'it returns false'. Refute it at one input. -/
def stabNilWrong : ChangeSpec := { name := "stabNil", fn := fun _ => fun
  | [d1, d2, d3] => { results := [.lit (.bool false)], args := [d1, d2, d3] }
  | _ => none }
def StabNilWrongFalsely : Prop := stabNilRow.holds Try.pinned (OpenSpec.ofChange stabNilWrong)

/-- 'choraguslaw26.StabOrder': WHATEVER THE INPUT: true; the input reads as it did. -/
def stabOrderSpec : ChangeSpec := { name := "stabOrder", fn := fun _ => fun
  | [d1, d2] => { results := [.lit (.bool true)], args := [d1, d2] }
  | _ => none }
def stabOrderRow : OpenClaim := { program := "ytcehbdmpjebmbaa", sum := "229c3bbe3483025431b68bc2e4224b23e4e15060e84a40af49ef80b99d186eac", func := "choragus/choraguslaw26.StabOrder", spec := "stabOrder", plainKeys := false, apart := false }
def StabOrderSaid : Prop := stabOrderRow.holds Try.pinned (OpenSpec.ofChange stabOrderSpec)

/-- ITS FALSE NEIGHBOUR: 'it returns false'. Refute it at one input. -/
def stabOrderWrong : ChangeSpec := { name := "stabOrder", fn := fun _ => fun
  | [d1, d2] => { results := [.lit (.bool false)], args := [d1, d2] }
  | _ => none }
def StabOrderWrongFalsely : Prop := stabOrderRow.holds Try.pinned (OpenSpec.ofChange stabOrderWrong)

/- THE SECOND FORM. 'bulk': how many values and letters a reading holds, each counted each time it is reached (what is shared counts as often as it is met; a slice's spare places count too). A statement '..UptoSaid' is the law's where the arguments, and the package variables that the reading takes, are together of bulk at most 1048576: NARROWER than '..Said'. Prove '..Said' where nothing that the law and all that it calls make is longer than what came in: it says more and counts as full. Else prove '..UptoSaid'. A law counts once. -/
mutual
def uptoBulk {H : Type} : DataW H → Nat
  | .lit (.string bytes) => bytes.length + 1
  | .lit _ => 1
  | .nil => 1
  | .ptr d => uptoBulk d + 1
  | .slice elems spare => uptoBulkAll elems + uptoBulkAll spare + 1
  | .agg parts => uptoBulkAll parts + 1
  | .iface _ d => uptoBulk d + 1
  | .map entries => uptoBulkEntries entries + 1
  | .held _ => 1
def uptoBulkAll {H : Type} : List (DataW H) → Nat
  | [] => 0
  | d :: r => uptoBulk d + uptoBulkAll r
def uptoBulkEntries {H : Type} : List (Lit × DataW H) → Nat
  | [] => 0
  | x :: r => uptoBulkEntry x + uptoBulkEntries r
def uptoBulkEntry {H : Type} : Lit × DataW H → Nat
  | (.string bytes, d) => bytes.length + uptoBulk d + 1
  | (_, d) => uptoBulk d + 1
 end
def uptoSmall : (H : Type) → List (DataW H) → Bool := fun _ ds => decide (uptoBulkAll ds ≤ 1048576)
def OpenSpec.upto (s : _root_.Go.ChangeSpec) : _root_.Go.OpenSpec := { _root_.Go.OpenSpec.ofChange s with cond := some uptoSmall }

/-- 'choraguslaw26.StabSafe', WHERE WHAT IT READS IS OF BULK AT MOST 1048576: true; the input reads as it did. -/
def stabSafeUptoRow : OpenClaim := { program := "ytcehbdmpjebmbaa", sum := "229c3bbe3483025431b68bc2e4224b23e4e15060e84a40af49ef80b99d186eac", func := "choragus/choraguslaw26.StabSafe", spec := "stabSafe", plainKeys := false, apart := false, narrowed := true }
def StabSafeUptoSaid : Prop := stabSafeUptoRow.holds Try.pinned (OpenSpec.upto stabSafeSpec)

/-- 'choraguslaw26.StabFull', WHERE WHAT IT READS IS OF BULK AT MOST 1048576: true; the input reads as it did. -/
def stabFullUptoRow : OpenClaim := { program := "ytcehbdmpjebmbaa", sum := "229c3bbe3483025431b68bc2e4224b23e4e15060e84a40af49ef80b99d186eac", func := "choragus/choraguslaw26.StabFull", spec := "stabFull", plainKeys := false, apart := false, narrowed := true }
def StabFullUptoSaid : Prop := stabFullUptoRow.holds Try.pinned (OpenSpec.upto stabFullSpec)

/-- 'choraguslaw26.StabPlays', WHERE WHAT IT READS IS OF BULK AT MOST 1048576: true; the input reads as it did. -/
def stabPlaysUptoRow : OpenClaim := { program := "ytcehbdmpjebmbaa", sum := "229c3bbe3483025431b68bc2e4224b23e4e15060e84a40af49ef80b99d186eac", func := "choragus/choraguslaw26.StabPlays", spec := "stabPlays", plainKeys := false, apart := false, narrowed := true }
def StabPlaysUptoSaid : Prop := stabPlaysUptoRow.holds Try.pinned (OpenSpec.upto stabPlaysSpec)

/-- 'choraguslaw26.StabNil', WHERE WHAT IT READS IS OF BULK AT MOST 1048576: true; the input reads as it did. -/
def stabNilUptoRow : OpenClaim := { program := "ytcehbdmpjebmbaa", sum := "229c3bbe3483025431b68bc2e4224b23e4e15060e84a40af49ef80b99d186eac", func := "choragus/choraguslaw26.StabNil", spec := "stabNil", plainKeys := false, apart := false, narrowed := true }
def StabNilUptoSaid : Prop := stabNilUptoRow.holds Try.pinned (OpenSpec.upto stabNilSpec)

/-- 'choraguslaw26.StabOrder', WHERE WHAT IT READS IS OF BULK AT MOST 1048576: true; the input reads as it did. -/
def stabOrderUptoRow : OpenClaim := { program := "ytcehbdmpjebmbaa", sum := "229c3bbe3483025431b68bc2e4224b23e4e15060e84a40af49ef80b99d186eac", func := "choragus/choraguslaw26.StabOrder", spec := "stabOrder", plainKeys := false, apart := false, narrowed := true }
def StabOrderUptoSaid : Prop := stabOrderUptoRow.holds Try.pinned (OpenSpec.upto stabOrderSpec)

end Rows
end Go.Proofs.Ytcehbdmpjebmbaa
