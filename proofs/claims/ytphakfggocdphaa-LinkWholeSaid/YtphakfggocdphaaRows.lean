/-
  No cell of these rows narrows 'for every input' (looked for: loops, veiled, ifaces, maps, wideKeys, modest, calm, conditions, laid).
  DERIVED. THE GIVEN ROWS OF THIS SEAT. 9 by the template 'for every input the law returns true; each argument reads behind the call as it read before'; 0 by the template 'total and deterministic' (their statements: YtphakfggocdphaaTotals.lean).
  GIVEN WITH THE SEED: the statements are not yours to turn. If you find one false, say at which input.
  Laid BY PROGRAM, IN A SANDBOX (cutbox-rows.mjs): the forced cells as the released guide's own fill.sh prints them over the translation 967374ac964e40fd… (all of the seat's roots in one cut). By AI agents, Wed Nov 11 2026. No macro, syntax, notation, axiom, sorry.
-/
import Derived.Test.YtphakfggocdphaaChecked
import GoSem.Claim
import GoSem.ClaimJoined
import GoSem.ClaimMapViews
import Derived.JoinedTies
import Derived.KernelRfl
namespace Go.Proofs.Ytphakfggocdphaa
/- THE CELL 'sum', in the pinned program and in every row, IS THE sha256 OF THE DUMP (.gsa) THAT YtphakfggocdphaaProg.lean LOADS. Nothing in Lean hashes anything: it is a label: what it is worth is what the hold of that sum in a sandbox is worth. -/
noncomputable def Try.pinned : Pinned := { name := "ytphakfggocdphaa", sum := "967374ac964e40fd16ac6dff711d9beec82e43db3a4dab24b557168b00fb9489", checked := Try.checked }
namespace Rows
def none {H : Type} : Left H := { results := [], args := [] }

/-- 'choraguslaw12.LinkPlays': WHATEVER THE INPUT: true; the input reads as it did. -/
def linkPlaysSpec : ChangeSpec := { name := "linkPlays", fn := fun _ => fun
  | [d] => { results := [.lit (.bool true)], args := [d] }
  | _ => none }
def linkPlaysRow : OpenClaim := { program := "ytphakfggocdphaa", sum := "967374ac964e40fd16ac6dff711d9beec82e43db3a4dab24b557168b00fb9489", func := "choragus/choraguslaw12.LinkPlays", spec := "linkPlays", apart := false }
def LinkPlaysSaid : Prop := linkPlaysRow.holds Try.pinned (OpenSpec.ofChange linkPlaysSpec)

/-- ITS FALSE NEIGHBOUR: 'it returns false'. Refute it at one input. -/
def linkPlaysWrong : ChangeSpec := { name := "linkPlays", fn := fun _ => fun
  | [d] => { results := [.lit (.bool false)], args := [d] }
  | _ => none }
def LinkPlaysWrongFalsely : Prop := linkPlaysRow.holds Try.pinned (OpenSpec.ofChange linkPlaysWrong)

/-- 'choraguslaw12.LinkBound': WHATEVER THE INPUT: true; the input reads as it did. -/
def linkBoundSpec : ChangeSpec := { name := "linkBound", fn := fun _ => fun
  | [d] => { results := [.lit (.bool true)], args := [d] }
  | _ => none }
def linkBoundRow : OpenClaim := { program := "ytphakfggocdphaa", sum := "967374ac964e40fd16ac6dff711d9beec82e43db3a4dab24b557168b00fb9489", func := "choragus/choraguslaw12.LinkBound", spec := "linkBound", apart := false }
def LinkBoundSaid : Prop := linkBoundRow.holds Try.pinned (OpenSpec.ofChange linkBoundSpec)

/-- ITS FALSE NEIGHBOUR: 'it returns false'. Refute it at one input. -/
def linkBoundWrong : ChangeSpec := { name := "linkBound", fn := fun _ => fun
  | [d] => { results := [.lit (.bool false)], args := [d] }
  | _ => none }
def LinkBoundWrongFalsely : Prop := linkBoundRow.holds Try.pinned (OpenSpec.ofChange linkBoundWrong)

/-- 'choraguslaw12.LinkNil': WHATEVER THE INPUT: true; the input reads as it did. -/
def linkNilSpec : ChangeSpec := { name := "linkNil", fn := fun _ => fun
  | [d1, d2] => { results := [.lit (.bool true)], args := [d1, d2] }
  | _ => none }
def linkNilRow : OpenClaim := { program := "ytphakfggocdphaa", sum := "967374ac964e40fd16ac6dff711d9beec82e43db3a4dab24b557168b00fb9489", func := "choragus/choraguslaw12.LinkNil", spec := "linkNil", apart := false }
def LinkNilSaid : Prop := linkNilRow.holds Try.pinned (OpenSpec.ofChange linkNilSpec)

/-- ITS FALSE NEIGHBOUR: 'it returns false'. Refute it at one input. -/
def linkNilWrong : ChangeSpec := { name := "linkNil", fn := fun _ => fun
  | [d1, d2] => { results := [.lit (.bool false)], args := [d1, d2] }
  | _ => none }
def LinkNilWrongFalsely : Prop := linkNilRow.holds Try.pinned (OpenSpec.ofChange linkNilWrong)

/-- 'choraguslaw12.LinkWhole': WHATEVER THE INPUT: true; the input reads as it did. -/
def linkWholeSpec : ChangeSpec := { name := "linkWhole", fn := fun _ => fun
  | [d1, d2] => { results := [.lit (.bool true)], args := [d1, d2] }
  | _ => none }
def linkWholeRow : OpenClaim := { program := "ytphakfggocdphaa", sum := "967374ac964e40fd16ac6dff711d9beec82e43db3a4dab24b557168b00fb9489", func := "choragus/choraguslaw12.LinkWhole", spec := "linkWhole", apart := false }
def LinkWholeSaid : Prop := linkWholeRow.holds Try.pinned (OpenSpec.ofChange linkWholeSpec)

/-- ITS FALSE NEIGHBOUR: 'it returns false'. Refute it at one input. -/
def linkWholeWrong : ChangeSpec := { name := "linkWhole", fn := fun _ => fun
  | [d1, d2] => { results := [.lit (.bool false)], args := [d1, d2] }
  | _ => none }
def LinkWholeWrongFalsely : Prop := linkWholeRow.holds Try.pinned (OpenSpec.ofChange linkWholeWrong)

/-- 'choraguslaw11.WindowAll': WHATEVER THE INPUT: true; the input reads as it did. -/
def windowAllSpec : ChangeSpec := { name := "windowAll", fn := fun _ => fun
  | [d] => { results := [.lit (.bool true)], args := [d] }
  | _ => none }
def windowAllRow : OpenClaim := { program := "ytphakfggocdphaa", sum := "967374ac964e40fd16ac6dff711d9beec82e43db3a4dab24b557168b00fb9489", func := "choragus/choraguslaw11.WindowAll", spec := "windowAll", apart := false }
def WindowAllSaid : Prop := windowAllRow.holds Try.pinned (OpenSpec.ofChange windowAllSpec)

/-- ITS FALSE NEIGHBOUR: 'it returns false'. Refute it at one input. -/
def windowAllWrong : ChangeSpec := { name := "windowAll", fn := fun _ => fun
  | [d] => { results := [.lit (.bool false)], args := [d] }
  | _ => none }
def WindowAllWrongFalsely : Prop := windowAllRow.holds Try.pinned (OpenSpec.ofChange windowAllWrong)

/-- 'choraguslaw11.WindowPlays': WHATEVER THE INPUT: true; the input reads as it did. -/
def windowPlaysSpec : ChangeSpec := { name := "windowPlays", fn := fun _ => fun
  | [d] => { results := [.lit (.bool true)], args := [d] }
  | _ => none }
def windowPlaysRow : OpenClaim := { program := "ytphakfggocdphaa", sum := "967374ac964e40fd16ac6dff711d9beec82e43db3a4dab24b557168b00fb9489", func := "choragus/choraguslaw11.WindowPlays", spec := "windowPlays", apart := false }
def WindowPlaysSaid : Prop := windowPlaysRow.holds Try.pinned (OpenSpec.ofChange windowPlaysSpec)

/-- ITS FALSE NEIGHBOUR: 'it returns false'. Refute it at one input. -/
def windowPlaysWrong : ChangeSpec := { name := "windowPlays", fn := fun _ => fun
  | [d] => { results := [.lit (.bool false)], args := [d] }
  | _ => none }
def WindowPlaysWrongFalsely : Prop := windowPlaysRow.holds Try.pinned (OpenSpec.ofChange windowPlaysWrong)

/-- 'choraguslaw11.WindowBound': WHATEVER THE INPUT: true; the input reads as it did. -/
def windowBoundSpec : ChangeSpec := { name := "windowBound", fn := fun _ => fun
  | [d] => { results := [.lit (.bool true)], args := [d] }
  | _ => none }
def windowBoundRow : OpenClaim := { program := "ytphakfggocdphaa", sum := "967374ac964e40fd16ac6dff711d9beec82e43db3a4dab24b557168b00fb9489", func := "choragus/choraguslaw11.WindowBound", spec := "windowBound", apart := false }
def WindowBoundSaid : Prop := windowBoundRow.holds Try.pinned (OpenSpec.ofChange windowBoundSpec)

/-- ITS FALSE NEIGHBOUR: 'it returns false'. Refute it at one input. -/
def windowBoundWrong : ChangeSpec := { name := "windowBound", fn := fun _ => fun
  | [d] => { results := [.lit (.bool false)], args := [d] }
  | _ => none }
def WindowBoundWrongFalsely : Prop := windowBoundRow.holds Try.pinned (OpenSpec.ofChange windowBoundWrong)

/-- 'choraguslaw11.WindowNil': WHATEVER THE INPUT: true; the input reads as it did. -/
def windowNilSpec : ChangeSpec := { name := "windowNil", fn := fun _ => fun
  | [d1, d2] => { results := [.lit (.bool true)], args := [d1, d2] }
  | _ => none }
def windowNilRow : OpenClaim := { program := "ytphakfggocdphaa", sum := "967374ac964e40fd16ac6dff711d9beec82e43db3a4dab24b557168b00fb9489", func := "choragus/choraguslaw11.WindowNil", spec := "windowNil", apart := false }
def WindowNilSaid : Prop := windowNilRow.holds Try.pinned (OpenSpec.ofChange windowNilSpec)

/-- ITS FALSE NEIGHBOUR: 'it returns false'. Refute it at one input. -/
def windowNilWrong : ChangeSpec := { name := "windowNil", fn := fun _ => fun
  | [d1, d2] => { results := [.lit (.bool false)], args := [d1, d2] }
  | _ => none }
def WindowNilWrongFalsely : Prop := windowNilRow.holds Try.pinned (OpenSpec.ofChange windowNilWrong)

/-- 'choraguslaw11.WindowCounts': WHATEVER THE INPUT: true; the input reads as it did. -/
def windowCountsSpec : ChangeSpec := { name := "windowCounts", fn := fun _ => fun
  | [d] => { results := [.lit (.bool true)], args := [d] }
  | _ => none }
def windowCountsRow : OpenClaim := { program := "ytphakfggocdphaa", sum := "967374ac964e40fd16ac6dff711d9beec82e43db3a4dab24b557168b00fb9489", func := "choragus/choraguslaw11.WindowCounts", spec := "windowCounts", apart := false }
def WindowCountsSaid : Prop := windowCountsRow.holds Try.pinned (OpenSpec.ofChange windowCountsSpec)

/-- ITS FALSE NEIGHBOUR: 'it returns false'. Refute it at one input. -/
def windowCountsWrong : ChangeSpec := { name := "windowCounts", fn := fun _ => fun
  | [d] => { results := [.lit (.bool false)], args := [d] }
  | _ => none }
def WindowCountsWrongFalsely : Prop := windowCountsRow.holds Try.pinned (OpenSpec.ofChange windowCountsWrong)

/- THE SECOND FORM. 'bulk': how many values and letters a reading holds, each counted each time it is reached (what is shared counts as often as it is met; a slice's spare places count too). A statement '..UptoSaid' is the law's where the arguments, and the package variables that the reading takes, are together of bulk at most 1048576: NARROWER than '..Said'. Prove '..Said' where nothing that the law and all that it calls make is longer than what came in: it says more and counts as full. Else prove '..UptoSaid'. A law counts once. -/
mutual
def uptoBulk {H : Type} : DataW H → Nat
  | .lit (.string bytes) => bytes.length + 1
  | .lit _ => 1
  | .nil => 1
  | .ptr d => uptoBulk d + 1
  | .slice elems spare => uptoBulkAll elems + uptoBulkAll spare + 1
  | .agg parts => uptoBulkAll parts + 1
  | .iface _ d => uptoBulk d + 1
  | .map entries => uptoBulkEntries entries + 1
  | .held _ => 1
def uptoBulkAll {H : Type} : List (DataW H) → Nat
  | [] => 0
  | d :: r => uptoBulk d + uptoBulkAll r
def uptoBulkEntries {H : Type} : List (Lit × DataW H) → Nat
  | [] => 0
  | x :: r => uptoBulkEntry x + uptoBulkEntries r
def uptoBulkEntry {H : Type} : Lit × DataW H → Nat
  | (.string bytes, d) => bytes.length + uptoBulk d + 1
  | (_, d) => uptoBulk d + 1
 end
def uptoSmall : (H : Type) → List (DataW H) → Bool := fun _ ds => decide (uptoBulkAll ds ≤ 1048576)
def OpenSpec.upto (s : _root_.Go.ChangeSpec) : _root_.Go.OpenSpec := { _root_.Go.OpenSpec.ofChange s with cond := some uptoSmall }

/-- 'choraguslaw12.LinkPlays', WHERE WHAT IT READS IS OF BULK AT MOST 1048576: true; the input reads as it did. -/
def linkPlaysUptoRow : OpenClaim := { program := "ytphakfggocdphaa", sum := "967374ac964e40fd16ac6dff711d9beec82e43db3a4dab24b557168b00fb9489", func := "choragus/choraguslaw12.LinkPlays", spec := "linkPlays", apart := false, narrowed := true }
def LinkPlaysUptoSaid : Prop := linkPlaysUptoRow.holds Try.pinned (OpenSpec.upto linkPlaysSpec)

/-- 'choraguslaw12.LinkBound', WHERE WHAT IT READS IS OF BULK AT MOST 1048576: true; the input reads as it did. -/
def linkBoundUptoRow : OpenClaim := { program := "ytphakfggocdphaa", sum := "967374ac964e40fd16ac6dff711d9beec82e43db3a4dab24b557168b00fb9489", func := "choragus/choraguslaw12.LinkBound", spec := "linkBound", apart := false, narrowed := true }
def LinkBoundUptoSaid : Prop := linkBoundUptoRow.holds Try.pinned (OpenSpec.upto linkBoundSpec)

/-- 'choraguslaw12.LinkNil', WHERE WHAT IT READS IS OF BULK AT MOST 1048576: true; the input reads as it did. -/
def linkNilUptoRow : OpenClaim := { program := "ytphakfggocdphaa", sum := "967374ac964e40fd16ac6dff711d9beec82e43db3a4dab24b557168b00fb9489", func := "choragus/choraguslaw12.LinkNil", spec := "linkNil", apart := false, narrowed := true }
def LinkNilUptoSaid : Prop := linkNilUptoRow.holds Try.pinned (OpenSpec.upto linkNilSpec)

/-- 'choraguslaw12.LinkWhole', WHERE WHAT IT READS IS OF BULK AT MOST 1048576: true; the input reads as it did. -/
def linkWholeUptoRow : OpenClaim := { program := "ytphakfggocdphaa", sum := "967374ac964e40fd16ac6dff711d9beec82e43db3a4dab24b557168b00fb9489", func := "choragus/choraguslaw12.LinkWhole", spec := "linkWhole", apart := false, narrowed := true }
def LinkWholeUptoSaid : Prop := linkWholeUptoRow.holds Try.pinned (OpenSpec.upto linkWholeSpec)

/-- 'choraguslaw11.WindowAll', WHERE WHAT IT READS IS OF BULK AT MOST 1048576: true; the input reads as it did. -/
def windowAllUptoRow : OpenClaim := { program := "ytphakfggocdphaa", sum := "967374ac964e40fd16ac6dff711d9beec82e43db3a4dab24b557168b00fb9489", func := "choragus/choraguslaw11.WindowAll", spec := "windowAll", apart := false, narrowed := true }
def WindowAllUptoSaid : Prop := windowAllUptoRow.holds Try.pinned (OpenSpec.upto windowAllSpec)

/-- 'choraguslaw11.WindowPlays', WHERE WHAT IT READS IS OF BULK AT MOST 1048576: true; the input reads as it did. -/
def windowPlaysUptoRow : OpenClaim := { program := "ytphakfggocdphaa", sum := "967374ac964e40fd16ac6dff711d9beec82e43db3a4dab24b557168b00fb9489", func := "choragus/choraguslaw11.WindowPlays", spec := "windowPlays", apart := false, narrowed := true }
def WindowPlaysUptoSaid : Prop := windowPlaysUptoRow.holds Try.pinned (OpenSpec.upto windowPlaysSpec)

/-- 'choraguslaw11.WindowBound', WHERE WHAT IT READS IS OF BULK AT MOST 1048576: true; the input reads as it did. -/
def windowBoundUptoRow : OpenClaim := { program := "ytphakfggocdphaa", sum := "967374ac964e40fd16ac6dff711d9beec82e43db3a4dab24b557168b00fb9489", func := "choragus/choraguslaw11.WindowBound", spec := "windowBound", apart := false, narrowed := true }
def WindowBoundUptoSaid : Prop := windowBoundUptoRow.holds Try.pinned (OpenSpec.upto windowBoundSpec)

/-- 'choraguslaw11.WindowNil', WHERE WHAT IT READS IS OF BULK AT MOST 1048576: true; the input reads as it did. -/
def windowNilUptoRow : OpenClaim := { program := "ytphakfggocdphaa", sum := "967374ac964e40fd16ac6dff711d9beec82e43db3a4dab24b557168b00fb9489", func := "choragus/choraguslaw11.WindowNil", spec := "windowNil", apart := false, narrowed := true }
def WindowNilUptoSaid : Prop := windowNilUptoRow.holds Try.pinned (OpenSpec.upto windowNilSpec)

/-- 'choraguslaw11.WindowCounts', WHERE WHAT IT READS IS OF BULK AT MOST 1048576: true; the input reads as it did. -/
def windowCountsUptoRow : OpenClaim := { program := "ytphakfggocdphaa", sum := "967374ac964e40fd16ac6dff711d9beec82e43db3a4dab24b557168b00fb9489", func := "choragus/choraguslaw11.WindowCounts", spec := "windowCounts", apart := false, narrowed := true }
def WindowCountsUptoSaid : Prop := windowCountsUptoRow.holds Try.pinned (OpenSpec.upto windowCountsSpec)

end Rows
end Go.Proofs.Ytphakfggocdphaa
