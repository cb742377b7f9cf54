/-
  No cell of these rows narrows 'for every input' (looked for: loops, veiled, ifaces, maps, wideKeys, modest, calm, conditions, laid).
  DERIVED. THE GIVEN ROWS OF THIS SEAT. 4 by the template 'for every input the law returns true; each argument reads behind the call as it read before'; 0 by the template 'total and deterministic' (their statements: YtiffpkbkmpianaaTotals.lean).
  GIVEN WITH THE SEED: the statements are not yours to turn. If you find one false, say at which input.
  Laid BY PROGRAM, IN A SANDBOX (cutbox-rows.mjs): the forced cells as the released guide's own fill.sh prints them over the translation f4e905faac39de01… (all of the seat's roots in one cut). By AI agents, Wed Nov 11 2026. No macro, syntax, notation, axiom, sorry.
-/
import Derived.Test.YtiffpkbkmpianaaChecked
import GoSem.Claim
import GoSem.ClaimJoined
import GoSem.ClaimMapViews
import Derived.JoinedTies
import Derived.KernelRfl
namespace Go.Proofs.Ytiffpkbkmpianaa
/- THE CELL 'sum', in the pinned program and in every row, IS THE sha256 OF THE DUMP (.gsa) THAT YtiffpkbkmpianaaProg.lean LOADS. Nothing in Lean hashes anything: it is a label: what it is worth is what the hold of that sum in a sandbox is worth. -/
noncomputable def Try.pinned : Pinned := { name := "ytiffpkbkmpianaa", sum := "f4e905faac39de01b902951f4be170e29763eadbcaadc4f62cc3149167210a9b", checked := Try.checked }
namespace Rows
def none {H : Type} : Left H := { results := [], args := [] }

/-- 'choraguslaw23.InboxTurns': WHATEVER THE INPUT: true; the input reads as it did. -/
def inboxTurnsSpec : ChangeSpec := { name := "inboxTurns", fn := fun _ => fun
  | [d1, d2, d3] => { results := [.lit (.bool true)], args := [d1, d2, d3] }
  | _ => none }
def inboxTurnsRow : OpenClaim := { program := "ytiffpkbkmpianaa", sum := "f4e905faac39de01b902951f4be170e29763eadbcaadc4f62cc3149167210a9b", func := "choragus/choraguslaw23.InboxTurns", spec := "inboxTurns", plainKeys := false, apart := false }
def InboxTurnsSaid : Prop := inboxTurnsRow.holds Try.pinned (OpenSpec.ofChange inboxTurnsSpec)

/-- ITS FALSE NEIGHBOUR: 'it returns false'. Refute it at one input. -/
def inboxTurnsWrong : ChangeSpec := { name := "inboxTurns", fn := fun _ => fun
  | [d1, d2, d3] => { results := [.lit (.bool false)], args := [d1, d2, d3] }
  | _ => none }
def InboxTurnsWrongFalsely : Prop := inboxTurnsRow.holds Try.pinned (OpenSpec.ofChange inboxTurnsWrong)

/-- 'choraguslaw23.InboxBound': WHATEVER THE INPUT: true; the input reads as it did. -/
def inboxBoundSpec : ChangeSpec := { name := "inboxBound", fn := fun _ => fun
  | [d1, d2] => { results := [.lit (.bool true)], args := [d1, d2] }
  | _ => none }
def inboxBoundRow : OpenClaim := { program := "ytiffpkbkmpianaa", sum := "f4e905faac39de01b902951f4be170e29763eadbcaadc4f62cc3149167210a9b", func := "choragus/choraguslaw23.InboxBound", spec := "inboxBound", plainKeys := false, apart := false }
def InboxBoundSaid : Prop := inboxBoundRow.holds Try.pinned (OpenSpec.ofChange inboxBoundSpec)

/-- ITS FALSE NEIGHBOUR: 'it returns false'. Refute it at one input. -/
def inboxBoundWrong : ChangeSpec := { name := "inboxBound", fn := fun _ => fun
  | [d1, d2] => { results := [.lit (.bool false)], args := [d1, d2] }
  | _ => none }
def InboxBoundWrongFalsely : Prop := inboxBoundRow.holds Try.pinned (OpenSpec.ofChange inboxBoundWrong)

/-- 'choraguslaw23.InboxPlays': WHATEVER THE INPUT: true; the input reads as it did. -/
def inboxPlaysSpec : ChangeSpec := { name := "inboxPlays", fn := fun _ => fun
  | [d1, d2] => { results := [.lit (.bool true)], args := [d1, d2] }
  | _ => none }
def inboxPlaysRow : OpenClaim := { program := "ytiffpkbkmpianaa", sum := "f4e905faac39de01b902951f4be170e29763eadbcaadc4f62cc3149167210a9b", func := "choragus/choraguslaw23.InboxPlays", spec := "inboxPlays", plainKeys := false, apart := false }
def InboxPlaysSaid : Prop := inboxPlaysRow.holds Try.pinned (OpenSpec.ofChange inboxPlaysSpec)

/-- ITS FALSE NEIGHBOUR: 'it returns false'. Refute it at one input. -/
def inboxPlaysWrong : ChangeSpec := { name := "inboxPlays", fn := fun _ => fun
  | [d1, d2] => { results := [.lit (.bool false)], args := [d1, d2] }
  | _ => none }
def InboxPlaysWrongFalsely : Prop := inboxPlaysRow.holds Try.pinned (OpenSpec.ofChange inboxPlaysWrong)

/-- 'choraguslaw23.InboxNil': WHATEVER THE INPUT: true; the input reads as it did. -/
def inboxNilSpec : ChangeSpec := { name := "inboxNil", fn := fun _ => fun
  | [d1, d2, d3] => { results := [.lit (.bool true)], args := [d1, d2, d3] }
  | _ => none }
def inboxNilRow : OpenClaim := { program := "ytiffpkbkmpianaa", sum := "f4e905faac39de01b902951f4be170e29763eadbcaadc4f62cc3149167210a9b", func := "choragus/choraguslaw23.InboxNil", spec := "inboxNil", plainKeys := false, apart := false }
def InboxNilSaid : Prop := inboxNilRow.holds Try.pinned (OpenSpec.ofChange inboxNilSpec)

/-- ITS FALSE NEIGHBOUR: 'it returns false'. Refute it at one input. -/
def inboxNilWrong : ChangeSpec := { name := "inboxNil", fn := fun _ => fun
  | [d1, d2, d3] => { results := [.lit (.bool false)], args := [d1, d2, d3] }
  | _ => none }
def InboxNilWrongFalsely : Prop := inboxNilRow.holds Try.pinned (OpenSpec.ofChange inboxNilWrong)

/- THE SECOND FORM. 'bulk': how many values and letters a reading holds, each counted each time it is reached (what is shared counts as often as it is met; a slice's spare places count too). A statement '..UptoSaid' is the law's where the arguments, and the package variables that the reading takes, are together of bulk at most 1048576: NARROWER than '..Said'. Prove '..Said' where nothing that the law and all that it calls make is longer than what came in: it says more and counts as full. Else prove '..UptoSaid'. A law counts once. -/
mutual
def uptoBulk {H : Type} : DataW H → Nat
  | .lit (.string bytes) => bytes.length + 1
  | .lit _ => 1
  | .nil => 1
  | .ptr d => uptoBulk d + 1
  | .slice elems spare => uptoBulkAll elems + uptoBulkAll spare + 1
  | .agg parts => uptoBulkAll parts + 1
  | .iface _ d => uptoBulk d + 1
  | .map entries => uptoBulkEntries entries + 1
  | .held _ => 1
def uptoBulkAll {H : Type} : List (DataW H) → Nat
  | [] => 0
  | d :: r => uptoBulk d + uptoBulkAll r
def uptoBulkEntries {H : Type} : List (Lit × DataW H) → Nat
  | [] => 0
  | x :: r => uptoBulkEntry x + uptoBulkEntries r
def uptoBulkEntry {H : Type} : Lit × DataW H → Nat
  | (.string bytes, d) => bytes.length + uptoBulk d + 1
  | (_, d) => uptoBulk d + 1
 end
def uptoSmall : (H : Type) → List (DataW H) → Bool := fun _ ds => decide (uptoBulkAll ds ≤ 1048576)
def OpenSpec.upto (s : _root_.Go.ChangeSpec) : _root_.Go.OpenSpec := { _root_.Go.OpenSpec.ofChange s with cond := some uptoSmall }

/-- 'choraguslaw23.InboxTurns', WHERE WHAT IT READS IS OF BULK AT MOST 1048576: true; the input reads as it did. -/
def inboxTurnsUptoRow : OpenClaim := { program := "ytiffpkbkmpianaa", sum := "f4e905faac39de01b902951f4be170e29763eadbcaadc4f62cc3149167210a9b", func := "choragus/choraguslaw23.InboxTurns", spec := "inboxTurns", plainKeys := false, apart := false, narrowed := true }
def InboxTurnsUptoSaid : Prop := inboxTurnsUptoRow.holds Try.pinned (OpenSpec.upto inboxTurnsSpec)

/-- 'choraguslaw23.InboxBound', WHERE WHAT IT READS IS OF BULK AT MOST 1048576: true; the input reads as it did. -/
def inboxBoundUptoRow : OpenClaim := { program := "ytiffpkbkmpianaa", sum := "f4e905faac39de01b902951f4be170e29763eadbcaadc4f62cc3149167210a9b", func := "choragus/choraguslaw23.InboxBound", spec := "inboxBound", plainKeys := false, apart := false, narrowed := true }
def InboxBoundUptoSaid : Prop := inboxBoundUptoRow.holds Try.pinned (OpenSpec.upto inboxBoundSpec)

/-- 'choraguslaw23.InboxPlays', WHERE WHAT IT READS IS OF BULK AT MOST 1048576: true; the input reads as it did. -/
def inboxPlaysUptoRow : OpenClaim := { program := "ytiffpkbkmpianaa", sum := "f4e905faac39de01b902951f4be170e29763eadbcaadc4f62cc3149167210a9b", func := "choragus/choraguslaw23.InboxPlays", spec := "inboxPlays", plainKeys := false, apart := false, narrowed := true }
def InboxPlaysUptoSaid : Prop := inboxPlaysUptoRow.holds Try.pinned (OpenSpec.upto inboxPlaysSpec)

/-- 'choraguslaw23.InboxNil', WHERE WHAT IT READS IS OF BULK AT MOST 1048576: true; the input reads as it did. -/
def inboxNilUptoRow : OpenClaim := { program := "ytiffpkbkmpianaa", sum := "f4e905faac39de01b902951f4be170e29763eadbcaadc4f62cc3149167210a9b", func := "choragus/choraguslaw23.InboxNil", spec := "inboxNil", plainKeys := false, apart := false, narrowed := true }
def InboxNilUptoSaid : Prop := inboxNilUptoRow.holds Try.pinned (OpenSpec.upto inboxNilSpec)

end Rows
end Go.Proofs.Ytiffpkbkmpianaa
