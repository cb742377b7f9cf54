/-
  No cell of these rows narrows 'for every input' (looked for: loops, veiled, ifaces, maps, wideKeys, modest, calm, conditions, laid).
  DERIVED. THE GIVEN ROWS OF THIS SEAT. 3 by the template 'for every input the law returns true; each argument reads behind the call as it read before'; 0 by the template 'total and deterministic' (their statements: YthhojdbklnoooaaTotals.lean).
  GIVEN WITH THE SEED: the statements are not yours to turn. If you find one false, say at which input.
  Laid BY PROGRAM, IN A SANDBOX (cutbox-rows.mjs): the forced cells as the released guide's own fill.sh prints them over the translation 6aa4282e1e17b2ba… (all of the seat's roots in one cut). By AI agents, Wed Nov 11 2026. No macro, syntax, notation, axiom, sorry.
-/
import Derived.Test.YthhojdbklnoooaaChecked
import GoSem.Claim
import GoSem.ClaimJoined
import GoSem.ClaimMapViews
import Derived.JoinedTies
import Derived.KernelRfl
namespace Go.Proofs.Ythhojdbklnoooaa
/- THE CELL 'sum', in the pinned program and in every row, IS THE sha256 OF THE DUMP (.gsa) THAT YthhojdbklnoooaaProg.lean LOADS. Nothing in Lean hashes anything: it is a label: what it is worth is what the hold of that sum in a sandbox is worth. -/
noncomputable def Try.pinned : Pinned := { name := "ythhojdbklnoooaa", sum := "6aa4282e1e17b2ba542b6852437dc9022db4331d4b63cff9f3b63c1174ad3d56", checked := Try.checked }
namespace Rows
def none {H : Type} : Left H := { results := [], args := [] }

/-- 'choraguslaw24.FlushAll': WHATEVER THE INPUT: true; the input reads as it did. -/
def flushAllSpec : ChangeSpec := { name := "flushAll", fn := fun _ => fun
  | [d1, d2, d3] => { results := [.lit (.bool true)], args := [d1, d2, d3] }
  | _ => none }
def flushAllRow : OpenClaim := { program := "ythhojdbklnoooaa", sum := "6aa4282e1e17b2ba542b6852437dc9022db4331d4b63cff9f3b63c1174ad3d56", func := "choragus/choraguslaw24.FlushAll", spec := "flushAll", plainKeys := false, apart := false }
def FlushAllSaid : Prop := flushAllRow.holds Try.pinned (OpenSpec.ofChange flushAllSpec)

/-- ITS FALSE NEIGHBOUR: 'it returns false'. Refute it at one input. -/
def flushAllWrong : ChangeSpec := { name := "flushAll", fn := fun _ => fun
  | [d1, d2, d3] => { results := [.lit (.bool false)], args := [d1, d2, d3] }
  | _ => none }
def FlushAllWrongFalsely : Prop := flushAllRow.holds Try.pinned (OpenSpec.ofChange flushAllWrong)

/-- 'choraguslaw24.FlushPlays': WHATEVER THE INPUT: true; the input reads as it did. -/
def flushPlaysSpec : ChangeSpec := { name := "flushPlays", fn := fun _ => fun
  | [d1, d2, d3, d4] => { results := [.lit (.bool true)], args := [d1, d2, d3, d4] }
  | _ => none }
def flushPlaysRow : OpenClaim := { program := "ythhojdbklnoooaa", sum := "6aa4282e1e17b2ba542b6852437dc9022db4331d4b63cff9f3b63c1174ad3d56", func := "choragus/choraguslaw24.FlushPlays", spec := "flushPlays", plainKeys := false, apart := false }
def FlushPlaysSaid : Prop := flushPlaysRow.holds Try.pinned (OpenSpec.ofChange flushPlaysSpec)

/-- ITS FALSE NEIGHBOUR: 'it returns false'. Refute it at one input. -/
def flushPlaysWrong : ChangeSpec := { name := "flushPlays", fn := fun _ => fun
  | [d1, d2, d3, d4] => { results := [.lit (.bool false)], args := [d1, d2, d3, d4] }
  | _ => none }
def FlushPlaysWrongFalsely : Prop := flushPlaysRow.holds Try.pinned (OpenSpec.ofChange flushPlaysWrong)

/-- 'choraguslaw24.FlushNil': WHATEVER THE INPUT: true; the input reads as it did. -/
def flushNilSpec : ChangeSpec := { name := "flushNil", fn := fun _ => fun
  | [d1, d2] => { results := [.lit (.bool true)], args := [d1, d2] }
  | _ => none }
def flushNilRow : OpenClaim := { program := "ythhojdbklnoooaa", sum := "6aa4282e1e17b2ba542b6852437dc9022db4331d4b63cff9f3b63c1174ad3d56", func := "choragus/choraguslaw24.FlushNil", spec := "flushNil", plainKeys := false, apart := false }
def FlushNilSaid : Prop := flushNilRow.holds Try.pinned (OpenSpec.ofChange flushNilSpec)

/-- ITS FALSE NEIGHBOUR: 'it returns false'. Refute it at one input. -/
def flushNilWrong : ChangeSpec := { name := "flushNil", fn := fun _ => fun
  | [d1, d2] => { results := [.lit (.bool false)], args := [d1, d2] }
  | _ => none }
def FlushNilWrongFalsely : Prop := flushNilRow.holds Try.pinned (OpenSpec.ofChange flushNilWrong)

/- THE SECOND FORM. 'bulk': how many values and letters a reading holds, each counted each time it is reached (what is shared counts as often as it is met; a slice's spare places count too). A statement '..UptoSaid' is the law's where the arguments, and the package variables that the reading takes, are together of bulk at most 1048576: NARROWER than '..Said'. Prove '..Said' where nothing that the law and all that it calls make is longer than what came in: it says more and counts as full. Else prove '..UptoSaid'. A law counts once. -/
mutual
def uptoBulk {H : Type} : DataW H → Nat
  | .lit (.string bytes) => bytes.length + 1
  | .lit _ => 1
  | .nil => 1
  | .ptr d => uptoBulk d + 1
  | .slice elems spare => uptoBulkAll elems + uptoBulkAll spare + 1
  | .agg parts => uptoBulkAll parts + 1
  | .iface _ d => uptoBulk d + 1
  | .map entries => uptoBulkEntries entries + 1
  | .held _ => 1
def uptoBulkAll {H : Type} : List (DataW H) → Nat
  | [] => 0
  | d :: r => uptoBulk d + uptoBulkAll r
def uptoBulkEntries {H : Type} : List (Lit × DataW H) → Nat
  | [] => 0
  | x :: r => uptoBulkEntry x + uptoBulkEntries r
def uptoBulkEntry {H : Type} : Lit × DataW H → Nat
  | (.string bytes, d) => bytes.length + uptoBulk d + 1
  | (_, d) => uptoBulk d + 1
 end
def uptoSmall : (H : Type) → List (DataW H) → Bool := fun _ ds => decide (uptoBulkAll ds ≤ 1048576)
def OpenSpec.upto (s : _root_.Go.ChangeSpec) : _root_.Go.OpenSpec := { _root_.Go.OpenSpec.ofChange s with cond := some uptoSmall }

/-- 'choraguslaw24.FlushAll', WHERE WHAT IT READS IS OF BULK AT MOST 1048576: true; the input reads as it did. -/
def flushAllUptoRow : OpenClaim := { program := "ythhojdbklnoooaa", sum := "6aa4282e1e17b2ba542b6852437dc9022db4331d4b63cff9f3b63c1174ad3d56", func := "choragus/choraguslaw24.FlushAll", spec := "flushAll", plainKeys := false, apart := false, narrowed := true }
def FlushAllUptoSaid : Prop := flushAllUptoRow.holds Try.pinned (OpenSpec.upto flushAllSpec)

/-- 'choraguslaw24.FlushPlays', WHERE WHAT IT READS IS OF BULK AT MOST 1048576: true; the input reads as it did. -/
def flushPlaysUptoRow : OpenClaim := { program := "ythhojdbklnoooaa", sum := "6aa4282e1e17b2ba542b6852437dc9022db4331d4b63cff9f3b63c1174ad3d56", func := "choragus/choraguslaw24.FlushPlays", spec := "flushPlays", plainKeys := false, apart := false, narrowed := true }
def FlushPlaysUptoSaid : Prop := flushPlaysUptoRow.holds Try.pinned (OpenSpec.upto flushPlaysSpec)

/-- 'choraguslaw24.FlushNil', WHERE WHAT IT READS IS OF BULK AT MOST 1048576: true; the input reads as it did. -/
def flushNilUptoRow : OpenClaim := { program := "ythhojdbklnoooaa", sum := "6aa4282e1e17b2ba542b6852437dc9022db4331d4b63cff9f3b63c1174ad3d56", func := "choragus/choraguslaw24.FlushNil", spec := "flushNil", plainKeys := false, apart := false, narrowed := true }
def FlushNilUptoSaid : Prop := flushNilUptoRow.holds Try.pinned (OpenSpec.upto flushNilSpec)

end Rows
end Go.Proofs.Ythhojdbklnoooaa
