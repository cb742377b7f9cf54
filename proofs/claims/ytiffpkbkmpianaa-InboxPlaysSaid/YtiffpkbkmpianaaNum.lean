/-
  WHOLE NUMBERS, MORE: differences of naturals, the lesser, the greater.
-/
import Derived.Test.YtiffpkbkmpianaaDat
namespace Go.Proofs.Ytiffpkbkmpianaa.X
open Go Go.RowKit
set_option linter.unusedVariables false
section
variable {P : Program} {n : Nat} {ops : Array Oper} {S : World → Prop} {K : Env → World → Prop} {rest : List (Oper × Nat × Bool)} {ρ : Env} {w : World}
variable {d : Nat} {ty : TypeId} {pos : String} {af : Array Edge} {held : Nat} {need : Bool} {xt yt : TypeId} {x y : Operand} {k k' : IntKind} {ats : Array TypeId}
theorem lo_le (k : IntKind) : lo k ≤ 0 := by cases k <;> simp [lo]
theorem x_subN (a b : Nat) (hx : ev ρ x = .int k (a : Nat)) (hy : ev ρ y = .int k (b : Nat)) (h1 : b ≤ a) (h2 : (a : Int) ≤ hi k) (h : RX P n ops S K rest (upd n ρ d (.int k ((a - b : Nat) : Int))) w) (hn : (Nat.blt held 3 && (Nat.blt 0 held || !need)) = true := by rfl) :
    RX P n ops S K ((⟨some d, .binOp .sub xt x y yt, ty, pos, af, none⟩, held, need) :: rest) ρ w := by
  refine x_sub a b hx hy ?_ ?_ ?_ hn
  · have := lo_le k; omega
  · omega
  · rw [show ((a : Int) - (b : Int)) = ((a - b : Nat) : Int) from by omega]; exact h
theorem x_max (a b r : Int) (hx : ev ρ x = .int k a) (hy : ev ρ y = .int k' b) (hr : r = if b > a then b else a) (h : RX P n ops S K rest (upd n ρ d (.int k r)) w) (hn : (Nat.blt held 3 && (Nat.blt 0 held || !need)) = true := by rfl) :
    RX P n ops S K ((⟨some d, .call { callee := .builtin .max, args := #[x, y], argTypes := ats }, ty, pos, af, none⟩, held, need) :: rest) ρ w :=
  x_pure rfl hn (fun w => by
    subst hr
    simp [execOp, resolve, invoke, builtin, hx, hy, Builtin.max_, Builtin.max2]) h
theorem x_min (a b r : Int) (hx : ev ρ x = .int k a) (hy : ev ρ y = .int k' b) (hr : r = if b < a then b else a) (h : RX P n ops S K rest (upd n ρ d (.int k r)) w) (hn : (Nat.blt held 3 && (Nat.blt 0 held || !need)) = true := by rfl) :
    RX P n ops S K ((⟨some d, .call { callee := .builtin .min, args := #[x, y], argTypes := ats }, ty, pos, af, none⟩, held, need) :: rest) ρ w :=
  x_pure rfl hn (fun w => by
    subst hr
    simp [execOp, resolve, invoke, builtin, hx, hy, Builtin.min_, Builtin.min2]) h
end
end Go.Proofs.Ytiffpkbkmpianaa.X
