/-
  BOOLS THAT ARE COMPARED, the outcome known.
-/
import Derived.Test.YthhojdbklnoooaaMore
namespace Go.Proofs.Ythhojdbklnoooaa.X
open Go Go.RowKit
set_option linter.unusedVariables false
section
variable {P : Program} {n : Nat} {ops : Array Oper} {S : World → Prop} {K : Env → World → Prop} {rest : List (Oper × Nat × Bool)} {ρ : Env} {w : World}
variable {d : Nat} {ty : TypeId} {pos : String} {af : Array Edge} {held : Nat} {need : Bool} {xt yt : TypeId} {x y : Operand}
theorem x_neqBF (a b : Bool) (hu : P.underlying xt = some .bool) (hx : ev ρ x = .bool a) (hy : ev ρ y = .bool b) (hab : a = b) (h : RX P n ops S K rest (upd n ρ d (.bool false)) w) (hn : (Nat.blt held 3 && (Nat.blt 0 held || !need)) = true := by rfl) :
    RX P n ops S K ((⟨some d, .binOp .neq xt x y yt, ty, pos, af, none⟩, held, need) :: rest) ρ w :=
  x_neqB a b hu hx hy (by rw [show (!(a == b)) = false from by subst hab; simp]; exact h) hn
theorem x_neqBT (a b : Bool) (hu : P.underlying xt = some .bool) (hx : ev ρ x = .bool a) (hy : ev ρ y = .bool b) (hab : a ≠ b) (h : RX P n ops S K rest (upd n ρ d (.bool true)) w) (hn : (Nat.blt held 3 && (Nat.blt 0 held || !need)) = true := by rfl) :
    RX P n ops S K ((⟨some d, .binOp .neq xt x y yt, ty, pos, af, none⟩, held, need) :: rest) ρ w :=
  x_neqB a b hu hx hy (by rw [show (!(a == b)) = true from by simpa using hab]; exact h) hn
theorem x_eqlBT (a b : Bool) (hu : P.underlying xt = some .bool) (hx : ev ρ x = .bool a) (hy : ev ρ y = .bool b) (hab : a = b) (h : RX P n ops S K rest (upd n ρ d (.bool true)) w) (hn : (Nat.blt held 3 && (Nat.blt 0 held || !need)) = true := by rfl) :
    RX P n ops S K ((⟨some d, .binOp .eql xt x y yt, ty, pos, af, none⟩, held, need) :: rest) ρ w :=
  x_eqlB a b hu hx hy (by rw [show (a == b) = true from by subst hab; simp]; exact h) hn
theorem x_eqlBF (a b : Bool) (hu : P.underlying xt = some .bool) (hx : ev ρ x = .bool a) (hy : ev ρ y = .bool b) (hab : a ≠ b) (h : RX P n ops S K rest (upd n ρ d (.bool false)) w) (hn : (Nat.blt held 3 && (Nat.blt 0 held || !need)) = true := by rfl) :
    RX P n ops S K ((⟨some d, .binOp .eql xt x y yt, ty, pos, af, none⟩, held, need) :: rest) ρ w :=
  x_eqlB a b hu hx hy (by rw [show (a == b) = false from by simpa using hab]; exact h) hn
end
/-- the first ones -/
theorem Sat.left {w0 w : World} {Ls L : List HP} (hs : Sat w0 w (Ls ++ L)) : Sat w0 w Ls := hs.map fun h hh => let ⟨_, _, _, hA, _⟩ := SatH.unflat hh; hA.of_on
end Go.Proofs.Ythhojdbklnoooaa.X
