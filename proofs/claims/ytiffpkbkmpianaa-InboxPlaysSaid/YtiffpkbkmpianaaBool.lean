/-
  BOOLS THAT ARE COMPARED, the outcome known.
-/
import Derived.Test.YtiffpkbkmpianaaMore
namespace Go.Proofs.Ytiffpkbkmpianaa.X
open Go Go.RowKit
set_option linter.unusedVariables false
section
variable {P : Program} {n : Nat} {ops : Array Oper} {S : World → Prop} {K : Env → World → Prop} {rest : List (Oper × Nat × Bool)} {ρ : Env} {w : World}
variable {d : Nat} {ty : TypeId} {pos : String} {af : Array Edge} {held : Nat} {need : Bool} {xt yt : TypeId} {x y : Operand}
theorem x_neqBF (a b : Bool) (hu : P.underlying xt = some .bool) (hx : ev ρ x = .bool a) (hy : ev ρ y = .bool b) (hab : a = b) (h : RX P n ops S K rest (upd n ρ d (.bool false)) w) (hn : (Nat.blt held 3 && (Nat.blt 0 held || !need)) = true := by rfl) :
    RX P n ops S K ((⟨some d, .binOp .neq xt x y yt, ty, pos, af, none⟩, held, need) :: rest) ρ w :=
  x_neqB a b hu hx hy (by rw [show (!(a == b)) = false from by subst hab; simp]; exact h) hn
theorem x_neqBT (a b : Bool) (hu : P.underlying xt = some .bool) (hx : ev ρ x = .bool a) (hy : ev ρ y = .bool b) (hab : a ≠ b) (h : RX P n ops S K rest (upd n ρ d (.bool true)) w) (hn : (Nat.blt held 3 && (Nat.blt 0 held || !need)) = true := by rfl) :
    RX P n ops S K ((⟨some d, .binOp .neq xt x y yt, ty, pos, af, none⟩, held, need) :: rest) ρ w :=
  x_neqB a b hu hx hy (by rw [show (!(a == b)) = true from by simpa using hab]; exact h) hn
theorem x_eqlBT (a b : Bool) (hu : P.underlying xt = some .bool) (hx : ev ρ x = .bool a) (hy : ev ρ y = .bool b) (hab : a = b) (h : RX P n ops S K rest (upd n ρ d (.bool true)) w) (hn : (Nat.blt held 3 && (Nat.blt 0 held || !need)) = true := by rfl) :
    RX P n ops S K ((⟨some d, .binOp .eql xt x y yt, ty, pos, af, none⟩, held, need) :: rest) ρ w :=
  x_eqlB a b hu hx hy (by rw [show (a == b) = true from by subst hab; simp]; exact h) hn
theorem x_eqlBF (a b : Bool) (hu : P.underlying xt = some .bool) (hx : ev ρ x = .bool a) (hy : ev ρ y = .bool b) (hab : a ≠ b) (h : RX P n ops S K rest (upd n ρ d (.bool false)) w) (hn : (Nat.blt held 3 && (Nat.blt 0 held || !need)) = true := by rfl) :
    RX P n ops S K ((⟨some d, .binOp .eql xt x y yt, ty, pos, af, none⟩, held, need) :: rest) ρ w :=
  x_eqlB a b hu hx hy (by rw [show (a == b) = false from by simpa using hab]; exact h) hn
end
/-- the first ones -/
theorem Sat.left {w0 w : World} {Ls L : List HP} (hs : Sat w0 w (Ls ++ L)) : Sat w0 w Ls := hs.map fun h hh => let ⟨_, _, _, hA, _⟩ := SatH.unflat hh; hA.of_on
theorem SatH.dropL : ∀ {B X : List HP} {h : PH}, SatH (B ++ X) h → SatH X h
  | [], _, _, hs => hs
  | _ :: B, _, _, hs => SatH.dropL (B := B) hs.tail
/-- some of the first n, in a new order; the others of these are dropped -/
theorem Sat.sel (is : List Nat) (n : Nat) {w0 w : World} {L : List HP} (hs : Sat w0 w L) (h1 : (is ++ (List.range n).filter fun i => !is.contains i).isPerm (List.range n) = true := by rfl) (h2 : Nat.ble n L.length = true := by rfl) : Sat w0 w (is.map (fun i => L.getD i fun _ => True) ++ L.drop n) := by
  refine hs.map fun h hh => ?_
  have hp : (is ++ (List.range n).filter fun i => !is.contains i).Perm (List.range n) := List.isPerm_iff.1 h1
  have h4 := (hp.map (fun i => L.getD i fun _ => True)).symm
  rw [range_getD L _ (Nat.le_of_ble_eq_true h2)] at h4
  have h5 := h4.append_right (L.drop n)
  rw [List.take_append_drop, List.map_append] at h5
  have h6 := hh.of_perm h5
  have h7 : SatH ((((List.range n).filter fun i => !is.contains i).map (fun i => L.getD i fun _ => True)) ++ ((is.map fun i => L.getD i fun _ => True) ++ L.drop n)) h := by
    refine h6.of_perm ?_
    rw [← List.append_assoc]
    exact List.perm_append_comm.append_right _
  exact SatH.dropL h7
end Go.Proofs.Ytiffpkbkmpianaa.X
