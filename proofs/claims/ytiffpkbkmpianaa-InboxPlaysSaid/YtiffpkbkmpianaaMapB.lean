/-
  MAPS WHOSE ELEMENTS ARE SLICES OF BYTES THAT ARE OWNED.
-/
import Derived.Test.YtiffpkbkmpianaaBytes
import Derived.Test.YtiffpkbkmpianaaMap
namespace Go.Proofs.Ytiffpkbkmpianaa.X
open Go Go.RowKit
set_option linter.unusedVariables false
set_option linter.unusedSectionVars false
section
variable {κ : Type} [DecidableEq κ]
/-- entries: key, value, bytes -/
def EE (e : List (κ × Value × List UInt8)) : HP := EachB (e.map (·.2.1)) (e.map (·.2.2))
theorem EE.get {k : κ} : ∀ {e : List (κ × Value × List UInt8)} {v : Value} {b : List UInt8} {L : List HP} {h : PH}, mget k e = some (v, b) → SatH (EE e :: L) h → SatH (BR v b :: EE (mdel k e) :: L) h
  | [], _, _, _, _, h, _ => by cases h
  | (a, v1, b1) :: e, v, b, L, h, hg, hs => by
    have hs1 : SatH (BR v1 b1 :: EE e :: L) h := SatH.flat (Ls := [BR v1 b1, EE e]) hs
    simp only [mget] at hg
    simp only [mdel]
    split at hg
    · rename_i he
      cases hg
      rw [if_pos he]
      exact hs1
    · rename_i hne
      rw [if_neg hne]
      have hs2 : SatH (BR v1 b1 :: BR v b :: EE (mdel k e) :: L) h := SatH.cons_mono (fun h hh => EE.get hg hh) hs1
      have hs3 := hs2.swap
      refine SatH.cons_mono (fun h hh => ?_) hs3
      exact SatH.unflat (Ls := [BR v1 b1, EE (mdel k e)]) hh
theorem Sat.eeGet {k : κ} {w0 w : World} {e : List (κ × Value × List UInt8)} {v : Value} {b : List UInt8} {L : List HP} (hs : Sat w0 w (EE e :: L)) (hg : mget k e = some (v, b)) : Sat w0 w (BR v b :: EE (mdel k e) :: L) := hs.map fun _ h => EE.get hg h
theorem Sat.eeSnoc {k : κ} {w0 w : World} {e : List (κ × Value × List UInt8)} {v : Value} {b : List UInt8} {L : List HP} (hs : Sat w0 w (EE e :: BR v b :: L)) : Sat w0 w (EE (e ++ [(k, v, b)]) :: L) := by
  have := Sat.eachSnoc hs
  unfold EE
  rw [List.map_append, List.map_append]
  exact this
theorem Sat.eeRB {k : κ} {w0 w : World} {e : List (κ × Value × List UInt8)} {v : Value} {b : List UInt8} {L : List HP} (hs : Sat w0 w (EE e :: L)) (hg : mget k e = some (v, b)) : RB w v b := (hs.eeGet hg).br
/-- a map of bytes: keys and bytes told -/
def MB (enc : κ → Value) (M : Nat) (m : List (κ × List UInt8)) : HP := fun h => ∃ e : List (κ × Value × List UInt8), (e.map (fun p => (p.1, p.2.2)) = m) ∧ SatH [MapR enc M (e.map fun p => (p.1, p.2.1)), EE e] h
theorem Sat.mb {enc : κ → Value} {w0 w : World} {M : Nat} {m : List (κ × List UInt8)} {L : List HP} (hs : Sat w0 w (MB enc M m :: L)) :
    ∃ e : List (κ × Value × List UInt8), e.map (fun p => (p.1, p.2.2)) = m ∧ Sat w0 w (MapR enc M (e.map fun p => (p.1, p.2.1)) :: EE e :: L) := by
  obtain ⟨e, h⟩ := Sat.ex (F := fun e : List (κ × Value × List UInt8) => fun h => (e.map (fun p => (p.1, p.2.2)) = m) ∧ SatH [MapR enc M (e.map fun p => (p.1, p.2.1)), EE e] h) hs
  obtain ⟨h1, h2⟩ := h.and
  exact ⟨e, h1, h2.opn⟩
theorem Sat.mb' {enc : κ → Value} {w0 w : World} {M : Nat} {e : List (κ × Value × List UInt8)} {L : List HP} (hs : Sat w0 w (MapR enc M (e.map fun p => (p.1, p.2.1)) :: EE e :: L)) : Sat w0 w (MB enc M (e.map fun p => (p.1, p.2.2)) :: L) :=
  (Sat.shut (Ls := [MapR enc M (e.map fun p => (p.1, p.2.1)), EE e]) hs).head fun h hh => ⟨e, rfl, hh⟩
theorem Sat.mbNil {enc : κ → Value} {w0 w : World} {M : Nat} {L : List HP} (hs : Sat w0 w (MapR enc M ([] : List (κ × Value)) :: L)) : Sat w0 w (MB enc M [] :: L) :=
  Sat.mb' (e := []) ((EachB.nil hs).pull 1)
end
end Go.Proofs.Ytiffpkbkmpianaa.X
