/-
  VIEWS: as arguments, as copies that are owned; lists of owned slices of processes.
-/
import Derived.Test.YtiffpkbkmpianaaPcl
namespace Go.Proofs.Ytiffpkbkmpianaa.X
open Go Go.RowKit
set_option linter.unusedVariables false
set_option maxRecDepth 20000
structure View where
  Id : Nat
  Members : Value × List (Pid)
  Leaves : Value × List (Value × List (Pid))
  Leaders : Value × List (Pid)
def View.cells (x : View) : List Value := [.int .u64 (x.Id : Nat), x.Members.1, x.Leaves.1, x.Leaders.1]
structure View.fine (x : View) (w : World) : Prop where
  Id : x.Id ≤ 18446744073709551615
  Members : RS w 2 (fun a : Pid => a.cells) x.Members.1 x.Members.2 ∧ x.Members.2.length ≤ maxLen ∧ ∀ a ∈ x.Members.2, a.fine w
  Leaves : RS w 1 (fun a : Value × List (Pid) => [a.1]) x.Leaves.1 x.Leaves.2 ∧ x.Leaves.2.length ≤ maxLen ∧ ∀ a ∈ x.Leaves.2, RS w 2 (fun a : Pid => a.cells) a.1 a.2 ∧ a.2.length ≤ maxLen ∧ ∀ aa ∈ a.2, aa.fine w
  Leaders : RS w 2 (fun a : Pid => a.cells) x.Leaders.1 x.Leaders.2 ∧ x.Leaders.2.length ≤ maxLen ∧ ∀ a ∈ x.Leaders.2, a.fine w
theorem View.cells_len (x : View) : x.cells.length = 4 := by first | rfl | (simp [View.cells])
theorem View.fine.below {x : View} {w w' : World} (h : x.fine w) (hb : Below w.heap.size w w') : x.fine w' := ⟨h.Id, ⟨RD.below h.Members.1 hb, h.Members.2.1, fun a ha => (h.Members.2.2 a ha).below hb⟩, ⟨RD.below h.Leaves.1 hb, h.Leaves.2.1, fun a ha => ⟨RD.below (h.Leaves.2.2 a ha).1 hb, (h.Leaves.2.2 a ha).2.1, fun aa haa => ((h.Leaves.2.2 a ha).2.2 aa haa).below hb⟩⟩, ⟨RD.below h.Leaders.1 hb, h.Leaders.2.1, fun a ha => (h.Leaders.2.2 a ha).below hb⟩⟩
set_option maxRecDepth 20000 in
theorem TR.View {H : Type} {enc : TypeId × Value → H} {w : World} {cs : List Value} (h : TR enc Try.prog w 26 cs) : ∃ x : View, cs = x.cells ∧ x.fine w := by
  obtain ⟨h1, h2⟩ := h.struct Try.underlying26
  rw [show Try.prog.cellsOf 26 = 4 from by kernel_rfl] at h1
  match cs, h1 with
  | [y0, y1, y2, y3], _ =>
    have g0 := h2 0 _ rfl
    change TR enc Try.prog w 22 (([y0, y1, y2, y3].drop 0).take (Try.prog.cellsOf 22)) at g0
    rw [show Try.prog.cellsOf 22 = 1 from by kernel_rfl] at g0
    change TR enc Try.prog w 22 [y0] at g0
    obtain ⟨x0, e0, hx0⟩ := TR.nat1 Try.underlying22 rfl g0
    have g1 := h2 1 _ rfl
    change TR enc Try.prog w 23 (([y0, y1, y2, y3].drop 1).take (Try.prog.cellsOf 23)) at g1
    rw [show Try.prog.cellsOf 23 = 1 from by kernel_rfl] at g1
    change TR enc Try.prog w 23 [y1] at g1
    obtain ⟨x1, e1, hx1⟩ := TR.slice1 (k := 2) Try.underlying23 (by kernel_rfl) (by decide) (fun r hr => TR.Pid hr) g1
    have g2 := h2 2 _ rfl
    change TR enc Try.prog w 24 (([y0, y1, y2, y3].drop 2).take (Try.prog.cellsOf 24)) at g2
    rw [show Try.prog.cellsOf 24 = 1 from by kernel_rfl] at g2
    change TR enc Try.prog w 24 [y2] at g2
    obtain ⟨x2, e2, hx2⟩ := TR.slice1 (k := 1) Try.underlying24 (by kernel_rfl) (by decide) (fun r hr => TR.slice1 (k := 2) Try.underlying23 (by kernel_rfl) (by decide) (fun r hr => TR.Pid hr) hr) g2
    have g3 := h2 3 _ rfl
    change TR enc Try.prog w 23 (([y0, y1, y2, y3].drop 3).take (Try.prog.cellsOf 23)) at g3
    rw [show Try.prog.cellsOf 23 = 1 from by kernel_rfl] at g3
    change TR enc Try.prog w 23 [y3] at g3
    obtain ⟨x3, e3, hx3⟩ := TR.slice1 (k := 2) Try.underlying23 (by kernel_rfl) (by decide) (fun r hr => TR.Pid hr) g3
    refine ⟨⟨x0, x1, x2, x3⟩, ?_, ⟨hx0, hx1, hx2, hx3⟩⟩
    show [y0, y1, y2, y3] = _
    rw [show [y0, y1, y2, y3] = [y0] ++ [y1] ++ [y2] ++ [y3] from rfl, e0, e1, e2, e3]
    rfl
abbrev penc : Pid → Value := fun p => .agg #[.int .u16 (p.Id : Nat), .int .u32 (p.Inc : Nat)]
theorem pcells_one {l : List Pid} : ∀ u ∈ pcells l, u.oneCell' = true := fun u hu => by
  unfold pcells at hu
  obtain ⟨r, hr, hu⟩ := List.mem_flatten.1 hu
  obtain ⟨p, _, rfl⟩ := List.mem_map.1 hr
  simp [Pid.cells] at hu
  rcases hu with rfl | rfl <;> rfl
theorem pcells_snoc (l : List Pid) (p : Pid) : pcells (l ++ [p]) = pcells l ++ [.int .u16 (p.Id : Nat), .int .u32 (p.Inc : Nat)] := by simp [pcells, Pid.cells]
/-- an owned slice of processes -/
def PR (v : Value) (l : List Pid) : HP := Row 35 2 v l.length (pcells l)
theorem Sat.prs {w0 w : World} {v : Value} {l : List Pid} {L : List HP} (hs : Sat w0 w (PR v l :: L)) : RS w 2 Pid.cells v l := hs.rd
/-- owned slices of processes, one by one -/
def EP : List (Value × List Pid) → HP
  | [] => fun _ => True
  | x :: xs => SatH [PR x.1 x.2, EP xs]
theorem EP.snoc : ∀ {xs : List (Value × List Pid)} {x : Value × List Pid} {L : List HP} {h : PH}, SatH (EP xs :: PR x.1 x.2 :: L) h → SatH (EP (xs ++ [x]) :: L) h
  | [], x, L, h, hs => by
    show SatH (SatH [PR x.1 x.2, EP []] :: L) h
    refine SatH.unflat ?_
    exact SatH.swap hs
  | y :: xs, x, L, h, hs => by
    show SatH (SatH [PR y.1 y.2, EP (xs ++ [x])] :: L) h
    refine SatH.unflat ?_
    have h1 : SatH (PR y.1 y.2 :: EP xs :: PR x.1 x.2 :: L) h := SatH.flat (Ls := [PR y.1 y.2, EP xs]) hs
    exact SatH.cons_mono (fun h hh => EP.snoc hh) h1
theorem Sat.epSnoc {w0 w : World} {xs : List (Value × List Pid)} {v : Value} {l : List Pid} {L : List HP} (hs : Sat w0 w (EP xs :: PR v l :: L)) : Sat w0 w (EP (xs ++ [(v, l)]) :: L) := hs.map fun _ h => EP.snoc (x := (v, l)) h
theorem Sat.epNil {w0 w : World} {L : List HP} (hs : Sat w0 w L) : Sat w0 w (EP [] :: L) := hs.add (by unfold EP; trivial)
theorem Sat.epRS : ∀ {xs : List (Value × List Pid)} {w0 w : World} {L : List HP} {x : Value × List Pid}, Sat w0 w (EP xs :: L) → x ∈ xs → RS w 2 Pid.cells x.1 x.2
  | [], _, _, _, _, _, h => by cases h
  | y :: xs, w0, w, L, x, hs, h => by
    have h1 : Sat w0 w (PR y.1 y.2 :: EP xs :: L) := hs.opn (Ls := [PR y.1 y.2, EP xs])
    rcases List.mem_cons.1 h with rfl | h
    · exact h1.prs
    · exact h1.tail.epRS h
abbrev lc : Value × List Pid → List Value := fun a => [a.1]
theorem lc_flat (xs : List (Value × List Pid)) : (xs.map lc).flatten = xs.map (·.1) := flatten_single (fun a : Value × List Pid => a.1) xs
/-- a slice of such slices, all owned -/
def LL (v : Value) (xs : List (Value × List Pid)) : HP := SatH [Row 23 1 v xs.length ((xs.map lc).flatten), EP xs]
theorem Sat.ll {w0 w : World} {v : Value} {xs : List (Value × List Pid)} {L : List HP} (hs : Sat w0 w (LL v xs :: L)) : Sat w0 w (Row 23 1 v xs.length ((xs.map lc).flatten) :: EP xs :: L) := hs.opn (Ls := [Row 23 1 v xs.length ((xs.map lc).flatten), EP xs])
theorem Sat.ll' {w0 w : World} {v : Value} {xs : List (Value × List Pid)} {L : List HP} (hs : Sat w0 w (Row 23 1 v xs.length ((xs.map lc).flatten) :: EP xs :: L)) : Sat w0 w (LL v xs :: L) := Sat.shut (Ls := [Row 23 1 v xs.length ((xs.map lc).flatten), EP xs]) hs
/-- a list of lists, as it is read -/
def RLL (w : World) (v : Value) (xs : List (Value × List Pid)) : Prop := RS w 1 lc v xs ∧ ∀ x ∈ xs, RS w 2 Pid.cells x.1 x.2
theorem Sat.rll {w0 w : World} {v : Value} {xs : List (Value × List Pid)} {L : List HP} (hs : Sat w0 w (LL v xs :: L)) : RLL w v xs :=
  ⟨hs.ll.rd, fun x hx => hs.ll.tail.epRS hx⟩
theorem RLL.val {w : World} {v : Value} {xs : List (Value × List Pid)} (h : RLL w v xs) : ∃ ao c, v = .slice ao xs.length c := h.1.val
theorem RLL.at {w : World} {ao : Option Addr} {c : Nat} {xs : List (Value × List Pid)} (h : RLL w (.slice ao xs.length c) xs) {i : Nat} {x : Value × List Pid} (hi : xs[i]? = some x) :
    ∃ a' c', x.1 = .slice a' x.2.length c' ∧ RS w 2 Pid.cells (.slice a' x.2.length c') x.2 := by
  have h1 := h.2 x (List.mem_of_getElem? hi)
  obtain ⟨a', c', e⟩ := h1.val
  exact ⟨a', c', e, e ▸ h1⟩
theorem RLL.cell {w : World} {g o c : Nat} {xs : List (Value × List Pid)} (h : RLL w (.slice (some ⟨g, o, none⟩) xs.length c) xs) {i : Nat} {x : Value × List Pid} (hi : xs[i]? = some x) : w.cell? ⟨g, o + i * 1, none⟩ = some x.1 :=
  h.1.cell (fun a => rfl) hi (q := 0) rfl
/-- what a view is, as far as it is read, and small -/
structure VF (w : World) (x : View) : Prop where
  m : RS w 2 Pid.cells x.Members.1 x.Members.2
  l : RLL w x.Leaves.1 x.Leaves.2
  d : RS w 2 Pid.cells x.Leaders.1 x.Leaders.2
theorem View.fine.vf {w : World} {x : View} (h : x.fine w) : VF w x := ⟨h.Members.1, ⟨h.Leaves.1, fun a ha => (h.Leaves.2.2 a ha).1⟩, h.Leaders.1⟩
structure VLen (x : View) : Prop where
  m : x.Members.2.length ≤ 9223372036854775807
  l : x.Leaves.2.length ≤ 9223372036854775807
  d : x.Leaders.2.length ≤ 9223372036854775807
  ls : ∀ a ∈ x.Leaves.2, a.2.length ≤ 9223372036854775807
theorem View.fine.len {w : World} {x : View} (h : x.fine w) : VLen x := ⟨h.Members.2.1, h.Leaves.2.1, h.Leaders.2.1, fun a ha => (h.Leaves.2.2 a ha).2.1⟩
structure VSmall (x : View) : Prop where
  m : x.Members.2.length ≤ 40
  l : x.Leaves.2.length ≤ 40
  d : x.Leaders.2.length ≤ 40
  ls : ∀ a ∈ x.Leaves.2, a.2.length ≤ 40
end Go.Proofs.Ytiffpkbkmpianaa.X
