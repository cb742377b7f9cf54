/-
  BYTES AS RESOURCES: what bytes.Clone makes; lists of such slices.
-/
import Derived.Test.YtiffpkbkmpianaaMore
import Derived.Test.YtiffpkbkmpianaaFacts
namespace Go.Proofs.Ytiffpkbkmpianaa
open Go Go.RowKit X
set_option linter.unusedVariables false
namespace X
/-- a slice of bytes that is owned -/
def BR (v : Value) (l : List UInt8) : HP := Row 5 1 v l.length (bv l)
theorem Sat.br {w0 w : World} {v : Value} {l : List UInt8} {L : List HP} (hs : Sat w0 w (BR v l :: L)) : RB w v l := hs.rd
/-- owned slices of bytes, one by one -/
def EachB : List Value → List (List UInt8) → HP
  | [], [] => fun _ => True
  | v :: vs, l :: ls => SatH [BR v l, EachB vs ls]
  | _, _ => fun _ => False
theorem EachB.nil {w0 w : World} {L : List HP} (hs : Sat w0 w L) : Sat w0 w (EachB [] [] :: L) := hs.add (by unfold EachB; trivial)
theorem EachB.len : ∀ {vs : List Value} {ls : List (List UInt8)} {h : PH}, EachB vs ls h → vs.length = ls.length
  | [], [], _, _ => rfl
  | _ :: vs, _ :: ls, _, ⟨_, _, _, _, _, _, _, h, _⟩ => by simp [EachB.len h]
  | [], _ :: _, _, h => h.elim
  | _ :: _, [], _, h => h.elim
theorem Sat.eachLen {w0 w : World} {vs : List Value} {ls : List (List UInt8)} {L : List HP} (hs : Sat w0 w (EachB vs ls :: L)) : vs.length = ls.length := by
  obtain ⟨_, _, _, _, p, q, _, h, _⟩ := hs
  exact EachB.len h
theorem EachB.snoc : ∀ {vs : List Value} {ls : List (List UInt8)} {v : Value} {l : List UInt8} {L : List HP} {h : PH}, SatH (EachB vs ls :: BR v l :: L) h → SatH (EachB (vs ++ [v]) (ls ++ [l]) :: L) h
  | [], [], v, l, L, h, hs => by
    show SatH (SatH [BR v l, EachB [] []] :: L) h
    refine SatH.unflat ?_
    exact SatH.swap hs
  | v1 :: vs, l1 :: ls, v, l, L, h, hs => by
    show SatH (SatH [BR v1 l1, EachB (vs ++ [v]) (ls ++ [l])] :: L) h
    refine SatH.unflat ?_
    have h1 : SatH (BR v1 l1 :: EachB vs ls :: BR v l :: L) h := SatH.flat (Ls := [BR v1 l1, EachB vs ls]) hs
    exact SatH.cons_mono (fun h hh => EachB.snoc hh) h1
  | [], _ :: _, _, _, _, _, ⟨_, _, _, h, _⟩ => h.elim
  | _ :: _, [], _, _, _, _, ⟨_, _, _, h, _⟩ => h.elim
theorem Sat.eachSnoc {w0 w : World} {vs : List Value} {ls : List (List UInt8)} {v : Value} {l : List UInt8} {L : List HP} (hs : Sat w0 w (EachB vs ls :: BR v l :: L)) : Sat w0 w (EachB (vs ++ [v]) (ls ++ [l]) :: L) := hs.map fun _ => EachB.snoc
theorem Sat.eachCons {w0 w : World} {vs : List Value} {ls : List (List UInt8)} {v : Value} {l : List UInt8} {L : List HP} (hs : Sat w0 w (EachB (v :: vs) (l :: ls) :: L)) : Sat w0 w (BR v l :: EachB vs ls :: L) := hs.opn (Ls := [BR v l, EachB vs ls])
theorem Sat.eachCons' {w0 w : World} {vs : List Value} {ls : List (List UInt8)} {v : Value} {l : List UInt8} {L : List HP} (hs : Sat w0 w (BR v l :: EachB vs ls :: L)) : Sat w0 w (EachB (v :: vs) (l :: ls) :: L) := Sat.shut (Ls := [BR v l, EachB vs ls]) hs
theorem EachB.drop : ∀ (k : Nat) {vs : List Value} {ls : List (List UInt8)} {L : List HP} {h : PH}, SatH (EachB vs ls :: L) h → SatH (EachB (vs.drop k) (ls.drop k) :: L) h
  | 0, _, _, _, _, hs => hs
  | _ + 1, [], [], _, _, hs => hs
  | k + 1, _ :: vs, _ :: ls, L, h, hs => EachB.drop k (SatH.flat (Ls := [BR _ _, EachB vs ls]) hs).tail
  | _ + 1, [], _ :: _, _, _, ⟨_, _, _, h, _⟩ => h.elim
  | _ + 1, _ :: _, [], _, _, ⟨_, _, _, h, _⟩ => h.elim
theorem Sat.eachDrop (k : Nat) {w0 w : World} {vs : List Value} {ls : List (List UInt8)} {L : List HP} (hs : Sat w0 w (EachB vs ls :: L)) : Sat w0 w (EachB (vs.drop k) (ls.drop k) :: L) := hs.map fun _ => EachB.drop k
/-- of each it can be read -/
theorem Sat.eachRB : ∀ {vs : List Value} {ls : List (List UInt8)} {w0 w : World} {L : List HP} {i : Nat} {v : Value} {l : List UInt8}, Sat w0 w (EachB vs ls :: L) → vs[i]? = some v → ls[i]? = some l → RB w v l
  | [], _, _, _, _, _, _, _, _, h, _ => by cases h
  | _ :: _, [], _, _, _, _, _, _, _, _, h => by cases h
  | v1 :: vs, l1 :: ls, w0, w, L, 0, v, l, hs, h1, h2 => by
    cases h1; cases h2
    exact hs.eachCons.br
  | v1 :: vs, l1 :: ls, w0, w, L, i + 1, v, l, hs, h1, h2 => hs.eachCons.tail.eachRB (by simpa using h1) (by simpa using h2)
end X

theorem bs_bytes0 (w : World) : (Instr.buildSlice 38 0 #[]).run Try.prog w = .ok (.slice (some ⟨w.heap.size, 0, none⟩) 0 0) (w.alloc (.cells #[] 5)) := by kernel_rfl
set_option maxHeartbeats 1000000 in
/-- bytes.Clone -/
theorem clone_calls {w0 w : World} {L : List HP} {v : Value} {l : List UInt8} (hs : Sat w0 w L) (hr : RB w v l) (hl : l.length ≤ 140737488355328) :
    Calls Try.prog 28 #[v] w fun e w' => ∃ v', e = .returned v' ∧ Sat w0 w' (BR v' l :: L) := by
  obtain ⟨h1, ao, c, rfl, h2, h3, h4⟩ := id hr
  refine enter Try.func28 rfl Try.ntmps28 2 rfl (Nat.le_of_ble_eq_true rfl) ?_
  refine c_seq ?_
  refine c_region ?_
  refine x_assign (.slice _ _ _) rfl ?_
  refine x_nil ?_
  refine then_n ?_
  refine c_seq ?_
  refine c_seq ?_
  refine c_region ?_
  refine x_move (.slice _ _ _) rfl ?_
  refine x_eqlSlNil Try.underlying38 _ _ _ _ _ rfl rfl ?_
  refine x_nil ?_
  refine then_n ?_
  refine c_cond rfl (fun hb => ?_) (fun hb => ?_)
  · refine c_seq ?_
    refine c_region ?_
    refine x_assign (.slice _ _ _) rfl ?_
    refine x_nil ?_
    refine then_n ?_
    refine c_ret ?_
    refine then_r ?_
    refine ⟨.inr rfl, ?_⟩
    have hao : ao = none := by simpa using hb
    have : l.length = 0 := by have := h3 hao; omega
    obtain rfl : l = [] := List.eq_nil_of_length_eq_zero this
    exact ⟨_, rfl, hs.rowNil⟩
  · refine c_skip ?_
    refine then_n ?_
    refine c_seq ?_
    refine c_region ?_
    refine x_buildSliceB #[] [] hs rfl (fun w => bs_bytes0 w) ?_; clear hs; intro b w1 hbel hs; refine ⟨fun h => (by first | cases h | exact h), ?_⟩
    have hr1 : RB w1 (.slice ao l.length c) l := RD.below hr hbel
    refine x_move (.slice _ _ _) rfl ?_
    refine x_append (row_blk (size := 1) hs rfl (by decide)) Try.underlying38 ei_5 hr1 bv_one (by unfold maxLen; omega) (by omega) rfl rfl ?_; intro v w hs; refine ⟨fun h => (by first | cases h | exact h), ?_⟩
    refine x_assign v rfl ?_
    refine x_nil ?_
    refine then_n ?_
    refine c_ret ?_
    refine ⟨.inr rfl, ?_⟩
    refine ⟨v, rfl, ?_⟩
    simpa [BR] using hs
end Go.Proofs.Ytiffpkbkmpianaa
