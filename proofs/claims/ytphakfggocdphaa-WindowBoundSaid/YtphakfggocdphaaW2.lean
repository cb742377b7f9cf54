/-
  LAYER 11: great, SameItems; the script of acts.
-/
import Derived.Test.YtphakfggocdphaaInv11
namespace Go.Proofs.Ytphakfggocdphaa.X
open Go Go.RowKit
set_option linter.unusedVariables false
set_option maxRecDepth 20000
structure Act where
  Kind : Int
  N : Int
  B : Value × List UInt8
  Upto : Nat
def Act.cells (x : Act) : List Value := [.int .i64 x.Kind, .int .i64 x.N, x.B.1, .int .u64 (x.Upto : Nat)]
structure Act.fine (x : Act) (w : World) : Prop where
  Kind : -9223372036854775808 ≤ x.Kind ∧ x.Kind ≤ 9223372036854775807
  N : -9223372036854775808 ≤ x.N ∧ x.N ≤ 9223372036854775807
  B : RB w x.B.1 x.B.2 ∧ x.B.2.length ≤ maxLen
  Upto : x.Upto ≤ 18446744073709551615
theorem Act.cells_len (x : Act) : x.cells.length = 4 := by first | rfl | (simp [Act.cells])
theorem Act.fine.below {x : Act} {w w' : World} (h : x.fine w) (hb : Below w.heap.size w w') : x.fine w' := ⟨h.Kind, h.N, ⟨RD.below h.B.1 hb, h.B.2⟩, h.Upto⟩
set_option maxRecDepth 20000 in
theorem TR.Act {H : Type} {enc : TypeId × Value → H} {w : World} {cs : List Value} (h : TR enc Try.prog w 68 cs) : ∃ x : Act, cs = x.cells ∧ x.fine w := by
  obtain ⟨h1, h2⟩ := h.struct Try.underlying68
  rw [show Try.prog.cellsOf 68 = 4 from by kernel_rfl] at h1
  match cs, h1 with
  | [y0, y1, y2, y3], _ =>
    have g0 := h2 0 _ rfl
    change TR enc Try.prog w 3 (([y0, y1, y2, y3].drop 0).take (Try.prog.cellsOf 3)) at g0
    rw [show Try.prog.cellsOf 3 = 1 from by kernel_rfl] at g0
    change TR enc Try.prog w 3 [y0] at g0
    obtain ⟨x0, e0, hx0⟩ := TR.int1 Try.underlying3 rfl g0
    have g1 := h2 1 _ rfl
    change TR enc Try.prog w 3 (([y0, y1, y2, y3].drop 1).take (Try.prog.cellsOf 3)) at g1
    rw [show Try.prog.cellsOf 3 = 1 from by kernel_rfl] at g1
    change TR enc Try.prog w 3 [y1] at g1
    obtain ⟨x1, e1, hx1⟩ := TR.int1 Try.underlying3 rfl g1
    have g2 := h2 2 _ rfl
    change TR enc Try.prog w 30 (([y0, y1, y2, y3].drop 2).take (Try.prog.cellsOf 30)) at g2
    rw [show Try.prog.cellsOf 30 = 1 from by kernel_rfl] at g2
    change TR enc Try.prog w 30 [y2] at g2
    obtain ⟨x2, e2, hx2⟩ := TR.bytes1 Try.underlying30 Try.underlying5 (by kernel_rfl) g2
    have g3 := h2 3 _ rfl
    change TR enc Try.prog w 26 (([y0, y1, y2, y3].drop 3).take (Try.prog.cellsOf 26)) at g3
    rw [show Try.prog.cellsOf 26 = 1 from by kernel_rfl] at g3
    change TR enc Try.prog w 26 [y3] at g3
    obtain ⟨x3, e3, hx3⟩ := TR.nat1 Try.underlying26 rfl g3
    refine ⟨⟨x0, x1, x2, x3⟩, ?_, ⟨hx0, hx1, hx2, hx3⟩⟩
    show [y0, y1, y2, y3] = _
    rw [show [y0, y1, y2, y3] = [y0] ++ [y1] ++ [y2] ++ [y3] from rfl, e0, e1, e2, e3]
    rfl
theorem great_calls {w0 w1 : World} {L : List HP} {v : Value} {acts : List Act} (hs : Sat w0 w1 L) (hr : RS w1 4 Act.cells v acts) (hf : ∀ x ∈ acts, x.fine w1) (hlen : acts.length ≤ 9223372036854775807) :
    Calls Try.prog 29 #[v] w1 fun e w' => ∃ r, e = .returned (.bool r) ∧ Sat w0 w' L ∧ w'.heap = w1.heap ∧ (r = false → ∀ (j : Nat) (x : Act), j < 60 → acts[j]? = some x → x.B.2.length ≤ 5000) := by
  obtain ⟨a0, c0, rfl⟩ := hr.val
  refine enter Try.func29 rfl Try.ntmps29 2 rfl (Nat.le_of_ble_eq_true rfl) ?_
  refine c_seq ?_
  -- region 0
  refine c_region ?_
  refine x_assign (.bool _) rfl ?_
  refine x_nil ?_
  refine then_n ?_
  refine c_seq ?_
  refine c_seq ?_
  -- region 1
  refine c_region ?_
  refine x_assign (.int _ _) rfl ?_
  refine x_nil ?_
  refine then_n ?_
  refine c_block ?_
  refine c_loop (γ := Nat) (fun (i : Nat) => [(0, .slice a0 acts.length c0), (3, .int .i64 (i : Nat))]) (fun (i : Nat) w => i ≤ 60 ∧ i ≤ acts.length ∧ (∀ (j : Nat) (x : Act), j < i → acts[j]? = some x → x.B.2.length ≤ 5000) ∧ Sat w0 w L ∧ w.heap = w1.heap) (fun (i : Nat) => 60 - i) 0 ⟨rfl, rfl, trivial⟩ ⟨Nat.zero_le _, Nat.zero_le _, fun j x h => (by omega), hs, rfl⟩ ?_
  clear hs
  rintro i ρ w ⟨hi, hil, hall, hs, hw⟩
  change CW Try.prog 38 _ _ (sets 38 [(0, .slice a0 acts.length c0), (3, .int .i64 (i : Nat))] ρ) w
  by_cases h1 : i < acts.length
  by_cases h2 : i < 60
  · skip
    refine c_seq ?_
    refine c_seq ?_
    -- region 2
    refine c_region ?_
    refine x_move (.int _ _) rfl ?_
    refine x_move (.slice _ _ _) rfl ?_
    refine x_lenSl Try.underlying61 _ _ _ rfl ?_
    refine x_lssT _ _ rfl rfl (by omega) ?_
    refine x_move (.bool _) rfl ?_
    refine x_want' rfl ?_
    refine x_move (.int _ _) rfl ?_
    refine x_want' rfl ?_
    refine x_lssT _ _ rfl rfl (by omega) ?_
    refine x_pickT (.bool _) rfl rfl ?_
    refine x_nil ?_
    refine then_n ?_
    obtain ⟨x, hx⟩ : ∃ x, acts[i]? = some x := ⟨acts[i]'h1, List.getElem?_eq_getElem _⟩
    have hr := hr.heapEq hw
    have hfx := hf x (List.mem_of_getElem? hx)
    have hstep : x.B.2.length ≤ 5000 → ∀ (j : Nat) (x : Act), j < i + 1 → acts[j]? = some x → x.B.2.length ≤ 5000 := fun hB j y hj hy => by
      by_cases hji : j < i
      · exact hall j y hji hy
      · obtain rfl : j = i := by omega
        rw [hx] at hy; cases hy; exact hB
    obtain ⟨g, o, rfl⟩ := hr.addr (by omega)
    obtain ⟨Kind, N, ⟨vB, B⟩, Upto⟩ := x
    obtain ⟨a2, c2, rfl⟩ : ∃ a c, vB = .slice a B.length c := hfx.B.1.val
    have hcB := hr.cell (fun a => a.cells_len) hx (q := 2) rfl
    have hcN := hr.cell (fun a => a.cells_len) hx (q := 1) rfl
    have hBm := hfx.B.2
    dsimp only at hcB hcN hstep hBm
    unfold maxLen at hBm
    by_cases h3 : 5000 < B.length
    rotate_left
    by_cases h4 : 20 < B.length
    by_cases h5 : 1 < N
    · skip
      refine c_true rfl ?_
      refine c_skip ?_
      refine then_n ?_
      refine c_seq ?_
      refine c_block ?_
      refine c_seq ?_
      -- region 4
      refine c_region ?_
      refine x_move (.slice _ _ _) rfl ?_
      refine x_move (.int _ _) rfl ?_
      refine x_indexAddr Try.underlying61 sz_68 _ _ _ _ _ rfl rfl (by omega) ?_
      first | refine x_field0 fa_68_2 _ rfl ?_ | refine x_field fa_68_2 _ _ rfl ?_
      refine x_load one_30 _ (.slice _ _ _) rfl (by first | exact hs.cell rfl | exact (hs.pull 1).cell rfl | exact (hs.pull 2).cell rfl | exact (hs.pull 3).cell rfl | assumption | exact (hs.pull 4).cell rfl | exact (hs.pull 5).cell rfl | exact (hs.pull 6).cell rfl | exact (hs.pull 7).cell rfl) ?_
      refine x_lenSl Try.underlying30 _ _ _ rfl ?_
      refine x_gtrF _ _ rfl rfl (by omega) ?_
      refine x_move (.bool _) rfl ?_
      refine x_want' rfl ?_
      refine x_move (.slice _ _ _) rfl ?_
      refine x_want' rfl ?_
      refine x_move (.int _ _) rfl ?_
      refine x_want' rfl ?_
      refine x_indexAddr Try.underlying61 sz_68 _ _ _ _ _ rfl rfl (by omega) ?_
      refine x_want' rfl ?_
      first | refine x_field0 fa_68_2 _ rfl ?_ | refine x_field fa_68_2 _ _ rfl ?_
      refine x_want' rfl ?_
      refine x_load one_30 _ (.slice _ _ _) rfl (by first | exact hs.cell rfl | exact (hs.pull 1).cell rfl | exact (hs.pull 2).cell rfl | exact (hs.pull 3).cell rfl | assumption | exact (hs.pull 4).cell rfl | exact (hs.pull 5).cell rfl | exact (hs.pull 6).cell rfl | exact (hs.pull 7).cell rfl) ?_
      refine x_want' rfl ?_
      refine x_lenSl Try.underlying30 _ _ _ rfl ?_
      refine x_want' rfl ?_
      refine x_gtrT _ _ rfl rfl (by omega) ?_
      refine x_want' rfl ?_
      refine x_move (.bool _) rfl ?_
      refine x_want' rfl ?_
      refine x_move (.slice _ _ _) rfl ?_
      refine x_want' rfl ?_
      refine x_move (.int _ _) rfl ?_
      refine x_want' rfl ?_
      refine x_indexAddr Try.underlying61 sz_68 _ _ _ _ _ rfl rfl (by omega) ?_
      refine x_want' rfl ?_
      first | refine x_field0 fa_68_1 _ rfl ?_ | refine x_field fa_68_1 _ _ rfl ?_
      refine x_want' rfl ?_
      refine x_load one_3 _ (.int _ _) rfl (by first | exact hs.cell rfl | exact (hs.pull 1).cell rfl | exact (hs.pull 2).cell rfl | exact (hs.pull 3).cell rfl | assumption | exact (hs.pull 4).cell rfl | exact (hs.pull 5).cell rfl | exact (hs.pull 6).cell rfl | exact (hs.pull 7).cell rfl) ?_
      refine x_want' rfl ?_
      refine x_gtrT _ _ rfl rfl (by omega) ?_
      refine x_want' rfl ?_
      refine x_pickT (.bool _) rfl rfl ?_
      refine x_pickF (.bool _) rfl rfl ?_
      refine x_nil ?_
      refine then_n ?_
      refine c_true rfl ?_
      refine c_seq ?_
      -- region 5
      refine c_region ?_
      refine x_assign (.bool _) rfl ?_
      refine x_nil ?_
      refine then_n ?_
      refine c_ret ?_
      refine inb_r ?_
      refine then_r ?_
      refine then_r ?_
      refine inb_r ?_
      refine then_r ?_
      refine ⟨.inr rfl, ?_⟩
      exact ⟨true, rfl, hs, hw, fun h => nomatch h⟩
    · skip
      refine c_true rfl ?_
      refine c_skip ?_
      refine then_n ?_
      refine c_seq ?_
      refine c_block ?_
      refine c_seq ?_
      -- region 4
      refine c_region ?_
      refine x_move (.slice _ _ _) rfl ?_
      refine x_move (.int _ _) rfl ?_
      refine x_indexAddr Try.underlying61 sz_68 _ _ _ _ _ rfl rfl (by omega) ?_
      first | refine x_field0 fa_68_2 _ rfl ?_ | refine x_field fa_68_2 _ _ rfl ?_
      refine x_load one_30 _ (.slice _ _ _) rfl (by first | exact hs.cell rfl | exact (hs.pull 1).cell rfl | exact (hs.pull 2).cell rfl | exact (hs.pull 3).cell rfl | assumption | exact (hs.pull 4).cell rfl | exact (hs.pull 5).cell rfl | exact (hs.pull 6).cell rfl | exact (hs.pull 7).cell rfl) ?_
      refine x_lenSl Try.underlying30 _ _ _ rfl ?_
      refine x_gtrF _ _ rfl rfl (by omega) ?_
      refine x_move (.bool _) rfl ?_
      refine x_want' rfl ?_
      refine x_move (.slice _ _ _) rfl ?_
      refine x_want' rfl ?_
      refine x_move (.int _ _) rfl ?_
      refine x_want' rfl ?_
      refine x_indexAddr Try.underlying61 sz_68 _ _ _ _ _ rfl rfl (by omega) ?_
      refine x_want' rfl ?_
      first | refine x_field0 fa_68_2 _ rfl ?_ | refine x_field fa_68_2 _ _ rfl ?_
      refine x_want' rfl ?_
      refine x_load one_30 _ (.slice _ _ _) rfl (by first | exact hs.cell rfl | exact (hs.pull 1).cell rfl | exact (hs.pull 2).cell rfl | exact (hs.pull 3).cell rfl | assumption | exact (hs.pull 4).cell rfl | exact (hs.pull 5).cell rfl | exact (hs.pull 6).cell rfl | exact (hs.pull 7).cell rfl) ?_
      refine x_want' rfl ?_
      refine x_lenSl Try.underlying30 _ _ _ rfl ?_
      refine x_want' rfl ?_
      refine x_gtrT _ _ rfl rfl (by omega) ?_
      refine x_want' rfl ?_
      refine x_move (.bool _) rfl ?_
      refine x_want' rfl ?_
      refine x_move (.slice _ _ _) rfl ?_
      refine x_want' rfl ?_
      refine x_move (.int _ _) rfl ?_
      refine x_want' rfl ?_
      refine x_indexAddr Try.underlying61 sz_68 _ _ _ _ _ rfl rfl (by omega) ?_
      refine x_want' rfl ?_
      first | refine x_field0 fa_68_1 _ rfl ?_ | refine x_field fa_68_1 _ _ rfl ?_
      refine x_want' rfl ?_
      refine x_load one_3 _ (.int _ _) rfl (by first | exact hs.cell rfl | exact (hs.pull 1).cell rfl | exact (hs.pull 2).cell rfl | exact (hs.pull 3).cell rfl | assumption | exact (hs.pull 4).cell rfl | exact (hs.pull 5).cell rfl | exact (hs.pull 6).cell rfl | exact (hs.pull 7).cell rfl) ?_
      refine x_want' rfl ?_
      refine x_gtrF _ _ rfl rfl (by omega) ?_
      refine x_want' rfl ?_
      refine x_pickT (.bool _) rfl rfl ?_
      refine x_pickF (.bool _) rfl rfl ?_
      refine x_nil ?_
      refine then_n ?_
      refine c_false rfl ?_
      refine c_skip ?_
      refine inb_n ?_
      refine then_n ?_
      -- region 3
      refine c_region ?_
      refine x_move (.int _ _) rfl ?_
      refine x_add _ _ rfl rfl (by simp only [X.lo]; omega) (by simp only [X.hi]; omega) ?_
      refine x_assign (.int _ _) rfl ?_
      refine x_nil ?_
      refine then_n ?_
      refine ⟨i + 1, ⟨rfl, rfl, trivial⟩, ⟨by omega, by omega, hstep (by omega), hs, hw⟩, by first | omega | (dsimp only; omega)⟩
    · skip
      refine c_true rfl ?_
      refine c_skip ?_
      refine then_n ?_
      refine c_seq ?_
      refine c_block ?_
      refine c_seq ?_
      -- region 4
      refine c_region ?_
      refine x_move (.slice _ _ _) rfl ?_
      refine x_move (.int _ _) rfl ?_
      refine x_indexAddr Try.underlying61 sz_68 _ _ _ _ _ rfl rfl (by omega) ?_
      first | refine x_field0 fa_68_2 _ rfl ?_ | refine x_field fa_68_2 _ _ rfl ?_
      refine x_load one_30 _ (.slice _ _ _) rfl (by first | exact hs.cell rfl | exact (hs.pull 1).cell rfl | exact (hs.pull 2).cell rfl | exact (hs.pull 3).cell rfl | assumption | exact (hs.pull 4).cell rfl | exact (hs.pull 5).cell rfl | exact (hs.pull 6).cell rfl | exact (hs.pull 7).cell rfl) ?_
      refine x_lenSl Try.underlying30 _ _ _ rfl ?_
      refine x_gtrF _ _ rfl rfl (by omega) ?_
      refine x_move (.bool _) rfl ?_
      refine x_want' rfl ?_
      refine x_move (.slice _ _ _) rfl ?_
      refine x_want' rfl ?_
      refine x_move (.int _ _) rfl ?_
      refine x_want' rfl ?_
      refine x_indexAddr Try.underlying61 sz_68 _ _ _ _ _ rfl rfl (by omega) ?_
      refine x_want' rfl ?_
      first | refine x_field0 fa_68_2 _ rfl ?_ | refine x_field fa_68_2 _ _ rfl ?_
      refine x_want' rfl ?_
      refine x_load one_30 _ (.slice _ _ _) rfl (by first | exact hs.cell rfl | exact (hs.pull 1).cell rfl | exact (hs.pull 2).cell rfl | exact (hs.pull 3).cell rfl | assumption | exact (hs.pull 4).cell rfl | exact (hs.pull 5).cell rfl | exact (hs.pull 6).cell rfl | exact (hs.pull 7).cell rfl) ?_
      refine x_want' rfl ?_
      refine x_lenSl Try.underlying30 _ _ _ rfl ?_
      refine x_want' rfl ?_
      refine x_gtrF _ _ rfl rfl (by omega) ?_
      refine x_want' rfl ?_
      refine x_move (.bool _) rfl ?_
      refine x_skip rfl rfl ?_
      refine x_skip rfl rfl ?_
      refine x_skip rfl rfl ?_
      refine x_skip rfl rfl ?_
      refine x_skip rfl rfl ?_
      refine x_skip rfl rfl ?_
      refine x_want' rfl ?_
      refine x_pickF (.bool _) rfl rfl ?_
      refine x_pickF (.bool _) rfl rfl ?_
      refine x_nil ?_
      refine then_n ?_
      refine c_false rfl ?_
      refine c_skip ?_
      refine inb_n ?_
      refine then_n ?_
      -- region 3
      refine c_region ?_
      refine x_move (.int _ _) rfl ?_
      refine x_add _ _ rfl rfl (by simp only [X.lo]; omega) (by simp only [X.hi]; omega) ?_
      refine x_assign (.int _ _) rfl ?_
      refine x_nil ?_
      refine then_n ?_
      refine ⟨i + 1, ⟨rfl, rfl, trivial⟩, ⟨by omega, by omega, hstep (by omega), hs, hw⟩, by first | omega | (dsimp only; omega)⟩
    · skip
      refine c_true rfl ?_
      refine c_skip ?_
      refine then_n ?_
      refine c_seq ?_
      refine c_block ?_
      refine c_seq ?_
      -- region 4
      refine c_region ?_
      refine x_move (.slice _ _ _) rfl ?_
      refine x_move (.int _ _) rfl ?_
      refine x_indexAddr Try.underlying61 sz_68 _ _ _ _ _ rfl rfl (by omega) ?_
      first | refine x_field0 fa_68_2 _ rfl ?_ | refine x_field fa_68_2 _ _ rfl ?_
      refine x_load one_30 _ (.slice _ _ _) rfl (by first | exact hs.cell rfl | exact (hs.pull 1).cell rfl | exact (hs.pull 2).cell rfl | exact (hs.pull 3).cell rfl | assumption | exact (hs.pull 4).cell rfl | exact (hs.pull 5).cell rfl | exact (hs.pull 6).cell rfl | exact (hs.pull 7).cell rfl) ?_
      refine x_lenSl Try.underlying30 _ _ _ rfl ?_
      refine x_gtrT _ _ rfl rfl (by omega) ?_
      refine x_move (.bool _) rfl ?_
      refine x_skip rfl rfl ?_
      refine x_skip rfl rfl ?_
      refine x_skip rfl rfl ?_
      refine x_skip rfl rfl ?_
      refine x_skip rfl rfl ?_
      refine x_skip rfl rfl ?_
      refine x_skip rfl rfl ?_
      refine x_skip rfl rfl ?_
      refine x_skipU rfl ?_
      refine x_skipU rfl ?_
      refine x_skipU rfl ?_
      refine x_skipU rfl ?_
      refine x_skipU rfl ?_
      refine x_skipU rfl ?_
      refine x_skip rfl rfl ?_
      refine x_pickT (.bool _) rfl rfl ?_
      refine x_nil ?_
      refine then_n ?_
      refine c_true rfl ?_
      refine c_seq ?_
      -- region 5
      refine c_region ?_
      refine x_assign (.bool _) rfl ?_
      refine x_nil ?_
      refine then_n ?_
      refine c_ret ?_
      refine inb_r ?_
      refine then_r ?_
      refine then_r ?_
      refine inb_r ?_
      refine then_r ?_
      refine ⟨.inr rfl, ?_⟩
      exact ⟨true, rfl, hs, hw, fun h => nomatch h⟩
  · skip
    refine c_seq ?_
    refine c_seq ?_
    -- region 2
    refine c_region ?_
    refine x_move (.int _ _) rfl ?_
    refine x_move (.slice _ _ _) rfl ?_
    refine x_lenSl Try.underlying61 _ _ _ rfl ?_
    refine x_lssT _ _ rfl rfl (by omega) ?_
    refine x_move (.bool _) rfl ?_
    refine x_want' rfl ?_
    refine x_move (.int _ _) rfl ?_
    refine x_want' rfl ?_
    refine x_lssF _ _ rfl rfl (by omega) ?_
    refine x_pickT (.bool _) rfl rfl ?_
    refine x_nil ?_
    refine then_n ?_
    refine c_false rfl ?_
    refine c_exit ?_
    refine then_x ?_
    refine then_x ?_
    refine inb_e ?_
    refine then_n ?_
    refine c_seq ?_
    -- region 6
    refine c_region ?_
    refine x_assign (.bool _) rfl ?_
    refine x_nil ?_
    refine then_n ?_
    refine c_ret ?_
    refine ⟨.inr rfl, ?_⟩
    exact ⟨false, rfl, hs, hw, fun _ j x hj hx => hall j x (by omega) hx⟩
  · skip
    refine c_seq ?_
    refine c_seq ?_
    -- region 2
    refine c_region ?_
    refine x_move (.int _ _) rfl ?_
    refine x_move (.slice _ _ _) rfl ?_
    refine x_lenSl Try.underlying61 _ _ _ rfl ?_
    refine x_lssF _ _ rfl rfl (by omega) ?_
    refine x_move (.bool _) rfl ?_
    refine x_skip rfl rfl ?_
    refine x_skip rfl rfl ?_
    refine x_pickF (.bool _) rfl rfl ?_
    refine x_nil ?_
    refine then_n ?_
    refine c_false rfl ?_
    refine c_exit ?_
    refine then_x ?_
    refine then_x ?_
    refine inb_e ?_
    refine then_n ?_
    refine c_seq ?_
    -- region 6
    refine c_region ?_
    refine x_assign (.bool _) rfl ?_
    refine x_nil ?_
    refine then_n ?_
    refine c_ret ?_
    refine ⟨.inr rfl, ?_⟩
    exact ⟨false, rfl, hs, hw, fun _ j x hj hx => hall j x (by have := (List.getElem?_eq_some_iff.1 hx).1; omega) hx⟩

/-! ### SameItems -/
theorem RI.get {w : World} {ao : Option Addr} {c : Nat} {l : List Item} (h : RI w (.slice ao l.length c) l) {i : Nat} {p : Item} (hi : l[i]? = some p) :
    ∃ g o a' c', ao = some ⟨g, o, none⟩ ∧ w.cell? ⟨g, o + i * 2 + 0, none⟩ = some (.int .u64 (p.1 : Nat)) ∧ w.cell? ⟨g, o + i * 2 + 1, none⟩ = some (.slice a' p.2.length c') ∧ RB w (.slice a' p.2.length c') p.2 := by
  obtain ⟨us, h0, h1, h2⟩ := h
  have hil : i < l.length := (List.getElem?_eq_some_iff.1 hi).1
  obtain ⟨g, o, rfl⟩ := h1.addr (by omega)
  obtain ⟨u, hu⟩ : ∃ u, us[i]? = some u := ⟨us[i]'(by omega), List.getElem?_eq_getElem _⟩
  have hrb := h2 i u p hu hi
  obtain ⟨a', c', rfl⟩ := hrb.val
  have hq : (l.map (·.1))[i]? = some p.1 := by rw [List.getElem?_map, hi]; rfl
  obtain ⟨g1, g2⟩ := icells_get _ us i _ _ hq hu
  exact ⟨g, o, a', c', rfl, h1.cell g1, h1.cell g2, hrb⟩
set_option maxHeartbeats 2000000 in
theorem sameitems_calls {w0 w1 : World} {L : List HP} {v1 v2 : Value} {l1 l2 : List Item} (hs : Sat w0 w1 L) (h1 : RI w1 v1 l1) (h2 : RI w1 v2 l2) (hlen1 : l1.length ≤ 1000000000000) :
    Calls Try.prog 30 #[v1, v2] w1 fun e w' => e = .returned (.bool (decide (l1 = l2))) ∧ Sat w0 w' L ∧ w'.heap = w1.heap := by
  obtain ⟨a1, c1, rfl⟩ := h1.val
  obtain ⟨a2, c2, rfl⟩ := h2.val
  refine enter Try.func30 rfl Try.ntmps30 4 rfl (Nat.le_of_ble_eq_true rfl) ?_
  refine c_seq ?_
  -- region 0
  refine c_region ?_
  refine x_assign (.bool _) rfl ?_
  refine x_nil ?_
  refine then_n ?_
  refine c_seq ?_
  refine c_seq ?_
  -- region 1
  refine c_region ?_
  refine x_move (.slice _ _ _) rfl ?_
  refine x_lenSl Try.underlying27 _ _ _ rfl ?_
  refine x_move (.slice _ _ _) rfl ?_
  refine x_lenSl Try.underlying27 _ _ _ rfl ?_
  refine x_neq _ _ rfl rfl ?_
  refine x_nil ?_
  refine then_n ?_
  refine c_test _ rfl (fun hb => ?_) (fun hb => ?_)   -- cond t10
  · skip
    refine c_seq ?_
    -- region 2
    refine c_region ?_
    refine x_assign (.bool _) rfl ?_
    refine x_nil ?_
    refine then_n ?_
    refine c_ret ?_
    refine then_r ?_
    refine ⟨.inr rfl, ?_⟩
    have : ¬ l1 = l2 := fun e => by subst e; exact hb rfl
    rw [decide_eq_false this]
    exact ⟨rfl, hs, rfl⟩
  · skip
    refine c_skip ?_
    refine then_n ?_
    refine c_seq ?_
    refine c_seq ?_
    -- region 3
    refine c_region ?_
    refine x_assign (.int _ _) rfl ?_
    refine x_nil ?_
    refine then_n ?_
    refine c_block ?_
    refine c_loop (γ := Nat) (fun (i : Nat) => [(0, .slice a1 l1.length c1), (1, .slice a2 l2.length c2), (5, .int .i64 (i : Nat))]) (fun (i : Nat) w => i ≤ l1.length ∧ l1.take i = l2.take i ∧ Sat w0 w L ∧ w.heap = w1.heap) (fun (i : Nat) => l1.length - i) 0 ⟨rfl, rfl, rfl, trivial⟩ ⟨Nat.zero_le _, rfl, hs, rfl⟩ ?_
    clear hs
    rintro i ρ w ⟨hil, ht, hs, hw⟩
    change CW Try.prog 43 _ _ (sets 43 [(0, .slice a1 l1.length c1), (1, .slice a2 l2.length c2), (5, .int .i64 (i : Nat))] ρ) w
    have hlen : l1.length = l2.length := by omega
    refine c_seq ?_
    refine c_seq ?_
    -- region 4
    refine c_region ?_
    refine x_move (.int _ _) rfl ?_
    refine x_move (.slice _ _ _) rfl ?_
    refine x_lenSl Try.underlying27 _ _ _ rfl ?_
    refine x_lss _ _ rfl rfl ?_
    refine x_nil ?_
    refine then_n ?_
    refine c_test _ rfl (fun hb => ?_) (fun hb => ?_)   -- cond t14
    · skip
      have hlt : i < l1.length := by omega
      obtain ⟨p1, hp1⟩ : ∃ b, l1[i]? = some b := ⟨l1[i]'hlt, List.getElem?_eq_getElem _⟩
      obtain ⟨p2, hp2⟩ : ∃ b, l2[i]? = some b := ⟨l2[i]'(by omega), List.getElem?_eq_getElem _⟩
      obtain ⟨g1, o1, a3, c3, rfl, hx1, hc1, hr1⟩ := (h1.heapEq hw).get hp1
      obtain ⟨g2, o2, a4, c4, rfl, hx2, hc2, hr2⟩ := (h2.heapEq hw).get hp2
      have hst1 : l1.take (i + 1) = l1.take i ++ [p1] := by rw [List.take_add_one, hp1]; rfl
      have hst2 : l2.take (i + 1) = l2.take i ++ [p2] := by rw [List.take_add_one, hp2]; rfl
      by_cases hq : p1.1 = p2.1
      · skip
        refine c_skip ?_
        refine then_n ?_
        refine c_seq ?_
        refine c_block ?_
        refine c_seq ?_
        -- region 6 DRAWS
        refine c_draw (fun w => w1.heap = w.heap ∧ w.cell? ⟨g1, o1 + i * 2 + 0, none⟩ = some (.int .u64 (p1.1 : Nat)) ∧ w.cell? ⟨g2, o2 + i * 2 + 0, none⟩ = some (.int .u64 (p2.1 : Nat)) ∧ w.cell? ⟨g1, o1 + i * 2 + 1, none⟩ = some (.slice a3 p1.2.length c3) ∧ w.cell? ⟨g2, o2 + i * 2 + 1, none⟩ = some (.slice a4 p2.2.length c4)) (fun i => !(false)) [(0, 2), (1, 2), (2, 2), (3, 2), (4, 1), (5, 2), (6, 2), (7, 2), (8, 2), (9, 1), (10, 2), (11, 2), (12, 2), (13, 2), (14, 2), (15, 2), (16, 1), (17, 1), (18, 2), (19, 2), (20, 2), (21, 2), (22, 1), (23, 1), (24, 2), (25, 2)] (by kernel_rfl) (by kernel_rfl) (by kernel_rfl) (by kernel_rfl) (⟨hw.symm, hx1, hx2, hc1, hc2⟩) ?_
        replace hs := hs.drew
        refine x_move (.slice _ _ _) rfl ?_
        refine x_move (.int _ _) rfl ?_
        refine x_indexAddr Try.underlying27 sz_56 _ _ _ _ _ rfl rfl (by omega) ?_
        first | refine x_field0 fa_56_0 _ rfl ?_ | refine x_field fa_56_0 _ _ rfl ?_
        refine h_load one_26 _ (.int _ _) rfl (fun w hS => by first | exact hS.cell rfl | exact (hS.pull 1).cell rfl | exact (hS.pull 2).cell rfl | exact (hS.pull 3).cell rfl | exact hS | exact hS.1 | exact hS.2 | exact hS.2.1 | exact hS.2.2 | exact hS.2.2.1 | exact hS.2.2.2 | exact hS.2.2.2.1 | exact hS.2.2.2.2) ?_
        refine x_move (.slice _ _ _) rfl ?_
        refine x_move (.int _ _) rfl ?_
        refine x_indexAddr Try.underlying27 sz_56 _ _ _ _ _ rfl rfl (by omega) ?_
        first | refine x_field0 fa_56_0 _ rfl ?_ | refine x_field fa_56_0 _ _ rfl ?_
        refine h_load one_26 _ (.int _ _) rfl (fun w hS => by first | exact hS.cell rfl | exact (hS.pull 1).cell rfl | exact (hS.pull 2).cell rfl | exact (hS.pull 3).cell rfl | exact hS | exact hS.1 | exact hS.2 | exact hS.2.1 | exact hS.2.2 | exact hS.2.2.1 | exact hS.2.2.2 | exact hS.2.2.2.1 | exact hS.2.2.2.2) ?_
        refine x_neqF _ _ rfl rfl (by omega) ?_
        refine x_move (.bool _) rfl ?_
        refine x_want' rfl ?_
        refine x_move (.slice _ _ _) rfl ?_
        refine x_want' rfl ?_
        refine x_move (.int _ _) rfl ?_
        refine x_want' rfl ?_
        refine x_indexAddr Try.underlying27 sz_56 _ _ _ _ _ rfl rfl (by omega) ?_
        refine x_want' rfl ?_
        first | refine x_field0 fa_56_1 _ rfl ?_ | refine x_field fa_56_1 _ _ rfl ?_
        refine x_want' rfl ?_
        refine h_load one_30 _ (.slice _ _ _) rfl (fun w hS => by first | exact hS.cell rfl | exact (hS.pull 1).cell rfl | exact (hS.pull 2).cell rfl | exact (hS.pull 3).cell rfl | exact hS | exact hS.1 | exact hS.2 | exact hS.2.1 | exact hS.2.2 | exact hS.2.2.1 | exact hS.2.2.2 | exact hS.2.2.2.1 | exact hS.2.2.2.2) ?_
        refine x_want' rfl ?_
        refine h_str Try.underlying30 Try.underlying5 Try.underlying9 p1.2 (fun w hS => hr1.heapEq (hS.1.symm.trans hw.symm)) rfl ?_
        refine x_want' rfl ?_
        refine x_move (.slice _ _ _) rfl ?_
        refine x_want' rfl ?_
        refine x_move (.int _ _) rfl ?_
        refine x_want' rfl ?_
        refine x_indexAddr Try.underlying27 sz_56 _ _ _ _ _ rfl rfl (by omega) ?_
        refine x_want' rfl ?_
        first | refine x_field0 fa_56_1 _ rfl ?_ | refine x_field fa_56_1 _ _ rfl ?_
        refine x_want' rfl ?_
        refine h_load one_30 _ (.slice _ _ _) rfl (fun w hS => by first | exact hS.cell rfl | exact (hS.pull 1).cell rfl | exact (hS.pull 2).cell rfl | exact (hS.pull 3).cell rfl | exact hS | exact hS.1 | exact hS.2 | exact hS.2.1 | exact hS.2.2 | exact hS.2.2.1 | exact hS.2.2.2 | exact hS.2.2.2.1 | exact hS.2.2.2.2) ?_
        refine x_want' rfl ?_
        refine h_str Try.underlying30 Try.underlying5 Try.underlying9 p2.2 (fun w hS => hr2.heapEq (hS.1.symm.trans hw.symm)) rfl ?_
        refine x_want' rfl ?_
        refine x_neqS _ _ rfl rfl ?_
        refine x_pickF (.bool _) rfl rfl ?_
        refine x_nil ?_
        refine then_n ?_
        refine c_test _ rfl (fun hb => ?_) (fun hb => ?_)   -- cond t42
        · skip
          refine c_seq ?_
          -- region 7
          refine c_region ?_
          refine x_assign (.bool _) rfl ?_
          refine x_nil ?_
          refine then_n ?_
          refine c_ret ?_
          refine inb_r ?_
          refine then_r ?_
          refine then_r ?_
          refine inb_r ?_
          refine then_r ?_
          refine ⟨.inr rfl, ?_⟩
          have : ¬ l1 = l2 := fun e => by subst e; rw [hp1] at hp2; cases hp2; exact hb rfl
          rw [decide_eq_false this]
          exact ⟨rfl, hs, hw⟩
        · skip
          refine c_skip ?_
          refine inb_n ?_
          refine then_n ?_
          -- region 5
          refine c_region ?_
          refine x_move (.int _ _) rfl ?_
          refine x_add _ _ rfl rfl (by simp only [X.lo]; omega) (by simp only [X.hi]; omega) ?_
          refine x_assign (.int _ _) rfl ?_
          refine x_nil ?_
          refine then_n ?_
          have hpp : p1 = p2 := Prod.ext hq (Classical.byContradiction fun h => hb h)
          refine ⟨i + 1, ⟨rfl, rfl, rfl, trivial⟩, ⟨by omega, by rw [hst1, hst2, ht, hpp], hs, hw⟩, by first | omega | (dsimp only; omega)⟩
      · skip
        refine c_skip ?_
        refine then_n ?_
        refine c_seq ?_
        refine c_block ?_
        refine c_seq ?_
        -- region 6 DRAWS
        refine c_draw (fun w => w1.heap = w.heap ∧ w.cell? ⟨g1, o1 + i * 2 + 0, none⟩ = some (.int .u64 (p1.1 : Nat)) ∧ w.cell? ⟨g2, o2 + i * 2 + 0, none⟩ = some (.int .u64 (p2.1 : Nat)) ∧ w.cell? ⟨g1, o1 + i * 2 + 1, none⟩ = some (.slice a3 p1.2.length c3) ∧ w.cell? ⟨g2, o2 + i * 2 + 1, none⟩ = some (.slice a4 p2.2.length c4)) (fun i => !(false)) [(0, 2), (1, 2), (2, 2), (3, 2), (4, 1), (5, 2), (6, 2), (7, 2), (8, 2), (9, 1), (10, 2), (11, 2), (12, 2), (13, 2), (14, 2), (15, 2), (16, 1), (17, 1), (18, 2), (19, 2), (20, 2), (21, 2), (22, 1), (23, 1), (24, 2), (25, 2)] (by kernel_rfl) (by kernel_rfl) (by kernel_rfl) (by kernel_rfl) (⟨hw.symm, hx1, hx2, hc1, hc2⟩) ?_
        replace hs := hs.drew
        refine x_move (.slice _ _ _) rfl ?_
        refine x_move (.int _ _) rfl ?_
        refine x_indexAddr Try.underlying27 sz_56 _ _ _ _ _ rfl rfl (by omega) ?_
        first | refine x_field0 fa_56_0 _ rfl ?_ | refine x_field fa_56_0 _ _ rfl ?_
        refine h_load one_26 _ (.int _ _) rfl (fun w hS => by first | exact hS.cell rfl | exact (hS.pull 1).cell rfl | exact (hS.pull 2).cell rfl | exact (hS.pull 3).cell rfl | exact hS | exact hS.1 | exact hS.2 | exact hS.2.1 | exact hS.2.2 | exact hS.2.2.1 | exact hS.2.2.2 | exact hS.2.2.2.1 | exact hS.2.2.2.2) ?_
        refine x_move (.slice _ _ _) rfl ?_
        refine x_move (.int _ _) rfl ?_
        refine x_indexAddr Try.underlying27 sz_56 _ _ _ _ _ rfl rfl (by omega) ?_
        first | refine x_field0 fa_56_0 _ rfl ?_ | refine x_field fa_56_0 _ _ rfl ?_
        refine h_load one_26 _ (.int _ _) rfl (fun w hS => by first | exact hS.cell rfl | exact (hS.pull 1).cell rfl | exact (hS.pull 2).cell rfl | exact (hS.pull 3).cell rfl | exact hS | exact hS.1 | exact hS.2 | exact hS.2.1 | exact hS.2.2 | exact hS.2.2.1 | exact hS.2.2.2 | exact hS.2.2.2.1 | exact hS.2.2.2.2) ?_
        refine x_neqT _ _ rfl rfl (by omega) ?_
        refine x_move (.bool _) rfl ?_
        refine x_skip rfl rfl ?_
        refine x_skip rfl rfl ?_
        refine x_skip rfl rfl ?_
        refine x_skip rfl rfl ?_
        refine x_skip rfl rfl ?_
        refine x_skip rfl rfl ?_
        refine x_skip rfl rfl ?_
        refine x_skip rfl rfl ?_
        refine x_skip rfl rfl ?_
        refine x_skip rfl rfl ?_
        refine x_skip rfl rfl ?_
        refine x_skip rfl rfl ?_
        refine x_skip rfl rfl ?_
        refine x_pickT (.bool _) rfl rfl ?_
        refine x_nil ?_
        refine then_n ?_
        refine c_true rfl ?_
        refine c_seq ?_
        -- region 7
        refine c_region ?_
        refine x_assign (.bool _) rfl ?_
        refine x_nil ?_
        refine then_n ?_
        refine c_ret ?_
        refine inb_r ?_
        refine then_r ?_
        refine then_r ?_
        refine inb_r ?_
        refine then_r ?_
        refine ⟨.inr rfl, ?_⟩
        have : ¬ l1 = l2 := fun e => by subst e; rw [hp1] at hp2; cases hp2; exact hq rfl
        rw [decide_eq_false this]
        exact ⟨rfl, hs, hw⟩
    · skip
      refine c_exit ?_
      refine then_x ?_
      refine then_x ?_
      refine inb_e ?_
      refine then_n ?_
      refine c_seq ?_
      -- region 8
      refine c_region ?_
      refine x_assign (.bool _) rfl ?_
      refine x_nil ?_
      refine then_n ?_
      refine c_ret ?_
      refine ⟨.inr rfl, ?_⟩
      have h1e : l1.take i = l1 := List.take_of_length_le (by omega)
      have h2e : l2.take i = l2 := List.take_of_length_le (by omega)
      have : l1 = l2 := by rw [← h1e, ht, h2e]
      rw [decide_eq_true this]
      exact ⟨rfl, hs, hw⟩
end Go.Proofs.Ytphakfggocdphaa.X
