/-
  LAYER 22: the reference; the law QueuePlays.
-/
import Derived.Test.YtfnfpajjggbipaaQ3
namespace Go.Proofs.Ytfnfpajjggbipaa.X
open Go Go.RowKit
set_option linter.unusedVariables false
set_option maxRecDepth 20000
structure Act where
  Kind : Int
  N : Nat
  B : Value × List UInt8
def Act.cells (x : Act) : List Value := [.int .i64 x.Kind, .int .u64 (x.N : Nat), x.B.1]
structure Act.fine (x : Act) (w : World) : Prop where
  Kind : -9223372036854775808 ≤ x.Kind ∧ x.Kind ≤ 9223372036854775807
  N : x.N ≤ 18446744073709551615
  B : RB w x.B.1 x.B.2 ∧ x.B.2.length ≤ maxLen
theorem Act.cells_len (x : Act) : x.cells.length = 3 := by first | rfl | (simp [Act.cells])
theorem Act.fine.below {x : Act} {w w' : World} (h : x.fine w) (hb : Below w.heap.size w w') : x.fine w' := ⟨h.Kind, h.N, ⟨RD.below h.B.1 hb, h.B.2⟩⟩
set_option maxRecDepth 20000 in
theorem TR.Act {H : Type} {enc : TypeId × Value → H} {w : World} {cs : List Value} (h : TR enc Try.prog w 32 cs) : ∃ x : Act, cs = x.cells ∧ x.fine w := by
  obtain ⟨h1, h2⟩ := h.struct Try.underlying32
  rw [show Try.prog.cellsOf 32 = 3 from by kernel_rfl] at h1
  match cs, h1 with
  | [y0, y1, y2], _ =>
    have g0 := h2 0 _ rfl
    change TR enc Try.prog w 3 (([y0, y1, y2].drop 0).take (Try.prog.cellsOf 3)) at g0
    rw [show Try.prog.cellsOf 3 = 1 from by kernel_rfl] at g0
    change TR enc Try.prog w 3 [y0] at g0
    obtain ⟨x0, e0, hx0⟩ := TR.int1 Try.underlying3 rfl g0
    have g1 := h2 1 _ rfl
    change TR enc Try.prog w 22 (([y0, y1, y2].drop 1).take (Try.prog.cellsOf 22)) at g1
    rw [show Try.prog.cellsOf 22 = 1 from by kernel_rfl] at g1
    change TR enc Try.prog w 22 [y1] at g1
    obtain ⟨x1, e1, hx1⟩ := TR.nat1 Try.underlying22 rfl g1
    have g2 := h2 2 _ rfl
    change TR enc Try.prog w 30 (([y0, y1, y2].drop 2).take (Try.prog.cellsOf 30)) at g2
    rw [show Try.prog.cellsOf 30 = 1 from by kernel_rfl] at g2
    change TR enc Try.prog w 30 [y2] at g2
    obtain ⟨x2, e2, hx2⟩ := TR.bytes1 Try.underlying30 Try.underlying5 (by kernel_rfl) g2
    refine ⟨⟨x0, x1, x2⟩, ?_, ⟨hx0, hx1, hx2⟩⟩
    show [y0, y1, y2] = _
    rw [show [y0, y1, y2] = [y0] ++ [y1] ++ [y2] from rfl, e0, e1, e2]
    rfl
theorem Sat.left {w0 w : World} {Ls L : List HP} (hs : Sat w0 w (Ls ++ L)) : Sat w0 w Ls := hs.map fun h hh => let ⟨_, _, _, hA, _⟩ := SatH.unflat hh; hA.of_on
def RQ (x : Nat) (s : QSt) : HP := fun h => ∃ v, SatH [Blk x (.cells #[.int .u64 (s.view : Nat), .int .u64 (s.last : Nat), v] 29 (0, 0)), IR v (items s.first s.wait)] h
theorem Sat.rq {w0 w : World} {x : Nat} {s : QSt} {L : List HP} (hs : Sat w0 w (RQ x s :: L)) :
    ∃ ao c us, us.length = s.wait.length ∧ Sat w0 w (Blk x (.cells #[.int .u64 (s.view : Nat), .int .u64 (s.last : Nat), .slice ao s.wait.length c] 29 (0, 0)) :: Row 54 2 (.slice ao s.wait.length c) s.wait.length (icells ((items s.first s.wait).map (·.1)) us) :: EachB us s.wait :: L) := by
  obtain ⟨v, h⟩ := Sat.ex (F := fun v => SatH [Blk x (.cells #[.int .u64 (s.view : Nat), .int .u64 (s.last : Nat), v] 29 (0, 0)), IR v (items s.first s.wait)]) hs
  obtain ⟨us, h⟩ := (h.opn.pull 1).ir
  rw [items_len, items_snd] at h
  obtain ⟨ao, c, rfl⟩ := h.rd.val
  exact ⟨ao, c, us, h.tail.eachLen, h.perm [2, 0, 1]⟩
theorem Sat.rq' {w0 w : World} {x : Nat} {s : QSt} {v : Value} {us : List Value} {L : List HP} (hs : Sat w0 w (Blk x (.cells #[.int .u64 (s.view : Nat), .int .u64 (s.last : Nat), v] 29 (0, 0)) :: Row 54 2 v s.wait.length (icells ((items s.first s.wait).map (·.1)) us) :: EachB us s.wait :: L)) : Sat w0 w (RQ x s :: L) := by
  have h2 : Sat w0 w (Row 54 2 v (items s.first s.wait).length (icells ((items s.first s.wait).map (·.1)) us) :: EachB us ((items s.first s.wait).map (·.2)) :: Blk x (.cells #[.int .u64 (s.view : Nat), .int .u64 (s.last : Nat), v] 29 (0, 0)) :: L) := by
    rw [items_len, items_snd]
    exact hs.perm [1, 2, 0]
  exact (Sat.shut (Ls := [Blk x (.cells #[.int .u64 (s.view : Nat), .int .u64 (s.last : Nat), v] 29 (0, 0)), IR v (items s.first s.wait)]) (h2.ir'.pull 1)).head fun h hh => ⟨v, hh⟩
theorem rq_new {w0 w : World} {x v : Nat} {L : List HP} (hs : Sat w0 w (Blk x (.cells #[.int .u64 (v : Nat), .int .u64 0, .slice none 0 0] 29 (0, 0)) :: L)) : Sat w0 w (RQ x (QSt.new v) :: L) :=
  Sat.rq' (s := QSt.new v) (us := []) (((EachB.nil hs).rowNil (e := 54) (size := 2)).perm [2, 0, 1])
set_option maxHeartbeats 2000000 in
theorem rqput_calls {w0 w : World} {A : HP} {L : List HP} {x : Nat} {s : QSt} {v : Value} {l : List UInt8} (hs : Sat w0 w (RQ x s :: A :: L)) (hr : ∀ w' L', Sat w0 w' (A :: L') → RB w' v l) (hi : s.inv) :
    Calls Try.prog 13 #[.pointer (some ⟨x, 0, none⟩), v] w fun e w' => e = .returned (.tuple #[.int .u64 ((s.put l).1 : Nat), .int .i64 ((s.put l).2.1 : Nat)]) ∧ Sat w0 w' (RQ x (s.put l).2.2 :: A :: L) := by
  obtain ⟨ao, c, us, hul, hs⟩ := hs.rq
  obtain ⟨i1, i2, i3, i4, i5⟩ := hi
  obtain ⟨a1, c1, rfl⟩ := (hr _ _ (hs.pull 3)).val
  unfold QSt.put
  refine enter2 Try.func13 rfl Try.ntmps13 4 5 rfl (Nat.le_of_ble_eq_true rfl) ?_
  refine c_seq ?_
  -- region 0
  refine c_region ?_
  refine x_assign (.int _ _) rfl ?_
  refine x_assign (.int _ _) rfl ?_
  refine x_nil ?_
  refine then_n ?_
  refine c_seq ?_
  refine c_seq ?_
  -- region 1
  refine c_region ?_
  refine x_move (.slice _ _ _) rfl ?_
  refine x_lenSl Try.underlying30 _ _ _ rfl ?_
  refine x_gtr _ _ rfl rfl ?_
  refine x_nil ?_
  refine then_n ?_
  refine c_test _ rfl (fun hb => ?_) (fun hb => ?_)   -- cond t8
  · skip
    refine c_seq ?_
    -- region 2
    refine c_region ?_
    refine x_assign (.int _ _) rfl ?_
    refine x_assign (.int _ _) rfl ?_
    refine x_nil ?_
    refine then_n ?_
    refine c_ret ?_
    refine then_r ?_
    refine ⟨.inr rfl, ?_⟩
    rw [if_pos (by omega)]
    exact ⟨rfl, hs.rq'⟩
  · skip
    refine c_skip ?_
    refine then_n ?_
    refine c_seq ?_
    refine c_seq ?_
    -- region 3
    refine c_region ?_
    refine x_move (.pointer _) rfl ?_
    refine x_nilCheck _ rfl ?_
    first | refine x_field0 fa_29_2 _ rfl ?_ | refine x_field fa_29_2 _ _ rfl ?_
    refine x_load one_27 _ (.slice _ _ _) rfl (by first | exact hs.cell rfl | exact (hs.pull 1).cell rfl | exact (hs.pull 2).cell rfl | exact (hs.pull 3).cell rfl | assumption | exact (hs.pull 4).cell rfl | exact (hs.pull 5).cell rfl | exact (hs.pull 6).cell rfl | exact (hs.pull 7).cell rfl) ?_
    refine x_lenSl Try.underlying27 _ _ _ rfl ?_
    refine x_geq _ _ rfl rfl ?_
    refine x_nil ?_
    refine then_n ?_
    refine c_test _ rfl (fun hb => ?_) (fun hb => ?_)   -- cond t14
    · skip
      refine c_seq ?_
      -- region 4
      refine c_region ?_
      refine x_assign (.int _ _) rfl ?_
      refine x_assign (.int _ _) rfl ?_
      refine x_nil ?_
      refine then_n ?_
      refine c_ret ?_
      refine then_r ?_
      refine ⟨.inr rfl, ?_⟩
      rw [if_neg (by omega), if_pos (by omega)]
      exact ⟨rfl, hs.rq'⟩
    · skip
      refine c_skip ?_
      refine then_n ?_
      refine c_seq ?_
      -- region 5
      refine c_region ?_
      refine x_move (.pointer _) rfl ?_
      refine x_nilCheck _ rfl ?_
      first | refine x_field0 fa_29_1 _ rfl ?_ | refine x_field fa_29_1 _ _ rfl ?_
      refine x_load one_22 _ (.int _ _) rfl (by first | exact hs.cell rfl | exact (hs.pull 1).cell rfl | exact (hs.pull 2).cell rfl | exact (hs.pull 3).cell rfl | assumption | exact (hs.pull 4).cell rfl | exact (hs.pull 5).cell rfl | exact (hs.pull 6).cell rfl | exact (hs.pull 7).cell rfl) ?_
      refine x_add _ _ rfl rfl (by simp only [X.lo]; omega) (by simp only [X.hi]; omega) ?_
      refine x_nilCheck _ rfl ?_
      first | refine x_field0 fa_29_1 _ rfl ?_ | refine x_field fa_29_1 _ _ rfl ?_
      first
        | refine x_storeI hs 0 rfl rfl one_22 (.int _ _) rfl rfl rfl ?_
        | refine x_storeI hs 1 rfl rfl one_22 (.int _ _) rfl rfl rfl ?_
        | refine x_storeI hs 2 rfl rfl one_22 (.int _ _) rfl rfl rfl ?_
        | refine x_storeI hs 3 rfl rfl one_22 (.int _ _) rfl rfl rfl ?_
        | refine x_storeI hs 4 rfl rfl one_22 (.int _ _) rfl rfl rfl ?_
        | refine x_storeI hs 5 rfl rfl one_22 (.int _ _) rfl rfl rfl ?_
        | refine x_storeI hs 6 rfl rfl one_22 (.int _ _) rfl rfl rfl ?_
        | refine x_storeI hs 7 rfl rfl one_22 (.int _ _) rfl rfl rfl ?_
      clear hs; intro w hs
      try dsimp only [back, List.set_cons_zero, List.set_cons_succ] at hs
      refine ⟨fun h => (by first | (cases h; done) | (first | exact hs.cells2 rfl rfl | exact (hs.pull 1).cells2 rfl rfl | exact (hs.pull 2).cells2 rfl rfl | exact (hs.pull 3).cells2 rfl rfl | exact (hs.pull 4).cells2 rfl rfl | exact (hs.pull 5).cells2 rfl rfl | exact (hs.pull 6).cells2 rfl rfl | exact (hs.pull 7).cells2 rfl rfl | exact (hs.pull 8).cells2 rfl rfl | exact hs.cell rfl | exact (hs.pull 1).cell rfl | exact (hs.pull 2).cell rfl | exact (hs.pull 3).cell rfl | exact (hs.pull 4).cell rfl | exact (hs.pull 5).cell rfl | exact (hs.pull 6).cell rfl | exact (hs.pull 7).cell rfl | exact (hs.pull 8).cell rfl | assumption | exact hs.cellsOf | exact (hs.pull 1).cellsOf | exact (hs.pull 2).cellsOf | exact (hs.pull 3).cellsOf | exact (hs.pull 4).cellsOf | exact (hs.pull 5).cellsOf | exact (hs.pull 6).cellsOf | exact (hs.pull 7).cellsOf | exact (hs.pull 8).cellsOf) | (and_intros <;> first | exact hs.cells2 rfl rfl | exact (hs.pull 1).cells2 rfl rfl | exact (hs.pull 2).cells2 rfl rfl | exact (hs.pull 3).cells2 rfl rfl | exact (hs.pull 4).cells2 rfl rfl | exact (hs.pull 5).cells2 rfl rfl | exact (hs.pull 6).cells2 rfl rfl | exact (hs.pull 7).cells2 rfl rfl | exact (hs.pull 8).cells2 rfl rfl | exact hs.cell rfl | exact (hs.pull 1).cell rfl | exact (hs.pull 2).cell rfl | exact (hs.pull 3).cell rfl | exact (hs.pull 4).cell rfl | exact (hs.pull 5).cell rfl | exact (hs.pull 6).cell rfl | exact (hs.pull 7).cell rfl | exact (hs.pull 8).cell rfl | assumption | exact hs.cellsOf | exact (hs.pull 1).cellsOf | exact (hs.pull 2).cellsOf | exact (hs.pull 3).cellsOf | exact (hs.pull 4).cellsOf | exact (hs.pull 5).cellsOf | exact (hs.pull 6).cellsOf | exact (hs.pull 7).cellsOf | exact (hs.pull 8).cellsOf)), ?_⟩
      refine x_nil ?_
      refine then_n ?_
      refine c_seq ?_
      -- region 6 DRAWS
      refine c_draw (fun w => w.cell? ⟨x, 2, none⟩ = some (.slice ao s.wait.length c) ∧ w.cell? ⟨x, 1, none⟩ = some (.int .u64 (((s.last : Nat) : Int) + 1))) (fun i => !(Nat.beq i 14 || Nat.beq i 17)) [(0, 2), (1, 2), (2, 2), (3, 2), (4, 1), (5, 2), (6, 2), (7, 2), (8, 1), (10, 2), (9, 0), (11, 0), (12, 2), (13, 0), (14, 0), (15, 2), (16, 2), (17, 0)] (by kernel_rfl) (by kernel_rfl) (by kernel_rfl) (by kernel_rfl) ((by first | (first | exact hs.cells2 rfl rfl | exact (hs.pull 1).cells2 rfl rfl | exact (hs.pull 2).cells2 rfl rfl | exact (hs.pull 3).cells2 rfl rfl | exact (hs.pull 4).cells2 rfl rfl | exact (hs.pull 5).cells2 rfl rfl | exact (hs.pull 6).cells2 rfl rfl | exact (hs.pull 7).cells2 rfl rfl | exact (hs.pull 8).cells2 rfl rfl | exact hs.cell rfl | exact (hs.pull 1).cell rfl | exact (hs.pull 2).cell rfl | exact (hs.pull 3).cell rfl | exact (hs.pull 4).cell rfl | exact (hs.pull 5).cell rfl | exact (hs.pull 6).cell rfl | exact (hs.pull 7).cell rfl | exact (hs.pull 8).cell rfl | assumption | exact hs.cellsOf | exact (hs.pull 1).cellsOf | exact (hs.pull 2).cellsOf | exact (hs.pull 3).cellsOf | exact (hs.pull 4).cellsOf | exact (hs.pull 5).cellsOf | exact (hs.pull 6).cellsOf | exact (hs.pull 7).cellsOf | exact (hs.pull 8).cellsOf) | (and_intros <;> first | exact hs.cells2 rfl rfl | exact (hs.pull 1).cells2 rfl rfl | exact (hs.pull 2).cells2 rfl rfl | exact (hs.pull 3).cells2 rfl rfl | exact (hs.pull 4).cells2 rfl rfl | exact (hs.pull 5).cells2 rfl rfl | exact (hs.pull 6).cells2 rfl rfl | exact (hs.pull 7).cells2 rfl rfl | exact (hs.pull 8).cells2 rfl rfl | exact hs.cell rfl | exact (hs.pull 1).cell rfl | exact (hs.pull 2).cell rfl | exact (hs.pull 3).cell rfl | exact (hs.pull 4).cell rfl | exact (hs.pull 5).cell rfl | exact (hs.pull 6).cell rfl | exact (hs.pull 7).cell rfl | exact (hs.pull 8).cell rfl | assumption | exact hs.cellsOf | exact (hs.pull 1).cellsOf | exact (hs.pull 2).cellsOf | exact (hs.pull 3).cellsOf | exact (hs.pull 4).cellsOf | exact (hs.pull 5).cellsOf | exact (hs.pull 6).cellsOf | exact (hs.pull 7).cellsOf | exact (hs.pull 8).cellsOf))) ?_
      replace hs := hs.drew
      refine x_move (.pointer _) rfl ?_
      refine x_move (.pointer _) rfl ?_
      refine x_nilCheck _ rfl ?_
      first | refine x_field0 fa_29_2 _ rfl ?_ | refine x_field fa_29_2 _ _ rfl ?_
      refine h_load one_27 _ (.slice _ _ _) rfl (fun w hS => by first | exact hS.cell rfl | exact (hS.pull 1).cell rfl | exact (hS.pull 2).cell rfl | exact (hS.pull 3).cell rfl | exact (hS.pull 4).cell rfl | exact (hS.pull 5).cell rfl | exact (hS.pull 6).cell rfl | exact hS | exact hS.1 | exact hS.2 | exact hS.2.1 | exact hS.2.2 | exact hS.2.2.1 | exact hS.2.2.2 | exact hS.2.2.2.1 | exact hS.2.2.2.2) ?_
      refine x_move (.pointer _) rfl ?_
      refine x_nilCheck _ rfl ?_
      first | refine x_field0 fa_29_1 _ rfl ?_ | refine x_field fa_29_1 _ _ rfl ?_
      refine h_load one_22 _ (.int _ _) rfl (fun w hS => by first | exact hS.cell rfl | exact (hS.pull 1).cell rfl | exact (hS.pull 2).cell rfl | exact (hS.pull 3).cell rfl | exact (hS.pull 4).cell rfl | exact (hS.pull 5).cell rfl | exact (hS.pull 6).cell rfl | exact hS | exact hS.1 | exact hS.2 | exact hS.2.1 | exact hS.2.2 | exact hS.2.2.1 | exact hS.2.2.2 | exact hS.2.2.2.1 | exact hS.2.2.2.2) ?_
      refine x_move (.slice _ _ _) rfl ?_
      refine x_buildSlice _ [] hs rfl (fun w => bs_30_0 w) ?_; clear hs; intro b31 w hs; refine ⟨fun h => (by first | (cases h; done) | (first | exact hs.cells2 rfl rfl | exact (hs.pull 1).cells2 rfl rfl | exact (hs.pull 2).cells2 rfl rfl | exact (hs.pull 3).cells2 rfl rfl | exact (hs.pull 4).cells2 rfl rfl | exact (hs.pull 5).cells2 rfl rfl | exact (hs.pull 6).cells2 rfl rfl | exact (hs.pull 7).cells2 rfl rfl | exact (hs.pull 8).cells2 rfl rfl | exact hs.cell rfl | exact (hs.pull 1).cell rfl | exact (hs.pull 2).cell rfl | exact (hs.pull 3).cell rfl | exact (hs.pull 4).cell rfl | exact (hs.pull 5).cell rfl | exact (hs.pull 6).cell rfl | exact (hs.pull 7).cell rfl | exact (hs.pull 8).cell rfl | assumption | exact hs.cellsOf | exact (hs.pull 1).cellsOf | exact (hs.pull 2).cellsOf | exact (hs.pull 3).cellsOf | exact (hs.pull 4).cellsOf | exact (hs.pull 5).cellsOf | exact (hs.pull 6).cellsOf | exact (hs.pull 7).cellsOf | exact (hs.pull 8).cellsOf) | (and_intros <;> first | exact hs.cells2 rfl rfl | exact (hs.pull 1).cells2 rfl rfl | exact (hs.pull 2).cells2 rfl rfl | exact (hs.pull 3).cells2 rfl rfl | exact (hs.pull 4).cells2 rfl rfl | exact (hs.pull 5).cells2 rfl rfl | exact (hs.pull 6).cells2 rfl rfl | exact (hs.pull 7).cells2 rfl rfl | exact (hs.pull 8).cells2 rfl rfl | exact hs.cell rfl | exact (hs.pull 1).cell rfl | exact (hs.pull 2).cell rfl | exact (hs.pull 3).cell rfl | exact (hs.pull 4).cell rfl | exact (hs.pull 5).cell rfl | exact (hs.pull 6).cell rfl | exact (hs.pull 7).cell rfl | exact (hs.pull 8).cell rfl | assumption | exact hs.cellsOf | exact (hs.pull 1).cellsOf | exact (hs.pull 2).cellsOf | exact (hs.pull 3).cellsOf | exact (hs.pull 4).cellsOf | exact (hs.pull 5).cellsOf | exact (hs.pull 6).cellsOf | exact (hs.pull 7).cellsOf | exact (hs.pull 8).cellsOf)), ?_⟩
      refine x_append (row_blk (size := 1) (len := 0) hs rfl (by decide)) Try.underlying30 ei_5 (hr _ _ (hs.pull 4)) bv_one (by unfold maxLen; omega) (by omega) rfl rfl ?_
      clear hs; intro v w hs; refine ⟨fun h => (by first | (cases h; done) | (and_intros <;> first | exact hs.cell rfl | exact (hs.pull 1).cell rfl | exact (hs.pull 2).cell rfl | exact (hs.pull 3).cell rfl | exact (hs.pull 4).cell rfl | exact (hs.pull 5).cell rfl | exact (hs.pull 6).cell rfl)), ?_⟩
      rw [show 0 + l.length = l.length from Nat.zero_add _, show (#[] : Array Value).toList ++ bv l = bv l from rfl] at hs
      obtain ⟨a6, c6, rfl⟩ := hs.rd.val
      refine x_build _ [(0, (.int .u64 _)), (1, (.slice _ _ _))] rfl (fun w => bd_54_0_1 _ _ _ _ w) ?_
      refine x_buildSlice _ [(0, (.agg #[(.int .u64 _), (.slice _ _ _)]))] hs rfl (fun w => bs_27_1 _ _ _ _ w) ?_; clear hs; intro b35 w hs; refine ⟨fun h => (by first | (cases h; done) | (first | exact hs.cells2 rfl rfl | exact (hs.pull 1).cells2 rfl rfl | exact (hs.pull 2).cells2 rfl rfl | exact (hs.pull 3).cells2 rfl rfl | exact (hs.pull 4).cells2 rfl rfl | exact (hs.pull 5).cells2 rfl rfl | exact (hs.pull 6).cells2 rfl rfl | exact (hs.pull 7).cells2 rfl rfl | exact (hs.pull 8).cells2 rfl rfl | exact hs.cell rfl | exact (hs.pull 1).cell rfl | exact (hs.pull 2).cell rfl | exact (hs.pull 3).cell rfl | exact (hs.pull 4).cell rfl | exact (hs.pull 5).cell rfl | exact (hs.pull 6).cell rfl | exact (hs.pull 7).cell rfl | exact (hs.pull 8).cell rfl | assumption | exact hs.cellsOf | exact (hs.pull 1).cellsOf | exact (hs.pull 2).cellsOf | exact (hs.pull 3).cellsOf | exact (hs.pull 4).cellsOf | exact (hs.pull 5).cellsOf | exact (hs.pull 6).cellsOf | exact (hs.pull 7).cellsOf | exact (hs.pull 8).cellsOf) | (and_intros <;> first | exact hs.cells2 rfl rfl | exact (hs.pull 1).cells2 rfl rfl | exact (hs.pull 2).cells2 rfl rfl | exact (hs.pull 3).cells2 rfl rfl | exact (hs.pull 4).cells2 rfl rfl | exact (hs.pull 5).cells2 rfl rfl | exact (hs.pull 6).cells2 rfl rfl | exact (hs.pull 7).cells2 rfl rfl | exact (hs.pull 8).cells2 rfl rfl | exact hs.cell rfl | exact (hs.pull 1).cell rfl | exact (hs.pull 2).cell rfl | exact (hs.pull 3).cell rfl | exact (hs.pull 4).cell rfl | exact (hs.pull 5).cell rfl | exact (hs.pull 6).cell rfl | exact (hs.pull 7).cell rfl | exact (hs.pull 8).cell rfl | assumption | exact hs.cellsOf | exact (hs.pull 1).cellsOf | exact (hs.pull 2).cellsOf | exact (hs.pull 3).cellsOf | exact (hs.pull 4).cellsOf | exact (hs.pull 5).cellsOf | exact (hs.pull 6).cellsOf | exact (hs.pull 7).cellsOf | exact (hs.pull 8).cellsOf)), ?_⟩
      have hrd := rd_blk (size := 2) hs rfl
      refine x_append (hs.pull 3) Try.underlying27 ei_54 hrd (by intro u hu; simp at hu; rcases hu with rfl | rfl <;> rfl) (by unfold maxLen; omega) (by omega) rfl rfl ?_
      clear hs hrd; intro v w hs; refine ⟨fun h => (by cases h), ?_⟩
      obtain ⟨a7, c7, rfl⟩ := hs.rd.val
      have hfi : ({ s with last := s.last + 1, wait := s.wait ++ [l] } : QSt).first = s.first := by unfold QSt.first; simp
      have hfl : s.first + s.wait.length = s.last + 1 := by unfold QSt.first; omega
      have hwl : (s.wait ++ [l]).length = s.wait.length + 1 := by simp
      rw [show icells ((items s.first s.wait).map (·.1)) us ++ #[Value.int .u64 (((s.last : Nat) : Int) + 1), .slice a6 l.length c6].toList = icells ((items s.first (s.wait ++ [l])).map (·.1)) (us ++ [.slice a6 l.length c6]) from by
        rw [items_snoc, List.map_append, List.map_singleton, icells_snoc _ _ _ _ (by rw [List.length_map, items_len, hul]), hfl]; rfl, ← hwl] at hs
      have hs := ((hs.perm [4, 2, 0, 3, 1]).eachSnoc).perm [2, 1, 0]
      refine x_nilCheck _ rfl ?_
      first | refine x_field0 fa_29_2 _ rfl ?_ | refine x_field fa_29_2 _ _ rfl ?_
      first
        | refine x_storeI hs 0 rfl rfl one_27 (.slice _ _ _) rfl rfl rfl ?_
        | refine x_storeI hs 1 rfl rfl one_27 (.slice _ _ _) rfl rfl rfl ?_
        | refine x_storeI hs 2 rfl rfl one_27 (.slice _ _ _) rfl rfl rfl ?_
        | refine x_storeI hs 3 rfl rfl one_27 (.slice _ _ _) rfl rfl rfl ?_
        | refine x_storeI hs 4 rfl rfl one_27 (.slice _ _ _) rfl rfl rfl ?_
        | refine x_storeI hs 5 rfl rfl one_27 (.slice _ _ _) rfl rfl rfl ?_
        | refine x_storeI hs 6 rfl rfl one_27 (.slice _ _ _) rfl rfl rfl ?_
        | refine x_storeI hs 7 rfl rfl one_27 (.slice _ _ _) rfl rfl rfl ?_
      clear hs; intro w hs
      try dsimp only [back, List.set_cons_zero, List.set_cons_succ] at hs
      refine ⟨fun h => (by first | (cases h; done) | (first | exact hs.cells2 rfl rfl | exact (hs.pull 1).cells2 rfl rfl | exact (hs.pull 2).cells2 rfl rfl | exact (hs.pull 3).cells2 rfl rfl | exact (hs.pull 4).cells2 rfl rfl | exact (hs.pull 5).cells2 rfl rfl | exact (hs.pull 6).cells2 rfl rfl | exact (hs.pull 7).cells2 rfl rfl | exact (hs.pull 8).cells2 rfl rfl | exact hs.cell rfl | exact (hs.pull 1).cell rfl | exact (hs.pull 2).cell rfl | exact (hs.pull 3).cell rfl | exact (hs.pull 4).cell rfl | exact (hs.pull 5).cell rfl | exact (hs.pull 6).cell rfl | exact (hs.pull 7).cell rfl | exact (hs.pull 8).cell rfl | assumption | exact hs.cellsOf | exact (hs.pull 1).cellsOf | exact (hs.pull 2).cellsOf | exact (hs.pull 3).cellsOf | exact (hs.pull 4).cellsOf | exact (hs.pull 5).cellsOf | exact (hs.pull 6).cellsOf | exact (hs.pull 7).cellsOf | exact (hs.pull 8).cellsOf) | (and_intros <;> first | exact hs.cells2 rfl rfl | exact (hs.pull 1).cells2 rfl rfl | exact (hs.pull 2).cells2 rfl rfl | exact (hs.pull 3).cells2 rfl rfl | exact (hs.pull 4).cells2 rfl rfl | exact (hs.pull 5).cells2 rfl rfl | exact (hs.pull 6).cells2 rfl rfl | exact (hs.pull 7).cells2 rfl rfl | exact (hs.pull 8).cells2 rfl rfl | exact hs.cell rfl | exact (hs.pull 1).cell rfl | exact (hs.pull 2).cell rfl | exact (hs.pull 3).cell rfl | exact (hs.pull 4).cell rfl | exact (hs.pull 5).cell rfl | exact (hs.pull 6).cell rfl | exact (hs.pull 7).cell rfl | exact (hs.pull 8).cell rfl | assumption | exact hs.cellsOf | exact (hs.pull 1).cellsOf | exact (hs.pull 2).cellsOf | exact (hs.pull 3).cellsOf | exact (hs.pull 4).cellsOf | exact (hs.pull 5).cellsOf | exact (hs.pull 6).cellsOf | exact (hs.pull 7).cellsOf | exact (hs.pull 8).cellsOf)), ?_⟩
      refine x_nil ?_
      refine then_n ?_
      refine c_seq ?_
      -- region 7
      refine c_region ?_
      refine x_move (.pointer _) rfl ?_
      refine x_nilCheck _ rfl ?_
      first | refine x_field0 fa_29_1 _ rfl ?_ | refine x_field fa_29_1 _ _ rfl ?_
      refine x_load one_22 _ (.int _ _) rfl (by first | exact hs.cell rfl | exact (hs.pull 1).cell rfl | exact (hs.pull 2).cell rfl | exact (hs.pull 3).cell rfl | assumption | exact (hs.pull 4).cell rfl | exact (hs.pull 5).cell rfl | exact (hs.pull 6).cell rfl | exact (hs.pull 7).cell rfl) ?_
      refine x_assign (.int _ _) rfl ?_
      refine x_assign (.int _ _) rfl ?_
      refine x_nil ?_
      refine then_n ?_
      refine c_ret ?_
      refine ⟨.inr rfl, ?_⟩
      rw [if_neg (by omega), if_neg (by omega)]
      refine ⟨rfl, Sat.rq' (s := { s with last := s.last + 1, wait := s.wait ++ [l] }) (v := .slice a7 (s.wait ++ [l]).length c7) (us := us ++ [.slice a6 l.length c6]) ?_⟩
      rw [hfi]
      have hs2 : Sat w0 w (Blk x (.cells #[.int .u64 (s.view : Nat), .int .u64 ((s.last : Nat) + 1 : Int), .slice a7 (s.wait.length + 1) c7] 29 (0, 0)) :: Row 54 2 (.slice a7 (s.wait ++ [l]).length c7) (s.wait ++ [l]).length (icells ((items s.first (s.wait ++ [l])).map (·.1)) (us ++ [.slice a6 l.length c6])) :: EachB (us ++ [.slice a6 l.length c6]) (s.wait ++ [l]) :: A :: L) := (hs.pull 3).tail
      rw [← hwl] at hs2
      exact hs2
/-! ### Done -/
def QSt.cutw (s : QSt) (k : Nat) : QSt := { s with wait := s.wait.drop k }
theorem cutw_zero (s : QSt) : s.cutw 0 = s := by cases s; simp [QSt.cutw]
theorem cutw_cutw (s : QSt) (k : Nat) : (s.cutw k).cutw 1 = s.cutw (k + 1) := by simp [QSt.cutw]
theorem done_cut {s : QSt} {n k : Nat} (hi : s.inv) (h1 : k ≤ s.wait.length) (h2 : k = 0 ∨ s.first + k ≤ n + 1) (h3 : k = s.wait.length ∨ n < s.first + k) : s.done n = (k, s.cutw k) := by
  unfold QSt.done
  by_cases h : n < s.first
  · obtain rfl : k = 0 := by omega
    rw [if_pos h, cutw_zero]
  · rw [if_neg h, show min (n - s.first + 1) s.wait.length = k from by omega]
    rfl
set_option maxHeartbeats 4000000 in
theorem rqdone_calls {w0 w : World} {L : List HP} {x : Nat} {s : QSt} (n : Nat) (hs : Sat w0 w (RQ x s :: L)) (hi : s.inv) (hn : n ≤ 18446744073709551615) :
    Calls Try.prog 10 #[.pointer (some ⟨x, 0, none⟩), .int .u64 (n : Nat)] w fun e w' => e = .returned (.int .i64 ((s.done n).1 : Nat)) ∧ Sat w0 w' (RQ x (s.done n).2 :: L) := by
  refine enter Try.func10 rfl Try.ntmps10 4 rfl (Nat.le_of_ble_eq_true rfl) ?_
  refine c_seq ?_
  -- region 0
  refine c_region ?_
  refine x_assign (.int _ _) rfl ?_
  refine x_nil ?_
  refine then_n ?_
  refine c_seq ?_
  -- region 1
  refine c_region ?_
  refine x_assign (.int _ _) rfl ?_
  refine x_nil ?_
  refine then_n ?_
  refine c_seq ?_
  refine c_block ?_
  refine c_loop (γ := Nat) (fun (k : Nat) => [(0, .pointer (some ⟨x, 0, none⟩)), (1, .int .u64 (n : Nat)), (5, .int .i64 (k : Nat))]) (fun (k : Nat) w => k ≤ s.wait.length ∧ (k = 0 ∨ s.first + k ≤ n + 1) ∧ Sat w0 w (RQ x (s.cutw k) :: L)) (fun (k : Nat) => s.wait.length - k) 0 ⟨rfl, rfl, rfl, trivial⟩ ⟨Nat.zero_le _, .inl rfl, by rw [cutw_zero]; exact hs⟩ ?_
  clear hs
  rintro k ρ w ⟨hkl, hkn, hs⟩
  change CW Try.prog 34 _ _ (sets 34 [(0, .pointer (some ⟨x, 0, none⟩)), (1, .int .u64 (n : Nat)), (5, .int .i64 (k : Nat))] ρ) w
  have hcl : (s.cutw k).wait.length = s.wait.length - k := by simp [QSt.cutw]
  have hcf : (s.cutw k).first = s.first + k := by unfold QSt.first; rw [hcl]; show s.last + 1 - _ = _; have := hi.le; omega
  have hcc := cutw_cutw s k
  have hdone := done_cut (n := n) hi hkl hkn
  have hw6 := hi.len
  have hcF : (s.cutw k).last = s.last := rfl
  have hla := hi.last
  have hle := hi.le
  generalize s.cutw k = s' at *
  obtain ⟨a1, c1, us, hul, hs⟩ := hs.rq
  by_cases hz : s'.wait.length = 0
  rotate_left
  obtain ⟨g, o1, rfl⟩ := (hs.pull 1).rowAddr (show 0 < s'.wait.length by omega)
  have hcell : w.cell? ⟨g, o1 + 0 * 2 + 0, none⟩ = some (.int .u64 (s'.first : Nat)) := by
    obtain ⟨b, hb⟩ : ∃ b, s'.wait[0]? = some b := ⟨s'.wait[0]'(by omega), List.getElem?_eq_getElem _⟩
    have h1 : ((items s'.first s'.wait).map (·.1))[0]? = some s'.first := by rw [List.getElem?_map, items_get _ _ _ _ hb]; rfl
    exact (hs.pull 1).rowCell (icells_get _ us 0 _ _ h1 (List.getElem?_eq_getElem (by omega))).1
  by_cases h2 : s'.first ≤ n
  · skip
    refine c_seq ?_
    refine c_seq ?_
    -- region 2
    refine c_region ?_
    refine x_move (.pointer _) rfl ?_
    refine x_nilCheck _ rfl ?_
    first | refine x_field0 fa_29_2 _ rfl ?_ | refine x_field fa_29_2 _ _ rfl ?_
    refine x_load one_27 _ (.slice _ _ _) rfl (by first | exact hs.cell rfl | exact (hs.pull 1).cell rfl | exact (hs.pull 2).cell rfl | exact (hs.pull 3).cell rfl | assumption | exact (hs.pull 4).cell rfl | exact (hs.pull 5).cell rfl | exact (hs.pull 6).cell rfl | exact (hs.pull 7).cell rfl) ?_
    refine x_lenSl Try.underlying27 _ _ _ rfl ?_
    refine x_gtrT _ _ rfl rfl (by omega) ?_
    refine x_move (.bool _) rfl ?_
    refine x_want' rfl ?_
    refine x_move (.pointer _) rfl ?_
    refine x_want' rfl ?_
    refine x_nilCheck _ rfl ?_
    refine x_want' rfl ?_
    first | refine x_field0 fa_29_2 _ rfl ?_ | refine x_field fa_29_2 _ _ rfl ?_
    refine x_want' rfl ?_
    refine x_load one_27 _ (.slice _ _ _) rfl (by first | exact hs.cell rfl | exact (hs.pull 1).cell rfl | exact (hs.pull 2).cell rfl | exact (hs.pull 3).cell rfl | assumption | exact (hs.pull 4).cell rfl | exact (hs.pull 5).cell rfl | exact (hs.pull 6).cell rfl | exact (hs.pull 7).cell rfl) ?_
    refine x_want' rfl ?_
    refine x_indexAddr Try.underlying27 sz_54 _ _ _ _ 0 rfl rfl (by omega) ?_
    refine x_want' rfl ?_
    first | refine x_field0 fa_54_0 _ rfl ?_ | refine x_field fa_54_0 _ _ rfl ?_
    refine x_want' rfl ?_
    refine x_load one_22 _ (.int _ _) rfl (by first | exact hs.cell rfl | exact (hs.pull 1).cell rfl | exact (hs.pull 2).cell rfl | exact (hs.pull 3).cell rfl | assumption | exact (hs.pull 4).cell rfl | exact (hs.pull 5).cell rfl | exact (hs.pull 6).cell rfl | exact (hs.pull 7).cell rfl) ?_
    refine x_want' rfl ?_
    refine x_move (.int _ _) rfl ?_
    refine x_want' rfl ?_
    refine x_leqT _ _ rfl rfl (by omega) ?_
    refine x_pickT (.bool _) rfl rfl ?_
    refine x_nil ?_
    refine then_n ?_
    refine c_true rfl ?_
    refine c_skip ?_
    refine then_n ?_
    refine c_block ?_
    refine c_seq ?_
    -- region 3
    refine c_region ?_
    refine x_move (.pointer _) rfl ?_
    refine x_move (.pointer _) rfl ?_
    refine x_nilCheck _ rfl ?_
    first | refine x_field0 fa_29_2 _ rfl ?_ | refine x_field fa_29_2 _ _ rfl ?_
    refine x_load one_27 _ (.slice _ _ _) rfl (by first | exact hs.cell rfl | exact (hs.pull 1).cell rfl | exact (hs.pull 2).cell rfl | exact (hs.pull 3).cell rfl | assumption | exact (hs.pull 4).cell rfl | exact (hs.pull 5).cell rfl | exact (hs.pull 6).cell rfl | exact (hs.pull 7).cell rfl) ?_
    refine x_slice Try.underlying27 sz_54 (lo := some _) (hi := none) (some ⟨g, o1, none⟩) s'.wait.length c1 1 s'.wait.length rfl (.inr ⟨_, rfl⟩) (.inl ⟨rfl, rfl⟩) (by omega) (by obtain ⟨_, _, _, e, h', _⟩ := (hs.pull 1).rd; cases e; omega) ?_
    refine x_nilCheck _ rfl ?_
    first | refine x_field0 fa_29_2 _ rfl ?_ | refine x_field fa_29_2 _ _ rfl ?_
    first
      | refine x_storeI hs 0 rfl rfl one_27 (.slice _ _ _) rfl rfl rfl ?_
      | refine x_storeI hs 1 rfl rfl one_27 (.slice _ _ _) rfl rfl rfl ?_
      | refine x_storeI hs 2 rfl rfl one_27 (.slice _ _ _) rfl rfl rfl ?_
      | refine x_storeI hs 3 rfl rfl one_27 (.slice _ _ _) rfl rfl rfl ?_
      | refine x_storeI hs 4 rfl rfl one_27 (.slice _ _ _) rfl rfl rfl ?_
      | refine x_storeI hs 5 rfl rfl one_27 (.slice _ _ _) rfl rfl rfl ?_
      | refine x_storeI hs 6 rfl rfl one_27 (.slice _ _ _) rfl rfl rfl ?_
      | refine x_storeI hs 7 rfl rfl one_27 (.slice _ _ _) rfl rfl rfl ?_
    clear hs; intro w hs
    try dsimp only [back, List.set_cons_zero, List.set_cons_succ] at hs
    refine ⟨fun h => (by first | (cases h; done) | (first | exact hs.cells2 rfl rfl | exact (hs.pull 1).cells2 rfl rfl | exact (hs.pull 2).cells2 rfl rfl | exact (hs.pull 3).cells2 rfl rfl | exact (hs.pull 4).cells2 rfl rfl | exact (hs.pull 5).cells2 rfl rfl | exact (hs.pull 6).cells2 rfl rfl | exact (hs.pull 7).cells2 rfl rfl | exact (hs.pull 8).cells2 rfl rfl | exact hs.cell rfl | exact (hs.pull 1).cell rfl | exact (hs.pull 2).cell rfl | exact (hs.pull 3).cell rfl | exact (hs.pull 4).cell rfl | exact (hs.pull 5).cell rfl | exact (hs.pull 6).cell rfl | exact (hs.pull 7).cell rfl | exact (hs.pull 8).cell rfl | assumption | exact hs.cellsOf | exact (hs.pull 1).cellsOf | exact (hs.pull 2).cellsOf | exact (hs.pull 3).cellsOf | exact (hs.pull 4).cellsOf | exact (hs.pull 5).cellsOf | exact (hs.pull 6).cellsOf | exact (hs.pull 7).cellsOf | exact (hs.pull 8).cellsOf) | (and_intros <;> first | exact hs.cells2 rfl rfl | exact (hs.pull 1).cells2 rfl rfl | exact (hs.pull 2).cells2 rfl rfl | exact (hs.pull 3).cells2 rfl rfl | exact (hs.pull 4).cells2 rfl rfl | exact (hs.pull 5).cells2 rfl rfl | exact (hs.pull 6).cells2 rfl rfl | exact (hs.pull 7).cells2 rfl rfl | exact (hs.pull 8).cells2 rfl rfl | exact hs.cell rfl | exact (hs.pull 1).cell rfl | exact (hs.pull 2).cell rfl | exact (hs.pull 3).cell rfl | exact (hs.pull 4).cell rfl | exact (hs.pull 5).cell rfl | exact (hs.pull 6).cell rfl | exact (hs.pull 7).cell rfl | exact (hs.pull 8).cell rfl | assumption | exact hs.cellsOf | exact (hs.pull 1).cellsOf | exact (hs.pull 2).cellsOf | exact (hs.pull 3).cellsOf | exact (hs.pull 4).cellsOf | exact (hs.pull 5).cellsOf | exact (hs.pull 6).cellsOf | exact (hs.pull 7).cellsOf | exact (hs.pull 8).cellsOf)), ?_⟩
    refine x_nil ?_
    refine then_n ?_
    -- region 4
    refine c_region ?_
    refine x_move (.int _ _) rfl ?_
    refine x_add _ _ rfl rfl (by simp only [X.lo]; omega) (by simp only [X.hi]; omega) ?_
    refine x_assign (.int _ _) rfl ?_
    refine x_nil ?_
    refine inb_n ?_
    refine then_n ?_
    have hn1 : (s'.cutw 1).wait.length = s'.wait.length - 1 := by simp [QSt.cutw]
    have hf1 : (s'.cutw 1).first = s'.first + 1 := by unfold QSt.first; rw [hn1]; show s'.last + 1 - _ = _; omega
    have hs := row_slice (i := 1) (j := s'.wait.length) (hs.pull 1) (by omega) (Nat.le_refl _)
    rw [icells_drop 1 _ _ (by rw [List.length_map, items_len, hul]), List.take_of_length_le (by rw [icells_len _ _ (by simp [items_len, hul])]; simp [items_len]), ← List.map_drop, items_drop] at hs
    have hs := ((hs.pull 2).eachDrop 1).perm [2, 1, 0]
    rw [← hf1] at hs
    refine ⟨k + 1, ⟨rfl, rfl, rfl, trivial⟩, ⟨by omega, .inr (by omega), by rw [← hcc]; refine Sat.rq' (s := s'.cutw 1) (v := slVal (some ⟨g, o1, none⟩) s'.wait.length c1 1 s'.wait.length 2) (us := us.drop 1) ?_; rw [hn1]; exact hs⟩, by first | omega | (dsimp only; omega)⟩
  · skip
    refine c_seq ?_
    refine c_seq ?_
    -- region 2
    refine c_region ?_
    refine x_move (.pointer _) rfl ?_
    refine x_nilCheck _ rfl ?_
    first | refine x_field0 fa_29_2 _ rfl ?_ | refine x_field fa_29_2 _ _ rfl ?_
    refine x_load one_27 _ (.slice _ _ _) rfl (by first | exact hs.cell rfl | exact (hs.pull 1).cell rfl | exact (hs.pull 2).cell rfl | exact (hs.pull 3).cell rfl | assumption | exact (hs.pull 4).cell rfl | exact (hs.pull 5).cell rfl | exact (hs.pull 6).cell rfl | exact (hs.pull 7).cell rfl) ?_
    refine x_lenSl Try.underlying27 _ _ _ rfl ?_
    refine x_gtrT _ _ rfl rfl (by omega) ?_
    refine x_move (.bool _) rfl ?_
    refine x_want' rfl ?_
    refine x_move (.pointer _) rfl ?_
    refine x_want' rfl ?_
    refine x_nilCheck _ rfl ?_
    refine x_want' rfl ?_
    first | refine x_field0 fa_29_2 _ rfl ?_ | refine x_field fa_29_2 _ _ rfl ?_
    refine x_want' rfl ?_
    refine x_load one_27 _ (.slice _ _ _) rfl (by first | exact hs.cell rfl | exact (hs.pull 1).cell rfl | exact (hs.pull 2).cell rfl | exact (hs.pull 3).cell rfl | assumption | exact (hs.pull 4).cell rfl | exact (hs.pull 5).cell rfl | exact (hs.pull 6).cell rfl | exact (hs.pull 7).cell rfl) ?_
    refine x_want' rfl ?_
    refine x_indexAddr Try.underlying27 sz_54 _ _ _ _ 0 rfl rfl (by omega) ?_
    refine x_want' rfl ?_
    first | refine x_field0 fa_54_0 _ rfl ?_ | refine x_field fa_54_0 _ _ rfl ?_
    refine x_want' rfl ?_
    refine x_load one_22 _ (.int _ _) rfl (by first | exact hs.cell rfl | exact (hs.pull 1).cell rfl | exact (hs.pull 2).cell rfl | exact (hs.pull 3).cell rfl | assumption | exact (hs.pull 4).cell rfl | exact (hs.pull 5).cell rfl | exact (hs.pull 6).cell rfl | exact (hs.pull 7).cell rfl) ?_
    refine x_want' rfl ?_
    refine x_move (.int _ _) rfl ?_
    refine x_want' rfl ?_
    refine x_leqF _ _ rfl rfl (by omega) ?_
    refine x_pickT (.bool _) rfl rfl ?_
    refine x_nil ?_
    refine then_n ?_
    refine c_false rfl ?_
    refine c_exit ?_
    refine then_x ?_
    refine then_x ?_
    refine inb_e ?_
    refine then_n ?_
    refine c_seq ?_
    -- region 5
    refine c_region ?_
    refine x_move (.int _ _) rfl ?_
    refine x_assign (.int _ _) rfl ?_
    refine x_nil ?_
    refine then_n ?_
    refine c_ret ?_
    refine ⟨.inr rfl, ?_⟩
    rw [hdone (by omega)]
    exact ⟨rfl, hs.rq'⟩
  · skip
    refine c_seq ?_
    refine c_seq ?_
    -- region 2
    refine c_region ?_
    refine x_move (.pointer _) rfl ?_
    refine x_nilCheck _ rfl ?_
    first | refine x_field0 fa_29_2 _ rfl ?_ | refine x_field fa_29_2 _ _ rfl ?_
    refine x_load one_27 _ (.slice _ _ _) rfl (by first | exact hs.cell rfl | exact (hs.pull 1).cell rfl | exact (hs.pull 2).cell rfl | exact (hs.pull 3).cell rfl | assumption | exact (hs.pull 4).cell rfl | exact (hs.pull 5).cell rfl | exact (hs.pull 6).cell rfl | exact (hs.pull 7).cell rfl) ?_
    refine x_lenSl Try.underlying27 _ _ _ rfl ?_
    refine x_gtrF _ _ rfl rfl (by omega) ?_
    refine x_move (.bool _) rfl ?_
    refine x_skip rfl rfl ?_
    refine x_skip rfl rfl ?_
    refine x_skip rfl rfl ?_
    refine x_skip rfl rfl ?_
    refine x_skip rfl rfl ?_
    refine x_skip rfl rfl ?_
    refine x_skip rfl rfl ?_
    refine x_skip rfl rfl ?_
    refine x_skip rfl rfl ?_
    refine x_pickF (.bool _) rfl rfl ?_
    refine x_nil ?_
    refine then_n ?_
    refine c_false rfl ?_
    refine c_exit ?_
    refine then_x ?_
    refine then_x ?_
    refine inb_e ?_
    refine then_n ?_
    refine c_seq ?_
    -- region 5
    refine c_region ?_
    refine x_move (.int _ _) rfl ?_
    refine x_assign (.int _ _) rfl ?_
    refine x_nil ?_
    refine then_n ?_
    refine c_ret ?_
    refine ⟨.inr rfl, ?_⟩
    rw [hdone (by omega)]
    exact ⟨rfl, hs.rq'⟩
theorem sameitems_same {w0 w1 : World} {L : List HP} {v1 v2 : Value} {l : List Item} (hs : Sat w0 w1 L) (h1 : RI w1 v1 l) (h2 : RI w1 v2 l) (hlen1 : l.length ≤ 1000000000000) :
    Calls Try.prog 14 #[v1, v2] w1 fun e w' => e = .returned (.bool true) ∧ Sat w0 w' L := by
  refine (sameitems_calls hs h1 h2 hlen1).mono fun e w ⟨h, hs, _⟩ => ?_
  rw [decide_eq_true rfl] at h
  exact ⟨h, hs⟩
theorem bv_bytes (B : List UInt8) : ∀ u ∈ bv B, ∃ k : Nat, u = .int .u8 (k : Nat) ∧ k < 256 := fun u hu => by
  obtain ⟨y, _, rfl⟩ := List.mem_map.1 hu
  exact ⟨y.toNat, rfl, y.toNat_lt⟩
theorem set_bytes {xs : List Value} {j k : Nat} (h : ∀ u ∈ xs, ∃ k : Nat, u = .int .u8 (k : Nat) ∧ k < 256) (hk : k < 256) : ∀ u ∈ xs.set j (.int .u8 (k : Nat)), ∃ k : Nat, u = .int .u8 (k : Nat) ∧ k < 256 := fun u hu => by
  rcases List.mem_or_eq_of_mem_set hu with hu | rfl
  · exact h u hu
  · exact ⟨k, rfl, hk⟩
theorem ri_rq {w0 w : World} {v : Value} {b : Nat} {us : List Value} {l : List (List UInt8)} {L : List HP} (hs : Sat w0 w (Row 54 2 v l.length (icells ((items b l).map (·.1)) us) :: EachB us l :: L)) : RI w v (items b l) := by
  have h2 : Sat w0 w (Row 54 2 v (items b l).length (icells ((items b l).map (·.1)) us) :: EachB us ((items b l).map (·.2)) :: L) := by
    rw [items_len, items_snd]
    exact hs
  exact h2.ir'.ri
theorem put_last (s : QSt) (l : List UInt8) : (s.put l).2.2.last ≤ s.last + 1 := by
  unfold QSt.put
  split
  · exact Nat.le_succ _
  · split
    · exact Nat.le_succ _
    · exact Nat.le_refl _
set_option maxHeartbeats 8000000 in
theorem walk_QueuePlays {H : Type} {enc : TypeId × Value → H} {w0 : World} {x0 : Int} {a1 : Option Addr} {l1 c1 : Nat} (h0 : TR enc Try.prog w0 22 [.int .u64 x0]) (h1 : TR enc Try.prog w0 23 [.slice a1 l1 c1]) :
    Calls Try.prog 3 #[.int .u64 x0, .slice a1 l1 c1] w0 fun e w' => e = .returned (.bool true) ∧ Below w0.heap.size w0 w' := by
  obtain ⟨vw, hvw, hvb⟩ := h0.nat Try.underlying22 rfl
  obtain rfl : x0 = (vw : Int) := by simpa using hvw
  simp only [Go.Proofs.Ytfnfpajjggbipaa.X.hi] at hvb
  obtain ⟨acts, rfl, hrd, hlen, hfa⟩ := TR.arg (k := 3) Try.underlying23 (by kernel_rfl) (by decide) (fun r hr => TR.Act hr) h1
  refine law_of fun w hs => ?_
  have hin : ∀ w' L', Sat w0 w' (Init w0 :: L') → RS w' 3 Act.cells (.slice a1 acts.length c1) acts := fun w' L' h => hrd.below h.init
  clear h0 h1 hvw
  refine enter Try.func3 rfl Try.ntmps3 4 rfl (Nat.le_of_ble_eq_true rfl) ?_
  refine c_seq ?_
  -- region 0
  refine c_region ?_
  refine x_assign (.bool _) rfl ?_
  refine x_nil ?_
  refine then_n ?_
  refine c_seq ?_
  -- region 1
  refine c_region ?_
  refine x_move (.int _ _) rfl ?_
  refine x_call Try.f6 Try.func6 rfl rfl _ rfl ?_
  refine (qnew_calls vw hs).mono ?_
  clear hs; rintro e w ⟨q, rfl, hs⟩
  refine ⟨_, rfl, fun h => (by first | (cases h; done) | (first | exact hs.cells2 rfl rfl | exact (hs.pull 1).cells2 rfl rfl | exact (hs.pull 2).cells2 rfl rfl | exact (hs.pull 3).cells2 rfl rfl | exact (hs.pull 4).cells2 rfl rfl | exact (hs.pull 5).cells2 rfl rfl | exact (hs.pull 6).cells2 rfl rfl | exact (hs.pull 7).cells2 rfl rfl | exact (hs.pull 8).cells2 rfl rfl | exact hs.cell rfl | exact (hs.pull 1).cell rfl | exact (hs.pull 2).cell rfl | exact (hs.pull 3).cell rfl | exact (hs.pull 4).cell rfl | exact (hs.pull 5).cell rfl | exact (hs.pull 6).cell rfl | exact (hs.pull 7).cell rfl | exact (hs.pull 8).cell rfl | assumption | exact hs.cellsOf | exact (hs.pull 1).cellsOf | exact (hs.pull 2).cellsOf | exact (hs.pull 3).cellsOf | exact (hs.pull 4).cellsOf | exact (hs.pull 5).cellsOf | exact (hs.pull 6).cellsOf | exact (hs.pull 7).cellsOf | exact (hs.pull 8).cellsOf) | (and_intros <;> first | exact hs.cells2 rfl rfl | exact (hs.pull 1).cells2 rfl rfl | exact (hs.pull 2).cells2 rfl rfl | exact (hs.pull 3).cells2 rfl rfl | exact (hs.pull 4).cells2 rfl rfl | exact (hs.pull 5).cells2 rfl rfl | exact (hs.pull 6).cells2 rfl rfl | exact (hs.pull 7).cells2 rfl rfl | exact (hs.pull 8).cells2 rfl rfl | exact hs.cell rfl | exact (hs.pull 1).cell rfl | exact (hs.pull 2).cell rfl | exact (hs.pull 3).cell rfl | exact (hs.pull 4).cell rfl | exact (hs.pull 5).cell rfl | exact (hs.pull 6).cell rfl | exact (hs.pull 7).cell rfl | exact (hs.pull 8).cell rfl | assumption | exact hs.cellsOf | exact (hs.pull 1).cellsOf | exact (hs.pull 2).cellsOf | exact (hs.pull 3).cellsOf | exact (hs.pull 4).cellsOf | exact (hs.pull 5).cellsOf | exact (hs.pull 6).cellsOf | exact (hs.pull 7).cellsOf | exact (hs.pull 8).cellsOf)), ?_⟩
  refine x_move (.int _ _) rfl ?_
  refine x_build _ [(0, (.int .u64 _))] rfl (fun w => bd_29_0 _ w) ?_
  refine x_box hs (.agg #[_, _, _]) rfl ?_; clear hs; intro b20 w hs; refine ⟨fun h => (by first | (cases h; done) | (first | exact hs.cells2 rfl rfl | exact (hs.pull 1).cells2 rfl rfl | exact (hs.pull 2).cells2 rfl rfl | exact (hs.pull 3).cells2 rfl rfl | exact (hs.pull 4).cells2 rfl rfl | exact (hs.pull 5).cells2 rfl rfl | exact (hs.pull 6).cells2 rfl rfl | exact (hs.pull 7).cells2 rfl rfl | exact (hs.pull 8).cells2 rfl rfl | exact hs.cell rfl | exact (hs.pull 1).cell rfl | exact (hs.pull 2).cell rfl | exact (hs.pull 3).cell rfl | exact (hs.pull 4).cell rfl | exact (hs.pull 5).cell rfl | exact (hs.pull 6).cell rfl | exact (hs.pull 7).cell rfl | exact (hs.pull 8).cell rfl | assumption | exact hs.cellsOf | exact (hs.pull 1).cellsOf | exact (hs.pull 2).cellsOf | exact (hs.pull 3).cellsOf | exact (hs.pull 4).cellsOf | exact (hs.pull 5).cellsOf | exact (hs.pull 6).cellsOf | exact (hs.pull 7).cellsOf | exact (hs.pull 8).cellsOf) | (and_intros <;> first | exact hs.cells2 rfl rfl | exact (hs.pull 1).cells2 rfl rfl | exact (hs.pull 2).cells2 rfl rfl | exact (hs.pull 3).cells2 rfl rfl | exact (hs.pull 4).cells2 rfl rfl | exact (hs.pull 5).cells2 rfl rfl | exact (hs.pull 6).cells2 rfl rfl | exact (hs.pull 7).cells2 rfl rfl | exact (hs.pull 8).cells2 rfl rfl | exact hs.cell rfl | exact (hs.pull 1).cell rfl | exact (hs.pull 2).cell rfl | exact (hs.pull 3).cell rfl | exact (hs.pull 4).cell rfl | exact (hs.pull 5).cell rfl | exact (hs.pull 6).cell rfl | exact (hs.pull 7).cell rfl | exact (hs.pull 8).cell rfl | assumption | exact hs.cellsOf | exact (hs.pull 1).cellsOf | exact (hs.pull 2).cellsOf | exact (hs.pull 3).cellsOf | exact (hs.pull 4).cellsOf | exact (hs.pull 5).cellsOf | exact (hs.pull 6).cellsOf | exact (hs.pull 7).cellsOf | exact (hs.pull 8).cellsOf)), ?_⟩
  refine x_assign (.pointer _) rfl ?_
  refine x_assign (.pointer _) rfl ?_
  refine x_nil ?_
  refine then_n ?_
  refine c_seq ?_
  refine c_seq ?_
  -- region 2
  refine c_region ?_
  refine x_assign (.int _ _) rfl ?_
  refine x_nil ?_
  refine then_n ?_
  refine c_block ?_
  refine c_loop (γ := Nat × QSt × Nat) (fun (⟨i, s, x⟩ : Nat × QSt × Nat) => [(1, .slice a1 acts.length c1), (5, .pointer (some ⟨q, 0, none⟩)), (6, .pointer (some ⟨x, 0, none⟩)), (7, .int .i64 (i : Nat))]) (fun (⟨i, s, x⟩ : Nat × QSt × Nat) w => i ≤ 100 ∧ s.last ≤ i ∧ s.inv ∧ Sat w0 w (QObj q s :: RQ x s :: [Init w0])) (fun (⟨i, s, x⟩ : Nat × QSt × Nat) => 100 - i) (0, QSt.new vw, b20) ⟨rfl, rfl, rfl, rfl, trivial⟩ ⟨Nat.zero_le _, Nat.le_refl _, QSt.new_inv (by omega), (rq_new hs).perm [1, 0]⟩ ?_
  clear hs
  rintro ⟨i, s, x⟩ ρ w ⟨hi, hla, hinv, hs⟩
  change CW Try.prog 150 _ _ (sets 150 [(1, .slice a1 acts.length c1), (5, .pointer (some ⟨q, 0, none⟩)), (6, .pointer (some ⟨x, 0, none⟩)), (7, .int .i64 (i : Nat))] ρ) w
  by_cases h1 : i < acts.length
  by_cases h2 : i < 100
  · skip
    refine c_seq ?_
    refine c_seq ?_
    -- region 3
    refine c_region ?_
    refine x_move (.int _ _) rfl ?_
    refine x_move (.slice _ _ _) rfl ?_
    refine x_lenSl Try.underlying23 _ _ _ rfl ?_
    refine x_lssT _ _ rfl rfl (by omega) ?_
    refine x_move (.bool _) rfl ?_
    refine x_want' rfl ?_
    refine x_move (.int _ _) rfl ?_
    refine x_want' rfl ?_
    refine x_lssT _ _ rfl rfl (by omega) ?_
    refine x_pickT (.bool _) rfl rfl ?_
    refine x_nil ?_
    refine then_n ?_
    refine c_true rfl ?_
    refine c_skip ?_
    refine then_n ?_
    refine c_seq ?_
    refine c_block ?_
    refine c_seq ?_
    -- region 5
    obtain ⟨y, hy⟩ : ∃ x, acts[i]? = some x := ⟨acts[i]'h1, List.getElem?_eq_getElem _⟩
    have hR := hin _ _ (hs.pull 2)
    have hfx := hfa y (List.mem_of_getElem? hy)
    obtain ⟨g, og, rfl⟩ := hR.addr (by omega)
    obtain ⟨Kind, N, ⟨vB, B⟩⟩ := y
    obtain ⟨a2, c2, rfl⟩ : ∃ a c, vB = .slice a B.length c := hfx.B.1.val
    have hN := hfx.N
    have hrB : ∀ w' L', Sat w0 w' (Init w0 :: L') → RB w' (.slice a2 B.length c2) B := fun w' L' h => RD.below hfx.B.1 h.init
    have hcells := hR.all (fun a => a.cells_len) hy
    dsimp only at hN
    have hw6 := hinv.len
    refine c_region ?_
    refine x_move (.slice _ _ _) rfl ?_
    refine x_move (.int _ _) rfl ?_
    refine x_indexAddr Try.underlying23 sz_32 _ _ _ _ _ rfl rfl (by omega) ?_
    refine x_loadN [.int .i64 Kind, .int .u64 (N : Nat), .slice a2 B.length c2] agg_32 _ rfl hcells ?_
    refine x_alloc zi_32 hs ?_; clear hs; intro b8 w hs; refine ⟨fun h => (by first | (cases h; done) | (first | exact hs.cells2 rfl rfl | exact (hs.pull 1).cells2 rfl rfl | exact (hs.pull 2).cells2 rfl rfl | exact (hs.pull 3).cells2 rfl rfl | exact (hs.pull 4).cells2 rfl rfl | exact (hs.pull 5).cells2 rfl rfl | exact (hs.pull 6).cells2 rfl rfl | exact (hs.pull 7).cells2 rfl rfl | exact (hs.pull 8).cells2 rfl rfl | exact hs.cell rfl | exact (hs.pull 1).cell rfl | exact (hs.pull 2).cell rfl | exact (hs.pull 3).cell rfl | exact (hs.pull 4).cell rfl | exact (hs.pull 5).cell rfl | exact (hs.pull 6).cell rfl | exact (hs.pull 7).cell rfl | exact (hs.pull 8).cell rfl | assumption | exact hs.cellsOf | exact (hs.pull 1).cellsOf | exact (hs.pull 2).cellsOf | exact (hs.pull 3).cellsOf | exact (hs.pull 4).cellsOf | exact (hs.pull 5).cellsOf | exact (hs.pull 6).cellsOf | exact (hs.pull 7).cellsOf | exact (hs.pull 8).cellsOf) | (and_intros <;> first | exact hs.cells2 rfl rfl | exact (hs.pull 1).cells2 rfl rfl | exact (hs.pull 2).cells2 rfl rfl | exact (hs.pull 3).cells2 rfl rfl | exact (hs.pull 4).cells2 rfl rfl | exact (hs.pull 5).cells2 rfl rfl | exact (hs.pull 6).cells2 rfl rfl | exact (hs.pull 7).cells2 rfl rfl | exact (hs.pull 8).cells2 rfl rfl | exact hs.cell rfl | exact (hs.pull 1).cell rfl | exact (hs.pull 2).cell rfl | exact (hs.pull 3).cell rfl | exact (hs.pull 4).cell rfl | exact (hs.pull 5).cell rfl | exact (hs.pull 6).cell rfl | exact (hs.pull 7).cell rfl | exact (hs.pull 8).cell rfl | assumption | exact hs.cellsOf | exact (hs.pull 1).cellsOf | exact (hs.pull 2).cellsOf | exact (hs.pull 3).cellsOf | exact (hs.pull 4).cellsOf | exact (hs.pull 5).cellsOf | exact (hs.pull 6).cellsOf | exact (hs.pull 7).cellsOf | exact (hs.pull 8).cellsOf)), ?_⟩
    first
      | refine x_storeAllI hs 0 rfl rfl agg_32 [_, _, _] rfl rfl rfl rfl ?_
      | refine x_storeAllI hs 1 rfl rfl agg_32 [_, _, _] rfl rfl rfl rfl ?_
      | refine x_storeAllI hs 2 rfl rfl agg_32 [_, _, _] rfl rfl rfl rfl ?_
      | refine x_storeAllI hs 3 rfl rfl agg_32 [_, _, _] rfl rfl rfl rfl ?_
      | refine x_storeAllI hs 4 rfl rfl agg_32 [_, _, _] rfl rfl rfl rfl ?_
      | refine x_storeAllI hs 5 rfl rfl agg_32 [_, _, _] rfl rfl rfl rfl ?_
      | refine x_storeAllI hs 6 rfl rfl agg_32 [_, _, _] rfl rfl rfl rfl ?_
      | refine x_storeAllI hs 7 rfl rfl agg_32 [_, _, _] rfl rfl rfl rfl ?_
    clear hs; intro w hs
    try dsimp only [back, List.set_cons_zero, List.set_cons_succ] at hs
    refine ⟨fun h => (by first | (cases h; done) | (first | exact hs.cells2 rfl rfl | exact (hs.pull 1).cells2 rfl rfl | exact (hs.pull 2).cells2 rfl rfl | exact (hs.pull 3).cells2 rfl rfl | exact (hs.pull 4).cells2 rfl rfl | exact (hs.pull 5).cells2 rfl rfl | exact (hs.pull 6).cells2 rfl rfl | exact (hs.pull 7).cells2 rfl rfl | exact (hs.pull 8).cells2 rfl rfl | exact hs.cell rfl | exact (hs.pull 1).cell rfl | exact (hs.pull 2).cell rfl | exact (hs.pull 3).cell rfl | exact (hs.pull 4).cell rfl | exact (hs.pull 5).cell rfl | exact (hs.pull 6).cell rfl | exact (hs.pull 7).cell rfl | exact (hs.pull 8).cell rfl | assumption | exact hs.cellsOf | exact (hs.pull 1).cellsOf | exact (hs.pull 2).cellsOf | exact (hs.pull 3).cellsOf | exact (hs.pull 4).cellsOf | exact (hs.pull 5).cellsOf | exact (hs.pull 6).cellsOf | exact (hs.pull 7).cellsOf | exact (hs.pull 8).cellsOf) | (and_intros <;> first | exact hs.cells2 rfl rfl | exact (hs.pull 1).cells2 rfl rfl | exact (hs.pull 2).cells2 rfl rfl | exact (hs.pull 3).cells2 rfl rfl | exact (hs.pull 4).cells2 rfl rfl | exact (hs.pull 5).cells2 rfl rfl | exact (hs.pull 6).cells2 rfl rfl | exact (hs.pull 7).cells2 rfl rfl | exact (hs.pull 8).cells2 rfl rfl | exact hs.cell rfl | exact (hs.pull 1).cell rfl | exact (hs.pull 2).cell rfl | exact (hs.pull 3).cell rfl | exact (hs.pull 4).cell rfl | exact (hs.pull 5).cell rfl | exact (hs.pull 6).cell rfl | exact (hs.pull 7).cell rfl | exact (hs.pull 8).cell rfl | assumption | exact hs.cellsOf | exact (hs.pull 1).cellsOf | exact (hs.pull 2).cellsOf | exact (hs.pull 3).cellsOf | exact (hs.pull 4).cellsOf | exact (hs.pull 5).cellsOf | exact (hs.pull 6).cellsOf | exact (hs.pull 7).cellsOf | exact (hs.pull 8).cellsOf)), ?_⟩
    refine x_nil ?_
    refine then_n ?_
    clear hcells hR
    by_cases hB4 : 400 < B.length
    · skip
      refine c_seq ?_
      refine c_seq ?_
      -- region 6
      refine c_region ?_
      first | refine x_field0 fa_32_2 _ rfl ?_ | refine x_field fa_32_2 _ _ rfl ?_
      refine x_load one_30 _ (.slice _ _ _) rfl (by first | exact hs.cell rfl | exact (hs.pull 1).cell rfl | exact (hs.pull 2).cell rfl | exact (hs.pull 3).cell rfl | assumption | exact (hs.pull 4).cell rfl | exact (hs.pull 5).cell rfl | exact (hs.pull 6).cell rfl | exact (hs.pull 7).cell rfl) ?_
      refine x_lenSl Try.underlying30 _ _ _ rfl ?_
      refine x_gtrT _ _ rfl rfl (by omega) ?_
      refine x_nil ?_
      refine then_n ?_
      refine c_true rfl ?_
      refine c_seq ?_
      -- region 7
      refine c_region ?_
      refine x_call Try.f7 Try.func7 rfl rfl _ rfl ?_
      refine (awake22_calls hs).mono ?_
      clear hs; rintro e w ⟨rfl, hs⟩
      refine ⟨_, rfl, fun h => (by first | (cases h; done) | (first | exact hs.cells2 rfl rfl | exact (hs.pull 1).cells2 rfl rfl | exact (hs.pull 2).cells2 rfl rfl | exact (hs.pull 3).cells2 rfl rfl | exact (hs.pull 4).cells2 rfl rfl | exact (hs.pull 5).cells2 rfl rfl | exact (hs.pull 6).cells2 rfl rfl | exact (hs.pull 7).cells2 rfl rfl | exact (hs.pull 8).cells2 rfl rfl | exact hs.cell rfl | exact (hs.pull 1).cell rfl | exact (hs.pull 2).cell rfl | exact (hs.pull 3).cell rfl | exact (hs.pull 4).cell rfl | exact (hs.pull 5).cell rfl | exact (hs.pull 6).cell rfl | exact (hs.pull 7).cell rfl | exact (hs.pull 8).cell rfl | assumption | exact hs.cellsOf | exact (hs.pull 1).cellsOf | exact (hs.pull 2).cellsOf | exact (hs.pull 3).cellsOf | exact (hs.pull 4).cellsOf | exact (hs.pull 5).cellsOf | exact (hs.pull 6).cellsOf | exact (hs.pull 7).cellsOf | exact (hs.pull 8).cellsOf) | (and_intros <;> first | exact hs.cells2 rfl rfl | exact (hs.pull 1).cells2 rfl rfl | exact (hs.pull 2).cells2 rfl rfl | exact (hs.pull 3).cells2 rfl rfl | exact (hs.pull 4).cells2 rfl rfl | exact (hs.pull 5).cells2 rfl rfl | exact (hs.pull 6).cells2 rfl rfl | exact (hs.pull 7).cells2 rfl rfl | exact (hs.pull 8).cells2 rfl rfl | exact hs.cell rfl | exact (hs.pull 1).cell rfl | exact (hs.pull 2).cell rfl | exact (hs.pull 3).cell rfl | exact (hs.pull 4).cell rfl | exact (hs.pull 5).cell rfl | exact (hs.pull 6).cell rfl | exact (hs.pull 7).cell rfl | exact (hs.pull 8).cell rfl | assumption | exact hs.cellsOf | exact (hs.pull 1).cellsOf | exact (hs.pull 2).cellsOf | exact (hs.pull 3).cellsOf | exact (hs.pull 4).cellsOf | exact (hs.pull 5).cellsOf | exact (hs.pull 6).cellsOf | exact (hs.pull 7).cellsOf | exact (hs.pull 8).cellsOf)), ?_⟩
      refine x_assign (.bool _) rfl ?_
      refine x_nil ?_
      refine then_n ?_
      refine c_ret ?_
      refine then_r ?_
      refine inb_r ?_
      refine then_r ?_
      refine then_r ?_
      refine inb_r ?_
      refine then_r ?_
      refine ⟨.inr rfl, ?_⟩
      exact ⟨rfl, hs.tail.tail.tail⟩
    · skip
      refine c_seq ?_
      refine c_seq ?_
      -- region 6
      refine c_region ?_
      first | refine x_field0 fa_32_2 _ rfl ?_ | refine x_field fa_32_2 _ _ rfl ?_
      refine x_load one_30 _ (.slice _ _ _) rfl (by first | exact hs.cell rfl | exact (hs.pull 1).cell rfl | exact (hs.pull 2).cell rfl | exact (hs.pull 3).cell rfl | assumption | exact (hs.pull 4).cell rfl | exact (hs.pull 5).cell rfl | exact (hs.pull 6).cell rfl | exact (hs.pull 7).cell rfl) ?_
      refine x_lenSl Try.underlying30 _ _ _ rfl ?_
      refine x_gtrF _ _ rfl rfl (by omega) ?_
      refine x_nil ?_
      refine then_n ?_
      refine c_false rfl ?_
      refine c_skip ?_
      refine then_n ?_
      refine c_seq ?_
      -- region 8
      refine c_region ?_
      refine x_assign (.bool _) rfl ?_
      refine x_nil ?_
      refine then_n ?_
      refine c_seqI (γ := QSt × Nat) (fun (⟨s', x'⟩ : QSt × Nat) => [(1, .slice (some ⟨g, og, none⟩) acts.length c1), (5, .pointer (some ⟨q, 0, none⟩)), (6, .pointer (some ⟨x', 0, none⟩)), (7, .int .i64 (i : Nat)), (9, .bool true)]) (fun (⟨s', x'⟩ : QSt × Nat) w => s'.last ≤ i + 1 ∧ s'.inv ∧ Sat w0 w (QObj q s' :: RQ x' s' :: [Init w0])) ?_ ?_
      · skip
        refine c_seq ?_
        -- region 9
        refine c_region ?_
        first | refine x_field0 fa_32_0 _ rfl ?_ | refine x_field fa_32_0 _ _ rfl ?_
        refine x_load one_3 _ (.int _ _) rfl (by first | exact hs.cell rfl | exact (hs.pull 1).cell rfl | exact (hs.pull 2).cell rfl | exact (hs.pull 3).cell rfl | assumption | exact (hs.pull 4).cell rfl | exact (hs.pull 5).cell rfl | exact (hs.pull 6).cell rfl | exact (hs.pull 7).cell rfl) ?_
        refine x_call Try.f8 Try.func8 rfl rfl _ rfl ?_
        refine (pick_calls hs _ _ (by decide)).mono ?_
        clear hs; rintro e w ⟨rfl, hs, -⟩
        refine ⟨_, rfl, fun h => (by first | (cases h; done) | (first | exact hs.cells2 rfl rfl | exact (hs.pull 1).cells2 rfl rfl | exact (hs.pull 2).cells2 rfl rfl | exact (hs.pull 3).cells2 rfl rfl | exact (hs.pull 4).cells2 rfl rfl | exact (hs.pull 5).cells2 rfl rfl | exact (hs.pull 6).cells2 rfl rfl | exact (hs.pull 7).cells2 rfl rfl | exact (hs.pull 8).cells2 rfl rfl | exact hs.cell rfl | exact (hs.pull 1).cell rfl | exact (hs.pull 2).cell rfl | exact (hs.pull 3).cell rfl | exact (hs.pull 4).cell rfl | exact (hs.pull 5).cell rfl | exact (hs.pull 6).cell rfl | exact (hs.pull 7).cell rfl | exact (hs.pull 8).cell rfl | assumption | exact hs.cellsOf | exact (hs.pull 1).cellsOf | exact (hs.pull 2).cellsOf | exact (hs.pull 3).cellsOf | exact (hs.pull 4).cellsOf | exact (hs.pull 5).cellsOf | exact (hs.pull 6).cellsOf | exact (hs.pull 7).cellsOf | exact (hs.pull 8).cellsOf) | (and_intros <;> first | exact hs.cells2 rfl rfl | exact (hs.pull 1).cells2 rfl rfl | exact (hs.pull 2).cells2 rfl rfl | exact (hs.pull 3).cells2 rfl rfl | exact (hs.pull 4).cells2 rfl rfl | exact (hs.pull 5).cells2 rfl rfl | exact (hs.pull 6).cells2 rfl rfl | exact (hs.pull 7).cells2 rfl rfl | exact (hs.pull 8).cells2 rfl rfl | exact hs.cell rfl | exact (hs.pull 1).cell rfl | exact (hs.pull 2).cell rfl | exact (hs.pull 3).cell rfl | exact (hs.pull 4).cell rfl | exact (hs.pull 5).cell rfl | exact (hs.pull 6).cell rfl | exact (hs.pull 7).cell rfl | exact (hs.pull 8).cell rfl | assumption | exact hs.cellsOf | exact (hs.pull 1).cellsOf | exact (hs.pull 2).cellsOf | exact (hs.pull 3).cellsOf | exact (hs.pull 4).cellsOf | exact (hs.pull 5).cellsOf | exact (hs.pull 6).cellsOf | exact (hs.pull 7).cellsOf | exact (hs.pull 8).cellsOf)), ?_⟩
        generalize pk Kind 5 = kd
        refine x_nil ?_
        refine then_n ?_
        refine c_block ?_
        refine c_seq ?_
        -- region 18
        refine c_region ?_
        refine x_eql _ _ rfl rfl ?_
        refine x_assign (.bool _) rfl ?_
        refine x_nil ?_
        refine then_n ?_
        refine c_test _ rfl (fun hb => ?_) (fun hb => ?_)   -- cond t82
        · skip
          -- region 19 DRAWS
          refine c_draw (fun w => w.cell? ⟨b8, 1, none⟩ = some (.int .u64 (N : Nat))) (fun i => !(Nat.beq i 7)) [(0, 2), (1, 2), (2, 1), (4, 2), (5, 2), (6, 1), (3, 0), (7, 0), (8, 2), (9, 2)] (by kernel_rfl) (by kernel_rfl) (by kernel_rfl) (by kernel_rfl) (hs.cell rfl) ?_
          replace hs := hs.drew
          refine x_move (.pointer _) rfl ?_
          first | refine x_field0 fa_32_1 _ rfl ?_ | refine x_field fa_32_1 _ _ rfl ?_
          refine h_load one_22 _ (.int _ _) rfl (fun w hS => by first | exact hS.cell rfl | exact (hS.pull 1).cell rfl | exact (hS.pull 2).cell rfl | exact (hS.pull 3).cell rfl | exact (hS.pull 4).cell rfl | exact (hS.pull 5).cell rfl | exact (hS.pull 6).cell rfl | exact hS | exact hS.1 | exact hS.2 | exact hS.2.1 | exact hS.2.2 | exact hS.2.2.1 | exact hS.2.2.2 | exact hS.2.2.2.1 | exact hS.2.2.2.2) ?_
          refine x_move (.pointer _) rfl ?_
          first | refine x_field0 fa_32_1 _ rfl ?_ | refine x_field fa_32_1 _ _ rfl ?_
          refine h_load one_22 _ (.int _ _) rfl (fun w hS => by first | exact hS.cell rfl | exact (hS.pull 1).cell rfl | exact (hS.pull 2).cell rfl | exact (hS.pull 3).cell rfl | exact (hS.pull 4).cell rfl | exact (hS.pull 5).cell rfl | exact (hS.pull 6).cell rfl | exact hS | exact hS.1 | exact hS.2 | exact hS.2.1 | exact hS.2.2 | exact hS.2.2.1 | exact hS.2.2.2 | exact hS.2.2.2.1 | exact hS.2.2.2.2) ?_
          refine x_call Try.f9 Try.func9 rfl rfl _ rfl ?_
          refine (qdone_calls N (hs.pull 1) hinv hN).mono ?_
          clear hs; rintro e w ⟨rfl, hs⟩
          replace hs := hs.push 1
          try dsimp only [back] at hs
          refine ⟨_, rfl, fun h => (by first | (cases h; done) | (first | exact hs.cells2 rfl rfl | exact (hs.pull 1).cells2 rfl rfl | exact (hs.pull 2).cells2 rfl rfl | exact (hs.pull 3).cells2 rfl rfl | exact (hs.pull 4).cells2 rfl rfl | exact (hs.pull 5).cells2 rfl rfl | exact (hs.pull 6).cells2 rfl rfl | exact (hs.pull 7).cells2 rfl rfl | exact (hs.pull 8).cells2 rfl rfl | exact hs.cell rfl | exact (hs.pull 1).cell rfl | exact (hs.pull 2).cell rfl | exact (hs.pull 3).cell rfl | exact (hs.pull 4).cell rfl | exact (hs.pull 5).cell rfl | exact (hs.pull 6).cell rfl | exact (hs.pull 7).cell rfl | exact (hs.pull 8).cell rfl | assumption | exact hs.cellsOf | exact (hs.pull 1).cellsOf | exact (hs.pull 2).cellsOf | exact (hs.pull 3).cellsOf | exact (hs.pull 4).cellsOf | exact (hs.pull 5).cellsOf | exact (hs.pull 6).cellsOf | exact (hs.pull 7).cellsOf | exact (hs.pull 8).cellsOf) | (and_intros <;> first | exact hs.cells2 rfl rfl | exact (hs.pull 1).cells2 rfl rfl | exact (hs.pull 2).cells2 rfl rfl | exact (hs.pull 3).cells2 rfl rfl | exact (hs.pull 4).cells2 rfl rfl | exact (hs.pull 5).cells2 rfl rfl | exact (hs.pull 6).cells2 rfl rfl | exact (hs.pull 7).cells2 rfl rfl | exact (hs.pull 8).cells2 rfl rfl | exact hs.cell rfl | exact (hs.pull 1).cell rfl | exact (hs.pull 2).cell rfl | exact (hs.pull 3).cell rfl | exact (hs.pull 4).cell rfl | exact (hs.pull 5).cell rfl | exact (hs.pull 6).cell rfl | exact (hs.pull 7).cell rfl | exact (hs.pull 8).cell rfl | assumption | exact hs.cellsOf | exact (hs.pull 1).cellsOf | exact (hs.pull 2).cellsOf | exact (hs.pull 3).cellsOf | exact (hs.pull 4).cellsOf | exact (hs.pull 5).cellsOf | exact (hs.pull 6).cellsOf | exact (hs.pull 7).cellsOf | exact (hs.pull 8).cellsOf)), ?_⟩
          refine x_call Try.f10 Try.func10 rfl rfl _ rfl ?_
          refine (rqdone_calls N (hs.pull 2) hinv hN).mono ?_
          clear hs; rintro e w ⟨rfl, hs⟩
          replace hs := hs.push 2
          try dsimp only [back] at hs
          refine ⟨_, rfl, fun h => (by first | (cases h; done) | (first | exact hs.cells2 rfl rfl | exact (hs.pull 1).cells2 rfl rfl | exact (hs.pull 2).cells2 rfl rfl | exact (hs.pull 3).cells2 rfl rfl | exact (hs.pull 4).cells2 rfl rfl | exact (hs.pull 5).cells2 rfl rfl | exact (hs.pull 6).cells2 rfl rfl | exact (hs.pull 7).cells2 rfl rfl | exact (hs.pull 8).cells2 rfl rfl | exact hs.cell rfl | exact (hs.pull 1).cell rfl | exact (hs.pull 2).cell rfl | exact (hs.pull 3).cell rfl | exact (hs.pull 4).cell rfl | exact (hs.pull 5).cell rfl | exact (hs.pull 6).cell rfl | exact (hs.pull 7).cell rfl | exact (hs.pull 8).cell rfl | assumption | exact hs.cellsOf | exact (hs.pull 1).cellsOf | exact (hs.pull 2).cellsOf | exact (hs.pull 3).cellsOf | exact (hs.pull 4).cellsOf | exact (hs.pull 5).cellsOf | exact (hs.pull 6).cellsOf | exact (hs.pull 7).cellsOf | exact (hs.pull 8).cellsOf) | (and_intros <;> first | exact hs.cells2 rfl rfl | exact (hs.pull 1).cells2 rfl rfl | exact (hs.pull 2).cells2 rfl rfl | exact (hs.pull 3).cells2 rfl rfl | exact (hs.pull 4).cells2 rfl rfl | exact (hs.pull 5).cells2 rfl rfl | exact (hs.pull 6).cells2 rfl rfl | exact (hs.pull 7).cells2 rfl rfl | exact (hs.pull 8).cells2 rfl rfl | exact hs.cell rfl | exact (hs.pull 1).cell rfl | exact (hs.pull 2).cell rfl | exact (hs.pull 3).cell rfl | exact (hs.pull 4).cell rfl | exact (hs.pull 5).cell rfl | exact (hs.pull 6).cell rfl | exact (hs.pull 7).cell rfl | exact (hs.pull 8).cell rfl | assumption | exact hs.cellsOf | exact (hs.pull 1).cellsOf | exact (hs.pull 2).cellsOf | exact (hs.pull 3).cellsOf | exact (hs.pull 4).cellsOf | exact (hs.pull 5).cellsOf | exact (hs.pull 6).cellsOf | exact (hs.pull 7).cellsOf | exact (hs.pull 8).cellsOf)), ?_⟩
          refine x_eqlT _ _ rfl rfl (by omega) ?_
          refine x_assign (.bool _) rfl ?_
          refine x_nil ?_
          refine inb_n ?_
          refine then_n ?_
          exact ⟨((s.done N).2, x), ⟨rfl, rfl, rfl, rfl, rfl, trivial⟩, ⟨by rw [done_last]; omega, hinv.done N, hs.tail⟩⟩
        · skip
          refine c_seq ?_
          -- region 20
          refine c_region ?_
          refine x_eql _ _ rfl rfl ?_
          refine x_assign (.bool _) rfl ?_
          refine x_nil ?_
          refine then_n ?_
          refine c_test _ rfl (fun hb => ?_) (fun hb => ?_)   -- cond t93
          · skip
            refine c_seq ?_
            -- region 21 DRAWS
            obtain ⟨a7, c7, us, hul, hs⟩ := (hs.pull 2).rq
            refine c_draw (fun w => w.cell? ⟨b8, 1, none⟩ = some (.int .u64 (N : Nat)) ∧ w.cell? ⟨x, 2, none⟩ = some (.slice a7 s.wait.length c7)) (fun i => !(false)) [(0, 2), (1, 2), (2, 1), (4, 2), (5, 2), (6, 2), (7, 1), (8, 2), (3, 0), (9, 2), (10, 2)] (by kernel_rfl) (by kernel_rfl) (by kernel_rfl) (by kernel_rfl) ((by first | (first | exact hs.cells2 rfl rfl | exact (hs.pull 1).cells2 rfl rfl | exact (hs.pull 2).cells2 rfl rfl | exact (hs.pull 3).cells2 rfl rfl | exact (hs.pull 4).cells2 rfl rfl | exact (hs.pull 5).cells2 rfl rfl | exact (hs.pull 6).cells2 rfl rfl | exact (hs.pull 7).cells2 rfl rfl | exact (hs.pull 8).cells2 rfl rfl | exact hs.cell rfl | exact (hs.pull 1).cell rfl | exact (hs.pull 2).cell rfl | exact (hs.pull 3).cell rfl | exact (hs.pull 4).cell rfl | exact (hs.pull 5).cell rfl | exact (hs.pull 6).cell rfl | exact (hs.pull 7).cell rfl | exact (hs.pull 8).cell rfl | assumption | exact hs.cellsOf | exact (hs.pull 1).cellsOf | exact (hs.pull 2).cellsOf | exact (hs.pull 3).cellsOf | exact (hs.pull 4).cellsOf | exact (hs.pull 5).cellsOf | exact (hs.pull 6).cellsOf | exact (hs.pull 7).cellsOf | exact (hs.pull 8).cellsOf) | (and_intros <;> first | exact hs.cells2 rfl rfl | exact (hs.pull 1).cells2 rfl rfl | exact (hs.pull 2).cells2 rfl rfl | exact (hs.pull 3).cells2 rfl rfl | exact (hs.pull 4).cells2 rfl rfl | exact (hs.pull 5).cells2 rfl rfl | exact (hs.pull 6).cells2 rfl rfl | exact (hs.pull 7).cells2 rfl rfl | exact (hs.pull 8).cells2 rfl rfl | exact hs.cell rfl | exact (hs.pull 1).cell rfl | exact (hs.pull 2).cell rfl | exact (hs.pull 3).cell rfl | exact (hs.pull 4).cell rfl | exact (hs.pull 5).cell rfl | exact (hs.pull 6).cell rfl | exact (hs.pull 7).cell rfl | exact (hs.pull 8).cell rfl | assumption | exact hs.cellsOf | exact (hs.pull 1).cellsOf | exact (hs.pull 2).cellsOf | exact (hs.pull 3).cellsOf | exact (hs.pull 4).cellsOf | exact (hs.pull 5).cellsOf | exact (hs.pull 6).cellsOf | exact (hs.pull 7).cellsOf | exact (hs.pull 8).cellsOf))) ?_
            replace hs := hs.drew
            refine x_move (.pointer _) rfl ?_
            first | refine x_field0 fa_32_1 _ rfl ?_ | refine x_field fa_32_1 _ _ rfl ?_
            refine h_load one_22 _ (.int _ _) rfl (fun w hS => by first | exact hS.cell rfl | exact (hS.pull 1).cell rfl | exact (hS.pull 2).cell rfl | exact (hS.pull 3).cell rfl | exact (hS.pull 4).cell rfl | exact (hS.pull 5).cell rfl | exact (hS.pull 6).cell rfl | exact hS | exact hS.1 | exact hS.2 | exact hS.2.1 | exact hS.2.2 | exact hS.2.2.1 | exact hS.2.2.2 | exact hS.2.2.2.1 | exact hS.2.2.2.2) ?_
            refine x_move (.pointer _) rfl ?_
            refine x_nilCheck _ rfl ?_
            first | refine x_field0 fa_29_2 _ rfl ?_ | refine x_field fa_29_2 _ _ rfl ?_
            refine h_load one_27 _ (.slice _ _ _) rfl (fun w hS => by first | exact hS.cell rfl | exact (hS.pull 1).cell rfl | exact (hS.pull 2).cell rfl | exact (hS.pull 3).cell rfl | exact (hS.pull 4).cell rfl | exact (hS.pull 5).cell rfl | exact (hS.pull 6).cell rfl | exact hS | exact hS.1 | exact hS.2 | exact hS.2.1 | exact hS.2.2 | exact hS.2.2.1 | exact hS.2.2.2 | exact hS.2.2.2.1 | exact hS.2.2.2.2) ?_
            refine x_lenSl Try.underlying27 _ _ _ rfl ?_
            refine x_call Try.f11 Try.func11 rfl rfl _ rfl ?_
            refine (qreset_calls N (hs.pull 4)).mono ?_
            clear hs; rintro e w ⟨rfl, hs⟩
            replace hs := hs.push 4
            try dsimp only [back] at hs
            refine ⟨_, rfl, fun h => (by first | (cases h; done) | (first | exact hs.cells2 rfl rfl | exact (hs.pull 1).cells2 rfl rfl | exact (hs.pull 2).cells2 rfl rfl | exact (hs.pull 3).cells2 rfl rfl | exact (hs.pull 4).cells2 rfl rfl | exact (hs.pull 5).cells2 rfl rfl | exact (hs.pull 6).cells2 rfl rfl | exact (hs.pull 7).cells2 rfl rfl | exact (hs.pull 8).cells2 rfl rfl | exact hs.cell rfl | exact (hs.pull 1).cell rfl | exact (hs.pull 2).cell rfl | exact (hs.pull 3).cell rfl | exact (hs.pull 4).cell rfl | exact (hs.pull 5).cell rfl | exact (hs.pull 6).cell rfl | exact (hs.pull 7).cell rfl | exact (hs.pull 8).cell rfl | assumption | exact hs.cellsOf | exact (hs.pull 1).cellsOf | exact (hs.pull 2).cellsOf | exact (hs.pull 3).cellsOf | exact (hs.pull 4).cellsOf | exact (hs.pull 5).cellsOf | exact (hs.pull 6).cellsOf | exact (hs.pull 7).cellsOf | exact (hs.pull 8).cellsOf) | (and_intros <;> first | exact hs.cells2 rfl rfl | exact (hs.pull 1).cells2 rfl rfl | exact (hs.pull 2).cells2 rfl rfl | exact (hs.pull 3).cells2 rfl rfl | exact (hs.pull 4).cells2 rfl rfl | exact (hs.pull 5).cells2 rfl rfl | exact (hs.pull 6).cells2 rfl rfl | exact (hs.pull 7).cells2 rfl rfl | exact (hs.pull 8).cells2 rfl rfl | exact hs.cell rfl | exact (hs.pull 1).cell rfl | exact (hs.pull 2).cell rfl | exact (hs.pull 3).cell rfl | exact (hs.pull 4).cell rfl | exact (hs.pull 5).cell rfl | exact (hs.pull 6).cell rfl | exact (hs.pull 7).cell rfl | exact (hs.pull 8).cell rfl | assumption | exact hs.cellsOf | exact (hs.pull 1).cellsOf | exact (hs.pull 2).cellsOf | exact (hs.pull 3).cellsOf | exact (hs.pull 4).cellsOf | exact (hs.pull 5).cellsOf | exact (hs.pull 6).cellsOf | exact (hs.pull 7).cellsOf | exact (hs.pull 8).cellsOf)), ?_⟩
            refine x_eqlT _ _ rfl rfl (by omega) ?_
            refine x_assign (.bool _) rfl ?_
            refine x_nil ?_
            refine then_n ?_
            -- region 22
            refine c_region ?_
            first | refine x_field0 fa_32_1 _ rfl ?_ | refine x_field fa_32_1 _ _ rfl ?_
            refine x_load one_22 _ (.int _ _) rfl (by first | exact hs.cell rfl | exact (hs.pull 1).cell rfl | exact (hs.pull 2).cell rfl | exact (hs.pull 3).cell rfl | assumption | exact (hs.pull 4).cell rfl | exact (hs.pull 5).cell rfl | exact (hs.pull 6).cell rfl | exact (hs.pull 7).cell rfl) ?_
            refine x_build _ [(0, (.int .u64 _))] rfl (fun w => bd_29_0 _ w) ?_
            refine x_box hs (.agg #[_, _, _]) rfl ?_; clear hs; intro b108 w hs; refine ⟨fun h => (by first | (cases h; done) | (first | exact hs.cells2 rfl rfl | exact (hs.pull 1).cells2 rfl rfl | exact (hs.pull 2).cells2 rfl rfl | exact (hs.pull 3).cells2 rfl rfl | exact (hs.pull 4).cells2 rfl rfl | exact (hs.pull 5).cells2 rfl rfl | exact (hs.pull 6).cells2 rfl rfl | exact (hs.pull 7).cells2 rfl rfl | exact (hs.pull 8).cells2 rfl rfl | exact hs.cell rfl | exact (hs.pull 1).cell rfl | exact (hs.pull 2).cell rfl | exact (hs.pull 3).cell rfl | exact (hs.pull 4).cell rfl | exact (hs.pull 5).cell rfl | exact (hs.pull 6).cell rfl | exact (hs.pull 7).cell rfl | exact (hs.pull 8).cell rfl | assumption | exact hs.cellsOf | exact (hs.pull 1).cellsOf | exact (hs.pull 2).cellsOf | exact (hs.pull 3).cellsOf | exact (hs.pull 4).cellsOf | exact (hs.pull 5).cellsOf | exact (hs.pull 6).cellsOf | exact (hs.pull 7).cellsOf | exact (hs.pull 8).cellsOf) | (and_intros <;> first | exact hs.cells2 rfl rfl | exact (hs.pull 1).cells2 rfl rfl | exact (hs.pull 2).cells2 rfl rfl | exact (hs.pull 3).cells2 rfl rfl | exact (hs.pull 4).cells2 rfl rfl | exact (hs.pull 5).cells2 rfl rfl | exact (hs.pull 6).cells2 rfl rfl | exact (hs.pull 7).cells2 rfl rfl | exact (hs.pull 8).cells2 rfl rfl | exact hs.cell rfl | exact (hs.pull 1).cell rfl | exact (hs.pull 2).cell rfl | exact (hs.pull 3).cell rfl | exact (hs.pull 4).cell rfl | exact (hs.pull 5).cell rfl | exact (hs.pull 6).cell rfl | exact (hs.pull 7).cell rfl | exact (hs.pull 8).cell rfl | assumption | exact hs.cellsOf | exact (hs.pull 1).cellsOf | exact (hs.pull 2).cellsOf | exact (hs.pull 3).cellsOf | exact (hs.pull 4).cellsOf | exact (hs.pull 5).cellsOf | exact (hs.pull 6).cellsOf | exact (hs.pull 7).cellsOf | exact (hs.pull 8).cellsOf)), ?_⟩
            refine x_assign (.pointer _) rfl ?_
            refine x_nil ?_
            refine inb_n ?_
            refine then_n ?_
            exact ⟨(QSt.new N, b108), ⟨rfl, rfl, rfl, rfl, rfl, trivial⟩, ⟨Nat.zero_le _, QSt.new_inv hN, Sat.left (Ls := [_, _, _]) ((rq_new hs).perm [5, 0, 6, 1, 2, 3, 4])⟩⟩
          · skip
            refine c_seq ?_
            -- region 10
            refine c_region ?_
            refine x_buildSlice _ [] hs rfl (fun w => bs_30_0 w) ?_; clear hs; intro b43 w hs; refine ⟨fun h => (by first | (cases h; done) | (first | exact hs.cells2 rfl rfl | exact (hs.pull 1).cells2 rfl rfl | exact (hs.pull 2).cells2 rfl rfl | exact (hs.pull 3).cells2 rfl rfl | exact (hs.pull 4).cells2 rfl rfl | exact (hs.pull 5).cells2 rfl rfl | exact (hs.pull 6).cells2 rfl rfl | exact (hs.pull 7).cells2 rfl rfl | exact (hs.pull 8).cells2 rfl rfl | exact hs.cell rfl | exact (hs.pull 1).cell rfl | exact (hs.pull 2).cell rfl | exact (hs.pull 3).cell rfl | exact (hs.pull 4).cell rfl | exact (hs.pull 5).cell rfl | exact (hs.pull 6).cell rfl | exact (hs.pull 7).cell rfl | exact (hs.pull 8).cell rfl | assumption | exact hs.cellsOf | exact (hs.pull 1).cellsOf | exact (hs.pull 2).cellsOf | exact (hs.pull 3).cellsOf | exact (hs.pull 4).cellsOf | exact (hs.pull 5).cellsOf | exact (hs.pull 6).cellsOf | exact (hs.pull 7).cellsOf | exact (hs.pull 8).cellsOf) | (and_intros <;> first | exact hs.cells2 rfl rfl | exact (hs.pull 1).cells2 rfl rfl | exact (hs.pull 2).cells2 rfl rfl | exact (hs.pull 3).cells2 rfl rfl | exact (hs.pull 4).cells2 rfl rfl | exact (hs.pull 5).cells2 rfl rfl | exact (hs.pull 6).cells2 rfl rfl | exact (hs.pull 7).cells2 rfl rfl | exact (hs.pull 8).cells2 rfl rfl | exact hs.cell rfl | exact (hs.pull 1).cell rfl | exact (hs.pull 2).cell rfl | exact (hs.pull 3).cell rfl | exact (hs.pull 4).cell rfl | exact (hs.pull 5).cell rfl | exact (hs.pull 6).cell rfl | exact (hs.pull 7).cell rfl | exact (hs.pull 8).cell rfl | assumption | exact hs.cellsOf | exact (hs.pull 1).cellsOf | exact (hs.pull 2).cellsOf | exact (hs.pull 3).cellsOf | exact (hs.pull 4).cellsOf | exact (hs.pull 5).cellsOf | exact (hs.pull 6).cellsOf | exact (hs.pull 7).cellsOf | exact (hs.pull 8).cellsOf)), ?_⟩
            first | refine x_field0 fa_32_2 _ rfl ?_ | refine x_field fa_32_2 _ _ rfl ?_
            refine x_load one_30 _ (.slice _ _ _) rfl (by first | exact hs.cell rfl | exact (hs.pull 1).cell rfl | exact (hs.pull 2).cell rfl | exact (hs.pull 3).cell rfl | assumption | exact (hs.pull 4).cell rfl | exact (hs.pull 5).cell rfl | exact (hs.pull 6).cell rfl | exact (hs.pull 7).cell rfl) ?_
            refine x_append (row_blk (size := 1) (len := 0) hs rfl (by decide)) Try.underlying30 ei_5 (hrB _ _ (hs.pull 4)) bv_one (by unfold maxLen; omega) (by omega) rfl rfl ?_
            clear hs; intro v w hs; refine ⟨fun h => (by cases h), ?_⟩
            rw [show 0 + B.length = B.length from Nat.zero_add _, show (#[] : Array Value).toList ++ bv B = bv B from rfl] at hs
            obtain ⟨a6, c6, rfl⟩ := hs.rd.val
            refine x_assign (.slice _ _ _) rfl ?_
            refine x_nil ?_
            refine then_n ?_
            refine c_seq ?_
            -- region 11
            refine c_region ?_
            refine x_move (.pointer _) rfl ?_
            refine x_move (.slice _ _ _) rfl ?_
            refine x_call Try.f12 Try.func12 rfl rfl _ rfl ?_
            refine ((qput_calls (l := B) (hs.perm [2, 0, 1, 3, 4]) (fun w' L' h => h.rd) hinv)).mono ?_
            clear hs; rintro e w ⟨rfl, hs⟩
            refine ⟨_, rfl, fun h => (by first | (cases h; done) | (first | exact hs.cells2 rfl rfl | exact (hs.pull 1).cells2 rfl rfl | exact (hs.pull 2).cells2 rfl rfl | exact (hs.pull 3).cells2 rfl rfl | exact (hs.pull 4).cells2 rfl rfl | exact (hs.pull 5).cells2 rfl rfl | exact (hs.pull 6).cells2 rfl rfl | exact (hs.pull 7).cells2 rfl rfl | exact (hs.pull 8).cells2 rfl rfl | exact hs.cell rfl | exact (hs.pull 1).cell rfl | exact (hs.pull 2).cell rfl | exact (hs.pull 3).cell rfl | exact (hs.pull 4).cell rfl | exact (hs.pull 5).cell rfl | exact (hs.pull 6).cell rfl | exact (hs.pull 7).cell rfl | exact (hs.pull 8).cell rfl | assumption | exact hs.cellsOf | exact (hs.pull 1).cellsOf | exact (hs.pull 2).cellsOf | exact (hs.pull 3).cellsOf | exact (hs.pull 4).cellsOf | exact (hs.pull 5).cellsOf | exact (hs.pull 6).cellsOf | exact (hs.pull 7).cellsOf | exact (hs.pull 8).cellsOf) | (and_intros <;> first | exact hs.cells2 rfl rfl | exact (hs.pull 1).cells2 rfl rfl | exact (hs.pull 2).cells2 rfl rfl | exact (hs.pull 3).cells2 rfl rfl | exact (hs.pull 4).cells2 rfl rfl | exact (hs.pull 5).cells2 rfl rfl | exact (hs.pull 6).cells2 rfl rfl | exact (hs.pull 7).cells2 rfl rfl | exact (hs.pull 8).cells2 rfl rfl | exact hs.cell rfl | exact (hs.pull 1).cell rfl | exact (hs.pull 2).cell rfl | exact (hs.pull 3).cell rfl | exact (hs.pull 4).cell rfl | exact (hs.pull 5).cell rfl | exact (hs.pull 6).cell rfl | exact (hs.pull 7).cell rfl | exact (hs.pull 8).cell rfl | assumption | exact hs.cellsOf | exact (hs.pull 1).cellsOf | exact (hs.pull 2).cellsOf | exact (hs.pull 3).cellsOf | exact (hs.pull 4).cellsOf | exact (hs.pull 5).cellsOf | exact (hs.pull 6).cellsOf | exact (hs.pull 7).cellsOf | exact (hs.pull 8).cellsOf)), ?_⟩
            replace hs := hs.perm [1, 2, 0, 3, 4]
            refine x_move (.tuple _) rfl ?_
            refine x_extract _ (.int _ _) rfl rfl ?_
            refine x_extract _ (.int _ _) rfl rfl ?_
            refine x_assign (.int _ _) rfl ?_
            refine x_assign (.int _ _) rfl ?_
            refine x_nil ?_
            refine then_n ?_
            refine c_seq ?_
            -- region 12
            refine c_region ?_
            refine x_move (.pointer _) rfl ?_
            first | refine x_field0 fa_32_2 _ rfl ?_ | refine x_field fa_32_2 _ _ rfl ?_
            refine x_load one_30 _ (.slice _ _ _) rfl (by first | exact hs.cell rfl | exact (hs.pull 1).cell rfl | exact (hs.pull 2).cell rfl | exact (hs.pull 3).cell rfl | assumption | exact (hs.pull 4).cell rfl | exact (hs.pull 5).cell rfl | exact (hs.pull 6).cell rfl | exact (hs.pull 7).cell rfl) ?_
            refine x_call Try.f13 Try.func13 rfl rfl _ rfl ?_
            refine ((rqput_calls (l := B) (hs.perm [3, 4, 0, 1, 2]) (fun w' L' h => hrB w' L' h) hinv)).mono ?_
            clear hs; rintro e w ⟨rfl, hs⟩
            refine ⟨_, rfl, fun h => (by first | (cases h; done) | (first | exact hs.cells2 rfl rfl | exact (hs.pull 1).cells2 rfl rfl | exact (hs.pull 2).cells2 rfl rfl | exact (hs.pull 3).cells2 rfl rfl | exact (hs.pull 4).cells2 rfl rfl | exact (hs.pull 5).cells2 rfl rfl | exact (hs.pull 6).cells2 rfl rfl | exact (hs.pull 7).cells2 rfl rfl | exact (hs.pull 8).cells2 rfl rfl | exact hs.cell rfl | exact (hs.pull 1).cell rfl | exact (hs.pull 2).cell rfl | exact (hs.pull 3).cell rfl | exact (hs.pull 4).cell rfl | exact (hs.pull 5).cell rfl | exact (hs.pull 6).cell rfl | exact (hs.pull 7).cell rfl | exact (hs.pull 8).cell rfl | assumption | exact hs.cellsOf | exact (hs.pull 1).cellsOf | exact (hs.pull 2).cellsOf | exact (hs.pull 3).cellsOf | exact (hs.pull 4).cellsOf | exact (hs.pull 5).cellsOf | exact (hs.pull 6).cellsOf | exact (hs.pull 7).cellsOf | exact (hs.pull 8).cellsOf) | (and_intros <;> first | exact hs.cells2 rfl rfl | exact (hs.pull 1).cells2 rfl rfl | exact (hs.pull 2).cells2 rfl rfl | exact (hs.pull 3).cells2 rfl rfl | exact (hs.pull 4).cells2 rfl rfl | exact (hs.pull 5).cells2 rfl rfl | exact (hs.pull 6).cells2 rfl rfl | exact (hs.pull 7).cells2 rfl rfl | exact (hs.pull 8).cells2 rfl rfl | exact hs.cell rfl | exact (hs.pull 1).cell rfl | exact (hs.pull 2).cell rfl | exact (hs.pull 3).cell rfl | exact (hs.pull 4).cell rfl | exact (hs.pull 5).cell rfl | exact (hs.pull 6).cell rfl | exact (hs.pull 7).cell rfl | exact (hs.pull 8).cell rfl | assumption | exact hs.cellsOf | exact (hs.pull 1).cellsOf | exact (hs.pull 2).cellsOf | exact (hs.pull 3).cellsOf | exact (hs.pull 4).cellsOf | exact (hs.pull 5).cellsOf | exact (hs.pull 6).cellsOf | exact (hs.pull 7).cellsOf | exact (hs.pull 8).cellsOf)), ?_⟩
            replace hs := hs.perm [2, 3, 4, 0, 1]
            refine x_move (.tuple _) rfl ?_
            refine x_extract _ (.int _ _) rfl rfl ?_
            refine x_extract _ (.int _ _) rfl rfl ?_
            refine x_assign (.int _ _) rfl ?_
            refine x_assign (.int _ _) rfl ?_
            refine x_nil ?_
            refine then_n ?_
            refine c_seq ?_
            -- region 13
            refine c_region ?_
            refine x_move (.int _ _) rfl ?_
            refine x_move (.int _ _) rfl ?_
            refine x_eqlT _ _ rfl rfl (by omega) ?_
            refine x_move (.bool _) rfl ?_
            refine x_want' rfl ?_
            refine x_move (.int _ _) rfl ?_
            refine x_want' rfl ?_
            refine x_move (.int _ _) rfl ?_
            refine x_want' rfl ?_
            refine x_eqlT _ _ rfl rfl (by omega) ?_
            refine x_pickT (.bool _) rfl rfl ?_
            refine x_assign (.bool _) rfl ?_
            refine x_nil ?_
            refine then_n ?_
            refine c_seq ?_
            -- region 14
            refine c_region ?_
            refine x_assign (.int _ _) rfl ?_
            refine x_nil ?_
            refine then_n ?_
            refine c_block ?_
            refine c_loop (γ := Nat × List Value) (fun (⟨j, xs⟩ : Nat × List Value) => [(1, .slice (some ⟨g, og, none⟩) acts.length c1), (5, .pointer (some ⟨q, 0, none⟩)), (6, .pointer (some ⟨x, 0, none⟩)), (7, .int .i64 (i : Nat)), (9, .bool true), (10, .slice a6 B.length c6), (15, .int .i64 (j : Nat))]) (fun (⟨j, xs⟩ : Nat × List Value) w => j ≤ B.length ∧ xs.length = B.length ∧ (∀ u ∈ xs, ∃ k : Nat, u = .int .u8 (k : Nat) ∧ k < 256) ∧ Sat w0 w (Row 5 1 (.slice a6 B.length c6) B.length xs :: QObj q (s.put B).2.2 :: RQ x (s.put B).2.2 :: [Init w0])) (fun (⟨j, xs⟩ : Nat × List Value) => B.length - j) (0, bv B) ⟨rfl, rfl, rfl, rfl, rfl, rfl, rfl, trivial⟩ ⟨Nat.zero_le _, bv_len B, bv_bytes B, (hs.pull 1).tail⟩ ?_
            clear hs
            rintro ⟨j, xs⟩ ρ w ⟨hjl, hxl, hxk, hs⟩
            change CW Try.prog 150 _ _ (sets 150 [(1, .slice (some ⟨g, og, none⟩) acts.length c1), (5, .pointer (some ⟨q, 0, none⟩)), (6, .pointer (some ⟨x, 0, none⟩)), (7, .int .i64 (i : Nat)), (9, .bool true), (10, .slice a6 B.length c6), (15, .int .i64 (j : Nat))] ρ) w
            refine c_seq ?_
            refine c_seq ?_
            -- region 15
            refine c_region ?_
            refine x_move (.int _ _) rfl ?_
            refine x_move (.slice _ _ _) rfl ?_
            refine x_lenSl Try.underlying30 _ _ _ rfl ?_
            refine x_lss _ _ rfl rfl ?_
            refine x_nil ?_
            refine then_n ?_
            refine c_test _ rfl (fun hb => ?_) (fun hb => ?_)   -- cond t71
            · skip
              refine c_skip ?_
              refine then_n ?_
              refine c_seq ?_
              refine c_block ?_
              -- region 17
              have hjlt : j < xs.length := by omega
              obtain ⟨kb, hkb, hk256⟩ := hxk _ (List.getElem_mem hjlt)
              obtain ⟨g2, o2, rfl⟩ := hs.rowAddr (by omega)
              have hcell : w.cell? ⟨g2, o2 + j * 1, none⟩ = some (.int .u8 (kb : Nat)) := by
                rw [Nat.mul_one]
                exact hs.rowCell (by rw [List.getElem?_eq_getElem hjlt, hkb])
              refine c_region ?_
              refine x_move (.slice _ _ _) rfl ?_
              refine x_move (.int _ _) rfl ?_
              refine x_move (.slice _ _ _) rfl ?_
              refine x_move (.int _ _) rfl ?_
              refine x_indexAddr Try.underlying30 sz_5 _ _ _ _ _ rfl rfl (by omega) ?_
              refine x_load one_5 _ (.int _ _) rfl (by first | exact hs.cell rfl | exact (hs.pull 1).cell rfl | exact (hs.pull 2).cell rfl | exact (hs.pull 3).cell rfl | assumption | exact (hs.pull 4).cell rfl | exact (hs.pull 5).cell rfl | exact (hs.pull 6).cell rfl | exact (hs.pull 7).cell rfl) ?_
              refine x_xor kb 255 rfl rfl rfl hk256 (by decide) ?_
              refine x_indexAddr Try.underlying30 sz_5 _ _ _ _ _ rfl rfl (by omega) ?_
              refine x_storeRow hs one_5 (.int .u8 ((kb ^^^ 255 : Nat) : Int)) rfl rfl rfl (by omega) ?_
              clear hs hcell; intro w hs; refine ⟨fun h => (by cases h), ?_⟩
              refine x_nil ?_
              refine inb_n ?_
              refine then_n ?_
              -- region 16
              refine c_region ?_
              refine x_move (.int _ _) rfl ?_
              refine x_add _ _ rfl rfl (by simp only [X.lo]; omega) (by simp only [X.hi]; omega) ?_
              refine x_assign (.int _ _) rfl ?_
              refine x_nil ?_
              refine then_n ?_
              refine ⟨(j + 1, xs.set (j * 1) (.int .u8 ((kb ^^^ 255 : Nat) : Int))), ⟨rfl, rfl, rfl, rfl, rfl, rfl, rfl, trivial⟩, ⟨by omega, by simpa using hxl, set_bytes hxk (Nat.xor_lt_two_pow (n := 8) hk256 (by decide)), hs⟩, by first | omega | (dsimp only; omega)⟩
            · skip
              refine c_exit ?_
              refine then_x ?_
              refine then_x ?_
              refine inb_e ?_
              refine inb_n ?_
              refine then_n ?_
              exact ⟨((s.put B).2.2, x), ⟨rfl, rfl, rfl, rfl, rfl, trivial⟩, ⟨by have := put_last s B; omega, hinv.put B (by omega), hs.tail⟩⟩
      · skip
        clear hs
        rintro ⟨s', x'⟩ ρ w ⟨hla', hinv', hs⟩
        change CW Try.prog 150 _ _ (sets 150 [(1, .slice (some ⟨g, og, none⟩) acts.length c1), (5, .pointer (some ⟨q, 0, none⟩)), (6, .pointer (some ⟨x', 0, none⟩)), (7, .int .i64 (i : Nat)), (9, .bool true)] ρ) w
        have hw6' := hinv'.len
        obtain ⟨a7, c7, us, hul, hs⟩ := (hs.pull 1).rq
        refine c_seq ?_
        -- region 23 DRAWS
        refine c_draw (fun w => w.cell? ⟨x', 0, none⟩ = some (.int .u64 (s'.view : Nat)) ∧ w.cell? ⟨x', 1, none⟩ = some (.int .u64 (s'.last : Nat)) ∧ w.cell? ⟨x', 2, none⟩ = some (.slice a7 s'.wait.length c7)) (fun i => !(Nat.beq i 9)) [(0, 2), (1, 2), (2, 2), (3, 2), (5, 2), (6, 2), (7, 2), (8, 1), (4, 0), (9, 0), (10, 2), (11, 2), (12, 2), (13, 2), (15, 2), (16, 2), (17, 2), (0, 3), (18, 1), (14, 0), (19, 2), (20, 2), (21, 2), (22, 2), (24, 2), (25, 2), (26, 2), (27, 1), (23, 0), (28, 2), (29, 2), (30, 2), (31, 2), (33, 2), (34, 2), (35, 2), (36, 1), (37, 2), (32, 0), (38, 2), (39, 2)] (by kernel_rfl) (by kernel_rfl) (by kernel_rfl) (by kernel_rfl) ((by first | (first | exact hs.cells2 rfl rfl | exact (hs.pull 1).cells2 rfl rfl | exact (hs.pull 2).cells2 rfl rfl | exact (hs.pull 3).cells2 rfl rfl | exact (hs.pull 4).cells2 rfl rfl | exact (hs.pull 5).cells2 rfl rfl | exact (hs.pull 6).cells2 rfl rfl | exact (hs.pull 7).cells2 rfl rfl | exact (hs.pull 8).cells2 rfl rfl | exact hs.cell rfl | exact (hs.pull 1).cell rfl | exact (hs.pull 2).cell rfl | exact (hs.pull 3).cell rfl | exact (hs.pull 4).cell rfl | exact (hs.pull 5).cell rfl | exact (hs.pull 6).cell rfl | exact (hs.pull 7).cell rfl | exact (hs.pull 8).cell rfl | assumption | exact hs.cellsOf | exact (hs.pull 1).cellsOf | exact (hs.pull 2).cellsOf | exact (hs.pull 3).cellsOf | exact (hs.pull 4).cellsOf | exact (hs.pull 5).cellsOf | exact (hs.pull 6).cellsOf | exact (hs.pull 7).cellsOf | exact (hs.pull 8).cellsOf) | (and_intros <;> first | exact hs.cells2 rfl rfl | exact (hs.pull 1).cells2 rfl rfl | exact (hs.pull 2).cells2 rfl rfl | exact (hs.pull 3).cells2 rfl rfl | exact (hs.pull 4).cells2 rfl rfl | exact (hs.pull 5).cells2 rfl rfl | exact (hs.pull 6).cells2 rfl rfl | exact (hs.pull 7).cells2 rfl rfl | exact (hs.pull 8).cells2 rfl rfl | exact hs.cell rfl | exact (hs.pull 1).cell rfl | exact (hs.pull 2).cell rfl | exact (hs.pull 3).cell rfl | exact (hs.pull 4).cell rfl | exact (hs.pull 5).cell rfl | exact (hs.pull 6).cell rfl | exact (hs.pull 7).cell rfl | exact (hs.pull 8).cell rfl | assumption | exact hs.cellsOf | exact (hs.pull 1).cellsOf | exact (hs.pull 2).cellsOf | exact (hs.pull 3).cellsOf | exact (hs.pull 4).cellsOf | exact (hs.pull 5).cellsOf | exact (hs.pull 6).cellsOf | exact (hs.pull 7).cellsOf | exact (hs.pull 8).cellsOf))) ?_
        replace hs := hs.drew
        refine x_move (.bool _) rfl ?_
        refine x_not _ rfl ?_
        refine x_move (.bool _) rfl ?_
        refine x_want' rfl ?_
        refine x_move (.pointer _) rfl ?_
        refine x_want' rfl ?_
        refine x_move (.pointer _) rfl ?_
        refine x_want' rfl ?_
        refine x_nilCheck _ rfl ?_
        refine x_want' rfl ?_
        first | refine x_field0 fa_29_2 _ rfl ?_ | refine x_field fa_29_2 _ _ rfl ?_
        refine x_want' rfl ?_
        refine h_load one_27 _ (.slice _ _ _) rfl (fun w hS => by first | exact hS.cell rfl | exact (hS.pull 1).cell rfl | exact (hS.pull 2).cell rfl | exact (hS.pull 3).cell rfl | exact (hS.pull 4).cell rfl | exact (hS.pull 5).cell rfl | exact (hS.pull 6).cell rfl | exact hS | exact hS.1 | exact hS.2 | exact hS.2.1 | exact hS.2.2 | exact hS.2.2.1 | exact hS.2.2.2 | exact hS.2.2.2.1 | exact hS.2.2.2.2) ?_
        refine x_want' rfl ?_
        refine x_call Try.f15 Try.func15 rfl rfl _ rfl ?_
        refine (qlist_calls (hs.pull 3) hinv').mono ?_
        clear hs; rintro e w ⟨v1, rfl, hs⟩
        replace hs := hs.push 3
        try dsimp only [back] at hs
        refine ⟨_, rfl, fun h => (by first | (cases h; done) | (first | exact hs.cells2 rfl rfl | exact (hs.pull 1).cells2 rfl rfl | exact (hs.pull 2).cells2 rfl rfl | exact (hs.pull 3).cells2 rfl rfl | exact (hs.pull 4).cells2 rfl rfl | exact (hs.pull 5).cells2 rfl rfl | exact (hs.pull 6).cells2 rfl rfl | exact (hs.pull 7).cells2 rfl rfl | exact (hs.pull 8).cells2 rfl rfl | exact hs.cell rfl | exact (hs.pull 1).cell rfl | exact (hs.pull 2).cell rfl | exact (hs.pull 3).cell rfl | exact (hs.pull 4).cell rfl | exact (hs.pull 5).cell rfl | exact (hs.pull 6).cell rfl | exact (hs.pull 7).cell rfl | exact (hs.pull 8).cell rfl | assumption | exact hs.cellsOf | exact (hs.pull 1).cellsOf | exact (hs.pull 2).cellsOf | exact (hs.pull 3).cellsOf | exact (hs.pull 4).cellsOf | exact (hs.pull 5).cellsOf | exact (hs.pull 6).cellsOf | exact (hs.pull 7).cellsOf | exact (hs.pull 8).cellsOf) | (and_intros <;> first | exact hs.cells2 rfl rfl | exact (hs.pull 1).cells2 rfl rfl | exact (hs.pull 2).cells2 rfl rfl | exact (hs.pull 3).cells2 rfl rfl | exact (hs.pull 4).cells2 rfl rfl | exact (hs.pull 5).cells2 rfl rfl | exact (hs.pull 6).cells2 rfl rfl | exact (hs.pull 7).cells2 rfl rfl | exact (hs.pull 8).cells2 rfl rfl | exact hs.cell rfl | exact (hs.pull 1).cell rfl | exact (hs.pull 2).cell rfl | exact (hs.pull 3).cell rfl | exact (hs.pull 4).cell rfl | exact (hs.pull 5).cell rfl | exact (hs.pull 6).cell rfl | exact (hs.pull 7).cell rfl | exact (hs.pull 8).cell rfl | assumption | exact hs.cellsOf | exact (hs.pull 1).cellsOf | exact (hs.pull 2).cellsOf | exact (hs.pull 3).cellsOf | exact (hs.pull 4).cellsOf | exact (hs.pull 5).cellsOf | exact (hs.pull 6).cellsOf | exact (hs.pull 7).cellsOf | exact (hs.pull 8).cellsOf)), ?_⟩
        refine x_want' rfl ?_
        refine x_call Try.f14 Try.func14 rfl rfl _ rfl ?_
        refine ((sameitems_same hs (hs.pull 3).ri (ri_rq (v := .slice a7 s'.wait.length c7) (b := s'.first) (us := us) (l := s'.wait) (hs.perm [2, 4, 0, 1, 3, 5])) (by rw [items_len]; omega))).mono ?_
        clear hs; rintro e w ⟨rfl, hs⟩
        refine ⟨_, rfl, fun h => (by first | (cases h; done) | (first | exact hs.cells2 rfl rfl | exact (hs.pull 1).cells2 rfl rfl | exact (hs.pull 2).cells2 rfl rfl | exact (hs.pull 3).cells2 rfl rfl | exact (hs.pull 4).cells2 rfl rfl | exact (hs.pull 5).cells2 rfl rfl | exact (hs.pull 6).cells2 rfl rfl | exact (hs.pull 7).cells2 rfl rfl | exact (hs.pull 8).cells2 rfl rfl | exact hs.cell rfl | exact (hs.pull 1).cell rfl | exact (hs.pull 2).cell rfl | exact (hs.pull 3).cell rfl | exact (hs.pull 4).cell rfl | exact (hs.pull 5).cell rfl | exact (hs.pull 6).cell rfl | exact (hs.pull 7).cell rfl | exact (hs.pull 8).cell rfl | assumption | exact hs.cellsOf | exact (hs.pull 1).cellsOf | exact (hs.pull 2).cellsOf | exact (hs.pull 3).cellsOf | exact (hs.pull 4).cellsOf | exact (hs.pull 5).cellsOf | exact (hs.pull 6).cellsOf | exact (hs.pull 7).cellsOf | exact (hs.pull 8).cellsOf) | (and_intros <;> first | exact hs.cells2 rfl rfl | exact (hs.pull 1).cells2 rfl rfl | exact (hs.pull 2).cells2 rfl rfl | exact (hs.pull 3).cells2 rfl rfl | exact (hs.pull 4).cells2 rfl rfl | exact (hs.pull 5).cells2 rfl rfl | exact (hs.pull 6).cells2 rfl rfl | exact (hs.pull 7).cells2 rfl rfl | exact (hs.pull 8).cells2 rfl rfl | exact hs.cell rfl | exact (hs.pull 1).cell rfl | exact (hs.pull 2).cell rfl | exact (hs.pull 3).cell rfl | exact (hs.pull 4).cell rfl | exact (hs.pull 5).cell rfl | exact (hs.pull 6).cell rfl | exact (hs.pull 7).cell rfl | exact (hs.pull 8).cell rfl | assumption | exact hs.cellsOf | exact (hs.pull 1).cellsOf | exact (hs.pull 2).cellsOf | exact (hs.pull 3).cellsOf | exact (hs.pull 4).cellsOf | exact (hs.pull 5).cellsOf | exact (hs.pull 6).cellsOf | exact (hs.pull 7).cellsOf | exact (hs.pull 8).cellsOf)), ?_⟩
        replace hs := (hs.pull 3).tail
        refine x_want' rfl ?_
        refine x_not _ rfl ?_
        refine x_pickF (.bool _) rfl rfl ?_
        refine x_move (.bool _) rfl ?_
        refine x_want' rfl ?_
        refine x_move (.pointer _) rfl ?_
        refine x_want' rfl ?_
        refine x_move (.pointer _) rfl ?_
        refine x_want' rfl ?_
        refine x_nilCheck _ rfl ?_
        refine x_want' rfl ?_
        first | refine x_field0 fa_29_1 _ rfl ?_ | refine x_field fa_29_1 _ _ rfl ?_
        refine x_reset (fun w => w.cell? ⟨x', 0, none⟩ = some (.int .u64 (s'.view : Nat)) ∧ w.cell? ⟨x', 1, none⟩ = some (.int .u64 (s'.last : Nat)) ∧ w.cell? ⟨x', 2, none⟩ = some (.slice a7 s'.wait.length c7)) ((by first | (first | exact hs.cells2 rfl rfl | exact (hs.pull 1).cells2 rfl rfl | exact (hs.pull 2).cells2 rfl rfl | exact (hs.pull 3).cells2 rfl rfl | exact (hs.pull 4).cells2 rfl rfl | exact (hs.pull 5).cells2 rfl rfl | exact (hs.pull 6).cells2 rfl rfl | exact (hs.pull 7).cells2 rfl rfl | exact (hs.pull 8).cells2 rfl rfl | exact hs.cell rfl | exact (hs.pull 1).cell rfl | exact (hs.pull 2).cell rfl | exact (hs.pull 3).cell rfl | exact (hs.pull 4).cell rfl | exact (hs.pull 5).cell rfl | exact (hs.pull 6).cell rfl | exact (hs.pull 7).cell rfl | exact (hs.pull 8).cell rfl | assumption | exact hs.cellsOf | exact (hs.pull 1).cellsOf | exact (hs.pull 2).cellsOf | exact (hs.pull 3).cellsOf | exact (hs.pull 4).cellsOf | exact (hs.pull 5).cellsOf | exact (hs.pull 6).cellsOf | exact (hs.pull 7).cellsOf | exact (hs.pull 8).cellsOf) | (and_intros <;> first | exact hs.cells2 rfl rfl | exact (hs.pull 1).cells2 rfl rfl | exact (hs.pull 2).cells2 rfl rfl | exact (hs.pull 3).cells2 rfl rfl | exact (hs.pull 4).cells2 rfl rfl | exact (hs.pull 5).cells2 rfl rfl | exact (hs.pull 6).cells2 rfl rfl | exact (hs.pull 7).cells2 rfl rfl | exact (hs.pull 8).cells2 rfl rfl | exact hs.cell rfl | exact (hs.pull 1).cell rfl | exact (hs.pull 2).cell rfl | exact (hs.pull 3).cell rfl | exact (hs.pull 4).cell rfl | exact (hs.pull 5).cell rfl | exact (hs.pull 6).cell rfl | exact (hs.pull 7).cell rfl | exact (hs.pull 8).cell rfl | assumption | exact hs.cellsOf | exact (hs.pull 1).cellsOf | exact (hs.pull 2).cellsOf | exact (hs.pull 3).cellsOf | exact (hs.pull 4).cellsOf | exact (hs.pull 5).cellsOf | exact (hs.pull 6).cellsOf | exact (hs.pull 7).cellsOf | exact (hs.pull 8).cellsOf))) ?_
        refine x_want' rfl ?_
        refine h_load one_22 _ (.int _ _) rfl (fun w hS => by first | exact hS.cell rfl | exact (hS.pull 1).cell rfl | exact (hS.pull 2).cell rfl | exact (hS.pull 3).cell rfl | exact (hS.pull 4).cell rfl | exact (hS.pull 5).cell rfl | exact (hS.pull 6).cell rfl | exact hS | exact hS.1 | exact hS.2 | exact hS.2.1 | exact hS.2.2 | exact hS.2.2.1 | exact hS.2.2.2 | exact hS.2.2.2.1 | exact hS.2.2.2.2) ?_
        refine x_want' rfl ?_
        refine x_call Try.f16 Try.func16 rfl rfl _ rfl ?_
        refine (qlast_calls hs).mono ?_
        clear hs; rintro e w ⟨rfl, hs⟩
        refine ⟨_, rfl, fun h => (by first | (cases h; done) | (first | exact hs.cells2 rfl rfl | exact (hs.pull 1).cells2 rfl rfl | exact (hs.pull 2).cells2 rfl rfl | exact (hs.pull 3).cells2 rfl rfl | exact (hs.pull 4).cells2 rfl rfl | exact (hs.pull 5).cells2 rfl rfl | exact (hs.pull 6).cells2 rfl rfl | exact (hs.pull 7).cells2 rfl rfl | exact (hs.pull 8).cells2 rfl rfl | exact hs.cell rfl | exact (hs.pull 1).cell rfl | exact (hs.pull 2).cell rfl | exact (hs.pull 3).cell rfl | exact (hs.pull 4).cell rfl | exact (hs.pull 5).cell rfl | exact (hs.pull 6).cell rfl | exact (hs.pull 7).cell rfl | exact (hs.pull 8).cell rfl | assumption | exact hs.cellsOf | exact (hs.pull 1).cellsOf | exact (hs.pull 2).cellsOf | exact (hs.pull 3).cellsOf | exact (hs.pull 4).cellsOf | exact (hs.pull 5).cellsOf | exact (hs.pull 6).cellsOf | exact (hs.pull 7).cellsOf | exact (hs.pull 8).cellsOf) | (and_intros <;> first | exact hs.cells2 rfl rfl | exact (hs.pull 1).cells2 rfl rfl | exact (hs.pull 2).cells2 rfl rfl | exact (hs.pull 3).cells2 rfl rfl | exact (hs.pull 4).cells2 rfl rfl | exact (hs.pull 5).cells2 rfl rfl | exact (hs.pull 6).cells2 rfl rfl | exact (hs.pull 7).cells2 rfl rfl | exact (hs.pull 8).cells2 rfl rfl | exact hs.cell rfl | exact (hs.pull 1).cell rfl | exact (hs.pull 2).cell rfl | exact (hs.pull 3).cell rfl | exact (hs.pull 4).cell rfl | exact (hs.pull 5).cell rfl | exact (hs.pull 6).cell rfl | exact (hs.pull 7).cell rfl | exact (hs.pull 8).cell rfl | assumption | exact hs.cellsOf | exact (hs.pull 1).cellsOf | exact (hs.pull 2).cellsOf | exact (hs.pull 3).cellsOf | exact (hs.pull 4).cellsOf | exact (hs.pull 5).cellsOf | exact (hs.pull 6).cellsOf | exact (hs.pull 7).cellsOf | exact (hs.pull 8).cellsOf)), ?_⟩
        refine x_want' rfl ?_
        refine x_neqF _ _ rfl rfl (by omega) ?_
        refine x_pickF (.bool _) rfl rfl ?_
        refine x_move (.bool _) rfl ?_
        refine x_want' rfl ?_
        refine x_move (.pointer _) rfl ?_
        refine x_want' rfl ?_
        refine x_move (.pointer _) rfl ?_
        refine x_want' rfl ?_
        refine x_nilCheck _ rfl ?_
        refine x_want' rfl ?_
        first | refine x_field0 fa_29_0 _ rfl ?_ | refine x_field fa_29_0 _ _ rfl ?_
        refine x_want' rfl ?_
        refine h_load one_22 _ (.int _ _) rfl (fun w hS => by first | exact hS.cell rfl | exact (hS.pull 1).cell rfl | exact (hS.pull 2).cell rfl | exact (hS.pull 3).cell rfl | exact (hS.pull 4).cell rfl | exact (hS.pull 5).cell rfl | exact (hS.pull 6).cell rfl | exact hS | exact hS.1 | exact hS.2 | exact hS.2.1 | exact hS.2.2 | exact hS.2.2.1 | exact hS.2.2.2 | exact hS.2.2.2.1 | exact hS.2.2.2.2) ?_
        refine x_want' rfl ?_
        refine x_call Try.f17 Try.func17 rfl rfl _ rfl ?_
        refine (qview_calls hs).mono ?_
        clear hs; rintro e w ⟨rfl, hs⟩
        refine ⟨_, rfl, fun h => (by first | (cases h; done) | (first | exact hs.cells2 rfl rfl | exact (hs.pull 1).cells2 rfl rfl | exact (hs.pull 2).cells2 rfl rfl | exact (hs.pull 3).cells2 rfl rfl | exact (hs.pull 4).cells2 rfl rfl | exact (hs.pull 5).cells2 rfl rfl | exact (hs.pull 6).cells2 rfl rfl | exact (hs.pull 7).cells2 rfl rfl | exact (hs.pull 8).cells2 rfl rfl | exact hs.cell rfl | exact (hs.pull 1).cell rfl | exact (hs.pull 2).cell rfl | exact (hs.pull 3).cell rfl | exact (hs.pull 4).cell rfl | exact (hs.pull 5).cell rfl | exact (hs.pull 6).cell rfl | exact (hs.pull 7).cell rfl | exact (hs.pull 8).cell rfl | assumption | exact hs.cellsOf | exact (hs.pull 1).cellsOf | exact (hs.pull 2).cellsOf | exact (hs.pull 3).cellsOf | exact (hs.pull 4).cellsOf | exact (hs.pull 5).cellsOf | exact (hs.pull 6).cellsOf | exact (hs.pull 7).cellsOf | exact (hs.pull 8).cellsOf) | (and_intros <;> first | exact hs.cells2 rfl rfl | exact (hs.pull 1).cells2 rfl rfl | exact (hs.pull 2).cells2 rfl rfl | exact (hs.pull 3).cells2 rfl rfl | exact (hs.pull 4).cells2 rfl rfl | exact (hs.pull 5).cells2 rfl rfl | exact (hs.pull 6).cells2 rfl rfl | exact (hs.pull 7).cells2 rfl rfl | exact (hs.pull 8).cells2 rfl rfl | exact hs.cell rfl | exact (hs.pull 1).cell rfl | exact (hs.pull 2).cell rfl | exact (hs.pull 3).cell rfl | exact (hs.pull 4).cell rfl | exact (hs.pull 5).cell rfl | exact (hs.pull 6).cell rfl | exact (hs.pull 7).cell rfl | exact (hs.pull 8).cell rfl | assumption | exact hs.cellsOf | exact (hs.pull 1).cellsOf | exact (hs.pull 2).cellsOf | exact (hs.pull 3).cellsOf | exact (hs.pull 4).cellsOf | exact (hs.pull 5).cellsOf | exact (hs.pull 6).cellsOf | exact (hs.pull 7).cellsOf | exact (hs.pull 8).cellsOf)), ?_⟩
        refine x_want' rfl ?_
        refine x_neqF _ _ rfl rfl (by omega) ?_
        refine x_pickF (.bool _) rfl rfl ?_
        refine x_move (.bool _) rfl ?_
        refine x_want' rfl ?_
        refine x_move (.pointer _) rfl ?_
        refine x_want' rfl ?_
        refine x_move (.pointer _) rfl ?_
        refine x_want' rfl ?_
        refine x_nilCheck _ rfl ?_
        refine x_want' rfl ?_
        first | refine x_field0 fa_29_2 _ rfl ?_ | refine x_field fa_29_2 _ _ rfl ?_
        refine x_want' rfl ?_
        refine h_load one_27 _ (.slice _ _ _) rfl (fun w hS => by first | exact hS.cell rfl | exact (hS.pull 1).cell rfl | exact (hS.pull 2).cell rfl | exact (hS.pull 3).cell rfl | exact (hS.pull 4).cell rfl | exact (hS.pull 5).cell rfl | exact (hS.pull 6).cell rfl | exact hS | exact hS.1 | exact hS.2 | exact hS.2.1 | exact hS.2.2 | exact hS.2.2.1 | exact hS.2.2.2 | exact hS.2.2.2.1 | exact hS.2.2.2.2) ?_
        refine x_want' rfl ?_
        refine x_lenSl Try.underlying27 _ _ _ rfl ?_
        refine x_want' rfl ?_
        refine x_call Try.f18 Try.func18 rfl rfl _ rfl ?_
        refine (qlen_calls hs).mono ?_
        clear hs; rintro e w ⟨rfl, hs⟩
        refine ⟨_, rfl, fun h => (by first | (cases h; done) | (first | exact hs.cells2 rfl rfl | exact (hs.pull 1).cells2 rfl rfl | exact (hs.pull 2).cells2 rfl rfl | exact (hs.pull 3).cells2 rfl rfl | exact (hs.pull 4).cells2 rfl rfl | exact (hs.pull 5).cells2 rfl rfl | exact (hs.pull 6).cells2 rfl rfl | exact (hs.pull 7).cells2 rfl rfl | exact (hs.pull 8).cells2 rfl rfl | exact hs.cell rfl | exact (hs.pull 1).cell rfl | exact (hs.pull 2).cell rfl | exact (hs.pull 3).cell rfl | exact (hs.pull 4).cell rfl | exact (hs.pull 5).cell rfl | exact (hs.pull 6).cell rfl | exact (hs.pull 7).cell rfl | exact (hs.pull 8).cell rfl | assumption | exact hs.cellsOf | exact (hs.pull 1).cellsOf | exact (hs.pull 2).cellsOf | exact (hs.pull 3).cellsOf | exact (hs.pull 4).cellsOf | exact (hs.pull 5).cellsOf | exact (hs.pull 6).cellsOf | exact (hs.pull 7).cellsOf | exact (hs.pull 8).cellsOf) | (and_intros <;> first | exact hs.cells2 rfl rfl | exact (hs.pull 1).cells2 rfl rfl | exact (hs.pull 2).cells2 rfl rfl | exact (hs.pull 3).cells2 rfl rfl | exact (hs.pull 4).cells2 rfl rfl | exact (hs.pull 5).cells2 rfl rfl | exact (hs.pull 6).cells2 rfl rfl | exact (hs.pull 7).cells2 rfl rfl | exact (hs.pull 8).cells2 rfl rfl | exact hs.cell rfl | exact (hs.pull 1).cell rfl | exact (hs.pull 2).cell rfl | exact (hs.pull 3).cell rfl | exact (hs.pull 4).cell rfl | exact (hs.pull 5).cell rfl | exact (hs.pull 6).cell rfl | exact (hs.pull 7).cell rfl | exact (hs.pull 8).cell rfl | assumption | exact hs.cellsOf | exact (hs.pull 1).cellsOf | exact (hs.pull 2).cellsOf | exact (hs.pull 3).cellsOf | exact (hs.pull 4).cellsOf | exact (hs.pull 5).cellsOf | exact (hs.pull 6).cellsOf | exact (hs.pull 7).cellsOf | exact (hs.pull 8).cellsOf)), ?_⟩
        refine x_want' rfl ?_
        refine x_neqF _ _ rfl rfl (by omega) ?_
        refine x_pickF (.bool _) rfl rfl ?_
        refine x_nil ?_
        refine then_n ?_
        refine c_false rfl ?_
        refine c_skip ?_
        refine inb_n ?_
        refine then_n ?_
        -- region 4
        refine c_region ?_
        refine x_move (.int _ _) rfl ?_
        refine x_add _ _ rfl rfl (by simp only [X.lo]; omega) (by simp only [X.hi]; omega) ?_
        refine x_assign (.int _ _) rfl ?_
        refine x_nil ?_
        refine then_n ?_
        have hs := (Sat.rq' (s := s') (hs.perm [1, 2, 3, 0])).perm [1, 0]
        refine ⟨(i + 1, s', x'), ⟨rfl, rfl, rfl, rfl, trivial⟩, ⟨by omega, hla', hinv', hs⟩, by first | omega | (dsimp only; omega)⟩
  · skip
    refine c_seq ?_
    refine c_seq ?_
    -- region 3
    refine c_region ?_
    refine x_move (.int _ _) rfl ?_
    refine x_move (.slice _ _ _) rfl ?_
    refine x_lenSl Try.underlying23 _ _ _ rfl ?_
    refine x_lssT _ _ rfl rfl (by omega) ?_
    refine x_move (.bool _) rfl ?_
    refine x_want' rfl ?_
    refine x_move (.int _ _) rfl ?_
    refine x_want' rfl ?_
    refine x_lssF _ _ rfl rfl (by omega) ?_
    refine x_pickT (.bool _) rfl rfl ?_
    refine x_nil ?_
    refine then_n ?_
    refine c_false rfl ?_
    refine c_exit ?_
    refine then_x ?_
    refine then_x ?_
    refine inb_e ?_
    refine then_n ?_
    refine c_seq ?_
    -- region 25
    refine c_region ?_
    refine x_call Try.f7 Try.func7 rfl rfl _ rfl ?_
    refine (awake22_calls hs).mono ?_
    clear hs; rintro e w ⟨rfl, hs⟩
    refine ⟨_, rfl, fun h => (by first | (cases h; done) | (first | exact hs.cells2 rfl rfl | exact (hs.pull 1).cells2 rfl rfl | exact (hs.pull 2).cells2 rfl rfl | exact (hs.pull 3).cells2 rfl rfl | exact (hs.pull 4).cells2 rfl rfl | exact (hs.pull 5).cells2 rfl rfl | exact (hs.pull 6).cells2 rfl rfl | exact (hs.pull 7).cells2 rfl rfl | exact (hs.pull 8).cells2 rfl rfl | exact hs.cell rfl | exact (hs.pull 1).cell rfl | exact (hs.pull 2).cell rfl | exact (hs.pull 3).cell rfl | exact (hs.pull 4).cell rfl | exact (hs.pull 5).cell rfl | exact (hs.pull 6).cell rfl | exact (hs.pull 7).cell rfl | exact (hs.pull 8).cell rfl | assumption | exact hs.cellsOf | exact (hs.pull 1).cellsOf | exact (hs.pull 2).cellsOf | exact (hs.pull 3).cellsOf | exact (hs.pull 4).cellsOf | exact (hs.pull 5).cellsOf | exact (hs.pull 6).cellsOf | exact (hs.pull 7).cellsOf | exact (hs.pull 8).cellsOf) | (and_intros <;> first | exact hs.cells2 rfl rfl | exact (hs.pull 1).cells2 rfl rfl | exact (hs.pull 2).cells2 rfl rfl | exact (hs.pull 3).cells2 rfl rfl | exact (hs.pull 4).cells2 rfl rfl | exact (hs.pull 5).cells2 rfl rfl | exact (hs.pull 6).cells2 rfl rfl | exact (hs.pull 7).cells2 rfl rfl | exact (hs.pull 8).cells2 rfl rfl | exact hs.cell rfl | exact (hs.pull 1).cell rfl | exact (hs.pull 2).cell rfl | exact (hs.pull 3).cell rfl | exact (hs.pull 4).cell rfl | exact (hs.pull 5).cell rfl | exact (hs.pull 6).cell rfl | exact (hs.pull 7).cell rfl | exact (hs.pull 8).cell rfl | assumption | exact hs.cellsOf | exact (hs.pull 1).cellsOf | exact (hs.pull 2).cellsOf | exact (hs.pull 3).cellsOf | exact (hs.pull 4).cellsOf | exact (hs.pull 5).cellsOf | exact (hs.pull 6).cellsOf | exact (hs.pull 7).cellsOf | exact (hs.pull 8).cellsOf)), ?_⟩
    refine x_assign (.bool _) rfl ?_
    refine x_nil ?_
    refine then_n ?_
    refine c_ret ?_
    refine ⟨.inr rfl, ?_⟩
    exact ⟨rfl, hs.tail.tail⟩
  · skip
    refine c_seq ?_
    refine c_seq ?_
    -- region 3
    refine c_region ?_
    refine x_move (.int _ _) rfl ?_
    refine x_move (.slice _ _ _) rfl ?_
    refine x_lenSl Try.underlying23 _ _ _ rfl ?_
    refine x_lssF _ _ rfl rfl (by omega) ?_
    refine x_move (.bool _) rfl ?_
    refine x_skip rfl rfl ?_
    refine x_skip rfl rfl ?_
    refine x_pickF (.bool _) rfl rfl ?_
    refine x_nil ?_
    refine then_n ?_
    refine c_false rfl ?_
    refine c_exit ?_
    refine then_x ?_
    refine then_x ?_
    refine inb_e ?_
    refine then_n ?_
    refine c_seq ?_
    -- region 25
    refine c_region ?_
    refine x_call Try.f7 Try.func7 rfl rfl _ rfl ?_
    refine (awake22_calls hs).mono ?_
    clear hs; rintro e w ⟨rfl, hs⟩
    refine ⟨_, rfl, fun h => (by first | (cases h; done) | (first | exact hs.cells2 rfl rfl | exact (hs.pull 1).cells2 rfl rfl | exact (hs.pull 2).cells2 rfl rfl | exact (hs.pull 3).cells2 rfl rfl | exact (hs.pull 4).cells2 rfl rfl | exact (hs.pull 5).cells2 rfl rfl | exact (hs.pull 6).cells2 rfl rfl | exact (hs.pull 7).cells2 rfl rfl | exact (hs.pull 8).cells2 rfl rfl | exact hs.cell rfl | exact (hs.pull 1).cell rfl | exact (hs.pull 2).cell rfl | exact (hs.pull 3).cell rfl | exact (hs.pull 4).cell rfl | exact (hs.pull 5).cell rfl | exact (hs.pull 6).cell rfl | exact (hs.pull 7).cell rfl | exact (hs.pull 8).cell rfl | assumption | exact hs.cellsOf | exact (hs.pull 1).cellsOf | exact (hs.pull 2).cellsOf | exact (hs.pull 3).cellsOf | exact (hs.pull 4).cellsOf | exact (hs.pull 5).cellsOf | exact (hs.pull 6).cellsOf | exact (hs.pull 7).cellsOf | exact (hs.pull 8).cellsOf) | (and_intros <;> first | exact hs.cells2 rfl rfl | exact (hs.pull 1).cells2 rfl rfl | exact (hs.pull 2).cells2 rfl rfl | exact (hs.pull 3).cells2 rfl rfl | exact (hs.pull 4).cells2 rfl rfl | exact (hs.pull 5).cells2 rfl rfl | exact (hs.pull 6).cells2 rfl rfl | exact (hs.pull 7).cells2 rfl rfl | exact (hs.pull 8).cells2 rfl rfl | exact hs.cell rfl | exact (hs.pull 1).cell rfl | exact (hs.pull 2).cell rfl | exact (hs.pull 3).cell rfl | exact (hs.pull 4).cell rfl | exact (hs.pull 5).cell rfl | exact (hs.pull 6).cell rfl | exact (hs.pull 7).cell rfl | exact (hs.pull 8).cell rfl | assumption | exact hs.cellsOf | exact (hs.pull 1).cellsOf | exact (hs.pull 2).cellsOf | exact (hs.pull 3).cellsOf | exact (hs.pull 4).cellsOf | exact (hs.pull 5).cellsOf | exact (hs.pull 6).cellsOf | exact (hs.pull 7).cellsOf | exact (hs.pull 8).cellsOf)), ?_⟩
    refine x_assign (.bool _) rfl ?_
    refine x_nil ?_
    refine then_n ?_
    refine c_ret ?_
    refine ⟨.inr rfl, ?_⟩
    exact ⟨rfl, hs.tail.tail⟩
end Go.Proofs.Ytfnfpajjggbipaa.X
