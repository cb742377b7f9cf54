/-
  LAYER 14, the reference: Put, Look, Double.
-/
import Derived.Test.YtipleepbhcembaaFl6
namespace Go.Proofs.Ytipleepbhcembaa.X
open Go Go.RowKit
set_option linter.unusedVariables false
set_option maxRecDepth 20000
abbrev FR (f : Nat) (l : List Thg) : HP := FObj 42 47 f l
set_option maxHeartbeats 1000000 in
theorem rput14_calls {w0 w : World} {A : HP} {L : List HP} {f : Nat} {l : List Thg} {v : Value} (to : Pid) (b : List UInt8) (hs : Sat w0 w (FR f l :: A :: L)) (hr : ∀ w' L', Sat w0 w' (A :: L') → RB w' v b) (hl : l.length ≤ 1000000) (hb : b.length ≤ 1000000) :
    Calls Try.prog 21 #[.pointer (some ⟨f, 0, none⟩), .agg to.cells.toArray, v] w fun e w' => e = .returned (.bool (thPut l to b).1) ∧ Sat w0 w' (FR f (thPut l to b).2 :: A :: L) := by
  have h0 := hs.fobj
  clear hs
  obtain ⟨ao, c, z, rfl, hs⟩ := h0
  rw [List.length_map] at hl
  obtain ⟨a1, c1, rfl⟩ := (hr _ _ (hs.pull 3)).val
  unfold thPut
  rw [List.length_map]
  refine enter Try.func21 rfl Try.ntmps21 6 rfl (Nat.le_of_ble_eq_true rfl) ?_
  refine c_seq ?_
  -- region 0
  refine c_region ?_
  refine x_box hs (.agg #[_, _]) rfl ?_; clear hs; intro b4 w hs; refine ⟨fun h => (by first | (cases h; done) | (first | exact hs.cells2 rfl rfl | exact (hs.pull 1).cells2 rfl rfl | exact (hs.pull 2).cells2 rfl rfl | exact (hs.pull 3).cells2 rfl rfl | exact (hs.pull 4).cells2 rfl rfl | exact (hs.pull 5).cells2 rfl rfl | exact (hs.pull 6).cells2 rfl rfl | exact (hs.pull 7).cells2 rfl rfl | exact (hs.pull 8).cells2 rfl rfl | exact hs.cell rfl | exact (hs.pull 1).cell rfl | exact (hs.pull 2).cell rfl | exact (hs.pull 3).cell rfl | exact (hs.pull 4).cell rfl | exact (hs.pull 5).cell rfl | exact (hs.pull 6).cell rfl | exact (hs.pull 7).cell rfl | exact (hs.pull 8).cell rfl | assumption | exact hs.cellsOf | exact (hs.pull 1).cellsOf | exact (hs.pull 2).cellsOf | exact (hs.pull 3).cellsOf | exact (hs.pull 4).cellsOf | exact (hs.pull 5).cellsOf | exact (hs.pull 6).cellsOf | exact (hs.pull 7).cellsOf | exact (hs.pull 8).cellsOf) | (and_intros <;> first | exact hs.cells2 rfl rfl | exact (hs.pull 1).cells2 rfl rfl | exact (hs.pull 2).cells2 rfl rfl | exact (hs.pull 3).cells2 rfl rfl | exact (hs.pull 4).cells2 rfl rfl | exact (hs.pull 5).cells2 rfl rfl | exact (hs.pull 6).cells2 rfl rfl | exact (hs.pull 7).cells2 rfl rfl | exact (hs.pull 8).cells2 rfl rfl | exact hs.cell rfl | exact (hs.pull 1).cell rfl | exact (hs.pull 2).cell rfl | exact (hs.pull 3).cell rfl | exact (hs.pull 4).cell rfl | exact (hs.pull 5).cell rfl | exact (hs.pull 6).cell rfl | exact (hs.pull 7).cell rfl | exact (hs.pull 8).cell rfl | assumption | exact hs.cellsOf | exact (hs.pull 1).cellsOf | exact (hs.pull 2).cellsOf | exact (hs.pull 3).cellsOf | exact (hs.pull 4).cellsOf | exact (hs.pull 5).cellsOf | exact (hs.pull 6).cellsOf | exact (hs.pull 7).cellsOf | exact (hs.pull 8).cellsOf)), ?_⟩
  refine x_assign (.bool _) rfl ?_
  refine x_nil ?_
  refine then_n ?_
  refine c_seq ?_
  refine c_seq ?_
  -- region 1
  refine c_region ?_
  refine x_move (.pointer _) rfl ?_
  refine x_nilCheck _ rfl ?_
  first | refine x_field0 fa_42_0 _ rfl ?_ | refine x_field fa_42_0 _ _ rfl ?_
  refine x_load one_40 _ (.slice _ _ _) rfl (by first | exact hs.cell rfl | exact (hs.pull 1).cell rfl | exact (hs.pull 2).cell rfl | exact (hs.pull 3).cell rfl | assumption | exact (hs.pull 4).cell rfl | exact (hs.pull 5).cell rfl | exact (hs.pull 6).cell rfl | exact (hs.pull 7).cell rfl) ?_
  refine x_lenSl Try.underlying40 _ _ _ rfl ?_
  refine x_geq _ _ rfl rfl ?_
  refine x_nil ?_
  refine then_n ?_
  refine c_test _ rfl (fun hb => ?_) (fun hb => ?_)   -- cond t12
  · skip
    refine c_seq ?_
    -- region 2
    refine c_region ?_
    refine x_assign (.bool _) rfl ?_
    refine x_nil ?_
    refine then_n ?_
    refine c_ret ?_
    refine then_r ?_
    refine ⟨.inr rfl, ?_⟩
    rw [if_pos (by omega)]
    exact ⟨rfl, (hs.tail).fobj'⟩
  · skip
    refine c_skip ?_
    refine then_n ?_
    refine c_seq ?_
    -- region 3 DRAWS
    refine c_draw (fun w => w.cell? ⟨f, 0, none⟩ = some (.slice ao z.length c) ∧ (∀ (j : Nat) (u : Value), [Value.int .u16 (to.Id : Nat), Value.int .u32 (to.Inc : Nat)][j]? = some u → w.cell? ((⟨b4, 0, none⟩ : Addr).add j) = some u)) (fun i => !(Nat.beq i 11 || Nat.beq i 14)) [(0, 2), (1, 2), (2, 2), (3, 2), (4, 1), (5, 1), (7, 2), (6, 0), (8, 0), (9, 2), (10, 0), (11, 0), (12, 2), (13, 2), (14, 0)] (by kernel_rfl) (by kernel_rfl) (by kernel_rfl) (by kernel_rfl) ((by first | (first | exact hs.cells2 rfl rfl | exact (hs.pull 1).cells2 rfl rfl | exact (hs.pull 2).cells2 rfl rfl | exact (hs.pull 3).cells2 rfl rfl | exact (hs.pull 4).cells2 rfl rfl | exact (hs.pull 5).cells2 rfl rfl | exact (hs.pull 6).cells2 rfl rfl | exact (hs.pull 7).cells2 rfl rfl | exact (hs.pull 8).cells2 rfl rfl | exact hs.cell rfl | exact (hs.pull 1).cell rfl | exact (hs.pull 2).cell rfl | exact (hs.pull 3).cell rfl | exact (hs.pull 4).cell rfl | exact (hs.pull 5).cell rfl | exact (hs.pull 6).cell rfl | exact (hs.pull 7).cell rfl | exact (hs.pull 8).cell rfl | assumption | exact hs.cellsOf | exact (hs.pull 1).cellsOf | exact (hs.pull 2).cellsOf | exact (hs.pull 3).cellsOf | exact (hs.pull 4).cellsOf | exact (hs.pull 5).cellsOf | exact (hs.pull 6).cellsOf | exact (hs.pull 7).cellsOf | exact (hs.pull 8).cellsOf) | (and_intros <;> first | exact hs.cells2 rfl rfl | exact (hs.pull 1).cells2 rfl rfl | exact (hs.pull 2).cells2 rfl rfl | exact (hs.pull 3).cells2 rfl rfl | exact (hs.pull 4).cells2 rfl rfl | exact (hs.pull 5).cells2 rfl rfl | exact (hs.pull 6).cells2 rfl rfl | exact (hs.pull 7).cells2 rfl rfl | exact (hs.pull 8).cells2 rfl rfl | exact hs.cell rfl | exact (hs.pull 1).cell rfl | exact (hs.pull 2).cell rfl | exact (hs.pull 3).cell rfl | exact (hs.pull 4).cell rfl | exact (hs.pull 5).cell rfl | exact (hs.pull 6).cell rfl | exact (hs.pull 7).cell rfl | exact (hs.pull 8).cell rfl | assumption | exact hs.cellsOf | exact (hs.pull 1).cellsOf | exact (hs.pull 2).cellsOf | exact (hs.pull 3).cellsOf | exact (hs.pull 4).cellsOf | exact (hs.pull 5).cellsOf | exact (hs.pull 6).cellsOf | exact (hs.pull 7).cellsOf | exact (hs.pull 8).cellsOf))) ?_
    replace hs := hs.drew
    refine x_move (.pointer _) rfl ?_
    refine x_move (.pointer _) rfl ?_
    refine x_nilCheck _ rfl ?_
    first | refine x_field0 fa_42_0 _ rfl ?_ | refine x_field fa_42_0 _ _ rfl ?_
    refine h_load one_40 _ (.slice _ _ _) rfl (fun w hS => by first | exact hS.cell rfl | exact (hS.pull 1).cell rfl | exact (hS.pull 2).cell rfl | exact (hS.pull 3).cell rfl | exact (hS.pull 4).cell rfl | exact (hS.pull 5).cell rfl | exact (hS.pull 6).cell rfl | exact hS | exact hS.1 | exact hS.2 | exact hS.2.1 | exact hS.2.2 | exact hS.2.2.1 | exact hS.2.2.2 | exact hS.2.2.2.1 | exact hS.2.2.2.2) ?_
    refine h_loadN [_, _] agg_30 _ rfl (fun w hS => by first | exact hS | exact hS.1 | exact hS.2 | exact hS.2.1 | exact hS.2.2 | exact hS.2.2.1 | exact hS.2.2.2 | exact hS.2.2.2.1 | exact hS.2.2.2.2 | exact hS.cellsOf | exact (hS.pull 1).cellsOf | exact (hS.pull 2).cellsOf | exact (hS.pull 3).cellsOf | exact (hS.pull 4).cellsOf | exact (hS.pull 5).cellsOf | exact (hS.pull 6).cellsOf | exact hS.cells2 rfl rfl | exact (hS.pull 1).cells2 rfl rfl | exact (hS.pull 2).cells2 rfl rfl | exact (hS.pull 3).cells2 rfl rfl | exact (hS.pull 4).cells2 rfl rfl | exact (hS.pull 5).cells2 rfl rfl | exact (hS.pull 6).cells2 rfl rfl) ?_
    refine x_move (.slice _ _ _) rfl ?_
    refine x_buildSlice _ [] hs rfl (fun w => bs_22_0 w) ?_; clear hs; intro b19 w hs; refine ⟨fun h => (by first | (cases h; done) | (first | exact hs.cells2 rfl rfl | exact (hs.pull 1).cells2 rfl rfl | exact (hs.pull 2).cells2 rfl rfl | exact (hs.pull 3).cells2 rfl rfl | exact (hs.pull 4).cells2 rfl rfl | exact (hs.pull 5).cells2 rfl rfl | exact (hs.pull 6).cells2 rfl rfl | exact (hs.pull 7).cells2 rfl rfl | exact (hs.pull 8).cells2 rfl rfl | exact hs.cell rfl | exact (hs.pull 1).cell rfl | exact (hs.pull 2).cell rfl | exact (hs.pull 3).cell rfl | exact (hs.pull 4).cell rfl | exact (hs.pull 5).cell rfl | exact (hs.pull 6).cell rfl | exact (hs.pull 7).cell rfl | exact (hs.pull 8).cell rfl | assumption | exact hs.cellsOf | exact (hs.pull 1).cellsOf | exact (hs.pull 2).cellsOf | exact (hs.pull 3).cellsOf | exact (hs.pull 4).cellsOf | exact (hs.pull 5).cellsOf | exact (hs.pull 6).cellsOf | exact (hs.pull 7).cellsOf | exact (hs.pull 8).cellsOf) | (and_intros <;> first | exact hs.cells2 rfl rfl | exact (hs.pull 1).cells2 rfl rfl | exact (hs.pull 2).cells2 rfl rfl | exact (hs.pull 3).cells2 rfl rfl | exact (hs.pull 4).cells2 rfl rfl | exact (hs.pull 5).cells2 rfl rfl | exact (hs.pull 6).cells2 rfl rfl | exact (hs.pull 7).cells2 rfl rfl | exact (hs.pull 8).cells2 rfl rfl | exact hs.cell rfl | exact (hs.pull 1).cell rfl | exact (hs.pull 2).cell rfl | exact (hs.pull 3).cell rfl | exact (hs.pull 4).cell rfl | exact (hs.pull 5).cell rfl | exact (hs.pull 6).cell rfl | exact (hs.pull 7).cell rfl | exact (hs.pull 8).cell rfl | assumption | exact hs.cellsOf | exact (hs.pull 1).cellsOf | exact (hs.pull 2).cellsOf | exact (hs.pull 3).cellsOf | exact (hs.pull 4).cellsOf | exact (hs.pull 5).cellsOf | exact (hs.pull 6).cellsOf | exact (hs.pull 7).cellsOf | exact (hs.pull 8).cellsOf)), ?_⟩
    refine x_append (row_blk (size := 1) (len := 0) hs rfl (by decide)) Try.underlying22 ei_5 (hr _ _ (hs.pull 5)) bv_one (by unfold maxLen; omega) (by omega) rfl rfl ?_
    clear hs; intro v w hs; refine ⟨fun h => (by first | (cases h; done) | (and_intros <;> first | exact hs.cells2 rfl rfl | exact (hs.pull 1).cells2 rfl rfl | exact (hs.pull 2).cells2 rfl rfl | exact (hs.pull 3).cells2 rfl rfl | exact (hs.pull 4).cells2 rfl rfl | exact (hs.pull 5).cells2 rfl rfl | exact (hs.pull 6).cells2 rfl rfl | exact hs.cell rfl | exact (hs.pull 1).cell rfl | exact (hs.pull 2).cell rfl | exact (hs.pull 3).cell rfl | exact (hs.pull 4).cell rfl | exact (hs.pull 5).cell rfl | exact (hs.pull 6).cell rfl | exact hs.cellsOf | exact (hs.pull 1).cellsOf | exact (hs.pull 2).cellsOf | exact (hs.pull 3).cellsOf | exact (hs.pull 4).cellsOf | exact (hs.pull 5).cellsOf | exact (hs.pull 6).cellsOf)), ?_⟩
    rw [show 0 + b.length = b.length from Nat.zero_add _, show (#[] : Array Value).toList ++ bv b = bv b from rfl] at hs
    obtain ⟨a2, c2, rfl⟩ := hs.rd.val
    refine x_build _ [(0, (.agg #[(.int .u16 _), (.int .u32 _)])), (1, (.slice _ _ _))] rfl (fun w => bd_47_0_1 _ _ _ _ _ w) ?_
    refine x_buildSlice _ [(0, (.agg #[(.int .u16 _), (.int .u32 _), (.slice _ _ _), (.bool _)]))] hs rfl (fun w => bs_40_1 _ _ _ _ _ _ w) ?_; clear hs; intro b23 w hs; refine ⟨fun h => (by first | (cases h; done) | (first | exact hs.cells2 rfl rfl | exact (hs.pull 1).cells2 rfl rfl | exact (hs.pull 2).cells2 rfl rfl | exact (hs.pull 3).cells2 rfl rfl | exact (hs.pull 4).cells2 rfl rfl | exact (hs.pull 5).cells2 rfl rfl | exact (hs.pull 6).cells2 rfl rfl | exact (hs.pull 7).cells2 rfl rfl | exact (hs.pull 8).cells2 rfl rfl | exact hs.cell rfl | exact (hs.pull 1).cell rfl | exact (hs.pull 2).cell rfl | exact (hs.pull 3).cell rfl | exact (hs.pull 4).cell rfl | exact (hs.pull 5).cell rfl | exact (hs.pull 6).cell rfl | exact (hs.pull 7).cell rfl | exact (hs.pull 8).cell rfl | assumption | exact hs.cellsOf | exact (hs.pull 1).cellsOf | exact (hs.pull 2).cellsOf | exact (hs.pull 3).cellsOf | exact (hs.pull 4).cellsOf | exact (hs.pull 5).cellsOf | exact (hs.pull 6).cellsOf | exact (hs.pull 7).cellsOf | exact (hs.pull 8).cellsOf) | (and_intros <;> first | exact hs.cells2 rfl rfl | exact (hs.pull 1).cells2 rfl rfl | exact (hs.pull 2).cells2 rfl rfl | exact (hs.pull 3).cells2 rfl rfl | exact (hs.pull 4).cells2 rfl rfl | exact (hs.pull 5).cells2 rfl rfl | exact (hs.pull 6).cells2 rfl rfl | exact (hs.pull 7).cells2 rfl rfl | exact (hs.pull 8).cells2 rfl rfl | exact hs.cell rfl | exact (hs.pull 1).cell rfl | exact (hs.pull 2).cell rfl | exact (hs.pull 3).cell rfl | exact (hs.pull 4).cell rfl | exact (hs.pull 5).cell rfl | exact (hs.pull 6).cell rfl | exact (hs.pull 7).cell rfl | exact (hs.pull 8).cell rfl | assumption | exact hs.cellsOf | exact (hs.pull 1).cellsOf | exact (hs.pull 2).cellsOf | exact (hs.pull 3).cellsOf | exact (hs.pull 4).cellsOf | exact (hs.pull 5).cellsOf | exact (hs.pull 6).cellsOf | exact (hs.pull 7).cellsOf | exact (hs.pull 8).cellsOf)), ?_⟩
    have hrd := rd_blk (size := 4) hs rfl
    refine x_append (hs.pull 4) Try.underlying40 ei_47 hrd (by intro u hu; simp at hu; rcases hu with rfl | rfl | rfl | rfl <;> rfl) (by unfold maxLen; omega) (by omega) rfl rfl ?_
    clear hs hrd; intro v w hs; refine ⟨fun h => (by cases h), ?_⟩
    obtain ⟨a7, c7, rfl⟩ := hs.rd.val
    refine x_nilCheck _ rfl ?_
    first | refine x_field0 fa_42_0 _ rfl ?_ | refine x_field fa_42_0 _ _ rfl ?_
    first
      | refine x_storeI hs 0 rfl rfl one_40 (.slice _ _ _) rfl rfl rfl ?_
      | refine x_storeI hs 1 rfl rfl one_40 (.slice _ _ _) rfl rfl rfl ?_
      | refine x_storeI hs 2 rfl rfl one_40 (.slice _ _ _) rfl rfl rfl ?_
      | refine x_storeI hs 3 rfl rfl one_40 (.slice _ _ _) rfl rfl rfl ?_
      | refine x_storeI hs 4 rfl rfl one_40 (.slice _ _ _) rfl rfl rfl ?_
      | refine x_storeI hs 5 rfl rfl one_40 (.slice _ _ _) rfl rfl rfl ?_
      | refine x_storeI hs 6 rfl rfl one_40 (.slice _ _ _) rfl rfl rfl ?_
      | refine x_storeI hs 7 rfl rfl one_40 (.slice _ _ _) rfl rfl rfl ?_
    clear hs; intro w hs
    try dsimp only [back, List.set_cons_zero, List.set_cons_succ] at hs
    refine ⟨fun h => (by first | (cases h; done) | (first | exact hs.cells2 rfl rfl | exact (hs.pull 1).cells2 rfl rfl | exact (hs.pull 2).cells2 rfl rfl | exact (hs.pull 3).cells2 rfl rfl | exact (hs.pull 4).cells2 rfl rfl | exact (hs.pull 5).cells2 rfl rfl | exact (hs.pull 6).cells2 rfl rfl | exact (hs.pull 7).cells2 rfl rfl | exact (hs.pull 8).cells2 rfl rfl | exact hs.cell rfl | exact (hs.pull 1).cell rfl | exact (hs.pull 2).cell rfl | exact (hs.pull 3).cell rfl | exact (hs.pull 4).cell rfl | exact (hs.pull 5).cell rfl | exact (hs.pull 6).cell rfl | exact (hs.pull 7).cell rfl | exact (hs.pull 8).cell rfl | assumption | exact hs.cellsOf | exact (hs.pull 1).cellsOf | exact (hs.pull 2).cellsOf | exact (hs.pull 3).cellsOf | exact (hs.pull 4).cellsOf | exact (hs.pull 5).cellsOf | exact (hs.pull 6).cellsOf | exact (hs.pull 7).cellsOf | exact (hs.pull 8).cellsOf) | (and_intros <;> first | exact hs.cells2 rfl rfl | exact (hs.pull 1).cells2 rfl rfl | exact (hs.pull 2).cells2 rfl rfl | exact (hs.pull 3).cells2 rfl rfl | exact (hs.pull 4).cells2 rfl rfl | exact (hs.pull 5).cells2 rfl rfl | exact (hs.pull 6).cells2 rfl rfl | exact (hs.pull 7).cells2 rfl rfl | exact (hs.pull 8).cells2 rfl rfl | exact hs.cell rfl | exact (hs.pull 1).cell rfl | exact (hs.pull 2).cell rfl | exact (hs.pull 3).cell rfl | exact (hs.pull 4).cell rfl | exact (hs.pull 5).cell rfl | exact (hs.pull 6).cell rfl | exact (hs.pull 7).cell rfl | exact (hs.pull 8).cell rfl | assumption | exact hs.cellsOf | exact (hs.pull 1).cellsOf | exact (hs.pull 2).cellsOf | exact (hs.pull 3).cellsOf | exact (hs.pull 4).cellsOf | exact (hs.pull 5).cellsOf | exact (hs.pull 6).cellsOf | exact (hs.pull 7).cellsOf | exact (hs.pull 8).cellsOf)), ?_⟩
    refine x_nil ?_
    refine then_n ?_
    refine c_seq ?_
    -- region 4
    refine c_region ?_
    refine x_assign (.bool _) rfl ?_
    refine x_nil ?_
    refine then_n ?_
    refine c_ret ?_
    refine ⟨.inr rfl, ?_⟩
    rw [if_neg (by omega)]
    have hs := ((hs.pull 1).tail.pull 2).tail.perm [2, 0, 3, 1, 4]
    exact ⟨rfl, fobj_snoc (t := ⟨to, b, false⟩) hs⟩
/-- what Look yields, its object laid open -/
structure RLook (w0 w : World) (f : Nat) (l : List Thg) (a : Int) (u v : Value) (z : List (Thg × Value)) (L : List HP) : Prop where
  eqz : l = z.map (·.1)
  rd : ∀ w2 L2, Sat w0 w2 (EachB (z.map (·.2)) (z.map (·.1.b)) :: L2) → RB w2 u (thLook l a).b
  atz : 0 < z.length → z[pk a z.length]? = some (thLook l a, u)
  sat : Sat w0 w (Blk f (.cells #[v] 42 (0, 0)) :: Row 47 4 v z.length (tcells z) :: EachB (z.map (·.2)) (z.map (·.1.b)) :: L)
set_option maxHeartbeats 1000000 in
theorem rlook14_calls {w0 w : World} {L : List HP} {f : Nat} {l : List Thg} (at' : Int) (hs : Sat w0 w (FR f l :: L)) (hl : l.length ≤ 1000000) :
    Calls Try.prog 22 #[.pointer (some ⟨f, 0, none⟩), .int .i64 at'] w fun e w' => ∃ u v z, e = .returned (.agg (tcell (thLook l at', u)).toArray) ∧ RLook w0 w' f l at' u v z L := by
  have h0 := hs.fobj
  clear hs
  obtain ⟨ao, c, z, rfl, hs⟩ := h0
  rw [List.length_map] at hl
  refine enterC1 Try.func22 rfl Try.ntmps22 agg_47 4 rfl (Nat.le_of_ble_eq_true rfl) ?_
  refine c_seq ?_
  -- region 0
  refine c_region ?_
  refine x_alloc zi_47 hs ?_; clear hs; intro b4 w hs; refine ⟨fun h => (by first | (cases h; done) | (first | exact hs.cells2 rfl rfl | exact (hs.pull 1).cells2 rfl rfl | exact (hs.pull 2).cells2 rfl rfl | exact (hs.pull 3).cells2 rfl rfl | exact (hs.pull 4).cells2 rfl rfl | exact (hs.pull 5).cells2 rfl rfl | exact (hs.pull 6).cells2 rfl rfl | exact (hs.pull 7).cells2 rfl rfl | exact (hs.pull 8).cells2 rfl rfl | exact hs.cell rfl | exact (hs.pull 1).cell rfl | exact (hs.pull 2).cell rfl | exact (hs.pull 3).cell rfl | exact (hs.pull 4).cell rfl | exact (hs.pull 5).cell rfl | exact (hs.pull 6).cell rfl | exact (hs.pull 7).cell rfl | exact (hs.pull 8).cell rfl | assumption | exact hs.cellsOf | exact (hs.pull 1).cellsOf | exact (hs.pull 2).cellsOf | exact (hs.pull 3).cellsOf | exact (hs.pull 4).cellsOf | exact (hs.pull 5).cellsOf | exact (hs.pull 6).cellsOf | exact (hs.pull 7).cellsOf | exact (hs.pull 8).cellsOf) | (and_intros <;> first | exact hs.cells2 rfl rfl | exact (hs.pull 1).cells2 rfl rfl | exact (hs.pull 2).cells2 rfl rfl | exact (hs.pull 3).cells2 rfl rfl | exact (hs.pull 4).cells2 rfl rfl | exact (hs.pull 5).cells2 rfl rfl | exact (hs.pull 6).cells2 rfl rfl | exact (hs.pull 7).cells2 rfl rfl | exact (hs.pull 8).cells2 rfl rfl | exact hs.cell rfl | exact (hs.pull 1).cell rfl | exact (hs.pull 2).cell rfl | exact (hs.pull 3).cell rfl | exact (hs.pull 4).cell rfl | exact (hs.pull 5).cell rfl | exact (hs.pull 6).cell rfl | exact (hs.pull 7).cell rfl | exact (hs.pull 8).cell rfl | assumption | exact hs.cellsOf | exact (hs.pull 1).cellsOf | exact (hs.pull 2).cellsOf | exact (hs.pull 3).cellsOf | exact (hs.pull 4).cellsOf | exact (hs.pull 5).cellsOf | exact (hs.pull 6).cellsOf | exact (hs.pull 7).cellsOf | exact (hs.pull 8).cellsOf)), ?_⟩
  refine x_nil ?_
  refine then_n ?_
  refine c_seq ?_
  refine c_seq ?_
  -- region 1
  refine c_region ?_
  refine x_move (.pointer _) rfl ?_
  refine x_nilCheck _ rfl ?_
  first | refine x_field0 fa_42_0 _ rfl ?_ | refine x_field fa_42_0 _ _ rfl ?_
  refine x_load one_40 _ (.slice _ _ _) rfl (by first | exact hs.cell rfl | exact (hs.pull 1).cell rfl | exact (hs.pull 2).cell rfl | exact (hs.pull 3).cell rfl | assumption | exact (hs.pull 4).cell rfl | exact (hs.pull 5).cell rfl | exact (hs.pull 6).cell rfl | exact (hs.pull 7).cell rfl) ?_
  refine x_lenSl Try.underlying40 _ _ _ rfl ?_
  refine x_eql _ _ rfl rfl ?_
  refine x_nil ?_
  refine then_n ?_
  refine c_test _ rfl (fun hb => ?_) (fun hb => ?_)   -- cond t10
  · skip
    refine c_seq ?_
    -- region 2
    refine c_region ?_
    refine x_build _ [] rfl (fun w => bd_47 w) ?_
    first
      | refine x_storeAllI hs 0 rfl rfl agg_47 [_, _, _, _] rfl rfl rfl rfl ?_
      | refine x_storeAllI hs 1 rfl rfl agg_47 [_, _, _, _] rfl rfl rfl rfl ?_
      | refine x_storeAllI hs 2 rfl rfl agg_47 [_, _, _, _] rfl rfl rfl rfl ?_
      | refine x_storeAllI hs 3 rfl rfl agg_47 [_, _, _, _] rfl rfl rfl rfl ?_
      | refine x_storeAllI hs 4 rfl rfl agg_47 [_, _, _, _] rfl rfl rfl rfl ?_
      | refine x_storeAllI hs 5 rfl rfl agg_47 [_, _, _, _] rfl rfl rfl rfl ?_
      | refine x_storeAllI hs 6 rfl rfl agg_47 [_, _, _, _] rfl rfl rfl rfl ?_
      | refine x_storeAllI hs 7 rfl rfl agg_47 [_, _, _, _] rfl rfl rfl rfl ?_
    clear hs; intro w hs
    try dsimp only [back, List.set_cons_zero, List.set_cons_succ] at hs
    refine ⟨fun h => (by first | (cases h; done) | (first | exact hs.cells2 rfl rfl | exact (hs.pull 1).cells2 rfl rfl | exact (hs.pull 2).cells2 rfl rfl | exact (hs.pull 3).cells2 rfl rfl | exact (hs.pull 4).cells2 rfl rfl | exact (hs.pull 5).cells2 rfl rfl | exact (hs.pull 6).cells2 rfl rfl | exact (hs.pull 7).cells2 rfl rfl | exact (hs.pull 8).cells2 rfl rfl | exact hs.cell rfl | exact (hs.pull 1).cell rfl | exact (hs.pull 2).cell rfl | exact (hs.pull 3).cell rfl | exact (hs.pull 4).cell rfl | exact (hs.pull 5).cell rfl | exact (hs.pull 6).cell rfl | exact (hs.pull 7).cell rfl | exact (hs.pull 8).cell rfl | assumption | exact hs.cellsOf | exact (hs.pull 1).cellsOf | exact (hs.pull 2).cellsOf | exact (hs.pull 3).cellsOf | exact (hs.pull 4).cellsOf | exact (hs.pull 5).cellsOf | exact (hs.pull 6).cellsOf | exact (hs.pull 7).cellsOf | exact (hs.pull 8).cellsOf) | (and_intros <;> first | exact hs.cells2 rfl rfl | exact (hs.pull 1).cells2 rfl rfl | exact (hs.pull 2).cells2 rfl rfl | exact (hs.pull 3).cells2 rfl rfl | exact (hs.pull 4).cells2 rfl rfl | exact (hs.pull 5).cells2 rfl rfl | exact (hs.pull 6).cells2 rfl rfl | exact (hs.pull 7).cells2 rfl rfl | exact (hs.pull 8).cells2 rfl rfl | exact hs.cell rfl | exact (hs.pull 1).cell rfl | exact (hs.pull 2).cell rfl | exact (hs.pull 3).cell rfl | exact (hs.pull 4).cell rfl | exact (hs.pull 5).cell rfl | exact (hs.pull 6).cell rfl | exact (hs.pull 7).cell rfl | exact (hs.pull 8).cell rfl | assumption | exact hs.cellsOf | exact (hs.pull 1).cellsOf | exact (hs.pull 2).cellsOf | exact (hs.pull 3).cellsOf | exact (hs.pull 4).cellsOf | exact (hs.pull 5).cellsOf | exact (hs.pull 6).cellsOf | exact (hs.pull 7).cellsOf | exact (hs.pull 8).cellsOf)), ?_⟩
    refine x_nil ?_
    refine then_n ?_
    refine c_ret ?_
    refine then_r ?_
    refine ⟨.inr rfl, ?_⟩
    obtain rfl : z = [] := List.eq_nil_of_length_eq_zero (by omega)
    refine ⟨b4, _, rfl, rfl, hs.cellsAt, .slice none 0 0, _, [], rfl, rfl, fun w2 L2 h => ⟨rfl, none, 0, rfl, Nat.le_refl _, fun _ => rfl, (fun _ h => nomatch h)⟩, fun h => absurd h (by simp), hs.tail⟩
  · skip
    refine c_skip ?_
    refine then_n ?_
    refine c_seq ?_
    -- region 3 DRAWS
    have hz0 : 0 < z.length := by omega
    obtain ⟨t, u, hz, hlk⟩ := thLook_z (a := at') hz0
    have hk := pk_lt' (x := at') hz0
    obtain ⟨z1, z2⟩ := zs hz
    obtain ⟨g, o, rfl⟩ := (hs.pull 2).rowAddr hz0
    obtain ⟨a5, c5, rfl⟩ := ((hs.pull 3).eachRB z1 z2).val
    have hcells := RS.all (cells := tcell) (hs.pull 2).rd (fun _ => rfl) hz
    refine c_draw (fun w => w.cell? ⟨f, 0, none⟩ = some (.slice (some ⟨g, o, none⟩) z.length c) ∧ (∀ (j : Nat) (u : Value), (tcell (t, .slice a5 t.b.length c5))[j]? = some u → w.cell? ((⟨g, o + pk at' z.length * 4, none⟩ : Addr).add j) = some u)) (fun i => !(Nat.beq i 13)) [(0, 2), (1, 2), (2, 2), (3, 1), (4, 2), (5, 2), (6, 2), (7, 2), (8, 1), (9, 2), (10, 0), (11, 2), (12, 1), (13, 0)] (by kernel_rfl) (by kernel_rfl) (by kernel_rfl) (by kernel_rfl) (⟨(hs.pull 1).cell rfl, hcells⟩) ?_
    replace hs := hs.drew
    refine x_move (.pointer _) rfl ?_
    refine x_nilCheck _ rfl ?_
    first | refine x_field0 fa_42_0 _ rfl ?_ | refine x_field fa_42_0 _ _ rfl ?_
    refine h_load one_40 _ (.slice _ _ _) rfl (fun w hS => by first | exact hS.cell rfl | exact (hS.pull 1).cell rfl | exact (hS.pull 2).cell rfl | exact (hS.pull 3).cell rfl | exact (hS.pull 4).cell rfl | exact (hS.pull 5).cell rfl | exact (hS.pull 6).cell rfl | exact hS | exact hS.1 | exact hS.2 | exact hS.2.1 | exact hS.2.2 | exact hS.2.2.1 | exact hS.2.2.2 | exact hS.2.2.2.1 | exact hS.2.2.2.2) ?_
    refine x_move (.int _ _) rfl ?_
    refine x_move (.pointer _) rfl ?_
    refine x_nilCheck _ rfl ?_
    first | refine x_field0 fa_42_0 _ rfl ?_ | refine x_field fa_42_0 _ _ rfl ?_
    refine h_load one_40 _ (.slice _ _ _) rfl (fun w hS => by first | exact hS.cell rfl | exact (hS.pull 1).cell rfl | exact (hS.pull 2).cell rfl | exact (hS.pull 3).cell rfl | exact (hS.pull 4).cell rfl | exact (hS.pull 5).cell rfl | exact (hS.pull 6).cell rfl | exact hS | exact hS.1 | exact hS.2 | exact hS.2.1 | exact hS.2.2 | exact hS.2.2.1 | exact hS.2.2.2 | exact hS.2.2.2.1 | exact hS.2.2.2.2) ?_
    refine x_lenSl Try.underlying40 _ _ _ rfl ?_
    refine x_call Try.f14 Try.func14 rfl rfl _ rfl ?_
    refine (pick_calls hs _ _ (by omega)).mono ?_
    clear hs; rintro e w ⟨rfl, hs, -⟩
    refine ⟨_, rfl, fun h => ⟨(hs.pull 1).cell rfl, RS.all (cells := tcell) (hs.pull 2).rd (fun _ => rfl) hz⟩, ?_⟩
    refine x_indexAddr Try.underlying40 sz_47 _ _ _ _ _ rfl rfl (by omega) ?_
    refine h_loadN [.int .u16 (t.to.Id : Nat), .int .u32 (t.to.Inc : Nat), .slice a5 t.b.length c5, .bool t.sp] agg_47 _ rfl (fun w hS => hS.2) ?_
    first
      | refine x_storeAllI hs 0 rfl rfl agg_47 [_, _, _, _] rfl rfl rfl rfl ?_
      | refine x_storeAllI hs 1 rfl rfl agg_47 [_, _, _, _] rfl rfl rfl rfl ?_
      | refine x_storeAllI hs 2 rfl rfl agg_47 [_, _, _, _] rfl rfl rfl rfl ?_
      | refine x_storeAllI hs 3 rfl rfl agg_47 [_, _, _, _] rfl rfl rfl rfl ?_
      | refine x_storeAllI hs 4 rfl rfl agg_47 [_, _, _, _] rfl rfl rfl rfl ?_
      | refine x_storeAllI hs 5 rfl rfl agg_47 [_, _, _, _] rfl rfl rfl rfl ?_
      | refine x_storeAllI hs 6 rfl rfl agg_47 [_, _, _, _] rfl rfl rfl rfl ?_
      | refine x_storeAllI hs 7 rfl rfl agg_47 [_, _, _, _] rfl rfl rfl rfl ?_
    clear hs; intro w hs
    try dsimp only [back, List.set_cons_zero, List.set_cons_succ] at hs
    refine ⟨fun h => ⟨(hs.pull 1).cell rfl, RS.all (cells := tcell) (hs.pull 2).rd (fun _ => rfl) hz⟩, ?_⟩
    refine x_nil ?_
    refine then_n ?_
    refine c_ret ?_
    refine ⟨.inr rfl, ?_⟩
    refine ⟨b4, _, rfl, rfl, hs.cellsAt, .slice a5 t.b.length c5, _, z, ?_, rfl, ?_, ?_, hs.tail⟩
    · rw [hlk]; rfl
    · intro w2 L2 h
      rw [hlk]
      exact h.eachRB z1 z2
    · intro _
      rw [hlk]
      exact hz
set_option maxHeartbeats 1000000 in
theorem rdouble_calls {w0 w : World} {L : List HP} {f : Nat} {l : List Thg} (at' : Int) (hs : Sat w0 w (FR f l :: L)) (hl : l.length ≤ 1000000) (hb : ∀ t ∈ l, t.b.length ≤ 1000000) :
    Calls Try.prog 18 #[.pointer (some ⟨f, 0, none⟩), .int .i64 at'] w fun e w' => e = .returned (.bool (thDouble l at').1) ∧ Sat w0 w' (FR f (thDouble l at').2 :: L) := by
  unfold thDouble
  have h0 := hs.fobj
  clear hs
  obtain ⟨ao, c, z, rfl, hs⟩ := h0
  rw [List.length_map] at *
  have hbt : (thLook (z.map (·.1)) at').b.length ≤ 1000000 := by
    unfold thLook
    by_cases h : pk at' (z.map (·.1)).length < (z.map (·.1)).length
    · rw [List.getD_eq_getElem?_getD, List.getElem?_eq_getElem h]
      exact hb _ (List.getElem_mem h)
    · rw [List.getD_eq_getElem?_getD, List.getElem?_eq_none (by omega)]
      exact Nat.zero_le _
  refine enter Try.func18 rfl Try.ntmps18 4 rfl (Nat.le_of_ble_eq_true rfl) ?_
  by_cases h0 : z.length = 0
  rotate_left
  by_cases h5 : 512 ≤ z.length
  · skip
    refine c_seq ?_
    -- region 0
    refine c_region ?_
    refine x_assign (.bool _) rfl ?_
    refine x_nil ?_
    refine then_n ?_
    refine c_seq ?_
    refine c_seq ?_
    -- region 1
    refine c_region ?_
    refine x_move (.pointer _) rfl ?_
    refine x_nilCheck _ rfl ?_
    first | refine x_field0 fa_42_0 _ rfl ?_ | refine x_field fa_42_0 _ _ rfl ?_
    refine x_load one_40 _ (.slice _ _ _) rfl (by first | exact hs.cell rfl | exact (hs.pull 1).cell rfl | exact (hs.pull 2).cell rfl | exact (hs.pull 3).cell rfl | assumption | exact (hs.pull 4).cell rfl | exact (hs.pull 5).cell rfl | exact (hs.pull 6).cell rfl | exact (hs.pull 7).cell rfl) ?_
    refine x_lenSl Try.underlying40 _ _ _ rfl ?_
    refine x_eqlF _ _ rfl rfl (by omega) ?_
    refine x_move (.bool _) rfl ?_
    refine x_want' rfl ?_
    refine x_move (.pointer _) rfl ?_
    refine x_want' rfl ?_
    refine x_nilCheck _ rfl ?_
    refine x_want' rfl ?_
    first | refine x_field0 fa_42_0 _ rfl ?_ | refine x_field fa_42_0 _ _ rfl ?_
    refine x_want' rfl ?_
    refine x_load one_40 _ (.slice _ _ _) rfl (by first | exact hs.cell rfl | exact (hs.pull 1).cell rfl | exact (hs.pull 2).cell rfl | exact (hs.pull 3).cell rfl | assumption | exact (hs.pull 4).cell rfl | exact (hs.pull 5).cell rfl | exact (hs.pull 6).cell rfl | exact (hs.pull 7).cell rfl) ?_
    refine x_want' rfl ?_
    refine x_lenSl Try.underlying40 _ _ _ rfl ?_
    refine x_want' rfl ?_
    refine x_geqT _ _ rfl rfl (by omega) ?_
    refine x_pickF (.bool _) rfl rfl ?_
    refine x_nil ?_
    refine then_n ?_
    refine c_true rfl ?_
    refine c_seq ?_
    -- region 2
    refine c_region ?_
    refine x_assign (.bool _) rfl ?_
    refine x_nil ?_
    refine then_n ?_
    refine c_ret ?_
    refine then_r ?_
    refine ⟨.inr rfl, ?_⟩
    rw [if_pos (.inr h5)]
    exact ⟨rfl, hs.fobj'⟩
  · skip
    refine c_seq ?_
    -- region 0
    refine c_region ?_
    refine x_assign (.bool _) rfl ?_
    refine x_nil ?_
    refine then_n ?_
    refine c_seq ?_
    refine c_seq ?_
    -- region 1
    refine c_region ?_
    refine x_move (.pointer _) rfl ?_
    refine x_nilCheck _ rfl ?_
    first | refine x_field0 fa_42_0 _ rfl ?_ | refine x_field fa_42_0 _ _ rfl ?_
    refine x_load one_40 _ (.slice _ _ _) rfl (by first | exact hs.cell rfl | exact (hs.pull 1).cell rfl | exact (hs.pull 2).cell rfl | exact (hs.pull 3).cell rfl | assumption | exact (hs.pull 4).cell rfl | exact (hs.pull 5).cell rfl | exact (hs.pull 6).cell rfl | exact (hs.pull 7).cell rfl) ?_
    refine x_lenSl Try.underlying40 _ _ _ rfl ?_
    refine x_eqlF _ _ rfl rfl (by omega) ?_
    refine x_move (.bool _) rfl ?_
    refine x_want' rfl ?_
    refine x_move (.pointer _) rfl ?_
    refine x_want' rfl ?_
    refine x_nilCheck _ rfl ?_
    refine x_want' rfl ?_
    first | refine x_field0 fa_42_0 _ rfl ?_ | refine x_field fa_42_0 _ _ rfl ?_
    refine x_want' rfl ?_
    refine x_load one_40 _ (.slice _ _ _) rfl (by first | exact hs.cell rfl | exact (hs.pull 1).cell rfl | exact (hs.pull 2).cell rfl | exact (hs.pull 3).cell rfl | assumption | exact (hs.pull 4).cell rfl | exact (hs.pull 5).cell rfl | exact (hs.pull 6).cell rfl | exact (hs.pull 7).cell rfl) ?_
    refine x_want' rfl ?_
    refine x_lenSl Try.underlying40 _ _ _ rfl ?_
    refine x_want' rfl ?_
    refine x_geqF _ _ rfl rfl (by omega) ?_
    refine x_pickF (.bool _) rfl rfl ?_
    refine x_nil ?_
    refine then_n ?_
    refine c_false rfl ?_
    refine c_skip ?_
    refine then_n ?_
    refine c_seq ?_
    -- region 3
    refine c_region ?_
    refine x_move (.pointer _) rfl ?_
    refine x_move (.int _ _) rfl ?_
    refine x_call Try.f22 Try.func22 rfl rfl _ rfl ?_
    refine ((rlook14_calls at' hs.fobj' (by rw [List.length_map]; exact hl))).mono ?_
    clear hs; rintro e w ⟨u, v, z', rfl, hlk⟩
    refine ⟨_, rfl, fun h => (by first | (cases h; done) | (first | exact hs.cells2 rfl rfl | exact (hs.pull 1).cells2 rfl rfl | exact (hs.pull 2).cells2 rfl rfl | exact (hs.pull 3).cells2 rfl rfl | exact (hs.pull 4).cells2 rfl rfl | exact (hs.pull 5).cells2 rfl rfl | exact (hs.pull 6).cells2 rfl rfl | exact (hs.pull 7).cells2 rfl rfl | exact (hs.pull 8).cells2 rfl rfl | exact hs.cell rfl | exact (hs.pull 1).cell rfl | exact (hs.pull 2).cell rfl | exact (hs.pull 3).cell rfl | exact (hs.pull 4).cell rfl | exact (hs.pull 5).cell rfl | exact (hs.pull 6).cell rfl | exact (hs.pull 7).cell rfl | exact (hs.pull 8).cell rfl | assumption | exact hs.cellsOf | exact (hs.pull 1).cellsOf | exact (hs.pull 2).cellsOf | exact (hs.pull 3).cellsOf | exact (hs.pull 4).cellsOf | exact (hs.pull 5).cellsOf | exact (hs.pull 6).cellsOf | exact (hs.pull 7).cellsOf | exact (hs.pull 8).cellsOf) | (and_intros <;> first | exact hs.cells2 rfl rfl | exact (hs.pull 1).cells2 rfl rfl | exact (hs.pull 2).cells2 rfl rfl | exact (hs.pull 3).cells2 rfl rfl | exact (hs.pull 4).cells2 rfl rfl | exact (hs.pull 5).cells2 rfl rfl | exact (hs.pull 6).cells2 rfl rfl | exact (hs.pull 7).cells2 rfl rfl | exact (hs.pull 8).cells2 rfl rfl | exact hs.cell rfl | exact (hs.pull 1).cell rfl | exact (hs.pull 2).cell rfl | exact (hs.pull 3).cell rfl | exact (hs.pull 4).cell rfl | exact (hs.pull 5).cell rfl | exact (hs.pull 6).cell rfl | exact (hs.pull 7).cell rfl | exact (hs.pull 8).cell rfl | assumption | exact hs.cellsOf | exact (hs.pull 1).cellsOf | exact (hs.pull 2).cellsOf | exact (hs.pull 3).cellsOf | exact (hs.pull 4).cellsOf | exact (hs.pull 5).cellsOf | exact (hs.pull 6).cellsOf | exact (hs.pull 7).cellsOf | exact (hs.pull 8).cellsOf)), ?_⟩
    obtain ⟨hzz, hrd, hz', hs⟩ := hlk
    generalize thLook (z.map (·.1)) at' = t at *
    obtain ⟨a5, c5, rfl⟩ : ∃ a c, u = .slice a t.b.length c := (hrd _ _ (hs.pull 2)).val
    refine x_alloc zi_47 hs ?_; clear hs; intro b5 w hs; refine ⟨fun h => (by first | (cases h; done) | (first | exact hs.cells2 rfl rfl | exact (hs.pull 1).cells2 rfl rfl | exact (hs.pull 2).cells2 rfl rfl | exact (hs.pull 3).cells2 rfl rfl | exact (hs.pull 4).cells2 rfl rfl | exact (hs.pull 5).cells2 rfl rfl | exact (hs.pull 6).cells2 rfl rfl | exact (hs.pull 7).cells2 rfl rfl | exact (hs.pull 8).cells2 rfl rfl | exact hs.cell rfl | exact (hs.pull 1).cell rfl | exact (hs.pull 2).cell rfl | exact (hs.pull 3).cell rfl | exact (hs.pull 4).cell rfl | exact (hs.pull 5).cell rfl | exact (hs.pull 6).cell rfl | exact (hs.pull 7).cell rfl | exact (hs.pull 8).cell rfl | assumption | exact hs.cellsOf | exact (hs.pull 1).cellsOf | exact (hs.pull 2).cellsOf | exact (hs.pull 3).cellsOf | exact (hs.pull 4).cellsOf | exact (hs.pull 5).cellsOf | exact (hs.pull 6).cellsOf | exact (hs.pull 7).cellsOf | exact (hs.pull 8).cellsOf) | (and_intros <;> first | exact hs.cells2 rfl rfl | exact (hs.pull 1).cells2 rfl rfl | exact (hs.pull 2).cells2 rfl rfl | exact (hs.pull 3).cells2 rfl rfl | exact (hs.pull 4).cells2 rfl rfl | exact (hs.pull 5).cells2 rfl rfl | exact (hs.pull 6).cells2 rfl rfl | exact (hs.pull 7).cells2 rfl rfl | exact (hs.pull 8).cells2 rfl rfl | exact hs.cell rfl | exact (hs.pull 1).cell rfl | exact (hs.pull 2).cell rfl | exact (hs.pull 3).cell rfl | exact (hs.pull 4).cell rfl | exact (hs.pull 5).cell rfl | exact (hs.pull 6).cell rfl | exact (hs.pull 7).cell rfl | exact (hs.pull 8).cell rfl | assumption | exact hs.cellsOf | exact (hs.pull 1).cellsOf | exact (hs.pull 2).cellsOf | exact (hs.pull 3).cellsOf | exact (hs.pull 4).cellsOf | exact (hs.pull 5).cellsOf | exact (hs.pull 6).cellsOf | exact (hs.pull 7).cellsOf | exact (hs.pull 8).cellsOf)), ?_⟩
    first
      | refine x_storeAllI hs 0 rfl rfl agg_47 [_, _, _, _] rfl rfl rfl rfl ?_
      | refine x_storeAllI hs 1 rfl rfl agg_47 [_, _, _, _] rfl rfl rfl rfl ?_
      | refine x_storeAllI hs 2 rfl rfl agg_47 [_, _, _, _] rfl rfl rfl rfl ?_
      | refine x_storeAllI hs 3 rfl rfl agg_47 [_, _, _, _] rfl rfl rfl rfl ?_
      | refine x_storeAllI hs 4 rfl rfl agg_47 [_, _, _, _] rfl rfl rfl rfl ?_
      | refine x_storeAllI hs 5 rfl rfl agg_47 [_, _, _, _] rfl rfl rfl rfl ?_
      | refine x_storeAllI hs 6 rfl rfl agg_47 [_, _, _, _] rfl rfl rfl rfl ?_
      | refine x_storeAllI hs 7 rfl rfl agg_47 [_, _, _, _] rfl rfl rfl rfl ?_
    clear hs; intro w hs
    try dsimp only [back, List.set_cons_zero, List.set_cons_succ] at hs
    refine ⟨fun h => (by first | (cases h; done) | (first | exact hs.cells2 rfl rfl | exact (hs.pull 1).cells2 rfl rfl | exact (hs.pull 2).cells2 rfl rfl | exact (hs.pull 3).cells2 rfl rfl | exact (hs.pull 4).cells2 rfl rfl | exact (hs.pull 5).cells2 rfl rfl | exact (hs.pull 6).cells2 rfl rfl | exact (hs.pull 7).cells2 rfl rfl | exact (hs.pull 8).cells2 rfl rfl | exact hs.cell rfl | exact (hs.pull 1).cell rfl | exact (hs.pull 2).cell rfl | exact (hs.pull 3).cell rfl | exact (hs.pull 4).cell rfl | exact (hs.pull 5).cell rfl | exact (hs.pull 6).cell rfl | exact (hs.pull 7).cell rfl | exact (hs.pull 8).cell rfl | assumption | exact hs.cellsOf | exact (hs.pull 1).cellsOf | exact (hs.pull 2).cellsOf | exact (hs.pull 3).cellsOf | exact (hs.pull 4).cellsOf | exact (hs.pull 5).cellsOf | exact (hs.pull 6).cellsOf | exact (hs.pull 7).cellsOf | exact (hs.pull 8).cellsOf) | (and_intros <;> first | exact hs.cells2 rfl rfl | exact (hs.pull 1).cells2 rfl rfl | exact (hs.pull 2).cells2 rfl rfl | exact (hs.pull 3).cells2 rfl rfl | exact (hs.pull 4).cells2 rfl rfl | exact (hs.pull 5).cells2 rfl rfl | exact (hs.pull 6).cells2 rfl rfl | exact (hs.pull 7).cells2 rfl rfl | exact (hs.pull 8).cells2 rfl rfl | exact hs.cell rfl | exact (hs.pull 1).cell rfl | exact (hs.pull 2).cell rfl | exact (hs.pull 3).cell rfl | exact (hs.pull 4).cell rfl | exact (hs.pull 5).cell rfl | exact (hs.pull 6).cell rfl | exact (hs.pull 7).cell rfl | exact (hs.pull 8).cell rfl | assumption | exact hs.cellsOf | exact (hs.pull 1).cellsOf | exact (hs.pull 2).cellsOf | exact (hs.pull 3).cellsOf | exact (hs.pull 4).cellsOf | exact (hs.pull 5).cellsOf | exact (hs.pull 6).cellsOf | exact (hs.pull 7).cellsOf | exact (hs.pull 8).cellsOf)), ?_⟩
    refine x_nil ?_
    refine then_n ?_
    refine c_seq ?_
    -- region 4
    refine c_region ?_
    refine x_buildSlice _ [] hs rfl (fun w => bs_22_0 w) ?_; clear hs; intro b23 w hs; refine ⟨fun h => (by first | (cases h; done) | (first | exact hs.cells2 rfl rfl | exact (hs.pull 1).cells2 rfl rfl | exact (hs.pull 2).cells2 rfl rfl | exact (hs.pull 3).cells2 rfl rfl | exact (hs.pull 4).cells2 rfl rfl | exact (hs.pull 5).cells2 rfl rfl | exact (hs.pull 6).cells2 rfl rfl | exact (hs.pull 7).cells2 rfl rfl | exact (hs.pull 8).cells2 rfl rfl | exact hs.cell rfl | exact (hs.pull 1).cell rfl | exact (hs.pull 2).cell rfl | exact (hs.pull 3).cell rfl | exact (hs.pull 4).cell rfl | exact (hs.pull 5).cell rfl | exact (hs.pull 6).cell rfl | exact (hs.pull 7).cell rfl | exact (hs.pull 8).cell rfl | assumption | exact hs.cellsOf | exact (hs.pull 1).cellsOf | exact (hs.pull 2).cellsOf | exact (hs.pull 3).cellsOf | exact (hs.pull 4).cellsOf | exact (hs.pull 5).cellsOf | exact (hs.pull 6).cellsOf | exact (hs.pull 7).cellsOf | exact (hs.pull 8).cellsOf) | (and_intros <;> first | exact hs.cells2 rfl rfl | exact (hs.pull 1).cells2 rfl rfl | exact (hs.pull 2).cells2 rfl rfl | exact (hs.pull 3).cells2 rfl rfl | exact (hs.pull 4).cells2 rfl rfl | exact (hs.pull 5).cells2 rfl rfl | exact (hs.pull 6).cells2 rfl rfl | exact (hs.pull 7).cells2 rfl rfl | exact (hs.pull 8).cells2 rfl rfl | exact hs.cell rfl | exact (hs.pull 1).cell rfl | exact (hs.pull 2).cell rfl | exact (hs.pull 3).cell rfl | exact (hs.pull 4).cell rfl | exact (hs.pull 5).cell rfl | exact (hs.pull 6).cell rfl | exact (hs.pull 7).cell rfl | exact (hs.pull 8).cell rfl | assumption | exact hs.cellsOf | exact (hs.pull 1).cellsOf | exact (hs.pull 2).cellsOf | exact (hs.pull 3).cellsOf | exact (hs.pull 4).cellsOf | exact (hs.pull 5).cellsOf | exact (hs.pull 6).cellsOf | exact (hs.pull 7).cellsOf | exact (hs.pull 8).cellsOf)), ?_⟩
    first | refine x_field0 fa_47_1 _ rfl ?_ | refine x_field fa_47_1 _ _ rfl ?_
    refine x_load one_22 _ (.slice _ _ _) rfl (by first | exact hs.cell rfl | exact (hs.pull 1).cell rfl | exact (hs.pull 2).cell rfl | exact (hs.pull 3).cell rfl | assumption | exact (hs.pull 4).cell rfl | exact (hs.pull 5).cell rfl | exact (hs.pull 6).cell rfl | exact (hs.pull 7).cell rfl) ?_
    refine x_append (row_blk (size := 1) (len := 0) hs rfl (by decide)) Try.underlying22 ei_5 (hrd _ _ (hs.pull 4)) bv_one (by unfold maxLen; omega) (by omega) rfl rfl ?_
    clear hs; intro v w hs; refine ⟨fun h => (by cases h), ?_⟩
    rw [show 0 + t.b.length = t.b.length from Nat.zero_add _, show (#[] : Array Value).toList ++ bv t.b = bv t.b from rfl] at hs
    obtain ⟨a2, c2, rfl⟩ := hs.rd.val
    have hzl : z'.length = z.length := by have := congrArg List.length hzz; simpa using this.symm
    obtain ⟨a9, c9, rfl⟩ := (hs.pull 3).rd.val
    first | refine x_field0 fa_47_1 _ rfl ?_ | refine x_field fa_47_1 _ _ rfl ?_
    first
      | refine x_storeI hs 0 rfl rfl one_22 (.slice _ _ _) rfl rfl rfl ?_
      | refine x_storeI hs 1 rfl rfl one_22 (.slice _ _ _) rfl rfl rfl ?_
      | refine x_storeI hs 2 rfl rfl one_22 (.slice _ _ _) rfl rfl rfl ?_
      | refine x_storeI hs 3 rfl rfl one_22 (.slice _ _ _) rfl rfl rfl ?_
      | refine x_storeI hs 4 rfl rfl one_22 (.slice _ _ _) rfl rfl rfl ?_
      | refine x_storeI hs 5 rfl rfl one_22 (.slice _ _ _) rfl rfl rfl ?_
      | refine x_storeI hs 6 rfl rfl one_22 (.slice _ _ _) rfl rfl rfl ?_
      | refine x_storeI hs 7 rfl rfl one_22 (.slice _ _ _) rfl rfl rfl ?_
    clear hs; intro w hs
    try dsimp only [back, List.set_cons_zero, List.set_cons_succ] at hs
    refine ⟨fun h => (by first | (cases h; done) | (first | exact hs.cells2 rfl rfl | exact (hs.pull 1).cells2 rfl rfl | exact (hs.pull 2).cells2 rfl rfl | exact (hs.pull 3).cells2 rfl rfl | exact (hs.pull 4).cells2 rfl rfl | exact (hs.pull 5).cells2 rfl rfl | exact (hs.pull 6).cells2 rfl rfl | exact (hs.pull 7).cells2 rfl rfl | exact (hs.pull 8).cells2 rfl rfl | exact hs.cell rfl | exact (hs.pull 1).cell rfl | exact (hs.pull 2).cell rfl | exact (hs.pull 3).cell rfl | exact (hs.pull 4).cell rfl | exact (hs.pull 5).cell rfl | exact (hs.pull 6).cell rfl | exact (hs.pull 7).cell rfl | exact (hs.pull 8).cell rfl | assumption | exact hs.cellsOf | exact (hs.pull 1).cellsOf | exact (hs.pull 2).cellsOf | exact (hs.pull 3).cellsOf | exact (hs.pull 4).cellsOf | exact (hs.pull 5).cellsOf | exact (hs.pull 6).cellsOf | exact (hs.pull 7).cellsOf | exact (hs.pull 8).cellsOf) | (and_intros <;> first | exact hs.cells2 rfl rfl | exact (hs.pull 1).cells2 rfl rfl | exact (hs.pull 2).cells2 rfl rfl | exact (hs.pull 3).cells2 rfl rfl | exact (hs.pull 4).cells2 rfl rfl | exact (hs.pull 5).cells2 rfl rfl | exact (hs.pull 6).cells2 rfl rfl | exact (hs.pull 7).cells2 rfl rfl | exact (hs.pull 8).cells2 rfl rfl | exact hs.cell rfl | exact (hs.pull 1).cell rfl | exact (hs.pull 2).cell rfl | exact (hs.pull 3).cell rfl | exact (hs.pull 4).cell rfl | exact (hs.pull 5).cell rfl | exact (hs.pull 6).cell rfl | exact (hs.pull 7).cell rfl | exact (hs.pull 8).cell rfl | assumption | exact hs.cellsOf | exact (hs.pull 1).cellsOf | exact (hs.pull 2).cellsOf | exact (hs.pull 3).cellsOf | exact (hs.pull 4).cellsOf | exact (hs.pull 5).cellsOf | exact (hs.pull 6).cellsOf | exact (hs.pull 7).cellsOf | exact (hs.pull 8).cellsOf)), ?_⟩
    refine x_nil ?_
    refine then_n ?_
    refine c_seq ?_
    -- region 5 DRAWS
    refine c_draw (fun w => w.cell? ⟨f, 0, none⟩ = some (.slice a9 z'.length c9) ∧ (∀ (j : Nat) (u : Value), [Value.int .u16 (t.to.Id : Nat), .int .u32 (t.to.Inc : Nat), .slice a2 t.b.length c2, .bool t.sp][j]? = some u → w.cell? ((⟨b5, 0, none⟩ : Addr).add j) = some u)) (fun i => !(Nat.beq i 7 || Nat.beq i 10)) [(0, 2), (1, 2), (2, 2), (3, 2), (4, 1), (5, 1), (6, 0), (7, 0), (8, 2), (9, 2), (10, 0)] (by kernel_rfl) (by kernel_rfl) (by kernel_rfl) (by kernel_rfl) ((by first | (first | exact hs.cells2 rfl rfl | exact (hs.pull 1).cells2 rfl rfl | exact (hs.pull 2).cells2 rfl rfl | exact (hs.pull 3).cells2 rfl rfl | exact (hs.pull 4).cells2 rfl rfl | exact (hs.pull 5).cells2 rfl rfl | exact (hs.pull 6).cells2 rfl rfl | exact (hs.pull 7).cells2 rfl rfl | exact (hs.pull 8).cells2 rfl rfl | exact hs.cell rfl | exact (hs.pull 1).cell rfl | exact (hs.pull 2).cell rfl | exact (hs.pull 3).cell rfl | exact (hs.pull 4).cell rfl | exact (hs.pull 5).cell rfl | exact (hs.pull 6).cell rfl | exact (hs.pull 7).cell rfl | exact (hs.pull 8).cell rfl | assumption | exact hs.cellsOf | exact (hs.pull 1).cellsOf | exact (hs.pull 2).cellsOf | exact (hs.pull 3).cellsOf | exact (hs.pull 4).cellsOf | exact (hs.pull 5).cellsOf | exact (hs.pull 6).cellsOf | exact (hs.pull 7).cellsOf | exact (hs.pull 8).cellsOf) | (and_intros <;> first | exact hs.cells2 rfl rfl | exact (hs.pull 1).cells2 rfl rfl | exact (hs.pull 2).cells2 rfl rfl | exact (hs.pull 3).cells2 rfl rfl | exact (hs.pull 4).cells2 rfl rfl | exact (hs.pull 5).cells2 rfl rfl | exact (hs.pull 6).cells2 rfl rfl | exact (hs.pull 7).cells2 rfl rfl | exact (hs.pull 8).cells2 rfl rfl | exact hs.cell rfl | exact (hs.pull 1).cell rfl | exact (hs.pull 2).cell rfl | exact (hs.pull 3).cell rfl | exact (hs.pull 4).cell rfl | exact (hs.pull 5).cell rfl | exact (hs.pull 6).cell rfl | exact (hs.pull 7).cell rfl | exact (hs.pull 8).cell rfl | assumption | exact hs.cellsOf | exact (hs.pull 1).cellsOf | exact (hs.pull 2).cellsOf | exact (hs.pull 3).cellsOf | exact (hs.pull 4).cellsOf | exact (hs.pull 5).cellsOf | exact (hs.pull 6).cellsOf | exact (hs.pull 7).cellsOf | exact (hs.pull 8).cellsOf))) ?_
    replace hs := hs.drew
    refine x_move (.pointer _) rfl ?_
    refine x_move (.pointer _) rfl ?_
    refine x_nilCheck _ rfl ?_
    first | refine x_field0 fa_42_0 _ rfl ?_ | refine x_field fa_42_0 _ _ rfl ?_
    refine h_load one_40 _ (.slice _ _ _) rfl (fun w hS => by first | exact hS.cell rfl | exact (hS.pull 1).cell rfl | exact (hS.pull 2).cell rfl | exact (hS.pull 3).cell rfl | exact (hS.pull 4).cell rfl | exact (hS.pull 5).cell rfl | exact (hS.pull 6).cell rfl | exact hS | exact hS.1 | exact hS.2 | exact hS.2.1 | exact hS.2.2 | exact hS.2.2.1 | exact hS.2.2.2 | exact hS.2.2.2.1 | exact hS.2.2.2.2) ?_
    refine h_loadN [_, _, _, _] agg_47 _ rfl (fun w hS => by first | exact hS | exact hS.1 | exact hS.2 | exact hS.2.1 | exact hS.2.2 | exact hS.2.2.1 | exact hS.2.2.2 | exact hS.2.2.2.1 | exact hS.2.2.2.2 | exact hS.cellsOf | exact (hS.pull 1).cellsOf | exact (hS.pull 2).cellsOf | exact (hS.pull 3).cellsOf | exact (hS.pull 4).cellsOf | exact (hS.pull 5).cellsOf | exact (hS.pull 6).cellsOf | exact hS.cells2 rfl rfl | exact (hS.pull 1).cells2 rfl rfl | exact (hS.pull 2).cells2 rfl rfl | exact (hS.pull 3).cells2 rfl rfl | exact (hS.pull 4).cells2 rfl rfl | exact (hS.pull 5).cells2 rfl rfl | exact (hS.pull 6).cells2 rfl rfl) ?_
    refine x_buildSlice _ [(0, (.agg #[(.int .u16 _), (.int .u32 _), (.slice _ _ _), (.bool _)]))] hs rfl (fun w => bs_40_1 _ _ _ _ _ _ w) ?_; clear hs; intro b34 w hs; refine ⟨fun h => (by first | (cases h; done) | (first | exact hs.cells2 rfl rfl | exact (hs.pull 1).cells2 rfl rfl | exact (hs.pull 2).cells2 rfl rfl | exact (hs.pull 3).cells2 rfl rfl | exact (hs.pull 4).cells2 rfl rfl | exact (hs.pull 5).cells2 rfl rfl | exact (hs.pull 6).cells2 rfl rfl | exact (hs.pull 7).cells2 rfl rfl | exact (hs.pull 8).cells2 rfl rfl | exact hs.cell rfl | exact (hs.pull 1).cell rfl | exact (hs.pull 2).cell rfl | exact (hs.pull 3).cell rfl | exact (hs.pull 4).cell rfl | exact (hs.pull 5).cell rfl | exact (hs.pull 6).cell rfl | exact (hs.pull 7).cell rfl | exact (hs.pull 8).cell rfl | assumption | exact hs.cellsOf | exact (hs.pull 1).cellsOf | exact (hs.pull 2).cellsOf | exact (hs.pull 3).cellsOf | exact (hs.pull 4).cellsOf | exact (hs.pull 5).cellsOf | exact (hs.pull 6).cellsOf | exact (hs.pull 7).cellsOf | exact (hs.pull 8).cellsOf) | (and_intros <;> first | exact hs.cells2 rfl rfl | exact (hs.pull 1).cells2 rfl rfl | exact (hs.pull 2).cells2 rfl rfl | exact (hs.pull 3).cells2 rfl rfl | exact (hs.pull 4).cells2 rfl rfl | exact (hs.pull 5).cells2 rfl rfl | exact (hs.pull 6).cells2 rfl rfl | exact (hs.pull 7).cells2 rfl rfl | exact (hs.pull 8).cells2 rfl rfl | exact hs.cell rfl | exact (hs.pull 1).cell rfl | exact (hs.pull 2).cell rfl | exact (hs.pull 3).cell rfl | exact (hs.pull 4).cell rfl | exact (hs.pull 5).cell rfl | exact (hs.pull 6).cell rfl | exact (hs.pull 7).cell rfl | exact (hs.pull 8).cell rfl | assumption | exact hs.cellsOf | exact (hs.pull 1).cellsOf | exact (hs.pull 2).cellsOf | exact (hs.pull 3).cellsOf | exact (hs.pull 4).cellsOf | exact (hs.pull 5).cellsOf | exact (hs.pull 6).cellsOf | exact (hs.pull 7).cellsOf | exact (hs.pull 8).cellsOf)), ?_⟩
    have hrd2 := rd_blk (size := 4) hs rfl
    refine x_append (hs.pull 4) Try.underlying40 ei_47 hrd2 (by intro u hu; simp at hu; rcases hu with rfl | rfl | rfl | rfl <;> rfl) (by unfold maxLen; omega) (by omega) rfl rfl ?_
    clear hs hrd2; intro v w hs; refine ⟨fun h => (by cases h), ?_⟩
    obtain ⟨a7, c7, rfl⟩ := hs.rd.val
    refine x_nilCheck _ rfl ?_
    first | refine x_field0 fa_42_0 _ rfl ?_ | refine x_field fa_42_0 _ _ rfl ?_
    first
      | refine x_storeI hs 0 rfl rfl one_40 (.slice _ _ _) rfl rfl rfl ?_
      | refine x_storeI hs 1 rfl rfl one_40 (.slice _ _ _) rfl rfl rfl ?_
      | refine x_storeI hs 2 rfl rfl one_40 (.slice _ _ _) rfl rfl rfl ?_
      | refine x_storeI hs 3 rfl rfl one_40 (.slice _ _ _) rfl rfl rfl ?_
      | refine x_storeI hs 4 rfl rfl one_40 (.slice _ _ _) rfl rfl rfl ?_
      | refine x_storeI hs 5 rfl rfl one_40 (.slice _ _ _) rfl rfl rfl ?_
      | refine x_storeI hs 6 rfl rfl one_40 (.slice _ _ _) rfl rfl rfl ?_
      | refine x_storeI hs 7 rfl rfl one_40 (.slice _ _ _) rfl rfl rfl ?_
    clear hs; intro w hs
    try dsimp only [back, List.set_cons_zero, List.set_cons_succ] at hs
    refine ⟨fun h => (by first | (cases h; done) | (first | exact hs.cells2 rfl rfl | exact (hs.pull 1).cells2 rfl rfl | exact (hs.pull 2).cells2 rfl rfl | exact (hs.pull 3).cells2 rfl rfl | exact (hs.pull 4).cells2 rfl rfl | exact (hs.pull 5).cells2 rfl rfl | exact (hs.pull 6).cells2 rfl rfl | exact (hs.pull 7).cells2 rfl rfl | exact (hs.pull 8).cells2 rfl rfl | exact hs.cell rfl | exact (hs.pull 1).cell rfl | exact (hs.pull 2).cell rfl | exact (hs.pull 3).cell rfl | exact (hs.pull 4).cell rfl | exact (hs.pull 5).cell rfl | exact (hs.pull 6).cell rfl | exact (hs.pull 7).cell rfl | exact (hs.pull 8).cell rfl | assumption | exact hs.cellsOf | exact (hs.pull 1).cellsOf | exact (hs.pull 2).cellsOf | exact (hs.pull 3).cellsOf | exact (hs.pull 4).cellsOf | exact (hs.pull 5).cellsOf | exact (hs.pull 6).cellsOf | exact (hs.pull 7).cellsOf | exact (hs.pull 8).cellsOf) | (and_intros <;> first | exact hs.cells2 rfl rfl | exact (hs.pull 1).cells2 rfl rfl | exact (hs.pull 2).cells2 rfl rfl | exact (hs.pull 3).cells2 rfl rfl | exact (hs.pull 4).cells2 rfl rfl | exact (hs.pull 5).cells2 rfl rfl | exact (hs.pull 6).cells2 rfl rfl | exact (hs.pull 7).cells2 rfl rfl | exact (hs.pull 8).cells2 rfl rfl | exact hs.cell rfl | exact (hs.pull 1).cell rfl | exact (hs.pull 2).cell rfl | exact (hs.pull 3).cell rfl | exact (hs.pull 4).cell rfl | exact (hs.pull 5).cell rfl | exact (hs.pull 6).cell rfl | exact (hs.pull 7).cell rfl | exact (hs.pull 8).cell rfl | assumption | exact hs.cellsOf | exact (hs.pull 1).cellsOf | exact (hs.pull 2).cellsOf | exact (hs.pull 3).cellsOf | exact (hs.pull 4).cellsOf | exact (hs.pull 5).cellsOf | exact (hs.pull 6).cellsOf | exact (hs.pull 7).cellsOf | exact (hs.pull 8).cellsOf)), ?_⟩
    refine x_nil ?_
    refine then_n ?_
    refine c_seq ?_
    -- region 6
    refine c_region ?_
    refine x_assign (.bool _) rfl ?_
    refine x_nil ?_
    refine then_n ?_
    refine c_ret ?_
    refine ⟨.inr rfl, ?_⟩
    rw [if_neg (by omega), hzz]
    have hs := ((hs.pull 1).tail.pull 2).tail.perm [2, 0, 3, 1]
    exact ⟨rfl, fobj_snoc (t := t) hs⟩
  · skip
    refine c_seq ?_
    -- region 0
    refine c_region ?_
    refine x_assign (.bool _) rfl ?_
    refine x_nil ?_
    refine then_n ?_
    refine c_seq ?_
    refine c_seq ?_
    -- region 1
    refine c_region ?_
    refine x_move (.pointer _) rfl ?_
    refine x_nilCheck _ rfl ?_
    first | refine x_field0 fa_42_0 _ rfl ?_ | refine x_field fa_42_0 _ _ rfl ?_
    refine x_load one_40 _ (.slice _ _ _) rfl (by first | exact hs.cell rfl | exact (hs.pull 1).cell rfl | exact (hs.pull 2).cell rfl | exact (hs.pull 3).cell rfl | assumption | exact (hs.pull 4).cell rfl | exact (hs.pull 5).cell rfl | exact (hs.pull 6).cell rfl | exact (hs.pull 7).cell rfl) ?_
    refine x_lenSl Try.underlying40 _ _ _ rfl ?_
    refine x_eqlT _ _ rfl rfl (by omega) ?_
    refine x_move (.bool _) rfl ?_
    refine x_skip rfl rfl ?_
    refine x_skip rfl rfl ?_
    refine x_skip rfl rfl ?_
    refine x_skip rfl rfl ?_
    refine x_skip rfl rfl ?_
    refine x_skip rfl rfl ?_
    refine x_pickT (.bool _) rfl rfl ?_
    refine x_nil ?_
    refine then_n ?_
    refine c_true rfl ?_
    refine c_seq ?_
    -- region 2
    refine c_region ?_
    refine x_assign (.bool _) rfl ?_
    refine x_nil ?_
    refine then_n ?_
    refine c_ret ?_
    refine then_r ?_
    refine ⟨.inr rfl, ?_⟩
    rw [if_pos (.inl h0)]
    exact ⟨rfl, hs.fobj'⟩
end Go.Proofs.Ytipleepbhcembaa.X
