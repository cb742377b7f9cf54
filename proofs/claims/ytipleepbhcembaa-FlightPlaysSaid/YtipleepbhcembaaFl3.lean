/-
  LAYER 14: sound, Spoil, Cut.
-/
import Derived.Test.YtipleepbhcembaaFl2
namespace Go.Proofs.Ytipleepbhcembaa.X
open Go Go.RowKit
set_option linter.unusedVariables false
set_option maxRecDepth 20000
def thSnd (l : List Thg) (a : Int) : Prop := 0 < l.length ∧ 0 < (thLook l a).b.length ∧ (thLook l a).sp = false
instance (l : List Thg) (a : Int) : Decidable (thSnd l a) := by unfold thSnd; infer_instance
theorem fsound_no {w0 w : World} {L : List HP} {f : Nat} {l : List Thg} (at' : Int) (hs : Sat w0 w (FP f l :: L)) (hl : l.length ≤ 1000000) (hb : ∀ t ∈ l, t.b.length ≤ 1000000) (hn : ¬ thSnd l at') :
    Calls Try.prog 25 #[.pointer (some ⟨f, 0, none⟩), .int .i64 at'] w fun e w' => e = .returned (.pointer none) ∧ Sat w0 w' (FP f l :: L) := by
  refine enter Try.func25 rfl Try.ntmps25 4 rfl (Nat.le_of_ble_eq_true rfl) ?_
  by_cases h0 : l.length = 0
  · skip
    refine c_seq ?_
    -- region 0
    refine c_region ?_
    refine x_assign (.pointer _) rfl ?_
    refine x_nil ?_
    refine then_n ?_
    refine c_seq ?_
    -- region 1
    refine c_region ?_
    refine x_move (.int _ _) rfl ?_
    refine x_move (.pointer _) rfl ?_
    refine x_call Try.f23 Try.func23 rfl rfl _ rfl ?_
    refine (flen_calls hs).mono ?_
    clear hs; rintro e w ⟨rfl, hs⟩
    refine ⟨_, rfl, fun h => (by first | (cases h; done) | (first | exact hs.cells2 rfl rfl | exact (hs.pull 1).cells2 rfl rfl | exact (hs.pull 2).cells2 rfl rfl | exact (hs.pull 3).cells2 rfl rfl | exact (hs.pull 4).cells2 rfl rfl | exact (hs.pull 5).cells2 rfl rfl | exact (hs.pull 6).cells2 rfl rfl | exact (hs.pull 7).cells2 rfl rfl | exact (hs.pull 8).cells2 rfl rfl | exact hs.cell rfl | exact (hs.pull 1).cell rfl | exact (hs.pull 2).cell rfl | exact (hs.pull 3).cell rfl | exact (hs.pull 4).cell rfl | exact (hs.pull 5).cell rfl | exact (hs.pull 6).cell rfl | exact (hs.pull 7).cell rfl | exact (hs.pull 8).cell rfl | assumption | exact hs.cellsOf | exact (hs.pull 1).cellsOf | exact (hs.pull 2).cellsOf | exact (hs.pull 3).cellsOf | exact (hs.pull 4).cellsOf | exact (hs.pull 5).cellsOf | exact (hs.pull 6).cellsOf | exact (hs.pull 7).cellsOf | exact (hs.pull 8).cellsOf) | (and_intros <;> first | exact hs.cells2 rfl rfl | exact (hs.pull 1).cells2 rfl rfl | exact (hs.pull 2).cells2 rfl rfl | exact (hs.pull 3).cells2 rfl rfl | exact (hs.pull 4).cells2 rfl rfl | exact (hs.pull 5).cells2 rfl rfl | exact (hs.pull 6).cells2 rfl rfl | exact (hs.pull 7).cells2 rfl rfl | exact (hs.pull 8).cells2 rfl rfl | exact hs.cell rfl | exact (hs.pull 1).cell rfl | exact (hs.pull 2).cell rfl | exact (hs.pull 3).cell rfl | exact (hs.pull 4).cell rfl | exact (hs.pull 5).cell rfl | exact (hs.pull 6).cell rfl | exact (hs.pull 7).cell rfl | exact (hs.pull 8).cell rfl | assumption | exact hs.cellsOf | exact (hs.pull 1).cellsOf | exact (hs.pull 2).cellsOf | exact (hs.pull 3).cellsOf | exact (hs.pull 4).cellsOf | exact (hs.pull 5).cellsOf | exact (hs.pull 6).cellsOf | exact (hs.pull 7).cellsOf | exact (hs.pull 8).cellsOf)), ?_⟩
    refine x_call Try.f26 Try.func26 rfl rfl _ rfl ?_
    refine (rest0_calls hs at' _ h0).mono ?_
    clear hs; rintro e w ⟨rfl, hs⟩
    refine ⟨_, rfl, fun h => (by first | (cases h; done) | (first | exact hs.cells2 rfl rfl | exact (hs.pull 1).cells2 rfl rfl | exact (hs.pull 2).cells2 rfl rfl | exact (hs.pull 3).cells2 rfl rfl | exact (hs.pull 4).cells2 rfl rfl | exact (hs.pull 5).cells2 rfl rfl | exact (hs.pull 6).cells2 rfl rfl | exact (hs.pull 7).cells2 rfl rfl | exact (hs.pull 8).cells2 rfl rfl | exact hs.cell rfl | exact (hs.pull 1).cell rfl | exact (hs.pull 2).cell rfl | exact (hs.pull 3).cell rfl | exact (hs.pull 4).cell rfl | exact (hs.pull 5).cell rfl | exact (hs.pull 6).cell rfl | exact (hs.pull 7).cell rfl | exact (hs.pull 8).cell rfl | assumption | exact hs.cellsOf | exact (hs.pull 1).cellsOf | exact (hs.pull 2).cellsOf | exact (hs.pull 3).cellsOf | exact (hs.pull 4).cellsOf | exact (hs.pull 5).cellsOf | exact (hs.pull 6).cellsOf | exact (hs.pull 7).cellsOf | exact (hs.pull 8).cellsOf) | (and_intros <;> first | exact hs.cells2 rfl rfl | exact (hs.pull 1).cells2 rfl rfl | exact (hs.pull 2).cells2 rfl rfl | exact (hs.pull 3).cells2 rfl rfl | exact (hs.pull 4).cells2 rfl rfl | exact (hs.pull 5).cells2 rfl rfl | exact (hs.pull 6).cells2 rfl rfl | exact (hs.pull 7).cells2 rfl rfl | exact (hs.pull 8).cells2 rfl rfl | exact hs.cell rfl | exact (hs.pull 1).cell rfl | exact (hs.pull 2).cell rfl | exact (hs.pull 3).cell rfl | exact (hs.pull 4).cell rfl | exact (hs.pull 5).cell rfl | exact (hs.pull 6).cell rfl | exact (hs.pull 7).cell rfl | exact (hs.pull 8).cell rfl | assumption | exact hs.cellsOf | exact (hs.pull 1).cellsOf | exact (hs.pull 2).cellsOf | exact (hs.pull 3).cellsOf | exact (hs.pull 4).cellsOf | exact (hs.pull 5).cellsOf | exact (hs.pull 6).cellsOf | exact (hs.pull 7).cellsOf | exact (hs.pull 8).cellsOf)), ?_⟩
    refine x_assign (.int _ _) rfl ?_
    refine x_nil ?_
    refine then_n ?_
    refine c_seq ?_
    refine c_seq ?_
    -- region 2
    refine c_region ?_
    refine x_move (.int _ _) rfl ?_
    refine x_lssT _ _ rfl rfl (by omega) ?_
    refine x_move (.bool _) rfl ?_
    refine x_skip rfl rfl ?_
    refine x_skip rfl rfl ?_
    refine x_skip rfl rfl ?_
    refine x_skip rfl rfl ?_
    refine x_skip rfl rfl ?_
    refine x_skip rfl rfl ?_
    refine x_skip rfl rfl ?_
    refine x_skip rfl rfl ?_
    refine x_skip rfl rfl ?_
    refine x_skip rfl rfl ?_
    refine x_pickT (.bool _) rfl rfl ?_
    refine x_move (.bool _) rfl ?_
    refine x_skip rfl rfl ?_
    refine x_skip rfl rfl ?_
    refine x_skip rfl rfl ?_
    refine x_skip rfl rfl ?_
    refine x_skip rfl rfl ?_
    refine x_skip rfl rfl ?_
    refine x_skip rfl rfl ?_
    refine x_skip rfl rfl ?_
    refine x_pickT (.bool _) rfl rfl ?_
    refine x_nil ?_
    refine then_n ?_
    refine c_true rfl ?_
    refine c_seq ?_
    -- region 3
    refine c_region ?_
    refine x_assign (.pointer _) rfl ?_
    refine x_nil ?_
    refine then_n ?_
    refine c_ret ?_
    refine then_r ?_
    refine ⟨.inr rfl, ?_⟩
    exact ⟨rfl, hs⟩
  · skip
    refine c_seq ?_
    -- region 0
    refine c_region ?_
    refine x_assign (.pointer _) rfl ?_
    refine x_nil ?_
    refine then_n ?_
    refine c_seq ?_
    -- region 1
    refine c_region ?_
    refine x_move (.int _ _) rfl ?_
    refine x_move (.pointer _) rfl ?_
    refine x_call Try.f23 Try.func23 rfl rfl _ rfl ?_
    refine (flen_calls hs).mono ?_
    clear hs; rintro e w ⟨rfl, hs⟩
    refine ⟨_, rfl, fun h => (by first | (cases h; done) | (first | exact hs.cells2 rfl rfl | exact (hs.pull 1).cells2 rfl rfl | exact (hs.pull 2).cells2 rfl rfl | exact (hs.pull 3).cells2 rfl rfl | exact (hs.pull 4).cells2 rfl rfl | exact (hs.pull 5).cells2 rfl rfl | exact (hs.pull 6).cells2 rfl rfl | exact (hs.pull 7).cells2 rfl rfl | exact (hs.pull 8).cells2 rfl rfl | exact hs.cell rfl | exact (hs.pull 1).cell rfl | exact (hs.pull 2).cell rfl | exact (hs.pull 3).cell rfl | exact (hs.pull 4).cell rfl | exact (hs.pull 5).cell rfl | exact (hs.pull 6).cell rfl | exact (hs.pull 7).cell rfl | exact (hs.pull 8).cell rfl | assumption | exact hs.cellsOf | exact (hs.pull 1).cellsOf | exact (hs.pull 2).cellsOf | exact (hs.pull 3).cellsOf | exact (hs.pull 4).cellsOf | exact (hs.pull 5).cellsOf | exact (hs.pull 6).cellsOf | exact (hs.pull 7).cellsOf | exact (hs.pull 8).cellsOf) | (and_intros <;> first | exact hs.cells2 rfl rfl | exact (hs.pull 1).cells2 rfl rfl | exact (hs.pull 2).cells2 rfl rfl | exact (hs.pull 3).cells2 rfl rfl | exact (hs.pull 4).cells2 rfl rfl | exact (hs.pull 5).cells2 rfl rfl | exact (hs.pull 6).cells2 rfl rfl | exact (hs.pull 7).cells2 rfl rfl | exact (hs.pull 8).cells2 rfl rfl | exact hs.cell rfl | exact (hs.pull 1).cell rfl | exact (hs.pull 2).cell rfl | exact (hs.pull 3).cell rfl | exact (hs.pull 4).cell rfl | exact (hs.pull 5).cell rfl | exact (hs.pull 6).cell rfl | exact (hs.pull 7).cell rfl | exact (hs.pull 8).cell rfl | assumption | exact hs.cellsOf | exact (hs.pull 1).cellsOf | exact (hs.pull 2).cellsOf | exact (hs.pull 3).cellsOf | exact (hs.pull 4).cellsOf | exact (hs.pull 5).cellsOf | exact (hs.pull 6).cellsOf | exact (hs.pull 7).cellsOf | exact (hs.pull 8).cellsOf)), ?_⟩
    refine x_call Try.f26 Try.func26 rfl rfl _ rfl ?_
    refine (restk_calls hs at' _ (by omega) (by omega)).mono ?_
    clear hs; rintro e w ⟨rfl, hs⟩
    refine ⟨_, rfl, fun h => (by first | (cases h; done) | (first | exact hs.cells2 rfl rfl | exact (hs.pull 1).cells2 rfl rfl | exact (hs.pull 2).cells2 rfl rfl | exact (hs.pull 3).cells2 rfl rfl | exact (hs.pull 4).cells2 rfl rfl | exact (hs.pull 5).cells2 rfl rfl | exact (hs.pull 6).cells2 rfl rfl | exact (hs.pull 7).cells2 rfl rfl | exact (hs.pull 8).cells2 rfl rfl | exact hs.cell rfl | exact (hs.pull 1).cell rfl | exact (hs.pull 2).cell rfl | exact (hs.pull 3).cell rfl | exact (hs.pull 4).cell rfl | exact (hs.pull 5).cell rfl | exact (hs.pull 6).cell rfl | exact (hs.pull 7).cell rfl | exact (hs.pull 8).cell rfl | assumption | exact hs.cellsOf | exact (hs.pull 1).cellsOf | exact (hs.pull 2).cellsOf | exact (hs.pull 3).cellsOf | exact (hs.pull 4).cellsOf | exact (hs.pull 5).cellsOf | exact (hs.pull 6).cellsOf | exact (hs.pull 7).cellsOf | exact (hs.pull 8).cellsOf) | (and_intros <;> first | exact hs.cells2 rfl rfl | exact (hs.pull 1).cells2 rfl rfl | exact (hs.pull 2).cells2 rfl rfl | exact (hs.pull 3).cells2 rfl rfl | exact (hs.pull 4).cells2 rfl rfl | exact (hs.pull 5).cells2 rfl rfl | exact (hs.pull 6).cells2 rfl rfl | exact (hs.pull 7).cells2 rfl rfl | exact (hs.pull 8).cells2 rfl rfl | exact hs.cell rfl | exact (hs.pull 1).cell rfl | exact (hs.pull 2).cell rfl | exact (hs.pull 3).cell rfl | exact (hs.pull 4).cell rfl | exact (hs.pull 5).cell rfl | exact (hs.pull 6).cell rfl | exact (hs.pull 7).cell rfl | exact (hs.pull 8).cell rfl | assumption | exact hs.cellsOf | exact (hs.pull 1).cellsOf | exact (hs.pull 2).cellsOf | exact (hs.pull 3).cellsOf | exact (hs.pull 4).cellsOf | exact (hs.pull 5).cellsOf | exact (hs.pull 6).cellsOf | exact (hs.pull 7).cellsOf | exact (hs.pull 8).cellsOf)), ?_⟩
    refine x_assign (.int _ _) rfl ?_
    refine x_nil ?_
    refine then_n ?_
    have hf := hs.fobj
    clear hs
    obtain ⟨ao, c, z, rfl, hs⟩ := hf
    have hz0 : 0 < z.length := by rw [List.length_map] at h0; omega
    obtain ⟨t, u, hz, hlk⟩ := thLook_z (a := at') hz0
    have hk := pk_lt' (x := at') hz0
    rw [List.length_map] at *
    obtain ⟨z1, z2⟩ := zs hz
    obtain ⟨g, o, rfl⟩ := (hs.pull 1).rowAddr hz0
    obtain ⟨a5, c5, rfl⟩ := ((hs.pull 2).eachRB z1 z2).val
    have hcB : w.cell? ⟨g, o + pk at' z.length * 4 + 2, none⟩ = some (.slice a5 t.b.length c5) := RS.cell (cells := tcell) (hs.pull 1).rd (fun _ => rfl) hz (q := 2) rfl
    have hcS : w.cell? ⟨g, o + pk at' z.length * 4 + 3, none⟩ = some (.bool t.sp) := RS.cell (cells := tcell) (hs.pull 1).rd (fun _ => rfl) hz (q := 3) rfl
    unfold thSnd at hn
    rw [hlk, List.length_map] at hn
    by_cases h1 : t.b.length = 0
    · skip
      refine c_seq ?_
      refine c_seq ?_
      -- region 2
      refine c_region ?_
      refine x_move (.int _ _) rfl ?_
      refine x_lssF _ _ rfl rfl (by omega) ?_
      refine x_move (.bool _) rfl ?_
      refine x_want' rfl ?_
      refine x_move (.pointer _) rfl ?_
      refine x_want' rfl ?_
      refine x_nilCheck _ rfl ?_
      refine x_want' rfl ?_
      first | refine x_field0 fa_56_0 _ rfl ?_ | refine x_field fa_56_0 _ _ rfl ?_
      refine x_want' rfl ?_
      refine x_load one_54 _ (.slice _ _ _) rfl (by first | exact hs.cell rfl | exact (hs.pull 1).cell rfl | exact (hs.pull 2).cell rfl | exact (hs.pull 3).cell rfl | assumption | exact (hs.pull 4).cell rfl | exact (hs.pull 5).cell rfl | exact (hs.pull 6).cell rfl | exact (hs.pull 7).cell rfl) ?_
      refine x_want' rfl ?_
      refine x_move (.int _ _) rfl ?_
      refine x_want' rfl ?_
      refine x_indexAddr Try.underlying54 sz_59 _ _ _ _ _ rfl rfl (by omega) ?_
      refine x_want' rfl ?_
      first | refine x_field0 fa_59_1 _ rfl ?_ | refine x_field fa_59_1 _ _ rfl ?_
      refine x_want' rfl ?_
      refine x_load one_22 _ (.slice _ _ _) rfl (by first | exact hs.cell rfl | exact (hs.pull 1).cell rfl | exact (hs.pull 2).cell rfl | exact (hs.pull 3).cell rfl | assumption | exact (hs.pull 4).cell rfl | exact (hs.pull 5).cell rfl | exact (hs.pull 6).cell rfl | exact (hs.pull 7).cell rfl) ?_
      refine x_want' rfl ?_
      refine x_lenSl Try.underlying22 _ _ _ rfl ?_
      refine x_want' rfl ?_
      refine x_eqlT _ _ rfl rfl (by omega) ?_
      refine x_pickF (.bool _) rfl rfl ?_
      refine x_move (.bool _) rfl ?_
      refine x_skip rfl rfl ?_
      refine x_skip rfl rfl ?_
      refine x_skip rfl rfl ?_
      refine x_skip rfl rfl ?_
      refine x_skip rfl rfl ?_
      refine x_skip rfl rfl ?_
      refine x_skip rfl rfl ?_
      refine x_skip rfl rfl ?_
      refine x_pickT (.bool _) rfl rfl ?_
      refine x_nil ?_
      refine then_n ?_
      refine c_true rfl ?_
      refine c_seq ?_
      -- region 3
      refine c_region ?_
      refine x_assign (.pointer _) rfl ?_
      refine x_nil ?_
      refine then_n ?_
      refine c_ret ?_
      refine then_r ?_
      refine ⟨.inr rfl, ?_⟩
      exact ⟨rfl, hs.fobj'⟩
    · skip
      refine c_seq ?_
      refine c_seq ?_
      -- region 2
      refine c_region ?_
      refine x_move (.int _ _) rfl ?_
      refine x_lssF _ _ rfl rfl (by omega) ?_
      refine x_move (.bool _) rfl ?_
      refine x_want' rfl ?_
      refine x_move (.pointer _) rfl ?_
      refine x_want' rfl ?_
      refine x_nilCheck _ rfl ?_
      refine x_want' rfl ?_
      first | refine x_field0 fa_56_0 _ rfl ?_ | refine x_field fa_56_0 _ _ rfl ?_
      refine x_want' rfl ?_
      refine x_load one_54 _ (.slice _ _ _) rfl (by first | exact hs.cell rfl | exact (hs.pull 1).cell rfl | exact (hs.pull 2).cell rfl | exact (hs.pull 3).cell rfl | assumption | exact (hs.pull 4).cell rfl | exact (hs.pull 5).cell rfl | exact (hs.pull 6).cell rfl | exact (hs.pull 7).cell rfl) ?_
      refine x_want' rfl ?_
      refine x_move (.int _ _) rfl ?_
      refine x_want' rfl ?_
      refine x_indexAddr Try.underlying54 sz_59 _ _ _ _ _ rfl rfl (by omega) ?_
      refine x_want' rfl ?_
      first | refine x_field0 fa_59_1 _ rfl ?_ | refine x_field fa_59_1 _ _ rfl ?_
      refine x_want' rfl ?_
      refine x_load one_22 _ (.slice _ _ _) rfl (by first | exact hs.cell rfl | exact (hs.pull 1).cell rfl | exact (hs.pull 2).cell rfl | exact (hs.pull 3).cell rfl | assumption | exact (hs.pull 4).cell rfl | exact (hs.pull 5).cell rfl | exact (hs.pull 6).cell rfl | exact (hs.pull 7).cell rfl) ?_
      refine x_want' rfl ?_
      refine x_lenSl Try.underlying22 _ _ _ rfl ?_
      refine x_want' rfl ?_
      refine x_eqlF _ _ rfl rfl (by omega) ?_
      refine x_pickF (.bool _) rfl rfl ?_
      refine x_move (.bool _) rfl ?_
      refine x_want' rfl ?_
      refine x_move (.pointer _) rfl ?_
      refine x_want' rfl ?_
      refine x_nilCheck _ rfl ?_
      refine x_want' rfl ?_
      first | refine x_field0 fa_56_0 _ rfl ?_ | refine x_field fa_56_0 _ _ rfl ?_
      refine x_want' rfl ?_
      refine x_load one_54 _ (.slice _ _ _) rfl (by first | exact hs.cell rfl | exact (hs.pull 1).cell rfl | exact (hs.pull 2).cell rfl | exact (hs.pull 3).cell rfl | assumption | exact (hs.pull 4).cell rfl | exact (hs.pull 5).cell rfl | exact (hs.pull 6).cell rfl | exact (hs.pull 7).cell rfl) ?_
      refine x_want' rfl ?_
      refine x_move (.int _ _) rfl ?_
      refine x_want' rfl ?_
      refine x_indexAddr Try.underlying54 sz_59 _ _ _ _ _ rfl rfl (by omega) ?_
      refine x_want' rfl ?_
      first | refine x_field0 fa_59_2 _ rfl ?_ | refine x_field fa_59_2 _ _ rfl ?_
      refine x_want' rfl ?_
      refine x_load one_4 _ (.bool _) rfl (by first | exact hs.cell rfl | exact (hs.pull 1).cell rfl | exact (hs.pull 2).cell rfl | exact (hs.pull 3).cell rfl | assumption | exact (hs.pull 4).cell rfl | exact (hs.pull 5).cell rfl | exact (hs.pull 6).cell rfl | exact (hs.pull 7).cell rfl) ?_
      refine x_pickF (.bool _) rfl rfl ?_
      refine x_nil ?_
      refine then_n ?_
      refine c_cond rfl (fun hb => ?_) (fun hb => ?_)   -- cond t33
      · skip
        refine c_seq ?_
        -- region 3
        refine c_region ?_
        refine x_assign (.pointer _) rfl ?_
        refine x_nil ?_
        refine then_n ?_
        refine c_ret ?_
        refine then_r ?_
        refine ⟨.inr rfl, ?_⟩
        exact ⟨rfl, hs.fobj'⟩
      · skip
        refine c_skip ?_
        refine then_n ?_
        refine c_seq ?_
        -- region 4
        refine c_region ?_
        refine x_move (.pointer _) rfl ?_
        refine x_nilCheck _ rfl ?_
        first | refine x_field0 fa_56_0 _ rfl ?_ | refine x_field fa_56_0 _ _ rfl ?_
        refine x_load one_54 _ (.slice _ _ _) rfl (by first | exact hs.cell rfl | exact (hs.pull 1).cell rfl | exact (hs.pull 2).cell rfl | exact (hs.pull 3).cell rfl | assumption | exact (hs.pull 4).cell rfl | exact (hs.pull 5).cell rfl | exact (hs.pull 6).cell rfl | exact (hs.pull 7).cell rfl) ?_
        refine x_move (.int _ _) rfl ?_
        refine x_indexAddr Try.underlying54 sz_59 _ _ _ _ _ rfl rfl (by omega) ?_
        refine x_assign (.pointer _) rfl ?_
        refine x_nil ?_
        refine then_n ?_
        refine c_ret ?_
        refine ⟨.inr rfl, ?_⟩
        exact absurd ⟨hz0, by omega, hb⟩ hn
theorem fsound_yes {w0 w : World} {L : List HP} {f : Nat} {l : List Thg} (at' : Int) (hs : Sat w0 w (FP f l :: L)) (hl : l.length ≤ 1000000) (hb : ∀ t ∈ l, t.b.length ≤ 1000000) (hn : thSnd l at') :
    Calls Try.prog 25 #[.pointer (some ⟨f, 0, none⟩), .int .i64 at'] w fun e w' => ∃ g o c z a5 c5, e = .returned (.pointer (some ⟨g, o + pk at' z.length * 4, none⟩)) ∧ l = z.map (·.1) ∧ z[pk at' z.length]? = some (thLook l at', .slice a5 (thLook l at').b.length c5) ∧
      Sat w0 w' (Blk f (.cells #[.slice (some ⟨g, o, none⟩) z.length c] 56 (0, 0)) :: Row 59 4 (.slice (some ⟨g, o, none⟩) z.length c) z.length (tcells z) :: EachB (z.map (·.2)) (z.map (·.1.b)) :: L) := by
  obtain ⟨h0, h1, h2⟩ := hn
  refine enter Try.func25 rfl Try.ntmps25 4 rfl (Nat.le_of_ble_eq_true rfl) ?_
  refine c_seq ?_
  -- region 0
  refine c_region ?_
  refine x_assign (.pointer _) rfl ?_
  refine x_nil ?_
  refine then_n ?_
  refine c_seq ?_
  -- region 1
  refine c_region ?_
  refine x_move (.int _ _) rfl ?_
  refine x_move (.pointer _) rfl ?_
  refine x_call Try.f23 Try.func23 rfl rfl _ rfl ?_
  refine (flen_calls hs).mono ?_
  clear hs; rintro e w ⟨rfl, hs⟩
  refine ⟨_, rfl, fun h => (by first | (cases h; done) | (first | exact hs.cells2 rfl rfl | exact (hs.pull 1).cells2 rfl rfl | exact (hs.pull 2).cells2 rfl rfl | exact (hs.pull 3).cells2 rfl rfl | exact (hs.pull 4).cells2 rfl rfl | exact (hs.pull 5).cells2 rfl rfl | exact (hs.pull 6).cells2 rfl rfl | exact (hs.pull 7).cells2 rfl rfl | exact (hs.pull 8).cells2 rfl rfl | exact hs.cell rfl | exact (hs.pull 1).cell rfl | exact (hs.pull 2).cell rfl | exact (hs.pull 3).cell rfl | exact (hs.pull 4).cell rfl | exact (hs.pull 5).cell rfl | exact (hs.pull 6).cell rfl | exact (hs.pull 7).cell rfl | exact (hs.pull 8).cell rfl | assumption | exact hs.cellsOf | exact (hs.pull 1).cellsOf | exact (hs.pull 2).cellsOf | exact (hs.pull 3).cellsOf | exact (hs.pull 4).cellsOf | exact (hs.pull 5).cellsOf | exact (hs.pull 6).cellsOf | exact (hs.pull 7).cellsOf | exact (hs.pull 8).cellsOf) | (and_intros <;> first | exact hs.cells2 rfl rfl | exact (hs.pull 1).cells2 rfl rfl | exact (hs.pull 2).cells2 rfl rfl | exact (hs.pull 3).cells2 rfl rfl | exact (hs.pull 4).cells2 rfl rfl | exact (hs.pull 5).cells2 rfl rfl | exact (hs.pull 6).cells2 rfl rfl | exact (hs.pull 7).cells2 rfl rfl | exact (hs.pull 8).cells2 rfl rfl | exact hs.cell rfl | exact (hs.pull 1).cell rfl | exact (hs.pull 2).cell rfl | exact (hs.pull 3).cell rfl | exact (hs.pull 4).cell rfl | exact (hs.pull 5).cell rfl | exact (hs.pull 6).cell rfl | exact (hs.pull 7).cell rfl | exact (hs.pull 8).cell rfl | assumption | exact hs.cellsOf | exact (hs.pull 1).cellsOf | exact (hs.pull 2).cellsOf | exact (hs.pull 3).cellsOf | exact (hs.pull 4).cellsOf | exact (hs.pull 5).cellsOf | exact (hs.pull 6).cellsOf | exact (hs.pull 7).cellsOf | exact (hs.pull 8).cellsOf)), ?_⟩
  refine x_call Try.f26 Try.func26 rfl rfl _ rfl ?_
  refine (restk_calls hs at' _ (by omega) (by omega)).mono ?_
  clear hs; rintro e w ⟨rfl, hs⟩
  refine ⟨_, rfl, fun h => (by first | (cases h; done) | (first | exact hs.cells2 rfl rfl | exact (hs.pull 1).cells2 rfl rfl | exact (hs.pull 2).cells2 rfl rfl | exact (hs.pull 3).cells2 rfl rfl | exact (hs.pull 4).cells2 rfl rfl | exact (hs.pull 5).cells2 rfl rfl | exact (hs.pull 6).cells2 rfl rfl | exact (hs.pull 7).cells2 rfl rfl | exact (hs.pull 8).cells2 rfl rfl | exact hs.cell rfl | exact (hs.pull 1).cell rfl | exact (hs.pull 2).cell rfl | exact (hs.pull 3).cell rfl | exact (hs.pull 4).cell rfl | exact (hs.pull 5).cell rfl | exact (hs.pull 6).cell rfl | exact (hs.pull 7).cell rfl | exact (hs.pull 8).cell rfl | assumption | exact hs.cellsOf | exact (hs.pull 1).cellsOf | exact (hs.pull 2).cellsOf | exact (hs.pull 3).cellsOf | exact (hs.pull 4).cellsOf | exact (hs.pull 5).cellsOf | exact (hs.pull 6).cellsOf | exact (hs.pull 7).cellsOf | exact (hs.pull 8).cellsOf) | (and_intros <;> first | exact hs.cells2 rfl rfl | exact (hs.pull 1).cells2 rfl rfl | exact (hs.pull 2).cells2 rfl rfl | exact (hs.pull 3).cells2 rfl rfl | exact (hs.pull 4).cells2 rfl rfl | exact (hs.pull 5).cells2 rfl rfl | exact (hs.pull 6).cells2 rfl rfl | exact (hs.pull 7).cells2 rfl rfl | exact (hs.pull 8).cells2 rfl rfl | exact hs.cell rfl | exact (hs.pull 1).cell rfl | exact (hs.pull 2).cell rfl | exact (hs.pull 3).cell rfl | exact (hs.pull 4).cell rfl | exact (hs.pull 5).cell rfl | exact (hs.pull 6).cell rfl | exact (hs.pull 7).cell rfl | exact (hs.pull 8).cell rfl | assumption | exact hs.cellsOf | exact (hs.pull 1).cellsOf | exact (hs.pull 2).cellsOf | exact (hs.pull 3).cellsOf | exact (hs.pull 4).cellsOf | exact (hs.pull 5).cellsOf | exact (hs.pull 6).cellsOf | exact (hs.pull 7).cellsOf | exact (hs.pull 8).cellsOf)), ?_⟩
  refine x_assign (.int _ _) rfl ?_
  refine x_nil ?_
  refine then_n ?_
  refine c_seq ?_
  refine c_seq ?_
  -- region 2
  have hf := hs.fobj
  clear hs
  obtain ⟨ao, c, z, rfl, hs⟩ := hf
  have hz0 : 0 < z.length := by rw [List.length_map] at h0; omega
  obtain ⟨t, u, hz, hlk⟩ := thLook_z (a := at') hz0
  have hk := pk_lt' (x := at') hz0
  rw [List.length_map] at *
  obtain ⟨z1, z2⟩ := zs hz
  obtain ⟨g, o, rfl⟩ := (hs.pull 1).rowAddr hz0
  obtain ⟨a5, c5, rfl⟩ := ((hs.pull 2).eachRB z1 z2).val
  have hcB : w.cell? ⟨g, o + pk at' z.length * 4 + 2, none⟩ = some (.slice a5 t.b.length c5) := RS.cell (cells := tcell) (hs.pull 1).rd (fun _ => rfl) hz (q := 2) rfl
  have hcS : w.cell? ⟨g, o + pk at' z.length * 4 + 3, none⟩ = some (.bool t.sp) := RS.cell (cells := tcell) (hs.pull 1).rd (fun _ => rfl) hz (q := 3) rfl
  rw [hlk] at h1 h2
  refine c_region ?_
  refine x_move (.int _ _) rfl ?_
  refine x_lssF _ _ rfl rfl (by omega) ?_
  refine x_move (.bool _) rfl ?_
  refine x_want' rfl ?_
  refine x_move (.pointer _) rfl ?_
  refine x_want' rfl ?_
  refine x_nilCheck _ rfl ?_
  refine x_want' rfl ?_
  first | refine x_field0 fa_56_0 _ rfl ?_ | refine x_field fa_56_0 _ _ rfl ?_
  refine x_want' rfl ?_
  refine x_load one_54 _ (.slice _ _ _) rfl (by first | exact hs.cell rfl | exact (hs.pull 1).cell rfl | exact (hs.pull 2).cell rfl | exact (hs.pull 3).cell rfl | assumption | exact (hs.pull 4).cell rfl | exact (hs.pull 5).cell rfl | exact (hs.pull 6).cell rfl | exact (hs.pull 7).cell rfl) ?_
  refine x_want' rfl ?_
  refine x_move (.int _ _) rfl ?_
  refine x_want' rfl ?_
  refine x_indexAddr Try.underlying54 sz_59 _ _ _ _ _ rfl rfl (by omega) ?_
  refine x_want' rfl ?_
  first | refine x_field0 fa_59_1 _ rfl ?_ | refine x_field fa_59_1 _ _ rfl ?_
  refine x_want' rfl ?_
  refine x_load one_22 _ (.slice _ _ _) rfl (by first | exact hs.cell rfl | exact (hs.pull 1).cell rfl | exact (hs.pull 2).cell rfl | exact (hs.pull 3).cell rfl | assumption | exact (hs.pull 4).cell rfl | exact (hs.pull 5).cell rfl | exact (hs.pull 6).cell rfl | exact (hs.pull 7).cell rfl) ?_
  refine x_want' rfl ?_
  refine x_lenSl Try.underlying22 _ _ _ rfl ?_
  refine x_want' rfl ?_
  refine x_eqlF _ _ rfl rfl (by omega) ?_
  refine x_pickF (.bool _) rfl rfl ?_
  refine x_move (.bool _) rfl ?_
  refine x_want' rfl ?_
  refine x_move (.pointer _) rfl ?_
  refine x_want' rfl ?_
  refine x_nilCheck _ rfl ?_
  refine x_want' rfl ?_
  first | refine x_field0 fa_56_0 _ rfl ?_ | refine x_field fa_56_0 _ _ rfl ?_
  refine x_want' rfl ?_
  refine x_load one_54 _ (.slice _ _ _) rfl (by first | exact hs.cell rfl | exact (hs.pull 1).cell rfl | exact (hs.pull 2).cell rfl | exact (hs.pull 3).cell rfl | assumption | exact (hs.pull 4).cell rfl | exact (hs.pull 5).cell rfl | exact (hs.pull 6).cell rfl | exact (hs.pull 7).cell rfl) ?_
  refine x_want' rfl ?_
  refine x_move (.int _ _) rfl ?_
  refine x_want' rfl ?_
  refine x_indexAddr Try.underlying54 sz_59 _ _ _ _ _ rfl rfl (by omega) ?_
  refine x_want' rfl ?_
  first | refine x_field0 fa_59_2 _ rfl ?_ | refine x_field fa_59_2 _ _ rfl ?_
  refine x_want' rfl ?_
  refine x_load one_4 _ (.bool _) rfl (by first | exact hs.cell rfl | exact (hs.pull 1).cell rfl | exact (hs.pull 2).cell rfl | exact (hs.pull 3).cell rfl | assumption | exact (hs.pull 4).cell rfl | exact (hs.pull 5).cell rfl | exact (hs.pull 6).cell rfl | exact (hs.pull 7).cell rfl) ?_
  refine x_pickF (.bool _) rfl rfl ?_
  refine x_nil ?_
  refine then_n ?_
  refine c_cond rfl (fun hb => ?_) (fun hb => ?_)   -- cond t33
  · skip
    refine c_seq ?_
    -- region 3
    refine c_region ?_
    refine x_assign (.pointer _) rfl ?_
    refine x_nil ?_
    refine then_n ?_
    refine c_ret ?_
    refine then_r ?_
    refine ⟨.inr rfl, ?_⟩
    rw [h2] at hb; cases hb
  · skip
    refine c_skip ?_
    refine then_n ?_
    refine c_seq ?_
    -- region 4
    refine c_region ?_
    refine x_move (.pointer _) rfl ?_
    refine x_nilCheck _ rfl ?_
    first | refine x_field0 fa_56_0 _ rfl ?_ | refine x_field fa_56_0 _ _ rfl ?_
    refine x_load one_54 _ (.slice _ _ _) rfl (by first | exact hs.cell rfl | exact (hs.pull 1).cell rfl | exact (hs.pull 2).cell rfl | exact (hs.pull 3).cell rfl | assumption | exact (hs.pull 4).cell rfl | exact (hs.pull 5).cell rfl | exact (hs.pull 6).cell rfl | exact (hs.pull 7).cell rfl) ?_
    refine x_move (.int _ _) rfl ?_
    refine x_indexAddr Try.underlying54 sz_59 _ _ _ _ _ rfl rfl (by omega) ?_
    refine x_assign (.pointer _) rfl ?_
    refine x_nil ?_
    refine then_n ?_
    refine c_ret ?_
    refine ⟨.inr rfl, ?_⟩
    exact ⟨g, o, c, z, a5, c5, rfl, rfl, by rw [hlk]; exact hz, hs⟩
end Go.Proofs.Ytipleepbhcembaa.X
