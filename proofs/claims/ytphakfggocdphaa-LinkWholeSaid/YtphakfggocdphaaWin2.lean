/-
  LAYER 11, THE PROGRAM's TEXT, Ack.
-/
import Derived.Test.YtphakfggocdphaaWin
namespace Go.Proofs.Ytphakfggocdphaa.X
open Go Go.RowKit
set_option linter.unusedVariables false
def SSt.ack (s : SSt) (u : Nat) : Nat × SSt :=
  if u < s.base ∨ s.base + s.wait.length ≤ u then (0, s)
  else (u - s.base + 1, { s with base := u + 1, wait := s.wait.drop (u - s.base + 1), told := s.told >>> (u - s.base + 1), ever := s.ever >>> (u - s.base + 1) })
set_option maxHeartbeats 1000000 in
theorem sack_calls {w0 w : World} {L : List HP} {S : Nat} {s : SSt} (u : Nat) (hs : Sat w0 w (SObj S s :: L)) (ok : s.ok) (hu : u ≤ 18446744073709551615) :
    Calls Try.prog 24 #[.pointer (some ⟨S, 0, none⟩), .int .u64 (u : Nat)] w fun e w' => e = .returned (.int .i64 ((s.ack u).1 : Nat)) ∧ Sat w0 w' (SObj S (s.ack u).2 :: L) := by
  obtain ⟨ok1, ok2, ok3, ok4, ok5, ok6, ok7⟩ := ok
  by_cases h1 : u < s.base
  · have hg : s.ack u = (0, s) := by unfold SSt.ack; rw [if_pos (.inl h1)]
    obtain ⟨ao, c, hs⟩ := hs.sobj
    refine enter Try.func24 rfl Try.ntmps24 4 rfl (Nat.le_of_ble_eq_true rfl) ?_
    refine c_seq ?_
    -- region 0
    refine c_region ?_
    refine x_assign (.int _ _) rfl ?_
    refine x_nil ?_
    refine then_n ?_
    refine c_seq ?_
    refine c_seq ?_
    -- region 1
    refine c_region ?_
    refine x_move (.pointer _) rfl ?_
    refine x_eqlNil Try.underlying46 _ rfl rfl ?_
    refine x_move (.bool _) rfl ?_
    refine x_want' rfl ?_
    refine x_move (.int _ _) rfl ?_
    refine x_want' rfl ?_
    refine x_move (.pointer _) rfl ?_
    refine x_want' rfl ?_
    refine x_nilCheck _ rfl ?_
    refine x_want' rfl ?_
    first | refine x_field0 fa_78_0 _ rfl ?_ | refine x_field fa_78_0 _ _ rfl ?_
    refine x_want' rfl ?_
    refine x_load one_26 _ (.int _ _) rfl (by first | exact hs.cell rfl | exact (hs.pull 1).cell rfl | exact (hs.pull 2).cell rfl | exact (hs.pull 3).cell rfl | assumption | exact (hs.pull 4).cell rfl | exact (hs.pull 5).cell rfl | exact (hs.pull 6).cell rfl | exact (hs.pull 7).cell rfl) ?_
    refine x_want' rfl ?_
    refine x_lssT _ _ rfl rfl (by omega) ?_
    refine x_pickF (.bool _) rfl rfl ?_
    refine x_move (.bool _) rfl ?_
    refine x_skip rfl rfl ?_
    refine x_skip rfl rfl ?_
    refine x_skip rfl rfl ?_
    refine x_skip rfl rfl ?_
    refine x_pickT (.bool _) rfl rfl ?_
    refine x_nil ?_
    refine then_n ?_
    refine c_true rfl ?_
    refine c_seq ?_
    -- region 2
    refine c_region ?_
    refine x_assign (.int _ _) rfl ?_
    refine x_nil ?_
    refine then_n ?_
    refine c_ret ?_
    refine then_r ?_
    refine ⟨.inr rfl, ?_⟩
    rw [hg]; exact ⟨rfl, hs.sobj'⟩
  · by_cases h2 : s.base + s.wait.length ≤ u
    · have hg : s.ack u = (0, s) := by unfold SSt.ack; rw [if_pos (.inr h2)]
      obtain ⟨ao, c, hs⟩ := hs.sobj
      refine enter Try.func24 rfl Try.ntmps24 4 rfl (Nat.le_of_ble_eq_true rfl) ?_
      refine c_seq ?_
      -- region 0
      refine c_region ?_
      refine x_assign (.int _ _) rfl ?_
      refine x_nil ?_
      refine then_n ?_
      refine c_seq ?_
      refine c_seq ?_
      -- region 1
      refine c_region ?_
      refine x_move (.pointer _) rfl ?_
      refine x_eqlNil Try.underlying46 _ rfl rfl ?_
      refine x_move (.bool _) rfl ?_
      refine x_want' rfl ?_
      refine x_move (.int _ _) rfl ?_
      refine x_want' rfl ?_
      refine x_move (.pointer _) rfl ?_
      refine x_want' rfl ?_
      refine x_nilCheck _ rfl ?_
      refine x_want' rfl ?_
      first | refine x_field0 fa_78_0 _ rfl ?_ | refine x_field fa_78_0 _ _ rfl ?_
      refine x_want' rfl ?_
      refine x_load one_26 _ (.int _ _) rfl (by first | exact hs.cell rfl | exact (hs.pull 1).cell rfl | exact (hs.pull 2).cell rfl | exact (hs.pull 3).cell rfl | assumption | exact (hs.pull 4).cell rfl | exact (hs.pull 5).cell rfl | exact (hs.pull 6).cell rfl | exact (hs.pull 7).cell rfl) ?_
      refine x_want' rfl ?_
      refine x_lssF _ _ rfl rfl (by omega) ?_
      refine x_pickF (.bool _) rfl rfl ?_
      refine x_move (.bool _) rfl ?_
      refine x_want' rfl ?_
      refine x_move (.int _ _) rfl ?_
      refine x_want' rfl ?_
      refine x_move (.pointer _) rfl ?_
      refine x_want' rfl ?_
      refine x_call Try.f35 Try.func35 rfl rfl [.pointer (some ⟨S, 0, none⟩)] rfl ?_
      refine (snext_calls hs.sobj' ok1 ok2).mono ?_
      clear hs; rintro e w ⟨rfl, hs⟩
      refine ⟨.int .u64 ((s.base + s.wait.length : Nat) : Int), rfl, fun h => (by cases h), ?_⟩
      refine x_want' rfl ?_
      refine x_geqT _ _ rfl rfl (by omega) ?_
      refine x_pickF (.bool _) rfl rfl ?_
      refine x_nil ?_
      refine then_n ?_
      refine c_true rfl ?_
      refine c_seq ?_
      -- region 2
      refine c_region ?_
      refine x_assign (.int _ _) rfl ?_
      refine x_nil ?_
      refine then_n ?_
      refine c_ret ?_
      refine then_r ?_
      refine ⟨.inr rfl, ?_⟩
      rw [hg]; exact ⟨rfl, hs⟩
    · have hg : s.ack u = (u - s.base + 1, { s with base := u + 1, wait := s.wait.drop (u - s.base + 1), told := s.told >>> (u - s.base + 1), ever := s.ever >>> (u - s.base + 1) }) := by unfold SSt.ack; rw [if_neg (by omega)]
      have e1 : ((u : Int) - (s.base : Int) + 1) = ((u - s.base + 1 : Nat) : Int) := by omega
      have e2 : ((u : Int) + 1) = ((u + 1 : Nat) : Int) := by omega
      obtain ⟨ao, c, hs⟩ := hs.sobj
      refine enter Try.func24 rfl Try.ntmps24 4 rfl (Nat.le_of_ble_eq_true rfl) ?_
      refine c_seq ?_
      -- region 0
      refine c_region ?_
      refine x_assign (.int _ _) rfl ?_
      refine x_nil ?_
      refine then_n ?_
      refine c_seq ?_
      refine c_seq ?_
      -- region 1
      refine c_region ?_
      refine x_move (.pointer _) rfl ?_
      refine x_eqlNil Try.underlying46 _ rfl rfl ?_
      refine x_move (.bool _) rfl ?_
      refine x_want' rfl ?_
      refine x_move (.int _ _) rfl ?_
      refine x_want' rfl ?_
      refine x_move (.pointer _) rfl ?_
      refine x_want' rfl ?_
      refine x_nilCheck _ rfl ?_
      refine x_want' rfl ?_
      first | refine x_field0 fa_78_0 _ rfl ?_ | refine x_field fa_78_0 _ _ rfl ?_
      refine x_want' rfl ?_
      refine x_load one_26 _ (.int _ _) rfl (by first | exact hs.cell rfl | exact (hs.pull 1).cell rfl | exact (hs.pull 2).cell rfl | exact (hs.pull 3).cell rfl | assumption | exact (hs.pull 4).cell rfl | exact (hs.pull 5).cell rfl | exact (hs.pull 6).cell rfl | exact (hs.pull 7).cell rfl) ?_
      refine x_want' rfl ?_
      refine x_lssF _ _ rfl rfl (by omega) ?_
      refine x_pickF (.bool _) rfl rfl ?_
      refine x_move (.bool _) rfl ?_
      refine x_want' rfl ?_
      refine x_move (.int _ _) rfl ?_
      refine x_want' rfl ?_
      refine x_move (.pointer _) rfl ?_
      refine x_want' rfl ?_
      refine x_call Try.f35 Try.func35 rfl rfl [.pointer (some ⟨S, 0, none⟩)] rfl ?_
      refine (snext_calls hs.sobj' ok1 ok2).mono ?_
      clear hs; rintro e w ⟨rfl, hs⟩
      refine ⟨.int .u64 ((s.base + s.wait.length : Nat) : Int), rfl, fun h => (by cases h), ?_⟩
      obtain ⟨ao, c, hs⟩ := hs.sobj
      refine x_want' rfl ?_
      refine x_geqF _ _ rfl rfl (by omega) ?_
      refine x_pickF (.bool _) rfl rfl ?_
      refine x_nil ?_
      refine then_n ?_
      refine c_false rfl ?_
      refine c_skip ?_
      refine then_n ?_
      refine c_seq ?_
      -- region 3
      refine c_region ?_
      refine x_move (.int _ _) rfl ?_
      refine x_move (.pointer _) rfl ?_
      refine x_nilCheck _ rfl ?_
      first | refine x_field0 fa_78_0 _ rfl ?_ | refine x_field fa_78_0 _ _ rfl ?_
      refine x_load one_26 _ (.int _ _) rfl (by first | exact hs.cell rfl | exact (hs.pull 1).cell rfl | exact (hs.pull 2).cell rfl | exact (hs.pull 3).cell rfl | assumption | exact (hs.pull 4).cell rfl | exact (hs.pull 5).cell rfl | exact (hs.pull 6).cell rfl | exact (hs.pull 7).cell rfl) ?_
      refine x_sub _ _ rfl rfl (by simp only [X.lo]; omega) (by simp only [X.hi]; omega) ?_
      refine x_add _ _ rfl rfl (by simp only [X.lo]; omega) (by simp only [X.hi]; omega) ?_
      refine x_conv cv_26_3 _ rfl (by simp only [X.lo]; omega) (by simp only [X.hi]; omega) ?_
      refine x_assign (.int _ _) rfl ?_
      refine x_nil ?_
      refine then_n ?_
      refine c_seq ?_
      -- region 4
      rw [e1]
      refine c_region ?_
      refine x_move (.pointer _) rfl ?_
      refine x_move (.int _ _) rfl ?_
      refine x_add _ _ rfl rfl (by simp only [X.lo]; omega) (by simp only [X.hi]; omega) ?_
      refine x_nilCheck _ rfl ?_
      first | refine x_field0 fa_78_0 _ rfl ?_ | refine x_field fa_78_0 _ _ rfl ?_
      refine x_store hs one_26 (.int _ _) rfl rfl rfl rfl ?_; clear hs; intro w hs; refine ⟨fun h => (by first | cases h | exact h), ?_⟩
      refine x_nil ?_
      refine then_n ?_
      refine c_seq ?_
      -- region 5
      refine c_region ?_
      refine x_move (.pointer _) rfl ?_
      refine x_move (.pointer _) rfl ?_
      refine x_nilCheck _ rfl ?_
      first | refine x_field0 fa_78_1 _ rfl ?_ | refine x_field fa_78_1 _ _ rfl ?_
      refine x_load one_35 _ (.slice _ _ _) rfl (by first | exact hs.cell rfl | exact (hs.pull 1).cell rfl | exact (hs.pull 2).cell rfl | exact (hs.pull 3).cell rfl | assumption | exact (hs.pull 4).cell rfl | exact (hs.pull 5).cell rfl | exact (hs.pull 6).cell rfl | exact (hs.pull 7).cell rfl) ?_
      refine x_move (.int _ _) rfl ?_
      refine x_slice Try.underlying35 sz_30 ao s.wait.length c (u - s.base + 1) s.wait.length rfl (.inr ⟨.i64, rfl⟩) (.inl ⟨rfl, rfl⟩) (by omega) ?_ ?_
      · obtain ⟨vs, hs⟩ := (hs.pull 1).bb
        obtain ⟨_, ao', c', e, h3, _⟩ := hs.rd
        cases e; exact h3
      refine x_nilCheck _ rfl ?_
      first | refine x_field0 fa_78_1 _ rfl ?_ | refine x_field fa_78_1 _ _ rfl ?_
      refine x_store hs one_35 (.slice _ _ _) rfl rfl rfl rfl ?_; clear hs; intro w hs; refine ⟨fun h => (by first | cases h | exact h), ?_⟩
      refine x_nil ?_
      refine then_n ?_
      refine c_seq ?_
      -- region 6
      refine c_region ?_
      refine x_move (.pointer _) rfl ?_
      refine x_nilCheck _ rfl ?_
      first | refine x_field0 fa_78_2 _ rfl ?_ | refine x_field fa_78_2 _ _ rfl ?_
      refine x_load one_76 _ (.int _ _) rfl (by first | exact hs.cell rfl | exact (hs.pull 1).cell rfl | exact (hs.pull 2).cell rfl | exact (hs.pull 3).cell rfl | assumption | exact (hs.pull 4).cell rfl | exact (hs.pull 5).cell rfl | exact (hs.pull 6).cell rfl | exact (hs.pull 7).cell rfl) ?_
      refine x_move (.int _ _) rfl ?_
      refine x_conv cv_3_79 _ rfl (by simp only [X.lo]; omega) (by simp only [X.hi]; omega) ?_
      refine x_shr _ _ rfl rfl (by simp only [IntKind.bits]; omega) ?_
      refine x_nilCheck _ rfl ?_
      first | refine x_field0 fa_78_2 _ rfl ?_ | refine x_field fa_78_2 _ _ rfl ?_
      refine x_store hs one_76 (.int _ _) rfl rfl rfl rfl ?_; clear hs; intro w hs; refine ⟨fun h => (by first | cases h | exact h), ?_⟩
      refine x_nil ?_
      refine then_n ?_
      refine c_seq ?_
      -- region 7
      refine c_region ?_
      refine x_move (.pointer _) rfl ?_
      refine x_nilCheck _ rfl ?_
      first | refine x_field0 fa_78_3 _ rfl ?_ | refine x_field fa_78_3 _ _ rfl ?_
      refine x_load one_76 _ (.int _ _) rfl (by first | exact hs.cell rfl | exact (hs.pull 1).cell rfl | exact (hs.pull 2).cell rfl | exact (hs.pull 3).cell rfl | assumption | exact (hs.pull 4).cell rfl | exact (hs.pull 5).cell rfl | exact (hs.pull 6).cell rfl | exact (hs.pull 7).cell rfl) ?_
      refine x_move (.int _ _) rfl ?_
      refine x_conv cv_3_79 _ rfl (by simp only [X.lo]; omega) (by simp only [X.hi]; omega) ?_
      refine x_shr _ _ rfl rfl (by simp only [IntKind.bits]; omega) ?_
      refine x_nilCheck _ rfl ?_
      first | refine x_field0 fa_78_3 _ rfl ?_ | refine x_field fa_78_3 _ _ rfl ?_
      refine x_store hs one_76 (.int _ _) rfl rfl rfl rfl ?_; clear hs; intro w hs; refine ⟨fun h => (by first | cases h | exact h), ?_⟩
      refine x_nil ?_
      refine then_n ?_
      refine c_seq ?_
      -- region 8
      refine c_region ?_
      refine x_move (.int _ _) rfl ?_
      refine x_assign (.int _ _) rfl ?_
      refine x_nil ?_
      refine then_n ?_
      refine c_ret ?_
      refine ⟨.inr rfl, ?_⟩
      rw [hg]
      refine ⟨rfl, ?_⟩
      obtain ⟨vs, hs⟩ := (hs.pull 1).bb
      have hl := hs.tail.eachLen
      have hs := row_slice hs (i := u - s.base + 1) (j := s.wait.length) (by omega) (Nat.le_refl _)
      rw [show ((vs.drop ((u - s.base + 1) * 1)).take ((s.wait.length - (u - s.base + 1)) * 1)) = vs.drop (u - s.base + 1) from by rw [Nat.mul_one, Nat.mul_one]; exact List.take_of_length_le (by simp [hl])] at hs
      have hs := (hs.pull 1).eachDrop (u - s.base + 1)
      have hs := hs.push 1
      unfold slVal at hs
      rw [show s.wait.length - (u - s.base + 1) = (s.wait.drop (u - s.base + 1)).length from by simp] at hs
      have hs := (Sat.bb' hs).push 1
      exact Sat.sobj' (s := { s with base := u + 1, wait := s.wait.drop (u - s.base + 1), told := s.told >>> (u - s.base + 1), ever := s.ever >>> (u - s.base + 1) }) hs
end Go.Proofs.Ytphakfggocdphaa.X
