/-
  slices.Delete of one element. (KV: DT the elements' type, DS their size, DF the function.)
-/
import Derived.Test.YthhojdbklnoooaaFlat
namespace Go.Proofs.Ythhojdbklnoooaa.X
open Go Go.RowKit
set_option linter.unusedVariables false
set_option maxRecDepth 20000
set_option maxHeartbeats 1000000 in
theorem delete_calls {w0 w : World} {L : List HP} {b off m c : Nat} {xs : List Value} (i : Nat) (hs : Sat w0 w (Row 34 2 (.slice (some ⟨b, off, none⟩) m c) m xs :: L)) (hi : i < m) (hm : m ≤ 1000000) (h1 : ∀ u ∈ xs, u.oneCell' = true) :
    Calls Try.prog 28 #[.slice (some ⟨b, off, none⟩) m c, .int .i64 (i : Nat), .int .i64 ((i : Int) + 1)] w fun e w' => e = .returned (.slice (some ⟨b, off, none⟩) (m - 1) c) ∧ Sat w0 w' (Row 34 2 (.slice (some ⟨b, off, none⟩) (m - 1) c) (m - 1) (xs.take (i * 2) ++ xs.drop ((i + 1) * 2)) :: L) := by
  have hmc : m ≤ c := by obtain ⟨_, _, _, e, h', _⟩ := hs.rd; cases e; exact h'
  have hxl : xs.length = m * 2 := hs.rd.1
  have hsv : slVal (some ⟨b, off, none⟩) (m - 1) c (m - 1) m 2 = .slice (some ⟨b, off + (m - 1) * 2, none⟩) 1 (c - (m - 1)) := by
    unfold slVal
    rw [if_neg (by omega), show m - (m - 1) = 1 from by omega]
    simp [Addr.add_lit]
  refine enter Try.func28 rfl Try.ntmps28 6 rfl (Nat.le_of_ble_eq_true rfl) ?_
  refine c_seq ?_
  -- region 0
  refine c_region ?_
  refine x_assign (.slice _ _ _) rfl ?_
  refine x_nil ?_
  refine then_n ?_
  refine c_seq ?_
  -- region 1
  refine c_region ?_
  refine x_move (.slice _ _ _) rfl ?_
  refine x_move (.int _ _) rfl ?_
  refine x_move (.int _ _) rfl ?_
  refine x_move (.slice _ _ _) rfl ?_
  refine x_lenSl Try.underlying22 _ _ _ rfl ?_
  refine x_slice3 Try.underlying22 sz_34 (some ⟨b, off, none⟩) m c i (i + 1) m rfl rfl rfl rfl (by omega) (by omega) hmc ?_
  refine x_nil ?_
  refine then_n ?_
  refine c_seq ?_
  refine c_seq ?_
  -- region 2
  refine c_region ?_
  refine x_move (.int _ _) rfl ?_
  refine x_move (.int _ _) rfl ?_
  refine x_eqlF _ _ rfl rfl (by omega) ?_
  refine x_nil ?_
  refine then_n ?_
  refine c_false rfl ?_
  refine c_skip ?_
  refine then_n ?_
  refine c_seq ?_
  -- region 4
  refine c_region ?_
  refine x_move (.slice _ _ _) rfl ?_
  refine x_lenSl Try.underlying22 _ _ _ rfl ?_
  refine x_assign (.int _ _) rfl ?_
  refine x_nil ?_
  refine then_n ?_
  refine c_seq ?_
  -- region 5 DRAWS
  refine c_draw (fun w => SameL hs w) (fun i => !(Nat.beq i 6)) [(0, 2), (1, 2), (2, 2), (3, 2), (4, 2), (5, 2), (6, 0), (7, 2)] (by kernel_rfl) (by kernel_rfl) (by kernel_rfl) (by kernel_rfl) (hs.drew) ?_
  replace hs := hs.drew
  refine x_move (.slice _ _ _) rfl ?_
  refine x_move (.int _ _) rfl ?_
  refine x_slice Try.underlying22 sz_34 (lo := none) (hi := some _) (some ⟨b, off, none⟩) m c 0 i rfl (.inl ⟨rfl, rfl⟩) (.inr ⟨_, rfl⟩) (Nat.zero_le _) (by omega) ?_
  refine x_move (.slice _ _ _) rfl ?_
  refine x_move (.int _ _) rfl ?_
  refine x_slice Try.underlying22 sz_34 (lo := some _) (hi := none) (some ⟨b, off, none⟩) m c (i + 1) m rfl (.inr ⟨_, rfl⟩) (.inl ⟨rfl, rfl⟩) (by omega) hmc ?_
  refine x_appendDel Try.underlying22 ei_34 hs hi h1 rfl rfl ?_
  clear hs; intro w hs; refine ⟨fun h => (by cases h), ?_⟩
  refine x_assign (.slice _ _ _) rfl ?_
  refine x_nil ?_
  refine then_n ?_
  refine c_seq ?_
  -- region 6
  refine c_region ?_
  refine x_move (.slice _ _ _) rfl ?_
  refine x_move (.slice _ _ _) rfl ?_
  refine x_lenSl Try.underlying22 _ _ _ rfl ?_
  refine x_move (.int _ _) rfl ?_
  refine x_slice Try.underlying22 sz_34 (lo := some _) (hi := some _) (some ⟨b, off, none⟩) (m - 1) c (m - 1) m rfl (.inr ⟨_, rfl⟩) (.inr ⟨_, rfl⟩) (by omega) hmc ?_
  refine x_clear1 Try.underlying22 ei_34 (by rfl) hs (p := m - 1) (by omega) hsv ?_
  clear hs; intro w ys hys hs; refine ⟨fun h => (by cases h), ?_⟩
  refine x_nil ?_
  refine then_n ?_
  refine c_seq ?_
  -- region 7
  refine c_region ?_
  refine x_move (.slice _ _ _) rfl ?_
  refine x_assign (.slice _ _ _) rfl ?_
  refine x_nil ?_
  refine then_n ?_
  refine c_ret ?_
  refine ⟨.inr rfl, ?_⟩
  have hs := hs.rowShrink (m' := m - 1) (by omega) (by omega)
  have him : (i + 1) * 2 ≤ m * 2 := Nat.mul_le_mul_right _ hi
  rw [hys, List.take_append_of_le_length (by simp only [List.length_append, List.length_take, List.length_drop, hxl]; omega), List.take_of_length_le (by simp only [List.length_append, List.length_take, List.length_drop, hxl]; omega)] at hs
  exact ⟨rfl, hs⟩
end Go.Proofs.Ythhojdbklnoooaa.X
