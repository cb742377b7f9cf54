/-
  choragusref01: Same, Pick.
-/
import Derived.Test.YthhojdbklnoooaaFoc
namespace Go.Proofs.Ythhojdbklnoooaa.X
open Go Go.RowKit
set_option linter.unusedVariables false
set_option maxRecDepth 20000
theorem bv_get {l : List UInt8} {i : Nat} {x : UInt8} (h : l[i]? = some x) : (bv l)[i]? = some (.int .u8 (x.toNat : Nat)) := by
  unfold bv
  rw [List.getElem?_map, h]
  rfl
theorem u8_eq {x y : UInt8} (h : (x.toNat : Int) = y.toNat) : x = y := UInt8.toNat_inj.1 (by omega)
/-! ### Pick -/
def pk (x n : Int) : Nat := if n < 1 then 0 else if x.tmod n < 0 then (x.tmod n + n).toNat else (x.tmod n).toNat
theorem pk_lt {x n : Int} (h : 1 ≤ n) : (pk x n : Int) < n := by
  have h1 := Int.tmod_lt_of_pos x (b := n) (by omega)
  have h2 := Int.lt_tmod_of_pos x (b := n) (by omega)
  unfold pk
  rw [if_neg (by omega)]
  split <;> omega
set_option maxHeartbeats 1000000 in
theorem pick_calls {w0 w : World} {L : List HP} (hs : Sat w0 w L) (x n : Int) (hn : n ≤ 9223372036854775807) :
    Calls Try.prog 11 #[.int .i64 x, .int .i64 n] w fun e w' => e = .returned (.int .i64 (pk x n : Nat)) ∧ Sat w0 w' L ∧ w'.heap = w.heap := by
  refine enter Try.func11 rfl Try.ntmps11 4 rfl (Nat.le_of_ble_eq_true rfl) ?_
  refine c_seq ?_
  -- region 0
  refine c_region ?_
  refine x_assign (.int _ _) rfl ?_
  refine x_nil ?_
  refine then_n ?_
  refine c_seq ?_
  refine c_seq ?_
  -- region 1
  refine c_region ?_
  refine x_move (.int _ _) rfl ?_
  refine x_lss _ _ rfl rfl ?_
  refine x_nil ?_
  refine then_n ?_
  refine c_test _ rfl (fun hb => ?_) (fun hb => ?_)   -- cond t7
  · skip
    refine c_seq ?_
    -- region 2
    refine c_region ?_
    refine x_assign (.int _ _) rfl ?_
    refine x_nil ?_
    refine then_n ?_
    refine c_ret ?_
    refine then_r ?_
    refine ⟨.inr rfl, ?_⟩
    unfold pk
    rw [if_pos hb]
    exact ⟨rfl, hs, rfl⟩
  · skip
    refine c_skip ?_
    refine then_n ?_
    refine c_seq ?_
    -- region 3
    have h1 := Int.tmod_lt_of_pos x (b := n) (by omega)
    have h2 := Int.lt_tmod_of_pos x (b := n) (by omega)
    have hpk : pk x n = if x.tmod n < 0 then (x.tmod n + n).toNat else (x.tmod n).toNat := by unfold pk; rw [if_neg hb]
    refine c_region ?_
    refine x_move (.int _ _) rfl ?_
    refine x_move (.int _ _) rfl ?_
    refine x_rem _ _ rfl rfl (by omega) ?_
    refine x_assign (.int _ _) rfl ?_
    refine x_nil ?_
    refine then_n ?_
    refine c_seq ?_
    refine c_seq ?_
    -- region 4
    refine c_region ?_
    refine x_move (.int _ _) rfl ?_
    refine x_lss _ _ rfl rfl ?_
    refine x_nil ?_
    refine then_n ?_
    refine c_test _ rfl (fun hb => ?_) (fun hb => ?_)   -- cond t12
    · skip
      -- region 5
      refine c_region ?_
      refine x_move (.int _ _) rfl ?_
      refine x_move (.int _ _) rfl ?_
      refine x_add _ _ rfl rfl (by simp only [X.lo]; omega) (by simp only [X.hi]; omega) ?_
      refine x_assign (.int _ _) rfl ?_
      refine x_nil ?_
      refine then_n ?_
      refine c_seq ?_
      -- region 6
      refine c_region ?_
      refine x_move (.int _ _) rfl ?_
      refine x_assign (.int _ _) rfl ?_
      refine x_nil ?_
      refine then_n ?_
      refine c_ret ?_
      refine ⟨.inr rfl, ?_⟩
      rw [hpk, if_pos hb, Int.toNat_of_nonneg (by omega)]
      exact ⟨rfl, hs, rfl⟩
    · skip
      refine c_skip ?_
      refine then_n ?_
      refine c_seq ?_
      -- region 6
      refine c_region ?_
      refine x_move (.int _ _) rfl ?_
      refine x_assign (.int _ _) rfl ?_
      refine x_nil ?_
      refine then_n ?_
      refine c_ret ?_
      refine ⟨.inr rfl, ?_⟩
      rw [hpk, if_neg hb, Int.toNat_of_nonneg (by omega)]
      exact ⟨rfl, hs, rfl⟩
end Go.Proofs.Ythhojdbklnoooaa.X
