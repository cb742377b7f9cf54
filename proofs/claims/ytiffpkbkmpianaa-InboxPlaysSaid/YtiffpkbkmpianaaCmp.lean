/-
  choragusref01: Same, Pick.
-/
import Derived.Test.YtiffpkbkmpianaaFoc
namespace Go.Proofs.Ytiffpkbkmpianaa.X
open Go Go.RowKit
set_option linter.unusedVariables false
set_option maxRecDepth 20000
theorem bv_get {l : List UInt8} {i : Nat} {x : UInt8} (h : l[i]? = some x) : (bv l)[i]? = some (.int .u8 (x.toNat : Nat)) := by
  unfold bv
  rw [List.getElem?_map, h]
  rfl
theorem u8_eq {x y : UInt8} (h : (x.toNat : Int) = y.toNat) : x = y := UInt8.toNat_inj.1 (by omega)
structure GCmp where
  i : Nat
set_option maxHeartbeats 2000000 in
theorem eq01_calls {w0 w : World} {L : List HP} {v1 v2 : Value} {l1 l2 : List UInt8} (hs : Sat w0 w L) (h1 : RB w v1 l1) (h2 : RB w v2 l2) (hlen1 : l1.length ≤ 1000000000000) :
    Calls Try.prog 19 #[v1, v2] w fun e w' => e = .returned (.bool (decide (l1 = l2))) ∧ Sat w0 w' L ∧ w'.heap = w.heap := by
  obtain ⟨a1, c1, rfl⟩ := h1.val
  obtain ⟨a2, c2, rfl⟩ := h2.val
  refine enter Try.func19 rfl Try.ntmps19 4 rfl (Nat.le_of_ble_eq_true rfl) ?_
  refine c_seq ?_
  -- region 0
  refine c_region ?_
  refine x_assign (.bool _) rfl ?_
  refine x_nil ?_
  refine then_n ?_
  refine c_seq ?_
  refine c_seq ?_
  -- region 1
  refine c_region ?_
  refine x_move (.slice _ _ _) rfl ?_
  refine x_lenSl Try.underlying38 _ _ _ rfl ?_
  refine x_move (.slice _ _ _) rfl ?_
  refine x_lenSl Try.underlying38 _ _ _ rfl ?_
  refine x_neq _ _ rfl rfl ?_
  refine x_nil ?_
  refine then_n ?_
  refine c_test _ rfl (fun hb => ?_) (fun hb => ?_)   -- cond t10
  · skip
    refine c_seq ?_
    -- region 2
    refine c_region ?_
    refine x_assign (.bool _) rfl ?_
    refine x_nil ?_
    refine then_n ?_
    refine c_ret ?_
    refine then_r ?_
    refine ⟨.inr rfl, ?_⟩
    have : ¬ l1 = l2 := fun e => by subst e; exact hb rfl
    rw [decide_eq_false this]
    exact ⟨rfl, hs, rfl⟩
  · skip
    refine c_skip ?_
    refine then_n ?_
    refine c_seq ?_
    refine c_seq ?_
    -- region 3
    refine c_region ?_
    refine x_assign (.int _ _) rfl ?_
    refine x_nil ?_
    refine then_n ?_
    refine c_block ?_
    have hlen : l1.length = l2.length := by omega
    refine c_loop (γ := GCmp) (fun g => [(0, .slice a1 l1.length c1), (1, .slice a2 l2.length c2), (5, .int .i64 (g.i : Nat))]) (fun g w' => g.i ≤ l1.length ∧ l1.take g.i = l2.take g.i ∧ Sat w0 w' L ∧ w'.heap = w.heap) (fun g => l1.length - g.i) ⟨0⟩ ⟨rfl, rfl, rfl, trivial⟩ ⟨Nat.zero_le _, rfl, hs, rfl⟩ ?_
    clear hs hb
    rintro ⟨i⟩ ρ w' ⟨hil, ht, hs, hw⟩
    dsimp only at hil ht hs hw
    change CW Try.prog 26 _ _ (sets 26 [(0, .slice a1 l1.length c1), (1, .slice a2 l2.length c2), (5, .int .i64 (i : Nat))] ρ) w'
    refine c_seq ?_
    refine c_seq ?_
    -- region 4
    refine c_region ?_
    refine x_move (.int _ _) rfl ?_
    refine x_move (.slice _ _ _) rfl ?_
    refine x_lenSl Try.underlying38 _ _ _ rfl ?_
    refine x_lss _ _ rfl rfl ?_
    refine x_nil ?_
    refine then_n ?_
    refine c_test _ rfl (fun hb => ?_) (fun hb => ?_)   -- cond t14
    · skip
      refine c_skip ?_
      refine then_n ?_
      refine c_seq ?_
      refine c_block ?_
      refine c_seq ?_
      -- region 6 DRAWS
      have hlt : i < l1.length := by omega
      obtain ⟨b1, hb1⟩ : ∃ b, l1[i]? = some b := ⟨l1[i]'hlt, List.getElem?_eq_getElem _⟩
      obtain ⟨b2, hb2⟩ : ∃ b, l2[i]? = some b := ⟨l2[i]'(by omega), List.getElem?_eq_getElem _⟩
      have r1 : RD w' 1 _ _ _ := h1.heapEq hw
      have r2 : RD w' 1 _ _ _ := h2.heapEq hw
      obtain ⟨g1, o1, rfl⟩ := r1.addr (by omega)
      obtain ⟨g2, o2, rfl⟩ := r2.addr (by omega)
      have hc1 : w'.cell? ⟨g1, o1 + i * 1, none⟩ = some (.int .u8 (b1.toNat : Nat)) := by rw [Nat.mul_one]; exact r1.cell (bv_get hb1)
      have hc2 : w'.cell? ⟨g2, o2 + i * 1, none⟩ = some (.int .u8 (b2.toNat : Nat)) := by rw [Nat.mul_one]; exact r2.cell (bv_get hb2)
      have hst1 : l1.take (i + 1) = l1.take i ++ [b1] := by rw [List.take_add_one, hb1]; rfl
      have hst2 : l2.take (i + 1) = l2.take i ++ [b2] := by rw [List.take_add_one, hb2]; rfl
      refine c_draw (fun w => w.cell? ⟨g1, o1 + i * 1, none⟩ = some (.int .u8 (b1.toNat : Nat)) ∧ w.cell? ⟨g2, o2 + i * 1, none⟩ = some (.int .u8 (b2.toNat : Nat))) (fun i => !(false)) [(0, 2), (1, 2), (2, 2), (3, 1), (4, 2), (5, 2), (6, 2), (7, 1), (8, 2)] (by kernel_rfl) (by kernel_rfl) (by kernel_rfl) (by kernel_rfl) (⟨hc1, hc2⟩) ?_
      replace hs := hs.drew
      refine x_move (.slice _ _ _) rfl ?_
      refine x_move (.int _ _) rfl ?_
      refine x_indexAddr Try.underlying38 sz_5 _ _ _ _ _ rfl rfl (by omega) ?_
      refine h_load one_5 _ (.int _ _) rfl (fun w hS => by first | exact hS.cell rfl | exact (hS.pull 1).cell rfl | exact (hS.pull 2).cell rfl | exact (hS.pull 3).cell rfl | exact (hS.pull 4).cell rfl | exact (hS.pull 5).cell rfl | exact (hS.pull 6).cell rfl | exact hS | exact hS.1 | exact hS.2 | exact hS.2.1 | exact hS.2.2 | exact hS.2.2.1 | exact hS.2.2.2 | exact hS.2.2.2.1 | exact hS.2.2.2.2) ?_
      refine x_move (.slice _ _ _) rfl ?_
      refine x_move (.int _ _) rfl ?_
      refine x_indexAddr Try.underlying38 sz_5 _ _ _ _ _ rfl rfl (by omega) ?_
      refine h_load one_5 _ (.int _ _) rfl (fun w hS => by first | exact hS.cell rfl | exact (hS.pull 1).cell rfl | exact (hS.pull 2).cell rfl | exact (hS.pull 3).cell rfl | exact (hS.pull 4).cell rfl | exact (hS.pull 5).cell rfl | exact (hS.pull 6).cell rfl | exact hS | exact hS.1 | exact hS.2 | exact hS.2.1 | exact hS.2.2 | exact hS.2.2.1 | exact hS.2.2.2 | exact hS.2.2.2.1 | exact hS.2.2.2.2) ?_
      refine x_neq _ _ rfl rfl ?_
      refine x_nil ?_
      refine then_n ?_
      refine c_test _ rfl (fun hb => ?_) (fun hb => ?_)   -- cond t25
      · skip
        refine c_seq ?_
        -- region 7
        refine c_region ?_
        refine x_assign (.bool _) rfl ?_
        refine x_nil ?_
        refine then_n ?_
        refine c_ret ?_
        refine inb_r ?_
        refine then_r ?_
        refine then_r ?_
        refine inb_r ?_
        refine then_r ?_
        refine ⟨.inr rfl, ?_⟩
        have : ¬ l1 = l2 := fun e => by subst e; rw [hb1] at hb2; cases hb2; exact hb rfl
        rw [decide_eq_false this]
        exact ⟨rfl, hs, hw⟩
      · skip
        refine c_skip ?_
        refine inb_n ?_
        refine then_n ?_
        -- region 5
        refine c_region ?_
        refine x_move (.int _ _) rfl ?_
        refine x_add _ _ rfl rfl (by simp only [X.lo]; omega) (by simp only [X.hi]; omega) ?_
        refine x_assign (.int _ _) rfl ?_
        refine x_nil ?_
        refine then_n ?_
        have hbb : b1 = b2 := u8_eq (by omega)
        subst hbb
        refine ⟨⟨i + 1⟩, ⟨rfl, rfl, rfl, trivial⟩, ⟨by dsimp only; omega, by dsimp only; rw [hst1, hst2, ht], hs, hw⟩, by dsimp only; omega⟩
    · skip
      refine c_exit ?_
      refine then_x ?_
      refine then_x ?_
      refine inb_e ?_
      refine then_n ?_
      refine c_seq ?_
      -- region 8
      refine c_region ?_
      refine x_assign (.bool _) rfl ?_
      refine x_nil ?_
      refine then_n ?_
      refine c_ret ?_
      refine ⟨.inr rfl, ?_⟩
      have h1e : l1.take i = l1 := List.take_of_length_le (by omega)
      have h2e : l2.take i = l2 := List.take_of_length_le (by omega)
      have : l1 = l2 := by rw [← h1e, ht, h2e]
      rw [decide_eq_true this]
      exact ⟨rfl, hs, hw⟩

/-! ### Pick -/
def pk (x n : Int) : Nat := if n < 1 then 0 else if x.tmod n < 0 then (x.tmod n + n).toNat else (x.tmod n).toNat
theorem pk_lt {x n : Int} (h : 1 ≤ n) : (pk x n : Int) < n := by
  have h1 := Int.tmod_lt_of_pos x (b := n) (by omega)
  have h2 := Int.lt_tmod_of_pos x (b := n) (by omega)
  unfold pk
  rw [if_neg (by omega)]
  split <;> omega
set_option maxHeartbeats 1000000 in
theorem pick_calls {w0 w : World} {L : List HP} (hs : Sat w0 w L) (x n : Int) (hn : n ≤ 9223372036854775807) :
    Calls Try.prog 15 #[.int .i64 x, .int .i64 n] w fun e w' => e = .returned (.int .i64 (pk x n : Nat)) ∧ Sat w0 w' L ∧ w'.heap = w.heap := by
  refine enter Try.func15 rfl Try.ntmps15 4 rfl (Nat.le_of_ble_eq_true rfl) ?_
  refine c_seq ?_
  -- region 0
  refine c_region ?_
  refine x_assign (.int _ _) rfl ?_
  refine x_nil ?_
  refine then_n ?_
  refine c_seq ?_
  refine c_seq ?_
  -- region 1
  refine c_region ?_
  refine x_move (.int _ _) rfl ?_
  refine x_lss _ _ rfl rfl ?_
  refine x_nil ?_
  refine then_n ?_
  refine c_test _ rfl (fun hb => ?_) (fun hb => ?_)   -- cond t7
  · skip
    refine c_seq ?_
    -- region 2
    refine c_region ?_
    refine x_assign (.int _ _) rfl ?_
    refine x_nil ?_
    refine then_n ?_
    refine c_ret ?_
    refine then_r ?_
    refine ⟨.inr rfl, ?_⟩
    unfold pk
    rw [if_pos hb]
    exact ⟨rfl, hs, rfl⟩
  · skip
    refine c_skip ?_
    refine then_n ?_
    refine c_seq ?_
    -- region 3
    have h1 := Int.tmod_lt_of_pos x (b := n) (by omega)
    have h2 := Int.lt_tmod_of_pos x (b := n) (by omega)
    have hpk : pk x n = if x.tmod n < 0 then (x.tmod n + n).toNat else (x.tmod n).toNat := by unfold pk; rw [if_neg hb]
    refine c_region ?_
    refine x_move (.int _ _) rfl ?_
    refine x_move (.int _ _) rfl ?_
    refine x_rem _ _ rfl rfl (by omega) ?_
    refine x_assign (.int _ _) rfl ?_
    refine x_nil ?_
    refine then_n ?_
    refine c_seq ?_
    refine c_seq ?_
    -- region 4
    refine c_region ?_
    refine x_move (.int _ _) rfl ?_
    refine x_lss _ _ rfl rfl ?_
    refine x_nil ?_
    refine then_n ?_
    refine c_test _ rfl (fun hb => ?_) (fun hb => ?_)   -- cond t12
    · skip
      -- region 5
      refine c_region ?_
      refine x_move (.int _ _) rfl ?_
      refine x_move (.int _ _) rfl ?_
      refine x_add _ _ rfl rfl (by simp only [X.lo]; omega) (by simp only [X.hi]; omega) ?_
      refine x_assign (.int _ _) rfl ?_
      refine x_nil ?_
      refine then_n ?_
      refine c_seq ?_
      -- region 6
      refine c_region ?_
      refine x_move (.int _ _) rfl ?_
      refine x_assign (.int _ _) rfl ?_
      refine x_nil ?_
      refine then_n ?_
      refine c_ret ?_
      refine ⟨.inr rfl, ?_⟩
      rw [hpk, if_pos hb, Int.toNat_of_nonneg (by omega)]
      exact ⟨rfl, hs, rfl⟩
    · skip
      refine c_skip ?_
      refine then_n ?_
      refine c_seq ?_
      -- region 6
      refine c_region ?_
      refine x_move (.int _ _) rfl ?_
      refine x_assign (.int _ _) rfl ?_
      refine x_nil ?_
      refine then_n ?_
      refine c_ret ?_
      refine ⟨.inr rfl, ?_⟩
      rw [hpk, if_neg hb, Int.toNat_of_nonneg (by omega)]
      exact ⟨rfl, hs, rfl⟩
end Go.Proofs.Ytiffpkbkmpianaa.X
