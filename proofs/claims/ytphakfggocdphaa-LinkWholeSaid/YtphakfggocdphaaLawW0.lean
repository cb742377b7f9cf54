/-
  LAYER 11: a sender that is none; the document's example (awake); the law WindowNil.
-/
import Derived.Test.YtphakfggocdphaaWin3
import Derived.Test.YtphakfggocdphaaOpen
namespace Go.Proofs.Ytphakfggocdphaa.X
open Go Go.RowKit
set_option linter.unusedVariables false
set_option maxRecDepth 20000

theorem ntick_calls {w0 w : World} {L : List HP} (hs : Sat w0 w L) :
    Calls Try.prog 23 #[.pointer none] w fun e w' => e = .returned (.tuple #[]) ∧ Sat w0 w' L := by
  refine enter0 Try.func23 rfl Try.ntmps23 rfl (Nat.le_of_ble_eq_true rfl) ?_
  refine c_seq ?_
  -- region 0
  refine c_region ?_
  refine x_move (.pointer _) rfl ?_
  refine x_neqNil Try.underlying46 _ rfl rfl ?_
  refine x_nil ?_
  refine then_n ?_
  refine c_false rfl ?_
  refine c_skip ?_
  refine ⟨.inl rfl, ?_⟩
  exact ⟨rfl, hs⟩
theorem nput_calls {w0 w : World} {L : List HP} (v : Value) (hs : Sat w0 w L) :
    Calls Try.prog 20 #[.pointer none, v] w fun e w' => e = .returned (.int .i64 7) ∧ Sat w0 w' L := by
  refine enter Try.func20 rfl Try.ntmps20 4 rfl (Nat.le_of_ble_eq_true rfl) ?_
  refine c_seq ?_
  -- region 0
  refine c_region ?_
  refine x_assign (.int _ _) rfl ?_
  refine x_nil ?_
  refine then_n ?_
  refine c_seq ?_
  refine c_block ?_
  refine c_seq ?_
  -- region 1
  refine c_region ?_
  refine x_move (.pointer _) rfl ?_
  refine x_eqlNil Try.underlying46 _ rfl rfl ?_
  refine x_assign (.bool _) rfl ?_
  refine x_nil ?_
  refine then_n ?_
  refine c_true rfl ?_
  refine c_seq ?_
  -- region 2
  refine c_region ?_
  refine x_assign (.int _ _) rfl ?_
  refine x_nil ?_
  refine then_n ?_
  refine c_ret ?_
  refine inb_r ?_
  refine then_r ?_
  refine ⟨.inr rfl, ?_⟩
  exact ⟨rfl, hs⟩
theorem ndue_calls {w0 w : World} {L : List HP} (hs : Sat w0 w L) :
    Calls Try.prog 22 #[.pointer none] w fun e w' => e = .returned (.slice none 0 0) ∧ Sat w0 w' L := by
  refine enter Try.func22 rfl Try.ntmps22 2 rfl (Nat.le_of_ble_eq_true rfl) ?_
  refine c_seq ?_
  -- region 0
  refine c_region ?_
  refine x_assign (.slice _ _ _) rfl ?_
  refine x_nil ?_
  refine then_n ?_
  refine c_seq ?_
  refine c_seq ?_
  -- region 1
  refine c_region ?_
  refine x_move (.pointer _) rfl ?_
  refine x_eqlNil Try.underlying46 _ rfl rfl ?_
  refine x_nil ?_
  refine then_n ?_
  refine c_true rfl ?_
  refine c_seq ?_
  -- region 2
  refine c_region ?_
  refine x_assign (.slice _ _ _) rfl ?_
  refine x_nil ?_
  refine then_n ?_
  refine c_ret ?_
  refine then_r ?_
  refine ⟨.inr rfl, ?_⟩
  exact ⟨rfl, hs⟩
theorem nack_calls {w0 w : World} {L : List HP} (u : Int) (hs : Sat w0 w L) :
    Calls Try.prog 24 #[.pointer none, .int .u64 u] w fun e w' => e = .returned (.int .i64 0) ∧ Sat w0 w' L := by
  refine enter Try.func24 rfl Try.ntmps24 4 rfl (Nat.le_of_ble_eq_true rfl) ?_
  refine c_seq ?_
  -- region 0
  refine c_region ?_
  refine x_assign (.int _ _) rfl ?_
  refine x_nil ?_
  refine then_n ?_
  refine c_seq ?_
  refine c_seq ?_
  -- region 1
  refine c_region ?_
  refine x_move (.pointer _) rfl ?_
  refine x_eqlNil Try.underlying46 _ rfl rfl ?_
  refine x_move (.bool _) rfl ?_
  refine x_skip rfl rfl ?_
  refine x_skip rfl rfl ?_
  refine x_skip rfl rfl ?_
  refine x_skip rfl rfl ?_
  refine x_skip rfl rfl ?_
  refine x_skip rfl rfl ?_
  refine x_pickT (.bool _) rfl rfl ?_
  refine x_move (.bool _) rfl ?_
  refine x_skip rfl rfl ?_
  refine x_skip rfl rfl ?_
  refine x_skip rfl rfl ?_
  refine x_skip rfl rfl ?_
  refine x_pickT (.bool _) rfl rfl ?_
  refine x_nil ?_
  refine then_n ?_
  refine c_true rfl ?_
  refine c_seq ?_
  -- region 2
  refine c_region ?_
  refine x_assign (.int _ _) rfl ?_
  refine x_nil ?_
  refine then_n ?_
  refine c_ret ?_
  refine then_r ?_
  refine ⟨.inr rfl, ?_⟩
  exact ⟨rfl, hs⟩
theorem nlen_calls {w0 w : World} {L : List HP} (hs : Sat w0 w L) :
    Calls Try.prog 25 #[.pointer none] w fun e w' => e = .returned (.int .i64 0) ∧ Sat w0 w' L := by
  refine enter Try.func25 rfl Try.ntmps25 2 rfl (Nat.le_of_ble_eq_true rfl) ?_
  refine c_seq ?_
  -- region 0
  refine c_region ?_
  refine x_assign (.int _ _) rfl ?_
  refine x_nil ?_
  refine then_n ?_
  refine c_seq ?_
  refine c_seq ?_
  -- region 1
  refine c_region ?_
  refine x_move (.pointer _) rfl ?_
  refine x_eqlNil Try.underlying46 _ rfl rfl ?_
  refine x_nil ?_
  refine then_n ?_
  refine c_true rfl ?_
  refine c_seq ?_
  -- region 2
  refine c_region ?_
  refine x_assign (.int _ _) rfl ?_
  refine x_nil ?_
  refine then_n ?_
  refine c_ret ?_
  refine then_r ?_
  refine ⟨.inr rfl, ?_⟩
  exact ⟨rfl, hs⟩
theorem nnext_calls {w0 w : World} {L : List HP} (hs : Sat w0 w L) :
    Calls Try.prog 35 #[.pointer none] w fun e w' => e = .returned (.int .u64 0) ∧ Sat w0 w' L := by
  refine enter Try.func35 rfl Try.ntmps35 2 rfl (Nat.le_of_ble_eq_true rfl) ?_
  refine c_seq ?_
  -- region 0
  refine c_region ?_
  refine x_assign (.int _ _) rfl ?_
  refine x_nil ?_
  refine then_n ?_
  refine c_seq ?_
  refine c_seq ?_
  -- region 1
  refine c_region ?_
  refine x_move (.pointer _) rfl ?_
  refine x_eqlNil Try.underlying46 _ rfl rfl ?_
  refine x_nil ?_
  refine then_n ?_
  refine c_true rfl ?_
  refine c_seq ?_
  -- region 2
  refine c_region ?_
  refine x_assign (.int _ _) rfl ?_
  refine x_nil ?_
  refine then_n ?_
  refine c_ret ?_
  refine then_r ?_
  refine ⟨.inr rfl, ?_⟩
  exact ⟨rfl, hs⟩

/-! ### awake -/
def aw (i : Nat) : SSt := { SSt.new with wait := (List.range i).map fun k => [UInt8.ofNat k] }
theorem aw_put {i : Nat} (h : i < 20) : (aw i).put [UInt8.ofNat i] = (0, aw (i + 1)) := by
  unfold SSt.put
  rw [if_neg (by simp), if_neg (by simp [aw]; omega)]
  simp [aw, List.range_succ]
def aw1 : SSt := (aw 20).due.2
def aw2 : SSt := aw1.due.2
def aw3 : SSt := (aw2.ack 4).2
def aw4 : SSt := aw3.due.2
theorem aw_ok {i : Nat} (h : i ≤ 20) : (aw i).ok :=
  ⟨by simp [aw, SSt.new], by simp [aw]; omega, fun l hl => by
    simp only [aw, List.mem_map] at hl
    obtain ⟨k, _, rfl⟩ := hl
    simp, by simp [aw, SSt.new], by simp [aw, SSt.new], by simp [aw, SSt.new], by simp [aw, SSt.new]⟩
theorem aw1_ok : aw1.ok := ⟨by decide +kernel, by decide +kernel, by decide +kernel, by decide +kernel, by decide +kernel, by decide +kernel, by decide +kernel⟩
theorem aw2_ok : aw2.ok := ⟨by decide +kernel, by decide +kernel, by decide +kernel, by decide +kernel, by decide +kernel, by decide +kernel, by decide +kernel⟩
theorem aw3_ok : aw3.ok := ⟨by decide +kernel, by decide +kernel, by decide +kernel, by decide +kernel, by decide +kernel, by decide +kernel, by decide +kernel⟩
theorem aw_l1 : (aw 20).due.1.length = 16 := by decide +kernel
theorem aw_l2 : aw1.due.1.length = 0 := by decide +kernel
theorem aw_l3 : (aw2.ack 4).1 = 4 := by decide +kernel
theorem aw_l4 : aw3.due.1.length = 4 := by decide +kernel
theorem aw_l5 : (aw3.due.1.map (·.1))[0]? = some 17 := by decide +kernel
theorem aw_l6 : aw4.wait.length = 16 := by decide +kernel
theorem aw_l7 : aw4.base + aw4.wait.length = 21 := by decide +kernel
theorem aw4_b : aw4.base ≤ 1000000000000 := by decide +kernel
theorem bs_byte (i : Int) (w : World) : (Instr.buildSlice 30 1 #[(0, .int .u8 i)]).run Try.prog w = .ok (.slice (some ⟨w.heap.size, 0, none⟩) 1 1) (w.alloc (.cells #[.int .u8 i] 5)) := by kernel_rfl
structure GAw where
  i : Nat
set_option maxHeartbeats 2000000 in
theorem awake11_calls {w0 w : World} {L : List HP} (hs : Sat w0 w L) :
    Calls Try.prog 26 #[] w fun e w' => e = .returned (.bool true) ∧ Sat w0 w' L := by
  refine enter Try.func26 rfl Try.ntmps26 0 rfl (Nat.le_of_ble_eq_true rfl) ?_
  refine c_seq ?_
  -- region 0
  refine c_region ?_
  refine x_assign (.bool _) rfl ?_
  refine x_nil ?_
  refine then_n ?_
  refine c_seq ?_
  -- region 1
  refine c_region ?_
  refine x_call Try.f27 Try.func27 rfl rfl [] rfl ?_
  refine (snew_calls hs).mono ?_
  clear hs; rintro e w ⟨S, rfl, hs⟩
  refine ⟨.pointer (some ⟨S, 0, none⟩), rfl, fun h => (by cases h), ?_⟩
  refine x_assign (.pointer _) rfl ?_
  refine x_nil ?_
  refine then_n ?_
  refine c_seq ?_
  refine c_seq ?_
  -- region 2
  refine c_region ?_
  refine x_assign (.int _ _) rfl ?_
  refine x_nil ?_
  refine then_n ?_
  refine c_block ?_
  refine c_loop (γ := GAw) (fun g => [(1, .pointer (some ⟨S, 0, none⟩)), (2, .int .i64 (g.i : Nat))]) (fun g w => g.i ≤ 20 ∧ Sat w0 w (SObj S (aw g.i) :: L)) (fun g => 20 - g.i) ⟨0⟩ ⟨rfl, rfl, trivial⟩ ⟨Nat.zero_le _, hs⟩ ?_
  clear hs
  rintro ⟨i⟩ ρ w ⟨hi20, hs⟩
  dsimp only at hi20 hs
  change CW Try.prog 60 _ _ (sets 60 [(1, .pointer (some ⟨S, 0, none⟩)), (2, .int .i64 (i : Nat))] ρ) w
  refine c_seq ?_
  refine c_seq ?_
  -- region 3
  refine c_region ?_
  refine x_move (.int _ _) rfl ?_
  refine x_lss _ _ rfl rfl ?_
  refine x_nil ?_
  refine then_n ?_
  refine c_test _ rfl (fun hb => ?_) (fun hb => ?_)   -- cond t9
  · skip
    refine c_skip ?_
    refine then_n ?_
    refine c_seq ?_
    refine c_block ?_
    refine c_seq ?_
    -- region 5
    refine c_region ?_
    refine x_move (.pointer _) rfl ?_
    refine x_move (.int _ _) rfl ?_
    refine x_conv cv_3_5 _ rfl (by simp only [X.lo]; omega) (by simp only [X.hi]; omega) ?_
    refine x_buildSlice #[.int .u8 (i : Int)] [(0, .int .u8 (i : Int))] hs rfl (fun w => bs_byte _ w) ?_
    clear hs; intro b w hs; refine ⟨fun h => (by cases h), ?_⟩
    have hrd : RB w (.slice (some ⟨b, 0, none⟩) 1 1) [UInt8.ofNat i] := by
      have := rd_blk (size := 1) hs rfl
      rw [show (#[Value.int .u8 (i : Int)].toList) = bv [UInt8.ofNat i] from by simp [bv]; omega] at this
      exact this
    have hs := hs.tail
    refine x_call Try.f20 Try.func20 rfl rfl [.pointer (some ⟨S, 0, none⟩), .slice (some ⟨b, 0, none⟩) 1 1] rfl ?_
    refine (sput_calls hs (fun w' e => hrd.heapEq e) (aw_ok hi20).len).mono ?_
    rw [aw_put (by omega)]
    clear hs; rintro e w ⟨rfl, hs⟩
    refine ⟨.int .i64 0, rfl, fun h => (by cases h), ?_⟩
    refine x_neq _ _ rfl rfl ?_
    refine x_nil ?_
    refine then_n ?_
    refine c_test _ rfl (fun hb => ?_) (fun hb => ?_)   -- cond t17
    · skip
      refine c_seq ?_
      -- region 6
      refine c_region ?_
      refine x_assign (.bool _) rfl ?_
      refine x_nil ?_
      refine then_n ?_
      refine c_ret ?_
      refine inb_r ?_
      refine then_r ?_
      refine then_r ?_
      refine inb_r ?_
      refine then_r ?_
      refine ⟨.inr rfl, ?_⟩
      exact absurd rfl hb
    · skip
      refine c_skip ?_
      refine inb_n ?_
      refine then_n ?_
      -- region 4
      refine c_region ?_
      refine x_move (.int _ _) rfl ?_
      refine x_add _ _ rfl rfl (by simp only [X.lo]; omega) (by simp only [X.hi]; omega) ?_
      refine x_assign (.int _ _) rfl ?_
      refine x_nil ?_
      refine then_n ?_
      refine ⟨⟨i + 1⟩, ⟨rfl, rfl, trivial⟩, ⟨by dsimp only; omega, hs⟩, by dsimp only; omega⟩
  · skip
    refine c_exit ?_
    refine then_x ?_
    refine then_x ?_
    refine inb_e ?_
    refine then_n ?_
    refine c_seq ?_
    -- region 7
    obtain rfl : i = 20 := by omega
    refine c_region ?_
    refine x_move (.pointer _) rfl ?_
    refine x_call Try.f22 Try.func22 rfl rfl [.pointer (some ⟨S, 0, none⟩)] rfl ?_
    refine (sdue_calls hs (aw_ok (Nat.le_refl _))).mono ?_
    clear hs; rintro e w ⟨v1, rfl, hs⟩
    refine ⟨v1, rfl, fun h => (by cases h), ?_⟩
    obtain ⟨a1, c1, rfl⟩ : ∃ a c, v1 = .slice a (aw 20).due.1.length c := by obtain ⟨us, hs⟩ := hs.ir; exact hs.rd.val
    have hs := hs.tail
    refine x_move (.pointer _) rfl ?_
    refine x_call Try.f22 Try.func22 rfl rfl [.pointer (some ⟨S, 0, none⟩)] rfl ?_
    refine (sdue_calls (s := aw1) hs aw1_ok).mono ?_
    clear hs; rintro e w ⟨v1, rfl, hs⟩
    refine ⟨v1, rfl, fun h => (by cases h), ?_⟩
    obtain ⟨a2, c2, rfl⟩ : ∃ a c, v1 = .slice a aw1.due.1.length c := by obtain ⟨us, hs⟩ := hs.ir; exact hs.rd.val
    have hs := hs.tail
    refine x_assign (.slice _ _ _) rfl ?_
    refine x_assign (.slice _ _ _) rfl ?_
    refine x_nil ?_
    refine then_n ?_
    refine c_seq ?_
    -- region 8
    refine c_region ?_
    refine x_move (.pointer _) rfl ?_
    refine x_call Try.f24 Try.func24 rfl rfl [.pointer (some ⟨S, 0, none⟩), .int .u64 4] rfl ?_
    refine (sack_calls 4 (s := aw2) hs aw2_ok (by decide)).mono ?_
    clear hs; rintro e w ⟨rfl, hs⟩
    refine ⟨.int .i64 ((aw2.ack 4).1 : Nat), rfl, fun h => (by cases h), ?_⟩
    refine x_assign (.int _ _) rfl ?_
    refine x_nil ?_
    refine then_n ?_
    refine c_seq ?_
    -- region 9
    refine c_region ?_
    refine x_move (.pointer _) rfl ?_
    refine x_call Try.f22 Try.func22 rfl rfl [.pointer (some ⟨S, 0, none⟩)] rfl ?_
    refine (sdue_calls (s := aw3) hs aw3_ok).mono ?_
    clear hs; rintro e w ⟨v1, rfl, hs⟩
    refine ⟨v1, rfl, fun h => (by cases h), ?_⟩
    obtain ⟨us, hs⟩ := hs.ir
    obtain ⟨a3, c3, rfl⟩ := hs.rd.val
    obtain ⟨b3, o3, rfl⟩ := hs.rowAddr (by rw [aw_l4]; decide)
    have hul := hs.tail.eachLen
    have l1 := aw_l1; have l2 := aw_l2; have l3 := aw_l3; have l4 := aw_l4; have l6 := aw_l6; have l7 := aw_l7
    obtain ⟨u0, hu0⟩ : ∃ u, us[0]? = some u := ⟨us[0]'(by rw [hul, List.length_map, l4]; decide), List.getElem?_eq_getElem _⟩
    have hcell : w.cell? ⟨b3, o3 + 0 * 2 + 0, none⟩ = some (.int .u64 (17 : Nat)) := hs.rowCell (icells_get _ _ 0 _ _ aw_l5 hu0).1
    have hs : Sat w0 w (SObj S aw4 :: L) := hs.tail.tail
    refine x_assign (.slice _ _ _) rfl ?_
    refine x_nil ?_
    refine then_n ?_
    refine c_seq ?_
    -- region 10
    refine c_region ?_
    refine x_move (.slice _ _ _) rfl ?_
    refine x_lenSl Try.underlying27 _ _ _ rfl ?_
    refine x_eqlT _ _ rfl rfl (by omega) ?_
    refine x_move (.bool _) rfl ?_
    refine x_want' rfl ?_
    refine x_move (.slice _ _ _) rfl ?_
    refine x_want' rfl ?_
    refine x_lenSl Try.underlying27 _ _ _ rfl ?_
    refine x_want' rfl ?_
    refine x_eqlT _ _ rfl rfl (by omega) ?_
    refine x_pickT (.bool _) rfl rfl ?_
    refine x_move (.bool _) rfl ?_
    refine x_want' rfl ?_
    refine x_move (.int _ _) rfl ?_
    refine x_want' rfl ?_
    refine x_eqlT _ _ rfl rfl (by omega) ?_
    refine x_pickT (.bool _) rfl rfl ?_
    refine x_move (.bool _) rfl ?_
    refine x_want' rfl ?_
    refine x_move (.slice _ _ _) rfl ?_
    refine x_want' rfl ?_
    refine x_lenSl Try.underlying27 _ _ _ rfl ?_
    refine x_want' rfl ?_
    refine x_eqlT _ _ rfl rfl (by omega) ?_
    refine x_pickT (.bool _) rfl rfl ?_
    refine x_move (.bool _) rfl ?_
    refine x_want' rfl ?_
    refine x_move (.slice _ _ _) rfl ?_
    refine x_want' rfl ?_
    refine x_indexAddr Try.underlying27 sz_56 _ _ _ _ 0 rfl rfl (by omega) ?_
    refine x_want' rfl ?_
    first | refine x_field0 fa_56_0 _ rfl ?_ | refine x_field fa_56_0 _ _ rfl ?_
    refine x_want' rfl ?_
    refine x_load one_26 _ (.int _ _) rfl (by first | exact hs.cell rfl | exact (hs.pull 1).cell rfl | exact (hs.pull 2).cell rfl | exact (hs.pull 3).cell rfl | assumption | exact (hs.pull 4).cell rfl | exact (hs.pull 5).cell rfl | exact (hs.pull 6).cell rfl | exact (hs.pull 7).cell rfl) ?_
    refine x_want' rfl ?_
    refine x_eqlT _ _ rfl rfl (by omega) ?_
    refine x_pickT (.bool _) rfl rfl ?_
    refine x_move (.bool _) rfl ?_
    refine x_want' rfl ?_
    refine x_move (.pointer _) rfl ?_
    refine x_want' rfl ?_
    refine x_call Try.f25 Try.func25 rfl rfl [.pointer (some ⟨S, 0, none⟩)] rfl ?_
    refine (slen_calls hs).mono ?_
    clear hs hcell; rintro e w ⟨rfl, hs⟩
    refine ⟨.int .i64 aw4.wait.length, rfl, fun h => (by cases h), ?_⟩
    refine x_want' rfl ?_
    refine x_eqlT _ _ rfl rfl (by omega) ?_
    refine x_pickT (.bool _) rfl rfl ?_
    refine x_move (.bool _) rfl ?_
    refine x_want' rfl ?_
    refine x_move (.pointer _) rfl ?_
    refine x_want' rfl ?_
    refine x_call Try.f35 Try.func35 rfl rfl [.pointer (some ⟨S, 0, none⟩)] rfl ?_
    refine (snext_calls hs aw4_b (by omega)).mono ?_
    clear hs; rintro e w ⟨rfl, hs⟩
    refine ⟨.int .u64 ((aw4.base + aw4.wait.length : Nat) : Int), rfl, fun h => (by cases h), ?_⟩
    refine x_want' rfl ?_
    refine x_eqlT _ _ rfl rfl (by omega) ?_
    refine x_pickT (.bool _) rfl rfl ?_
    refine x_assign (.bool _) rfl ?_
    refine x_nil ?_
    refine then_n ?_
    refine c_ret ?_
    refine ⟨.inr rfl, ?_⟩
    exact ⟨rfl, hs.tail⟩

/-! ### WindowNil -/
set_option maxHeartbeats 1000000 in
theorem walk_WindowNil {H : Type} {enc : TypeId × Value → H} {w0 : World} {a0 : Option Addr} {l0 c0 : Nat} {x1 : Int} (h0 : TR enc Try.prog w0 30 [.slice a0 l0 c0]) (h1 : TR enc Try.prog w0 26 [.int .u64 x1]) :
    Calls Try.prog 10 #[.slice a0 l0 c0, .int .u64 x1] w0 fun e w' => e = .returned (.bool true) ∧ Below w0.heap.size w0 w' := by
  refine law_of fun w hs => ?_
  clear h0 h1
  refine enter Try.func10 rfl Try.ntmps10 4 rfl (Nat.le_of_ble_eq_true rfl) ?_
  refine c_seq ?_
  -- region 0
  refine c_region ?_
  refine x_assign (.bool _) rfl ?_
  refine x_nil ?_
  refine then_n ?_
  refine c_seq ?_
  -- region 1
  refine c_region ?_
  refine x_assign (.pointer _) rfl ?_
  refine x_nil ?_
  refine then_n ?_
  refine c_seq ?_
  -- region 2
  refine c_region ?_
  refine x_move (.pointer _) rfl ?_
  refine x_call Try.f23 Try.func23 rfl rfl [.pointer none] rfl ?_
  refine (ntick_calls hs).mono ?_
  clear hs; rintro e w ⟨rfl, hs⟩
  refine ⟨.tuple #[], rfl, fun h => (by cases h), ?_⟩
  refine x_nil ?_
  refine then_n ?_
  refine c_seq ?_
  -- region 3
  refine c_region ?_
  refine x_move (.pointer _) rfl ?_
  refine x_move (.slice _ _ _) rfl ?_
  refine x_call Try.f20 Try.func20 rfl rfl [.pointer none, .slice a0 l0 c0] rfl ?_
  refine (nput_calls _ hs).mono ?_
  clear hs; rintro e w ⟨rfl, hs⟩
  refine ⟨.int .i64 7, rfl, fun h => (by cases h), ?_⟩
  refine x_eqlT _ _ rfl rfl (by omega) ?_
  refine x_move (.bool _) rfl ?_
  refine x_want' rfl ?_
  refine x_move (.pointer _) rfl ?_
  refine x_want' rfl ?_
  refine x_call Try.f22 Try.func22 rfl rfl [.pointer none] rfl ?_
  refine (ndue_calls hs).mono ?_
  clear hs; rintro e w ⟨rfl, hs⟩
  refine ⟨.slice none 0 0, rfl, fun h => (by cases h), ?_⟩
  refine x_want' rfl ?_
  refine x_lenSl Try.underlying27 _ _ _ rfl ?_
  refine x_want' rfl ?_
  refine x_eqlT _ _ rfl rfl (by omega) ?_
  refine x_pickT (.bool _) rfl rfl ?_
  refine x_move (.bool _) rfl ?_
  refine x_want' rfl ?_
  refine x_move (.pointer _) rfl ?_
  refine x_want' rfl ?_
  refine x_move (.int _ _) rfl ?_
  refine x_want' rfl ?_
  refine x_call Try.f24 Try.func24 rfl rfl [.pointer none, .int .u64 x1] rfl ?_
  refine (nack_calls _ hs).mono ?_
  clear hs; rintro e w ⟨rfl, hs⟩
  refine ⟨.int .i64 0, rfl, fun h => (by cases h), ?_⟩
  refine x_want' rfl ?_
  refine x_eqlT _ _ rfl rfl (by omega) ?_
  refine x_pickT (.bool _) rfl rfl ?_
  refine x_move (.bool _) rfl ?_
  refine x_want' rfl ?_
  refine x_move (.pointer _) rfl ?_
  refine x_want' rfl ?_
  refine x_call Try.f25 Try.func25 rfl rfl [.pointer none] rfl ?_
  refine (nlen_calls hs).mono ?_
  clear hs; rintro e w ⟨rfl, hs⟩
  refine ⟨.int .i64 0, rfl, fun h => (by cases h), ?_⟩
  refine x_want' rfl ?_
  refine x_eqlT _ _ rfl rfl (by omega) ?_
  refine x_pickT (.bool _) rfl rfl ?_
  refine x_move (.bool _) rfl ?_
  refine x_want' rfl ?_
  refine x_move (.pointer _) rfl ?_
  refine x_want' rfl ?_
  refine x_call Try.f35 Try.func35 rfl rfl [.pointer none] rfl ?_
  refine (nnext_calls hs).mono ?_
  clear hs; rintro e w ⟨rfl, hs⟩
  refine ⟨.int .u64 0, rfl, fun h => (by cases h), ?_⟩
  refine x_want' rfl ?_
  refine x_eqlT _ _ rfl rfl (by omega) ?_
  refine x_pickT (.bool _) rfl rfl ?_
  refine x_move (.bool _) rfl ?_
  refine x_want' rfl ?_
  refine x_call Try.f26 Try.func26 rfl rfl [] rfl ?_
  refine (awake11_calls hs).mono ?_
  clear hs; rintro e w ⟨rfl, hs⟩
  refine ⟨.bool true, rfl, fun h => (by cases h), ?_⟩
  refine x_pickT (.bool _) rfl rfl ?_
  refine x_assign (.bool _) rfl ?_
  refine x_nil ?_
  refine then_n ?_
  refine c_ret ?_
  refine ⟨.inr rfl, ?_⟩
  exact ⟨rfl, hs⟩
end Go.Proofs.Ytphakfggocdphaa.X
