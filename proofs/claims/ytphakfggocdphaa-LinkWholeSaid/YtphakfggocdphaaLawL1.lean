/-
  LAYER 12: a link that is none; the document's example (awake); the laws LinkNil and LinkBound.
-/
import Derived.Test.YtphakfggocdphaaLnk
import Derived.Test.YtphakfggocdphaaSame
import Derived.Test.YtphakfggocdphaaOpen
namespace Go.Proofs.Ytphakfggocdphaa.X
open Go Go.RowKit
set_option linter.unusedVariables false
set_option maxRecDepth 20000

theorem nltake_calls {w0 w : World} {L : List HP} (u : Int) (v : Value) (hs : Sat w0 w L) :
    Calls Try.prog 15 #[.pointer none, .int .u64 u, v] w fun e w' => e = .returned (.slice none 0 0) ∧ Sat w0 w' L := by
  refine enter Try.func15 rfl Try.ntmps15 6 rfl (Nat.le_of_ble_eq_true rfl) ?_
  refine c_seq ?_
  -- region 0
  refine c_region ?_
  refine x_assign (.slice _ _ _) rfl ?_
  refine x_nil ?_
  refine then_n ?_
  refine c_seq ?_
  refine c_seq ?_
  -- region 1
  refine c_region ?_
  refine x_move (.pointer _) rfl ?_
  refine x_eqlNil Try.underlying23 _ rfl rfl ?_
  refine x_nil ?_
  refine then_n ?_
  refine c_true rfl ?_
  refine c_seq ?_
  -- region 2
  refine c_region ?_
  refine x_assign (.slice _ _ _) rfl ?_
  refine x_nil ?_
  refine then_n ?_
  refine c_ret ?_
  refine then_r ?_
  refine ⟨.inr rfl, ?_⟩
  exact ⟨rfl, hs⟩
theorem nlupto_calls {w0 w : World} {L : List HP} (hs : Sat w0 w L) :
    Calls Try.prog 17 #[.pointer none] w fun e w' => e = .returned (.int .u64 0) ∧ Sat w0 w' L := by
  refine enter Try.func17 rfl Try.ntmps17 2 rfl (Nat.le_of_ble_eq_true rfl) ?_
  refine c_seq ?_
  -- region 0
  refine c_region ?_
  refine x_assign (.int _ _) rfl ?_
  refine x_nil ?_
  refine then_n ?_
  refine c_seq ?_
  refine c_seq ?_
  -- region 1
  refine c_region ?_
  refine x_move (.pointer _) rfl ?_
  refine x_eqlNil Try.underlying23 _ rfl rfl ?_
  refine x_nil ?_
  refine then_n ?_
  refine c_true rfl ?_
  refine c_seq ?_
  -- region 2
  refine c_region ?_
  refine x_assign (.int _ _) rfl ?_
  refine x_nil ?_
  refine then_n ?_
  refine c_ret ?_
  refine then_r ?_
  refine ⟨.inr rfl, ?_⟩
  exact ⟨rfl, hs⟩
theorem nlheld_calls {w0 w : World} {L : List HP} (hs : Sat w0 w L) :
    Calls Try.prog 18 #[.pointer none] w fun e w' => e = .returned (.int .i64 0) ∧ Sat w0 w' L := by
  refine enter Try.func18 rfl Try.ntmps18 2 rfl (Nat.le_of_ble_eq_true rfl) ?_
  refine c_seq ?_
  -- region 0
  refine c_region ?_
  refine x_assign (.int _ _) rfl ?_
  refine x_nil ?_
  refine then_n ?_
  refine c_seq ?_
  refine c_seq ?_
  -- region 1
  refine c_region ?_
  refine x_move (.pointer _) rfl ?_
  refine x_eqlNil Try.underlying23 _ rfl rfl ?_
  refine x_nil ?_
  refine then_n ?_
  refine c_true rfl ?_
  refine c_seq ?_
  -- region 2
  refine c_region ?_
  refine x_assign (.int _ _) rfl ?_
  refine x_nil ?_
  refine then_n ?_
  refine c_ret ?_
  refine then_r ?_
  refine ⟨.inr rfl, ?_⟩
  exact ⟨rfl, hs⟩
theorem nlowes_calls {w0 w : World} {L : List HP} (hs : Sat w0 w L) :
    Calls Try.prog 19 #[.pointer none] w fun e w' => e = .returned (.bool false) ∧ Sat w0 w' L := by
  refine enter Try.func19 rfl Try.ntmps19 2 rfl (Nat.le_of_ble_eq_true rfl) ?_
  refine c_seq ?_
  -- region 0
  refine c_region ?_
  refine x_assign (.bool _) rfl ?_
  refine x_nil ?_
  refine then_n ?_
  refine c_seq ?_
  refine c_seq ?_
  -- region 1
  refine c_region ?_
  refine x_move (.pointer _) rfl ?_
  refine x_eqlNil Try.underlying23 _ rfl rfl ?_
  refine x_nil ?_
  refine then_n ?_
  refine c_true rfl ?_
  refine c_seq ?_
  -- region 2
  refine c_region ?_
  refine x_assign (.bool _) rfl ?_
  refine x_nil ?_
  refine then_n ?_
  refine c_ret ?_
  refine then_r ?_
  refine ⟨.inr rfl, ?_⟩
  exact ⟨rfl, hs⟩

/-! ### awake -/
theorem lbs_byte (i : Int) (w : World) : (Instr.buildSlice 30 1 #[(0, .int .u8 i)]).run Try.prog w = .ok (.slice (some ⟨w.heap.size, 0, none⟩) 1 1) (w.alloc (.cells #[.int .u8 i] 5)) := by kernel_rfl
theorem lbs_2 (a a' : Option Addr) (n n' c c' : Nat) (w : World) : (Instr.buildSlice 35 2 #[(0, .slice a n c), (1, .slice a' n' c')]).run Try.prog w = .ok (.slice (some ⟨w.heap.size, 0, none⟩) 2 2) (w.alloc (.cells #[.slice a n c, .slice a' n' c'] 30)) := by kernel_rfl
theorem rb_byte {w0 w : World} {b : Nat} {z : Nat × Nat} {L : List HP} {i : Int} {c : UInt8} (hc : i = (c.toNat : Int)) (hs : Sat w0 w (Blk b (.cells #[.int .u8 i] 5 z) :: L)) : RB w (.slice (some ⟨b, 0, none⟩) 1 1) [c] := by
  have h := rd_blkF (size := 1) hs rfl
  subst hc
  exact h
def lk1 : LSt := ⟨SSt.new, 0, [(2, [98])], true⟩
def lk2 : LSt := ⟨SSt.new, 2, [], true⟩
theorem lk_1 : LSt.new.take 2 [98] = ([], lk1) := by rfl
theorem lk_2 : lk1.take 1 [97] = ([[97], [98]], lk2) := by rfl
theorem lk_3 : lk2.take 1 [97] = ([], lk2) := by rfl
theorem rbb_2 {w0 w : World} {b b1 b2 : Nat} {z z1 z2 : Nat × Nat} {L : List HP} (hs : Sat w0 w (Blk b (.cells #[.slice (some ⟨b1, 0, none⟩) 1 1, .slice (some ⟨b2, 0, none⟩) 1 1] 30 z) :: Blk b2 (.cells #[.int .u8 98] 5 z2) :: Blk b1 (.cells #[.int .u8 97] 5 z1) :: L)) :
    RBB w (.slice (some ⟨b, 0, none⟩) 2 2) [[97], [98]] := by
  refine ⟨_, rd_blkF (size := 1) hs rfl, fun i u c h1 h2 => ?_⟩
  match i with
  | 0 =>
    simp only [List.getElem?_cons_zero, Option.some.injEq] at h1 h2
    subst h1; subst h2
    exact rb_byte (by rfl) (hs.pull 2)
  | 1 =>
    simp only [List.getElem?_cons_succ, List.getElem?_cons_zero, Option.some.injEq] at h1 h2
    subst h1; subst h2
    exact rb_byte (by rfl) (hs.pull 1)
  | i + 2 => simp at h2
set_option maxHeartbeats 2000000 in
theorem awake12_calls {w0 w : World} {L : List HP} (hs : Sat w0 w L) :
    Calls Try.prog 13 #[] w fun e w' => e = .returned (.bool true) ∧ Sat w0 w' L := by
  refine enter Try.func13 rfl Try.ntmps13 0 rfl (Nat.le_of_ble_eq_true rfl) ?_
  refine c_seq ?_
  -- region 0
  refine c_region ?_
  refine x_assign (.bool _) rfl ?_
  refine x_nil ?_
  refine then_n ?_
  refine c_seq ?_
  -- region 1
  refine c_region ?_
  refine x_call Try.f12 Try.func12 rfl rfl [] rfl ?_
  refine (lnew_calls hs).mono ?_
  clear hs; rintro e w ⟨l, rfl, hs⟩
  refine ⟨.pointer (some ⟨l, 0, none⟩), rfl, fun h => (by cases h), ?_⟩
  refine x_assign (.pointer _) rfl ?_
  refine x_nil ?_
  refine then_n ?_
  refine c_seq ?_
  -- region 2
  refine c_region ?_
  refine x_move (.pointer _) rfl ?_
  refine x_buildSlice #[.int .u8 98] [(0, .int .u8 98)] hs rfl (fun w => lbs_byte _ w) ?_
  clear hs; intro b1 w hs; refine ⟨fun h => (by cases h), ?_⟩
  refine x_mark Try.underlying30 Try.underlying5 hs rfl ?_
  clear hs; intro w hs; refine ⟨fun h => (by cases h), ?_⟩
  refine x_call Try.f15 Try.func15 rfl rfl [.pointer (some ⟨l, 0, none⟩), .int .u64 2, .slice (some ⟨b1, 0, none⟩) 1 1] rfl ?_
  refine (ltake_calls 2 [98] (hs.pull 1) (fun w' L' h => rb_byte (by rfl) h) (by decide) (by decide) (by decide) (by decide)).mono ?_
  rw [lk_1]
  clear hs; rintro e w ⟨r, rfl, hs⟩
  refine ⟨r, rfl, fun h => (by cases h), ?_⟩
  obtain ⟨a1, c1, rfl⟩ : ∃ a c, r = .slice a 0 c := hs.rbb.val
  have hs := (hs.tail.pull 1).tail
  refine x_assign (.slice _ _ _) rfl ?_
  refine x_nil ?_
  refine then_n ?_
  refine c_seq ?_
  -- region 3
  refine c_region ?_
  refine x_move (.pointer _) rfl ?_
  refine x_buildSlice #[.int .u8 97] [(0, .int .u8 97)] hs rfl (fun w => lbs_byte _ w) ?_
  clear hs; intro b1 w hs; refine ⟨fun h => (by cases h), ?_⟩
  refine x_mark Try.underlying30 Try.underlying5 hs rfl ?_
  clear hs; intro w hs; refine ⟨fun h => (by cases h), ?_⟩
  refine x_call Try.f15 Try.func15 rfl rfl [.pointer (some ⟨l, 0, none⟩), .int .u64 1, .slice (some ⟨b1, 0, none⟩) 1 1] rfl ?_
  refine (ltake_calls 1 [97] (hs.pull 1) (fun w' L' h => rb_byte (by rfl) h) (by decide) (by decide) (by decide) (by decide)).mono ?_
  rw [lk_2]
  clear hs; rintro e w ⟨r, rfl, hs⟩
  refine ⟨r, rfl, fun h => (by cases h), ?_⟩
  obtain ⟨a2, c2, rfl⟩ := hs.rbb.val
  have hs := (hs.pull 2).tail
  refine x_assign (.slice _ _ _) rfl ?_
  refine x_nil ?_
  refine then_n ?_
  refine c_seq ?_
  -- region 4
  refine c_region ?_
  refine x_move (.pointer _) rfl ?_
  refine x_buildSlice #[.int .u8 97] [(0, .int .u8 97)] hs rfl (fun w => lbs_byte _ w) ?_
  clear hs; intro b1 w hs; refine ⟨fun h => (by cases h), ?_⟩
  refine x_mark Try.underlying30 Try.underlying5 hs rfl ?_
  clear hs; intro w hs; refine ⟨fun h => (by cases h), ?_⟩
  refine x_call Try.f15 Try.func15 rfl rfl [.pointer (some ⟨l, 0, none⟩), .int .u64 1, .slice (some ⟨b1, 0, none⟩) 1 1] rfl ?_
  refine (ltake_calls 1 [97] (hs.perm [2, 0, 1]) (fun w' L' h => rb_byte (by rfl) h) (by decide) (by decide) (by decide) (by decide)).mono ?_
  rw [lk_3]
  clear hs; rintro e w ⟨r, rfl, hs⟩
  refine ⟨r, rfl, fun h => (by cases h), ?_⟩
  obtain ⟨a3, c3, rfl⟩ : ∃ a c, r = .slice a 0 c := hs.rbb.val
  have hs := (hs.tail.pull 1).tail
  refine x_assign (.slice _ _ _) rfl ?_
  refine x_nil ?_
  refine then_n ?_
  refine c_seq ?_
  -- region 5
  refine c_region ?_
  refine x_move (.slice _ _ _) rfl ?_
  refine x_lenSl Try.underlying35 _ _ _ rfl ?_
  refine x_eqlT _ _ rfl rfl (by omega) ?_
  refine x_move (.bool _) rfl ?_
  refine x_want' rfl ?_
  refine x_move (.slice _ _ _) rfl ?_
  refine x_want' rfl ?_
  refine x_buildSlice #[.int .u8 97] [(0, .int .u8 97)] hs rfl (fun w => lbs_byte _ w) ?_
  clear hs; intro b1 w hs; refine ⟨fun h => (by cases h), ?_⟩
  refine x_want' rfl ?_
  refine x_mark Try.underlying30 Try.underlying5 hs rfl ?_
  clear hs; intro w hs; refine ⟨fun h => (by cases h), ?_⟩
  refine x_want' rfl ?_
  refine x_buildSlice #[.int .u8 98] [(0, .int .u8 98)] hs rfl (fun w => lbs_byte _ w) ?_
  clear hs; intro b2 w hs; refine ⟨fun h => (by cases h), ?_⟩
  refine x_want' rfl ?_
  refine x_mark Try.underlying30 Try.underlying5 hs rfl ?_
  clear hs; intro w hs; refine ⟨fun h => (by cases h), ?_⟩
  refine x_want' rfl ?_
  refine x_buildSlice #[.slice (some ⟨b1, 0, none⟩) 1 1, .slice (some ⟨b2, 0, none⟩) 1 1] [(0, .slice (some ⟨b1, 0, none⟩) 1 1), (1, .slice (some ⟨b2, 0, none⟩) 1 1)] hs rfl (fun w => lbs_2 _ _ _ _ _ _ w) ?_
  clear hs; intro b3 w hs; refine ⟨fun h => (by cases h), ?_⟩
  refine x_want' rfl ?_
  refine x_call Try.f14 Try.func14 rfl rfl [.slice a2 2 c2, .slice (some ⟨b3, 0, none⟩) 2 2] rfl ?_
  refine (same_calls (l1 := [[97], [98]]) (l2 := [[97], [98]]) hs (hs.pull 4).rbb (rbb_2 hs) (by decide)).mono ?_
  rw [decide_eq_true rfl]
  clear hs; rintro e w ⟨rfl, hs, -⟩
  refine ⟨.bool true, rfl, fun h => (by cases h), ?_⟩
  have hs := hs.tail.tail.tail
  refine x_pickT (.bool _) rfl rfl ?_
  refine x_move (.bool _) rfl ?_
  refine x_want' rfl ?_
  refine x_move (.slice _ _ _) rfl ?_
  refine x_want' rfl ?_
  refine x_lenSl Try.underlying35 _ _ _ rfl ?_
  refine x_want' rfl ?_
  refine x_eqlT _ _ rfl rfl (by omega) ?_
  refine x_pickT (.bool _) rfl rfl ?_
  refine x_move (.bool _) rfl ?_
  refine x_want' rfl ?_
  refine x_move (.pointer _) rfl ?_
  refine x_want' rfl ?_
  refine x_call Try.f17 Try.func17 rfl rfl [.pointer (some ⟨l, 0, none⟩)] rfl ?_
  refine (lupto_calls hs).mono ?_
  clear hs; rintro e w ⟨rfl, hs⟩
  refine ⟨.int .u64 2, rfl, fun h => (by cases h), ?_⟩
  refine x_want' rfl ?_
  refine x_eqlT _ _ rfl rfl (by omega) ?_
  refine x_pickT (.bool _) rfl rfl ?_
  refine x_move (.bool _) rfl ?_
  refine x_want' rfl ?_
  refine x_move (.pointer _) rfl ?_
  refine x_want' rfl ?_
  refine x_call Try.f19 Try.func19 rfl rfl [.pointer (some ⟨l, 0, none⟩)] rfl ?_
  refine (lowes_calls hs).mono ?_
  clear hs; rintro e w ⟨rfl, hs⟩
  refine ⟨.bool true, rfl, fun h => (by cases h), ?_⟩
  refine x_pickT (.bool _) rfl rfl ?_
  refine x_move (.bool _) rfl ?_
  refine x_want' rfl ?_
  refine x_move (.pointer _) rfl ?_
  refine x_want' rfl ?_
  refine x_call Try.f19 Try.func19 rfl rfl [.pointer (some ⟨l, 0, none⟩)] rfl ?_
  refine (lowes_calls hs).mono ?_
  clear hs; rintro e w ⟨rfl, hs⟩
  refine ⟨.bool false, rfl, fun h => (by cases h), ?_⟩
  refine x_want' rfl ?_
  refine x_not _ rfl ?_
  refine x_pickT (.bool _) rfl rfl ?_
  refine x_assign (.bool _) rfl ?_
  refine x_nil ?_
  refine then_n ?_
  refine c_ret ?_
  refine ⟨.inr rfl, ?_⟩
  exact ⟨rfl, hs.tail.tail⟩

/-! ### LinkNil -/
set_option maxHeartbeats 1000000 in
theorem walk_LinkNil {H : Type} {enc : TypeId × Value → H} {w0 : World} {x0 : Int} {a1 : Option Addr} {l1 c1 : Nat} (h0 : TR enc Try.prog w0 26 [.int .u64 x0]) (h1 : TR enc Try.prog w0 30 [.slice a1 l1 c1]) :
    Calls Try.prog 5 #[.int .u64 x0, .slice a1 l1 c1] w0 fun e w' => e = .returned (.bool true) ∧ Below w0.heap.size w0 w' := by
  refine law_of fun w hs => ?_
  clear h0 h1
  refine enter Try.func5 rfl Try.ntmps5 4 rfl (Nat.le_of_ble_eq_true rfl) ?_
  refine c_seq ?_
  -- region 0
  refine c_region ?_
  refine x_assign (.bool _) rfl ?_
  refine x_nil ?_
  refine then_n ?_
  refine c_seq ?_
  -- region 1
  refine c_region ?_
  refine x_assign (.pointer _) rfl ?_
  refine x_nil ?_
  refine then_n ?_
  refine c_seq ?_
  -- region 2
  refine c_region ?_
  refine x_move (.pointer _) rfl ?_
  refine x_move (.int _ _) rfl ?_
  refine x_move (.slice _ _ _) rfl ?_
  refine x_call Try.f15 Try.func15 rfl rfl [.pointer none, .int .u64 x0, .slice a1 l1 c1] rfl ?_
  refine (nltake_calls _ _ hs).mono ?_
  clear hs; rintro e w ⟨rfl, hs⟩
  refine ⟨.slice none 0 0, rfl, fun h => (by cases h), ?_⟩
  refine x_lenSl Try.underlying35 _ _ _ rfl ?_
  refine x_eqlT _ _ rfl rfl (by omega) ?_
  refine x_move (.bool _) rfl ?_
  refine x_want' rfl ?_
  refine x_move (.pointer _) rfl ?_
  refine x_want' rfl ?_
  refine x_call Try.f17 Try.func17 rfl rfl [.pointer none] rfl ?_
  refine (nlupto_calls hs).mono ?_
  clear hs; rintro e w ⟨rfl, hs⟩
  refine ⟨.int .u64 0, rfl, fun h => (by cases h), ?_⟩
  refine x_want' rfl ?_
  refine x_eqlT _ _ rfl rfl (by omega) ?_
  refine x_pickT (.bool _) rfl rfl ?_
  refine x_move (.bool _) rfl ?_
  refine x_want' rfl ?_
  refine x_move (.pointer _) rfl ?_
  refine x_want' rfl ?_
  refine x_call Try.f19 Try.func19 rfl rfl [.pointer none] rfl ?_
  refine (nlowes_calls hs).mono ?_
  clear hs; rintro e w ⟨rfl, hs⟩
  refine ⟨.bool false, rfl, fun h => (by cases h), ?_⟩
  refine x_want' rfl ?_
  refine x_not _ rfl ?_
  refine x_pickT (.bool _) rfl rfl ?_
  refine x_move (.bool _) rfl ?_
  refine x_want' rfl ?_
  refine x_move (.pointer _) rfl ?_
  refine x_want' rfl ?_
  refine x_call Try.f18 Try.func18 rfl rfl [.pointer none] rfl ?_
  refine (nlheld_calls hs).mono ?_
  clear hs; rintro e w ⟨rfl, hs⟩
  refine ⟨.int .i64 0, rfl, fun h => (by cases h), ?_⟩
  refine x_want' rfl ?_
  refine x_eqlT _ _ rfl rfl (by omega) ?_
  refine x_pickT (.bool _) rfl rfl ?_
  refine x_move (.bool _) rfl ?_
  refine x_want' rfl ?_
  refine x_call Try.f13 Try.func13 rfl rfl [] rfl ?_
  refine (awake12_calls hs).mono ?_
  clear hs; rintro e w ⟨rfl, hs⟩
  refine ⟨.bool true, rfl, fun h => (by cases h), ?_⟩
  refine x_pickT (.bool _) rfl rfl ?_
  refine x_assign (.bool _) rfl ?_
  refine x_nil ?_
  refine then_n ?_
  refine c_ret ?_
  refine ⟨.inr rfl, ?_⟩
  exact ⟨rfl, hs⟩
end Go.Proofs.Ytphakfggocdphaa.X
