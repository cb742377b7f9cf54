/-
  LAYER 11, THE PROGRAM's TEXT: what each method of window.Sender does to its object, told by plain functions on its state.
-/
import Derived.Test.YtphakfggocdphaaBytes
namespace Go.Proofs.Ytphakfggocdphaa.X
open Go Go.RowKit
set_option linter.unusedVariables false
/-- a sender's state -/
structure SSt where
  base : Nat
  wait : List (List UInt8)
  told : Nat
  ever : Nat
  once : Nat
  more : Nat
structure SSt.ok (s : SSt) : Prop where
  base : s.base ≤ 1000000000000
  len : s.wait.length ≤ 128
  each : ∀ l ∈ s.wait, l.length ≤ 4096
  told : s.told < 4294967296
  ever : s.ever < 4294967296
  once : s.once ≤ 1000000000000
  more : s.more ≤ 1000000000000
def scells (s : SSt) (v : Value) : Array Value := #[.int .u64 (s.base : Nat), v, .int .u32 (s.told : Nat), .int .u32 (s.ever : Nat), .int .u64 (s.once : Nat), .int .u64 (s.more : Nat)]
def SObj (S : Nat) (s : SSt) : HP := fun h => ∃ v, SatH [Blk S (.cells (scells s v) 78 (0, 0)), BB v s.wait] h
theorem Sat.sobj {w0 w : World} {S : Nat} {s : SSt} {L : List HP} (hs : Sat w0 w (SObj S s :: L)) : ∃ ao c, Sat w0 w (Blk S (.cells #[.int .u64 (s.base : Nat), .slice ao s.wait.length c, .int .u32 (s.told : Nat), .int .u32 (s.ever : Nat), .int .u64 (s.once : Nat), .int .u64 (s.more : Nat)] 78 (0, 0)) :: BB (.slice ao s.wait.length c) s.wait :: L) := by
  obtain ⟨v, h⟩ := Sat.ex (F := fun v => SatH [Blk S (.cells (scells s v) 78 (0, 0)), BB v s.wait]) hs
  have h1 := h.opn
  obtain ⟨vs, h2⟩ := (h1.pull 1).bb
  obtain ⟨ao, c, rfl⟩ := h2.rd.val
  exact ⟨ao, c, h1⟩
theorem Sat.sobj' {w0 w : World} {S : Nat} {s : SSt} {v : Value} {L : List HP} (hs : Sat w0 w (Blk S (.cells #[.int .u64 (s.base : Nat), v, .int .u32 (s.told : Nat), .int .u32 (s.ever : Nat), .int .u64 (s.once : Nat), .int .u64 (s.more : Nat)] 78 (0, 0)) :: BB v s.wait :: L)) : Sat w0 w (SObj S s :: L) :=
  (Sat.shut (Ls := [Blk S (.cells (scells s v) 78 (0, 0)), BB v s.wait]) hs).head fun h hh => ⟨v, hh⟩
theorem bd_sender (w : World) : (Instr.build 78 #[(0, .int .u64 1)]).run Try.prog w = .ok (.agg #[.int .u64 1, .slice none 0 0, .int .u32 0, .int .u32 0, .int .u64 0, .int .u64 0]) w := by kernel_rfl
theorem bd_item (q : Int) (a : Option Addr) (n c : Nat) (w : World) : (Instr.build 56 #[(0, .int .u64 q), (1, .slice a n c)]).run Try.prog w = .ok (.agg #[.int .u64 q, .slice a n c]) w := by kernel_rfl
theorem bs_item (q : Int) (a : Option Addr) (n c : Nat) (w : World) : (Instr.buildSlice 27 1 #[(0, .agg #[.int .u64 q, .slice a n c])]).run Try.prog w = .ok (.slice (some ⟨w.heap.size, 0, none⟩) 1 1) (w.alloc (.cells #[.int .u64 q, .slice a n c] 56)) := by kernel_rfl
theorem bs_bb (a : Option Addr) (n c : Nat) (w : World) : (Instr.buildSlice 35 1 #[(0, .slice a n c)]).run Try.prog w = .ok (.slice (some ⟨w.heap.size, 0, none⟩) 1 1) (w.alloc (.cells #[.slice a n c] 30)) := by kernel_rfl

/-! ### New, Len, Next, Counts, Tick -/
def SSt.new : SSt := ⟨1, [], 0, 0, 0, 0⟩
set_option maxHeartbeats 1000000 in
theorem snew_calls {w0 w : World} {L : List HP} (hs : Sat w0 w L) :
    Calls Try.prog 27 #[] w fun e w' => ∃ S, e = .returned (.pointer (some ⟨S, 0, none⟩)) ∧ Sat w0 w' (SObj S SSt.new :: L) := by
  refine enter Try.func27 rfl Try.ntmps27 0 rfl (Nat.le_of_ble_eq_true rfl) ?_
  refine c_seq ?_
  -- region 0
  refine c_region ?_
  refine x_assign (.pointer _) rfl ?_
  refine x_nil ?_
  refine then_n ?_
  refine c_seq ?_
  -- region 1
  refine c_region ?_
  refine x_build (.agg #[.int .u64 1, .slice none 0 0, .int .u32 0, .int .u32 0, .int .u64 0, .int .u64 0]) [(0, .int .u64 1)] rfl (fun w => bd_sender w) ?_
  refine x_box hs (.agg #[.int .u64 1, .slice none 0 0, .int .u32 0, .int .u32 0, .int .u64 0, .int .u64 0]) rfl ?_
  clear hs; intro S w hs; refine ⟨fun h => (by cases h), ?_⟩
  refine x_assign (.pointer _) rfl ?_
  refine x_nil ?_
  refine then_n ?_
  refine c_ret ?_
  refine ⟨.inr rfl, ?_⟩
  exact ⟨S, rfl, (hs.pull 0 |> fun hs => (Sat.bbNil hs).pull 1).sobj' (s := SSt.new)⟩
set_option maxHeartbeats 1000000 in
theorem slen_calls {w0 w : World} {L : List HP} {S : Nat} {s : SSt} (hs : Sat w0 w (SObj S s :: L)) :
    Calls Try.prog 25 #[.pointer (some ⟨S, 0, none⟩)] w fun e w' => e = .returned (.int .i64 s.wait.length) ∧ Sat w0 w' (SObj S s :: L) := by
  obtain ⟨ao, c, hs⟩ := hs.sobj
  refine enter Try.func25 rfl Try.ntmps25 2 rfl (Nat.le_of_ble_eq_true rfl) ?_
  refine c_seq ?_
  -- region 0
  refine c_region ?_
  refine x_assign (.int _ _) rfl ?_
  refine x_nil ?_
  refine then_n ?_
  refine c_seq ?_
  refine c_seq ?_
  -- region 1
  refine c_region ?_
  refine x_move (.pointer _) rfl ?_
  refine x_eqlNil Try.underlying46 _ rfl rfl ?_
  refine x_nil ?_
  refine then_n ?_
  refine c_false rfl ?_
  refine c_skip ?_
  refine then_n ?_
  refine c_seq ?_
  -- region 3
  refine c_region ?_
  refine x_move (.pointer _) rfl ?_
  refine x_nilCheck _ rfl ?_
  first | refine x_field0 fa_78_1 _ rfl ?_ | refine x_field fa_78_1 _ _ rfl ?_
  refine x_load one_35 _ (.slice _ _ _) rfl (by first | exact hs.cell rfl | exact (hs.pull 1).cell rfl | exact (hs.pull 2).cell rfl | exact (hs.pull 3).cell rfl | assumption | exact (hs.pull 4).cell rfl | exact (hs.pull 5).cell rfl | exact (hs.pull 6).cell rfl | exact (hs.pull 7).cell rfl) ?_
  refine x_lenSl Try.underlying35 _ _ _ rfl ?_
  refine x_assign (.int _ _) rfl ?_
  refine x_nil ?_
  refine then_n ?_
  refine c_ret ?_
  refine ⟨.inr rfl, ?_⟩
  exact ⟨rfl, hs.sobj'⟩
set_option maxHeartbeats 1000000 in
theorem snext_calls {w0 w : World} {L : List HP} {S : Nat} {s : SSt} (hs : Sat w0 w (SObj S s :: L)) (hb : s.base ≤ 1000000000000) (hl : s.wait.length ≤ 128) :
    Calls Try.prog 35 #[.pointer (some ⟨S, 0, none⟩)] w fun e w' => e = .returned (.int .u64 ((s.base + s.wait.length : Nat) : Int)) ∧ Sat w0 w' (SObj S s :: L) := by
  obtain ⟨ao, c, hs⟩ := hs.sobj
  refine enter Try.func35 rfl Try.ntmps35 2 rfl (Nat.le_of_ble_eq_true rfl) ?_
  refine c_seq ?_
  -- region 0
  refine c_region ?_
  refine x_assign (.int _ _) rfl ?_
  refine x_nil ?_
  refine then_n ?_
  refine c_seq ?_
  refine c_seq ?_
  -- region 1
  refine c_region ?_
  refine x_move (.pointer _) rfl ?_
  refine x_eqlNil Try.underlying46 _ rfl rfl ?_
  refine x_nil ?_
  refine then_n ?_
  refine c_false rfl ?_
  refine c_skip ?_
  refine then_n ?_
  refine c_seq ?_
  -- region 3 DRAWS
  refine c_draw (fun w => w.cell? ⟨S, 0, none⟩ = some (.int .u64 (s.base : Nat)) ∧ w.cell? ⟨S, 1, none⟩ = some (.slice ao s.wait.length c)) (fun i => !(false)) [(0, 2), (1, 2), (2, 2), (3, 1), (4, 2), (5, 2), (6, 2), (7, 1), (8, 2), (9, 2), (10, 2), (11, 2)] (by kernel_rfl) (by kernel_rfl) (by kernel_rfl) (by kernel_rfl) (⟨hs.cell rfl, hs.cell rfl⟩) ?_
  replace hs := hs.drew
  refine x_move (.pointer _) rfl ?_
  refine x_nilCheck _ rfl ?_
  first | refine x_field0 fa_78_0 _ rfl ?_ | refine x_field fa_78_0 _ _ rfl ?_
  refine h_load one_26 _ (.int _ _) rfl (fun w hS => by first | exact hS.cell rfl | exact (hS.pull 1).cell rfl | exact (hS.pull 2).cell rfl | exact (hS.pull 3).cell rfl | exact hS | exact hS.1 | exact hS.2 | exact hS.2.1 | exact hS.2.2 | exact hS.2.2.1 | exact hS.2.2.2 | exact hS.2.2.2.1 | exact hS.2.2.2.2) ?_
  refine x_move (.pointer _) rfl ?_
  refine x_nilCheck _ rfl ?_
  first | refine x_field0 fa_78_1 _ rfl ?_ | refine x_field fa_78_1 _ _ rfl ?_
  refine h_load one_35 _ (.slice _ _ _) rfl (fun w hS => by first | exact hS.cell rfl | exact (hS.pull 1).cell rfl | exact (hS.pull 2).cell rfl | exact (hS.pull 3).cell rfl | exact hS | exact hS.1 | exact hS.2 | exact hS.2.1 | exact hS.2.2 | exact hS.2.2.1 | exact hS.2.2.2 | exact hS.2.2.2.1 | exact hS.2.2.2.2) ?_
  refine x_lenSl Try.underlying35 _ _ _ rfl ?_
  refine x_conv cv_3_26 _ rfl (by simp only [X.lo]; omega) (by simp only [X.hi]; omega) ?_
  refine x_add _ _ rfl rfl (by simp only [X.lo]; omega) (by simp only [X.hi]; omega) ?_
  refine x_assign (.int _ _) rfl ?_
  refine x_nil ?_
  refine then_n ?_
  refine c_ret ?_
  refine ⟨.inr rfl, ?_⟩
  exact ⟨rfl, hs.sobj'⟩
set_option maxHeartbeats 1000000 in
theorem scounts_calls {w0 w : World} {L : List HP} {S : Nat} {s : SSt} (hs : Sat w0 w (SObj S s :: L)) :
    Calls Try.prog 36 #[.pointer (some ⟨S, 0, none⟩)] w fun e w' => e = .returned (.tuple #[.int .u64 (s.once : Nat), .int .u64 (s.more : Nat)]) ∧ Sat w0 w' (SObj S s :: L) := by
  obtain ⟨ao, c, hs⟩ := hs.sobj
  refine enter2 Try.func36 rfl Try.ntmps36 2 3 rfl (Nat.le_of_ble_eq_true rfl) ?_
  refine c_seq ?_
  -- region 0
  refine c_region ?_
  refine x_assign (.int _ _) rfl ?_
  refine x_assign (.int _ _) rfl ?_
  refine x_nil ?_
  refine then_n ?_
  refine c_seq ?_
  refine c_seq ?_
  -- region 1
  refine c_region ?_
  refine x_move (.pointer _) rfl ?_
  refine x_eqlNil Try.underlying46 _ rfl rfl ?_
  refine x_nil ?_
  refine then_n ?_
  refine c_false rfl ?_
  refine c_skip ?_
  refine then_n ?_
  refine c_seq ?_
  -- region 3 DRAWS
  refine c_draw (fun w => w.cell? ⟨S, 4, none⟩ = some (.int .u64 (s.once : Nat)) ∧ w.cell? ⟨S, 5, none⟩ = some (.int .u64 (s.more : Nat))) (fun i => !(false)) [(0, 2), (1, 2), (2, 2), (3, 1), (4, 2), (5, 2), (6, 2), (7, 1), (8, 2), (9, 2)] (by kernel_rfl) (by kernel_rfl) (by kernel_rfl) (by kernel_rfl) (⟨hs.cell rfl, hs.cell rfl⟩) ?_
  replace hs := hs.drew
  refine x_move (.pointer _) rfl ?_
  refine x_nilCheck _ rfl ?_
  first | refine x_field0 fa_78_4 _ rfl ?_ | refine x_field fa_78_4 _ _ rfl ?_
  refine h_load one_26 _ (.int _ _) rfl (fun w hS => by first | exact hS.cell rfl | exact (hS.pull 1).cell rfl | exact (hS.pull 2).cell rfl | exact (hS.pull 3).cell rfl | exact hS | exact hS.1 | exact hS.2 | exact hS.2.1 | exact hS.2.2 | exact hS.2.2.1 | exact hS.2.2.2 | exact hS.2.2.2.1 | exact hS.2.2.2.2) ?_
  refine x_move (.pointer _) rfl ?_
  refine x_nilCheck _ rfl ?_
  first | refine x_field0 fa_78_5 _ rfl ?_ | refine x_field fa_78_5 _ _ rfl ?_
  refine h_load one_26 _ (.int _ _) rfl (fun w hS => by first | exact hS.cell rfl | exact (hS.pull 1).cell rfl | exact (hS.pull 2).cell rfl | exact (hS.pull 3).cell rfl | exact hS | exact hS.1 | exact hS.2 | exact hS.2.1 | exact hS.2.2 | exact hS.2.2.1 | exact hS.2.2.2 | exact hS.2.2.2.1 | exact hS.2.2.2.2) ?_
  refine x_assign (.int _ _) rfl ?_
  refine x_assign (.int _ _) rfl ?_
  refine x_nil ?_
  refine then_n ?_
  refine c_ret ?_
  refine ⟨.inr rfl, ?_⟩
  exact ⟨rfl, hs.sobj'⟩
def SSt.tick (s : SSt) : SSt := { s with told := 0 }
set_option maxHeartbeats 1000000 in
theorem stick_calls {w0 w : World} {L : List HP} {S : Nat} {s : SSt} (hs : Sat w0 w (SObj S s :: L)) :
    Calls Try.prog 23 #[.pointer (some ⟨S, 0, none⟩)] w fun e w' => e = .returned (.tuple #[]) ∧ Sat w0 w' (SObj S s.tick :: L) := by
  obtain ⟨ao, c, hs⟩ := hs.sobj
  refine enter0 Try.func23 rfl Try.ntmps23 rfl (Nat.le_of_ble_eq_true rfl) ?_
  refine c_seq ?_
  -- region 0
  refine c_region ?_
  refine x_move (.pointer _) rfl ?_
  refine x_neqNil Try.underlying46 _ rfl rfl ?_
  refine x_nil ?_
  refine then_n ?_
  refine c_true rfl ?_
  -- region 1
  refine c_region ?_
  refine x_move (.pointer _) rfl ?_
  refine x_nilCheck _ rfl ?_
  first | refine x_field0 fa_78_2 _ rfl ?_ | refine x_field fa_78_2 _ _ rfl ?_
  refine x_store hs one_76 (.int _ _) rfl rfl rfl rfl ?_; clear hs; intro w hs; refine ⟨fun h => (by first | cases h | exact h), ?_⟩
  refine x_nil ?_
  refine ⟨.inl rfl, ?_⟩
  exact ⟨rfl, Sat.sobj' (s := s.tick) hs⟩

/-! ### Put -/
def SSt.put (s : SSt) (l : List UInt8) : Nat × SSt :=
  if 4096 < l.length then (3, s) else if 128 ≤ s.wait.length then (13, s) else (0, { s with wait := s.wait ++ [l] })
set_option maxHeartbeats 1000000 in
theorem sput_calls {w0 w : World} {L : List HP} {S : Nat} {s : SSt} {v : Value} {l : List UInt8} (hs : Sat w0 w (SObj S s :: L)) (hr : ∀ w', w'.heap = w.heap → RB w' v l) (hn : s.wait.length ≤ 128) :
    Calls Try.prog 20 #[.pointer (some ⟨S, 0, none⟩), v] w fun e w' => e = .returned (.int .i64 ((s.put l).1 : Nat)) ∧ Sat w0 w' (SObj S (s.put l).2 :: L) := by
  obtain ⟨ao, c, hs⟩ := hs.sobj
  obtain ⟨a1, c1, rfl⟩ := (hr w rfl).val
  refine enter Try.func20 rfl Try.ntmps20 4 rfl (Nat.le_of_ble_eq_true rfl) ?_
  refine c_seq ?_
  -- region 0
  refine c_region ?_
  refine x_assign (.int _ _) rfl ?_
  refine x_nil ?_
  refine then_n ?_
  refine c_seq ?_
  refine c_block ?_
  refine c_seq ?_
  -- region 1
  refine c_region ?_
  refine x_move (.pointer _) rfl ?_
  refine x_eqlNil Try.underlying46 _ rfl rfl ?_
  refine x_assign (.bool _) rfl ?_
  refine x_nil ?_
  refine then_n ?_
  refine c_false rfl ?_
  refine c_seq ?_
  -- region 3
  refine c_region ?_
  refine x_move (.slice _ _ _) rfl ?_
  refine x_lenSl Try.underlying30 _ _ _ rfl ?_
  refine x_gtr _ _ rfl rfl ?_
  refine x_assign (.bool _) rfl ?_
  refine x_nil ?_
  refine then_n ?_
  refine c_test _ rfl (fun hb => ?_) (fun hb => ?_)   -- cond t8
  · skip
    refine c_seq ?_
    -- region 4
    refine c_region ?_
    refine x_assign (.int _ _) rfl ?_
    refine x_nil ?_
    refine then_n ?_
    refine c_ret ?_
    refine inb_r ?_
    refine then_r ?_
    refine ⟨.inr rfl, ?_⟩
    have hg : s.put l = (3, s) := by unfold SSt.put; rw [if_pos (by omega)]
    rw [hg]
    exact ⟨rfl, hs.sobj'⟩
  · skip
    refine c_seq ?_
    -- region 5
    refine c_region ?_
    refine x_move (.pointer _) rfl ?_
    refine x_nilCheck _ rfl ?_
    first | refine x_field0 fa_78_1 _ rfl ?_ | refine x_field fa_78_1 _ _ rfl ?_
    refine x_load one_35 _ (.slice _ _ _) rfl (by first | exact hs.cell rfl | exact (hs.pull 1).cell rfl | exact (hs.pull 2).cell rfl | exact (hs.pull 3).cell rfl | assumption | exact (hs.pull 4).cell rfl | exact (hs.pull 5).cell rfl | exact (hs.pull 6).cell rfl | exact (hs.pull 7).cell rfl) ?_
    refine x_lenSl Try.underlying35 _ _ _ rfl ?_
    refine x_geq _ _ rfl rfl ?_
    refine x_assign (.bool _) rfl ?_
    refine x_nil ?_
    refine then_n ?_
    refine c_test _ rfl (fun hb => ?_) (fun hb => ?_)   -- cond t12
    · skip
      refine c_seq ?_
      -- region 6
      refine c_region ?_
      refine x_assign (.int _ _) rfl ?_
      refine x_nil ?_
      refine then_n ?_
      refine c_ret ?_
      refine inb_r ?_
      refine then_r ?_
      refine ⟨.inr rfl, ?_⟩
      have hg : s.put l = (13, s) := by unfold SSt.put; rw [if_neg (by omega), if_pos (by omega)]
      rw [hg]
      exact ⟨rfl, hs.sobj'⟩
    · skip
      refine c_skip ?_
      refine inb_n ?_
      refine then_n ?_
      refine c_seq ?_
      -- region 7 DRAWS
      refine c_draw (fun w => w.cell? ⟨S, 1, none⟩ = some (.slice ao s.wait.length c)) (fun i => !(Nat.beq i 8 || Nat.beq i 11)) [(0, 2), (1, 2), (2, 2), (3, 2), (4, 1), (5, 2), (6, 0), (7, 0), (8, 0), (9, 2), (10, 2), (11, 0)] (by kernel_rfl) (by kernel_rfl) (by kernel_rfl) (by kernel_rfl) (hs.cell rfl) ?_
      replace hs := hs.drew
      refine x_move (.pointer _) rfl ?_
      refine x_move (.pointer _) rfl ?_
      refine x_nilCheck _ rfl ?_
      first | refine x_field0 fa_78_1 _ rfl ?_ | refine x_field fa_78_1 _ _ rfl ?_
      refine h_load one_35 _ (.slice _ _ _) rfl (fun w hS => by first | exact hS.cell rfl | exact (hS.pull 1).cell rfl | exact (hS.pull 2).cell rfl | exact (hS.pull 3).cell rfl | exact hS | exact hS.1 | exact hS.2 | exact hS.2.1 | exact hS.2.2 | exact hS.2.2.1 | exact hS.2.2.2 | exact hS.2.2.2.1 | exact hS.2.2.2.2) ?_
      refine x_move (.slice _ _ _) rfl ?_
      refine x_call Try.f37 Try.func37 rfl rfl [.slice a1 l.length c1] rfl ?_
      refine (clone_calls hs (hr w.drew rfl) (by omega)).mono ?_
      clear hs; rintro e w ⟨v', rfl, hs⟩
      refine ⟨v', rfl, fun _ => (hs.pull 1).cell rfl, ?_⟩
      obtain ⟨a2, c2, rfl⟩ := hs.br.val
      refine x_buildSlice #[.slice a2 l.length c2] [(0, .slice a2 l.length c2)] hs rfl (fun w => bs_bb _ _ _ w) ?_
      clear hs; intro b w hs; refine ⟨fun _ => (hs.pull 2).cell rfl, ?_⟩
      have hrd := rd_blk (size := 1) hs rfl
      obtain ⟨vs, hs⟩ := (hs.tail.pull 2).bb
      refine x_append hs Try.underlying35 ei_30 hrd (by intro u hu; simp at hu; subst hu; rfl) (by unfold maxLen; omega) (by omega) rfl rfl ?_
      clear hs; intro v w hs; refine ⟨fun _ => (hs.pull 3).cell rfl, ?_⟩
      have hs : Sat w0 w (EachB vs s.wait :: BR (.slice a2 l.length c2) l :: Row 30 1 v (s.wait.length + 1) (vs ++ [.slice a2 l.length c2]) :: Blk S (.cells #[.int .u64 (s.base : Nat), .slice ao s.wait.length c, .int .u32 (s.told : Nat), .int .u32 (s.ever : Nat), .int .u64 (s.once : Nat), .int .u64 (s.more : Nat)] 78 (0, 0)) :: L) := (hs.pull 2).pull 2
      have hs := (hs.eachSnoc.push 1)
      obtain ⟨a3, c3, rfl⟩ := hs.rd.val
      have hs := hs.pull 2
      refine x_nilCheck _ rfl ?_
      first | refine x_field0 fa_78_1 _ rfl ?_ | refine x_field fa_78_1 _ _ rfl ?_
      refine x_store hs one_35 (.slice _ _ _) rfl rfl rfl rfl ?_; clear hs; intro w hs; refine ⟨fun h => (by first | cases h | exact h), ?_⟩
      refine x_nil ?_
      refine then_n ?_
      refine c_seq ?_
      -- region 8
      refine c_region ?_
      refine x_assign (.int _ _) rfl ?_
      refine x_nil ?_
      refine then_n ?_
      refine c_ret ?_
      refine ⟨.inr rfl, ?_⟩
      have hg : s.put l = (0, { s with wait := s.wait ++ [l] }) := by unfold SSt.put; rw [if_neg (by omega), if_neg (by omega)]
      rw [hg]
      refine ⟨rfl, ?_⟩
      have hlen : s.wait.length + 1 = (s.wait ++ [l]).length := by simp
      have hs2 := hs.push 2
      rw [hlen] at hs2
      have hs3 := (Sat.bb' hs2).push 1
      exact Sat.sobj' (s := { s with wait := s.wait ++ [l] }) hs3
end Go.Proofs.Ytphakfggocdphaa.X
