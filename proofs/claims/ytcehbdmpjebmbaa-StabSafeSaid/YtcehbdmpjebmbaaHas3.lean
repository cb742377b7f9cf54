/-
  choragusref03: Has.
-/
import Derived.Test.YtcehbdmpjebmbaaPsl
namespace Go.Proofs.Ytcehbdmpjebmbaa.X
open Go Go.RowKit
set_option linter.unusedVariables false
set_option maxRecDepth 20000
theorem has_calls {w0 w : World} {A : HP} {L : List HP} {v : Value} {l : List Pid} (p : Pid) (hs : Sat w0 w (A :: L)) (hr : ∀ w' L', Sat w0 w' (A :: L') → RS w' 2 Pid.cells v l) (hlen : l.length ≤ 9223372036854775807) :
    Calls Try.prog 29 #[v, .agg #[.int .u16 (p.Id : Nat), .int .u32 (p.Inc : Nat)]] w fun e w' => e = .returned (.bool (decide (p ∈ l))) ∧ Sat w0 w' (A :: L) := by
  obtain ⟨a, c, rfl⟩ := (hr _ _ hs).val
  refine enter Try.func29 rfl Try.ntmps29 4 rfl (Nat.le_of_ble_eq_true rfl) ?_
  refine c_seq ?_
  -- region 0
  refine c_region ?_
  refine x_box hs (.agg #[_, _]) rfl ?_; clear hs; intro b3 w hs; refine ⟨fun h => (by first | (cases h; done) | (first | exact hs.cells2 rfl rfl | exact (hs.pull 1).cells2 rfl rfl | exact (hs.pull 2).cells2 rfl rfl | exact (hs.pull 3).cells2 rfl rfl | exact (hs.pull 4).cells2 rfl rfl | exact (hs.pull 5).cells2 rfl rfl | exact (hs.pull 6).cells2 rfl rfl | exact (hs.pull 7).cells2 rfl rfl | exact (hs.pull 8).cells2 rfl rfl | exact hs.cell rfl | exact (hs.pull 1).cell rfl | exact (hs.pull 2).cell rfl | exact (hs.pull 3).cell rfl | exact (hs.pull 4).cell rfl | exact (hs.pull 5).cell rfl | exact (hs.pull 6).cell rfl | exact (hs.pull 7).cell rfl | exact (hs.pull 8).cell rfl | assumption | exact hs.cellsOf | exact (hs.pull 1).cellsOf | exact (hs.pull 2).cellsOf | exact (hs.pull 3).cellsOf | exact (hs.pull 4).cellsOf | exact (hs.pull 5).cellsOf | exact (hs.pull 6).cellsOf | exact (hs.pull 7).cellsOf | exact (hs.pull 8).cellsOf) | (and_intros <;> first | exact hs.cells2 rfl rfl | exact (hs.pull 1).cells2 rfl rfl | exact (hs.pull 2).cells2 rfl rfl | exact (hs.pull 3).cells2 rfl rfl | exact (hs.pull 4).cells2 rfl rfl | exact (hs.pull 5).cells2 rfl rfl | exact (hs.pull 6).cells2 rfl rfl | exact (hs.pull 7).cells2 rfl rfl | exact (hs.pull 8).cells2 rfl rfl | exact hs.cell rfl | exact (hs.pull 1).cell rfl | exact (hs.pull 2).cell rfl | exact (hs.pull 3).cell rfl | exact (hs.pull 4).cell rfl | exact (hs.pull 5).cell rfl | exact (hs.pull 6).cell rfl | exact (hs.pull 7).cell rfl | exact (hs.pull 8).cell rfl | assumption | exact hs.cellsOf | exact (hs.pull 1).cellsOf | exact (hs.pull 2).cellsOf | exact (hs.pull 3).cellsOf | exact (hs.pull 4).cellsOf | exact (hs.pull 5).cellsOf | exact (hs.pull 6).cellsOf | exact (hs.pull 7).cellsOf | exact (hs.pull 8).cellsOf)), ?_⟩
  refine x_assign (.bool _) rfl ?_
  refine x_nil ?_
  refine then_n ?_
  refine c_seq ?_
  refine c_seq ?_
  -- region 1
  refine c_region ?_
  refine x_assign (.int _ _) rfl ?_
  refine x_nil ?_
  refine then_n ?_
  refine c_block ?_
  refine c_loop (γ := Nat) (fun (i : Nat) => [(0, .slice a l.length c), (3, .pointer (some ⟨b3, 0, none⟩)), (5, .int .i64 (i : Nat))]) (fun (i : Nat) w => i ≤ l.length ∧ p ∉ l.take i ∧ Sat w0 w (Blk b3 (.cells #[.int .u16 (p.Id : Nat), .int .u32 (p.Inc : Nat)] 38 (0, 0)) :: A :: L)) (fun (i : Nat) => l.length - i) 0 ⟨rfl, rfl, rfl, trivial⟩ ⟨Nat.zero_le _, by simp, hs⟩ ?_
  clear hs
  rintro i ρ w ⟨hi, hn, hs⟩
  change CW Try.prog 18 _ _ (sets 18 [(0, .slice a l.length c), (3, .pointer (some ⟨b3, 0, none⟩)), (5, .int .i64 (i : Nat))] ρ) w
  refine c_seq ?_
  refine c_seq ?_
  -- region 2
  refine c_region ?_
  refine x_move (.int _ _) rfl ?_
  refine x_move (.slice _ _ _) rfl ?_
  refine x_lenSl Try.underlying23 _ _ _ rfl ?_
  refine x_lss _ _ rfl rfl ?_
  refine x_nil ?_
  refine then_n ?_
  refine c_test _ rfl (fun hb => ?_) (fun hb => ?_)   -- cond t9
  · skip
    refine c_skip ?_
    refine then_n ?_
    refine c_seq ?_
    refine c_block ?_
    refine c_seq ?_
    -- region 4 DRAWS
    obtain ⟨y, hy⟩ : ∃ y, l[i]? = some y := ⟨l[i]'(by omega), List.getElem?_eq_getElem _⟩
    obtain ⟨g, o, rfl⟩ := (hr _ _ (hs.pull 1)).addr (by omega)
    refine c_draw (fun w => (∀ (j : Nat) (u : Value), [Value.int .u16 (p.Id : Nat), Value.int .u32 (p.Inc : Nat)][j]? = some u → w.cell? ((⟨b3, 0, none⟩ : Addr).add j) = some u) ∧ (∀ (j : Nat) (u : Value), [Value.int .u16 (y.Id : Nat), Value.int .u32 (y.Inc : Nat)][j]? = some u → w.cell? ((⟨g, o + i * 2, none⟩ : Addr).add j) = some u)) (fun i => !(false)) [(0, 2), (1, 2), (2, 2), (3, 1), (4, 1), (5, 2)] (by kernel_rfl) (by kernel_rfl) (by kernel_rfl) (by kernel_rfl) (⟨hs.drew.cellsOf, (hr _ _ (hs.drew.pull 1)).all (fun a => a.cells_len) hy⟩) ?_
    replace hs := hs.drew
    refine x_move (.slice _ _ _) rfl ?_
    refine x_move (.int _ _) rfl ?_
    refine x_indexAddr Try.underlying23 sz_38 _ _ _ _ _ rfl rfl (by omega) ?_
    refine h_loadN [_, _] agg_38 _ rfl (fun w hS => by first | exact hS | exact hS.1 | exact hS.2 | exact hS.2.1 | exact hS.2.2 | exact hS.2.2.1 | exact hS.2.2.2 | exact hS.2.2.2.1 | exact hS.2.2.2.2 | exact hS.cellsOf | exact (hS.pull 1).cellsOf | exact (hS.pull 2).cellsOf | exact (hS.pull 3).cellsOf | exact (hS.pull 4).cellsOf | exact (hS.pull 5).cellsOf | exact (hS.pull 6).cellsOf | exact hS.cells2 rfl rfl | exact (hS.pull 1).cells2 rfl rfl | exact (hS.pull 2).cells2 rfl rfl | exact (hS.pull 3).cells2 rfl rfl | exact (hS.pull 4).cells2 rfl rfl | exact (hS.pull 5).cells2 rfl rfl | exact (hS.pull 6).cells2 rfl rfl) ?_
    refine h_loadN [_, _] agg_38 _ rfl (fun w hS => by first | exact hS | exact hS.1 | exact hS.2 | exact hS.2.1 | exact hS.2.2 | exact hS.2.2.1 | exact hS.2.2.2 | exact hS.2.2.2.1 | exact hS.2.2.2.2 | exact hS.cellsOf | exact (hS.pull 1).cellsOf | exact (hS.pull 2).cellsOf | exact (hS.pull 3).cellsOf | exact (hS.pull 4).cellsOf | exact (hS.pull 5).cellsOf | exact (hS.pull 6).cellsOf | exact hS.cells2 rfl rfl | exact (hS.pull 1).cells2 rfl rfl | exact (hS.pull 2).cells2 rfl rfl | exact (hS.pull 3).cells2 rfl rfl | exact (hS.pull 4).cells2 rfl rfl | exact (hS.pull 5).cells2 rfl rfl | exact (hS.pull 6).cells2 rfl rfl) ?_
    refine x_eqlE eq_pid y p rfl rfl ?_
    refine x_nil ?_
    refine then_n ?_
    refine c_cond rfl (fun hb => ?_) (fun hb => ?_)   -- cond t17
    · skip
      refine c_seq ?_
      -- region 5
      refine c_region ?_
      refine x_assign (.bool _) rfl ?_
      refine x_nil ?_
      refine then_n ?_
      refine c_ret ?_
      refine inb_r ?_
      refine then_r ?_
      refine then_r ?_
      refine inb_r ?_
      refine then_r ?_
      refine ⟨.inr rfl, ?_⟩
      have hpy : y = p := by simpa using hb
      subst hpy
      rw [decide_eq_true (List.mem_of_getElem? hy)]
      exact ⟨rfl, hs.tail⟩
    · skip
      refine c_skip ?_
      refine inb_n ?_
      refine then_n ?_
      -- region 3
      refine c_region ?_
      refine x_move (.int _ _) rfl ?_
      refine x_add _ _ rfl rfl (by simp only [X.lo]; omega) (by simp only [X.hi]; omega) ?_
      refine x_assign (.int _ _) rfl ?_
      refine x_nil ?_
      refine then_n ?_
      refine ⟨i + 1, ⟨rfl, rfl, rfl, trivial⟩, ⟨by omega, take_next hy hn (by simpa [eq_comm] using hb), hs⟩, by first | omega | (dsimp only; omega)⟩
  · skip
    refine c_exit ?_
    refine then_x ?_
    refine then_x ?_
    refine inb_e ?_
    refine then_n ?_
    refine c_seq ?_
    -- region 6
    refine c_region ?_
    refine x_assign (.bool _) rfl ?_
    refine x_nil ?_
    refine then_n ?_
    refine c_ret ?_
    refine ⟨.inr rfl, ?_⟩
    have hp : p ∉ l := by rw [List.take_of_length_le (by omega)] at hn; exact hn
    rw [decide_eq_false hp]
    exact ⟨rfl, hs.tail⟩
theorem has_is {w0 w : World} {A : HP} {L : List HP} {v : Value} {l : List Pid} (p : Pid) (r : Bool) (hp : decide (p ∈ l) = r) (hs : Sat w0 w (A :: L)) (hr : ∀ w' L', Sat w0 w' (A :: L') → RS w' 2 Pid.cells v l) (hlen : l.length ≤ 9223372036854775807) :
    Calls Try.prog 29 #[v, .agg #[.int .u16 (p.Id : Nat), .int .u32 (p.Inc : Nat)]] w fun e w' => e = .returned (.bool r) ∧ Sat w0 w' (A :: L) := hp ▸ has_calls p hs hr hlen
end Go.Proofs.Ytcehbdmpjebmbaa.X
