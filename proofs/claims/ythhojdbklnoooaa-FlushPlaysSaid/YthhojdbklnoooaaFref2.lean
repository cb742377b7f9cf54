/-
  LAYER 24, the reference: Without; its object.
-/
import Derived.Test.YthhojdbklnoooaaFref1
namespace Go.Proofs.Ythhojdbklnoooaa.X
open Go Go.RowKit
set_option linter.unusedVariables false
set_option maxRecDepth 20000
def wo (l : List Pid) (p : Pid) : List Pid := l.filter fun y => decide (y ≠ p)
theorem wo_snoc (l : List Pid) (p y : Pid) : wo (l ++ [y]) p = if y = p then wo l p else wo l p ++ [y] := by
  unfold wo
  rw [List.filter_append]
  by_cases h : y = p <;> simp [h]
theorem wo_len (l : List Pid) (p : Pid) : (wo l p).length ≤ l.length := List.length_filter_le ..
set_option maxHeartbeats 2000000 in
theorem without_calls {w0 w : World} {A : HP} {L : List HP} {v : Value} {l : List Pid} (p : Pid) (hs : Sat w0 w (A :: L)) (hr : ∀ w' L', Sat w0 w' (A :: L') → RS w' 2 Pid.cells v l) (hlen : l.length ≤ 1000000) :
    Calls Try.prog 25 #[v, .agg #[.int .u16 (p.Id : Nat), .int .u32 (p.Inc : Nat)]] w fun e w' => ∃ v', e = .returned v' ∧ Sat w0 w' (Row 34 2 v' (wo l p).length (pcells (wo l p)) :: A :: L) := by
  obtain ⟨a, c, rfl⟩ := (hr _ _ hs).val
  refine enter Try.func25 rfl Try.ntmps25 4 rfl (Nat.le_of_ble_eq_true rfl) ?_
  refine c_seq ?_
  -- region 0
  refine c_region ?_
  refine x_box hs (.agg #[_, _]) rfl ?_; clear hs; intro b3 w hs; refine ⟨fun h => (by first | (cases h; done) | (first | exact hs.cells2 rfl rfl | exact (hs.pull 1).cells2 rfl rfl | exact (hs.pull 2).cells2 rfl rfl | exact (hs.pull 3).cells2 rfl rfl | exact (hs.pull 4).cells2 rfl rfl | exact (hs.pull 5).cells2 rfl rfl | exact (hs.pull 6).cells2 rfl rfl | exact (hs.pull 7).cells2 rfl rfl | exact (hs.pull 8).cells2 rfl rfl | exact hs.cell rfl | exact (hs.pull 1).cell rfl | exact (hs.pull 2).cell rfl | exact (hs.pull 3).cell rfl | exact (hs.pull 4).cell rfl | exact (hs.pull 5).cell rfl | exact (hs.pull 6).cell rfl | exact (hs.pull 7).cell rfl | exact (hs.pull 8).cell rfl | assumption | exact hs.cellsOf | exact (hs.pull 1).cellsOf | exact (hs.pull 2).cellsOf | exact (hs.pull 3).cellsOf | exact (hs.pull 4).cellsOf | exact (hs.pull 5).cellsOf | exact (hs.pull 6).cellsOf | exact (hs.pull 7).cellsOf | exact (hs.pull 8).cellsOf) | (and_intros <;> first | exact hs.cells2 rfl rfl | exact (hs.pull 1).cells2 rfl rfl | exact (hs.pull 2).cells2 rfl rfl | exact (hs.pull 3).cells2 rfl rfl | exact (hs.pull 4).cells2 rfl rfl | exact (hs.pull 5).cells2 rfl rfl | exact (hs.pull 6).cells2 rfl rfl | exact (hs.pull 7).cells2 rfl rfl | exact (hs.pull 8).cells2 rfl rfl | exact hs.cell rfl | exact (hs.pull 1).cell rfl | exact (hs.pull 2).cell rfl | exact (hs.pull 3).cell rfl | exact (hs.pull 4).cell rfl | exact (hs.pull 5).cell rfl | exact (hs.pull 6).cell rfl | exact (hs.pull 7).cell rfl | exact (hs.pull 8).cell rfl | assumption | exact hs.cellsOf | exact (hs.pull 1).cellsOf | exact (hs.pull 2).cellsOf | exact (hs.pull 3).cellsOf | exact (hs.pull 4).cellsOf | exact (hs.pull 5).cellsOf | exact (hs.pull 6).cellsOf | exact (hs.pull 7).cellsOf | exact (hs.pull 8).cellsOf)), ?_⟩
  refine x_assign (.slice _ _ _) rfl ?_
  refine x_nil ?_
  refine then_n ?_
  refine c_seq ?_
  -- region 1
  refine c_region ?_
  refine x_assign (.slice _ _ _) rfl ?_
  refine x_nil ?_
  refine then_n ?_
  refine c_seq ?_
  refine c_seq ?_
  -- region 2
  refine c_region ?_
  refine x_assign (.int _ _) rfl ?_
  refine x_nil ?_
  refine then_n ?_
  refine c_block ?_
  refine c_loop (γ := Nat × Option Addr × Nat) (fun (⟨i, ao, c'⟩ : Nat × Option Addr × Nat) => [(0, .slice a l.length c), (3, .pointer (some ⟨b3, 0, none⟩)), (5, .slice ao (wo (l.take i) p).length c'), (6, .int .i64 (i : Nat))]) (fun (⟨i, ao, c'⟩ : Nat × Option Addr × Nat) w => i ≤ l.length ∧ Sat w0 w (Row 34 2 (.slice ao (wo (l.take i) p).length c') (wo (l.take i) p).length (pcells (wo (l.take i) p)) :: Blk b3 (.cells #[.int .u16 (p.Id : Nat), .int .u32 (p.Inc : Nat)] 34 (0, 0)) :: A :: L)) (fun (⟨i, ao, c'⟩ : Nat × Option Addr × Nat) => l.length - i) (0, none, 0) ⟨rfl, rfl, rfl, rfl, trivial⟩ ⟨Nat.zero_le _, hs.rowNil⟩ ?_
  clear hs
  rintro ⟨i, ao, c'⟩ ρ w ⟨hi, hs⟩
  change CW Try.prog 27 _ _ (sets 27 [(0, .slice a l.length c), (3, .pointer (some ⟨b3, 0, none⟩)), (5, .slice ao (wo (l.take i) p).length c'), (6, .int .i64 (i : Nat))] ρ) w
  refine c_seq ?_
  refine c_seq ?_
  -- region 3
  refine c_region ?_
  refine x_move (.int _ _) rfl ?_
  refine x_move (.slice _ _ _) rfl ?_
  refine x_lenSl Try.underlying22 _ _ _ rfl ?_
  refine x_lss _ _ rfl rfl ?_
  refine x_nil ?_
  refine then_n ?_
  refine c_test _ rfl (fun hb => ?_) (fun hb => ?_)   -- cond t10
  · skip
    refine c_skip ?_
    refine then_n ?_
    refine c_seq ?_
    refine c_block ?_
    refine c_seq ?_
    -- region 5 DRAWS
    obtain ⟨y, hy⟩ : ∃ y, l[i]? = some y := ⟨l[i]'(by omega), List.getElem?_eq_getElem _⟩
    obtain ⟨g, o, rfl⟩ := (hr _ _ (hs.pull 2)).addr (by omega)
    have htk : l.take (i + 1) = l.take i ++ [y] := by rw [List.take_add_one, hy]; rfl
    have hon := wo_snoc (l.take i) p y
    rw [← htk] at hon
    have hol := wo_len (l.take i) p
    rw [List.length_take] at hol
    refine c_draw (fun w => (∀ (j : Nat) (u : Value), [Value.int .u16 (p.Id : Nat), Value.int .u32 (p.Inc : Nat)][j]? = some u → w.cell? ((⟨b3, 0, none⟩ : Addr).add j) = some u) ∧ (∀ (j : Nat) (u : Value), [Value.int .u16 (y.Id : Nat), Value.int .u32 (y.Inc : Nat)][j]? = some u → w.cell? ((⟨g, o + i * 2, none⟩ : Addr).add j) = some u)) (fun i => !(false)) [(0, 2), (1, 2), (2, 2), (3, 1), (4, 1), (5, 2)] (by kernel_rfl) (by kernel_rfl) (by kernel_rfl) (by kernel_rfl) (⟨(hs.drew.pull 1).cellsOf, (hr _ _ (hs.drew.pull 2)).all (fun a => a.cells_len) hy⟩) ?_
    replace hs := hs.drew
    refine x_move (.slice _ _ _) rfl ?_
    refine x_move (.int _ _) rfl ?_
    refine x_indexAddr Try.underlying22 sz_34 _ _ _ _ _ rfl rfl (by omega) ?_
    refine h_loadN [_, _] agg_34 _ rfl (fun w hS => by first | exact hS | exact hS.1 | exact hS.2 | exact hS.2.1 | exact hS.2.2 | exact hS.2.2.1 | exact hS.2.2.2 | exact hS.2.2.2.1 | exact hS.2.2.2.2 | exact hS.cellsOf | exact (hS.pull 1).cellsOf | exact (hS.pull 2).cellsOf | exact (hS.pull 3).cellsOf | exact (hS.pull 4).cellsOf | exact (hS.pull 5).cellsOf | exact (hS.pull 6).cellsOf | exact hS.cells2 rfl rfl | exact (hS.pull 1).cells2 rfl rfl | exact (hS.pull 2).cells2 rfl rfl | exact (hS.pull 3).cells2 rfl rfl | exact (hS.pull 4).cells2 rfl rfl | exact (hS.pull 5).cells2 rfl rfl | exact (hS.pull 6).cells2 rfl rfl) ?_
    refine h_loadN [_, _] agg_34 _ rfl (fun w hS => by first | exact hS | exact hS.1 | exact hS.2 | exact hS.2.1 | exact hS.2.2 | exact hS.2.2.1 | exact hS.2.2.2 | exact hS.2.2.2.1 | exact hS.2.2.2.2 | exact hS.cellsOf | exact (hS.pull 1).cellsOf | exact (hS.pull 2).cellsOf | exact (hS.pull 3).cellsOf | exact (hS.pull 4).cellsOf | exact (hS.pull 5).cellsOf | exact (hS.pull 6).cellsOf | exact hS.cells2 rfl rfl | exact (hS.pull 1).cells2 rfl rfl | exact (hS.pull 2).cells2 rfl rfl | exact (hS.pull 3).cells2 rfl rfl | exact (hS.pull 4).cells2 rfl rfl | exact (hS.pull 5).cells2 rfl rfl | exact (hS.pull 6).cells2 rfl rfl) ?_
    refine x_neqE eq_pid y p rfl rfl ?_
    refine x_nil ?_
    refine then_n ?_
    refine c_cond rfl (fun hb => ?_) (fun hb => ?_)   -- cond t18
    · skip
      -- region 6
      have hcells := (hr _ _ (hs.pull 2)).all (fun a => a.cells_len) hy
      refine c_region ?_
      refine x_move (.slice _ _ _) rfl ?_
      refine x_move (.slice _ _ _) rfl ?_
      refine x_move (.int _ _) rfl ?_
      refine x_indexAddr Try.underlying22 sz_34 _ _ _ _ _ rfl rfl (by omega) ?_
      refine x_loadN [.int .u16 (y.Id : Nat), .int .u32 (y.Inc : Nat)] agg_34 _ rfl hcells ?_
      refine x_buildSlice _ [(0, (.agg #[(.int .u16 _), (.int .u32 _)]))] hs rfl (fun w => bs_22_1 _ _ w) ?_; clear hs; intro b24 w hs; refine ⟨fun h => (by first | (cases h; done) | (first | exact hs.cells2 rfl rfl | exact (hs.pull 1).cells2 rfl rfl | exact (hs.pull 2).cells2 rfl rfl | exact (hs.pull 3).cells2 rfl rfl | exact (hs.pull 4).cells2 rfl rfl | exact (hs.pull 5).cells2 rfl rfl | exact (hs.pull 6).cells2 rfl rfl | exact (hs.pull 7).cells2 rfl rfl | exact (hs.pull 8).cells2 rfl rfl | exact hs.cell rfl | exact (hs.pull 1).cell rfl | exact (hs.pull 2).cell rfl | exact (hs.pull 3).cell rfl | exact (hs.pull 4).cell rfl | exact (hs.pull 5).cell rfl | exact (hs.pull 6).cell rfl | exact (hs.pull 7).cell rfl | exact (hs.pull 8).cell rfl | assumption | exact hs.cellsOf | exact (hs.pull 1).cellsOf | exact (hs.pull 2).cellsOf | exact (hs.pull 3).cellsOf | exact (hs.pull 4).cellsOf | exact (hs.pull 5).cellsOf | exact (hs.pull 6).cellsOf | exact (hs.pull 7).cellsOf | exact (hs.pull 8).cellsOf) | (and_intros <;> first | exact hs.cells2 rfl rfl | exact (hs.pull 1).cells2 rfl rfl | exact (hs.pull 2).cells2 rfl rfl | exact (hs.pull 3).cells2 rfl rfl | exact (hs.pull 4).cells2 rfl rfl | exact (hs.pull 5).cells2 rfl rfl | exact (hs.pull 6).cells2 rfl rfl | exact (hs.pull 7).cells2 rfl rfl | exact (hs.pull 8).cells2 rfl rfl | exact hs.cell rfl | exact (hs.pull 1).cell rfl | exact (hs.pull 2).cell rfl | exact (hs.pull 3).cell rfl | exact (hs.pull 4).cell rfl | exact (hs.pull 5).cell rfl | exact (hs.pull 6).cell rfl | exact (hs.pull 7).cell rfl | exact (hs.pull 8).cell rfl | assumption | exact hs.cellsOf | exact (hs.pull 1).cellsOf | exact (hs.pull 2).cellsOf | exact (hs.pull 3).cellsOf | exact (hs.pull 4).cellsOf | exact (hs.pull 5).cellsOf | exact (hs.pull 6).cellsOf | exact (hs.pull 7).cellsOf | exact (hs.pull 8).cellsOf)), ?_⟩
      have hrd := rd_blk (size := 2) hs rfl
      refine x_append (hs.pull 1) Try.underlying22 ei_34 hrd (by intro u hu; simp at hu; rcases hu with rfl | rfl <;> rfl) (by unfold maxLen; omega) (by omega) rfl rfl ?_
      clear hs hrd hcells; intro v w hs; refine ⟨fun h => (by cases h), ?_⟩
      obtain ⟨a7, c7, rfl⟩ := hs.rd.val
      have hon' : wo (l.take (i + 1)) p = wo (l.take i) p ++ [y] := by rw [hon, if_neg (by simpa using hb)]
      have hln : (wo (l.take i) p).length + 1 = (wo (l.take (i + 1)) p).length := by rw [hon']; simp
      rw [show pcells (wo (l.take i) p) ++ #[Value.int .u16 (y.Id : Nat), .int .u32 (y.Inc : Nat)].toList = pcells (wo (l.take (i + 1)) p) from by rw [hon', pcells_snoc], hln] at hs
      rw [hln]
      refine x_assign (.slice _ _ _) rfl ?_
      refine x_nil ?_
      refine inb_n ?_
      refine then_n ?_
      -- region 4
      refine c_region ?_
      refine x_move (.int _ _) rfl ?_
      refine x_add _ _ rfl rfl (by simp only [X.lo]; omega) (by simp only [X.hi]; omega) ?_
      refine x_assign (.int _ _) rfl ?_
      refine x_nil ?_
      refine then_n ?_
      refine ⟨(i + 1, a7, c7), ⟨rfl, rfl, rfl, rfl, trivial⟩, ⟨by omega, (hs.pull 1).tail⟩, by first | omega | (dsimp only; omega)⟩
    · skip
      refine c_skip ?_
      refine inb_n ?_
      refine then_n ?_
      -- region 4
      refine c_region ?_
      refine x_move (.int _ _) rfl ?_
      refine x_add _ _ rfl rfl (by simp only [X.lo]; omega) (by simp only [X.hi]; omega) ?_
      refine x_assign (.int _ _) rfl ?_
      refine x_nil ?_
      refine then_n ?_
      have hon' : wo (l.take (i + 1)) p = wo (l.take i) p := by rw [hon, if_pos (by simpa using hb)]
      have hs' := hs
      rw [← hon'] at hs'
      rw [← hon']
      refine ⟨(i + 1, ao, c'), ⟨rfl, rfl, rfl, rfl, trivial⟩, ⟨by omega, hs'⟩, by first | omega | (dsimp only; omega)⟩
  · skip
    refine c_exit ?_
    refine then_x ?_
    refine then_x ?_
    refine inb_e ?_
    refine then_n ?_
    refine c_seq ?_
    -- region 7
    refine c_region ?_
    refine x_move (.slice _ _ _) rfl ?_
    refine x_assign (.slice _ _ _) rfl ?_
    refine x_nil ?_
    refine then_n ?_
    refine c_ret ?_
    refine ⟨.inr rfl, ?_⟩
    rw [List.take_of_length_le (by omega)] at hs
    rw [List.take_of_length_le (by omega)]
    exact ⟨_, rfl, (hs.pull 1).tail⟩
end Go.Proofs.Ythhojdbklnoooaa.X
