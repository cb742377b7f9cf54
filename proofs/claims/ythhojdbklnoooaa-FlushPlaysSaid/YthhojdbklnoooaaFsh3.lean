/-
  LAYER 24: the flush: Skip; who is none; the document's example; the law FlushNil.
-/
import Derived.Test.YthhojdbklnoooaaFsh2
namespace Go.Proofs.Ythhojdbklnoooaa.X
open Go Go.RowKit
set_option linter.unusedVariables false
set_option maxRecDepth 20000
def FSt.sk (s : FSt) (p : Pid) : FSt := { s.un p with told := mdel p s.told }
def FSt.hit (s : FSt) (p : Pid) : Bool := decide (p ∈ s.ask) || (mget p s.told).isSome
def FSt.skip (s : FSt) (l : List Pid) : Nat × FSt := l.foldl (fun x p => (x.1 + (if x.2.hit p then 1 else 0), x.2.sk p)) (0, s)
theorem FSt.skip_snoc (s : FSt) (l : List Pid) (p : Pid) : s.skip (l ++ [p]) = ((s.skip l).1 + (if (s.skip l).2.hit p then 1 else 0), (s.skip l).2.sk p) := by
  unfold FSt.skip
  rw [List.foldl_append]
  rfl
theorem FSt.un_no {s : FSt} {p : Pid} (h : p ∉ s.ask) : s.un p = s := by
  cases s
  unfold FSt.un
  dsimp only at *
  rw [List.eraseIdx_of_length_le (by rw [List.idxOf_eq_length h]; exact Nat.le_refl _)]
theorem FSt.un_len (s : FSt) (p : Pid) : (s.un p).ask.length ≤ s.ask.length := by
  unfold FSt.un
  dsimp only
  rw [List.length_eraseIdx]
  split <;> omega
set_option maxHeartbeats 2000000 in
theorem skip_calls {w0 w : World} {A : HP} {L : List HP} {f : Nat} {s : FSt} {v : Value} {l : List Pid} (hs : Sat w0 w (FO f s :: A :: L)) (hr : ∀ w' L', Sat w0 w' (A :: L') → RS w' 2 Pid.cells v l) (hlen : l.length ≤ 1000000) (hask : s.ask.length ≤ 1000000) :
    Calls Try.prog 12 #[.pointer (some ⟨f, 0, none⟩), v] w fun e w' => e = .returned (.int .i64 ((s.skip l).1 : Nat)) ∧ Sat w0 w' (FO f (s.skip l).2 :: A :: L) := by
  obtain ⟨a, c, rfl⟩ := (hr _ _ (hs.pull 1)).val
  refine enter Try.func12 rfl Try.ntmps12 4 rfl (Nat.le_of_ble_eq_true rfl) ?_
  refine c_seq ?_
  -- region 0
  refine c_region ?_
  refine x_assign (.int _ _) rfl ?_
  refine x_nil ?_
  refine then_n ?_
  refine c_seq ?_
  refine c_seq ?_
  -- region 1
  refine c_region ?_
  refine x_move (.pointer _) rfl ?_
  refine x_eqlNil Try.underlying25 _ rfl rfl ?_
  refine x_nil ?_
  refine then_n ?_
  refine c_false rfl ?_
  refine c_skip ?_
  refine then_n ?_
  refine c_seq ?_
  -- region 3
  refine c_region ?_
  refine x_assign (.int _ _) rfl ?_
  refine x_nil ?_
  refine then_n ?_
  refine c_seq ?_
  refine c_seq ?_
  -- region 4
  refine c_region ?_
  refine x_move (.slice _ _ _) rfl ?_
  refine x_lenSl Try.underlying22 _ _ _ rfl ?_
  refine x_move (.int _ _) rfl ?_
  refine x_nil ?_
  refine then_n ?_
  refine c_block ?_
  refine c_loop (γ := Nat × Nat × FSt) (fun (⟨i, n, s'⟩ : Nat × Nat × FSt) => [(0, .pointer (some ⟨f, 0, none⟩)), (5, .int .i64 (n : Nat)), (12, .slice a l.length c), (13, .int .i64 (l.length : Nat)), (14, .int .i64 (i : Nat))]) (fun (⟨i, n, s'⟩ : Nat × Nat × FSt) w => i ≤ l.length ∧ s.skip (l.take i) = (n, s') ∧ n ≤ i ∧ s'.ask.length ≤ 1000000 ∧ Sat w0 w (FO f s' :: A :: L)) (fun (⟨i, n, s'⟩ : Nat × Nat × FSt) => l.length - i) (0, 0, s) ⟨rfl, rfl, rfl, rfl, rfl, trivial⟩ ⟨Nat.zero_le _, rfl, Nat.le_refl _, hask, hs⟩ ?_
  clear hs
  rintro ⟨i, n, s'⟩ ρ w ⟨hi, hsk, hni, hal, hs⟩
  change CW Try.prog 42 _ _ (sets 42 [(0, .pointer (some ⟨f, 0, none⟩)), (5, .int .i64 (n : Nat)), (12, .slice a l.length c), (13, .int .i64 (l.length : Nat)), (14, .int .i64 (i : Nat))] ρ) w
  refine c_seq ?_
  -- region 5
  refine c_region ?_
  refine x_lss _ _ rfl rfl ?_
  refine x_nil ?_
  refine then_n ?_
  refine c_seq ?_
  refine c_test _ rfl (fun hb => ?_) (fun hb => ?_)   -- cond t15
  · skip
    refine c_skip ?_
    refine then_n ?_
    refine c_seq ?_
    refine c_block ?_
    refine c_seq ?_
    -- region 6
    obtain ⟨y, hy⟩ : ∃ y, l[i]? = some y := ⟨l[i]'(by omega), List.getElem?_eq_getElem _⟩
    have hR := hr _ _ (hs.pull 1)
    obtain ⟨g, o, rfl⟩ := hR.addr (by omega)
    have hcells := hR.all (fun a => a.cells_len) hy
    have hsn := s.skip_snoc (l.take i) y
    rw [show l.take i ++ [y] = l.take (i + 1) from by rw [List.take_add_one, hy]; rfl, hsk] at hsn
    dsimp only at hsn
    have hun := s'.un_len y
    have hsome : (mget y (fm s'.told)).isSome = (mget y s'.told).isSome := by
      rw [show mget y (fm s'.told) = (mget y s'.told).map fun n : Nat => Value.int .u64 (n : Nat) from mget_map (fun n : Nat => Value.int .u64 (n : Nat)) y s'.told]
      cases mget y s'.told <;> rfl
    obtain ⟨m0, hm0⟩ : ∃ m0 : Nat, (mget y (fm s'.told)).getD (.int .u64 0) = .int .u64 (m0 : Nat) := by
      rw [show mget y (fm s'.told) = (mget y s'.told).map fun n : Nat => Value.int .u64 (n : Nat) from mget_map (fun n : Nat => Value.int .u64 (n : Nat)) y s'.told]
      cases mget y s'.told
      · exact ⟨0, rfl⟩
      · exact ⟨_, rfl⟩
    refine c_region ?_
    refine x_indexAddr Try.underlying22 sz_34 _ _ _ _ _ rfl rfl (by omega) ?_
    refine x_loadN [.int .u16 (y.Id : Nat), .int .u32 (y.Inc : Nat)] agg_34 _ rfl hcells ?_
    refine x_alloc zi_34 hs ?_; clear hs; intro b7 w hs; refine ⟨fun h => (by first | (cases h; done) | (first | exact hs.cells2 rfl rfl | exact (hs.pull 1).cells2 rfl rfl | exact (hs.pull 2).cells2 rfl rfl | exact (hs.pull 3).cells2 rfl rfl | exact (hs.pull 4).cells2 rfl rfl | exact (hs.pull 5).cells2 rfl rfl | exact (hs.pull 6).cells2 rfl rfl | exact (hs.pull 7).cells2 rfl rfl | exact (hs.pull 8).cells2 rfl rfl | exact hs.cell rfl | exact (hs.pull 1).cell rfl | exact (hs.pull 2).cell rfl | exact (hs.pull 3).cell rfl | exact (hs.pull 4).cell rfl | exact (hs.pull 5).cell rfl | exact (hs.pull 6).cell rfl | exact (hs.pull 7).cell rfl | exact (hs.pull 8).cell rfl | assumption | exact hs.cellsOf | exact (hs.pull 1).cellsOf | exact (hs.pull 2).cellsOf | exact (hs.pull 3).cellsOf | exact (hs.pull 4).cellsOf | exact (hs.pull 5).cellsOf | exact (hs.pull 6).cellsOf | exact (hs.pull 7).cellsOf | exact (hs.pull 8).cellsOf) | (and_intros <;> first | exact hs.cells2 rfl rfl | exact (hs.pull 1).cells2 rfl rfl | exact (hs.pull 2).cells2 rfl rfl | exact (hs.pull 3).cells2 rfl rfl | exact (hs.pull 4).cells2 rfl rfl | exact (hs.pull 5).cells2 rfl rfl | exact (hs.pull 6).cells2 rfl rfl | exact (hs.pull 7).cells2 rfl rfl | exact (hs.pull 8).cells2 rfl rfl | exact hs.cell rfl | exact (hs.pull 1).cell rfl | exact (hs.pull 2).cell rfl | exact (hs.pull 3).cell rfl | exact (hs.pull 4).cell rfl | exact (hs.pull 5).cell rfl | exact (hs.pull 6).cell rfl | exact (hs.pull 7).cell rfl | exact (hs.pull 8).cell rfl | assumption | exact hs.cellsOf | exact (hs.pull 1).cellsOf | exact (hs.pull 2).cellsOf | exact (hs.pull 3).cellsOf | exact (hs.pull 4).cellsOf | exact (hs.pull 5).cellsOf | exact (hs.pull 6).cellsOf | exact (hs.pull 7).cellsOf | exact (hs.pull 8).cellsOf)), ?_⟩
    first
      | refine x_storeAllI hs 0 rfl rfl agg_34 [_, _] rfl rfl rfl rfl ?_
      | refine x_storeAllI hs 1 rfl rfl agg_34 [_, _] rfl rfl rfl rfl ?_
      | refine x_storeAllI hs 2 rfl rfl agg_34 [_, _] rfl rfl rfl rfl ?_
      | refine x_storeAllI hs 3 rfl rfl agg_34 [_, _] rfl rfl rfl rfl ?_
      | refine x_storeAllI hs 4 rfl rfl agg_34 [_, _] rfl rfl rfl rfl ?_
      | refine x_storeAllI hs 5 rfl rfl agg_34 [_, _] rfl rfl rfl rfl ?_
      | refine x_storeAllI hs 6 rfl rfl agg_34 [_, _] rfl rfl rfl rfl ?_
      | refine x_storeAllI hs 7 rfl rfl agg_34 [_, _] rfl rfl rfl rfl ?_
    clear hs; intro w hs
    try dsimp only [back, List.set_cons_zero, List.set_cons_succ] at hs
    refine ⟨fun h => (by first | (cases h; done) | (first | exact hs.cells2 rfl rfl | exact (hs.pull 1).cells2 rfl rfl | exact (hs.pull 2).cells2 rfl rfl | exact (hs.pull 3).cells2 rfl rfl | exact (hs.pull 4).cells2 rfl rfl | exact (hs.pull 5).cells2 rfl rfl | exact (hs.pull 6).cells2 rfl rfl | exact (hs.pull 7).cells2 rfl rfl | exact (hs.pull 8).cells2 rfl rfl | exact hs.cell rfl | exact (hs.pull 1).cell rfl | exact (hs.pull 2).cell rfl | exact (hs.pull 3).cell rfl | exact (hs.pull 4).cell rfl | exact (hs.pull 5).cell rfl | exact (hs.pull 6).cell rfl | exact (hs.pull 7).cell rfl | exact (hs.pull 8).cell rfl | assumption | exact hs.cellsOf | exact (hs.pull 1).cellsOf | exact (hs.pull 2).cellsOf | exact (hs.pull 3).cellsOf | exact (hs.pull 4).cellsOf | exact (hs.pull 5).cellsOf | exact (hs.pull 6).cellsOf | exact (hs.pull 7).cellsOf | exact (hs.pull 8).cellsOf) | (and_intros <;> first | exact hs.cells2 rfl rfl | exact (hs.pull 1).cells2 rfl rfl | exact (hs.pull 2).cells2 rfl rfl | exact (hs.pull 3).cells2 rfl rfl | exact (hs.pull 4).cells2 rfl rfl | exact (hs.pull 5).cells2 rfl rfl | exact (hs.pull 6).cells2 rfl rfl | exact (hs.pull 7).cells2 rfl rfl | exact (hs.pull 8).cells2 rfl rfl | exact hs.cell rfl | exact (hs.pull 1).cell rfl | exact (hs.pull 2).cell rfl | exact (hs.pull 3).cell rfl | exact (hs.pull 4).cell rfl | exact (hs.pull 5).cell rfl | exact (hs.pull 6).cell rfl | exact (hs.pull 7).cell rfl | exact (hs.pull 8).cell rfl | assumption | exact hs.cellsOf | exact (hs.pull 1).cellsOf | exact (hs.pull 2).cellsOf | exact (hs.pull 3).cellsOf | exact (hs.pull 4).cellsOf | exact (hs.pull 5).cellsOf | exact (hs.pull 6).cellsOf | exact (hs.pull 7).cellsOf | exact (hs.pull 8).cellsOf)), ?_⟩
    refine x_nil ?_
    refine then_n ?_
    refine c_seq ?_
    -- region 7 DRAWS
    clear hR hcells
    obtain ⟨ao, c', M, hs⟩ := (hs.pull 1).fo
    refine c_draw (fun w => SameL hs w) (fun i => !(false)) [(0, 2), (1, 2), (2, 2), (3, 1), (4, 1), (5, 1), (6, 2), (7, 2), (8, 2), (9, 2), (10, 2)] (by kernel_rfl) (by kernel_rfl) (by kernel_rfl) (by kernel_rfl) (hs.drew) ?_
    replace hs := hs.drew
    refine x_move (.pointer _) rfl ?_
    refine x_nilCheck _ rfl ?_
    first | refine x_field0 fa_56_2 _ rfl ?_ | refine x_field fa_56_2 _ _ rfl ?_
    refine h_load one_29 _ (.map _) rfl (fun w hS => by first | exact hS.cell rfl | exact (hS.pull 1).cell rfl | exact (hS.pull 2).cell rfl | exact (hS.pull 3).cell rfl | exact (hS.pull 4).cell rfl | exact (hS.pull 5).cell rfl | exact (hS.pull 6).cell rfl | exact hS | exact hS.1 | exact hS.2 | exact hS.2.1 | exact hS.2.2 | exact hS.2.2.1 | exact hS.2.2.2 | exact hS.2.2.2.1 | exact hS.2.2.2.2) ?_
    refine h_loadN [_, _] agg_34 _ rfl (fun w hS => by first | exact hS | exact hS.1 | exact hS.2 | exact hS.2.1 | exact hS.2.2 | exact hS.2.2.1 | exact hS.2.2.2 | exact hS.2.2.2.1 | exact hS.2.2.2.2 | exact hS.cellsOf | exact (hS.pull 1).cellsOf | exact (hS.pull 2).cellsOf | exact (hS.pull 3).cellsOf | exact (hS.pull 4).cellsOf | exact (hS.pull 5).cellsOf | exact (hS.pull 6).cellsOf | exact hS.cells2 rfl rfl | exact (hS.pull 1).cells2 rfl rfl | exact (hS.pull 2).cells2 rfl rfl | exact (hS.pull 3).cells2 rfl rfl | exact (hS.pull 4).cells2 rfl rfl | exact (hS.pull 5).cells2 rfl rfl | exact (hS.pull 6).cells2 rfl rfl) ?_
    first | refine h_lookup2 mt_told ko_pid y (fun w hS => ⟨_, _, hS.pull 2⟩) rfl rfl ?_ | refine x_lookup2 mt_told ko_pid (hs.pull 2) y rfl rfl ?_
    rw [hsome, hm0]
    refine x_move (.tuple _) rfl ?_
    refine x_extract _ (.int _ _) rfl rfl ?_
    refine x_extract _ (.bool _) rfl rfl ?_
    refine x_assign (.int _ _) rfl ?_
    refine x_assign (.bool _) rfl ?_
    refine x_nil ?_
    refine then_n ?_
    refine c_seq ?_
    -- region 8 DRAWS
    refine c_draw (fun w => w.cell? ⟨f, 2, none⟩ = some (.map (some M)) ∧ (∀ (j : Nat) (u : Value), [Value.int .u16 (y.Id : Nat), Value.int .u32 (y.Inc : Nat)][j]? = some u → w.cell? ((⟨b7, 0, none⟩ : Addr).add j) = some u)) (fun i => !(Nat.beq i 5)) [(0, 2), (1, 2), (2, 2), (3, 1), (4, 1), (5, 0)] (by kernel_rfl) (by kernel_rfl) (by kernel_rfl) (by kernel_rfl) ((by first | (first | exact hs.cells2 rfl rfl | exact (hs.pull 1).cells2 rfl rfl | exact (hs.pull 2).cells2 rfl rfl | exact (hs.pull 3).cells2 rfl rfl | exact (hs.pull 4).cells2 rfl rfl | exact (hs.pull 5).cells2 rfl rfl | exact (hs.pull 6).cells2 rfl rfl | exact (hs.pull 7).cells2 rfl rfl | exact (hs.pull 8).cells2 rfl rfl | exact hs.cell rfl | exact (hs.pull 1).cell rfl | exact (hs.pull 2).cell rfl | exact (hs.pull 3).cell rfl | exact (hs.pull 4).cell rfl | exact (hs.pull 5).cell rfl | exact (hs.pull 6).cell rfl | exact (hs.pull 7).cell rfl | exact (hs.pull 8).cell rfl | assumption | exact hs.cellsOf | exact (hs.pull 1).cellsOf | exact (hs.pull 2).cellsOf | exact (hs.pull 3).cellsOf | exact (hs.pull 4).cellsOf | exact (hs.pull 5).cellsOf | exact (hs.pull 6).cellsOf | exact (hs.pull 7).cellsOf | exact (hs.pull 8).cellsOf) | (and_intros <;> first | exact hs.cells2 rfl rfl | exact (hs.pull 1).cells2 rfl rfl | exact (hs.pull 2).cells2 rfl rfl | exact (hs.pull 3).cells2 rfl rfl | exact (hs.pull 4).cells2 rfl rfl | exact (hs.pull 5).cells2 rfl rfl | exact (hs.pull 6).cells2 rfl rfl | exact (hs.pull 7).cells2 rfl rfl | exact (hs.pull 8).cells2 rfl rfl | exact hs.cell rfl | exact (hs.pull 1).cell rfl | exact (hs.pull 2).cell rfl | exact (hs.pull 3).cell rfl | exact (hs.pull 4).cell rfl | exact (hs.pull 5).cell rfl | exact (hs.pull 6).cell rfl | exact (hs.pull 7).cell rfl | exact (hs.pull 8).cell rfl | assumption | exact hs.cellsOf | exact (hs.pull 1).cellsOf | exact (hs.pull 2).cellsOf | exact (hs.pull 3).cellsOf | exact (hs.pull 4).cellsOf | exact (hs.pull 5).cellsOf | exact (hs.pull 6).cellsOf | exact (hs.pull 7).cellsOf | exact (hs.pull 8).cellsOf))) ?_
    replace hs := hs.drew
    refine x_move (.pointer _) rfl ?_
    refine x_nilCheck _ rfl ?_
    first | refine x_field0 fa_56_2 _ rfl ?_ | refine x_field fa_56_2 _ _ rfl ?_
    refine h_load one_29 _ (.map _) rfl (fun w hS => by first | exact hS.cell rfl | exact (hS.pull 1).cell rfl | exact (hS.pull 2).cell rfl | exact (hS.pull 3).cell rfl | exact (hS.pull 4).cell rfl | exact (hS.pull 5).cell rfl | exact (hS.pull 6).cell rfl | exact hS | exact hS.1 | exact hS.2 | exact hS.2.1 | exact hS.2.2 | exact hS.2.2.1 | exact hS.2.2.2 | exact hS.2.2.2.1 | exact hS.2.2.2.2) ?_
    refine h_loadN [_, _] agg_34 _ rfl (fun w hS => by first | exact hS | exact hS.1 | exact hS.2 | exact hS.2.1 | exact hS.2.2 | exact hS.2.2.1 | exact hS.2.2.2 | exact hS.2.2.2.1 | exact hS.2.2.2.2 | exact hS.cellsOf | exact (hS.pull 1).cellsOf | exact (hS.pull 2).cellsOf | exact (hS.pull 3).cellsOf | exact (hS.pull 4).cellsOf | exact (hS.pull 5).cellsOf | exact (hS.pull 6).cellsOf | exact hS.cells2 rfl rfl | exact (hS.pull 1).cells2 rfl rfl | exact (hS.pull 2).cells2 rfl rfl | exact (hS.pull 3).cells2 rfl rfl | exact (hS.pull 4).cells2 rfl rfl | exact (hS.pull 5).cells2 rfl rfl | exact (hS.pull 6).cells2 rfl rfl) ?_
    refine x_delete mt_told ko_pid (hs.pull 2) y rfl rfl ?_
    clear hs; intro w hs; refine ⟨fun h => (by cases h), ?_⟩
    have hdel : mdel y (fm s'.told) = fm (mdel y s'.told) := mdel_map (fun n : Nat => Value.int .u64 (n : Nat)) y s'.told
    rw [hdel] at hs
    replace hs := Sat.fo' (s := { s' with told := mdel y s'.told }) (hs.perm [1, 2, 0, 3])
    refine x_nil ?_
    refine then_n ?_
    by_cases hya : y ∈ s'.ask
    · skip
      refine c_seq ?_
      -- region 9
      refine c_region ?_
      refine x_move (.pointer _) rfl ?_
      refine x_loadN [_, _] agg_34 _ rfl (by first | assumption | exact hs.cellsOf | exact (hs.pull 1).cellsOf | exact (hs.pull 2).cellsOf | exact (hs.pull 3).cellsOf | exact (hs.pull 4).cellsOf | exact (hs.pull 5).cellsOf | exact (hs.pull 6).cellsOf | exact (hs.pull 7).cellsOf | exact (hs.pull 8).cellsOf | exact hs.cells2 rfl rfl | exact (hs.pull 1).cells2 rfl rfl | exact (hs.pull 2).cells2 rfl rfl | exact (hs.pull 3).cells2 rfl rfl | exact (hs.pull 4).cells2 rfl rfl | exact (hs.pull 5).cells2 rfl rfl | exact (hs.pull 6).cells2 rfl rfl | exact (hs.pull 7).cells2 rfl rfl | exact (hs.pull 8).cells2 rfl rfl) ?_
      refine x_call Try.f24 Try.func24 rfl rfl _ rfl ?_
      refine (unask_yes (s := { s' with told := mdel y s'.told }) y hs hal hya).mono ?_
      clear hs; rintro e w ⟨rfl, hs⟩
      refine ⟨_, rfl, fun h => (by first | (cases h; done) | (first | exact hs.cells2 rfl rfl | exact (hs.pull 1).cells2 rfl rfl | exact (hs.pull 2).cells2 rfl rfl | exact (hs.pull 3).cells2 rfl rfl | exact (hs.pull 4).cells2 rfl rfl | exact (hs.pull 5).cells2 rfl rfl | exact (hs.pull 6).cells2 rfl rfl | exact (hs.pull 7).cells2 rfl rfl | exact (hs.pull 8).cells2 rfl rfl | exact hs.cell rfl | exact (hs.pull 1).cell rfl | exact (hs.pull 2).cell rfl | exact (hs.pull 3).cell rfl | exact (hs.pull 4).cell rfl | exact (hs.pull 5).cell rfl | exact (hs.pull 6).cell rfl | exact (hs.pull 7).cell rfl | exact (hs.pull 8).cell rfl | assumption | exact hs.cellsOf | exact (hs.pull 1).cellsOf | exact (hs.pull 2).cellsOf | exact (hs.pull 3).cellsOf | exact (hs.pull 4).cellsOf | exact (hs.pull 5).cellsOf | exact (hs.pull 6).cellsOf | exact (hs.pull 7).cellsOf | exact (hs.pull 8).cellsOf) | (and_intros <;> first | exact hs.cells2 rfl rfl | exact (hs.pull 1).cells2 rfl rfl | exact (hs.pull 2).cells2 rfl rfl | exact (hs.pull 3).cells2 rfl rfl | exact (hs.pull 4).cells2 rfl rfl | exact (hs.pull 5).cells2 rfl rfl | exact (hs.pull 6).cells2 rfl rfl | exact (hs.pull 7).cells2 rfl rfl | exact (hs.pull 8).cells2 rfl rfl | exact hs.cell rfl | exact (hs.pull 1).cell rfl | exact (hs.pull 2).cell rfl | exact (hs.pull 3).cell rfl | exact (hs.pull 4).cell rfl | exact (hs.pull 5).cell rfl | exact (hs.pull 6).cell rfl | exact (hs.pull 7).cell rfl | exact (hs.pull 8).cell rfl | assumption | exact hs.cellsOf | exact (hs.pull 1).cellsOf | exact (hs.pull 2).cellsOf | exact (hs.pull 3).cellsOf | exact (hs.pull 4).cellsOf | exact (hs.pull 5).cellsOf | exact (hs.pull 6).cellsOf | exact (hs.pull 7).cellsOf | exact (hs.pull 8).cellsOf)), ?_⟩
      have hhit : s'.hit y = true := by unfold FSt.hit; rw [decide_eq_true hya]; rfl
      refine x_move (.bool _) rfl ?_
      refine x_skip rfl rfl ?_
      refine x_pickT (.bool _) rfl rfl ?_
      refine x_nil ?_
      refine then_n ?_
      refine c_true rfl ?_
      -- region 10
      refine c_region ?_
      refine x_move (.int _ _) rfl ?_
      refine x_add _ _ rfl rfl (by simp only [X.lo]; omega) (by simp only [X.hi]; omega) ?_
      refine x_assign (.int _ _) rfl ?_
      refine x_nil ?_
      refine inb_n ?_
      refine then_n ?_
      -- region 11
      refine c_region ?_
      refine x_add _ _ rfl rfl (by simp only [X.lo]; omega) (by simp only [X.hi]; omega) ?_
      refine x_move (.int _ _) rfl ?_
      refine x_nil ?_
      refine then_n ?_
      refine ⟨(i + 1, n + 1, s'.sk y), ⟨rfl, rfl, rfl, rfl, rfl, trivial⟩, ⟨by omega, by rw [hsn, hhit]; rfl, by omega, Nat.le_trans hun hal, (hs.pull 1).tail⟩, by first | omega | (dsimp only; omega)⟩
    · skip
      refine c_seq ?_
      -- region 9
      refine c_region ?_
      refine x_move (.pointer _) rfl ?_
      refine x_loadN [_, _] agg_34 _ rfl (by first | assumption | exact hs.cellsOf | exact (hs.pull 1).cellsOf | exact (hs.pull 2).cellsOf | exact (hs.pull 3).cellsOf | exact (hs.pull 4).cellsOf | exact (hs.pull 5).cellsOf | exact (hs.pull 6).cellsOf | exact (hs.pull 7).cellsOf | exact (hs.pull 8).cellsOf | exact hs.cells2 rfl rfl | exact (hs.pull 1).cells2 rfl rfl | exact (hs.pull 2).cells2 rfl rfl | exact (hs.pull 3).cells2 rfl rfl | exact (hs.pull 4).cells2 rfl rfl | exact (hs.pull 5).cells2 rfl rfl | exact (hs.pull 6).cells2 rfl rfl | exact (hs.pull 7).cells2 rfl rfl | exact (hs.pull 8).cells2 rfl rfl) ?_
      refine x_call Try.f24 Try.func24 rfl rfl _ rfl ?_
      refine (unask_no (s := { s' with told := mdel y s'.told }) y hs hal hya).mono ?_
      clear hs; rintro e w ⟨rfl, hs⟩
      refine ⟨_, rfl, fun h => (by first | (cases h; done) | (first | exact hs.cells2 rfl rfl | exact (hs.pull 1).cells2 rfl rfl | exact (hs.pull 2).cells2 rfl rfl | exact (hs.pull 3).cells2 rfl rfl | exact (hs.pull 4).cells2 rfl rfl | exact (hs.pull 5).cells2 rfl rfl | exact (hs.pull 6).cells2 rfl rfl | exact (hs.pull 7).cells2 rfl rfl | exact (hs.pull 8).cells2 rfl rfl | exact hs.cell rfl | exact (hs.pull 1).cell rfl | exact (hs.pull 2).cell rfl | exact (hs.pull 3).cell rfl | exact (hs.pull 4).cell rfl | exact (hs.pull 5).cell rfl | exact (hs.pull 6).cell rfl | exact (hs.pull 7).cell rfl | exact (hs.pull 8).cell rfl | assumption | exact hs.cellsOf | exact (hs.pull 1).cellsOf | exact (hs.pull 2).cellsOf | exact (hs.pull 3).cellsOf | exact (hs.pull 4).cellsOf | exact (hs.pull 5).cellsOf | exact (hs.pull 6).cellsOf | exact (hs.pull 7).cellsOf | exact (hs.pull 8).cellsOf) | (and_intros <;> first | exact hs.cells2 rfl rfl | exact (hs.pull 1).cells2 rfl rfl | exact (hs.pull 2).cells2 rfl rfl | exact (hs.pull 3).cells2 rfl rfl | exact (hs.pull 4).cells2 rfl rfl | exact (hs.pull 5).cells2 rfl rfl | exact (hs.pull 6).cells2 rfl rfl | exact (hs.pull 7).cells2 rfl rfl | exact (hs.pull 8).cells2 rfl rfl | exact hs.cell rfl | exact (hs.pull 1).cell rfl | exact (hs.pull 2).cell rfl | exact (hs.pull 3).cell rfl | exact (hs.pull 4).cell rfl | exact (hs.pull 5).cell rfl | exact (hs.pull 6).cell rfl | exact (hs.pull 7).cell rfl | exact (hs.pull 8).cell rfl | assumption | exact hs.cellsOf | exact (hs.pull 1).cellsOf | exact (hs.pull 2).cellsOf | exact (hs.pull 3).cellsOf | exact (hs.pull 4).cellsOf | exact (hs.pull 5).cellsOf | exact (hs.pull 6).cellsOf | exact (hs.pull 7).cellsOf | exact (hs.pull 8).cellsOf)), ?_⟩
      have hskn : s'.sk y = { s' with told := mdel y s'.told } := by unfold FSt.sk; rw [FSt.un_no hya]
      have hhit : s'.hit y = (mget y s'.told).isSome := by unfold FSt.hit; rw [decide_eq_false hya]; rfl
      refine x_move (.bool _) rfl ?_
      refine x_want' rfl ?_
      refine x_move (.bool _) rfl ?_
      refine x_pickF (.bool _) rfl rfl ?_
      refine x_nil ?_
      refine then_n ?_
      refine c_cond rfl (fun hb => ?_) (fun hb => ?_)   -- cond t37
      · skip
        -- region 10
        refine c_region ?_
        refine x_move (.int _ _) rfl ?_
        refine x_add _ _ rfl rfl (by simp only [X.lo]; omega) (by simp only [X.hi]; omega) ?_
        refine x_assign (.int _ _) rfl ?_
        refine x_nil ?_
        refine inb_n ?_
        refine then_n ?_
        -- region 11
        refine c_region ?_
        refine x_add _ _ rfl rfl (by simp only [X.lo]; omega) (by simp only [X.hi]; omega) ?_
        refine x_move (.int _ _) rfl ?_
        refine x_nil ?_
        refine then_n ?_
        refine ⟨(i + 1, n + 1, s'.sk y), ⟨rfl, rfl, rfl, rfl, rfl, trivial⟩, ⟨by omega, by rw [hsn, hhit, hb]; rfl, by omega, Nat.le_trans hun hal, by rw [hskn]; exact (hs.pull 1).tail⟩, by first | omega | (dsimp only; omega)⟩
      · skip
        refine c_skip ?_
        refine inb_n ?_
        refine then_n ?_
        -- region 11
        refine c_region ?_
        refine x_add _ _ rfl rfl (by simp only [X.lo]; omega) (by simp only [X.hi]; omega) ?_
        refine x_move (.int _ _) rfl ?_
        refine x_nil ?_
        refine then_n ?_
        refine ⟨(i + 1, n, s'.sk y), ⟨rfl, rfl, rfl, rfl, rfl, trivial⟩, ⟨by omega, by rw [hsn, hhit, hb]; rfl, by omega, Nat.le_trans hun hal, by rw [hskn]; exact (hs.pull 1).tail⟩, by first | omega | (dsimp only; omega)⟩
  · skip
    refine c_exit ?_
    refine then_x ?_
    refine then_x ?_
    refine inb_e ?_
    refine then_n ?_
    refine c_seq ?_
    -- region 12
    refine c_region ?_
    refine x_move (.int _ _) rfl ?_
    refine x_assign (.int _ _) rfl ?_
    refine x_nil ?_
    refine then_n ?_
    refine c_ret ?_
    refine ⟨.inr rfl, ?_⟩
    rw [List.take_of_length_le (by omega)] at hsk
    rw [hsk]
    exact ⟨rfl, hs⟩
end Go.Proofs.Ythhojdbklnoooaa.X
