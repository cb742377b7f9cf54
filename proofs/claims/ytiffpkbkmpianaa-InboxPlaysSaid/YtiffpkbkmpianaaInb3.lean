/-
  LAYER 23: the inbox: Next, Done.
-/
import Derived.Test.YtiffpkbkmpianaaInb2
namespace Go.Proofs.Ytiffpkbkmpianaa.X
open Go Go.RowKit
set_option linter.unusedVariables false
set_option maxRecDepth 20000
abbrev ISt.next (s : ISt) : NR := nextR s.mem (getN s.last) s.ws s.turn
set_option maxHeartbeats 2000000 in
theorem inext_calls {w0 w : World} {L : List HP} {f : Nat} {s : ISt} (hs : Sat w0 w (IO f s :: L)) (hm : s.mem.length ≤ 1000) (ht : s.turn ≤ 1000) (hl : ∀ x ∈ s.ws, x.2.length ≤ 1000000) :
    Calls Try.prog 12 #[.pointer (some ⟨f, 0, none⟩)] w fun e w' => ∃ v, e = .returned (.tuple #[.agg #[.int .u16 (s.next.p.Id : Nat), .int .u32 (s.next.p.Inc : Nat)], .int .u64 (s.next.n : Nat), v, .bool s.next.ok]) ∧ Sat w0 w' (BR v s.next.d :: IO f s :: L) := by
  obtain ⟨a, c, M1, M2, hs⟩ := hs.io
  refine enterC4 Try.func12 rfl Try.ntmps12 agg_35 2 3 4 5 rfl (Nat.le_of_ble_eq_true rfl) ?_
  refine c_seq ?_
  -- region 0
  refine c_region ?_
  refine x_alloc zi_35 hs ?_; clear hs; intro b2 w hs; refine ⟨fun h => (by first | (cases h; done) | (first | exact hs.cells2 rfl rfl | exact (hs.pull 1).cells2 rfl rfl | exact (hs.pull 2).cells2 rfl rfl | exact (hs.pull 3).cells2 rfl rfl | exact (hs.pull 4).cells2 rfl rfl | exact (hs.pull 5).cells2 rfl rfl | exact (hs.pull 6).cells2 rfl rfl | exact (hs.pull 7).cells2 rfl rfl | exact (hs.pull 8).cells2 rfl rfl | exact hs.cell rfl | exact (hs.pull 1).cell rfl | exact (hs.pull 2).cell rfl | exact (hs.pull 3).cell rfl | exact (hs.pull 4).cell rfl | exact (hs.pull 5).cell rfl | exact (hs.pull 6).cell rfl | exact (hs.pull 7).cell rfl | exact (hs.pull 8).cell rfl | assumption | exact hs.cellsOf | exact (hs.pull 1).cellsOf | exact (hs.pull 2).cellsOf | exact (hs.pull 3).cellsOf | exact (hs.pull 4).cellsOf | exact (hs.pull 5).cellsOf | exact (hs.pull 6).cellsOf | exact (hs.pull 7).cellsOf | exact (hs.pull 8).cellsOf) | (and_intros <;> first | exact hs.cells2 rfl rfl | exact (hs.pull 1).cells2 rfl rfl | exact (hs.pull 2).cells2 rfl rfl | exact (hs.pull 3).cells2 rfl rfl | exact (hs.pull 4).cells2 rfl rfl | exact (hs.pull 5).cells2 rfl rfl | exact (hs.pull 6).cells2 rfl rfl | exact (hs.pull 7).cells2 rfl rfl | exact (hs.pull 8).cells2 rfl rfl | exact hs.cell rfl | exact (hs.pull 1).cell rfl | exact (hs.pull 2).cell rfl | exact (hs.pull 3).cell rfl | exact (hs.pull 4).cell rfl | exact (hs.pull 5).cell rfl | exact (hs.pull 6).cell rfl | exact (hs.pull 7).cell rfl | exact (hs.pull 8).cell rfl | assumption | exact hs.cellsOf | exact (hs.pull 1).cellsOf | exact (hs.pull 2).cellsOf | exact (hs.pull 3).cellsOf | exact (hs.pull 4).cellsOf | exact (hs.pull 5).cellsOf | exact (hs.pull 6).cellsOf | exact (hs.pull 7).cellsOf | exact (hs.pull 8).cellsOf)), ?_⟩
  refine x_assign (.int _ _) rfl ?_
  refine x_assign (.slice _ _ _) rfl ?_
  refine x_assign (.bool _) rfl ?_
  refine x_nil ?_
  refine then_n ?_
  refine c_seq ?_
  refine c_seq ?_
  -- region 1
  refine c_region ?_
  refine x_move (.pointer _) rfl ?_
  refine x_eqlNil Try.underlying30 _ rfl rfl ?_
  refine x_nil ?_
  refine then_n ?_
  refine c_false rfl ?_
  refine c_skip ?_
  refine then_n ?_
  refine c_seq ?_
  refine c_seq ?_
  -- region 3
  refine c_region ?_
  refine x_move (.pointer _) rfl ?_
  refine x_nilCheck _ rfl ?_
  first | refine x_field0 fa_69_1 _ rfl ?_ | refine x_field fa_69_1 _ _ rfl ?_
  refine x_load one_23 _ (.slice _ _ _) rfl (by first | exact hs.cell rfl | exact (hs.pull 1).cell rfl | exact (hs.pull 2).cell rfl | exact (hs.pull 3).cell rfl | assumption | exact (hs.pull 4).cell rfl | exact (hs.pull 5).cell rfl | exact (hs.pull 6).cell rfl | exact (hs.pull 7).cell rfl) ?_
  refine x_lenSl Try.underlying23 _ _ _ rfl ?_
  refine x_move (.int _ _) rfl ?_
  refine x_nil ?_
  refine then_n ?_
  refine c_block ?_
  refine c_loop (γ := Nat) (fun (i : Nat) => [(0, .pointer (some ⟨f, 0, none⟩)), (2, .pointer (some ⟨b2, 0, none⟩)), (18, .int .i64 (s.mem.length : Nat)), (19, .int .i64 (i : Nat))]) (fun (i : Nat) w => i ≤ s.mem.length ∧ (∀ j, j < i → mget (cand s.mem (getN s.last) s.turn j) s.ws = none) ∧ Sat w0 w (Blk f (.cells #[.int .u64 (s.vw : Nat), .slice a s.mem.length c, .map (some M1), .map (some M2), .int .i64 (s.turn : Nat)] 69 (0, 0)) :: PR (.slice a s.mem.length c) s.mem :: MapR penc M1 (fmk s.last) :: MB kenc M2 s.ws :: Blk b2 (.cells #[.int .u16 0, .int .u32 0] 35 (0, 0)) :: L)) (fun (i : Nat) => s.mem.length - i) 0 ⟨rfl, rfl, rfl, rfl, trivial⟩ ⟨Nat.zero_le _, (fun j hj => by omega), hs.perm [1, 2, 3, 4, 0]⟩ ?_
  clear hs
  rintro i ρ w ⟨hi, hno, hs⟩
  change CW Try.prog 66 _ _ (sets 66 [(0, .pointer (some ⟨f, 0, none⟩)), (2, .pointer (some ⟨b2, 0, none⟩)), (18, .int .i64 (s.mem.length : Nat)), (19, .int .i64 (i : Nat))] ρ) w
  refine c_seq ?_
  -- region 4
  refine c_region ?_
  refine x_lss _ _ rfl rfl ?_
  refine x_nil ?_
  refine then_n ?_
  refine c_seq ?_
  refine c_test _ rfl (fun hb => ?_) (fun hb => ?_)   -- cond t20
  · skip
    refine c_skip ?_
    refine then_n ?_
    refine c_seq ?_
    refine c_block ?_
    refine c_seq ?_
    -- region 5
    have hlt : (s.turn + i) % s.mem.length < s.mem.length := Nat.mod_lt _ (by omega)
    obtain ⟨q, hq⟩ : ∃ q, s.mem[(s.turn + i) % s.mem.length]? = some q := ⟨_, List.getElem?_eq_getElem hlt⟩
    have hgq : s.mem.getD ((s.turn + i) % s.mem.length) ⟨0, 0⟩ = q := by rw [List.getD_eq_getElem?_getD, hq]; rfl
    have hcand : cand s.mem (getN s.last) s.turn i = (q, nx (getN s.last q)) := by unfold cand; rw [hgq]
    obtain ⟨g, o, rfl⟩ := (hs.pull 1).prs.addr (by omega)
    have hlv := fmk_get s.last q
    have hqc : ∀ {w' L'}, Sat w0 w' (PR (.slice (some ⟨g, o, none⟩) s.mem.length c) s.mem :: L') → (∀ (j : Nat) (u : Value), [Value.int .u16 (q.Id : Nat), Value.int .u32 (q.Inc : Nat)][j]? = some u → w'.cell? ((⟨g, o + ((s.turn + i) % s.mem.length) * 2, none⟩ : Addr).add j) = some u) := fun h => h.prs.all (fun a => a.cells_len) hq
    refine c_region ?_
    refine x_move (.int _ _) rfl ?_
    refine x_assign (.int _ _) rfl ?_
    refine x_nil ?_
    refine then_n ?_
    refine c_seq ?_
    -- region 6 DRAWS
    refine c_draw (fun w => w.cell? ⟨f, 1, none⟩ = some (.slice (some ⟨g, o, none⟩) s.mem.length c) ∧ w.cell? ⟨f, 4, none⟩ = some (.int .i64 (s.turn : Nat)) ∧ (∀ (j : Nat) (u : Value), [Value.int .u16 (q.Id : Nat), Value.int .u32 (q.Inc : Nat)][j]? = some u → w.cell? ((⟨g, o + ((s.turn + i) % s.mem.length) * 2, none⟩ : Addr).add j) = some u)) (fun i => !(Nat.beq i 19)) [(0, 2), (1, 2), (2, 2), (3, 1), (4, 2), (5, 2), (6, 2), (7, 1), (8, 2), (9, 2), (10, 2), (11, 2), (12, 2), (13, 1), (14, 2), (15, 2), (16, 2), (17, 1), (18, 0), (19, 0)] (by kernel_rfl) (by kernel_rfl) (by kernel_rfl) (by kernel_rfl) (⟨hs.drew.cell rfl, hs.drew.cell rfl, hqc (hs.drew.pull 1)⟩) ?_
    replace hs := hs.drew
    refine x_move (.pointer _) rfl ?_
    refine x_nilCheck _ rfl ?_
    first | refine x_field0 fa_69_1 _ rfl ?_ | refine x_field fa_69_1 _ _ rfl ?_
    refine h_load one_23 _ (.slice _ _ _) rfl (fun w hS => by first | exact hS.cell rfl | exact (hS.pull 1).cell rfl | exact (hS.pull 2).cell rfl | exact (hS.pull 3).cell rfl | exact (hS.pull 4).cell rfl | exact (hS.pull 5).cell rfl | exact (hS.pull 6).cell rfl | exact hS | exact hS.1 | exact hS.2 | exact hS.2.1 | exact hS.2.2 | exact hS.2.2.1 | exact hS.2.2.2 | exact hS.2.2.2.1 | exact hS.2.2.2.2) ?_
    refine x_move (.pointer _) rfl ?_
    refine x_nilCheck _ rfl ?_
    first | refine x_field0 fa_69_4 _ rfl ?_ | refine x_field fa_69_4 _ _ rfl ?_
    refine h_load one_3 _ (.int _ _) rfl (fun w hS => by first | exact hS.cell rfl | exact (hS.pull 1).cell rfl | exact (hS.pull 2).cell rfl | exact (hS.pull 3).cell rfl | exact (hS.pull 4).cell rfl | exact (hS.pull 5).cell rfl | exact (hS.pull 6).cell rfl | exact hS | exact hS.1 | exact hS.2 | exact hS.2.1 | exact hS.2.2 | exact hS.2.2.1 | exact hS.2.2.2 | exact hS.2.2.2.1 | exact hS.2.2.2.2) ?_
    refine x_move (.int _ _) rfl ?_
    refine x_add _ _ rfl rfl (by simp only [X.lo]; omega) (by simp only [X.hi]; omega) ?_
    refine x_move (.pointer _) rfl ?_
    refine x_nilCheck _ rfl ?_
    first | refine x_field0 fa_69_1 _ rfl ?_ | refine x_field fa_69_1 _ _ rfl ?_
    refine h_load one_23 _ (.slice _ _ _) rfl (fun w hS => by first | exact hS.cell rfl | exact (hS.pull 1).cell rfl | exact (hS.pull 2).cell rfl | exact (hS.pull 3).cell rfl | exact (hS.pull 4).cell rfl | exact (hS.pull 5).cell rfl | exact (hS.pull 6).cell rfl | exact hS | exact hS.1 | exact hS.2 | exact hS.2.1 | exact hS.2.2 | exact hS.2.2.1 | exact hS.2.2.2 | exact hS.2.2.2.1 | exact hS.2.2.2.2) ?_
    refine x_lenSl Try.underlying23 _ _ _ rfl ?_
    refine x_remN (s.turn + i) s.mem.length (by omega) rfl rfl (by omega) ?_
    refine x_indexAddr Try.underlying23 sz_35 _ _ _ _ _ rfl rfl (by omega) ?_
    refine h_loadN [_, _] agg_35 _ rfl (fun w hS => by first | exact hS | exact hS.1 | exact hS.2 | exact hS.2.1 | exact hS.2.2 | exact hS.2.2.1 | exact hS.2.2.2 | exact hS.2.2.2.1 | exact hS.2.2.2.2 | exact hS.cellsOf | exact (hS.pull 1).cellsOf | exact (hS.pull 2).cellsOf | exact (hS.pull 3).cellsOf | exact (hS.pull 4).cellsOf | exact (hS.pull 5).cellsOf | exact (hS.pull 6).cellsOf | exact hS.cells2 rfl rfl | exact (hS.pull 1).cells2 rfl rfl | exact (hS.pull 2).cells2 rfl rfl | exact (hS.pull 3).cells2 rfl rfl | exact (hS.pull 4).cells2 rfl rfl | exact (hS.pull 5).cells2 rfl rfl | exact (hS.pull 6).cells2 rfl rfl) ?_
    refine x_alloc zi_35 hs ?_; clear hs; intro b7 w hs; refine ⟨fun h => (by first | (cases h; done) | exact ⟨(hs.pull 1).cell rfl, (hs.pull 1).cell rfl, hqc (hs.pull 2)⟩), ?_⟩
    first
      | refine x_storeAllI hs 0 rfl rfl agg_35 [_, _] rfl rfl rfl rfl ?_
      | refine x_storeAllI hs 1 rfl rfl agg_35 [_, _] rfl rfl rfl rfl ?_
      | refine x_storeAllI hs 2 rfl rfl agg_35 [_, _] rfl rfl rfl rfl ?_
      | refine x_storeAllI hs 3 rfl rfl agg_35 [_, _] rfl rfl rfl rfl ?_
      | refine x_storeAllI hs 4 rfl rfl agg_35 [_, _] rfl rfl rfl rfl ?_
      | refine x_storeAllI hs 5 rfl rfl agg_35 [_, _] rfl rfl rfl rfl ?_
      | refine x_storeAllI hs 6 rfl rfl agg_35 [_, _] rfl rfl rfl rfl ?_
      | refine x_storeAllI hs 7 rfl rfl agg_35 [_, _] rfl rfl rfl rfl ?_
    clear hs; intro w hs
    try dsimp only [back, List.set_cons_zero, List.set_cons_succ] at hs
    refine ⟨fun h => (by first | (cases h; done) | exact ⟨(hs.pull 1).cell rfl, (hs.pull 1).cell rfl, hqc (hs.pull 2)⟩), ?_⟩
    refine x_nil ?_
    refine then_n ?_
    refine c_seq ?_
    -- region 7 DRAWS
    refine c_draw (fun w => SameL hs w) (fun i => !(Nat.beq i 10)) [(0, 1), (1, 2), (2, 2), (3, 2), (4, 1), (5, 1), (6, 1), (7, 2), (8, 2), (9, 0), (10, 0)] (by kernel_rfl) (by kernel_rfl) (by kernel_rfl) (by kernel_rfl) (hs.drew) ?_
    replace hs := hs.drew
    refine h_loadN [_, _] agg_35 _ rfl (fun w hS => by first | exact hS | exact hS.1 | exact hS.2 | exact hS.2.1 | exact hS.2.2 | exact hS.2.2.1 | exact hS.2.2.2 | exact hS.2.2.2.1 | exact hS.2.2.2.2 | exact hS.cellsOf | exact (hS.pull 1).cellsOf | exact (hS.pull 2).cellsOf | exact (hS.pull 3).cellsOf | exact (hS.pull 4).cellsOf | exact (hS.pull 5).cellsOf | exact (hS.pull 6).cellsOf | exact hS.cells2 rfl rfl | exact (hS.pull 1).cells2 rfl rfl | exact (hS.pull 2).cells2 rfl rfl | exact (hS.pull 3).cells2 rfl rfl | exact (hS.pull 4).cells2 rfl rfl | exact (hS.pull 5).cells2 rfl rfl | exact (hS.pull 6).cells2 rfl rfl) ?_
    refine x_move (.pointer _) rfl ?_
    refine x_nilCheck _ rfl ?_
    first | refine x_field0 fa_69_2 _ rfl ?_ | refine x_field fa_69_2 _ _ rfl ?_
    refine h_load one_66 _ (.map _) rfl (fun w hS => by first | exact hS.cell rfl | exact (hS.pull 1).cell rfl | exact (hS.pull 2).cell rfl | exact (hS.pull 3).cell rfl | exact (hS.pull 4).cell rfl | exact (hS.pull 5).cell rfl | exact (hS.pull 6).cell rfl | exact hS | exact hS.1 | exact hS.2 | exact hS.2.1 | exact hS.2.2 | exact hS.2.2.1 | exact hS.2.2.2 | exact hS.2.2.2.1 | exact hS.2.2.2.2) ?_
    refine h_loadN [_, _] agg_35 _ rfl (fun w hS => by first | exact hS | exact hS.1 | exact hS.2 | exact hS.2.1 | exact hS.2.2 | exact hS.2.2.1 | exact hS.2.2.2 | exact hS.2.2.2.1 | exact hS.2.2.2.2 | exact hS.cellsOf | exact (hS.pull 1).cellsOf | exact (hS.pull 2).cellsOf | exact (hS.pull 3).cellsOf | exact (hS.pull 4).cellsOf | exact (hS.pull 5).cellsOf | exact (hS.pull 6).cellsOf | exact hS.cells2 rfl rfl | exact (hS.pull 1).cells2 rfl rfl | exact (hS.pull 2).cells2 rfl rfl | exact (hS.pull 3).cells2 rfl rfl | exact (hS.pull 4).cells2 rfl rfl | exact (hS.pull 5).cells2 rfl rfl | exact (hS.pull 6).cells2 rfl rfl) ?_
    refine h_lookup1 mt_last ko_pid q _ (fun w hS => ⟨_, _, hS.pull 3⟩) rfl rfl hlv ?_
    refine x_add64 _ 1 rfl rfl ?_
    refine x_build _ [(0, (.agg #[(.int .u16 _), (.int .u32 _)])), (1, (.int .u64 _))] rfl (fun w => bd_72_0_1 _ _ _ w) ?_
    refine x_alloc zi_72 hs ?_; clear hs; intro b8 w hs; refine ⟨fun h => (by first | (cases h; done) | exact hs.tail), ?_⟩
    first
      | refine x_storeAllI hs 0 rfl rfl agg_72 [_, _, _] rfl rfl rfl rfl ?_
      | refine x_storeAllI hs 1 rfl rfl agg_72 [_, _, _] rfl rfl rfl rfl ?_
      | refine x_storeAllI hs 2 rfl rfl agg_72 [_, _, _] rfl rfl rfl rfl ?_
      | refine x_storeAllI hs 3 rfl rfl agg_72 [_, _, _] rfl rfl rfl rfl ?_
      | refine x_storeAllI hs 4 rfl rfl agg_72 [_, _, _] rfl rfl rfl rfl ?_
      | refine x_storeAllI hs 5 rfl rfl agg_72 [_, _, _] rfl rfl rfl rfl ?_
      | refine x_storeAllI hs 6 rfl rfl agg_72 [_, _, _] rfl rfl rfl rfl ?_
      | refine x_storeAllI hs 7 rfl rfl agg_72 [_, _, _] rfl rfl rfl rfl ?_
    clear hs; intro w hs
    try dsimp only [back, List.set_cons_zero, List.set_cons_succ] at hs
    refine ⟨fun h => (by first | (cases h; done) | exact hs.tail), ?_⟩
    refine x_nil ?_
    refine then_n ?_
    obtain ⟨e, he, hs⟩ := (hs.pull 5).mb
    have hme := mb_get he (q, nx (getN s.last q))
    have hmv := mb_get' e (q, nx (getN s.last q))
    rcases hg : mget (q, nx (getN s.last q)) e with _ | ⟨v0, d0⟩
    rw [hg] at hme hmv
    rotate_left
    rw [hg] at hme hmv
    obtain ⟨a0, c0, rfl⟩ := ((hs.pull 1).eeRB hg).val
    have hd0 : d0.length ≤ 1000000 := hl _ (mget_mem hme)
    · skip
      refine c_seq ?_
      -- region 8 DRAWS
      refine c_draw (fun w => SameL hs w) (fun i => !(false)) [(0, 2), (1, 2), (2, 2), (3, 1), (4, 1), (5, 1), (6, 2), (7, 2), (8, 2), (9, 2), (10, 2)] (by kernel_rfl) (by kernel_rfl) (by kernel_rfl) (by kernel_rfl) (hs.drew) ?_
      replace hs := hs.drew
      refine x_move (.pointer _) rfl ?_
      refine x_nilCheck _ rfl ?_
      first | refine x_field0 fa_69_3 _ rfl ?_ | refine x_field fa_69_3 _ _ rfl ?_
      refine h_load one_67 _ (.map _) rfl (fun w hS => by first | exact hS.cell rfl | exact (hS.pull 1).cell rfl | exact (hS.pull 2).cell rfl | exact (hS.pull 3).cell rfl | exact (hS.pull 4).cell rfl | exact (hS.pull 5).cell rfl | exact (hS.pull 6).cell rfl | exact hS | exact hS.1 | exact hS.2 | exact hS.2.1 | exact hS.2.2 | exact hS.2.2.1 | exact hS.2.2.2 | exact hS.2.2.2.1 | exact hS.2.2.2.2) ?_
      refine h_loadN [_, _, _] agg_72 _ rfl (fun w hS => by first | exact hS | exact hS.1 | exact hS.2 | exact hS.2.1 | exact hS.2.2 | exact hS.2.2.1 | exact hS.2.2.2 | exact hS.2.2.2.1 | exact hS.2.2.2.2 | exact hS.cellsOf | exact (hS.pull 1).cellsOf | exact (hS.pull 2).cellsOf | exact (hS.pull 3).cellsOf | exact (hS.pull 4).cellsOf | exact (hS.pull 5).cellsOf | exact (hS.pull 6).cellsOf | exact hS.cells2 rfl rfl | exact (hS.pull 1).cells2 rfl rfl | exact (hS.pull 2).cells2 rfl rfl | exact (hS.pull 3).cells2 rfl rfl | exact (hS.pull 4).cells2 rfl rfl | exact (hS.pull 5).cells2 rfl rfl | exact (hS.pull 6).cells2 rfl rfl) ?_
      refine h_lookup2T mt_ws ko_key (q, nx (getN s.last q)) _ (fun w hS => ⟨_, _, hS⟩) rfl rfl hmv ?_
      refine x_move (.tuple _) rfl ?_
      refine x_extract _ (.slice _ _ _) rfl rfl ?_
      refine x_extract _ (.bool _) rfl rfl ?_
      refine x_assign (.slice _ _ _) rfl ?_
      refine x_assign (.bool _) rfl ?_
      refine x_nil ?_
      refine then_n ?_
      refine c_seq ?_
      -- region 9
      refine c_region ?_
      refine x_move (.bool _) rfl ?_
      refine x_nil ?_
      refine then_n ?_
      refine c_true rfl ?_
      refine c_seq ?_
      -- region 10 DRAWS
      refine c_draw (fun w => (∀ (j : Nat) (u : Value), [Value.int .u16 (q.Id : Nat), Value.int .u32 (q.Inc : Nat)][j]? = some u → w.cell? ((⟨b7, 0, none⟩ : Addr).add j) = some u) ∧ w.cell? ⟨b8, 2, none⟩ = some (.int .u64 (nx (getN s.last q) : Nat))) (fun i => !(false)) [(0, 1), (1, 2), (2, 1), (3, 2), (4, 0), (5, 0), (6, 2), (7, 2), (8, 2)] (by kernel_rfl) (by kernel_rfl) (by kernel_rfl) (by kernel_rfl) ((by first | (first | exact hs.cells2 rfl rfl | exact (hs.pull 1).cells2 rfl rfl | exact (hs.pull 2).cells2 rfl rfl | exact (hs.pull 3).cells2 rfl rfl | exact (hs.pull 4).cells2 rfl rfl | exact (hs.pull 5).cells2 rfl rfl | exact (hs.pull 6).cells2 rfl rfl | exact (hs.pull 7).cells2 rfl rfl | exact (hs.pull 8).cells2 rfl rfl | exact hs.cell rfl | exact (hs.pull 1).cell rfl | exact (hs.pull 2).cell rfl | exact (hs.pull 3).cell rfl | exact (hs.pull 4).cell rfl | exact (hs.pull 5).cell rfl | exact (hs.pull 6).cell rfl | exact (hs.pull 7).cell rfl | exact (hs.pull 8).cell rfl | assumption | exact hs.cellsOf | exact (hs.pull 1).cellsOf | exact (hs.pull 2).cellsOf | exact (hs.pull 3).cellsOf | exact (hs.pull 4).cellsOf | exact (hs.pull 5).cellsOf | exact (hs.pull 6).cellsOf | exact (hs.pull 7).cellsOf | exact (hs.pull 8).cellsOf) | (and_intros <;> first | exact hs.cells2 rfl rfl | exact (hs.pull 1).cells2 rfl rfl | exact (hs.pull 2).cells2 rfl rfl | exact (hs.pull 3).cells2 rfl rfl | exact (hs.pull 4).cells2 rfl rfl | exact (hs.pull 5).cells2 rfl rfl | exact (hs.pull 6).cells2 rfl rfl | exact (hs.pull 7).cells2 rfl rfl | exact (hs.pull 8).cells2 rfl rfl | exact hs.cell rfl | exact (hs.pull 1).cell rfl | exact (hs.pull 2).cell rfl | exact (hs.pull 3).cell rfl | exact (hs.pull 4).cell rfl | exact (hs.pull 5).cell rfl | exact (hs.pull 6).cell rfl | exact (hs.pull 7).cell rfl | exact (hs.pull 8).cell rfl | assumption | exact hs.cellsOf | exact (hs.pull 1).cellsOf | exact (hs.pull 2).cellsOf | exact (hs.pull 3).cellsOf | exact (hs.pull 4).cellsOf | exact (hs.pull 5).cellsOf | exact (hs.pull 6).cellsOf | exact (hs.pull 7).cellsOf | exact (hs.pull 8).cellsOf))) ?_
      replace hs := hs.drew
      refine h_loadN [_, _] agg_35 _ rfl (fun w hS => by first | exact hS | exact hS.1 | exact hS.2 | exact hS.2.1 | exact hS.2.2 | exact hS.2.2.1 | exact hS.2.2.2 | exact hS.2.2.2.1 | exact hS.2.2.2.2 | exact hS.cellsOf | exact (hS.pull 1).cellsOf | exact (hS.pull 2).cellsOf | exact (hS.pull 3).cellsOf | exact (hS.pull 4).cellsOf | exact (hS.pull 5).cellsOf | exact (hS.pull 6).cellsOf | exact hS.cells2 rfl rfl | exact (hS.pull 1).cells2 rfl rfl | exact (hS.pull 2).cells2 rfl rfl | exact (hS.pull 3).cells2 rfl rfl | exact (hS.pull 4).cells2 rfl rfl | exact (hS.pull 5).cells2 rfl rfl | exact (hS.pull 6).cells2 rfl rfl) ?_
      first | refine x_field0 fa_72_1 _ rfl ?_ | refine x_field fa_72_1 _ _ rfl ?_
      refine h_load one_22 _ (.int _ _) rfl (fun w hS => by first | exact hS.cell rfl | exact (hS.pull 1).cell rfl | exact (hS.pull 2).cell rfl | exact (hS.pull 3).cell rfl | exact (hS.pull 4).cell rfl | exact (hS.pull 5).cell rfl | exact (hS.pull 6).cell rfl | exact hS | exact hS.1 | exact hS.2 | exact hS.2.1 | exact hS.2.2 | exact hS.2.2.1 | exact hS.2.2.2 | exact hS.2.2.2.1 | exact hS.2.2.2.2) ?_
      refine x_move (.slice _ _ _) rfl ?_
      refine x_call Try.f28 Try.func28 rfl rfl _ rfl ?_
      refine ((clone_calls hs ((hs.pull 1).eeRB hg) (by omega))).mono ?_
      clear hs; rintro e w ⟨v, rfl, hs⟩
      refine ⟨_, rfl, fun h => (by first | (cases h; done) | (first | exact hs.cells2 rfl rfl | exact (hs.pull 1).cells2 rfl rfl | exact (hs.pull 2).cells2 rfl rfl | exact (hs.pull 3).cells2 rfl rfl | exact (hs.pull 4).cells2 rfl rfl | exact (hs.pull 5).cells2 rfl rfl | exact (hs.pull 6).cells2 rfl rfl | exact (hs.pull 7).cells2 rfl rfl | exact (hs.pull 8).cells2 rfl rfl | exact hs.cell rfl | exact (hs.pull 1).cell rfl | exact (hs.pull 2).cell rfl | exact (hs.pull 3).cell rfl | exact (hs.pull 4).cell rfl | exact (hs.pull 5).cell rfl | exact (hs.pull 6).cell rfl | exact (hs.pull 7).cell rfl | exact (hs.pull 8).cell rfl | assumption | exact hs.cellsOf | exact (hs.pull 1).cellsOf | exact (hs.pull 2).cellsOf | exact (hs.pull 3).cellsOf | exact (hs.pull 4).cellsOf | exact (hs.pull 5).cellsOf | exact (hs.pull 6).cellsOf | exact (hs.pull 7).cellsOf | exact (hs.pull 8).cellsOf) | (and_intros <;> first | exact hs.cells2 rfl rfl | exact (hs.pull 1).cells2 rfl rfl | exact (hs.pull 2).cells2 rfl rfl | exact (hs.pull 3).cells2 rfl rfl | exact (hs.pull 4).cells2 rfl rfl | exact (hs.pull 5).cells2 rfl rfl | exact (hs.pull 6).cells2 rfl rfl | exact (hs.pull 7).cells2 rfl rfl | exact (hs.pull 8).cells2 rfl rfl | exact hs.cell rfl | exact (hs.pull 1).cell rfl | exact (hs.pull 2).cell rfl | exact (hs.pull 3).cell rfl | exact (hs.pull 4).cell rfl | exact (hs.pull 5).cell rfl | exact (hs.pull 6).cell rfl | exact (hs.pull 7).cell rfl | exact (hs.pull 8).cell rfl | assumption | exact hs.cellsOf | exact (hs.pull 1).cellsOf | exact (hs.pull 2).cellsOf | exact (hs.pull 3).cellsOf | exact (hs.pull 4).cellsOf | exact (hs.pull 5).cellsOf | exact (hs.pull 6).cellsOf | exact (hs.pull 7).cellsOf | exact (hs.pull 8).cellsOf)), ?_⟩
      obtain ⟨a6, c6, rfl⟩ := hs.rd.val
      replace hs := hs.perm [0, 8, 1, 2, 3, 4, 5, 6, 7]
      first
        | refine x_storeAllI hs 0 rfl rfl agg_35 [_, _] rfl rfl rfl rfl ?_
        | refine x_storeAllI hs 1 rfl rfl agg_35 [_, _] rfl rfl rfl rfl ?_
        | refine x_storeAllI hs 2 rfl rfl agg_35 [_, _] rfl rfl rfl rfl ?_
        | refine x_storeAllI hs 3 rfl rfl agg_35 [_, _] rfl rfl rfl rfl ?_
        | refine x_storeAllI hs 4 rfl rfl agg_35 [_, _] rfl rfl rfl rfl ?_
        | refine x_storeAllI hs 5 rfl rfl agg_35 [_, _] rfl rfl rfl rfl ?_
        | refine x_storeAllI hs 6 rfl rfl agg_35 [_, _] rfl rfl rfl rfl ?_
        | refine x_storeAllI hs 7 rfl rfl agg_35 [_, _] rfl rfl rfl rfl ?_
      clear hs; intro w hs
      try dsimp only [back, List.set_cons_zero, List.set_cons_succ] at hs
      refine ⟨fun h => (by first | (cases h; done) | (first | exact hs.cells2 rfl rfl | exact (hs.pull 1).cells2 rfl rfl | exact (hs.pull 2).cells2 rfl rfl | exact (hs.pull 3).cells2 rfl rfl | exact (hs.pull 4).cells2 rfl rfl | exact (hs.pull 5).cells2 rfl rfl | exact (hs.pull 6).cells2 rfl rfl | exact (hs.pull 7).cells2 rfl rfl | exact (hs.pull 8).cells2 rfl rfl | exact hs.cell rfl | exact (hs.pull 1).cell rfl | exact (hs.pull 2).cell rfl | exact (hs.pull 3).cell rfl | exact (hs.pull 4).cell rfl | exact (hs.pull 5).cell rfl | exact (hs.pull 6).cell rfl | exact (hs.pull 7).cell rfl | exact (hs.pull 8).cell rfl | assumption | exact hs.cellsOf | exact (hs.pull 1).cellsOf | exact (hs.pull 2).cellsOf | exact (hs.pull 3).cellsOf | exact (hs.pull 4).cellsOf | exact (hs.pull 5).cellsOf | exact (hs.pull 6).cellsOf | exact (hs.pull 7).cellsOf | exact (hs.pull 8).cellsOf) | (and_intros <;> first | exact hs.cells2 rfl rfl | exact (hs.pull 1).cells2 rfl rfl | exact (hs.pull 2).cells2 rfl rfl | exact (hs.pull 3).cells2 rfl rfl | exact (hs.pull 4).cells2 rfl rfl | exact (hs.pull 5).cells2 rfl rfl | exact (hs.pull 6).cells2 rfl rfl | exact (hs.pull 7).cells2 rfl rfl | exact (hs.pull 8).cells2 rfl rfl | exact hs.cell rfl | exact (hs.pull 1).cell rfl | exact (hs.pull 2).cell rfl | exact (hs.pull 3).cell rfl | exact (hs.pull 4).cell rfl | exact (hs.pull 5).cell rfl | exact (hs.pull 6).cell rfl | exact (hs.pull 7).cell rfl | exact (hs.pull 8).cell rfl | assumption | exact hs.cellsOf | exact (hs.pull 1).cellsOf | exact (hs.pull 2).cellsOf | exact (hs.pull 3).cellsOf | exact (hs.pull 4).cellsOf | exact (hs.pull 5).cellsOf | exact (hs.pull 6).cellsOf | exact (hs.pull 7).cellsOf | exact (hs.pull 8).cellsOf)), ?_⟩
      refine x_assign (.int _ _) rfl ?_
      refine x_assign (.slice _ _ _) rfl ?_
      refine x_assign (.bool _) rfl ?_
      refine x_nil ?_
      refine then_n ?_
      refine c_ret ?_
      refine inb_r ?_
      refine then_r ?_
      refine then_r ?_
      refine inb_r ?_
      refine then_r ?_
      refine ⟨.inr rfl, ?_⟩
      have hr := nextR_some (ws := s.ws) (d := d0) (by omega) hno (by rw [hcand]; exact hme)
      rw [hcand] at hr
      have hrn : s.next = ⟨q, nx (getN s.last q), d0, true⟩ := hr
      rw [hrn]
      have h2 := ((hs.sel [2, 3, 0, 6, 7, 8] 9).mb').perm [2, 3, 4, 0, 1]
      rw [he] at h2
      exact ⟨b2, [.int .u16 (q.Id : Nat), .int .u32 (q.Inc : Nat)], rfl, rfl, (hs.pull 1).cellsAt, _, rfl, (h2.io').pull 1⟩
    · skip
      refine c_seq ?_
      -- region 8 DRAWS
      refine c_draw (fun w => SameL hs w) (fun i => !(false)) [(0, 2), (1, 2), (2, 2), (3, 1), (4, 1), (5, 1), (6, 2), (7, 2), (8, 2), (9, 2), (10, 2)] (by kernel_rfl) (by kernel_rfl) (by kernel_rfl) (by kernel_rfl) (hs.drew) ?_
      replace hs := hs.drew
      refine x_move (.pointer _) rfl ?_
      refine x_nilCheck _ rfl ?_
      first | refine x_field0 fa_69_3 _ rfl ?_ | refine x_field fa_69_3 _ _ rfl ?_
      refine h_load one_67 _ (.map _) rfl (fun w hS => by first | exact hS.cell rfl | exact (hS.pull 1).cell rfl | exact (hS.pull 2).cell rfl | exact (hS.pull 3).cell rfl | exact (hS.pull 4).cell rfl | exact (hS.pull 5).cell rfl | exact (hS.pull 6).cell rfl | exact hS | exact hS.1 | exact hS.2 | exact hS.2.1 | exact hS.2.2 | exact hS.2.2.1 | exact hS.2.2.2 | exact hS.2.2.2.1 | exact hS.2.2.2.2) ?_
      refine h_loadN [_, _, _] agg_72 _ rfl (fun w hS => by first | exact hS | exact hS.1 | exact hS.2 | exact hS.2.1 | exact hS.2.2 | exact hS.2.2.1 | exact hS.2.2.2 | exact hS.2.2.2.1 | exact hS.2.2.2.2 | exact hS.cellsOf | exact (hS.pull 1).cellsOf | exact (hS.pull 2).cellsOf | exact (hS.pull 3).cellsOf | exact (hS.pull 4).cellsOf | exact (hS.pull 5).cellsOf | exact (hS.pull 6).cellsOf | exact hS.cells2 rfl rfl | exact (hS.pull 1).cells2 rfl rfl | exact (hS.pull 2).cells2 rfl rfl | exact (hS.pull 3).cells2 rfl rfl | exact (hS.pull 4).cells2 rfl rfl | exact (hS.pull 5).cells2 rfl rfl | exact (hS.pull 6).cells2 rfl rfl) ?_
      refine h_lookup2F mt_ws ko_key (q, nx (getN s.last q)) (fun w hS => ⟨_, _, hS⟩) rfl rfl hmv ?_
      refine x_move (.tuple _) rfl ?_
      refine x_extract _ (.slice _ _ _) rfl rfl ?_
      refine x_extract _ (.bool _) rfl rfl ?_
      refine x_assign (.slice _ _ _) rfl ?_
      refine x_assign (.bool _) rfl ?_
      refine x_nil ?_
      refine then_n ?_
      refine c_seq ?_
      -- region 9
      refine c_region ?_
      refine x_move (.bool _) rfl ?_
      refine x_nil ?_
      refine then_n ?_
      refine c_false rfl ?_
      refine c_skip ?_
      refine inb_n ?_
      refine then_n ?_
      -- region 11
      refine c_region ?_
      refine x_add _ _ rfl rfl (by simp only [X.lo]; omega) (by simp only [X.hi]; omega) ?_
      refine x_move (.int _ _) rfl ?_
      refine x_nil ?_
      refine then_n ?_
      have hno' : ∀ j, j < i + 1 → mget (cand s.mem (getN s.last) s.turn j) s.ws = none := fun j hj => by
        by_cases hji : j < i
        · exact hno j hji
        · obtain rfl : j = i := by omega
          rw [hcand]
          exact hme
      have h3 := (hs.mb').sel [3, 4, 5, 0, 6] 7
      rw [he] at h3
      refine ⟨i + 1, ⟨rfl, rfl, rfl, rfl, trivial⟩, ⟨by omega, hno', h3⟩, by first | omega | (dsimp only; omega)⟩
  · skip
    refine c_exit ?_
    refine then_x ?_
    refine then_x ?_
    refine inb_e ?_
    refine then_n ?_
    refine c_seq ?_
    -- region 12
    refine c_region ?_
    refine x_build _ [] rfl (fun w => bd_35 w) ?_
    first
      | refine x_storeAllI hs 0 rfl rfl agg_35 [_, _] rfl rfl rfl rfl ?_
      | refine x_storeAllI hs 1 rfl rfl agg_35 [_, _] rfl rfl rfl rfl ?_
      | refine x_storeAllI hs 2 rfl rfl agg_35 [_, _] rfl rfl rfl rfl ?_
      | refine x_storeAllI hs 3 rfl rfl agg_35 [_, _] rfl rfl rfl rfl ?_
      | refine x_storeAllI hs 4 rfl rfl agg_35 [_, _] rfl rfl rfl rfl ?_
      | refine x_storeAllI hs 5 rfl rfl agg_35 [_, _] rfl rfl rfl rfl ?_
      | refine x_storeAllI hs 6 rfl rfl agg_35 [_, _] rfl rfl rfl rfl ?_
      | refine x_storeAllI hs 7 rfl rfl agg_35 [_, _] rfl rfl rfl rfl ?_
    clear hs; intro w hs
    try dsimp only [back, List.set_cons_zero, List.set_cons_succ] at hs
    refine ⟨fun h => (by first | (cases h; done) | (first | exact hs.cells2 rfl rfl | exact (hs.pull 1).cells2 rfl rfl | exact (hs.pull 2).cells2 rfl rfl | exact (hs.pull 3).cells2 rfl rfl | exact (hs.pull 4).cells2 rfl rfl | exact (hs.pull 5).cells2 rfl rfl | exact (hs.pull 6).cells2 rfl rfl | exact (hs.pull 7).cells2 rfl rfl | exact (hs.pull 8).cells2 rfl rfl | exact hs.cell rfl | exact (hs.pull 1).cell rfl | exact (hs.pull 2).cell rfl | exact (hs.pull 3).cell rfl | exact (hs.pull 4).cell rfl | exact (hs.pull 5).cell rfl | exact (hs.pull 6).cell rfl | exact (hs.pull 7).cell rfl | exact (hs.pull 8).cell rfl | assumption | exact hs.cellsOf | exact (hs.pull 1).cellsOf | exact (hs.pull 2).cellsOf | exact (hs.pull 3).cellsOf | exact (hs.pull 4).cellsOf | exact (hs.pull 5).cellsOf | exact (hs.pull 6).cellsOf | exact (hs.pull 7).cellsOf | exact (hs.pull 8).cellsOf) | (and_intros <;> first | exact hs.cells2 rfl rfl | exact (hs.pull 1).cells2 rfl rfl | exact (hs.pull 2).cells2 rfl rfl | exact (hs.pull 3).cells2 rfl rfl | exact (hs.pull 4).cells2 rfl rfl | exact (hs.pull 5).cells2 rfl rfl | exact (hs.pull 6).cells2 rfl rfl | exact (hs.pull 7).cells2 rfl rfl | exact (hs.pull 8).cells2 rfl rfl | exact hs.cell rfl | exact (hs.pull 1).cell rfl | exact (hs.pull 2).cell rfl | exact (hs.pull 3).cell rfl | exact (hs.pull 4).cell rfl | exact (hs.pull 5).cell rfl | exact (hs.pull 6).cell rfl | exact (hs.pull 7).cell rfl | exact (hs.pull 8).cell rfl | assumption | exact hs.cellsOf | exact (hs.pull 1).cellsOf | exact (hs.pull 2).cellsOf | exact (hs.pull 3).cellsOf | exact (hs.pull 4).cellsOf | exact (hs.pull 5).cellsOf | exact (hs.pull 6).cellsOf | exact (hs.pull 7).cellsOf | exact (hs.pull 8).cellsOf)), ?_⟩
    refine x_assign (.int _ _) rfl ?_
    refine x_assign (.slice _ _ _) rfl ?_
    refine x_assign (.bool _) rfl ?_
    refine x_nil ?_
    refine then_n ?_
    refine c_ret ?_
    refine ⟨.inr rfl, ?_⟩
    have hr := nextR_none (ws := s.ws) (A := getN s.last) (turn := s.turn) (mem := s.mem) (fun j hj => hno j (by omega))
    have hrn : s.next = ⟨⟨0, 0⟩, 0, [], false⟩ := hr
    rw [hrn]
    exact ⟨b2, [.int .u16 0, .int .u32 0], rfl, rfl, (hs.pull 4).cellsAt, _, rfl, Sat.rowNil (hs.sel [0, 1, 2, 3] 5).io'⟩
/-! ### Done -/
def bad (p : Pid) (n : Nat) (k : Key) : Prop := k.1 = p ∧ k.2 ≤ n
instance (p : Pid) (n : Nat) (k : Key) : Decidable (bad p n k) := by unfold bad; infer_instance
def wsDone (p : Pid) (n : Nat) (ws : List (Key × List UInt8)) : List (Key × List UInt8) := ws.filter fun x => decide (¬ bad p n x.1)
def ISt.doneOk (s : ISt) (p : Pid) (n : Nat) : Prop := p ∈ s.mem ∧ getN s.last p < n
instance (s : ISt) (p : Pid) (n : Nat) : Decidable (s.doneOk p n) := by unfold ISt.doneOk; infer_instance
def ISt.done (s : ISt) (p : Pid) (n : Nat) : ISt := if s.doneOk p n then { s with last := mset p n s.last, ws := wsDone p n s.ws, turn := s.mem.idxOf p + 1 } else s
/-- what is there while some are taken out -/
def keep (p : Pid) (n : Nat) (lt : List Key) (e0 : List (Key × Value × List UInt8)) : List (Key × Value × List UInt8) := e0.filter fun x => decide (¬ bad p n x.1 ∨ x.1 ∈ lt)
theorem mdel_filter {β : Type} {k : Key} : ∀ {t : List (Key × β)}, (t.map (·.1)).Nodup → mdel k t = t.filter fun y => decide (y.1 ≠ k)
  | [], _ => rfl
  | (a, x) :: t, h => by
    simp only [List.map_cons, List.nodup_cons] at h
    have ih := mdel_filter (k := k) h.2
    by_cases ha : k = a
    · subst ha
      have : t.filter (fun y => decide (y.1 ≠ k)) = t := List.filter_eq_self.2 fun y hy => by
        have : y.1 ≠ k := fun e => h.1 (e ▸ List.mem_map_of_mem (f := (·.1)) hy)
        simpa using this
      rw [List.filter_cons_of_neg (by simp), this]
      simp only [mdel, if_pos]
    · simp only [mdel, if_neg ha]
      rw [List.filter_cons_of_pos (by simpa using fun e => ha e.symm), ih]
theorem nodup_idx {l : List Key} (h : l.Nodup) {j : Nat} (hj : j < l.length) : l.idxOf l[j] = j := by
  have hi : l.idxOf l[j] < l.length := List.idxOf_lt_length_of_mem (List.getElem_mem hj)
  have e : l[l.idxOf l[j]] = l[j] := List.getElem_idxOf hi
  rw [List.nodup_iff_pairwise_ne, List.pairwise_iff_getElem] at h
  rcases Nat.lt_trichotomy (l.idxOf l[j]) j with hlt | heq | hlt
  · exact absurd e (h _ _ hi hj hlt)
  · exact heq
  · exact absurd e.symm (h _ _ hj hi hlt)
theorem mdel_none {β : Type} {k : Key} : ∀ {t : List (Key × β)}, mget k t = none → mdel k t = t
  | [], _ => rfl
  | (a, x) :: t, h => by
    simp only [mget] at h
    split at h
    · cases h
    · rename_i hne
      simp only [mdel, if_neg hne, mdel_none h]
theorem eeDel {k : Key} {w0 w : World} {e : List (Key × Value × List UInt8)} {L : List HP} (hs : Sat w0 w (EE e :: L)) : Sat w0 w (EE (mdel k e) :: L) := by
  rcases hg : mget k e with _ | ⟨v, b⟩
  · rw [mdel_none hg]; exact hs
  · exact (hs.eeGet hg).tail
theorem keep_del {p : Pid} {n : Nat} {lt : List Key} {e0 : List (Key × Value × List UInt8)} {i : Nat} {k : Key} (h0 : (e0.map (·.1)).Nodup) (hlt : lt.Nodup) (hi : lt[i]? = some k) (hb : bad p n k) : mdel k (keep p n lt e0) = keep p n (lt.eraseIdx i) e0 := by
  have hn : ((keep p n lt e0).map (·.1)).Nodup := h0.sublist (List.Sublist.map _ List.filter_sublist)
  rw [mdel_filter hn]
  unfold keep
  rw [List.filter_filter]
  refine List.filter_congr fun x hx => ?_
  have hmem : x.1 ∈ lt.eraseIdx i ↔ x.1 ∈ lt ∧ x.1 ≠ k := by
    have he : lt.eraseIdx i = lt.erase k := by
      have hil : i < lt.length := (List.getElem?_eq_some_iff.1 hi).1
      rw [List.erase_eq_eraseIdx_of_idxOf (i := i)]
      · rw [← (List.getElem?_eq_some_iff.1 hi).2]
        exact nodup_idx hlt hil
    rw [he]
    exact ⟨fun h => ⟨List.mem_of_mem_erase h, fun e => by subst e; exact (List.Nodup.not_mem_erase hlt) h⟩, fun h => (List.mem_erase_of_ne h.2).2 h.1⟩
  by_cases hxk : x.1 = k
  · have hk' : ¬ k ∈ lt.eraseIdx i := fun h => by rw [← hxk] at h; exact (hmem.1 h).2 hxk
    simp [hxk, hk', hb]
  · simp [hxk, hmem]
theorem keep_skip {p : Pid} {n : Nat} {lt : List Key} {e0 : List (Key × Value × List UInt8)} {i : Nat} {k : Key} (hlt : lt.Nodup) (hi : lt[i]? = some k) (hb : ¬ bad p n k) : keep p n lt e0 = keep p n (lt.eraseIdx i) e0 := by
  unfold keep
  refine List.filter_congr fun x hx => ?_
  have hmem : x.1 ∈ lt.eraseIdx i ↔ x.1 ∈ lt ∧ x.1 ≠ k := by
    have he : lt.eraseIdx i = lt.erase k := by
      have hil : i < lt.length := (List.getElem?_eq_some_iff.1 hi).1
      rw [List.erase_eq_eraseIdx_of_idxOf (i := i)]
      · rw [← (List.getElem?_eq_some_iff.1 hi).2]
        exact nodup_idx hlt hil
    rw [he]
    exact ⟨fun h => ⟨List.mem_of_mem_erase h, fun e => by subst e; exact (List.Nodup.not_mem_erase hlt) h⟩, fun h => (List.mem_erase_of_ne h.2).2 h.1⟩
  by_cases hxk : x.1 = k
  · simp [hxk, hb]
  · simp [hxk, hmem]
theorem keep_nil (p : Pid) (n : Nat) (e0 : List (Key × Value × List UInt8)) : (keep p n [] e0).map (fun x => (x.1, x.2.2)) = wsDone p n (e0.map fun x => (x.1, x.2.2)) := by
  unfold keep wsDone
  rw [List.filter_map]
  congr 1
  refine List.filter_congr fun x hx => ?_
  simp
theorem keep_all (p : Pid) (n : Nat) (e0 : List (Key × Value × List UInt8)) : keep p n (e0.map (·.1)) e0 = e0 := by
  unfold keep
  rw [List.filter_eq_self]
  intro x hx
  simp only [decide_eq_true_eq]
  exact .inr (List.mem_map_of_mem hx)
set_option maxHeartbeats 2000000 in
theorem idone_calls {w0 w : World} {L : List HP} {f : Nat} {s : ISt} (p : Pid) (n : Nat) (hs : Sat w0 w (IO f s :: L)) (hm : s.mem.length ≤ 1000) :
    Calls Try.prog 13 #[.pointer (some ⟨f, 0, none⟩), .agg #[.int .u16 (p.Id : Nat), .int .u32 (p.Inc : Nat)], .int .u64 (n : Nat)] w fun e w' => e = .returned (.bool (decide (s.doneOk p n))) ∧ Sat w0 w' (IO f (s.done p n) :: L) := by
  obtain ⟨a, c, M1, M2, hs⟩ := hs.io
  have hlv := fmk_get s.last p
  by_cases hp : p ∈ s.mem
  rotate_left
  · have hno : ¬ s.doneOk p n := fun h => hp h.1
    unfold ISt.done
    rw [if_neg hno, decide_eq_false hno]
    refine enter Try.func13 rfl Try.ntmps13 6 rfl (Nat.le_of_ble_eq_true rfl) ?_
    refine c_seq ?_
    -- region 0
    refine c_region ?_
    refine x_box hs (.agg #[_, _]) rfl ?_; clear hs; intro b4 w hs; refine ⟨fun h => (by first | (cases h; done) | (first | exact hs.cells2 rfl rfl | exact (hs.pull 1).cells2 rfl rfl | exact (hs.pull 2).cells2 rfl rfl | exact (hs.pull 3).cells2 rfl rfl | exact (hs.pull 4).cells2 rfl rfl | exact (hs.pull 5).cells2 rfl rfl | exact (hs.pull 6).cells2 rfl rfl | exact (hs.pull 7).cells2 rfl rfl | exact (hs.pull 8).cells2 rfl rfl | exact hs.cell rfl | exact (hs.pull 1).cell rfl | exact (hs.pull 2).cell rfl | exact (hs.pull 3).cell rfl | exact (hs.pull 4).cell rfl | exact (hs.pull 5).cell rfl | exact (hs.pull 6).cell rfl | exact (hs.pull 7).cell rfl | exact (hs.pull 8).cell rfl | assumption | exact hs.cellsOf | exact (hs.pull 1).cellsOf | exact (hs.pull 2).cellsOf | exact (hs.pull 3).cellsOf | exact (hs.pull 4).cellsOf | exact (hs.pull 5).cellsOf | exact (hs.pull 6).cellsOf | exact (hs.pull 7).cellsOf | exact (hs.pull 8).cellsOf) | (and_intros <;> first | exact hs.cells2 rfl rfl | exact (hs.pull 1).cells2 rfl rfl | exact (hs.pull 2).cells2 rfl rfl | exact (hs.pull 3).cells2 rfl rfl | exact (hs.pull 4).cells2 rfl rfl | exact (hs.pull 5).cells2 rfl rfl | exact (hs.pull 6).cells2 rfl rfl | exact (hs.pull 7).cells2 rfl rfl | exact (hs.pull 8).cells2 rfl rfl | exact hs.cell rfl | exact (hs.pull 1).cell rfl | exact (hs.pull 2).cell rfl | exact (hs.pull 3).cell rfl | exact (hs.pull 4).cell rfl | exact (hs.pull 5).cell rfl | exact (hs.pull 6).cell rfl | exact (hs.pull 7).cell rfl | exact (hs.pull 8).cell rfl | assumption | exact hs.cellsOf | exact (hs.pull 1).cellsOf | exact (hs.pull 2).cellsOf | exact (hs.pull 3).cellsOf | exact (hs.pull 4).cellsOf | exact (hs.pull 5).cellsOf | exact (hs.pull 6).cellsOf | exact (hs.pull 7).cellsOf | exact (hs.pull 8).cellsOf)), ?_⟩
    refine x_assign (.bool _) rfl ?_
    refine x_nil ?_
    refine then_n ?_
    refine c_seq ?_
    refine c_seq ?_
    -- region 1
    refine c_region ?_
    refine x_move (.pointer _) rfl ?_
    refine x_eqlNil Try.underlying30 _ rfl rfl ?_
    refine x_nil ?_
    refine then_n ?_
    refine c_false rfl ?_
    refine c_skip ?_
    refine then_n ?_
    refine c_seq ?_
    -- region 3 DRAWS
    refine c_draw (fun w => (∀ (j : Nat) (u : Value), [Value.int .u16 (p.Id : Nat), Value.int .u32 (p.Inc : Nat)][j]? = some u → w.cell? ((⟨b4, 0, none⟩ : Addr).add j) = some u) ∧ w.cell? ⟨f, 1, none⟩ = some (.slice a s.mem.length c)) (fun i => !(Nat.beq i 5)) [(0, 2), (1, 2), (2, 2), (3, 1), (4, 1), (5, 0), (6, 2)] (by kernel_rfl) (by kernel_rfl) (by kernel_rfl) (by kernel_rfl) ((by first | (first | exact hs.cells2 rfl rfl | exact (hs.pull 1).cells2 rfl rfl | exact (hs.pull 2).cells2 rfl rfl | exact (hs.pull 3).cells2 rfl rfl | exact (hs.pull 4).cells2 rfl rfl | exact (hs.pull 5).cells2 rfl rfl | exact (hs.pull 6).cells2 rfl rfl | exact (hs.pull 7).cells2 rfl rfl | exact (hs.pull 8).cells2 rfl rfl | exact hs.cell rfl | exact (hs.pull 1).cell rfl | exact (hs.pull 2).cell rfl | exact (hs.pull 3).cell rfl | exact (hs.pull 4).cell rfl | exact (hs.pull 5).cell rfl | exact (hs.pull 6).cell rfl | exact (hs.pull 7).cell rfl | exact (hs.pull 8).cell rfl | assumption | exact hs.cellsOf | exact (hs.pull 1).cellsOf | exact (hs.pull 2).cellsOf | exact (hs.pull 3).cellsOf | exact (hs.pull 4).cellsOf | exact (hs.pull 5).cellsOf | exact (hs.pull 6).cellsOf | exact (hs.pull 7).cellsOf | exact (hs.pull 8).cellsOf) | (and_intros <;> first | exact hs.cells2 rfl rfl | exact (hs.pull 1).cells2 rfl rfl | exact (hs.pull 2).cells2 rfl rfl | exact (hs.pull 3).cells2 rfl rfl | exact (hs.pull 4).cells2 rfl rfl | exact (hs.pull 5).cells2 rfl rfl | exact (hs.pull 6).cells2 rfl rfl | exact (hs.pull 7).cells2 rfl rfl | exact (hs.pull 8).cells2 rfl rfl | exact hs.cell rfl | exact (hs.pull 1).cell rfl | exact (hs.pull 2).cell rfl | exact (hs.pull 3).cell rfl | exact (hs.pull 4).cell rfl | exact (hs.pull 5).cell rfl | exact (hs.pull 6).cell rfl | exact (hs.pull 7).cell rfl | exact (hs.pull 8).cell rfl | assumption | exact hs.cellsOf | exact (hs.pull 1).cellsOf | exact (hs.pull 2).cellsOf | exact (hs.pull 3).cellsOf | exact (hs.pull 4).cellsOf | exact (hs.pull 5).cellsOf | exact (hs.pull 6).cellsOf | exact (hs.pull 7).cellsOf | exact (hs.pull 8).cellsOf))) ?_
    replace hs := hs.drew
    refine x_move (.pointer _) rfl ?_
    refine x_nilCheck _ rfl ?_
    first | refine x_field0 fa_69_1 _ rfl ?_ | refine x_field fa_69_1 _ _ rfl ?_
    refine h_load one_23 _ (.slice _ _ _) rfl (fun w hS => by first | exact hS.cell rfl | exact (hS.pull 1).cell rfl | exact (hS.pull 2).cell rfl | exact (hS.pull 3).cell rfl | exact (hS.pull 4).cell rfl | exact (hS.pull 5).cell rfl | exact (hS.pull 6).cell rfl | exact hS | exact hS.1 | exact hS.2 | exact hS.2.1 | exact hS.2.2 | exact hS.2.2.1 | exact hS.2.2.2 | exact hS.2.2.2.1 | exact hS.2.2.2.2) ?_
    refine h_loadN [_, _] agg_35 _ rfl (fun w hS => by first | exact hS | exact hS.1 | exact hS.2 | exact hS.2.1 | exact hS.2.2 | exact hS.2.2.1 | exact hS.2.2.2 | exact hS.2.2.2.1 | exact hS.2.2.2.2 | exact hS.cellsOf | exact (hS.pull 1).cellsOf | exact (hS.pull 2).cellsOf | exact (hS.pull 3).cellsOf | exact (hS.pull 4).cellsOf | exact (hS.pull 5).cellsOf | exact (hS.pull 6).cellsOf | exact hS.cells2 rfl rfl | exact (hS.pull 1).cells2 rfl rfl | exact (hS.pull 2).cells2 rfl rfl | exact (hS.pull 3).cells2 rfl rfl | exact (hS.pull 4).cells2 rfl rfl | exact (hS.pull 5).cells2 rfl rfl | exact (hS.pull 6).cells2 rfl rfl) ?_
    refine x_call Try.f29 Try.func29 rfl rfl _ rfl ?_
    refine (index_calls p (hs.pull 2) (fun w' L' h => h.prs) (by omega)).mono ?_
    clear hs; rintro e w ⟨rfl, hs⟩
    replace hs := hs.push 2
    try dsimp only [back] at hs
    refine ⟨_, rfl, fun h => (by first | (cases h; done) | (first | exact hs.cells2 rfl rfl | exact (hs.pull 1).cells2 rfl rfl | exact (hs.pull 2).cells2 rfl rfl | exact (hs.pull 3).cells2 rfl rfl | exact (hs.pull 4).cells2 rfl rfl | exact (hs.pull 5).cells2 rfl rfl | exact (hs.pull 6).cells2 rfl rfl | exact (hs.pull 7).cells2 rfl rfl | exact (hs.pull 8).cells2 rfl rfl | exact hs.cell rfl | exact (hs.pull 1).cell rfl | exact (hs.pull 2).cell rfl | exact (hs.pull 3).cell rfl | exact (hs.pull 4).cell rfl | exact (hs.pull 5).cell rfl | exact (hs.pull 6).cell rfl | exact (hs.pull 7).cell rfl | exact (hs.pull 8).cell rfl | assumption | exact hs.cellsOf | exact (hs.pull 1).cellsOf | exact (hs.pull 2).cellsOf | exact (hs.pull 3).cellsOf | exact (hs.pull 4).cellsOf | exact (hs.pull 5).cellsOf | exact (hs.pull 6).cellsOf | exact (hs.pull 7).cellsOf | exact (hs.pull 8).cellsOf) | (and_intros <;> first | exact hs.cells2 rfl rfl | exact (hs.pull 1).cells2 rfl rfl | exact (hs.pull 2).cells2 rfl rfl | exact (hs.pull 3).cells2 rfl rfl | exact (hs.pull 4).cells2 rfl rfl | exact (hs.pull 5).cells2 rfl rfl | exact (hs.pull 6).cells2 rfl rfl | exact (hs.pull 7).cells2 rfl rfl | exact (hs.pull 8).cells2 rfl rfl | exact hs.cell rfl | exact (hs.pull 1).cell rfl | exact (hs.pull 2).cell rfl | exact (hs.pull 3).cell rfl | exact (hs.pull 4).cell rfl | exact (hs.pull 5).cell rfl | exact (hs.pull 6).cell rfl | exact (hs.pull 7).cell rfl | exact (hs.pull 8).cell rfl | assumption | exact hs.cellsOf | exact (hs.pull 1).cellsOf | exact (hs.pull 2).cellsOf | exact (hs.pull 3).cellsOf | exact (hs.pull 4).cellsOf | exact (hs.pull 5).cellsOf | exact (hs.pull 6).cellsOf | exact (hs.pull 7).cellsOf | exact (hs.pull 8).cellsOf)), ?_⟩
    rw [pix_none hp]
    refine x_assign (.int _ _) rfl ?_
    refine x_nil ?_
    refine then_n ?_
    refine c_seq ?_
    refine c_seq ?_
    -- region 4 DRAWS
    refine c_draw (fun w => SameL hs w) (fun i => !(false)) [(0, 2), (1, 2), (2, 2), (3, 2), (4, 2), (5, 2), (6, 2), (7, 1), (8, 1), (9, 1), (10, 2), (11, 2)] (by kernel_rfl) (by kernel_rfl) (by kernel_rfl) (by kernel_rfl) (hs.drew) ?_
    replace hs := hs.drew
    refine x_move (.int _ _) rfl ?_
    refine x_lssT _ _ rfl rfl (by omega) ?_
    refine x_move (.bool _) rfl ?_
    refine x_skip rfl rfl ?_
    refine x_skip rfl rfl ?_
    refine x_skip rfl rfl ?_
    refine x_skip rfl rfl ?_
    refine x_skip rfl rfl ?_
    refine x_skip rfl rfl ?_
    refine x_skip rfl rfl ?_
    refine x_skip rfl rfl ?_
    refine x_pickT (.bool _) rfl rfl ?_
    refine x_nil ?_
    refine then_n ?_
    refine c_true rfl ?_
    refine c_seq ?_
    -- region 5
    refine c_region ?_
    refine x_assign (.bool _) rfl ?_
    refine x_nil ?_
    refine then_n ?_
    refine c_ret ?_
    refine then_r ?_
    refine ⟨.inr rfl, ?_⟩
    exact ⟨rfl, hs.tail.io'⟩
  have hx : pix s.mem p = ((s.mem.idxOf p : Nat) : Int) := by unfold pix; rw [if_pos hp]
  have hxlt := pix_lt hp
  by_cases hn : getN s.last p < n
  rotate_left
  · have hno : ¬ s.doneOk p n := fun h => hn h.2
    unfold ISt.done
    rw [if_neg hno, decide_eq_false hno]
    refine enter Try.func13 rfl Try.ntmps13 6 rfl (Nat.le_of_ble_eq_true rfl) ?_
    refine c_seq ?_
    -- region 0
    refine c_region ?_
    refine x_box hs (.agg #[_, _]) rfl ?_; clear hs; intro b4 w hs; refine ⟨fun h => (by first | (cases h; done) | (first | exact hs.cells2 rfl rfl | exact (hs.pull 1).cells2 rfl rfl | exact (hs.pull 2).cells2 rfl rfl | exact (hs.pull 3).cells2 rfl rfl | exact (hs.pull 4).cells2 rfl rfl | exact (hs.pull 5).cells2 rfl rfl | exact (hs.pull 6).cells2 rfl rfl | exact (hs.pull 7).cells2 rfl rfl | exact (hs.pull 8).cells2 rfl rfl | exact hs.cell rfl | exact (hs.pull 1).cell rfl | exact (hs.pull 2).cell rfl | exact (hs.pull 3).cell rfl | exact (hs.pull 4).cell rfl | exact (hs.pull 5).cell rfl | exact (hs.pull 6).cell rfl | exact (hs.pull 7).cell rfl | exact (hs.pull 8).cell rfl | assumption | exact hs.cellsOf | exact (hs.pull 1).cellsOf | exact (hs.pull 2).cellsOf | exact (hs.pull 3).cellsOf | exact (hs.pull 4).cellsOf | exact (hs.pull 5).cellsOf | exact (hs.pull 6).cellsOf | exact (hs.pull 7).cellsOf | exact (hs.pull 8).cellsOf) | (and_intros <;> first | exact hs.cells2 rfl rfl | exact (hs.pull 1).cells2 rfl rfl | exact (hs.pull 2).cells2 rfl rfl | exact (hs.pull 3).cells2 rfl rfl | exact (hs.pull 4).cells2 rfl rfl | exact (hs.pull 5).cells2 rfl rfl | exact (hs.pull 6).cells2 rfl rfl | exact (hs.pull 7).cells2 rfl rfl | exact (hs.pull 8).cells2 rfl rfl | exact hs.cell rfl | exact (hs.pull 1).cell rfl | exact (hs.pull 2).cell rfl | exact (hs.pull 3).cell rfl | exact (hs.pull 4).cell rfl | exact (hs.pull 5).cell rfl | exact (hs.pull 6).cell rfl | exact (hs.pull 7).cell rfl | exact (hs.pull 8).cell rfl | assumption | exact hs.cellsOf | exact (hs.pull 1).cellsOf | exact (hs.pull 2).cellsOf | exact (hs.pull 3).cellsOf | exact (hs.pull 4).cellsOf | exact (hs.pull 5).cellsOf | exact (hs.pull 6).cellsOf | exact (hs.pull 7).cellsOf | exact (hs.pull 8).cellsOf)), ?_⟩
    refine x_assign (.bool _) rfl ?_
    refine x_nil ?_
    refine then_n ?_
    refine c_seq ?_
    refine c_seq ?_
    -- region 1
    refine c_region ?_
    refine x_move (.pointer _) rfl ?_
    refine x_eqlNil Try.underlying30 _ rfl rfl ?_
    refine x_nil ?_
    refine then_n ?_
    refine c_false rfl ?_
    refine c_skip ?_
    refine then_n ?_
    refine c_seq ?_
    -- region 3 DRAWS
    refine c_draw (fun w => (∀ (j : Nat) (u : Value), [Value.int .u16 (p.Id : Nat), Value.int .u32 (p.Inc : Nat)][j]? = some u → w.cell? ((⟨b4, 0, none⟩ : Addr).add j) = some u) ∧ w.cell? ⟨f, 1, none⟩ = some (.slice a s.mem.length c)) (fun i => !(Nat.beq i 5)) [(0, 2), (1, 2), (2, 2), (3, 1), (4, 1), (5, 0), (6, 2)] (by kernel_rfl) (by kernel_rfl) (by kernel_rfl) (by kernel_rfl) ((by first | (first | exact hs.cells2 rfl rfl | exact (hs.pull 1).cells2 rfl rfl | exact (hs.pull 2).cells2 rfl rfl | exact (hs.pull 3).cells2 rfl rfl | exact (hs.pull 4).cells2 rfl rfl | exact (hs.pull 5).cells2 rfl rfl | exact (hs.pull 6).cells2 rfl rfl | exact (hs.pull 7).cells2 rfl rfl | exact (hs.pull 8).cells2 rfl rfl | exact hs.cell rfl | exact (hs.pull 1).cell rfl | exact (hs.pull 2).cell rfl | exact (hs.pull 3).cell rfl | exact (hs.pull 4).cell rfl | exact (hs.pull 5).cell rfl | exact (hs.pull 6).cell rfl | exact (hs.pull 7).cell rfl | exact (hs.pull 8).cell rfl | assumption | exact hs.cellsOf | exact (hs.pull 1).cellsOf | exact (hs.pull 2).cellsOf | exact (hs.pull 3).cellsOf | exact (hs.pull 4).cellsOf | exact (hs.pull 5).cellsOf | exact (hs.pull 6).cellsOf | exact (hs.pull 7).cellsOf | exact (hs.pull 8).cellsOf) | (and_intros <;> first | exact hs.cells2 rfl rfl | exact (hs.pull 1).cells2 rfl rfl | exact (hs.pull 2).cells2 rfl rfl | exact (hs.pull 3).cells2 rfl rfl | exact (hs.pull 4).cells2 rfl rfl | exact (hs.pull 5).cells2 rfl rfl | exact (hs.pull 6).cells2 rfl rfl | exact (hs.pull 7).cells2 rfl rfl | exact (hs.pull 8).cells2 rfl rfl | exact hs.cell rfl | exact (hs.pull 1).cell rfl | exact (hs.pull 2).cell rfl | exact (hs.pull 3).cell rfl | exact (hs.pull 4).cell rfl | exact (hs.pull 5).cell rfl | exact (hs.pull 6).cell rfl | exact (hs.pull 7).cell rfl | exact (hs.pull 8).cell rfl | assumption | exact hs.cellsOf | exact (hs.pull 1).cellsOf | exact (hs.pull 2).cellsOf | exact (hs.pull 3).cellsOf | exact (hs.pull 4).cellsOf | exact (hs.pull 5).cellsOf | exact (hs.pull 6).cellsOf | exact (hs.pull 7).cellsOf | exact (hs.pull 8).cellsOf))) ?_
    replace hs := hs.drew
    refine x_move (.pointer _) rfl ?_
    refine x_nilCheck _ rfl ?_
    first | refine x_field0 fa_69_1 _ rfl ?_ | refine x_field fa_69_1 _ _ rfl ?_
    refine h_load one_23 _ (.slice _ _ _) rfl (fun w hS => by first | exact hS.cell rfl | exact (hS.pull 1).cell rfl | exact (hS.pull 2).cell rfl | exact (hS.pull 3).cell rfl | exact (hS.pull 4).cell rfl | exact (hS.pull 5).cell rfl | exact (hS.pull 6).cell rfl | exact hS | exact hS.1 | exact hS.2 | exact hS.2.1 | exact hS.2.2 | exact hS.2.2.1 | exact hS.2.2.2 | exact hS.2.2.2.1 | exact hS.2.2.2.2) ?_
    refine h_loadN [_, _] agg_35 _ rfl (fun w hS => by first | exact hS | exact hS.1 | exact hS.2 | exact hS.2.1 | exact hS.2.2 | exact hS.2.2.1 | exact hS.2.2.2 | exact hS.2.2.2.1 | exact hS.2.2.2.2 | exact hS.cellsOf | exact (hS.pull 1).cellsOf | exact (hS.pull 2).cellsOf | exact (hS.pull 3).cellsOf | exact (hS.pull 4).cellsOf | exact (hS.pull 5).cellsOf | exact (hS.pull 6).cellsOf | exact hS.cells2 rfl rfl | exact (hS.pull 1).cells2 rfl rfl | exact (hS.pull 2).cells2 rfl rfl | exact (hS.pull 3).cells2 rfl rfl | exact (hS.pull 4).cells2 rfl rfl | exact (hS.pull 5).cells2 rfl rfl | exact (hS.pull 6).cells2 rfl rfl) ?_
    refine x_call Try.f29 Try.func29 rfl rfl _ rfl ?_
    refine (index_calls p (hs.pull 2) (fun w' L' h => h.prs) (by omega)).mono ?_
    clear hs; rintro e w ⟨rfl, hs⟩
    replace hs := hs.push 2
    try dsimp only [back] at hs
    refine ⟨_, rfl, fun h => (by first | (cases h; done) | (first | exact hs.cells2 rfl rfl | exact (hs.pull 1).cells2 rfl rfl | exact (hs.pull 2).cells2 rfl rfl | exact (hs.pull 3).cells2 rfl rfl | exact (hs.pull 4).cells2 rfl rfl | exact (hs.pull 5).cells2 rfl rfl | exact (hs.pull 6).cells2 rfl rfl | exact (hs.pull 7).cells2 rfl rfl | exact (hs.pull 8).cells2 rfl rfl | exact hs.cell rfl | exact (hs.pull 1).cell rfl | exact (hs.pull 2).cell rfl | exact (hs.pull 3).cell rfl | exact (hs.pull 4).cell rfl | exact (hs.pull 5).cell rfl | exact (hs.pull 6).cell rfl | exact (hs.pull 7).cell rfl | exact (hs.pull 8).cell rfl | assumption | exact hs.cellsOf | exact (hs.pull 1).cellsOf | exact (hs.pull 2).cellsOf | exact (hs.pull 3).cellsOf | exact (hs.pull 4).cellsOf | exact (hs.pull 5).cellsOf | exact (hs.pull 6).cellsOf | exact (hs.pull 7).cellsOf | exact (hs.pull 8).cellsOf) | (and_intros <;> first | exact hs.cells2 rfl rfl | exact (hs.pull 1).cells2 rfl rfl | exact (hs.pull 2).cells2 rfl rfl | exact (hs.pull 3).cells2 rfl rfl | exact (hs.pull 4).cells2 rfl rfl | exact (hs.pull 5).cells2 rfl rfl | exact (hs.pull 6).cells2 rfl rfl | exact (hs.pull 7).cells2 rfl rfl | exact (hs.pull 8).cells2 rfl rfl | exact hs.cell rfl | exact (hs.pull 1).cell rfl | exact (hs.pull 2).cell rfl | exact (hs.pull 3).cell rfl | exact (hs.pull 4).cell rfl | exact (hs.pull 5).cell rfl | exact (hs.pull 6).cell rfl | exact (hs.pull 7).cell rfl | exact (hs.pull 8).cell rfl | assumption | exact hs.cellsOf | exact (hs.pull 1).cellsOf | exact (hs.pull 2).cellsOf | exact (hs.pull 3).cellsOf | exact (hs.pull 4).cellsOf | exact (hs.pull 5).cellsOf | exact (hs.pull 6).cellsOf | exact (hs.pull 7).cellsOf | exact (hs.pull 8).cellsOf)), ?_⟩
    rw [hx]
    refine x_assign (.int _ _) rfl ?_
    refine x_nil ?_
    refine then_n ?_
    refine c_seq ?_
    refine c_seq ?_
    -- region 4 DRAWS
    refine c_draw (fun w => SameL hs w) (fun i => !(false)) [(0, 2), (1, 2), (2, 2), (3, 2), (4, 2), (5, 2), (6, 2), (7, 1), (8, 1), (9, 1), (10, 2), (11, 2)] (by kernel_rfl) (by kernel_rfl) (by kernel_rfl) (by kernel_rfl) (hs.drew) ?_
    replace hs := hs.drew
    refine x_move (.int _ _) rfl ?_
    refine x_lssF _ _ rfl rfl (by omega) ?_
    refine x_move (.bool _) rfl ?_
    refine x_want' rfl ?_
    refine x_move (.int _ _) rfl ?_
    refine x_want' rfl ?_
    refine x_move (.pointer _) rfl ?_
    refine x_want' rfl ?_
    refine x_nilCheck _ rfl ?_
    refine x_want' rfl ?_
    first | refine x_field0 fa_69_2 _ rfl ?_ | refine x_field fa_69_2 _ _ rfl ?_
    refine x_want' rfl ?_
    refine h_load one_66 _ (.map _) rfl (fun w hS => by first | exact hS.cell rfl | exact (hS.pull 1).cell rfl | exact (hS.pull 2).cell rfl | exact (hS.pull 3).cell rfl | exact (hS.pull 4).cell rfl | exact (hS.pull 5).cell rfl | exact (hS.pull 6).cell rfl | exact hS | exact hS.1 | exact hS.2 | exact hS.2.1 | exact hS.2.2 | exact hS.2.2.1 | exact hS.2.2.2 | exact hS.2.2.2.1 | exact hS.2.2.2.2) ?_
    refine x_want' rfl ?_
    refine h_loadN [_, _] agg_35 _ rfl (fun w hS => by first | exact hS | exact hS.1 | exact hS.2 | exact hS.2.1 | exact hS.2.2 | exact hS.2.2.1 | exact hS.2.2.2 | exact hS.2.2.2.1 | exact hS.2.2.2.2 | exact hS.cellsOf | exact (hS.pull 1).cellsOf | exact (hS.pull 2).cellsOf | exact (hS.pull 3).cellsOf | exact (hS.pull 4).cellsOf | exact (hS.pull 5).cellsOf | exact (hS.pull 6).cellsOf | exact hS.cells2 rfl rfl | exact (hS.pull 1).cells2 rfl rfl | exact (hS.pull 2).cells2 rfl rfl | exact (hS.pull 3).cells2 rfl rfl | exact (hS.pull 4).cells2 rfl rfl | exact (hS.pull 5).cells2 rfl rfl | exact (hS.pull 6).cells2 rfl rfl) ?_
    refine x_want' rfl ?_
    refine h_lookup1 mt_last ko_pid p _ (fun w hS => ⟨_, _, hS.pull 3⟩) rfl rfl hlv ?_
    refine x_want' rfl ?_
    refine x_leqT _ _ rfl rfl (by omega) ?_
    refine x_pickF (.bool _) rfl rfl ?_
    refine x_nil ?_
    refine then_n ?_
    refine c_true rfl ?_
    refine c_seq ?_
    -- region 5
    refine c_region ?_
    refine x_assign (.bool _) rfl ?_
    refine x_nil ?_
    refine then_n ?_
    refine c_ret ?_
    refine then_r ?_
    refine ⟨.inr rfl, ?_⟩
    exact ⟨rfl, hs.tail.io'⟩
  have hyes : s.doneOk p n := ⟨hp, hn⟩
  unfold ISt.done
  rw [if_pos hyes, decide_eq_true hyes]
  refine enter Try.func13 rfl Try.ntmps13 6 rfl (Nat.le_of_ble_eq_true rfl) ?_
  refine c_seq ?_
  -- region 0
  refine c_region ?_
  refine x_box hs (.agg #[_, _]) rfl ?_; clear hs; intro b4 w hs; refine ⟨fun h => (by first | (cases h; done) | (first | exact hs.cells2 rfl rfl | exact (hs.pull 1).cells2 rfl rfl | exact (hs.pull 2).cells2 rfl rfl | exact (hs.pull 3).cells2 rfl rfl | exact (hs.pull 4).cells2 rfl rfl | exact (hs.pull 5).cells2 rfl rfl | exact (hs.pull 6).cells2 rfl rfl | exact (hs.pull 7).cells2 rfl rfl | exact (hs.pull 8).cells2 rfl rfl | exact hs.cell rfl | exact (hs.pull 1).cell rfl | exact (hs.pull 2).cell rfl | exact (hs.pull 3).cell rfl | exact (hs.pull 4).cell rfl | exact (hs.pull 5).cell rfl | exact (hs.pull 6).cell rfl | exact (hs.pull 7).cell rfl | exact (hs.pull 8).cell rfl | assumption | exact hs.cellsOf | exact (hs.pull 1).cellsOf | exact (hs.pull 2).cellsOf | exact (hs.pull 3).cellsOf | exact (hs.pull 4).cellsOf | exact (hs.pull 5).cellsOf | exact (hs.pull 6).cellsOf | exact (hs.pull 7).cellsOf | exact (hs.pull 8).cellsOf) | (and_intros <;> first | exact hs.cells2 rfl rfl | exact (hs.pull 1).cells2 rfl rfl | exact (hs.pull 2).cells2 rfl rfl | exact (hs.pull 3).cells2 rfl rfl | exact (hs.pull 4).cells2 rfl rfl | exact (hs.pull 5).cells2 rfl rfl | exact (hs.pull 6).cells2 rfl rfl | exact (hs.pull 7).cells2 rfl rfl | exact (hs.pull 8).cells2 rfl rfl | exact hs.cell rfl | exact (hs.pull 1).cell rfl | exact (hs.pull 2).cell rfl | exact (hs.pull 3).cell rfl | exact (hs.pull 4).cell rfl | exact (hs.pull 5).cell rfl | exact (hs.pull 6).cell rfl | exact (hs.pull 7).cell rfl | exact (hs.pull 8).cell rfl | assumption | exact hs.cellsOf | exact (hs.pull 1).cellsOf | exact (hs.pull 2).cellsOf | exact (hs.pull 3).cellsOf | exact (hs.pull 4).cellsOf | exact (hs.pull 5).cellsOf | exact (hs.pull 6).cellsOf | exact (hs.pull 7).cellsOf | exact (hs.pull 8).cellsOf)), ?_⟩
  refine x_assign (.bool _) rfl ?_
  refine x_nil ?_
  refine then_n ?_
  refine c_seq ?_
  refine c_seq ?_
  -- region 1
  refine c_region ?_
  refine x_move (.pointer _) rfl ?_
  refine x_eqlNil Try.underlying30 _ rfl rfl ?_
  refine x_nil ?_
  refine then_n ?_
  refine c_false rfl ?_
  refine c_skip ?_
  refine then_n ?_
  refine c_seq ?_
  -- region 3 DRAWS
  refine c_draw (fun w => (∀ (j : Nat) (u : Value), [Value.int .u16 (p.Id : Nat), Value.int .u32 (p.Inc : Nat)][j]? = some u → w.cell? ((⟨b4, 0, none⟩ : Addr).add j) = some u) ∧ w.cell? ⟨f, 1, none⟩ = some (.slice a s.mem.length c)) (fun i => !(Nat.beq i 5)) [(0, 2), (1, 2), (2, 2), (3, 1), (4, 1), (5, 0), (6, 2)] (by kernel_rfl) (by kernel_rfl) (by kernel_rfl) (by kernel_rfl) ((by first | (first | exact hs.cells2 rfl rfl | exact (hs.pull 1).cells2 rfl rfl | exact (hs.pull 2).cells2 rfl rfl | exact (hs.pull 3).cells2 rfl rfl | exact (hs.pull 4).cells2 rfl rfl | exact (hs.pull 5).cells2 rfl rfl | exact (hs.pull 6).cells2 rfl rfl | exact (hs.pull 7).cells2 rfl rfl | exact (hs.pull 8).cells2 rfl rfl | exact hs.cell rfl | exact (hs.pull 1).cell rfl | exact (hs.pull 2).cell rfl | exact (hs.pull 3).cell rfl | exact (hs.pull 4).cell rfl | exact (hs.pull 5).cell rfl | exact (hs.pull 6).cell rfl | exact (hs.pull 7).cell rfl | exact (hs.pull 8).cell rfl | assumption | exact hs.cellsOf | exact (hs.pull 1).cellsOf | exact (hs.pull 2).cellsOf | exact (hs.pull 3).cellsOf | exact (hs.pull 4).cellsOf | exact (hs.pull 5).cellsOf | exact (hs.pull 6).cellsOf | exact (hs.pull 7).cellsOf | exact (hs.pull 8).cellsOf) | (and_intros <;> first | exact hs.cells2 rfl rfl | exact (hs.pull 1).cells2 rfl rfl | exact (hs.pull 2).cells2 rfl rfl | exact (hs.pull 3).cells2 rfl rfl | exact (hs.pull 4).cells2 rfl rfl | exact (hs.pull 5).cells2 rfl rfl | exact (hs.pull 6).cells2 rfl rfl | exact (hs.pull 7).cells2 rfl rfl | exact (hs.pull 8).cells2 rfl rfl | exact hs.cell rfl | exact (hs.pull 1).cell rfl | exact (hs.pull 2).cell rfl | exact (hs.pull 3).cell rfl | exact (hs.pull 4).cell rfl | exact (hs.pull 5).cell rfl | exact (hs.pull 6).cell rfl | exact (hs.pull 7).cell rfl | exact (hs.pull 8).cell rfl | assumption | exact hs.cellsOf | exact (hs.pull 1).cellsOf | exact (hs.pull 2).cellsOf | exact (hs.pull 3).cellsOf | exact (hs.pull 4).cellsOf | exact (hs.pull 5).cellsOf | exact (hs.pull 6).cellsOf | exact (hs.pull 7).cellsOf | exact (hs.pull 8).cellsOf))) ?_
  replace hs := hs.drew
  refine x_move (.pointer _) rfl ?_
  refine x_nilCheck _ rfl ?_
  first | refine x_field0 fa_69_1 _ rfl ?_ | refine x_field fa_69_1 _ _ rfl ?_
  refine h_load one_23 _ (.slice _ _ _) rfl (fun w hS => by first | exact hS.cell rfl | exact (hS.pull 1).cell rfl | exact (hS.pull 2).cell rfl | exact (hS.pull 3).cell rfl | exact (hS.pull 4).cell rfl | exact (hS.pull 5).cell rfl | exact (hS.pull 6).cell rfl | exact hS | exact hS.1 | exact hS.2 | exact hS.2.1 | exact hS.2.2 | exact hS.2.2.1 | exact hS.2.2.2 | exact hS.2.2.2.1 | exact hS.2.2.2.2) ?_
  refine h_loadN [_, _] agg_35 _ rfl (fun w hS => by first | exact hS | exact hS.1 | exact hS.2 | exact hS.2.1 | exact hS.2.2 | exact hS.2.2.1 | exact hS.2.2.2 | exact hS.2.2.2.1 | exact hS.2.2.2.2 | exact hS.cellsOf | exact (hS.pull 1).cellsOf | exact (hS.pull 2).cellsOf | exact (hS.pull 3).cellsOf | exact (hS.pull 4).cellsOf | exact (hS.pull 5).cellsOf | exact (hS.pull 6).cellsOf | exact hS.cells2 rfl rfl | exact (hS.pull 1).cells2 rfl rfl | exact (hS.pull 2).cells2 rfl rfl | exact (hS.pull 3).cells2 rfl rfl | exact (hS.pull 4).cells2 rfl rfl | exact (hS.pull 5).cells2 rfl rfl | exact (hS.pull 6).cells2 rfl rfl) ?_
  refine x_call Try.f29 Try.func29 rfl rfl _ rfl ?_
  refine (index_calls p (hs.pull 2) (fun w' L' h => h.prs) (by omega)).mono ?_
  clear hs; rintro e w ⟨rfl, hs⟩
  replace hs := hs.push 2
  try dsimp only [back] at hs
  refine ⟨_, rfl, fun h => (by first | (cases h; done) | (first | exact hs.cells2 rfl rfl | exact (hs.pull 1).cells2 rfl rfl | exact (hs.pull 2).cells2 rfl rfl | exact (hs.pull 3).cells2 rfl rfl | exact (hs.pull 4).cells2 rfl rfl | exact (hs.pull 5).cells2 rfl rfl | exact (hs.pull 6).cells2 rfl rfl | exact (hs.pull 7).cells2 rfl rfl | exact (hs.pull 8).cells2 rfl rfl | exact hs.cell rfl | exact (hs.pull 1).cell rfl | exact (hs.pull 2).cell rfl | exact (hs.pull 3).cell rfl | exact (hs.pull 4).cell rfl | exact (hs.pull 5).cell rfl | exact (hs.pull 6).cell rfl | exact (hs.pull 7).cell rfl | exact (hs.pull 8).cell rfl | assumption | exact hs.cellsOf | exact (hs.pull 1).cellsOf | exact (hs.pull 2).cellsOf | exact (hs.pull 3).cellsOf | exact (hs.pull 4).cellsOf | exact (hs.pull 5).cellsOf | exact (hs.pull 6).cellsOf | exact (hs.pull 7).cellsOf | exact (hs.pull 8).cellsOf) | (and_intros <;> first | exact hs.cells2 rfl rfl | exact (hs.pull 1).cells2 rfl rfl | exact (hs.pull 2).cells2 rfl rfl | exact (hs.pull 3).cells2 rfl rfl | exact (hs.pull 4).cells2 rfl rfl | exact (hs.pull 5).cells2 rfl rfl | exact (hs.pull 6).cells2 rfl rfl | exact (hs.pull 7).cells2 rfl rfl | exact (hs.pull 8).cells2 rfl rfl | exact hs.cell rfl | exact (hs.pull 1).cell rfl | exact (hs.pull 2).cell rfl | exact (hs.pull 3).cell rfl | exact (hs.pull 4).cell rfl | exact (hs.pull 5).cell rfl | exact (hs.pull 6).cell rfl | exact (hs.pull 7).cell rfl | exact (hs.pull 8).cell rfl | assumption | exact hs.cellsOf | exact (hs.pull 1).cellsOf | exact (hs.pull 2).cellsOf | exact (hs.pull 3).cellsOf | exact (hs.pull 4).cellsOf | exact (hs.pull 5).cellsOf | exact (hs.pull 6).cellsOf | exact (hs.pull 7).cellsOf | exact (hs.pull 8).cellsOf)), ?_⟩
  rw [hx]
  refine x_assign (.int _ _) rfl ?_
  refine x_nil ?_
  refine then_n ?_
  refine c_seq ?_
  refine c_seq ?_
  -- region 4 DRAWS
  refine c_draw (fun w => SameL hs w) (fun i => !(false)) [(0, 2), (1, 2), (2, 2), (3, 2), (4, 2), (5, 2), (6, 2), (7, 1), (8, 1), (9, 1), (10, 2), (11, 2)] (by kernel_rfl) (by kernel_rfl) (by kernel_rfl) (by kernel_rfl) (hs.drew) ?_
  replace hs := hs.drew
  refine x_move (.int _ _) rfl ?_
  refine x_lssF _ _ rfl rfl (by omega) ?_
  refine x_move (.bool _) rfl ?_
  refine x_want' rfl ?_
  refine x_move (.int _ _) rfl ?_
  refine x_want' rfl ?_
  refine x_move (.pointer _) rfl ?_
  refine x_want' rfl ?_
  refine x_nilCheck _ rfl ?_
  refine x_want' rfl ?_
  first | refine x_field0 fa_69_2 _ rfl ?_ | refine x_field fa_69_2 _ _ rfl ?_
  refine x_want' rfl ?_
  refine h_load one_66 _ (.map _) rfl (fun w hS => by first | exact hS.cell rfl | exact (hS.pull 1).cell rfl | exact (hS.pull 2).cell rfl | exact (hS.pull 3).cell rfl | exact (hS.pull 4).cell rfl | exact (hS.pull 5).cell rfl | exact (hS.pull 6).cell rfl | exact hS | exact hS.1 | exact hS.2 | exact hS.2.1 | exact hS.2.2 | exact hS.2.2.1 | exact hS.2.2.2 | exact hS.2.2.2.1 | exact hS.2.2.2.2) ?_
  refine x_want' rfl ?_
  refine h_loadN [_, _] agg_35 _ rfl (fun w hS => by first | exact hS | exact hS.1 | exact hS.2 | exact hS.2.1 | exact hS.2.2 | exact hS.2.2.1 | exact hS.2.2.2 | exact hS.2.2.2.1 | exact hS.2.2.2.2 | exact hS.cellsOf | exact (hS.pull 1).cellsOf | exact (hS.pull 2).cellsOf | exact (hS.pull 3).cellsOf | exact (hS.pull 4).cellsOf | exact (hS.pull 5).cellsOf | exact (hS.pull 6).cellsOf | exact hS.cells2 rfl rfl | exact (hS.pull 1).cells2 rfl rfl | exact (hS.pull 2).cells2 rfl rfl | exact (hS.pull 3).cells2 rfl rfl | exact (hS.pull 4).cells2 rfl rfl | exact (hS.pull 5).cells2 rfl rfl | exact (hS.pull 6).cells2 rfl rfl) ?_
  refine x_want' rfl ?_
  refine h_lookup1 mt_last ko_pid p _ (fun w hS => ⟨_, _, hS.pull 3⟩) rfl rfl hlv ?_
  refine x_want' rfl ?_
  refine x_leqF _ _ rfl rfl (by omega) ?_
  refine x_pickF (.bool _) rfl rfl ?_
  refine x_nil ?_
  refine then_n ?_
  refine c_false rfl ?_
  refine c_skip ?_
  refine then_n ?_
  refine c_seq ?_
  -- region 6 DRAWS
  refine c_draw (fun w => (∀ (j : Nat) (u : Value), [Value.int .u16 (p.Id : Nat), Value.int .u32 (p.Inc : Nat)][j]? = some u → w.cell? ((⟨b4, 0, none⟩ : Addr).add j) = some u) ∧ w.cell? ⟨f, 2, none⟩ = some (.map (some M1))) (fun i => !(Nat.beq i 6)) [(0, 2), (1, 2), (2, 2), (3, 1), (4, 1), (5, 2), (6, 0)] (by kernel_rfl) (by kernel_rfl) (by kernel_rfl) (by kernel_rfl) ((by first | (first | exact hs.cells2 rfl rfl | exact (hs.pull 1).cells2 rfl rfl | exact (hs.pull 2).cells2 rfl rfl | exact (hs.pull 3).cells2 rfl rfl | exact (hs.pull 4).cells2 rfl rfl | exact (hs.pull 5).cells2 rfl rfl | exact (hs.pull 6).cells2 rfl rfl | exact (hs.pull 7).cells2 rfl rfl | exact (hs.pull 8).cells2 rfl rfl | exact hs.cell rfl | exact (hs.pull 1).cell rfl | exact (hs.pull 2).cell rfl | exact (hs.pull 3).cell rfl | exact (hs.pull 4).cell rfl | exact (hs.pull 5).cell rfl | exact (hs.pull 6).cell rfl | exact (hs.pull 7).cell rfl | exact (hs.pull 8).cell rfl | assumption | exact hs.cellsOf | exact (hs.pull 1).cellsOf | exact (hs.pull 2).cellsOf | exact (hs.pull 3).cellsOf | exact (hs.pull 4).cellsOf | exact (hs.pull 5).cellsOf | exact (hs.pull 6).cellsOf | exact (hs.pull 7).cellsOf | exact (hs.pull 8).cellsOf) | (and_intros <;> first | exact hs.cells2 rfl rfl | exact (hs.pull 1).cells2 rfl rfl | exact (hs.pull 2).cells2 rfl rfl | exact (hs.pull 3).cells2 rfl rfl | exact (hs.pull 4).cells2 rfl rfl | exact (hs.pull 5).cells2 rfl rfl | exact (hs.pull 6).cells2 rfl rfl | exact (hs.pull 7).cells2 rfl rfl | exact (hs.pull 8).cells2 rfl rfl | exact hs.cell rfl | exact (hs.pull 1).cell rfl | exact (hs.pull 2).cell rfl | exact (hs.pull 3).cell rfl | exact (hs.pull 4).cell rfl | exact (hs.pull 5).cell rfl | exact (hs.pull 6).cell rfl | exact (hs.pull 7).cell rfl | exact (hs.pull 8).cell rfl | assumption | exact hs.cellsOf | exact (hs.pull 1).cellsOf | exact (hs.pull 2).cellsOf | exact (hs.pull 3).cellsOf | exact (hs.pull 4).cellsOf | exact (hs.pull 5).cellsOf | exact (hs.pull 6).cellsOf | exact (hs.pull 7).cellsOf | exact (hs.pull 8).cellsOf))) ?_
  replace hs := hs.drew
  refine x_move (.pointer _) rfl ?_
  refine x_nilCheck _ rfl ?_
  first | refine x_field0 fa_69_2 _ rfl ?_ | refine x_field fa_69_2 _ _ rfl ?_
  refine h_load one_66 _ (.map _) rfl (fun w hS => by first | exact hS.cell rfl | exact (hS.pull 1).cell rfl | exact (hS.pull 2).cell rfl | exact (hS.pull 3).cell rfl | exact (hS.pull 4).cell rfl | exact (hS.pull 5).cell rfl | exact (hS.pull 6).cell rfl | exact hS | exact hS.1 | exact hS.2 | exact hS.2.1 | exact hS.2.2 | exact hS.2.2.1 | exact hS.2.2.2 | exact hS.2.2.2.1 | exact hS.2.2.2.2) ?_
  refine h_loadN [_, _] agg_35 _ rfl (fun w hS => by first | exact hS | exact hS.1 | exact hS.2 | exact hS.2.1 | exact hS.2.2 | exact hS.2.2.1 | exact hS.2.2.2 | exact hS.2.2.2.1 | exact hS.2.2.2.2 | exact hS.cellsOf | exact (hS.pull 1).cellsOf | exact (hS.pull 2).cellsOf | exact (hS.pull 3).cellsOf | exact (hS.pull 4).cellsOf | exact (hS.pull 5).cellsOf | exact (hS.pull 6).cellsOf | exact hS.cells2 rfl rfl | exact (hS.pull 1).cells2 rfl rfl | exact (hS.pull 2).cells2 rfl rfl | exact (hS.pull 3).cells2 rfl rfl | exact (hS.pull 4).cells2 rfl rfl | exact (hS.pull 5).cells2 rfl rfl | exact (hS.pull 6).cells2 rfl rfl) ?_
  refine x_move (.int _ _) rfl ?_
  refine x_update mt_last ko_pid (hs.pull 3) p (.int .u64 (n : Nat)) rfl rfl rfl ?_
  clear hs; intro w hs; refine ⟨fun h => (by cases h), ?_⟩
  rw [fmk_set] at hs
  refine x_nil ?_
  refine then_n ?_
  refine c_seq ?_
  refine c_seq ?_
  -- region 7
  obtain ⟨e0, he, hs⟩ := (hs.pull 4).mb
  obtain ⟨_, _, _, hnd, -⟩ := hs.mapr
  rw [List.map_map] at hnd
  replace hnd : (e0.map (·.1)).Nodup := hnd
  refine c_region ?_
  refine x_move (.pointer _) rfl ?_
  refine x_nilCheck _ rfl ?_
  first | refine x_field0 fa_69_3 _ rfl ?_ | refine x_field fa_69_3 _ _ rfl ?_
  refine x_load one_67 _ (.map _) rfl (by first | exact hs.cell rfl | exact (hs.pull 1).cell rfl | exact (hs.pull 2).cell rfl | exact (hs.pull 3).cell rfl | assumption | exact (hs.pull 4).cell rfl | exact (hs.pull 5).cell rfl | exact (hs.pull 6).cell rfl | exact (hs.pull 7).cell rfl) ?_
  refine x_range mt_ws hs rfl ?_
  clear hs; intro r w hs; refine ⟨fun h => (by cases h), ?_⟩
  refine x_nil ?_
  refine then_n ?_
  refine c_block ?_
  refine c_loop (γ := List (Key × Value) × Option (Key × Value)) (fun (⟨lt, cur⟩ : List (Key × Value) × Option (Key × Value)) => [(0, .pointer (some ⟨f, 0, none⟩)), (2, .int .u64 (n : Nat)), (4, .pointer (some ⟨b4, 0, none⟩)), (7, .int .i64 (s.mem.idxOf p : Nat)), (39, .pointer (some ⟨r, 0, none⟩))]) (fun (⟨lt, cur⟩ : List (Key × Value) × Option (Key × Value)) w => (lt.map (·.1)).Nodup ∧ Sat w0 w (MapI kenc M2 r ((keep p n (lt.map (·.1)) e0).map fun x => (x.1, x.2.1)) lt cur :: EE (keep p n (lt.map (·.1)) e0) :: Blk f (.cells #[.int .u64 (s.vw : Nat), .slice a s.mem.length c, .map (some M1), .map (some M2), .int .i64 (s.turn : Nat)] 69 (0, 0)) :: PR (.slice a s.mem.length c) s.mem :: MapR penc M1 (fmk (mset p n s.last)) :: Blk b4 (.cells #[.int .u16 (p.Id : Nat), .int .u32 (p.Inc : Nat)] 35 (0, 0)) :: L)) (fun (⟨lt, cur⟩ : List (Key × Value) × Option (Key × Value)) => lt.length) (e0.map fun x => (x.1, x.2.1), none) ⟨rfl, rfl, rfl, rfl, rfl, trivial⟩ ⟨by rw [List.map_map]; exact hnd, by rw [List.map_map, show ((fun x : Key × Value => x.1) ∘ fun x : Key × Value × List UInt8 => (x.1, x.2.1)) = (fun x => x.1) from rfl, keep_all]; exact hs.perm [0, 1, 4, 5, 2, 3]⟩ ?_
  clear hs
  rintro ⟨lt, cur⟩ ρ w ⟨hlt, hs⟩
  change CW Try.prog 64 _ _ (sets 64 [(0, .pointer (some ⟨f, 0, none⟩)), (2, .int .u64 (n : Nat)), (4, .pointer (some ⟨b4, 0, none⟩)), (7, .int .i64 (s.mem.idxOf p : Nat)), (39, .pointer (some ⟨r, 0, none⟩))] ρ) w
  by_cases hlt0 : lt = []
  · skip
    refine c_seq ?_
    -- region 8
    refine c_region ?_
    refine x_next hs rfl (fun hz => ⟨fun h => (by cases h), ?_⟩) (fun i k v w' hi _ => absurd hi (by simp [hlt0]))
    refine x_extract _ (.bool _) rfl rfl ?_
    refine x_nil ?_
    refine then_n ?_
    refine c_seq ?_
    refine c_false rfl ?_
    refine c_exit ?_
    refine then_x ?_
    refine then_x ?_
    refine inb_e ?_
    refine then_n ?_
    refine c_seq ?_
    -- region 12
    subst hlt0
    replace hs := (hs.mapiEnd).mb'
    rw [List.map_nil, keep_nil, he] at hs
    refine c_region ?_
    refine x_move (.pointer _) rfl ?_
    refine x_move (.int _ _) rfl ?_
    refine x_add _ _ rfl rfl (by simp only [X.lo]; omega) (by simp only [X.hi]; omega) ?_
    refine x_nilCheck _ rfl ?_
    first | refine x_field0 fa_69_4 _ rfl ?_ | refine x_field fa_69_4 _ _ rfl ?_
    first
      | refine x_storeI hs 0 rfl rfl one_3 (.int _ _) rfl rfl rfl ?_
      | refine x_storeI hs 1 rfl rfl one_3 (.int _ _) rfl rfl rfl ?_
      | refine x_storeI hs 2 rfl rfl one_3 (.int _ _) rfl rfl rfl ?_
      | refine x_storeI hs 3 rfl rfl one_3 (.int _ _) rfl rfl rfl ?_
      | refine x_storeI hs 4 rfl rfl one_3 (.int _ _) rfl rfl rfl ?_
      | refine x_storeI hs 5 rfl rfl one_3 (.int _ _) rfl rfl rfl ?_
      | refine x_storeI hs 6 rfl rfl one_3 (.int _ _) rfl rfl rfl ?_
      | refine x_storeI hs 7 rfl rfl one_3 (.int _ _) rfl rfl rfl ?_
    clear hs; intro w hs
    try dsimp only [back, List.set_cons_zero, List.set_cons_succ] at hs
    refine ⟨fun h => (by first | (cases h; done) | (first | exact hs.cells2 rfl rfl | exact (hs.pull 1).cells2 rfl rfl | exact (hs.pull 2).cells2 rfl rfl | exact (hs.pull 3).cells2 rfl rfl | exact (hs.pull 4).cells2 rfl rfl | exact (hs.pull 5).cells2 rfl rfl | exact (hs.pull 6).cells2 rfl rfl | exact (hs.pull 7).cells2 rfl rfl | exact (hs.pull 8).cells2 rfl rfl | exact hs.cell rfl | exact (hs.pull 1).cell rfl | exact (hs.pull 2).cell rfl | exact (hs.pull 3).cell rfl | exact (hs.pull 4).cell rfl | exact (hs.pull 5).cell rfl | exact (hs.pull 6).cell rfl | exact (hs.pull 7).cell rfl | exact (hs.pull 8).cell rfl | assumption | exact hs.cellsOf | exact (hs.pull 1).cellsOf | exact (hs.pull 2).cellsOf | exact (hs.pull 3).cellsOf | exact (hs.pull 4).cellsOf | exact (hs.pull 5).cellsOf | exact (hs.pull 6).cellsOf | exact (hs.pull 7).cellsOf | exact (hs.pull 8).cellsOf) | (and_intros <;> first | exact hs.cells2 rfl rfl | exact (hs.pull 1).cells2 rfl rfl | exact (hs.pull 2).cells2 rfl rfl | exact (hs.pull 3).cells2 rfl rfl | exact (hs.pull 4).cells2 rfl rfl | exact (hs.pull 5).cells2 rfl rfl | exact (hs.pull 6).cells2 rfl rfl | exact (hs.pull 7).cells2 rfl rfl | exact (hs.pull 8).cells2 rfl rfl | exact hs.cell rfl | exact (hs.pull 1).cell rfl | exact (hs.pull 2).cell rfl | exact (hs.pull 3).cell rfl | exact (hs.pull 4).cell rfl | exact (hs.pull 5).cell rfl | exact (hs.pull 6).cell rfl | exact (hs.pull 7).cell rfl | exact (hs.pull 8).cell rfl | assumption | exact hs.cellsOf | exact (hs.pull 1).cellsOf | exact (hs.pull 2).cellsOf | exact (hs.pull 3).cellsOf | exact (hs.pull 4).cellsOf | exact (hs.pull 5).cellsOf | exact (hs.pull 6).cellsOf | exact (hs.pull 7).cellsOf | exact (hs.pull 8).cellsOf)), ?_⟩
    refine x_nil ?_
    refine then_n ?_
    refine c_seq ?_
    -- region 13
    refine c_region ?_
    refine x_assign (.bool _) rfl ?_
    refine x_nil ?_
    refine then_n ?_
    refine c_ret ?_
    refine ⟨.inr rfl, ?_⟩
    exact ⟨rfl, Sat.io' (s := { s with last := mset p n s.last, ws := wsDone p n s.ws, turn := s.mem.idxOf p + 1 }) (hs.sel [1, 2, 3, 0] 5)⟩
  · skip
    refine c_seq ?_
    -- region 8
    refine c_region ?_
    refine x_next hs rfl (fun he => absurd he hlt0) ?_
    clear hs; intro i k v w hi hs; refine ⟨fun h => (by cases h), ?_⟩
    have hik : (lt.map (·.1))[i]? = some k := by rw [List.getElem?_map, hi]; rfl
    have hil : i < lt.length := (List.getElem?_eq_some_iff.1 hi).1
    have hle : (lt.eraseIdx i).length < lt.length := by rw [List.length_eraseIdx_of_lt hil]; omega
    have hlt' : ((lt.eraseIdx i).map (·.1)).Nodup := by rw [map_erase]; exact hlt.sublist (List.eraseIdx_sublist _ _)
    have hkno : ∀ q ∈ lt.eraseIdx i, q.1 ≠ k := fun q hq e => by
      have h1 : k ∈ (lt.map (·.1)).eraseIdx i := by rw [← map_erase, ← e]; exact List.mem_map_of_mem hq
      have h2 := nodup_idx hlt (j := i) (by simpa using hil)
      rw [← (List.getElem?_eq_some_iff.1 hik).2] at h1
      obtain ⟨j, hji, hj⟩ := List.mem_eraseIdx_iff_getElem?.1 h1
      obtain ⟨hjl, hj2⟩ := List.getElem?_eq_some_iff.1 hj
      have h3 := nodup_idx hlt hjl
      rw [hj2, h2] at h3
      exact hji h3.symm
    obtain ⟨⟨kp, kn⟩, hk0⟩ : ∃ k', k' = k := ⟨k, rfl⟩
    subst hk0
    refine x_extract _ (.bool _) rfl rfl ?_
    refine x_nil ?_
    refine then_n ?_
    by_cases h1 : kp = p
    by_cases h2 : kn ≤ n
    · skip
      refine c_seq ?_
      refine c_true rfl ?_
      refine c_skip ?_
      refine then_n ?_
      refine c_block ?_
      refine c_seq ?_
      -- region 9
      refine c_region ?_
      refine x_entry hs rfl (fun h => (by cases h)) ?_
      refine x_extract _ (.agg _) rfl rfl ?_
      refine x_alloc zi_72 hs ?_; clear hs; intro b8 w hs; refine ⟨fun h => (by first | (cases h; done) | (first | exact hs.cells2 rfl rfl | exact (hs.pull 1).cells2 rfl rfl | exact (hs.pull 2).cells2 rfl rfl | exact (hs.pull 3).cells2 rfl rfl | exact (hs.pull 4).cells2 rfl rfl | exact (hs.pull 5).cells2 rfl rfl | exact (hs.pull 6).cells2 rfl rfl | exact (hs.pull 7).cells2 rfl rfl | exact (hs.pull 8).cells2 rfl rfl | exact hs.cell rfl | exact (hs.pull 1).cell rfl | exact (hs.pull 2).cell rfl | exact (hs.pull 3).cell rfl | exact (hs.pull 4).cell rfl | exact (hs.pull 5).cell rfl | exact (hs.pull 6).cell rfl | exact (hs.pull 7).cell rfl | exact (hs.pull 8).cell rfl | assumption | exact hs.cellsOf | exact (hs.pull 1).cellsOf | exact (hs.pull 2).cellsOf | exact (hs.pull 3).cellsOf | exact (hs.pull 4).cellsOf | exact (hs.pull 5).cellsOf | exact (hs.pull 6).cellsOf | exact (hs.pull 7).cellsOf | exact (hs.pull 8).cellsOf) | (and_intros <;> first | exact hs.cells2 rfl rfl | exact (hs.pull 1).cells2 rfl rfl | exact (hs.pull 2).cells2 rfl rfl | exact (hs.pull 3).cells2 rfl rfl | exact (hs.pull 4).cells2 rfl rfl | exact (hs.pull 5).cells2 rfl rfl | exact (hs.pull 6).cells2 rfl rfl | exact (hs.pull 7).cells2 rfl rfl | exact (hs.pull 8).cells2 rfl rfl | exact hs.cell rfl | exact (hs.pull 1).cell rfl | exact (hs.pull 2).cell rfl | exact (hs.pull 3).cell rfl | exact (hs.pull 4).cell rfl | exact (hs.pull 5).cell rfl | exact (hs.pull 6).cell rfl | exact (hs.pull 7).cell rfl | exact (hs.pull 8).cell rfl | assumption | exact hs.cellsOf | exact (hs.pull 1).cellsOf | exact (hs.pull 2).cellsOf | exact (hs.pull 3).cellsOf | exact (hs.pull 4).cellsOf | exact (hs.pull 5).cellsOf | exact (hs.pull 6).cellsOf | exact (hs.pull 7).cellsOf | exact (hs.pull 8).cellsOf)), ?_⟩
      first
        | refine x_storeAllI hs 0 rfl rfl agg_72 [_, _, _] rfl rfl rfl rfl ?_
        | refine x_storeAllI hs 1 rfl rfl agg_72 [_, _, _] rfl rfl rfl rfl ?_
        | refine x_storeAllI hs 2 rfl rfl agg_72 [_, _, _] rfl rfl rfl rfl ?_
        | refine x_storeAllI hs 3 rfl rfl agg_72 [_, _, _] rfl rfl rfl rfl ?_
        | refine x_storeAllI hs 4 rfl rfl agg_72 [_, _, _] rfl rfl rfl rfl ?_
        | refine x_storeAllI hs 5 rfl rfl agg_72 [_, _, _] rfl rfl rfl rfl ?_
        | refine x_storeAllI hs 6 rfl rfl agg_72 [_, _, _] rfl rfl rfl rfl ?_
        | refine x_storeAllI hs 7 rfl rfl agg_72 [_, _, _] rfl rfl rfl rfl ?_
      clear hs; intro w hs
      try dsimp only [back, List.set_cons_zero, List.set_cons_succ] at hs
      refine ⟨fun h => (by first | (cases h; done) | (first | exact hs.cells2 rfl rfl | exact (hs.pull 1).cells2 rfl rfl | exact (hs.pull 2).cells2 rfl rfl | exact (hs.pull 3).cells2 rfl rfl | exact (hs.pull 4).cells2 rfl rfl | exact (hs.pull 5).cells2 rfl rfl | exact (hs.pull 6).cells2 rfl rfl | exact (hs.pull 7).cells2 rfl rfl | exact (hs.pull 8).cells2 rfl rfl | exact hs.cell rfl | exact (hs.pull 1).cell rfl | exact (hs.pull 2).cell rfl | exact (hs.pull 3).cell rfl | exact (hs.pull 4).cell rfl | exact (hs.pull 5).cell rfl | exact (hs.pull 6).cell rfl | exact (hs.pull 7).cell rfl | exact (hs.pull 8).cell rfl | assumption | exact hs.cellsOf | exact (hs.pull 1).cellsOf | exact (hs.pull 2).cellsOf | exact (hs.pull 3).cellsOf | exact (hs.pull 4).cellsOf | exact (hs.pull 5).cellsOf | exact (hs.pull 6).cellsOf | exact (hs.pull 7).cellsOf | exact (hs.pull 8).cellsOf) | (and_intros <;> first | exact hs.cells2 rfl rfl | exact (hs.pull 1).cells2 rfl rfl | exact (hs.pull 2).cells2 rfl rfl | exact (hs.pull 3).cells2 rfl rfl | exact (hs.pull 4).cells2 rfl rfl | exact (hs.pull 5).cells2 rfl rfl | exact (hs.pull 6).cells2 rfl rfl | exact (hs.pull 7).cells2 rfl rfl | exact (hs.pull 8).cells2 rfl rfl | exact hs.cell rfl | exact (hs.pull 1).cell rfl | exact (hs.pull 2).cell rfl | exact (hs.pull 3).cell rfl | exact (hs.pull 4).cell rfl | exact (hs.pull 5).cell rfl | exact (hs.pull 6).cell rfl | exact (hs.pull 7).cell rfl | exact (hs.pull 8).cell rfl | assumption | exact hs.cellsOf | exact (hs.pull 1).cellsOf | exact (hs.pull 2).cellsOf | exact (hs.pull 3).cellsOf | exact (hs.pull 4).cellsOf | exact (hs.pull 5).cellsOf | exact (hs.pull 6).cellsOf | exact (hs.pull 7).cellsOf | exact (hs.pull 8).cellsOf)), ?_⟩
      refine x_nil ?_
      refine then_n ?_
      refine c_seq ?_
      -- region 10
      refine c_region ?_
      first | refine x_field0 fa_72_0 _ rfl ?_ | refine x_field fa_72_0 _ _ rfl ?_
      refine x_loadN [_, _] agg_35 _ rfl (by first | assumption | exact hs.cellsOf | exact (hs.pull 1).cellsOf | exact (hs.pull 2).cellsOf | exact (hs.pull 3).cellsOf | exact (hs.pull 4).cellsOf | exact (hs.pull 5).cellsOf | exact (hs.pull 6).cellsOf | exact (hs.pull 7).cellsOf | exact (hs.pull 8).cellsOf | exact hs.cells2 rfl rfl | exact (hs.pull 1).cells2 rfl rfl | exact (hs.pull 2).cells2 rfl rfl | exact (hs.pull 3).cells2 rfl rfl | exact (hs.pull 4).cells2 rfl rfl | exact (hs.pull 5).cells2 rfl rfl | exact (hs.pull 6).cells2 rfl rfl | exact (hs.pull 7).cells2 rfl rfl | exact (hs.pull 8).cells2 rfl rfl) ?_
      refine x_loadN [_, _] agg_35 _ rfl (by first | assumption | exact hs.cellsOf | exact (hs.pull 1).cellsOf | exact (hs.pull 2).cellsOf | exact (hs.pull 3).cellsOf | exact (hs.pull 4).cellsOf | exact (hs.pull 5).cellsOf | exact (hs.pull 6).cellsOf | exact (hs.pull 7).cellsOf | exact (hs.pull 8).cellsOf | exact hs.cells2 rfl rfl | exact (hs.pull 1).cells2 rfl rfl | exact (hs.pull 2).cells2 rfl rfl | exact (hs.pull 3).cells2 rfl rfl | exact (hs.pull 4).cells2 rfl rfl | exact (hs.pull 5).cells2 rfl rfl | exact (hs.pull 6).cells2 rfl rfl | exact (hs.pull 7).cells2 rfl rfl | exact (hs.pull 8).cells2 rfl rfl) ?_
      refine x_eqlET eq_pid kp p rfl rfl h1 ?_
      refine x_move (.bool _) rfl ?_
      refine x_want' rfl ?_
      first | refine x_field0 fa_72_1 _ rfl ?_ | refine x_field fa_72_1 _ _ rfl ?_
      refine x_want' rfl ?_
      refine x_load one_22 _ (.int _ _) rfl (by first | exact hs.cell rfl | exact (hs.pull 1).cell rfl | exact (hs.pull 2).cell rfl | exact (hs.pull 3).cell rfl | assumption | exact (hs.pull 4).cell rfl | exact (hs.pull 5).cell rfl | exact (hs.pull 6).cell rfl | exact (hs.pull 7).cell rfl) ?_
      refine x_want' rfl ?_
      refine x_move (.int _ _) rfl ?_
      refine x_want' rfl ?_
      refine x_leqT _ _ rfl rfl (by omega) ?_
      refine x_pickT (.bool _) rfl rfl ?_
      refine x_nil ?_
      refine then_n ?_
      refine c_true rfl ?_
      -- region 11 DRAWS
      refine c_draw (fun w => w.cell? ⟨f, 3, none⟩ = some (.map (some M2)) ∧ (∀ (j : Nat) (u : Value), [Value.int .u16 (kp.Id : Nat), Value.int .u32 (kp.Inc : Nat), .int .u64 (kn : Nat)][j]? = some u → w.cell? ((⟨b8, 0, none⟩ : Addr).add j) = some u)) (fun i => !(Nat.beq i 5)) [(0, 2), (1, 2), (2, 2), (3, 1), (4, 1), (5, 0)] (by kernel_rfl) (by kernel_rfl) (by kernel_rfl) (by kernel_rfl) ((by first | (first | exact hs.cells2 rfl rfl | exact (hs.pull 1).cells2 rfl rfl | exact (hs.pull 2).cells2 rfl rfl | exact (hs.pull 3).cells2 rfl rfl | exact (hs.pull 4).cells2 rfl rfl | exact (hs.pull 5).cells2 rfl rfl | exact (hs.pull 6).cells2 rfl rfl | exact (hs.pull 7).cells2 rfl rfl | exact (hs.pull 8).cells2 rfl rfl | exact hs.cell rfl | exact (hs.pull 1).cell rfl | exact (hs.pull 2).cell rfl | exact (hs.pull 3).cell rfl | exact (hs.pull 4).cell rfl | exact (hs.pull 5).cell rfl | exact (hs.pull 6).cell rfl | exact (hs.pull 7).cell rfl | exact (hs.pull 8).cell rfl | assumption | exact hs.cellsOf | exact (hs.pull 1).cellsOf | exact (hs.pull 2).cellsOf | exact (hs.pull 3).cellsOf | exact (hs.pull 4).cellsOf | exact (hs.pull 5).cellsOf | exact (hs.pull 6).cellsOf | exact (hs.pull 7).cellsOf | exact (hs.pull 8).cellsOf) | (and_intros <;> first | exact hs.cells2 rfl rfl | exact (hs.pull 1).cells2 rfl rfl | exact (hs.pull 2).cells2 rfl rfl | exact (hs.pull 3).cells2 rfl rfl | exact (hs.pull 4).cells2 rfl rfl | exact (hs.pull 5).cells2 rfl rfl | exact (hs.pull 6).cells2 rfl rfl | exact (hs.pull 7).cells2 rfl rfl | exact (hs.pull 8).cells2 rfl rfl | exact hs.cell rfl | exact (hs.pull 1).cell rfl | exact (hs.pull 2).cell rfl | exact (hs.pull 3).cell rfl | exact (hs.pull 4).cell rfl | exact (hs.pull 5).cell rfl | exact (hs.pull 6).cell rfl | exact (hs.pull 7).cell rfl | exact (hs.pull 8).cell rfl | assumption | exact hs.cellsOf | exact (hs.pull 1).cellsOf | exact (hs.pull 2).cellsOf | exact (hs.pull 3).cellsOf | exact (hs.pull 4).cellsOf | exact (hs.pull 5).cellsOf | exact (hs.pull 6).cellsOf | exact (hs.pull 7).cellsOf | exact (hs.pull 8).cellsOf))) ?_
      replace hs := hs.drew
      refine x_move (.pointer _) rfl ?_
      refine x_nilCheck _ rfl ?_
      first | refine x_field0 fa_69_3 _ rfl ?_ | refine x_field fa_69_3 _ _ rfl ?_
      refine h_load one_67 _ (.map _) rfl (fun w hS => by first | exact hS.cell rfl | exact (hS.pull 1).cell rfl | exact (hS.pull 2).cell rfl | exact (hS.pull 3).cell rfl | exact (hS.pull 4).cell rfl | exact (hS.pull 5).cell rfl | exact (hS.pull 6).cell rfl | exact hS | exact hS.1 | exact hS.2 | exact hS.2.1 | exact hS.2.2 | exact hS.2.2.1 | exact hS.2.2.2 | exact hS.2.2.2.1 | exact hS.2.2.2.2) ?_
      refine h_loadN [_, _, _] agg_72 _ rfl (fun w hS => by first | exact hS | exact hS.1 | exact hS.2 | exact hS.2.1 | exact hS.2.2 | exact hS.2.2.1 | exact hS.2.2.2 | exact hS.2.2.2.1 | exact hS.2.2.2.2 | exact hS.cellsOf | exact (hS.pull 1).cellsOf | exact (hS.pull 2).cellsOf | exact (hS.pull 3).cellsOf | exact (hS.pull 4).cellsOf | exact (hS.pull 5).cellsOf | exact (hS.pull 6).cellsOf | exact hS.cells2 rfl rfl | exact (hS.pull 1).cells2 rfl rfl | exact (hS.pull 2).cells2 rfl rfl | exact (hS.pull 3).cells2 rfl rfl | exact (hS.pull 4).cells2 rfl rfl | exact (hS.pull 5).cells2 rfl rfl | exact (hS.pull 6).cells2 rfl rfl) ?_
      refine x_deleteI mt_ws ko_key kenc_inj (hs.pull 1) (kp, kn) hkno rfl rfl ?_
      clear hs; intro w hs; refine ⟨fun h => (by cases h), ?_⟩
      have hmd : mdel ((kp, kn) : Key) ((keep p n (lt.map (·.1)) e0).map fun x => (x.1, x.2.1)) = (mdel ((kp, kn) : Key) (keep p n (lt.map (·.1)) e0)).map fun x => (x.1, x.2.1) := mdel_map (fun x : Value × List UInt8 => x.1) _ _
      have hkd := keep_del (p := p) (n := n) hnd hlt hik ⟨h1, h2⟩
      rw [← map_erase] at hkd
      rw [hmd, hkd] at hs
      have hs2 := eeDel (k := ((kp, kn) : Key)) (hs.pull 2)
      rw [hkd] at hs2
      refine x_nil ?_
      refine inb_n ?_
      refine then_n ?_
      refine ⟨(lt.eraseIdx i, none), ⟨rfl, rfl, rfl, rfl, rfl, trivial⟩, ⟨hlt', hs2.sel [1, 0, 3, 4, 5, 6] 7⟩, by first | omega | (dsimp only; omega)⟩
    · skip
      refine c_seq ?_
      refine c_true rfl ?_
      refine c_skip ?_
      refine then_n ?_
      refine c_block ?_
      refine c_seq ?_
      -- region 9
      refine c_region ?_
      refine x_entry hs rfl (fun h => (by cases h)) ?_
      refine x_extract _ (.agg _) rfl rfl ?_
      refine x_alloc zi_72 hs ?_; clear hs; intro b8 w hs; refine ⟨fun h => (by first | (cases h; done) | (first | exact hs.cells2 rfl rfl | exact (hs.pull 1).cells2 rfl rfl | exact (hs.pull 2).cells2 rfl rfl | exact (hs.pull 3).cells2 rfl rfl | exact (hs.pull 4).cells2 rfl rfl | exact (hs.pull 5).cells2 rfl rfl | exact (hs.pull 6).cells2 rfl rfl | exact (hs.pull 7).cells2 rfl rfl | exact (hs.pull 8).cells2 rfl rfl | exact hs.cell rfl | exact (hs.pull 1).cell rfl | exact (hs.pull 2).cell rfl | exact (hs.pull 3).cell rfl | exact (hs.pull 4).cell rfl | exact (hs.pull 5).cell rfl | exact (hs.pull 6).cell rfl | exact (hs.pull 7).cell rfl | exact (hs.pull 8).cell rfl | assumption | exact hs.cellsOf | exact (hs.pull 1).cellsOf | exact (hs.pull 2).cellsOf | exact (hs.pull 3).cellsOf | exact (hs.pull 4).cellsOf | exact (hs.pull 5).cellsOf | exact (hs.pull 6).cellsOf | exact (hs.pull 7).cellsOf | exact (hs.pull 8).cellsOf) | (and_intros <;> first | exact hs.cells2 rfl rfl | exact (hs.pull 1).cells2 rfl rfl | exact (hs.pull 2).cells2 rfl rfl | exact (hs.pull 3).cells2 rfl rfl | exact (hs.pull 4).cells2 rfl rfl | exact (hs.pull 5).cells2 rfl rfl | exact (hs.pull 6).cells2 rfl rfl | exact (hs.pull 7).cells2 rfl rfl | exact (hs.pull 8).cells2 rfl rfl | exact hs.cell rfl | exact (hs.pull 1).cell rfl | exact (hs.pull 2).cell rfl | exact (hs.pull 3).cell rfl | exact (hs.pull 4).cell rfl | exact (hs.pull 5).cell rfl | exact (hs.pull 6).cell rfl | exact (hs.pull 7).cell rfl | exact (hs.pull 8).cell rfl | assumption | exact hs.cellsOf | exact (hs.pull 1).cellsOf | exact (hs.pull 2).cellsOf | exact (hs.pull 3).cellsOf | exact (hs.pull 4).cellsOf | exact (hs.pull 5).cellsOf | exact (hs.pull 6).cellsOf | exact (hs.pull 7).cellsOf | exact (hs.pull 8).cellsOf)), ?_⟩
      first
        | refine x_storeAllI hs 0 rfl rfl agg_72 [_, _, _] rfl rfl rfl rfl ?_
        | refine x_storeAllI hs 1 rfl rfl agg_72 [_, _, _] rfl rfl rfl rfl ?_
        | refine x_storeAllI hs 2 rfl rfl agg_72 [_, _, _] rfl rfl rfl rfl ?_
        | refine x_storeAllI hs 3 rfl rfl agg_72 [_, _, _] rfl rfl rfl rfl ?_
        | refine x_storeAllI hs 4 rfl rfl agg_72 [_, _, _] rfl rfl rfl rfl ?_
        | refine x_storeAllI hs 5 rfl rfl agg_72 [_, _, _] rfl rfl rfl rfl ?_
        | refine x_storeAllI hs 6 rfl rfl agg_72 [_, _, _] rfl rfl rfl rfl ?_
        | refine x_storeAllI hs 7 rfl rfl agg_72 [_, _, _] rfl rfl rfl rfl ?_
      clear hs; intro w hs
      try dsimp only [back, List.set_cons_zero, List.set_cons_succ] at hs
      refine ⟨fun h => (by first | (cases h; done) | (first | exact hs.cells2 rfl rfl | exact (hs.pull 1).cells2 rfl rfl | exact (hs.pull 2).cells2 rfl rfl | exact (hs.pull 3).cells2 rfl rfl | exact (hs.pull 4).cells2 rfl rfl | exact (hs.pull 5).cells2 rfl rfl | exact (hs.pull 6).cells2 rfl rfl | exact (hs.pull 7).cells2 rfl rfl | exact (hs.pull 8).cells2 rfl rfl | exact hs.cell rfl | exact (hs.pull 1).cell rfl | exact (hs.pull 2).cell rfl | exact (hs.pull 3).cell rfl | exact (hs.pull 4).cell rfl | exact (hs.pull 5).cell rfl | exact (hs.pull 6).cell rfl | exact (hs.pull 7).cell rfl | exact (hs.pull 8).cell rfl | assumption | exact hs.cellsOf | exact (hs.pull 1).cellsOf | exact (hs.pull 2).cellsOf | exact (hs.pull 3).cellsOf | exact (hs.pull 4).cellsOf | exact (hs.pull 5).cellsOf | exact (hs.pull 6).cellsOf | exact (hs.pull 7).cellsOf | exact (hs.pull 8).cellsOf) | (and_intros <;> first | exact hs.cells2 rfl rfl | exact (hs.pull 1).cells2 rfl rfl | exact (hs.pull 2).cells2 rfl rfl | exact (hs.pull 3).cells2 rfl rfl | exact (hs.pull 4).cells2 rfl rfl | exact (hs.pull 5).cells2 rfl rfl | exact (hs.pull 6).cells2 rfl rfl | exact (hs.pull 7).cells2 rfl rfl | exact (hs.pull 8).cells2 rfl rfl | exact hs.cell rfl | exact (hs.pull 1).cell rfl | exact (hs.pull 2).cell rfl | exact (hs.pull 3).cell rfl | exact (hs.pull 4).cell rfl | exact (hs.pull 5).cell rfl | exact (hs.pull 6).cell rfl | exact (hs.pull 7).cell rfl | exact (hs.pull 8).cell rfl | assumption | exact hs.cellsOf | exact (hs.pull 1).cellsOf | exact (hs.pull 2).cellsOf | exact (hs.pull 3).cellsOf | exact (hs.pull 4).cellsOf | exact (hs.pull 5).cellsOf | exact (hs.pull 6).cellsOf | exact (hs.pull 7).cellsOf | exact (hs.pull 8).cellsOf)), ?_⟩
      refine x_nil ?_
      refine then_n ?_
      refine c_seq ?_
      -- region 10
      refine c_region ?_
      first | refine x_field0 fa_72_0 _ rfl ?_ | refine x_field fa_72_0 _ _ rfl ?_
      refine x_loadN [_, _] agg_35 _ rfl (by first | assumption | exact hs.cellsOf | exact (hs.pull 1).cellsOf | exact (hs.pull 2).cellsOf | exact (hs.pull 3).cellsOf | exact (hs.pull 4).cellsOf | exact (hs.pull 5).cellsOf | exact (hs.pull 6).cellsOf | exact (hs.pull 7).cellsOf | exact (hs.pull 8).cellsOf | exact hs.cells2 rfl rfl | exact (hs.pull 1).cells2 rfl rfl | exact (hs.pull 2).cells2 rfl rfl | exact (hs.pull 3).cells2 rfl rfl | exact (hs.pull 4).cells2 rfl rfl | exact (hs.pull 5).cells2 rfl rfl | exact (hs.pull 6).cells2 rfl rfl | exact (hs.pull 7).cells2 rfl rfl | exact (hs.pull 8).cells2 rfl rfl) ?_
      refine x_loadN [_, _] agg_35 _ rfl (by first | assumption | exact hs.cellsOf | exact (hs.pull 1).cellsOf | exact (hs.pull 2).cellsOf | exact (hs.pull 3).cellsOf | exact (hs.pull 4).cellsOf | exact (hs.pull 5).cellsOf | exact (hs.pull 6).cellsOf | exact (hs.pull 7).cellsOf | exact (hs.pull 8).cellsOf | exact hs.cells2 rfl rfl | exact (hs.pull 1).cells2 rfl rfl | exact (hs.pull 2).cells2 rfl rfl | exact (hs.pull 3).cells2 rfl rfl | exact (hs.pull 4).cells2 rfl rfl | exact (hs.pull 5).cells2 rfl rfl | exact (hs.pull 6).cells2 rfl rfl | exact (hs.pull 7).cells2 rfl rfl | exact (hs.pull 8).cells2 rfl rfl) ?_
      refine x_eqlET eq_pid kp p rfl rfl h1 ?_
      refine x_move (.bool _) rfl ?_
      refine x_want' rfl ?_
      first | refine x_field0 fa_72_1 _ rfl ?_ | refine x_field fa_72_1 _ _ rfl ?_
      refine x_want' rfl ?_
      refine x_load one_22 _ (.int _ _) rfl (by first | exact hs.cell rfl | exact (hs.pull 1).cell rfl | exact (hs.pull 2).cell rfl | exact (hs.pull 3).cell rfl | assumption | exact (hs.pull 4).cell rfl | exact (hs.pull 5).cell rfl | exact (hs.pull 6).cell rfl | exact (hs.pull 7).cell rfl) ?_
      refine x_want' rfl ?_
      refine x_move (.int _ _) rfl ?_
      refine x_want' rfl ?_
      refine x_leqF _ _ rfl rfl (by omega) ?_
      refine x_pickT (.bool _) rfl rfl ?_
      refine x_nil ?_
      refine then_n ?_
      refine c_false rfl ?_
      refine c_skip ?_
      refine inb_n ?_
      refine then_n ?_
      have hks := keep_skip (p := p) (n := n) (e0 := e0) hlt hik (fun h => h2 h.2)
      rw [← map_erase] at hks
      have hs2 := hs
      rw [hks] at hs2
      refine ⟨(lt.eraseIdx i, some ((kp, kn), v)), ⟨rfl, rfl, rfl, rfl, rfl, trivial⟩, ⟨hlt', hs2.tail⟩, by first | omega | (dsimp only; omega)⟩
    · skip
      refine c_seq ?_
      refine c_true rfl ?_
      refine c_skip ?_
      refine then_n ?_
      refine c_block ?_
      refine c_seq ?_
      -- region 9
      refine c_region ?_
      refine x_entry hs rfl (fun h => (by cases h)) ?_
      refine x_extract _ (.agg _) rfl rfl ?_
      refine x_alloc zi_72 hs ?_; clear hs; intro b8 w hs; refine ⟨fun h => (by first | (cases h; done) | (first | exact hs.cells2 rfl rfl | exact (hs.pull 1).cells2 rfl rfl | exact (hs.pull 2).cells2 rfl rfl | exact (hs.pull 3).cells2 rfl rfl | exact (hs.pull 4).cells2 rfl rfl | exact (hs.pull 5).cells2 rfl rfl | exact (hs.pull 6).cells2 rfl rfl | exact (hs.pull 7).cells2 rfl rfl | exact (hs.pull 8).cells2 rfl rfl | exact hs.cell rfl | exact (hs.pull 1).cell rfl | exact (hs.pull 2).cell rfl | exact (hs.pull 3).cell rfl | exact (hs.pull 4).cell rfl | exact (hs.pull 5).cell rfl | exact (hs.pull 6).cell rfl | exact (hs.pull 7).cell rfl | exact (hs.pull 8).cell rfl | assumption | exact hs.cellsOf | exact (hs.pull 1).cellsOf | exact (hs.pull 2).cellsOf | exact (hs.pull 3).cellsOf | exact (hs.pull 4).cellsOf | exact (hs.pull 5).cellsOf | exact (hs.pull 6).cellsOf | exact (hs.pull 7).cellsOf | exact (hs.pull 8).cellsOf) | (and_intros <;> first | exact hs.cells2 rfl rfl | exact (hs.pull 1).cells2 rfl rfl | exact (hs.pull 2).cells2 rfl rfl | exact (hs.pull 3).cells2 rfl rfl | exact (hs.pull 4).cells2 rfl rfl | exact (hs.pull 5).cells2 rfl rfl | exact (hs.pull 6).cells2 rfl rfl | exact (hs.pull 7).cells2 rfl rfl | exact (hs.pull 8).cells2 rfl rfl | exact hs.cell rfl | exact (hs.pull 1).cell rfl | exact (hs.pull 2).cell rfl | exact (hs.pull 3).cell rfl | exact (hs.pull 4).cell rfl | exact (hs.pull 5).cell rfl | exact (hs.pull 6).cell rfl | exact (hs.pull 7).cell rfl | exact (hs.pull 8).cell rfl | assumption | exact hs.cellsOf | exact (hs.pull 1).cellsOf | exact (hs.pull 2).cellsOf | exact (hs.pull 3).cellsOf | exact (hs.pull 4).cellsOf | exact (hs.pull 5).cellsOf | exact (hs.pull 6).cellsOf | exact (hs.pull 7).cellsOf | exact (hs.pull 8).cellsOf)), ?_⟩
      first
        | refine x_storeAllI hs 0 rfl rfl agg_72 [_, _, _] rfl rfl rfl rfl ?_
        | refine x_storeAllI hs 1 rfl rfl agg_72 [_, _, _] rfl rfl rfl rfl ?_
        | refine x_storeAllI hs 2 rfl rfl agg_72 [_, _, _] rfl rfl rfl rfl ?_
        | refine x_storeAllI hs 3 rfl rfl agg_72 [_, _, _] rfl rfl rfl rfl ?_
        | refine x_storeAllI hs 4 rfl rfl agg_72 [_, _, _] rfl rfl rfl rfl ?_
        | refine x_storeAllI hs 5 rfl rfl agg_72 [_, _, _] rfl rfl rfl rfl ?_
        | refine x_storeAllI hs 6 rfl rfl agg_72 [_, _, _] rfl rfl rfl rfl ?_
        | refine x_storeAllI hs 7 rfl rfl agg_72 [_, _, _] rfl rfl rfl rfl ?_
      clear hs; intro w hs
      try dsimp only [back, List.set_cons_zero, List.set_cons_succ] at hs
      refine ⟨fun h => (by first | (cases h; done) | (first | exact hs.cells2 rfl rfl | exact (hs.pull 1).cells2 rfl rfl | exact (hs.pull 2).cells2 rfl rfl | exact (hs.pull 3).cells2 rfl rfl | exact (hs.pull 4).cells2 rfl rfl | exact (hs.pull 5).cells2 rfl rfl | exact (hs.pull 6).cells2 rfl rfl | exact (hs.pull 7).cells2 rfl rfl | exact (hs.pull 8).cells2 rfl rfl | exact hs.cell rfl | exact (hs.pull 1).cell rfl | exact (hs.pull 2).cell rfl | exact (hs.pull 3).cell rfl | exact (hs.pull 4).cell rfl | exact (hs.pull 5).cell rfl | exact (hs.pull 6).cell rfl | exact (hs.pull 7).cell rfl | exact (hs.pull 8).cell rfl | assumption | exact hs.cellsOf | exact (hs.pull 1).cellsOf | exact (hs.pull 2).cellsOf | exact (hs.pull 3).cellsOf | exact (hs.pull 4).cellsOf | exact (hs.pull 5).cellsOf | exact (hs.pull 6).cellsOf | exact (hs.pull 7).cellsOf | exact (hs.pull 8).cellsOf) | (and_intros <;> first | exact hs.cells2 rfl rfl | exact (hs.pull 1).cells2 rfl rfl | exact (hs.pull 2).cells2 rfl rfl | exact (hs.pull 3).cells2 rfl rfl | exact (hs.pull 4).cells2 rfl rfl | exact (hs.pull 5).cells2 rfl rfl | exact (hs.pull 6).cells2 rfl rfl | exact (hs.pull 7).cells2 rfl rfl | exact (hs.pull 8).cells2 rfl rfl | exact hs.cell rfl | exact (hs.pull 1).cell rfl | exact (hs.pull 2).cell rfl | exact (hs.pull 3).cell rfl | exact (hs.pull 4).cell rfl | exact (hs.pull 5).cell rfl | exact (hs.pull 6).cell rfl | exact (hs.pull 7).cell rfl | exact (hs.pull 8).cell rfl | assumption | exact hs.cellsOf | exact (hs.pull 1).cellsOf | exact (hs.pull 2).cellsOf | exact (hs.pull 3).cellsOf | exact (hs.pull 4).cellsOf | exact (hs.pull 5).cellsOf | exact (hs.pull 6).cellsOf | exact (hs.pull 7).cellsOf | exact (hs.pull 8).cellsOf)), ?_⟩
      refine x_nil ?_
      refine then_n ?_
      refine c_seq ?_
      -- region 10
      refine c_region ?_
      first | refine x_field0 fa_72_0 _ rfl ?_ | refine x_field fa_72_0 _ _ rfl ?_
      refine x_loadN [_, _] agg_35 _ rfl (by first | assumption | exact hs.cellsOf | exact (hs.pull 1).cellsOf | exact (hs.pull 2).cellsOf | exact (hs.pull 3).cellsOf | exact (hs.pull 4).cellsOf | exact (hs.pull 5).cellsOf | exact (hs.pull 6).cellsOf | exact (hs.pull 7).cellsOf | exact (hs.pull 8).cellsOf | exact hs.cells2 rfl rfl | exact (hs.pull 1).cells2 rfl rfl | exact (hs.pull 2).cells2 rfl rfl | exact (hs.pull 3).cells2 rfl rfl | exact (hs.pull 4).cells2 rfl rfl | exact (hs.pull 5).cells2 rfl rfl | exact (hs.pull 6).cells2 rfl rfl | exact (hs.pull 7).cells2 rfl rfl | exact (hs.pull 8).cells2 rfl rfl) ?_
      refine x_loadN [_, _] agg_35 _ rfl (by first | assumption | exact hs.cellsOf | exact (hs.pull 1).cellsOf | exact (hs.pull 2).cellsOf | exact (hs.pull 3).cellsOf | exact (hs.pull 4).cellsOf | exact (hs.pull 5).cellsOf | exact (hs.pull 6).cellsOf | exact (hs.pull 7).cellsOf | exact (hs.pull 8).cellsOf | exact hs.cells2 rfl rfl | exact (hs.pull 1).cells2 rfl rfl | exact (hs.pull 2).cells2 rfl rfl | exact (hs.pull 3).cells2 rfl rfl | exact (hs.pull 4).cells2 rfl rfl | exact (hs.pull 5).cells2 rfl rfl | exact (hs.pull 6).cells2 rfl rfl | exact (hs.pull 7).cells2 rfl rfl | exact (hs.pull 8).cells2 rfl rfl) ?_
      refine x_eqlEF eq_pid kp p rfl rfl h1 ?_
      refine x_move (.bool _) rfl ?_
      refine x_skip rfl rfl ?_
      refine x_skip rfl rfl ?_
      refine x_skip rfl rfl ?_
      refine x_skip rfl rfl ?_
      refine x_pickF (.bool _) rfl rfl ?_
      refine x_nil ?_
      refine then_n ?_
      refine c_false rfl ?_
      refine c_skip ?_
      refine inb_n ?_
      refine then_n ?_
      have hks := keep_skip (p := p) (n := n) (e0 := e0) hlt hik (fun h => h1 h.1)
      rw [← map_erase] at hks
      have hs2 := hs
      rw [hks] at hs2
      refine ⟨(lt.eraseIdx i, some ((kp, kn), v)), ⟨rfl, rfl, rfl, rfl, rfl, trivial⟩, ⟨hlt', hs2.tail⟩, by first | omega | (dsimp only; omega)⟩
end Go.Proofs.Ytiffpkbkmpianaa.X
