/-
  LAYER 24, the reference: Skip, Ready; table; Same; flush's Missing and Count.
-/
import Derived.Test.YthhojdbklnoooaaFref3
namespace Go.Proofs.Ythhojdbklnoooaa.X
open Go Go.RowKit
set_option linter.unusedVariables false
set_option maxRecDepth 20000
theorem ocells_one {l : List (Pid × Nat)} : ∀ u ∈ ocells l, u.oneCell' = true := fun u hu => by
  unfold ocells at hu
  obtain ⟨r, hr, hu⟩ := List.mem_flatten.1 hu
  obtain ⟨p, _, rfl⟩ := List.mem_map.1 hr
  simp [ocell] at hu
  rcases hu with rfl | rfl | rfl <;> rfl
theorem tw_snoc (l : List (Pid × Nat)) (p : Pid) (y : Pid × Nat) : tw (l ++ [y]) p = if y.1 = p then tw l p else tw l p ++ [y] := by
  unfold tw
  rw [List.filter_append]
  by_cases h : y.1 = p <;> simp [h]
theorem tw_len (l : List (Pid × Nat)) (p : Pid) : (tw l p).length ≤ l.length := List.length_filter_le ..
theorem rcount_is {w0 w : World} {L : List HP} {x : Nat} {s : FSt} (p : Pid) (r : Bool) (hp : (mget p s.told).isSome = r) (hs : Sat w0 w (FR x s :: L)) (hlen : s.told.length ≤ 1000000) :
    Calls Try.prog 16 #[.pointer (some ⟨x, 0, none⟩), .agg #[.int .u16 (p.Id : Nat), .int .u32 (p.Inc : Nat)]] w fun e w' => e = .returned (.tuple #[.int .u64 ((mget p s.told).getD 0 : Nat), .bool r]) ∧ Sat w0 w' (FR x s :: L) := hp ▸ rcount_calls p hs hlen
set_option maxHeartbeats 4000000 in
theorem rskip_calls {w0 w : World} {A : HP} {L : List HP} {x : Nat} {s : FSt} {v : Value} {l : List Pid} (hs : Sat w0 w (FR x s :: A :: L)) (hr : ∀ w' L', Sat w0 w' (A :: L') → RS w' 2 Pid.cells v l) (hlen : l.length ≤ 1000000) (hask : s.ask.length ≤ 1000000) (htold : s.told.length ≤ 1000000) :
    Calls Try.prog 13 #[.pointer (some ⟨x, 0, none⟩), v] w fun e w' => e = .returned (.int .i64 ((s.rskip l).1 : Nat)) ∧ Sat w0 w' (FR x (s.rskip l).2 :: A :: L) := by
  obtain ⟨a, c, rfl⟩ := (hr _ _ (hs.pull 1)).val
  refine enter Try.func13 rfl Try.ntmps13 4 rfl (Nat.le_of_ble_eq_true rfl) ?_
  refine c_seq ?_
  -- region 0
  refine c_region ?_
  refine x_assign (.int _ _) rfl ?_
  refine x_nil ?_
  refine then_n ?_
  refine c_seq ?_
  -- region 1
  refine c_region ?_
  refine x_assign (.int _ _) rfl ?_
  refine x_nil ?_
  refine then_n ?_
  refine c_seq ?_
  refine c_seq ?_
  -- region 2
  refine c_region ?_
  refine x_assign (.int _ _) rfl ?_
  refine x_nil ?_
  refine then_n ?_
  refine c_block ?_
  refine c_loop (γ := Nat × Nat × FSt) (fun (⟨i, n, s'⟩ : Nat × Nat × FSt) => [(0, .pointer (some ⟨x, 0, none⟩)), (1, .slice a l.length c), (5, .int .i64 (n : Nat)), (6, .int .i64 (i : Nat))]) (fun (⟨i, n, s'⟩ : Nat × Nat × FSt) w => i ≤ l.length ∧ s.rskip (l.take i) = (n, s') ∧ n ≤ i ∧ s'.ask.length ≤ 1000000 ∧ s'.told.length ≤ 1000000 ∧ Sat w0 w (FR x s' :: A :: L)) (fun (⟨i, n, s'⟩ : Nat × Nat × FSt) => l.length - i) (0, 0, s) ⟨rfl, rfl, rfl, rfl, trivial⟩ ⟨Nat.zero_le _, rfl, Nat.le_refl _, hask, htold, hs⟩ ?_
  clear hs
  rintro ⟨i, n, s'⟩ ρ w ⟨hi, hsk, hni, hal, htl, hs⟩
  change CW Try.prog 89 _ _ (sets 89 [(0, .pointer (some ⟨x, 0, none⟩)), (1, .slice a l.length c), (5, .int .i64 (n : Nat)), (6, .int .i64 (i : Nat))] ρ) w
  refine c_seq ?_
  refine c_seq ?_
  -- region 3
  refine c_region ?_
  refine x_move (.int _ _) rfl ?_
  refine x_move (.slice _ _ _) rfl ?_
  refine x_lenSl Try.underlying22 _ _ _ rfl ?_
  refine x_lss _ _ rfl rfl ?_
  refine x_nil ?_
  refine then_n ?_
  refine c_test _ rfl (fun hb => ?_) (fun hb => ?_)   -- cond t14
  · skip
    obtain ⟨y, hy⟩ : ∃ y, l[i]? = some y := ⟨l[i]'(by omega), List.getElem?_eq_getElem _⟩
    have hR := hr _ _ (hs.pull 1)
    obtain ⟨g, o, rfl⟩ := hR.addr (by omega)
    have hcells := hR.all (fun a => a.cells_len) hy
    have hsn := s.rskip_snoc (l.take i) y
    rw [show l.take i ++ [y] = l.take (i + 1) from by rw [List.take_add_one, hy]; rfl, hsk] at hsn
    dsimp only at hsn
    have hwl := wo_len s'.ask y
    have htw := tw_len s'.told y
    by_cases hm : (mget y s'.told).isSome = true
    · skip
      refine c_skip ?_
      refine then_n ?_
      refine c_seq ?_
      refine c_block ?_
      refine c_seq ?_
      -- region 5
      refine c_region ?_
      refine x_move (.pointer _) rfl ?_
      refine x_move (.slice _ _ _) rfl ?_
      refine x_move (.int _ _) rfl ?_
      refine x_indexAddr Try.underlying22 sz_34 _ _ _ _ _ rfl rfl (by omega) ?_
      refine x_loadN [.int .u16 (y.Id : Nat), .int .u32 (y.Inc : Nat)] agg_34 _ rfl hcells ?_
      refine x_call Try.f16 Try.func16 rfl rfl _ rfl ?_
      refine (rcount_is y true hm hs htl).mono ?_
      clear hs; rintro e w ⟨rfl, hs⟩
      refine ⟨_, rfl, fun h => (by first | (cases h; done) | (first | exact hs.cells2 rfl rfl | exact (hs.pull 1).cells2 rfl rfl | exact (hs.pull 2).cells2 rfl rfl | exact (hs.pull 3).cells2 rfl rfl | exact (hs.pull 4).cells2 rfl rfl | exact (hs.pull 5).cells2 rfl rfl | exact (hs.pull 6).cells2 rfl rfl | exact (hs.pull 7).cells2 rfl rfl | exact (hs.pull 8).cells2 rfl rfl | exact hs.cell rfl | exact (hs.pull 1).cell rfl | exact (hs.pull 2).cell rfl | exact (hs.pull 3).cell rfl | exact (hs.pull 4).cell rfl | exact (hs.pull 5).cell rfl | exact (hs.pull 6).cell rfl | exact (hs.pull 7).cell rfl | exact (hs.pull 8).cell rfl | assumption | exact hs.cellsOf | exact (hs.pull 1).cellsOf | exact (hs.pull 2).cellsOf | exact (hs.pull 3).cellsOf | exact (hs.pull 4).cellsOf | exact (hs.pull 5).cellsOf | exact (hs.pull 6).cellsOf | exact (hs.pull 7).cellsOf | exact (hs.pull 8).cellsOf) | (and_intros <;> first | exact hs.cells2 rfl rfl | exact (hs.pull 1).cells2 rfl rfl | exact (hs.pull 2).cells2 rfl rfl | exact (hs.pull 3).cells2 rfl rfl | exact (hs.pull 4).cells2 rfl rfl | exact (hs.pull 5).cells2 rfl rfl | exact (hs.pull 6).cells2 rfl rfl | exact (hs.pull 7).cells2 rfl rfl | exact (hs.pull 8).cells2 rfl rfl | exact hs.cell rfl | exact (hs.pull 1).cell rfl | exact (hs.pull 2).cell rfl | exact (hs.pull 3).cell rfl | exact (hs.pull 4).cell rfl | exact (hs.pull 5).cell rfl | exact (hs.pull 6).cell rfl | exact (hs.pull 7).cell rfl | exact (hs.pull 8).cell rfl | assumption | exact hs.cellsOf | exact (hs.pull 1).cellsOf | exact (hs.pull 2).cellsOf | exact (hs.pull 3).cellsOf | exact (hs.pull 4).cellsOf | exact (hs.pull 5).cellsOf | exact (hs.pull 6).cellsOf | exact (hs.pull 7).cellsOf | exact (hs.pull 8).cellsOf)), ?_⟩
      refine x_move (.tuple _) rfl ?_
      refine x_extract _ (.int _ _) rfl rfl ?_
      refine x_extract _ (.bool _) rfl rfl ?_
      refine x_assign (.int _ _) rfl ?_
      refine x_assign (.bool _) rfl ?_
      refine x_nil ?_
      refine then_n ?_
      refine c_seqI (γ := Nat) (fun (n' : Nat) => [(0, .pointer (some ⟨x, 0, none⟩)), (1, .slice (some ⟨g, o, none⟩) l.length c), (5, .int .i64 (n' : Nat)), (6, .int .i64 (i : Nat))]) (fun (n' : Nat) w => n' = n + (if s'.rhit y then 1 else 0) ∧ Sat w0 w (FR x s' :: A :: L)) ?_ ?_
      · skip
        refine c_seq ?_
        -- region 6 DRAWS
        obtain ⟨a1, c1, a2, c2, hs⟩ := hs.fr
        clear hcells
        refine c_draw (fun w => SameL hs w) (fun i => !(Nat.beq i 10)) [(0, 2), (1, 2), (2, 2), (3, 2), (4, 2), (5, 1), (6, 2), (7, 2), (8, 2), (9, 1), (10, 0), (11, 2)] (by kernel_rfl) (by kernel_rfl) (by kernel_rfl) (by kernel_rfl) (hs.drew) ?_
        replace hs := hs.drew
        refine x_move (.bool _) rfl ?_
        refine x_move (.bool _) rfl ?_
        refine x_skip rfl rfl ?_
        refine x_skip rfl rfl ?_
        refine x_skip rfl rfl ?_
        refine x_skip rfl rfl ?_
        refine x_skip rfl rfl ?_
        refine x_skip rfl rfl ?_
        refine x_skip rfl rfl ?_
        refine x_skip rfl rfl ?_
        refine x_skip rfl rfl ?_
        refine x_pickT (.bool _) rfl rfl ?_
        refine x_nil ?_
        refine then_n ?_
        refine c_true rfl ?_
        -- region 7
        refine c_region ?_
        refine x_move (.int _ _) rfl ?_
        refine x_add _ _ rfl rfl (by simp only [X.lo]; omega) (by simp only [X.hi]; omega) ?_
        refine x_assign (.int _ _) rfl ?_
        refine x_nil ?_
        refine then_n ?_
        exact ⟨(n + 1), ⟨rfl, rfl, rfl, rfl, trivial⟩, ⟨by unfold FSt.rhit; rw [hm]; rfl, hs.fr'⟩⟩
      · skip
        clear hs
        rintro n' ρ w ⟨hn', hs⟩
        change CW Try.prog 89 _ _ (sets 89 [(0, .pointer (some ⟨x, 0, none⟩)), (1, .slice (some ⟨g, o, none⟩) l.length c), (5, .int .i64 (n' : Nat)), (6, .int .i64 (i : Nat))] ρ) w
        refine c_seq ?_
        -- region 8 DRAWS
        obtain ⟨a1, c1, a2, c2, hs⟩ := hs.fr
        refine c_draw (fun w => w.cell? ⟨x, 0, none⟩ = some (.slice a1 s'.ask.length c1) ∧ (∀ (j : Nat) (u : Value), [Value.int .u16 (y.Id : Nat), Value.int .u32 (y.Inc : Nat)][j]? = some u → w.cell? ((⟨g, o + i * 2, none⟩ : Addr).add j) = some u)) (fun i => !(Nat.beq i 9 || Nat.beq i 12)) [(0, 2), (1, 2), (2, 2), (3, 2), (4, 1), (5, 2), (6, 2), (7, 2), (8, 1), (9, 0), (10, 2), (11, 2), (12, 0)] (by kernel_rfl) (by kernel_rfl) (by kernel_rfl) (by kernel_rfl) (⟨hs.drew.cell rfl, (hr _ _ (hs.drew.pull 3)).all (fun a => a.cells_len) hy⟩) ?_
        replace hs := hs.drew
        refine x_move (.pointer _) rfl ?_
        refine x_move (.pointer _) rfl ?_
        refine x_nilCheck _ rfl ?_
        first | refine x_field0 fa_43_0 _ rfl ?_ | refine x_field fa_43_0 _ _ rfl ?_
        refine h_load one_22 _ (.slice _ _ _) rfl (fun w hS => by first | exact hS.cell rfl | exact (hS.pull 1).cell rfl | exact (hS.pull 2).cell rfl | exact (hS.pull 3).cell rfl | exact (hS.pull 4).cell rfl | exact (hS.pull 5).cell rfl | exact (hS.pull 6).cell rfl | exact hS | exact hS.1 | exact hS.2 | exact hS.2.1 | exact hS.2.2 | exact hS.2.2.1 | exact hS.2.2.2 | exact hS.2.2.2.1 | exact hS.2.2.2.2) ?_
        refine x_move (.slice _ _ _) rfl ?_
        refine x_move (.int _ _) rfl ?_
        refine x_indexAddr Try.underlying22 sz_34 _ _ _ _ _ rfl rfl (by omega) ?_
        refine h_loadN [_, _] agg_34 _ rfl (fun w hS => by first | exact hS | exact hS.1 | exact hS.2 | exact hS.2.1 | exact hS.2.2 | exact hS.2.2.1 | exact hS.2.2.2 | exact hS.2.2.2.1 | exact hS.2.2.2.2 | exact hS.cellsOf | exact (hS.pull 1).cellsOf | exact (hS.pull 2).cellsOf | exact (hS.pull 3).cellsOf | exact (hS.pull 4).cellsOf | exact (hS.pull 5).cellsOf | exact (hS.pull 6).cellsOf | exact hS.cells2 rfl rfl | exact (hS.pull 1).cells2 rfl rfl | exact (hS.pull 2).cells2 rfl rfl | exact (hS.pull 3).cells2 rfl rfl | exact (hS.pull 4).cells2 rfl rfl | exact (hS.pull 5).cells2 rfl rfl | exact (hS.pull 6).cells2 rfl rfl) ?_
        refine x_call Try.f25 Try.func25 rfl rfl _ rfl ?_
        refine (without_calls y (hs.pull 1) (fun w' L' h => h.prs) (by omega)).mono ?_
        clear hs; rintro e w ⟨v', rfl, hs⟩
        replace hs := hs.push 1
        try dsimp only [back] at hs
        refine ⟨_, rfl, fun h => (by first | (cases h; done) | (first | exact hs.cells2 rfl rfl | exact (hs.pull 1).cells2 rfl rfl | exact (hs.pull 2).cells2 rfl rfl | exact (hs.pull 3).cells2 rfl rfl | exact (hs.pull 4).cells2 rfl rfl | exact (hs.pull 5).cells2 rfl rfl | exact (hs.pull 6).cells2 rfl rfl | exact (hs.pull 7).cells2 rfl rfl | exact (hs.pull 8).cells2 rfl rfl | exact hs.cell rfl | exact (hs.pull 1).cell rfl | exact (hs.pull 2).cell rfl | exact (hs.pull 3).cell rfl | exact (hs.pull 4).cell rfl | exact (hs.pull 5).cell rfl | exact (hs.pull 6).cell rfl | exact (hs.pull 7).cell rfl | exact (hs.pull 8).cell rfl | assumption | exact hs.cellsOf | exact (hs.pull 1).cellsOf | exact (hs.pull 2).cellsOf | exact (hs.pull 3).cellsOf | exact (hs.pull 4).cellsOf | exact (hs.pull 5).cellsOf | exact (hs.pull 6).cellsOf | exact (hs.pull 7).cellsOf | exact (hs.pull 8).cellsOf) | (and_intros <;> first | exact hs.cells2 rfl rfl | exact (hs.pull 1).cells2 rfl rfl | exact (hs.pull 2).cells2 rfl rfl | exact (hs.pull 3).cells2 rfl rfl | exact (hs.pull 4).cells2 rfl rfl | exact (hs.pull 5).cells2 rfl rfl | exact (hs.pull 6).cells2 rfl rfl | exact (hs.pull 7).cells2 rfl rfl | exact (hs.pull 8).cells2 rfl rfl | exact hs.cell rfl | exact (hs.pull 1).cell rfl | exact (hs.pull 2).cell rfl | exact (hs.pull 3).cell rfl | exact (hs.pull 4).cell rfl | exact (hs.pull 5).cell rfl | exact (hs.pull 6).cell rfl | exact (hs.pull 7).cell rfl | exact (hs.pull 8).cell rfl | assumption | exact hs.cellsOf | exact (hs.pull 1).cellsOf | exact (hs.pull 2).cellsOf | exact (hs.pull 3).cellsOf | exact (hs.pull 4).cellsOf | exact (hs.pull 5).cellsOf | exact (hs.pull 6).cellsOf | exact (hs.pull 7).cellsOf | exact (hs.pull 8).cellsOf)), ?_⟩
        obtain ⟨a5, c5, rfl⟩ := (hs.pull 1).rd.val
        refine x_nilCheck _ rfl ?_
        first | refine x_field0 fa_43_0 _ rfl ?_ | refine x_field fa_43_0 _ _ rfl ?_
        first
          | refine x_storeI hs 0 rfl rfl one_22 (.slice _ _ _) rfl rfl rfl ?_
          | refine x_storeI hs 1 rfl rfl one_22 (.slice _ _ _) rfl rfl rfl ?_
          | refine x_storeI hs 2 rfl rfl one_22 (.slice _ _ _) rfl rfl rfl ?_
          | refine x_storeI hs 3 rfl rfl one_22 (.slice _ _ _) rfl rfl rfl ?_
          | refine x_storeI hs 4 rfl rfl one_22 (.slice _ _ _) rfl rfl rfl ?_
          | refine x_storeI hs 5 rfl rfl one_22 (.slice _ _ _) rfl rfl rfl ?_
          | refine x_storeI hs 6 rfl rfl one_22 (.slice _ _ _) rfl rfl rfl ?_
          | refine x_storeI hs 7 rfl rfl one_22 (.slice _ _ _) rfl rfl rfl ?_
        clear hs; intro w hs
        try dsimp only [back, List.set_cons_zero, List.set_cons_succ] at hs
        refine ⟨fun h => (by first | (cases h; done) | (first | exact hs.cells2 rfl rfl | exact (hs.pull 1).cells2 rfl rfl | exact (hs.pull 2).cells2 rfl rfl | exact (hs.pull 3).cells2 rfl rfl | exact (hs.pull 4).cells2 rfl rfl | exact (hs.pull 5).cells2 rfl rfl | exact (hs.pull 6).cells2 rfl rfl | exact (hs.pull 7).cells2 rfl rfl | exact (hs.pull 8).cells2 rfl rfl | exact hs.cell rfl | exact (hs.pull 1).cell rfl | exact (hs.pull 2).cell rfl | exact (hs.pull 3).cell rfl | exact (hs.pull 4).cell rfl | exact (hs.pull 5).cell rfl | exact (hs.pull 6).cell rfl | exact (hs.pull 7).cell rfl | exact (hs.pull 8).cell rfl | assumption | exact hs.cellsOf | exact (hs.pull 1).cellsOf | exact (hs.pull 2).cellsOf | exact (hs.pull 3).cellsOf | exact (hs.pull 4).cellsOf | exact (hs.pull 5).cellsOf | exact (hs.pull 6).cellsOf | exact (hs.pull 7).cellsOf | exact (hs.pull 8).cellsOf) | (and_intros <;> first | exact hs.cells2 rfl rfl | exact (hs.pull 1).cells2 rfl rfl | exact (hs.pull 2).cells2 rfl rfl | exact (hs.pull 3).cells2 rfl rfl | exact (hs.pull 4).cells2 rfl rfl | exact (hs.pull 5).cells2 rfl rfl | exact (hs.pull 6).cells2 rfl rfl | exact (hs.pull 7).cells2 rfl rfl | exact (hs.pull 8).cells2 rfl rfl | exact hs.cell rfl | exact (hs.pull 1).cell rfl | exact (hs.pull 2).cell rfl | exact (hs.pull 3).cell rfl | exact (hs.pull 4).cell rfl | exact (hs.pull 5).cell rfl | exact (hs.pull 6).cell rfl | exact (hs.pull 7).cell rfl | exact (hs.pull 8).cell rfl | assumption | exact hs.cellsOf | exact (hs.pull 1).cellsOf | exact (hs.pull 2).cellsOf | exact (hs.pull 3).cellsOf | exact (hs.pull 4).cellsOf | exact (hs.pull 5).cellsOf | exact (hs.pull 6).cellsOf | exact (hs.pull 7).cellsOf | exact (hs.pull 8).cellsOf)), ?_⟩
        refine x_nil ?_
        refine then_n ?_
        refine c_seq ?_
        -- region 9
        refine c_region ?_
        refine x_assign (.slice _ _ _) rfl ?_
        refine x_nil ?_
        refine then_n ?_
        refine c_seq ?_
        refine c_seq ?_
        -- region 10
        refine c_region ?_
        refine x_assign (.int _ _) rfl ?_
        refine x_nil ?_
        refine then_n ?_
        refine c_block ?_
        refine c_loop (γ := Nat × Option Addr × Nat) (fun (⟨k, a9, c9⟩ : Nat × Option Addr × Nat) => [(0, .pointer (some ⟨x, 0, none⟩)), (1, .slice (some ⟨g, o, none⟩) l.length c), (5, .int .i64 (n' : Nat)), (6, .int .i64 (i : Nat)), (9, .slice a9 (tw (s'.told.take k) y).length c9), (10, .int .i64 (k : Nat))]) (fun (⟨k, a9, c9⟩ : Nat × Option Addr × Nat) w => k ≤ s'.told.length ∧ Sat w0 w (Row 61 3 (.slice a9 (tw (s'.told.take k) y).length c9) (tw (s'.told.take k) y).length (ocells (tw (s'.told.take k) y)) :: Blk x (.cells #[.slice a5 (wo s'.ask y).length c5, .slice a2 s'.told.length c2] 43 (0, 0)) :: Row 34 2 (.slice a5 (wo s'.ask y).length c5) (wo s'.ask y).length (pcells (wo s'.ask y)) :: Row 61 3 (.slice a2 s'.told.length c2) s'.told.length (ocells s'.told) :: A :: L)) (fun (⟨k, a9, c9⟩ : Nat × Option Addr × Nat) => s'.told.length - k) (0, none, 0) ⟨rfl, rfl, rfl, rfl, rfl, rfl, trivial⟩ ⟨Nat.zero_le _, Sat.rowNil (hs.tail.perm [1, 0])⟩ ?_
        clear hs
        rintro ⟨k, a9, c9⟩ ρ w ⟨hk, hs⟩
        change CW Try.prog 89 _ _ (sets 89 [(0, .pointer (some ⟨x, 0, none⟩)), (1, .slice (some ⟨g, o, none⟩) l.length c), (5, .int .i64 (n' : Nat)), (6, .int .i64 (i : Nat)), (9, .slice a9 (tw (s'.told.take k) y).length c9), (10, .int .i64 (k : Nat))] ρ) w
        refine c_seq ?_
        refine c_seq ?_
        -- region 11
        refine c_region ?_
        refine x_move (.int _ _) rfl ?_
        refine x_move (.pointer _) rfl ?_
        refine x_nilCheck _ rfl ?_
        first | refine x_field0 fa_43_1 _ rfl ?_ | refine x_field fa_43_1 _ _ rfl ?_
        refine x_load one_40 _ (.slice _ _ _) rfl (by first | exact hs.cell rfl | exact (hs.pull 1).cell rfl | exact (hs.pull 2).cell rfl | exact (hs.pull 3).cell rfl | assumption | exact (hs.pull 4).cell rfl | exact (hs.pull 5).cell rfl | exact (hs.pull 6).cell rfl | exact (hs.pull 7).cell rfl) ?_
        refine x_lenSl Try.underlying40 _ _ _ rfl ?_
        refine x_lss _ _ rfl rfl ?_
        refine x_nil ?_
        refine then_n ?_
        refine c_test _ rfl (fun hb => ?_) (fun hb => ?_)   -- cond t58
        · skip
          refine c_skip ?_
          refine then_n ?_
          refine c_seq ?_
          refine c_block ?_
          refine c_seq ?_
          -- region 13 DRAWS
          obtain ⟨⟨q, m⟩, hq⟩ : ∃ y, s'.told[k]? = some y := ⟨s'.told[k]'(by omega), List.getElem?_eq_getElem _⟩
          obtain ⟨g2, o2, rfl⟩ := (hs.pull 3).rowAddr (by omega)
          have hon := tw_snoc (s'.told.take k) y (q, m)
          rw [show s'.told.take k ++ [(q, m)] = s'.told.take (k + 1) from by rw [List.take_add_one, hq]; rfl] at hon
          dsimp only at hon
          have hol := tw_len (s'.told.take k) y
          rw [List.length_take] at hol
          refine c_draw (fun w => w.cell? ⟨x, 1, none⟩ = some (.slice (some ⟨g2, o2, none⟩) s'.told.length c2) ∧ (∀ (j : Nat) (u : Value), [Value.int .u16 (q.Id : Nat), Value.int .u32 (q.Inc : Nat)][j]? = some u → w.cell? ((⟨g2, o2 + k * 3, none⟩ : Addr).add j) = some u) ∧ (∀ (j : Nat) (u : Value), [Value.int .u16 (y.Id : Nat), Value.int .u32 (y.Inc : Nat)][j]? = some u → w.cell? ((⟨g, o + i * 2, none⟩ : Addr).add j) = some u)) (fun i => !(false)) [(0, 2), (1, 2), (2, 2), (3, 1), (4, 2), (5, 2), (6, 2), (7, 1), (8, 2), (9, 2), (10, 2), (11, 1), (12, 2)] (by kernel_rfl) (by kernel_rfl) (by kernel_rfl) (by kernel_rfl) (⟨(hs.drew.pull 1).cell rfl, (hs.drew.pull 3).ors.oP hq, (hr _ _ (hs.drew.pull 4)).all (fun a => a.cells_len) hy⟩) ?_
          replace hs := hs.drew
          refine x_move (.pointer _) rfl ?_
          refine x_nilCheck _ rfl ?_
          first | refine x_field0 fa_43_1 _ rfl ?_ | refine x_field fa_43_1 _ _ rfl ?_
          refine h_load one_40 _ (.slice _ _ _) rfl (fun w hS => by first | exact hS.cell rfl | exact (hS.pull 1).cell rfl | exact (hS.pull 2).cell rfl | exact (hS.pull 3).cell rfl | exact (hS.pull 4).cell rfl | exact (hS.pull 5).cell rfl | exact (hS.pull 6).cell rfl | exact hS | exact hS.1 | exact hS.2 | exact hS.2.1 | exact hS.2.2 | exact hS.2.2.1 | exact hS.2.2.2 | exact hS.2.2.2.1 | exact hS.2.2.2.2) ?_
          refine x_move (.int _ _) rfl ?_
          refine x_indexAddr Try.underlying40 sz_61 _ _ _ _ _ rfl rfl (by omega) ?_
          first | refine x_field0 fa_61_0 _ rfl ?_ | refine x_field fa_61_0 _ _ rfl ?_
          refine h_loadN [_, _] agg_34 _ rfl (fun w hS => by first | exact hS | exact hS.1 | exact hS.2 | exact hS.2.1 | exact hS.2.2 | exact hS.2.2.1 | exact hS.2.2.2 | exact hS.2.2.2.1 | exact hS.2.2.2.2 | exact hS.cellsOf | exact (hS.pull 1).cellsOf | exact (hS.pull 2).cellsOf | exact (hS.pull 3).cellsOf | exact (hS.pull 4).cellsOf | exact (hS.pull 5).cellsOf | exact (hS.pull 6).cellsOf | exact hS.cells2 rfl rfl | exact (hS.pull 1).cells2 rfl rfl | exact (hS.pull 2).cells2 rfl rfl | exact (hS.pull 3).cells2 rfl rfl | exact (hS.pull 4).cells2 rfl rfl | exact (hS.pull 5).cells2 rfl rfl | exact (hS.pull 6).cells2 rfl rfl) ?_
          refine x_move (.slice _ _ _) rfl ?_
          refine x_move (.int _ _) rfl ?_
          refine x_indexAddr Try.underlying22 sz_34 _ _ _ _ _ rfl rfl (by omega) ?_
          refine h_loadN [_, _] agg_34 _ rfl (fun w hS => by first | exact hS | exact hS.1 | exact hS.2 | exact hS.2.1 | exact hS.2.2 | exact hS.2.2.1 | exact hS.2.2.2 | exact hS.2.2.2.1 | exact hS.2.2.2.2 | exact hS.cellsOf | exact (hS.pull 1).cellsOf | exact (hS.pull 2).cellsOf | exact (hS.pull 3).cellsOf | exact (hS.pull 4).cellsOf | exact (hS.pull 5).cellsOf | exact (hS.pull 6).cellsOf | exact hS.cells2 rfl rfl | exact (hS.pull 1).cells2 rfl rfl | exact (hS.pull 2).cells2 rfl rfl | exact (hS.pull 3).cells2 rfl rfl | exact (hS.pull 4).cells2 rfl rfl | exact (hS.pull 5).cells2 rfl rfl | exact (hS.pull 6).cells2 rfl rfl) ?_
          refine x_neqE eq_pid q y rfl rfl ?_
          refine x_nil ?_
          refine then_n ?_
          refine c_cond rfl (fun hb => ?_) (fun hb => ?_)   -- cond t73
          · skip
            -- region 14
            have hco := (hs.pull 3).ors.all ocell_len hq
            refine c_region ?_
            refine x_move (.slice _ _ _) rfl ?_
            refine x_move (.pointer _) rfl ?_
            refine x_nilCheck _ rfl ?_
            first | refine x_field0 fa_43_1 _ rfl ?_ | refine x_field fa_43_1 _ _ rfl ?_
            refine x_load one_40 _ (.slice _ _ _) rfl (by first | exact hs.cell rfl | exact (hs.pull 1).cell rfl | exact (hs.pull 2).cell rfl | exact (hs.pull 3).cell rfl | assumption | exact (hs.pull 4).cell rfl | exact (hs.pull 5).cell rfl | exact (hs.pull 6).cell rfl | exact (hs.pull 7).cell rfl) ?_
            refine x_move (.int _ _) rfl ?_
            refine x_indexAddr Try.underlying40 sz_61 _ _ _ _ _ rfl rfl (by omega) ?_
            refine x_loadN [.int .u16 (q.Id : Nat), .int .u32 (q.Inc : Nat), .int .u64 (m : Nat)] agg_61 _ rfl hco ?_
            refine x_buildSlice _ [(0, (.agg #[(.int .u16 _), (.int .u32 _), (.int .u64 _)]))] hs rfl (fun w => bs_40_1 _ _ _ w) ?_; clear hs; intro b82 w hs; refine ⟨fun h => (by first | (cases h; done) | (first | exact hs.cells2 rfl rfl | exact (hs.pull 1).cells2 rfl rfl | exact (hs.pull 2).cells2 rfl rfl | exact (hs.pull 3).cells2 rfl rfl | exact (hs.pull 4).cells2 rfl rfl | exact (hs.pull 5).cells2 rfl rfl | exact (hs.pull 6).cells2 rfl rfl | exact (hs.pull 7).cells2 rfl rfl | exact (hs.pull 8).cells2 rfl rfl | exact hs.cell rfl | exact (hs.pull 1).cell rfl | exact (hs.pull 2).cell rfl | exact (hs.pull 3).cell rfl | exact (hs.pull 4).cell rfl | exact (hs.pull 5).cell rfl | exact (hs.pull 6).cell rfl | exact (hs.pull 7).cell rfl | exact (hs.pull 8).cell rfl | assumption | exact hs.cellsOf | exact (hs.pull 1).cellsOf | exact (hs.pull 2).cellsOf | exact (hs.pull 3).cellsOf | exact (hs.pull 4).cellsOf | exact (hs.pull 5).cellsOf | exact (hs.pull 6).cellsOf | exact (hs.pull 7).cellsOf | exact (hs.pull 8).cellsOf) | (and_intros <;> first | exact hs.cells2 rfl rfl | exact (hs.pull 1).cells2 rfl rfl | exact (hs.pull 2).cells2 rfl rfl | exact (hs.pull 3).cells2 rfl rfl | exact (hs.pull 4).cells2 rfl rfl | exact (hs.pull 5).cells2 rfl rfl | exact (hs.pull 6).cells2 rfl rfl | exact (hs.pull 7).cells2 rfl rfl | exact (hs.pull 8).cells2 rfl rfl | exact hs.cell rfl | exact (hs.pull 1).cell rfl | exact (hs.pull 2).cell rfl | exact (hs.pull 3).cell rfl | exact (hs.pull 4).cell rfl | exact (hs.pull 5).cell rfl | exact (hs.pull 6).cell rfl | exact (hs.pull 7).cell rfl | exact (hs.pull 8).cell rfl | assumption | exact hs.cellsOf | exact (hs.pull 1).cellsOf | exact (hs.pull 2).cellsOf | exact (hs.pull 3).cellsOf | exact (hs.pull 4).cellsOf | exact (hs.pull 5).cellsOf | exact (hs.pull 6).cellsOf | exact (hs.pull 7).cellsOf | exact (hs.pull 8).cellsOf)), ?_⟩
            have hrd := rd_blk (size := 3) hs rfl
            refine x_append (hs.pull 1) Try.underlying40 ei_61 hrd (by intro u hu; simp at hu; rcases hu with rfl | rfl | rfl <;> rfl) (by unfold maxLen; omega) (by omega) rfl rfl ?_
            clear hs hrd hco; intro v w hs; refine ⟨fun h => (by cases h), ?_⟩
            obtain ⟨a7, c7, rfl⟩ := hs.rd.val
            have hon' : tw (s'.told.take (k + 1)) y = tw (s'.told.take k) y ++ [(q, m)] := by rw [hon, if_neg (by simpa using hb)]
            have hln : (tw (s'.told.take k) y).length + 1 = (tw (s'.told.take (k + 1)) y).length := by rw [hon']; simp
            rw [show ocells (tw (s'.told.take k) y) ++ #[Value.int .u16 (q.Id : Nat), .int .u32 (q.Inc : Nat), .int .u64 (m : Nat)].toList = ocells (tw (s'.told.take (k + 1)) y) from by rw [hon', ocells_snoc], hln] at hs
            rw [hln]
            refine x_assign (.slice _ _ _) rfl ?_
            refine x_nil ?_
            refine inb_n ?_
            refine then_n ?_
            -- region 12
            refine c_region ?_
            refine x_move (.int _ _) rfl ?_
            refine x_add _ _ rfl rfl (by simp only [X.lo]; omega) (by simp only [X.hi]; omega) ?_
            refine x_assign (.int _ _) rfl ?_
            refine x_nil ?_
            refine then_n ?_
            refine ⟨(k + 1, a7, c7), ⟨rfl, rfl, rfl, rfl, rfl, rfl, trivial⟩, ⟨by omega, (hs.pull 1).tail⟩, by first | omega | (dsimp only; omega)⟩
          · skip
            refine c_skip ?_
            refine inb_n ?_
            refine then_n ?_
            -- region 12
            refine c_region ?_
            refine x_move (.int _ _) rfl ?_
            refine x_add _ _ rfl rfl (by simp only [X.lo]; omega) (by simp only [X.hi]; omega) ?_
            refine x_assign (.int _ _) rfl ?_
            refine x_nil ?_
            refine then_n ?_
            have hon' : tw (s'.told.take (k + 1)) y = tw (s'.told.take k) y := by rw [hon, if_pos (by simpa using hb)]
            have hs' := hs
            rw [← hon'] at hs'
            rw [← hon']
            refine ⟨(k + 1, a9, c9), ⟨rfl, rfl, rfl, rfl, rfl, rfl, trivial⟩, ⟨by omega, hs'⟩, by first | omega | (dsimp only; omega)⟩
        · skip
          refine c_exit ?_
          refine then_x ?_
          refine then_x ?_
          refine inb_e ?_
          refine then_n ?_
          -- region 15
          rw [List.take_of_length_le (by omega)] at hs
          rw [List.take_of_length_le (by omega)]
          refine c_region ?_
          refine x_move (.pointer _) rfl ?_
          refine x_move (.slice _ _ _) rfl ?_
          refine x_nilCheck _ rfl ?_
          first | refine x_field0 fa_43_1 _ rfl ?_ | refine x_field fa_43_1 _ _ rfl ?_
          first
            | refine x_storeI hs 0 rfl rfl one_40 (.slice _ _ _) rfl rfl rfl ?_
            | refine x_storeI hs 1 rfl rfl one_40 (.slice _ _ _) rfl rfl rfl ?_
            | refine x_storeI hs 2 rfl rfl one_40 (.slice _ _ _) rfl rfl rfl ?_
            | refine x_storeI hs 3 rfl rfl one_40 (.slice _ _ _) rfl rfl rfl ?_
            | refine x_storeI hs 4 rfl rfl one_40 (.slice _ _ _) rfl rfl rfl ?_
            | refine x_storeI hs 5 rfl rfl one_40 (.slice _ _ _) rfl rfl rfl ?_
            | refine x_storeI hs 6 rfl rfl one_40 (.slice _ _ _) rfl rfl rfl ?_
            | refine x_storeI hs 7 rfl rfl one_40 (.slice _ _ _) rfl rfl rfl ?_
          clear hs; intro w hs
          try dsimp only [back, List.set_cons_zero, List.set_cons_succ] at hs
          refine ⟨fun h => (by first | (cases h; done) | (first | exact hs.cells2 rfl rfl | exact (hs.pull 1).cells2 rfl rfl | exact (hs.pull 2).cells2 rfl rfl | exact (hs.pull 3).cells2 rfl rfl | exact (hs.pull 4).cells2 rfl rfl | exact (hs.pull 5).cells2 rfl rfl | exact (hs.pull 6).cells2 rfl rfl | exact (hs.pull 7).cells2 rfl rfl | exact (hs.pull 8).cells2 rfl rfl | exact hs.cell rfl | exact (hs.pull 1).cell rfl | exact (hs.pull 2).cell rfl | exact (hs.pull 3).cell rfl | exact (hs.pull 4).cell rfl | exact (hs.pull 5).cell rfl | exact (hs.pull 6).cell rfl | exact (hs.pull 7).cell rfl | exact (hs.pull 8).cell rfl | assumption | exact hs.cellsOf | exact (hs.pull 1).cellsOf | exact (hs.pull 2).cellsOf | exact (hs.pull 3).cellsOf | exact (hs.pull 4).cellsOf | exact (hs.pull 5).cellsOf | exact (hs.pull 6).cellsOf | exact (hs.pull 7).cellsOf | exact (hs.pull 8).cellsOf) | (and_intros <;> first | exact hs.cells2 rfl rfl | exact (hs.pull 1).cells2 rfl rfl | exact (hs.pull 2).cells2 rfl rfl | exact (hs.pull 3).cells2 rfl rfl | exact (hs.pull 4).cells2 rfl rfl | exact (hs.pull 5).cells2 rfl rfl | exact (hs.pull 6).cells2 rfl rfl | exact (hs.pull 7).cells2 rfl rfl | exact (hs.pull 8).cells2 rfl rfl | exact hs.cell rfl | exact (hs.pull 1).cell rfl | exact (hs.pull 2).cell rfl | exact (hs.pull 3).cell rfl | exact (hs.pull 4).cell rfl | exact (hs.pull 5).cell rfl | exact (hs.pull 6).cell rfl | exact (hs.pull 7).cell rfl | exact (hs.pull 8).cell rfl | assumption | exact hs.cellsOf | exact (hs.pull 1).cellsOf | exact (hs.pull 2).cellsOf | exact (hs.pull 3).cellsOf | exact (hs.pull 4).cellsOf | exact (hs.pull 5).cellsOf | exact (hs.pull 6).cellsOf | exact (hs.pull 7).cellsOf | exact (hs.pull 8).cellsOf)), ?_⟩
          refine x_nil ?_
          refine inb_n ?_
          refine then_n ?_
          -- region 4
          refine c_region ?_
          refine x_move (.int _ _) rfl ?_
          refine x_add _ _ rfl rfl (by simp only [X.lo]; omega) (by simp only [X.hi]; omega) ?_
          refine x_assign (.int _ _) rfl ?_
          refine x_nil ?_
          refine then_n ?_
          refine ⟨(i + 1, n', s'.rsk y), ⟨rfl, rfl, rfl, rfl, trivial⟩, ⟨by omega, by rw [hsn, hn'], by rw [hn']; split <;> omega, Nat.le_trans hwl hal, Nat.le_trans htw htl, Sat.fr' (s := s'.rsk y) ((hs.pull 3).tail.perm [1, 2, 0])⟩, by first | omega | (dsimp only; omega)⟩
    · skip
      refine c_skip ?_
      refine then_n ?_
      refine c_seq ?_
      refine c_block ?_
      refine c_seq ?_
      -- region 5
      refine c_region ?_
      refine x_move (.pointer _) rfl ?_
      refine x_move (.slice _ _ _) rfl ?_
      refine x_move (.int _ _) rfl ?_
      refine x_indexAddr Try.underlying22 sz_34 _ _ _ _ _ rfl rfl (by omega) ?_
      refine x_loadN [.int .u16 (y.Id : Nat), .int .u32 (y.Inc : Nat)] agg_34 _ rfl hcells ?_
      refine x_call Try.f16 Try.func16 rfl rfl _ rfl ?_
      refine (rcount_is y false (by simpa using hm) hs htl).mono ?_
      clear hs; rintro e w ⟨rfl, hs⟩
      refine ⟨_, rfl, fun h => (by first | (cases h; done) | (first | exact hs.cells2 rfl rfl | exact (hs.pull 1).cells2 rfl rfl | exact (hs.pull 2).cells2 rfl rfl | exact (hs.pull 3).cells2 rfl rfl | exact (hs.pull 4).cells2 rfl rfl | exact (hs.pull 5).cells2 rfl rfl | exact (hs.pull 6).cells2 rfl rfl | exact (hs.pull 7).cells2 rfl rfl | exact (hs.pull 8).cells2 rfl rfl | exact hs.cell rfl | exact (hs.pull 1).cell rfl | exact (hs.pull 2).cell rfl | exact (hs.pull 3).cell rfl | exact (hs.pull 4).cell rfl | exact (hs.pull 5).cell rfl | exact (hs.pull 6).cell rfl | exact (hs.pull 7).cell rfl | exact (hs.pull 8).cell rfl | assumption | exact hs.cellsOf | exact (hs.pull 1).cellsOf | exact (hs.pull 2).cellsOf | exact (hs.pull 3).cellsOf | exact (hs.pull 4).cellsOf | exact (hs.pull 5).cellsOf | exact (hs.pull 6).cellsOf | exact (hs.pull 7).cellsOf | exact (hs.pull 8).cellsOf) | (and_intros <;> first | exact hs.cells2 rfl rfl | exact (hs.pull 1).cells2 rfl rfl | exact (hs.pull 2).cells2 rfl rfl | exact (hs.pull 3).cells2 rfl rfl | exact (hs.pull 4).cells2 rfl rfl | exact (hs.pull 5).cells2 rfl rfl | exact (hs.pull 6).cells2 rfl rfl | exact (hs.pull 7).cells2 rfl rfl | exact (hs.pull 8).cells2 rfl rfl | exact hs.cell rfl | exact (hs.pull 1).cell rfl | exact (hs.pull 2).cell rfl | exact (hs.pull 3).cell rfl | exact (hs.pull 4).cell rfl | exact (hs.pull 5).cell rfl | exact (hs.pull 6).cell rfl | exact (hs.pull 7).cell rfl | exact (hs.pull 8).cell rfl | assumption | exact hs.cellsOf | exact (hs.pull 1).cellsOf | exact (hs.pull 2).cellsOf | exact (hs.pull 3).cellsOf | exact (hs.pull 4).cellsOf | exact (hs.pull 5).cellsOf | exact (hs.pull 6).cellsOf | exact (hs.pull 7).cellsOf | exact (hs.pull 8).cellsOf)), ?_⟩
      refine x_move (.tuple _) rfl ?_
      refine x_extract _ (.int _ _) rfl rfl ?_
      refine x_extract _ (.bool _) rfl rfl ?_
      refine x_assign (.int _ _) rfl ?_
      refine x_assign (.bool _) rfl ?_
      refine x_nil ?_
      refine then_n ?_
      refine c_seqI (γ := Nat) (fun (n' : Nat) => [(0, .pointer (some ⟨x, 0, none⟩)), (1, .slice (some ⟨g, o, none⟩) l.length c), (5, .int .i64 (n' : Nat)), (6, .int .i64 (i : Nat))]) (fun (n' : Nat) w => n' = n + (if s'.rhit y then 1 else 0) ∧ Sat w0 w (FR x s' :: A :: L)) ?_ ?_
      · skip
        refine c_seq ?_
        -- region 6 DRAWS
        obtain ⟨a1, c1, a2, c2, hs⟩ := hs.fr
        clear hcells
        refine c_draw (fun w => w.cell? ⟨x, 0, none⟩ = some (.slice a1 s'.ask.length c1) ∧ (∀ (j : Nat) (u : Value), [Value.int .u16 (y.Id : Nat), Value.int .u32 (y.Inc : Nat)][j]? = some u → w.cell? ((⟨g, o + i * 2, none⟩ : Addr).add j) = some u)) (fun i => !(Nat.beq i 10)) [(0, 2), (1, 2), (2, 2), (3, 2), (4, 2), (5, 1), (6, 2), (7, 2), (8, 2), (9, 1), (10, 0), (11, 2)] (by kernel_rfl) (by kernel_rfl) (by kernel_rfl) (by kernel_rfl) (⟨hs.drew.cell rfl, (hr _ _ (hs.drew.pull 3)).all (fun a => a.cells_len) hy⟩) ?_
        replace hs := hs.drew
        refine x_move (.bool _) rfl ?_
        refine x_move (.bool _) rfl ?_
        refine x_want' rfl ?_
        refine x_move (.pointer _) rfl ?_
        refine x_want' rfl ?_
        refine x_nilCheck _ rfl ?_
        refine x_want' rfl ?_
        first | refine x_field0 fa_43_0 _ rfl ?_ | refine x_field fa_43_0 _ _ rfl ?_
        refine x_want' rfl ?_
        refine h_load one_22 _ (.slice _ _ _) rfl (fun w hS => by first | exact hS.cell rfl | exact (hS.pull 1).cell rfl | exact (hS.pull 2).cell rfl | exact (hS.pull 3).cell rfl | exact (hS.pull 4).cell rfl | exact (hS.pull 5).cell rfl | exact (hS.pull 6).cell rfl | exact hS | exact hS.1 | exact hS.2 | exact hS.2.1 | exact hS.2.2 | exact hS.2.2.1 | exact hS.2.2.2 | exact hS.2.2.2.1 | exact hS.2.2.2.2) ?_
        refine x_want' rfl ?_
        refine x_move (.slice _ _ _) rfl ?_
        refine x_want' rfl ?_
        refine x_move (.int _ _) rfl ?_
        refine x_want' rfl ?_
        refine x_indexAddr Try.underlying22 sz_34 _ _ _ _ _ rfl rfl (by omega) ?_
        refine x_want' rfl ?_
        refine h_loadN [_, _] agg_34 _ rfl (fun w hS => by first | exact hS | exact hS.1 | exact hS.2 | exact hS.2.1 | exact hS.2.2 | exact hS.2.2.1 | exact hS.2.2.2 | exact hS.2.2.2.1 | exact hS.2.2.2.2 | exact hS.cellsOf | exact (hS.pull 1).cellsOf | exact (hS.pull 2).cellsOf | exact (hS.pull 3).cellsOf | exact (hS.pull 4).cellsOf | exact (hS.pull 5).cellsOf | exact (hS.pull 6).cellsOf | exact hS.cells2 rfl rfl | exact (hS.pull 1).cells2 rfl rfl | exact (hS.pull 2).cells2 rfl rfl | exact (hS.pull 3).cells2 rfl rfl | exact (hS.pull 4).cells2 rfl rfl | exact (hS.pull 5).cells2 rfl rfl | exact (hS.pull 6).cells2 rfl rfl) ?_
        refine x_want' rfl ?_
        refine x_call Try.f23 Try.func23 rfl rfl _ rfl ?_
        refine (has_calls y (hs.pull 1) (fun w' L' h => h.prs) (by omega)).mono ?_
        clear hs; rintro e w ⟨rfl, hs⟩
        replace hs := hs.push 1
        try dsimp only [back] at hs
        refine ⟨_, rfl, fun h => (by first | (cases h; done) | (first | exact hs.cells2 rfl rfl | exact (hs.pull 1).cells2 rfl rfl | exact (hs.pull 2).cells2 rfl rfl | exact (hs.pull 3).cells2 rfl rfl | exact (hs.pull 4).cells2 rfl rfl | exact (hs.pull 5).cells2 rfl rfl | exact (hs.pull 6).cells2 rfl rfl | exact (hs.pull 7).cells2 rfl rfl | exact (hs.pull 8).cells2 rfl rfl | exact hs.cell rfl | exact (hs.pull 1).cell rfl | exact (hs.pull 2).cell rfl | exact (hs.pull 3).cell rfl | exact (hs.pull 4).cell rfl | exact (hs.pull 5).cell rfl | exact (hs.pull 6).cell rfl | exact (hs.pull 7).cell rfl | exact (hs.pull 8).cell rfl | assumption | exact hs.cellsOf | exact (hs.pull 1).cellsOf | exact (hs.pull 2).cellsOf | exact (hs.pull 3).cellsOf | exact (hs.pull 4).cellsOf | exact (hs.pull 5).cellsOf | exact (hs.pull 6).cellsOf | exact (hs.pull 7).cellsOf | exact (hs.pull 8).cellsOf) | (and_intros <;> first | exact hs.cells2 rfl rfl | exact (hs.pull 1).cells2 rfl rfl | exact (hs.pull 2).cells2 rfl rfl | exact (hs.pull 3).cells2 rfl rfl | exact (hs.pull 4).cells2 rfl rfl | exact (hs.pull 5).cells2 rfl rfl | exact (hs.pull 6).cells2 rfl rfl | exact (hs.pull 7).cells2 rfl rfl | exact (hs.pull 8).cells2 rfl rfl | exact hs.cell rfl | exact (hs.pull 1).cell rfl | exact (hs.pull 2).cell rfl | exact (hs.pull 3).cell rfl | exact (hs.pull 4).cell rfl | exact (hs.pull 5).cell rfl | exact (hs.pull 6).cell rfl | exact (hs.pull 7).cell rfl | exact (hs.pull 8).cell rfl | assumption | exact hs.cellsOf | exact (hs.pull 1).cellsOf | exact (hs.pull 2).cellsOf | exact (hs.pull 3).cellsOf | exact (hs.pull 4).cellsOf | exact (hs.pull 5).cellsOf | exact (hs.pull 6).cellsOf | exact (hs.pull 7).cellsOf | exact (hs.pull 8).cellsOf)), ?_⟩
        refine x_pickF (.bool _) rfl rfl ?_
        refine x_nil ?_
        refine then_n ?_
        refine c_cond rfl (fun hb => ?_) (fun hb => ?_)   -- cond t37
        · skip
          -- region 7
          refine c_region ?_
          refine x_move (.int _ _) rfl ?_
          refine x_add _ _ rfl rfl (by simp only [X.lo]; omega) (by simp only [X.hi]; omega) ?_
          refine x_assign (.int _ _) rfl ?_
          refine x_nil ?_
          refine then_n ?_
          exact ⟨(n + 1), ⟨rfl, rfl, rfl, rfl, trivial⟩, ⟨by unfold FSt.rhit; rw [show (mget y s'.told).isSome = false from by simpa using hm, hb]; rfl, hs.fr'⟩⟩
        · skip
          refine c_skip ?_
          refine then_n ?_
          exact ⟨n, ⟨rfl, rfl, rfl, rfl, trivial⟩, ⟨by unfold FSt.rhit; rw [show (mget y s'.told).isSome = false from by simpa using hm, hb]; rfl, hs.fr'⟩⟩
      · skip
        clear hs
        rintro n' ρ w ⟨hn', hs⟩
        change CW Try.prog 89 _ _ (sets 89 [(0, .pointer (some ⟨x, 0, none⟩)), (1, .slice (some ⟨g, o, none⟩) l.length c), (5, .int .i64 (n' : Nat)), (6, .int .i64 (i : Nat))] ρ) w
        refine c_seq ?_
        -- region 8 DRAWS
        obtain ⟨a1, c1, a2, c2, hs⟩ := hs.fr
        refine c_draw (fun w => w.cell? ⟨x, 0, none⟩ = some (.slice a1 s'.ask.length c1) ∧ (∀ (j : Nat) (u : Value), [Value.int .u16 (y.Id : Nat), Value.int .u32 (y.Inc : Nat)][j]? = some u → w.cell? ((⟨g, o + i * 2, none⟩ : Addr).add j) = some u)) (fun i => !(Nat.beq i 9 || Nat.beq i 12)) [(0, 2), (1, 2), (2, 2), (3, 2), (4, 1), (5, 2), (6, 2), (7, 2), (8, 1), (9, 0), (10, 2), (11, 2), (12, 0)] (by kernel_rfl) (by kernel_rfl) (by kernel_rfl) (by kernel_rfl) (⟨hs.drew.cell rfl, (hr _ _ (hs.drew.pull 3)).all (fun a => a.cells_len) hy⟩) ?_
        replace hs := hs.drew
        refine x_move (.pointer _) rfl ?_
        refine x_move (.pointer _) rfl ?_
        refine x_nilCheck _ rfl ?_
        first | refine x_field0 fa_43_0 _ rfl ?_ | refine x_field fa_43_0 _ _ rfl ?_
        refine h_load one_22 _ (.slice _ _ _) rfl (fun w hS => by first | exact hS.cell rfl | exact (hS.pull 1).cell rfl | exact (hS.pull 2).cell rfl | exact (hS.pull 3).cell rfl | exact (hS.pull 4).cell rfl | exact (hS.pull 5).cell rfl | exact (hS.pull 6).cell rfl | exact hS | exact hS.1 | exact hS.2 | exact hS.2.1 | exact hS.2.2 | exact hS.2.2.1 | exact hS.2.2.2 | exact hS.2.2.2.1 | exact hS.2.2.2.2) ?_
        refine x_move (.slice _ _ _) rfl ?_
        refine x_move (.int _ _) rfl ?_
        refine x_indexAddr Try.underlying22 sz_34 _ _ _ _ _ rfl rfl (by omega) ?_
        refine h_loadN [_, _] agg_34 _ rfl (fun w hS => by first | exact hS | exact hS.1 | exact hS.2 | exact hS.2.1 | exact hS.2.2 | exact hS.2.2.1 | exact hS.2.2.2 | exact hS.2.2.2.1 | exact hS.2.2.2.2 | exact hS.cellsOf | exact (hS.pull 1).cellsOf | exact (hS.pull 2).cellsOf | exact (hS.pull 3).cellsOf | exact (hS.pull 4).cellsOf | exact (hS.pull 5).cellsOf | exact (hS.pull 6).cellsOf | exact hS.cells2 rfl rfl | exact (hS.pull 1).cells2 rfl rfl | exact (hS.pull 2).cells2 rfl rfl | exact (hS.pull 3).cells2 rfl rfl | exact (hS.pull 4).cells2 rfl rfl | exact (hS.pull 5).cells2 rfl rfl | exact (hS.pull 6).cells2 rfl rfl) ?_
        refine x_call Try.f25 Try.func25 rfl rfl _ rfl ?_
        refine (without_calls y (hs.pull 1) (fun w' L' h => h.prs) (by omega)).mono ?_
        clear hs; rintro e w ⟨v', rfl, hs⟩
        replace hs := hs.push 1
        try dsimp only [back] at hs
        refine ⟨_, rfl, fun h => (by first | (cases h; done) | (first | exact hs.cells2 rfl rfl | exact (hs.pull 1).cells2 rfl rfl | exact (hs.pull 2).cells2 rfl rfl | exact (hs.pull 3).cells2 rfl rfl | exact (hs.pull 4).cells2 rfl rfl | exact (hs.pull 5).cells2 rfl rfl | exact (hs.pull 6).cells2 rfl rfl | exact (hs.pull 7).cells2 rfl rfl | exact (hs.pull 8).cells2 rfl rfl | exact hs.cell rfl | exact (hs.pull 1).cell rfl | exact (hs.pull 2).cell rfl | exact (hs.pull 3).cell rfl | exact (hs.pull 4).cell rfl | exact (hs.pull 5).cell rfl | exact (hs.pull 6).cell rfl | exact (hs.pull 7).cell rfl | exact (hs.pull 8).cell rfl | assumption | exact hs.cellsOf | exact (hs.pull 1).cellsOf | exact (hs.pull 2).cellsOf | exact (hs.pull 3).cellsOf | exact (hs.pull 4).cellsOf | exact (hs.pull 5).cellsOf | exact (hs.pull 6).cellsOf | exact (hs.pull 7).cellsOf | exact (hs.pull 8).cellsOf) | (and_intros <;> first | exact hs.cells2 rfl rfl | exact (hs.pull 1).cells2 rfl rfl | exact (hs.pull 2).cells2 rfl rfl | exact (hs.pull 3).cells2 rfl rfl | exact (hs.pull 4).cells2 rfl rfl | exact (hs.pull 5).cells2 rfl rfl | exact (hs.pull 6).cells2 rfl rfl | exact (hs.pull 7).cells2 rfl rfl | exact (hs.pull 8).cells2 rfl rfl | exact hs.cell rfl | exact (hs.pull 1).cell rfl | exact (hs.pull 2).cell rfl | exact (hs.pull 3).cell rfl | exact (hs.pull 4).cell rfl | exact (hs.pull 5).cell rfl | exact (hs.pull 6).cell rfl | exact (hs.pull 7).cell rfl | exact (hs.pull 8).cell rfl | assumption | exact hs.cellsOf | exact (hs.pull 1).cellsOf | exact (hs.pull 2).cellsOf | exact (hs.pull 3).cellsOf | exact (hs.pull 4).cellsOf | exact (hs.pull 5).cellsOf | exact (hs.pull 6).cellsOf | exact (hs.pull 7).cellsOf | exact (hs.pull 8).cellsOf)), ?_⟩
        obtain ⟨a5, c5, rfl⟩ := (hs.pull 1).rd.val
        refine x_nilCheck _ rfl ?_
        first | refine x_field0 fa_43_0 _ rfl ?_ | refine x_field fa_43_0 _ _ rfl ?_
        first
          | refine x_storeI hs 0 rfl rfl one_22 (.slice _ _ _) rfl rfl rfl ?_
          | refine x_storeI hs 1 rfl rfl one_22 (.slice _ _ _) rfl rfl rfl ?_
          | refine x_storeI hs 2 rfl rfl one_22 (.slice _ _ _) rfl rfl rfl ?_
          | refine x_storeI hs 3 rfl rfl one_22 (.slice _ _ _) rfl rfl rfl ?_
          | refine x_storeI hs 4 rfl rfl one_22 (.slice _ _ _) rfl rfl rfl ?_
          | refine x_storeI hs 5 rfl rfl one_22 (.slice _ _ _) rfl rfl rfl ?_
          | refine x_storeI hs 6 rfl rfl one_22 (.slice _ _ _) rfl rfl rfl ?_
          | refine x_storeI hs 7 rfl rfl one_22 (.slice _ _ _) rfl rfl rfl ?_
        clear hs; intro w hs
        try dsimp only [back, List.set_cons_zero, List.set_cons_succ] at hs
        refine ⟨fun h => (by first | (cases h; done) | (first | exact hs.cells2 rfl rfl | exact (hs.pull 1).cells2 rfl rfl | exact (hs.pull 2).cells2 rfl rfl | exact (hs.pull 3).cells2 rfl rfl | exact (hs.pull 4).cells2 rfl rfl | exact (hs.pull 5).cells2 rfl rfl | exact (hs.pull 6).cells2 rfl rfl | exact (hs.pull 7).cells2 rfl rfl | exact (hs.pull 8).cells2 rfl rfl | exact hs.cell rfl | exact (hs.pull 1).cell rfl | exact (hs.pull 2).cell rfl | exact (hs.pull 3).cell rfl | exact (hs.pull 4).cell rfl | exact (hs.pull 5).cell rfl | exact (hs.pull 6).cell rfl | exact (hs.pull 7).cell rfl | exact (hs.pull 8).cell rfl | assumption | exact hs.cellsOf | exact (hs.pull 1).cellsOf | exact (hs.pull 2).cellsOf | exact (hs.pull 3).cellsOf | exact (hs.pull 4).cellsOf | exact (hs.pull 5).cellsOf | exact (hs.pull 6).cellsOf | exact (hs.pull 7).cellsOf | exact (hs.pull 8).cellsOf) | (and_intros <;> first | exact hs.cells2 rfl rfl | exact (hs.pull 1).cells2 rfl rfl | exact (hs.pull 2).cells2 rfl rfl | exact (hs.pull 3).cells2 rfl rfl | exact (hs.pull 4).cells2 rfl rfl | exact (hs.pull 5).cells2 rfl rfl | exact (hs.pull 6).cells2 rfl rfl | exact (hs.pull 7).cells2 rfl rfl | exact (hs.pull 8).cells2 rfl rfl | exact hs.cell rfl | exact (hs.pull 1).cell rfl | exact (hs.pull 2).cell rfl | exact (hs.pull 3).cell rfl | exact (hs.pull 4).cell rfl | exact (hs.pull 5).cell rfl | exact (hs.pull 6).cell rfl | exact (hs.pull 7).cell rfl | exact (hs.pull 8).cell rfl | assumption | exact hs.cellsOf | exact (hs.pull 1).cellsOf | exact (hs.pull 2).cellsOf | exact (hs.pull 3).cellsOf | exact (hs.pull 4).cellsOf | exact (hs.pull 5).cellsOf | exact (hs.pull 6).cellsOf | exact (hs.pull 7).cellsOf | exact (hs.pull 8).cellsOf)), ?_⟩
        refine x_nil ?_
        refine then_n ?_
        refine c_seq ?_
        -- region 9
        refine c_region ?_
        refine x_assign (.slice _ _ _) rfl ?_
        refine x_nil ?_
        refine then_n ?_
        refine c_seq ?_
        refine c_seq ?_
        -- region 10
        refine c_region ?_
        refine x_assign (.int _ _) rfl ?_
        refine x_nil ?_
        refine then_n ?_
        refine c_block ?_
        refine c_loop (γ := Nat × Option Addr × Nat) (fun (⟨k, a9, c9⟩ : Nat × Option Addr × Nat) => [(0, .pointer (some ⟨x, 0, none⟩)), (1, .slice (some ⟨g, o, none⟩) l.length c), (5, .int .i64 (n' : Nat)), (6, .int .i64 (i : Nat)), (9, .slice a9 (tw (s'.told.take k) y).length c9), (10, .int .i64 (k : Nat))]) (fun (⟨k, a9, c9⟩ : Nat × Option Addr × Nat) w => k ≤ s'.told.length ∧ Sat w0 w (Row 61 3 (.slice a9 (tw (s'.told.take k) y).length c9) (tw (s'.told.take k) y).length (ocells (tw (s'.told.take k) y)) :: Blk x (.cells #[.slice a5 (wo s'.ask y).length c5, .slice a2 s'.told.length c2] 43 (0, 0)) :: Row 34 2 (.slice a5 (wo s'.ask y).length c5) (wo s'.ask y).length (pcells (wo s'.ask y)) :: Row 61 3 (.slice a2 s'.told.length c2) s'.told.length (ocells s'.told) :: A :: L)) (fun (⟨k, a9, c9⟩ : Nat × Option Addr × Nat) => s'.told.length - k) (0, none, 0) ⟨rfl, rfl, rfl, rfl, rfl, rfl, trivial⟩ ⟨Nat.zero_le _, Sat.rowNil (hs.tail.perm [1, 0])⟩ ?_
        clear hs
        rintro ⟨k, a9, c9⟩ ρ w ⟨hk, hs⟩
        change CW Try.prog 89 _ _ (sets 89 [(0, .pointer (some ⟨x, 0, none⟩)), (1, .slice (some ⟨g, o, none⟩) l.length c), (5, .int .i64 (n' : Nat)), (6, .int .i64 (i : Nat)), (9, .slice a9 (tw (s'.told.take k) y).length c9), (10, .int .i64 (k : Nat))] ρ) w
        refine c_seq ?_
        refine c_seq ?_
        -- region 11
        refine c_region ?_
        refine x_move (.int _ _) rfl ?_
        refine x_move (.pointer _) rfl ?_
        refine x_nilCheck _ rfl ?_
        first | refine x_field0 fa_43_1 _ rfl ?_ | refine x_field fa_43_1 _ _ rfl ?_
        refine x_load one_40 _ (.slice _ _ _) rfl (by first | exact hs.cell rfl | exact (hs.pull 1).cell rfl | exact (hs.pull 2).cell rfl | exact (hs.pull 3).cell rfl | assumption | exact (hs.pull 4).cell rfl | exact (hs.pull 5).cell rfl | exact (hs.pull 6).cell rfl | exact (hs.pull 7).cell rfl) ?_
        refine x_lenSl Try.underlying40 _ _ _ rfl ?_
        refine x_lss _ _ rfl rfl ?_
        refine x_nil ?_
        refine then_n ?_
        refine c_test _ rfl (fun hb => ?_) (fun hb => ?_)   -- cond t58
        · skip
          refine c_skip ?_
          refine then_n ?_
          refine c_seq ?_
          refine c_block ?_
          refine c_seq ?_
          -- region 13 DRAWS
          obtain ⟨⟨q, m⟩, hq⟩ : ∃ y, s'.told[k]? = some y := ⟨s'.told[k]'(by omega), List.getElem?_eq_getElem _⟩
          obtain ⟨g2, o2, rfl⟩ := (hs.pull 3).rowAddr (by omega)
          have hon := tw_snoc (s'.told.take k) y (q, m)
          rw [show s'.told.take k ++ [(q, m)] = s'.told.take (k + 1) from by rw [List.take_add_one, hq]; rfl] at hon
          dsimp only at hon
          have hol := tw_len (s'.told.take k) y
          rw [List.length_take] at hol
          refine c_draw (fun w => w.cell? ⟨x, 1, none⟩ = some (.slice (some ⟨g2, o2, none⟩) s'.told.length c2) ∧ (∀ (j : Nat) (u : Value), [Value.int .u16 (q.Id : Nat), Value.int .u32 (q.Inc : Nat)][j]? = some u → w.cell? ((⟨g2, o2 + k * 3, none⟩ : Addr).add j) = some u) ∧ (∀ (j : Nat) (u : Value), [Value.int .u16 (y.Id : Nat), Value.int .u32 (y.Inc : Nat)][j]? = some u → w.cell? ((⟨g, o + i * 2, none⟩ : Addr).add j) = some u)) (fun i => !(false)) [(0, 2), (1, 2), (2, 2), (3, 1), (4, 2), (5, 2), (6, 2), (7, 1), (8, 2), (9, 2), (10, 2), (11, 1), (12, 2)] (by kernel_rfl) (by kernel_rfl) (by kernel_rfl) (by kernel_rfl) (⟨(hs.drew.pull 1).cell rfl, (hs.drew.pull 3).ors.oP hq, (hr _ _ (hs.drew.pull 4)).all (fun a => a.cells_len) hy⟩) ?_
          replace hs := hs.drew
          refine x_move (.pointer _) rfl ?_
          refine x_nilCheck _ rfl ?_
          first | refine x_field0 fa_43_1 _ rfl ?_ | refine x_field fa_43_1 _ _ rfl ?_
          refine h_load one_40 _ (.slice _ _ _) rfl (fun w hS => by first | exact hS.cell rfl | exact (hS.pull 1).cell rfl | exact (hS.pull 2).cell rfl | exact (hS.pull 3).cell rfl | exact (hS.pull 4).cell rfl | exact (hS.pull 5).cell rfl | exact (hS.pull 6).cell rfl | exact hS | exact hS.1 | exact hS.2 | exact hS.2.1 | exact hS.2.2 | exact hS.2.2.1 | exact hS.2.2.2 | exact hS.2.2.2.1 | exact hS.2.2.2.2) ?_
          refine x_move (.int _ _) rfl ?_
          refine x_indexAddr Try.underlying40 sz_61 _ _ _ _ _ rfl rfl (by omega) ?_
          first | refine x_field0 fa_61_0 _ rfl ?_ | refine x_field fa_61_0 _ _ rfl ?_
          refine h_loadN [_, _] agg_34 _ rfl (fun w hS => by first | exact hS | exact hS.1 | exact hS.2 | exact hS.2.1 | exact hS.2.2 | exact hS.2.2.1 | exact hS.2.2.2 | exact hS.2.2.2.1 | exact hS.2.2.2.2 | exact hS.cellsOf | exact (hS.pull 1).cellsOf | exact (hS.pull 2).cellsOf | exact (hS.pull 3).cellsOf | exact (hS.pull 4).cellsOf | exact (hS.pull 5).cellsOf | exact (hS.pull 6).cellsOf | exact hS.cells2 rfl rfl | exact (hS.pull 1).cells2 rfl rfl | exact (hS.pull 2).cells2 rfl rfl | exact (hS.pull 3).cells2 rfl rfl | exact (hS.pull 4).cells2 rfl rfl | exact (hS.pull 5).cells2 rfl rfl | exact (hS.pull 6).cells2 rfl rfl) ?_
          refine x_move (.slice _ _ _) rfl ?_
          refine x_move (.int _ _) rfl ?_
          refine x_indexAddr Try.underlying22 sz_34 _ _ _ _ _ rfl rfl (by omega) ?_
          refine h_loadN [_, _] agg_34 _ rfl (fun w hS => by first | exact hS | exact hS.1 | exact hS.2 | exact hS.2.1 | exact hS.2.2 | exact hS.2.2.1 | exact hS.2.2.2 | exact hS.2.2.2.1 | exact hS.2.2.2.2 | exact hS.cellsOf | exact (hS.pull 1).cellsOf | exact (hS.pull 2).cellsOf | exact (hS.pull 3).cellsOf | exact (hS.pull 4).cellsOf | exact (hS.pull 5).cellsOf | exact (hS.pull 6).cellsOf | exact hS.cells2 rfl rfl | exact (hS.pull 1).cells2 rfl rfl | exact (hS.pull 2).cells2 rfl rfl | exact (hS.pull 3).cells2 rfl rfl | exact (hS.pull 4).cells2 rfl rfl | exact (hS.pull 5).cells2 rfl rfl | exact (hS.pull 6).cells2 rfl rfl) ?_
          refine x_neqE eq_pid q y rfl rfl ?_
          refine x_nil ?_
          refine then_n ?_
          refine c_cond rfl (fun hb => ?_) (fun hb => ?_)   -- cond t73
          · skip
            -- region 14
            have hco := (hs.pull 3).ors.all ocell_len hq
            refine c_region ?_
            refine x_move (.slice _ _ _) rfl ?_
            refine x_move (.pointer _) rfl ?_
            refine x_nilCheck _ rfl ?_
            first | refine x_field0 fa_43_1 _ rfl ?_ | refine x_field fa_43_1 _ _ rfl ?_
            refine x_load one_40 _ (.slice _ _ _) rfl (by first | exact hs.cell rfl | exact (hs.pull 1).cell rfl | exact (hs.pull 2).cell rfl | exact (hs.pull 3).cell rfl | assumption | exact (hs.pull 4).cell rfl | exact (hs.pull 5).cell rfl | exact (hs.pull 6).cell rfl | exact (hs.pull 7).cell rfl) ?_
            refine x_move (.int _ _) rfl ?_
            refine x_indexAddr Try.underlying40 sz_61 _ _ _ _ _ rfl rfl (by omega) ?_
            refine x_loadN [.int .u16 (q.Id : Nat), .int .u32 (q.Inc : Nat), .int .u64 (m : Nat)] agg_61 _ rfl hco ?_
            refine x_buildSlice _ [(0, (.agg #[(.int .u16 _), (.int .u32 _), (.int .u64 _)]))] hs rfl (fun w => bs_40_1 _ _ _ w) ?_; clear hs; intro b82 w hs; refine ⟨fun h => (by first | (cases h; done) | (first | exact hs.cells2 rfl rfl | exact (hs.pull 1).cells2 rfl rfl | exact (hs.pull 2).cells2 rfl rfl | exact (hs.pull 3).cells2 rfl rfl | exact (hs.pull 4).cells2 rfl rfl | exact (hs.pull 5).cells2 rfl rfl | exact (hs.pull 6).cells2 rfl rfl | exact (hs.pull 7).cells2 rfl rfl | exact (hs.pull 8).cells2 rfl rfl | exact hs.cell rfl | exact (hs.pull 1).cell rfl | exact (hs.pull 2).cell rfl | exact (hs.pull 3).cell rfl | exact (hs.pull 4).cell rfl | exact (hs.pull 5).cell rfl | exact (hs.pull 6).cell rfl | exact (hs.pull 7).cell rfl | exact (hs.pull 8).cell rfl | assumption | exact hs.cellsOf | exact (hs.pull 1).cellsOf | exact (hs.pull 2).cellsOf | exact (hs.pull 3).cellsOf | exact (hs.pull 4).cellsOf | exact (hs.pull 5).cellsOf | exact (hs.pull 6).cellsOf | exact (hs.pull 7).cellsOf | exact (hs.pull 8).cellsOf) | (and_intros <;> first | exact hs.cells2 rfl rfl | exact (hs.pull 1).cells2 rfl rfl | exact (hs.pull 2).cells2 rfl rfl | exact (hs.pull 3).cells2 rfl rfl | exact (hs.pull 4).cells2 rfl rfl | exact (hs.pull 5).cells2 rfl rfl | exact (hs.pull 6).cells2 rfl rfl | exact (hs.pull 7).cells2 rfl rfl | exact (hs.pull 8).cells2 rfl rfl | exact hs.cell rfl | exact (hs.pull 1).cell rfl | exact (hs.pull 2).cell rfl | exact (hs.pull 3).cell rfl | exact (hs.pull 4).cell rfl | exact (hs.pull 5).cell rfl | exact (hs.pull 6).cell rfl | exact (hs.pull 7).cell rfl | exact (hs.pull 8).cell rfl | assumption | exact hs.cellsOf | exact (hs.pull 1).cellsOf | exact (hs.pull 2).cellsOf | exact (hs.pull 3).cellsOf | exact (hs.pull 4).cellsOf | exact (hs.pull 5).cellsOf | exact (hs.pull 6).cellsOf | exact (hs.pull 7).cellsOf | exact (hs.pull 8).cellsOf)), ?_⟩
            have hrd := rd_blk (size := 3) hs rfl
            refine x_append (hs.pull 1) Try.underlying40 ei_61 hrd (by intro u hu; simp at hu; rcases hu with rfl | rfl | rfl <;> rfl) (by unfold maxLen; omega) (by omega) rfl rfl ?_
            clear hs hrd hco; intro v w hs; refine ⟨fun h => (by cases h), ?_⟩
            obtain ⟨a7, c7, rfl⟩ := hs.rd.val
            have hon' : tw (s'.told.take (k + 1)) y = tw (s'.told.take k) y ++ [(q, m)] := by rw [hon, if_neg (by simpa using hb)]
            have hln : (tw (s'.told.take k) y).length + 1 = (tw (s'.told.take (k + 1)) y).length := by rw [hon']; simp
            rw [show ocells (tw (s'.told.take k) y) ++ #[Value.int .u16 (q.Id : Nat), .int .u32 (q.Inc : Nat), .int .u64 (m : Nat)].toList = ocells (tw (s'.told.take (k + 1)) y) from by rw [hon', ocells_snoc], hln] at hs
            rw [hln]
            refine x_assign (.slice _ _ _) rfl ?_
            refine x_nil ?_
            refine inb_n ?_
            refine then_n ?_
            -- region 12
            refine c_region ?_
            refine x_move (.int _ _) rfl ?_
            refine x_add _ _ rfl rfl (by simp only [X.lo]; omega) (by simp only [X.hi]; omega) ?_
            refine x_assign (.int _ _) rfl ?_
            refine x_nil ?_
            refine then_n ?_
            refine ⟨(k + 1, a7, c7), ⟨rfl, rfl, rfl, rfl, rfl, rfl, trivial⟩, ⟨by omega, (hs.pull 1).tail⟩, by first | omega | (dsimp only; omega)⟩
          · skip
            refine c_skip ?_
            refine inb_n ?_
            refine then_n ?_
            -- region 12
            refine c_region ?_
            refine x_move (.int _ _) rfl ?_
            refine x_add _ _ rfl rfl (by simp only [X.lo]; omega) (by simp only [X.hi]; omega) ?_
            refine x_assign (.int _ _) rfl ?_
            refine x_nil ?_
            refine then_n ?_
            have hon' : tw (s'.told.take (k + 1)) y = tw (s'.told.take k) y := by rw [hon, if_pos (by simpa using hb)]
            have hs' := hs
            rw [← hon'] at hs'
            rw [← hon']
            refine ⟨(k + 1, a9, c9), ⟨rfl, rfl, rfl, rfl, rfl, rfl, trivial⟩, ⟨by omega, hs'⟩, by first | omega | (dsimp only; omega)⟩
        · skip
          refine c_exit ?_
          refine then_x ?_
          refine then_x ?_
          refine inb_e ?_
          refine then_n ?_
          -- region 15
          rw [List.take_of_length_le (by omega)] at hs
          rw [List.take_of_length_le (by omega)]
          refine c_region ?_
          refine x_move (.pointer _) rfl ?_
          refine x_move (.slice _ _ _) rfl ?_
          refine x_nilCheck _ rfl ?_
          first | refine x_field0 fa_43_1 _ rfl ?_ | refine x_field fa_43_1 _ _ rfl ?_
          first
            | refine x_storeI hs 0 rfl rfl one_40 (.slice _ _ _) rfl rfl rfl ?_
            | refine x_storeI hs 1 rfl rfl one_40 (.slice _ _ _) rfl rfl rfl ?_
            | refine x_storeI hs 2 rfl rfl one_40 (.slice _ _ _) rfl rfl rfl ?_
            | refine x_storeI hs 3 rfl rfl one_40 (.slice _ _ _) rfl rfl rfl ?_
            | refine x_storeI hs 4 rfl rfl one_40 (.slice _ _ _) rfl rfl rfl ?_
            | refine x_storeI hs 5 rfl rfl one_40 (.slice _ _ _) rfl rfl rfl ?_
            | refine x_storeI hs 6 rfl rfl one_40 (.slice _ _ _) rfl rfl rfl ?_
            | refine x_storeI hs 7 rfl rfl one_40 (.slice _ _ _) rfl rfl rfl ?_
          clear hs; intro w hs
          try dsimp only [back, List.set_cons_zero, List.set_cons_succ] at hs
          refine ⟨fun h => (by first | (cases h; done) | (first | exact hs.cells2 rfl rfl | exact (hs.pull 1).cells2 rfl rfl | exact (hs.pull 2).cells2 rfl rfl | exact (hs.pull 3).cells2 rfl rfl | exact (hs.pull 4).cells2 rfl rfl | exact (hs.pull 5).cells2 rfl rfl | exact (hs.pull 6).cells2 rfl rfl | exact (hs.pull 7).cells2 rfl rfl | exact (hs.pull 8).cells2 rfl rfl | exact hs.cell rfl | exact (hs.pull 1).cell rfl | exact (hs.pull 2).cell rfl | exact (hs.pull 3).cell rfl | exact (hs.pull 4).cell rfl | exact (hs.pull 5).cell rfl | exact (hs.pull 6).cell rfl | exact (hs.pull 7).cell rfl | exact (hs.pull 8).cell rfl | assumption | exact hs.cellsOf | exact (hs.pull 1).cellsOf | exact (hs.pull 2).cellsOf | exact (hs.pull 3).cellsOf | exact (hs.pull 4).cellsOf | exact (hs.pull 5).cellsOf | exact (hs.pull 6).cellsOf | exact (hs.pull 7).cellsOf | exact (hs.pull 8).cellsOf) | (and_intros <;> first | exact hs.cells2 rfl rfl | exact (hs.pull 1).cells2 rfl rfl | exact (hs.pull 2).cells2 rfl rfl | exact (hs.pull 3).cells2 rfl rfl | exact (hs.pull 4).cells2 rfl rfl | exact (hs.pull 5).cells2 rfl rfl | exact (hs.pull 6).cells2 rfl rfl | exact (hs.pull 7).cells2 rfl rfl | exact (hs.pull 8).cells2 rfl rfl | exact hs.cell rfl | exact (hs.pull 1).cell rfl | exact (hs.pull 2).cell rfl | exact (hs.pull 3).cell rfl | exact (hs.pull 4).cell rfl | exact (hs.pull 5).cell rfl | exact (hs.pull 6).cell rfl | exact (hs.pull 7).cell rfl | exact (hs.pull 8).cell rfl | assumption | exact hs.cellsOf | exact (hs.pull 1).cellsOf | exact (hs.pull 2).cellsOf | exact (hs.pull 3).cellsOf | exact (hs.pull 4).cellsOf | exact (hs.pull 5).cellsOf | exact (hs.pull 6).cellsOf | exact (hs.pull 7).cellsOf | exact (hs.pull 8).cellsOf)), ?_⟩
          refine x_nil ?_
          refine inb_n ?_
          refine then_n ?_
          -- region 4
          refine c_region ?_
          refine x_move (.int _ _) rfl ?_
          refine x_add _ _ rfl rfl (by simp only [X.lo]; omega) (by simp only [X.hi]; omega) ?_
          refine x_assign (.int _ _) rfl ?_
          refine x_nil ?_
          refine then_n ?_
          refine ⟨(i + 1, n', s'.rsk y), ⟨rfl, rfl, rfl, rfl, trivial⟩, ⟨by omega, by rw [hsn, hn'], by rw [hn']; split <;> omega, Nat.le_trans hwl hal, Nat.le_trans htw htl, Sat.fr' (s := s'.rsk y) ((hs.pull 3).tail.perm [1, 2, 0])⟩, by first | omega | (dsimp only; omega)⟩
  · skip
    refine c_exit ?_
    refine then_x ?_
    refine then_x ?_
    refine inb_e ?_
    refine then_n ?_
    refine c_seq ?_
    -- region 16
    refine c_region ?_
    refine x_move (.int _ _) rfl ?_
    refine x_assign (.int _ _) rfl ?_
    refine x_nil ?_
    refine then_n ?_
    refine c_ret ?_
    refine ⟨.inr rfl, ?_⟩
    rw [List.take_of_length_le (by omega)] at hsk
    rw [hsk]
    exact ⟨rfl, hs⟩
set_option maxHeartbeats 4000000 in
theorem rready_calls {w0 w : World} {A : HP} {L : List HP} {x : Nat} {s : FSt} {v : Value} {last : List (Pid × Nat)} (hs : Sat w0 w (FR x s :: A :: L)) (hr : ∀ w' L', Sat w0 w' (A :: L') → RS w' 3 ocell v last) (hlen : last.length ≤ 1000000) (hask : s.ask.length ≤ 1000000) (htold : s.told.length ≤ 1000000) :
    Calls Try.prog 20 #[.pointer (some ⟨x, 0, none⟩), v] w fun e w' => e = .returned (.bool (decide (rdyR s.told last ∧ s.ask = []))) ∧ Sat w0 w' (FR x s :: A :: L) := by
  obtain ⟨a, c, rfl⟩ := (hr _ _ (hs.pull 1)).val
  obtain ⟨a1, c1, a2, c2, hs⟩ := hs.fr
  refine enter Try.func20 rfl Try.ntmps20 4 rfl (Nat.le_of_ble_eq_true rfl) ?_
  refine c_seq ?_
  -- region 0
  refine c_region ?_
  refine x_assign (.bool _) rfl ?_
  refine x_nil ?_
  refine then_n ?_
  refine c_seq ?_
  refine c_seq ?_
  -- region 1
  refine c_region ?_
  refine x_assign (.int _ _) rfl ?_
  refine x_nil ?_
  refine then_n ?_
  refine c_block ?_
  refine c_loop (γ := Nat) (fun (i : Nat) => [(0, .pointer (some ⟨x, 0, none⟩)), (1, .slice a last.length c), (5, .int .i64 (i : Nat))]) (fun (i : Nat) w => i ≤ s.told.length ∧ (∀ p ∈ s.told.take i, p.2 ≤ lastN last p.1) ∧ Sat w0 w (Blk x (.cells #[.slice a1 s.ask.length c1, .slice a2 s.told.length c2] 43 (0, 0)) :: Row 34 2 (.slice a1 s.ask.length c1) s.ask.length (pcells s.ask) :: Row 61 3 (.slice a2 s.told.length c2) s.told.length (ocells s.told) :: A :: L)) (fun (i : Nat) => s.told.length - i) 0 ⟨rfl, rfl, rfl, trivial⟩ ⟨Nat.zero_le _, (fun p h => by simp at h), hs⟩ ?_
  clear hs
  rintro i ρ w ⟨hi, hok, hs⟩
  change CW Try.prog 58 _ _ (sets 58 [(0, .pointer (some ⟨x, 0, none⟩)), (1, .slice a last.length c), (5, .int .i64 (i : Nat))] ρ) w
  refine c_seq ?_
  refine c_seq ?_
  -- region 2
  refine c_region ?_
  refine x_move (.int _ _) rfl ?_
  refine x_move (.pointer _) rfl ?_
  refine x_nilCheck _ rfl ?_
  first | refine x_field0 fa_43_1 _ rfl ?_ | refine x_field fa_43_1 _ _ rfl ?_
  refine x_load one_40 _ (.slice _ _ _) rfl (by first | exact hs.cell rfl | exact (hs.pull 1).cell rfl | exact (hs.pull 2).cell rfl | exact (hs.pull 3).cell rfl | assumption | exact (hs.pull 4).cell rfl | exact (hs.pull 5).cell rfl | exact (hs.pull 6).cell rfl | exact (hs.pull 7).cell rfl) ?_
  refine x_lenSl Try.underlying40 _ _ _ rfl ?_
  refine x_lss _ _ rfl rfl ?_
  refine x_nil ?_
  refine then_n ?_
  refine c_test _ rfl (fun hb => ?_) (fun hb => ?_)   -- cond t14
  · skip
    refine c_skip ?_
    refine then_n ?_
    refine c_seq ?_
    refine c_block ?_
    refine c_seq ?_
    -- region 4
    obtain ⟨⟨q, m⟩, hq⟩ : ∃ y, s.told[i]? = some y := ⟨s.told[i]'(by omega), List.getElem?_eq_getElem _⟩
    obtain ⟨g2, o2, rfl⟩ := (hs.pull 2).rowAddr (by omega)
    refine c_region ?_
    refine x_assign (.int _ _) rfl ?_
    refine x_nil ?_
    refine then_n ?_
    refine c_seq ?_
    refine c_seq ?_
    -- region 5
    refine c_region ?_
    refine x_assign (.int _ _) rfl ?_
    refine x_nil ?_
    refine then_n ?_
    refine c_block ?_
    refine c_loop (γ := Nat) (fun (k : Nat) => [(0, .pointer (some ⟨x, 0, none⟩)), (1, .slice a last.length c), (5, .int .i64 (i : Nat)), (6, .int .u64 (lastN (last.take k) q : Nat)), (7, .int .i64 (k : Nat))]) (fun (k : Nat) w => k ≤ last.length ∧ Sat w0 w (Blk x (.cells #[.slice a1 s.ask.length c1, .slice (some ⟨g2, o2, none⟩) s.told.length c2] 43 (0, 0)) :: Row 34 2 (.slice a1 s.ask.length c1) s.ask.length (pcells s.ask) :: Row 61 3 (.slice (some ⟨g2, o2, none⟩) s.told.length c2) s.told.length (ocells s.told) :: A :: L)) (fun (k : Nat) => last.length - k) 0 ⟨rfl, rfl, rfl, rfl, rfl, trivial⟩ ⟨Nat.zero_le _, hs⟩ ?_
    clear hs
    rintro k ρ w ⟨hk, hs⟩
    change CW Try.prog 58 _ _ (sets 58 [(0, .pointer (some ⟨x, 0, none⟩)), (1, .slice a last.length c), (5, .int .i64 (i : Nat)), (6, .int .u64 (lastN (last.take k) q : Nat)), (7, .int .i64 (k : Nat))] ρ) w
    refine c_seq ?_
    refine c_seq ?_
    -- region 6
    refine c_region ?_
    refine x_move (.int _ _) rfl ?_
    refine x_move (.slice _ _ _) rfl ?_
    refine x_lenSl Try.underlying40 _ _ _ rfl ?_
    refine x_lss _ _ rfl rfl ?_
    refine x_nil ?_
    refine then_n ?_
    refine c_test _ rfl (fun hb => ?_) (fun hb => ?_)   -- cond t20
    · skip
      refine c_skip ?_
      refine then_n ?_
      refine c_seq ?_
      refine c_block ?_
      refine c_seq ?_
      -- region 8 DRAWS
      obtain ⟨⟨p, n⟩, hp⟩ : ∃ y, last[k]? = some y := ⟨last[k]'(by omega), List.getElem?_eq_getElem _⟩
      obtain ⟨g, o, rfl⟩ := (hr _ _ (hs.pull 3)).addr (by omega)
      have hon := lastN_snoc (last.take k) (p, n) q
      rw [show last.take k ++ [(p, n)] = last.take (k + 1) from by rw [List.take_add_one, hp]; rfl] at hon
      dsimp only at hon
      refine c_draw (fun w => (∀ (j : Nat) (u : Value), [Value.int .u16 (p.Id : Nat), Value.int .u32 (p.Inc : Nat)][j]? = some u → w.cell? ((⟨g, o + k * 3, none⟩ : Addr).add j) = some u) ∧ w.cell? ⟨x, 1, none⟩ = some (.slice (some ⟨g2, o2, none⟩) s.told.length c2) ∧ (∀ (j : Nat) (u : Value), [Value.int .u16 (q.Id : Nat), Value.int .u32 (q.Inc : Nat)][j]? = some u → w.cell? ((⟨g2, o2 + i * 3, none⟩ : Addr).add j) = some u)) (fun i => !(false)) [(0, 2), (1, 2), (2, 2), (3, 2), (4, 1), (5, 2), (6, 2), (7, 2), (8, 1), (9, 2), (10, 2), (11, 2), (12, 1), (13, 2)] (by kernel_rfl) (by kernel_rfl) (by kernel_rfl) (by kernel_rfl) (⟨(hr _ _ (hs.drew.pull 3)).oP hp, hs.drew.cell rfl, (hs.drew.pull 2).ors.oP hq⟩) ?_
      replace hs := hs.drew
      refine x_move (.slice _ _ _) rfl ?_
      refine x_move (.int _ _) rfl ?_
      refine x_indexAddr Try.underlying40 sz_61 _ _ _ _ _ rfl rfl (by omega) ?_
      first | refine x_field0 fa_61_0 _ rfl ?_ | refine x_field fa_61_0 _ _ rfl ?_
      refine h_loadN [_, _] agg_34 _ rfl (fun w hS => by first | exact hS | exact hS.1 | exact hS.2 | exact hS.2.1 | exact hS.2.2 | exact hS.2.2.1 | exact hS.2.2.2 | exact hS.2.2.2.1 | exact hS.2.2.2.2 | exact hS.cellsOf | exact (hS.pull 1).cellsOf | exact (hS.pull 2).cellsOf | exact (hS.pull 3).cellsOf | exact (hS.pull 4).cellsOf | exact (hS.pull 5).cellsOf | exact (hS.pull 6).cellsOf | exact hS.cells2 rfl rfl | exact (hS.pull 1).cells2 rfl rfl | exact (hS.pull 2).cells2 rfl rfl | exact (hS.pull 3).cells2 rfl rfl | exact (hS.pull 4).cells2 rfl rfl | exact (hS.pull 5).cells2 rfl rfl | exact (hS.pull 6).cells2 rfl rfl) ?_
      refine x_move (.pointer _) rfl ?_
      refine x_nilCheck _ rfl ?_
      first | refine x_field0 fa_43_1 _ rfl ?_ | refine x_field fa_43_1 _ _ rfl ?_
      refine h_load one_40 _ (.slice _ _ _) rfl (fun w hS => by first | exact hS.cell rfl | exact (hS.pull 1).cell rfl | exact (hS.pull 2).cell rfl | exact (hS.pull 3).cell rfl | exact (hS.pull 4).cell rfl | exact (hS.pull 5).cell rfl | exact (hS.pull 6).cell rfl | exact hS | exact hS.1 | exact hS.2 | exact hS.2.1 | exact hS.2.2 | exact hS.2.2.1 | exact hS.2.2.2 | exact hS.2.2.2.1 | exact hS.2.2.2.2) ?_
      refine x_move (.int _ _) rfl ?_
      refine x_indexAddr Try.underlying40 sz_61 _ _ _ _ _ rfl rfl (by omega) ?_
      first | refine x_field0 fa_61_0 _ rfl ?_ | refine x_field fa_61_0 _ _ rfl ?_
      refine h_loadN [_, _] agg_34 _ rfl (fun w hS => by first | exact hS | exact hS.1 | exact hS.2 | exact hS.2.1 | exact hS.2.2 | exact hS.2.2.1 | exact hS.2.2.2 | exact hS.2.2.2.1 | exact hS.2.2.2.2 | exact hS.cellsOf | exact (hS.pull 1).cellsOf | exact (hS.pull 2).cellsOf | exact (hS.pull 3).cellsOf | exact (hS.pull 4).cellsOf | exact (hS.pull 5).cellsOf | exact (hS.pull 6).cellsOf | exact hS.cells2 rfl rfl | exact (hS.pull 1).cells2 rfl rfl | exact (hS.pull 2).cells2 rfl rfl | exact (hS.pull 3).cells2 rfl rfl | exact (hS.pull 4).cells2 rfl rfl | exact (hS.pull 5).cells2 rfl rfl | exact (hS.pull 6).cells2 rfl rfl) ?_
      refine x_eqlE eq_pid p q rfl rfl ?_
      refine x_nil ?_
      refine then_n ?_
      refine c_cond rfl (fun hb => ?_) (fun hb => ?_)   -- cond t36
      · skip
        -- region 9
        rw [if_pos (by simpa using hb)] at hon
        have hcn := (hr _ _ (hs.pull 3)).oN hp
        refine c_region ?_
        refine x_move (.slice _ _ _) rfl ?_
        refine x_move (.int _ _) rfl ?_
        refine x_indexAddr Try.underlying40 sz_61 _ _ _ _ _ rfl rfl (by omega) ?_
        first | refine x_field0 fa_61_1 _ rfl ?_ | refine x_field fa_61_1 _ _ rfl ?_
        refine x_load one_27 _ (.int _ _) rfl (by first | exact hs.cell rfl | exact (hs.pull 1).cell rfl | exact (hs.pull 2).cell rfl | exact (hs.pull 3).cell rfl | assumption | exact (hs.pull 4).cell rfl | exact (hs.pull 5).cell rfl | exact (hs.pull 6).cell rfl | exact (hs.pull 7).cell rfl) ?_
        refine x_assign (.int _ _) rfl ?_
        refine x_nil ?_
        refine inb_n ?_
        refine then_n ?_
        -- region 7
        refine c_region ?_
        refine x_move (.int _ _) rfl ?_
        refine x_add _ _ rfl rfl (by simp only [X.lo]; omega) (by simp only [X.hi]; omega) ?_
        refine x_assign (.int _ _) rfl ?_
        refine x_nil ?_
        refine then_n ?_
        rw [← hon]
        refine ⟨k + 1, ⟨rfl, rfl, rfl, rfl, rfl, trivial⟩, ⟨by omega, hs⟩, by first | omega | (dsimp only; omega)⟩
      · skip
        refine c_skip ?_
        refine inb_n ?_
        refine then_n ?_
        -- region 7
        refine c_region ?_
        refine x_move (.int _ _) rfl ?_
        refine x_add _ _ rfl rfl (by simp only [X.lo]; omega) (by simp only [X.hi]; omega) ?_
        refine x_assign (.int _ _) rfl ?_
        refine x_nil ?_
        refine then_n ?_
        rw [if_neg (by simpa using hb)] at hon
        rw [← hon]
        refine ⟨k + 1, ⟨rfl, rfl, rfl, rfl, rfl, trivial⟩, ⟨by omega, hs⟩, by first | omega | (dsimp only; omega)⟩
    · skip
      refine c_exit ?_
      refine then_x ?_
      refine then_x ?_
      refine inb_e ?_
      refine then_n ?_
      refine c_seq ?_
      -- region 10
      rw [List.take_of_length_le (by omega)]
      have hcn := (hs.pull 2).ors.oN hq
      refine c_region ?_
      refine x_move (.int _ _) rfl ?_
      refine x_move (.pointer _) rfl ?_
      refine x_nilCheck _ rfl ?_
      first | refine x_field0 fa_43_1 _ rfl ?_ | refine x_field fa_43_1 _ _ rfl ?_
      refine x_load one_40 _ (.slice _ _ _) rfl (by first | exact hs.cell rfl | exact (hs.pull 1).cell rfl | exact (hs.pull 2).cell rfl | exact (hs.pull 3).cell rfl | assumption | exact (hs.pull 4).cell rfl | exact (hs.pull 5).cell rfl | exact (hs.pull 6).cell rfl | exact (hs.pull 7).cell rfl) ?_
      refine x_move (.int _ _) rfl ?_
      refine x_indexAddr Try.underlying40 sz_61 _ _ _ _ _ rfl rfl (by omega) ?_
      first | refine x_field0 fa_61_1 _ rfl ?_ | refine x_field fa_61_1 _ _ rfl ?_
      refine x_load one_27 _ (.int _ _) rfl (by first | exact hs.cell rfl | exact (hs.pull 1).cell rfl | exact (hs.pull 2).cell rfl | exact (hs.pull 3).cell rfl | assumption | exact (hs.pull 4).cell rfl | exact (hs.pull 5).cell rfl | exact (hs.pull 6).cell rfl | exact (hs.pull 7).cell rfl) ?_
      refine x_lss _ _ rfl rfl ?_
      refine x_nil ?_
      refine then_n ?_
      refine c_test _ rfl (fun hb => ?_) (fun hb => ?_)   -- cond t51
      · skip
        refine c_seq ?_
        -- region 11
        refine c_region ?_
        refine x_assign (.bool _) rfl ?_
        refine x_nil ?_
        refine then_n ?_
        refine c_ret ?_
        refine inb_r ?_
        refine then_r ?_
        refine then_r ?_
        refine inb_r ?_
        refine then_r ?_
        refine ⟨.inr rfl, ?_⟩
        have : ¬ (rdyR s.told last ∧ s.ask = []) := fun h => by
          have := h.1 (q, m) (List.mem_of_getElem? hq)
          dsimp only at this
          omega
        rw [decide_eq_false this]
        exact ⟨rfl, hs.fr'⟩
      · skip
        refine c_skip ?_
        refine inb_n ?_
        refine then_n ?_
        -- region 3
        refine c_region ?_
        refine x_move (.int _ _) rfl ?_
        refine x_add _ _ rfl rfl (by simp only [X.lo]; omega) (by simp only [X.hi]; omega) ?_
        refine x_assign (.int _ _) rfl ?_
        refine x_nil ?_
        refine then_n ?_
        have hok' : ∀ p ∈ s.told.take (i + 1), p.2 ≤ lastN last p.1 := fun p hp => by
          rw [List.take_add_one, hq] at hp
          simp only [Option.toList_some, List.mem_append, List.mem_singleton] at hp
          rcases hp with hp | rfl
          · exact hok p hp
          · dsimp only; omega
        refine ⟨i + 1, ⟨rfl, rfl, rfl, trivial⟩, ⟨by omega, hok', hs⟩, by first | omega | (dsimp only; omega)⟩
  · skip
    refine c_exit ?_
    refine then_x ?_
    refine then_x ?_
    refine inb_e ?_
    refine then_n ?_
    refine c_seq ?_
    -- region 12
    refine c_region ?_
    refine x_move (.pointer _) rfl ?_
    refine x_nilCheck _ rfl ?_
    first | refine x_field0 fa_43_0 _ rfl ?_ | refine x_field fa_43_0 _ _ rfl ?_
    refine x_load one_22 _ (.slice _ _ _) rfl (by first | exact hs.cell rfl | exact (hs.pull 1).cell rfl | exact (hs.pull 2).cell rfl | exact (hs.pull 3).cell rfl | assumption | exact (hs.pull 4).cell rfl | exact (hs.pull 5).cell rfl | exact (hs.pull 6).cell rfl | exact (hs.pull 7).cell rfl) ?_
    refine x_lenSl Try.underlying22 _ _ _ rfl ?_
    refine x_eql _ _ rfl rfl ?_
    refine x_assign (.bool _) rfl ?_
    refine x_nil ?_
    refine then_n ?_
    refine c_ret ?_
    refine ⟨.inr rfl, ?_⟩
    rw [List.take_of_length_le (by omega)] at hok
    have e : decide (rdyR s.told last ∧ s.ask = []) = decide ((s.ask.length : Int) = 0) := by
      refine decide_eq_decide.2 ⟨fun h => by rw [h.2]; rfl, fun h => ⟨hok, List.eq_nil_of_length_eq_zero (by omega)⟩⟩
    rw [e]
    exact ⟨rfl, hs.fr'⟩
theorem eqp_calls {w0 w : World} {L : List HP} {v1 v2 : Value} {l1 l2 : List Pid} (hs : Sat w0 w L) (h1 : RS w 2 Pid.cells v1 l1) (h2 : RS w 2 Pid.cells v2 l2) (hlen1 : l1.length ≤ 1000000) :
    Calls Try.prog 17 #[v1, v2] w fun e w' => e = .returned (.bool (decide (l1 = l2))) ∧ Sat w0 w' L ∧ w'.heap = w.heap := by
  obtain ⟨a1, c1, rfl⟩ := h1.val
  obtain ⟨a2, c2, rfl⟩ := h2.val
  obtain ⟨hp0, hhp⟩ : ∃ h, h = w.heap := ⟨_, rfl⟩
  rw [← hhp]
  refine enter Try.func17 rfl Try.ntmps17 4 rfl (Nat.le_of_ble_eq_true rfl) ?_
  refine c_seq ?_
  -- region 0
  refine c_region ?_
  refine x_assign (.bool _) rfl ?_
  refine x_nil ?_
  refine then_n ?_
  refine c_seq ?_
  refine c_seq ?_
  -- region 1
  refine c_region ?_
  refine x_move (.slice _ _ _) rfl ?_
  refine x_lenSl Try.underlying22 _ _ _ rfl ?_
  refine x_move (.slice _ _ _) rfl ?_
  refine x_lenSl Try.underlying22 _ _ _ rfl ?_
  refine x_neq _ _ rfl rfl ?_
  refine x_nil ?_
  refine then_n ?_
  refine c_test _ rfl (fun hb => ?_) (fun hb => ?_)   -- cond t10
  · skip
    refine c_seq ?_
    -- region 2
    refine c_region ?_
    refine x_assign (.bool _) rfl ?_
    refine x_nil ?_
    refine then_n ?_
    refine c_ret ?_
    refine then_r ?_
    refine ⟨.inr rfl, ?_⟩
    have : ¬ l1 = l2 := fun e => by subst e; exact hb rfl
    rw [decide_eq_false this]
    exact ⟨rfl, hs, hhp.symm⟩
  · skip
    refine c_skip ?_
    refine then_n ?_
    refine c_seq ?_
    refine c_seq ?_
    -- region 3
    refine c_region ?_
    refine x_assign (.int _ _) rfl ?_
    refine x_nil ?_
    refine then_n ?_
    refine c_block ?_
    refine c_loop (γ := Nat) (fun (i : Nat) => [(0, .slice a1 l1.length c1), (1, .slice a2 l2.length c2), (5, .int .i64 (i : Nat))]) (fun (i : Nat) w => i ≤ l1.length ∧ l1.take i = l2.take i ∧ Sat w0 w L ∧ w.heap = hp0) (fun (i : Nat) => l1.length - i) 0 ⟨rfl, rfl, rfl, trivial⟩ ⟨Nat.zero_le _, rfl, hs, hhp.symm⟩ ?_
    clear hs
    rintro i ρ w ⟨hi, ht, hs, hw⟩
    change CW Try.prog 26 _ _ (sets 26 [(0, .slice a1 l1.length c1), (1, .slice a2 l2.length c2), (5, .int .i64 (i : Nat))] ρ) w
    have hlen : l1.length = l2.length := by omega
    refine c_seq ?_
    refine c_seq ?_
    -- region 4
    refine c_region ?_
    refine x_move (.int _ _) rfl ?_
    refine x_move (.slice _ _ _) rfl ?_
    refine x_lenSl Try.underlying22 _ _ _ rfl ?_
    refine x_lss _ _ rfl rfl ?_
    refine x_nil ?_
    refine then_n ?_
    refine c_test _ rfl (fun hb => ?_) (fun hb => ?_)   -- cond t14
    · skip
      refine c_skip ?_
      refine then_n ?_
      refine c_seq ?_
      refine c_block ?_
      refine c_seq ?_
      -- region 6 DRAWS
      obtain ⟨p1, hp1⟩ : ∃ b, l1[i]? = some b := ⟨l1[i]'(by omega), List.getElem?_eq_getElem _⟩
      obtain ⟨p2, hp2⟩ : ∃ b, l2[i]? = some b := ⟨l2[i]'(by omega), List.getElem?_eq_getElem _⟩
      have r1 := h1.heapEq (hw.trans hhp)
      have r2 := h2.heapEq (hw.trans hhp)
      obtain ⟨g1, o1, rfl⟩ := r1.addr (by omega)
      obtain ⟨g2, o2, rfl⟩ := r2.addr (by omega)
      have q1 := (h1.heapEq (w' := w.drew) (hw.trans hhp)).all (fun a => a.cells_len) hp1
      have q2 := (h2.heapEq (w' := w.drew) (hw.trans hhp)).all (fun a => a.cells_len) hp2
      have hst1 : l1.take (i + 1) = l1.take i ++ [p1] := by rw [List.take_add_one, hp1]; rfl
      have hst2 : l2.take (i + 1) = l2.take i ++ [p2] := by rw [List.take_add_one, hp2]; rfl
      refine c_draw (fun w => (∀ (j : Nat) (u : Value), [Value.int .u16 (p1.Id : Nat), Value.int .u32 (p1.Inc : Nat)][j]? = some u → w.cell? ((⟨g1, o1 + i * 2, none⟩ : Addr).add j) = some u) ∧ (∀ (j : Nat) (u : Value), [Value.int .u16 (p2.Id : Nat), Value.int .u32 (p2.Inc : Nat)][j]? = some u → w.cell? ((⟨g2, o2 + i * 2, none⟩ : Addr).add j) = some u)) (fun i => !(false)) [(0, 2), (1, 2), (2, 2), (3, 1), (4, 2), (5, 2), (6, 2), (7, 1), (8, 2)] (by kernel_rfl) (by kernel_rfl) (by kernel_rfl) (by kernel_rfl) (⟨q1, q2⟩) ?_
      replace hs := hs.drew
      refine x_move (.slice _ _ _) rfl ?_
      refine x_move (.int _ _) rfl ?_
      refine x_indexAddr Try.underlying22 sz_34 _ _ _ _ _ rfl rfl (by omega) ?_
      refine h_loadN [_, _] agg_34 _ rfl (fun w hS => by first | exact hS | exact hS.1 | exact hS.2 | exact hS.2.1 | exact hS.2.2 | exact hS.2.2.1 | exact hS.2.2.2 | exact hS.2.2.2.1 | exact hS.2.2.2.2 | exact hS.cellsOf | exact (hS.pull 1).cellsOf | exact (hS.pull 2).cellsOf | exact (hS.pull 3).cellsOf | exact (hS.pull 4).cellsOf | exact (hS.pull 5).cellsOf | exact (hS.pull 6).cellsOf | exact hS.cells2 rfl rfl | exact (hS.pull 1).cells2 rfl rfl | exact (hS.pull 2).cells2 rfl rfl | exact (hS.pull 3).cells2 rfl rfl | exact (hS.pull 4).cells2 rfl rfl | exact (hS.pull 5).cells2 rfl rfl | exact (hS.pull 6).cells2 rfl rfl) ?_
      refine x_move (.slice _ _ _) rfl ?_
      refine x_move (.int _ _) rfl ?_
      refine x_indexAddr Try.underlying22 sz_34 _ _ _ _ _ rfl rfl (by omega) ?_
      refine h_loadN [_, _] agg_34 _ rfl (fun w hS => by first | exact hS | exact hS.1 | exact hS.2 | exact hS.2.1 | exact hS.2.2 | exact hS.2.2.1 | exact hS.2.2.2 | exact hS.2.2.2.1 | exact hS.2.2.2.2 | exact hS.cellsOf | exact (hS.pull 1).cellsOf | exact (hS.pull 2).cellsOf | exact (hS.pull 3).cellsOf | exact (hS.pull 4).cellsOf | exact (hS.pull 5).cellsOf | exact (hS.pull 6).cellsOf | exact hS.cells2 rfl rfl | exact (hS.pull 1).cells2 rfl rfl | exact (hS.pull 2).cells2 rfl rfl | exact (hS.pull 3).cells2 rfl rfl | exact (hS.pull 4).cells2 rfl rfl | exact (hS.pull 5).cells2 rfl rfl | exact (hS.pull 6).cells2 rfl rfl) ?_
      refine x_neqE eq_pid p1 p2 rfl rfl ?_
      refine x_nil ?_
      refine then_n ?_
      refine c_cond rfl (fun hb => ?_) (fun hb => ?_)   -- cond t25
      · skip
        refine c_seq ?_
        -- region 7
        refine c_region ?_
        refine x_assign (.bool _) rfl ?_
        refine x_nil ?_
        refine then_n ?_
        refine c_ret ?_
        refine inb_r ?_
        refine then_r ?_
        refine then_r ?_
        refine inb_r ?_
        refine then_r ?_
        refine ⟨.inr rfl, ?_⟩
        have : ¬ l1 = l2 := fun e => by subst e; rw [hp1] at hp2; cases hp2; simp at hb
        rw [decide_eq_false this]
        exact ⟨rfl, hs, hw⟩
      · skip
        refine c_skip ?_
        refine inb_n ?_
        refine then_n ?_
        -- region 5
        refine c_region ?_
        refine x_move (.int _ _) rfl ?_
        refine x_add _ _ rfl rfl (by simp only [X.lo]; omega) (by simp only [X.hi]; omega) ?_
        refine x_assign (.int _ _) rfl ?_
        refine x_nil ?_
        refine then_n ?_
        refine ⟨i + 1, ⟨rfl, rfl, rfl, trivial⟩, ⟨by omega, by rw [hst1, hst2, ht, show p1 = p2 from by simpa using hb], hs, hw⟩, by first | omega | (dsimp only; omega)⟩
    · skip
      refine c_exit ?_
      refine then_x ?_
      refine then_x ?_
      refine inb_e ?_
      refine then_n ?_
      refine c_seq ?_
      -- region 8
      refine c_region ?_
      refine x_assign (.bool _) rfl ?_
      refine x_nil ?_
      refine then_n ?_
      refine c_ret ?_
      refine ⟨.inr rfl, ?_⟩
      rw [List.take_of_length_le (by omega), List.take_of_length_le (by omega)] at ht
      rw [decide_eq_true ht]
      exact ⟨rfl, hs, hw⟩
theorem table_calls {w0 w : World} {A : HP} {L : List HP} {v : Value} {l : List (Pid × Nat)} (hs : Sat w0 w (A :: L)) (hr : ∀ w' L', Sat w0 w' (A :: L') → RS w' 3 ocell v l) (hlen : l.length ≤ 1000000) :
    Calls Try.prog 19 #[v] w fun e w' => ∃ M, e = .returned (.map (some M)) ∧ Sat w0 w' (MapR penc M (fm (tbl l)) :: A :: L) := by
  obtain ⟨a, c, rfl⟩ := (hr _ _ hs).val
  refine enter Try.func19 rfl Try.ntmps19 2 rfl (Nat.le_of_ble_eq_true rfl) ?_
  refine c_seq ?_
  -- region 0
  refine c_region ?_
  refine x_assign (.map _) rfl ?_
  refine x_nil ?_
  refine then_n ?_
  refine c_seq ?_
  -- region 1
  refine c_region ?_
  refine x_makeMap (κ := Pid) (enc := penc) hs ?_
  clear hs; intro M w hs; refine ⟨fun h => (by cases h), ?_⟩
  refine x_assign (.map _) rfl ?_
  refine x_nil ?_
  refine then_n ?_
  refine c_seq ?_
  refine c_seq ?_
  -- region 2
  refine c_region ?_
  refine x_assign (.int _ _) rfl ?_
  refine x_nil ?_
  refine then_n ?_
  refine c_block ?_
  refine c_loop (γ := Nat) (fun (i : Nat) => [(0, .slice a l.length c), (3, .map (some M)), (4, .int .i64 (i : Nat))]) (fun (i : Nat) w => i ≤ l.length ∧ Sat w0 w (MapR penc M (fm (tbl (l.take i))) :: A :: L)) (fun (i : Nat) => l.length - i) 0 ⟨rfl, rfl, rfl, trivial⟩ ⟨Nat.zero_le _, hs⟩ ?_
  clear hs
  rintro i ρ w ⟨hi, hs⟩
  change CW Try.prog 24 _ _ (sets 24 [(0, .slice a l.length c), (3, .map (some M)), (4, .int .i64 (i : Nat))] ρ) w
  refine c_seq ?_
  refine c_seq ?_
  -- region 3
  refine c_region ?_
  refine x_move (.int _ _) rfl ?_
  refine x_move (.slice _ _ _) rfl ?_
  refine x_lenSl Try.underlying40 _ _ _ rfl ?_
  refine x_lss _ _ rfl rfl ?_
  refine x_nil ?_
  refine then_n ?_
  refine c_test _ rfl (fun hb => ?_) (fun hb => ?_)   -- cond t9
  · skip
    refine c_skip ?_
    refine then_n ?_
    refine c_seq ?_
    refine c_block ?_
    -- region 5 DRAWS
    obtain ⟨⟨q, m⟩, hq⟩ : ∃ y, l[i]? = some y := ⟨l[i]'(by omega), List.getElem?_eq_getElem _⟩
    obtain ⟨g, o, rfl⟩ := (hr _ _ (hs.pull 1)).addr (by omega)
    have hon := tbl_snoc (l.take i) (q, m)
    rw [show l.take i ++ [(q, m)] = l.take (i + 1) from by rw [List.take_add_one, hq]; rfl] at hon
    dsimp only at hon
    refine c_draw (fun w => (∀ (j : Nat) (u : Value), [Value.int .u16 (q.Id : Nat), Value.int .u32 (q.Inc : Nat)][j]? = some u → w.cell? ((⟨g, o + i * 3, none⟩ : Addr).add j) = some u) ∧ w.cell? ⟨g, o + i * 3 + 2, none⟩ = some (.int .u64 (m : Nat))) (fun i => !(Nat.beq i 11)) [(0, 2), (1, 2), (2, 2), (3, 2), (4, 2), (5, 1), (6, 2), (7, 2), (8, 2), (9, 2), (10, 1), (11, 0)] (by kernel_rfl) (by kernel_rfl) (by kernel_rfl) (by kernel_rfl) (⟨(hr _ _ (hs.drew.pull 1)).oP hq, (hr _ _ (hs.drew.pull 1)).oN hq⟩) ?_
    replace hs := hs.drew
    refine x_move (.map _) rfl ?_
    refine x_move (.slice _ _ _) rfl ?_
    refine x_move (.int _ _) rfl ?_
    refine x_indexAddr Try.underlying40 sz_61 _ _ _ _ _ rfl rfl (by omega) ?_
    first | refine x_field0 fa_61_0 _ rfl ?_ | refine x_field fa_61_0 _ _ rfl ?_
    refine h_loadN [_, _] agg_34 _ rfl (fun w hS => by first | exact hS | exact hS.1 | exact hS.2 | exact hS.2.1 | exact hS.2.2 | exact hS.2.2.1 | exact hS.2.2.2 | exact hS.2.2.2.1 | exact hS.2.2.2.2 | exact hS.cellsOf | exact (hS.pull 1).cellsOf | exact (hS.pull 2).cellsOf | exact (hS.pull 3).cellsOf | exact (hS.pull 4).cellsOf | exact (hS.pull 5).cellsOf | exact (hS.pull 6).cellsOf | exact hS.cells2 rfl rfl | exact (hS.pull 1).cells2 rfl rfl | exact (hS.pull 2).cells2 rfl rfl | exact (hS.pull 3).cells2 rfl rfl | exact (hS.pull 4).cells2 rfl rfl | exact (hS.pull 5).cells2 rfl rfl | exact (hS.pull 6).cells2 rfl rfl) ?_
    refine x_move (.slice _ _ _) rfl ?_
    refine x_move (.int _ _) rfl ?_
    refine x_indexAddr Try.underlying40 sz_61 _ _ _ _ _ rfl rfl (by omega) ?_
    first | refine x_field0 fa_61_1 _ rfl ?_ | refine x_field fa_61_1 _ _ rfl ?_
    refine h_load one_27 _ (.int _ _) rfl (fun w hS => by first | exact hS.cell rfl | exact (hS.pull 1).cell rfl | exact (hS.pull 2).cell rfl | exact (hS.pull 3).cell rfl | exact (hS.pull 4).cell rfl | exact (hS.pull 5).cell rfl | exact (hS.pull 6).cell rfl | exact hS | exact hS.1 | exact hS.2 | exact hS.2.1 | exact hS.2.2 | exact hS.2.2.1 | exact hS.2.2.2 | exact hS.2.2.2.1 | exact hS.2.2.2.2) ?_
    refine x_update mt_told ko_pid hs q (.int .u64 (m : Nat)) rfl rfl rfl ?_
    clear hs; intro w hs; refine ⟨fun h => (by cases h), ?_⟩
    rw [show mset q (.int .u64 (m : Nat)) (fm (tbl (l.take i))) = fm (mset q m (tbl (l.take i))) from mset_map (fun n : Nat => Value.int .u64 (n : Nat)) q m (tbl (l.take i)), ← hon] at hs
    refine x_nil ?_
    refine inb_n ?_
    refine then_n ?_
    -- region 4
    refine c_region ?_
    refine x_move (.int _ _) rfl ?_
    refine x_add _ _ rfl rfl (by simp only [X.lo]; omega) (by simp only [X.hi]; omega) ?_
    refine x_assign (.int _ _) rfl ?_
    refine x_nil ?_
    refine then_n ?_
    refine ⟨i + 1, ⟨rfl, rfl, rfl, trivial⟩, ⟨by omega, hs⟩, by first | omega | (dsimp only; omega)⟩
  · skip
    refine c_exit ?_
    refine then_x ?_
    refine then_x ?_
    refine inb_e ?_
    refine then_n ?_
    refine c_seq ?_
    -- region 6
    refine c_region ?_
    refine x_move (.map _) rfl ?_
    refine x_assign (.map _) rfl ?_
    refine x_nil ?_
    refine then_n ?_
    refine c_ret ?_
    refine ⟨.inr rfl, ?_⟩
    rw [List.take_of_length_le (by omega)] at hs
    exact ⟨_, rfl, hs⟩
theorem missing_calls {w0 w : World} {L : List HP} {f : Nat} {s : FSt} (hs : Sat w0 w (FO f s :: L)) (hlen : s.ask.length ≤ 1000000) :
    Calls Try.prog 18 #[.pointer (some ⟨f, 0, none⟩)] w fun e w' => ∃ v, e = .returned v ∧ Sat w0 w' (Row 34 2 v s.ask.length (pcells s.ask) :: FO f s :: L) := by
  obtain ⟨ao, c, M, hs⟩ := hs.fo
  refine enter Try.func18 rfl Try.ntmps18 2 rfl (Nat.le_of_ble_eq_true rfl) ?_
  refine c_seq ?_
  -- region 0
  refine c_region ?_
  refine x_assign (.slice _ _ _) rfl ?_
  refine x_nil ?_
  refine then_n ?_
  refine c_seq ?_
  refine c_seq ?_
  -- region 1
  refine c_region ?_
  refine x_move (.pointer _) rfl ?_
  refine x_eqlNil Try.underlying25 _ rfl rfl ?_
  refine x_nil ?_
  refine then_n ?_
  refine c_false rfl ?_
  refine c_skip ?_
  refine then_n ?_
  refine c_seq ?_
  -- region 3
  refine c_region ?_
  refine x_move (.pointer _) rfl ?_
  refine x_nilCheck _ rfl ?_
  first | refine x_field0 fa_56_1 _ rfl ?_ | refine x_field fa_56_1 _ _ rfl ?_
  refine x_load one_22 _ (.slice _ _ _) rfl (by first | exact hs.cell rfl | exact (hs.pull 1).cell rfl | exact (hs.pull 2).cell rfl | exact (hs.pull 3).cell rfl | assumption | exact (hs.pull 4).cell rfl | exact (hs.pull 5).cell rfl | exact (hs.pull 6).cell rfl | exact (hs.pull 7).cell rfl) ?_
  refine x_call Try.f26 Try.func26 rfl rfl _ rfl ?_
  refine (clonep_calls (hs.pull 1) (fun w' L' h => h.prs) (by omega)).mono ?_
  clear hs; rintro e w ⟨v', rfl, hs⟩
  replace hs := hs.push 1
  try dsimp only [back] at hs
  refine ⟨_, rfl, fun h => (by first | (cases h; done) | (first | exact hs.cells2 rfl rfl | exact (hs.pull 1).cells2 rfl rfl | exact (hs.pull 2).cells2 rfl rfl | exact (hs.pull 3).cells2 rfl rfl | exact (hs.pull 4).cells2 rfl rfl | exact (hs.pull 5).cells2 rfl rfl | exact (hs.pull 6).cells2 rfl rfl | exact (hs.pull 7).cells2 rfl rfl | exact (hs.pull 8).cells2 rfl rfl | exact hs.cell rfl | exact (hs.pull 1).cell rfl | exact (hs.pull 2).cell rfl | exact (hs.pull 3).cell rfl | exact (hs.pull 4).cell rfl | exact (hs.pull 5).cell rfl | exact (hs.pull 6).cell rfl | exact (hs.pull 7).cell rfl | exact (hs.pull 8).cell rfl | assumption | exact hs.cellsOf | exact (hs.pull 1).cellsOf | exact (hs.pull 2).cellsOf | exact (hs.pull 3).cellsOf | exact (hs.pull 4).cellsOf | exact (hs.pull 5).cellsOf | exact (hs.pull 6).cellsOf | exact (hs.pull 7).cellsOf | exact (hs.pull 8).cellsOf) | (and_intros <;> first | exact hs.cells2 rfl rfl | exact (hs.pull 1).cells2 rfl rfl | exact (hs.pull 2).cells2 rfl rfl | exact (hs.pull 3).cells2 rfl rfl | exact (hs.pull 4).cells2 rfl rfl | exact (hs.pull 5).cells2 rfl rfl | exact (hs.pull 6).cells2 rfl rfl | exact (hs.pull 7).cells2 rfl rfl | exact (hs.pull 8).cells2 rfl rfl | exact hs.cell rfl | exact (hs.pull 1).cell rfl | exact (hs.pull 2).cell rfl | exact (hs.pull 3).cell rfl | exact (hs.pull 4).cell rfl | exact (hs.pull 5).cell rfl | exact (hs.pull 6).cell rfl | exact (hs.pull 7).cell rfl | exact (hs.pull 8).cell rfl | assumption | exact hs.cellsOf | exact (hs.pull 1).cellsOf | exact (hs.pull 2).cellsOf | exact (hs.pull 3).cellsOf | exact (hs.pull 4).cellsOf | exact (hs.pull 5).cellsOf | exact (hs.pull 6).cellsOf | exact (hs.pull 7).cellsOf | exact (hs.pull 8).cellsOf)), ?_⟩
  obtain ⟨a5, c5, rfl⟩ := (hs.pull 1).rd.val
  refine x_assign (.slice _ _ _) rfl ?_
  refine x_nil ?_
  refine then_n ?_
  refine c_ret ?_
  refine ⟨.inr rfl, ?_⟩
  exact ⟨_, rfl, (Sat.fo' (hs.perm [2, 0, 3, 1])).pull 1⟩
theorem fcount_calls {w0 w : World} {L : List HP} {f : Nat} {s : FSt} (p : Pid) (hs : Sat w0 w (FO f s :: L)) :
    Calls Try.prog 15 #[.pointer (some ⟨f, 0, none⟩), .agg #[.int .u16 (p.Id : Nat), .int .u32 (p.Inc : Nat)]] w fun e w' => e = .returned (.tuple #[.int .u64 ((mget p s.told).getD 0 : Nat), .bool (mget p s.told).isSome]) ∧ Sat w0 w' (FO f s :: L) := by
  obtain ⟨ao, c, M, hs⟩ := hs.fo
  have hsome : (mget p (fm s.told)).isSome = (mget p s.told).isSome := by
    rw [show mget p (fm s.told) = (mget p s.told).map fun n : Nat => Value.int .u64 (n : Nat) from mget_map (fun n : Nat => Value.int .u64 (n : Nat)) p s.told]
    cases mget p s.told <;> rfl
  have hget : (mget p (fm s.told)).getD (.int .u64 0) = .int .u64 ((mget p s.told).getD 0 : Nat) := by
    rw [show mget p (fm s.told) = (mget p s.told).map fun n : Nat => Value.int .u64 (n : Nat) from mget_map (fun n : Nat => Value.int .u64 (n : Nat)) p s.told]
    cases mget p s.told <;> rfl
  refine enter2 Try.func15 rfl Try.ntmps15 4 5 rfl (Nat.le_of_ble_eq_true rfl) ?_
  refine c_seq ?_
  -- region 0
  refine c_region ?_
  refine x_box hs (.agg #[_, _]) rfl ?_; clear hs; intro b3 w hs; refine ⟨fun h => (by first | (cases h; done) | (first | exact hs.cells2 rfl rfl | exact (hs.pull 1).cells2 rfl rfl | exact (hs.pull 2).cells2 rfl rfl | exact (hs.pull 3).cells2 rfl rfl | exact (hs.pull 4).cells2 rfl rfl | exact (hs.pull 5).cells2 rfl rfl | exact (hs.pull 6).cells2 rfl rfl | exact (hs.pull 7).cells2 rfl rfl | exact (hs.pull 8).cells2 rfl rfl | exact hs.cell rfl | exact (hs.pull 1).cell rfl | exact (hs.pull 2).cell rfl | exact (hs.pull 3).cell rfl | exact (hs.pull 4).cell rfl | exact (hs.pull 5).cell rfl | exact (hs.pull 6).cell rfl | exact (hs.pull 7).cell rfl | exact (hs.pull 8).cell rfl | assumption | exact hs.cellsOf | exact (hs.pull 1).cellsOf | exact (hs.pull 2).cellsOf | exact (hs.pull 3).cellsOf | exact (hs.pull 4).cellsOf | exact (hs.pull 5).cellsOf | exact (hs.pull 6).cellsOf | exact (hs.pull 7).cellsOf | exact (hs.pull 8).cellsOf) | (and_intros <;> first | exact hs.cells2 rfl rfl | exact (hs.pull 1).cells2 rfl rfl | exact (hs.pull 2).cells2 rfl rfl | exact (hs.pull 3).cells2 rfl rfl | exact (hs.pull 4).cells2 rfl rfl | exact (hs.pull 5).cells2 rfl rfl | exact (hs.pull 6).cells2 rfl rfl | exact (hs.pull 7).cells2 rfl rfl | exact (hs.pull 8).cells2 rfl rfl | exact hs.cell rfl | exact (hs.pull 1).cell rfl | exact (hs.pull 2).cell rfl | exact (hs.pull 3).cell rfl | exact (hs.pull 4).cell rfl | exact (hs.pull 5).cell rfl | exact (hs.pull 6).cell rfl | exact (hs.pull 7).cell rfl | exact (hs.pull 8).cell rfl | assumption | exact hs.cellsOf | exact (hs.pull 1).cellsOf | exact (hs.pull 2).cellsOf | exact (hs.pull 3).cellsOf | exact (hs.pull 4).cellsOf | exact (hs.pull 5).cellsOf | exact (hs.pull 6).cellsOf | exact (hs.pull 7).cellsOf | exact (hs.pull 8).cellsOf)), ?_⟩
  refine x_assign (.int _ _) rfl ?_
  refine x_assign (.bool _) rfl ?_
  refine x_nil ?_
  refine then_n ?_
  refine c_seq ?_
  refine c_seq ?_
  -- region 1
  refine c_region ?_
  refine x_move (.pointer _) rfl ?_
  refine x_eqlNil Try.underlying25 _ rfl rfl ?_
  refine x_nil ?_
  refine then_n ?_
  refine c_false rfl ?_
  refine c_skip ?_
  refine then_n ?_
  refine c_seq ?_
  -- region 3 DRAWS
  refine c_draw (fun w => SameL hs w) (fun i => !(false)) [(0, 2), (1, 2), (2, 2), (3, 1), (4, 1), (5, 1), (6, 2), (7, 2), (8, 2), (9, 2), (10, 2)] (by kernel_rfl) (by kernel_rfl) (by kernel_rfl) (by kernel_rfl) (hs.drew) ?_
  replace hs := hs.drew
  refine x_move (.pointer _) rfl ?_
  refine x_nilCheck _ rfl ?_
  first | refine x_field0 fa_56_2 _ rfl ?_ | refine x_field fa_56_2 _ _ rfl ?_
  refine h_load one_29 _ (.map _) rfl (fun w hS => by first | exact hS.cell rfl | exact (hS.pull 1).cell rfl | exact (hS.pull 2).cell rfl | exact (hS.pull 3).cell rfl | exact (hS.pull 4).cell rfl | exact (hS.pull 5).cell rfl | exact (hS.pull 6).cell rfl | exact hS | exact hS.1 | exact hS.2 | exact hS.2.1 | exact hS.2.2 | exact hS.2.2.1 | exact hS.2.2.2 | exact hS.2.2.2.1 | exact hS.2.2.2.2) ?_
  refine h_loadN [_, _] agg_34 _ rfl (fun w hS => by first | exact hS | exact hS.1 | exact hS.2 | exact hS.2.1 | exact hS.2.2 | exact hS.2.2.1 | exact hS.2.2.2 | exact hS.2.2.2.1 | exact hS.2.2.2.2 | exact hS.cellsOf | exact (hS.pull 1).cellsOf | exact (hS.pull 2).cellsOf | exact (hS.pull 3).cellsOf | exact (hS.pull 4).cellsOf | exact (hS.pull 5).cellsOf | exact (hS.pull 6).cellsOf | exact hS.cells2 rfl rfl | exact (hS.pull 1).cells2 rfl rfl | exact (hS.pull 2).cells2 rfl rfl | exact (hS.pull 3).cells2 rfl rfl | exact (hS.pull 4).cells2 rfl rfl | exact (hS.pull 5).cells2 rfl rfl | exact (hS.pull 6).cells2 rfl rfl) ?_
  refine h_lookup2 mt_told ko_pid p (fun w hS => ⟨_, _, hS.pull 3⟩) rfl rfl ?_
  rw [hsome, hget]
  refine x_move (.tuple _) rfl ?_
  refine x_extract _ (.int _ _) rfl rfl ?_
  refine x_extract _ (.bool _) rfl rfl ?_
  refine x_assign (.int _ _) rfl ?_
  refine x_assign (.bool _) rfl ?_
  refine x_nil ?_
  refine then_n ?_
  refine c_seq ?_
  -- region 4
  refine c_region ?_
  refine x_move (.int _ _) rfl ?_
  refine x_move (.bool _) rfl ?_
  refine x_assign (.int _ _) rfl ?_
  refine x_assign (.bool _) rfl ?_
  refine x_nil ?_
  refine then_n ?_
  refine c_ret ?_
  refine ⟨.inr rfl, ?_⟩
  exact ⟨rfl, hs.tail.fo'⟩
end Go.Proofs.Ythhojdbklnoooaa.X
