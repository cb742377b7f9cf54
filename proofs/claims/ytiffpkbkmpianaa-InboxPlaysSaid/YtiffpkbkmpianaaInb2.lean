/-
  LAYER 23: the inbox: Put, Next.
-/
import Derived.Test.YtiffpkbkmpianaaInb1
namespace Go.Proofs.Ytiffpkbkmpianaa.X
open Go Go.RowKit
set_option linter.unusedVariables false
set_option maxRecDepth 20000
def nx (a : Nat) : Nat := (a + 1) % 18446744073709551616
def putC (s : ISt) (p : Pid) (n : Nat) (d : List UInt8) : Nat := if p ∉ s.mem then 15 else if 200 < d.length then 14 else if n ≤ getN s.last p then 10 else if 6 < n - getN s.last p then 11 else if (mget (p, n) s.ws).isSome then 9 else 0
def ISt.put (s : ISt) (p : Pid) (n : Nat) (d : List UInt8) : ISt := if putC s p n d = 0 then { s with ws := s.ws ++ [((p, n), d)] } else s
/-- number i, counted from 'turn' -/
def cand (mem : List Pid) (A : Pid → Nat) (turn i : Nat) : Key := (mem.getD ((turn + i) % mem.length) ⟨0, 0⟩, nx (A (mem.getD ((turn + i) % mem.length) ⟨0, 0⟩)))
structure NR where
  p : Pid
  n : Nat
  d : List UInt8
  ok : Bool
def nextR (mem : List Pid) (A : Pid → Nat) (ws : List (Key × List UInt8)) (turn : Nat) : NR :=
  match (List.range mem.length).find? fun i => (mget (cand mem A turn i) ws).isSome with
  | none => ⟨⟨0, 0⟩, 0, [], false⟩
  | some i => ⟨(cand mem A turn i).1, (cand mem A turn i).2, (mget (cand mem A turn i) ws).getD [], true⟩
theorem nextR_none {mem : List Pid} {A : Pid → Nat} {ws : List (Key × List UInt8)} {turn : Nat} (h : ∀ i, i < mem.length → mget (cand mem A turn i) ws = none) : nextR mem A ws turn = ⟨⟨0, 0⟩, 0, [], false⟩ := by
  unfold nextR
  rw [List.find?_eq_none.2 fun i hi => by rw [h i (List.mem_range.1 hi)]; simp]
theorem nextR_some {mem : List Pid} {A : Pid → Nat} {ws : List (Key × List UInt8)} {turn i : Nat} {d : List UInt8} (hi : i < mem.length) (h : ∀ j, j < i → mget (cand mem A turn j) ws = none) (hd : mget (cand mem A turn i) ws = some d) : nextR mem A ws turn = ⟨(cand mem A turn i).1, (cand mem A turn i).2, d, true⟩ := by
  unfold nextR
  have : (List.range mem.length).find? (fun i => (mget (cand mem A turn i) ws).isSome) = some i := by
    rw [List.find?_range_eq_some]
    refine ⟨by rw [hd]; rfl, List.mem_range.2 hi, fun j hj => by rw [h j hj]; rfl⟩
  rw [this]
  dsimp only
  rw [hd]
  rfl
theorem mb_get {m : List (Key × List UInt8)} {e : List (Key × Value × List UInt8)} (he : e.map (fun p => (p.1, p.2.2)) = m) (k : Key) : mget k m = (mget k e).map (·.2) := by
  rw [← he]
  exact mget_map (fun x : Value × List UInt8 => x.2) k e
theorem mb_get' (e : List (Key × Value × List UInt8)) (k : Key) : mget k (e.map fun p => (p.1, p.2.1)) = (mget k e).map (·.1) := mget_map (fun x : Value × List UInt8 => x.1) k e
set_option maxHeartbeats 2000000 in
theorem iput_calls {w0 w : World} {A : HP} {L : List HP} {f : Nat} {s : ISt} (p : Pid) (n : Nat) {v : Value} {d : List UInt8} (hs : Sat w0 w (IO f s :: A :: L)) (hd : ∀ w' L', Sat w0 w' (A :: L') → RB w' v d) (hm : s.mem.length ≤ 1000000) (hl : d.length ≤ 1000000) (hn64 : n ≤ 18446744073709551615) :
    Calls Try.prog 11 #[.pointer (some ⟨f, 0, none⟩), .agg #[.int .u16 (p.Id : Nat), .int .u32 (p.Inc : Nat)], .int .u64 (n : Nat), v] w fun e w' => e = .returned (.int .i64 (putC s p n d : Nat)) ∧ Sat w0 w' (IO f (s.put p n d) :: A :: L) := by
  obtain ⟨ad, cd, rfl⟩ := (hd _ _ (hs.pull 1)).val
  obtain ⟨a, c, M1, M2, hs⟩ := hs.io
  have hlv := fmk_get s.last p
  refine enter Try.func11 rfl Try.ntmps11 8 rfl (Nat.le_of_ble_eq_true rfl) ?_
  refine c_seq ?_
  -- region 0
  refine c_region ?_
  refine x_box hs (.agg #[_, _]) rfl ?_; clear hs; intro b5 w hs; refine ⟨fun h => (by first | (cases h; done) | (first | exact hs.cells2 rfl rfl | exact (hs.pull 1).cells2 rfl rfl | exact (hs.pull 2).cells2 rfl rfl | exact (hs.pull 3).cells2 rfl rfl | exact (hs.pull 4).cells2 rfl rfl | exact (hs.pull 5).cells2 rfl rfl | exact (hs.pull 6).cells2 rfl rfl | exact (hs.pull 7).cells2 rfl rfl | exact (hs.pull 8).cells2 rfl rfl | exact hs.cell rfl | exact (hs.pull 1).cell rfl | exact (hs.pull 2).cell rfl | exact (hs.pull 3).cell rfl | exact (hs.pull 4).cell rfl | exact (hs.pull 5).cell rfl | exact (hs.pull 6).cell rfl | exact (hs.pull 7).cell rfl | exact (hs.pull 8).cell rfl | assumption | exact hs.cellsOf | exact (hs.pull 1).cellsOf | exact (hs.pull 2).cellsOf | exact (hs.pull 3).cellsOf | exact (hs.pull 4).cellsOf | exact (hs.pull 5).cellsOf | exact (hs.pull 6).cellsOf | exact (hs.pull 7).cellsOf | exact (hs.pull 8).cellsOf) | (and_intros <;> first | exact hs.cells2 rfl rfl | exact (hs.pull 1).cells2 rfl rfl | exact (hs.pull 2).cells2 rfl rfl | exact (hs.pull 3).cells2 rfl rfl | exact (hs.pull 4).cells2 rfl rfl | exact (hs.pull 5).cells2 rfl rfl | exact (hs.pull 6).cells2 rfl rfl | exact (hs.pull 7).cells2 rfl rfl | exact (hs.pull 8).cells2 rfl rfl | exact hs.cell rfl | exact (hs.pull 1).cell rfl | exact (hs.pull 2).cell rfl | exact (hs.pull 3).cell rfl | exact (hs.pull 4).cell rfl | exact (hs.pull 5).cell rfl | exact (hs.pull 6).cell rfl | exact (hs.pull 7).cell rfl | exact (hs.pull 8).cell rfl | assumption | exact hs.cellsOf | exact (hs.pull 1).cellsOf | exact (hs.pull 2).cellsOf | exact (hs.pull 3).cellsOf | exact (hs.pull 4).cellsOf | exact (hs.pull 5).cellsOf | exact (hs.pull 6).cellsOf | exact (hs.pull 7).cellsOf | exact (hs.pull 8).cellsOf)), ?_⟩
  refine x_assign (.int _ _) rfl ?_
  refine x_nil ?_
  refine then_n ?_
  refine c_seq ?_
  refine c_block ?_
  refine c_seq ?_
  -- region 1
  refine c_region ?_
  refine x_move (.pointer _) rfl ?_
  refine x_eqlNil Try.underlying30 _ rfl rfl ?_
  refine x_assign (.bool _) rfl ?_
  refine x_nil ?_
  refine then_n ?_
  refine c_false rfl ?_
  refine c_seq ?_
  -- region 3 DRAWS
  refine c_draw (fun w => (∀ (j : Nat) (u : Value), [Value.int .u16 (p.Id : Nat), Value.int .u32 (p.Inc : Nat)][j]? = some u → w.cell? ((⟨b5, 0, none⟩ : Addr).add j) = some u) ∧ w.cell? ⟨f, 1, none⟩ = some (.slice a s.mem.length c)) (fun i => !(Nat.beq i 5)) [(0, 2), (1, 2), (2, 2), (3, 1), (4, 1), (5, 0), (6, 2), (7, 2)] (by kernel_rfl) (by kernel_rfl) (by kernel_rfl) (by kernel_rfl) ((by first | (first | exact hs.cells2 rfl rfl | exact (hs.pull 1).cells2 rfl rfl | exact (hs.pull 2).cells2 rfl rfl | exact (hs.pull 3).cells2 rfl rfl | exact (hs.pull 4).cells2 rfl rfl | exact (hs.pull 5).cells2 rfl rfl | exact (hs.pull 6).cells2 rfl rfl | exact (hs.pull 7).cells2 rfl rfl | exact (hs.pull 8).cells2 rfl rfl | exact hs.cell rfl | exact (hs.pull 1).cell rfl | exact (hs.pull 2).cell rfl | exact (hs.pull 3).cell rfl | exact (hs.pull 4).cell rfl | exact (hs.pull 5).cell rfl | exact (hs.pull 6).cell rfl | exact (hs.pull 7).cell rfl | exact (hs.pull 8).cell rfl | assumption | exact hs.cellsOf | exact (hs.pull 1).cellsOf | exact (hs.pull 2).cellsOf | exact (hs.pull 3).cellsOf | exact (hs.pull 4).cellsOf | exact (hs.pull 5).cellsOf | exact (hs.pull 6).cellsOf | exact (hs.pull 7).cellsOf | exact (hs.pull 8).cellsOf) | (and_intros <;> first | exact hs.cells2 rfl rfl | exact (hs.pull 1).cells2 rfl rfl | exact (hs.pull 2).cells2 rfl rfl | exact (hs.pull 3).cells2 rfl rfl | exact (hs.pull 4).cells2 rfl rfl | exact (hs.pull 5).cells2 rfl rfl | exact (hs.pull 6).cells2 rfl rfl | exact (hs.pull 7).cells2 rfl rfl | exact (hs.pull 8).cells2 rfl rfl | exact hs.cell rfl | exact (hs.pull 1).cell rfl | exact (hs.pull 2).cell rfl | exact (hs.pull 3).cell rfl | exact (hs.pull 4).cell rfl | exact (hs.pull 5).cell rfl | exact (hs.pull 6).cell rfl | exact (hs.pull 7).cell rfl | exact (hs.pull 8).cell rfl | assumption | exact hs.cellsOf | exact (hs.pull 1).cellsOf | exact (hs.pull 2).cellsOf | exact (hs.pull 3).cellsOf | exact (hs.pull 4).cellsOf | exact (hs.pull 5).cellsOf | exact (hs.pull 6).cellsOf | exact (hs.pull 7).cellsOf | exact (hs.pull 8).cellsOf))) ?_
  replace hs := hs.drew
  refine x_move (.pointer _) rfl ?_
  refine x_nilCheck _ rfl ?_
  first | refine x_field0 fa_69_1 _ rfl ?_ | refine x_field fa_69_1 _ _ rfl ?_
  refine h_load one_23 _ (.slice _ _ _) rfl (fun w hS => by first | exact hS.cell rfl | exact (hS.pull 1).cell rfl | exact (hS.pull 2).cell rfl | exact (hS.pull 3).cell rfl | exact (hS.pull 4).cell rfl | exact (hS.pull 5).cell rfl | exact (hS.pull 6).cell rfl | exact hS | exact hS.1 | exact hS.2 | exact hS.2.1 | exact hS.2.2 | exact hS.2.2.1 | exact hS.2.2.2 | exact hS.2.2.2.1 | exact hS.2.2.2.2) ?_
  refine h_loadN [_, _] agg_35 _ rfl (fun w hS => by first | exact hS | exact hS.1 | exact hS.2 | exact hS.2.1 | exact hS.2.2 | exact hS.2.2.1 | exact hS.2.2.2 | exact hS.2.2.2.1 | exact hS.2.2.2.2 | exact hS.cellsOf | exact (hS.pull 1).cellsOf | exact (hS.pull 2).cellsOf | exact (hS.pull 3).cellsOf | exact (hS.pull 4).cellsOf | exact (hS.pull 5).cellsOf | exact (hS.pull 6).cellsOf | exact hS.cells2 rfl rfl | exact (hS.pull 1).cells2 rfl rfl | exact (hS.pull 2).cells2 rfl rfl | exact (hS.pull 3).cells2 rfl rfl | exact (hS.pull 4).cells2 rfl rfl | exact (hS.pull 5).cells2 rfl rfl | exact (hS.pull 6).cells2 rfl rfl) ?_
  refine x_call Try.f27 Try.func27 rfl rfl _ rfl ?_
  refine (contains_calls p (hs.pull 2) (fun w' L' h => h.prs) (by omega)).mono ?_
  clear hs; rintro e w ⟨rfl, hs⟩
  replace hs := hs.push 2
  try dsimp only [back] at hs
  refine ⟨_, rfl, fun h => (by first | (cases h; done) | (first | exact hs.cells2 rfl rfl | exact (hs.pull 1).cells2 rfl rfl | exact (hs.pull 2).cells2 rfl rfl | exact (hs.pull 3).cells2 rfl rfl | exact (hs.pull 4).cells2 rfl rfl | exact (hs.pull 5).cells2 rfl rfl | exact (hs.pull 6).cells2 rfl rfl | exact (hs.pull 7).cells2 rfl rfl | exact (hs.pull 8).cells2 rfl rfl | exact hs.cell rfl | exact (hs.pull 1).cell rfl | exact (hs.pull 2).cell rfl | exact (hs.pull 3).cell rfl | exact (hs.pull 4).cell rfl | exact (hs.pull 5).cell rfl | exact (hs.pull 6).cell rfl | exact (hs.pull 7).cell rfl | exact (hs.pull 8).cell rfl | assumption | exact hs.cellsOf | exact (hs.pull 1).cellsOf | exact (hs.pull 2).cellsOf | exact (hs.pull 3).cellsOf | exact (hs.pull 4).cellsOf | exact (hs.pull 5).cellsOf | exact (hs.pull 6).cellsOf | exact (hs.pull 7).cellsOf | exact (hs.pull 8).cellsOf) | (and_intros <;> first | exact hs.cells2 rfl rfl | exact (hs.pull 1).cells2 rfl rfl | exact (hs.pull 2).cells2 rfl rfl | exact (hs.pull 3).cells2 rfl rfl | exact (hs.pull 4).cells2 rfl rfl | exact (hs.pull 5).cells2 rfl rfl | exact (hs.pull 6).cells2 rfl rfl | exact (hs.pull 7).cells2 rfl rfl | exact (hs.pull 8).cells2 rfl rfl | exact hs.cell rfl | exact (hs.pull 1).cell rfl | exact (hs.pull 2).cell rfl | exact (hs.pull 3).cell rfl | exact (hs.pull 4).cell rfl | exact (hs.pull 5).cell rfl | exact (hs.pull 6).cell rfl | exact (hs.pull 7).cell rfl | exact (hs.pull 8).cell rfl | assumption | exact hs.cellsOf | exact (hs.pull 1).cellsOf | exact (hs.pull 2).cellsOf | exact (hs.pull 3).cellsOf | exact (hs.pull 4).cellsOf | exact (hs.pull 5).cellsOf | exact (hs.pull 6).cellsOf | exact (hs.pull 7).cellsOf | exact (hs.pull 8).cellsOf)), ?_⟩
  refine x_not _ rfl ?_
  refine x_assign (.bool _) rfl ?_
  refine x_nil ?_
  refine then_n ?_
  refine c_cond rfl (fun hb => ?_) (fun hb => ?_)   -- cond t15
  · skip
    refine c_seq ?_
    -- region 4
    refine c_region ?_
    refine x_assign (.int _ _) rfl ?_
    refine x_nil ?_
    refine then_n ?_
    refine c_ret ?_
    refine inb_r ?_
    refine then_r ?_
    refine ⟨.inr rfl, ?_⟩
    have hc : putC s p n d = 15 := if_pos (by simpa using hb)
    unfold ISt.put
    rw [hc, if_neg (by decide)]
    exact ⟨rfl, hs.tail.io'⟩
  · skip
    refine c_seq ?_
    -- region 5
    have hpm : p ∈ s.mem := by simpa using hb
    refine c_region ?_
    refine x_move (.slice _ _ _) rfl ?_
    refine x_lenSl Try.underlying38 _ _ _ rfl ?_
    refine x_gtr _ _ rfl rfl ?_
    refine x_assign (.bool _) rfl ?_
    refine x_nil ?_
    refine then_n ?_
    refine c_test _ rfl (fun hb => ?_) (fun hb => ?_)   -- cond t23
    · skip
      refine c_seq ?_
      -- region 6
      refine c_region ?_
      refine x_assign (.int _ _) rfl ?_
      refine x_nil ?_
      refine then_n ?_
      refine c_ret ?_
      refine inb_r ?_
      refine then_r ?_
      refine ⟨.inr rfl, ?_⟩
      have hc : putC s p n d = 14 := by unfold putC; rw [if_neg (fun h => h hpm), if_pos (by omega)]
      unfold ISt.put
      rw [hc, if_neg (by decide)]
      exact ⟨rfl, hs.tail.io'⟩
    · skip
      refine c_seq ?_
      -- region 7 DRAWS
      have hd200 : ¬ 200 < d.length := by omega
      refine c_draw (fun w => SameL hs w) (fun i => !(false)) [(0, 2), (1, 2), (2, 2), (3, 2), (4, 1), (5, 1), (6, 1), (7, 2), (8, 2)] (by kernel_rfl) (by kernel_rfl) (by kernel_rfl) (by kernel_rfl) (hs.drew) ?_
      replace hs := hs.drew
      refine x_move (.int _ _) rfl ?_
      refine x_move (.pointer _) rfl ?_
      refine x_nilCheck _ rfl ?_
      first | refine x_field0 fa_69_2 _ rfl ?_ | refine x_field fa_69_2 _ _ rfl ?_
      refine h_load one_66 _ (.map _) rfl (fun w hS => by first | exact hS.cell rfl | exact (hS.pull 1).cell rfl | exact (hS.pull 2).cell rfl | exact (hS.pull 3).cell rfl | exact (hS.pull 4).cell rfl | exact (hS.pull 5).cell rfl | exact (hS.pull 6).cell rfl | exact hS | exact hS.1 | exact hS.2 | exact hS.2.1 | exact hS.2.2 | exact hS.2.2.1 | exact hS.2.2.2 | exact hS.2.2.2.1 | exact hS.2.2.2.2) ?_
      refine h_loadN [_, _] agg_35 _ rfl (fun w hS => by first | exact hS | exact hS.1 | exact hS.2 | exact hS.2.1 | exact hS.2.2 | exact hS.2.2.1 | exact hS.2.2.2 | exact hS.2.2.2.1 | exact hS.2.2.2.2 | exact hS.cellsOf | exact (hS.pull 1).cellsOf | exact (hS.pull 2).cellsOf | exact (hS.pull 3).cellsOf | exact (hS.pull 4).cellsOf | exact (hS.pull 5).cellsOf | exact (hS.pull 6).cellsOf | exact hS.cells2 rfl rfl | exact (hS.pull 1).cells2 rfl rfl | exact (hS.pull 2).cells2 rfl rfl | exact (hS.pull 3).cells2 rfl rfl | exact (hS.pull 4).cells2 rfl rfl | exact (hS.pull 5).cells2 rfl rfl | exact (hS.pull 6).cells2 rfl rfl) ?_
      refine h_lookup1 mt_last ko_pid p _ (fun w hS => ⟨_, _, hS.pull 3⟩) rfl rfl hlv ?_
      refine x_leq _ _ rfl rfl ?_
      refine x_assign (.bool _) rfl ?_
      refine x_nil ?_
      refine then_n ?_
      refine c_test _ rfl (fun hb => ?_) (fun hb => ?_)   -- cond t27
      · skip
        refine c_seq ?_
        -- region 8
        refine c_region ?_
        refine x_assign (.int _ _) rfl ?_
        refine x_nil ?_
        refine then_n ?_
        refine c_ret ?_
        refine inb_r ?_
        refine then_r ?_
        refine ⟨.inr rfl, ?_⟩
        have hc : putC s p n d = 10 := by unfold putC; rw [if_neg (fun h => h hpm), if_neg hd200, if_pos (by omega)]
        unfold ISt.put
        rw [hc, if_neg (by decide)]
        exact ⟨rfl, hs.tail.io'⟩
      · skip
        refine c_seq ?_
        -- region 9 DRAWS
        have hst : ¬ n ≤ getN s.last p := by omega
        refine c_draw (fun w => SameL hs w) (fun i => !(false)) [(0, 2), (1, 2), (2, 2), (3, 2), (4, 1), (5, 1), (6, 1), (7, 2), (8, 2), (9, 2)] (by kernel_rfl) (by kernel_rfl) (by kernel_rfl) (by kernel_rfl) (hs.drew) ?_
        replace hs := hs.drew
        refine x_move (.int _ _) rfl ?_
        refine x_move (.pointer _) rfl ?_
        refine x_nilCheck _ rfl ?_
        first | refine x_field0 fa_69_2 _ rfl ?_ | refine x_field fa_69_2 _ _ rfl ?_
        refine h_load one_66 _ (.map _) rfl (fun w hS => by first | exact hS.cell rfl | exact (hS.pull 1).cell rfl | exact (hS.pull 2).cell rfl | exact (hS.pull 3).cell rfl | exact (hS.pull 4).cell rfl | exact (hS.pull 5).cell rfl | exact (hS.pull 6).cell rfl | exact hS | exact hS.1 | exact hS.2 | exact hS.2.1 | exact hS.2.2 | exact hS.2.2.1 | exact hS.2.2.2 | exact hS.2.2.2.1 | exact hS.2.2.2.2) ?_
        refine h_loadN [_, _] agg_35 _ rfl (fun w hS => by first | exact hS | exact hS.1 | exact hS.2 | exact hS.2.1 | exact hS.2.2 | exact hS.2.2.1 | exact hS.2.2.2 | exact hS.2.2.2.1 | exact hS.2.2.2.2 | exact hS.cellsOf | exact (hS.pull 1).cellsOf | exact (hS.pull 2).cellsOf | exact (hS.pull 3).cellsOf | exact (hS.pull 4).cellsOf | exact (hS.pull 5).cellsOf | exact (hS.pull 6).cellsOf | exact hS.cells2 rfl rfl | exact (hS.pull 1).cells2 rfl rfl | exact (hS.pull 2).cells2 rfl rfl | exact (hS.pull 3).cells2 rfl rfl | exact (hS.pull 4).cells2 rfl rfl | exact (hS.pull 5).cells2 rfl rfl | exact (hS.pull 6).cells2 rfl rfl) ?_
        refine h_lookup1 mt_last ko_pid p _ (fun w hS => ⟨_, _, hS.pull 3⟩) rfl rfl hlv ?_
        refine x_subN _ _ rfl rfl (by omega) (by simp only [X.hi]; omega) ?_
        refine x_gtr _ _ rfl rfl ?_
        refine x_assign (.bool _) rfl ?_
        refine x_nil ?_
        refine then_n ?_
        refine c_test _ rfl (fun hb => ?_) (fun hb => ?_)   -- cond t36
        · skip
          refine c_seq ?_
          -- region 10
          refine c_region ?_
          refine x_assign (.int _ _) rfl ?_
          refine x_nil ?_
          refine then_n ?_
          refine c_ret ?_
          refine inb_r ?_
          refine then_r ?_
          refine ⟨.inr rfl, ?_⟩
          have hc : putC s p n d = 11 := by unfold putC; rw [if_neg (fun h => h hpm), if_neg hd200, if_neg hst, if_pos (by omega)]
          unfold ISt.put
          rw [hc, if_neg (by decide)]
          exact ⟨rfl, hs.tail.io'⟩
        · skip
          obtain ⟨e, he, hs⟩ := (hs.pull 4).mb
          have hme := mb_get he (p, n)
          have hmv := mb_get' e (p, n)
          have hah : ¬ 6 < n - getN s.last p := by omega
          have hput : putC s p n d = if (mget (p, n) s.ws).isSome then 9 else 0 := by unfold putC; rw [if_neg (fun h => h hpm), if_neg hd200, if_neg hst, if_neg hah]
          rcases hg : mget (p, n) e with _ | ⟨v0, d0⟩
          rw [hg] at hme hmv
          rotate_left
          rw [hg] at hme hmv
          obtain ⟨a0, c0, rfl⟩ := ((hs.pull 1).eeRB hg).val
          · skip
            refine c_skip ?_
            refine inb_n ?_
            refine then_n ?_
            refine c_seq ?_
            -- region 11
            refine c_region ?_
            refine x_loadN [_, _] agg_35 _ rfl (by first | assumption | exact hs.cellsOf | exact (hs.pull 1).cellsOf | exact (hs.pull 2).cellsOf | exact (hs.pull 3).cellsOf | exact (hs.pull 4).cellsOf | exact (hs.pull 5).cellsOf | exact (hs.pull 6).cellsOf | exact (hs.pull 7).cellsOf | exact (hs.pull 8).cellsOf | exact hs.cells2 rfl rfl | exact (hs.pull 1).cells2 rfl rfl | exact (hs.pull 2).cells2 rfl rfl | exact (hs.pull 3).cells2 rfl rfl | exact (hs.pull 4).cells2 rfl rfl | exact (hs.pull 5).cells2 rfl rfl | exact (hs.pull 6).cells2 rfl rfl | exact (hs.pull 7).cells2 rfl rfl | exact (hs.pull 8).cells2 rfl rfl) ?_
            refine x_move (.int _ _) rfl ?_
            refine x_build _ [(0, (.agg #[(.int .u16 _), (.int .u32 _)])), (1, (.int .u64 _))] rfl (fun w => bd_72_0_1 _ _ _ w) ?_
            refine x_alloc zi_72 hs ?_; clear hs; intro b9 w hs; refine ⟨fun h => (by first | (cases h; done) | (first | exact hs.cells2 rfl rfl | exact (hs.pull 1).cells2 rfl rfl | exact (hs.pull 2).cells2 rfl rfl | exact (hs.pull 3).cells2 rfl rfl | exact (hs.pull 4).cells2 rfl rfl | exact (hs.pull 5).cells2 rfl rfl | exact (hs.pull 6).cells2 rfl rfl | exact (hs.pull 7).cells2 rfl rfl | exact (hs.pull 8).cells2 rfl rfl | exact hs.cell rfl | exact (hs.pull 1).cell rfl | exact (hs.pull 2).cell rfl | exact (hs.pull 3).cell rfl | exact (hs.pull 4).cell rfl | exact (hs.pull 5).cell rfl | exact (hs.pull 6).cell rfl | exact (hs.pull 7).cell rfl | exact (hs.pull 8).cell rfl | assumption | exact hs.cellsOf | exact (hs.pull 1).cellsOf | exact (hs.pull 2).cellsOf | exact (hs.pull 3).cellsOf | exact (hs.pull 4).cellsOf | exact (hs.pull 5).cellsOf | exact (hs.pull 6).cellsOf | exact (hs.pull 7).cellsOf | exact (hs.pull 8).cellsOf) | (and_intros <;> first | exact hs.cells2 rfl rfl | exact (hs.pull 1).cells2 rfl rfl | exact (hs.pull 2).cells2 rfl rfl | exact (hs.pull 3).cells2 rfl rfl | exact (hs.pull 4).cells2 rfl rfl | exact (hs.pull 5).cells2 rfl rfl | exact (hs.pull 6).cells2 rfl rfl | exact (hs.pull 7).cells2 rfl rfl | exact (hs.pull 8).cells2 rfl rfl | exact hs.cell rfl | exact (hs.pull 1).cell rfl | exact (hs.pull 2).cell rfl | exact (hs.pull 3).cell rfl | exact (hs.pull 4).cell rfl | exact (hs.pull 5).cell rfl | exact (hs.pull 6).cell rfl | exact (hs.pull 7).cell rfl | exact (hs.pull 8).cell rfl | assumption | exact hs.cellsOf | exact (hs.pull 1).cellsOf | exact (hs.pull 2).cellsOf | exact (hs.pull 3).cellsOf | exact (hs.pull 4).cellsOf | exact (hs.pull 5).cellsOf | exact (hs.pull 6).cellsOf | exact (hs.pull 7).cellsOf | exact (hs.pull 8).cellsOf)), ?_⟩
            first
              | refine x_storeAllI hs 0 rfl rfl agg_72 [_, _, _] rfl rfl rfl rfl ?_
              | refine x_storeAllI hs 1 rfl rfl agg_72 [_, _, _] rfl rfl rfl rfl ?_
              | refine x_storeAllI hs 2 rfl rfl agg_72 [_, _, _] rfl rfl rfl rfl ?_
              | refine x_storeAllI hs 3 rfl rfl agg_72 [_, _, _] rfl rfl rfl rfl ?_
              | refine x_storeAllI hs 4 rfl rfl agg_72 [_, _, _] rfl rfl rfl rfl ?_
              | refine x_storeAllI hs 5 rfl rfl agg_72 [_, _, _] rfl rfl rfl rfl ?_
              | refine x_storeAllI hs 6 rfl rfl agg_72 [_, _, _] rfl rfl rfl rfl ?_
              | refine x_storeAllI hs 7 rfl rfl agg_72 [_, _, _] rfl rfl rfl rfl ?_
            clear hs; intro w hs
            try dsimp only [back, List.set_cons_zero, List.set_cons_succ] at hs
            refine ⟨fun h => (by first | (cases h; done) | (first | exact hs.cells2 rfl rfl | exact (hs.pull 1).cells2 rfl rfl | exact (hs.pull 2).cells2 rfl rfl | exact (hs.pull 3).cells2 rfl rfl | exact (hs.pull 4).cells2 rfl rfl | exact (hs.pull 5).cells2 rfl rfl | exact (hs.pull 6).cells2 rfl rfl | exact (hs.pull 7).cells2 rfl rfl | exact (hs.pull 8).cells2 rfl rfl | exact hs.cell rfl | exact (hs.pull 1).cell rfl | exact (hs.pull 2).cell rfl | exact (hs.pull 3).cell rfl | exact (hs.pull 4).cell rfl | exact (hs.pull 5).cell rfl | exact (hs.pull 6).cell rfl | exact (hs.pull 7).cell rfl | exact (hs.pull 8).cell rfl | assumption | exact hs.cellsOf | exact (hs.pull 1).cellsOf | exact (hs.pull 2).cellsOf | exact (hs.pull 3).cellsOf | exact (hs.pull 4).cellsOf | exact (hs.pull 5).cellsOf | exact (hs.pull 6).cellsOf | exact (hs.pull 7).cellsOf | exact (hs.pull 8).cellsOf) | (and_intros <;> first | exact hs.cells2 rfl rfl | exact (hs.pull 1).cells2 rfl rfl | exact (hs.pull 2).cells2 rfl rfl | exact (hs.pull 3).cells2 rfl rfl | exact (hs.pull 4).cells2 rfl rfl | exact (hs.pull 5).cells2 rfl rfl | exact (hs.pull 6).cells2 rfl rfl | exact (hs.pull 7).cells2 rfl rfl | exact (hs.pull 8).cells2 rfl rfl | exact hs.cell rfl | exact (hs.pull 1).cell rfl | exact (hs.pull 2).cell rfl | exact (hs.pull 3).cell rfl | exact (hs.pull 4).cell rfl | exact (hs.pull 5).cell rfl | exact (hs.pull 6).cell rfl | exact (hs.pull 7).cell rfl | exact (hs.pull 8).cell rfl | assumption | exact hs.cellsOf | exact (hs.pull 1).cellsOf | exact (hs.pull 2).cellsOf | exact (hs.pull 3).cellsOf | exact (hs.pull 4).cellsOf | exact (hs.pull 5).cellsOf | exact (hs.pull 6).cellsOf | exact (hs.pull 7).cellsOf | exact (hs.pull 8).cellsOf)), ?_⟩
            refine x_nil ?_
            refine then_n ?_
            refine c_seq ?_
            refine c_seq ?_
            -- region 12 DRAWS
            refine c_draw (fun w => SameL hs w) (fun i => !(false)) [(0, 2), (1, 2), (2, 2), (3, 1), (4, 1), (5, 1), (6, 2), (7, 2), (8, 2), (9, 2), (10, 2)] (by kernel_rfl) (by kernel_rfl) (by kernel_rfl) (by kernel_rfl) (hs.drew) ?_
            replace hs := hs.drew
            refine x_move (.pointer _) rfl ?_
            refine x_nilCheck _ rfl ?_
            first | refine x_field0 fa_69_3 _ rfl ?_ | refine x_field fa_69_3 _ _ rfl ?_
            refine h_load one_67 _ (.map _) rfl (fun w hS => by first | exact hS.cell rfl | exact (hS.pull 1).cell rfl | exact (hS.pull 2).cell rfl | exact (hS.pull 3).cell rfl | exact (hS.pull 4).cell rfl | exact (hS.pull 5).cell rfl | exact (hS.pull 6).cell rfl | exact hS | exact hS.1 | exact hS.2 | exact hS.2.1 | exact hS.2.2 | exact hS.2.2.1 | exact hS.2.2.2 | exact hS.2.2.2.1 | exact hS.2.2.2.2) ?_
            refine h_loadN [_, _, _] agg_72 _ rfl (fun w hS => by first | exact hS | exact hS.1 | exact hS.2 | exact hS.2.1 | exact hS.2.2 | exact hS.2.2.1 | exact hS.2.2.2 | exact hS.2.2.2.1 | exact hS.2.2.2.2 | exact hS.cellsOf | exact (hS.pull 1).cellsOf | exact (hS.pull 2).cellsOf | exact (hS.pull 3).cellsOf | exact (hS.pull 4).cellsOf | exact (hS.pull 5).cellsOf | exact (hS.pull 6).cellsOf | exact hS.cells2 rfl rfl | exact (hS.pull 1).cells2 rfl rfl | exact (hS.pull 2).cells2 rfl rfl | exact (hS.pull 3).cells2 rfl rfl | exact (hS.pull 4).cells2 rfl rfl | exact (hS.pull 5).cells2 rfl rfl | exact (hS.pull 6).cells2 rfl rfl) ?_
            refine h_lookup2T mt_ws ko_key (p, n) _ (fun w hS => ⟨_, _, hS.pull 1⟩) rfl rfl hmv ?_
            refine x_move (.tuple _) rfl ?_
            refine x_extract _ (.slice _ _ _) rfl rfl ?_
            refine x_extract _ (.bool _) rfl rfl ?_
            refine x_assign (.slice _ _ _) rfl ?_
            refine x_assign (.bool _) rfl ?_
            refine x_nil ?_
            refine then_n ?_
            refine c_seq ?_
            -- region 13
            refine c_region ?_
            refine x_move (.bool _) rfl ?_
            refine x_nil ?_
            refine then_n ?_
            refine c_true rfl ?_
            refine c_seq ?_
            -- region 14
            refine c_region ?_
            refine x_assign (.int _ _) rfl ?_
            refine x_nil ?_
            refine then_n ?_
            refine c_ret ?_
            refine then_r ?_
            refine ⟨.inr rfl, ?_⟩
            have hc : putC s p n d = 9 := by rw [hput, hme]; rfl
            unfold ISt.put
            rw [hc, if_neg (by decide)]
            have hs := hs.tail.mb'
            rw [he] at hs
            exact ⟨rfl, Sat.io' (hs.sel [2, 3, 4, 0, 5] 6)⟩
          · skip
            refine c_skip ?_
            refine inb_n ?_
            refine then_n ?_
            refine c_seq ?_
            -- region 11
            refine c_region ?_
            refine x_loadN [_, _] agg_35 _ rfl (by first | assumption | exact hs.cellsOf | exact (hs.pull 1).cellsOf | exact (hs.pull 2).cellsOf | exact (hs.pull 3).cellsOf | exact (hs.pull 4).cellsOf | exact (hs.pull 5).cellsOf | exact (hs.pull 6).cellsOf | exact (hs.pull 7).cellsOf | exact (hs.pull 8).cellsOf | exact hs.cells2 rfl rfl | exact (hs.pull 1).cells2 rfl rfl | exact (hs.pull 2).cells2 rfl rfl | exact (hs.pull 3).cells2 rfl rfl | exact (hs.pull 4).cells2 rfl rfl | exact (hs.pull 5).cells2 rfl rfl | exact (hs.pull 6).cells2 rfl rfl | exact (hs.pull 7).cells2 rfl rfl | exact (hs.pull 8).cells2 rfl rfl) ?_
            refine x_move (.int _ _) rfl ?_
            refine x_build _ [(0, (.agg #[(.int .u16 _), (.int .u32 _)])), (1, (.int .u64 _))] rfl (fun w => bd_72_0_1 _ _ _ w) ?_
            refine x_alloc zi_72 hs ?_; clear hs; intro b9 w hs; refine ⟨fun h => (by first | (cases h; done) | (first | exact hs.cells2 rfl rfl | exact (hs.pull 1).cells2 rfl rfl | exact (hs.pull 2).cells2 rfl rfl | exact (hs.pull 3).cells2 rfl rfl | exact (hs.pull 4).cells2 rfl rfl | exact (hs.pull 5).cells2 rfl rfl | exact (hs.pull 6).cells2 rfl rfl | exact (hs.pull 7).cells2 rfl rfl | exact (hs.pull 8).cells2 rfl rfl | exact hs.cell rfl | exact (hs.pull 1).cell rfl | exact (hs.pull 2).cell rfl | exact (hs.pull 3).cell rfl | exact (hs.pull 4).cell rfl | exact (hs.pull 5).cell rfl | exact (hs.pull 6).cell rfl | exact (hs.pull 7).cell rfl | exact (hs.pull 8).cell rfl | assumption | exact hs.cellsOf | exact (hs.pull 1).cellsOf | exact (hs.pull 2).cellsOf | exact (hs.pull 3).cellsOf | exact (hs.pull 4).cellsOf | exact (hs.pull 5).cellsOf | exact (hs.pull 6).cellsOf | exact (hs.pull 7).cellsOf | exact (hs.pull 8).cellsOf) | (and_intros <;> first | exact hs.cells2 rfl rfl | exact (hs.pull 1).cells2 rfl rfl | exact (hs.pull 2).cells2 rfl rfl | exact (hs.pull 3).cells2 rfl rfl | exact (hs.pull 4).cells2 rfl rfl | exact (hs.pull 5).cells2 rfl rfl | exact (hs.pull 6).cells2 rfl rfl | exact (hs.pull 7).cells2 rfl rfl | exact (hs.pull 8).cells2 rfl rfl | exact hs.cell rfl | exact (hs.pull 1).cell rfl | exact (hs.pull 2).cell rfl | exact (hs.pull 3).cell rfl | exact (hs.pull 4).cell rfl | exact (hs.pull 5).cell rfl | exact (hs.pull 6).cell rfl | exact (hs.pull 7).cell rfl | exact (hs.pull 8).cell rfl | assumption | exact hs.cellsOf | exact (hs.pull 1).cellsOf | exact (hs.pull 2).cellsOf | exact (hs.pull 3).cellsOf | exact (hs.pull 4).cellsOf | exact (hs.pull 5).cellsOf | exact (hs.pull 6).cellsOf | exact (hs.pull 7).cellsOf | exact (hs.pull 8).cellsOf)), ?_⟩
            first
              | refine x_storeAllI hs 0 rfl rfl agg_72 [_, _, _] rfl rfl rfl rfl ?_
              | refine x_storeAllI hs 1 rfl rfl agg_72 [_, _, _] rfl rfl rfl rfl ?_
              | refine x_storeAllI hs 2 rfl rfl agg_72 [_, _, _] rfl rfl rfl rfl ?_
              | refine x_storeAllI hs 3 rfl rfl agg_72 [_, _, _] rfl rfl rfl rfl ?_
              | refine x_storeAllI hs 4 rfl rfl agg_72 [_, _, _] rfl rfl rfl rfl ?_
              | refine x_storeAllI hs 5 rfl rfl agg_72 [_, _, _] rfl rfl rfl rfl ?_
              | refine x_storeAllI hs 6 rfl rfl agg_72 [_, _, _] rfl rfl rfl rfl ?_
              | refine x_storeAllI hs 7 rfl rfl agg_72 [_, _, _] rfl rfl rfl rfl ?_
            clear hs; intro w hs
            try dsimp only [back, List.set_cons_zero, List.set_cons_succ] at hs
            refine ⟨fun h => (by first | (cases h; done) | (first | exact hs.cells2 rfl rfl | exact (hs.pull 1).cells2 rfl rfl | exact (hs.pull 2).cells2 rfl rfl | exact (hs.pull 3).cells2 rfl rfl | exact (hs.pull 4).cells2 rfl rfl | exact (hs.pull 5).cells2 rfl rfl | exact (hs.pull 6).cells2 rfl rfl | exact (hs.pull 7).cells2 rfl rfl | exact (hs.pull 8).cells2 rfl rfl | exact hs.cell rfl | exact (hs.pull 1).cell rfl | exact (hs.pull 2).cell rfl | exact (hs.pull 3).cell rfl | exact (hs.pull 4).cell rfl | exact (hs.pull 5).cell rfl | exact (hs.pull 6).cell rfl | exact (hs.pull 7).cell rfl | exact (hs.pull 8).cell rfl | assumption | exact hs.cellsOf | exact (hs.pull 1).cellsOf | exact (hs.pull 2).cellsOf | exact (hs.pull 3).cellsOf | exact (hs.pull 4).cellsOf | exact (hs.pull 5).cellsOf | exact (hs.pull 6).cellsOf | exact (hs.pull 7).cellsOf | exact (hs.pull 8).cellsOf) | (and_intros <;> first | exact hs.cells2 rfl rfl | exact (hs.pull 1).cells2 rfl rfl | exact (hs.pull 2).cells2 rfl rfl | exact (hs.pull 3).cells2 rfl rfl | exact (hs.pull 4).cells2 rfl rfl | exact (hs.pull 5).cells2 rfl rfl | exact (hs.pull 6).cells2 rfl rfl | exact (hs.pull 7).cells2 rfl rfl | exact (hs.pull 8).cells2 rfl rfl | exact hs.cell rfl | exact (hs.pull 1).cell rfl | exact (hs.pull 2).cell rfl | exact (hs.pull 3).cell rfl | exact (hs.pull 4).cell rfl | exact (hs.pull 5).cell rfl | exact (hs.pull 6).cell rfl | exact (hs.pull 7).cell rfl | exact (hs.pull 8).cell rfl | assumption | exact hs.cellsOf | exact (hs.pull 1).cellsOf | exact (hs.pull 2).cellsOf | exact (hs.pull 3).cellsOf | exact (hs.pull 4).cellsOf | exact (hs.pull 5).cellsOf | exact (hs.pull 6).cellsOf | exact (hs.pull 7).cellsOf | exact (hs.pull 8).cellsOf)), ?_⟩
            refine x_nil ?_
            refine then_n ?_
            refine c_seq ?_
            refine c_seq ?_
            -- region 12 DRAWS
            refine c_draw (fun w => SameL hs w) (fun i => !(false)) [(0, 2), (1, 2), (2, 2), (3, 1), (4, 1), (5, 1), (6, 2), (7, 2), (8, 2), (9, 2), (10, 2)] (by kernel_rfl) (by kernel_rfl) (by kernel_rfl) (by kernel_rfl) (hs.drew) ?_
            replace hs := hs.drew
            refine x_move (.pointer _) rfl ?_
            refine x_nilCheck _ rfl ?_
            first | refine x_field0 fa_69_3 _ rfl ?_ | refine x_field fa_69_3 _ _ rfl ?_
            refine h_load one_67 _ (.map _) rfl (fun w hS => by first | exact hS.cell rfl | exact (hS.pull 1).cell rfl | exact (hS.pull 2).cell rfl | exact (hS.pull 3).cell rfl | exact (hS.pull 4).cell rfl | exact (hS.pull 5).cell rfl | exact (hS.pull 6).cell rfl | exact hS | exact hS.1 | exact hS.2 | exact hS.2.1 | exact hS.2.2 | exact hS.2.2.1 | exact hS.2.2.2 | exact hS.2.2.2.1 | exact hS.2.2.2.2) ?_
            refine h_loadN [_, _, _] agg_72 _ rfl (fun w hS => by first | exact hS | exact hS.1 | exact hS.2 | exact hS.2.1 | exact hS.2.2 | exact hS.2.2.1 | exact hS.2.2.2 | exact hS.2.2.2.1 | exact hS.2.2.2.2 | exact hS.cellsOf | exact (hS.pull 1).cellsOf | exact (hS.pull 2).cellsOf | exact (hS.pull 3).cellsOf | exact (hS.pull 4).cellsOf | exact (hS.pull 5).cellsOf | exact (hS.pull 6).cellsOf | exact hS.cells2 rfl rfl | exact (hS.pull 1).cells2 rfl rfl | exact (hS.pull 2).cells2 rfl rfl | exact (hS.pull 3).cells2 rfl rfl | exact (hS.pull 4).cells2 rfl rfl | exact (hS.pull 5).cells2 rfl rfl | exact (hS.pull 6).cells2 rfl rfl) ?_
            refine h_lookup2F mt_ws ko_key (p, n) (fun w hS => ⟨_, _, hS.pull 1⟩) rfl rfl hmv ?_
            refine x_move (.tuple _) rfl ?_
            refine x_extract _ (.slice _ _ _) rfl rfl ?_
            refine x_extract _ (.bool _) rfl rfl ?_
            refine x_assign (.slice _ _ _) rfl ?_
            refine x_assign (.bool _) rfl ?_
            refine x_nil ?_
            refine then_n ?_
            refine c_seq ?_
            -- region 13
            refine c_region ?_
            refine x_move (.bool _) rfl ?_
            refine x_nil ?_
            refine then_n ?_
            refine c_false rfl ?_
            refine c_skip ?_
            refine then_n ?_
            refine c_seq ?_
            -- region 15 DRAWS
            refine c_draw (fun w => w.cell? ⟨f, 3, none⟩ = some (.map (some M2)) ∧ (∀ (j : Nat) (u : Value), [Value.int .u16 (p.Id : Nat), Value.int .u32 (p.Inc : Nat), .int .u64 (n : Nat)][j]? = some u → w.cell? ((⟨b9, 0, none⟩ : Addr).add j) = some u)) (fun i => !(Nat.beq i 7)) [(0, 2), (1, 2), (2, 2), (3, 1), (4, 1), (5, 2), (6, 0), (7, 0)] (by kernel_rfl) (by kernel_rfl) (by kernel_rfl) (by kernel_rfl) ((by first | (first | exact hs.cells2 rfl rfl | exact (hs.pull 1).cells2 rfl rfl | exact (hs.pull 2).cells2 rfl rfl | exact (hs.pull 3).cells2 rfl rfl | exact (hs.pull 4).cells2 rfl rfl | exact (hs.pull 5).cells2 rfl rfl | exact (hs.pull 6).cells2 rfl rfl | exact (hs.pull 7).cells2 rfl rfl | exact (hs.pull 8).cells2 rfl rfl | exact hs.cell rfl | exact (hs.pull 1).cell rfl | exact (hs.pull 2).cell rfl | exact (hs.pull 3).cell rfl | exact (hs.pull 4).cell rfl | exact (hs.pull 5).cell rfl | exact (hs.pull 6).cell rfl | exact (hs.pull 7).cell rfl | exact (hs.pull 8).cell rfl | assumption | exact hs.cellsOf | exact (hs.pull 1).cellsOf | exact (hs.pull 2).cellsOf | exact (hs.pull 3).cellsOf | exact (hs.pull 4).cellsOf | exact (hs.pull 5).cellsOf | exact (hs.pull 6).cellsOf | exact (hs.pull 7).cellsOf | exact (hs.pull 8).cellsOf) | (and_intros <;> first | exact hs.cells2 rfl rfl | exact (hs.pull 1).cells2 rfl rfl | exact (hs.pull 2).cells2 rfl rfl | exact (hs.pull 3).cells2 rfl rfl | exact (hs.pull 4).cells2 rfl rfl | exact (hs.pull 5).cells2 rfl rfl | exact (hs.pull 6).cells2 rfl rfl | exact (hs.pull 7).cells2 rfl rfl | exact (hs.pull 8).cells2 rfl rfl | exact hs.cell rfl | exact (hs.pull 1).cell rfl | exact (hs.pull 2).cell rfl | exact (hs.pull 3).cell rfl | exact (hs.pull 4).cell rfl | exact (hs.pull 5).cell rfl | exact (hs.pull 6).cell rfl | exact (hs.pull 7).cell rfl | exact (hs.pull 8).cell rfl | assumption | exact hs.cellsOf | exact (hs.pull 1).cellsOf | exact (hs.pull 2).cellsOf | exact (hs.pull 3).cellsOf | exact (hs.pull 4).cellsOf | exact (hs.pull 5).cellsOf | exact (hs.pull 6).cellsOf | exact (hs.pull 7).cellsOf | exact (hs.pull 8).cellsOf))) ?_
            replace hs := hs.drew
            refine x_move (.pointer _) rfl ?_
            refine x_nilCheck _ rfl ?_
            first | refine x_field0 fa_69_3 _ rfl ?_ | refine x_field fa_69_3 _ _ rfl ?_
            refine h_load one_67 _ (.map _) rfl (fun w hS => by first | exact hS.cell rfl | exact (hS.pull 1).cell rfl | exact (hS.pull 2).cell rfl | exact (hS.pull 3).cell rfl | exact (hS.pull 4).cell rfl | exact (hS.pull 5).cell rfl | exact (hS.pull 6).cell rfl | exact hS | exact hS.1 | exact hS.2 | exact hS.2.1 | exact hS.2.2 | exact hS.2.2.1 | exact hS.2.2.2 | exact hS.2.2.2.1 | exact hS.2.2.2.2) ?_
            refine h_loadN [_, _, _] agg_72 _ rfl (fun w hS => by first | exact hS | exact hS.1 | exact hS.2 | exact hS.2.1 | exact hS.2.2 | exact hS.2.2.1 | exact hS.2.2.2 | exact hS.2.2.2.1 | exact hS.2.2.2.2 | exact hS.cellsOf | exact (hS.pull 1).cellsOf | exact (hS.pull 2).cellsOf | exact (hS.pull 3).cellsOf | exact (hS.pull 4).cellsOf | exact (hS.pull 5).cellsOf | exact (hS.pull 6).cellsOf | exact hS.cells2 rfl rfl | exact (hS.pull 1).cells2 rfl rfl | exact (hS.pull 2).cells2 rfl rfl | exact (hS.pull 3).cells2 rfl rfl | exact (hS.pull 4).cells2 rfl rfl | exact (hS.pull 5).cells2 rfl rfl | exact (hS.pull 6).cells2 rfl rfl) ?_
            refine x_move (.slice _ _ _) rfl ?_
            refine x_call Try.f28 Try.func28 rfl rfl _ rfl ?_
            refine ((clone_calls hs (hd _ _ (hs.pull 7)) (by omega))).mono ?_
            clear hs; rintro e w ⟨v6, rfl, hs⟩
            refine ⟨_, rfl, fun h => (by first | (cases h; done) | (first | exact hs.cells2 rfl rfl | exact (hs.pull 1).cells2 rfl rfl | exact (hs.pull 2).cells2 rfl rfl | exact (hs.pull 3).cells2 rfl rfl | exact (hs.pull 4).cells2 rfl rfl | exact (hs.pull 5).cells2 rfl rfl | exact (hs.pull 6).cells2 rfl rfl | exact (hs.pull 7).cells2 rfl rfl | exact (hs.pull 8).cells2 rfl rfl | exact hs.cell rfl | exact (hs.pull 1).cell rfl | exact (hs.pull 2).cell rfl | exact (hs.pull 3).cell rfl | exact (hs.pull 4).cell rfl | exact (hs.pull 5).cell rfl | exact (hs.pull 6).cell rfl | exact (hs.pull 7).cell rfl | exact (hs.pull 8).cell rfl | assumption | exact hs.cellsOf | exact (hs.pull 1).cellsOf | exact (hs.pull 2).cellsOf | exact (hs.pull 3).cellsOf | exact (hs.pull 4).cellsOf | exact (hs.pull 5).cellsOf | exact (hs.pull 6).cellsOf | exact (hs.pull 7).cellsOf | exact (hs.pull 8).cellsOf) | (and_intros <;> first | exact hs.cells2 rfl rfl | exact (hs.pull 1).cells2 rfl rfl | exact (hs.pull 2).cells2 rfl rfl | exact (hs.pull 3).cells2 rfl rfl | exact (hs.pull 4).cells2 rfl rfl | exact (hs.pull 5).cells2 rfl rfl | exact (hs.pull 6).cells2 rfl rfl | exact (hs.pull 7).cells2 rfl rfl | exact (hs.pull 8).cells2 rfl rfl | exact hs.cell rfl | exact (hs.pull 1).cell rfl | exact (hs.pull 2).cell rfl | exact (hs.pull 3).cell rfl | exact (hs.pull 4).cell rfl | exact (hs.pull 5).cell rfl | exact (hs.pull 6).cell rfl | exact (hs.pull 7).cell rfl | exact (hs.pull 8).cell rfl | assumption | exact hs.cellsOf | exact (hs.pull 1).cellsOf | exact (hs.pull 2).cellsOf | exact (hs.pull 3).cellsOf | exact (hs.pull 4).cellsOf | exact (hs.pull 5).cellsOf | exact (hs.pull 6).cellsOf | exact (hs.pull 7).cellsOf | exact (hs.pull 8).cellsOf)), ?_⟩
            obtain ⟨a6, c6, rfl⟩ := hs.rd.val
            refine x_update mt_ws ko_key (hs.pull 2) (p, n) (.slice a6 d.length c6) rfl rfl rfl ?_
            clear hs; intro w hs; refine ⟨fun h => (by cases h), ?_⟩
            rw [mset_new hmv] at hs
            replace hs := Sat.eeSnoc (k := ((p, n) : Key)) (hs.perm [3, 1, 0, 2, 4, 5, 6, 7, 8])
            refine x_nil ?_
            refine then_n ?_
            refine c_seq ?_
            -- region 16
            refine c_region ?_
            refine x_assign (.int _ _) rfl ?_
            refine x_nil ?_
            refine then_n ?_
            refine c_ret ?_
            refine ⟨.inr rfl, ?_⟩
            have hc : putC s p n d = 0 := by rw [hput, hme]; rfl
            unfold ISt.put
            rw [hc, if_pos rfl]
            have h1 : (e.map fun p => (p.1, p.2.1)) ++ [((p, n), Value.slice a6 d.length c6)] = (e ++ [((p, n), Value.slice a6 d.length c6, d)]).map fun p => (p.1, p.2.1) := by simp
            rw [h1] at hs
            have hs := (hs.pull 1).mb'
            rw [List.map_append, he] at hs
            exact ⟨rfl, Sat.io' (s := { s with ws := s.ws ++ [((p, n), d)] }) (hs.sel [3, 4, 5, 0, 6] 7)⟩
end Go.Proofs.Ytiffpkbkmpianaa.X
