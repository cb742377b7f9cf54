/-
  LAYER 11: the law WindowBound.
-/
import Derived.Test.YtphakfggocdphaaW3
import Derived.Test.YtphakfggocdphaaNum
namespace Go.Proofs.Ytphakfggocdphaa.X
open Go Go.RowKit
set_option linter.unusedVariables false
set_option maxRecDepth 20000
theorem ack_base {s : SSt} {u : Nat} (h : u < s.base + s.wait.length) (hb : 1 ≤ s.base) : (((s.ack u).2.base - 1 : Nat) : Int) = if (u : Int) > ((s.base - 1 : Nat) : Int) then (u : Int) else ((s.base - 1 : Nat) : Int) := by
  unfold SSt.ack
  by_cases h1 : u < s.base
  · rw [if_pos (.inl h1), if_neg (by omega)]
  · rw [if_neg (by omega), if_pos (by omega)]
    dsimp only
    omega
theorem put_base (s : SSt) (b : List UInt8) : (s.put b).2.base = s.base := by
  unfold SSt.put
  split
  · rfl
  · split <;> rfl
theorem ack_not {s : SSt} {u : Nat} (h : ¬ u < s.base + s.wait.length) : s.ack u = (0, s) := by
  unfold SSt.ack
  rw [if_pos (.inr (by omega))]
set_option maxHeartbeats 8000000 in
theorem walk_WindowBound {H : Type} {enc : TypeId × Value → H} {w0 : World} {a0 : Option Addr} {l0 c0 : Nat} (h0 : TR enc Try.prog w0 61 [.slice a0 l0 c0]) :
    Calls Try.prog 9 #[.slice a0 l0 c0] w0 fun e w' => e = .returned (.bool true) ∧ Below w0.heap.size w0 w' := by
  obtain ⟨acts, rfl, hrd, hlen, hfa⟩ := TR.arg (k := 4) Try.underlying61 (by kernel_rfl) (by decide) (fun r hr => TR.Act hr) h0
  refine law_of fun w hs => ?_
  have hin : ∀ w' L', Sat w0 w' (Init w0 :: L') → RS w' 4 Act.cells (.slice a0 acts.length c0) acts := fun w' L' h => hrd.below h.init
  have hfin : ∀ w' L', Sat w0 w' (Init w0 :: L') → ∀ x ∈ acts, x.fine w' := fun w' L' h x hx => (hfa x hx).below h.init
  refine enter Try.func9 rfl Try.ntmps9 2 rfl (Nat.le_of_ble_eq_true rfl) ?_
  refine c_seq ?_
  -- region 0
  refine c_region ?_
  refine x_assign (.bool _) rfl ?_
  refine x_nil ?_
  refine then_n ?_
  refine c_seq ?_
  refine c_seq ?_
  -- region 1
  refine c_region ?_
  refine x_move (.slice _ _ _) rfl ?_
  refine x_call Try.f29 Try.func29 rfl rfl _ rfl ?_
  refine (great_calls hs (hin _ _ hs) (hfin _ _ hs) (by omega)).mono ?_
  clear hs; rintro e w ⟨r, rfl, hs, hw, hg⟩
  refine ⟨_, rfl, fun h => (by cases h), ?_⟩
  refine x_nil ?_
  refine then_n ?_
  refine c_cond rfl (fun hb => ?_) (fun hb => ?_)   -- cond t11
  · skip
    refine c_seq ?_
    -- region 2
    refine c_region ?_
    refine x_call Try.f26 Try.func26 rfl rfl _ rfl ?_
    refine (awake11_calls hs).mono ?_
    clear hs; rintro e w ⟨rfl, hs⟩
    refine ⟨_, rfl, fun h => (by cases h), ?_⟩
    refine x_assign (.bool _) rfl ?_
    refine x_nil ?_
    refine then_n ?_
    refine c_ret ?_
    refine then_r ?_
    refine ⟨.inr rfl, ?_⟩
    exact ⟨rfl, hs⟩
  · skip
    refine c_skip ?_
    refine then_n ?_
    refine c_seq ?_
    -- region 3
    refine c_region ?_
    refine x_call Try.f27 Try.func27 rfl rfl _ rfl ?_
    refine (snew_calls hs).mono ?_
    clear hs; rintro e w ⟨S, rfl, hs⟩
    refine ⟨_, rfl, fun h => (by cases h), ?_⟩
    refine x_assign (.pointer _) rfl ?_
    refine x_nil ?_
    refine then_n ?_
    refine c_seq ?_
    -- region 4
    refine c_region ?_
    refine x_assign (.int _ _) rfl ?_
    refine x_nil ?_
    refine then_n ?_
    refine c_seq ?_
    refine c_seq ?_
    -- region 5
    refine c_region ?_
    refine x_assign (.int _ _) rfl ?_
    refine x_nil ?_
    refine then_n ?_
    refine c_block ?_
    refine c_loop (γ := Nat × SSt × Nat) (fun (⟨i, s, arr⟩ : Nat × SSt × Nat) => [(0, .slice a0 acts.length c0), (3, .pointer (some ⟨S, 0, none⟩)), (4, .int .u64 (arr : Nat)), (5, .int .i64 (i : Nat))]) (fun (⟨i, s, arr⟩ : Nat × SSt × Nat) w => i ≤ 60 ∧ arr + 1 = s.base ∧ s.inv (40 * i) (16 * i) ∧ Sat w0 w (SObj S s :: [Init w0])) (fun (⟨i, s, arr⟩ : Nat × SSt × Nat) => 60 - i) (0, SSt.new, 0) ⟨rfl, rfl, rfl, rfl, trivial⟩ ⟨Nat.zero_le _, rfl, SSt.new_inv, hs⟩ ?_
    clear hs
    rintro ⟨i, s, arr⟩ ρ w ⟨hi, harr, hinv, hs⟩
    change CW Try.prog 117 _ _ (sets 117 [(0, .slice a0 acts.length c0), (3, .pointer (some ⟨S, 0, none⟩)), (4, .int .u64 (arr : Nat)), (5, .int .i64 (i : Nat))] ρ) w
    by_cases h1 : i < acts.length
    by_cases h2 : i < 60
    · skip
      refine c_seq ?_
      refine c_seq ?_
      -- region 6
      refine c_region ?_
      refine x_move (.int _ _) rfl ?_
      refine x_move (.slice _ _ _) rfl ?_
      refine x_lenSl Try.underlying61 _ _ _ rfl ?_
      refine x_lssT _ _ rfl rfl (by omega) ?_
      refine x_move (.bool _) rfl ?_
      refine x_want' rfl ?_
      refine x_move (.int _ _) rfl ?_
      refine x_want' rfl ?_
      refine x_lssT _ _ rfl rfl (by omega) ?_
      refine x_pickT (.bool _) rfl rfl ?_
      refine x_nil ?_
      refine then_n ?_
      refine c_true rfl ?_
      refine c_skip ?_
      refine then_n ?_
      refine c_seq ?_
      refine c_block ?_
      refine c_seq ?_
      -- region 8
      obtain ⟨x, hx⟩ : ∃ x, acts[i]? = some x := ⟨acts[i]'h1, List.getElem?_eq_getElem _⟩
      have hR := hin _ _ (hs.pull 1)
      have hfx := hfa x (List.mem_of_getElem? hx)
      have hB5 := hg hb i x h2 hx
      obtain ⟨g, og, rfl⟩ := hR.addr (by omega)
      obtain ⟨Kind, N, ⟨vB, B⟩, Upto⟩ := x
      obtain ⟨a2, c2, rfl⟩ : ∃ a c, vB = .slice a B.length c := hfx.B.1.val
      have hU := hfx.Upto
      have hrB : ∀ w' L', Sat w0 w' (Init w0 :: L') → RB w' (.slice a2 B.length c2) B := fun w' L' h => RD.below hfx.B.1 h.init
      have hcells := hR.all (fun a => a.cells_len) hx
      dsimp only at hU hB5
      have ok := hinv.ok (by omega) (by omega)
      have hbase1 := hinv.base1
      have hputs := hinv.puts
      have hwl := hinv.len
      have htold := hinv.told
      refine c_region ?_
      refine x_move (.slice _ _ _) rfl ?_
      refine x_move (.int _ _) rfl ?_
      refine x_indexAddr Try.underlying61 sz_68 _ _ _ _ _ rfl rfl (by omega) ?_
      refine x_loadN [.int .i64 Kind, .int .i64 N, .slice a2 B.length c2, .int .u64 (Upto : Nat)] agg_68 _ rfl hcells ?_
      refine x_alloc zi_68 hs ?_; clear hs; intro b6 w hs; refine ⟨fun h => (by cases h), ?_⟩
      refine x_storeAll hs agg_68 [.int .i64 Kind, .int .i64 N, .slice a2 B.length c2, .int .u64 (Upto : Nat)] rfl rfl rfl rfl rfl ?_
      clear hs hcells hR; intro w hs; refine ⟨fun h => (by cases h), ?_⟩
      refine x_nil ?_
      refine then_n ?_
      refine c_seqI (γ := SSt × Nat) (fun (⟨s', arr'⟩ : SSt × Nat) => [(0, .slice (some ⟨g, og, none⟩) acts.length c0), (3, .pointer (some ⟨S, 0, none⟩)), (4, .int .u64 (arr' : Nat)), (5, .int .i64 (i : Nat))]) (fun (⟨s', arr'⟩ : SSt × Nat) w => arr' + 1 = s'.base ∧ s'.inv (40 * i + 40) (16 * i + 16) ∧ Sat w0 w (SObj S s' :: [Init w0])) ?_ ?_
      · skip
        refine c_seq ?_
        -- region 9
        refine c_region ?_
        first | refine x_field0 fa_68_0 _ rfl ?_ | refine x_field fa_68_0 _ _ rfl ?_
        refine x_load one_3 _ (.int _ _) rfl (by first | exact hs.cell rfl | exact (hs.pull 1).cell rfl | exact (hs.pull 2).cell rfl | exact (hs.pull 3).cell rfl | assumption | exact (hs.pull 4).cell rfl | exact (hs.pull 5).cell rfl | exact (hs.pull 6).cell rfl | exact (hs.pull 7).cell rfl) ?_
        refine x_call Try.f21 Try.func21 rfl rfl _ rfl ?_
        refine (pick_calls hs _ _ (by decide)).mono ?_
        clear hs; rintro e w ⟨rfl, hs, -⟩
        refine ⟨_, rfl, fun h => (by cases h), ?_⟩
        generalize pk Kind 6 = kd
        refine x_nil ?_
        refine then_n ?_
        refine c_block ?_
        refine c_seq ?_
        -- region 14
        refine c_region ?_
        refine x_eql _ _ rfl rfl ?_
        refine x_assign (.bool _) rfl ?_
        refine x_nil ?_
        refine then_n ?_
        refine c_test _ rfl (fun hb => ?_) (fun hb => ?_)   -- cond t49
        · skip
          refine c_seq ?_
          -- region 15
          refine c_region ?_
          refine x_move (.pointer _) rfl ?_
          refine x_call Try.f22 Try.func22 rfl rfl _ rfl ?_
          refine (sdue_calls (hs.pull 1) ok).mono ?_
          clear hs; rintro e w ⟨v1, rfl, hs⟩
          have hs := hs.push 1
          refine ⟨_, rfl, fun h => (by cases h), ?_⟩
          obtain ⟨us, hs⟩ := (hs.pull 1).ir
          obtain ⟨a3, c3, rfl⟩ := hs.rd.val
          have hul := hs.tail.eachLen
          rw [List.length_map] at hul
          have hdl := due_len hinv (by omega) (by omega)
          obtain ⟨hq1, hq2⟩ := due_seq s
          refine x_assign (.slice _ _ _) rfl ?_
          refine x_nil ?_
          refine then_n ?_
          refine c_seq ?_
          -- region 16
          refine c_region ?_
          refine x_assign (.int _ _) rfl ?_
          refine x_nil ?_
          refine then_n ?_
          refine c_block ?_
          refine c_loop (γ := Nat) (fun (k : Nat) => [(0, .slice (some ⟨g, og, none⟩) acts.length c0), (3, .pointer (some ⟨S, 0, none⟩)), (4, .int .u64 (arr : Nat)), (5, .int .i64 (i : Nat)), (7, .slice a3 s.due.1.length c3), (8, .int .i64 (k : Nat))]) (fun (k : Nat) w => k ≤ s.due.1.length ∧ Sat w0 w (Row 56 2 (.slice a3 s.due.1.length c3) s.due.1.length (icells (s.due.1.map (·.1)) us) :: EachB us (s.due.1.map (·.2)) :: SObj S s.due.2 :: Blk b6 (.cells #[.int .i64 Kind, .int .i64 N, .slice a2 B.length c2, .int .u64 (Upto : Nat)] 68 (0, 0)) :: [Init w0])) (fun (k : Nat) => s.due.1.length - k) 0 ⟨rfl, rfl, rfl, rfl, rfl, rfl, trivial⟩ ⟨Nat.zero_le _, hs⟩ ?_
          clear hs
          rintro k ρ w ⟨hkl, hs⟩
          change CW Try.prog 117 _ _ (sets 117 [(0, .slice (some ⟨g, og, none⟩) acts.length c0), (3, .pointer (some ⟨S, 0, none⟩)), (4, .int .u64 (arr : Nat)), (5, .int .i64 (i : Nat)), (7, .slice a3 s.due.1.length c3), (8, .int .i64 (k : Nat))] ρ) w
          refine c_seq ?_
          refine c_seq ?_
          -- region 17
          refine c_region ?_
          refine x_move (.int _ _) rfl ?_
          refine x_move (.slice _ _ _) rfl ?_
          refine x_lenSl Try.underlying27 _ _ _ rfl ?_
          refine x_lss _ _ rfl rfl ?_
          refine x_nil ?_
          refine then_n ?_
          refine c_test _ rfl (fun hb => ?_) (fun hb => ?_)   -- cond t56
          · skip
            have hlt : k < s.due.1.length := by omega
            obtain ⟨p, hp⟩ : ∃ p, s.due.1[k]? = some p := ⟨s.due.1[k]'hlt, List.getElem?_eq_getElem _⟩
            obtain ⟨u, hu⟩ : ∃ u, us[k]? = some u := ⟨us[k]'(by omega), List.getElem?_eq_getElem _⟩
            obtain ⟨g3, o3, rfl⟩ := hs.rowAddr (by omega)
            have hpk := hq1 k p hp
            have hc1 : w.cell? ⟨g3, o3 + k * 2 + 0, none⟩ = some (.int .u64 (p.1 : Nat)) := hs.rowCell (icells_get _ us k _ _ (by rw [List.getElem?_map, hp]; rfl) hu).1
            by_cases hk0 : 0 < k
            obtain ⟨p', hp'⟩ : ∃ p', s.due.1[k - 1]? = some p' := ⟨s.due.1[k - 1]'(by omega), List.getElem?_eq_getElem _⟩
            obtain ⟨u', hu'⟩ : ∃ u, us[k - 1]? = some u := ⟨us[k - 1]'(by omega), List.getElem?_eq_getElem _⟩
            have hc2 : w.cell? ⟨g3, o3 + (k - 1) * 2 + 0, none⟩ = some (.int .u64 (p'.1 : Nat)) := hs.rowCell (icells_get _ us (k - 1) _ _ (by rw [List.getElem?_map, hp']; rfl) hu').1
            have hpp := hq2 (k - 1) p' p hp' (by rw [show k - 1 + 1 = k from by omega]; exact hp)
            · skip
              refine c_skip ?_
              refine then_n ?_
              refine c_seq ?_
              refine c_block ?_
              refine c_seq ?_
              -- region 19 DRAWS
              refine c_draw (fun w => w.cell? ⟨g3, o3 + k * 2 + 0, none⟩ = some (.int .u64 (p.1 : Nat)) ∧ w.cell? ⟨g3, o3 + (k - 1) * 2 + 0, none⟩ = some (.int .u64 (p'.1 : Nat))) (fun i => !(false)) [(0, 2), (1, 2), (2, 2), (3, 2), (4, 1), (5, 2), (6, 2), (7, 2), (8, 2), (9, 2), (10, 2), (11, 2), (12, 1), (13, 2), (14, 2), (15, 2), (16, 2), (17, 2), (18, 2), (19, 2), (20, 2), (21, 2), (22, 2), (23, 2), (24, 2), (25, 2), (26, 1), (27, 2), (28, 2), (29, 2), (30, 2), (31, 1), (32, 2), (33, 2), (34, 2)] (by kernel_rfl) (by kernel_rfl) (by kernel_rfl) (by kernel_rfl) (⟨hc1, hc2⟩) ?_
              replace hs := hs.drew
              refine x_move (.slice _ _ _) rfl ?_
              refine x_move (.int _ _) rfl ?_
              refine x_indexAddr Try.underlying27 sz_56 _ _ _ _ _ rfl rfl (by omega) ?_
              first | refine x_field0 fa_56_0 _ rfl ?_ | refine x_field fa_56_0 _ _ rfl ?_
              refine h_load one_26 _ (.int _ _) rfl (fun w hS => by first | exact hS.cell rfl | exact (hS.pull 1).cell rfl | exact (hS.pull 2).cell rfl | exact (hS.pull 3).cell rfl | exact hS | exact hS.1 | exact hS.2 | exact hS.2.1 | exact hS.2.2 | exact hS.2.2.1 | exact hS.2.2.2 | exact hS.2.2.2.1 | exact hS.2.2.2.2) ?_
              refine x_move (.int _ _) rfl ?_
              refine x_leqF _ _ rfl rfl (by omega) ?_
              refine x_move (.bool _) rfl ?_
              refine x_want' rfl ?_
              refine x_move (.slice _ _ _) rfl ?_
              refine x_want' rfl ?_
              refine x_move (.int _ _) rfl ?_
              refine x_want' rfl ?_
              refine x_indexAddr Try.underlying27 sz_56 _ _ _ _ _ rfl rfl (by omega) ?_
              refine x_want' rfl ?_
              first | refine x_field0 fa_56_0 _ rfl ?_ | refine x_field fa_56_0 _ _ rfl ?_
              refine x_want' rfl ?_
              refine h_load one_26 _ (.int _ _) rfl (fun w hS => by first | exact hS.cell rfl | exact (hS.pull 1).cell rfl | exact (hS.pull 2).cell rfl | exact (hS.pull 3).cell rfl | exact hS | exact hS.1 | exact hS.2 | exact hS.2.1 | exact hS.2.2 | exact hS.2.2.1 | exact hS.2.2.2 | exact hS.2.2.2.1 | exact hS.2.2.2.2) ?_
              refine x_want' rfl ?_
              refine x_move (.int _ _) rfl ?_
              refine x_want' rfl ?_
              refine x_add _ _ rfl rfl (by simp only [X.lo]; omega) (by simp only [X.hi]; omega) ?_
              refine x_want' rfl ?_
              refine x_gtrF _ _ rfl rfl (by omega) ?_
              refine x_pickF (.bool _) rfl rfl ?_
              refine x_move (.bool _) rfl ?_
              refine x_want' rfl ?_
              refine x_move (.int _ _) rfl ?_
              refine x_want' rfl ?_
              refine x_gtrT _ _ rfl rfl (by omega) ?_
              refine x_want' rfl ?_
              refine x_move (.bool _) rfl ?_
              refine x_want' rfl ?_
              refine x_move (.slice _ _ _) rfl ?_
              refine x_want' rfl ?_
              refine x_move (.int _ _) rfl ?_
              refine x_want' rfl ?_
              refine x_subN _ 1 rfl rfl (by omega) (by simp only [X.hi]; omega) ?_
              refine x_want' rfl ?_
              refine x_indexAddr Try.underlying27 sz_56 _ _ _ _ _ rfl rfl (by omega) ?_
              refine x_want' rfl ?_
              first | refine x_field0 fa_56_0 _ rfl ?_ | refine x_field fa_56_0 _ _ rfl ?_
              refine x_want' rfl ?_
              refine h_load one_26 _ (.int _ _) rfl (fun w hS => by first | exact hS.cell rfl | exact (hS.pull 1).cell rfl | exact (hS.pull 2).cell rfl | exact (hS.pull 3).cell rfl | exact hS | exact hS.1 | exact hS.2 | exact hS.2.1 | exact hS.2.2 | exact hS.2.2.1 | exact hS.2.2.2 | exact hS.2.2.2.1 | exact hS.2.2.2.2) ?_
              refine x_want' rfl ?_
              refine x_move (.slice _ _ _) rfl ?_
              refine x_want' rfl ?_
              refine x_move (.int _ _) rfl ?_
              refine x_want' rfl ?_
              refine x_indexAddr Try.underlying27 sz_56 _ _ _ _ _ rfl rfl (by omega) ?_
              refine x_want' rfl ?_
              first | refine x_field0 fa_56_0 _ rfl ?_ | refine x_field fa_56_0 _ _ rfl ?_
              refine x_want' rfl ?_
              refine h_load one_26 _ (.int _ _) rfl (fun w hS => by first | exact hS.cell rfl | exact (hS.pull 1).cell rfl | exact (hS.pull 2).cell rfl | exact (hS.pull 3).cell rfl | exact hS | exact hS.1 | exact hS.2 | exact hS.2.1 | exact hS.2.2 | exact hS.2.2.1 | exact hS.2.2.2 | exact hS.2.2.2.1 | exact hS.2.2.2.2) ?_
              refine x_want' rfl ?_
              refine x_geqF _ _ rfl rfl (by omega) ?_
              refine x_want' rfl ?_
              refine x_pickT (.bool _) rfl rfl ?_
              refine x_pickF (.bool _) rfl rfl ?_
              refine x_nil ?_
              refine then_n ?_
              refine c_false rfl ?_
              refine c_skip ?_
              refine inb_n ?_
              refine then_n ?_
              -- region 18
              refine c_region ?_
              refine x_move (.int _ _) rfl ?_
              refine x_add _ _ rfl rfl (by simp only [X.lo]; omega) (by simp only [X.hi]; omega) ?_
              refine x_assign (.int _ _) rfl ?_
              refine x_nil ?_
              refine then_n ?_
              refine ⟨k + 1, ⟨rfl, rfl, rfl, rfl, rfl, rfl, trivial⟩, ⟨by omega, hs⟩, by first | omega | (dsimp only; omega)⟩
            · skip
              refine c_skip ?_
              refine then_n ?_
              refine c_seq ?_
              refine c_block ?_
              refine c_seq ?_
              -- region 19 DRAWS
              refine c_draw (fun w => w.cell? ⟨g3, o3 + k * 2 + 0, none⟩ = some (.int .u64 (p.1 : Nat))) (fun i => !(false)) [(0, 2), (1, 2), (2, 2), (3, 2), (4, 1), (5, 2), (6, 2), (7, 2), (8, 2), (9, 2), (10, 2), (11, 2), (12, 1), (13, 2), (14, 2), (15, 2), (16, 2), (17, 2), (18, 2), (19, 2), (20, 2), (21, 2), (22, 2), (23, 2), (24, 2), (25, 2), (26, 1), (27, 2), (28, 2), (29, 2), (30, 2), (31, 1), (32, 2), (33, 2), (34, 2)] (by kernel_rfl) (by kernel_rfl) (by kernel_rfl) (by kernel_rfl) (hc1) ?_
              replace hs := hs.drew
              refine x_move (.slice _ _ _) rfl ?_
              refine x_move (.int _ _) rfl ?_
              refine x_indexAddr Try.underlying27 sz_56 _ _ _ _ _ rfl rfl (by omega) ?_
              first | refine x_field0 fa_56_0 _ rfl ?_ | refine x_field fa_56_0 _ _ rfl ?_
              refine h_load one_26 _ (.int _ _) rfl (fun w hS => by first | exact hS.cell rfl | exact (hS.pull 1).cell rfl | exact (hS.pull 2).cell rfl | exact (hS.pull 3).cell rfl | exact hS | exact hS.1 | exact hS.2 | exact hS.2.1 | exact hS.2.2 | exact hS.2.2.1 | exact hS.2.2.2 | exact hS.2.2.2.1 | exact hS.2.2.2.2) ?_
              refine x_move (.int _ _) rfl ?_
              refine x_leqF _ _ rfl rfl (by omega) ?_
              refine x_move (.bool _) rfl ?_
              refine x_want' rfl ?_
              refine x_move (.slice _ _ _) rfl ?_
              refine x_want' rfl ?_
              refine x_move (.int _ _) rfl ?_
              refine x_want' rfl ?_
              refine x_indexAddr Try.underlying27 sz_56 _ _ _ _ _ rfl rfl (by omega) ?_
              refine x_want' rfl ?_
              first | refine x_field0 fa_56_0 _ rfl ?_ | refine x_field fa_56_0 _ _ rfl ?_
              refine x_want' rfl ?_
              refine h_load one_26 _ (.int _ _) rfl (fun w hS => by first | exact hS.cell rfl | exact (hS.pull 1).cell rfl | exact (hS.pull 2).cell rfl | exact (hS.pull 3).cell rfl | exact hS | exact hS.1 | exact hS.2 | exact hS.2.1 | exact hS.2.2 | exact hS.2.2.1 | exact hS.2.2.2 | exact hS.2.2.2.1 | exact hS.2.2.2.2) ?_
              refine x_want' rfl ?_
              refine x_move (.int _ _) rfl ?_
              refine x_want' rfl ?_
              refine x_add _ _ rfl rfl (by simp only [X.lo]; omega) (by simp only [X.hi]; omega) ?_
              refine x_want' rfl ?_
              refine x_gtrF _ _ rfl rfl (by omega) ?_
              refine x_pickF (.bool _) rfl rfl ?_
              refine x_move (.bool _) rfl ?_
              refine x_want' rfl ?_
              refine x_move (.int _ _) rfl ?_
              refine x_want' rfl ?_
              refine x_gtrF _ _ rfl rfl (by omega) ?_
              refine x_want' rfl ?_
              refine x_move (.bool _) rfl ?_
              refine x_skip rfl rfl ?_
              refine x_skip rfl rfl ?_
              refine x_skip rfl rfl ?_
              refine x_skip rfl rfl ?_
              refine x_skip rfl rfl ?_
              refine x_skip rfl rfl ?_
              refine x_skip rfl rfl ?_
              refine x_skip rfl rfl ?_
              refine x_skip rfl rfl ?_
              refine x_skip rfl rfl ?_
              refine x_skip rfl rfl ?_
              refine x_skip rfl rfl ?_
              refine x_want' rfl ?_
              refine x_pickF (.bool _) rfl rfl ?_
              refine x_pickF (.bool _) rfl rfl ?_
              refine x_nil ?_
              refine then_n ?_
              refine c_false rfl ?_
              refine c_skip ?_
              refine inb_n ?_
              refine then_n ?_
              -- region 18
              refine c_region ?_
              refine x_move (.int _ _) rfl ?_
              refine x_add _ _ rfl rfl (by simp only [X.lo]; omega) (by simp only [X.hi]; omega) ?_
              refine x_assign (.int _ _) rfl ?_
              refine x_nil ?_
              refine then_n ?_
              refine ⟨k + 1, ⟨rfl, rfl, rfl, rfl, rfl, rfl, trivial⟩, ⟨by omega, hs⟩, by first | omega | (dsimp only; omega)⟩
          · skip
            refine c_exit ?_
            refine then_x ?_
            refine then_x ?_
            refine inb_e ?_
            refine inb_n ?_
            refine then_n ?_
            exact ⟨(s.due.2, arr), ⟨rfl, rfl, rfl, rfl, trivial⟩, ⟨harr, (hinv.due (by omega) (by omega)).mono (by omega) (by omega), (hs.pull 3).tail.tail.tail⟩⟩
        · skip
          refine c_seq ?_
          -- region 21
          refine c_region ?_
          refine x_eql _ _ rfl rfl ?_
          refine x_assign (.bool _) rfl ?_
          refine x_nil ?_
          refine then_n ?_
          refine c_test _ rfl (fun hb => ?_) (fun hb => ?_)   -- cond t94
          · skip
            -- region 22
            refine c_region ?_
            refine x_move (.pointer _) rfl ?_
            refine x_call Try.f23 Try.func23 rfl rfl _ rfl ?_
            refine (stick_calls (hs.pull 1)).mono ?_
            clear hs; rintro e w ⟨rfl, hs⟩
            have hs := hs.push 1
            refine ⟨_, rfl, fun h => (by cases h), ?_⟩
            refine x_nil ?_
            refine inb_n ?_
            refine then_n ?_
            exact ⟨(s.tick, arr), ⟨rfl, rfl, rfl, rfl, trivial⟩, ⟨harr, hinv.tick.mono (by omega) (by omega), hs.tail⟩⟩
          · skip
            refine c_seq ?_
            -- region 23
            refine c_region ?_
            refine x_eql _ _ rfl rfl ?_
            refine x_assign (.bool _) rfl ?_
            refine x_nil ?_
            refine then_n ?_
            refine c_test _ rfl (fun hb => ?_) (fun hb => ?_)   -- cond t98
            · skip
              refine c_seq ?_
              refine c_seq ?_
              -- region 24 DRAWS
              refine c_draw (fun w => w.cell? ⟨b6, 3, none⟩ = some (.int .u64 (Upto : Nat))) (fun i => !(false)) [(0, 2), (1, 1), (2, 2), (3, 0), (4, 2)] (by kernel_rfl) (by kernel_rfl) (by kernel_rfl) (by kernel_rfl) (hs.cell rfl) ?_
              replace hs := hs.drew
              first | refine x_field0 fa_68_3 _ rfl ?_ | refine x_field fa_68_3 _ _ rfl ?_
              refine h_load one_26 _ (.int _ _) rfl (fun w hS => by first | exact hS.cell rfl | exact (hS.pull 1).cell rfl | exact (hS.pull 2).cell rfl | exact (hS.pull 3).cell rfl | exact hS | exact hS.1 | exact hS.2 | exact hS.2.1 | exact hS.2.2 | exact hS.2.2.1 | exact hS.2.2.2 | exact hS.2.2.2.1 | exact hS.2.2.2.2) ?_
              refine x_move (.pointer _) rfl ?_
              refine x_call Try.f35 Try.func35 rfl rfl _ rfl ?_
              refine (snext_calls (hs.pull 1) (by omega) hwl).mono ?_
              clear hs; rintro e w ⟨rfl, hs⟩
              have hs := hs.push 1
              refine ⟨_, rfl, fun h => hs.cell rfl, ?_⟩
              refine x_lss _ _ rfl rfl ?_
              refine x_nil ?_
              refine then_n ?_
              refine c_test _ rfl (fun hb => ?_) (fun hb => ?_)   -- cond t104
              · skip
                -- region 25
                refine c_region ?_
                refine x_move (.int _ _) rfl ?_
                first | refine x_field0 fa_68_3 _ rfl ?_ | refine x_field fa_68_3 _ _ rfl ?_
                refine x_load one_26 _ (.int _ _) rfl (by first | exact hs.cell rfl | exact (hs.pull 1).cell rfl | exact (hs.pull 2).cell rfl | exact (hs.pull 3).cell rfl | assumption | exact (hs.pull 4).cell rfl | exact (hs.pull 5).cell rfl | exact (hs.pull 6).cell rfl | exact (hs.pull 7).cell rfl) ?_
                refine x_max _ _ (((s.ack Upto).2.base - 1 : Nat) : Int) rfl rfl (by rw [ack_base (by omega) hbase1, show s.base - 1 = arr from by omega]) ?_
                refine x_assign (.int _ _) rfl ?_
                refine x_nil ?_
                refine then_n ?_
                -- region 26
                refine c_region ?_
                refine x_move (.pointer _) rfl ?_
                first | refine x_field0 fa_68_3 _ rfl ?_ | refine x_field fa_68_3 _ _ rfl ?_
                refine x_load one_26 _ (.int _ _) rfl (by first | exact hs.cell rfl | exact (hs.pull 1).cell rfl | exact (hs.pull 2).cell rfl | exact (hs.pull 3).cell rfl | assumption | exact (hs.pull 4).cell rfl | exact (hs.pull 5).cell rfl | exact (hs.pull 6).cell rfl | exact (hs.pull 7).cell rfl) ?_
                refine x_call Try.f24 Try.func24 rfl rfl _ rfl ?_
                refine (sack_calls Upto (hs.pull 1) ok hU).mono ?_
                clear hs; rintro e w ⟨rfl, hs⟩
                have hs := hs.push 1
                refine ⟨_, rfl, fun h => (by cases h), ?_⟩
                refine x_nil ?_
                refine inb_n ?_
                refine then_n ?_
                exact ⟨((s.ack Upto).2, (s.ack Upto).2.base - 1), ⟨rfl, rfl, rfl, rfl, trivial⟩, ⟨by have := (hinv.ack Upto).base1; omega, (hinv.ack Upto).mono (by omega) (by omega), hs.tail⟩⟩
              · skip
                refine c_skip ?_
                refine then_n ?_
                -- region 26
                refine c_region ?_
                refine x_move (.pointer _) rfl ?_
                first | refine x_field0 fa_68_3 _ rfl ?_ | refine x_field fa_68_3 _ _ rfl ?_
                refine x_load one_26 _ (.int _ _) rfl (by first | exact hs.cell rfl | exact (hs.pull 1).cell rfl | exact (hs.pull 2).cell rfl | exact (hs.pull 3).cell rfl | assumption | exact (hs.pull 4).cell rfl | exact (hs.pull 5).cell rfl | exact (hs.pull 6).cell rfl | exact (hs.pull 7).cell rfl) ?_
                refine x_call Try.f24 Try.func24 rfl rfl _ rfl ?_
                refine (sack_calls Upto (hs.pull 1) ok hU).mono ?_
                clear hs; rintro e w ⟨rfl, hs⟩
                have hs := hs.push 1
                refine ⟨_, rfl, fun h => (by cases h), ?_⟩
                refine x_nil ?_
                refine inb_n ?_
                refine then_n ?_
                exact ⟨(s, arr), ⟨rfl, rfl, rfl, rfl, trivial⟩, ⟨harr, hinv.mono (by omega) (by omega), by rw [ack_not (by omega)] at hs; exact hs.tail⟩⟩
            · skip
              refine c_seq ?_
              -- region 10
              refine c_region ?_
              refine x_assign (.int _ _) rfl ?_
              refine x_nil ?_
              refine then_n ?_
              refine c_block ?_
              refine c_loop (γ := Nat × SSt) (fun (⟨k, s'⟩ : Nat × SSt) => [(0, .slice (some ⟨g, og, none⟩) acts.length c0), (3, .pointer (some ⟨S, 0, none⟩)), (4, .int .u64 (arr : Nat)), (5, .int .i64 (i : Nat)), (6, .pointer (some ⟨b6, 0, none⟩)), (9, .int .i64 (k : Nat))]) (fun (⟨k, s'⟩ : Nat × SSt) w => k ≤ 40 ∧ arr + 1 = s'.base ∧ s'.inv (40 * i + k) (16 * i) ∧ Sat w0 w (Blk b6 (.cells #[.int .i64 Kind, .int .i64 N, .slice a2 B.length c2, .int .u64 (Upto : Nat)] 68 (0, 0)) :: SObj S s' :: [Init w0])) (fun (⟨k, s'⟩ : Nat × SSt) => 40 - k) (0, s) ⟨rfl, rfl, rfl, rfl, rfl, rfl, trivial⟩ ⟨by omega, harr, hinv, hs⟩ ?_
              clear hs
              rintro ⟨k, s'⟩ ρ w ⟨hk, harr', hinv', hs⟩
              change CW Try.prog 117 _ _ (sets 117 [(0, .slice (some ⟨g, og, none⟩) acts.length c0), (3, .pointer (some ⟨S, 0, none⟩)), (4, .int .u64 (arr : Nat)), (5, .int .i64 (i : Nat)), (6, .pointer (some ⟨b6, 0, none⟩)), (9, .int .i64 (k : Nat))] ρ) w
              have hwl' := hinv'.len
              by_cases h5 : k < 1
              rotate_left
              by_cases h6 : (k : Int) < N
              by_cases h7 : k < 40
              · skip
                refine c_seq ?_
                refine c_seq ?_
                -- region 11
                refine c_region ?_
                refine x_move (.int _ _) rfl ?_
                refine x_lssF _ _ rfl rfl (by omega) ?_
                refine x_move (.bool _) rfl ?_
                refine x_want' rfl ?_
                refine x_move (.int _ _) rfl ?_
                refine x_want' rfl ?_
                first | refine x_field0 fa_68_1 _ rfl ?_ | refine x_field fa_68_1 _ _ rfl ?_
                refine x_want' rfl ?_
                refine x_load one_3 _ (.int _ _) rfl (by first | exact hs.cell rfl | exact (hs.pull 1).cell rfl | exact (hs.pull 2).cell rfl | exact (hs.pull 3).cell rfl | assumption | exact (hs.pull 4).cell rfl | exact (hs.pull 5).cell rfl | exact (hs.pull 6).cell rfl | exact (hs.pull 7).cell rfl) ?_
                refine x_want' rfl ?_
                refine x_lssT _ _ rfl rfl (by omega) ?_
                refine x_want' rfl ?_
                refine x_move (.bool _) rfl ?_
                refine x_want' rfl ?_
                refine x_move (.int _ _) rfl ?_
                refine x_want' rfl ?_
                refine x_lssT _ _ rfl rfl (by omega) ?_
                refine x_want' rfl ?_
                refine x_pickT (.bool _) rfl rfl ?_
                refine x_pickF (.bool _) rfl rfl ?_
                refine x_nil ?_
                refine then_n ?_
                refine c_true rfl ?_
                refine c_skip ?_
                refine then_n ?_
                refine c_seq ?_
                refine c_block ?_
                -- region 13
                refine c_region ?_
                refine x_move (.pointer _) rfl ?_
                first | refine x_field0 fa_68_2 _ rfl ?_ | refine x_field fa_68_2 _ _ rfl ?_
                refine x_load one_30 _ (.slice _ _ _) rfl (by first | exact hs.cell rfl | exact (hs.pull 1).cell rfl | exact (hs.pull 2).cell rfl | exact (hs.pull 3).cell rfl | assumption | exact (hs.pull 4).cell rfl | exact (hs.pull 5).cell rfl | exact (hs.pull 6).cell rfl | exact (hs.pull 7).cell rfl) ?_
                refine x_call Try.f20 Try.func20 rfl rfl _ rfl ?_
                refine (sput_calls (hs.pull 1) (fun w' e => RD.heapEq (hrB _ _ (hs.pull 2)) e) hwl').mono ?_
                clear hs; rintro e w ⟨rfl, hs⟩
                have hs := hs.push 1
                refine ⟨_, rfl, fun h => (by cases h), ?_⟩
                refine x_nil ?_
                refine inb_n ?_
                refine then_n ?_
                -- region 12
                refine c_region ?_
                refine x_move (.int _ _) rfl ?_
                refine x_add _ _ rfl rfl (by simp only [X.lo]; omega) (by simp only [X.hi]; omega) ?_
                refine x_assign (.int _ _) rfl ?_
                refine x_nil ?_
                refine then_n ?_
                refine ⟨(k + 1, (s'.put B).2), ⟨rfl, rfl, rfl, rfl, rfl, rfl, trivial⟩, ⟨by omega, by rw [put_base]; exact harr', hinv'.put B, hs⟩, by first | omega | (dsimp only; omega)⟩
              · skip
                refine c_seq ?_
                refine c_seq ?_
                -- region 11
                refine c_region ?_
                refine x_move (.int _ _) rfl ?_
                refine x_lssF _ _ rfl rfl (by omega) ?_
                refine x_move (.bool _) rfl ?_
                refine x_want' rfl ?_
                refine x_move (.int _ _) rfl ?_
                refine x_want' rfl ?_
                first | refine x_field0 fa_68_1 _ rfl ?_ | refine x_field fa_68_1 _ _ rfl ?_
                refine x_want' rfl ?_
                refine x_load one_3 _ (.int _ _) rfl (by first | exact hs.cell rfl | exact (hs.pull 1).cell rfl | exact (hs.pull 2).cell rfl | exact (hs.pull 3).cell rfl | assumption | exact (hs.pull 4).cell rfl | exact (hs.pull 5).cell rfl | exact (hs.pull 6).cell rfl | exact (hs.pull 7).cell rfl) ?_
                refine x_want' rfl ?_
                refine x_lssT _ _ rfl rfl (by omega) ?_
                refine x_want' rfl ?_
                refine x_move (.bool _) rfl ?_
                refine x_want' rfl ?_
                refine x_move (.int _ _) rfl ?_
                refine x_want' rfl ?_
                refine x_lssF _ _ rfl rfl (by omega) ?_
                refine x_want' rfl ?_
                refine x_pickT (.bool _) rfl rfl ?_
                refine x_pickF (.bool _) rfl rfl ?_
                refine x_nil ?_
                refine then_n ?_
                refine c_false rfl ?_
                refine c_exit ?_
                refine then_x ?_
                refine then_x ?_
                refine inb_e ?_
                refine inb_n ?_
                refine then_n ?_
                exact ⟨(s', arr), ⟨rfl, rfl, rfl, rfl, trivial⟩, ⟨harr', hinv'.mono (by omega) (by omega), hs.tail⟩⟩
              · skip
                refine c_seq ?_
                refine c_seq ?_
                -- region 11
                refine c_region ?_
                refine x_move (.int _ _) rfl ?_
                refine x_lssF _ _ rfl rfl (by omega) ?_
                refine x_move (.bool _) rfl ?_
                refine x_want' rfl ?_
                refine x_move (.int _ _) rfl ?_
                refine x_want' rfl ?_
                first | refine x_field0 fa_68_1 _ rfl ?_ | refine x_field fa_68_1 _ _ rfl ?_
                refine x_want' rfl ?_
                refine x_load one_3 _ (.int _ _) rfl (by first | exact hs.cell rfl | exact (hs.pull 1).cell rfl | exact (hs.pull 2).cell rfl | exact (hs.pull 3).cell rfl | assumption | exact (hs.pull 4).cell rfl | exact (hs.pull 5).cell rfl | exact (hs.pull 6).cell rfl | exact (hs.pull 7).cell rfl) ?_
                refine x_want' rfl ?_
                refine x_lssF _ _ rfl rfl (by omega) ?_
                refine x_want' rfl ?_
                refine x_move (.bool _) rfl ?_
                refine x_skip rfl rfl ?_
                refine x_skip rfl rfl ?_
                refine x_want' rfl ?_
                refine x_pickF (.bool _) rfl rfl ?_
                refine x_pickF (.bool _) rfl rfl ?_
                refine x_nil ?_
                refine then_n ?_
                refine c_false rfl ?_
                refine c_exit ?_
                refine then_x ?_
                refine then_x ?_
                refine inb_e ?_
                refine inb_n ?_
                refine then_n ?_
                exact ⟨(s', arr), ⟨rfl, rfl, rfl, rfl, trivial⟩, ⟨harr', hinv'.mono (by omega) (by omega), hs.tail⟩⟩
              · skip
                refine c_seq ?_
                refine c_seq ?_
                -- region 11
                refine c_region ?_
                refine x_move (.int _ _) rfl ?_
                refine x_lssT _ _ rfl rfl (by omega) ?_
                refine x_move (.bool _) rfl ?_
                refine x_skip rfl rfl ?_
                refine x_skip rfl rfl ?_
                refine x_skip rfl rfl ?_
                refine x_skip rfl rfl ?_
                refine x_skip rfl rfl ?_
                refine x_skipU rfl ?_
                refine x_skipU rfl ?_
                refine x_skip rfl rfl ?_
                refine x_pickT (.bool _) rfl rfl ?_
                refine x_nil ?_
                refine then_n ?_
                refine c_true rfl ?_
                refine c_skip ?_
                refine then_n ?_
                refine c_seq ?_
                refine c_block ?_
                -- region 13
                refine c_region ?_
                refine x_move (.pointer _) rfl ?_
                first | refine x_field0 fa_68_2 _ rfl ?_ | refine x_field fa_68_2 _ _ rfl ?_
                refine x_load one_30 _ (.slice _ _ _) rfl (by first | exact hs.cell rfl | exact (hs.pull 1).cell rfl | exact (hs.pull 2).cell rfl | exact (hs.pull 3).cell rfl | assumption | exact (hs.pull 4).cell rfl | exact (hs.pull 5).cell rfl | exact (hs.pull 6).cell rfl | exact (hs.pull 7).cell rfl) ?_
                refine x_call Try.f20 Try.func20 rfl rfl _ rfl ?_
                refine (sput_calls (hs.pull 1) (fun w' e => RD.heapEq (hrB _ _ (hs.pull 2)) e) hwl').mono ?_
                clear hs; rintro e w ⟨rfl, hs⟩
                have hs := hs.push 1
                refine ⟨_, rfl, fun h => (by cases h), ?_⟩
                refine x_nil ?_
                refine inb_n ?_
                refine then_n ?_
                -- region 12
                refine c_region ?_
                refine x_move (.int _ _) rfl ?_
                refine x_add _ _ rfl rfl (by simp only [X.lo]; omega) (by simp only [X.hi]; omega) ?_
                refine x_assign (.int _ _) rfl ?_
                refine x_nil ?_
                refine then_n ?_
                refine ⟨(k + 1, (s'.put B).2), ⟨rfl, rfl, rfl, rfl, rfl, rfl, trivial⟩, ⟨by omega, by rw [put_base]; exact harr', hinv'.put B, hs⟩, by first | omega | (dsimp only; omega)⟩
      · skip
        clear hs
        rintro ⟨s', arr'⟩ ρ w ⟨harr', hinv', hs⟩
        change CW Try.prog 117 _ _ (sets 117 [(0, .slice (some ⟨g, og, none⟩) acts.length c0), (3, .pointer (some ⟨S, 0, none⟩)), (4, .int .u64 (arr' : Nat)), (5, .int .i64 (i : Nat))] ρ) w
        have hwl' := hinv'.len
        refine c_seq ?_
        -- region 27
        refine c_region ?_
        refine x_move (.pointer _) rfl ?_
        refine x_call Try.f25 Try.func25 rfl rfl _ rfl ?_
        refine (slen_calls hs).mono ?_
        clear hs; rintro e w ⟨rfl, hs⟩
        refine ⟨_, rfl, fun h => (by cases h), ?_⟩
        refine x_gtrF _ _ rfl rfl (by omega) ?_
        refine x_nil ?_
        refine then_n ?_
        refine c_false rfl ?_
        refine c_skip ?_
        refine inb_n ?_
        refine then_n ?_
        -- region 7
        refine c_region ?_
        refine x_move (.int _ _) rfl ?_
        refine x_add _ _ rfl rfl (by simp only [X.lo]; omega) (by simp only [X.hi]; omega) ?_
        refine x_assign (.int _ _) rfl ?_
        refine x_nil ?_
        refine then_n ?_
        refine ⟨(i + 1, s', arr'), ⟨rfl, rfl, rfl, rfl, trivial⟩, ⟨by omega, harr', hinv'.mono (by omega) (by omega), hs⟩, by first | omega | (dsimp only; omega)⟩
    · skip
      refine c_seq ?_
      refine c_seq ?_
      -- region 6
      refine c_region ?_
      refine x_move (.int _ _) rfl ?_
      refine x_move (.slice _ _ _) rfl ?_
      refine x_lenSl Try.underlying61 _ _ _ rfl ?_
      refine x_lssT _ _ rfl rfl (by omega) ?_
      refine x_move (.bool _) rfl ?_
      refine x_want' rfl ?_
      refine x_move (.int _ _) rfl ?_
      refine x_want' rfl ?_
      refine x_lssF _ _ rfl rfl (by omega) ?_
      refine x_pickT (.bool _) rfl rfl ?_
      refine x_nil ?_
      refine then_n ?_
      refine c_false rfl ?_
      refine c_exit ?_
      refine then_x ?_
      refine then_x ?_
      refine inb_e ?_
      refine then_n ?_
      refine c_seq ?_
      -- region 29
      refine c_region ?_
      refine x_call Try.f26 Try.func26 rfl rfl _ rfl ?_
      refine (awake11_calls hs).mono ?_
      clear hs; rintro e w ⟨rfl, hs⟩
      refine ⟨_, rfl, fun h => (by cases h), ?_⟩
      refine x_assign (.bool _) rfl ?_
      refine x_nil ?_
      refine then_n ?_
      refine c_ret ?_
      refine ⟨.inr rfl, ?_⟩
      exact ⟨rfl, hs.tail⟩
    · skip
      refine c_seq ?_
      refine c_seq ?_
      -- region 6
      refine c_region ?_
      refine x_move (.int _ _) rfl ?_
      refine x_move (.slice _ _ _) rfl ?_
      refine x_lenSl Try.underlying61 _ _ _ rfl ?_
      refine x_lssF _ _ rfl rfl (by omega) ?_
      refine x_move (.bool _) rfl ?_
      refine x_skip rfl rfl ?_
      refine x_skip rfl rfl ?_
      refine x_pickF (.bool _) rfl rfl ?_
      refine x_nil ?_
      refine then_n ?_
      refine c_false rfl ?_
      refine c_exit ?_
      refine then_x ?_
      refine then_x ?_
      refine inb_e ?_
      refine then_n ?_
      refine c_seq ?_
      -- region 29
      refine c_region ?_
      refine x_call Try.f26 Try.func26 rfl rfl _ rfl ?_
      refine (awake11_calls hs).mono ?_
      clear hs; rintro e w ⟨rfl, hs⟩
      refine ⟨_, rfl, fun h => (by cases h), ?_⟩
      refine x_assign (.bool _) rfl ?_
      refine x_nil ?_
      refine then_n ?_
      refine c_ret ?_
      refine ⟨.inr rfl, ?_⟩
      exact ⟨rfl, hs.tail⟩
end Go.Proofs.Ytphakfggocdphaa.X
