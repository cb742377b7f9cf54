/-
  LAYER 11: the law WindowCounts.
-/
import Derived.Test.YtphakfggocdphaaW3
import Derived.Test.YtphakfggocdphaaNum
namespace Go.Proofs.Ytphakfggocdphaa.X
open Go Go.RowKit
set_option linter.unusedVariables false
set_option maxRecDepth 20000
theorem put_counts (s : SSt) (b : List UInt8) : (s.put b).2.once = s.once ∧ (s.put b).2.more = s.more := by
  unfold SSt.put
  split
  · exact ⟨rfl, rfl⟩
  · split <;> exact ⟨rfl, rfl⟩
theorem ack_counts (s : SSt) (u : Nat) : (s.ack u).2.once = s.once ∧ (s.ack u).2.more = s.more := by
  unfold SSt.ack
  split <;> exact ⟨rfl, rfl⟩
set_option maxHeartbeats 8000000 in
theorem walk_WindowCounts {H : Type} {enc : TypeId × Value → H} {w0 : World} {a0 : Option Addr} {l0 c0 : Nat} (h0 : TR enc Try.prog w0 61 [.slice a0 l0 c0]) :
    Calls Try.prog 11 #[.slice a0 l0 c0] w0 fun e w' => e = .returned (.bool true) ∧ Below w0.heap.size w0 w' := by
  obtain ⟨acts, rfl, hrd, hlen, hfa⟩ := TR.arg (k := 4) Try.underlying61 (by kernel_rfl) (by decide) (fun r hr => TR.Act hr) h0
  refine law_of fun w hs => ?_
  have hin : ∀ w' L', Sat w0 w' (Init w0 :: L') → RS w' 4 Act.cells (.slice a0 acts.length c0) acts := fun w' L' h => hrd.below h.init
  have hfin : ∀ w' L', Sat w0 w' (Init w0 :: L') → ∀ x ∈ acts, x.fine w' := fun w' L' h x hx => (hfa x hx).below h.init
  refine enter Try.func11 rfl Try.ntmps11 2 rfl (Nat.le_of_ble_eq_true rfl) ?_
  refine c_seq ?_
  -- region 0
  refine c_region ?_
  refine x_assign (.bool _) rfl ?_
  refine x_nil ?_
  refine then_n ?_
  refine c_seq ?_
  refine c_seq ?_
  -- region 1
  refine c_region ?_
  refine x_move (.slice _ _ _) rfl ?_
  refine x_call Try.f29 Try.func29 rfl rfl _ rfl ?_
  refine (great_calls hs (hin _ _ hs) (hfin _ _ hs) (by omega)).mono ?_
  clear hs; rintro e w ⟨r, rfl, hs, hw, hg⟩
  refine ⟨_, rfl, fun h => (by cases h), ?_⟩
  refine x_nil ?_
  refine then_n ?_
  refine c_cond rfl (fun hb => ?_) (fun hb => ?_)   -- cond t11
  · skip
    refine c_seq ?_
    -- region 2
    refine c_region ?_
    refine x_call Try.f26 Try.func26 rfl rfl _ rfl ?_
    refine (awake11_calls hs).mono ?_
    clear hs; rintro e w ⟨rfl, hs⟩
    refine ⟨_, rfl, fun h => (by cases h), ?_⟩
    refine x_assign (.bool _) rfl ?_
    refine x_nil ?_
    refine then_n ?_
    refine c_ret ?_
    refine then_r ?_
    refine ⟨.inr rfl, ?_⟩
    exact ⟨rfl, hs⟩
  · skip
    refine c_skip ?_
    refine then_n ?_
    refine c_seq ?_
    -- region 3
    refine c_region ?_
    refine x_call Try.f27 Try.func27 rfl rfl _ rfl ?_
    refine (snew_calls hs).mono ?_
    clear hs; rintro e w ⟨S, rfl, hs⟩
    refine ⟨_, rfl, fun h => (by cases h), ?_⟩
    refine x_build _ [] rfl (fun w => bd_66 w) ?_
    refine x_box hs (.agg #[_, _, _, _, _]) rfl ?_; clear hs; intro b15 w hs; refine ⟨fun h => (by cases h), ?_⟩
    refine x_assign (.pointer _) rfl ?_
    refine x_assign (.pointer _) rfl ?_
    refine x_nil ?_
    refine then_n ?_
    refine c_seq ?_
    refine c_seq ?_
    -- region 4
    refine c_region ?_
    refine x_assign (.int _ _) rfl ?_
    refine x_nil ?_
    refine then_n ?_
    refine c_block ?_
    refine c_loop (γ := Nat × SSt) (fun (⟨i, s⟩ : Nat × SSt) => [(0, .slice a0 acts.length c0), (3, .pointer (some ⟨S, 0, none⟩)), (4, .pointer (some ⟨b15, 0, none⟩)), (5, .int .i64 (i : Nat))]) (fun (⟨i, s⟩ : Nat × SSt) w => i ≤ 60 ∧ s.inv (40 * i) (16 * i) ∧ s.cnt ∧ Sat w0 w (SObj S s :: X11 b15 s s.once s.more :: [Init w0])) (fun (⟨i, s⟩ : Nat × SSt) => 60 - i) (0, SSt.new) ⟨rfl, rfl, rfl, rfl, trivial⟩ ⟨Nat.zero_le _, SSt.new_inv, SSt.new_cnt, (x11_new hs).perm [1, 0]⟩ ?_
    clear hs
    rintro ⟨i, s⟩ ρ w ⟨hi, hinv, hcnt, hs⟩
    change CW Try.prog 88 _ _ (sets 88 [(0, .slice a0 acts.length c0), (3, .pointer (some ⟨S, 0, none⟩)), (4, .pointer (some ⟨b15, 0, none⟩)), (5, .int .i64 (i : Nat))] ρ) w
    by_cases h1 : i < acts.length
    by_cases h2 : i < 60
    · skip
      refine c_seq ?_
      refine c_seq ?_
      -- region 5
      refine c_region ?_
      refine x_move (.int _ _) rfl ?_
      refine x_move (.slice _ _ _) rfl ?_
      refine x_lenSl Try.underlying61 _ _ _ rfl ?_
      refine x_lssT _ _ rfl rfl (by omega) ?_
      refine x_move (.bool _) rfl ?_
      refine x_want' rfl ?_
      refine x_move (.int _ _) rfl ?_
      refine x_want' rfl ?_
      refine x_lssT _ _ rfl rfl (by omega) ?_
      refine x_pickT (.bool _) rfl rfl ?_
      refine x_nil ?_
      refine then_n ?_
      refine c_true rfl ?_
      refine c_skip ?_
      refine then_n ?_
      refine c_seq ?_
      refine c_block ?_
      refine c_seq ?_
      -- region 7
      obtain ⟨x, hx⟩ : ∃ x, acts[i]? = some x := ⟨acts[i]'h1, List.getElem?_eq_getElem _⟩
      have hR := hin _ _ (hs.pull 2)
      have hfx := hfa x (List.mem_of_getElem? hx)
      have hB5 := hg hb i x h2 hx
      obtain ⟨g, og, rfl⟩ := hR.addr (by omega)
      obtain ⟨Kind, N, ⟨vB, B⟩, Upto⟩ := x
      obtain ⟨a2, c2, rfl⟩ : ∃ a c, vB = .slice a B.length c := hfx.B.1.val
      have hU := hfx.Upto
      have hrB : ∀ w' L', Sat w0 w' (Init w0 :: L') → RB w' (.slice a2 B.length c2) B := fun w' L' h => RD.below hfx.B.1 h.init
      have hcells := hR.all (fun a => a.cells_len) hx
      dsimp only at hU hB5
      have ok := hinv.ok (by omega) (by omega)
      have hbase1 := hinv.base1
      have hputs := hinv.puts
      have hwl := hinv.len
      have htold := hinv.told
      have hon := hinv.once
      have hmo := hinv.more
      refine c_region ?_
      refine x_move (.slice _ _ _) rfl ?_
      refine x_move (.int _ _) rfl ?_
      refine x_indexAddr Try.underlying61 sz_68 _ _ _ _ _ rfl rfl (by omega) ?_
      refine x_loadN [.int .i64 Kind, .int .i64 N, .slice a2 B.length c2, .int .u64 (Upto : Nat)] agg_68 _ rfl hcells ?_
      refine x_alloc zi_68 hs ?_; clear hs; intro b6 w hs; refine ⟨fun h => (by cases h), ?_⟩
      refine x_storeAll hs agg_68 [.int .i64 Kind, .int .i64 N, .slice a2 B.length c2, .int .u64 (Upto : Nat)] rfl rfl rfl rfl rfl ?_
      clear hs hcells hR; intro w hs; refine ⟨fun h => (by cases h), ?_⟩
      refine x_nil ?_
      refine then_n ?_
      refine c_seqI (γ := SSt) (fun (s' : SSt) => [(0, .slice (some ⟨g, og, none⟩) acts.length c0), (3, .pointer (some ⟨S, 0, none⟩)), (4, .pointer (some ⟨b15, 0, none⟩)), (5, .int .i64 (i : Nat))]) (fun (s' : SSt) w => s'.inv (40 * i + 40) (16 * i + 16) ∧ s'.cnt ∧ Sat w0 w (SObj S s' :: X11 b15 s' s'.once s'.more :: [Init w0])) ?_ ?_
      · skip
        refine c_seq ?_
        -- region 8
        refine c_region ?_
        first | refine x_field0 fa_68_0 _ rfl ?_ | refine x_field fa_68_0 _ _ rfl ?_
        refine x_load one_3 _ (.int _ _) rfl (by first | exact hs.cell rfl | exact (hs.pull 1).cell rfl | exact (hs.pull 2).cell rfl | exact (hs.pull 3).cell rfl | assumption | exact (hs.pull 4).cell rfl | exact (hs.pull 5).cell rfl | exact (hs.pull 6).cell rfl | exact (hs.pull 7).cell rfl) ?_
        refine x_call Try.f21 Try.func21 rfl rfl _ rfl ?_
        refine (pick_calls hs _ _ (by decide)).mono ?_
        clear hs; rintro e w ⟨rfl, hs, -⟩
        refine ⟨_, rfl, fun h => (by cases h), ?_⟩
        generalize pk Kind 6 = kd
        refine x_nil ?_
        refine then_n ?_
        refine c_block ?_
        refine c_seq ?_
        -- region 11
        refine c_region ?_
        refine x_eql _ _ rfl rfl ?_
        refine x_assign (.bool _) rfl ?_
        refine x_nil ?_
        refine then_n ?_
        refine c_test _ rfl (fun hb => ?_) (fun hb => ?_)   -- cond t41
        · skip
          refine c_seq ?_
          -- region 12
          refine c_region ?_
          refine x_move (.pointer _) rfl ?_
          refine x_call Try.f22 Try.func22 rfl rfl _ rfl ?_
          refine (sdue_calls (hs.pull 1) ok).mono ?_
          clear hs; rintro e w ⟨v1, rfl, hs⟩
          have hs := hs.push 1
          refine ⟨_, rfl, fun h => (by cases h), ?_⟩
          have hs := (hs.pull 1).tail
          refine x_nil ?_
          refine then_n ?_
          -- region 13
          refine c_region ?_
          refine x_move (.pointer _) rfl ?_
          refine x_call Try.f31 Try.func31 rfl rfl _ rfl ?_
          refine (rdue_calls (hs.pull 2) ok hbase1 (by omega) (by omega)).mono ?_
          clear hs; rintro e w ⟨v2, rfl, hri, hs⟩
          have hs := hs.push 2
          refine ⟨_, rfl, fun h => (by cases h), ?_⟩
          refine x_nil ?_
          refine inb_n ?_
          refine then_n ?_
          exact ⟨s.due.2, ⟨rfl, rfl, rfl, rfl, trivial⟩, ⟨(hinv.due (by omega) (by omega)).mono (by omega) (by omega), hcnt.due.1, by rw [hcnt.due.2] at hs; exact (hs.pull 1).tail⟩⟩
        · skip
          refine c_seq ?_
          -- region 14
          refine c_region ?_
          refine x_eql _ _ rfl rfl ?_
          refine x_assign (.bool _) rfl ?_
          refine x_nil ?_
          refine then_n ?_
          refine c_test _ rfl (fun hb => ?_) (fun hb => ?_)   -- cond t47
          · skip
            refine c_seq ?_
            -- region 15
            refine c_region ?_
            refine x_move (.pointer _) rfl ?_
            refine x_call Try.f23 Try.func23 rfl rfl _ rfl ?_
            refine (stick_calls (hs.pull 1)).mono ?_
            clear hs; rintro e w ⟨rfl, hs⟩
            have hs := hs.push 1
            refine ⟨_, rfl, fun h => (by cases h), ?_⟩
            refine x_nil ?_
            refine then_n ?_
            -- region 16
            refine c_region ?_
            refine x_move (.pointer _) rfl ?_
            refine x_call Try.f32 Try.func32 rfl rfl _ rfl ?_
            refine (rtick_calls (hs.pull 2) hwl).mono ?_
            clear hs; rintro e w ⟨rfl, hs⟩
            have hs := hs.push 2
            refine ⟨_, rfl, fun h => (by cases h), ?_⟩
            refine x_nil ?_
            refine inb_n ?_
            refine then_n ?_
            exact ⟨s.tick, ⟨rfl, rfl, rfl, rfl, trivial⟩, ⟨hinv.tick.mono (by omega) (by omega), hcnt.tick, hs.tail⟩⟩
          · skip
            refine c_seq ?_
            -- region 17
            refine c_region ?_
            refine x_eql _ _ rfl rfl ?_
            refine x_assign (.bool _) rfl ?_
            refine x_nil ?_
            refine then_n ?_
            refine c_test _ rfl (fun hb => ?_) (fun hb => ?_)   -- cond t53
            · skip
              refine c_seq ?_
              -- region 18 DRAWS
              obtain ⟨a7, c7, a8, c8, us, hul, hs⟩ := (hs.pull 2).x11
              refine c_draw (fun w => SameL hs w) (fun i => !(false)) [(0, 2), (1, 1), (2, 2), (3, 2), (4, 2), (5, 1), (6, 2), (7, 2)] (by kernel_rfl) (by kernel_rfl) (by kernel_rfl) (by kernel_rfl) (hs.drew) ?_
              replace hs := hs.drew
              first | refine x_field0 fa_68_3 _ rfl ?_ | refine x_field fa_68_3 _ _ rfl ?_
              refine h_load one_26 _ (.int _ _) rfl (fun w hS => by first | exact hS.cell rfl | exact (hS.pull 1).cell rfl | exact (hS.pull 2).cell rfl | exact (hS.pull 3).cell rfl | exact (hS.pull 4).cell rfl | exact (hS.pull 5).cell rfl | exact (hS.pull 6).cell rfl | exact hS | exact hS.1 | exact hS.2 | exact hS.2.1 | exact hS.2.2 | exact hS.2.2.1 | exact hS.2.2.2 | exact hS.2.2.2.1 | exact hS.2.2.2.2) ?_
              refine x_move (.pointer _) rfl ?_
              refine x_nilCheck _ rfl ?_
              first | refine x_field0 fa_66_3 _ rfl ?_ | refine x_field fa_66_3 _ _ rfl ?_
              refine h_load one_26 _ (.int _ _) rfl (fun w hS => by first | exact hS.cell rfl | exact (hS.pull 1).cell rfl | exact (hS.pull 2).cell rfl | exact (hS.pull 3).cell rfl | exact (hS.pull 4).cell rfl | exact (hS.pull 5).cell rfl | exact (hS.pull 6).cell rfl | exact hS | exact hS.1 | exact hS.2 | exact hS.2.1 | exact hS.2.2 | exact hS.2.2.1 | exact hS.2.2.2 | exact hS.2.2.2.1 | exact hS.2.2.2.2) ?_
              refine x_min _ _ ((min Upto s.once : Nat) : Int) rfl rfl (by split <;> omega) ?_
              refine x_assign (.int _ _) rfl ?_
              refine x_nil ?_
              refine then_n ?_
              refine c_seq ?_
              -- region 19
              refine c_region ?_
              refine x_move (.pointer _) rfl ?_
              refine x_move (.int _ _) rfl ?_
              refine x_call Try.f24 Try.func24 rfl rfl _ rfl ?_
              refine (sack_calls (min Upto s.once) (hs.pull 5) ok (by omega)).mono ?_
              clear hs; rintro e w ⟨rfl, hs⟩
              have hs := hs.push 5
              refine ⟨_, rfl, fun h => (by cases h), ?_⟩
              refine x_nil ?_
              refine then_n ?_
              -- region 20
              refine c_region ?_
              refine x_move (.pointer _) rfl ?_
              refine x_move (.int _ _) rfl ?_
              refine x_call Try.f33 Try.func33 rfl rfl _ rfl ?_
              refine ((rack_calls (min Upto s.once) (Sat.x11' (s := s) hs) hwl hbase1 (by omega) (by omega))).mono ?_
              clear hs; rintro e w ⟨rfl, hs⟩
              refine ⟨_, rfl, fun h => (by cases h), ?_⟩
              refine x_nil ?_
              refine inb_n ?_
              refine then_n ?_
              exact ⟨(s.ack (min Upto s.once)).2, ⟨rfl, rfl, rfl, rfl, trivial⟩, ⟨(hinv.ack _).mono (by omega) (by omega), hcnt.ack (Nat.min_le_right _ _), by rw [(ack_counts _ _).1, (ack_counts _ _).2]; exact ((hs.pull 1).tail).perm [1, 0]⟩⟩
            · skip
              refine c_seq ?_
              -- region 9
              refine c_region ?_
              refine x_move (.pointer _) rfl ?_
              first | refine x_field0 fa_68_2 _ rfl ?_ | refine x_field fa_68_2 _ _ rfl ?_
              refine x_load one_30 _ (.slice _ _ _) rfl (by first | exact hs.cell rfl | exact (hs.pull 1).cell rfl | exact (hs.pull 2).cell rfl | exact (hs.pull 3).cell rfl | assumption | exact (hs.pull 4).cell rfl | exact (hs.pull 5).cell rfl | exact (hs.pull 6).cell rfl | exact (hs.pull 7).cell rfl) ?_
              refine x_call Try.f20 Try.func20 rfl rfl _ rfl ?_
              refine (sput_calls (hs.pull 1) (fun w' e => RD.heapEq (hrB _ _ (hs.pull 3)) e) hwl).mono ?_
              clear hs; rintro e w ⟨rfl, hs⟩
              have hs := hs.push 1
              refine ⟨_, rfl, fun h => (by cases h), ?_⟩
              refine x_nil ?_
              refine then_n ?_
              -- region 10
              refine c_region ?_
              refine x_move (.pointer _) rfl ?_
              first | refine x_field0 fa_68_2 _ rfl ?_ | refine x_field fa_68_2 _ _ rfl ?_
              refine x_load one_30 _ (.slice _ _ _) rfl (by first | exact hs.cell rfl | exact (hs.pull 1).cell rfl | exact (hs.pull 2).cell rfl | exact (hs.pull 3).cell rfl | assumption | exact (hs.pull 4).cell rfl | exact (hs.pull 5).cell rfl | exact (hs.pull 6).cell rfl | exact (hs.pull 7).cell rfl) ?_
              refine x_call Try.f34 Try.func34 rfl rfl _ rfl ?_
              refine ((rput_calls (hs.perm [2, 3, 0, 1]) (fun w' L' h => hrB w' L' h) hwl hbase1 (by omega) htold)).mono ?_
              clear hs; rintro e w ⟨rfl, hs⟩
              refine ⟨_, rfl, fun h => (by cases h), ?_⟩
              refine x_nil ?_
              refine inb_n ?_
              refine then_n ?_
              exact ⟨(s.put B).2, ⟨rfl, rfl, rfl, rfl, trivial⟩, ⟨(hinv.put B).mono (by omega) (by omega), hcnt.put B, by rw [(put_counts _ _).1, (put_counts _ _).2]; exact ((hs.pull 2).tail).perm [2, 0, 1]⟩⟩
      · skip
        clear hs
        rintro s' ρ w ⟨hinv', hcnt', hs⟩
        change CW Try.prog 88 _ _ (sets 88 [(0, .slice (some ⟨g, og, none⟩) acts.length c0), (3, .pointer (some ⟨S, 0, none⟩)), (4, .pointer (some ⟨b15, 0, none⟩)), (5, .int .i64 (i : Nat))] ρ) w
        obtain ⟨a7, c7, a8, c8, us, hul, hs⟩ := (hs.pull 1).x11
        refine c_seq ?_
        -- region 21
        refine c_region ?_
        refine x_move (.pointer _) rfl ?_
        refine x_call Try.f36 Try.func36 rfl rfl _ rfl ?_
        refine (scounts_calls (hs.pull 4)).mono ?_
        clear hs; rintro e w ⟨rfl, hs⟩
        have hs := hs.push 4
        refine ⟨_, rfl, fun h => (by cases h), ?_⟩
        refine x_move (.tuple _) rfl ?_
        refine x_extract _ (.int _ _) rfl rfl ?_
        refine x_extract _ (.int _ _) rfl rfl ?_
        refine x_assign (.int _ _) rfl ?_
        refine x_assign (.int _ _) rfl ?_
        refine x_nil ?_
        refine then_n ?_
        refine c_seq ?_
        -- region 22
        refine c_region ?_
        refine x_move (.int _ _) rfl ?_
        refine x_move (.pointer _) rfl ?_
        refine x_nilCheck _ rfl ?_
        first | refine x_field0 fa_66_3 _ rfl ?_ | refine x_field fa_66_3 _ _ rfl ?_
        refine x_load one_26 _ (.int _ _) rfl (by first | exact hs.cell rfl | exact (hs.pull 1).cell rfl | exact (hs.pull 2).cell rfl | exact (hs.pull 3).cell rfl | assumption | exact (hs.pull 4).cell rfl | exact (hs.pull 5).cell rfl | exact (hs.pull 6).cell rfl | exact (hs.pull 7).cell rfl) ?_
        refine x_neqF _ _ rfl rfl (by omega) ?_
        refine x_move (.bool _) rfl ?_
        refine x_want' rfl ?_
        refine x_move (.int _ _) rfl ?_
        refine x_want' rfl ?_
        refine x_move (.pointer _) rfl ?_
        refine x_want' rfl ?_
        refine x_nilCheck _ rfl ?_
        refine x_want' rfl ?_
        first | refine x_field0 fa_66_4 _ rfl ?_ | refine x_field fa_66_4 _ _ rfl ?_
        refine x_want' rfl ?_
        refine x_load one_26 _ (.int _ _) rfl (by first | exact hs.cell rfl | exact (hs.pull 1).cell rfl | exact (hs.pull 2).cell rfl | exact (hs.pull 3).cell rfl | assumption | exact (hs.pull 4).cell rfl | exact (hs.pull 5).cell rfl | exact (hs.pull 6).cell rfl | exact (hs.pull 7).cell rfl) ?_
        refine x_want' rfl ?_
        refine x_neqF _ _ rfl rfl (by omega) ?_
        refine x_pickF (.bool _) rfl rfl ?_
        refine x_nil ?_
        refine then_n ?_
        refine c_false rfl ?_
        refine c_skip ?_
        refine inb_n ?_
        refine then_n ?_
        -- region 6
        refine c_region ?_
        refine x_move (.int _ _) rfl ?_
        refine x_add _ _ rfl rfl (by simp only [X.lo]; omega) (by simp only [X.hi]; omega) ?_
        refine x_assign (.int _ _) rfl ?_
        refine x_nil ?_
        refine then_n ?_
        have hs := (Sat.x11' (s := s') hs).perm [1, 0]
        refine ⟨(i + 1, s'), ⟨rfl, rfl, rfl, rfl, trivial⟩, ⟨by omega, hinv'.mono (by omega) (by omega), hcnt', hs⟩, by first | omega | (dsimp only; omega)⟩
    · skip
      refine c_seq ?_
      refine c_seq ?_
      -- region 5
      refine c_region ?_
      refine x_move (.int _ _) rfl ?_
      refine x_move (.slice _ _ _) rfl ?_
      refine x_lenSl Try.underlying61 _ _ _ rfl ?_
      refine x_lssT _ _ rfl rfl (by omega) ?_
      refine x_move (.bool _) rfl ?_
      refine x_want' rfl ?_
      refine x_move (.int _ _) rfl ?_
      refine x_want' rfl ?_
      refine x_lssF _ _ rfl rfl (by omega) ?_
      refine x_pickT (.bool _) rfl rfl ?_
      refine x_nil ?_
      refine then_n ?_
      refine c_false rfl ?_
      refine c_exit ?_
      refine then_x ?_
      refine then_x ?_
      refine inb_e ?_
      refine then_n ?_
      refine c_seq ?_
      -- region 24
      refine c_region ?_
      refine x_call Try.f26 Try.func26 rfl rfl _ rfl ?_
      refine (awake11_calls hs).mono ?_
      clear hs; rintro e w ⟨rfl, hs⟩
      refine ⟨_, rfl, fun h => (by cases h), ?_⟩
      refine x_assign (.bool _) rfl ?_
      refine x_nil ?_
      refine then_n ?_
      refine c_ret ?_
      refine ⟨.inr rfl, ?_⟩
      exact ⟨rfl, hs.tail.tail⟩
    · skip
      refine c_seq ?_
      refine c_seq ?_
      -- region 5
      refine c_region ?_
      refine x_move (.int _ _) rfl ?_
      refine x_move (.slice _ _ _) rfl ?_
      refine x_lenSl Try.underlying61 _ _ _ rfl ?_
      refine x_lssF _ _ rfl rfl (by omega) ?_
      refine x_move (.bool _) rfl ?_
      refine x_skip rfl rfl ?_
      refine x_skip rfl rfl ?_
      refine x_pickF (.bool _) rfl rfl ?_
      refine x_nil ?_
      refine then_n ?_
      refine c_false rfl ?_
      refine c_exit ?_
      refine then_x ?_
      refine then_x ?_
      refine inb_e ?_
      refine then_n ?_
      refine c_seq ?_
      -- region 24
      refine c_region ?_
      refine x_call Try.f26 Try.func26 rfl rfl _ rfl ?_
      refine (awake11_calls hs).mono ?_
      clear hs; rintro e w ⟨rfl, hs⟩
      refine ⟨_, rfl, fun h => (by cases h), ?_⟩
      refine x_assign (.bool _) rfl ?_
      refine x_nil ?_
      refine then_n ?_
      refine c_ret ?_
      refine ⟨.inr rfl, ?_⟩
      exact ⟨rfl, hs.tail.tail⟩
end Go.Proofs.Ytphakfggocdphaa.X
