/-
  LAYER 11: the law WindowPlays.
-/
import Derived.Test.YtphakfggocdphaaW2
namespace Go.Proofs.Ytphakfggocdphaa.X
open Go Go.RowKit
set_option linter.unusedVariables false
set_option maxRecDepth 20000
theorem sameitems_same {w0 w1 : World} {L : List HP} {v1 v2 : Value} {l : List Item} (hs : Sat w0 w1 L) (h1 : RI w1 v1 l) (h2 : RI w1 v2 l) (hlen1 : l.length ≤ 1000000000000) :
    Calls Try.prog 30 #[v1, v2] w1 fun e w' => e = .returned (.bool true) ∧ Sat w0 w' L := by
  refine (sameitems_calls hs h1 h2 hlen1).mono fun e w ⟨h, hs, _⟩ => ?_
  rw [decide_eq_true rfl] at h
  exact ⟨h, hs⟩
theorem x11_new {w0 w : World} {x : Nat} {L : List HP} (hs : Sat w0 w (Blk x (.cells #[.slice none 0 0, .slice none 0 0, .int .u64 0, .int .u64 0, .int .u64 0] 66 (0, 0)) :: L)) : Sat w0 w (X11 x SSt.new 0 0 :: L) :=
  Sat.x11' (s := SSt.new) (us := []) (((EachB.nil (hs.rowNil (e := 4) (size := 1))).rowNil (e := 56) (size := 2)).perm [3, 0, 1, 2])
theorem rom_le {s : SSt} {P K : Nat} (h : s.inv P K) (o m : Nat) : (s.rom o m (min 16 s.wait.length)).1 ≤ max o (1 + P) ∧ (s.rom o m (min 16 s.wait.length)).2 ≤ m + 16 := by
  obtain ⟨h1, h2⟩ := rom_ok s o m (min 16 s.wait.length)
  have h3 := h.puts
  have h4 := Nat.min_le_left 16 s.wait.length
  have h5 := Nat.min_le_right 16 s.wait.length
  exact ⟨by omega, by omega⟩
theorem bv_bytes (B : List UInt8) : ∀ u ∈ bv B, ∃ k : Nat, u = .int .u8 (k : Nat) ∧ k < 256 := fun u hu => by
  obtain ⟨y, _, rfl⟩ := List.mem_map.1 hu
  exact ⟨y.toNat, rfl, y.toNat_lt⟩
theorem set_bytes {xs : List Value} {j k : Nat} (h : ∀ u ∈ xs, ∃ k : Nat, u = .int .u8 (k : Nat) ∧ k < 256) (hk : k < 256) : ∀ u ∈ xs.set j (.int .u8 (k : Nat)), ∃ k : Nat, u = .int .u8 (k : Nat) ∧ k < 256 := fun u hu => by
  rcases List.mem_or_eq_of_mem_set hu with hu | rfl
  · exact h u hu
  · exact ⟨k, rfl, hk⟩
set_option maxHeartbeats 8000000 in
theorem walk_WindowPlays {H : Type} {enc : TypeId × Value → H} {w0 : World} {a0 : Option Addr} {l0 c0 : Nat} (h0 : TR enc Try.prog w0 61 [.slice a0 l0 c0]) :
    Calls Try.prog 8 #[.slice a0 l0 c0] w0 fun e w' => e = .returned (.bool true) ∧ Below w0.heap.size w0 w' := by
  obtain ⟨acts, rfl, hrd, hlen, hfa⟩ := TR.arg (k := 4) Try.underlying61 (by kernel_rfl) (by decide) (fun r hr => TR.Act hr) h0
  refine law_of fun w hs => ?_
  have hin : ∀ w' L', Sat w0 w' (Init w0 :: L') → RS w' 4 Act.cells (.slice a0 acts.length c0) acts := fun w' L' h => hrd.below h.init
  have hfin : ∀ w' L', Sat w0 w' (Init w0 :: L') → ∀ x ∈ acts, x.fine w' := fun w' L' h x hx => (hfa x hx).below h.init
  refine enter Try.func8 rfl Try.ntmps8 2 rfl (Nat.le_of_ble_eq_true rfl) ?_
  refine c_seq ?_
  -- region 0
  refine c_region ?_
  refine x_assign (.bool _) rfl ?_
  refine x_nil ?_
  refine then_n ?_
  refine c_seq ?_
  refine c_seq ?_
  -- region 1
  refine c_region ?_
  refine x_move (.slice _ _ _) rfl ?_
  refine x_call Try.f29 Try.func29 rfl rfl _ rfl ?_
  refine (great_calls hs (hin _ _ hs) (hfin _ _ hs) (by omega)).mono ?_
  clear hs; rintro e w ⟨r, rfl, hs, hw, hg⟩
  refine ⟨_, rfl, fun h => (by cases h), ?_⟩
  refine x_nil ?_
  refine then_n ?_
  refine c_cond rfl (fun hb => ?_) (fun hb => ?_)   -- cond t11
  · skip
    refine c_seq ?_
    -- region 2
    refine c_region ?_
    refine x_call Try.f26 Try.func26 rfl rfl _ rfl ?_
    refine (awake11_calls hs).mono ?_
    clear hs; rintro e w ⟨rfl, hs⟩
    refine ⟨_, rfl, fun h => (by cases h), ?_⟩
    refine x_assign (.bool _) rfl ?_
    refine x_nil ?_
    refine then_n ?_
    refine c_ret ?_
    refine then_r ?_
    refine ⟨.inr rfl, ?_⟩
    exact ⟨rfl, hs⟩
  · skip
    refine c_skip ?_
    refine then_n ?_
    refine c_seq ?_
    -- region 3
    refine c_region ?_
    refine x_call Try.f27 Try.func27 rfl rfl _ rfl ?_
    refine (snew_calls hs).mono ?_
    clear hs; rintro e w ⟨S, rfl, hs⟩
    refine ⟨_, rfl, fun h => (by cases h), ?_⟩
    refine x_build _ [] rfl (fun w => bd_66 w) ?_
    refine x_box hs (.agg #[_, _, _, _, _]) rfl ?_; clear hs; intro b15 w hs; refine ⟨fun h => (by cases h), ?_⟩
    refine x_assign (.pointer _) rfl ?_
    refine x_assign (.pointer _) rfl ?_
    refine x_nil ?_
    refine then_n ?_
    refine c_seq ?_
    refine c_seq ?_
    -- region 4
    refine c_region ?_
    refine x_assign (.int _ _) rfl ?_
    refine x_nil ?_
    refine then_n ?_
    refine c_block ?_
    refine c_loop (γ := Nat × SSt × Nat × Nat) (fun (⟨i, s, o, m⟩ : Nat × SSt × Nat × Nat) => [(0, .slice a0 acts.length c0), (3, .pointer (some ⟨S, 0, none⟩)), (4, .pointer (some ⟨b15, 0, none⟩)), (5, .int .i64 (i : Nat))]) (fun (⟨i, s, o, m⟩ : Nat × SSt × Nat × Nat) w => i ≤ 60 ∧ s.inv (40 * i) (16 * i) ∧ o ≤ 40 * i + 1 ∧ m ≤ 16 * i ∧ Sat w0 w (SObj S s :: X11 b15 s o m :: [Init w0])) (fun (⟨i, s, o, m⟩ : Nat × SSt × Nat × Nat) => 60 - i) (0, SSt.new, 0, 0) ⟨rfl, rfl, rfl, rfl, trivial⟩ ⟨Nat.zero_le _, SSt.new_inv, by omega, by omega, (x11_new hs).perm [1, 0]⟩ ?_
    clear hs
    rintro ⟨i, s, o, m⟩ ρ w ⟨hi, hinv, ho, hm, hs⟩
    change CW Try.prog 117 _ _ (sets 117 [(0, .slice a0 acts.length c0), (3, .pointer (some ⟨S, 0, none⟩)), (4, .pointer (some ⟨b15, 0, none⟩)), (5, .int .i64 (i : Nat))] ρ) w
    by_cases h1 : i < acts.length
    by_cases h2 : i < 60
    · skip
      refine c_seq ?_
      refine c_seq ?_
      -- region 5
      refine c_region ?_
      refine x_move (.int _ _) rfl ?_
      refine x_move (.slice _ _ _) rfl ?_
      refine x_lenSl Try.underlying61 _ _ _ rfl ?_
      refine x_lssT _ _ rfl rfl (by omega) ?_
      refine x_move (.bool _) rfl ?_
      refine x_want' rfl ?_
      refine x_move (.int _ _) rfl ?_
      refine x_want' rfl ?_
      refine x_lssT _ _ rfl rfl (by omega) ?_
      refine x_pickT (.bool _) rfl rfl ?_
      refine x_nil ?_
      refine then_n ?_
      refine c_true rfl ?_
      refine c_skip ?_
      refine then_n ?_
      refine c_seq ?_
      refine c_block ?_
      refine c_seq ?_
      -- region 7
      obtain ⟨x, hx⟩ : ∃ x, acts[i]? = some x := ⟨acts[i]'h1, List.getElem?_eq_getElem _⟩
      have hR := hin _ _ (hs.pull 2)
      have hfx := hfa x (List.mem_of_getElem? hx)
      have hB5 := hg hb i x h2 hx
      obtain ⟨g, og, rfl⟩ := hR.addr (by omega)
      obtain ⟨Kind, N, ⟨vB, B⟩, Upto⟩ := x
      obtain ⟨a2, c2, rfl⟩ : ∃ a c, vB = .slice a B.length c := hfx.B.1.val
      have hU := hfx.Upto
      have hrB : ∀ w' L', Sat w0 w' (Init w0 :: L') → RB w' (.slice a2 B.length c2) B := fun w' L' h => RD.below hfx.B.1 h.init
      have hcells := hR.all (fun a => a.cells_len) hx
      dsimp only at hU hB5
      have ok := hinv.ok (by omega) (by omega)
      have hbase1 := hinv.base1
      have hputs := hinv.puts
      have hwl := hinv.len
      have htold := hinv.told
      refine c_region ?_
      refine x_move (.slice _ _ _) rfl ?_
      refine x_move (.int _ _) rfl ?_
      refine x_indexAddr Try.underlying61 sz_68 _ _ _ _ _ rfl rfl (by omega) ?_
      refine x_loadN [.int .i64 Kind, .int .i64 N, .slice a2 B.length c2, .int .u64 (Upto : Nat)] agg_68 _ rfl hcells ?_
      refine x_alloc zi_68 hs ?_; clear hs; intro b6 w hs; refine ⟨fun h => (by cases h), ?_⟩
      refine x_storeAll hs agg_68 [.int .i64 Kind, .int .i64 N, .slice a2 B.length c2, .int .u64 (Upto : Nat)] rfl rfl rfl rfl rfl ?_
      clear hs hcells hR; intro w hs; refine ⟨fun h => (by cases h), ?_⟩
      refine x_nil ?_
      refine then_n ?_
      refine c_seqI (γ := SSt × Nat × Nat) (fun (⟨s', o', m'⟩ : SSt × Nat × Nat) => [(0, .slice (some ⟨g, og, none⟩) acts.length c0), (3, .pointer (some ⟨S, 0, none⟩)), (4, .pointer (some ⟨b15, 0, none⟩)), (5, .int .i64 (i : Nat))]) (fun (⟨s', o', m'⟩ : SSt × Nat × Nat) w => s'.inv (40 * i + 40) (16 * i + 16) ∧ o' ≤ 40 * i + 41 ∧ m' ≤ 16 * i + 16 ∧ Sat w0 w (SObj S s' :: X11 b15 s' o' m' :: [Init w0])) ?_ ?_
      · skip
        refine c_seq ?_
        -- region 8
        refine c_region ?_
        first | refine x_field0 fa_68_0 _ rfl ?_ | refine x_field fa_68_0 _ _ rfl ?_
        refine x_load one_3 _ (.int _ _) rfl (by first | exact hs.cell rfl | exact (hs.pull 1).cell rfl | exact (hs.pull 2).cell rfl | exact (hs.pull 3).cell rfl | assumption | exact (hs.pull 4).cell rfl | exact (hs.pull 5).cell rfl | exact (hs.pull 6).cell rfl | exact (hs.pull 7).cell rfl) ?_
        refine x_call Try.f21 Try.func21 rfl rfl _ rfl ?_
        refine (pick_calls hs _ _ (by decide)).mono ?_
        clear hs; rintro e w ⟨rfl, hs, -⟩
        refine ⟨_, rfl, fun h => (by cases h), ?_⟩
        generalize pk Kind 6 = kd
        refine x_nil ?_
        refine then_n ?_
        refine c_block ?_
        refine c_seq ?_
        -- region 19
        refine c_region ?_
        refine x_eql _ _ rfl rfl ?_
        refine x_assign (.bool _) rfl ?_
        refine x_nil ?_
        refine then_n ?_
        refine c_test _ rfl (fun hb => ?_) (fun hb => ?_)   -- cond t73
        · skip
          refine c_seq ?_
          -- region 20
          refine c_region ?_
          refine x_move (.pointer _) rfl ?_
          refine x_call Try.f22 Try.func22 rfl rfl _ rfl ?_
          refine (sdue_calls (hs.pull 1) ok).mono ?_
          clear hs; rintro e w ⟨v1, rfl, hs⟩
          have hs := hs.push 1
          refine ⟨_, rfl, fun h => (by cases h), ?_⟩
          refine x_move (.pointer _) rfl ?_
          refine x_call Try.f31 Try.func31 rfl rfl _ rfl ?_
          refine (rdue_calls (hs.pull 3) ok hbase1 (by omega) (by omega)).mono ?_
          clear hs; rintro e w ⟨v2, rfl, hri, hs⟩
          have hs := hs.push 3
          refine ⟨_, rfl, fun h => (by cases h), ?_⟩
          refine x_call Try.f30 Try.func30 rfl rfl _ rfl ?_
          refine ((sameitems_same hs (hs.pull 1).ri hri (by have := due_len hinv (by omega) (by omega); omega))).mono ?_
          clear hs; rintro e w ⟨rfl, hs⟩
          refine ⟨_, rfl, fun h => (by cases h), ?_⟩
          refine x_not _ rfl ?_
          refine x_nil ?_
          refine then_n ?_
          refine c_false rfl ?_
          refine c_skip ?_
          refine inb_n ?_
          refine then_n ?_
          have hrl := rom_le hinv o m
          exact ⟨(s.due.2, (s.rom o m (min 16 s.wait.length)).1, (s.rom o m (min 16 s.wait.length)).2), ⟨rfl, rfl, rfl, rfl, trivial⟩, ⟨(hinv.due (by omega) (by omega)).mono (by omega) (by omega), by omega, by omega, ((hs.pull 1).tail.pull 1).tail⟩⟩
        · skip
          refine c_seq ?_
          -- region 22
          refine c_region ?_
          refine x_eql _ _ rfl rfl ?_
          refine x_assign (.bool _) rfl ?_
          refine x_nil ?_
          refine then_n ?_
          refine c_test _ rfl (fun hb => ?_) (fun hb => ?_)   -- cond t81
          · skip
            refine c_seq ?_
            -- region 23
            refine c_region ?_
            refine x_move (.pointer _) rfl ?_
            refine x_call Try.f23 Try.func23 rfl rfl _ rfl ?_
            refine (stick_calls (hs.pull 1)).mono ?_
            clear hs; rintro e w ⟨rfl, hs⟩
            have hs := hs.push 1
            refine ⟨_, rfl, fun h => (by cases h), ?_⟩
            refine x_nil ?_
            refine then_n ?_
            -- region 24
            refine c_region ?_
            refine x_move (.pointer _) rfl ?_
            refine x_call Try.f32 Try.func32 rfl rfl _ rfl ?_
            refine (rtick_calls (hs.pull 2) hwl).mono ?_
            clear hs; rintro e w ⟨rfl, hs⟩
            have hs := hs.push 2
            refine ⟨_, rfl, fun h => (by cases h), ?_⟩
            refine x_nil ?_
            refine inb_n ?_
            refine then_n ?_
            exact ⟨(s.tick, o, m), ⟨rfl, rfl, rfl, rfl, trivial⟩, ⟨hinv.tick.mono (by omega) (by omega), by omega, by omega, hs.tail⟩⟩
          · skip
            refine c_seq ?_
            -- region 25
            refine c_region ?_
            refine x_eql _ _ rfl rfl ?_
            refine x_assign (.bool _) rfl ?_
            refine x_nil ?_
            refine then_n ?_
            refine c_test _ rfl (fun hb => ?_) (fun hb => ?_)   -- cond t87
            · skip
              refine c_seq ?_
              -- region 26 DRAWS
              refine c_draw (fun w => w.cell? ⟨b6, 3, none⟩ = some (.int .u64 (Upto : Nat))) (fun i => !(Nat.beq i 7)) [(0, 2), (1, 2), (2, 1), (4, 2), (5, 2), (6, 1), (3, 0), (7, 0), (8, 2)] (by kernel_rfl) (by kernel_rfl) (by kernel_rfl) (by kernel_rfl) (hs.cell rfl) ?_
              replace hs := hs.drew
              refine x_move (.pointer _) rfl ?_
              first | refine x_field0 fa_68_3 _ rfl ?_ | refine x_field fa_68_3 _ _ rfl ?_
              refine h_load one_26 _ (.int _ _) rfl (fun w hS => by first | exact hS.cell rfl | exact (hS.pull 1).cell rfl | exact (hS.pull 2).cell rfl | exact (hS.pull 3).cell rfl | exact hS | exact hS.1 | exact hS.2 | exact hS.2.1 | exact hS.2.2 | exact hS.2.2.1 | exact hS.2.2.2 | exact hS.2.2.2.1 | exact hS.2.2.2.2) ?_
              refine x_move (.pointer _) rfl ?_
              first | refine x_field0 fa_68_3 _ rfl ?_ | refine x_field fa_68_3 _ _ rfl ?_
              refine h_load one_26 _ (.int _ _) rfl (fun w hS => by first | exact hS.cell rfl | exact (hS.pull 1).cell rfl | exact (hS.pull 2).cell rfl | exact (hS.pull 3).cell rfl | exact hS | exact hS.1 | exact hS.2 | exact hS.2.1 | exact hS.2.2 | exact hS.2.2.1 | exact hS.2.2.2 | exact hS.2.2.2.1 | exact hS.2.2.2.2) ?_
              refine x_call Try.f24 Try.func24 rfl rfl _ rfl ?_
              refine (sack_calls Upto (hs.pull 1) ok hU).mono ?_
              clear hs; rintro e w ⟨rfl, hs⟩
              have hs := hs.push 1
              refine ⟨_, rfl, fun h => hs.cell rfl, ?_⟩
              refine x_call Try.f33 Try.func33 rfl rfl _ rfl ?_
              refine (rack_calls Upto (hs.pull 2) hwl hbase1 (by omega) hU).mono ?_
              clear hs; rintro e w ⟨rfl, hs⟩
              have hs := hs.push 2
              refine ⟨_, rfl, fun h => (by cases h), ?_⟩
              refine x_neqF _ _ rfl rfl (by omega) ?_
              refine x_nil ?_
              refine then_n ?_
              refine c_false rfl ?_
              refine c_skip ?_
              refine inb_n ?_
              refine then_n ?_
              exact ⟨((s.ack Upto).2, o, m), ⟨rfl, rfl, rfl, rfl, trivial⟩, ⟨(hinv.ack Upto).mono (by omega) (by omega), by omega, by omega, hs.tail⟩⟩
            · skip
              refine c_seq ?_
              -- region 9
              refine c_region ?_
              refine x_buildSlice _ [] hs rfl (fun w => bs_30_0 w) ?_; clear hs; intro b33 w hs; refine ⟨fun h => (by cases h), ?_⟩
              first | refine x_field0 fa_68_2 _ rfl ?_ | refine x_field fa_68_2 _ _ rfl ?_
              refine x_load one_30 _ (.slice _ _ _) rfl (by first | exact hs.cell rfl | exact (hs.pull 1).cell rfl | exact (hs.pull 2).cell rfl | exact (hs.pull 3).cell rfl | assumption | exact (hs.pull 4).cell rfl | exact (hs.pull 5).cell rfl | exact (hs.pull 6).cell rfl | exact (hs.pull 7).cell rfl) ?_
              refine x_append (row_blk (size := 1) (len := 0) hs rfl (by decide)) Try.underlying30 ei_5 (hrB _ _ (hs.pull 4)) bv_one (by unfold maxLen; omega) (by omega) rfl rfl ?_
              clear hs; intro v w hs; refine ⟨fun h => (by cases h), ?_⟩
              rw [show 0 + B.length = B.length from Nat.zero_add _, show (#[] : Array Value).toList ++ bv B = bv B from rfl] at hs
              obtain ⟨a6, c6, rfl⟩ := hs.rd.val
              refine x_assign (.slice _ _ _) rfl ?_
              refine x_nil ?_
              refine then_n ?_
              refine c_seq ?_
              refine c_seq ?_
              -- region 10
              refine c_region ?_
              refine x_assign (.int _ _) rfl ?_
              refine x_nil ?_
              refine then_n ?_
              refine c_block ?_
              refine c_loop (γ := Nat × SSt) (fun (⟨k, s'⟩ : Nat × SSt) => [(0, .slice (some ⟨g, og, none⟩) acts.length c0), (3, .pointer (some ⟨S, 0, none⟩)), (4, .pointer (some ⟨b15, 0, none⟩)), (5, .int .i64 (i : Nat)), (6, .pointer (some ⟨b6, 0, none⟩)), (7, .slice a6 B.length c6), (8, .int .i64 (k : Nat))]) (fun (⟨k, s'⟩ : Nat × SSt) w => k ≤ 40 ∧ s'.inv (40 * i + k) (16 * i) ∧ Sat w0 w (Row 5 1 (.slice a6 B.length c6) B.length (bv B) :: Blk b6 (.cells #[.int .i64 Kind, .int .i64 N, .slice a2 B.length c2, .int .u64 (Upto : Nat)] 68 (0, 0)) :: SObj S s' :: X11 b15 s' o m :: [Init w0])) (fun (⟨k, s'⟩ : Nat × SSt) => 40 - k) (0, s) ⟨rfl, rfl, rfl, rfl, rfl, rfl, rfl, trivial⟩ ⟨by omega, hinv, hs⟩ ?_
              clear hs
              rintro ⟨k, s'⟩ ρ w ⟨hk, hinv', hs⟩
              change CW Try.prog 117 _ _ (sets 117 [(0, .slice (some ⟨g, og, none⟩) acts.length c0), (3, .pointer (some ⟨S, 0, none⟩)), (4, .pointer (some ⟨b15, 0, none⟩)), (5, .int .i64 (i : Nat)), (6, .pointer (some ⟨b6, 0, none⟩)), (7, .slice a6 B.length c6), (8, .int .i64 (k : Nat))] ρ) w
              have hb1' := hinv'.base1
              have hputs' := hinv'.puts
              have hwl' := hinv'.len
              have htold' := hinv'.told
              by_cases h5 : k < 1
              rotate_left
              by_cases h6 : (k : Int) < N
              by_cases h7 : k < 40
              · skip
                refine c_seq ?_
                refine c_seq ?_
                -- region 11
                refine c_region ?_
                refine x_move (.int _ _) rfl ?_
                refine x_lssF _ _ rfl rfl (by omega) ?_
                refine x_move (.bool _) rfl ?_
                refine x_want' rfl ?_
                refine x_move (.int _ _) rfl ?_
                refine x_want' rfl ?_
                first | refine x_field0 fa_68_1 _ rfl ?_ | refine x_field fa_68_1 _ _ rfl ?_
                refine x_want' rfl ?_
                refine x_load one_3 _ (.int _ _) rfl (by first | exact hs.cell rfl | exact (hs.pull 1).cell rfl | exact (hs.pull 2).cell rfl | exact (hs.pull 3).cell rfl | assumption | exact (hs.pull 4).cell rfl | exact (hs.pull 5).cell rfl | exact (hs.pull 6).cell rfl | exact (hs.pull 7).cell rfl) ?_
                refine x_want' rfl ?_
                refine x_lssT _ _ rfl rfl (by omega) ?_
                refine x_want' rfl ?_
                refine x_move (.bool _) rfl ?_
                refine x_want' rfl ?_
                refine x_move (.int _ _) rfl ?_
                refine x_want' rfl ?_
                refine x_lssT _ _ rfl rfl (by omega) ?_
                refine x_want' rfl ?_
                refine x_pickT (.bool _) rfl rfl ?_
                refine x_pickF (.bool _) rfl rfl ?_
                refine x_nil ?_
                refine then_n ?_
                refine c_true rfl ?_
                refine c_skip ?_
                refine then_n ?_
                refine c_seq ?_
                refine c_block ?_
                refine c_seq ?_
                -- region 13 DRAWS
                refine c_draw (fun w => w.cell? ⟨b6, 2, none⟩ = some (.slice a2 B.length c2)) (fun i => !(Nat.beq i 6)) [(0, 2), (1, 2), (3, 2), (4, 2), (5, 1), (2, 0), (6, 0), (7, 2)] (by kernel_rfl) (by kernel_rfl) (by kernel_rfl) (by kernel_rfl) ((hs.pull 1).cell rfl) ?_
                replace hs := hs.drew
                refine x_move (.pointer _) rfl ?_
                refine x_move (.slice _ _ _) rfl ?_
                refine x_move (.pointer _) rfl ?_
                first | refine x_field0 fa_68_2 _ rfl ?_ | refine x_field fa_68_2 _ _ rfl ?_
                refine h_load one_30 _ (.slice _ _ _) rfl (fun w hS => by first | exact hS.cell rfl | exact (hS.pull 1).cell rfl | exact (hS.pull 2).cell rfl | exact (hS.pull 3).cell rfl | exact hS | exact hS.1 | exact hS.2 | exact hS.2.1 | exact hS.2.2 | exact hS.2.2.1 | exact hS.2.2.2 | exact hS.2.2.2.1 | exact hS.2.2.2.2) ?_
                refine x_call Try.f20 Try.func20 rfl rfl _ rfl ?_
                refine (sput_calls (hs.pull 2) (fun w' e => RD.heapEq hs.rd e) hwl').mono ?_
                clear hs; rintro e w ⟨rfl, hs⟩
                have hs := hs.push 2
                refine ⟨_, rfl, fun h => (hs.pull 1).cell rfl, ?_⟩
                refine x_call Try.f34 Try.func34 rfl rfl _ rfl ?_
                refine ((rput_calls (hs.perm [3, 4, 0, 1, 2]) (fun w' L' h => hrB w' L' h) hwl' hb1' (by omega) htold')).mono ?_
                clear hs; rintro e w ⟨rfl, hs⟩
                refine ⟨_, rfl, fun h => (by cases h), ?_⟩
                have hs := hs.perm [2, 3, 4, 0, 1]
                refine x_neqF _ _ rfl rfl (by omega) ?_
                refine x_nil ?_
                refine then_n ?_
                refine c_false rfl ?_
                refine c_skip ?_
                refine inb_n ?_
                refine then_n ?_
                -- region 12
                refine c_region ?_
                refine x_move (.int _ _) rfl ?_
                refine x_add _ _ rfl rfl (by simp only [X.lo]; omega) (by simp only [X.hi]; omega) ?_
                refine x_assign (.int _ _) rfl ?_
                refine x_nil ?_
                refine then_n ?_
                refine ⟨(k + 1, (s'.put B).2), ⟨rfl, rfl, rfl, rfl, rfl, rfl, rfl, trivial⟩, ⟨by omega, hinv'.put B, hs⟩, by first | omega | (dsimp only; omega)⟩
              · skip
                refine c_seq ?_
                refine c_seq ?_
                -- region 11
                refine c_region ?_
                refine x_move (.int _ _) rfl ?_
                refine x_lssF _ _ rfl rfl (by omega) ?_
                refine x_move (.bool _) rfl ?_
                refine x_want' rfl ?_
                refine x_move (.int _ _) rfl ?_
                refine x_want' rfl ?_
                first | refine x_field0 fa_68_1 _ rfl ?_ | refine x_field fa_68_1 _ _ rfl ?_
                refine x_want' rfl ?_
                refine x_load one_3 _ (.int _ _) rfl (by first | exact hs.cell rfl | exact (hs.pull 1).cell rfl | exact (hs.pull 2).cell rfl | exact (hs.pull 3).cell rfl | assumption | exact (hs.pull 4).cell rfl | exact (hs.pull 5).cell rfl | exact (hs.pull 6).cell rfl | exact (hs.pull 7).cell rfl) ?_
                refine x_want' rfl ?_
                refine x_lssT _ _ rfl rfl (by omega) ?_
                refine x_want' rfl ?_
                refine x_move (.bool _) rfl ?_
                refine x_want' rfl ?_
                refine x_move (.int _ _) rfl ?_
                refine x_want' rfl ?_
                refine x_lssF _ _ rfl rfl (by omega) ?_
                refine x_want' rfl ?_
                refine x_pickT (.bool _) rfl rfl ?_
                refine x_pickF (.bool _) rfl rfl ?_
                refine x_nil ?_
                refine then_n ?_
                refine c_false rfl ?_
                refine c_exit ?_
                refine then_x ?_
                refine then_x ?_
                refine inb_e ?_
                refine then_n ?_
                refine c_seq ?_
                -- region 15
                refine c_region ?_
                refine x_assign (.int _ _) rfl ?_
                refine x_nil ?_
                refine then_n ?_
                refine c_block ?_
                refine c_loop (γ := Nat × List Value) (fun (⟨j, xs⟩ : Nat × List Value) => [(0, .slice (some ⟨g, og, none⟩) acts.length c0), (3, .pointer (some ⟨S, 0, none⟩)), (4, .pointer (some ⟨b15, 0, none⟩)), (5, .int .i64 (i : Nat)), (7, .slice a6 B.length c6), (9, .int .i64 (j : Nat))]) (fun (⟨j, xs⟩ : Nat × List Value) w => j ≤ B.length ∧ xs.length = B.length ∧ (∀ u ∈ xs, ∃ k : Nat, u = .int .u8 (k : Nat) ∧ k < 256) ∧ Sat w0 w (Row 5 1 (.slice a6 B.length c6) B.length xs :: SObj S s' :: X11 b15 s' o m :: [Init w0])) (fun (⟨j, xs⟩ : Nat × List Value) => B.length - j) (0, bv B) ⟨rfl, rfl, rfl, rfl, rfl, rfl, trivial⟩ ⟨Nat.zero_le _, bv_len B, bv_bytes B, (hs.pull 1).tail⟩ ?_
                clear hs
                rintro ⟨j, xs⟩ ρ w ⟨hjl, hxl, hxk, hs⟩
                change CW Try.prog 117 _ _ (sets 117 [(0, .slice (some ⟨g, og, none⟩) acts.length c0), (3, .pointer (some ⟨S, 0, none⟩)), (4, .pointer (some ⟨b15, 0, none⟩)), (5, .int .i64 (i : Nat)), (7, .slice a6 B.length c6), (9, .int .i64 (j : Nat))] ρ) w
                refine c_seq ?_
                refine c_seq ?_
                -- region 16
                refine c_region ?_
                refine x_move (.int _ _) rfl ?_
                refine x_move (.slice _ _ _) rfl ?_
                refine x_lenSl Try.underlying30 _ _ _ rfl ?_
                refine x_lss _ _ rfl rfl ?_
                refine x_nil ?_
                refine then_n ?_
                refine c_test _ rfl (fun hb => ?_) (fun hb => ?_)   -- cond t62
                · skip
                  refine c_skip ?_
                  refine then_n ?_
                  refine c_seq ?_
                  refine c_block ?_
                  -- region 18
                  have hjlt : j < xs.length := by omega
                  obtain ⟨kb, hkb, hk256⟩ := hxk _ (List.getElem_mem hjlt)
                  obtain ⟨g2, o2, rfl⟩ := hs.rowAddr (by omega)
                  have hcell : w.cell? ⟨g2, o2 + j * 1, none⟩ = some (.int .u8 (kb : Nat)) := by
                    rw [Nat.mul_one]
                    exact hs.rowCell (by rw [List.getElem?_eq_getElem hjlt, hkb])
                  refine c_region ?_
                  refine x_move (.slice _ _ _) rfl ?_
                  refine x_move (.int _ _) rfl ?_
                  refine x_move (.slice _ _ _) rfl ?_
                  refine x_move (.int _ _) rfl ?_
                  refine x_indexAddr Try.underlying30 sz_5 _ _ _ _ _ rfl rfl (by omega) ?_
                  refine x_load one_5 _ (.int _ _) rfl (by first | exact hs.cell rfl | exact (hs.pull 1).cell rfl | exact (hs.pull 2).cell rfl | exact (hs.pull 3).cell rfl | assumption | exact (hs.pull 4).cell rfl | exact (hs.pull 5).cell rfl | exact (hs.pull 6).cell rfl | exact (hs.pull 7).cell rfl) ?_
                  refine x_xor kb 255 rfl rfl rfl hk256 (by decide) ?_
                  refine x_indexAddr Try.underlying30 sz_5 _ _ _ _ _ rfl rfl (by omega) ?_
                  refine x_storeRow hs one_5 (.int .u8 ((kb ^^^ 255 : Nat) : Int)) rfl rfl rfl (by omega) ?_
                  clear hs hcell; intro w hs; refine ⟨fun h => (by cases h), ?_⟩
                  refine x_nil ?_
                  refine inb_n ?_
                  refine then_n ?_
                  -- region 17
                  refine c_region ?_
                  refine x_move (.int _ _) rfl ?_
                  refine x_add _ _ rfl rfl (by simp only [X.lo]; omega) (by simp only [X.hi]; omega) ?_
                  refine x_assign (.int _ _) rfl ?_
                  refine x_nil ?_
                  refine then_n ?_
                  refine ⟨(j + 1, xs.set (j * 1) (.int .u8 ((kb ^^^ 255 : Nat) : Int))), ⟨rfl, rfl, rfl, rfl, rfl, rfl, trivial⟩, ⟨by omega, by simpa using hxl, set_bytes hxk (Nat.xor_lt_two_pow (n := 8) hk256 (by decide)), hs⟩, by first | omega | (dsimp only; omega)⟩
                · skip
                  refine c_exit ?_
                  refine then_x ?_
                  refine then_x ?_
                  refine inb_e ?_
                  refine inb_n ?_
                  refine then_n ?_
                  exact ⟨(s', o, m), ⟨rfl, rfl, rfl, rfl, trivial⟩, ⟨hinv'.mono (by omega) (by omega), by omega, by omega, hs.tail⟩⟩
              · skip
                refine c_seq ?_
                refine c_seq ?_
                -- region 11
                refine c_region ?_
                refine x_move (.int _ _) rfl ?_
                refine x_lssF _ _ rfl rfl (by omega) ?_
                refine x_move (.bool _) rfl ?_
                refine x_want' rfl ?_
                refine x_move (.int _ _) rfl ?_
                refine x_want' rfl ?_
                first | refine x_field0 fa_68_1 _ rfl ?_ | refine x_field fa_68_1 _ _ rfl ?_
                refine x_want' rfl ?_
                refine x_load one_3 _ (.int _ _) rfl (by first | exact hs.cell rfl | exact (hs.pull 1).cell rfl | exact (hs.pull 2).cell rfl | exact (hs.pull 3).cell rfl | assumption | exact (hs.pull 4).cell rfl | exact (hs.pull 5).cell rfl | exact (hs.pull 6).cell rfl | exact (hs.pull 7).cell rfl) ?_
                refine x_want' rfl ?_
                refine x_lssF _ _ rfl rfl (by omega) ?_
                refine x_want' rfl ?_
                refine x_move (.bool _) rfl ?_
                refine x_skip rfl rfl ?_
                refine x_skip rfl rfl ?_
                refine x_want' rfl ?_
                refine x_pickF (.bool _) rfl rfl ?_
                refine x_pickF (.bool _) rfl rfl ?_
                refine x_nil ?_
                refine then_n ?_
                refine c_false rfl ?_
                refine c_exit ?_
                refine then_x ?_
                refine then_x ?_
                refine inb_e ?_
                refine then_n ?_
                refine c_seq ?_
                -- region 15
                refine c_region ?_
                refine x_assign (.int _ _) rfl ?_
                refine x_nil ?_
                refine then_n ?_
                refine c_block ?_
                refine c_loop (γ := Nat × List Value) (fun (⟨j, xs⟩ : Nat × List Value) => [(0, .slice (some ⟨g, og, none⟩) acts.length c0), (3, .pointer (some ⟨S, 0, none⟩)), (4, .pointer (some ⟨b15, 0, none⟩)), (5, .int .i64 (i : Nat)), (7, .slice a6 B.length c6), (9, .int .i64 (j : Nat))]) (fun (⟨j, xs⟩ : Nat × List Value) w => j ≤ B.length ∧ xs.length = B.length ∧ (∀ u ∈ xs, ∃ k : Nat, u = .int .u8 (k : Nat) ∧ k < 256) ∧ Sat w0 w (Row 5 1 (.slice a6 B.length c6) B.length xs :: SObj S s' :: X11 b15 s' o m :: [Init w0])) (fun (⟨j, xs⟩ : Nat × List Value) => B.length - j) (0, bv B) ⟨rfl, rfl, rfl, rfl, rfl, rfl, trivial⟩ ⟨Nat.zero_le _, bv_len B, bv_bytes B, (hs.pull 1).tail⟩ ?_
                clear hs
                rintro ⟨j, xs⟩ ρ w ⟨hjl, hxl, hxk, hs⟩
                change CW Try.prog 117 _ _ (sets 117 [(0, .slice (some ⟨g, og, none⟩) acts.length c0), (3, .pointer (some ⟨S, 0, none⟩)), (4, .pointer (some ⟨b15, 0, none⟩)), (5, .int .i64 (i : Nat)), (7, .slice a6 B.length c6), (9, .int .i64 (j : Nat))] ρ) w
                refine c_seq ?_
                refine c_seq ?_
                -- region 16
                refine c_region ?_
                refine x_move (.int _ _) rfl ?_
                refine x_move (.slice _ _ _) rfl ?_
                refine x_lenSl Try.underlying30 _ _ _ rfl ?_
                refine x_lss _ _ rfl rfl ?_
                refine x_nil ?_
                refine then_n ?_
                refine c_test _ rfl (fun hb => ?_) (fun hb => ?_)   -- cond t62
                · skip
                  refine c_skip ?_
                  refine then_n ?_
                  refine c_seq ?_
                  refine c_block ?_
                  -- region 18
                  have hjlt : j < xs.length := by omega
                  obtain ⟨kb, hkb, hk256⟩ := hxk _ (List.getElem_mem hjlt)
                  obtain ⟨g2, o2, rfl⟩ := hs.rowAddr (by omega)
                  have hcell : w.cell? ⟨g2, o2 + j * 1, none⟩ = some (.int .u8 (kb : Nat)) := by
                    rw [Nat.mul_one]
                    exact hs.rowCell (by rw [List.getElem?_eq_getElem hjlt, hkb])
                  refine c_region ?_
                  refine x_move (.slice _ _ _) rfl ?_
                  refine x_move (.int _ _) rfl ?_
                  refine x_move (.slice _ _ _) rfl ?_
                  refine x_move (.int _ _) rfl ?_
                  refine x_indexAddr Try.underlying30 sz_5 _ _ _ _ _ rfl rfl (by omega) ?_
                  refine x_load one_5 _ (.int _ _) rfl (by first | exact hs.cell rfl | exact (hs.pull 1).cell rfl | exact (hs.pull 2).cell rfl | exact (hs.pull 3).cell rfl | assumption | exact (hs.pull 4).cell rfl | exact (hs.pull 5).cell rfl | exact (hs.pull 6).cell rfl | exact (hs.pull 7).cell rfl) ?_
                  refine x_xor kb 255 rfl rfl rfl hk256 (by decide) ?_
                  refine x_indexAddr Try.underlying30 sz_5 _ _ _ _ _ rfl rfl (by omega) ?_
                  refine x_storeRow hs one_5 (.int .u8 ((kb ^^^ 255 : Nat) : Int)) rfl rfl rfl (by omega) ?_
                  clear hs hcell; intro w hs; refine ⟨fun h => (by cases h), ?_⟩
                  refine x_nil ?_
                  refine inb_n ?_
                  refine then_n ?_
                  -- region 17
                  refine c_region ?_
                  refine x_move (.int _ _) rfl ?_
                  refine x_add _ _ rfl rfl (by simp only [X.lo]; omega) (by simp only [X.hi]; omega) ?_
                  refine x_assign (.int _ _) rfl ?_
                  refine x_nil ?_
                  refine then_n ?_
                  refine ⟨(j + 1, xs.set (j * 1) (.int .u8 ((kb ^^^ 255 : Nat) : Int))), ⟨rfl, rfl, rfl, rfl, rfl, rfl, trivial⟩, ⟨by omega, by simpa using hxl, set_bytes hxk (Nat.xor_lt_two_pow (n := 8) hk256 (by decide)), hs⟩, by first | omega | (dsimp only; omega)⟩
                · skip
                  refine c_exit ?_
                  refine then_x ?_
                  refine then_x ?_
                  refine inb_e ?_
                  refine inb_n ?_
                  refine then_n ?_
                  exact ⟨(s', o, m), ⟨rfl, rfl, rfl, rfl, trivial⟩, ⟨hinv'.mono (by omega) (by omega), by omega, by omega, hs.tail⟩⟩
              · skip
                refine c_seq ?_
                refine c_seq ?_
                -- region 11
                refine c_region ?_
                refine x_move (.int _ _) rfl ?_
                refine x_lssT _ _ rfl rfl (by omega) ?_
                refine x_move (.bool _) rfl ?_
                refine x_skip rfl rfl ?_
                refine x_skip rfl rfl ?_
                refine x_skip rfl rfl ?_
                refine x_skip rfl rfl ?_
                refine x_skip rfl rfl ?_
                refine x_skipU rfl ?_
                refine x_skipU rfl ?_
                refine x_skip rfl rfl ?_
                refine x_pickT (.bool _) rfl rfl ?_
                refine x_nil ?_
                refine then_n ?_
                refine c_true rfl ?_
                refine c_skip ?_
                refine then_n ?_
                refine c_seq ?_
                refine c_block ?_
                refine c_seq ?_
                -- region 13 DRAWS
                refine c_draw (fun w => w.cell? ⟨b6, 2, none⟩ = some (.slice a2 B.length c2)) (fun i => !(Nat.beq i 6)) [(0, 2), (1, 2), (3, 2), (4, 2), (5, 1), (2, 0), (6, 0), (7, 2)] (by kernel_rfl) (by kernel_rfl) (by kernel_rfl) (by kernel_rfl) ((hs.pull 1).cell rfl) ?_
                replace hs := hs.drew
                refine x_move (.pointer _) rfl ?_
                refine x_move (.slice _ _ _) rfl ?_
                refine x_move (.pointer _) rfl ?_
                first | refine x_field0 fa_68_2 _ rfl ?_ | refine x_field fa_68_2 _ _ rfl ?_
                refine h_load one_30 _ (.slice _ _ _) rfl (fun w hS => by first | exact hS.cell rfl | exact (hS.pull 1).cell rfl | exact (hS.pull 2).cell rfl | exact (hS.pull 3).cell rfl | exact hS | exact hS.1 | exact hS.2 | exact hS.2.1 | exact hS.2.2 | exact hS.2.2.1 | exact hS.2.2.2 | exact hS.2.2.2.1 | exact hS.2.2.2.2) ?_
                refine x_call Try.f20 Try.func20 rfl rfl _ rfl ?_
                refine (sput_calls (hs.pull 2) (fun w' e => RD.heapEq hs.rd e) hwl').mono ?_
                clear hs; rintro e w ⟨rfl, hs⟩
                have hs := hs.push 2
                refine ⟨_, rfl, fun h => (hs.pull 1).cell rfl, ?_⟩
                refine x_call Try.f34 Try.func34 rfl rfl _ rfl ?_
                refine ((rput_calls (hs.perm [3, 4, 0, 1, 2]) (fun w' L' h => hrB w' L' h) hwl' hb1' (by omega) htold')).mono ?_
                clear hs; rintro e w ⟨rfl, hs⟩
                refine ⟨_, rfl, fun h => (by cases h), ?_⟩
                have hs := hs.perm [2, 3, 4, 0, 1]
                refine x_neqF _ _ rfl rfl (by omega) ?_
                refine x_nil ?_
                refine then_n ?_
                refine c_false rfl ?_
                refine c_skip ?_
                refine inb_n ?_
                refine then_n ?_
                -- region 12
                refine c_region ?_
                refine x_move (.int _ _) rfl ?_
                refine x_add _ _ rfl rfl (by simp only [X.lo]; omega) (by simp only [X.hi]; omega) ?_
                refine x_assign (.int _ _) rfl ?_
                refine x_nil ?_
                refine then_n ?_
                refine ⟨(k + 1, (s'.put B).2), ⟨rfl, rfl, rfl, rfl, rfl, rfl, rfl, trivial⟩, ⟨by omega, hinv'.put B, hs⟩, by first | omega | (dsimp only; omega)⟩
      · skip
        clear hs
        rintro ⟨s', o', m'⟩ ρ w ⟨hinv', ho', hm', hs⟩
        change CW Try.prog 117 _ _ (sets 117 [(0, .slice (some ⟨g, og, none⟩) acts.length c0), (3, .pointer (some ⟨S, 0, none⟩)), (4, .pointer (some ⟨b15, 0, none⟩)), (5, .int .i64 (i : Nat))] ρ) w
        have hb1' := hinv'.base1
        have hputs' := hinv'.puts
        have hwl' := hinv'.len
        obtain ⟨a7, c7, a8, c8, us, hul, hs⟩ := (hs.pull 1).x11
        refine c_seq ?_
        -- region 28 DRAWS
        refine c_draw (fun w => w.cell? ⟨b15, 0, none⟩ = some (.slice a7 s'.wait.length c7) ∧ w.cell? ⟨b15, 2, none⟩ = some (.int .u64 ((s'.base + s'.wait.length - 1 : Nat) : Int))) (fun i => !(false)) [(0, 2), (2, 2), (3, 2), (4, 2), (5, 1), (6, 2), (1, 0), (7, 2), (8, 2), (9, 2), (11, 2), (12, 2), (13, 2), (14, 1), (15, 2), (10, 0), (16, 2), (17, 2)] (by kernel_rfl) (by kernel_rfl) (by kernel_rfl) (by kernel_rfl) (⟨hs.cell rfl, hs.cell rfl⟩) ?_
        replace hs := hs.drew
        refine x_move (.pointer _) rfl ?_
        refine x_move (.pointer _) rfl ?_
        refine x_nilCheck _ rfl ?_
        first | refine x_field0 fa_66_0 _ rfl ?_ | refine x_field fa_66_0 _ _ rfl ?_
        refine h_load one_27 _ (.slice _ _ _) rfl (fun w hS => by first | exact hS.cell rfl | exact (hS.pull 1).cell rfl | exact (hS.pull 2).cell rfl | exact (hS.pull 3).cell rfl | exact hS | exact hS.1 | exact hS.2 | exact hS.2.1 | exact hS.2.2 | exact hS.2.2.1 | exact hS.2.2.2 | exact hS.2.2.2.1 | exact hS.2.2.2.2) ?_
        refine x_lenSl Try.underlying27 _ _ _ rfl ?_
        refine x_call Try.f25 Try.func25 rfl rfl _ rfl ?_
        refine (slen_calls (hs.pull 4)).mono ?_
        clear hs; rintro e w ⟨rfl, hs⟩
        have hs := hs.push 4
        refine ⟨_, rfl, fun h => ⟨hs.cell rfl, hs.cell rfl⟩, ?_⟩
        refine x_neqF _ _ rfl rfl (by omega) ?_
        refine x_move (.bool _) rfl ?_
        refine x_want' rfl ?_
        refine x_move (.pointer _) rfl ?_
        refine x_want' rfl ?_
        refine x_move (.pointer _) rfl ?_
        refine x_want' rfl ?_
        refine x_nilCheck _ rfl ?_
        refine x_want' rfl ?_
        first | refine x_field0 fa_66_2 _ rfl ?_ | refine x_field fa_66_2 _ _ rfl ?_
        refine x_want' rfl ?_
        refine h_load one_26 _ (.int _ _) rfl (fun w hS => by first | exact hS.cell rfl | exact (hS.pull 1).cell rfl | exact (hS.pull 2).cell rfl | exact (hS.pull 3).cell rfl | exact hS | exact hS.1 | exact hS.2 | exact hS.2.1 | exact hS.2.2 | exact hS.2.2.1 | exact hS.2.2.2 | exact hS.2.2.2.1 | exact hS.2.2.2.2) ?_
        refine x_want' rfl ?_
        refine x_add _ _ rfl rfl (by simp only [X.lo]; omega) (by simp only [X.hi]; omega) ?_
        refine x_want' rfl ?_
        refine x_call Try.f35 Try.func35 rfl rfl _ rfl ?_
        refine (snext_calls (hs.pull 4) (by omega) hwl').mono ?_
        clear hs; rintro e w ⟨rfl, hs⟩
        have hs := hs.push 4
        refine ⟨_, rfl, fun h => ⟨hs.cell rfl, hs.cell rfl⟩, ?_⟩
        refine x_want' rfl ?_
        refine x_neqF _ _ rfl rfl (by omega) ?_
        refine x_pickF (.bool _) rfl rfl ?_
        refine x_nil ?_
        refine then_n ?_
        refine c_false rfl ?_
        refine c_skip ?_
        refine inb_n ?_
        refine then_n ?_
        -- region 6
        refine c_region ?_
        refine x_move (.int _ _) rfl ?_
        refine x_add _ _ rfl rfl (by simp only [X.lo]; omega) (by simp only [X.hi]; omega) ?_
        refine x_assign (.int _ _) rfl ?_
        refine x_nil ?_
        refine then_n ?_
        have hs := (Sat.x11' (s := s') hs).perm [1, 0]
        refine ⟨(i + 1, s', o', m'), ⟨rfl, rfl, rfl, rfl, trivial⟩, ⟨by omega, hinv'.mono (by omega) (by omega), by omega, by omega, hs⟩, by first | omega | (dsimp only; omega)⟩
    · skip
      refine c_seq ?_
      refine c_seq ?_
      -- region 5
      refine c_region ?_
      refine x_move (.int _ _) rfl ?_
      refine x_move (.slice _ _ _) rfl ?_
      refine x_lenSl Try.underlying61 _ _ _ rfl ?_
      refine x_lssT _ _ rfl rfl (by omega) ?_
      refine x_move (.bool _) rfl ?_
      refine x_want' rfl ?_
      refine x_move (.int _ _) rfl ?_
      refine x_want' rfl ?_
      refine x_lssF _ _ rfl rfl (by omega) ?_
      refine x_pickT (.bool _) rfl rfl ?_
      refine x_nil ?_
      refine then_n ?_
      refine c_false rfl ?_
      refine c_exit ?_
      refine then_x ?_
      refine then_x ?_
      refine inb_e ?_
      refine then_n ?_
      refine c_seq ?_
      -- region 30
      refine c_region ?_
      refine x_call Try.f26 Try.func26 rfl rfl _ rfl ?_
      refine (awake11_calls hs).mono ?_
      clear hs; rintro e w ⟨rfl, hs⟩
      refine ⟨_, rfl, fun h => (by cases h), ?_⟩
      refine x_assign (.bool _) rfl ?_
      refine x_nil ?_
      refine then_n ?_
      refine c_ret ?_
      refine ⟨.inr rfl, ?_⟩
      exact ⟨rfl, hs.tail.tail⟩
    · skip
      refine c_seq ?_
      refine c_seq ?_
      -- region 5
      refine c_region ?_
      refine x_move (.int _ _) rfl ?_
      refine x_move (.slice _ _ _) rfl ?_
      refine x_lenSl Try.underlying61 _ _ _ rfl ?_
      refine x_lssF _ _ rfl rfl (by omega) ?_
      refine x_move (.bool _) rfl ?_
      refine x_skip rfl rfl ?_
      refine x_skip rfl rfl ?_
      refine x_pickF (.bool _) rfl rfl ?_
      refine x_nil ?_
      refine then_n ?_
      refine c_false rfl ?_
      refine c_exit ?_
      refine then_x ?_
      refine then_x ?_
      refine inb_e ?_
      refine then_n ?_
      refine c_seq ?_
      -- region 30
      refine c_region ?_
      refine x_call Try.f26 Try.func26 rfl rfl _ rfl ?_
      refine (awake11_calls hs).mono ?_
      clear hs; rintro e w ⟨rfl, hs⟩
      refine ⟨_, rfl, fun h => (by cases h), ?_⟩
      refine x_assign (.bool _) rfl ?_
      refine x_nil ?_
      refine then_n ?_
      refine c_ret ?_
      refine ⟨.inr rfl, ?_⟩
      exact ⟨rfl, hs.tail.tail⟩
end Go.Proofs.Ytphakfggocdphaa.X
