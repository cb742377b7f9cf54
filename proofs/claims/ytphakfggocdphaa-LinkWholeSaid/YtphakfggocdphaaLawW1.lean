/-
  LAYER 11: the law WindowAll.
-/
import Derived.Test.YtphakfggocdphaaLawW0
import Derived.Test.YtphakfggocdphaaCmp
namespace Go.Proofs.Ytphakfggocdphaa.X
open Go Go.RowKit
set_option linter.unusedVariables false
set_option maxRecDepth 20000
/-- a sender of which nothing is told, 'at' have arrived -/
def wa (ls : List (List UInt8)) (a : Nat) : SSt := ⟨a + 1, ls.drop a, 0, 0, a, 0⟩
def wp (ls : List (List UInt8)) (i : Nat) : SSt := ⟨1, ls.take i, 0, 0, 0, 0⟩
def outs (ls : List (List UInt8)) (a k : Nat) : List Item := (List.range k).map fun j => (a + 1 + j, ls.getD (a + j) [])
theorem wp_put {ls : List (List UInt8)} {i : Nat} {b : List UInt8} (h : ls[i]? = some b) (h1 : b.length ≤ 100) (h2 : i < 128) : (wp ls i).put b = (0, wp ls (i + 1)) := by
  have h3 : (ls.take i).length ≤ i := by simp; omega
  unfold SSt.put wp
  rw [if_neg (by omega), if_neg (by dsimp only; omega)]
  simp [List.take_add_one, h]
theorem or_ones (i : Nat) : (2 ^ i - 1) ||| 1 <<< i = 2 ^ (i + 1) - 1 := by
  rw [Nat.one_shiftLeft]
  have h := Nat.two_pow_add_eq_or_of_lt (i := i) (b := 2 ^ i - 1) (Nat.sub_lt (Nat.two_pow_pos i) Nat.one_pos) 1
  rw [Nat.mul_one] at h
  rw [Nat.or_comm, ← h]
  have := Nat.two_pow_pos i
  rw [Nat.pow_succ]
  omega
theorem ones_shr (i : Nat) : (2 ^ i - 1) >>> i = 0 := by
  rw [Nat.shiftRight_eq_div_pow]
  exact Nat.div_eq_of_lt (Nat.sub_lt (Nat.two_pow_pos i) Nat.one_pos)
theorem wa_dueD (ls : List (List UInt8)) (a : Nat) : ∀ i, (wa ls a).dueD i = ⟨2 ^ i - 1, 2 ^ i - 1, a + i, 0, outs ls a i⟩
  | 0 => rfl
  | i + 1 => by
    rw [show (wa ls a).dueD (i + 1) = (wa ls a).dueStep i ((wa ls a).dueD i) from rfl, wa_dueD ls a i]
    unfold SSt.dueStep
    rw [if_pos (by dsimp only; rw [ones_shr]), if_pos (by dsimp only; rw [ones_shr])]
    dsimp only
    rw [or_ones]
    have e : outs ls a i ++ [((wa ls a).base + i, (wa ls a).wait.getD i [])] = outs ls a (i + 1) := by
      simp [outs, wa, List.range_succ, List.getD_eq_getElem?_getD, List.getElem?_drop]
    rw [e, Nat.add_assoc]
def wt (ls : List (List UInt8)) (a k : Nat) : SSt := ⟨a + 1, ls.drop a, 2 ^ k - 1, 2 ^ k - 1, a + k, 0⟩
theorem wa_due (ls : List (List UInt8)) (a : Nat) : (wa ls a).due = (outs ls a (min 16 (ls.length - a)), wt ls a (min 16 (ls.length - a))) := by
  unfold SSt.due
  rw [wa_dueD, show (wa ls a).wait.length = ls.length - a from by simp [wa]]
  rfl
theorem wt_ack {ls : List (List UInt8)} {a k : Nat} (h : k ≤ ls.length - a) (h0 : 0 < k) : (wt ls a k).ack (a + k) = (k, wa ls (a + k)) := by
  unfold SSt.ack
  have h1 : (wt ls a k).wait.length = ls.length - a := by simp [wt]
  have h2 : (wt ls a k).base = a + 1 := rfl
  rw [if_neg (by rw [h1, h2]; omega), h2, show a + k - (a + 1) + 1 = k from by omega]
  simp [wt, wa, ones_shr]
theorem wa_ok {ls : List (List UInt8)} {a : Nat} (h1 : ls.length ≤ 128) (h2 : ∀ l ∈ ls, l.length ≤ 100) (h3 : a ≤ 128) : (wa ls a).ok :=
  ⟨by simp [wa]; omega, by simp [wa]; omega, fun l hl => by
    have := h2 l (List.mem_of_mem_drop hl)
    omega, by simp [wa], by simp [wa], by simp [wa]; omega, by simp [wa]⟩
theorem wt_ok {ls : List (List UInt8)} {a k : Nat} (h1 : ls.length ≤ 128) (h2 : ∀ l ∈ ls, l.length ≤ 100) (h3 : a ≤ 128) (h4 : k ≤ 16) : (wt ls a k).ok := by
  have h5 : 2 ^ k ≤ 2 ^ 16 := Nat.pow_le_pow_right (by decide) h4
  have h6 : 2 ^ k - 1 < 4294967296 := by omega
  exact ⟨by simp [wt]; omega, by simp [wt]; omega, fun l hl => by
    have := h2 l (List.mem_of_mem_drop hl)
    omega, h6, h6, by simp [wt]; omega, by simp [wt]⟩
theorem outs_len (ls : List (List UInt8)) (a k : Nat) : (outs ls a k).length = k := by simp [outs]
theorem outs_get {ls : List (List UInt8)} {a k m : Nat} {b : List UInt8} (h : m < k) (hb : ls[a + m]? = some b) : (outs ls a k)[m]? = some (a + 1 + m, b) := by
  simp [outs, List.getElem?_range h, List.getD_eq_getElem?_getD, hb]
structure GW1 where
  i : Nat
structure GW2 where
  t : Nat
  a : Nat
structure GW3 where
  k : Nat
set_option maxHeartbeats 8000000 in
theorem walk_WindowAll {H : Type} {enc : TypeId × Value → H} {w0 : World} {a0 : Option Addr} {l0 c0 : Nat} (h0 : TR enc Try.prog w0 35 [.slice a0 l0 c0]) :
    Calls Try.prog 7 #[.slice a0 l0 c0] w0 fun e w' => e = .returned (.bool true) ∧ Below w0.heap.size w0 w' := by
  obtain ⟨v, ls, hv, hrd, hlen, hxs⟩ := h0.bytess Try.underlying35 Try.underlying30 Try.underlying5 (by kernel_rfl) (by kernel_rfl)
  obtain rfl : v = .slice a0 l0 c0 := by simpa using hv.symm
  have hl0 : l0 = ls.length := by
    obtain ⟨_, _, h⟩ := hrd.val
    cases h
    rfl
  subst hl0
  refine law_of fun w hs => ?_
  have hin : ∀ w' L', Sat w0 w' (Init w0 :: L') → RBB w' (.slice a0 ls.length c0) ls := fun w' L' h => hrd.below h.init
  unfold maxLen at hlen hxs
  refine enter Try.func7 rfl Try.ntmps7 2 rfl (Nat.le_of_ble_eq_true rfl) ?_
  refine c_seq ?_
  -- region 0
  refine c_region ?_
  refine x_assign (.bool _) rfl ?_
  refine x_nil ?_
  refine then_n ?_
  refine c_seq ?_
  refine c_seq ?_
  -- region 1
  refine c_region ?_
  refine x_move (.slice _ _ _) rfl ?_
  refine x_lenSl Try.underlying35 _ _ _ rfl ?_
  refine x_gtr _ _ rfl rfl ?_
  refine x_nil ?_
  refine then_n ?_
  refine c_test _ rfl (fun hb => ?_) (fun hb => ?_)   -- cond t11
  · skip
    refine c_seq ?_
    -- region 2
    refine c_region ?_
    refine x_call Try.f26 Try.func26 rfl rfl [] rfl ?_
    refine (awake11_calls hs).mono ?_
    clear hs; rintro e w ⟨rfl, hs⟩
    refine ⟨.bool true, rfl, fun h => (by cases h), ?_⟩
    refine x_assign (.bool _) rfl ?_
    refine x_nil ?_
    refine then_n ?_
    refine c_ret ?_
    refine then_r ?_
    refine ⟨.inr rfl, ?_⟩
    exact ⟨rfl, hs⟩
  · skip
    refine c_skip ?_
    refine then_n ?_
    refine c_seq ?_
    -- region 3
    refine c_region ?_
    refine x_call Try.f27 Try.func27 rfl rfl [] rfl ?_
    refine (snew_calls hs).mono ?_
    clear hs; rintro e w ⟨S, rfl, hs⟩
    refine ⟨.pointer (some ⟨S, 0, none⟩), rfl, fun h => (by cases h), ?_⟩
    refine x_assign (.pointer _) rfl ?_
    refine x_nil ?_
    refine then_n ?_
    refine c_seq ?_
    refine c_seq ?_
    -- region 4
    refine c_region ?_
    refine x_assign (.int _ _) rfl ?_
    refine x_nil ?_
    refine then_n ?_
    refine c_block ?_
    refine c_loop (γ := GW1) (fun g => [(0, .slice a0 ls.length c0), (3, .pointer (some ⟨S, 0, none⟩)), (4, .int .i64 (g.i : Nat))]) (fun g w => g.i ≤ ls.length ∧ (∀ j l, j < g.i → ls[j]? = some l → l.length ≤ 100) ∧ Sat w0 w (SObj S (wp ls g.i) :: [Init w0])) (fun g => ls.length - g.i) ⟨0⟩ ⟨rfl, rfl, rfl, trivial⟩ ⟨Nat.zero_le _, fun j l h => by (dsimp only at h; omega), hs⟩ ?_
    clear hs
    rintro ⟨i⟩ ρ w ⟨hil, hle, hs⟩
    dsimp only at hil hle hs
    change CW Try.prog 97 _ _ (sets 97 [(0, .slice a0 ls.length c0), (3, .pointer (some ⟨S, 0, none⟩)), (4, .int .i64 (i : Nat))] ρ) w
    refine c_seq ?_
    refine c_seq ?_
    -- region 5
    refine c_region ?_
    refine x_move (.int _ _) rfl ?_
    refine x_move (.slice _ _ _) rfl ?_
    refine x_lenSl Try.underlying35 _ _ _ rfl ?_
    refine x_lss _ _ rfl rfl ?_
    refine x_nil ?_
    refine then_n ?_
    refine c_test _ rfl (fun hb => ?_) (fun hb => ?_)   -- cond t17
    · skip
      refine c_skip ?_
      refine then_n ?_
      refine c_seq ?_
      refine c_block ?_
      refine c_seq ?_
      refine c_seq ?_
      -- region 7
      obtain ⟨b, hbi⟩ : ∃ b, ls[i]? = some b := ⟨ls[i]'(by omega), List.getElem?_eq_getElem _⟩
      obtain ⟨g, o, a1, c1, rfl, hcell, hrb⟩ := (hin _ _ (hs.pull 1)).get hbi
      have hbl := hxs b (List.mem_of_getElem? hbi)
      refine c_region ?_
      refine x_move (.slice _ _ _) rfl ?_
      refine x_move (.int _ _) rfl ?_
      refine x_indexAddr Try.underlying35 sz_30 _ _ _ _ _ rfl rfl (by omega) ?_
      refine x_load one_30 _ (.slice _ _ _) rfl (by first | exact hs.cell rfl | exact (hs.pull 1).cell rfl | exact (hs.pull 2).cell rfl | exact (hs.pull 3).cell rfl | assumption | exact (hs.pull 4).cell rfl | exact (hs.pull 5).cell rfl | exact (hs.pull 6).cell rfl | exact (hs.pull 7).cell rfl) ?_
      refine x_lenSl Try.underlying30 _ _ _ rfl ?_
      refine x_gtr _ _ rfl rfl ?_
      refine x_nil ?_
      refine then_n ?_
      refine c_test _ rfl (fun hb => ?_) (fun hb => ?_)   -- cond t25
      · skip
        refine c_seq ?_
        -- region 8
        refine c_region ?_
        refine x_call Try.f26 Try.func26 rfl rfl [] rfl ?_
        refine (awake11_calls hs).mono ?_
        clear hs hcell hrb; rintro e w ⟨rfl, hs⟩
        refine ⟨.bool true, rfl, fun h => (by cases h), ?_⟩
        refine x_assign (.bool _) rfl ?_
        refine x_nil ?_
        refine then_n ?_
        refine c_ret ?_
        refine then_r ?_
        refine inb_r ?_
        refine then_r ?_
        refine then_r ?_
        refine inb_r ?_
        refine then_r ?_
        refine ⟨.inr rfl, ?_⟩
        exact ⟨rfl, hs.tail⟩
      · skip
        refine c_skip ?_
        refine then_n ?_
        refine c_seq ?_
        -- region 9
        refine c_region ?_
        refine x_move (.pointer _) rfl ?_
        refine x_move (.slice _ _ _) rfl ?_
        refine x_move (.int _ _) rfl ?_
        refine x_indexAddr Try.underlying35 sz_30 _ _ _ _ _ rfl rfl (by omega) ?_
        refine x_load one_30 _ (.slice _ _ _) rfl (by first | exact hs.cell rfl | exact (hs.pull 1).cell rfl | exact (hs.pull 2).cell rfl | exact (hs.pull 3).cell rfl | assumption | exact (hs.pull 4).cell rfl | exact (hs.pull 5).cell rfl | exact (hs.pull 6).cell rfl | exact (hs.pull 7).cell rfl) ?_
        refine x_call Try.f20 Try.func20 rfl rfl [.pointer (some ⟨S, 0, none⟩), .slice a1 b.length c1] rfl ?_
        refine (sput_calls hs (fun w' e => hrb.heapEq e) (by simp [wp]; omega)).mono ?_
        rw [wp_put hbi (by omega) (by omega)]
        clear hs hcell hrb; rintro e w ⟨rfl, hs⟩
        refine ⟨.int .i64 0, rfl, fun h => (by cases h), ?_⟩
        refine x_neq _ _ rfl rfl ?_
        refine x_nil ?_
        refine then_n ?_
        refine c_test _ rfl (fun hb => ?_) (fun hb => ?_)   -- cond t33
        · skip
          refine c_seq ?_
          -- region 10
          refine c_region ?_
          refine x_assign (.bool _) rfl ?_
          refine x_nil ?_
          refine then_n ?_
          refine c_ret ?_
          refine inb_r ?_
          refine then_r ?_
          refine then_r ?_
          refine inb_r ?_
          refine then_r ?_
          refine ⟨.inr rfl, ?_⟩
          exact absurd rfl hb
        · skip
          refine c_skip ?_
          refine inb_n ?_
          refine then_n ?_
          -- region 6
          refine c_region ?_
          refine x_move (.int _ _) rfl ?_
          refine x_add _ _ rfl rfl (by simp only [X.lo]; omega) (by simp only [X.hi]; omega) ?_
          refine x_assign (.int _ _) rfl ?_
          refine x_nil ?_
          refine then_n ?_
          refine ⟨⟨i + 1⟩, ⟨rfl, rfl, rfl, trivial⟩, ⟨by dsimp only; omega, fun j l hj hl => ?_, hs⟩, by dsimp only; omega⟩
          dsimp only at hj
          by_cases e : j = i
          · subst e
            rw [hbi] at hl
            cases hl
            omega
          · exact hle j l (by omega) hl
    · skip
      refine c_exit ?_
      refine then_x ?_
      refine then_x ?_
      refine inb_e ?_
      refine then_n ?_
      refine c_seq ?_
      -- region 11
      obtain rfl : i = ls.length := by omega
      have hle2 : ∀ l ∈ ls, l.length ≤ 100 := fun l hl => by
        obtain ⟨j, hj, rfl⟩ := List.getElem_of_mem hl
        exact hle j _ hj (List.getElem?_eq_getElem hj)
      have hs : Sat w0 w (SObj S (wa ls 0) :: [Init w0]) := by
        have e : wp ls ls.length = wa ls 0 := by simp [wp, wa]
        rw [← e]
        exact hs
      refine c_region ?_
      refine x_assign (.int _ _) rfl ?_
      refine x_nil ?_
      refine then_n ?_
      refine c_seq ?_
      refine c_seq ?_
      -- region 12
      refine c_region ?_
      refine x_assign (.int _ _) rfl ?_
      refine x_nil ?_
      refine then_n ?_
      refine c_block ?_
      refine c_loop (γ := GW2) (fun g => [(0, .slice a0 ls.length c0), (3, .pointer (some ⟨S, 0, none⟩)), (5, .int .i64 (g.a : Nat)), (6, .int .i64 (g.t : Nat))]) (fun g w => g.t ≤ 20 ∧ g.a ≤ ls.length ∧ (16 * g.t ≤ g.a ∨ g.a = ls.length) ∧ Sat w0 w (SObj S (wa ls g.a) :: [Init w0])) (fun g => 20 - g.t) ⟨0, 0⟩ ⟨rfl, rfl, rfl, rfl, trivial⟩ ⟨Nat.zero_le _, Nat.zero_le _, .inl (Nat.le_refl _), hs⟩ ?_
      clear hs
      rintro ⟨t, a⟩ ρ w ⟨htl, hal, hta, hs⟩
      dsimp only at htl hal hta hs
      change CW Try.prog 97 _ _ (sets 97 [(0, .slice a0 ls.length c0), (3, .pointer (some ⟨S, 0, none⟩)), (5, .int .i64 (a : Nat)), (6, .int .i64 (t : Nat))] ρ) w
      have hwl : (wa ls a).wait.length = ls.length - a := by simp [wa]
      by_cases h1 : t < 20
      by_cases h2 : a < ls.length
      · skip
        refine c_seq ?_
        refine c_seq ?_
        -- region 13
        refine c_region ?_
        refine x_move (.int _ _) rfl ?_
        refine x_lssT _ _ rfl rfl (by omega) ?_
        refine x_move (.bool _) rfl ?_
        refine x_want' rfl ?_
        refine x_move (.pointer _) rfl ?_
        refine x_want' rfl ?_
        refine x_call Try.f25 Try.func25 rfl rfl [.pointer (some ⟨S, 0, none⟩)] rfl ?_
        refine (slen_calls hs).mono ?_
        clear hs; rintro e w ⟨rfl, hs⟩
        refine ⟨.int .i64 (wa ls a).wait.length, rfl, fun h => (by cases h), ?_⟩
        refine x_want' rfl ?_
        refine x_gtrT _ _ rfl rfl (by omega) ?_
        refine x_pickT (.bool _) rfl rfl ?_
        refine x_nil ?_
        refine then_n ?_
        refine c_true rfl ?_
        refine c_skip ?_
        refine then_n ?_
        refine c_seq ?_
        refine c_block ?_
        refine c_seq ?_
        -- region 15
        refine c_region ?_
        refine x_move (.pointer _) rfl ?_
        refine x_call Try.f22 Try.func22 rfl rfl [.pointer (some ⟨S, 0, none⟩)] rfl ?_
        refine (sdue_calls hs (wa_ok (by omega) hle2 (by omega))).mono ?_
        rw [wa_due]
        generalize hk : min 16 (ls.length - a) = k
        clear hs; rintro e w ⟨v1, rfl, hs⟩
        refine ⟨v1, rfl, fun h => (by cases h), ?_⟩
        obtain ⟨us, hs⟩ := hs.ir
        have hol := outs_len ls a k
        obtain ⟨a1, c1, rfl⟩ : ∃ a' c, v1 = .slice a' k c := by
          have := hs.rd.val
          rwa [hol] at this
        dsimp only at hs
        rw [hol] at hs
        obtain ⟨g, o, rfl⟩ := hs.rowAddr (by omega)
        refine x_assign (.slice _ _ _) rfl ?_
        refine x_nil ?_
        refine then_n ?_
        refine c_seq ?_
        refine c_seq ?_
        -- region 16
        refine c_region ?_
        refine x_assign (.int _ _) rfl ?_
        refine x_nil ?_
        refine then_n ?_
        refine c_block ?_
        refine c_loop (γ := GW3) (fun g' => [(0, .slice a0 ls.length c0), (3, .pointer (some ⟨S, 0, none⟩)), (5, .int .i64 ((a + g'.k : Nat) : Int)), (6, .int .i64 (t : Nat)), (7, .slice (some ⟨g, o, none⟩) k c1), (8, .int .i64 (g'.k : Nat))]) (fun g' w => g'.k ≤ k ∧ Sat w0 w (Row 56 2 (.slice (some ⟨g, o, none⟩) k c1) k (icells ((outs ls a k).map (·.1)) us) :: EachB us ((outs ls a k).map (·.2)) :: SObj S (wt ls a k) :: [Init w0])) (fun g' => k - g'.k) ⟨0⟩ ⟨rfl, rfl, rfl, rfl, rfl, rfl, trivial⟩ ⟨Nat.zero_le _, hs⟩ ?_
        clear hs
        rintro ⟨m⟩ ρ w ⟨hml, hs⟩
        dsimp only at hml hs
        change CW Try.prog 97 _ _ (sets 97 [(0, .slice a0 ls.length c0), (3, .pointer (some ⟨S, 0, none⟩)), (5, .int .i64 ((a + m : Nat) : Int)), (6, .int .i64 (t : Nat)), (7, .slice (some ⟨g, o, none⟩) k c1), (8, .int .i64 (m : Nat))] ρ) w
        refine c_seq ?_
        refine c_seq ?_
        -- region 17
        refine c_region ?_
        refine x_move (.int _ _) rfl ?_
        refine x_move (.slice _ _ _) rfl ?_
        refine x_lenSl Try.underlying27 _ _ _ rfl ?_
        refine x_lss _ _ rfl rfl ?_
        refine x_nil ?_
        refine then_n ?_
        refine c_test _ rfl (fun hb => ?_) (fun hb => ?_)   -- cond t48
        · skip
          refine c_skip ?_
          refine then_n ?_
          refine c_seq ?_
          refine c_block ?_
          refine c_seq ?_
          refine c_seq ?_
          -- region 19 DRAWS
          have hmk : m < k := by omega
          have hul := (hs.pull 1).eachLen
          rw [List.length_map, hol] at hul
          obtain ⟨b, hbi⟩ : ∃ b, ls[a + m]? = some b := ⟨ls[a + m]'(by omega), List.getElem?_eq_getElem _⟩
          have hbl := hle2 b (List.mem_of_getElem? hbi)
          have hoi := outs_get hmk hbi
          have ho1 : ((outs ls a k).map (·.1))[m]? = some (a + 1 + m) := by rw [List.getElem?_map, hoi]; rfl
          have ho2 : ((outs ls a k).map (·.2))[m]? = some b := by rw [List.getElem?_map, hoi]; rfl
          obtain ⟨u, hu⟩ : ∃ u, us[m]? = some u := ⟨us[m]'(by omega), List.getElem?_eq_getElem _⟩
          obtain ⟨a2, c2, rfl⟩ := ((hs.pull 1).eachRB hu ho2).val
          obtain ⟨g3, o3, a3, c3, rfl, hcell, hrb⟩ := (hin _ _ (hs.pull 3)).get hbi
          have hcs := icells_get _ us m _ _ ho1 hu
          refine c_draw (fun w => w.cell? ⟨g, o + m * 2 + 0, none⟩ = some (.int .u64 ((a + 1 + m : Nat) : Int)) ∧ w.cell? ⟨g, o + m * 2 + 1, none⟩ = some (.slice a2 b.length c2) ∧ w.cell? ⟨g3, o3 + (a + m) * 1, none⟩ = some (.slice a3 b.length c3)) (fun i => !(Nat.beq i 25)) [(0, 2), (1, 2), (2, 2), (3, 2), (4, 2), (5, 2), (6, 2), (7, 2), (8, 2), (9, 1), (10, 2), (11, 2), (12, 2), (13, 2), (14, 2), (15, 2), (16, 2), (17, 2), (18, 2), (19, 2), (20, 1), (21, 2), (22, 2), (23, 2), (24, 1), (25, 0), (26, 2), (27, 2)] (by kernel_rfl) (by kernel_rfl) (by kernel_rfl) (by kernel_rfl) (⟨hs.rowCell hcs.1, hs.rowCell hcs.2, hcell⟩) ?_
          replace hs := hs.drew
          refine x_move (.int _ _) rfl ?_
          refine x_move (.slice _ _ _) rfl ?_
          refine x_lenSl Try.underlying35 _ _ _ rfl ?_
          refine x_geqF _ _ rfl rfl (by omega) ?_
          refine x_move (.bool _) rfl ?_
          refine x_want' rfl ?_
          refine x_move (.slice _ _ _) rfl ?_
          refine x_want' rfl ?_
          refine x_move (.int _ _) rfl ?_
          refine x_want' rfl ?_
          refine x_indexAddr Try.underlying27 sz_56 _ _ _ _ _ rfl rfl (by omega) ?_
          refine x_want' rfl ?_
          first | refine x_field0 fa_56_0 _ rfl ?_ | refine x_field fa_56_0 _ _ rfl ?_
          refine x_want' rfl ?_
          refine h_load one_26 _ (.int _ _) rfl (fun w hS => by first | exact hS.cell rfl | exact (hS.pull 1).cell rfl | exact (hS.pull 2).cell rfl | exact (hS.pull 3).cell rfl | exact hS | exact hS.1 | exact hS.2 | exact hS.2.1 | exact hS.2.2 | exact hS.2.2.1 | exact hS.2.2.2 | exact hS.2.2.2.1 | exact hS.2.2.2.2) ?_
          refine x_want' rfl ?_
          refine x_move (.int _ _) rfl ?_
          refine x_want' rfl ?_
          refine x_add _ _ rfl rfl (by simp only [X.lo]; omega) (by simp only [X.hi]; omega) ?_
          refine x_want' rfl ?_
          refine x_conv cv_3_26 _ rfl (by simp only [X.lo]; omega) (by simp only [X.hi]; omega) ?_
          refine x_want' rfl ?_
          refine x_neqF _ _ rfl rfl (by omega) ?_
          refine x_pickF (.bool _) rfl rfl ?_
          refine x_move (.bool _) rfl ?_
          refine x_want' rfl ?_
          refine x_move (.slice _ _ _) rfl ?_
          refine x_want' rfl ?_
          refine x_move (.int _ _) rfl ?_
          refine x_want' rfl ?_
          refine x_indexAddr Try.underlying27 sz_56 _ _ _ _ _ rfl rfl (by omega) ?_
          refine x_want' rfl ?_
          first | refine x_field0 fa_56_1 _ rfl ?_ | refine x_field fa_56_1 _ _ rfl ?_
          refine x_want' rfl ?_
          refine h_load one_30 _ (.slice _ _ _) rfl (fun w hS => by first | exact hS.cell rfl | exact (hS.pull 1).cell rfl | exact (hS.pull 2).cell rfl | exact (hS.pull 3).cell rfl | exact hS | exact hS.1 | exact hS.2 | exact hS.2.1 | exact hS.2.2 | exact hS.2.2.1 | exact hS.2.2.2 | exact hS.2.2.2.1 | exact hS.2.2.2.2) ?_
          refine x_want' rfl ?_
          refine x_move (.slice _ _ _) rfl ?_
          refine x_want' rfl ?_
          refine x_move (.int _ _) rfl ?_
          refine x_want' rfl ?_
          refine x_indexAddr Try.underlying35 sz_30 _ _ _ _ _ rfl rfl (by omega) ?_
          refine x_want' rfl ?_
          refine h_load one_30 _ (.slice _ _ _) rfl (fun w hS => by first | exact hS.cell rfl | exact (hS.pull 1).cell rfl | exact (hS.pull 2).cell rfl | exact (hS.pull 3).cell rfl | exact hS | exact hS.1 | exact hS.2 | exact hS.2.1 | exact hS.2.2 | exact hS.2.2.1 | exact hS.2.2.2 | exact hS.2.2.2.1 | exact hS.2.2.2.2) ?_
          refine x_want' rfl ?_
          refine x_call Try.f28 Try.func28 rfl rfl [.slice a2 b.length c2, .slice a3 b.length c3] rfl ?_
          refine (eq01_calls hs ((hs.pull 1).eachRB hu ho2) (hrb.heapEq rfl) (by omega)).mono ?_
          rw [decide_eq_true rfl]
          clear hs hcell hrb; rintro e w ⟨rfl, hs, -⟩
          refine ⟨.bool true, rfl, fun h => (by cases h), ?_⟩
          refine x_want' rfl ?_
          refine x_not _ rfl ?_
          refine x_pickF (.bool _) rfl rfl ?_
          refine x_nil ?_
          refine then_n ?_
          refine c_false rfl ?_
          refine c_skip ?_
          refine then_n ?_
          -- region 21
          refine c_region ?_
          refine x_move (.int _ _) rfl ?_
          refine x_add _ _ rfl rfl (by simp only [X.lo]; omega) (by simp only [X.hi]; omega) ?_
          refine x_assign (.int _ _) rfl ?_
          refine x_nil ?_
          refine inb_n ?_
          refine then_n ?_
          -- region 18
          refine c_region ?_
          refine x_move (.int _ _) rfl ?_
          refine x_add _ _ rfl rfl (by simp only [X.lo]; omega) (by simp only [X.hi]; omega) ?_
          refine x_assign (.int _ _) rfl ?_
          refine x_nil ?_
          refine then_n ?_
          exact ⟨⟨m + 1⟩, ⟨rfl, rfl, rfl, rfl, rfl, rfl, trivial⟩, ⟨by dsimp only; omega, hs⟩, by dsimp only; omega⟩
        · skip
          refine c_exit ?_
          refine then_x ?_
          refine then_x ?_
          refine inb_e ?_
          refine then_n ?_
          -- region 22
          obtain rfl : m = k := by omega
          refine c_region ?_
          refine x_move (.pointer _) rfl ?_
          refine x_move (.int _ _) rfl ?_
          refine x_conv cv_3_26 _ rfl (by simp only [X.lo]; omega) (by simp only [X.hi]; omega) ?_
          refine x_call Try.f24 Try.func24 rfl rfl [.pointer (some ⟨S, 0, none⟩), .int .u64 ((a + m : Nat) : Int)] rfl ?_
          refine (sack_calls (a + m) hs.tail.tail (wt_ok (by omega) hle2 (by omega) (by omega)) (by omega)).mono ?_
          rw [wt_ack (by omega) (by omega)]
          clear hs; rintro e w ⟨rfl, hs⟩
          refine ⟨.int .i64 (m : Nat), rfl, fun h => (by cases h), ?_⟩
          refine x_nil ?_
          refine inb_n ?_
          refine then_n ?_
          -- region 14
          refine c_region ?_
          refine x_move (.int _ _) rfl ?_
          refine x_add _ _ rfl rfl (by simp only [X.lo]; omega) (by simp only [X.hi]; omega) ?_
          refine x_assign (.int _ _) rfl ?_
          refine x_nil ?_
          refine then_n ?_
          exact ⟨⟨t + 1, a + m⟩, ⟨rfl, rfl, rfl, rfl, trivial⟩, ⟨by dsimp only; omega, by dsimp only; omega, by dsimp only; omega, hs⟩, by dsimp only; omega⟩
      · skip
        refine c_seq ?_
        refine c_seq ?_
        -- region 13
        refine c_region ?_
        refine x_move (.int _ _) rfl ?_
        refine x_lssT _ _ rfl rfl (by omega) ?_
        refine x_move (.bool _) rfl ?_
        refine x_want' rfl ?_
        refine x_move (.pointer _) rfl ?_
        refine x_want' rfl ?_
        refine x_call Try.f25 Try.func25 rfl rfl [.pointer (some ⟨S, 0, none⟩)] rfl ?_
        refine (slen_calls hs).mono ?_
        clear hs; rintro e w ⟨rfl, hs⟩
        refine ⟨.int .i64 (wa ls a).wait.length, rfl, fun h => (by cases h), ?_⟩
        refine x_want' rfl ?_
        refine x_gtrF _ _ rfl rfl (by omega) ?_
        refine x_pickT (.bool _) rfl rfl ?_
        refine x_nil ?_
        refine then_n ?_
        refine c_false rfl ?_
        refine c_exit ?_
        refine then_x ?_
        refine then_x ?_
        refine inb_e ?_
        refine then_n ?_
        refine c_seq ?_
        -- region 23
        refine c_region ?_
        refine x_move (.int _ _) rfl ?_
        refine x_move (.slice _ _ _) rfl ?_
        refine x_lenSl Try.underlying35 _ _ _ rfl ?_
        refine x_eqlT _ _ rfl rfl (by omega) ?_
        refine x_move (.bool _) rfl ?_
        refine x_want' rfl ?_
        refine x_move (.pointer _) rfl ?_
        refine x_want' rfl ?_
        refine x_call Try.f25 Try.func25 rfl rfl [.pointer (some ⟨S, 0, none⟩)] rfl ?_
        refine (slen_calls hs).mono ?_
        clear hs; rintro e w ⟨rfl, hs⟩
        refine ⟨.int .i64 (wa ls a).wait.length, rfl, fun h => (by cases h), ?_⟩
        refine x_want' rfl ?_
        refine x_eqlT _ _ rfl rfl (by omega) ?_
        refine x_pickT (.bool _) rfl rfl ?_
        refine x_move (.bool _) rfl ?_
        refine x_want' rfl ?_
        refine x_call Try.f26 Try.func26 rfl rfl [] rfl ?_
        refine (awake11_calls hs).mono ?_
        clear hs; rintro e w ⟨rfl, hs⟩
        refine ⟨.bool true, rfl, fun h => (by cases h), ?_⟩
        refine x_pickT (.bool _) rfl rfl ?_
        refine x_assign (.bool _) rfl ?_
        refine x_nil ?_
        refine then_n ?_
        refine c_ret ?_
        refine ⟨.inr rfl, ?_⟩
        exact ⟨rfl, hs.tail⟩
      · skip
        refine c_seq ?_
        refine c_seq ?_
        -- region 13
        refine c_region ?_
        refine x_move (.int _ _) rfl ?_
        refine x_lssF _ _ rfl rfl (by omega) ?_
        refine x_move (.bool _) rfl ?_
        refine x_skip rfl rfl ?_
        refine x_skip rfl rfl ?_
        refine x_skip rfl rfl ?_
        refine x_pickF (.bool _) rfl rfl ?_
        refine x_nil ?_
        refine then_n ?_
        refine c_false rfl ?_
        refine c_exit ?_
        refine then_x ?_
        refine then_x ?_
        refine inb_e ?_
        refine then_n ?_
        refine c_seq ?_
        -- region 23
        refine c_region ?_
        refine x_move (.int _ _) rfl ?_
        refine x_move (.slice _ _ _) rfl ?_
        refine x_lenSl Try.underlying35 _ _ _ rfl ?_
        refine x_eqlT _ _ rfl rfl (by omega) ?_
        refine x_move (.bool _) rfl ?_
        refine x_want' rfl ?_
        refine x_move (.pointer _) rfl ?_
        refine x_want' rfl ?_
        refine x_call Try.f25 Try.func25 rfl rfl [.pointer (some ⟨S, 0, none⟩)] rfl ?_
        refine (slen_calls hs).mono ?_
        clear hs; rintro e w ⟨rfl, hs⟩
        refine ⟨.int .i64 (wa ls a).wait.length, rfl, fun h => (by cases h), ?_⟩
        refine x_want' rfl ?_
        refine x_eqlT _ _ rfl rfl (by omega) ?_
        refine x_pickT (.bool _) rfl rfl ?_
        refine x_move (.bool _) rfl ?_
        refine x_want' rfl ?_
        refine x_call Try.f26 Try.func26 rfl rfl [] rfl ?_
        refine (awake11_calls hs).mono ?_
        clear hs; rintro e w ⟨rfl, hs⟩
        refine ⟨.bool true, rfl, fun h => (by cases h), ?_⟩
        refine x_pickT (.bool _) rfl rfl ?_
        refine x_assign (.bool _) rfl ?_
        refine x_nil ?_
        refine then_n ?_
        refine c_ret ?_
        refine ⟨.inr rfl, ?_⟩
        exact ⟨rfl, hs.tail⟩
end Go.Proofs.Ytphakfggocdphaa.X
