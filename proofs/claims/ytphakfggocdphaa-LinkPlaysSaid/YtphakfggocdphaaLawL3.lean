/-
  LAYER 12: the law LinkPlays.
-/
import Derived.Test.YtphakfggocdphaaRef12
namespace Go.Proofs.Ytphakfggocdphaa.X
open Go Go.RowKit
set_option linter.unusedVariables false
set_option maxRecDepth 20000
structure Came where
  q : Nat
  v : Value
  b : List UInt8
  ask : Bool
def Came.cells (x : Came) : List Value := [.int .u64 (x.q : Nat), x.v, .bool x.ask]
theorem TR.came {H : Type} {enc : TypeId × Value → H} {w : World} {cs : List Value} (h : TR enc Try.prog w 32 cs) : ∃ x : Came, cs = x.cells ∧ x.q ≤ 18446744073709551615 ∧ RB w x.v x.b ∧ x.b.length ≤ maxLen := by
  obtain ⟨h1, h2⟩ := h.struct Try.underlying32
  rw [show Try.prog.cellsOf 32 = 3 from by kernel_rfl] at h1
  match cs, h1 with
  | [x, y, z], _ =>
    have g0 := h2 0 _ rfl
    have g1 := h2 1 _ rfl
    have g2 := h2 2 _ rfl
    change TR enc Try.prog w 26 (([x, y, z].drop 0).take (Try.prog.cellsOf 26)) at g0
    change TR enc Try.prog w 30 (([x, y, z].drop 1).take (Try.prog.cellsOf 30)) at g1
    change TR enc Try.prog w 4 (([x, y, z].drop 2).take (Try.prog.cellsOf 4)) at g2
    rw [show Try.prog.cellsOf 26 = 1 from by kernel_rfl] at g0
    rw [show Try.prog.cellsOf 30 = 1 from by kernel_rfl] at g1
    rw [show Try.prog.cellsOf 4 = 1 from by kernel_rfl] at g2
    obtain ⟨q, e0, hq⟩ := g0.nat Try.underlying26 rfl
    obtain ⟨v, b, e1, hb, hl⟩ := g1.bytes Try.underlying30 Try.underlying5 (by kernel_rfl)
    obtain ⟨k, e2⟩ := g2.bool Try.underlying4
    simp at e0 e1 e2
    subst e0; subst e1; subst e2
    refine ⟨⟨q, y, b, k⟩, rfl, ?_, hb, hl⟩
    simp only [hi] at hq
    dsimp only
    omega
theorem TR.cames {H : Type} {enc : TypeId × Value → H} {w : World} {cs : List Value} (h : TR enc Try.prog w 22 cs) :
    ∃ v, ∃ l : List Came, cs = [v] ∧ RD w 3 v l.length (l.map Came.cells).flatten ∧ l.length ≤ maxLen ∧ ∀ x ∈ l, x.q ≤ 18446744073709551615 ∧ RB w x.v x.b ∧ x.b.length ≤ maxLen := by
  obtain ⟨v, n, rows, rfl, hrd, hl, hm, hall⟩ := h.slice (k := 3) Try.underlying22 (by kernel_rfl) (by decide)
  obtain ⟨l, rfl, hok⟩ := rows_data (cells := Came.cells) (ok := fun x => x.q ≤ 18446744073709551615 ∧ RB w x.v x.b ∧ x.b.length ≤ maxLen) (fun r (hr : r.length = 3 ∧ TR enc Try.prog w 32 r) => by
    obtain ⟨x, rfl, h2⟩ := hr.2.came
    exact ⟨x, rfl, h2⟩) rows hall
  rw [List.length_map] at hl
  subst hl
  exact ⟨v, l, rfl, hrd, hm, hok⟩
theorem bd_ref12 (w : World) : (Instr.build 29 #[]).run Try.prog w = .ok (.agg #[.int .u64 0, .slice none 0 0, .bool false]) w := by kernel_rfl

structure GLP where
  i : Nat
  st : LSt
structure GLX where
  j : Nat
  xs : List Value
set_option maxHeartbeats 8000000 in
theorem walk_LinkPlays {H : Type} {enc : TypeId × Value → H} {w0 : World} {a0 : Option Addr} {l0 c0 : Nat} (h0 : TR enc Try.prog w0 22 [.slice a0 l0 c0]) :
    Calls Try.prog 3 #[.slice a0 l0 c0] w0 fun e w' => e = .returned (.bool true) ∧ Below w0.heap.size w0 w' := by
  obtain ⟨v, cs, hv, hrd, hlen, hxs⟩ := h0.cames
  obtain rfl : v = .slice a0 l0 c0 := by simpa using hv.symm
  have hl0 : l0 = cs.length := by
    obtain ⟨_, a, c, h, _⟩ := hrd
    cases h
    rfl
  subst hl0
  refine law_of fun w hs => ?_
  have hin : ∀ w' L', Sat w0 w' (Init w0 :: L') → RD w' 3 (.slice a0 cs.length c0) cs.length (cs.map Came.cells).flatten := fun w' L' h => hrd.below h.init
  unfold maxLen at hlen
  refine enter Try.func3 rfl Try.ntmps3 2 rfl (Nat.le_of_ble_eq_true rfl) ?_
  refine c_seq ?_
  -- region 0
  refine c_region ?_
  refine x_assign (.bool _) rfl ?_
  refine x_nil ?_
  refine then_n ?_
  refine c_seq ?_
  -- region 1
  refine c_region ?_
  refine x_call Try.f12 Try.func12 rfl rfl [] rfl ?_
  refine (lnew_calls hs).mono ?_
  clear hs; rintro e w ⟨l, rfl, hs⟩
  refine ⟨.pointer (some ⟨l, 0, none⟩), rfl, fun h => (by cases h), ?_⟩
  refine x_build (.agg #[.int .u64 0, .slice none 0 0, .bool false]) [] rfl (fun w => bd_ref12 w) ?_
  refine x_box hs (.agg #[.int .u64 0, .slice none 0 0, .bool false]) rfl ?_
  clear hs; intro x w hs; refine ⟨fun h => (by cases h), ?_⟩
  have hs := (Sat.robj' (st := LSt.new) (us := []) (((EachB.nil hs).rowNil).perm [2, 0, 1])).perm [1, 0]
  refine x_assign (.pointer _) rfl ?_
  refine x_assign (.pointer _) rfl ?_
  refine x_nil ?_
  refine then_n ?_
  refine c_seq ?_
  refine c_seq ?_
  -- region 2
  refine c_region ?_
  refine x_assign (.int _ _) rfl ?_
  refine x_nil ?_
  refine then_n ?_
  refine c_block ?_
  refine c_loop (γ := GLP) (fun g => [(0, .slice a0 cs.length c0), (3, .pointer (some ⟨l, 0, none⟩)), (4, .pointer (some ⟨x, 0, none⟩)), (5, .int .i64 (g.i : Nat))]) (fun g w => g.i ≤ 200 ∧ g.st.inv ∧ g.st.upto + g.st.held.length ≤ g.i ∧ Sat w0 w (LObj l g.st :: RObj x g.st :: [Init w0])) (fun g => 200 - g.i) ⟨0, LSt.new⟩ ⟨rfl, rfl, rfl, rfl, trivial⟩ ⟨Nat.zero_le _, LSt.new_inv, Nat.le_refl _, hs⟩ ?_
  clear hs
  rintro ⟨i, st⟩ ρ w ⟨hil, hinv, hub, hs⟩
  dsimp only at hil hinv hub hs
  change CW Try.prog 107 _ _ (sets 107 [(0, .slice a0 cs.length c0), (3, .pointer (some ⟨l, 0, none⟩)), (4, .pointer (some ⟨x, 0, none⟩)), (5, .int .i64 (i : Nat))] ρ) w
  by_cases h1 : i < cs.length
  by_cases h2 : i < 200
  · skip
    refine c_seq ?_
    refine c_seq ?_
    -- region 3
    refine c_region ?_
    refine x_move (.int _ _) rfl ?_
    refine x_move (.slice _ _ _) rfl ?_
    refine x_lenSl Try.underlying22 _ _ _ rfl ?_
    refine x_lssT _ _ rfl rfl (by omega) ?_
    refine x_move (.bool _) rfl ?_
    refine x_want' rfl ?_
    refine x_move (.int _ _) rfl ?_
    refine x_want' rfl ?_
    refine x_lssT _ _ rfl rfl (by omega) ?_
    refine x_pickT (.bool _) rfl rfl ?_
    refine x_nil ?_
    refine then_n ?_
    refine c_true rfl ?_
    refine c_skip ?_
    refine then_n ?_
    refine c_seq ?_
    refine c_block ?_
    refine c_seq ?_
    refine c_seq ?_
    -- region 5
    obtain ⟨⟨q, v, b, ask⟩, hq⟩ : ∃ x, cs[i]? = some x := ⟨cs[i]'h1, List.getElem?_eq_getElem _⟩
    obtain ⟨hqb, hrb, hbl⟩ := hxs _ (List.mem_of_getElem? hq)
    dsimp only at hqb hrb hbl
    obtain ⟨a1, c1, rfl⟩ := hrb.val
    have hrows : ∀ r ∈ cs.map Came.cells, r.length = 3 := fun r hr => by obtain ⟨x, _, rfl⟩ := List.mem_map.1 hr; rfl
    have hqm : (cs.map Came.cells)[i]? = some [.int .u64 (q : Nat), .slice a1 b.length c1, .bool ask] := by rw [List.getElem?_map, hq]; rfl
    have hR := hin _ _ (hs.pull 2)
    obtain ⟨g, o, rfl⟩ := hR.addr (by omega)
    have hin' : ∀ w' L', Sat w0 w' (Init w0 :: L') → w'.cell? ⟨g, o + i * 3 + 0, none⟩ = some (.int .u64 (q : Nat)) ∧ w'.cell? ⟨g, o + i * 3 + 1, none⟩ = some (.slice a1 b.length c1) ∧ w'.cell? ⟨g, o + i * 3 + 2, none⟩ = some (.bool ask) ∧ RB w' (.slice a1 b.length c1) b := fun w' L' h =>
      ⟨(hin w' L' h).cell (flat_at hrows hqm (q := 0) rfl), (hin w' L' h).cell (flat_at hrows hqm (q := 1) rfl), (hin w' L' h).cell (flat_at hrows hqm (q := 2) rfl), hrb.below h.init⟩
    have hcell := (hin' _ _ (hs.pull 2)).2.1
    refine c_region ?_
    refine x_move (.slice _ _ _) rfl ?_
    refine x_move (.int _ _) rfl ?_
    refine x_indexAddr Try.underlying22 sz_32 _ _ _ _ _ rfl rfl (by omega) ?_
    first | refine x_field0 fa_32_1 _ rfl ?_ | refine x_field fa_32_1 _ _ rfl ?_
    refine x_load one_30 _ (.slice _ _ _) rfl (by first | exact hs.cell rfl | exact (hs.pull 1).cell rfl | exact (hs.pull 2).cell rfl | exact (hs.pull 3).cell rfl | assumption) ?_
    refine x_lenSl Try.underlying30 _ _ _ rfl ?_
    refine x_gtr _ _ rfl rfl ?_
    refine x_nil ?_
    refine then_n ?_
    refine c_test _ rfl (fun hb => ?_) (fun hb => ?_)   -- cond t27
    · skip
      refine c_seq ?_
      -- region 6
      refine c_region ?_
      refine x_call Try.f13 Try.func13 rfl rfl [] rfl ?_
      refine (awake12_calls hs).mono ?_
      clear hs hcell hR; rintro e w ⟨rfl, hs⟩
      refine ⟨.bool true, rfl, fun h => (by cases h), ?_⟩
      refine x_assign (.bool _) rfl ?_
      refine x_nil ?_
      refine then_n ?_
      refine c_ret ?_
      refine then_r ?_
      refine inb_r ?_
      refine then_r ?_
      refine then_r ?_
      refine inb_r ?_
      refine then_r ?_
      refine ⟨.inr rfl, ?_⟩
      exact ⟨rfl, hs.tail.tail⟩
    · skip
      refine c_skip ?_
      refine then_n ?_
      refine c_seq ?_
      -- region 7
      refine c_region ?_
      refine x_buildSlice #[] [] hs rfl (fun w => bs_bytes0 w) ?_
      clear hs hcell hR; intro b1 w hs; refine ⟨fun h => (by cases h), ?_⟩
      have hcell := (hin' _ _ (hs.pull 3)).2.1
      have hs := row_blk (size := 1) (len := 0) hs rfl (by decide)
      refine x_move (.slice _ _ _) rfl ?_
      refine x_move (.int _ _) rfl ?_
      refine x_indexAddr Try.underlying22 sz_32 _ _ _ _ _ rfl rfl (by omega) ?_
      first | refine x_field0 fa_32_1 _ rfl ?_ | refine x_field fa_32_1 _ _ rfl ?_
      refine x_load one_30 _ (.slice _ _ _) rfl (by first | exact hs.cell rfl | exact (hs.pull 1).cell rfl | exact (hs.pull 2).cell rfl | exact (hs.pull 3).cell rfl | assumption) ?_
      refine x_append hs Try.underlying30 ei_5 (hin' _ _ (hs.pull 3)).2.2.2 bv_one (by unfold maxLen; omega) (by omega) rfl rfl ?_
      clear hs hcell; intro v w hs; refine ⟨fun h => (by cases h), ?_⟩
      rw [show 0 + b.length = b.length from Nat.zero_add _, show (#[] : Array Value).toList ++ bv b = bv b from rfl] at hs
      obtain ⟨a6, c6, rfl⟩ := hs.rd.val
      refine x_assign (.slice _ _ _) rfl ?_
      refine x_nil ?_
      refine then_n ?_
      refine c_seq ?_
      refine c_seq ?_
      -- region 8 DRAWS
      refine c_draw (fun w => w.cell? ⟨g, o + i * 3 + 0, none⟩ = some (.int .u64 (q : Nat)) ∧ w.cell? ⟨g, o + i * 3 + 1, none⟩ = some (.slice a1 b.length c1)) (fun i => !(Nat.beq i 19 || Nat.beq i 20)) [(0, 2), (1, 2), (2, 2), (3, 2), (4, 2), (5, 1), (6, 2), (8, 2), (9, 2), (10, 2), (11, 2), (12, 2), (13, 1), (14, 2), (15, 2), (16, 2), (17, 2), (18, 1), (7, 0), (19, 0), (20, 0), (21, 2), (22, 2), (23, 2), (25, 2), (26, 2), (27, 2), (0, 3), (28, 1), (24, 0), (29, 2), (30, 2), (31, 2), (32, 2), (34, 2), (35, 2), (36, 2), (37, 1), (38, 2), (33, 0), (39, 2), (40, 2)] (by kernel_rfl) (by kernel_rfl) (by kernel_rfl) (by kernel_rfl) (⟨(hin' _ _ (hs.drew.pull 3)).1, (hin' _ _ (hs.drew.pull 3)).2.1⟩) ?_
      replace hs := hs.drew
      refine x_move (.pointer _) rfl ?_
      refine x_move (.slice _ _ _) rfl ?_
      refine x_move (.int _ _) rfl ?_
      refine x_indexAddr Try.underlying22 sz_32 _ _ _ _ _ rfl rfl (by omega) ?_
      first | refine x_field0 fa_32_0 _ rfl ?_ | refine x_field fa_32_0 _ _ rfl ?_
      refine h_load one_26 _ (.int _ _) rfl (fun w hS => by first | exact hS.cell rfl | exact (hS.pull 1).cell rfl | exact (hS.pull 2).cell rfl | exact (hS.pull 3).cell rfl | exact hS | exact hS.1 | exact hS.2 | exact hS.2.1 | exact hS.2.2 | exact hS.2.2.1 | exact hS.2.2.2 | exact hS.2.2.2.1 | exact hS.2.2.2.2) ?_
      refine x_move (.slice _ _ _) rfl ?_
      refine x_move (.pointer _) rfl ?_
      refine x_move (.slice _ _ _) rfl ?_
      refine x_move (.int _ _) rfl ?_
      refine x_indexAddr Try.underlying22 sz_32 _ _ _ _ _ rfl rfl (by omega) ?_
      first | refine x_field0 fa_32_0 _ rfl ?_ | refine x_field fa_32_0 _ _ rfl ?_
      refine h_load one_26 _ (.int _ _) rfl (fun w hS => by first | exact hS.cell rfl | exact (hS.pull 1).cell rfl | exact (hS.pull 2).cell rfl | exact (hS.pull 3).cell rfl | exact hS | exact hS.1 | exact hS.2 | exact hS.2.1 | exact hS.2.2 | exact hS.2.2.1 | exact hS.2.2.2 | exact hS.2.2.2.1 | exact hS.2.2.2.2) ?_
      refine x_move (.slice _ _ _) rfl ?_
      refine x_move (.int _ _) rfl ?_
      refine x_indexAddr Try.underlying22 sz_32 _ _ _ _ _ rfl rfl (by omega) ?_
      first | refine x_field0 fa_32_1 _ rfl ?_ | refine x_field fa_32_1 _ _ rfl ?_
      refine h_load one_30 _ (.slice _ _ _) rfl (fun w hS => by first | exact hS.cell rfl | exact (hS.pull 1).cell rfl | exact (hS.pull 2).cell rfl | exact (hS.pull 3).cell rfl | exact hS | exact hS.1 | exact hS.2 | exact hS.2.1 | exact hS.2.2 | exact hS.2.2.1 | exact hS.2.2.2 | exact hS.2.2.2.1 | exact hS.2.2.2.2) ?_
      refine x_call Try.f15 Try.func15 rfl rfl [.pointer (some ⟨l, 0, none⟩), .int .u64 (q : Nat), .slice a6 b.length c6] rfl ?_
      have hti := st.take_inv q b hinv
      have hil := LSt.inv_len hinv
      refine (ltake_calls q b (hs.perm [1, 0, 2, 3]) (fun w' L' h => h.br) (by omega) hqb (by omega) (by omega)).mono ?_
      clear hs; rintro e w ⟨r1, rfl, hs⟩
      refine ⟨r1, rfl, fun _ => ⟨(hin' _ _ (hs.pull 4)).1, (hin' _ _ (hs.pull 4)).2.1⟩, ?_⟩
      refine x_call Try.f16 Try.func16 rfl rfl [.pointer (some ⟨x, 0, none⟩), .int .u64 (q : Nat), .slice a1 b.length c1] rfl ?_
      refine (rtake_calls q b (hs.perm [3, 4, 0, 1, 2]) (fun w' L' h => (hin' _ _ h).2.2.2) (by omega) hqb (by omega) (by omega)).mono ?_
      clear hs; rintro e w ⟨r2, rfl, hs⟩
      refine ⟨r2, rfl, fun h => (by cases h), ?_⟩
      generalize st.take q b = T at hti hs
      obtain ⟨out, st'⟩ := T
      obtain ⟨hi1, hi2, hi3⟩ := hti
      dsimp only at hi1 hi2 hi3 hs
      have hi1 : st'.inv := hi1
      refine x_call Try.f14 Try.func14 rfl rfl [r1, r2] rfl ?_
      refine (same_calls hs (hs.pull 3).rbb hs.rbb (by omega)).mono ?_
      rw [decide_eq_true rfl]
      clear hs; rintro e w ⟨rfl, hs, -⟩
      refine ⟨.bool true, rfl, fun h => (by cases h), ?_⟩
      have hs := hs.perm [1, 4, 5, 2, 0, 3]
      have hs := ((hs.pull 4).tail.pull 4).tail
      obtain ⟨ao, c, us, hul, hs⟩ := hs.robj
      refine x_not _ rfl ?_
      refine x_move (.bool _) rfl ?_
      refine x_want' rfl ?_
      refine x_move (.pointer _) rfl ?_
      refine x_want' rfl ?_
      refine x_move (.pointer _) rfl ?_
      refine x_want' rfl ?_
      refine x_nilCheck _ rfl ?_
      refine x_want' rfl ?_
      first | refine x_field0 fa_29_0 _ rfl ?_ | refine x_field fa_29_0 _ _ rfl ?_
      refine x_reset (fun w => w.cell? ⟨x, 0, none⟩ = some (.int .u64 (st'.upto : Nat)) ∧ w.cell? ⟨x, 1, none⟩ = some (.slice ao st'.held.length c)) (⟨hs.cell rfl, hs.cell rfl⟩) ?_
      refine x_want' rfl ?_
      refine h_load one_26 _ (.int _ _) rfl (fun w hS => by first | exact hS.cell rfl | exact (hS.pull 1).cell rfl | exact (hS.pull 2).cell rfl | exact (hS.pull 3).cell rfl | exact hS | exact hS.1 | exact hS.2 | exact hS.2.1 | exact hS.2.2 | exact hS.2.2.1 | exact hS.2.2.2 | exact hS.2.2.2.1 | exact hS.2.2.2.2) ?_
      refine x_want' rfl ?_
      refine x_call Try.f17 Try.func17 rfl rfl [.pointer (some ⟨l, 0, none⟩)] rfl ?_
      refine (lupto_calls (hs.pull 3)).mono ?_
      clear hs; rintro e w ⟨rfl, hs⟩
      refine ⟨.int .u64 (st'.upto : Nat), rfl, fun _ => ⟨(hs.pull 1).cell rfl, (hs.pull 1).cell rfl⟩, ?_⟩
      refine x_want' rfl ?_
      refine x_neqF _ _ rfl rfl (by omega) ?_
      refine x_pickF (.bool _) rfl rfl ?_
      refine x_move (.bool _) rfl ?_
      refine x_want' rfl ?_
      refine x_move (.pointer _) rfl ?_
      refine x_want' rfl ?_
      refine x_move (.pointer _) rfl ?_
      refine x_want' rfl ?_
      refine x_nilCheck _ rfl ?_
      refine x_want' rfl ?_
      first | refine x_field0 fa_29_1 _ rfl ?_ | refine x_field fa_29_1 _ _ rfl ?_
      refine x_want' rfl ?_
      refine h_load one_27 _ (.slice _ _ _) rfl (fun w hS => by first | exact hS.cell rfl | exact (hS.pull 1).cell rfl | exact (hS.pull 2).cell rfl | exact (hS.pull 3).cell rfl | exact hS | exact hS.1 | exact hS.2 | exact hS.2.1 | exact hS.2.2 | exact hS.2.2.1 | exact hS.2.2.2 | exact hS.2.2.2.1 | exact hS.2.2.2.2) ?_
      refine x_want' rfl ?_
      refine x_lenSl Try.underlying27 _ _ _ rfl ?_
      refine x_want' rfl ?_
      refine x_call Try.f18 Try.func18 rfl rfl [.pointer (some ⟨l, 0, none⟩)] rfl ?_
      refine (lheld_calls hs).mono ?_
      clear hs; rintro e w ⟨rfl, hs⟩
      refine ⟨.int .i64 (st'.held.length : Nat), rfl, fun _ => ⟨(hs.pull 1).cell rfl, (hs.pull 1).cell rfl⟩, ?_⟩
      have hs := (Sat.robj' (st := st') (hs.perm [1, 2, 3, 0, 4, 5])).perm [2, 1, 0, 3]
      refine x_want' rfl ?_
      refine x_neqF _ _ rfl rfl (by omega) ?_
      refine x_pickF (.bool _) rfl rfl ?_
      refine x_nil ?_
      refine then_n ?_
      refine c_false rfl ?_
      refine c_skip ?_
      refine then_n ?_
      refine c_seq ?_
      refine c_seq ?_
      -- region 10
      refine c_region ?_
      refine x_assign (.int _ _) rfl ?_
      refine x_nil ?_
      refine then_n ?_
      refine c_block ?_
      refine c_loop (γ := GLX) (fun g' => [(0, .slice (some ⟨g, o, none⟩) cs.length c0), (3, .pointer (some ⟨l, 0, none⟩)), (4, .pointer (some ⟨x, 0, none⟩)), (5, .int .i64 (i : Nat)), (6, .slice a6 b.length c6), (7, .int .i64 (g'.j : Nat))]) (fun g' w => g'.j ≤ b.length ∧ g'.xs.length = b.length ∧ (∀ u ∈ g'.xs, ∃ k : Nat, u = .int .u8 (k : Nat) ∧ k < 256) ∧ Sat w0 w (Row 5 1 (.slice a6 b.length c6) b.length g'.xs :: LObj l st' :: RObj x st' :: [Init w0])) (fun g' => b.length - g'.j) ⟨0, bv b⟩ ⟨rfl, rfl, rfl, rfl, rfl, rfl, trivial⟩ ⟨Nat.zero_le _, bv_len b, fun u hu => by
        obtain ⟨y, _, rfl⟩ := List.mem_map.1 hu
        exact ⟨y.toNat, rfl, y.toNat_lt⟩, hs⟩ ?_
      clear hs
      rintro ⟨j, xs⟩ ρ w ⟨hjl, hxl, hxk, hs⟩
      dsimp only at hjl hxl hxk hs
      change CW Try.prog 107 _ _ (sets 107 [(0, .slice (some ⟨g, o, none⟩) cs.length c0), (3, .pointer (some ⟨l, 0, none⟩)), (4, .pointer (some ⟨x, 0, none⟩)), (5, .int .i64 (i : Nat)), (6, .slice a6 b.length c6), (7, .int .i64 (j : Nat))] ρ) w
      refine c_seq ?_
      refine c_seq ?_
      -- region 11
      refine c_region ?_
      refine x_move (.int _ _) rfl ?_
      refine x_move (.slice _ _ _) rfl ?_
      refine x_lenSl Try.underlying30 _ _ _ rfl ?_
      refine x_lss _ _ rfl rfl ?_
      refine x_nil ?_
      refine then_n ?_
      refine c_test _ rfl (fun hb => ?_) (fun hb => ?_)   -- cond t80
      · skip
        refine c_skip ?_
        refine then_n ?_
        refine c_seq ?_
        refine c_block ?_
        -- region 13
        have hjlt : j < xs.length := by omega
        obtain ⟨k, hk, hk256⟩ := hxk _ (List.getElem_mem hjlt)
        obtain ⟨g2, o2, rfl⟩ := hs.rowAddr (by omega)
        have hcell : w.cell? ⟨g2, o2 + j * 1, none⟩ = some (.int .u8 (k : Nat)) := by
          rw [Nat.mul_one]
          exact hs.rowCell (by rw [List.getElem?_eq_getElem hjlt, hk])
        refine c_region ?_
        refine x_move (.slice _ _ _) rfl ?_
        refine x_move (.int _ _) rfl ?_
        refine x_move (.slice _ _ _) rfl ?_
        refine x_move (.int _ _) rfl ?_
        refine x_indexAddr Try.underlying30 sz_5 _ _ _ _ _ rfl rfl (by omega) ?_
        refine x_load one_5 _ (.int _ _) rfl (by first | exact hs.cell rfl | exact (hs.pull 1).cell rfl | exact (hs.pull 2).cell rfl | exact (hs.pull 3).cell rfl | assumption) ?_
        refine x_xor k 255 rfl rfl rfl hk256 (by decide) ?_
        refine x_indexAddr Try.underlying30 sz_5 _ _ _ _ _ rfl rfl (by omega) ?_
        refine x_storeRow hs one_5 (.int .u8 ((k ^^^ 255 : Nat) : Int)) rfl rfl rfl (by omega) ?_
        clear hs hcell; intro w hs; refine ⟨fun h => (by cases h), ?_⟩
        refine x_nil ?_
        refine inb_n ?_
        refine then_n ?_
        -- region 12
        refine c_region ?_
        refine x_move (.int _ _) rfl ?_
        refine x_add _ _ rfl rfl (by simp only [X.lo]; omega) (by simp only [X.hi]; omega) ?_
        refine x_assign (.int _ _) rfl ?_
        refine x_nil ?_
        refine then_n ?_
        refine ⟨⟨j + 1, _⟩, ⟨rfl, rfl, rfl, rfl, rfl, rfl, trivial⟩, ⟨by dsimp only; omega, by simpa using hxl, fun u hu => ?_, hs⟩, by dsimp only; omega⟩
        rcases List.mem_or_eq_of_mem_set hu with hu | rfl
        · exact hxk u hu
        · exact ⟨k ^^^ 255, rfl, Nat.xor_lt_two_pow (n := 8) hk256 (by decide)⟩
      · skip
        refine c_exit ?_
        refine then_x ?_
        refine then_x ?_
        refine inb_e ?_
        refine then_n ?_
        refine c_seq ?_
        -- region 14
        have hcell := (hin' _ _ (hs.pull 3)).2.2.1
        refine c_region ?_
        refine x_move (.slice _ _ _) rfl ?_
        refine x_move (.int _ _) rfl ?_
        refine x_indexAddr Try.underlying22 sz_32 _ _ _ _ _ rfl rfl (by omega) ?_
        first | refine x_field0 fa_32_2 _ rfl ?_ | refine x_field fa_32_2 _ _ rfl ?_
        refine x_load one_4 _ (.bool _) rfl (by first | exact hs.cell rfl | exact (hs.pull 1).cell rfl | exact (hs.pull 2).cell rfl | exact (hs.pull 3).cell rfl | assumption) ?_
        refine x_nil ?_
        refine then_n ?_
        refine c_cond rfl (fun hb => ?_) (fun hb => ?_)   -- cond t95
        · skip
          refine c_seq ?_
          refine c_seq ?_
          -- region 15 DRAWS
          obtain ⟨ao, c, us, hul, hs⟩ := (hs.pull 2).robj
          refine c_draw (fun w => w.cell? ⟨x, 2, none⟩ = some (.bool st'.owes)) (fun i => !(false)) [(0, 2), (2, 2), (3, 2), (4, 2), (5, 1), (1, 0), (6, 2)] (by kernel_rfl) (by kernel_rfl) (by kernel_rfl) (by kernel_rfl) (hs.cell rfl) ?_
          replace hs := hs.drew
          refine x_move (.pointer _) rfl ?_
          refine x_move (.pointer _) rfl ?_
          refine x_nilCheck _ rfl ?_
          first | refine x_field0 fa_29_2 _ rfl ?_ | refine x_field fa_29_2 _ _ rfl ?_
          refine h_load one_4 _ (.bool _) rfl (fun w hS => by first | exact hS.cell rfl | exact (hS.pull 1).cell rfl | exact (hS.pull 2).cell rfl | exact (hS.pull 3).cell rfl | exact hS | exact hS.1 | exact hS.2 | exact hS.2.1 | exact hS.2.2 | exact hS.2.2.1 | exact hS.2.2.2 | exact hS.2.2.2.1 | exact hS.2.2.2.2) ?_
          refine x_call Try.f19 Try.func19 rfl rfl [.pointer (some ⟨l, 0, none⟩)] rfl ?_
          refine (lowes_calls (hs.pull 4)).mono ?_
          clear hs hcell; rintro e w ⟨rfl, hs⟩
          refine ⟨.bool st'.owes, rfl, fun _ => (hs.pull 1).cell rfl, ?_⟩
          have hs := hs.pull 1
          refine x_neqB _ _ Try.underlying4 rfl rfl ?_
          refine x_nil ?_
          refine then_n ?_
          refine c_cond rfl (fun hb => ?_) (fun hb => ?_)   -- cond t102
          · skip
            refine c_seq ?_
            -- region 16
            refine c_region ?_
            refine x_assign (.bool _) rfl ?_
            refine x_nil ?_
            refine then_n ?_
            refine c_ret ?_
            refine then_r ?_
            refine inb_r ?_
            refine then_r ?_
            refine then_r ?_
            refine inb_r ?_
            refine then_r ?_
            refine ⟨.inr rfl, ?_⟩
            exact absurd hb (by simp)
          · skip
            refine c_skip ?_
            refine then_n ?_
            -- region 17
            refine c_region ?_
            refine x_move (.pointer _) rfl ?_
            refine x_nilCheck _ rfl ?_
            first | refine x_field0 fa_29_2 _ rfl ?_ | refine x_field fa_29_2 _ _ rfl ?_
            refine x_store hs one_4 (.bool _) rfl rfl rfl rfl ?_; clear hs; intro w hs; refine ⟨fun h => (by first | cases h | exact h), ?_⟩
            refine x_nil ?_
            refine inb_n ?_
            refine then_n ?_
            -- region 4
            refine c_region ?_
            refine x_move (.int _ _) rfl ?_
            refine x_add _ _ rfl rfl (by simp only [X.lo]; omega) (by simp only [X.hi]; omega) ?_
            refine x_assign (.int _ _) rfl ?_
            refine x_nil ?_
            refine then_n ?_
            have hs := ((Sat.robj' (st := { st' with owes := false }) (hs.perm [0, 2, 3, 1, 4, 5])).perm [1, 0, 2, 3])
            have hs := (hs.pull 2).tail
            exact ⟨⟨i + 1, { st' with owes := false }⟩, ⟨rfl, rfl, rfl, rfl, trivial⟩, ⟨by dsimp only; omega, hi1, by dsimp only; omega, hs⟩, by dsimp only; omega⟩
        · skip
          refine c_skip ?_
          refine inb_n ?_
          refine then_n ?_
          -- region 4
          refine c_region ?_
          refine x_move (.int _ _) rfl ?_
          refine x_add _ _ rfl rfl (by simp only [X.lo]; omega) (by simp only [X.hi]; omega) ?_
          refine x_assign (.int _ _) rfl ?_
          refine x_nil ?_
          refine then_n ?_
          exact ⟨⟨i + 1, st'⟩, ⟨rfl, rfl, rfl, rfl, trivial⟩, ⟨by dsimp only; omega, hi1, by dsimp only; omega, hs.tail⟩, by dsimp only; omega⟩
  · skip
    refine c_seq ?_
    refine c_seq ?_
    -- region 3
    refine c_region ?_
    refine x_move (.int _ _) rfl ?_
    refine x_move (.slice _ _ _) rfl ?_
    refine x_lenSl Try.underlying22 _ _ _ rfl ?_
    refine x_lssT _ _ rfl rfl (by omega) ?_
    refine x_move (.bool _) rfl ?_
    refine x_want' rfl ?_
    refine x_move (.int _ _) rfl ?_
    refine x_want' rfl ?_
    refine x_lssF _ _ rfl rfl (by omega) ?_
    refine x_pickT (.bool _) rfl rfl ?_
    refine x_nil ?_
    refine then_n ?_
    refine c_false rfl ?_
    refine c_exit ?_
    refine then_x ?_
    refine then_x ?_
    refine inb_e ?_
    refine then_n ?_
    refine c_seq ?_
    -- region 18
    refine c_region ?_
    refine x_call Try.f13 Try.func13 rfl rfl [] rfl ?_
    refine (awake12_calls hs).mono ?_
    clear hs; rintro e w ⟨rfl, hs⟩
    refine ⟨.bool true, rfl, fun h => (by cases h), ?_⟩
    refine x_assign (.bool _) rfl ?_
    refine x_nil ?_
    refine then_n ?_
    refine c_ret ?_
    refine ⟨.inr rfl, ?_⟩
    exact ⟨rfl, hs.tail.tail⟩
  · skip
    refine c_seq ?_
    refine c_seq ?_
    -- region 3
    refine c_region ?_
    refine x_move (.int _ _) rfl ?_
    refine x_move (.slice _ _ _) rfl ?_
    refine x_lenSl Try.underlying22 _ _ _ rfl ?_
    refine x_lssF _ _ rfl rfl (by omega) ?_
    refine x_move (.bool _) rfl ?_
    refine x_skip rfl rfl ?_
    refine x_skip rfl rfl ?_
    refine x_pickF (.bool _) rfl rfl ?_
    refine x_nil ?_
    refine then_n ?_
    refine c_false rfl ?_
    refine c_exit ?_
    refine then_x ?_
    refine then_x ?_
    refine inb_e ?_
    refine then_n ?_
    refine c_seq ?_
    -- region 18
    refine c_region ?_
    refine x_call Try.f13 Try.func13 rfl rfl [] rfl ?_
    refine (awake12_calls hs).mono ?_
    clear hs; rintro e w ⟨rfl, hs⟩
    refine ⟨.bool true, rfl, fun h => (by cases h), ?_⟩
    refine x_assign (.bool _) rfl ?_
    refine x_nil ?_
    refine then_n ?_
    refine c_ret ?_
    refine ⟨.inr rfl, ?_⟩
    exact ⟨rfl, hs.tail.tail⟩
end Go.Proofs.Ytphakfggocdphaa.X
