/-
  LAYER 11's REFERENCE: Put, Tick, Ack, Due, SameItems.
-/
import Derived.Test.YtphakfggocdphaaLawW1
import Derived.Test.YtphakfggocdphaaRef12
namespace Go.Proofs.Ytphakfggocdphaa.X
open Go Go.RowKit
set_option linter.unusedVariables false
set_option maxRecDepth 20000
def items : Nat → List (List UInt8) → List Item
  | _, [] => []
  | b, l :: ls => (b, l) :: items (b + 1) ls
theorem items_len : ∀ (b : Nat) (ls : List (List UInt8)), (items b ls).length = ls.length
  | _, [] => rfl
  | b, l :: ls => by simp [items, items_len (b + 1) ls]
theorem items_snoc : ∀ (b : Nat) (ls : List (List UInt8)) (l : List UInt8), items b (ls ++ [l]) = items b ls ++ [(b + ls.length, l)]
  | b, [], l => by simp [items]
  | b, l1 :: ls, l => by
    simp only [List.cons_append, items, items_snoc (b + 1) ls l, List.length_cons]
    rw [show b + 1 + ls.length = b + (ls.length + 1) from by omega]
theorem items_drop : ∀ (k b : Nat) (ls : List (List UInt8)), (items b ls).drop k = items (b + k) (ls.drop k)
  | 0, b, ls => by simp
  | k + 1, b, [] => by simp [items]
  | k + 1, b, l :: ls => by
    simp only [items, List.drop_succ_cons, items_drop k (b + 1) ls]
    rw [show b + 1 + k = b + (k + 1) from by omega]
theorem items_get : ∀ (b : Nat) (ls : List (List UInt8)) (i : Nat) (l : List UInt8), ls[i]? = some l → (items b ls)[i]? = some (b + i, l)
  | b, [], i, l, h => by simp at h
  | b, l1 :: ls, 0, l, h => by
    simp at h
    simp [items, h]
  | b, l1 :: ls, i + 1, l, h => by
    simp only [items, List.getElem?_cons_succ]
    rw [items_get (b + 1) ls i l (by simpa using h), show b + 1 + i = b + (i + 1) from by omega]
theorem items_snd : ∀ (b : Nat) (ls : List (List UInt8)), (items b ls).map (·.2) = ls
  | _, [] => rfl
  | b, l :: ls => by simp [items, items_snd (b + 1) ls]
/-- what is told, bit by bit -/
def tbits (t n : Nat) : List Value := (List.range n).map fun i => .bool (decide (t >>> i % 2 = 1))
theorem tbits_len (t n : Nat) : (tbits t n).length = n := by simp [tbits]
theorem tbits_get {t n i : Nat} (h : i < n) : (tbits t n)[i]? = some (.bool (decide (t >>> i % 2 = 1))) := by simp [tbits, h]
def X11 (x : Nat) (s : SSt) (o m : Nat) : HP := fun h => ∃ vv : Value × Value, SatH [Blk x (.cells #[vv.1, vv.2, .int .u64 ((s.base + s.wait.length - 1 : Nat) : Int), .int .u64 (o : Nat), .int .u64 (m : Nat)] 66 (0, 0)), IR vv.1 (items s.base s.wait), Row 4 1 vv.2 s.wait.length (tbits s.told s.wait.length)] h
theorem Sat.x11 {w0 w : World} {x o m : Nat} {s : SSt} {L : List HP} (hs : Sat w0 w (X11 x s o m :: L)) :
    ∃ a1 c1 a2 c2 us, us.length = s.wait.length ∧ Sat w0 w (Blk x (.cells #[.slice a1 s.wait.length c1, .slice a2 s.wait.length c2, .int .u64 ((s.base + s.wait.length - 1 : Nat) : Int), .int .u64 (o : Nat), .int .u64 (m : Nat)] 66 (0, 0)) :: Row 56 2 (.slice a1 s.wait.length c1) s.wait.length (icells ((items s.base s.wait).map (·.1)) us) :: EachB us s.wait :: Row 4 1 (.slice a2 s.wait.length c2) s.wait.length (tbits s.told s.wait.length) :: L) := by
  obtain ⟨⟨v1, v2⟩, h⟩ := Sat.ex (F := fun vv : Value × Value => SatH [Blk x (.cells #[vv.1, vv.2, .int .u64 ((s.base + s.wait.length - 1 : Nat) : Int), .int .u64 (o : Nat), .int .u64 (m : Nat)] 66 (0, 0)), IR vv.1 (items s.base s.wait), Row 4 1 vv.2 s.wait.length (tbits s.told s.wait.length)]) hs
  obtain ⟨us, h⟩ := (h.opn.pull 1).ir
  rw [items_len, items_snd] at h
  obtain ⟨a1, c1, rfl⟩ := h.rd.val
  obtain ⟨a2, c2, rfl⟩ := (h.pull 3).rd.val
  have hl := h.tail.eachLen
  exact ⟨a1, c1, a2, c2, us, hl, h.perm [2, 0, 1, 3]⟩
theorem Sat.x11' {w0 w : World} {x o m : Nat} {v1 v2 : Value} {us : List Value} {s : SSt} {L : List HP} (hs : Sat w0 w (Blk x (.cells #[v1, v2, .int .u64 ((s.base + s.wait.length - 1 : Nat) : Int), .int .u64 (o : Nat), .int .u64 (m : Nat)] 66 (0, 0)) :: Row 56 2 v1 s.wait.length (icells ((items s.base s.wait).map (·.1)) us) :: EachB us s.wait :: Row 4 1 v2 s.wait.length (tbits s.told s.wait.length) :: L)) : Sat w0 w (X11 x s o m :: L) := by
  have h1 := hs.perm [1, 2, 0, 3]
  have h2 : Sat w0 w (Row 56 2 v1 (items s.base s.wait).length (icells ((items s.base s.wait).map (·.1)) us) :: EachB us ((items s.base s.wait).map (·.2)) :: Blk x (.cells #[v1, v2, .int .u64 ((s.base + s.wait.length - 1 : Nat) : Int), .int .u64 (o : Nat), .int .u64 (m : Nat)] 66 (0, 0)) :: Row 4 1 v2 s.wait.length (tbits s.told s.wait.length) :: L) := by
    rw [items_len, items_snd]
    exact h1
  exact (Sat.shut (Ls := [Blk x (.cells #[v1, v2, .int .u64 ((s.base + s.wait.length - 1 : Nat) : Int), .int .u64 (o : Nat), .int .u64 (m : Nat)] 66 (0, 0)), IR v1 (items s.base s.wait), Row 4 1 v2 s.wait.length (tbits s.told s.wait.length)]) (h2.ir'.pull 1)).head fun h hh => ⟨(v1, v2), hh⟩

/-! ### Tick -/
theorem tbits_zero (n : Nat) : tbits 0 n = List.replicate n (.bool false) := by
  rw [List.eq_replicate_iff]
  refine ⟨tbits_len _ _, fun b hb => ?_⟩
  obtain ⟨i, _, rfl⟩ := List.mem_map.1 hb
  simp
structure GTick where
  i : Nat
set_option maxHeartbeats 2000000 in
theorem rtick_calls {w0 w : World} {L : List HP} {x o m : Nat} {s : SSt} (hs : Sat w0 w (X11 x s o m :: L)) (hl : s.wait.length ≤ 128) :
    Calls Try.prog 32 #[.pointer (some ⟨x, 0, none⟩)] w fun e w' => e = .returned (.tuple #[]) ∧ Sat w0 w' (X11 x s.tick o m :: L) := by
  obtain ⟨a1, c1, a2, c2, us, hul, hs⟩ := hs.x11
  refine enter0 Try.func32 rfl Try.ntmps32 rfl (Nat.le_of_ble_eq_true rfl) ?_
  refine c_seq ?_
  -- region 0
  refine c_region ?_
  refine x_assign (.int _ _) rfl ?_
  refine x_nil ?_
  refine then_n ?_
  refine c_block ?_
  refine c_loop (γ := GTick) (fun g => [(0, .pointer (some ⟨x, 0, none⟩)), (2, .int .i64 (g.i : Nat))]) (fun g w => g.i ≤ s.wait.length ∧ Sat w0 w (Blk x (.cells #[.slice a1 s.wait.length c1, .slice a2 s.wait.length c2, .int .u64 ((s.base + s.wait.length - 1 : Nat) : Int), .int .u64 (o : Nat), .int .u64 (m : Nat)] 66 (0, 0)) :: Row 56 2 (.slice a1 s.wait.length c1) s.wait.length (icells ((items s.base s.wait).map (·.1)) us) :: EachB us s.wait :: Row 4 1 (.slice a2 s.wait.length c2) s.wait.length (List.replicate g.i (.bool false) ++ (tbits s.told s.wait.length).drop g.i) :: L)) (fun g => s.wait.length - g.i) ⟨0⟩ ⟨rfl, rfl, trivial⟩ ⟨Nat.zero_le _, hs⟩ ?_
  clear hs
  rintro ⟨i⟩ ρ w ⟨hil, hs⟩
  dsimp only at hil hs
  change CW Try.prog 18 _ _ (sets 18 [(0, .pointer (some ⟨x, 0, none⟩)), (2, .int .i64 (i : Nat))] ρ) w
  refine c_seq ?_
  refine c_seq ?_
  -- region 1
  refine c_region ?_
  refine x_move (.int _ _) rfl ?_
  refine x_move (.pointer _) rfl ?_
  refine x_nilCheck _ rfl ?_
  first | refine x_field0 fa_66_1 _ rfl ?_ | refine x_field fa_66_1 _ _ rfl ?_
  refine x_load one_64 _ (.slice _ _ _) rfl (by first | exact hs.cell rfl | exact (hs.pull 1).cell rfl | exact (hs.pull 2).cell rfl | exact (hs.pull 3).cell rfl | assumption | exact (hs.pull 4).cell rfl | exact (hs.pull 5).cell rfl | exact (hs.pull 6).cell rfl | exact (hs.pull 7).cell rfl) ?_
  refine x_lenSl Try.underlying64 _ _ _ rfl ?_
  refine x_lss _ _ rfl rfl ?_
  refine x_nil ?_
  refine then_n ?_
  refine c_test _ rfl (fun hb => ?_) (fun hb => ?_)   -- cond t9
  · skip
    refine c_skip ?_
    refine then_n ?_
    refine c_seq ?_
    refine c_block ?_
    -- region 3
    have hlt : i < s.wait.length := by omega
    obtain ⟨g, o1, rfl⟩ := (hs.pull 3).rowAddr (by omega)
    refine c_region ?_
    refine x_move (.pointer _) rfl ?_
    refine x_nilCheck _ rfl ?_
    first | refine x_field0 fa_66_1 _ rfl ?_ | refine x_field fa_66_1 _ _ rfl ?_
    refine x_load one_64 _ (.slice _ _ _) rfl (by first | exact hs.cell rfl | exact (hs.pull 1).cell rfl | exact (hs.pull 2).cell rfl | exact (hs.pull 3).cell rfl | assumption | exact (hs.pull 4).cell rfl | exact (hs.pull 5).cell rfl | exact (hs.pull 6).cell rfl | exact (hs.pull 7).cell rfl) ?_
    refine x_move (.int _ _) rfl ?_
    refine x_indexAddr Try.underlying64 sz_4 _ _ _ _ _ rfl rfl (by omega) ?_
    have hs := hs.pull 3
    refine x_storeRow hs one_4 (.bool false) rfl rfl rfl (by omega) ?_
    clear hs; intro w hs; refine ⟨fun h => (by cases h), ?_⟩
    refine x_nil ?_
    refine inb_n ?_
    refine then_n ?_
    -- region 2
    refine c_region ?_
    refine x_move (.int _ _) rfl ?_
    refine x_add _ _ rfl rfl (by simp only [X.lo]; omega) (by simp only [X.hi]; omega) ?_
    refine x_assign (.int _ _) rfl ?_
    refine x_nil ?_
    refine then_n ?_
    refine ⟨⟨i + 1⟩, ⟨rfl, rfl, trivial⟩, ⟨by dsimp only; omega, ?_⟩, by dsimp only; omega⟩
    have e : (List.replicate i (Value.bool false) ++ (tbits s.told s.wait.length).drop i).set (i * 1) (.bool false) = List.replicate (i + 1) (.bool false) ++ (tbits s.told s.wait.length).drop (i + 1) := by
      rw [Nat.mul_one, List.set_append_right _ _ (by simp), List.length_replicate, Nat.sub_self, List.replicate_succ', List.append_assoc]
      congr 1
      rw [List.drop_eq_getElem_cons (i := i) (by rw [tbits_len]; exact hlt)]
      rfl
    rw [e] at hs
    exact hs.perm [1, 2, 3, 0]
  · skip
    refine c_exit ?_
    refine then_x ?_
    refine then_x ?_
    refine inb_e ?_
    refine ⟨.inl rfl, ?_⟩
    obtain rfl : i = s.wait.length := by omega
    rw [List.drop_of_length_le (by rw [tbits_len]; omega), List.append_nil] at hs
    rw [← tbits_zero] at hs
    exact ⟨rfl, Sat.x11' (s := s.tick) hs⟩

/-! ### Put -/
theorem bs_told (w : World) : (Instr.buildSlice 64 1 #[(0, .bool false)]).run Try.prog w = .ok (.slice (some ⟨w.heap.size, 0, none⟩) 1 1) (w.alloc (.cells #[.bool false] 4)) := by kernel_rfl
theorem tbits_snoc {t n : Nat} (h : t < 2 ^ n) : tbits t (n + 1) = tbits t n ++ [.bool false] := by
  unfold tbits
  rw [List.range_succ, List.map_append, List.map_singleton, Nat.shiftRight_eq_div_pow, Nat.div_eq_of_lt h]
  rfl
set_option maxHeartbeats 2000000 in
theorem rput_calls {w0 w : World} {A : HP} {L : List HP} {x o m : Nat} {s : SSt} {v : Value} {b : List UInt8} (hs : Sat w0 w (X11 x s o m :: A :: L)) (hr : ∀ w' L', Sat w0 w' (A :: L') → RB w' v b) (hl : s.wait.length ≤ 128) (hb0 : 1 ≤ s.base) (hb1 : s.base ≤ 1000000000000) (ht : s.told < 2 ^ s.wait.length) :
    Calls Try.prog 34 #[.pointer (some ⟨x, 0, none⟩), v] w fun e w' => e = .returned (.int .i64 ((s.put b).1 : Nat)) ∧ Sat w0 w' (X11 x (s.put b).2 o m :: A :: L) := by
  obtain ⟨a0, c0, rfl⟩ := (hr _ _ hs.tail).val
  obtain ⟨a1, c1, a2, c2, us, hul, hs⟩ := hs.x11
  refine enter Try.func34 rfl Try.ntmps34 4 rfl (Nat.le_of_ble_eq_true rfl) ?_
  refine c_seq ?_
  -- region 0
  refine c_region ?_
  refine x_assign (.int _ _) rfl ?_
  refine x_nil ?_
  refine then_n ?_
  refine c_seq ?_
  refine c_seq ?_
  -- region 1
  refine c_region ?_
  refine x_move (.slice _ _ _) rfl ?_
  refine x_lenSl Try.underlying30 _ _ _ rfl ?_
  refine x_gtr _ _ rfl rfl ?_
  refine x_nil ?_
  refine then_n ?_
  refine c_test _ rfl (fun hb => ?_) (fun hb => ?_)   -- cond t7
  · skip
    refine c_seq ?_
    -- region 2
    refine c_region ?_
    refine x_assign (.int _ _) rfl ?_
    refine x_nil ?_
    refine then_n ?_
    refine c_ret ?_
    refine then_r ?_
    refine ⟨.inr rfl, ?_⟩
    have hg : s.put b = (3, s) := by unfold SSt.put; rw [if_pos (by omega)]
    rw [hg]
    exact ⟨rfl, hs.x11'⟩
  · skip
    refine c_skip ?_
    refine then_n ?_
    refine c_seq ?_
    refine c_seq ?_
    -- region 3
    refine c_region ?_
    refine x_move (.pointer _) rfl ?_
    refine x_nilCheck _ rfl ?_
    first | refine x_field0 fa_66_0 _ rfl ?_ | refine x_field fa_66_0 _ _ rfl ?_
    refine x_load one_27 _ (.slice _ _ _) rfl (by first | exact hs.cell rfl | exact (hs.pull 1).cell rfl | exact (hs.pull 2).cell rfl | exact (hs.pull 3).cell rfl | assumption | exact (hs.pull 4).cell rfl | exact (hs.pull 5).cell rfl | exact (hs.pull 6).cell rfl | exact (hs.pull 7).cell rfl) ?_
    refine x_lenSl Try.underlying27 _ _ _ rfl ?_
    refine x_geq _ _ rfl rfl ?_
    refine x_nil ?_
    refine then_n ?_
    refine c_test _ rfl (fun hb => ?_) (fun hb => ?_)   -- cond t13
    · skip
      refine c_seq ?_
      -- region 4
      refine c_region ?_
      refine x_assign (.int _ _) rfl ?_
      refine x_nil ?_
      refine then_n ?_
      refine c_ret ?_
      refine then_r ?_
      refine ⟨.inr rfl, ?_⟩
      have hg : s.put b = (13, s) := by unfold SSt.put; rw [if_neg (by omega), if_pos (by omega)]
      rw [hg]
      exact ⟨rfl, hs.x11'⟩
    · skip
      refine c_skip ?_
      refine then_n ?_
      refine c_seq ?_
      -- region 5
      refine c_region ?_
      refine x_move (.pointer _) rfl ?_
      refine x_nilCheck _ rfl ?_
      first | refine x_field0 fa_66_2 _ rfl ?_ | refine x_field fa_66_2 _ _ rfl ?_
      refine x_load one_26 _ (.int _ _) rfl (by first | exact hs.cell rfl | exact (hs.pull 1).cell rfl | exact (hs.pull 2).cell rfl | exact (hs.pull 3).cell rfl | assumption | exact (hs.pull 4).cell rfl | exact (hs.pull 5).cell rfl | exact (hs.pull 6).cell rfl | exact (hs.pull 7).cell rfl) ?_
      refine x_add _ _ rfl rfl (by simp only [X.lo]; omega) (by simp only [X.hi]; omega) ?_
      refine x_nilCheck _ rfl ?_
      first | refine x_field0 fa_66_2 _ rfl ?_ | refine x_field fa_66_2 _ _ rfl ?_
      refine x_store hs one_26 (.int _ _) rfl rfl rfl rfl ?_; clear hs; intro w hs; refine ⟨fun h => (by first | cases h | exact h), ?_⟩
      refine x_nil ?_
      refine then_n ?_
      refine c_seq ?_
      -- region 6 DRAWS
      have hg : s.put b = (0, { s with wait := s.wait ++ [b] }) := by unfold SSt.put; rw [if_neg (by omega), if_neg (by omega)]
      rw [hg]
      refine c_draw (fun w => w.cell? ⟨x, 0, none⟩ = some (.slice a1 s.wait.length c1) ∧ w.cell? ⟨x, 2, none⟩ = some (.int .u64 (((s.base + s.wait.length - 1 : Nat) : Int) + 1))) (fun i => !(Nat.beq i 14 || Nat.beq i 17)) [(0, 2), (1, 2), (2, 2), (3, 2), (4, 1), (5, 2), (6, 2), (7, 2), (8, 1), (10, 2), (9, 0), (11, 0), (12, 2), (13, 0), (14, 0), (15, 2), (16, 2), (17, 0)] (by kernel_rfl) (by kernel_rfl) (by kernel_rfl) (by kernel_rfl) (⟨hs.cell rfl, hs.cell rfl⟩) ?_
      replace hs := hs.drew
      refine x_move (.pointer _) rfl ?_
      refine x_move (.pointer _) rfl ?_
      refine x_nilCheck _ rfl ?_
      first | refine x_field0 fa_66_0 _ rfl ?_ | refine x_field fa_66_0 _ _ rfl ?_
      refine h_load one_27 _ (.slice _ _ _) rfl (fun w hS => by first | exact hS.cell rfl | exact (hS.pull 1).cell rfl | exact (hS.pull 2).cell rfl | exact (hS.pull 3).cell rfl | exact hS | exact hS.1 | exact hS.2 | exact hS.2.1 | exact hS.2.2 | exact hS.2.2.1 | exact hS.2.2.2 | exact hS.2.2.2.1 | exact hS.2.2.2.2) ?_
      refine x_move (.pointer _) rfl ?_
      refine x_nilCheck _ rfl ?_
      first | refine x_field0 fa_66_2 _ rfl ?_ | refine x_field fa_66_2 _ _ rfl ?_
      refine h_load one_26 _ (.int _ _) rfl (fun w hS => by first | exact hS.cell rfl | exact (hS.pull 1).cell rfl | exact (hS.pull 2).cell rfl | exact (hS.pull 3).cell rfl | exact hS | exact hS.1 | exact hS.2 | exact hS.2.1 | exact hS.2.2 | exact hS.2.2.1 | exact hS.2.2.2 | exact hS.2.2.2.1 | exact hS.2.2.2.2) ?_
      refine x_move (.slice _ _ _) rfl ?_
      refine x_buildSlice #[] [] hs rfl (fun w => bs_bytes0 w) ?_
      clear hs; intro b1 w hs; refine ⟨fun _ => ⟨(hs.pull 1).cell rfl, (hs.pull 1).cell rfl⟩, ?_⟩
      have hs := row_blk (size := 1) (len := 0) hs rfl (by decide)
      refine x_append hs Try.underlying30 ei_5 (hr _ _ (hs.pull 5)) bv_one (by unfold maxLen; omega) (by omega) rfl rfl ?_
      clear hs; intro v w hs; refine ⟨fun _ => ⟨(hs.pull 1).cell rfl, (hs.pull 1).cell rfl⟩, ?_⟩
      rw [show 0 + b.length = b.length from Nat.zero_add _, show (#[] : Array Value).toList ++ bv b = bv b from rfl] at hs
      obtain ⟨a6, c6, rfl⟩ := hs.rd.val
      refine x_build (.agg #[.int .u64 (((s.base + s.wait.length - 1 : Nat) : Int) + 1), .slice a6 b.length c6]) [(0, .int .u64 (((s.base + s.wait.length - 1 : Nat) : Int) + 1)), (1, .slice a6 b.length c6)] rfl (fun w => bd_item _ _ _ _ w) ?_
      refine x_buildSlice #[.int .u64 (((s.base + s.wait.length - 1 : Nat) : Int) + 1), .slice a6 b.length c6] [(0, .agg #[.int .u64 (((s.base + s.wait.length - 1 : Nat) : Int) + 1), .slice a6 b.length c6])] hs rfl (fun w => bs_item _ _ _ _ w) ?_
      clear hs; intro b2 w hs; refine ⟨fun _ => ⟨(hs.pull 2).cell rfl, (hs.pull 2).cell rfl⟩, ?_⟩
      have hrd := rd_blk (size := 2) hs rfl
      have hs := hs.perm [3, 1, 2, 4, 5, 0]
      refine x_append hs Try.underlying27 ei_56 hrd (by intro u hu; simp at hu; rcases hu with rfl | rfl <;> rfl) (by unfold maxLen; omega) (by omega) rfl rfl ?_
      clear hs; intro v w hs; refine ⟨fun h => (by cases h), ?_⟩
      obtain ⟨a7, c7, rfl⟩ := hs.rd.val
      have hs := ((hs.perm [3, 1, 0, 2, 4, 5]).eachSnoc).perm [2, 1, 0, 3, 4]
      have hs := (hs.pull 4).tail
      have hwl : (s.wait ++ [b]).length = s.wait.length + 1 := by simp
      rw [show icells ((items s.base s.wait).map (·.1)) us ++ #[Value.int .u64 (((s.base + s.wait.length - 1 : Nat) : Int) + 1), .slice a6 b.length c6].toList = icells ((items s.base (s.wait ++ [b])).map (·.1)) (us ++ [.slice a6 b.length c6]) from by
        rw [items_snoc, List.map_append, List.map_singleton, icells_snoc _ _ _ _ (by rw [List.length_map, items_len, hul])]
        rw [show ((s.base + s.wait.length - 1 : Nat) : Int) + 1 = ((s.base + s.wait.length : Nat) : Int) from by omega], ← hwl] at hs
      refine x_nilCheck _ rfl ?_
      first | refine x_field0 fa_66_0 _ rfl ?_ | refine x_field fa_66_0 _ _ rfl ?_
      refine x_store hs one_27 (.slice _ _ _) rfl rfl rfl rfl ?_; clear hs; intro w hs; refine ⟨fun h => (by first | cases h | exact h), ?_⟩
      refine x_nil ?_
      refine then_n ?_
      refine c_seq ?_
      -- region 7
      refine c_region ?_
      refine x_move (.pointer _) rfl ?_
      refine x_move (.pointer _) rfl ?_
      refine x_nilCheck _ rfl ?_
      first | refine x_field0 fa_66_1 _ rfl ?_ | refine x_field fa_66_1 _ _ rfl ?_
      refine x_load one_64 _ (.slice _ _ _) rfl (by first | exact hs.cell rfl | exact (hs.pull 1).cell rfl | exact (hs.pull 2).cell rfl | exact (hs.pull 3).cell rfl | assumption | exact (hs.pull 4).cell rfl | exact (hs.pull 5).cell rfl | exact (hs.pull 6).cell rfl | exact (hs.pull 7).cell rfl) ?_
      refine x_buildSlice #[.bool false] [(0, .bool false)] hs rfl (fun w => bs_told w) ?_
      clear hs; intro b3 w hs; refine ⟨fun h => (by cases h), ?_⟩
      have hrd2 := rd_blk (size := 1) hs rfl
      have hs := hs.perm [4, 0, 1, 2, 3]
      refine x_append hs Try.underlying64 ei_4 hrd2 (by intro u hu; simp at hu; subst hu; rfl) (by unfold maxLen; omega) (by omega) rfl rfl ?_
      clear hs; intro v w hs; refine ⟨fun h => (by cases h), ?_⟩
      obtain ⟨a8, c8, rfl⟩ := hs.rd.val
      rw [show tbits s.told s.wait.length ++ #[Value.bool false].toList = tbits s.told (s.wait ++ [b]).length from by rw [hwl, tbits_snoc ht], ← hwl] at hs
      have hs := (hs.perm [1, 2, 3, 4, 0]).tail
      refine x_nilCheck _ rfl ?_
      first | refine x_field0 fa_66_1 _ rfl ?_ | refine x_field fa_66_1 _ _ rfl ?_
      refine x_store hs one_64 (.slice _ _ _) rfl rfl rfl rfl ?_; clear hs; intro w hs; refine ⟨fun h => (by first | cases h | exact h), ?_⟩
      refine x_nil ?_
      refine then_n ?_
      refine c_seq ?_
      -- region 8
      refine c_region ?_
      refine x_assign (.int _ _) rfl ?_
      refine x_nil ?_
      refine then_n ?_
      refine c_ret ?_
      refine ⟨.inr rfl, ?_⟩
      have e : ((s.base + s.wait.length - 1 : Nat) : Int) + 1 = ((s.base + (s.wait ++ [b]).length - 1 : Nat) : Int) := by omega
      rw [e, ← hwl] at hs
      exact ⟨rfl, Sat.x11' (s := { s with wait := s.wait ++ [b] }) hs⟩

/-! ### Ack -/
def SSt.cut (s : SSt) (k : Nat) : SSt := { s with base := s.base + k, wait := s.wait.drop k, told := s.told >>> k, ever := s.ever >>> k }
theorem tbits_drop (t n k : Nat) : (tbits t n).drop k = tbits (t >>> k) (n - k) := by
  apply List.ext_getElem?
  intro i
  rw [List.getElem?_drop]
  by_cases h : k + i < n
  · rw [tbits_get h, tbits_get (by omega), Nat.shiftRight_add]
  · rw [List.getElem?_eq_none (by rw [tbits_len]; omega), List.getElem?_eq_none (by rw [tbits_len]; omega)]
theorem cut_zero (s : SSt) : s.cut 0 = s := by cases s; simp [SSt.cut]
theorem cut_cut (s : SSt) (k : Nat) : (s.cut k).cut 1 = s.cut (k + 1) := by
  simp [SSt.cut, Nat.shiftRight_add, Nat.add_assoc]
theorem ack_cut {s : SSt} {u k : Nat} (h1 : u ≤ s.base + s.wait.length - 1) (hb : 1 ≤ s.base) (h2 : k ≤ s.wait.length) (h3 : k = 0 ∨ s.base + k - 1 ≤ u) (h4 : k = s.wait.length ∨ u < s.base + k) : s.ack u = (k, s.cut k) := by
  unfold SSt.ack
  by_cases h : u < s.base
  · obtain rfl : k = 0 := by omega
    rw [if_pos (.inl h), cut_zero]
  · rw [if_neg (by omega), show u - s.base + 1 = k from by omega, show u + 1 = s.base + k from by omega]
    rfl
structure GRAck where
  k : Nat
set_option maxHeartbeats 4000000 in
theorem rack_calls {w0 w : World} {L : List HP} {x o m : Nat} {s : SSt} (u : Nat) (hs : Sat w0 w (X11 x s o m :: L)) (hl : s.wait.length ≤ 128) (hb0 : 1 ≤ s.base) (hb1 : s.base ≤ 1000000000000) (hu : u ≤ 18446744073709551615) :
    Calls Try.prog 33 #[.pointer (some ⟨x, 0, none⟩), .int .u64 (u : Nat)] w fun e w' => e = .returned (.int .i64 ((s.ack u).1 : Nat)) ∧ Sat w0 w' (X11 x (s.ack u).2 o m :: L) := by
  obtain ⟨a1, c1, a2, c2, us, hul, hs⟩ := hs.x11
  refine enter Try.func33 rfl Try.ntmps33 4 rfl (Nat.le_of_ble_eq_true rfl) ?_
  refine c_seq ?_
  -- region 0
  refine c_region ?_
  refine x_assign (.int _ _) rfl ?_
  refine x_nil ?_
  refine then_n ?_
  refine c_seq ?_
  refine c_seq ?_
  -- region 1
  refine c_region ?_
  refine x_move (.int _ _) rfl ?_
  refine x_move (.pointer _) rfl ?_
  refine x_nilCheck _ rfl ?_
  first | refine x_field0 fa_66_2 _ rfl ?_ | refine x_field fa_66_2 _ _ rfl ?_
  refine x_load one_26 _ (.int _ _) rfl (by first | exact hs.cell rfl | exact (hs.pull 1).cell rfl | exact (hs.pull 2).cell rfl | exact (hs.pull 3).cell rfl | assumption | exact (hs.pull 4).cell rfl | exact (hs.pull 5).cell rfl | exact (hs.pull 6).cell rfl | exact (hs.pull 7).cell rfl) ?_
  refine x_gtr _ _ rfl rfl ?_
  refine x_nil ?_
  refine then_n ?_
  refine c_test _ rfl (fun hb => ?_) (fun hb => ?_)   -- cond t11
  · skip
    refine c_seq ?_
    -- region 2
    refine c_region ?_
    refine x_assign (.int _ _) rfl ?_
    refine x_nil ?_
    refine then_n ?_
    refine c_ret ?_
    refine then_r ?_
    refine ⟨.inr rfl, ?_⟩
    have hg : s.ack u = (0, s) := by unfold SSt.ack; rw [if_pos (by omega)]
    rw [hg]
    exact ⟨rfl, hs.x11'⟩
  · skip
    refine c_skip ?_
    refine then_n ?_
    refine c_seq ?_
    -- region 3
    refine c_region ?_
    refine x_assign (.int _ _) rfl ?_
    refine x_nil ?_
    refine then_n ?_
    refine c_seq ?_
    refine c_block ?_
    refine c_loop (γ := GRAck) (fun g => [(0, .pointer (some ⟨x, 0, none⟩)), (1, .int .u64 (u : Nat)), (5, .int .i64 (g.k : Nat))]) (fun g w => g.k ≤ s.wait.length ∧ (g.k = 0 ∨ s.base + g.k - 1 ≤ u) ∧ Sat w0 w (X11 x (s.cut g.k) o m :: L)) (fun g => s.wait.length - g.k) ⟨0⟩ ⟨rfl, rfl, rfl, trivial⟩ ⟨Nat.zero_le _, .inl rfl, by rw [cut_zero]; exact hs.x11'⟩ ?_
    clear hs
    rintro ⟨k⟩ ρ w ⟨hkl, hku, hs⟩
    dsimp only at hkl hku hs
    have hcl : (s.cut k).wait.length = s.wait.length - k := by simp [SSt.cut]
    have hcb : (s.cut k).base = s.base + k := rfl
    have hcc := cut_cut s k
    have hack := ack_cut (s := s) (u := u) (k := k) (by omega) hb0 hkl hku
    generalize s.cut k = s' at *
    obtain ⟨a1, c1, a2, c2, us, hul, hs⟩ := hs.x11
    change CW Try.prog 48 _ _ (sets 48 [(0, .pointer (some ⟨x, 0, none⟩)), (1, .int .u64 (u : Nat)), (5, .int .i64 (k : Nat))] ρ) w
    by_cases hz : s'.wait.length = 0
    rotate_left
    obtain ⟨g, o1, rfl⟩ := (hs.pull 1).rowAddr (by omega)
    obtain ⟨g2, o2, rfl⟩ := (hs.pull 3).rowAddr (by omega)
    have hcell : w.cell? ⟨g, o1 + 0 * 2 + 0, none⟩ = some (.int .u64 (s'.base : Nat)) := by
      obtain ⟨b, hb⟩ : ∃ b, s'.wait[0]? = some b := ⟨s'.wait[0]'(by omega), List.getElem?_eq_getElem _⟩
      have h1 : ((items s'.base s'.wait).map (·.1))[0]? = some s'.base := by rw [List.getElem?_map, items_get _ _ _ _ hb]; rfl
      exact (hs.pull 1).rowCell (icells_get _ us 0 _ _ h1 (List.getElem?_eq_getElem (by omega))).1
    by_cases h2 : s'.base ≤ u
    · skip
      refine c_seq ?_
      refine c_seq ?_
      -- region 4
      refine c_region ?_
      refine x_move (.pointer _) rfl ?_
      refine x_nilCheck _ rfl ?_
      first | refine x_field0 fa_66_0 _ rfl ?_ | refine x_field fa_66_0 _ _ rfl ?_
      refine x_load one_27 _ (.slice _ _ _) rfl (by first | exact hs.cell rfl | exact (hs.pull 1).cell rfl | exact (hs.pull 2).cell rfl | exact (hs.pull 3).cell rfl | assumption | exact (hs.pull 4).cell rfl | exact (hs.pull 5).cell rfl | exact (hs.pull 6).cell rfl | exact (hs.pull 7).cell rfl) ?_
      refine x_lenSl Try.underlying27 _ _ _ rfl ?_
      refine x_gtrT _ _ rfl rfl (by omega) ?_
      refine x_move (.bool _) rfl ?_
      refine x_want' rfl ?_
      refine x_move (.pointer _) rfl ?_
      refine x_want' rfl ?_
      refine x_nilCheck _ rfl ?_
      refine x_want' rfl ?_
      first | refine x_field0 fa_66_0 _ rfl ?_ | refine x_field fa_66_0 _ _ rfl ?_
      refine x_want' rfl ?_
      refine x_load one_27 _ (.slice _ _ _) rfl (by first | exact hs.cell rfl | exact (hs.pull 1).cell rfl | exact (hs.pull 2).cell rfl | exact (hs.pull 3).cell rfl | assumption | exact (hs.pull 4).cell rfl | exact (hs.pull 5).cell rfl | exact (hs.pull 6).cell rfl | exact (hs.pull 7).cell rfl) ?_
      refine x_want' rfl ?_
      refine x_indexAddr Try.underlying27 sz_56 _ _ _ _ 0 rfl rfl (by omega) ?_
      refine x_want' rfl ?_
      first | refine x_field0 fa_56_0 _ rfl ?_ | refine x_field fa_56_0 _ _ rfl ?_
      refine x_want' rfl ?_
      refine x_load one_26 _ (.int _ _) rfl (by first | exact hs.cell rfl | exact (hs.pull 1).cell rfl | exact (hs.pull 2).cell rfl | exact (hs.pull 3).cell rfl | assumption | exact (hs.pull 4).cell rfl | exact (hs.pull 5).cell rfl | exact (hs.pull 6).cell rfl | exact (hs.pull 7).cell rfl) ?_
      refine x_want' rfl ?_
      refine x_move (.int _ _) rfl ?_
      refine x_want' rfl ?_
      refine x_leqT _ _ rfl rfl (by omega) ?_
      refine x_pickT (.bool _) rfl rfl ?_
      refine x_nil ?_
      refine then_n ?_
      refine c_true rfl ?_
      refine c_skip ?_
      refine then_n ?_
      refine c_block ?_
      refine c_seq ?_
      -- region 5
      refine c_region ?_
      refine x_move (.pointer _) rfl ?_
      refine x_move (.pointer _) rfl ?_
      refine x_nilCheck _ rfl ?_
      first | refine x_field0 fa_66_0 _ rfl ?_ | refine x_field fa_66_0 _ _ rfl ?_
      refine x_load one_27 _ (.slice _ _ _) rfl (by first | exact hs.cell rfl | exact (hs.pull 1).cell rfl | exact (hs.pull 2).cell rfl | exact (hs.pull 3).cell rfl | assumption | exact (hs.pull 4).cell rfl | exact (hs.pull 5).cell rfl | exact (hs.pull 6).cell rfl | exact (hs.pull 7).cell rfl) ?_
      refine x_slice Try.underlying27 sz_56 (lo := some _) (hi := none) (some ⟨g, o1, none⟩) s'.wait.length c1 1 s'.wait.length rfl (.inr ⟨_, rfl⟩) (.inl ⟨rfl, rfl⟩) (by omega) (by obtain ⟨_, _, _, e, h', _⟩ := (hs.pull 1).rd; cases e; omega) ?_
      refine x_nilCheck _ rfl ?_
      first | refine x_field0 fa_66_0 _ rfl ?_ | refine x_field fa_66_0 _ _ rfl ?_
      refine x_store hs one_27 (.slice _ _ _) rfl rfl rfl rfl ?_; clear hs; intro w hs; refine ⟨fun h => (by first | cases h | exact h), ?_⟩
      refine x_nil ?_
      refine then_n ?_
      refine c_seq ?_
      -- region 6
      refine c_region ?_
      refine x_move (.pointer _) rfl ?_
      refine x_move (.pointer _) rfl ?_
      refine x_nilCheck _ rfl ?_
      first | refine x_field0 fa_66_1 _ rfl ?_ | refine x_field fa_66_1 _ _ rfl ?_
      refine x_load one_64 _ (.slice _ _ _) rfl (by first | exact hs.cell rfl | exact (hs.pull 1).cell rfl | exact (hs.pull 2).cell rfl | exact (hs.pull 3).cell rfl | assumption | exact (hs.pull 4).cell rfl | exact (hs.pull 5).cell rfl | exact (hs.pull 6).cell rfl | exact (hs.pull 7).cell rfl) ?_
      refine x_slice Try.underlying64 sz_4 (lo := some _) (hi := none) (some ⟨g2, o2, none⟩) s'.wait.length c2 1 s'.wait.length rfl (.inr ⟨_, rfl⟩) (.inl ⟨rfl, rfl⟩) (by omega) (by obtain ⟨_, _, _, e, h', _⟩ := (hs.pull 3).rd; cases e; omega) ?_
      refine x_nilCheck _ rfl ?_
      first | refine x_field0 fa_66_1 _ rfl ?_ | refine x_field fa_66_1 _ _ rfl ?_
      refine x_store hs one_64 (.slice _ _ _) rfl rfl rfl rfl ?_; clear hs; intro w hs; refine ⟨fun h => (by first | cases h | exact h), ?_⟩
      refine x_nil ?_
      refine then_n ?_
      -- region 7
      refine c_region ?_
      refine x_move (.int _ _) rfl ?_
      refine x_add _ _ rfl rfl (by simp only [X.lo]; omega) (by simp only [X.hi]; omega) ?_
      refine x_assign (.int _ _) rfl ?_
      refine x_nil ?_
      refine inb_n ?_
      refine then_n ?_
      have hn1 : (s'.cut 1).wait.length = s'.wait.length - 1 := by simp [SSt.cut]
      have hp : (s'.cut 1).base + (s'.cut 1).wait.length - 1 = s'.base + s'.wait.length - 1 := by
        rw [hn1]
        show s'.base + 1 + _ - 1 = _
        omega
      have hs := row_slice (i := 1) (j := s'.wait.length) (hs.pull 1) (by omega) (Nat.le_refl _)
      rw [icells_drop 1 _ _ (by rw [List.length_map, items_len, hul]), List.take_of_length_le (by rw [icells_len _ _ (by simp [items_len, hul])]; simp [items_len]), ← List.map_drop, items_drop] at hs
      have hs := row_slice (i := 1) (j := s'.wait.length) (hs.pull 3) (by omega) (Nat.le_refl _)
      rw [Nat.one_mul, tbits_drop, List.take_of_length_le (by rw [tbits_len]; omega)] at hs
      have hs := ((hs.pull 3).eachDrop 1).perm [3, 2, 0, 1]
      have hs : Sat w0 w (Blk x (.cells #[slVal (some ⟨g, o1, none⟩) s'.wait.length c1 1 s'.wait.length 2, slVal (some ⟨g2, o2, none⟩) s'.wait.length c2 1 s'.wait.length 1, .int .u64 ((s'.base + s'.wait.length - 1 : Nat) : Int), .int .u64 (o : Nat), .int .u64 (m : Nat)] 66 (0, 0)) :: Row 56 2 (slVal (some ⟨g, o1, none⟩) s'.wait.length c1 1 s'.wait.length 2) (s'.wait.length - 1) (icells ((items (s'.base + 1) (s'.wait.drop 1)).map (·.1)) (us.drop 1)) :: EachB (us.drop 1) (s'.wait.drop 1) :: Row 4 1 (slVal (some ⟨g2, o2, none⟩) s'.wait.length c2 1 s'.wait.length 1) (s'.wait.length - 1) (tbits (s'.told >>> 1) (s'.wait.length - 1)) :: L) := hs
      generalize slVal (some ⟨g, o1, none⟩) s'.wait.length c1 1 s'.wait.length 2 = y1 at hs
      generalize slVal (some ⟨g2, o2, none⟩) s'.wait.length c2 1 s'.wait.length 1 = y2 at hs
      rw [← hn1, ← hp] at hs
      exact ⟨⟨k + 1⟩, ⟨rfl, rfl, rfl, trivial⟩, ⟨by dsimp only; omega, .inr (by dsimp only; omega), by dsimp only; rw [← hcc]; exact Sat.x11' hs⟩, by dsimp only; omega⟩
    · skip
      refine c_seq ?_
      refine c_seq ?_
      -- region 4
      refine c_region ?_
      refine x_move (.pointer _) rfl ?_
      refine x_nilCheck _ rfl ?_
      first | refine x_field0 fa_66_0 _ rfl ?_ | refine x_field fa_66_0 _ _ rfl ?_
      refine x_load one_27 _ (.slice _ _ _) rfl (by first | exact hs.cell rfl | exact (hs.pull 1).cell rfl | exact (hs.pull 2).cell rfl | exact (hs.pull 3).cell rfl | assumption | exact (hs.pull 4).cell rfl | exact (hs.pull 5).cell rfl | exact (hs.pull 6).cell rfl | exact (hs.pull 7).cell rfl) ?_
      refine x_lenSl Try.underlying27 _ _ _ rfl ?_
      refine x_gtrT _ _ rfl rfl (by omega) ?_
      refine x_move (.bool _) rfl ?_
      refine x_want' rfl ?_
      refine x_move (.pointer _) rfl ?_
      refine x_want' rfl ?_
      refine x_nilCheck _ rfl ?_
      refine x_want' rfl ?_
      first | refine x_field0 fa_66_0 _ rfl ?_ | refine x_field fa_66_0 _ _ rfl ?_
      refine x_want' rfl ?_
      refine x_load one_27 _ (.slice _ _ _) rfl (by first | exact hs.cell rfl | exact (hs.pull 1).cell rfl | exact (hs.pull 2).cell rfl | exact (hs.pull 3).cell rfl | assumption | exact (hs.pull 4).cell rfl | exact (hs.pull 5).cell rfl | exact (hs.pull 6).cell rfl | exact (hs.pull 7).cell rfl) ?_
      refine x_want' rfl ?_
      refine x_indexAddr Try.underlying27 sz_56 _ _ _ _ 0 rfl rfl (by omega) ?_
      refine x_want' rfl ?_
      first | refine x_field0 fa_56_0 _ rfl ?_ | refine x_field fa_56_0 _ _ rfl ?_
      refine x_want' rfl ?_
      refine x_load one_26 _ (.int _ _) rfl (by first | exact hs.cell rfl | exact (hs.pull 1).cell rfl | exact (hs.pull 2).cell rfl | exact (hs.pull 3).cell rfl | assumption | exact (hs.pull 4).cell rfl | exact (hs.pull 5).cell rfl | exact (hs.pull 6).cell rfl | exact (hs.pull 7).cell rfl) ?_
      refine x_want' rfl ?_
      refine x_move (.int _ _) rfl ?_
      refine x_want' rfl ?_
      refine x_leqF _ _ rfl rfl (by omega) ?_
      refine x_pickT (.bool _) rfl rfl ?_
      refine x_nil ?_
      refine then_n ?_
      refine c_false rfl ?_
      refine c_exit ?_
      refine then_x ?_
      refine then_x ?_
      refine inb_e ?_
      refine then_n ?_
      refine c_seq ?_
      -- region 8
      refine c_region ?_
      refine x_move (.int _ _) rfl ?_
      refine x_assign (.int _ _) rfl ?_
      refine x_nil ?_
      refine then_n ?_
      refine c_ret ?_
      refine ⟨.inr rfl, ?_⟩
      rw [hack (by omega)]
      exact ⟨rfl, hs.x11'⟩
    · skip
      refine c_seq ?_
      refine c_seq ?_
      -- region 4
      refine c_region ?_
      refine x_move (.pointer _) rfl ?_
      refine x_nilCheck _ rfl ?_
      first | refine x_field0 fa_66_0 _ rfl ?_ | refine x_field fa_66_0 _ _ rfl ?_
      refine x_load one_27 _ (.slice _ _ _) rfl (by first | exact hs.cell rfl | exact (hs.pull 1).cell rfl | exact (hs.pull 2).cell rfl | exact (hs.pull 3).cell rfl | assumption | exact (hs.pull 4).cell rfl | exact (hs.pull 5).cell rfl | exact (hs.pull 6).cell rfl | exact (hs.pull 7).cell rfl) ?_
      refine x_lenSl Try.underlying27 _ _ _ rfl ?_
      refine x_gtrF _ _ rfl rfl (by omega) ?_
      refine x_move (.bool _) rfl ?_
      refine x_skip rfl rfl ?_
      refine x_skip rfl rfl ?_
      refine x_skip rfl rfl ?_
      refine x_skip rfl rfl ?_
      refine x_skip rfl rfl ?_
      refine x_skip rfl rfl ?_
      refine x_skip rfl rfl ?_
      refine x_skip rfl rfl ?_
      refine x_skip rfl rfl ?_
      refine x_pickF (.bool _) rfl rfl ?_
      refine x_nil ?_
      refine then_n ?_
      refine c_false rfl ?_
      refine c_exit ?_
      refine then_x ?_
      refine then_x ?_
      refine inb_e ?_
      refine then_n ?_
      refine c_seq ?_
      -- region 8
      refine c_region ?_
      refine x_move (.int _ _) rfl ?_
      refine x_assign (.int _ _) rfl ?_
      refine x_nil ?_
      refine then_n ?_
      refine c_ret ?_
      refine ⟨.inr rfl, ?_⟩
      rw [hack (by omega)]
      exact ⟨rfl, hs.x11'⟩
end Go.Proofs.Ytphakfggocdphaa.X
