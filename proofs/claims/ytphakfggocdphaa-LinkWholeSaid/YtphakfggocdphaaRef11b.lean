/-
  LAYER 11's REFERENCE: Due.
-/
import Derived.Test.YtphakfggocdphaaRef11
import Derived.Test.YtphakfggocdphaaSto
namespace Go.Proofs.Ytphakfggocdphaa.X
open Go Go.RowKit
set_option linter.unusedVariables false
set_option maxRecDepth 20000
theorem bit_eq (t j : Nat) : decide (t >>> j % 2 = 1) = t.testBit j := by
  rw [Nat.testBit_eq_decide_div_mod_eq, Nat.shiftRight_eq_div_pow]
theorem tbits_set {t n i : Nat} (h : i < n) : (tbits t n).set i (.bool true) = tbits (t ||| 1 <<< i) n := by
  apply List.ext_getElem?
  intro j
  by_cases hj : j < n
  · rw [tbits_get hj, List.getElem?_set]
    by_cases e : i = j
    · subst e
      rw [if_pos rfl, if_pos (by rw [tbits_len]; exact h), bit_eq, Nat.testBit_or, Nat.one_shiftLeft, Nat.testBit_two_pow_self]
      simp
    · rw [if_neg e, tbits_get hj, bit_eq, bit_eq, Nat.testBit_or, Nat.one_shiftLeft, Nat.testBit_two_pow_of_ne e]
      simp
  · rw [List.getElem?_eq_none (by simp [tbits_len]; omega), List.getElem?_eq_none (by rw [tbits_len]; omega)]
/-- Once and More, step by step -/
def SSt.rom (s : SSt) (o m : Nat) : Nat → Nat × Nat
  | 0 => (o, m)
  | i + 1 => if (s.dueD i).told >>> i % 2 = 0 then
      if s.base + i > (s.rom o m i).1 then (s.base + i, (s.rom o m i).2) else ((s.rom o m i).1, (s.rom o m i).2 + 1)
    else s.rom o m i
theorem rom_ok (s : SSt) (o m : Nat) : ∀ i, (s.rom o m i).1 ≤ max o (s.base + i) ∧ (s.rom o m i).2 ≤ m + i
  | 0 => ⟨Nat.le_max_left _ _, Nat.le_refl _⟩
  | i + 1 => by
    obtain ⟨h1, h2⟩ := rom_ok s o m i
    unfold SSt.rom
    split
    · split
      · exact ⟨by dsimp only; omega, by dsimp only; omega⟩
      · exact ⟨by dsimp only; omega, by dsimp only; omega⟩
    · exact ⟨by omega, by omega⟩
/-- items that are only read -/
def RI (w : World) (v : Value) (l : List Item) : Prop := ∃ us, us.length = l.length ∧ RD w 2 v l.length (icells (l.map (·.1)) us) ∧ ∀ (i : Nat) (u : Value) (p : Item), us[i]? = some u → l[i]? = some p → RB w u p.2
theorem Sat.ri {w0 w : World} {v : Value} {l : List Item} {L : List HP} (hs : Sat w0 w (IR v l :: L)) : RI w v l := by
  obtain ⟨us, hs⟩ := hs.ir
  refine ⟨us, by simpa using hs.tail.eachLen, hs.rd, fun i u p h1 h2 => hs.tail.eachRB h1 (by rw [List.getElem?_map, h2]; rfl)⟩
theorem RI.heapEq {w w' : World} {v : Value} {l : List Item} (h : RI w v l) (hh : w'.heap = w.heap) : RI w' v l := by
  obtain ⟨us, h0, h1, h2⟩ := h
  exact ⟨us, h0, h1.heapEq hh, fun i u p h3 h4 => (h2 i u p h3 h4).heapEq hh⟩
theorem RI.val {w : World} {v : Value} {l : List Item} (h : RI w v l) : ∃ ao c, v = .slice ao l.length c := let ⟨_, _, h1, _⟩ := h; h1.val

theorem bs_item0 (q : Int) (a : Option Addr) (n c : Nat) (w : World) : (Instr.buildSlice 27 1 #[(0, .agg #[.int .u64 q, .slice a n c])]).run Try.prog w = .ok (.slice (some ⟨w.heap.size, 0, none⟩) 1 1) (w.alloc (.cells #[.int .u64 q, .slice a n c] 56)) := bs_item q a n c w
theorem rdue_fin {w0 w : World} {A B C : HP} {L : List HP} {us ous : List Value} {wait : List (List UInt8)} {v : Value} {out : List Item} (hs : Sat w0 w (A :: B :: EachB us wait :: C :: Row 56 2 v out.length (icells (out.map (·.1)) ous) :: L)) (hol : ous.length = out.length)
    (hou : ∀ (j : Nat) (u : Value) (p : Item), ous[j]? = some u → out[j]? = some p → ∃ q : Nat, us[q]? = some u ∧ wait[q]? = some p.2) : RI w v out := by
  refine ⟨ous, hol, (hs.pull 4).rd, fun i u p h1 h2 => ?_⟩
  obtain ⟨q, h3, h4⟩ := hou i u p h1 h2
  exact (hs.pull 2).eachRB h3 h4
structure GRDue where
  i : Nat
  v : Value
  ous : List Value
set_option maxHeartbeats 4000000 in
theorem rdue_calls {w0 w : World} {L : List HP} {x o m : Nat} {s : SSt} (hs : Sat w0 w (X11 x s o m :: L)) (ok : s.ok) (hb0 : 1 ≤ s.base) (ho : o ≤ 1000000000000) (hm : m ≤ 1000000000000) :
    Calls Try.prog 31 #[.pointer (some ⟨x, 0, none⟩)] w fun e w' => ∃ v, e = .returned v ∧ RI w' v s.due.1 ∧ Sat w0 w' (X11 x s.due.2 (s.rom o m (min 16 s.wait.length)).1 (s.rom o m (min 16 s.wait.length)).2 :: L) := by
  obtain ⟨a1, c1, a2, c2, us, hul, hs⟩ := hs.x11
  refine enter Try.func31 rfl Try.ntmps31 2 rfl (Nat.le_of_ble_eq_true rfl) ?_
  refine c_seq ?_
  -- region 0
  refine c_region ?_
  refine x_assign (.slice _ _ _) rfl ?_
  refine x_nil ?_
  refine then_n ?_
  refine c_seq ?_
  -- region 1
  refine c_region ?_
  refine x_assign (.slice _ _ _) rfl ?_
  refine x_nil ?_
  refine then_n ?_
  refine c_seq ?_
  refine c_seq ?_
  -- region 2
  refine c_region ?_
  refine x_assign (.int _ _) rfl ?_
  refine x_nil ?_
  refine then_n ?_
  refine c_block ?_
  refine c_loop (γ := GRDue) (fun g => [(0, .pointer (some ⟨x, 0, none⟩)), (3, g.v), (4, .int .i64 (g.i : Nat))]) (fun g w => g.i ≤ 16 ∧ g.i ≤ s.wait.length ∧ g.ous.length = (s.dueD g.i).out.length ∧ (∀ (j : Nat) (u : Value) (p : Item), g.ous[j]? = some u → (s.dueD g.i).out[j]? = some p → ∃ q : Nat, us[q]? = some u ∧ s.wait[q]? = some p.2) ∧ Sat w0 w (Blk x (.cells #[.slice a1 s.wait.length c1, .slice a2 s.wait.length c2, .int .u64 ((s.base + s.wait.length - 1 : Nat) : Int), .int .u64 ((s.rom o m g.i).1 : Nat), .int .u64 ((s.rom o m g.i).2 : Nat)] 66 (0, 0)) :: Row 56 2 (.slice a1 s.wait.length c1) s.wait.length (icells ((items s.base s.wait).map (·.1)) us) :: EachB us s.wait :: Row 4 1 (.slice a2 s.wait.length c2) s.wait.length (tbits (s.dueD g.i).told s.wait.length) :: Row 56 2 g.v (s.dueD g.i).out.length (icells ((s.dueD g.i).out.map (·.1)) g.ous) :: L)) (fun g => 16 - g.i) ⟨0, .slice none 0 0, []⟩ ⟨rfl, rfl, rfl, trivial⟩ ⟨Nat.zero_le _, Nat.zero_le _, rfl, fun j u p h => (nomatch h), hs.rowNil.perm [1, 2, 3, 4, 0]⟩ ?_
  clear hs
  rintro ⟨i, v, ous⟩ ρ w ⟨hi16, hil, hol, hou, hs⟩
  dsimp only at hi16 hil hol hou hs
  have hrs : s.rom o m (i + 1) = if (s.dueD i).told >>> i % 2 = 0 then (if s.base + i > (s.rom o m i).1 then (s.base + i, (s.rom o m i).2) else ((s.rom o m i).1, (s.rom o m i).2 + 1)) else s.rom o m i := rfl
  have hds : s.dueD (i + 1) = s.dueStep i (s.dueD i) := rfl
  have hend : i = min 16 s.wait.length → s.due = ((s.dueD i).out, s.at (s.dueD i)) := fun e => by unfold SSt.due; rw [← e]
  obtain ⟨ok1, ok2, ok3, ok4, ok5, ok6, ok7⟩ := id ok
  obtain ⟨d1, d2, d3, d4, d5⟩ := dueD_ok ok i hi16
  obtain ⟨r1, r2⟩ := rom_ok s o m i
  obtain ⟨a3, c3, rfl⟩ : ∃ ao c, v = .slice ao (s.dueD i).out.length c := (hs.pull 4).rd.val
  change CW Try.prog 74 _ _ (sets 74 [(0, .pointer (some ⟨x, 0, none⟩)), (3, .slice a3 (s.dueD i).out.length c3), (4, .int .i64 (i : Nat))] ρ) w
  by_cases h1 : i < s.wait.length
  by_cases h2 : i < 16
  obtain ⟨g2, o2, rfl⟩ := (hs.pull 3).rowAddr (by omega)
  have hcell : w.cell? ⟨g2, o2 + i * 1, none⟩ = some (.bool (decide ((s.dueD i).told >>> i % 2 = 1))) := by rw [Nat.mul_one]; exact (hs.pull 3).rowCell (tbits_get h1)
  · skip
    refine c_seq ?_
    refine c_seq ?_
    -- region 3
    refine c_region ?_
    refine x_move (.int _ _) rfl ?_
    refine x_move (.pointer _) rfl ?_
    refine x_nilCheck _ rfl ?_
    first | refine x_field0 fa_66_0 _ rfl ?_ | refine x_field fa_66_0 _ _ rfl ?_
    refine x_load one_27 _ (.slice _ _ _) rfl (by first | exact hs.cell rfl | exact (hs.pull 1).cell rfl | exact (hs.pull 2).cell rfl | exact (hs.pull 3).cell rfl | assumption | exact (hs.pull 4).cell rfl | exact (hs.pull 5).cell rfl | exact (hs.pull 6).cell rfl | exact (hs.pull 7).cell rfl) ?_
    refine x_lenSl Try.underlying27 _ _ _ rfl ?_
    refine x_lssT _ _ rfl rfl (by omega) ?_
    refine x_move (.bool _) rfl ?_
    refine x_want' rfl ?_
    refine x_move (.int _ _) rfl ?_
    refine x_want' rfl ?_
    refine x_lssT _ _ rfl rfl (by omega) ?_
    refine x_pickT (.bool _) rfl rfl ?_
    refine x_nil ?_
    refine then_n ?_
    refine c_true rfl ?_
    refine c_skip ?_
    refine then_n ?_
    refine c_seq ?_
    refine c_block ?_
    refine c_seq ?_
    -- region 5
    refine c_region ?_
    refine x_move (.pointer _) rfl ?_
    refine x_nilCheck _ rfl ?_
    first | refine x_field0 fa_66_1 _ rfl ?_ | refine x_field fa_66_1 _ _ rfl ?_
    refine x_load one_64 _ (.slice _ _ _) rfl (by first | exact hs.cell rfl | exact (hs.pull 1).cell rfl | exact (hs.pull 2).cell rfl | exact (hs.pull 3).cell rfl | assumption | exact (hs.pull 4).cell rfl | exact (hs.pull 5).cell rfl | exact (hs.pull 6).cell rfl | exact (hs.pull 7).cell rfl) ?_
    refine x_move (.int _ _) rfl ?_
    refine x_indexAddr Try.underlying64 sz_4 _ _ _ _ _ rfl rfl (by omega) ?_
    refine x_load one_4 _ (.bool _) rfl (by first | exact hs.cell rfl | exact (hs.pull 1).cell rfl | exact (hs.pull 2).cell rfl | exact (hs.pull 3).cell rfl | assumption | exact (hs.pull 4).cell rfl | exact (hs.pull 5).cell rfl | exact (hs.pull 6).cell rfl | exact (hs.pull 7).cell rfl) ?_
    refine x_not _ rfl ?_
    refine x_nil ?_
    refine then_n ?_
    refine c_cond rfl (fun hb => ?_) (fun hb => ?_)   -- cond t25
    · skip
      refine c_seq ?_
      -- region 6
      have hnt : (s.dueD i).told >>> i % 2 = 0 := by
        have hb' := of_decide_eq_false (Bool.not_eq_true' _ ▸ hb : decide ((s.dueD i).told >>> i % 2 = 1) = false)
        omega
      obtain ⟨g1, o1, rfl⟩ := (hs.pull 1).rowAddr (by omega)
      obtain ⟨b, hbi⟩ : ∃ b, s.wait[i]? = some b := ⟨s.wait[i]'h1, List.getElem?_eq_getElem _⟩
      have hq : ((items s.base s.wait).map (·.1))[i]? = some (s.base + i) := by rw [List.getElem?_map, items_get _ _ _ _ hbi]; rfl
      obtain ⟨u, hu⟩ : ∃ u, us[i]? = some u := ⟨us[i]'(by omega), List.getElem?_eq_getElem _⟩
      obtain ⟨a5, c5, rfl⟩ := ((hs.pull 2).eachRB hu hbi).val
      have hcs := icells_get _ us i _ _ hq hu
      have hcA : w.cell? ⟨g1, o1 + i * 2 + 0, none⟩ = some (.int .u64 ((s.base + i : Nat) : Int)) := (hs.pull 1).rowCell hcs.1
      have hcB : w.cell? ⟨g1, o1 + i * 2 + 1, none⟩ = some (.slice a5 b.length c5) := (hs.pull 1).rowCell hcs.2
      have hcells : ∀ (j : Nat) (u : Value), [Value.int .u64 ((s.base + i : Nat) : Int), .slice a5 b.length c5][j]? = some u → w.cell? ((⟨g1, o1 + i * 2, none⟩ : Addr).add j) = some u := fun j u hj => by
        rw [Addr.add_lit]
        match j, hj with
        | 0, hj => cases hj; exact hcA
        | 1, hj => cases hj; exact hcB
        | j + 2, hj => simp at hj
      refine c_region ?_
      refine x_move (.slice _ _ _) rfl ?_
      refine x_move (.pointer _) rfl ?_
      refine x_nilCheck _ rfl ?_
      first | refine x_field0 fa_66_0 _ rfl ?_ | refine x_field fa_66_0 _ _ rfl ?_
      refine x_load one_27 _ (.slice _ _ _) rfl (by first | exact hs.cell rfl | exact (hs.pull 1).cell rfl | exact (hs.pull 2).cell rfl | exact (hs.pull 3).cell rfl | assumption | exact (hs.pull 4).cell rfl | exact (hs.pull 5).cell rfl | exact (hs.pull 6).cell rfl | exact (hs.pull 7).cell rfl) ?_
      refine x_move (.int _ _) rfl ?_
      refine x_indexAddr Try.underlying27 sz_56 _ _ _ _ _ rfl rfl (by omega) ?_
      refine x_loadN [.int .u64 ((s.base + i : Nat) : Int), .slice a5 b.length c5] agg_56 _ rfl hcells ?_
      refine x_buildSlice #[.int .u64 ((s.base + i : Nat) : Int), .slice a5 b.length c5] [(0, .agg #[.int .u64 ((s.base + i : Nat) : Int), .slice a5 b.length c5])] hs rfl (fun w => bs_item _ _ _ _ w) ?_
      clear hs hcell hcA hcB hcells; intro b2 w hs; refine ⟨fun h => (by cases h), ?_⟩
      have hrd := rd_blk (size := 2) hs rfl
      have hs := hs.perm [5, 1, 2, 3, 4, 0]
      refine x_append hs Try.underlying27 ei_56 hrd (by intro u hu; simp at hu; rcases hu with rfl | rfl <;> rfl) (by unfold maxLen; omega) (by omega) rfl rfl ?_
      clear hs; intro v w hs; refine ⟨fun h => (by cases h), ?_⟩
      obtain ⟨a7, c7, rfl⟩ := hs.rd.val
      rw [show icells ((s.dueD i).out.map (·.1)) ous ++ #[Value.int .u64 ((s.base + i : Nat) : Int), .slice a5 b.length c5].toList = icells (((s.dueD i).out ++ [(s.base + i, b)]).map (·.1)) (ous ++ [.slice a5 b.length c5]) from by
        rw [List.map_append, List.map_singleton, icells_snoc _ _ _ _ (by rw [List.length_map, hol])]] at hs
      rw [show (s.dueD i).out.length + 1 = ((s.dueD i).out ++ [(s.base + i, b)]).length from by simp] at hs ⊢
      have hs := (hs.pull 5).tail.perm [1, 2, 3, 4, 0]
      have hcA : w.cell? ⟨g1, o1 + i * 2 + 0, none⟩ = some (.int .u64 ((s.base + i : Nat) : Int)) := (hs.pull 1).rowCell hcs.1
      refine x_assign (.slice _ _ _) rfl ?_
      refine x_nil ?_
      refine then_n ?_
      refine c_seq ?_
      refine c_seq ?_
      -- region 7 DRAWS
      refine c_draw (fun w => w.cell? ⟨x, 0, none⟩ = some (.slice (some ⟨g1, o1, none⟩) s.wait.length c1) ∧ w.cell? ⟨g1, o1 + i * 2 + 0, none⟩ = some (.int .u64 ((s.base + i : Nat) : Int)) ∧ w.cell? ⟨x, 3, none⟩ = some (.int .u64 ((s.rom o m i).1 : Nat))) (fun i => !(false)) [(0, 2), (1, 2), (2, 2), (3, 1), (4, 2), (5, 2), (6, 2), (7, 1), (8, 2), (9, 2), (10, 2), (11, 1), (12, 2)] (by kernel_rfl) (by kernel_rfl) (by kernel_rfl) (by kernel_rfl) (⟨hs.cell rfl, hcA, hs.cell rfl⟩) ?_
      replace hs := hs.drew
      refine x_move (.pointer _) rfl ?_
      refine x_nilCheck _ rfl ?_
      first | refine x_field0 fa_66_0 _ rfl ?_ | refine x_field fa_66_0 _ _ rfl ?_
      refine h_load one_27 _ (.slice _ _ _) rfl (fun w hS => by first | exact hS.cell rfl | exact (hS.pull 1).cell rfl | exact (hS.pull 2).cell rfl | exact (hS.pull 3).cell rfl | exact hS | exact hS.1 | exact hS.2 | exact hS.2.1 | exact hS.2.2 | exact hS.2.2.1 | exact hS.2.2.2 | exact hS.2.2.2.1 | exact hS.2.2.2.2) ?_
      refine x_move (.int _ _) rfl ?_
      refine x_indexAddr Try.underlying27 sz_56 _ _ _ _ _ rfl rfl (by omega) ?_
      first | refine x_field0 fa_56_0 _ rfl ?_ | refine x_field fa_56_0 _ _ rfl ?_
      refine h_load one_26 _ (.int _ _) rfl (fun w hS => by first | exact hS.cell rfl | exact (hS.pull 1).cell rfl | exact (hS.pull 2).cell rfl | exact (hS.pull 3).cell rfl | exact hS | exact hS.1 | exact hS.2 | exact hS.2.1 | exact hS.2.2 | exact hS.2.2.1 | exact hS.2.2.2 | exact hS.2.2.2.1 | exact hS.2.2.2.2) ?_
      refine x_move (.pointer _) rfl ?_
      refine x_nilCheck _ rfl ?_
      first | refine x_field0 fa_66_3 _ rfl ?_ | refine x_field fa_66_3 _ _ rfl ?_
      refine h_load one_26 _ (.int _ _) rfl (fun w hS => by first | exact hS.cell rfl | exact (hS.pull 1).cell rfl | exact (hS.pull 2).cell rfl | exact (hS.pull 3).cell rfl | exact hS | exact hS.1 | exact hS.2 | exact hS.2.1 | exact hS.2.2 | exact hS.2.2.1 | exact hS.2.2.2 | exact hS.2.2.2.1 | exact hS.2.2.2.2) ?_
      refine x_gtr _ _ rfl rfl ?_
      refine x_nil ?_
      refine then_n ?_
      refine c_test _ rfl (fun hb => ?_) (fun hb => ?_)   -- cond t48
      · skip
        -- region 8
        have hcA := (hs.pull 1).rowCell hcs.1
        refine c_region ?_
        refine x_move (.pointer _) rfl ?_
        refine x_move (.pointer _) rfl ?_
        refine x_nilCheck _ rfl ?_
        first | refine x_field0 fa_66_0 _ rfl ?_ | refine x_field fa_66_0 _ _ rfl ?_
        refine x_load one_27 _ (.slice _ _ _) rfl (by first | exact hs.cell rfl | exact (hs.pull 1).cell rfl | exact (hs.pull 2).cell rfl | exact (hs.pull 3).cell rfl | assumption | exact (hs.pull 4).cell rfl | exact (hs.pull 5).cell rfl | exact (hs.pull 6).cell rfl | exact (hs.pull 7).cell rfl) ?_
        refine x_move (.int _ _) rfl ?_
        refine x_indexAddr Try.underlying27 sz_56 _ _ _ _ _ rfl rfl (by omega) ?_
        first | refine x_field0 fa_56_0 _ rfl ?_ | refine x_field fa_56_0 _ _ rfl ?_
        refine x_load one_26 _ (.int _ _) rfl (by first | exact hs.cell rfl | exact (hs.pull 1).cell rfl | exact (hs.pull 2).cell rfl | exact (hs.pull 3).cell rfl | assumption | exact (hs.pull 4).cell rfl | exact (hs.pull 5).cell rfl | exact (hs.pull 6).cell rfl | exact (hs.pull 7).cell rfl) ?_
        refine x_nilCheck _ rfl ?_
        first | refine x_field0 fa_66_3 _ rfl ?_ | refine x_field fa_66_3 _ _ rfl ?_
        refine x_store hs one_26 (.int _ _) rfl rfl rfl rfl ?_
        clear hs; intro w hs; refine ⟨fun h => (by cases h), ?_⟩
        refine x_nil ?_
        refine then_n ?_
        -- region 10
        refine c_region ?_
        refine x_move (.pointer _) rfl ?_
        refine x_nilCheck _ rfl ?_
        first | refine x_field0 fa_66_1 _ rfl ?_ | refine x_field fa_66_1 _ _ rfl ?_
        refine x_load one_64 _ (.slice _ _ _) rfl (by first | exact hs.cell rfl | exact (hs.pull 1).cell rfl | exact (hs.pull 2).cell rfl | exact (hs.pull 3).cell rfl | assumption | exact (hs.pull 4).cell rfl | exact (hs.pull 5).cell rfl | exact (hs.pull 6).cell rfl | exact (hs.pull 7).cell rfl) ?_
        refine x_move (.int _ _) rfl ?_
        refine x_indexAddr Try.underlying64 sz_4 _ _ _ _ _ rfl rfl (by omega) ?_
        have hs := hs.pull 3
        refine x_storeRow hs one_4 (.bool true) rfl rfl rfl (by omega) ?_
        clear hs; intro w hs; refine ⟨fun h => (by cases h), ?_⟩
        rw [Nat.mul_one, tbits_set h1] at hs
        refine x_nil ?_
        refine inb_n ?_
        refine then_n ?_
        -- region 4
        refine c_region ?_
        refine x_move (.int _ _) rfl ?_
        refine x_add _ _ rfl rfl (by simp only [X.lo]; omega) (by simp only [X.hi]; omega) ?_
        refine x_assign (.int _ _) rfl ?_
        refine x_nil ?_
        refine then_n ?_
        have hd : s.dueD (i + 1) = ⟨(s.dueD i).told ||| 1 <<< i, (s.dueD (i + 1)).ever, (s.dueD (i + 1)).once, (s.dueD (i + 1)).more, (s.dueD i).out ++ [(s.base + i, b)]⟩ := by
          rw [hds]; unfold SSt.dueStep; rw [if_pos hnt]
          split <;> simp [List.getD_eq_getElem?_getD, hbi]
        have hr : s.rom o m (i + 1) = (s.base + i, (s.rom o m i).2) := by rw [hrs, if_pos hnt, if_pos (by omega)]
        have hdo := congrArg DSt.out hd
        have hdt := congrArg DSt.told hd
        dsimp only at hdo hdt
        refine ⟨⟨i + 1, _, ous ++ [.slice a5 b.length c5]⟩, ⟨rfl, rfl, rfl, trivial⟩, ⟨by dsimp only; omega, by dsimp only; omega, by dsimp only; rw [hdo]; simp [hol], ?_, ?_⟩, by dsimp only; omega⟩
        · dsimp only
          rw [hdo]
          exact par_snoc hol hou ⟨i, hu, hbi⟩
        · dsimp only
          rw [hdo, hdt, hr]
          exact hs.perm [1, 2, 3, 0, 4]
      · skip
        -- region 9
        refine c_region ?_
        refine x_move (.pointer _) rfl ?_
        refine x_nilCheck _ rfl ?_
        first | refine x_field0 fa_66_4 _ rfl ?_ | refine x_field fa_66_4 _ _ rfl ?_
        refine x_load one_26 _ (.int _ _) rfl (by first | exact hs.cell rfl | exact (hs.pull 1).cell rfl | exact (hs.pull 2).cell rfl | exact (hs.pull 3).cell rfl | assumption | exact (hs.pull 4).cell rfl | exact (hs.pull 5).cell rfl | exact (hs.pull 6).cell rfl | exact (hs.pull 7).cell rfl) ?_
        refine x_add _ _ rfl rfl (by simp only [X.lo]; omega) (by simp only [X.hi]; omega) ?_
        refine x_nilCheck _ rfl ?_
        first | refine x_field0 fa_66_4 _ rfl ?_ | refine x_field fa_66_4 _ _ rfl ?_
        refine x_store hs one_26 (.int _ _) rfl rfl rfl rfl ?_
        clear hs; intro w hs; refine ⟨fun h => (by cases h), ?_⟩
        refine x_nil ?_
        refine then_n ?_
        -- region 10
        refine c_region ?_
        refine x_move (.pointer _) rfl ?_
        refine x_nilCheck _ rfl ?_
        first | refine x_field0 fa_66_1 _ rfl ?_ | refine x_field fa_66_1 _ _ rfl ?_
        refine x_load one_64 _ (.slice _ _ _) rfl (by first | exact hs.cell rfl | exact (hs.pull 1).cell rfl | exact (hs.pull 2).cell rfl | exact (hs.pull 3).cell rfl | assumption | exact (hs.pull 4).cell rfl | exact (hs.pull 5).cell rfl | exact (hs.pull 6).cell rfl | exact (hs.pull 7).cell rfl) ?_
        refine x_move (.int _ _) rfl ?_
        refine x_indexAddr Try.underlying64 sz_4 _ _ _ _ _ rfl rfl (by omega) ?_
        have hs := hs.pull 3
        refine x_storeRow hs one_4 (.bool true) rfl rfl rfl (by omega) ?_
        clear hs; intro w hs; refine ⟨fun h => (by cases h), ?_⟩
        rw [Nat.mul_one, tbits_set h1] at hs
        refine x_nil ?_
        refine inb_n ?_
        refine then_n ?_
        -- region 4
        refine c_region ?_
        refine x_move (.int _ _) rfl ?_
        refine x_add _ _ rfl rfl (by simp only [X.lo]; omega) (by simp only [X.hi]; omega) ?_
        refine x_assign (.int _ _) rfl ?_
        refine x_nil ?_
        refine then_n ?_
        have hd : s.dueD (i + 1) = ⟨(s.dueD i).told ||| 1 <<< i, (s.dueD (i + 1)).ever, (s.dueD (i + 1)).once, (s.dueD (i + 1)).more, (s.dueD i).out ++ [(s.base + i, b)]⟩ := by
          rw [hds]; unfold SSt.dueStep; rw [if_pos hnt]
          split <;> simp [List.getD_eq_getElem?_getD, hbi]
        have hr : s.rom o m (i + 1) = ((s.rom o m i).1, (s.rom o m i).2 + 1) := by rw [hrs, if_pos hnt, if_neg (by omega)]
        have hdo := congrArg DSt.out hd
        have hdt := congrArg DSt.told hd
        dsimp only at hdo hdt
        refine ⟨⟨i + 1, _, ous ++ [.slice a5 b.length c5]⟩, ⟨rfl, rfl, rfl, trivial⟩, ⟨by dsimp only; omega, by dsimp only; omega, by dsimp only; rw [hdo]; simp [hol], ?_, ?_⟩, by dsimp only; omega⟩
        · dsimp only
          rw [hdo]
          exact par_snoc hol hou ⟨i, hu, hbi⟩
        · dsimp only
          rw [hdo, hdt, hr]
          exact hs.perm [1, 2, 3, 0, 4]
    · skip
      refine c_skip ?_
      refine inb_n ?_
      refine then_n ?_
      -- region 4
      refine c_region ?_
      refine x_move (.int _ _) rfl ?_
      refine x_add _ _ rfl rfl (by simp only [X.lo]; omega) (by simp only [X.hi]; omega) ?_
      refine x_assign (.int _ _) rfl ?_
      refine x_nil ?_
      refine then_n ?_
      have hnt : ¬ (s.dueD i).told >>> i % 2 = 0 := by
        have hb' := of_decide_eq_true (Bool.not_eq_false' _ ▸ hb : decide ((s.dueD i).told >>> i % 2 = 1) = true)
        omega
      have hd : s.dueD (i + 1) = s.dueD i := by rw [hds]; unfold SSt.dueStep; rw [if_neg hnt]
      have hr : s.rom o m (i + 1) = s.rom o m i := by rw [hrs, if_neg hnt]
      refine ⟨⟨i + 1, _, ous⟩, ⟨rfl, rfl, rfl, trivial⟩, ⟨by dsimp only; omega, by dsimp only; omega, by dsimp only; rw [hd]; exact hol, ?_, ?_⟩, by dsimp only; omega⟩
      · dsimp only
        rw [hd]
        exact hou
      · dsimp only
        rw [hd, hr]
        exact hs
  · skip
    refine c_seq ?_
    refine c_seq ?_
    -- region 3
    refine c_region ?_
    refine x_move (.int _ _) rfl ?_
    refine x_move (.pointer _) rfl ?_
    refine x_nilCheck _ rfl ?_
    first | refine x_field0 fa_66_0 _ rfl ?_ | refine x_field fa_66_0 _ _ rfl ?_
    refine x_load one_27 _ (.slice _ _ _) rfl (by first | exact hs.cell rfl | exact (hs.pull 1).cell rfl | exact (hs.pull 2).cell rfl | exact (hs.pull 3).cell rfl | assumption | exact (hs.pull 4).cell rfl | exact (hs.pull 5).cell rfl | exact (hs.pull 6).cell rfl | exact (hs.pull 7).cell rfl) ?_
    refine x_lenSl Try.underlying27 _ _ _ rfl ?_
    refine x_lssT _ _ rfl rfl (by omega) ?_
    refine x_move (.bool _) rfl ?_
    refine x_want' rfl ?_
    refine x_move (.int _ _) rfl ?_
    refine x_want' rfl ?_
    refine x_lssF _ _ rfl rfl (by omega) ?_
    refine x_pickT (.bool _) rfl rfl ?_
    refine x_nil ?_
    refine then_n ?_
    refine c_false rfl ?_
    refine c_exit ?_
    refine then_x ?_
    refine then_x ?_
    refine inb_e ?_
    refine then_n ?_
    refine c_seq ?_
    -- region 11
    refine c_region ?_
    refine x_move (.slice _ _ _) rfl ?_
    refine x_assign (.slice _ _ _) rfl ?_
    refine x_nil ?_
    refine then_n ?_
    refine c_ret ?_
    refine ⟨.inr rfl, ?_⟩
    have he : i = min 16 s.wait.length := by omega
    rw [hend he, ← he]
    exact ⟨_, rfl, rdue_fin hs hol hou, Sat.x11' (s := s.at (s.dueD i)) ((hs.pull 4).tail)⟩
  · skip
    refine c_seq ?_
    refine c_seq ?_
    -- region 3
    refine c_region ?_
    refine x_move (.int _ _) rfl ?_
    refine x_move (.pointer _) rfl ?_
    refine x_nilCheck _ rfl ?_
    first | refine x_field0 fa_66_0 _ rfl ?_ | refine x_field fa_66_0 _ _ rfl ?_
    refine x_load one_27 _ (.slice _ _ _) rfl (by first | exact hs.cell rfl | exact (hs.pull 1).cell rfl | exact (hs.pull 2).cell rfl | exact (hs.pull 3).cell rfl | assumption | exact (hs.pull 4).cell rfl | exact (hs.pull 5).cell rfl | exact (hs.pull 6).cell rfl | exact (hs.pull 7).cell rfl) ?_
    refine x_lenSl Try.underlying27 _ _ _ rfl ?_
    refine x_lssF _ _ rfl rfl (by omega) ?_
    refine x_move (.bool _) rfl ?_
    refine x_skip rfl rfl ?_
    refine x_skip rfl rfl ?_
    refine x_pickF (.bool _) rfl rfl ?_
    refine x_nil ?_
    refine then_n ?_
    refine c_false rfl ?_
    refine c_exit ?_
    refine then_x ?_
    refine then_x ?_
    refine inb_e ?_
    refine then_n ?_
    refine c_seq ?_
    -- region 11
    refine c_region ?_
    refine x_move (.slice _ _ _) rfl ?_
    refine x_assign (.slice _ _ _) rfl ?_
    refine x_nil ?_
    refine then_n ?_
    refine c_ret ?_
    refine ⟨.inr rfl, ?_⟩
    have he : i = min 16 s.wait.length := by omega
    rw [hend he, ← he]
    exact ⟨_, rfl, rdue_fin hs hol hou, Sat.x11' (s := s.at (s.dueD i)) ((hs.pull 4).tail)⟩
end Go.Proofs.Ytphakfggocdphaa.X
