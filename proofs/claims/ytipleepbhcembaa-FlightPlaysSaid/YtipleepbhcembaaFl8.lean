/-
  LAYER 14, the reference: Spoil, Cut, Take.
-/
import Derived.Test.YtipleepbhcembaaFl7
namespace Go.Proofs.Ytipleepbhcembaa.X
open Go Go.RowKit
set_option linter.unusedVariables false
set_option maxRecDepth 20000
theorem pk_byt (x : Int) : ((pk x 256 : Nat) : Int) = ((byt x).toNat : Nat) := by
  rw [byt_toNat]
  have h1 := Int.emod_nonneg x (b := 256) (by decide)
  have h2 := Int.emod_lt_of_pos x (b := 256) (by decide)
  have h3 := Int.tmod_eq_emod (a := x) (b := 256)
  have h4 : x.emod 256 = x % 256 := rfl
  unfold pk
  rw [if_neg (by decide), h4]
  split at h3
  · rw [if_neg (by omega), Int.toNat_of_nonneg (by omega)]
    omega
  · rename_i hn
    have hne : x % 256 ≠ 0 := fun e => hn (.inr (Int.dvd_of_emod_eq_zero e))
    rw [if_pos (by simp at h3; omega), Int.toNat_of_nonneg (by simp at h3; omega)]
    simp at h3
    omega
theorem tsetAll {z : List (Thg × Value)} {k : Nat} (y : Thg × Value) (hk : k < z.length) : setRows (tcells z) (k * 4) (tcell y) = tcells (z.set k y) := by
  unfold tcells
  rw [flat_setRows (trow z) rfl (by simpa using hk), List.map_set]
theorem look_len {l : List Thg} {a : Int} (hb : ∀ t ∈ l, t.b.length ≤ 1000000) : (thLook l a).b.length ≤ 1000000 := by
  unfold thLook
  by_cases h : pk a l.length < l.length
  · rw [List.getD_eq_getElem?_getD, List.getElem?_eq_getElem h]
    exact hb _ (List.getElem_mem h)
  · rw [List.getD_eq_getElem?_getD, List.getElem?_eq_none (by omega)]
    exact Nat.zero_le _
theorem look_nil {l : List Thg} {a : Int} (h : ¬ 0 < l.length) : thLook l a = Thg.none := by
  obtain rfl : l = [] := List.eq_nil_of_length_eq_zero (by omega)
  rfl
theorem rspoil_sp {w0 w : World} {L : List HP} {f : Nat} {l : List Thg} (at' wh by' : Int) (hs : Sat w0 w (FR f l :: L)) (hl : l.length ≤ 1000000) (hb0 : (thLook l at').b.length ≠ 0) (hsp : (thLook l at').sp = true) :
    Calls Try.prog 19 #[.pointer (some ⟨f, 0, none⟩), .int .i64 at', .int .i64 wh, .int .i64 by'] w fun e w' => e = .returned (.bool false) ∧ Sat w0 w' (FR f l :: L) := by
  refine enter Try.func19 rfl Try.ntmps19 8 rfl (Nat.le_of_ble_eq_true rfl) ?_
  refine c_seq ?_
  -- region 0
  refine c_region ?_
  refine x_assign (.bool _) rfl ?_
  refine x_nil ?_
  refine then_n ?_
  refine c_seq ?_
  -- region 1
  refine c_region ?_
  refine x_move (.int _ _) rfl ?_
  refine x_call Try.f14 Try.func14 rfl rfl _ rfl ?_
  refine (pick_calls hs by' 256 (by decide)).mono ?_
  clear hs; rintro e w ⟨rfl, hs, -⟩
  refine ⟨_, rfl, fun h => (by first | (cases h; done) | (first | exact hs.cells2 rfl rfl | exact (hs.pull 1).cells2 rfl rfl | exact (hs.pull 2).cells2 rfl rfl | exact (hs.pull 3).cells2 rfl rfl | exact (hs.pull 4).cells2 rfl rfl | exact (hs.pull 5).cells2 rfl rfl | exact (hs.pull 6).cells2 rfl rfl | exact (hs.pull 7).cells2 rfl rfl | exact (hs.pull 8).cells2 rfl rfl | exact hs.cell rfl | exact (hs.pull 1).cell rfl | exact (hs.pull 2).cell rfl | exact (hs.pull 3).cell rfl | exact (hs.pull 4).cell rfl | exact (hs.pull 5).cell rfl | exact (hs.pull 6).cell rfl | exact (hs.pull 7).cell rfl | exact (hs.pull 8).cell rfl | assumption | exact hs.cellsOf | exact (hs.pull 1).cellsOf | exact (hs.pull 2).cellsOf | exact (hs.pull 3).cellsOf | exact (hs.pull 4).cellsOf | exact (hs.pull 5).cellsOf | exact (hs.pull 6).cellsOf | exact (hs.pull 7).cellsOf | exact (hs.pull 8).cellsOf) | (and_intros <;> first | exact hs.cells2 rfl rfl | exact (hs.pull 1).cells2 rfl rfl | exact (hs.pull 2).cells2 rfl rfl | exact (hs.pull 3).cells2 rfl rfl | exact (hs.pull 4).cells2 rfl rfl | exact (hs.pull 5).cells2 rfl rfl | exact (hs.pull 6).cells2 rfl rfl | exact (hs.pull 7).cells2 rfl rfl | exact (hs.pull 8).cells2 rfl rfl | exact hs.cell rfl | exact (hs.pull 1).cell rfl | exact (hs.pull 2).cell rfl | exact (hs.pull 3).cell rfl | exact (hs.pull 4).cell rfl | exact (hs.pull 5).cell rfl | exact (hs.pull 6).cell rfl | exact (hs.pull 7).cell rfl | exact (hs.pull 8).cell rfl | assumption | exact hs.cellsOf | exact (hs.pull 1).cellsOf | exact (hs.pull 2).cellsOf | exact (hs.pull 3).cellsOf | exact (hs.pull 4).cellsOf | exact (hs.pull 5).cellsOf | exact (hs.pull 6).cellsOf | exact (hs.pull 7).cellsOf | exact (hs.pull 8).cellsOf)), ?_⟩
  rw [pk_byt]
  have hlt := UInt8.toNat_lt (byt by')
  refine x_conv cv_3_5 _ rfl (by simp only [X.lo]; omega) (by simp only [X.hi]; omega) ?_
  refine x_assign (.int _ _) rfl ?_
  refine x_nil ?_
  refine then_n ?_
  refine c_seq ?_
  -- region 2
  refine c_region ?_
  refine x_move (.pointer _) rfl ?_
  refine x_move (.int _ _) rfl ?_
  refine x_call Try.f22 Try.func22 rfl rfl _ rfl ?_
  refine ((rlook14_calls at' hs hl)).mono ?_
  clear hs; rintro e w ⟨u, v, z, rfl, hlk⟩
  refine ⟨_, rfl, fun h => (by first | (cases h; done) | (first | exact hs.cells2 rfl rfl | exact (hs.pull 1).cells2 rfl rfl | exact (hs.pull 2).cells2 rfl rfl | exact (hs.pull 3).cells2 rfl rfl | exact (hs.pull 4).cells2 rfl rfl | exact (hs.pull 5).cells2 rfl rfl | exact (hs.pull 6).cells2 rfl rfl | exact (hs.pull 7).cells2 rfl rfl | exact (hs.pull 8).cells2 rfl rfl | exact hs.cell rfl | exact (hs.pull 1).cell rfl | exact (hs.pull 2).cell rfl | exact (hs.pull 3).cell rfl | exact (hs.pull 4).cell rfl | exact (hs.pull 5).cell rfl | exact (hs.pull 6).cell rfl | exact (hs.pull 7).cell rfl | exact (hs.pull 8).cell rfl | assumption | exact hs.cellsOf | exact (hs.pull 1).cellsOf | exact (hs.pull 2).cellsOf | exact (hs.pull 3).cellsOf | exact (hs.pull 4).cellsOf | exact (hs.pull 5).cellsOf | exact (hs.pull 6).cellsOf | exact (hs.pull 7).cellsOf | exact (hs.pull 8).cellsOf) | (and_intros <;> first | exact hs.cells2 rfl rfl | exact (hs.pull 1).cells2 rfl rfl | exact (hs.pull 2).cells2 rfl rfl | exact (hs.pull 3).cells2 rfl rfl | exact (hs.pull 4).cells2 rfl rfl | exact (hs.pull 5).cells2 rfl rfl | exact (hs.pull 6).cells2 rfl rfl | exact (hs.pull 7).cells2 rfl rfl | exact (hs.pull 8).cells2 rfl rfl | exact hs.cell rfl | exact (hs.pull 1).cell rfl | exact (hs.pull 2).cell rfl | exact (hs.pull 3).cell rfl | exact (hs.pull 4).cell rfl | exact (hs.pull 5).cell rfl | exact (hs.pull 6).cell rfl | exact (hs.pull 7).cell rfl | exact (hs.pull 8).cell rfl | assumption | exact hs.cellsOf | exact (hs.pull 1).cellsOf | exact (hs.pull 2).cellsOf | exact (hs.pull 3).cellsOf | exact (hs.pull 4).cellsOf | exact (hs.pull 5).cellsOf | exact (hs.pull 6).cellsOf | exact (hs.pull 7).cellsOf | exact (hs.pull 8).cellsOf)), ?_⟩
  obtain ⟨hzz, hrd, hzk, hs⟩ := hlk
  generalize thLook l at' = t at *
  obtain ⟨to, b, sp⟩ := t
  dsimp only at *
  subst hsp
  obtain ⟨a5, c5, rfl⟩ : ∃ a c, u = .slice a b.length c := (hrd _ _ (hs.pull 2)).val
  refine x_alloc zi_47 hs ?_; clear hs; intro b10 w hs; refine ⟨fun h => (by first | (cases h; done) | (first | exact hs.cells2 rfl rfl | exact (hs.pull 1).cells2 rfl rfl | exact (hs.pull 2).cells2 rfl rfl | exact (hs.pull 3).cells2 rfl rfl | exact (hs.pull 4).cells2 rfl rfl | exact (hs.pull 5).cells2 rfl rfl | exact (hs.pull 6).cells2 rfl rfl | exact (hs.pull 7).cells2 rfl rfl | exact (hs.pull 8).cells2 rfl rfl | exact hs.cell rfl | exact (hs.pull 1).cell rfl | exact (hs.pull 2).cell rfl | exact (hs.pull 3).cell rfl | exact (hs.pull 4).cell rfl | exact (hs.pull 5).cell rfl | exact (hs.pull 6).cell rfl | exact (hs.pull 7).cell rfl | exact (hs.pull 8).cell rfl | assumption | exact hs.cellsOf | exact (hs.pull 1).cellsOf | exact (hs.pull 2).cellsOf | exact (hs.pull 3).cellsOf | exact (hs.pull 4).cellsOf | exact (hs.pull 5).cellsOf | exact (hs.pull 6).cellsOf | exact (hs.pull 7).cellsOf | exact (hs.pull 8).cellsOf) | (and_intros <;> first | exact hs.cells2 rfl rfl | exact (hs.pull 1).cells2 rfl rfl | exact (hs.pull 2).cells2 rfl rfl | exact (hs.pull 3).cells2 rfl rfl | exact (hs.pull 4).cells2 rfl rfl | exact (hs.pull 5).cells2 rfl rfl | exact (hs.pull 6).cells2 rfl rfl | exact (hs.pull 7).cells2 rfl rfl | exact (hs.pull 8).cells2 rfl rfl | exact hs.cell rfl | exact (hs.pull 1).cell rfl | exact (hs.pull 2).cell rfl | exact (hs.pull 3).cell rfl | exact (hs.pull 4).cell rfl | exact (hs.pull 5).cell rfl | exact (hs.pull 6).cell rfl | exact (hs.pull 7).cell rfl | exact (hs.pull 8).cell rfl | assumption | exact hs.cellsOf | exact (hs.pull 1).cellsOf | exact (hs.pull 2).cellsOf | exact (hs.pull 3).cellsOf | exact (hs.pull 4).cellsOf | exact (hs.pull 5).cellsOf | exact (hs.pull 6).cellsOf | exact (hs.pull 7).cellsOf | exact (hs.pull 8).cellsOf)), ?_⟩
  first
    | refine x_storeAllI hs 0 rfl rfl agg_47 [_, _, _, _] rfl rfl rfl rfl ?_
    | refine x_storeAllI hs 1 rfl rfl agg_47 [_, _, _, _] rfl rfl rfl rfl ?_
    | refine x_storeAllI hs 2 rfl rfl agg_47 [_, _, _, _] rfl rfl rfl rfl ?_
    | refine x_storeAllI hs 3 rfl rfl agg_47 [_, _, _, _] rfl rfl rfl rfl ?_
    | refine x_storeAllI hs 4 rfl rfl agg_47 [_, _, _, _] rfl rfl rfl rfl ?_
    | refine x_storeAllI hs 5 rfl rfl agg_47 [_, _, _, _] rfl rfl rfl rfl ?_
    | refine x_storeAllI hs 6 rfl rfl agg_47 [_, _, _, _] rfl rfl rfl rfl ?_
    | refine x_storeAllI hs 7 rfl rfl agg_47 [_, _, _, _] rfl rfl rfl rfl ?_
  clear hs; intro w hs
  try dsimp only [back, List.set_cons_zero, List.set_cons_succ] at hs
  refine ⟨fun h => (by first | (cases h; done) | (first | exact hs.cells2 rfl rfl | exact (hs.pull 1).cells2 rfl rfl | exact (hs.pull 2).cells2 rfl rfl | exact (hs.pull 3).cells2 rfl rfl | exact (hs.pull 4).cells2 rfl rfl | exact (hs.pull 5).cells2 rfl rfl | exact (hs.pull 6).cells2 rfl rfl | exact (hs.pull 7).cells2 rfl rfl | exact (hs.pull 8).cells2 rfl rfl | exact hs.cell rfl | exact (hs.pull 1).cell rfl | exact (hs.pull 2).cell rfl | exact (hs.pull 3).cell rfl | exact (hs.pull 4).cell rfl | exact (hs.pull 5).cell rfl | exact (hs.pull 6).cell rfl | exact (hs.pull 7).cell rfl | exact (hs.pull 8).cell rfl | assumption | exact hs.cellsOf | exact (hs.pull 1).cellsOf | exact (hs.pull 2).cellsOf | exact (hs.pull 3).cellsOf | exact (hs.pull 4).cellsOf | exact (hs.pull 5).cellsOf | exact (hs.pull 6).cellsOf | exact (hs.pull 7).cellsOf | exact (hs.pull 8).cellsOf) | (and_intros <;> first | exact hs.cells2 rfl rfl | exact (hs.pull 1).cells2 rfl rfl | exact (hs.pull 2).cells2 rfl rfl | exact (hs.pull 3).cells2 rfl rfl | exact (hs.pull 4).cells2 rfl rfl | exact (hs.pull 5).cells2 rfl rfl | exact (hs.pull 6).cells2 rfl rfl | exact (hs.pull 7).cells2 rfl rfl | exact (hs.pull 8).cells2 rfl rfl | exact hs.cell rfl | exact (hs.pull 1).cell rfl | exact (hs.pull 2).cell rfl | exact (hs.pull 3).cell rfl | exact (hs.pull 4).cell rfl | exact (hs.pull 5).cell rfl | exact (hs.pull 6).cell rfl | exact (hs.pull 7).cell rfl | exact (hs.pull 8).cell rfl | assumption | exact hs.cellsOf | exact (hs.pull 1).cellsOf | exact (hs.pull 2).cellsOf | exact (hs.pull 3).cellsOf | exact (hs.pull 4).cellsOf | exact (hs.pull 5).cellsOf | exact (hs.pull 6).cellsOf | exact (hs.pull 7).cellsOf | exact (hs.pull 8).cellsOf)), ?_⟩
  refine x_nil ?_
  refine then_n ?_
  refine c_seq ?_
  refine c_seq ?_
  -- region 3
  refine c_region ?_
  first | refine x_field0 fa_47_1 _ rfl ?_ | refine x_field fa_47_1 _ _ rfl ?_
  refine x_load one_22 _ (.slice _ _ _) rfl (by first | exact hs.cell rfl | exact (hs.pull 1).cell rfl | exact (hs.pull 2).cell rfl | exact (hs.pull 3).cell rfl | assumption | exact (hs.pull 4).cell rfl | exact (hs.pull 5).cell rfl | exact (hs.pull 6).cell rfl | exact (hs.pull 7).cell rfl) ?_
  refine x_lenSl Try.underlying22 _ _ _ rfl ?_
  refine x_eqlF _ _ rfl rfl (by omega) ?_
  refine x_move (.bool _) rfl ?_
  refine x_want' rfl ?_
  first | refine x_field0 fa_47_2 _ rfl ?_ | refine x_field fa_47_2 _ _ rfl ?_
  refine x_want' rfl ?_
  refine x_load one_4 _ (.bool _) rfl (by first | exact hs.cell rfl | exact (hs.pull 1).cell rfl | exact (hs.pull 2).cell rfl | exact (hs.pull 3).cell rfl | assumption | exact (hs.pull 4).cell rfl | exact (hs.pull 5).cell rfl | exact (hs.pull 6).cell rfl | exact (hs.pull 7).cell rfl) ?_
  refine x_pickF (.bool _) rfl rfl ?_
  refine x_move (.bool _) rfl ?_
  refine x_skip rfl rfl ?_
  refine x_skip rfl rfl ?_
  refine x_pickT (.bool _) rfl rfl ?_
  refine x_nil ?_
  refine then_n ?_
  refine c_true rfl ?_
  refine c_seq ?_
  -- region 4
  refine c_region ?_
  refine x_assign (.bool _) rfl ?_
  refine x_nil ?_
  refine then_n ?_
  refine c_ret ?_
  refine then_r ?_
  refine ⟨.inr rfl, ?_⟩
  rw [hzz]
  exact ⟨rfl, hs.tail.fobj'⟩
theorem rspoil_b0 {w0 w : World} {L : List HP} {f : Nat} {l : List Thg} (at' wh by' : Int) (hs : Sat w0 w (FR f l :: L)) (hl : l.length ≤ 1000000) (hb0 : (thLook l at').b.length = 0) :
    Calls Try.prog 19 #[.pointer (some ⟨f, 0, none⟩), .int .i64 at', .int .i64 wh, .int .i64 by'] w fun e w' => e = .returned (.bool false) ∧ Sat w0 w' (FR f l :: L) := by
  refine enter Try.func19 rfl Try.ntmps19 8 rfl (Nat.le_of_ble_eq_true rfl) ?_
  refine c_seq ?_
  -- region 0
  refine c_region ?_
  refine x_assign (.bool _) rfl ?_
  refine x_nil ?_
  refine then_n ?_
  refine c_seq ?_
  -- region 1
  refine c_region ?_
  refine x_move (.int _ _) rfl ?_
  refine x_call Try.f14 Try.func14 rfl rfl _ rfl ?_
  refine (pick_calls hs by' 256 (by decide)).mono ?_
  clear hs; rintro e w ⟨rfl, hs, -⟩
  refine ⟨_, rfl, fun h => (by first | (cases h; done) | (first | exact hs.cells2 rfl rfl | exact (hs.pull 1).cells2 rfl rfl | exact (hs.pull 2).cells2 rfl rfl | exact (hs.pull 3).cells2 rfl rfl | exact (hs.pull 4).cells2 rfl rfl | exact (hs.pull 5).cells2 rfl rfl | exact (hs.pull 6).cells2 rfl rfl | exact (hs.pull 7).cells2 rfl rfl | exact (hs.pull 8).cells2 rfl rfl | exact hs.cell rfl | exact (hs.pull 1).cell rfl | exact (hs.pull 2).cell rfl | exact (hs.pull 3).cell rfl | exact (hs.pull 4).cell rfl | exact (hs.pull 5).cell rfl | exact (hs.pull 6).cell rfl | exact (hs.pull 7).cell rfl | exact (hs.pull 8).cell rfl | assumption | exact hs.cellsOf | exact (hs.pull 1).cellsOf | exact (hs.pull 2).cellsOf | exact (hs.pull 3).cellsOf | exact (hs.pull 4).cellsOf | exact (hs.pull 5).cellsOf | exact (hs.pull 6).cellsOf | exact (hs.pull 7).cellsOf | exact (hs.pull 8).cellsOf) | (and_intros <;> first | exact hs.cells2 rfl rfl | exact (hs.pull 1).cells2 rfl rfl | exact (hs.pull 2).cells2 rfl rfl | exact (hs.pull 3).cells2 rfl rfl | exact (hs.pull 4).cells2 rfl rfl | exact (hs.pull 5).cells2 rfl rfl | exact (hs.pull 6).cells2 rfl rfl | exact (hs.pull 7).cells2 rfl rfl | exact (hs.pull 8).cells2 rfl rfl | exact hs.cell rfl | exact (hs.pull 1).cell rfl | exact (hs.pull 2).cell rfl | exact (hs.pull 3).cell rfl | exact (hs.pull 4).cell rfl | exact (hs.pull 5).cell rfl | exact (hs.pull 6).cell rfl | exact (hs.pull 7).cell rfl | exact (hs.pull 8).cell rfl | assumption | exact hs.cellsOf | exact (hs.pull 1).cellsOf | exact (hs.pull 2).cellsOf | exact (hs.pull 3).cellsOf | exact (hs.pull 4).cellsOf | exact (hs.pull 5).cellsOf | exact (hs.pull 6).cellsOf | exact (hs.pull 7).cellsOf | exact (hs.pull 8).cellsOf)), ?_⟩
  rw [pk_byt]
  have hlt := UInt8.toNat_lt (byt by')
  refine x_conv cv_3_5 _ rfl (by simp only [X.lo]; omega) (by simp only [X.hi]; omega) ?_
  refine x_assign (.int _ _) rfl ?_
  refine x_nil ?_
  refine then_n ?_
  refine c_seq ?_
  -- region 2
  refine c_region ?_
  refine x_move (.pointer _) rfl ?_
  refine x_move (.int _ _) rfl ?_
  refine x_call Try.f22 Try.func22 rfl rfl _ rfl ?_
  refine ((rlook14_calls at' hs hl)).mono ?_
  clear hs; rintro e w ⟨u, v, z, rfl, hlk⟩
  refine ⟨_, rfl, fun h => (by first | (cases h; done) | (first | exact hs.cells2 rfl rfl | exact (hs.pull 1).cells2 rfl rfl | exact (hs.pull 2).cells2 rfl rfl | exact (hs.pull 3).cells2 rfl rfl | exact (hs.pull 4).cells2 rfl rfl | exact (hs.pull 5).cells2 rfl rfl | exact (hs.pull 6).cells2 rfl rfl | exact (hs.pull 7).cells2 rfl rfl | exact (hs.pull 8).cells2 rfl rfl | exact hs.cell rfl | exact (hs.pull 1).cell rfl | exact (hs.pull 2).cell rfl | exact (hs.pull 3).cell rfl | exact (hs.pull 4).cell rfl | exact (hs.pull 5).cell rfl | exact (hs.pull 6).cell rfl | exact (hs.pull 7).cell rfl | exact (hs.pull 8).cell rfl | assumption | exact hs.cellsOf | exact (hs.pull 1).cellsOf | exact (hs.pull 2).cellsOf | exact (hs.pull 3).cellsOf | exact (hs.pull 4).cellsOf | exact (hs.pull 5).cellsOf | exact (hs.pull 6).cellsOf | exact (hs.pull 7).cellsOf | exact (hs.pull 8).cellsOf) | (and_intros <;> first | exact hs.cells2 rfl rfl | exact (hs.pull 1).cells2 rfl rfl | exact (hs.pull 2).cells2 rfl rfl | exact (hs.pull 3).cells2 rfl rfl | exact (hs.pull 4).cells2 rfl rfl | exact (hs.pull 5).cells2 rfl rfl | exact (hs.pull 6).cells2 rfl rfl | exact (hs.pull 7).cells2 rfl rfl | exact (hs.pull 8).cells2 rfl rfl | exact hs.cell rfl | exact (hs.pull 1).cell rfl | exact (hs.pull 2).cell rfl | exact (hs.pull 3).cell rfl | exact (hs.pull 4).cell rfl | exact (hs.pull 5).cell rfl | exact (hs.pull 6).cell rfl | exact (hs.pull 7).cell rfl | exact (hs.pull 8).cell rfl | assumption | exact hs.cellsOf | exact (hs.pull 1).cellsOf | exact (hs.pull 2).cellsOf | exact (hs.pull 3).cellsOf | exact (hs.pull 4).cellsOf | exact (hs.pull 5).cellsOf | exact (hs.pull 6).cellsOf | exact (hs.pull 7).cellsOf | exact (hs.pull 8).cellsOf)), ?_⟩
  obtain ⟨hzz, hrd, hzk, hs⟩ := hlk
  generalize thLook l at' = t at *
  obtain ⟨to, b, sp⟩ := t
  dsimp only at *
  obtain ⟨a5, c5, rfl⟩ : ∃ a c, u = .slice a b.length c := (hrd _ _ (hs.pull 2)).val
  refine x_alloc zi_47 hs ?_; clear hs; intro b10 w hs; refine ⟨fun h => (by first | (cases h; done) | (first | exact hs.cells2 rfl rfl | exact (hs.pull 1).cells2 rfl rfl | exact (hs.pull 2).cells2 rfl rfl | exact (hs.pull 3).cells2 rfl rfl | exact (hs.pull 4).cells2 rfl rfl | exact (hs.pull 5).cells2 rfl rfl | exact (hs.pull 6).cells2 rfl rfl | exact (hs.pull 7).cells2 rfl rfl | exact (hs.pull 8).cells2 rfl rfl | exact hs.cell rfl | exact (hs.pull 1).cell rfl | exact (hs.pull 2).cell rfl | exact (hs.pull 3).cell rfl | exact (hs.pull 4).cell rfl | exact (hs.pull 5).cell rfl | exact (hs.pull 6).cell rfl | exact (hs.pull 7).cell rfl | exact (hs.pull 8).cell rfl | assumption | exact hs.cellsOf | exact (hs.pull 1).cellsOf | exact (hs.pull 2).cellsOf | exact (hs.pull 3).cellsOf | exact (hs.pull 4).cellsOf | exact (hs.pull 5).cellsOf | exact (hs.pull 6).cellsOf | exact (hs.pull 7).cellsOf | exact (hs.pull 8).cellsOf) | (and_intros <;> first | exact hs.cells2 rfl rfl | exact (hs.pull 1).cells2 rfl rfl | exact (hs.pull 2).cells2 rfl rfl | exact (hs.pull 3).cells2 rfl rfl | exact (hs.pull 4).cells2 rfl rfl | exact (hs.pull 5).cells2 rfl rfl | exact (hs.pull 6).cells2 rfl rfl | exact (hs.pull 7).cells2 rfl rfl | exact (hs.pull 8).cells2 rfl rfl | exact hs.cell rfl | exact (hs.pull 1).cell rfl | exact (hs.pull 2).cell rfl | exact (hs.pull 3).cell rfl | exact (hs.pull 4).cell rfl | exact (hs.pull 5).cell rfl | exact (hs.pull 6).cell rfl | exact (hs.pull 7).cell rfl | exact (hs.pull 8).cell rfl | assumption | exact hs.cellsOf | exact (hs.pull 1).cellsOf | exact (hs.pull 2).cellsOf | exact (hs.pull 3).cellsOf | exact (hs.pull 4).cellsOf | exact (hs.pull 5).cellsOf | exact (hs.pull 6).cellsOf | exact (hs.pull 7).cellsOf | exact (hs.pull 8).cellsOf)), ?_⟩
  first
    | refine x_storeAllI hs 0 rfl rfl agg_47 [_, _, _, _] rfl rfl rfl rfl ?_
    | refine x_storeAllI hs 1 rfl rfl agg_47 [_, _, _, _] rfl rfl rfl rfl ?_
    | refine x_storeAllI hs 2 rfl rfl agg_47 [_, _, _, _] rfl rfl rfl rfl ?_
    | refine x_storeAllI hs 3 rfl rfl agg_47 [_, _, _, _] rfl rfl rfl rfl ?_
    | refine x_storeAllI hs 4 rfl rfl agg_47 [_, _, _, _] rfl rfl rfl rfl ?_
    | refine x_storeAllI hs 5 rfl rfl agg_47 [_, _, _, _] rfl rfl rfl rfl ?_
    | refine x_storeAllI hs 6 rfl rfl agg_47 [_, _, _, _] rfl rfl rfl rfl ?_
    | refine x_storeAllI hs 7 rfl rfl agg_47 [_, _, _, _] rfl rfl rfl rfl ?_
  clear hs; intro w hs
  try dsimp only [back, List.set_cons_zero, List.set_cons_succ] at hs
  refine ⟨fun h => (by first | (cases h; done) | (first | exact hs.cells2 rfl rfl | exact (hs.pull 1).cells2 rfl rfl | exact (hs.pull 2).cells2 rfl rfl | exact (hs.pull 3).cells2 rfl rfl | exact (hs.pull 4).cells2 rfl rfl | exact (hs.pull 5).cells2 rfl rfl | exact (hs.pull 6).cells2 rfl rfl | exact (hs.pull 7).cells2 rfl rfl | exact (hs.pull 8).cells2 rfl rfl | exact hs.cell rfl | exact (hs.pull 1).cell rfl | exact (hs.pull 2).cell rfl | exact (hs.pull 3).cell rfl | exact (hs.pull 4).cell rfl | exact (hs.pull 5).cell rfl | exact (hs.pull 6).cell rfl | exact (hs.pull 7).cell rfl | exact (hs.pull 8).cell rfl | assumption | exact hs.cellsOf | exact (hs.pull 1).cellsOf | exact (hs.pull 2).cellsOf | exact (hs.pull 3).cellsOf | exact (hs.pull 4).cellsOf | exact (hs.pull 5).cellsOf | exact (hs.pull 6).cellsOf | exact (hs.pull 7).cellsOf | exact (hs.pull 8).cellsOf) | (and_intros <;> first | exact hs.cells2 rfl rfl | exact (hs.pull 1).cells2 rfl rfl | exact (hs.pull 2).cells2 rfl rfl | exact (hs.pull 3).cells2 rfl rfl | exact (hs.pull 4).cells2 rfl rfl | exact (hs.pull 5).cells2 rfl rfl | exact (hs.pull 6).cells2 rfl rfl | exact (hs.pull 7).cells2 rfl rfl | exact (hs.pull 8).cells2 rfl rfl | exact hs.cell rfl | exact (hs.pull 1).cell rfl | exact (hs.pull 2).cell rfl | exact (hs.pull 3).cell rfl | exact (hs.pull 4).cell rfl | exact (hs.pull 5).cell rfl | exact (hs.pull 6).cell rfl | exact (hs.pull 7).cell rfl | exact (hs.pull 8).cell rfl | assumption | exact hs.cellsOf | exact (hs.pull 1).cellsOf | exact (hs.pull 2).cellsOf | exact (hs.pull 3).cellsOf | exact (hs.pull 4).cellsOf | exact (hs.pull 5).cellsOf | exact (hs.pull 6).cellsOf | exact (hs.pull 7).cellsOf | exact (hs.pull 8).cellsOf)), ?_⟩
  refine x_nil ?_
  refine then_n ?_
  refine c_seq ?_
  refine c_seq ?_
  -- region 3
  refine c_region ?_
  first | refine x_field0 fa_47_1 _ rfl ?_ | refine x_field fa_47_1 _ _ rfl ?_
  refine x_load one_22 _ (.slice _ _ _) rfl (by first | exact hs.cell rfl | exact (hs.pull 1).cell rfl | exact (hs.pull 2).cell rfl | exact (hs.pull 3).cell rfl | assumption | exact (hs.pull 4).cell rfl | exact (hs.pull 5).cell rfl | exact (hs.pull 6).cell rfl | exact (hs.pull 7).cell rfl) ?_
  refine x_lenSl Try.underlying22 _ _ _ rfl ?_
  refine x_eqlT _ _ rfl rfl (by omega) ?_
  refine x_move (.bool _) rfl ?_
  refine x_skip rfl rfl ?_
  refine x_skip rfl rfl ?_
  refine x_pickT (.bool _) rfl rfl ?_
  refine x_move (.bool _) rfl ?_
  refine x_skip rfl rfl ?_
  refine x_skip rfl rfl ?_
  refine x_pickT (.bool _) rfl rfl ?_
  refine x_nil ?_
  refine then_n ?_
  refine c_true rfl ?_
  refine c_seq ?_
  -- region 4
  refine c_region ?_
  refine x_assign (.bool _) rfl ?_
  refine x_nil ?_
  refine then_n ?_
  refine c_ret ?_
  refine then_r ?_
  refine ⟨.inr rfl, ?_⟩
  rw [hzz]
  exact ⟨rfl, hs.tail.fobj'⟩
theorem rspoil_c0 {w0 w : World} {L : List HP} {f : Nat} {l : List Thg} (at' wh by' : Int) (hs : Sat w0 w (FR f l :: L)) (hl : l.length ≤ 1000000) (hb0 : (thLook l at').b.length ≠ 0) (hsp : (thLook l at').sp = false) (hc : (byt by').toNat = 0) :
    Calls Try.prog 19 #[.pointer (some ⟨f, 0, none⟩), .int .i64 at', .int .i64 wh, .int .i64 by'] w fun e w' => e = .returned (.bool false) ∧ Sat w0 w' (FR f l :: L) := by
  refine enter Try.func19 rfl Try.ntmps19 8 rfl (Nat.le_of_ble_eq_true rfl) ?_
  refine c_seq ?_
  -- region 0
  refine c_region ?_
  refine x_assign (.bool _) rfl ?_
  refine x_nil ?_
  refine then_n ?_
  refine c_seq ?_
  -- region 1
  refine c_region ?_
  refine x_move (.int _ _) rfl ?_
  refine x_call Try.f14 Try.func14 rfl rfl _ rfl ?_
  refine (pick_calls hs by' 256 (by decide)).mono ?_
  clear hs; rintro e w ⟨rfl, hs, -⟩
  refine ⟨_, rfl, fun h => (by first | (cases h; done) | (first | exact hs.cells2 rfl rfl | exact (hs.pull 1).cells2 rfl rfl | exact (hs.pull 2).cells2 rfl rfl | exact (hs.pull 3).cells2 rfl rfl | exact (hs.pull 4).cells2 rfl rfl | exact (hs.pull 5).cells2 rfl rfl | exact (hs.pull 6).cells2 rfl rfl | exact (hs.pull 7).cells2 rfl rfl | exact (hs.pull 8).cells2 rfl rfl | exact hs.cell rfl | exact (hs.pull 1).cell rfl | exact (hs.pull 2).cell rfl | exact (hs.pull 3).cell rfl | exact (hs.pull 4).cell rfl | exact (hs.pull 5).cell rfl | exact (hs.pull 6).cell rfl | exact (hs.pull 7).cell rfl | exact (hs.pull 8).cell rfl | assumption | exact hs.cellsOf | exact (hs.pull 1).cellsOf | exact (hs.pull 2).cellsOf | exact (hs.pull 3).cellsOf | exact (hs.pull 4).cellsOf | exact (hs.pull 5).cellsOf | exact (hs.pull 6).cellsOf | exact (hs.pull 7).cellsOf | exact (hs.pull 8).cellsOf) | (and_intros <;> first | exact hs.cells2 rfl rfl | exact (hs.pull 1).cells2 rfl rfl | exact (hs.pull 2).cells2 rfl rfl | exact (hs.pull 3).cells2 rfl rfl | exact (hs.pull 4).cells2 rfl rfl | exact (hs.pull 5).cells2 rfl rfl | exact (hs.pull 6).cells2 rfl rfl | exact (hs.pull 7).cells2 rfl rfl | exact (hs.pull 8).cells2 rfl rfl | exact hs.cell rfl | exact (hs.pull 1).cell rfl | exact (hs.pull 2).cell rfl | exact (hs.pull 3).cell rfl | exact (hs.pull 4).cell rfl | exact (hs.pull 5).cell rfl | exact (hs.pull 6).cell rfl | exact (hs.pull 7).cell rfl | exact (hs.pull 8).cell rfl | assumption | exact hs.cellsOf | exact (hs.pull 1).cellsOf | exact (hs.pull 2).cellsOf | exact (hs.pull 3).cellsOf | exact (hs.pull 4).cellsOf | exact (hs.pull 5).cellsOf | exact (hs.pull 6).cellsOf | exact (hs.pull 7).cellsOf | exact (hs.pull 8).cellsOf)), ?_⟩
  rw [pk_byt]
  have hlt := UInt8.toNat_lt (byt by')
  refine x_conv cv_3_5 _ rfl (by simp only [X.lo]; omega) (by simp only [X.hi]; omega) ?_
  refine x_assign (.int _ _) rfl ?_
  refine x_nil ?_
  refine then_n ?_
  refine c_seq ?_
  -- region 2
  refine c_region ?_
  refine x_move (.pointer _) rfl ?_
  refine x_move (.int _ _) rfl ?_
  refine x_call Try.f22 Try.func22 rfl rfl _ rfl ?_
  refine ((rlook14_calls at' hs hl)).mono ?_
  clear hs; rintro e w ⟨u, v, z, rfl, hlk⟩
  refine ⟨_, rfl, fun h => (by first | (cases h; done) | (first | exact hs.cells2 rfl rfl | exact (hs.pull 1).cells2 rfl rfl | exact (hs.pull 2).cells2 rfl rfl | exact (hs.pull 3).cells2 rfl rfl | exact (hs.pull 4).cells2 rfl rfl | exact (hs.pull 5).cells2 rfl rfl | exact (hs.pull 6).cells2 rfl rfl | exact (hs.pull 7).cells2 rfl rfl | exact (hs.pull 8).cells2 rfl rfl | exact hs.cell rfl | exact (hs.pull 1).cell rfl | exact (hs.pull 2).cell rfl | exact (hs.pull 3).cell rfl | exact (hs.pull 4).cell rfl | exact (hs.pull 5).cell rfl | exact (hs.pull 6).cell rfl | exact (hs.pull 7).cell rfl | exact (hs.pull 8).cell rfl | assumption | exact hs.cellsOf | exact (hs.pull 1).cellsOf | exact (hs.pull 2).cellsOf | exact (hs.pull 3).cellsOf | exact (hs.pull 4).cellsOf | exact (hs.pull 5).cellsOf | exact (hs.pull 6).cellsOf | exact (hs.pull 7).cellsOf | exact (hs.pull 8).cellsOf) | (and_intros <;> first | exact hs.cells2 rfl rfl | exact (hs.pull 1).cells2 rfl rfl | exact (hs.pull 2).cells2 rfl rfl | exact (hs.pull 3).cells2 rfl rfl | exact (hs.pull 4).cells2 rfl rfl | exact (hs.pull 5).cells2 rfl rfl | exact (hs.pull 6).cells2 rfl rfl | exact (hs.pull 7).cells2 rfl rfl | exact (hs.pull 8).cells2 rfl rfl | exact hs.cell rfl | exact (hs.pull 1).cell rfl | exact (hs.pull 2).cell rfl | exact (hs.pull 3).cell rfl | exact (hs.pull 4).cell rfl | exact (hs.pull 5).cell rfl | exact (hs.pull 6).cell rfl | exact (hs.pull 7).cell rfl | exact (hs.pull 8).cell rfl | assumption | exact hs.cellsOf | exact (hs.pull 1).cellsOf | exact (hs.pull 2).cellsOf | exact (hs.pull 3).cellsOf | exact (hs.pull 4).cellsOf | exact (hs.pull 5).cellsOf | exact (hs.pull 6).cellsOf | exact (hs.pull 7).cellsOf | exact (hs.pull 8).cellsOf)), ?_⟩
  obtain ⟨hzz, hrd, hzk, hs⟩ := hlk
  generalize thLook l at' = t at *
  obtain ⟨to, b, sp⟩ := t
  dsimp only at *
  subst hsp
  obtain ⟨a5, c5, rfl⟩ : ∃ a c, u = .slice a b.length c := (hrd _ _ (hs.pull 2)).val
  refine x_alloc zi_47 hs ?_; clear hs; intro b10 w hs; refine ⟨fun h => (by first | (cases h; done) | (first | exact hs.cells2 rfl rfl | exact (hs.pull 1).cells2 rfl rfl | exact (hs.pull 2).cells2 rfl rfl | exact (hs.pull 3).cells2 rfl rfl | exact (hs.pull 4).cells2 rfl rfl | exact (hs.pull 5).cells2 rfl rfl | exact (hs.pull 6).cells2 rfl rfl | exact (hs.pull 7).cells2 rfl rfl | exact (hs.pull 8).cells2 rfl rfl | exact hs.cell rfl | exact (hs.pull 1).cell rfl | exact (hs.pull 2).cell rfl | exact (hs.pull 3).cell rfl | exact (hs.pull 4).cell rfl | exact (hs.pull 5).cell rfl | exact (hs.pull 6).cell rfl | exact (hs.pull 7).cell rfl | exact (hs.pull 8).cell rfl | assumption | exact hs.cellsOf | exact (hs.pull 1).cellsOf | exact (hs.pull 2).cellsOf | exact (hs.pull 3).cellsOf | exact (hs.pull 4).cellsOf | exact (hs.pull 5).cellsOf | exact (hs.pull 6).cellsOf | exact (hs.pull 7).cellsOf | exact (hs.pull 8).cellsOf) | (and_intros <;> first | exact hs.cells2 rfl rfl | exact (hs.pull 1).cells2 rfl rfl | exact (hs.pull 2).cells2 rfl rfl | exact (hs.pull 3).cells2 rfl rfl | exact (hs.pull 4).cells2 rfl rfl | exact (hs.pull 5).cells2 rfl rfl | exact (hs.pull 6).cells2 rfl rfl | exact (hs.pull 7).cells2 rfl rfl | exact (hs.pull 8).cells2 rfl rfl | exact hs.cell rfl | exact (hs.pull 1).cell rfl | exact (hs.pull 2).cell rfl | exact (hs.pull 3).cell rfl | exact (hs.pull 4).cell rfl | exact (hs.pull 5).cell rfl | exact (hs.pull 6).cell rfl | exact (hs.pull 7).cell rfl | exact (hs.pull 8).cell rfl | assumption | exact hs.cellsOf | exact (hs.pull 1).cellsOf | exact (hs.pull 2).cellsOf | exact (hs.pull 3).cellsOf | exact (hs.pull 4).cellsOf | exact (hs.pull 5).cellsOf | exact (hs.pull 6).cellsOf | exact (hs.pull 7).cellsOf | exact (hs.pull 8).cellsOf)), ?_⟩
  first
    | refine x_storeAllI hs 0 rfl rfl agg_47 [_, _, _, _] rfl rfl rfl rfl ?_
    | refine x_storeAllI hs 1 rfl rfl agg_47 [_, _, _, _] rfl rfl rfl rfl ?_
    | refine x_storeAllI hs 2 rfl rfl agg_47 [_, _, _, _] rfl rfl rfl rfl ?_
    | refine x_storeAllI hs 3 rfl rfl agg_47 [_, _, _, _] rfl rfl rfl rfl ?_
    | refine x_storeAllI hs 4 rfl rfl agg_47 [_, _, _, _] rfl rfl rfl rfl ?_
    | refine x_storeAllI hs 5 rfl rfl agg_47 [_, _, _, _] rfl rfl rfl rfl ?_
    | refine x_storeAllI hs 6 rfl rfl agg_47 [_, _, _, _] rfl rfl rfl rfl ?_
    | refine x_storeAllI hs 7 rfl rfl agg_47 [_, _, _, _] rfl rfl rfl rfl ?_
  clear hs; intro w hs
  try dsimp only [back, List.set_cons_zero, List.set_cons_succ] at hs
  refine ⟨fun h => (by first | (cases h; done) | (first | exact hs.cells2 rfl rfl | exact (hs.pull 1).cells2 rfl rfl | exact (hs.pull 2).cells2 rfl rfl | exact (hs.pull 3).cells2 rfl rfl | exact (hs.pull 4).cells2 rfl rfl | exact (hs.pull 5).cells2 rfl rfl | exact (hs.pull 6).cells2 rfl rfl | exact (hs.pull 7).cells2 rfl rfl | exact (hs.pull 8).cells2 rfl rfl | exact hs.cell rfl | exact (hs.pull 1).cell rfl | exact (hs.pull 2).cell rfl | exact (hs.pull 3).cell rfl | exact (hs.pull 4).cell rfl | exact (hs.pull 5).cell rfl | exact (hs.pull 6).cell rfl | exact (hs.pull 7).cell rfl | exact (hs.pull 8).cell rfl | assumption | exact hs.cellsOf | exact (hs.pull 1).cellsOf | exact (hs.pull 2).cellsOf | exact (hs.pull 3).cellsOf | exact (hs.pull 4).cellsOf | exact (hs.pull 5).cellsOf | exact (hs.pull 6).cellsOf | exact (hs.pull 7).cellsOf | exact (hs.pull 8).cellsOf) | (and_intros <;> first | exact hs.cells2 rfl rfl | exact (hs.pull 1).cells2 rfl rfl | exact (hs.pull 2).cells2 rfl rfl | exact (hs.pull 3).cells2 rfl rfl | exact (hs.pull 4).cells2 rfl rfl | exact (hs.pull 5).cells2 rfl rfl | exact (hs.pull 6).cells2 rfl rfl | exact (hs.pull 7).cells2 rfl rfl | exact (hs.pull 8).cells2 rfl rfl | exact hs.cell rfl | exact (hs.pull 1).cell rfl | exact (hs.pull 2).cell rfl | exact (hs.pull 3).cell rfl | exact (hs.pull 4).cell rfl | exact (hs.pull 5).cell rfl | exact (hs.pull 6).cell rfl | exact (hs.pull 7).cell rfl | exact (hs.pull 8).cell rfl | assumption | exact hs.cellsOf | exact (hs.pull 1).cellsOf | exact (hs.pull 2).cellsOf | exact (hs.pull 3).cellsOf | exact (hs.pull 4).cellsOf | exact (hs.pull 5).cellsOf | exact (hs.pull 6).cellsOf | exact (hs.pull 7).cellsOf | exact (hs.pull 8).cellsOf)), ?_⟩
  refine x_nil ?_
  refine then_n ?_
  refine c_seq ?_
  refine c_seq ?_
  -- region 3
  refine c_region ?_
  first | refine x_field0 fa_47_1 _ rfl ?_ | refine x_field fa_47_1 _ _ rfl ?_
  refine x_load one_22 _ (.slice _ _ _) rfl (by first | exact hs.cell rfl | exact (hs.pull 1).cell rfl | exact (hs.pull 2).cell rfl | exact (hs.pull 3).cell rfl | assumption | exact (hs.pull 4).cell rfl | exact (hs.pull 5).cell rfl | exact (hs.pull 6).cell rfl | exact (hs.pull 7).cell rfl) ?_
  refine x_lenSl Try.underlying22 _ _ _ rfl ?_
  refine x_eqlF _ _ rfl rfl (by omega) ?_
  refine x_move (.bool _) rfl ?_
  refine x_want' rfl ?_
  first | refine x_field0 fa_47_2 _ rfl ?_ | refine x_field fa_47_2 _ _ rfl ?_
  refine x_want' rfl ?_
  refine x_load one_4 _ (.bool _) rfl (by first | exact hs.cell rfl | exact (hs.pull 1).cell rfl | exact (hs.pull 2).cell rfl | exact (hs.pull 3).cell rfl | assumption | exact (hs.pull 4).cell rfl | exact (hs.pull 5).cell rfl | exact (hs.pull 6).cell rfl | exact (hs.pull 7).cell rfl) ?_
  refine x_pickF (.bool _) rfl rfl ?_
  refine x_move (.bool _) rfl ?_
  refine x_want' rfl ?_
  refine x_move (.int _ _) rfl ?_
  refine x_want' rfl ?_
  refine x_eqlT _ _ rfl rfl (by omega) ?_
  refine x_pickF (.bool _) rfl rfl ?_
  refine x_nil ?_
  refine then_n ?_
  refine c_true rfl ?_
  refine c_seq ?_
  -- region 4
  refine c_region ?_
  refine x_assign (.bool _) rfl ?_
  refine x_nil ?_
  refine then_n ?_
  refine c_ret ?_
  refine then_r ?_
  refine ⟨.inr rfl, ?_⟩
  rw [hzz]
  exact ⟨rfl, hs.tail.fobj'⟩
set_option maxHeartbeats 2000000 in
theorem rspoil_calls {w0 w : World} {L : List HP} {f : Nat} {l : List Thg} (at' wh by' : Int) (hs : Sat w0 w (FR f l :: L)) (hl : l.length ≤ 1000000) (hb : ∀ t ∈ l, t.b.length ≤ 1000000) :
    Calls Try.prog 19 #[.pointer (some ⟨f, 0, none⟩), .int .i64 at', .int .i64 wh, .int .i64 by'] w fun e w' => e = .returned (.bool (thSpoil l at' wh by').1) ∧ Sat w0 w' (FR f (thSpoil l at' wh by').2 :: L) := by
  have hbt := look_len (a := at') hb
  by_cases h0 : (thLook l at').b.length = 0
  · unfold thSpoil
    rw [if_neg (fun h => by have := h.1.2.1; omega)]
    exact rspoil_b0 at' wh by' hs hl h0
  by_cases hsp : (thLook l at').sp = true
  · unfold thSpoil
    rw [if_neg (fun h => by have := h.1.2.2; rw [hsp] at this; cases this)]
    exact rspoil_sp at' wh by' hs hl h0 hsp
  have hsp : (thLook l at').sp = false := by simpa using hsp
  by_cases hc : (byt by').toNat = 0
  · unfold thSpoil
    rw [if_neg (fun h => h.2 (UInt8.toNat_inj.1 hc))]
    exact rspoil_c0 at' wh by' hs hl h0 hsp hc
  have hl0 : 0 < l.length := by
    rcases Nat.eq_zero_or_pos l.length with h | h
    · rw [look_nil (by omega)] at h0
      exact absurd rfl h0
    · exact h
  unfold thSpoil
  rw [if_pos ⟨⟨hl0, by omega, hsp⟩, fun h => hc (by rw [h]; rfl)⟩]
  refine enter Try.func19 rfl Try.ntmps19 8 rfl (Nat.le_of_ble_eq_true rfl) ?_
  refine c_seq ?_
  -- region 0
  refine c_region ?_
  refine x_assign (.bool _) rfl ?_
  refine x_nil ?_
  refine then_n ?_
  refine c_seq ?_
  -- region 1
  refine c_region ?_
  refine x_move (.int _ _) rfl ?_
  refine x_call Try.f14 Try.func14 rfl rfl _ rfl ?_
  refine (pick_calls hs by' 256 (by decide)).mono ?_
  clear hs; rintro e w ⟨rfl, hs, -⟩
  refine ⟨_, rfl, fun h => (by first | (cases h; done) | (first | exact hs.cells2 rfl rfl | exact (hs.pull 1).cells2 rfl rfl | exact (hs.pull 2).cells2 rfl rfl | exact (hs.pull 3).cells2 rfl rfl | exact (hs.pull 4).cells2 rfl rfl | exact (hs.pull 5).cells2 rfl rfl | exact (hs.pull 6).cells2 rfl rfl | exact (hs.pull 7).cells2 rfl rfl | exact (hs.pull 8).cells2 rfl rfl | exact hs.cell rfl | exact (hs.pull 1).cell rfl | exact (hs.pull 2).cell rfl | exact (hs.pull 3).cell rfl | exact (hs.pull 4).cell rfl | exact (hs.pull 5).cell rfl | exact (hs.pull 6).cell rfl | exact (hs.pull 7).cell rfl | exact (hs.pull 8).cell rfl | assumption | exact hs.cellsOf | exact (hs.pull 1).cellsOf | exact (hs.pull 2).cellsOf | exact (hs.pull 3).cellsOf | exact (hs.pull 4).cellsOf | exact (hs.pull 5).cellsOf | exact (hs.pull 6).cellsOf | exact (hs.pull 7).cellsOf | exact (hs.pull 8).cellsOf) | (and_intros <;> first | exact hs.cells2 rfl rfl | exact (hs.pull 1).cells2 rfl rfl | exact (hs.pull 2).cells2 rfl rfl | exact (hs.pull 3).cells2 rfl rfl | exact (hs.pull 4).cells2 rfl rfl | exact (hs.pull 5).cells2 rfl rfl | exact (hs.pull 6).cells2 rfl rfl | exact (hs.pull 7).cells2 rfl rfl | exact (hs.pull 8).cells2 rfl rfl | exact hs.cell rfl | exact (hs.pull 1).cell rfl | exact (hs.pull 2).cell rfl | exact (hs.pull 3).cell rfl | exact (hs.pull 4).cell rfl | exact (hs.pull 5).cell rfl | exact (hs.pull 6).cell rfl | exact (hs.pull 7).cell rfl | exact (hs.pull 8).cell rfl | assumption | exact hs.cellsOf | exact (hs.pull 1).cellsOf | exact (hs.pull 2).cellsOf | exact (hs.pull 3).cellsOf | exact (hs.pull 4).cellsOf | exact (hs.pull 5).cellsOf | exact (hs.pull 6).cellsOf | exact (hs.pull 7).cellsOf | exact (hs.pull 8).cellsOf)), ?_⟩
  rw [pk_byt]
  have hlt := UInt8.toNat_lt (byt by')
  refine x_conv cv_3_5 _ rfl (by simp only [X.lo]; omega) (by simp only [X.hi]; omega) ?_
  refine x_assign (.int _ _) rfl ?_
  refine x_nil ?_
  refine then_n ?_
  refine c_seq ?_
  -- region 2
  refine c_region ?_
  refine x_move (.pointer _) rfl ?_
  refine x_move (.int _ _) rfl ?_
  refine x_call Try.f22 Try.func22 rfl rfl _ rfl ?_
  refine ((rlook14_calls at' hs hl)).mono ?_
  clear hs; rintro e w ⟨u, v, z, rfl, hlk⟩
  refine ⟨_, rfl, fun h => (by first | (cases h; done) | (first | exact hs.cells2 rfl rfl | exact (hs.pull 1).cells2 rfl rfl | exact (hs.pull 2).cells2 rfl rfl | exact (hs.pull 3).cells2 rfl rfl | exact (hs.pull 4).cells2 rfl rfl | exact (hs.pull 5).cells2 rfl rfl | exact (hs.pull 6).cells2 rfl rfl | exact (hs.pull 7).cells2 rfl rfl | exact (hs.pull 8).cells2 rfl rfl | exact hs.cell rfl | exact (hs.pull 1).cell rfl | exact (hs.pull 2).cell rfl | exact (hs.pull 3).cell rfl | exact (hs.pull 4).cell rfl | exact (hs.pull 5).cell rfl | exact (hs.pull 6).cell rfl | exact (hs.pull 7).cell rfl | exact (hs.pull 8).cell rfl | assumption | exact hs.cellsOf | exact (hs.pull 1).cellsOf | exact (hs.pull 2).cellsOf | exact (hs.pull 3).cellsOf | exact (hs.pull 4).cellsOf | exact (hs.pull 5).cellsOf | exact (hs.pull 6).cellsOf | exact (hs.pull 7).cellsOf | exact (hs.pull 8).cellsOf) | (and_intros <;> first | exact hs.cells2 rfl rfl | exact (hs.pull 1).cells2 rfl rfl | exact (hs.pull 2).cells2 rfl rfl | exact (hs.pull 3).cells2 rfl rfl | exact (hs.pull 4).cells2 rfl rfl | exact (hs.pull 5).cells2 rfl rfl | exact (hs.pull 6).cells2 rfl rfl | exact (hs.pull 7).cells2 rfl rfl | exact (hs.pull 8).cells2 rfl rfl | exact hs.cell rfl | exact (hs.pull 1).cell rfl | exact (hs.pull 2).cell rfl | exact (hs.pull 3).cell rfl | exact (hs.pull 4).cell rfl | exact (hs.pull 5).cell rfl | exact (hs.pull 6).cell rfl | exact (hs.pull 7).cell rfl | exact (hs.pull 8).cell rfl | assumption | exact hs.cellsOf | exact (hs.pull 1).cellsOf | exact (hs.pull 2).cellsOf | exact (hs.pull 3).cellsOf | exact (hs.pull 4).cellsOf | exact (hs.pull 5).cellsOf | exact (hs.pull 6).cellsOf | exact (hs.pull 7).cellsOf | exact (hs.pull 8).cellsOf)), ?_⟩
  obtain ⟨hzz, hrd, hzk, hs⟩ := hlk
  generalize thLook l at' = t at *
  obtain ⟨to, b, sp⟩ := t
  dsimp only at *
  subst hsp
  obtain ⟨a5, c5, rfl⟩ : ∃ a c, u = .slice a b.length c := (hrd _ _ (hs.pull 2)).val
  refine x_alloc zi_47 hs ?_; clear hs; intro b10 w hs; refine ⟨fun h => (by first | (cases h; done) | (first | exact hs.cells2 rfl rfl | exact (hs.pull 1).cells2 rfl rfl | exact (hs.pull 2).cells2 rfl rfl | exact (hs.pull 3).cells2 rfl rfl | exact (hs.pull 4).cells2 rfl rfl | exact (hs.pull 5).cells2 rfl rfl | exact (hs.pull 6).cells2 rfl rfl | exact (hs.pull 7).cells2 rfl rfl | exact (hs.pull 8).cells2 rfl rfl | exact hs.cell rfl | exact (hs.pull 1).cell rfl | exact (hs.pull 2).cell rfl | exact (hs.pull 3).cell rfl | exact (hs.pull 4).cell rfl | exact (hs.pull 5).cell rfl | exact (hs.pull 6).cell rfl | exact (hs.pull 7).cell rfl | exact (hs.pull 8).cell rfl | assumption | exact hs.cellsOf | exact (hs.pull 1).cellsOf | exact (hs.pull 2).cellsOf | exact (hs.pull 3).cellsOf | exact (hs.pull 4).cellsOf | exact (hs.pull 5).cellsOf | exact (hs.pull 6).cellsOf | exact (hs.pull 7).cellsOf | exact (hs.pull 8).cellsOf) | (and_intros <;> first | exact hs.cells2 rfl rfl | exact (hs.pull 1).cells2 rfl rfl | exact (hs.pull 2).cells2 rfl rfl | exact (hs.pull 3).cells2 rfl rfl | exact (hs.pull 4).cells2 rfl rfl | exact (hs.pull 5).cells2 rfl rfl | exact (hs.pull 6).cells2 rfl rfl | exact (hs.pull 7).cells2 rfl rfl | exact (hs.pull 8).cells2 rfl rfl | exact hs.cell rfl | exact (hs.pull 1).cell rfl | exact (hs.pull 2).cell rfl | exact (hs.pull 3).cell rfl | exact (hs.pull 4).cell rfl | exact (hs.pull 5).cell rfl | exact (hs.pull 6).cell rfl | exact (hs.pull 7).cell rfl | exact (hs.pull 8).cell rfl | assumption | exact hs.cellsOf | exact (hs.pull 1).cellsOf | exact (hs.pull 2).cellsOf | exact (hs.pull 3).cellsOf | exact (hs.pull 4).cellsOf | exact (hs.pull 5).cellsOf | exact (hs.pull 6).cellsOf | exact (hs.pull 7).cellsOf | exact (hs.pull 8).cellsOf)), ?_⟩
  first
    | refine x_storeAllI hs 0 rfl rfl agg_47 [_, _, _, _] rfl rfl rfl rfl ?_
    | refine x_storeAllI hs 1 rfl rfl agg_47 [_, _, _, _] rfl rfl rfl rfl ?_
    | refine x_storeAllI hs 2 rfl rfl agg_47 [_, _, _, _] rfl rfl rfl rfl ?_
    | refine x_storeAllI hs 3 rfl rfl agg_47 [_, _, _, _] rfl rfl rfl rfl ?_
    | refine x_storeAllI hs 4 rfl rfl agg_47 [_, _, _, _] rfl rfl rfl rfl ?_
    | refine x_storeAllI hs 5 rfl rfl agg_47 [_, _, _, _] rfl rfl rfl rfl ?_
    | refine x_storeAllI hs 6 rfl rfl agg_47 [_, _, _, _] rfl rfl rfl rfl ?_
    | refine x_storeAllI hs 7 rfl rfl agg_47 [_, _, _, _] rfl rfl rfl rfl ?_
  clear hs; intro w hs
  try dsimp only [back, List.set_cons_zero, List.set_cons_succ] at hs
  refine ⟨fun h => (by first | (cases h; done) | (first | exact hs.cells2 rfl rfl | exact (hs.pull 1).cells2 rfl rfl | exact (hs.pull 2).cells2 rfl rfl | exact (hs.pull 3).cells2 rfl rfl | exact (hs.pull 4).cells2 rfl rfl | exact (hs.pull 5).cells2 rfl rfl | exact (hs.pull 6).cells2 rfl rfl | exact (hs.pull 7).cells2 rfl rfl | exact (hs.pull 8).cells2 rfl rfl | exact hs.cell rfl | exact (hs.pull 1).cell rfl | exact (hs.pull 2).cell rfl | exact (hs.pull 3).cell rfl | exact (hs.pull 4).cell rfl | exact (hs.pull 5).cell rfl | exact (hs.pull 6).cell rfl | exact (hs.pull 7).cell rfl | exact (hs.pull 8).cell rfl | assumption | exact hs.cellsOf | exact (hs.pull 1).cellsOf | exact (hs.pull 2).cellsOf | exact (hs.pull 3).cellsOf | exact (hs.pull 4).cellsOf | exact (hs.pull 5).cellsOf | exact (hs.pull 6).cellsOf | exact (hs.pull 7).cellsOf | exact (hs.pull 8).cellsOf) | (and_intros <;> first | exact hs.cells2 rfl rfl | exact (hs.pull 1).cells2 rfl rfl | exact (hs.pull 2).cells2 rfl rfl | exact (hs.pull 3).cells2 rfl rfl | exact (hs.pull 4).cells2 rfl rfl | exact (hs.pull 5).cells2 rfl rfl | exact (hs.pull 6).cells2 rfl rfl | exact (hs.pull 7).cells2 rfl rfl | exact (hs.pull 8).cells2 rfl rfl | exact hs.cell rfl | exact (hs.pull 1).cell rfl | exact (hs.pull 2).cell rfl | exact (hs.pull 3).cell rfl | exact (hs.pull 4).cell rfl | exact (hs.pull 5).cell rfl | exact (hs.pull 6).cell rfl | exact (hs.pull 7).cell rfl | exact (hs.pull 8).cell rfl | assumption | exact hs.cellsOf | exact (hs.pull 1).cellsOf | exact (hs.pull 2).cellsOf | exact (hs.pull 3).cellsOf | exact (hs.pull 4).cellsOf | exact (hs.pull 5).cellsOf | exact (hs.pull 6).cellsOf | exact (hs.pull 7).cellsOf | exact (hs.pull 8).cellsOf)), ?_⟩
  refine x_nil ?_
  refine then_n ?_
  refine c_seq ?_
  refine c_seq ?_
  -- region 3
  refine c_region ?_
  first | refine x_field0 fa_47_1 _ rfl ?_ | refine x_field fa_47_1 _ _ rfl ?_
  refine x_load one_22 _ (.slice _ _ _) rfl (by first | exact hs.cell rfl | exact (hs.pull 1).cell rfl | exact (hs.pull 2).cell rfl | exact (hs.pull 3).cell rfl | assumption | exact (hs.pull 4).cell rfl | exact (hs.pull 5).cell rfl | exact (hs.pull 6).cell rfl | exact (hs.pull 7).cell rfl) ?_
  refine x_lenSl Try.underlying22 _ _ _ rfl ?_
  refine x_eqlF _ _ rfl rfl (by omega) ?_
  refine x_move (.bool _) rfl ?_
  refine x_want' rfl ?_
  first | refine x_field0 fa_47_2 _ rfl ?_ | refine x_field fa_47_2 _ _ rfl ?_
  refine x_want' rfl ?_
  refine x_load one_4 _ (.bool _) rfl (by first | exact hs.cell rfl | exact (hs.pull 1).cell rfl | exact (hs.pull 2).cell rfl | exact (hs.pull 3).cell rfl | assumption | exact (hs.pull 4).cell rfl | exact (hs.pull 5).cell rfl | exact (hs.pull 6).cell rfl | exact (hs.pull 7).cell rfl) ?_
  refine x_pickF (.bool _) rfl rfl ?_
  refine x_move (.bool _) rfl ?_
  refine x_want' rfl ?_
  refine x_move (.int _ _) rfl ?_
  refine x_want' rfl ?_
  refine x_eqlF _ _ rfl rfl (by omega) ?_
  refine x_pickF (.bool _) rfl rfl ?_
  refine x_nil ?_
  refine then_n ?_
  refine c_false rfl ?_
  refine c_skip ?_
  refine then_n ?_
  refine c_seq ?_
  -- region 5
  refine c_region ?_
  refine x_buildSlice _ [] hs rfl (fun w => bs_22_0 w) ?_; clear hs; intro b31 w hs; refine ⟨fun h => (by first | (cases h; done) | (first | exact hs.cells2 rfl rfl | exact (hs.pull 1).cells2 rfl rfl | exact (hs.pull 2).cells2 rfl rfl | exact (hs.pull 3).cells2 rfl rfl | exact (hs.pull 4).cells2 rfl rfl | exact (hs.pull 5).cells2 rfl rfl | exact (hs.pull 6).cells2 rfl rfl | exact (hs.pull 7).cells2 rfl rfl | exact (hs.pull 8).cells2 rfl rfl | exact hs.cell rfl | exact (hs.pull 1).cell rfl | exact (hs.pull 2).cell rfl | exact (hs.pull 3).cell rfl | exact (hs.pull 4).cell rfl | exact (hs.pull 5).cell rfl | exact (hs.pull 6).cell rfl | exact (hs.pull 7).cell rfl | exact (hs.pull 8).cell rfl | assumption | exact hs.cellsOf | exact (hs.pull 1).cellsOf | exact (hs.pull 2).cellsOf | exact (hs.pull 3).cellsOf | exact (hs.pull 4).cellsOf | exact (hs.pull 5).cellsOf | exact (hs.pull 6).cellsOf | exact (hs.pull 7).cellsOf | exact (hs.pull 8).cellsOf) | (and_intros <;> first | exact hs.cells2 rfl rfl | exact (hs.pull 1).cells2 rfl rfl | exact (hs.pull 2).cells2 rfl rfl | exact (hs.pull 3).cells2 rfl rfl | exact (hs.pull 4).cells2 rfl rfl | exact (hs.pull 5).cells2 rfl rfl | exact (hs.pull 6).cells2 rfl rfl | exact (hs.pull 7).cells2 rfl rfl | exact (hs.pull 8).cells2 rfl rfl | exact hs.cell rfl | exact (hs.pull 1).cell rfl | exact (hs.pull 2).cell rfl | exact (hs.pull 3).cell rfl | exact (hs.pull 4).cell rfl | exact (hs.pull 5).cell rfl | exact (hs.pull 6).cell rfl | exact (hs.pull 7).cell rfl | exact (hs.pull 8).cell rfl | assumption | exact hs.cellsOf | exact (hs.pull 1).cellsOf | exact (hs.pull 2).cellsOf | exact (hs.pull 3).cellsOf | exact (hs.pull 4).cellsOf | exact (hs.pull 5).cellsOf | exact (hs.pull 6).cellsOf | exact (hs.pull 7).cellsOf | exact (hs.pull 8).cellsOf)), ?_⟩
  first | refine x_field0 fa_47_1 _ rfl ?_ | refine x_field fa_47_1 _ _ rfl ?_
  refine x_load one_22 _ (.slice _ _ _) rfl (by first | exact hs.cell rfl | exact (hs.pull 1).cell rfl | exact (hs.pull 2).cell rfl | exact (hs.pull 3).cell rfl | assumption | exact (hs.pull 4).cell rfl | exact (hs.pull 5).cell rfl | exact (hs.pull 6).cell rfl | exact (hs.pull 7).cell rfl) ?_
  refine x_append (row_blk (size := 1) (len := 0) hs rfl (by decide)) Try.underlying22 ei_5 (hrd _ _ (hs.pull 4)) bv_one (by unfold maxLen; omega) (by omega) rfl rfl ?_
  clear hs; intro v w hs; refine ⟨fun h => (by cases h), ?_⟩
  rw [show 0 + b.length = b.length from Nat.zero_add _, show (#[] : Array Value).toList ++ bv b = bv b from rfl] at hs
  obtain ⟨a2, c2, rfl⟩ := hs.rd.val
  refine x_assign (.slice _ _ _) rfl ?_
  refine x_nil ?_
  refine then_n ?_
  refine c_seq ?_
  -- region 6
  refine c_region ?_
  refine x_move (.int _ _) rfl ?_
  refine x_move (.slice _ _ _) rfl ?_
  refine x_lenSl Try.underlying22 _ _ _ rfl ?_
  refine x_call Try.f14 Try.func14 rfl rfl _ rfl ?_
  refine (pick_calls hs wh _ (by omega)).mono ?_
  clear hs; rintro e w ⟨rfl, hs, -⟩
  refine ⟨_, rfl, fun h => (by first | (cases h; done) | (first | exact hs.cells2 rfl rfl | exact (hs.pull 1).cells2 rfl rfl | exact (hs.pull 2).cells2 rfl rfl | exact (hs.pull 3).cells2 rfl rfl | exact (hs.pull 4).cells2 rfl rfl | exact (hs.pull 5).cells2 rfl rfl | exact (hs.pull 6).cells2 rfl rfl | exact (hs.pull 7).cells2 rfl rfl | exact (hs.pull 8).cells2 rfl rfl | exact hs.cell rfl | exact (hs.pull 1).cell rfl | exact (hs.pull 2).cell rfl | exact (hs.pull 3).cell rfl | exact (hs.pull 4).cell rfl | exact (hs.pull 5).cell rfl | exact (hs.pull 6).cell rfl | exact (hs.pull 7).cell rfl | exact (hs.pull 8).cell rfl | assumption | exact hs.cellsOf | exact (hs.pull 1).cellsOf | exact (hs.pull 2).cellsOf | exact (hs.pull 3).cellsOf | exact (hs.pull 4).cellsOf | exact (hs.pull 5).cellsOf | exact (hs.pull 6).cellsOf | exact (hs.pull 7).cellsOf | exact (hs.pull 8).cellsOf) | (and_intros <;> first | exact hs.cells2 rfl rfl | exact (hs.pull 1).cells2 rfl rfl | exact (hs.pull 2).cells2 rfl rfl | exact (hs.pull 3).cells2 rfl rfl | exact (hs.pull 4).cells2 rfl rfl | exact (hs.pull 5).cells2 rfl rfl | exact (hs.pull 6).cells2 rfl rfl | exact (hs.pull 7).cells2 rfl rfl | exact (hs.pull 8).cells2 rfl rfl | exact hs.cell rfl | exact (hs.pull 1).cell rfl | exact (hs.pull 2).cell rfl | exact (hs.pull 3).cell rfl | exact (hs.pull 4).cell rfl | exact (hs.pull 5).cell rfl | exact (hs.pull 6).cell rfl | exact (hs.pull 7).cell rfl | exact (hs.pull 8).cell rfl | assumption | exact hs.cellsOf | exact (hs.pull 1).cellsOf | exact (hs.pull 2).cellsOf | exact (hs.pull 3).cellsOf | exact (hs.pull 4).cellsOf | exact (hs.pull 5).cellsOf | exact (hs.pull 6).cellsOf | exact (hs.pull 7).cellsOf | exact (hs.pull 8).cellsOf)), ?_⟩
  refine x_assign (.int _ _) rfl ?_
  refine x_nil ?_
  refine then_n ?_
  refine c_seq ?_
  -- region 7
  obtain ⟨g5, o5, rfl⟩ := hs.rowAddr (show 0 < b.length by omega)
  have hj := pk_lt' (x := wh) (show 0 < b.length by omega)
  obtain ⟨x, hx⟩ : ∃ x, b[pk wh b.length]? = some x := ⟨b[pk wh b.length], List.getElem?_eq_getElem hj⟩
  have hcX : w.cell? ⟨g5, o5 + pk wh b.length * 1, none⟩ = some (.int .u8 (x.toNat : Nat)) := by rw [Nat.mul_one]; exact hs.rowCell (bv_get hx)
  have hgx : b.getD (pk wh b.length) 0 = x := by rw [List.getD_eq_getElem?_getD, hx]; rfl
  rw [hgx]
  refine c_region ?_
  refine x_move (.slice _ _ _) rfl ?_
  refine x_move (.int _ _) rfl ?_
  refine x_move (.slice _ _ _) rfl ?_
  refine x_move (.int _ _) rfl ?_
  refine x_indexAddr Try.underlying22 sz_5 _ _ _ _ _ rfl rfl (by omega) ?_
  refine x_load one_5 _ (.int _ _) rfl (by first | exact hs.cell rfl | exact (hs.pull 1).cell rfl | exact (hs.pull 2).cell rfl | exact (hs.pull 3).cell rfl | assumption | exact (hs.pull 4).cell rfl | exact (hs.pull 5).cell rfl | exact (hs.pull 6).cell rfl | exact (hs.pull 7).cell rfl) ?_
  refine x_move (.int _ _) rfl ?_
  refine x_xor x.toNat (byt by').toNat rfl rfl rfl (UInt8.toNat_lt _) (UInt8.toNat_lt _) ?_
  refine x_indexAddr Try.underlying22 sz_5 _ _ _ _ _ rfl rfl (by omega) ?_
  refine x_storeRow (j := pk wh b.length * 1) hs one_5 (.int .u8 ((x.toNat ^^^ (byt by').toNat : Nat) : Int)) rfl rfl rfl (by omega) ?_
  clear hs hcX; intro w hs; refine ⟨fun h => (by cases h), ?_⟩
  rw [← UInt8.toNat_xor, bv_set, Nat.mul_one] at hs
  refine x_nil ?_
  refine then_n ?_
  refine c_seq ?_
  -- region 8 DRAWS
  have hzl : z.length = l.length := by rw [hzz, List.length_map]
  rw [← hzl]
  have hz0 : 0 < z.length := by omega
  have hk := pk_lt' (x := at') hz0
  have hzk' := hzk hz0
  obtain ⟨z1, z2⟩ := zs hzk'
  obtain ⟨a9, c9, rfl⟩ := (hs.pull 3).rd.val
  obtain ⟨g9, o9, rfl⟩ := (hs.pull 3).rowAddr (show 0 < z.length by omega)
  refine c_draw (fun w => w.cell? ⟨f, 0, none⟩ = some (.slice (some ⟨g9, o9, none⟩) z.length c9) ∧ (∀ (j : Nat) (u : Value), [Value.int .u16 (to.Id : Nat), Value.int .u32 (to.Inc : Nat)][j]? = some u → w.cell? ((⟨b10, 0, none⟩ : Addr).add j) = some u)) (fun i => !(Nat.beq i 16)) [(0, 2), (1, 2), (2, 2), (3, 1), (4, 2), (5, 2), (6, 2), (7, 2), (8, 1), (9, 2), (11, 2), (12, 1), (13, 2), (14, 2), (10, 0), (15, 2), (16, 0)] (by kernel_rfl) (by kernel_rfl) (by kernel_rfl) (by kernel_rfl) ((by first | (first | exact hs.cells2 rfl rfl | exact (hs.pull 1).cells2 rfl rfl | exact (hs.pull 2).cells2 rfl rfl | exact (hs.pull 3).cells2 rfl rfl | exact (hs.pull 4).cells2 rfl rfl | exact (hs.pull 5).cells2 rfl rfl | exact (hs.pull 6).cells2 rfl rfl | exact (hs.pull 7).cells2 rfl rfl | exact (hs.pull 8).cells2 rfl rfl | exact hs.cell rfl | exact (hs.pull 1).cell rfl | exact (hs.pull 2).cell rfl | exact (hs.pull 3).cell rfl | exact (hs.pull 4).cell rfl | exact (hs.pull 5).cell rfl | exact (hs.pull 6).cell rfl | exact (hs.pull 7).cell rfl | exact (hs.pull 8).cell rfl | assumption | exact hs.cellsOf | exact (hs.pull 1).cellsOf | exact (hs.pull 2).cellsOf | exact (hs.pull 3).cellsOf | exact (hs.pull 4).cellsOf | exact (hs.pull 5).cellsOf | exact (hs.pull 6).cellsOf | exact (hs.pull 7).cellsOf | exact (hs.pull 8).cellsOf) | (and_intros <;> first | exact hs.cells2 rfl rfl | exact (hs.pull 1).cells2 rfl rfl | exact (hs.pull 2).cells2 rfl rfl | exact (hs.pull 3).cells2 rfl rfl | exact (hs.pull 4).cells2 rfl rfl | exact (hs.pull 5).cells2 rfl rfl | exact (hs.pull 6).cells2 rfl rfl | exact (hs.pull 7).cells2 rfl rfl | exact (hs.pull 8).cells2 rfl rfl | exact hs.cell rfl | exact (hs.pull 1).cell rfl | exact (hs.pull 2).cell rfl | exact (hs.pull 3).cell rfl | exact (hs.pull 4).cell rfl | exact (hs.pull 5).cell rfl | exact (hs.pull 6).cell rfl | exact (hs.pull 7).cell rfl | exact (hs.pull 8).cell rfl | assumption | exact hs.cellsOf | exact (hs.pull 1).cellsOf | exact (hs.pull 2).cellsOf | exact (hs.pull 3).cellsOf | exact (hs.pull 4).cellsOf | exact (hs.pull 5).cellsOf | exact (hs.pull 6).cellsOf | exact (hs.pull 7).cellsOf | exact (hs.pull 8).cellsOf))) ?_
  replace hs := hs.drew
  refine x_move (.pointer _) rfl ?_
  refine x_nilCheck _ rfl ?_
  first | refine x_field0 fa_42_0 _ rfl ?_ | refine x_field fa_42_0 _ _ rfl ?_
  refine h_load one_40 _ (.slice _ _ _) rfl (fun w hS => by first | exact hS.cell rfl | exact (hS.pull 1).cell rfl | exact (hS.pull 2).cell rfl | exact (hS.pull 3).cell rfl | exact (hS.pull 4).cell rfl | exact (hS.pull 5).cell rfl | exact (hS.pull 6).cell rfl | exact hS | exact hS.1 | exact hS.2 | exact hS.2.1 | exact hS.2.2 | exact hS.2.2.1 | exact hS.2.2.2 | exact hS.2.2.2.1 | exact hS.2.2.2.2) ?_
  refine x_move (.int _ _) rfl ?_
  refine x_move (.pointer _) rfl ?_
  refine x_nilCheck _ rfl ?_
  first | refine x_field0 fa_42_0 _ rfl ?_ | refine x_field fa_42_0 _ _ rfl ?_
  refine h_load one_40 _ (.slice _ _ _) rfl (fun w hS => by first | exact hS.cell rfl | exact (hS.pull 1).cell rfl | exact (hS.pull 2).cell rfl | exact (hS.pull 3).cell rfl | exact (hS.pull 4).cell rfl | exact (hS.pull 5).cell rfl | exact (hS.pull 6).cell rfl | exact hS | exact hS.1 | exact hS.2 | exact hS.2.1 | exact hS.2.2 | exact hS.2.2.1 | exact hS.2.2.2 | exact hS.2.2.2.1 | exact hS.2.2.2.2) ?_
  refine x_lenSl Try.underlying40 _ _ _ rfl ?_
  first | refine x_field0 fa_47_0 _ rfl ?_ | refine x_field fa_47_0 _ _ rfl ?_
  refine h_loadN [_, _] agg_30 _ rfl (fun w hS => by first | exact hS | exact hS.1 | exact hS.2 | exact hS.2.1 | exact hS.2.2 | exact hS.2.2.1 | exact hS.2.2.2 | exact hS.2.2.2.1 | exact hS.2.2.2.2 | exact hS.cellsOf | exact (hS.pull 1).cellsOf | exact (hS.pull 2).cellsOf | exact (hS.pull 3).cellsOf | exact (hS.pull 4).cellsOf | exact (hS.pull 5).cellsOf | exact (hS.pull 6).cellsOf | exact hS.cells2 rfl rfl | exact (hS.pull 1).cells2 rfl rfl | exact (hS.pull 2).cells2 rfl rfl | exact (hS.pull 3).cells2 rfl rfl | exact (hS.pull 4).cells2 rfl rfl | exact (hS.pull 5).cells2 rfl rfl | exact (hS.pull 6).cells2 rfl rfl) ?_
  refine x_move (.slice _ _ _) rfl ?_
  refine x_build _ [(0, (.agg #[(.int .u16 _), (.int .u32 _)])), (1, (.slice _ _ _)), (2, (.bool _))] rfl (fun w => bd_47_0_1_2 _ _ _ _ _ _ w) ?_
  refine x_call Try.f14 Try.func14 rfl rfl _ rfl ?_
  refine (pick_calls hs at' _ (by omega)).mono ?_
  clear hs; rintro e w ⟨rfl, hs, -⟩
  refine ⟨_, rfl, fun h => (by first | (cases h; done) | (first | exact hs.cells2 rfl rfl | exact (hs.pull 1).cells2 rfl rfl | exact (hs.pull 2).cells2 rfl rfl | exact (hs.pull 3).cells2 rfl rfl | exact (hs.pull 4).cells2 rfl rfl | exact (hs.pull 5).cells2 rfl rfl | exact (hs.pull 6).cells2 rfl rfl | exact (hs.pull 7).cells2 rfl rfl | exact (hs.pull 8).cells2 rfl rfl | exact hs.cell rfl | exact (hs.pull 1).cell rfl | exact (hs.pull 2).cell rfl | exact (hs.pull 3).cell rfl | exact (hs.pull 4).cell rfl | exact (hs.pull 5).cell rfl | exact (hs.pull 6).cell rfl | exact (hs.pull 7).cell rfl | exact (hs.pull 8).cell rfl | assumption | exact hs.cellsOf | exact (hs.pull 1).cellsOf | exact (hs.pull 2).cellsOf | exact (hs.pull 3).cellsOf | exact (hs.pull 4).cellsOf | exact (hs.pull 5).cellsOf | exact (hs.pull 6).cellsOf | exact (hs.pull 7).cellsOf | exact (hs.pull 8).cellsOf) | (and_intros <;> first | exact hs.cells2 rfl rfl | exact (hs.pull 1).cells2 rfl rfl | exact (hs.pull 2).cells2 rfl rfl | exact (hs.pull 3).cells2 rfl rfl | exact (hs.pull 4).cells2 rfl rfl | exact (hs.pull 5).cells2 rfl rfl | exact (hs.pull 6).cells2 rfl rfl | exact (hs.pull 7).cells2 rfl rfl | exact (hs.pull 8).cells2 rfl rfl | exact hs.cell rfl | exact (hs.pull 1).cell rfl | exact (hs.pull 2).cell rfl | exact (hs.pull 3).cell rfl | exact (hs.pull 4).cell rfl | exact (hs.pull 5).cell rfl | exact (hs.pull 6).cell rfl | exact (hs.pull 7).cell rfl | exact (hs.pull 8).cell rfl | assumption | exact hs.cellsOf | exact (hs.pull 1).cellsOf | exact (hs.pull 2).cellsOf | exact (hs.pull 3).cellsOf | exact (hs.pull 4).cellsOf | exact (hs.pull 5).cellsOf | exact (hs.pull 6).cellsOf | exact (hs.pull 7).cellsOf | exact (hs.pull 8).cellsOf)), ?_⟩
  refine x_indexAddr Try.underlying40 sz_47 _ _ _ _ _ rfl rfl (by omega) ?_
  refine x_storeNRow (o := pk at' z.length * 4) (hs.pull 3) agg_47 (tcell (⟨to, b.set (pk wh b.length) (x ^^^ byt by'), true⟩, .slice (some ⟨g5, o5, none⟩) b.length c2)) rfl rfl rfl rfl (by omega) ?_
  clear hs; intro w hs; refine ⟨fun h => (by cases h), ?_⟩
  rw [tsetAll _ hk] at hs
  refine x_nil ?_
  refine then_n ?_
  refine c_seq ?_
  -- region 9
  refine c_region ?_
  refine x_assign (.bool _) rfl ?_
  refine x_nil ?_
  refine then_n ?_
  refine c_ret ?_
  refine ⟨.inr rfl, ?_⟩
  have hs := hs.perm [3, 0, 1, 4, 2]
  have hs := ((hs.pull 3).eachOut z1 z2).tail
  have e : (b.set (pk wh b.length) (x ^^^ byt by')).length = b.length := List.length_set
  refine ⟨rfl, ?_⟩
  have hf : Sat w0 w (FR f ((z.map (·.1)).set (pk at' z.length) ⟨to, b.set (pk wh b.length) (x ^^^ byt by'), true⟩) :: L) := by
    refine fobj_set (v := .slice (some ⟨g9, o9, none⟩) z.length c9) (u := .slice (some ⟨g5, o5, none⟩) b.length c2) hk ?_
    unfold BR
    dsimp only
    rw [e]
    exact (hs.pull 4).tail.perm [1, 2, 3, 0]
  rw [← hzz] at hf
  exact hf
end Go.Proofs.Ytipleepbhcembaa.X
