/-
  LAYER 14: Spoil, Cut.
-/
import Derived.Test.YtipleepbhcembaaFl3
namespace Go.Proofs.Ytipleepbhcembaa.X
open Go Go.RowKit
set_option linter.unusedVariables false
set_option maxRecDepth 20000
def thSpoil (l : List Thg) (a wh by' : Int) : Bool × List Thg :=
  if thSnd l a ∧ byt by' ≠ 0 then (true, l.set (pk a l.length) ⟨(thLook l a).to, (thLook l a).b.set (pk wh (thLook l a).b.length) ((thLook l a).b.getD (pk wh (thLook l a).b.length) 0 ^^^ byt by'), true⟩) else (false, l)
def thCut (l : List Thg) (a n : Int) : Bool × List Thg :=
  if thSnd l a then (true, l.set (pk a l.length) ⟨(thLook l a).to, (thLook l a).b.take ((thLook l a).b.length - 1 - pk n (thLook l a).b.length), true⟩) else (false, l)
theorem tset {z : List (Thg × Value)} {k q : Nat} {x y : Thg × Value} {v : Value} (hz : z[k]? = some x) (hq : q < 4) (hy : (tcell x).set q v = tcell y) : (tcells z).set (k * 4 + q) v = tcells (z.set k y) := by
  unfold tcells
  rw [flat_set k q (z.map tcell) (tcell x) v (trow z) (by rw [List.getElem?_map, hz]; rfl) hq, hy, List.map_set]
theorem fobj_set {w0 w : World} {T R f k : Nat} {v u : Value} {z : List (Thg × Value)} {t : Thg} {L : List HP} (hk : k < z.length) (hs : Sat w0 w (Blk f (.cells #[v] T (0, 0)) :: Row R 4 v z.length (tcells (z.set k (t, u))) :: BR u t.b :: EachB ((z.map (·.2)).eraseIdx k) ((z.map (·.1.b)).eraseIdx k) :: L)) : Sat w0 w (FObj T R f ((z.map (·.1)).set k t) :: L) := by
  have h1 := ((hs.perm [2, 3, 0, 1]).eachInto (by simpa using hk) (by simpa using hk)).perm [1, 2, 0]
  have e : (z.map (·.1)).set k t = (z.set k (t, u)).map (·.1) := by rw [List.map_set]
  rw [e]
  refine Sat.fobj' (v := v) ?_
  rw [List.length_set, List.map_set, List.map_set]
  exact h1
set_option maxHeartbeats 1000000 in
theorem fspoil_no {w0 w : World} {L : List HP} {f : Nat} {l : List Thg} (at' wh by' : Int) (hs : Sat w0 w (FP f l :: L)) (hl : l.length ≤ 1000000) (hb : ∀ t ∈ l, t.b.length ≤ 1000000) (hn : ¬ thSnd l at') :
    Calls Try.prog 10 #[.pointer (some ⟨f, 0, none⟩), .int .i64 at', .int .i64 wh, .int .i64 by'] w fun e w' => e = .returned (.bool false) ∧ Sat w0 w' (FP f l :: L) := by
  refine enter Try.func10 rfl Try.ntmps10 8 rfl (Nat.le_of_ble_eq_true rfl) ?_
  refine c_seq ?_
  -- region 0
  refine c_region ?_
  refine x_assign (.bool _) rfl ?_
  refine x_nil ?_
  refine then_n ?_
  refine c_seq ?_
  -- region 1
  refine c_region ?_
  refine x_move (.pointer _) rfl ?_
  refine x_move (.int _ _) rfl ?_
  refine x_call Try.f25 Try.func25 rfl rfl _ rfl ?_
  refine (fsound_no at' hs hl hb hn).mono ?_
  clear hs; rintro e w ⟨rfl, hs⟩
  refine ⟨_, rfl, fun h => (by first | (cases h; done) | (first | exact hs.cells2 rfl rfl | exact (hs.pull 1).cells2 rfl rfl | exact (hs.pull 2).cells2 rfl rfl | exact (hs.pull 3).cells2 rfl rfl | exact (hs.pull 4).cells2 rfl rfl | exact (hs.pull 5).cells2 rfl rfl | exact (hs.pull 6).cells2 rfl rfl | exact (hs.pull 7).cells2 rfl rfl | exact (hs.pull 8).cells2 rfl rfl | exact hs.cell rfl | exact (hs.pull 1).cell rfl | exact (hs.pull 2).cell rfl | exact (hs.pull 3).cell rfl | exact (hs.pull 4).cell rfl | exact (hs.pull 5).cell rfl | exact (hs.pull 6).cell rfl | exact (hs.pull 7).cell rfl | exact (hs.pull 8).cell rfl | assumption | exact hs.cellsOf | exact (hs.pull 1).cellsOf | exact (hs.pull 2).cellsOf | exact (hs.pull 3).cellsOf | exact (hs.pull 4).cellsOf | exact (hs.pull 5).cellsOf | exact (hs.pull 6).cellsOf | exact (hs.pull 7).cellsOf | exact (hs.pull 8).cellsOf) | (and_intros <;> first | exact hs.cells2 rfl rfl | exact (hs.pull 1).cells2 rfl rfl | exact (hs.pull 2).cells2 rfl rfl | exact (hs.pull 3).cells2 rfl rfl | exact (hs.pull 4).cells2 rfl rfl | exact (hs.pull 5).cells2 rfl rfl | exact (hs.pull 6).cells2 rfl rfl | exact (hs.pull 7).cells2 rfl rfl | exact (hs.pull 8).cells2 rfl rfl | exact hs.cell rfl | exact (hs.pull 1).cell rfl | exact (hs.pull 2).cell rfl | exact (hs.pull 3).cell rfl | exact (hs.pull 4).cell rfl | exact (hs.pull 5).cell rfl | exact (hs.pull 6).cell rfl | exact (hs.pull 7).cell rfl | exact (hs.pull 8).cell rfl | assumption | exact hs.cellsOf | exact (hs.pull 1).cellsOf | exact (hs.pull 2).cellsOf | exact (hs.pull 3).cellsOf | exact (hs.pull 4).cellsOf | exact (hs.pull 5).cellsOf | exact (hs.pull 6).cellsOf | exact (hs.pull 7).cellsOf | exact (hs.pull 8).cellsOf)), ?_⟩
  refine x_assign (.pointer _) rfl ?_
  refine x_nil ?_
  refine then_n ?_
  refine c_seq ?_
  refine c_seq ?_
  -- region 2
  refine c_region ?_
  refine x_move (.pointer _) rfl ?_
  refine x_eqlNil Try.underlying60 _ rfl rfl ?_
  refine x_move (.bool _) rfl ?_
  refine x_skip rfl rfl ?_
  refine x_skip rfl rfl ?_
  refine x_skip rfl rfl ?_
  refine x_pickT (.bool _) rfl rfl ?_
  refine x_nil ?_
  refine then_n ?_
  refine c_true rfl ?_
  refine c_seq ?_
  -- region 3
  refine c_region ?_
  refine x_assign (.bool _) rfl ?_
  refine x_nil ?_
  refine then_n ?_
  refine c_ret ?_
  refine then_r ?_
  refine ⟨.inr rfl, ?_⟩
  exact ⟨rfl, hs⟩
theorem fcut_no {w0 w : World} {L : List HP} {f : Nat} {l : List Thg} (at' n : Int) (hs : Sat w0 w (FP f l :: L)) (hl : l.length ≤ 1000000) (hb : ∀ t ∈ l, t.b.length ≤ 1000000) (hn : ¬ thSnd l at') :
    Calls Try.prog 9 #[.pointer (some ⟨f, 0, none⟩), .int .i64 at', .int .i64 n] w fun e w' => e = .returned (.bool false) ∧ Sat w0 w' (FP f l :: L) := by
  refine enter Try.func9 rfl Try.ntmps9 6 rfl (Nat.le_of_ble_eq_true rfl) ?_
  refine c_seq ?_
  -- region 0
  refine c_region ?_
  refine x_assign (.bool _) rfl ?_
  refine x_nil ?_
  refine then_n ?_
  refine c_seq ?_
  -- region 1
  refine c_region ?_
  refine x_move (.pointer _) rfl ?_
  refine x_move (.int _ _) rfl ?_
  refine x_call Try.f25 Try.func25 rfl rfl _ rfl ?_
  refine (fsound_no at' hs hl hb hn).mono ?_
  clear hs; rintro e w ⟨rfl, hs⟩
  refine ⟨_, rfl, fun h => (by first | (cases h; done) | (first | exact hs.cells2 rfl rfl | exact (hs.pull 1).cells2 rfl rfl | exact (hs.pull 2).cells2 rfl rfl | exact (hs.pull 3).cells2 rfl rfl | exact (hs.pull 4).cells2 rfl rfl | exact (hs.pull 5).cells2 rfl rfl | exact (hs.pull 6).cells2 rfl rfl | exact (hs.pull 7).cells2 rfl rfl | exact (hs.pull 8).cells2 rfl rfl | exact hs.cell rfl | exact (hs.pull 1).cell rfl | exact (hs.pull 2).cell rfl | exact (hs.pull 3).cell rfl | exact (hs.pull 4).cell rfl | exact (hs.pull 5).cell rfl | exact (hs.pull 6).cell rfl | exact (hs.pull 7).cell rfl | exact (hs.pull 8).cell rfl | assumption | exact hs.cellsOf | exact (hs.pull 1).cellsOf | exact (hs.pull 2).cellsOf | exact (hs.pull 3).cellsOf | exact (hs.pull 4).cellsOf | exact (hs.pull 5).cellsOf | exact (hs.pull 6).cellsOf | exact (hs.pull 7).cellsOf | exact (hs.pull 8).cellsOf) | (and_intros <;> first | exact hs.cells2 rfl rfl | exact (hs.pull 1).cells2 rfl rfl | exact (hs.pull 2).cells2 rfl rfl | exact (hs.pull 3).cells2 rfl rfl | exact (hs.pull 4).cells2 rfl rfl | exact (hs.pull 5).cells2 rfl rfl | exact (hs.pull 6).cells2 rfl rfl | exact (hs.pull 7).cells2 rfl rfl | exact (hs.pull 8).cells2 rfl rfl | exact hs.cell rfl | exact (hs.pull 1).cell rfl | exact (hs.pull 2).cell rfl | exact (hs.pull 3).cell rfl | exact (hs.pull 4).cell rfl | exact (hs.pull 5).cell rfl | exact (hs.pull 6).cell rfl | exact (hs.pull 7).cell rfl | exact (hs.pull 8).cell rfl | assumption | exact hs.cellsOf | exact (hs.pull 1).cellsOf | exact (hs.pull 2).cellsOf | exact (hs.pull 3).cellsOf | exact (hs.pull 4).cellsOf | exact (hs.pull 5).cellsOf | exact (hs.pull 6).cellsOf | exact (hs.pull 7).cellsOf | exact (hs.pull 8).cellsOf)), ?_⟩
  refine x_assign (.pointer _) rfl ?_
  refine x_nil ?_
  refine then_n ?_
  refine c_seq ?_
  refine c_seq ?_
  -- region 2
  refine c_region ?_
  refine x_move (.pointer _) rfl ?_
  refine x_eqlNil Try.underlying60 _ rfl rfl ?_
  refine x_nil ?_
  refine then_n ?_
  refine c_true rfl ?_
  refine c_seq ?_
  -- region 3
  refine c_region ?_
  refine x_assign (.bool _) rfl ?_
  refine x_nil ?_
  refine then_n ?_
  refine c_ret ?_
  refine then_r ?_
  refine ⟨.inr rfl, ?_⟩
  exact ⟨rfl, hs⟩
set_option maxHeartbeats 2000000 in
theorem fspoil_calls {w0 w : World} {L : List HP} {f : Nat} {l : List Thg} (at' wh by' : Int) (hs : Sat w0 w (FP f l :: L)) (hl : l.length ≤ 1000000) (hb : ∀ t ∈ l, t.b.length ≤ 1000000) :
    Calls Try.prog 10 #[.pointer (some ⟨f, 0, none⟩), .int .i64 at', .int .i64 wh, .int .i64 by'] w fun e w' => e = .returned (.bool (thSpoil l at' wh by').1) ∧ Sat w0 w' (FP f (thSpoil l at' wh by').2 :: L) := by
  by_cases hn : thSnd l at'
  rotate_left
  · unfold thSpoil
    rw [if_neg (fun h => hn h.1)]
    exact fspoil_no at' wh by' hs hl hb hn
  have hsnd := hn
  obtain ⟨hn0, hn1, hn2⟩ := hn
  by_cases hc : byt by' = 0
  · unfold thSpoil
    rw [if_neg (fun h => h.2 hc)]
    have hc0 : (byt by').toNat = 0 := by rw [hc]; rfl
    refine enter Try.func10 rfl Try.ntmps10 8 rfl (Nat.le_of_ble_eq_true rfl) ?_
    refine c_seq ?_
    -- region 0
    refine c_region ?_
    refine x_assign (.bool _) rfl ?_
    refine x_nil ?_
    refine then_n ?_
    refine c_seq ?_
    -- region 1
    refine c_region ?_
    refine x_move (.pointer _) rfl ?_
    refine x_move (.int _ _) rfl ?_
    refine x_call Try.f25 Try.func25 rfl rfl _ rfl ?_
    refine (fsound_yes at' hs hl hb hsnd).mono ?_
    clear hs; rintro e w ⟨g, o, c, z, a5, c5, rfl, hlz, hz, hs⟩
    refine ⟨_, rfl, fun h => (by first | (cases h; done) | (first | exact hs.cells2 rfl rfl | exact (hs.pull 1).cells2 rfl rfl | exact (hs.pull 2).cells2 rfl rfl | exact (hs.pull 3).cells2 rfl rfl | exact (hs.pull 4).cells2 rfl rfl | exact (hs.pull 5).cells2 rfl rfl | exact (hs.pull 6).cells2 rfl rfl | exact (hs.pull 7).cells2 rfl rfl | exact (hs.pull 8).cells2 rfl rfl | exact hs.cell rfl | exact (hs.pull 1).cell rfl | exact (hs.pull 2).cell rfl | exact (hs.pull 3).cell rfl | exact (hs.pull 4).cell rfl | exact (hs.pull 5).cell rfl | exact (hs.pull 6).cell rfl | exact (hs.pull 7).cell rfl | exact (hs.pull 8).cell rfl | assumption | exact hs.cellsOf | exact (hs.pull 1).cellsOf | exact (hs.pull 2).cellsOf | exact (hs.pull 3).cellsOf | exact (hs.pull 4).cellsOf | exact (hs.pull 5).cellsOf | exact (hs.pull 6).cellsOf | exact (hs.pull 7).cellsOf | exact (hs.pull 8).cellsOf) | (and_intros <;> first | exact hs.cells2 rfl rfl | exact (hs.pull 1).cells2 rfl rfl | exact (hs.pull 2).cells2 rfl rfl | exact (hs.pull 3).cells2 rfl rfl | exact (hs.pull 4).cells2 rfl rfl | exact (hs.pull 5).cells2 rfl rfl | exact (hs.pull 6).cells2 rfl rfl | exact (hs.pull 7).cells2 rfl rfl | exact (hs.pull 8).cells2 rfl rfl | exact hs.cell rfl | exact (hs.pull 1).cell rfl | exact (hs.pull 2).cell rfl | exact (hs.pull 3).cell rfl | exact (hs.pull 4).cell rfl | exact (hs.pull 5).cell rfl | exact (hs.pull 6).cell rfl | exact (hs.pull 7).cell rfl | exact (hs.pull 8).cell rfl | assumption | exact hs.cellsOf | exact (hs.pull 1).cellsOf | exact (hs.pull 2).cellsOf | exact (hs.pull 3).cellsOf | exact (hs.pull 4).cellsOf | exact (hs.pull 5).cellsOf | exact (hs.pull 6).cellsOf | exact (hs.pull 7).cellsOf | exact (hs.pull 8).cellsOf)), ?_⟩
    refine x_assign (.pointer _) rfl ?_
    refine x_nil ?_
    refine then_n ?_
    refine c_seq ?_
    refine c_seq ?_
    -- region 2
    refine c_region ?_
    refine x_move (.pointer _) rfl ?_
    refine x_eqlNil Try.underlying60 _ rfl rfl ?_
    refine x_move (.bool _) rfl ?_
    refine x_want' rfl ?_
    refine x_move (.int _ _) rfl ?_
    refine x_want' rfl ?_
    refine x_convB cv_3_5 _ rfl ?_
    refine x_want' rfl ?_
    refine x_eqlT _ _ rfl rfl (by omega) ?_
    refine x_pickF (.bool _) rfl rfl ?_
    refine x_nil ?_
    refine then_n ?_
    refine c_true rfl ?_
    refine c_seq ?_
    -- region 3
    refine c_region ?_
    refine x_assign (.bool _) rfl ?_
    refine x_nil ?_
    refine then_n ?_
    refine c_ret ?_
    refine then_r ?_
    refine ⟨.inr rfl, ?_⟩
    rw [hlz]
    exact ⟨rfl, hs.fobj'⟩
  · have hc0 : (byt by').toNat ≠ 0 := fun h => hc (UInt8.toNat_inj.1 h)
    unfold thSpoil
    rw [if_pos ⟨hsnd, hc⟩]
    have hbt : (thLook l at').b.length ≤ 1000000 := by
      unfold thLook
      by_cases h : pk at' l.length < l.length
      · rw [List.getD_eq_getElem?_getD, List.getElem?_eq_getElem h]
        exact hb _ (List.getElem_mem h)
      · rw [List.getD_eq_getElem?_getD, List.getElem?_eq_none (by omega)]
        exact Nat.zero_le _
    refine enter Try.func10 rfl Try.ntmps10 8 rfl (Nat.le_of_ble_eq_true rfl) ?_
    refine c_seq ?_
    -- region 0
    refine c_region ?_
    refine x_assign (.bool _) rfl ?_
    refine x_nil ?_
    refine then_n ?_
    refine c_seq ?_
    -- region 1
    refine c_region ?_
    refine x_move (.pointer _) rfl ?_
    refine x_move (.int _ _) rfl ?_
    refine x_call Try.f25 Try.func25 rfl rfl _ rfl ?_
    refine (fsound_yes at' hs hl hb hsnd).mono ?_
    clear hs; rintro e w ⟨g, o, c, z, a5, c5, rfl, hlz, hz, hs⟩
    refine ⟨_, rfl, fun h => (by first | (cases h; done) | (first | exact hs.cells2 rfl rfl | exact (hs.pull 1).cells2 rfl rfl | exact (hs.pull 2).cells2 rfl rfl | exact (hs.pull 3).cells2 rfl rfl | exact (hs.pull 4).cells2 rfl rfl | exact (hs.pull 5).cells2 rfl rfl | exact (hs.pull 6).cells2 rfl rfl | exact (hs.pull 7).cells2 rfl rfl | exact (hs.pull 8).cells2 rfl rfl | exact hs.cell rfl | exact (hs.pull 1).cell rfl | exact (hs.pull 2).cell rfl | exact (hs.pull 3).cell rfl | exact (hs.pull 4).cell rfl | exact (hs.pull 5).cell rfl | exact (hs.pull 6).cell rfl | exact (hs.pull 7).cell rfl | exact (hs.pull 8).cell rfl | assumption | exact hs.cellsOf | exact (hs.pull 1).cellsOf | exact (hs.pull 2).cellsOf | exact (hs.pull 3).cellsOf | exact (hs.pull 4).cellsOf | exact (hs.pull 5).cellsOf | exact (hs.pull 6).cellsOf | exact (hs.pull 7).cellsOf | exact (hs.pull 8).cellsOf) | (and_intros <;> first | exact hs.cells2 rfl rfl | exact (hs.pull 1).cells2 rfl rfl | exact (hs.pull 2).cells2 rfl rfl | exact (hs.pull 3).cells2 rfl rfl | exact (hs.pull 4).cells2 rfl rfl | exact (hs.pull 5).cells2 rfl rfl | exact (hs.pull 6).cells2 rfl rfl | exact (hs.pull 7).cells2 rfl rfl | exact (hs.pull 8).cells2 rfl rfl | exact hs.cell rfl | exact (hs.pull 1).cell rfl | exact (hs.pull 2).cell rfl | exact (hs.pull 3).cell rfl | exact (hs.pull 4).cell rfl | exact (hs.pull 5).cell rfl | exact (hs.pull 6).cell rfl | exact (hs.pull 7).cell rfl | exact (hs.pull 8).cell rfl | assumption | exact hs.cellsOf | exact (hs.pull 1).cellsOf | exact (hs.pull 2).cellsOf | exact (hs.pull 3).cellsOf | exact (hs.pull 4).cellsOf | exact (hs.pull 5).cellsOf | exact (hs.pull 6).cellsOf | exact (hs.pull 7).cellsOf | exact (hs.pull 8).cellsOf)), ?_⟩
    refine x_assign (.pointer _) rfl ?_
    refine x_nil ?_
    refine then_n ?_
    refine c_seq ?_
    refine c_seq ?_
    -- region 2
    refine c_region ?_
    refine x_move (.pointer _) rfl ?_
    refine x_eqlNil Try.underlying60 _ rfl rfl ?_
    refine x_move (.bool _) rfl ?_
    refine x_want' rfl ?_
    refine x_move (.int _ _) rfl ?_
    refine x_want' rfl ?_
    refine x_convB cv_3_5 _ rfl ?_
    refine x_want' rfl ?_
    refine x_eqlF _ _ rfl rfl (by omega) ?_
    refine x_pickF (.bool _) rfl rfl ?_
    refine x_nil ?_
    refine then_n ?_
    refine c_false rfl ?_
    refine c_skip ?_
    refine then_n ?_
    refine c_seq ?_
    -- region 4 DRAWS
    have hll : l.length = z.length := by rw [hlz, List.length_map]
    rw [hll]
    have hkz : pk at' z.length < z.length := (List.getElem?_eq_some_iff.1 hz).1
    generalize pk at' z.length = k at *
    generalize thLook l at' = t at *
    obtain ⟨z1, z2⟩ := zs hz
    have hcB : w.cell? ⟨g, o + k * 4 + 2, none⟩ = some (.slice a5 t.b.length c5) := RS.cell (cells := tcell) (hs.pull 1).rd (fun _ => rfl) hz (q := 2) rfl
    have hs := (hs.pull 2).eachOut z1 z2
    obtain ⟨g5, o5, rfl⟩ := Sat.rowAddr (show Sat w0 w (Row 5 1 (.slice a5 t.b.length c5) t.b.length (bv t.b) :: _) from hs) hn1
    have hj := pk_lt' (x := wh) hn1
    obtain ⟨x, hx⟩ : ∃ x, t.b[pk wh t.b.length]? = some x := ⟨t.b[pk wh t.b.length], List.getElem?_eq_getElem hj⟩
    have hcX : w.cell? ⟨g5, o5 + pk wh t.b.length * 1, none⟩ = some (.int .u8 (x.toNat : Nat)) := by rw [Nat.mul_one]; exact Sat.rowCell (show Sat w0 w (Row 5 1 _ t.b.length (bv t.b) :: _) from hs) (bv_get hx)
    have hgx : t.b.getD (pk wh t.b.length) 0 = x := by rw [List.getD_eq_getElem?_getD, hx]; rfl
    rw [hgx]
    refine c_draw (fun w => w.cell? ⟨g, o + k * 4 + 2, none⟩ = some (.slice (some ⟨g5, o5, none⟩) t.b.length c5) ∧ w.cell? ⟨g5, o5 + pk wh t.b.length * 1, none⟩ = some (.int .u8 (x.toNat : Nat))) (fun i => !(Nat.beq i 17)) [(0, 2), (1, 2), (2, 2), (3, 1), (4, 2), (5, 2), (6, 2), (7, 2), (8, 1), (9, 2), (13, 2), (14, 2), (10, 0), (11, 2), (12, 1), (15, 2), (16, 2), (17, 0)] (by kernel_rfl) (by kernel_rfl) (by kernel_rfl) (by kernel_rfl) (⟨hcB, hcX⟩) ?_
    replace hs := hs.drew
    refine x_move (.pointer _) rfl ?_
    refine x_nilCheck _ rfl ?_
    first | refine x_field0 fa_59_1 _ rfl ?_ | refine x_field fa_59_1 _ _ rfl ?_
    refine h_load one_22 _ (.slice _ _ _) rfl (fun w hS => by first | exact hS.cell rfl | exact (hS.pull 1).cell rfl | exact (hS.pull 2).cell rfl | exact (hS.pull 3).cell rfl | exact (hS.pull 4).cell rfl | exact (hS.pull 5).cell rfl | exact (hS.pull 6).cell rfl | exact hS | exact hS.1 | exact hS.2 | exact hS.2.1 | exact hS.2.2 | exact hS.2.2.1 | exact hS.2.2.2 | exact hS.2.2.2.1 | exact hS.2.2.2.2) ?_
    refine x_move (.int _ _) rfl ?_
    refine x_move (.pointer _) rfl ?_
    refine x_nilCheck _ rfl ?_
    first | refine x_field0 fa_59_1 _ rfl ?_ | refine x_field fa_59_1 _ _ rfl ?_
    refine h_load one_22 _ (.slice _ _ _) rfl (fun w hS => by first | exact hS.cell rfl | exact (hS.pull 1).cell rfl | exact (hS.pull 2).cell rfl | exact (hS.pull 3).cell rfl | exact (hS.pull 4).cell rfl | exact (hS.pull 5).cell rfl | exact (hS.pull 6).cell rfl | exact hS | exact hS.1 | exact hS.2 | exact hS.2.1 | exact hS.2.2 | exact hS.2.2.1 | exact hS.2.2.2 | exact hS.2.2.2.1 | exact hS.2.2.2.2) ?_
    refine x_lenSl Try.underlying22 _ _ _ rfl ?_
    refine x_move (.int _ _) rfl ?_
    refine x_convB cv_3_5 _ rfl ?_
    refine x_call Try.f26 Try.func26 rfl rfl _ rfl ?_
    refine (restk_calls hs wh _ hn1 (by omega)).mono ?_
    clear hs; rintro e w ⟨rfl, hs⟩
    refine ⟨_, rfl, fun h => ⟨RS.cell (cells := tcell) (hs.pull 3).rd (fun _ => rfl) hz (q := 2) rfl, by rw [Nat.mul_one]; exact Sat.rowCell (show Sat w0 w (Row 5 1 _ t.b.length (bv t.b) :: _) from hs) (bv_get hx)⟩, ?_⟩
    refine x_indexAddr Try.underlying22 sz_5 _ _ _ _ _ rfl rfl (by omega) ?_
    refine h_load one_5 _ (.int _ _) rfl (fun w hS => by first | exact hS.cell rfl | exact (hS.pull 1).cell rfl | exact (hS.pull 2).cell rfl | exact (hS.pull 3).cell rfl | exact (hS.pull 4).cell rfl | exact (hS.pull 5).cell rfl | exact (hS.pull 6).cell rfl | exact hS | exact hS.1 | exact hS.2 | exact hS.2.1 | exact hS.2.2 | exact hS.2.2.1 | exact hS.2.2.2 | exact hS.2.2.2.1 | exact hS.2.2.2.2) ?_
    refine x_xor x.toNat (byt by').toNat rfl rfl rfl (UInt8.toNat_lt _) (UInt8.toNat_lt _) ?_
    refine x_indexAddr Try.underlying22 sz_5 _ _ _ _ _ rfl rfl (by omega) ?_
    refine x_storeRow (j := pk wh t.b.length * 1) (show Sat w0 w (Row 5 1 _ t.b.length (bv t.b) :: _) from hs) one_5 (.int .u8 ((x.toNat ^^^ (byt by').toNat : Nat) : Int)) rfl rfl rfl (by omega) ?_
    clear hs; intro w hs; refine ⟨fun h => (by cases h), ?_⟩
    rw [← UInt8.toNat_xor, bv_set, Nat.mul_one] at hs
    refine x_nil ?_
    refine then_n ?_
    refine c_seq ?_
    -- region 5
    refine c_region ?_
    refine x_move (.pointer _) rfl ?_
    refine x_nilCheck _ rfl ?_
    first | refine x_field0 fa_59_2 _ rfl ?_ | refine x_field fa_59_2 _ _ rfl ?_
    refine x_storeRow (j := k * 4 + 3) (hs.pull 3) one_4 (.bool true) rfl rfl rfl (by omega) ?_
    clear hs; intro w hs; refine ⟨fun h => (by cases h), ?_⟩
    rw [tset (y := (⟨t.to, t.b.set (pk wh t.b.length) (x ^^^ byt by'), true⟩, .slice (some ⟨g5, o5, none⟩) t.b.length c5)) hz (by decide) rfl] at hs
    refine x_nil ?_
    refine then_n ?_
    refine c_seq ?_
    -- region 6
    refine c_region ?_
    refine x_assign (.bool _) rfl ?_
    refine x_nil ?_
    refine then_n ?_
    refine c_ret ?_
    refine ⟨.inr rfl, ?_⟩
    rw [hlz]
    refine ⟨rfl, fobj_set (v := .slice (some ⟨g, o, none⟩) z.length c) (u := .slice (some ⟨g5, o5, none⟩) t.b.length c5) hkz ?_⟩
    have hs := hs.perm [3, 0, 1, 2]
    have e : (t.b.set (pk wh t.b.length) (x ^^^ byt by')).length = t.b.length := List.length_set
    unfold BR
    dsimp only
    rw [e]
    exact hs
set_option maxHeartbeats 2000000 in
theorem fcut_calls {w0 w : World} {L : List HP} {f : Nat} {l : List Thg} (at' n : Int) (hs : Sat w0 w (FP f l :: L)) (hl : l.length ≤ 1000000) (hb : ∀ t ∈ l, t.b.length ≤ 1000000) :
    Calls Try.prog 9 #[.pointer (some ⟨f, 0, none⟩), .int .i64 at', .int .i64 n] w fun e w' => e = .returned (.bool (thCut l at' n).1) ∧ Sat w0 w' (FP f (thCut l at' n).2 :: L) := by
  by_cases hn : thSnd l at'
  rotate_left
  · unfold thCut
    rw [if_neg hn]
    exact fcut_no at' n hs hl hb hn
  have hsnd := hn
  obtain ⟨hn0, hn1, hn2⟩ := hn
  unfold thCut
  rw [if_pos hsnd]
  have hbt : (thLook l at').b.length ≤ 1000000 := by
    unfold thLook
    by_cases h : pk at' l.length < l.length
    · rw [List.getD_eq_getElem?_getD, List.getElem?_eq_getElem h]
      exact hb _ (List.getElem_mem h)
    · rw [List.getD_eq_getElem?_getD, List.getElem?_eq_none (by omega)]
      exact Nat.zero_le _
  refine enter Try.func9 rfl Try.ntmps9 6 rfl (Nat.le_of_ble_eq_true rfl) ?_
  refine c_seq ?_
  -- region 0
  refine c_region ?_
  refine x_assign (.bool _) rfl ?_
  refine x_nil ?_
  refine then_n ?_
  refine c_seq ?_
  -- region 1
  refine c_region ?_
  refine x_move (.pointer _) rfl ?_
  refine x_move (.int _ _) rfl ?_
  refine x_call Try.f25 Try.func25 rfl rfl _ rfl ?_
  refine (fsound_yes at' hs hl hb hsnd).mono ?_
  clear hs; rintro e w ⟨g, o, c, z, a5, c5, rfl, hlz, hz, hs⟩
  refine ⟨_, rfl, fun h => (by first | (cases h; done) | (first | exact hs.cells2 rfl rfl | exact (hs.pull 1).cells2 rfl rfl | exact (hs.pull 2).cells2 rfl rfl | exact (hs.pull 3).cells2 rfl rfl | exact (hs.pull 4).cells2 rfl rfl | exact (hs.pull 5).cells2 rfl rfl | exact (hs.pull 6).cells2 rfl rfl | exact (hs.pull 7).cells2 rfl rfl | exact (hs.pull 8).cells2 rfl rfl | exact hs.cell rfl | exact (hs.pull 1).cell rfl | exact (hs.pull 2).cell rfl | exact (hs.pull 3).cell rfl | exact (hs.pull 4).cell rfl | exact (hs.pull 5).cell rfl | exact (hs.pull 6).cell rfl | exact (hs.pull 7).cell rfl | exact (hs.pull 8).cell rfl | assumption | exact hs.cellsOf | exact (hs.pull 1).cellsOf | exact (hs.pull 2).cellsOf | exact (hs.pull 3).cellsOf | exact (hs.pull 4).cellsOf | exact (hs.pull 5).cellsOf | exact (hs.pull 6).cellsOf | exact (hs.pull 7).cellsOf | exact (hs.pull 8).cellsOf) | (and_intros <;> first | exact hs.cells2 rfl rfl | exact (hs.pull 1).cells2 rfl rfl | exact (hs.pull 2).cells2 rfl rfl | exact (hs.pull 3).cells2 rfl rfl | exact (hs.pull 4).cells2 rfl rfl | exact (hs.pull 5).cells2 rfl rfl | exact (hs.pull 6).cells2 rfl rfl | exact (hs.pull 7).cells2 rfl rfl | exact (hs.pull 8).cells2 rfl rfl | exact hs.cell rfl | exact (hs.pull 1).cell rfl | exact (hs.pull 2).cell rfl | exact (hs.pull 3).cell rfl | exact (hs.pull 4).cell rfl | exact (hs.pull 5).cell rfl | exact (hs.pull 6).cell rfl | exact (hs.pull 7).cell rfl | exact (hs.pull 8).cell rfl | assumption | exact hs.cellsOf | exact (hs.pull 1).cellsOf | exact (hs.pull 2).cellsOf | exact (hs.pull 3).cellsOf | exact (hs.pull 4).cellsOf | exact (hs.pull 5).cellsOf | exact (hs.pull 6).cellsOf | exact (hs.pull 7).cellsOf | exact (hs.pull 8).cellsOf)), ?_⟩
  refine x_assign (.pointer _) rfl ?_
  refine x_nil ?_
  refine then_n ?_
  refine c_seq ?_
  refine c_seq ?_
  -- region 2
  refine c_region ?_
  refine x_move (.pointer _) rfl ?_
  refine x_eqlNil Try.underlying60 _ rfl rfl ?_
  refine x_nil ?_
  refine then_n ?_
  refine c_false rfl ?_
  refine c_skip ?_
  refine then_n ?_
  refine c_seq ?_
  -- region 4 DRAWS
  have hll : l.length = z.length := by rw [hlz, List.length_map]
  rw [hll]
  have hkz : pk at' z.length < z.length := (List.getElem?_eq_some_iff.1 hz).1
  generalize pk at' z.length = k at *
  generalize thLook l at' = t at *
  obtain ⟨z1, z2⟩ := zs hz
  have hcB : w.cell? ⟨g, o + k * 4 + 2, none⟩ = some (.slice a5 t.b.length c5) := RS.cell (cells := tcell) (hs.pull 1).rd (fun _ => rfl) hz (q := 2) rfl
  have hs := (hs.pull 2).eachOut z1 z2
  have hj := pk_lt' (x := n) hn1
  have hc5 : t.b.length ≤ c5 := by obtain ⟨_, _, _, e, h', _⟩ := hs.br; cases e; exact h'
  refine c_draw (fun w => w.cell? ⟨g, o + k * 4 + 2, none⟩ = some (.slice a5 t.b.length c5)) (fun i => !(Nat.beq i 22)) [(0, 2), (1, 2), (2, 2), (3, 2), (4, 1), (5, 2), (6, 2), (7, 2), (8, 1), (9, 2), (10, 2), (11, 2), (12, 2), (13, 2), (14, 2), (15, 1), (16, 2), (17, 0), (18, 2), (19, 2), (20, 2), (21, 2), (22, 0)] (by kernel_rfl) (by kernel_rfl) (by kernel_rfl) (by kernel_rfl) (hcB) ?_
  replace hs := hs.drew
  refine x_move (.pointer _) rfl ?_
  refine x_move (.pointer _) rfl ?_
  refine x_nilCheck _ rfl ?_
  first | refine x_field0 fa_59_1 _ rfl ?_ | refine x_field fa_59_1 _ _ rfl ?_
  refine h_load one_22 _ (.slice _ _ _) rfl (fun w hS => by first | exact hS.cell rfl | exact (hS.pull 1).cell rfl | exact (hS.pull 2).cell rfl | exact (hS.pull 3).cell rfl | exact (hS.pull 4).cell rfl | exact (hS.pull 5).cell rfl | exact (hS.pull 6).cell rfl | exact hS | exact hS.1 | exact hS.2 | exact hS.2.1 | exact hS.2.2 | exact hS.2.2.1 | exact hS.2.2.2 | exact hS.2.2.2.1 | exact hS.2.2.2.2) ?_
  refine x_move (.pointer _) rfl ?_
  refine x_nilCheck _ rfl ?_
  first | refine x_field0 fa_59_1 _ rfl ?_ | refine x_field fa_59_1 _ _ rfl ?_
  refine h_load one_22 _ (.slice _ _ _) rfl (fun w hS => by first | exact hS.cell rfl | exact (hS.pull 1).cell rfl | exact (hS.pull 2).cell rfl | exact (hS.pull 3).cell rfl | exact (hS.pull 4).cell rfl | exact (hS.pull 5).cell rfl | exact (hS.pull 6).cell rfl | exact hS | exact hS.1 | exact hS.2 | exact hS.2.1 | exact hS.2.2 | exact hS.2.2.1 | exact hS.2.2.2 | exact hS.2.2.2.1 | exact hS.2.2.2.2) ?_
  refine x_lenSl Try.underlying22 _ _ _ rfl ?_
  refine x_subN _ 1 rfl rfl (by omega) (by simp only [X.hi]; omega) ?_
  refine x_move (.int _ _) rfl ?_
  refine x_move (.pointer _) rfl ?_
  refine x_nilCheck _ rfl ?_
  first | refine x_field0 fa_59_1 _ rfl ?_ | refine x_field fa_59_1 _ _ rfl ?_
  refine h_load one_22 _ (.slice _ _ _) rfl (fun w hS => by first | exact hS.cell rfl | exact (hS.pull 1).cell rfl | exact (hS.pull 2).cell rfl | exact (hS.pull 3).cell rfl | exact (hS.pull 4).cell rfl | exact (hS.pull 5).cell rfl | exact (hS.pull 6).cell rfl | exact hS | exact hS.1 | exact hS.2 | exact hS.2.1 | exact hS.2.2 | exact hS.2.2.1 | exact hS.2.2.2 | exact hS.2.2.2.1 | exact hS.2.2.2.2) ?_
  refine x_lenSl Try.underlying22 _ _ _ rfl ?_
  refine x_call Try.f26 Try.func26 rfl rfl _ rfl ?_
  refine (restk_calls hs n _ hn1 (by omega)).mono ?_
  clear hs; rintro e w ⟨rfl, hs⟩
  refine ⟨_, rfl, fun h => (RS.cell (cells := tcell) (hs.pull 3).rd (fun _ => rfl) hz (q := 2) rfl), ?_⟩
  refine x_subN _ _ rfl rfl (by omega) (by simp only [X.hi]; omega) ?_
  refine x_slice Try.underlying22 sz_5 (lo := none) (hi := some _) a5 t.b.length c5 0 (t.b.length - 1 - pk n t.b.length) rfl (.inl ⟨rfl, rfl⟩) (.inr ⟨_, rfl⟩) (Nat.zero_le _) (by omega) ?_
  refine x_nilCheck _ rfl ?_
  first | refine x_field0 fa_59_1 _ rfl ?_ | refine x_field fa_59_1 _ _ rfl ?_
  refine x_storeRow (j := k * 4 + 2) (hs.pull 3) one_22 (slVal a5 t.b.length c5 0 (t.b.length - 1 - pk n t.b.length) 1) rfl rfl rfl (by omega) ?_
  clear hs; intro w hs; refine ⟨fun h => (by cases h), ?_⟩
  rw [tset (y := (t, slVal a5 t.b.length c5 0 (t.b.length - 1 - pk n t.b.length) 1)) hz (by decide) rfl] at hs
  refine x_nil ?_
  refine then_n ?_
  refine c_seq ?_
  -- region 5
  refine c_region ?_
  refine x_move (.pointer _) rfl ?_
  refine x_nilCheck _ rfl ?_
  first | refine x_field0 fa_59_2 _ rfl ?_ | refine x_field fa_59_2 _ _ rfl ?_
  refine x_storeRow (j := k * 4 + 3) hs one_4 (.bool true) rfl rfl rfl (by omega) ?_
  clear hs; intro w hs; refine ⟨fun h => (by cases h), ?_⟩
  rw [tset (y := (⟨t.to, t.b.take (t.b.length - 1 - pk n t.b.length), true⟩, slVal a5 t.b.length c5 0 (t.b.length - 1 - pk n t.b.length) 1)) (z := z.set k (t, slVal a5 t.b.length c5 0 (t.b.length - 1 - pk n t.b.length) 1)) (x := (t, slVal a5 t.b.length c5 0 (t.b.length - 1 - pk n t.b.length) 1)) (by rw [List.getElem?_set_self hkz]) (by decide) rfl, List.set_set] at hs
  refine x_nil ?_
  refine then_n ?_
  refine c_seq ?_
  -- region 6
  refine c_region ?_
  refine x_assign (.bool _) rfl ?_
  refine x_nil ?_
  refine then_n ?_
  refine c_ret ?_
  refine ⟨.inr rfl, ?_⟩
  rw [hlz]
  refine ⟨rfl, fobj_set (v := .slice (some ⟨g, o, none⟩) z.length c) (u := slVal a5 t.b.length c5 0 (t.b.length - 1 - pk n t.b.length) 1) hkz ?_⟩
  have hs := row_slice (i := 0) (j := (t.b.length - 1 - pk n t.b.length)) (show Sat w0 w (Row 5 1 (.slice a5 t.b.length c5) t.b.length (bv t.b) :: _) from hs.pull 1) (Nat.zero_le _) (by omega)
  rw [Nat.zero_mul, List.drop_zero, Nat.sub_zero, Nat.mul_one, bv_take] at hs
  have e : (t.b.take (t.b.length - 1 - pk n t.b.length)).length = (t.b.length - 1 - pk n t.b.length) := by rw [List.length_take]; omega
  unfold BR
  dsimp only
  rw [e]
  exact hs.perm [3, 1, 0, 2]
end Go.Proofs.Ytipleepbhcembaa.X
