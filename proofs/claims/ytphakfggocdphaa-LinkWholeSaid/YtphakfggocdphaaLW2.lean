/-
  LAYER 12: the law LinkWhole.
-/
import Derived.Test.YtphakfggocdphaaLW1
import Derived.Test.YtphakfggocdphaaLawL1
namespace Go.Proofs.Ytphakfggocdphaa.X
open Go Go.RowKit
set_option linter.unusedVariables false
set_option maxRecDepth 20000
structure Wire where
  Kind : Int
  At : Int
  Twice : Bool
  deriving DecidableEq
def Wire.cells (x : Wire) : List Value := [.int .i64 x.Kind, .int .i64 x.At, .bool x.Twice]
structure Wire.fine (x : Wire) (w : World) : Prop where
  Kind : -9223372036854775808 ≤ x.Kind ∧ x.Kind ≤ 9223372036854775807
  At : -9223372036854775808 ≤ x.At ∧ x.At ≤ 9223372036854775807
theorem Wire.cells_len (x : Wire) : x.cells.length = 3 := by first | rfl | (simp [Wire.cells])
theorem Wire.fine.below {x : Wire} {w w' : World} (h : x.fine w) (hb : Below w.heap.size w w') : x.fine w' := ⟨h.Kind, h.At⟩
set_option maxRecDepth 20000 in
theorem TR.Wire {H : Type} {enc : TypeId × Value → H} {w : World} {cs : List Value} (h : TR enc Try.prog w 52 cs) : ∃ x : Wire, cs = x.cells ∧ x.fine w := by
  obtain ⟨h1, h2⟩ := h.struct Try.underlying52
  rw [show Try.prog.cellsOf 52 = 3 from by kernel_rfl] at h1
  match cs, h1 with
  | [y0, y1, y2], _ =>
    have g0 := h2 0 _ rfl
    change TR enc Try.prog w 3 (([y0, y1, y2].drop 0).take (Try.prog.cellsOf 3)) at g0
    rw [show Try.prog.cellsOf 3 = 1 from by kernel_rfl] at g0
    change TR enc Try.prog w 3 [y0] at g0
    obtain ⟨x0, e0, hx0⟩ := TR.int1 Try.underlying3 rfl g0
    have g1 := h2 1 _ rfl
    change TR enc Try.prog w 3 (([y0, y1, y2].drop 1).take (Try.prog.cellsOf 3)) at g1
    rw [show Try.prog.cellsOf 3 = 1 from by kernel_rfl] at g1
    change TR enc Try.prog w 3 [y1] at g1
    obtain ⟨x1, e1, hx1⟩ := TR.int1 Try.underlying3 rfl g1
    have g2 := h2 2 _ rfl
    change TR enc Try.prog w 4 (([y0, y1, y2].drop 2).take (Try.prog.cellsOf 4)) at g2
    rw [show Try.prog.cellsOf 4 = 1 from by kernel_rfl] at g2
    change TR enc Try.prog w 4 [y2] at g2
    obtain ⟨x2, e2, hx2⟩ := TR.bool1 Try.underlying4 g2
    refine ⟨⟨x0, x1, x2⟩, ?_, ⟨hx0, hx1⟩⟩
    show [y0, y1, y2] = _
    rw [show [y0, y1, y2] = [y0] ++ [y1] ++ [y2] from rfl, e0, e1, e2]
    rfl
theorem same_true {w0 w : World} {L : List HP} {v1 v2 : Value} {l : List (List UInt8)} (hs : Sat w0 w L) (h1 : RBB w v1 l) (h2 : RBB w v2 l) (hlen1 : l.length ≤ 1000000000000) :
    Calls Try.prog 14 #[v1, v2] w fun e w' => e = .returned (.bool true) ∧ Sat w0 w' L := by
  refine (same_calls hs h1 h2 hlen1).mono fun e w ⟨h, hs, _⟩ => ?_
  rw [decide_eq_true rfl] at h
  exact ⟨h, hs⟩
theorem icells_one' (qs : List Nat) (us : List Value) (h : us.all (fun u => u.oneCell') = true) : ∀ u ∈ icells qs us, u.oneCell' = true := icells_one qs us fun u hu => List.all_eq_true.1 h u hu
theorem all_snoc {α : Type} {T : List α} {P : α → Prop} {i : Nat} {b : α} (hbi : T[i]? = some b) (h : ∀ j l, j < i → T[j]? = some l → P l) (hb : P b) : ∀ j l, j < i + 1 → T[j]? = some l → P l := fun j l hj hl => by
  by_cases hji : j < i
  · exact h j l hji hl
  · obtain rfl : j = i := by omega
    rw [hbi] at hl
    cases hl
    exact hb
/-- an item of the way, read -/
theorem way_get {T : List (List UInt8)} {w0 w : World} {l : List Item} {us pool : List Value} {pbs : List (List UInt8)} {a : Option Addr} {c k : Nat} {p : Item} {L : List HP} (hw : WayI T l us pool pbs) (hs : Sat w0 w (Row 56 2 (.slice a l.length c) l.length (icells (l.map (·.1)) us) :: EachB pool pbs :: L)) (hp : l[k]? = some p) :
    ∃ g o a' c', a = some ⟨g, o, none⟩ ∧ w.cell? ⟨g, o + k * 2 + 0, none⟩ = some (.int .u64 (p.1 : Nat)) ∧ w.cell? ⟨g, o + k * 2 + 1, none⟩ = some (.slice a' p.2.length c') ∧ ∀ w' L', Sat w0 w' (EachB pool pbs :: L') → RB w' (.slice a' p.2.length c') p.2 := by
  have hlt : k < l.length := (List.getElem?_eq_some_iff.1 hp).1
  have hl := hw.len
  obtain ⟨g, o, rfl⟩ := hs.rowAddr (by omega)
  obtain ⟨u, hu⟩ : ∃ u, us[k]? = some u := ⟨us[k]'(by omega), List.getElem?_eq_getElem _⟩
  obtain ⟨q, h1, h2⟩ := hw.read k u p hu hp
  obtain ⟨a', c', rfl⟩ := (hs.tail.eachRB h1 h2).val
  obtain ⟨g1, g2⟩ := icells_get (l.map (·.1)) us k p.1 _ (by rw [List.getElem?_map, hp]; rfl) hu
  exact ⟨g, o, a', c', rfl, hs.rowCell g1, hs.rowCell g2, fun w' L' h => h.eachRB h1 h2⟩
/-- one of the way is taken out: what the new row is -/
theorem way_cut {l : List Item} {us : List Value} (hul : us.length = l.length) {k : Nat} (hk : k < l.length) :
    ((icells (l.map (·.1)) us).drop (0 * 2)).take ((k - 0) * 2) ++ ((icells (l.map (·.1)) us).drop ((k + 1) * 2)).take ((l.length - (k + 1)) * 2) = icells ((l.take k ++ l.drop (k + 1)).map (·.1)) (us.take k ++ us.drop (k + 1)) := by
  rw [Nat.zero_mul, List.drop_zero, Nat.sub_zero, icells_take, icells_drop _ _ _ (by rw [List.length_map, hul]), List.take_of_length_le (l := icells ((l.map (·.1)).drop (k + 1)) (us.drop (k + 1))) (by rw [icells_len _ _ (by simp [hul])]; simp), List.map_append, icells_append _ _ _ _ (by simp [hul]), List.map_take, List.map_drop]
theorem way_one {T : List (List UInt8)} {w0 w : World} {l : List Item} {us pool : List Value} {pbs : List (List UInt8)} {L : List HP} (hw : WayI T l us pool pbs) (hs : Sat w0 w (EachB pool pbs :: L)) : ∀ u ∈ icells (l.map (·.1)) us, u.oneCell' = true :=
  icells_one _ _ fun u hu => by
    obtain ⟨j, hj, rfl⟩ := List.mem_iff_getElem.1 hu
    have hl := hw.len
    obtain ⟨q, h1, h2⟩ := hw.read j _ (l[j]'(by omega)) (List.getElem?_eq_getElem hj) (List.getElem?_eq_getElem (by omega))
    exact hs.eachOne _ (List.mem_of_getElem? h1)
set_option maxHeartbeats 16000000 in
theorem walk_LinkWhole {H : Type} {enc : TypeId × Value → H} {w0 : World} {a0 a1 : Option Addr} {l0 c0 l1 c1 : Nat} (h0 : TR enc Try.prog w0 35 [.slice a0 l0 c0]) (h1 : TR enc Try.prog w0 43 [.slice a1 l1 c1]) :
    Calls Try.prog 6 #[.slice a0 l0 c0, .slice a1 l1 c1] w0 fun e w' => e = .returned (.bool true) ∧ Below w0.heap.size w0 w' := by
  obtain ⟨v, T, hv, hrT, hlT, hxT⟩ := h0.bytess Try.underlying35 Try.underlying30 Try.underlying5 (by kernel_rfl) (by kernel_rfl)
  obtain rfl : v = .slice a0 l0 c0 := by simpa using hv.symm
  have hl0 : l0 = T.length := by
    obtain ⟨_, _, h⟩ := hrT.val
    cases h
    rfl
  subst hl0
  obtain ⟨ws, rfl, hrW, hlW, hfW⟩ := TR.arg (k := 3) Try.underlying43 (by kernel_rfl) (by decide) (fun r hr => TR.Wire hr) h1
  refine law_of fun w hs => ?_
  have hinT : ∀ w' L', Sat w0 w' (Init w0 :: L') → RBB w' (.slice a0 T.length c0) T := fun w' L' h => hrT.below h.init
  have hinW : ∀ w' L', Sat w0 w' (Init w0 :: L') → RS w' 3 Wire.cells (.slice a1 ws.length c1) ws := fun w' L' h => hrW.below h.init
  clear h0 h1 hv
  unfold maxLen at hlT hxT
  refine enter Try.func6 rfl Try.ntmps6 4 rfl (Nat.le_of_ble_eq_true rfl) ?_
  refine c_seq ?_
  -- region 0
  refine c_region ?_
  refine x_assign (.bool _) rfl ?_
  refine x_nil ?_
  refine then_n ?_
  refine c_seq ?_
  refine c_seq ?_
  -- region 1
  refine c_region ?_
  refine x_move (.slice _ _ _) rfl ?_
  refine x_lenSl Try.underlying35 _ _ _ rfl ?_
  refine x_gtr _ _ rfl rfl ?_
  refine x_nil ?_
  refine then_n ?_
  refine c_test _ rfl (fun hb => ?_) (fun hb => ?_)   -- cond t19
  · skip
    refine c_seq ?_
    -- region 2
    refine c_region ?_
    refine x_call Try.f13 Try.func13 rfl rfl _ rfl ?_
    refine (awake12_calls hs).mono ?_
    clear hs; rintro e w ⟨rfl, hs⟩
    refine ⟨_, rfl, fun h => (by cases h), ?_⟩
    refine x_assign (.bool _) rfl ?_
    refine x_nil ?_
    refine then_n ?_
    refine c_ret ?_
    refine then_r ?_
    refine ⟨.inr rfl, ?_⟩
    exact ⟨rfl, hs⟩
  · skip
    refine c_skip ?_
    refine then_n ?_
    refine c_seq ?_
    -- region 3
    refine c_region ?_
    refine x_call Try.f12 Try.func12 rfl rfl _ rfl ?_
    refine (lnew_calls hs).mono ?_
    clear hs; rintro e w ⟨la, rfl, hs⟩
    refine ⟨_, rfl, fun h => (by cases h), ?_⟩
    refine x_call Try.f12 Try.func12 rfl rfl _ rfl ?_
    refine (lnew_calls hs).mono ?_
    clear hs; rintro e w ⟨lb, rfl, hs⟩
    refine ⟨_, rfl, fun h => (by cases h), ?_⟩
    have hT60 : T.length ≤ 60 := by omega
    obtain ⟨S, M, hs⟩ := (hs.pull 1).lobj
    have hs := (hs.pull 2).tail.perm [1, 0, 2, 3]
    refine x_assign (.pointer _) rfl ?_
    refine x_assign (.pointer _) rfl ?_
    refine x_nil ?_
    refine then_n ?_
    refine c_seq ?_
    refine c_seq ?_
    -- region 4
    refine c_region ?_
    refine x_move (.pointer _) rfl ?_
    refine x_eqlNil Try.underlying23 _ rfl rfl ?_
    refine x_move (.bool _) rfl ?_
    refine x_want' rfl ?_
    refine x_move (.pointer _) rfl ?_
    refine x_want' rfl ?_
    refine x_eqlNil Try.underlying23 _ rfl rfl ?_
    refine x_pickF (.bool _) rfl rfl ?_
    refine x_nil ?_
    refine then_n ?_
    refine c_false rfl ?_
    refine c_skip ?_
    refine then_n ?_
    refine c_seq ?_
    refine c_seq ?_
    -- region 6
    refine c_region ?_
    refine x_assign (.int _ _) rfl ?_
    refine x_nil ?_
    refine then_n ?_
    refine c_block ?_
    refine c_loop (γ := Nat) (fun (i : Nat) => [(0, .slice a0 T.length c0), (1, .slice a1 ws.length c1), (5, .pointer (some ⟨la, 0, none⟩)), (6, .pointer (some ⟨lb, 0, none⟩)), (7, .int .i64 (i : Nat))]) (fun (i : Nat) w => i ≤ T.length ∧ (∀ j l, j < i → T[j]? = some l → l.length ≤ 50) ∧ Sat w0 w (SObj S (wp T i) :: Blk la (.cells #[.pointer (some ⟨S, 0, none⟩), .int .u64 (0 : Nat), .map (some M), .bool false] 49 (0, 0)) :: LObj lb LSt.new :: [Init w0])) (fun (i : Nat) => T.length - i) 0 ⟨rfl, rfl, rfl, rfl, rfl, trivial⟩ ⟨Nat.zero_le _, fun j l h => (by omega), hs⟩ ?_
    clear hs
    rintro i ρ w ⟨hil, hle, hs⟩
    change CW Try.prog 254 _ _ (sets 254 [(0, .slice a0 T.length c0), (1, .slice a1 ws.length c1), (5, .pointer (some ⟨la, 0, none⟩)), (6, .pointer (some ⟨lb, 0, none⟩)), (7, .int .i64 (i : Nat))] ρ) w
    by_cases h2 : i < T.length
    · skip
      refine c_seq ?_
      refine c_seq ?_
      -- region 7
      refine c_region ?_
      refine x_move (.int _ _) rfl ?_
      refine x_move (.slice _ _ _) rfl ?_
      refine x_lenSl Try.underlying35 _ _ _ rfl ?_
      refine x_lssT _ _ rfl rfl (by omega) ?_
      refine x_nil ?_
      refine then_n ?_
      obtain ⟨b, hbi⟩ : ∃ b, T[i]? = some b := ⟨T[i]'h2, List.getElem?_eq_getElem _⟩
      obtain ⟨g, o, a2, c2, rfl, hcell, hrb⟩ := (hinT _ _ (hs.pull 3)).get hbi
      by_cases h5 : 50 < b.length
      · skip
        refine c_true rfl ?_
        refine c_skip ?_
        refine then_n ?_
        refine c_seq ?_
        refine c_block ?_
        refine c_seq ?_
        refine c_seq ?_
        -- region 9
        refine c_region ?_
        refine x_move (.slice _ _ _) rfl ?_
        refine x_move (.int _ _) rfl ?_
        refine x_indexAddr Try.underlying35 sz_30 _ _ _ _ _ rfl rfl (by omega) ?_
        refine x_load one_30 _ (.slice _ _ _) rfl (by first | exact hs.cell rfl | exact (hs.pull 1).cell rfl | exact (hs.pull 2).cell rfl | exact (hs.pull 3).cell rfl | assumption | exact (hs.pull 4).cell rfl | exact (hs.pull 5).cell rfl | exact (hs.pull 6).cell rfl | exact (hs.pull 7).cell rfl) ?_
        refine x_lenSl Try.underlying30 _ _ _ rfl ?_
        refine x_gtrT _ _ rfl rfl (by omega) ?_
        refine x_nil ?_
        refine then_n ?_
        refine c_true rfl ?_
        refine c_seq ?_
        -- region 10
        refine c_region ?_
        refine x_call Try.f13 Try.func13 rfl rfl _ rfl ?_
        refine (awake12_calls hs).mono ?_
        clear hs; rintro e w ⟨rfl, hs⟩
        refine ⟨_, rfl, fun h => (by cases h), ?_⟩
        refine x_assign (.bool _) rfl ?_
        refine x_nil ?_
        refine then_n ?_
        refine c_ret ?_
        refine then_r ?_
        refine inb_r ?_
        refine then_r ?_
        refine then_r ?_
        refine inb_r ?_
        refine then_r ?_
        refine ⟨.inr rfl, ?_⟩
        exact ⟨rfl, hs.tail.tail.tail⟩
      · skip
        refine c_true rfl ?_
        refine c_skip ?_
        refine then_n ?_
        refine c_seq ?_
        refine c_block ?_
        refine c_seq ?_
        refine c_seq ?_
        -- region 9
        refine c_region ?_
        refine x_move (.slice _ _ _) rfl ?_
        refine x_move (.int _ _) rfl ?_
        refine x_indexAddr Try.underlying35 sz_30 _ _ _ _ _ rfl rfl (by omega) ?_
        refine x_load one_30 _ (.slice _ _ _) rfl (by first | exact hs.cell rfl | exact (hs.pull 1).cell rfl | exact (hs.pull 2).cell rfl | exact (hs.pull 3).cell rfl | assumption | exact (hs.pull 4).cell rfl | exact (hs.pull 5).cell rfl | exact (hs.pull 6).cell rfl | exact (hs.pull 7).cell rfl) ?_
        refine x_lenSl Try.underlying30 _ _ _ rfl ?_
        refine x_gtrF _ _ rfl rfl (by omega) ?_
        refine x_nil ?_
        refine then_n ?_
        refine c_false rfl ?_
        refine c_skip ?_
        refine then_n ?_
        refine c_seq ?_
        -- region 11 DRAWS
        refine c_draw (fun w => w.cell? ⟨la, 0, none⟩ = some (.pointer (some ⟨S, 0, none⟩)) ∧ w.cell? ⟨g, o + i * 1, none⟩ = some (.slice a2 b.length c2)) (fun i => !(Nat.beq i 8)) [(0, 2), (1, 2), (2, 2), (3, 1), (4, 2), (5, 2), (6, 2), (7, 1), (8, 0), (9, 2)] (by kernel_rfl) (by kernel_rfl) (by kernel_rfl) (by kernel_rfl) (⟨(hs.pull 1).cell rfl, hcell⟩) ?_
        replace hs := hs.drew
        refine x_move (.pointer _) rfl ?_
        refine x_nilCheck _ rfl ?_
        first | refine x_field0 fa_49_0 _ rfl ?_ | refine x_field fa_49_0 _ _ rfl ?_
        refine h_load one_46 _ (.pointer _) rfl (fun w hS => by first | exact hS.cell rfl | exact (hS.pull 1).cell rfl | exact (hS.pull 2).cell rfl | exact (hS.pull 3).cell rfl | exact (hS.pull 4).cell rfl | exact (hS.pull 5).cell rfl | exact (hS.pull 6).cell rfl | exact hS | exact hS.1 | exact hS.2 | exact hS.2.1 | exact hS.2.2 | exact hS.2.2.1 | exact hS.2.2.2 | exact hS.2.2.2.1 | exact hS.2.2.2.2) ?_
        refine x_move (.slice _ _ _) rfl ?_
        refine x_move (.int _ _) rfl ?_
        refine x_indexAddr Try.underlying35 sz_30 _ _ _ _ _ rfl rfl (by omega) ?_
        refine h_load one_30 _ (.slice _ _ _) rfl (fun w hS => by first | exact hS.cell rfl | exact (hS.pull 1).cell rfl | exact (hS.pull 2).cell rfl | exact (hS.pull 3).cell rfl | exact (hS.pull 4).cell rfl | exact (hS.pull 5).cell rfl | exact (hS.pull 6).cell rfl | exact hS | exact hS.1 | exact hS.2 | exact hS.2.1 | exact hS.2.2 | exact hS.2.2.1 | exact hS.2.2.2 | exact hS.2.2.2.1 | exact hS.2.2.2.2) ?_
        refine x_call Try.f20 Try.func20 rfl rfl _ rfl ?_
        refine (sput_calls hs (fun w' e => RD.heapEq hrb e) (by simp [wp]; omega)).mono ?_
        clear hs; rintro e w ⟨rfl, hs⟩
        refine ⟨_, rfl, fun h => (by cases h), ?_⟩
        rw [wp_put hbi (by omega) (by omega)] at *
        refine x_neqF _ _ rfl rfl (by omega) ?_
        refine x_nil ?_
        refine then_n ?_
        refine c_false rfl ?_
        refine c_skip ?_
        refine inb_n ?_
        refine then_n ?_
        -- region 8
        refine c_region ?_
        refine x_move (.int _ _) rfl ?_
        refine x_add _ _ rfl rfl (by simp only [X.lo]; omega) (by simp only [X.hi]; omega) ?_
        refine x_assign (.int _ _) rfl ?_
        refine x_nil ?_
        refine then_n ?_
        refine ⟨i + 1, ⟨rfl, rfl, rfl, rfl, rfl, trivial⟩, ⟨by omega, all_snoc hbi hle (by omega), hs⟩, by first | omega | (dsimp only; omega)⟩
    · skip
      refine c_seq ?_
      refine c_seq ?_
      -- region 7
      refine c_region ?_
      refine x_move (.int _ _) rfl ?_
      refine x_move (.slice _ _ _) rfl ?_
      refine x_lenSl Try.underlying35 _ _ _ rfl ?_
      refine x_lssF _ _ rfl rfl (by omega) ?_
      refine x_nil ?_
      refine then_n ?_
      refine c_false rfl ?_
      refine c_exit ?_
      refine then_x ?_
      refine then_x ?_
      refine inb_e ?_
      refine then_n ?_
      refine c_seq ?_
      -- region 13
      obtain rfl : i = T.length := by omega
      have hle2 : ∀ l ∈ T, l.length ≤ 50 := fun l hl => by
        obtain ⟨j, hj, rfl⟩ := List.mem_iff_getElem.1 hl
        exact hle j _ hj (List.getElem?_eq_getElem hj)
      have hsw : SW T (wp T T.length) 0 := by
        refine ⟨⟨Nat.le_refl _, by simp [wp]; omega, by simp [wp]; omega, fun l hl => ?_, Nat.two_pow_pos _, (by decide : (0 : Nat) < 4294967296), (by decide : (0 : Nat) < 4294967296), Nat.le_refl _, Nat.le_refl _⟩, by simp [wp], by simp [wp]⟩
        have := hle2 l (List.mem_of_mem_take hl)
        omega
      have hb0 : (wp T T.length).base ≤ 0 + 1 := Nat.le_refl _
      generalize wp T T.length = s0 at *
      clear hle hil h2
      refine c_region ?_
      refine x_assign (.slice _ _ _) rfl ?_
      refine x_nil ?_
      refine then_n ?_
      refine c_seq ?_
      -- region 14
      refine c_region ?_
      refine x_assign (.int _ _) rfl ?_
      refine x_nil ?_
      refine then_n ?_
      refine c_seq ?_
      refine c_seq ?_
      -- region 15
      refine c_region ?_
      refine x_assign (.int _ _) rfl ?_
      refine x_nil ?_
      refine then_n ?_
      refine c_block ?_
      refine c_loop (γ := Nat × SSt × LSt × List Item × List Value × List Value × List (List UInt8) × Value) (fun (⟨i, s, st, l, us, pool, pbs, v⟩ : Nat × SSt × LSt × List Item × List Value × List Value × List (List UInt8) × Value) => [(0, .slice a0 T.length c0), (1, .slice a1 ws.length c1), (5, .pointer (some ⟨la, 0, none⟩)), (6, .pointer (some ⟨lb, 0, none⟩)), (8, v), (9, .int .i64 (st.upto : Nat)), (10, .int .i64 (i : Nat))]) (fun (⟨i, s, st, l, us, pool, pbs, v⟩ : Nat × SSt × LSt × List Item × List Value × List Value × List (List UInt8) × Value) w => i ≤ 300 ∧ SW T s (16 * i) ∧ s.base ≤ st.upto + 1 ∧ st.upto ≤ T.length ∧ st.inv ∧ good T st.held ∧ WayI T l us pool pbs ∧ l.length ≤ 16 * i ∧ Sat w0 w (SObj S s :: Blk la (.cells #[.pointer (some ⟨S, 0, none⟩), .int .u64 (0 : Nat), .map (some M), .bool false] 49 (0, 0)) :: LObj lb st :: Row 56 2 v l.length (icells (l.map (·.1)) us) :: EachB pool pbs :: [Init w0])) (fun (⟨i, s, st, l, us, pool, pbs, v⟩ : Nat × SSt × LSt × List Item × List Value × List Value × List (List UInt8) × Value) => 300 - i) (0, s0, LSt.new, [], [], [], [], .slice none 0 0) ⟨rfl, rfl, rfl, rfl, rfl, rfl, rfl, trivial⟩ ⟨Nat.zero_le _, hsw, hb0, Nat.zero_le _, LSt.new_inv, (fun p h => nomatch h), WayI.nil T, Nat.zero_le _, ((EachB.nil hs).rowNil).perm [2, 3, 4, 0, 1, 5]⟩ ?_
      clear hs
      rintro ⟨i, s, st, l, us, pool, pbs, v⟩ ρ w ⟨hi, hsw, hbu, huT, hinv, hgood, hway, hll, hs⟩
      change CW Try.prog 254 _ _ (sets 254 [(0, .slice a0 T.length c0), (1, .slice a1 ws.length c1), (5, .pointer (some ⟨la, 0, none⟩)), (6, .pointer (some ⟨lb, 0, none⟩)), (8, v), (9, .int .i64 (st.upto : Nat)), (10, .int .i64 (i : Nat))] ρ) w
      by_cases h1 : i < ws.length
      by_cases h2 : i < 300
      · skip
        refine c_seq ?_
        refine c_seq ?_
        -- region 16
        refine c_region ?_
        refine x_move (.int _ _) rfl ?_
        refine x_move (.slice _ _ _) rfl ?_
        refine x_lenSl Try.underlying43 _ _ _ rfl ?_
        refine x_lssT _ _ rfl rfl (by omega) ?_
        refine x_move (.bool _) rfl ?_
        refine x_want' rfl ?_
        refine x_move (.int _ _) rfl ?_
        refine x_want' rfl ?_
        refine x_lssT _ _ rfl rfl (by omega) ?_
        refine x_pickT (.bool _) rfl rfl ?_
        refine x_nil ?_
        refine then_n ?_
        refine c_true rfl ?_
        refine c_skip ?_
        refine then_n ?_
        refine c_seq ?_
        refine c_block ?_
        refine c_seq ?_
        -- region 18
        obtain ⟨a8, c8, rfl⟩ := (hs.pull 3).rd.val
        have hc8 : l.length ≤ c8 := by obtain ⟨_, _, _, e, h', _⟩ := (hs.pull 3).rd; cases e; exact h'
        have hcT : T.length ≤ c0 := by obtain ⟨vs, h, _⟩ := hinT _ _ (hs.pull 5); obtain ⟨_, _, _, e, h', _⟩ := h; cases e; exact h'
        have hone := way_one hway (hs.pull 4)
        have hsl := hsw.inv.len
        have ok := hsw.inv.ok (by decide) (show 16 * i ≤ 1000000 by omega)
        have hil := LSt.inv_len hinv
        obtain ⟨x, hx⟩ : ∃ x, ws[i]? = some x := ⟨ws[i]'h1, List.getElem?_eq_getElem _⟩
        have hR := hinW _ _ (hs.pull 5)
        obtain ⟨g, o, rfl⟩ := hR.addr (by omega)
        obtain ⟨Kind, At, Twice⟩ := x
        have hW : ∀ w' L', Sat w0 w' (Init w0 :: L') → w'.cell? ⟨g, o + i * 3 + 0, none⟩ = some (.int .i64 Kind) ∧ w'.cell? ⟨g, o + i * 3 + 1, none⟩ = some (.int .i64 At) ∧ w'.cell? ⟨g, o + i * 3 + 2, none⟩ = some (.bool Twice) := fun w' L' h =>
          ⟨(hinW w' L' h).cell (fun a => a.cells_len) hx (q := 0) rfl, (hinW w' L' h).cell (fun a => a.cells_len) hx (q := 1) rfl, (hinW w' L' h).cell (fun a => a.cells_len) hx (q := 2) rfl⟩
        have hcell := (hW _ _ (hs.pull 5)).2.1
        refine c_region ?_
        refine x_move (.slice _ _ _) rfl ?_
        refine x_move (.int _ _) rfl ?_
        refine x_indexAddr Try.underlying43 sz_52 _ _ _ _ _ rfl rfl (by omega) ?_
        first | refine x_field0 fa_52_1 _ rfl ?_ | refine x_field fa_52_1 _ _ rfl ?_
        refine x_load one_3 _ (.int _ _) rfl (by first | exact hs.cell rfl | exact (hs.pull 1).cell rfl | exact (hs.pull 2).cell rfl | exact (hs.pull 3).cell rfl | assumption | exact (hs.pull 4).cell rfl | exact (hs.pull 5).cell rfl | exact (hs.pull 6).cell rfl | exact (hs.pull 7).cell rfl) ?_
        refine x_move (.slice _ _ _) rfl ?_
        refine x_lenSl Try.underlying27 _ _ _ rfl ?_
        refine x_call Try.f21 Try.func21 rfl rfl _ rfl ?_
        refine (pick_calls hs _ _ (by omega)).mono ?_
        clear hs; rintro e w ⟨rfl, hs, -⟩
        refine ⟨_, rfl, fun h => (by cases h), ?_⟩
        clear hcell
        have hcell := (hW _ _ (hs.pull 5)).1
        have hk : 0 < l.length → pk At (l.length : Nat) < l.length := fun h => by have := pk_lt (x := At) (n := (l.length : Int)) (by omega); omega
        generalize pk At (l.length : Nat) = k at *
        refine x_assign (.int _ _) rfl ?_
        refine x_nil ?_
        refine then_n ?_
        refine c_seq ?_
        -- region 19
        refine c_region ?_
        refine x_move (.slice _ _ _) rfl ?_
        refine x_move (.int _ _) rfl ?_
        refine x_indexAddr Try.underlying43 sz_52 _ _ _ _ _ rfl rfl (by omega) ?_
        first | refine x_field0 fa_52_0 _ rfl ?_ | refine x_field fa_52_0 _ _ rfl ?_
        refine x_load one_3 _ (.int _ _) rfl (by first | exact hs.cell rfl | exact (hs.pull 1).cell rfl | exact (hs.pull 2).cell rfl | exact (hs.pull 3).cell rfl | assumption | exact (hs.pull 4).cell rfl | exact (hs.pull 5).cell rfl | exact (hs.pull 6).cell rfl | exact (hs.pull 7).cell rfl) ?_
        refine x_call Try.f21 Try.func21 rfl rfl _ rfl ?_
        refine (pick_calls hs _ _ (by decide)).mono ?_
        clear hs; rintro e w ⟨rfl, hs, -⟩
        refine ⟨_, rfl, fun h => (by cases h), ?_⟩
        clear hcell
        generalize pk Kind 7 = kd
        refine x_nil ?_
        refine then_n ?_
        refine c_block ?_
        refine c_seq ?_
        -- region 27
        refine c_region ?_
        refine x_eql _ _ rfl rfl ?_
        refine x_assign (.bool _) rfl ?_
        refine x_nil ?_
        refine then_n ?_
        refine c_test _ rfl (fun hb => ?_) (fun hb => ?_)   -- cond t130
        · skip
          -- region 28
          refine c_region ?_
          refine x_move (.slice _ _ _) rfl ?_
          refine x_move (.pointer _) rfl ?_
          refine x_nilCheck _ rfl ?_
          first | refine x_field0 fa_49_0 _ rfl ?_ | refine x_field fa_49_0 _ _ rfl ?_
          refine x_load one_46 _ (.pointer _) rfl (by first | exact hs.cell rfl | exact (hs.pull 1).cell rfl | exact (hs.pull 2).cell rfl | exact (hs.pull 3).cell rfl | assumption | exact (hs.pull 4).cell rfl | exact (hs.pull 5).cell rfl | exact (hs.pull 6).cell rfl | exact (hs.pull 7).cell rfl) ?_
          refine x_call Try.f22 Try.func22 rfl rfl _ rfl ?_
          refine (sdue_calls hs ok).mono ?_
          clear hs; rintro e w ⟨v1, rfl, hs⟩
          refine ⟨_, rfl, fun h => (by cases h), ?_⟩
          obtain ⟨us1, hs⟩ := hs.ir
          have hul := hs.tail.eachLen
          rw [List.length_map] at hul
          have hdl := due_len hsw.inv (by decide) (show 16 * i ≤ 1000000 by omega)
          refine x_append (hs.pull 5) Try.underlying27 ei_56 hs.rd (icells_one _ _ hs.tail.eachOne) (by unfold maxLen; omega) (by omega) rfl rfl ?_
          clear hs; intro v w hs; refine ⟨fun h => (by cases h), ?_⟩
          rw [← icells_append _ _ _ _ (by rw [List.length_map, hway.len]), ← List.map_append, ← List.length_append] at hs
          obtain ⟨a9, c9, rfl⟩ := hs.rd.val
          have hs := (((hs.pull 1).tail.perm [5, 1, 0, 2, 3, 4, 6]).eachApp).perm [2, 3, 4, 1, 0, 5]
          refine x_assign (.slice _ _ _) rfl ?_
          refine x_nil ?_
          refine inb_n ?_
          refine inb_n ?_
          refine then_n ?_
          -- region 17
          refine c_region ?_
          refine x_move (.int _ _) rfl ?_
          refine x_add _ _ rfl rfl (by simp only [X.lo]; omega) (by simp only [X.hi]; omega) ?_
          refine x_assign (.int _ _) rfl ?_
          refine x_nil ?_
          refine then_n ?_
          refine ⟨(i + 1, s.due.2, st, l ++ s.due.1, us ++ us1, pool ++ us1, pbs ++ s.due.1.map (·.2), _), ⟨rfl, rfl, rfl, rfl, rfl, rfl, rfl, trivial⟩, ⟨by omega, (hsw.due (by omega)).mono (by omega), hbu, huT, hinv, hgood, hway.app hul hsw.dues, by simp; omega, hs⟩, by first | omega | (dsimp only; omega)⟩
        · skip
          refine c_seq ?_
          -- region 29
          refine c_region ?_
          refine x_eql _ _ rfl rfl ?_
          refine x_assign (.bool _) rfl ?_
          refine x_nil ?_
          refine then_n ?_
          refine c_test _ rfl (fun hb => ?_) (fun hb => ?_)   -- cond t139
          · skip
            -- region 30
            refine c_region ?_
            refine x_move (.pointer _) rfl ?_
            refine x_nilCheck _ rfl ?_
            first | refine x_field0 fa_49_0 _ rfl ?_ | refine x_field fa_49_0 _ _ rfl ?_
            refine x_load one_46 _ (.pointer _) rfl (by first | exact hs.cell rfl | exact (hs.pull 1).cell rfl | exact (hs.pull 2).cell rfl | exact (hs.pull 3).cell rfl | assumption | exact (hs.pull 4).cell rfl | exact (hs.pull 5).cell rfl | exact (hs.pull 6).cell rfl | exact (hs.pull 7).cell rfl) ?_
            refine x_call Try.f23 Try.func23 rfl rfl _ rfl ?_
            refine (stick_calls hs).mono ?_
            clear hs; rintro e w ⟨rfl, hs⟩
            refine ⟨_, rfl, fun h => (by cases h), ?_⟩
            refine x_nil ?_
            refine inb_n ?_
            refine inb_n ?_
            refine then_n ?_
            -- region 17
            refine c_region ?_
            refine x_move (.int _ _) rfl ?_
            refine x_add _ _ rfl rfl (by simp only [X.lo]; omega) (by simp only [X.hi]; omega) ?_
            refine x_assign (.int _ _) rfl ?_
            refine x_nil ?_
            refine then_n ?_
            refine ⟨(i + 1, s.tick, st, l, us, pool, pbs, _), ⟨rfl, rfl, rfl, rfl, rfl, rfl, rfl, trivial⟩, ⟨by omega, hsw.tick.mono (by omega), hbu, huT, hinv, hgood, hway, by omega, hs⟩, by first | omega | (dsimp only; omega)⟩
          · skip
            refine c_seq ?_
            -- region 31
            refine c_region ?_
            refine x_eql _ _ rfl rfl ?_
            refine x_assign (.bool _) rfl ?_
            refine x_nil ?_
            refine then_n ?_
            refine c_test _ rfl (fun hb => ?_) (fun hb => ?_)   -- cond t146
            · skip
              -- region 32 DRAWS
              refine c_draw (fun w => w.cell? ⟨la, 0, none⟩ = some (.pointer (some ⟨S, 0, none⟩))) (fun i => !(Nat.beq i 6)) [(0, 2), (1, 2), (2, 2), (3, 1), (4, 2), (5, 0), (6, 0)] (by kernel_rfl) (by kernel_rfl) (by kernel_rfl) (by kernel_rfl) ((hs.pull 1).cell rfl) ?_
              replace hs := hs.drew
              refine x_move (.pointer _) rfl ?_
              refine x_nilCheck _ rfl ?_
              first | refine x_field0 fa_49_0 _ rfl ?_ | refine x_field fa_49_0 _ _ rfl ?_
              refine h_load one_46 _ (.pointer _) rfl (fun w hS => by first | exact hS.cell rfl | exact (hS.pull 1).cell rfl | exact (hS.pull 2).cell rfl | exact (hS.pull 3).cell rfl | exact (hS.pull 4).cell rfl | exact (hS.pull 5).cell rfl | exact (hS.pull 6).cell rfl | exact hS | exact hS.1 | exact hS.2 | exact hS.2.1 | exact hS.2.2 | exact hS.2.2.1 | exact hS.2.2.2 | exact hS.2.2.2.1 | exact hS.2.2.2.2) ?_
              refine x_move (.pointer _) rfl ?_
              refine x_call Try.f17 Try.func17 rfl rfl _ rfl ?_
              refine (lupto_calls (hs.pull 2)).mono ?_
              clear hs; rintro e w ⟨rfl, hs⟩
              have hs := hs.push 2
              refine ⟨_, rfl, fun h => (hs.pull 1).cell rfl, ?_⟩
              refine x_call Try.f24 Try.func24 rfl rfl _ rfl ?_
              refine (sack_calls st.upto hs ok (by omega)).mono ?_
              clear hs; rintro e w ⟨rfl, hs⟩
              refine ⟨_, rfl, fun h => (by cases h), ?_⟩
              refine x_nil ?_
              refine inb_n ?_
              refine inb_n ?_
              refine then_n ?_
              -- region 17
              refine c_region ?_
              refine x_move (.int _ _) rfl ?_
              refine x_add _ _ rfl rfl (by simp only [X.lo]; omega) (by simp only [X.hi]; omega) ?_
              refine x_assign (.int _ _) rfl ?_
              refine x_nil ?_
              refine then_n ?_
              have hack := hsw.ack hbu huT
              have hab := hack.2
              refine ⟨(i + 1, (s.ack st.upto).2, st, l, us, pool, pbs, _), ⟨rfl, rfl, rfl, rfl, rfl, rfl, rfl, trivial⟩, ⟨by omega, hack.1.mono (by omega), by omega, huT, hinv, hgood, hway, by omega, hs⟩, by first | omega | (dsimp only; omega)⟩
            · skip
              refine c_seq ?_
              -- region 33
              refine c_region ?_
              refine x_eql _ _ rfl rfl ?_
              refine x_assign (.bool _) rfl ?_
              refine x_nil ?_
              refine then_n ?_
              refine c_test _ rfl (fun hb => ?_) (fun hb => ?_)   -- cond t155
              · skip
                refine c_seq ?_
                -- region 34
                refine c_region ?_
                refine x_move (.slice _ _ _) rfl ?_
                refine x_lenSl Try.underlying27 _ _ _ rfl ?_
                refine x_gtr _ _ rfl rfl ?_
                refine x_nil ?_
                refine then_n ?_
                refine c_test _ rfl (fun hb => ?_) (fun hb => ?_)   -- cond t159
                · skip
                  -- region 35 DRAWS
                  refine c_draw (fun w => SameL hs w) (fun i => !(Nat.beq i 0 || Nat.beq i 4 || Nat.beq i 9)) [(1, 2), (2, 2), (3, 2), (5, 2), (6, 2), (7, 2), (8, 2), (0, 0), (4, 0), (9, 0), (10, 2)] (by kernel_rfl) (by kernel_rfl) (by kernel_rfl) (by kernel_rfl) (hs.drew) ?_
                  replace hs := hs.drew
                  refine x_move (.slice _ _ _) rfl ?_
                  refine x_move (.int _ _) rfl ?_
                  refine x_slice Try.underlying27 sz_56 (lo := none) (hi := some _) a8 l.length c8 0 k rfl (.inl ⟨rfl, rfl⟩) (.inr ⟨_, rfl⟩) (Nat.zero_le _) (by omega) ?_
                  refine x_move (.slice _ _ _) rfl ?_
                  refine x_move (.int _ _) rfl ?_
                  refine x_add _ _ rfl rfl (by simp only [X.lo]; omega) (by simp only [X.hi]; omega) ?_
                  refine x_slice Try.underlying27 sz_56 (lo := some _) (hi := none) a8 l.length c8 (k + 1) l.length rfl (.inr ⟨_, rfl⟩) (.inl ⟨rfl, rfl⟩) (by omega) hc8 ?_
                  refine x_buildSlice _ [] hs rfl (fun w => bs_27_0 w) ?_; clear hs; intro b160 w hs; refine ⟨fun h => (by cases h), ?_⟩
                  refine x_append (row_blk (size := 2) (len := 0) hs rfl (by decide)) Try.underlying27 ei_56 (rd_slice (hs.pull 4).rd (Nat.zero_le _) (by omega)) (fun u hu => hone u (List.mem_of_mem_drop (List.mem_of_mem_take hu))) (by unfold maxLen; omega) (by omega) rfl rfl ?_
                  clear hs; intro v w hs; refine ⟨fun h => (by cases h), ?_⟩
                  refine x_append hs Try.underlying27 ei_56 (rd_slice (hs.pull 4).rd (show k + 1 ≤ l.length by omega) (Nat.le_refl _)) (fun u hu => hone u (List.mem_of_mem_drop (List.mem_of_mem_take hu))) (by unfold maxLen; omega) (by omega) rfl rfl ?_
                  clear hs; intro v w hs; refine ⟨fun h => (by cases h), ?_⟩
                  rw [show (#[] : Array Value).toList ++ ((icells (l.map (·.1)) us).drop (0 * 2)).take ((k - 0) * 2) ++ ((icells (l.map (·.1)) us).drop ((k + 1) * 2)).take ((l.length - (k + 1)) * 2) = icells ((l.take k ++ l.drop (k + 1)).map (·.1)) (us.take k ++ us.drop (k + 1)) from way_cut hway.len (by omega)] at hs
                  rw [show 0 + (k - 0) + (l.length - (k + 1)) = (l.take k ++ l.drop (k + 1)).length from by simp; omega] at hs
                  obtain ⟨a9, c9, rfl⟩ := hs.rd.val
                  have hs := (hs.pull 4).tail.perm [1, 2, 3, 0, 4, 5]
                  have hway := hway.cut (k := k) (by omega)
                  have hll' : (l.take k ++ l.drop (k + 1)).length ≤ 16 * i := by simp; omega
                  refine x_assign (.slice _ _ _) rfl ?_
                  refine x_nil ?_
                  refine inb_n ?_
                  refine inb_n ?_
                  refine then_n ?_
                  -- region 17
                  refine c_region ?_
                  refine x_move (.int _ _) rfl ?_
                  refine x_add _ _ rfl rfl (by simp only [X.lo]; omega) (by simp only [X.hi]; omega) ?_
                  refine x_assign (.int _ _) rfl ?_
                  refine x_nil ?_
                  refine then_n ?_
                  refine ⟨(i + 1, s, st, l.take k ++ l.drop (k + 1), us.take k ++ us.drop (k + 1), pool, pbs, _), ⟨rfl, rfl, rfl, rfl, rfl, rfl, rfl, trivial⟩, ⟨by omega, hsw.mono (by omega), hbu, huT, hinv, hgood, hway, by omega, hs⟩, by first | omega | (dsimp only; omega)⟩
                · skip
                  refine c_skip ?_
                  refine inb_n ?_
                  refine inb_n ?_
                  refine then_n ?_
                  -- region 17
                  refine c_region ?_
                  refine x_move (.int _ _) rfl ?_
                  refine x_add _ _ rfl rfl (by simp only [X.lo]; omega) (by simp only [X.hi]; omega) ?_
                  refine x_assign (.int _ _) rfl ?_
                  refine x_nil ?_
                  refine then_n ?_
                  refine ⟨(i + 1, s, st, l, us, pool, pbs, _), ⟨rfl, rfl, rfl, rfl, rfl, rfl, rfl, trivial⟩, ⟨by omega, hsw.mono (by omega), hbu, huT, hinv, hgood, hway, by omega, hs⟩, by first | omega | (dsimp only; omega)⟩
              · skip
                refine c_seq ?_
                refine c_seq ?_
                -- region 20
                refine c_region ?_
                refine x_move (.slice _ _ _) rfl ?_
                refine x_lenSl Try.underlying27 _ _ _ rfl ?_
                refine x_eql _ _ rfl rfl ?_
                refine x_nil ?_
                refine then_n ?_
                refine c_test _ rfl (fun hb => ?_) (fun hb => ?_)   -- cond t78
                · skip
                  refine c_exit ?_
                  refine then_x ?_
                  refine inb_x (by decide) ?_
                  refine inb_e ?_
                  refine then_n ?_
                  -- region 17
                  refine c_region ?_
                  refine x_move (.int _ _) rfl ?_
                  refine x_add _ _ rfl rfl (by simp only [X.lo]; omega) (by simp only [X.hi]; omega) ?_
                  refine x_assign (.int _ _) rfl ?_
                  refine x_nil ?_
                  refine then_n ?_
                  refine ⟨(i + 1, s, st, l, us, pool, pbs, _), ⟨rfl, rfl, rfl, rfl, rfl, rfl, rfl, trivial⟩, ⟨by omega, hsw.mono (by omega), hbu, huT, hinv, hgood, hway, by omega, hs⟩, by first | omega | (dsimp only; omega)⟩
                · skip
                  refine c_skip ?_
                  refine then_n ?_
                  refine c_seq ?_
                  -- region 21 DRAWS
                  have hkl := hk (by omega)
                  obtain ⟨p, hp⟩ : ∃ p, l[k]? = some p := ⟨l[k]'hkl, List.getElem?_eq_getElem _⟩
                  obtain ⟨g2, o2, a2, c2, rfl, hcA, hcB, hrB⟩ := way_get hway (hs.perm [3, 4, 0, 1, 2, 5]) hp
                  have hpT := hway.ofT p (List.mem_of_getElem? hp)
                  have hpl := hle2 _ (List.mem_of_getElem? hpT.2)
                  have hpq : p.1 ≤ 60 := by have := (List.getElem?_eq_some_iff.1 hpT.2).1; omega
                  obtain ⟨t1, t2, t3, t4, t5, t6, t7⟩ := take_good hinv hgood hpT huT
                  refine c_draw (fun w => w.cell? ⟨g2, o2 + k * 2 + 0, none⟩ = some (.int .u64 (p.1 : Nat)) ∧ w.cell? ⟨g2, o2 + k * 2 + 1, none⟩ = some (.slice a2 p.2.length c2)) (fun i => !(Nat.beq i 11)) [(0, 2), (1, 2), (2, 2), (3, 2), (4, 2), (5, 1), (6, 2), (7, 2), (8, 2), (9, 2), (10, 1), (11, 0), (12, 2)] (by kernel_rfl) (by kernel_rfl) (by kernel_rfl) (by kernel_rfl) (⟨hcA, hcB⟩) ?_
                  replace hs := hs.drew
                  refine x_move (.pointer _) rfl ?_
                  refine x_move (.slice _ _ _) rfl ?_
                  refine x_move (.int _ _) rfl ?_
                  refine x_indexAddr Try.underlying27 sz_56 _ _ _ _ _ rfl rfl (by omega) ?_
                  first | refine x_field0 fa_56_0 _ rfl ?_ | refine x_field fa_56_0 _ _ rfl ?_
                  refine h_load one_26 _ (.int _ _) rfl (fun w hS => by first | exact hS.cell rfl | exact (hS.pull 1).cell rfl | exact (hS.pull 2).cell rfl | exact (hS.pull 3).cell rfl | exact (hS.pull 4).cell rfl | exact (hS.pull 5).cell rfl | exact (hS.pull 6).cell rfl | exact hS | exact hS.1 | exact hS.2 | exact hS.2.1 | exact hS.2.2 | exact hS.2.2.1 | exact hS.2.2.2 | exact hS.2.2.2.1 | exact hS.2.2.2.2) ?_
                  refine x_move (.slice _ _ _) rfl ?_
                  refine x_move (.int _ _) rfl ?_
                  refine x_indexAddr Try.underlying27 sz_56 _ _ _ _ _ rfl rfl (by omega) ?_
                  first | refine x_field0 fa_56_1 _ rfl ?_ | refine x_field fa_56_1 _ _ rfl ?_
                  refine h_load one_30 _ (.slice _ _ _) rfl (fun w hS => by first | exact hS.cell rfl | exact (hS.pull 1).cell rfl | exact (hS.pull 2).cell rfl | exact (hS.pull 3).cell rfl | exact (hS.pull 4).cell rfl | exact (hS.pull 5).cell rfl | exact (hS.pull 6).cell rfl | exact hS | exact hS.1 | exact hS.2 | exact hS.2.1 | exact hS.2.2 | exact hS.2.2.1 | exact hS.2.2.2 | exact hS.2.2.2.1 | exact hS.2.2.2.2) ?_
                  refine x_call Try.f15 Try.func15 rfl rfl _ rfl ?_
                  refine ((ltake_calls p.1 p.2 (hs.perm [2, 4, 0, 1, 3, 5]) (fun w' L' h => hrB w' L' h) (by omega) (by omega) (by omega) (by omega))).mono ?_
                  clear hs; rintro e w ⟨r1, rfl, hs⟩
                  refine ⟨_, rfl, fun h => (by cases h), ?_⟩
                  have hs := hs.perm [0, 3, 4, 1, 5, 2, 6]
                  generalize st.take p.1 p.2 = Q at *
                  obtain ⟨out, st'⟩ := Q
                  dsimp only at t1 t2 t3 t4 t5 t6 t7 hs
                  obtain ⟨ar, cr, rfl⟩ := hs.rbb.val
                  refine x_assign (.slice _ _ _) rfl ?_
                  refine x_nil ?_
                  refine then_n ?_
                  refine c_seq ?_
                  refine c_seq ?_
                  -- region 22
                  have h2 := (hinT _ _ (hs.pull 6)).slice (i := st.upto) (j := st.upto + out.length) (by omega) (by omega)
                  rw [Nat.add_sub_cancel_left, ← t4] at h2
                  refine c_region ?_
                  refine x_move (.int _ _) rfl ?_
                  refine x_move (.slice _ _ _) rfl ?_
                  refine x_lenSl Try.underlying35 _ _ _ rfl ?_
                  refine x_add _ _ rfl rfl (by simp only [X.lo]; omega) (by simp only [X.hi]; omega) ?_
                  refine x_move (.slice _ _ _) rfl ?_
                  refine x_lenSl Try.underlying35 _ _ _ rfl ?_
                  refine x_gtrF _ _ rfl rfl (by omega) ?_
                  refine x_move (.bool _) rfl ?_
                  refine x_want' rfl ?_
                  refine x_move (.slice _ _ _) rfl ?_
                  refine x_want' rfl ?_
                  refine x_move (.slice _ _ _) rfl ?_
                  refine x_want' rfl ?_
                  refine x_move (.int _ _) rfl ?_
                  refine x_want' rfl ?_
                  refine x_move (.int _ _) rfl ?_
                  refine x_want' rfl ?_
                  refine x_move (.slice _ _ _) rfl ?_
                  refine x_want' rfl ?_
                  refine x_lenSl Try.underlying35 _ _ _ rfl ?_
                  refine x_want' rfl ?_
                  refine x_add _ _ rfl rfl (by simp only [X.lo]; omega) (by simp only [X.hi]; omega) ?_
                  refine x_want' rfl ?_
                  refine x_slice Try.underlying35 sz_30 (lo := some _) (hi := some _) a0 T.length c0 st.upto (st.upto + out.length) rfl (.inr ⟨_, rfl⟩) (.inr ⟨_, rfl⟩) (by omega) (by omega) ?_
                  refine x_want' rfl ?_
                  refine x_call Try.f14 Try.func14 rfl rfl _ rfl ?_
                  refine ((same_true hs hs.rbb h2 (by omega))).mono ?_
                  clear hs; rintro e w ⟨rfl, hs⟩
                  refine ⟨_, rfl, fun h => (by cases h), ?_⟩
                  clear h2
                  refine x_want' rfl ?_
                  refine x_not _ rfl ?_
                  refine x_pickF (.bool _) rfl rfl ?_
                  refine x_nil ?_
                  refine then_n ?_
                  refine c_false rfl ?_
                  refine c_skip ?_
                  refine then_n ?_
                  refine c_seq ?_
                  -- region 24
                  refine c_region ?_
                  refine x_move (.int _ _) rfl ?_
                  refine x_move (.slice _ _ _) rfl ?_
                  refine x_lenSl Try.underlying35 _ _ _ rfl ?_
                  refine x_add _ _ rfl rfl (by simp only [X.lo]; omega) (by simp only [X.hi]; omega) ?_
                  refine x_assign (.int _ _) rfl ?_
                  refine x_nil ?_
                  refine then_n ?_
                  refine c_seq ?_
                  -- region 25
                  rw [show ((st.upto : Nat) : Int) + ((out.length : Nat) : Int) = ((st'.upto : Nat) : Int) from by omega]
                  have hs := hs.tail
                  have hcell := (hW _ _ (hs.pull 5)).2.2
                  refine c_region ?_
                  refine x_move (.slice _ _ _) rfl ?_
                  refine x_move (.int _ _) rfl ?_
                  refine x_indexAddr Try.underlying43 sz_52 _ _ _ _ _ rfl rfl (by omega) ?_
                  first | refine x_field0 fa_52_2 _ rfl ?_ | refine x_field fa_52_2 _ _ rfl ?_
                  refine x_load one_4 _ (.bool _) rfl (by first | exact hs.cell rfl | exact (hs.pull 1).cell rfl | exact (hs.pull 2).cell rfl | exact (hs.pull 3).cell rfl | assumption | exact (hs.pull 4).cell rfl | exact (hs.pull 5).cell rfl | exact (hs.pull 6).cell rfl | exact (hs.pull 7).cell rfl) ?_
                  refine x_not _ rfl ?_
                  refine x_nil ?_
                  refine then_n ?_
                  refine c_cond rfl (fun hb => ?_) (fun hb => ?_)   -- cond t119
                  · skip
                    -- region 26 DRAWS
                    clear hcell
                    generalize (some ⟨g2, o2, none⟩ : Option Addr) = a8 at *
                    refine c_draw (fun w => SameL hs w) (fun i => !(Nat.beq i 0 || Nat.beq i 4 || Nat.beq i 9)) [(1, 2), (2, 2), (3, 2), (5, 2), (6, 2), (7, 2), (8, 2), (0, 0), (4, 0), (9, 0), (10, 2)] (by kernel_rfl) (by kernel_rfl) (by kernel_rfl) (by kernel_rfl) (hs.drew) ?_
                    replace hs := hs.drew
                    refine x_move (.slice _ _ _) rfl ?_
                    refine x_move (.int _ _) rfl ?_
                    refine x_slice Try.underlying27 sz_56 (lo := none) (hi := some _) a8 l.length c8 0 k rfl (.inl ⟨rfl, rfl⟩) (.inr ⟨_, rfl⟩) (Nat.zero_le _) (by omega) ?_
                    refine x_move (.slice _ _ _) rfl ?_
                    refine x_move (.int _ _) rfl ?_
                    refine x_add _ _ rfl rfl (by simp only [X.lo]; omega) (by simp only [X.hi]; omega) ?_
                    refine x_slice Try.underlying27 sz_56 (lo := some _) (hi := none) a8 l.length c8 (k + 1) l.length rfl (.inr ⟨_, rfl⟩) (.inl ⟨rfl, rfl⟩) (by omega) hc8 ?_
                    refine x_buildSlice _ [] hs rfl (fun w => bs_27_0 w) ?_; clear hs; intro b120 w hs; refine ⟨fun h => (by cases h), ?_⟩
                    refine x_append (row_blk (size := 2) (len := 0) hs rfl (by decide)) Try.underlying27 ei_56 (rd_slice (hs.pull 4).rd (Nat.zero_le _) (by omega)) (fun u hu => hone u (List.mem_of_mem_drop (List.mem_of_mem_take hu))) (by unfold maxLen; omega) (by omega) rfl rfl ?_
                    clear hs; intro v w hs; refine ⟨fun h => (by cases h), ?_⟩
                    refine x_append hs Try.underlying27 ei_56 (rd_slice (hs.pull 4).rd (show k + 1 ≤ l.length by omega) (Nat.le_refl _)) (fun u hu => hone u (List.mem_of_mem_drop (List.mem_of_mem_take hu))) (by unfold maxLen; omega) (by omega) rfl rfl ?_
                    clear hs; intro v w hs; refine ⟨fun h => (by cases h), ?_⟩
                    rw [show (#[] : Array Value).toList ++ ((icells (l.map (·.1)) us).drop (0 * 2)).take ((k - 0) * 2) ++ ((icells (l.map (·.1)) us).drop ((k + 1) * 2)).take ((l.length - (k + 1)) * 2) = icells ((l.take k ++ l.drop (k + 1)).map (·.1)) (us.take k ++ us.drop (k + 1)) from way_cut hway.len (by omega)] at hs
                    rw [show 0 + (k - 0) + (l.length - (k + 1)) = (l.take k ++ l.drop (k + 1)).length from by simp; omega] at hs
                    obtain ⟨a9, c9, rfl⟩ := hs.rd.val
                    have hs := (hs.pull 4).tail.perm [1, 2, 3, 0, 4, 5]
                    have hway := hway.cut (k := k) (by omega)
                    have hll' : (l.take k ++ l.drop (k + 1)).length ≤ 16 * i := by simp; omega
                    refine x_assign (.slice _ _ _) rfl ?_
                    refine x_nil ?_
                    refine inb_n ?_
                    refine inb_n ?_
                    refine then_n ?_
                    -- region 17
                    refine c_region ?_
                    refine x_move (.int _ _) rfl ?_
                    refine x_add _ _ rfl rfl (by simp only [X.lo]; omega) (by simp only [X.hi]; omega) ?_
                    refine x_assign (.int _ _) rfl ?_
                    refine x_nil ?_
                    refine then_n ?_
                    refine ⟨(i + 1, s, st', l.take k ++ l.drop (k + 1), us.take k ++ us.drop (k + 1), pool, pbs, _), ⟨rfl, rfl, rfl, rfl, rfl, rfl, rfl, trivial⟩, ⟨by omega, hsw.mono (by omega), by omega, t2, t6, t3, hway, by omega, hs⟩, by first | omega | (dsimp only; omega)⟩
                  · skip
                    refine c_skip ?_
                    refine inb_n ?_
                    refine inb_n ?_
                    refine then_n ?_
                    -- region 17
                    refine c_region ?_
                    refine x_move (.int _ _) rfl ?_
                    refine x_add _ _ rfl rfl (by simp only [X.lo]; omega) (by simp only [X.hi]; omega) ?_
                    refine x_assign (.int _ _) rfl ?_
                    refine x_nil ?_
                    refine then_n ?_
                    refine ⟨(i + 1, s, st', l, us, pool, pbs, _), ⟨rfl, rfl, rfl, rfl, rfl, rfl, rfl, trivial⟩, ⟨by omega, hsw.mono (by omega), by omega, t2, t6, t3, hway, by omega, hs⟩, by first | omega | (dsimp only; omega)⟩
      · skip
        refine c_seq ?_
        refine c_seq ?_
        -- region 16
        refine c_region ?_
        refine x_move (.int _ _) rfl ?_
        refine x_move (.slice _ _ _) rfl ?_
        refine x_lenSl Try.underlying43 _ _ _ rfl ?_
        refine x_lssT _ _ rfl rfl (by omega) ?_
        refine x_move (.bool _) rfl ?_
        refine x_want' rfl ?_
        refine x_move (.int _ _) rfl ?_
        refine x_want' rfl ?_
        refine x_lssF _ _ rfl rfl (by omega) ?_
        refine x_pickT (.bool _) rfl rfl ?_
        refine x_nil ?_
        refine then_n ?_
        refine c_false rfl ?_
        refine c_exit ?_
        refine then_x ?_
        refine then_x ?_
        refine inb_e ?_
        refine then_n ?_
        refine c_seq ?_
        refine c_seq ?_
        -- region 36
        have hsw : SW T s 5000 := hsw.mono (by omega)
        have hs := ((hs.pull 3).tail.pull 3).tail.perm [1, 2, 0, 3]
        have hs := hs.perm [2, 0, 1, 3]
        refine c_region ?_
        refine x_assign (.int _ _) rfl ?_
        refine x_nil ?_
        refine then_n ?_
        refine c_block ?_
        refine c_loop (γ := Nat × SSt × LSt) (fun (⟨t, s, st⟩ : Nat × SSt × LSt) => [(0, .slice a0 T.length c0), (5, .pointer (some ⟨la, 0, none⟩)), (6, .pointer (some ⟨lb, 0, none⟩)), (9, .int .i64 (st.upto : Nat)), (13, .int .i64 (t : Nat))]) (fun (⟨t, s, st⟩ : Nat × SSt × LSt) w => t ≤ 6 ∧ SW T s (5000 + 16 * t) ∧ s.base ≤ st.upto + 1 ∧ st.upto ≤ T.length ∧ st.inv ∧ good T st.held ∧ min T.length (16 * t) ≤ st.upto ∧ Sat w0 w (SObj S s :: Blk la (.cells #[.pointer (some ⟨S, 0, none⟩), .int .u64 (0 : Nat), .map (some M), .bool false] 49 (0, 0)) :: LObj lb st :: [Init w0])) (fun (⟨t, s, st⟩ : Nat × SSt × LSt) => 6 - t) (0, s, st) ⟨rfl, rfl, rfl, rfl, rfl, trivial⟩ ⟨Nat.zero_le _, hsw, hbu, huT, hinv, hgood, by omega, hs⟩ ?_
        clear hs
        rintro ⟨t, s, st⟩ ρ w ⟨ht, hsw, hbu, huT, hinv, hgood, hup, hs⟩
        change CW Try.prog 254 _ _ (sets 254 [(0, .slice a0 T.length c0), (5, .pointer (some ⟨la, 0, none⟩)), (6, .pointer (some ⟨lb, 0, none⟩)), (9, .int .i64 (st.upto : Nat)), (13, .int .i64 (t : Nat))] ρ) w
        have ok := hsw.inv.ok (by decide) (show 5000 + 16 * t ≤ 1000000 by omega)
        obtain ⟨hack, hab⟩ := hsw.ack hbu huT
        refine c_seq ?_
        refine c_seq ?_
        -- region 37
        refine c_region ?_
        refine x_move (.int _ _) rfl ?_
        refine x_lss _ _ rfl rfl ?_
        refine x_nil ?_
        refine then_n ?_
        refine c_test _ rfl (fun hb => ?_) (fun hb => ?_)   -- cond t171
        · skip
          refine c_skip ?_
          refine then_n ?_
          refine c_seq ?_
          refine c_block ?_
          refine c_seq ?_
          -- region 39 DRAWS
          refine c_draw (fun w => w.cell? ⟨la, 0, none⟩ = some (.pointer (some ⟨S, 0, none⟩))) (fun i => !(Nat.beq i 6)) [(0, 2), (1, 2), (2, 2), (3, 1), (4, 2), (5, 0), (6, 0)] (by kernel_rfl) (by kernel_rfl) (by kernel_rfl) (by kernel_rfl) ((hs.pull 1).cell rfl) ?_
          replace hs := hs.drew
          refine x_move (.pointer _) rfl ?_
          refine x_nilCheck _ rfl ?_
          first | refine x_field0 fa_49_0 _ rfl ?_ | refine x_field fa_49_0 _ _ rfl ?_
          refine h_load one_46 _ (.pointer _) rfl (fun w hS => by first | exact hS.cell rfl | exact (hS.pull 1).cell rfl | exact (hS.pull 2).cell rfl | exact (hS.pull 3).cell rfl | exact (hS.pull 4).cell rfl | exact (hS.pull 5).cell rfl | exact (hS.pull 6).cell rfl | exact hS | exact hS.1 | exact hS.2 | exact hS.2.1 | exact hS.2.2 | exact hS.2.2.1 | exact hS.2.2.2 | exact hS.2.2.2.1 | exact hS.2.2.2.2) ?_
          refine x_move (.pointer _) rfl ?_
          refine x_call Try.f17 Try.func17 rfl rfl _ rfl ?_
          refine (lupto_calls (hs.pull 2)).mono ?_
          clear hs; rintro e w ⟨rfl, hs⟩
          have hs := hs.push 2
          refine ⟨_, rfl, fun h => (hs.pull 1).cell rfl, ?_⟩
          refine x_call Try.f24 Try.func24 rfl rfl _ rfl ?_
          refine (sack_calls st.upto hs ok (by omega)).mono ?_
          clear hs; rintro e w ⟨rfl, hs⟩
          refine ⟨_, rfl, fun h => (by cases h), ?_⟩
          refine x_nil ?_
          refine then_n ?_
          refine c_seq ?_
          -- region 40
          refine c_region ?_
          refine x_move (.pointer _) rfl ?_
          refine x_nilCheck _ rfl ?_
          first | refine x_field0 fa_49_0 _ rfl ?_ | refine x_field fa_49_0 _ _ rfl ?_
          refine x_load one_46 _ (.pointer _) rfl (by first | exact hs.cell rfl | exact (hs.pull 1).cell rfl | exact (hs.pull 2).cell rfl | exact (hs.pull 3).cell rfl | assumption | exact (hs.pull 4).cell rfl | exact (hs.pull 5).cell rfl | exact (hs.pull 6).cell rfl | exact (hs.pull 7).cell rfl) ?_
          refine x_call Try.f23 Try.func23 rfl rfl _ rfl ?_
          refine (stick_calls hs).mono ?_
          clear hs; rintro e w ⟨rfl, hs⟩
          refine ⟨_, rfl, fun h => (by cases h), ?_⟩
          have hsw1 := hack.tick
          have ht0 : (s.ack st.upto).2.tick.told = 0 := rfl
          have hb1 : (s.ack st.upto).2.tick.base = st.upto + 1 := hab
          generalize (s.ack st.upto).2.tick = s1 at *
          have ok1 := hsw1.inv.ok (by decide) (show 5000 + 16 * t ≤ 1000000 by omega)
          obtain ⟨hd1, hd2⟩ := due_all ht0
          have hwl : s1.wait.length = T.length - st.upto := by rw [hsw1.wait, List.length_drop, hb1, Nat.add_sub_cancel]
          refine x_nil ?_
          refine then_n ?_
          refine c_seq ?_
          -- region 41
          refine c_region ?_
          refine x_move (.pointer _) rfl ?_
          refine x_nilCheck _ rfl ?_
          first | refine x_field0 fa_49_0 _ rfl ?_ | refine x_field fa_49_0 _ _ rfl ?_
          refine x_load one_46 _ (.pointer _) rfl (by first | exact hs.cell rfl | exact (hs.pull 1).cell rfl | exact (hs.pull 2).cell rfl | exact (hs.pull 3).cell rfl | assumption | exact (hs.pull 4).cell rfl | exact (hs.pull 5).cell rfl | exact (hs.pull 6).cell rfl | exact (hs.pull 7).cell rfl) ?_
          refine x_call Try.f22 Try.func22 rfl rfl _ rfl ?_
          refine (sdue_calls hs ok1).mono ?_
          clear hs; rintro e w ⟨v1, rfl, hs⟩
          refine ⟨_, rfl, fun h => (by cases h), ?_⟩
          obtain ⟨us1, hs⟩ := hs.ir
          have hul := hs.tail.eachLen
          rw [List.length_map] at hul
          obtain ⟨a3, c3, rfl⟩ := hs.rd.val
          refine x_assign (.slice _ _ _) rfl ?_
          refine x_nil ?_
          refine then_n ?_
          refine c_seq ?_
          -- region 42
          refine c_region ?_
          refine x_assign (.int _ _) rfl ?_
          refine x_nil ?_
          refine then_n ?_
          refine c_block ?_
          refine c_loop (γ := Nat × LSt) (fun (⟨j, st'⟩ : Nat × LSt) => [(0, .slice a0 T.length c0), (5, .pointer (some ⟨la, 0, none⟩)), (6, .pointer (some ⟨lb, 0, none⟩)), (9, .int .i64 (st'.upto : Nat)), (13, .int .i64 (t : Nat)), (14, .slice a3 s1.due.1.length c3), (15, .int .i64 (j : Nat))]) (fun (⟨j, st'⟩ : Nat × LSt) w => j ≤ s1.due.1.length ∧ st'.upto ≤ T.length ∧ st'.inv ∧ good T st'.held ∧ st.upto + j ≤ st'.upto ∧ Sat w0 w (Row 56 2 (.slice a3 s1.due.1.length c3) s1.due.1.length (icells (s1.due.1.map (·.1)) us1) :: EachB us1 (s1.due.1.map (·.2)) :: SObj S s1.due.2 :: Blk la (.cells #[.pointer (some ⟨S, 0, none⟩), .int .u64 (0 : Nat), .map (some M), .bool false] 49 (0, 0)) :: LObj lb st' :: [Init w0])) (fun (⟨j, st'⟩ : Nat × LSt) => s1.due.1.length - j) (0, st) ⟨rfl, rfl, rfl, rfl, rfl, rfl, rfl, trivial⟩ ⟨Nat.zero_le _, huT, hinv, hgood, Nat.le_refl _, hs⟩ ?_
          clear hs
          rintro ⟨j, st'⟩ ρ w ⟨hj, huT', hinv', hgood', hup', hs⟩
          change CW Try.prog 254 _ _ (sets 254 [(0, .slice a0 T.length c0), (5, .pointer (some ⟨la, 0, none⟩)), (6, .pointer (some ⟨lb, 0, none⟩)), (9, .int .i64 (st'.upto : Nat)), (13, .int .i64 (t : Nat)), (14, .slice a3 s1.due.1.length c3), (15, .int .i64 (j : Nat))] ρ) w
          refine c_seq ?_
          refine c_seq ?_
          -- region 43
          refine c_region ?_
          refine x_move (.int _ _) rfl ?_
          refine x_move (.slice _ _ _) rfl ?_
          refine x_lenSl Try.underlying27 _ _ _ rfl ?_
          refine x_lss _ _ rfl rfl ?_
          refine x_nil ?_
          refine then_n ?_
          refine c_test _ rfl (fun hb => ?_) (fun hb => ?_)   -- cond t194
          · skip
            refine c_skip ?_
            refine then_n ?_
            refine c_seq ?_
            refine c_block ?_
            refine c_seq ?_
            -- region 45 DRAWS
            have hjl : j < s1.due.1.length := by omega
            obtain ⟨p, hp⟩ : ∃ p, s1.due.1[j]? = some p := ⟨s1.due.1[j]'hjl, List.getElem?_eq_getElem _⟩
            have hpe := hd2 j p hp
            have hpT := hsw1.dues p (List.mem_of_getElem? hp)
            have hp1 : p.1 = st.upto + 1 + j := by rw [hpe, ← hb1]
            obtain ⟨u, hu⟩ : ∃ u, us1[j]? = some u := ⟨us1[j]'(by omega), List.getElem?_eq_getElem _⟩
            obtain ⟨g2, o2, rfl⟩ := hs.rowAddr (by omega)
            have hps : (s1.due.1.map (·.2))[j]? = some p.2 := by rw [List.getElem?_map, hp]; rfl
            obtain ⟨a2, c2, rfl⟩ := (hs.tail.eachRB hu hps).val
            obtain ⟨g1, g3⟩ := icells_get (s1.due.1.map (·.1)) us1 j p.1 _ (by rw [List.getElem?_map, hp]; rfl) hu
            have hpl := hle2 _ (List.mem_of_getElem? hpT.2)
            have hpq : p.1 ≤ 60 := by have := (List.getElem?_eq_some_iff.1 hpT.2).1; omega
            have hil := LSt.inv_len hinv'
            have hcT : T.length ≤ c0 := by obtain ⟨vs, h, _⟩ := hinT _ _ (hs.pull 5); obtain ⟨_, _, _, e, h', _⟩ := h; cases e; exact h'
            obtain ⟨t1, t2, t3, t4, t5, t6, t7⟩ := take_good hinv' hgood' hpT huT'
            refine c_draw (fun w => w.cell? ⟨g2, o2 + j * 2 + 0, none⟩ = some (.int .u64 (p.1 : Nat)) ∧ w.cell? ⟨g2, o2 + j * 2 + 1, none⟩ = some (.slice a2 p.2.length c2)) (fun i => !(Nat.beq i 11)) [(0, 2), (1, 2), (2, 2), (3, 2), (4, 2), (5, 1), (6, 2), (7, 2), (8, 2), (9, 2), (10, 1), (11, 0), (12, 2)] (by kernel_rfl) (by kernel_rfl) (by kernel_rfl) (by kernel_rfl) (⟨hs.rowCell g1, hs.rowCell g3⟩) ?_
            replace hs := hs.drew
            refine x_move (.pointer _) rfl ?_
            refine x_move (.slice _ _ _) rfl ?_
            refine x_move (.int _ _) rfl ?_
            refine x_indexAddr Try.underlying27 sz_56 _ _ _ _ _ rfl rfl (by omega) ?_
            first | refine x_field0 fa_56_0 _ rfl ?_ | refine x_field fa_56_0 _ _ rfl ?_
            refine h_load one_26 _ (.int _ _) rfl (fun w hS => by first | exact hS.cell rfl | exact (hS.pull 1).cell rfl | exact (hS.pull 2).cell rfl | exact (hS.pull 3).cell rfl | exact (hS.pull 4).cell rfl | exact (hS.pull 5).cell rfl | exact (hS.pull 6).cell rfl | exact hS | exact hS.1 | exact hS.2 | exact hS.2.1 | exact hS.2.2 | exact hS.2.2.1 | exact hS.2.2.2 | exact hS.2.2.2.1 | exact hS.2.2.2.2) ?_
            refine x_move (.slice _ _ _) rfl ?_
            refine x_move (.int _ _) rfl ?_
            refine x_indexAddr Try.underlying27 sz_56 _ _ _ _ _ rfl rfl (by omega) ?_
            first | refine x_field0 fa_56_1 _ rfl ?_ | refine x_field fa_56_1 _ _ rfl ?_
            refine h_load one_30 _ (.slice _ _ _) rfl (fun w hS => by first | exact hS.cell rfl | exact (hS.pull 1).cell rfl | exact (hS.pull 2).cell rfl | exact (hS.pull 3).cell rfl | exact (hS.pull 4).cell rfl | exact (hS.pull 5).cell rfl | exact (hS.pull 6).cell rfl | exact hS | exact hS.1 | exact hS.2 | exact hS.2.1 | exact hS.2.2 | exact hS.2.2.1 | exact hS.2.2.2 | exact hS.2.2.2.1 | exact hS.2.2.2.2) ?_
            refine x_call Try.f15 Try.func15 rfl rfl _ rfl ?_
            refine ((ltake_calls p.1 p.2 (hs.perm [4, 1, 0, 2, 3, 5]) (fun w' L' h => h.eachRB hu hps) (by omega) (by omega) (by omega) (by omega))).mono ?_
            clear hs; rintro e w ⟨r1, rfl, hs⟩
            refine ⟨_, rfl, fun h => (by cases h), ?_⟩
            have hs := hs.perm [0, 3, 2, 4, 5, 1, 6]
            generalize st'.take p.1 p.2 = Q at *
            obtain ⟨out, st''⟩ := Q
            dsimp only at t1 t2 t3 t4 t5 t6 t7 hs
            obtain ⟨ar, cr, rfl⟩ := hs.rbb.val
            refine x_assign (.slice _ _ _) rfl ?_
            refine x_nil ?_
            refine then_n ?_
            refine c_seq ?_
            refine c_seq ?_
            -- region 46
            have h2 := (hinT _ _ (hs.pull 6)).slice (i := st'.upto) (j := st'.upto + out.length) (by omega) (by omega)
            rw [Nat.add_sub_cancel_left, ← t4] at h2
            refine c_region ?_
            refine x_move (.int _ _) rfl ?_
            refine x_move (.slice _ _ _) rfl ?_
            refine x_lenSl Try.underlying35 _ _ _ rfl ?_
            refine x_add _ _ rfl rfl (by simp only [X.lo]; omega) (by simp only [X.hi]; omega) ?_
            refine x_move (.slice _ _ _) rfl ?_
            refine x_lenSl Try.underlying35 _ _ _ rfl ?_
            refine x_gtrF _ _ rfl rfl (by omega) ?_
            refine x_move (.bool _) rfl ?_
            refine x_want' rfl ?_
            refine x_move (.slice _ _ _) rfl ?_
            refine x_want' rfl ?_
            refine x_move (.slice _ _ _) rfl ?_
            refine x_want' rfl ?_
            refine x_move (.int _ _) rfl ?_
            refine x_want' rfl ?_
            refine x_move (.int _ _) rfl ?_
            refine x_want' rfl ?_
            refine x_move (.slice _ _ _) rfl ?_
            refine x_want' rfl ?_
            refine x_lenSl Try.underlying35 _ _ _ rfl ?_
            refine x_want' rfl ?_
            refine x_add _ _ rfl rfl (by simp only [X.lo]; omega) (by simp only [X.hi]; omega) ?_
            refine x_want' rfl ?_
            refine x_slice Try.underlying35 sz_30 (lo := some _) (hi := some _) a0 T.length c0 st'.upto (st'.upto + out.length) rfl (.inr ⟨_, rfl⟩) (.inr ⟨_, rfl⟩) (by omega) (by omega) ?_
            refine x_want' rfl ?_
            refine x_call Try.f14 Try.func14 rfl rfl _ rfl ?_
            refine ((same_true hs hs.rbb h2 (by omega))).mono ?_
            clear hs; rintro e w ⟨rfl, hs⟩
            refine ⟨_, rfl, fun h => (by cases h), ?_⟩
            clear h2
            refine x_want' rfl ?_
            refine x_not _ rfl ?_
            refine x_pickF (.bool _) rfl rfl ?_
            refine x_nil ?_
            refine then_n ?_
            refine c_false rfl ?_
            refine c_skip ?_
            refine then_n ?_
            -- region 48
            refine c_region ?_
            refine x_move (.int _ _) rfl ?_
            refine x_move (.slice _ _ _) rfl ?_
            refine x_lenSl Try.underlying35 _ _ _ rfl ?_
            refine x_add _ _ rfl rfl (by simp only [X.lo]; omega) (by simp only [X.hi]; omega) ?_
            refine x_assign (.int _ _) rfl ?_
            refine x_nil ?_
            refine inb_n ?_
            refine then_n ?_
            -- region 44
            rw [show ((st'.upto : Nat) : Int) + ((out.length : Nat) : Int) = ((st''.upto : Nat) : Int) from by omega]
            refine c_region ?_
            refine x_move (.int _ _) rfl ?_
            refine x_add _ _ rfl rfl (by simp only [X.lo]; omega) (by simp only [X.hi]; omega) ?_
            refine x_assign (.int _ _) rfl ?_
            refine x_nil ?_
            refine then_n ?_
            refine ⟨(j + 1, st''), ⟨rfl, rfl, rfl, rfl, rfl, rfl, rfl, trivial⟩, ⟨by omega, t2, t6, t3, by have := t7 (by omega); omega, hs.tail⟩, by first | omega | (dsimp only; omega)⟩
          · skip
            refine c_exit ?_
            refine then_x ?_
            refine then_x ?_
            refine inb_e ?_
            refine inb_n ?_
            refine then_n ?_
            -- region 38
            refine c_region ?_
            refine x_move (.int _ _) rfl ?_
            refine x_add _ _ rfl rfl (by simp only [X.lo]; omega) (by simp only [X.hi]; omega) ?_
            refine x_assign (.int _ _) rfl ?_
            refine x_nil ?_
            refine then_n ?_
            have hbd : s1.due.2.base ≤ st'.upto + 1 := by show s1.base ≤ _; omega
            refine ⟨(t + 1, s1.due.2, st'), ⟨rfl, rfl, rfl, rfl, rfl, trivial⟩, ⟨by omega, (hsw1.due (by omega)).mono (by omega), hbd, huT', hinv', hgood', by omega, hs.tail.tail⟩, by first | omega | (dsimp only; omega)⟩
        · skip
          refine c_exit ?_
          refine then_x ?_
          refine then_x ?_
          refine inb_e ?_
          refine then_n ?_
          refine c_seq ?_
          -- region 49 DRAWS
          refine c_draw (fun w => w.cell? ⟨la, 0, none⟩ = some (.pointer (some ⟨S, 0, none⟩))) (fun i => !(Nat.beq i 6)) [(0, 2), (1, 2), (2, 2), (3, 1), (4, 2), (5, 0), (6, 0)] (by kernel_rfl) (by kernel_rfl) (by kernel_rfl) (by kernel_rfl) ((hs.pull 1).cell rfl) ?_
          replace hs := hs.drew
          refine x_move (.pointer _) rfl ?_
          refine x_nilCheck _ rfl ?_
          first | refine x_field0 fa_49_0 _ rfl ?_ | refine x_field fa_49_0 _ _ rfl ?_
          refine h_load one_46 _ (.pointer _) rfl (fun w hS => by first | exact hS.cell rfl | exact (hS.pull 1).cell rfl | exact (hS.pull 2).cell rfl | exact (hS.pull 3).cell rfl | exact (hS.pull 4).cell rfl | exact (hS.pull 5).cell rfl | exact (hS.pull 6).cell rfl | exact hS | exact hS.1 | exact hS.2 | exact hS.2.1 | exact hS.2.2 | exact hS.2.2.1 | exact hS.2.2.2 | exact hS.2.2.2.1 | exact hS.2.2.2.2) ?_
          refine x_move (.pointer _) rfl ?_
          refine x_call Try.f17 Try.func17 rfl rfl _ rfl ?_
          refine (lupto_calls (hs.pull 2)).mono ?_
          clear hs; rintro e w ⟨rfl, hs⟩
          have hs := hs.push 2
          refine ⟨_, rfl, fun h => (hs.pull 1).cell rfl, ?_⟩
          refine x_call Try.f24 Try.func24 rfl rfl _ rfl ?_
          refine (sack_calls st.upto hs ok (by omega)).mono ?_
          clear hs; rintro e w ⟨rfl, hs⟩
          refine ⟨_, rfl, fun h => (by cases h), ?_⟩
          have hfin : st.upto = T.length := by omega
          have hwl : (s.ack st.upto).2.wait.length = 0 := by rw [hack.wait, List.length_drop, hab]; omega
          refine x_nil ?_
          refine then_n ?_
          refine c_seq ?_
          -- region 50
          refine c_region ?_
          refine x_move (.int _ _) rfl ?_
          refine x_move (.slice _ _ _) rfl ?_
          refine x_lenSl Try.underlying35 _ _ _ rfl ?_
          refine x_eqlT _ _ rfl rfl (by omega) ?_
          refine x_move (.bool _) rfl ?_
          refine x_want' rfl ?_
          refine x_move (.pointer _) rfl ?_
          refine x_want' rfl ?_
          refine x_nilCheck _ rfl ?_
          refine x_want' rfl ?_
          first | refine x_field0 fa_49_0 _ rfl ?_ | refine x_field fa_49_0 _ _ rfl ?_
          refine x_want' rfl ?_
          refine x_load one_46 _ (.pointer _) rfl (by first | exact hs.cell rfl | exact (hs.pull 1).cell rfl | exact (hs.pull 2).cell rfl | exact (hs.pull 3).cell rfl | assumption | exact (hs.pull 4).cell rfl | exact (hs.pull 5).cell rfl | exact (hs.pull 6).cell rfl | exact (hs.pull 7).cell rfl) ?_
          refine x_want' rfl ?_
          refine x_call Try.f25 Try.func25 rfl rfl _ rfl ?_
          refine (slen_calls hs).mono ?_
          clear hs; rintro e w ⟨rfl, hs⟩
          refine ⟨_, rfl, fun h => (by cases h), ?_⟩
          refine x_want' rfl ?_
          refine x_eqlT _ _ rfl rfl (by omega) ?_
          refine x_pickT (.bool _) rfl rfl ?_
          refine x_move (.bool _) rfl ?_
          refine x_want' rfl ?_
          refine x_call Try.f13 Try.func13 rfl rfl _ rfl ?_
          refine (awake12_calls hs).mono ?_
          clear hs; rintro e w ⟨rfl, hs⟩
          refine ⟨_, rfl, fun h => (by cases h), ?_⟩
          refine x_pickT (.bool _) rfl rfl ?_
          refine x_assign (.bool _) rfl ?_
          refine x_nil ?_
          refine then_n ?_
          refine c_ret ?_
          refine ⟨.inr rfl, ?_⟩
          exact ⟨rfl, hs.tail.tail.tail⟩
      · skip
        refine c_seq ?_
        refine c_seq ?_
        -- region 16
        refine c_region ?_
        refine x_move (.int _ _) rfl ?_
        refine x_move (.slice _ _ _) rfl ?_
        refine x_lenSl Try.underlying43 _ _ _ rfl ?_
        refine x_lssF _ _ rfl rfl (by omega) ?_
        refine x_move (.bool _) rfl ?_
        refine x_skip rfl rfl ?_
        refine x_skip rfl rfl ?_
        refine x_pickF (.bool _) rfl rfl ?_
        refine x_nil ?_
        refine then_n ?_
        refine c_false rfl ?_
        refine c_exit ?_
        refine then_x ?_
        refine then_x ?_
        refine inb_e ?_
        refine then_n ?_
        refine c_seq ?_
        refine c_seq ?_
        -- region 36
        have hsw : SW T s 5000 := hsw.mono (by omega)
        have hs := ((hs.pull 3).tail.pull 3).tail.perm [1, 2, 0, 3]
        have hs := hs.perm [2, 0, 1, 3]
        refine c_region ?_
        refine x_assign (.int _ _) rfl ?_
        refine x_nil ?_
        refine then_n ?_
        refine c_block ?_
        refine c_loop (γ := Nat × SSt × LSt) (fun (⟨t, s, st⟩ : Nat × SSt × LSt) => [(0, .slice a0 T.length c0), (5, .pointer (some ⟨la, 0, none⟩)), (6, .pointer (some ⟨lb, 0, none⟩)), (9, .int .i64 (st.upto : Nat)), (13, .int .i64 (t : Nat))]) (fun (⟨t, s, st⟩ : Nat × SSt × LSt) w => t ≤ 6 ∧ SW T s (5000 + 16 * t) ∧ s.base ≤ st.upto + 1 ∧ st.upto ≤ T.length ∧ st.inv ∧ good T st.held ∧ min T.length (16 * t) ≤ st.upto ∧ Sat w0 w (SObj S s :: Blk la (.cells #[.pointer (some ⟨S, 0, none⟩), .int .u64 (0 : Nat), .map (some M), .bool false] 49 (0, 0)) :: LObj lb st :: [Init w0])) (fun (⟨t, s, st⟩ : Nat × SSt × LSt) => 6 - t) (0, s, st) ⟨rfl, rfl, rfl, rfl, rfl, trivial⟩ ⟨Nat.zero_le _, hsw, hbu, huT, hinv, hgood, by omega, hs⟩ ?_
        clear hs
        rintro ⟨t, s, st⟩ ρ w ⟨ht, hsw, hbu, huT, hinv, hgood, hup, hs⟩
        change CW Try.prog 254 _ _ (sets 254 [(0, .slice a0 T.length c0), (5, .pointer (some ⟨la, 0, none⟩)), (6, .pointer (some ⟨lb, 0, none⟩)), (9, .int .i64 (st.upto : Nat)), (13, .int .i64 (t : Nat))] ρ) w
        have ok := hsw.inv.ok (by decide) (show 5000 + 16 * t ≤ 1000000 by omega)
        obtain ⟨hack, hab⟩ := hsw.ack hbu huT
        refine c_seq ?_
        refine c_seq ?_
        -- region 37
        refine c_region ?_
        refine x_move (.int _ _) rfl ?_
        refine x_lss _ _ rfl rfl ?_
        refine x_nil ?_
        refine then_n ?_
        refine c_test _ rfl (fun hb => ?_) (fun hb => ?_)   -- cond t171
        · skip
          refine c_skip ?_
          refine then_n ?_
          refine c_seq ?_
          refine c_block ?_
          refine c_seq ?_
          -- region 39 DRAWS
          refine c_draw (fun w => w.cell? ⟨la, 0, none⟩ = some (.pointer (some ⟨S, 0, none⟩))) (fun i => !(Nat.beq i 6)) [(0, 2), (1, 2), (2, 2), (3, 1), (4, 2), (5, 0), (6, 0)] (by kernel_rfl) (by kernel_rfl) (by kernel_rfl) (by kernel_rfl) ((hs.pull 1).cell rfl) ?_
          replace hs := hs.drew
          refine x_move (.pointer _) rfl ?_
          refine x_nilCheck _ rfl ?_
          first | refine x_field0 fa_49_0 _ rfl ?_ | refine x_field fa_49_0 _ _ rfl ?_
          refine h_load one_46 _ (.pointer _) rfl (fun w hS => by first | exact hS.cell rfl | exact (hS.pull 1).cell rfl | exact (hS.pull 2).cell rfl | exact (hS.pull 3).cell rfl | exact (hS.pull 4).cell rfl | exact (hS.pull 5).cell rfl | exact (hS.pull 6).cell rfl | exact hS | exact hS.1 | exact hS.2 | exact hS.2.1 | exact hS.2.2 | exact hS.2.2.1 | exact hS.2.2.2 | exact hS.2.2.2.1 | exact hS.2.2.2.2) ?_
          refine x_move (.pointer _) rfl ?_
          refine x_call Try.f17 Try.func17 rfl rfl _ rfl ?_
          refine (lupto_calls (hs.pull 2)).mono ?_
          clear hs; rintro e w ⟨rfl, hs⟩
          have hs := hs.push 2
          refine ⟨_, rfl, fun h => (hs.pull 1).cell rfl, ?_⟩
          refine x_call Try.f24 Try.func24 rfl rfl _ rfl ?_
          refine (sack_calls st.upto hs ok (by omega)).mono ?_
          clear hs; rintro e w ⟨rfl, hs⟩
          refine ⟨_, rfl, fun h => (by cases h), ?_⟩
          refine x_nil ?_
          refine then_n ?_
          refine c_seq ?_
          -- region 40
          refine c_region ?_
          refine x_move (.pointer _) rfl ?_
          refine x_nilCheck _ rfl ?_
          first | refine x_field0 fa_49_0 _ rfl ?_ | refine x_field fa_49_0 _ _ rfl ?_
          refine x_load one_46 _ (.pointer _) rfl (by first | exact hs.cell rfl | exact (hs.pull 1).cell rfl | exact (hs.pull 2).cell rfl | exact (hs.pull 3).cell rfl | assumption | exact (hs.pull 4).cell rfl | exact (hs.pull 5).cell rfl | exact (hs.pull 6).cell rfl | exact (hs.pull 7).cell rfl) ?_
          refine x_call Try.f23 Try.func23 rfl rfl _ rfl ?_
          refine (stick_calls hs).mono ?_
          clear hs; rintro e w ⟨rfl, hs⟩
          refine ⟨_, rfl, fun h => (by cases h), ?_⟩
          have hsw1 := hack.tick
          have ht0 : (s.ack st.upto).2.tick.told = 0 := rfl
          have hb1 : (s.ack st.upto).2.tick.base = st.upto + 1 := hab
          generalize (s.ack st.upto).2.tick = s1 at *
          have ok1 := hsw1.inv.ok (by decide) (show 5000 + 16 * t ≤ 1000000 by omega)
          obtain ⟨hd1, hd2⟩ := due_all ht0
          have hwl : s1.wait.length = T.length - st.upto := by rw [hsw1.wait, List.length_drop, hb1, Nat.add_sub_cancel]
          refine x_nil ?_
          refine then_n ?_
          refine c_seq ?_
          -- region 41
          refine c_region ?_
          refine x_move (.pointer _) rfl ?_
          refine x_nilCheck _ rfl ?_
          first | refine x_field0 fa_49_0 _ rfl ?_ | refine x_field fa_49_0 _ _ rfl ?_
          refine x_load one_46 _ (.pointer _) rfl (by first | exact hs.cell rfl | exact (hs.pull 1).cell rfl | exact (hs.pull 2).cell rfl | exact (hs.pull 3).cell rfl | assumption | exact (hs.pull 4).cell rfl | exact (hs.pull 5).cell rfl | exact (hs.pull 6).cell rfl | exact (hs.pull 7).cell rfl) ?_
          refine x_call Try.f22 Try.func22 rfl rfl _ rfl ?_
          refine (sdue_calls hs ok1).mono ?_
          clear hs; rintro e w ⟨v1, rfl, hs⟩
          refine ⟨_, rfl, fun h => (by cases h), ?_⟩
          obtain ⟨us1, hs⟩ := hs.ir
          have hul := hs.tail.eachLen
          rw [List.length_map] at hul
          obtain ⟨a3, c3, rfl⟩ := hs.rd.val
          refine x_assign (.slice _ _ _) rfl ?_
          refine x_nil ?_
          refine then_n ?_
          refine c_seq ?_
          -- region 42
          refine c_region ?_
          refine x_assign (.int _ _) rfl ?_
          refine x_nil ?_
          refine then_n ?_
          refine c_block ?_
          refine c_loop (γ := Nat × LSt) (fun (⟨j, st'⟩ : Nat × LSt) => [(0, .slice a0 T.length c0), (5, .pointer (some ⟨la, 0, none⟩)), (6, .pointer (some ⟨lb, 0, none⟩)), (9, .int .i64 (st'.upto : Nat)), (13, .int .i64 (t : Nat)), (14, .slice a3 s1.due.1.length c3), (15, .int .i64 (j : Nat))]) (fun (⟨j, st'⟩ : Nat × LSt) w => j ≤ s1.due.1.length ∧ st'.upto ≤ T.length ∧ st'.inv ∧ good T st'.held ∧ st.upto + j ≤ st'.upto ∧ Sat w0 w (Row 56 2 (.slice a3 s1.due.1.length c3) s1.due.1.length (icells (s1.due.1.map (·.1)) us1) :: EachB us1 (s1.due.1.map (·.2)) :: SObj S s1.due.2 :: Blk la (.cells #[.pointer (some ⟨S, 0, none⟩), .int .u64 (0 : Nat), .map (some M), .bool false] 49 (0, 0)) :: LObj lb st' :: [Init w0])) (fun (⟨j, st'⟩ : Nat × LSt) => s1.due.1.length - j) (0, st) ⟨rfl, rfl, rfl, rfl, rfl, rfl, rfl, trivial⟩ ⟨Nat.zero_le _, huT, hinv, hgood, Nat.le_refl _, hs⟩ ?_
          clear hs
          rintro ⟨j, st'⟩ ρ w ⟨hj, huT', hinv', hgood', hup', hs⟩
          change CW Try.prog 254 _ _ (sets 254 [(0, .slice a0 T.length c0), (5, .pointer (some ⟨la, 0, none⟩)), (6, .pointer (some ⟨lb, 0, none⟩)), (9, .int .i64 (st'.upto : Nat)), (13, .int .i64 (t : Nat)), (14, .slice a3 s1.due.1.length c3), (15, .int .i64 (j : Nat))] ρ) w
          refine c_seq ?_
          refine c_seq ?_
          -- region 43
          refine c_region ?_
          refine x_move (.int _ _) rfl ?_
          refine x_move (.slice _ _ _) rfl ?_
          refine x_lenSl Try.underlying27 _ _ _ rfl ?_
          refine x_lss _ _ rfl rfl ?_
          refine x_nil ?_
          refine then_n ?_
          refine c_test _ rfl (fun hb => ?_) (fun hb => ?_)   -- cond t194
          · skip
            refine c_skip ?_
            refine then_n ?_
            refine c_seq ?_
            refine c_block ?_
            refine c_seq ?_
            -- region 45 DRAWS
            have hjl : j < s1.due.1.length := by omega
            obtain ⟨p, hp⟩ : ∃ p, s1.due.1[j]? = some p := ⟨s1.due.1[j]'hjl, List.getElem?_eq_getElem _⟩
            have hpe := hd2 j p hp
            have hpT := hsw1.dues p (List.mem_of_getElem? hp)
            have hp1 : p.1 = st.upto + 1 + j := by rw [hpe, ← hb1]
            obtain ⟨u, hu⟩ : ∃ u, us1[j]? = some u := ⟨us1[j]'(by omega), List.getElem?_eq_getElem _⟩
            obtain ⟨g2, o2, rfl⟩ := hs.rowAddr (by omega)
            have hps : (s1.due.1.map (·.2))[j]? = some p.2 := by rw [List.getElem?_map, hp]; rfl
            obtain ⟨a2, c2, rfl⟩ := (hs.tail.eachRB hu hps).val
            obtain ⟨g1, g3⟩ := icells_get (s1.due.1.map (·.1)) us1 j p.1 _ (by rw [List.getElem?_map, hp]; rfl) hu
            have hpl := hle2 _ (List.mem_of_getElem? hpT.2)
            have hpq : p.1 ≤ 60 := by have := (List.getElem?_eq_some_iff.1 hpT.2).1; omega
            have hil := LSt.inv_len hinv'
            have hcT : T.length ≤ c0 := by obtain ⟨vs, h, _⟩ := hinT _ _ (hs.pull 5); obtain ⟨_, _, _, e, h', _⟩ := h; cases e; exact h'
            obtain ⟨t1, t2, t3, t4, t5, t6, t7⟩ := take_good hinv' hgood' hpT huT'
            refine c_draw (fun w => w.cell? ⟨g2, o2 + j * 2 + 0, none⟩ = some (.int .u64 (p.1 : Nat)) ∧ w.cell? ⟨g2, o2 + j * 2 + 1, none⟩ = some (.slice a2 p.2.length c2)) (fun i => !(Nat.beq i 11)) [(0, 2), (1, 2), (2, 2), (3, 2), (4, 2), (5, 1), (6, 2), (7, 2), (8, 2), (9, 2), (10, 1), (11, 0), (12, 2)] (by kernel_rfl) (by kernel_rfl) (by kernel_rfl) (by kernel_rfl) (⟨hs.rowCell g1, hs.rowCell g3⟩) ?_
            replace hs := hs.drew
            refine x_move (.pointer _) rfl ?_
            refine x_move (.slice _ _ _) rfl ?_
            refine x_move (.int _ _) rfl ?_
            refine x_indexAddr Try.underlying27 sz_56 _ _ _ _ _ rfl rfl (by omega) ?_
            first | refine x_field0 fa_56_0 _ rfl ?_ | refine x_field fa_56_0 _ _ rfl ?_
            refine h_load one_26 _ (.int _ _) rfl (fun w hS => by first | exact hS.cell rfl | exact (hS.pull 1).cell rfl | exact (hS.pull 2).cell rfl | exact (hS.pull 3).cell rfl | exact (hS.pull 4).cell rfl | exact (hS.pull 5).cell rfl | exact (hS.pull 6).cell rfl | exact hS | exact hS.1 | exact hS.2 | exact hS.2.1 | exact hS.2.2 | exact hS.2.2.1 | exact hS.2.2.2 | exact hS.2.2.2.1 | exact hS.2.2.2.2) ?_
            refine x_move (.slice _ _ _) rfl ?_
            refine x_move (.int _ _) rfl ?_
            refine x_indexAddr Try.underlying27 sz_56 _ _ _ _ _ rfl rfl (by omega) ?_
            first | refine x_field0 fa_56_1 _ rfl ?_ | refine x_field fa_56_1 _ _ rfl ?_
            refine h_load one_30 _ (.slice _ _ _) rfl (fun w hS => by first | exact hS.cell rfl | exact (hS.pull 1).cell rfl | exact (hS.pull 2).cell rfl | exact (hS.pull 3).cell rfl | exact (hS.pull 4).cell rfl | exact (hS.pull 5).cell rfl | exact (hS.pull 6).cell rfl | exact hS | exact hS.1 | exact hS.2 | exact hS.2.1 | exact hS.2.2 | exact hS.2.2.1 | exact hS.2.2.2 | exact hS.2.2.2.1 | exact hS.2.2.2.2) ?_
            refine x_call Try.f15 Try.func15 rfl rfl _ rfl ?_
            refine ((ltake_calls p.1 p.2 (hs.perm [4, 1, 0, 2, 3, 5]) (fun w' L' h => h.eachRB hu hps) (by omega) (by omega) (by omega) (by omega))).mono ?_
            clear hs; rintro e w ⟨r1, rfl, hs⟩
            refine ⟨_, rfl, fun h => (by cases h), ?_⟩
            have hs := hs.perm [0, 3, 2, 4, 5, 1, 6]
            generalize st'.take p.1 p.2 = Q at *
            obtain ⟨out, st''⟩ := Q
            dsimp only at t1 t2 t3 t4 t5 t6 t7 hs
            obtain ⟨ar, cr, rfl⟩ := hs.rbb.val
            refine x_assign (.slice _ _ _) rfl ?_
            refine x_nil ?_
            refine then_n ?_
            refine c_seq ?_
            refine c_seq ?_
            -- region 46
            have h2 := (hinT _ _ (hs.pull 6)).slice (i := st'.upto) (j := st'.upto + out.length) (by omega) (by omega)
            rw [Nat.add_sub_cancel_left, ← t4] at h2
            refine c_region ?_
            refine x_move (.int _ _) rfl ?_
            refine x_move (.slice _ _ _) rfl ?_
            refine x_lenSl Try.underlying35 _ _ _ rfl ?_
            refine x_add _ _ rfl rfl (by simp only [X.lo]; omega) (by simp only [X.hi]; omega) ?_
            refine x_move (.slice _ _ _) rfl ?_
            refine x_lenSl Try.underlying35 _ _ _ rfl ?_
            refine x_gtrF _ _ rfl rfl (by omega) ?_
            refine x_move (.bool _) rfl ?_
            refine x_want' rfl ?_
            refine x_move (.slice _ _ _) rfl ?_
            refine x_want' rfl ?_
            refine x_move (.slice _ _ _) rfl ?_
            refine x_want' rfl ?_
            refine x_move (.int _ _) rfl ?_
            refine x_want' rfl ?_
            refine x_move (.int _ _) rfl ?_
            refine x_want' rfl ?_
            refine x_move (.slice _ _ _) rfl ?_
            refine x_want' rfl ?_
            refine x_lenSl Try.underlying35 _ _ _ rfl ?_
            refine x_want' rfl ?_
            refine x_add _ _ rfl rfl (by simp only [X.lo]; omega) (by simp only [X.hi]; omega) ?_
            refine x_want' rfl ?_
            refine x_slice Try.underlying35 sz_30 (lo := some _) (hi := some _) a0 T.length c0 st'.upto (st'.upto + out.length) rfl (.inr ⟨_, rfl⟩) (.inr ⟨_, rfl⟩) (by omega) (by omega) ?_
            refine x_want' rfl ?_
            refine x_call Try.f14 Try.func14 rfl rfl _ rfl ?_
            refine ((same_true hs hs.rbb h2 (by omega))).mono ?_
            clear hs; rintro e w ⟨rfl, hs⟩
            refine ⟨_, rfl, fun h => (by cases h), ?_⟩
            clear h2
            refine x_want' rfl ?_
            refine x_not _ rfl ?_
            refine x_pickF (.bool _) rfl rfl ?_
            refine x_nil ?_
            refine then_n ?_
            refine c_false rfl ?_
            refine c_skip ?_
            refine then_n ?_
            -- region 48
            refine c_region ?_
            refine x_move (.int _ _) rfl ?_
            refine x_move (.slice _ _ _) rfl ?_
            refine x_lenSl Try.underlying35 _ _ _ rfl ?_
            refine x_add _ _ rfl rfl (by simp only [X.lo]; omega) (by simp only [X.hi]; omega) ?_
            refine x_assign (.int _ _) rfl ?_
            refine x_nil ?_
            refine inb_n ?_
            refine then_n ?_
            -- region 44
            rw [show ((st'.upto : Nat) : Int) + ((out.length : Nat) : Int) = ((st''.upto : Nat) : Int) from by omega]
            refine c_region ?_
            refine x_move (.int _ _) rfl ?_
            refine x_add _ _ rfl rfl (by simp only [X.lo]; omega) (by simp only [X.hi]; omega) ?_
            refine x_assign (.int _ _) rfl ?_
            refine x_nil ?_
            refine then_n ?_
            refine ⟨(j + 1, st''), ⟨rfl, rfl, rfl, rfl, rfl, rfl, rfl, trivial⟩, ⟨by omega, t2, t6, t3, by have := t7 (by omega); omega, hs.tail⟩, by first | omega | (dsimp only; omega)⟩
          · skip
            refine c_exit ?_
            refine then_x ?_
            refine then_x ?_
            refine inb_e ?_
            refine inb_n ?_
            refine then_n ?_
            -- region 38
            refine c_region ?_
            refine x_move (.int _ _) rfl ?_
            refine x_add _ _ rfl rfl (by simp only [X.lo]; omega) (by simp only [X.hi]; omega) ?_
            refine x_assign (.int _ _) rfl ?_
            refine x_nil ?_
            refine then_n ?_
            have hbd : s1.due.2.base ≤ st'.upto + 1 := by show s1.base ≤ _; omega
            refine ⟨(t + 1, s1.due.2, st'), ⟨rfl, rfl, rfl, rfl, rfl, trivial⟩, ⟨by omega, (hsw1.due (by omega)).mono (by omega), hbd, huT', hinv', hgood', by omega, hs.tail.tail⟩, by first | omega | (dsimp only; omega)⟩
        · skip
          refine c_exit ?_
          refine then_x ?_
          refine then_x ?_
          refine inb_e ?_
          refine then_n ?_
          refine c_seq ?_
          -- region 49 DRAWS
          refine c_draw (fun w => w.cell? ⟨la, 0, none⟩ = some (.pointer (some ⟨S, 0, none⟩))) (fun i => !(Nat.beq i 6)) [(0, 2), (1, 2), (2, 2), (3, 1), (4, 2), (5, 0), (6, 0)] (by kernel_rfl) (by kernel_rfl) (by kernel_rfl) (by kernel_rfl) ((hs.pull 1).cell rfl) ?_
          replace hs := hs.drew
          refine x_move (.pointer _) rfl ?_
          refine x_nilCheck _ rfl ?_
          first | refine x_field0 fa_49_0 _ rfl ?_ | refine x_field fa_49_0 _ _ rfl ?_
          refine h_load one_46 _ (.pointer _) rfl (fun w hS => by first | exact hS.cell rfl | exact (hS.pull 1).cell rfl | exact (hS.pull 2).cell rfl | exact (hS.pull 3).cell rfl | exact (hS.pull 4).cell rfl | exact (hS.pull 5).cell rfl | exact (hS.pull 6).cell rfl | exact hS | exact hS.1 | exact hS.2 | exact hS.2.1 | exact hS.2.2 | exact hS.2.2.1 | exact hS.2.2.2 | exact hS.2.2.2.1 | exact hS.2.2.2.2) ?_
          refine x_move (.pointer _) rfl ?_
          refine x_call Try.f17 Try.func17 rfl rfl _ rfl ?_
          refine (lupto_calls (hs.pull 2)).mono ?_
          clear hs; rintro e w ⟨rfl, hs⟩
          have hs := hs.push 2
          refine ⟨_, rfl, fun h => (hs.pull 1).cell rfl, ?_⟩
          refine x_call Try.f24 Try.func24 rfl rfl _ rfl ?_
          refine (sack_calls st.upto hs ok (by omega)).mono ?_
          clear hs; rintro e w ⟨rfl, hs⟩
          refine ⟨_, rfl, fun h => (by cases h), ?_⟩
          have hfin : st.upto = T.length := by omega
          have hwl : (s.ack st.upto).2.wait.length = 0 := by rw [hack.wait, List.length_drop, hab]; omega
          refine x_nil ?_
          refine then_n ?_
          refine c_seq ?_
          -- region 50
          refine c_region ?_
          refine x_move (.int _ _) rfl ?_
          refine x_move (.slice _ _ _) rfl ?_
          refine x_lenSl Try.underlying35 _ _ _ rfl ?_
          refine x_eqlT _ _ rfl rfl (by omega) ?_
          refine x_move (.bool _) rfl ?_
          refine x_want' rfl ?_
          refine x_move (.pointer _) rfl ?_
          refine x_want' rfl ?_
          refine x_nilCheck _ rfl ?_
          refine x_want' rfl ?_
          first | refine x_field0 fa_49_0 _ rfl ?_ | refine x_field fa_49_0 _ _ rfl ?_
          refine x_want' rfl ?_
          refine x_load one_46 _ (.pointer _) rfl (by first | exact hs.cell rfl | exact (hs.pull 1).cell rfl | exact (hs.pull 2).cell rfl | exact (hs.pull 3).cell rfl | assumption | exact (hs.pull 4).cell rfl | exact (hs.pull 5).cell rfl | exact (hs.pull 6).cell rfl | exact (hs.pull 7).cell rfl) ?_
          refine x_want' rfl ?_
          refine x_call Try.f25 Try.func25 rfl rfl _ rfl ?_
          refine (slen_calls hs).mono ?_
          clear hs; rintro e w ⟨rfl, hs⟩
          refine ⟨_, rfl, fun h => (by cases h), ?_⟩
          refine x_want' rfl ?_
          refine x_eqlT _ _ rfl rfl (by omega) ?_
          refine x_pickT (.bool _) rfl rfl ?_
          refine x_move (.bool _) rfl ?_
          refine x_want' rfl ?_
          refine x_call Try.f13 Try.func13 rfl rfl _ rfl ?_
          refine (awake12_calls hs).mono ?_
          clear hs; rintro e w ⟨rfl, hs⟩
          refine ⟨_, rfl, fun h => (by cases h), ?_⟩
          refine x_pickT (.bool _) rfl rfl ?_
          refine x_assign (.bool _) rfl ?_
          refine x_nil ?_
          refine then_n ?_
          refine c_ret ?_
          refine ⟨.inr rfl, ?_⟩
          exact ⟨rfl, hs.tail.tail.tail⟩
end Go.Proofs.Ytphakfggocdphaa.X
