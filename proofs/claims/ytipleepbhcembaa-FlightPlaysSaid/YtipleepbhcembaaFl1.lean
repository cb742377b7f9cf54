/-
  LAYER 14: the objects; Len, rest, New, Put.
-/
import Derived.Test.YtipleepbhcembaaCmp
namespace Go.Proofs.Ytipleepbhcembaa.X
open Go Go.RowKit
set_option linter.unusedVariables false
set_option maxRecDepth 20000
structure Pid where
  Id : Nat
  Inc : Nat
  deriving DecidableEq
def Pid.cells (x : Pid) : List Value := [.int .u16 (x.Id : Nat), .int .u32 (x.Inc : Nat)]
structure Pid.fine (x : Pid) (w : World) : Prop where
  Id : x.Id ≤ 65535
  Inc : x.Inc ≤ 4294967295
theorem Pid.cells_len (x : Pid) : x.cells.length = 2 := by first | rfl | (simp [Pid.cells])
theorem Pid.fine.below {x : Pid} {w w' : World} (h : x.fine w) (hb : Below w.heap.size w w') : x.fine w' := ⟨h.Id, h.Inc⟩
set_option maxRecDepth 20000 in
theorem TR.Pid {H : Type} {enc : TypeId × Value → H} {w : World} {cs : List Value} (h : TR enc Try.prog w 30 cs) : ∃ x : Pid, cs = x.cells ∧ x.fine w := by
  obtain ⟨h1, h2⟩ := h.struct Try.underlying30
  rw [show Try.prog.cellsOf 30 = 2 from by kernel_rfl] at h1
  match cs, h1 with
  | [y0, y1], _ =>
    have g0 := h2 0 _ rfl
    change TR enc Try.prog w 27 (([y0, y1].drop 0).take (Try.prog.cellsOf 27)) at g0
    rw [show Try.prog.cellsOf 27 = 1 from by kernel_rfl] at g0
    change TR enc Try.prog w 27 [y0] at g0
    obtain ⟨x0, e0, hx0⟩ := TR.nat1 Try.underlying27 rfl g0
    have g1 := h2 1 _ rfl
    change TR enc Try.prog w 28 (([y0, y1].drop 1).take (Try.prog.cellsOf 28)) at g1
    rw [show Try.prog.cellsOf 28 = 1 from by kernel_rfl] at g1
    change TR enc Try.prog w 28 [y1] at g1
    obtain ⟨x1, e1, hx1⟩ := TR.nat1 Try.underlying28 rfl g1
    refine ⟨⟨x0, x1⟩, ?_, ⟨hx0, hx1⟩⟩
    show [y0, y1] = _
    rw [show [y0, y1] = [y0] ++ [y1] from rfl, e0, e1]
    rfl
/-- a thing: for whom, what, was it spoilt? -/
structure Thg where
  to : Pid
  b : List UInt8
  sp : Bool
  deriving DecidableEq
def tcell (x : Thg × Value) : List Value := [.int .u16 (x.1.to.Id : Nat), .int .u32 (x.1.to.Inc : Nat), x.2, .bool x.1.sp]
def tcells (z : List (Thg × Value)) : List Value := (z.map tcell).flatten
theorem trow (z : List (Thg × Value)) : ∀ r ∈ z.map tcell, r.length = 4 := rows_of (cells := tcell) (fun _ => rfl) z
/-- what is under way: a block of type T, a row of type R -/
def FObj (T R f : Nat) (l : List Thg) : HP := fun h => ∃ x : Value × List (Thg × Value), x.2.map (·.1) = l ∧ SatH [Blk f (.cells #[x.1] T (0, 0)), Row R 4 x.1 x.2.length (tcells x.2), EachB (x.2.map (·.2)) (x.2.map (·.1.b))] h
theorem Sat.fobj {w0 w : World} {T R f : Nat} {l : List Thg} {L : List HP} (hs : Sat w0 w (FObj T R f l :: L)) :
    ∃ ao c z, l = z.map (·.1) ∧ Sat w0 w (Blk f (.cells #[.slice ao z.length c] T (0, 0)) :: Row R 4 (.slice ao z.length c) z.length (tcells z) :: EachB (z.map (·.2)) (z.map (·.1.b)) :: L) := by
  obtain ⟨⟨v, z⟩, h⟩ := Sat.ex (F := fun x : Value × List (Thg × Value) => fun h => x.2.map (·.1) = l ∧ SatH [Blk f (.cells #[x.1] T (0, 0)), Row R 4 x.1 x.2.length (tcells x.2), EachB (x.2.map (·.2)) (x.2.map (·.1.b))] h) hs
  obtain ⟨h1, h⟩ := h.and
  have h := h.opn
  obtain ⟨ao, c, e⟩ : ∃ ao c, v = .slice ao z.length c := (h.pull 1).rd.val
  subst e
  exact ⟨ao, c, z, h1.symm, h⟩
theorem Sat.fobj' {w0 w : World} {T R f : Nat} {v : Value} {z : List (Thg × Value)} {L : List HP} (hs : Sat w0 w (Blk f (.cells #[v] T (0, 0)) :: Row R 4 v z.length (tcells z) :: EachB (z.map (·.2)) (z.map (·.1.b)) :: L)) : Sat w0 w (FObj T R f (z.map (·.1)) :: L) :=
  (Sat.shut (Ls := [Blk f (.cells #[v] T (0, 0)), Row R 4 v z.length (tcells z), EachB (z.map (·.2)) (z.map (·.1.b))]) hs).head fun h hh => ⟨(v, z), rfl, hh⟩
theorem fobj_new {w0 w : World} {T R f : Nat} {L : List HP} (hs : Sat w0 w (Blk f (.cells #[.slice none 0 0] T (0, 0)) :: L)) : Sat w0 w (FObj T R f [] :: L) :=
  Sat.fobj' (z := []) (((EachB.nil hs).rowNil (e := R) (size := 4)).perm [2, 0, 1])
theorem tones {w0 w : World} {z : List (Thg × Value)} {L : List HP} (hs : Sat w0 w (EachB (z.map (·.2)) (z.map (·.1.b)) :: L)) : ∀ u ∈ tcells z, u.oneCell' = true := fun u hu => by
  obtain ⟨r, hr, hu⟩ := List.mem_flatten.1 hu
  obtain ⟨x, hx, rfl⟩ := List.mem_map.1 hr
  have h1 := hs.eachOnes x.2 (List.mem_map.2 ⟨x, hx, rfl⟩)
  simp [tcell] at hu
  rcases hu with rfl | rfl | rfl | rfl
  · rfl
  · rfl
  · exact h1
  · rfl
theorem fobj_snoc {w0 w : World} {T R f : Nat} {v u : Value} {z : List (Thg × Value)} {t : Thg} {L : List HP} (hs : Sat w0 w (Blk f (.cells #[v] T (0, 0)) :: Row R 4 v (z.length + 1) (tcells z ++ tcell (t, u)) :: EachB (z.map (·.2)) (z.map (·.1.b)) :: BR u t.b :: L)) : Sat w0 w (FObj T R f (z.map (·.1) ++ [t]) :: L) := by
  have h1 := ((hs.perm [2, 3, 0, 1]).eachSnoc).perm [1, 2, 0]
  have e : z.map (·.1) ++ [t] = (z ++ [(t, u)]).map (·.1) := by simp
  rw [e]
  refine Sat.fobj' (v := v) ?_
  have e1 : (z ++ [(t, u)]).length = z.length + 1 := by simp
  have e2 : tcells (z ++ [(t, u)]) = tcells z ++ tcell (t, u) := by simp [tcells]
  have e3 : (z ++ [(t, u)]).map (·.2) = z.map (·.2) ++ [u] := by simp
  have e4 : (z ++ [(t, u)]).map (·.1.b) = z.map (·.1.b) ++ [t.b] := by simp
  rw [e1, e2, e3, e4]
  exact h1
abbrev FP (f : Nat) (l : List Thg) : HP := FObj 56 59 f l
theorem fnew_calls {w0 w : World} {L : List HP} (hs : Sat w0 w L) :
    Calls Try.prog 7 #[] w fun e w' => ∃ f, e = .returned (.pointer (some ⟨f, 0, none⟩)) ∧ Sat w0 w' (FP f [] :: L) := by
  refine enter Try.func7 rfl Try.ntmps7 0 rfl (Nat.le_of_ble_eq_true rfl) ?_
  refine c_seq ?_
  -- region 0
  refine c_region ?_
  refine x_assign (.pointer _) rfl ?_
  refine x_nil ?_
  refine then_n ?_
  refine c_seq ?_
  -- region 1
  refine c_region ?_
  refine x_build _ [] rfl (fun w => bd_56 w) ?_
  refine x_box hs (.agg #[_]) rfl ?_; clear hs; intro b2 w hs; refine ⟨fun h => (by first | (cases h; done) | (first | exact hs.cells2 rfl rfl | exact (hs.pull 1).cells2 rfl rfl | exact (hs.pull 2).cells2 rfl rfl | exact (hs.pull 3).cells2 rfl rfl | exact (hs.pull 4).cells2 rfl rfl | exact (hs.pull 5).cells2 rfl rfl | exact (hs.pull 6).cells2 rfl rfl | exact (hs.pull 7).cells2 rfl rfl | exact (hs.pull 8).cells2 rfl rfl | exact hs.cell rfl | exact (hs.pull 1).cell rfl | exact (hs.pull 2).cell rfl | exact (hs.pull 3).cell rfl | exact (hs.pull 4).cell rfl | exact (hs.pull 5).cell rfl | exact (hs.pull 6).cell rfl | exact (hs.pull 7).cell rfl | exact (hs.pull 8).cell rfl | assumption | exact hs.cellsOf | exact (hs.pull 1).cellsOf | exact (hs.pull 2).cellsOf | exact (hs.pull 3).cellsOf | exact (hs.pull 4).cellsOf | exact (hs.pull 5).cellsOf | exact (hs.pull 6).cellsOf | exact (hs.pull 7).cellsOf | exact (hs.pull 8).cellsOf) | (and_intros <;> first | exact hs.cells2 rfl rfl | exact (hs.pull 1).cells2 rfl rfl | exact (hs.pull 2).cells2 rfl rfl | exact (hs.pull 3).cells2 rfl rfl | exact (hs.pull 4).cells2 rfl rfl | exact (hs.pull 5).cells2 rfl rfl | exact (hs.pull 6).cells2 rfl rfl | exact (hs.pull 7).cells2 rfl rfl | exact (hs.pull 8).cells2 rfl rfl | exact hs.cell rfl | exact (hs.pull 1).cell rfl | exact (hs.pull 2).cell rfl | exact (hs.pull 3).cell rfl | exact (hs.pull 4).cell rfl | exact (hs.pull 5).cell rfl | exact (hs.pull 6).cell rfl | exact (hs.pull 7).cell rfl | exact (hs.pull 8).cell rfl | assumption | exact hs.cellsOf | exact (hs.pull 1).cellsOf | exact (hs.pull 2).cellsOf | exact (hs.pull 3).cellsOf | exact (hs.pull 4).cellsOf | exact (hs.pull 5).cellsOf | exact (hs.pull 6).cellsOf | exact (hs.pull 7).cellsOf | exact (hs.pull 8).cellsOf)), ?_⟩
  refine x_assign (.pointer _) rfl ?_
  refine x_nil ?_
  refine then_n ?_
  refine c_ret ?_
  refine ⟨.inr rfl, ?_⟩
  exact ⟨b2, rfl, fobj_new hs⟩
theorem flen_calls {w0 w : World} {L : List HP} {f : Nat} {l : List Thg} (hs : Sat w0 w (FP f l :: L)) :
    Calls Try.prog 23 #[.pointer (some ⟨f, 0, none⟩)] w fun e w' => e = .returned (.int .i64 (l.length : Nat)) ∧ Sat w0 w' (FP f l :: L) := by
  have h0 := hs.fobj
  clear hs
  obtain ⟨ao, c, z, rfl, hs⟩ := h0
  refine enter Try.func23 rfl Try.ntmps23 2 rfl (Nat.le_of_ble_eq_true rfl) ?_
  refine c_seq ?_
  -- region 0
  refine c_region ?_
  refine x_assign (.int _ _) rfl ?_
  refine x_nil ?_
  refine then_n ?_
  refine c_seq ?_
  refine c_seq ?_
  -- region 1
  refine c_region ?_
  refine x_move (.pointer _) rfl ?_
  refine x_eqlNil Try.underlying24 _ rfl rfl ?_
  refine x_nil ?_
  refine then_n ?_
  refine c_false rfl ?_
  refine c_skip ?_
  refine then_n ?_
  refine c_seq ?_
  -- region 3
  refine c_region ?_
  refine x_move (.pointer _) rfl ?_
  refine x_nilCheck _ rfl ?_
  first | refine x_field0 fa_56_0 _ rfl ?_ | refine x_field fa_56_0 _ _ rfl ?_
  refine x_load one_54 _ (.slice _ _ _) rfl (by first | exact hs.cell rfl | exact (hs.pull 1).cell rfl | exact (hs.pull 2).cell rfl | exact (hs.pull 3).cell rfl | assumption | exact (hs.pull 4).cell rfl | exact (hs.pull 5).cell rfl | exact (hs.pull 6).cell rfl | exact (hs.pull 7).cell rfl) ?_
  refine x_lenSl Try.underlying54 _ _ _ rfl ?_
  refine x_assign (.int _ _) rfl ?_
  refine x_nil ?_
  refine then_n ?_
  refine c_ret ?_
  refine ⟨.inr rfl, ?_⟩
  rw [List.length_map]
  exact ⟨rfl, hs.fobj'⟩
theorem nflen_calls {w0 w : World} {L : List HP} (hs : Sat w0 w L) :
    Calls Try.prog 23 #[.pointer none] w fun e w' => e = .returned (.int .i64 0) ∧ Sat w0 w' L := by
  refine enter Try.func23 rfl Try.ntmps23 2 rfl (Nat.le_of_ble_eq_true rfl) ?_
  refine c_seq ?_
  -- region 0
  refine c_region ?_
  refine x_assign (.int _ _) rfl ?_
  refine x_nil ?_
  refine then_n ?_
  refine c_seq ?_
  refine c_seq ?_
  -- region 1
  refine c_region ?_
  refine x_move (.pointer _) rfl ?_
  refine x_eqlNil Try.underlying24 _ rfl rfl ?_
  refine x_nil ?_
  refine then_n ?_
  refine c_true rfl ?_
  refine c_seq ?_
  -- region 2
  refine c_region ?_
  refine x_assign (.int _ _) rfl ?_
  refine x_nil ?_
  refine then_n ?_
  refine c_ret ?_
  refine then_r ?_
  refine ⟨.inr rfl, ?_⟩
  exact ⟨rfl, hs⟩
/-! ### rest -/
def rst (x : Int) (n : Nat) : Int := if n = 0 then -1 else ((pk x n : Nat) : Int)
theorem rem_pk {x : Int} {n : Nat} (h : 0 < n) : (x.tmod n + n).tmod n = (pk x n : Nat) := by
  have h1 := Int.tmod_lt_of_pos x (b := (n : Int)) (by omega)
  have h2 := Int.lt_tmod_of_pos x (b := (n : Int)) (by omega)
  have h3 : (x.tmod n + n).tmod n = (x.tmod n + n).emod n := Int.tmod_eq_emod_of_nonneg (by omega)
  rw [h3]
  unfold pk
  rw [if_neg (by omega)]
  split
  · rw [Int.toNat_of_nonneg (by omega)]
    exact Int.emod_eq_of_lt (by omega) (by omega)
  · rw [Int.toNat_of_nonneg (by omega)]
    show (x.tmod n + n) % (n : Int) = x.tmod n
    rw [Int.add_emod_right]
    exact Int.emod_eq_of_lt (by omega) (by omega)
theorem rest_calls {w0 w : World} {L : List HP} (hs : Sat w0 w L) (x : Int) (n : Nat) (hn : n ≤ 1000000000000) :
    Calls Try.prog 26 #[.int .i64 x, .int .i64 (n : Nat)] w fun e w' => e = .returned (.int .i64 (rst x n)) ∧ Sat w0 w' L ∧ w'.heap = w.heap := by
  refine enter Try.func26 rfl Try.ntmps26 4 rfl (Nat.le_of_ble_eq_true rfl) ?_
  refine c_seq ?_
  -- region 0
  refine c_region ?_
  refine x_assign (.int _ _) rfl ?_
  refine x_nil ?_
  refine then_n ?_
  refine c_seq ?_
  refine c_seq ?_
  -- region 1
  refine c_region ?_
  refine x_move (.int _ _) rfl ?_
  refine x_eql _ _ rfl rfl ?_
  refine x_nil ?_
  refine then_n ?_
  refine c_test _ rfl (fun hb => ?_) (fun hb => ?_)   -- cond t6
  · skip
    refine c_seq ?_
    -- region 2
    refine c_region ?_
    refine x_assign (.int _ _) rfl ?_
    refine x_nil ?_
    refine then_n ?_
    refine c_ret ?_
    refine then_r ?_
    refine ⟨.inr rfl, ?_⟩
    unfold rst
    rw [if_pos (by omega)]
    exact ⟨rfl, hs, rfl⟩
  · skip
    refine c_skip ?_
    refine then_n ?_
    refine c_seq ?_
    -- region 3
    have h1 := Int.tmod_lt_of_pos x (b := (n : Int)) (by omega)
    have h2 := Int.lt_tmod_of_pos x (b := (n : Int)) (by omega)
    refine c_region ?_
    refine x_move (.int _ _) rfl ?_
    refine x_move (.int _ _) rfl ?_
    refine x_rem _ _ rfl rfl (by omega) ?_
    refine x_move (.int _ _) rfl ?_
    refine x_add _ _ rfl rfl (by simp only [X.lo]; omega) (by simp only [X.hi]; omega) ?_
    refine x_move (.int _ _) rfl ?_
    refine x_rem _ _ rfl rfl (by omega) ?_
    refine x_assign (.int _ _) rfl ?_
    refine x_nil ?_
    refine then_n ?_
    refine c_ret ?_
    refine ⟨.inr rfl, ?_⟩
    unfold rst
    rw [if_neg (by omega), ← rem_pk (by omega)]
    exact ⟨rfl, hs, rfl⟩
/-! ### Put -/
def thPut (l : List Thg) (to : Pid) (b : List UInt8) : Bool × List Thg := if 512 ≤ l.length then (false, l) else (true, l ++ [⟨to, b, false⟩])
set_option maxHeartbeats 1000000 in
theorem fput_calls {w0 w : World} {A : HP} {L : List HP} {f : Nat} {l : List Thg} {v : Value} (to : Pid) (b : List UInt8) (hs : Sat w0 w (FP f l :: A :: L)) (hr : ∀ w' L', Sat w0 w' (A :: L') → RB w' v b) (hl : l.length ≤ 1000000) (hb : b.length ≤ 1000000) :
    Calls Try.prog 8 #[.pointer (some ⟨f, 0, none⟩), .agg to.cells.toArray, v] w fun e w' => e = .returned (.bool (thPut l to b).1) ∧ Sat w0 w' (FP f (thPut l to b).2 :: A :: L) := by
  have h0 := hs.fobj
  clear hs
  obtain ⟨ao, c, z, rfl, hs⟩ := h0
  rw [List.length_map] at hl
  obtain ⟨a1, c1, rfl⟩ := (hr _ _ (hs.pull 3)).val
  unfold thPut
  rw [List.length_map]
  refine enter Try.func8 rfl Try.ntmps8 6 rfl (Nat.le_of_ble_eq_true rfl) ?_
  by_cases h5 : 512 ≤ z.length
  · skip
    refine c_seq ?_
    -- region 0
    refine c_region ?_
    refine x_box hs (.agg #[_, _]) rfl ?_; clear hs; intro b4 w hs; refine ⟨fun h => (by first | (cases h; done) | (first | exact hs.cells2 rfl rfl | exact (hs.pull 1).cells2 rfl rfl | exact (hs.pull 2).cells2 rfl rfl | exact (hs.pull 3).cells2 rfl rfl | exact (hs.pull 4).cells2 rfl rfl | exact (hs.pull 5).cells2 rfl rfl | exact (hs.pull 6).cells2 rfl rfl | exact (hs.pull 7).cells2 rfl rfl | exact (hs.pull 8).cells2 rfl rfl | exact hs.cell rfl | exact (hs.pull 1).cell rfl | exact (hs.pull 2).cell rfl | exact (hs.pull 3).cell rfl | exact (hs.pull 4).cell rfl | exact (hs.pull 5).cell rfl | exact (hs.pull 6).cell rfl | exact (hs.pull 7).cell rfl | exact (hs.pull 8).cell rfl | assumption | exact hs.cellsOf | exact (hs.pull 1).cellsOf | exact (hs.pull 2).cellsOf | exact (hs.pull 3).cellsOf | exact (hs.pull 4).cellsOf | exact (hs.pull 5).cellsOf | exact (hs.pull 6).cellsOf | exact (hs.pull 7).cellsOf | exact (hs.pull 8).cellsOf) | (and_intros <;> first | exact hs.cells2 rfl rfl | exact (hs.pull 1).cells2 rfl rfl | exact (hs.pull 2).cells2 rfl rfl | exact (hs.pull 3).cells2 rfl rfl | exact (hs.pull 4).cells2 rfl rfl | exact (hs.pull 5).cells2 rfl rfl | exact (hs.pull 6).cells2 rfl rfl | exact (hs.pull 7).cells2 rfl rfl | exact (hs.pull 8).cells2 rfl rfl | exact hs.cell rfl | exact (hs.pull 1).cell rfl | exact (hs.pull 2).cell rfl | exact (hs.pull 3).cell rfl | exact (hs.pull 4).cell rfl | exact (hs.pull 5).cell rfl | exact (hs.pull 6).cell rfl | exact (hs.pull 7).cell rfl | exact (hs.pull 8).cell rfl | assumption | exact hs.cellsOf | exact (hs.pull 1).cellsOf | exact (hs.pull 2).cellsOf | exact (hs.pull 3).cellsOf | exact (hs.pull 4).cellsOf | exact (hs.pull 5).cellsOf | exact (hs.pull 6).cellsOf | exact (hs.pull 7).cellsOf | exact (hs.pull 8).cellsOf)), ?_⟩
    refine x_assign (.bool _) rfl ?_
    refine x_nil ?_
    refine then_n ?_
    refine c_seq ?_
    refine c_seq ?_
    -- region 1
    refine c_region ?_
    refine x_move (.pointer _) rfl ?_
    refine x_eqlNil Try.underlying24 _ rfl rfl ?_
    refine x_move (.bool _) rfl ?_
    refine x_want' rfl ?_
    refine x_move (.pointer _) rfl ?_
    refine x_want' rfl ?_
    refine x_nilCheck _ rfl ?_
    refine x_want' rfl ?_
    first | refine x_field0 fa_56_0 _ rfl ?_ | refine x_field fa_56_0 _ _ rfl ?_
    refine x_want' rfl ?_
    refine x_load one_54 _ (.slice _ _ _) rfl (by first | exact hs.cell rfl | exact (hs.pull 1).cell rfl | exact (hs.pull 2).cell rfl | exact (hs.pull 3).cell rfl | assumption | exact (hs.pull 4).cell rfl | exact (hs.pull 5).cell rfl | exact (hs.pull 6).cell rfl | exact (hs.pull 7).cell rfl) ?_
    refine x_want' rfl ?_
    refine x_lenSl Try.underlying54 _ _ _ rfl ?_
    refine x_want' rfl ?_
    refine x_geqT _ _ rfl rfl (by omega) ?_
    refine x_pickF (.bool _) rfl rfl ?_
    refine x_nil ?_
    refine then_n ?_
    refine c_true rfl ?_
    refine c_seq ?_
    -- region 2
    refine c_region ?_
    refine x_assign (.bool _) rfl ?_
    refine x_nil ?_
    refine then_n ?_
    refine c_ret ?_
    refine then_r ?_
    refine ⟨.inr rfl, ?_⟩
    rw [if_pos h5]
    exact ⟨rfl, (hs.tail).fobj'⟩
  · skip
    refine c_seq ?_
    -- region 0
    refine c_region ?_
    refine x_box hs (.agg #[_, _]) rfl ?_; clear hs; intro b4 w hs; refine ⟨fun h => (by first | (cases h; done) | (first | exact hs.cells2 rfl rfl | exact (hs.pull 1).cells2 rfl rfl | exact (hs.pull 2).cells2 rfl rfl | exact (hs.pull 3).cells2 rfl rfl | exact (hs.pull 4).cells2 rfl rfl | exact (hs.pull 5).cells2 rfl rfl | exact (hs.pull 6).cells2 rfl rfl | exact (hs.pull 7).cells2 rfl rfl | exact (hs.pull 8).cells2 rfl rfl | exact hs.cell rfl | exact (hs.pull 1).cell rfl | exact (hs.pull 2).cell rfl | exact (hs.pull 3).cell rfl | exact (hs.pull 4).cell rfl | exact (hs.pull 5).cell rfl | exact (hs.pull 6).cell rfl | exact (hs.pull 7).cell rfl | exact (hs.pull 8).cell rfl | assumption | exact hs.cellsOf | exact (hs.pull 1).cellsOf | exact (hs.pull 2).cellsOf | exact (hs.pull 3).cellsOf | exact (hs.pull 4).cellsOf | exact (hs.pull 5).cellsOf | exact (hs.pull 6).cellsOf | exact (hs.pull 7).cellsOf | exact (hs.pull 8).cellsOf) | (and_intros <;> first | exact hs.cells2 rfl rfl | exact (hs.pull 1).cells2 rfl rfl | exact (hs.pull 2).cells2 rfl rfl | exact (hs.pull 3).cells2 rfl rfl | exact (hs.pull 4).cells2 rfl rfl | exact (hs.pull 5).cells2 rfl rfl | exact (hs.pull 6).cells2 rfl rfl | exact (hs.pull 7).cells2 rfl rfl | exact (hs.pull 8).cells2 rfl rfl | exact hs.cell rfl | exact (hs.pull 1).cell rfl | exact (hs.pull 2).cell rfl | exact (hs.pull 3).cell rfl | exact (hs.pull 4).cell rfl | exact (hs.pull 5).cell rfl | exact (hs.pull 6).cell rfl | exact (hs.pull 7).cell rfl | exact (hs.pull 8).cell rfl | assumption | exact hs.cellsOf | exact (hs.pull 1).cellsOf | exact (hs.pull 2).cellsOf | exact (hs.pull 3).cellsOf | exact (hs.pull 4).cellsOf | exact (hs.pull 5).cellsOf | exact (hs.pull 6).cellsOf | exact (hs.pull 7).cellsOf | exact (hs.pull 8).cellsOf)), ?_⟩
    refine x_assign (.bool _) rfl ?_
    refine x_nil ?_
    refine then_n ?_
    refine c_seq ?_
    refine c_seq ?_
    -- region 1
    refine c_region ?_
    refine x_move (.pointer _) rfl ?_
    refine x_eqlNil Try.underlying24 _ rfl rfl ?_
    refine x_move (.bool _) rfl ?_
    refine x_want' rfl ?_
    refine x_move (.pointer _) rfl ?_
    refine x_want' rfl ?_
    refine x_nilCheck _ rfl ?_
    refine x_want' rfl ?_
    first | refine x_field0 fa_56_0 _ rfl ?_ | refine x_field fa_56_0 _ _ rfl ?_
    refine x_want' rfl ?_
    refine x_load one_54 _ (.slice _ _ _) rfl (by first | exact hs.cell rfl | exact (hs.pull 1).cell rfl | exact (hs.pull 2).cell rfl | exact (hs.pull 3).cell rfl | assumption | exact (hs.pull 4).cell rfl | exact (hs.pull 5).cell rfl | exact (hs.pull 6).cell rfl | exact (hs.pull 7).cell rfl) ?_
    refine x_want' rfl ?_
    refine x_lenSl Try.underlying54 _ _ _ rfl ?_
    refine x_want' rfl ?_
    refine x_geqF _ _ rfl rfl (by omega) ?_
    refine x_pickF (.bool _) rfl rfl ?_
    refine x_nil ?_
    refine then_n ?_
    refine c_false rfl ?_
    refine c_skip ?_
    refine then_n ?_
    refine c_seq ?_
    -- region 3 DRAWS
    refine c_draw (fun w => w.cell? ⟨f, 0, none⟩ = some (.slice ao z.length c) ∧ (∀ (j : Nat) (u : Value), [Value.int .u16 (to.Id : Nat), Value.int .u32 (to.Inc : Nat)][j]? = some u → w.cell? ((⟨b4, 0, none⟩ : Addr).add j) = some u)) (fun i => !(Nat.beq i 10 || Nat.beq i 13)) [(0, 2), (1, 2), (2, 2), (3, 2), (4, 1), (5, 1), (6, 2), (7, 0), (8, 2), (9, 0), (10, 0), (11, 2), (12, 2), (13, 0)] (by kernel_rfl) (by kernel_rfl) (by kernel_rfl) (by kernel_rfl) ((by first | (first | exact hs.cells2 rfl rfl | exact (hs.pull 1).cells2 rfl rfl | exact (hs.pull 2).cells2 rfl rfl | exact (hs.pull 3).cells2 rfl rfl | exact (hs.pull 4).cells2 rfl rfl | exact (hs.pull 5).cells2 rfl rfl | exact (hs.pull 6).cells2 rfl rfl | exact (hs.pull 7).cells2 rfl rfl | exact (hs.pull 8).cells2 rfl rfl | exact hs.cell rfl | exact (hs.pull 1).cell rfl | exact (hs.pull 2).cell rfl | exact (hs.pull 3).cell rfl | exact (hs.pull 4).cell rfl | exact (hs.pull 5).cell rfl | exact (hs.pull 6).cell rfl | exact (hs.pull 7).cell rfl | exact (hs.pull 8).cell rfl | assumption | exact hs.cellsOf | exact (hs.pull 1).cellsOf | exact (hs.pull 2).cellsOf | exact (hs.pull 3).cellsOf | exact (hs.pull 4).cellsOf | exact (hs.pull 5).cellsOf | exact (hs.pull 6).cellsOf | exact (hs.pull 7).cellsOf | exact (hs.pull 8).cellsOf) | (and_intros <;> first | exact hs.cells2 rfl rfl | exact (hs.pull 1).cells2 rfl rfl | exact (hs.pull 2).cells2 rfl rfl | exact (hs.pull 3).cells2 rfl rfl | exact (hs.pull 4).cells2 rfl rfl | exact (hs.pull 5).cells2 rfl rfl | exact (hs.pull 6).cells2 rfl rfl | exact (hs.pull 7).cells2 rfl rfl | exact (hs.pull 8).cells2 rfl rfl | exact hs.cell rfl | exact (hs.pull 1).cell rfl | exact (hs.pull 2).cell rfl | exact (hs.pull 3).cell rfl | exact (hs.pull 4).cell rfl | exact (hs.pull 5).cell rfl | exact (hs.pull 6).cell rfl | exact (hs.pull 7).cell rfl | exact (hs.pull 8).cell rfl | assumption | exact hs.cellsOf | exact (hs.pull 1).cellsOf | exact (hs.pull 2).cellsOf | exact (hs.pull 3).cellsOf | exact (hs.pull 4).cellsOf | exact (hs.pull 5).cellsOf | exact (hs.pull 6).cellsOf | exact (hs.pull 7).cellsOf | exact (hs.pull 8).cellsOf))) ?_
    replace hs := hs.drew
    refine x_move (.pointer _) rfl ?_
    refine x_move (.pointer _) rfl ?_
    refine x_nilCheck _ rfl ?_
    first | refine x_field0 fa_56_0 _ rfl ?_ | refine x_field fa_56_0 _ _ rfl ?_
    refine h_load one_54 _ (.slice _ _ _) rfl (fun w hS => by first | exact hS.cell rfl | exact (hS.pull 1).cell rfl | exact (hS.pull 2).cell rfl | exact (hS.pull 3).cell rfl | exact (hS.pull 4).cell rfl | exact (hS.pull 5).cell rfl | exact (hS.pull 6).cell rfl | exact hS | exact hS.1 | exact hS.2 | exact hS.2.1 | exact hS.2.2 | exact hS.2.2.1 | exact hS.2.2.2 | exact hS.2.2.2.1 | exact hS.2.2.2.2) ?_
    refine h_loadN [_, _] agg_30 _ rfl (fun w hS => by first | exact hS | exact hS.1 | exact hS.2 | exact hS.2.1 | exact hS.2.2 | exact hS.2.2.1 | exact hS.2.2.2 | exact hS.2.2.2.1 | exact hS.2.2.2.2 | exact hS.cellsOf | exact (hS.pull 1).cellsOf | exact (hS.pull 2).cellsOf | exact (hS.pull 3).cellsOf | exact (hS.pull 4).cellsOf | exact (hS.pull 5).cellsOf | exact (hS.pull 6).cellsOf | exact hS.cells2 rfl rfl | exact (hS.pull 1).cells2 rfl rfl | exact (hS.pull 2).cells2 rfl rfl | exact (hS.pull 3).cells2 rfl rfl | exact (hS.pull 4).cells2 rfl rfl | exact (hS.pull 5).cells2 rfl rfl | exact (hS.pull 6).cells2 rfl rfl) ?_
    refine x_move (.slice _ _ _) rfl ?_
    refine x_call Try.f24 Try.func24 rfl rfl _ rfl ?_
    refine (clone_calls hs (hr _ _ (hs.pull 4)) (by omega)).mono ?_
    clear hs; rintro e w ⟨v', rfl, hs⟩
    refine ⟨_, rfl, fun h => (by first | (cases h; done) | (first | exact hs.cells2 rfl rfl | exact (hs.pull 1).cells2 rfl rfl | exact (hs.pull 2).cells2 rfl rfl | exact (hs.pull 3).cells2 rfl rfl | exact (hs.pull 4).cells2 rfl rfl | exact (hs.pull 5).cells2 rfl rfl | exact (hs.pull 6).cells2 rfl rfl | exact (hs.pull 7).cells2 rfl rfl | exact (hs.pull 8).cells2 rfl rfl | exact hs.cell rfl | exact (hs.pull 1).cell rfl | exact (hs.pull 2).cell rfl | exact (hs.pull 3).cell rfl | exact (hs.pull 4).cell rfl | exact (hs.pull 5).cell rfl | exact (hs.pull 6).cell rfl | exact (hs.pull 7).cell rfl | exact (hs.pull 8).cell rfl | assumption | exact hs.cellsOf | exact (hs.pull 1).cellsOf | exact (hs.pull 2).cellsOf | exact (hs.pull 3).cellsOf | exact (hs.pull 4).cellsOf | exact (hs.pull 5).cellsOf | exact (hs.pull 6).cellsOf | exact (hs.pull 7).cellsOf | exact (hs.pull 8).cellsOf) | (and_intros <;> first | exact hs.cells2 rfl rfl | exact (hs.pull 1).cells2 rfl rfl | exact (hs.pull 2).cells2 rfl rfl | exact (hs.pull 3).cells2 rfl rfl | exact (hs.pull 4).cells2 rfl rfl | exact (hs.pull 5).cells2 rfl rfl | exact (hs.pull 6).cells2 rfl rfl | exact (hs.pull 7).cells2 rfl rfl | exact (hs.pull 8).cells2 rfl rfl | exact hs.cell rfl | exact (hs.pull 1).cell rfl | exact (hs.pull 2).cell rfl | exact (hs.pull 3).cell rfl | exact (hs.pull 4).cell rfl | exact (hs.pull 5).cell rfl | exact (hs.pull 6).cell rfl | exact (hs.pull 7).cell rfl | exact (hs.pull 8).cell rfl | assumption | exact hs.cellsOf | exact (hs.pull 1).cellsOf | exact (hs.pull 2).cellsOf | exact (hs.pull 3).cellsOf | exact (hs.pull 4).cellsOf | exact (hs.pull 5).cellsOf | exact (hs.pull 6).cellsOf | exact (hs.pull 7).cellsOf | exact (hs.pull 8).cellsOf)), ?_⟩
    obtain ⟨a2, c2, rfl⟩ := hs.br.val
    refine x_build _ [(0, (.agg #[(.int .u16 _), (.int .u32 _)])), (1, (.slice _ _ _))] rfl (fun w => bd_59_0_1 _ _ _ _ _ w) ?_
    refine x_buildSlice _ [(0, (.agg #[(.int .u16 _), (.int .u32 _), (.slice _ _ _), (.bool _)]))] hs rfl (fun w => bs_54_1 _ _ _ _ _ _ w) ?_; clear hs; intro b26 w hs; refine ⟨fun h => (by first | (cases h; done) | (first | exact hs.cells2 rfl rfl | exact (hs.pull 1).cells2 rfl rfl | exact (hs.pull 2).cells2 rfl rfl | exact (hs.pull 3).cells2 rfl rfl | exact (hs.pull 4).cells2 rfl rfl | exact (hs.pull 5).cells2 rfl rfl | exact (hs.pull 6).cells2 rfl rfl | exact (hs.pull 7).cells2 rfl rfl | exact (hs.pull 8).cells2 rfl rfl | exact hs.cell rfl | exact (hs.pull 1).cell rfl | exact (hs.pull 2).cell rfl | exact (hs.pull 3).cell rfl | exact (hs.pull 4).cell rfl | exact (hs.pull 5).cell rfl | exact (hs.pull 6).cell rfl | exact (hs.pull 7).cell rfl | exact (hs.pull 8).cell rfl | assumption | exact hs.cellsOf | exact (hs.pull 1).cellsOf | exact (hs.pull 2).cellsOf | exact (hs.pull 3).cellsOf | exact (hs.pull 4).cellsOf | exact (hs.pull 5).cellsOf | exact (hs.pull 6).cellsOf | exact (hs.pull 7).cellsOf | exact (hs.pull 8).cellsOf) | (and_intros <;> first | exact hs.cells2 rfl rfl | exact (hs.pull 1).cells2 rfl rfl | exact (hs.pull 2).cells2 rfl rfl | exact (hs.pull 3).cells2 rfl rfl | exact (hs.pull 4).cells2 rfl rfl | exact (hs.pull 5).cells2 rfl rfl | exact (hs.pull 6).cells2 rfl rfl | exact (hs.pull 7).cells2 rfl rfl | exact (hs.pull 8).cells2 rfl rfl | exact hs.cell rfl | exact (hs.pull 1).cell rfl | exact (hs.pull 2).cell rfl | exact (hs.pull 3).cell rfl | exact (hs.pull 4).cell rfl | exact (hs.pull 5).cell rfl | exact (hs.pull 6).cell rfl | exact (hs.pull 7).cell rfl | exact (hs.pull 8).cell rfl | assumption | exact hs.cellsOf | exact (hs.pull 1).cellsOf | exact (hs.pull 2).cellsOf | exact (hs.pull 3).cellsOf | exact (hs.pull 4).cellsOf | exact (hs.pull 5).cellsOf | exact (hs.pull 6).cellsOf | exact (hs.pull 7).cellsOf | exact (hs.pull 8).cellsOf)), ?_⟩
    have hrd := rd_blk (size := 4) hs rfl
    refine x_append (hs.pull 4) Try.underlying54 ei_59 hrd (by intro u hu; simp at hu; rcases hu with rfl | rfl | rfl | rfl <;> rfl) (by unfold maxLen; omega) (by omega) rfl rfl ?_
    clear hs hrd; intro v w hs; refine ⟨fun h => (by cases h), ?_⟩
    obtain ⟨a7, c7, rfl⟩ := hs.rd.val
    refine x_nilCheck _ rfl ?_
    first | refine x_field0 fa_56_0 _ rfl ?_ | refine x_field fa_56_0 _ _ rfl ?_
    first
      | refine x_storeI hs 0 rfl rfl one_54 (.slice _ _ _) rfl rfl rfl ?_
      | refine x_storeI hs 1 rfl rfl one_54 (.slice _ _ _) rfl rfl rfl ?_
      | refine x_storeI hs 2 rfl rfl one_54 (.slice _ _ _) rfl rfl rfl ?_
      | refine x_storeI hs 3 rfl rfl one_54 (.slice _ _ _) rfl rfl rfl ?_
      | refine x_storeI hs 4 rfl rfl one_54 (.slice _ _ _) rfl rfl rfl ?_
      | refine x_storeI hs 5 rfl rfl one_54 (.slice _ _ _) rfl rfl rfl ?_
      | refine x_storeI hs 6 rfl rfl one_54 (.slice _ _ _) rfl rfl rfl ?_
      | refine x_storeI hs 7 rfl rfl one_54 (.slice _ _ _) rfl rfl rfl ?_
    clear hs; intro w hs
    try dsimp only [back, List.set_cons_zero, List.set_cons_succ] at hs
    refine ⟨fun h => (by first | (cases h; done) | (first | exact hs.cells2 rfl rfl | exact (hs.pull 1).cells2 rfl rfl | exact (hs.pull 2).cells2 rfl rfl | exact (hs.pull 3).cells2 rfl rfl | exact (hs.pull 4).cells2 rfl rfl | exact (hs.pull 5).cells2 rfl rfl | exact (hs.pull 6).cells2 rfl rfl | exact (hs.pull 7).cells2 rfl rfl | exact (hs.pull 8).cells2 rfl rfl | exact hs.cell rfl | exact (hs.pull 1).cell rfl | exact (hs.pull 2).cell rfl | exact (hs.pull 3).cell rfl | exact (hs.pull 4).cell rfl | exact (hs.pull 5).cell rfl | exact (hs.pull 6).cell rfl | exact (hs.pull 7).cell rfl | exact (hs.pull 8).cell rfl | assumption | exact hs.cellsOf | exact (hs.pull 1).cellsOf | exact (hs.pull 2).cellsOf | exact (hs.pull 3).cellsOf | exact (hs.pull 4).cellsOf | exact (hs.pull 5).cellsOf | exact (hs.pull 6).cellsOf | exact (hs.pull 7).cellsOf | exact (hs.pull 8).cellsOf) | (and_intros <;> first | exact hs.cells2 rfl rfl | exact (hs.pull 1).cells2 rfl rfl | exact (hs.pull 2).cells2 rfl rfl | exact (hs.pull 3).cells2 rfl rfl | exact (hs.pull 4).cells2 rfl rfl | exact (hs.pull 5).cells2 rfl rfl | exact (hs.pull 6).cells2 rfl rfl | exact (hs.pull 7).cells2 rfl rfl | exact (hs.pull 8).cells2 rfl rfl | exact hs.cell rfl | exact (hs.pull 1).cell rfl | exact (hs.pull 2).cell rfl | exact (hs.pull 3).cell rfl | exact (hs.pull 4).cell rfl | exact (hs.pull 5).cell rfl | exact (hs.pull 6).cell rfl | exact (hs.pull 7).cell rfl | exact (hs.pull 8).cell rfl | assumption | exact hs.cellsOf | exact (hs.pull 1).cellsOf | exact (hs.pull 2).cellsOf | exact (hs.pull 3).cellsOf | exact (hs.pull 4).cellsOf | exact (hs.pull 5).cellsOf | exact (hs.pull 6).cellsOf | exact (hs.pull 7).cellsOf | exact (hs.pull 8).cellsOf)), ?_⟩
    refine x_nil ?_
    refine then_n ?_
    refine c_seq ?_
    -- region 4
    refine c_region ?_
    refine x_assign (.bool _) rfl ?_
    refine x_nil ?_
    refine then_n ?_
    refine c_ret ?_
    refine ⟨.inr rfl, ?_⟩
    rw [if_neg h5]
    have hs := ((hs.pull 1).tail.pull 2).tail.perm [2, 0, 3, 1, 4]
    exact ⟨rfl, fobj_snoc (t := ⟨to, b, false⟩) hs⟩
end Go.Proofs.Ytipleepbhcembaa.X
