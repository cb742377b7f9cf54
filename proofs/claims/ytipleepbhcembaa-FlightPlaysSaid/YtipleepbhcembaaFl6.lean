/-
  LAYER 14: Take, Double.
-/
import Derived.Test.YtipleepbhcembaaFl5
import Derived.Test.YtipleepbhcembaaDel
namespace Go.Proofs.Ytipleepbhcembaa.X
open Go Go.RowKit
set_option linter.unusedVariables false
set_option maxRecDepth 20000
def thTake (l : List Thg) (a : Int) : List Thg := l.eraseIdx (pk a l.length)
def thDouble (l : List Thg) (a : Int) : Bool × List Thg := if l.length = 0 ∨ 512 ≤ l.length then (false, l) else (true, l ++ [thLook l a])
theorem map_eraseIdx {α β : Type} (f : α → β) : ∀ (l : List α) (i : Nat), (l.eraseIdx i).map f = (l.map f).eraseIdx i
  | [], _ => rfl
  | _ :: _, 0 => rfl
  | x :: l, i + 1 => by simp [map_eraseIdx f l i]
theorem tcells_erase (z : List (Thg × Value)) (k : Nat) : (tcells z).take (k * 4) ++ (tcells z).drop ((k + 1) * 4) = tcells (z.eraseIdx k) := by
  unfold tcells
  rw [flat_erase (trow z), map_eraseIdx]
set_option maxHeartbeats 1000000 in
theorem ftake_calls {w0 w : World} {L : List HP} {f : Nat} {l : List Thg} (at' : Int) (hs : Sat w0 w (FP f l :: L)) (hl : l.length ≤ 1000000) (hb : ∀ t ∈ l, t.b.length ≤ 1000000) (h0 : 0 < l.length) :
    Calls Try.prog 15 #[.pointer (some ⟨f, 0, none⟩), .int .i64 at'] w fun e w' => ∃ a c, e = .returned (.tuple #[.agg (thLook l at').to.cells.toArray, .slice a (thLook l at').b.length c, .bool true]) ∧ Sat w0 w' (BR (.slice a (thLook l at').b.length c) (thLook l at').b :: FP f (thTake l at') :: L) := by
  refine enterC3 Try.func15 rfl Try.ntmps15 agg_30 4 5 6 rfl (Nat.le_of_ble_eq_true rfl) ?_
  refine c_seq ?_
  -- region 0
  refine c_region ?_
  refine x_alloc zi_30 hs ?_; clear hs; intro b4 w hs; refine ⟨fun h => (by first | (cases h; done) | (first | exact hs.cells2 rfl rfl | exact (hs.pull 1).cells2 rfl rfl | exact (hs.pull 2).cells2 rfl rfl | exact (hs.pull 3).cells2 rfl rfl | exact (hs.pull 4).cells2 rfl rfl | exact (hs.pull 5).cells2 rfl rfl | exact (hs.pull 6).cells2 rfl rfl | exact (hs.pull 7).cells2 rfl rfl | exact (hs.pull 8).cells2 rfl rfl | exact hs.cell rfl | exact (hs.pull 1).cell rfl | exact (hs.pull 2).cell rfl | exact (hs.pull 3).cell rfl | exact (hs.pull 4).cell rfl | exact (hs.pull 5).cell rfl | exact (hs.pull 6).cell rfl | exact (hs.pull 7).cell rfl | exact (hs.pull 8).cell rfl | assumption | exact hs.cellsOf | exact (hs.pull 1).cellsOf | exact (hs.pull 2).cellsOf | exact (hs.pull 3).cellsOf | exact (hs.pull 4).cellsOf | exact (hs.pull 5).cellsOf | exact (hs.pull 6).cellsOf | exact (hs.pull 7).cellsOf | exact (hs.pull 8).cellsOf) | (and_intros <;> first | exact hs.cells2 rfl rfl | exact (hs.pull 1).cells2 rfl rfl | exact (hs.pull 2).cells2 rfl rfl | exact (hs.pull 3).cells2 rfl rfl | exact (hs.pull 4).cells2 rfl rfl | exact (hs.pull 5).cells2 rfl rfl | exact (hs.pull 6).cells2 rfl rfl | exact (hs.pull 7).cells2 rfl rfl | exact (hs.pull 8).cells2 rfl rfl | exact hs.cell rfl | exact (hs.pull 1).cell rfl | exact (hs.pull 2).cell rfl | exact (hs.pull 3).cell rfl | exact (hs.pull 4).cell rfl | exact (hs.pull 5).cell rfl | exact (hs.pull 6).cell rfl | exact (hs.pull 7).cell rfl | exact (hs.pull 8).cell rfl | assumption | exact hs.cellsOf | exact (hs.pull 1).cellsOf | exact (hs.pull 2).cellsOf | exact (hs.pull 3).cellsOf | exact (hs.pull 4).cellsOf | exact (hs.pull 5).cellsOf | exact (hs.pull 6).cellsOf | exact (hs.pull 7).cellsOf | exact (hs.pull 8).cellsOf)), ?_⟩
  refine x_assign (.slice _ _ _) rfl ?_
  refine x_assign (.bool _) rfl ?_
  refine x_nil ?_
  refine then_n ?_
  refine c_seq ?_
  -- region 1
  refine c_region ?_
  refine x_move (.int _ _) rfl ?_
  refine x_move (.pointer _) rfl ?_
  refine x_call Try.f23 Try.func23 rfl rfl _ rfl ?_
  refine (flen_calls (hs.pull 1)).mono ?_
  clear hs; rintro e w ⟨rfl, hs⟩
  replace hs := hs.push 1
  try dsimp only [back] at hs
  refine ⟨_, rfl, fun h => (by first | (cases h; done) | (first | exact hs.cells2 rfl rfl | exact (hs.pull 1).cells2 rfl rfl | exact (hs.pull 2).cells2 rfl rfl | exact (hs.pull 3).cells2 rfl rfl | exact (hs.pull 4).cells2 rfl rfl | exact (hs.pull 5).cells2 rfl rfl | exact (hs.pull 6).cells2 rfl rfl | exact (hs.pull 7).cells2 rfl rfl | exact (hs.pull 8).cells2 rfl rfl | exact hs.cell rfl | exact (hs.pull 1).cell rfl | exact (hs.pull 2).cell rfl | exact (hs.pull 3).cell rfl | exact (hs.pull 4).cell rfl | exact (hs.pull 5).cell rfl | exact (hs.pull 6).cell rfl | exact (hs.pull 7).cell rfl | exact (hs.pull 8).cell rfl | assumption | exact hs.cellsOf | exact (hs.pull 1).cellsOf | exact (hs.pull 2).cellsOf | exact (hs.pull 3).cellsOf | exact (hs.pull 4).cellsOf | exact (hs.pull 5).cellsOf | exact (hs.pull 6).cellsOf | exact (hs.pull 7).cellsOf | exact (hs.pull 8).cellsOf) | (and_intros <;> first | exact hs.cells2 rfl rfl | exact (hs.pull 1).cells2 rfl rfl | exact (hs.pull 2).cells2 rfl rfl | exact (hs.pull 3).cells2 rfl rfl | exact (hs.pull 4).cells2 rfl rfl | exact (hs.pull 5).cells2 rfl rfl | exact (hs.pull 6).cells2 rfl rfl | exact (hs.pull 7).cells2 rfl rfl | exact (hs.pull 8).cells2 rfl rfl | exact hs.cell rfl | exact (hs.pull 1).cell rfl | exact (hs.pull 2).cell rfl | exact (hs.pull 3).cell rfl | exact (hs.pull 4).cell rfl | exact (hs.pull 5).cell rfl | exact (hs.pull 6).cell rfl | exact (hs.pull 7).cell rfl | exact (hs.pull 8).cell rfl | assumption | exact hs.cellsOf | exact (hs.pull 1).cellsOf | exact (hs.pull 2).cellsOf | exact (hs.pull 3).cellsOf | exact (hs.pull 4).cellsOf | exact (hs.pull 5).cellsOf | exact (hs.pull 6).cellsOf | exact (hs.pull 7).cellsOf | exact (hs.pull 8).cellsOf)), ?_⟩
  refine x_call Try.f26 Try.func26 rfl rfl _ rfl ?_
  refine (restk_calls hs at' _ (by omega) (by omega)).mono ?_
  clear hs; rintro e w ⟨rfl, hs⟩
  refine ⟨_, rfl, fun h => (by first | (cases h; done) | (first | exact hs.cells2 rfl rfl | exact (hs.pull 1).cells2 rfl rfl | exact (hs.pull 2).cells2 rfl rfl | exact (hs.pull 3).cells2 rfl rfl | exact (hs.pull 4).cells2 rfl rfl | exact (hs.pull 5).cells2 rfl rfl | exact (hs.pull 6).cells2 rfl rfl | exact (hs.pull 7).cells2 rfl rfl | exact (hs.pull 8).cells2 rfl rfl | exact hs.cell rfl | exact (hs.pull 1).cell rfl | exact (hs.pull 2).cell rfl | exact (hs.pull 3).cell rfl | exact (hs.pull 4).cell rfl | exact (hs.pull 5).cell rfl | exact (hs.pull 6).cell rfl | exact (hs.pull 7).cell rfl | exact (hs.pull 8).cell rfl | assumption | exact hs.cellsOf | exact (hs.pull 1).cellsOf | exact (hs.pull 2).cellsOf | exact (hs.pull 3).cellsOf | exact (hs.pull 4).cellsOf | exact (hs.pull 5).cellsOf | exact (hs.pull 6).cellsOf | exact (hs.pull 7).cellsOf | exact (hs.pull 8).cellsOf) | (and_intros <;> first | exact hs.cells2 rfl rfl | exact (hs.pull 1).cells2 rfl rfl | exact (hs.pull 2).cells2 rfl rfl | exact (hs.pull 3).cells2 rfl rfl | exact (hs.pull 4).cells2 rfl rfl | exact (hs.pull 5).cells2 rfl rfl | exact (hs.pull 6).cells2 rfl rfl | exact (hs.pull 7).cells2 rfl rfl | exact (hs.pull 8).cells2 rfl rfl | exact hs.cell rfl | exact (hs.pull 1).cell rfl | exact (hs.pull 2).cell rfl | exact (hs.pull 3).cell rfl | exact (hs.pull 4).cell rfl | exact (hs.pull 5).cell rfl | exact (hs.pull 6).cell rfl | exact (hs.pull 7).cell rfl | exact (hs.pull 8).cell rfl | assumption | exact hs.cellsOf | exact (hs.pull 1).cellsOf | exact (hs.pull 2).cellsOf | exact (hs.pull 3).cellsOf | exact (hs.pull 4).cellsOf | exact (hs.pull 5).cellsOf | exact (hs.pull 6).cellsOf | exact (hs.pull 7).cellsOf | exact (hs.pull 8).cellsOf)), ?_⟩
  refine x_assign (.int _ _) rfl ?_
  refine x_nil ?_
  refine then_n ?_
  refine c_seq ?_
  refine c_seq ?_
  -- region 2
  refine c_region ?_
  refine x_move (.int _ _) rfl ?_
  refine x_lssF _ _ rfl rfl (by omega) ?_
  refine x_nil ?_
  refine then_n ?_
  refine c_false rfl ?_
  refine c_skip ?_
  refine then_n ?_
  refine c_seq ?_
  -- region 4
  have hf := (hs.pull 1).fobj
  clear hs
  obtain ⟨ao, c, z, rfl, hs⟩ := hf
  rw [List.length_map] at *
  have hz0 : 0 < z.length := by omega
  obtain ⟨t, u, hz, hlk⟩ := thLook_z (a := at') hz0
  have hk := pk_lt' (x := at') hz0
  obtain ⟨z1, z2⟩ := zs hz
  have hbt := hb t (List.mem_map.2 ⟨(t, u), List.mem_of_getElem? hz, rfl⟩)
  rw [hlk]
  obtain ⟨g, o, rfl⟩ := (hs.pull 1).rowAddr hz0
  obtain ⟨a5, c5, rfl⟩ := ((hs.pull 2).eachRB z1 z2).val
  have hcells := RS.all (cells := tcell) (hs.pull 1).rd (fun _ => rfl) hz
  unfold thTake
  rw [List.length_map]
  refine c_region ?_
  refine x_move (.pointer _) rfl ?_
  refine x_nilCheck _ rfl ?_
  first | refine x_field0 fa_56_0 _ rfl ?_ | refine x_field fa_56_0 _ _ rfl ?_
  refine x_load one_54 _ (.slice _ _ _) rfl (by first | exact hs.cell rfl | exact (hs.pull 1).cell rfl | exact (hs.pull 2).cell rfl | exact (hs.pull 3).cell rfl | assumption | exact (hs.pull 4).cell rfl | exact (hs.pull 5).cell rfl | exact (hs.pull 6).cell rfl | exact (hs.pull 7).cell rfl) ?_
  refine x_move (.int _ _) rfl ?_
  refine x_indexAddr Try.underlying54 sz_59 _ _ _ _ _ rfl rfl (by omega) ?_
  refine x_loadN [.int .u16 (t.to.Id : Nat), .int .u32 (t.to.Inc : Nat), .slice a5 t.b.length c5, .bool t.sp] agg_59 _ rfl hcells ?_
  refine x_alloc zi_59 hs ?_; clear hs; intro b8 w hs; refine ⟨fun h => (by first | (cases h; done) | (first | exact hs.cells2 rfl rfl | exact (hs.pull 1).cells2 rfl rfl | exact (hs.pull 2).cells2 rfl rfl | exact (hs.pull 3).cells2 rfl rfl | exact (hs.pull 4).cells2 rfl rfl | exact (hs.pull 5).cells2 rfl rfl | exact (hs.pull 6).cells2 rfl rfl | exact (hs.pull 7).cells2 rfl rfl | exact (hs.pull 8).cells2 rfl rfl | exact hs.cell rfl | exact (hs.pull 1).cell rfl | exact (hs.pull 2).cell rfl | exact (hs.pull 3).cell rfl | exact (hs.pull 4).cell rfl | exact (hs.pull 5).cell rfl | exact (hs.pull 6).cell rfl | exact (hs.pull 7).cell rfl | exact (hs.pull 8).cell rfl | assumption | exact hs.cellsOf | exact (hs.pull 1).cellsOf | exact (hs.pull 2).cellsOf | exact (hs.pull 3).cellsOf | exact (hs.pull 4).cellsOf | exact (hs.pull 5).cellsOf | exact (hs.pull 6).cellsOf | exact (hs.pull 7).cellsOf | exact (hs.pull 8).cellsOf) | (and_intros <;> first | exact hs.cells2 rfl rfl | exact (hs.pull 1).cells2 rfl rfl | exact (hs.pull 2).cells2 rfl rfl | exact (hs.pull 3).cells2 rfl rfl | exact (hs.pull 4).cells2 rfl rfl | exact (hs.pull 5).cells2 rfl rfl | exact (hs.pull 6).cells2 rfl rfl | exact (hs.pull 7).cells2 rfl rfl | exact (hs.pull 8).cells2 rfl rfl | exact hs.cell rfl | exact (hs.pull 1).cell rfl | exact (hs.pull 2).cell rfl | exact (hs.pull 3).cell rfl | exact (hs.pull 4).cell rfl | exact (hs.pull 5).cell rfl | exact (hs.pull 6).cell rfl | exact (hs.pull 7).cell rfl | exact (hs.pull 8).cell rfl | assumption | exact hs.cellsOf | exact (hs.pull 1).cellsOf | exact (hs.pull 2).cellsOf | exact (hs.pull 3).cellsOf | exact (hs.pull 4).cellsOf | exact (hs.pull 5).cellsOf | exact (hs.pull 6).cellsOf | exact (hs.pull 7).cellsOf | exact (hs.pull 8).cellsOf)), ?_⟩
  first
    | refine x_storeAllI hs 0 rfl rfl agg_59 [_, _, _, _] rfl rfl rfl rfl ?_
    | refine x_storeAllI hs 1 rfl rfl agg_59 [_, _, _, _] rfl rfl rfl rfl ?_
    | refine x_storeAllI hs 2 rfl rfl agg_59 [_, _, _, _] rfl rfl rfl rfl ?_
    | refine x_storeAllI hs 3 rfl rfl agg_59 [_, _, _, _] rfl rfl rfl rfl ?_
    | refine x_storeAllI hs 4 rfl rfl agg_59 [_, _, _, _] rfl rfl rfl rfl ?_
    | refine x_storeAllI hs 5 rfl rfl agg_59 [_, _, _, _] rfl rfl rfl rfl ?_
    | refine x_storeAllI hs 6 rfl rfl agg_59 [_, _, _, _] rfl rfl rfl rfl ?_
    | refine x_storeAllI hs 7 rfl rfl agg_59 [_, _, _, _] rfl rfl rfl rfl ?_
  clear hs; intro w hs
  try dsimp only [back, List.set_cons_zero, List.set_cons_succ] at hs
  refine ⟨fun h => (by first | (cases h; done) | (first | exact hs.cells2 rfl rfl | exact (hs.pull 1).cells2 rfl rfl | exact (hs.pull 2).cells2 rfl rfl | exact (hs.pull 3).cells2 rfl rfl | exact (hs.pull 4).cells2 rfl rfl | exact (hs.pull 5).cells2 rfl rfl | exact (hs.pull 6).cells2 rfl rfl | exact (hs.pull 7).cells2 rfl rfl | exact (hs.pull 8).cells2 rfl rfl | exact hs.cell rfl | exact (hs.pull 1).cell rfl | exact (hs.pull 2).cell rfl | exact (hs.pull 3).cell rfl | exact (hs.pull 4).cell rfl | exact (hs.pull 5).cell rfl | exact (hs.pull 6).cell rfl | exact (hs.pull 7).cell rfl | exact (hs.pull 8).cell rfl | assumption | exact hs.cellsOf | exact (hs.pull 1).cellsOf | exact (hs.pull 2).cellsOf | exact (hs.pull 3).cellsOf | exact (hs.pull 4).cellsOf | exact (hs.pull 5).cellsOf | exact (hs.pull 6).cellsOf | exact (hs.pull 7).cellsOf | exact (hs.pull 8).cellsOf) | (and_intros <;> first | exact hs.cells2 rfl rfl | exact (hs.pull 1).cells2 rfl rfl | exact (hs.pull 2).cells2 rfl rfl | exact (hs.pull 3).cells2 rfl rfl | exact (hs.pull 4).cells2 rfl rfl | exact (hs.pull 5).cells2 rfl rfl | exact (hs.pull 6).cells2 rfl rfl | exact (hs.pull 7).cells2 rfl rfl | exact (hs.pull 8).cells2 rfl rfl | exact hs.cell rfl | exact (hs.pull 1).cell rfl | exact (hs.pull 2).cell rfl | exact (hs.pull 3).cell rfl | exact (hs.pull 4).cell rfl | exact (hs.pull 5).cell rfl | exact (hs.pull 6).cell rfl | exact (hs.pull 7).cell rfl | exact (hs.pull 8).cell rfl | assumption | exact hs.cellsOf | exact (hs.pull 1).cellsOf | exact (hs.pull 2).cellsOf | exact (hs.pull 3).cellsOf | exact (hs.pull 4).cellsOf | exact (hs.pull 5).cellsOf | exact (hs.pull 6).cellsOf | exact (hs.pull 7).cellsOf | exact (hs.pull 8).cellsOf)), ?_⟩
  refine x_nil ?_
  refine then_n ?_
  refine c_seq ?_
  -- region 5
  clear hcells
  have hone := tones (hs.pull 3)
  refine c_region ?_
  refine x_move (.pointer _) rfl ?_
  refine x_move (.pointer _) rfl ?_
  refine x_nilCheck _ rfl ?_
  first | refine x_field0 fa_56_0 _ rfl ?_ | refine x_field fa_56_0 _ _ rfl ?_
  refine x_load one_54 _ (.slice _ _ _) rfl (by first | exact hs.cell rfl | exact (hs.pull 1).cell rfl | exact (hs.pull 2).cell rfl | exact (hs.pull 3).cell rfl | assumption | exact (hs.pull 4).cell rfl | exact (hs.pull 5).cell rfl | exact (hs.pull 6).cell rfl | exact (hs.pull 7).cell rfl) ?_
  refine x_move (.int _ _) rfl ?_
  refine x_move (.int _ _) rfl ?_
  refine x_add _ _ rfl rfl (by simp only [X.lo]; omega) (by simp only [X.hi]; omega) ?_
  refine x_call Try.f27 Try.func27 rfl rfl _ rfl ?_
  refine (delete_calls (pk at' z.length) (hs.pull 2) hk (by omega) hone).mono ?_
  clear hs; rintro e w ⟨rfl, hs⟩
  replace hs := hs.push 2
  try dsimp only [back] at hs
  refine ⟨_, rfl, fun h => (by first | (cases h; done) | (first | exact hs.cells2 rfl rfl | exact (hs.pull 1).cells2 rfl rfl | exact (hs.pull 2).cells2 rfl rfl | exact (hs.pull 3).cells2 rfl rfl | exact (hs.pull 4).cells2 rfl rfl | exact (hs.pull 5).cells2 rfl rfl | exact (hs.pull 6).cells2 rfl rfl | exact (hs.pull 7).cells2 rfl rfl | exact (hs.pull 8).cells2 rfl rfl | exact hs.cell rfl | exact (hs.pull 1).cell rfl | exact (hs.pull 2).cell rfl | exact (hs.pull 3).cell rfl | exact (hs.pull 4).cell rfl | exact (hs.pull 5).cell rfl | exact (hs.pull 6).cell rfl | exact (hs.pull 7).cell rfl | exact (hs.pull 8).cell rfl | assumption | exact hs.cellsOf | exact (hs.pull 1).cellsOf | exact (hs.pull 2).cellsOf | exact (hs.pull 3).cellsOf | exact (hs.pull 4).cellsOf | exact (hs.pull 5).cellsOf | exact (hs.pull 6).cellsOf | exact (hs.pull 7).cellsOf | exact (hs.pull 8).cellsOf) | (and_intros <;> first | exact hs.cells2 rfl rfl | exact (hs.pull 1).cells2 rfl rfl | exact (hs.pull 2).cells2 rfl rfl | exact (hs.pull 3).cells2 rfl rfl | exact (hs.pull 4).cells2 rfl rfl | exact (hs.pull 5).cells2 rfl rfl | exact (hs.pull 6).cells2 rfl rfl | exact (hs.pull 7).cells2 rfl rfl | exact (hs.pull 8).cells2 rfl rfl | exact hs.cell rfl | exact (hs.pull 1).cell rfl | exact (hs.pull 2).cell rfl | exact (hs.pull 3).cell rfl | exact (hs.pull 4).cell rfl | exact (hs.pull 5).cell rfl | exact (hs.pull 6).cell rfl | exact (hs.pull 7).cell rfl | exact (hs.pull 8).cell rfl | assumption | exact hs.cellsOf | exact (hs.pull 1).cellsOf | exact (hs.pull 2).cellsOf | exact (hs.pull 3).cellsOf | exact (hs.pull 4).cellsOf | exact (hs.pull 5).cellsOf | exact (hs.pull 6).cellsOf | exact (hs.pull 7).cellsOf | exact (hs.pull 8).cellsOf)), ?_⟩
  rw [tcells_erase] at hs
  refine x_nilCheck _ rfl ?_
  first | refine x_field0 fa_56_0 _ rfl ?_ | refine x_field fa_56_0 _ _ rfl ?_
  first
    | refine x_storeI hs 0 rfl rfl one_54 (.slice _ _ _) rfl rfl rfl ?_
    | refine x_storeI hs 1 rfl rfl one_54 (.slice _ _ _) rfl rfl rfl ?_
    | refine x_storeI hs 2 rfl rfl one_54 (.slice _ _ _) rfl rfl rfl ?_
    | refine x_storeI hs 3 rfl rfl one_54 (.slice _ _ _) rfl rfl rfl ?_
    | refine x_storeI hs 4 rfl rfl one_54 (.slice _ _ _) rfl rfl rfl ?_
    | refine x_storeI hs 5 rfl rfl one_54 (.slice _ _ _) rfl rfl rfl ?_
    | refine x_storeI hs 6 rfl rfl one_54 (.slice _ _ _) rfl rfl rfl ?_
    | refine x_storeI hs 7 rfl rfl one_54 (.slice _ _ _) rfl rfl rfl ?_
  clear hs; intro w hs
  try dsimp only [back, List.set_cons_zero, List.set_cons_succ] at hs
  refine ⟨fun h => (by first | (cases h; done) | (first | exact hs.cells2 rfl rfl | exact (hs.pull 1).cells2 rfl rfl | exact (hs.pull 2).cells2 rfl rfl | exact (hs.pull 3).cells2 rfl rfl | exact (hs.pull 4).cells2 rfl rfl | exact (hs.pull 5).cells2 rfl rfl | exact (hs.pull 6).cells2 rfl rfl | exact (hs.pull 7).cells2 rfl rfl | exact (hs.pull 8).cells2 rfl rfl | exact hs.cell rfl | exact (hs.pull 1).cell rfl | exact (hs.pull 2).cell rfl | exact (hs.pull 3).cell rfl | exact (hs.pull 4).cell rfl | exact (hs.pull 5).cell rfl | exact (hs.pull 6).cell rfl | exact (hs.pull 7).cell rfl | exact (hs.pull 8).cell rfl | assumption | exact hs.cellsOf | exact (hs.pull 1).cellsOf | exact (hs.pull 2).cellsOf | exact (hs.pull 3).cellsOf | exact (hs.pull 4).cellsOf | exact (hs.pull 5).cellsOf | exact (hs.pull 6).cellsOf | exact (hs.pull 7).cellsOf | exact (hs.pull 8).cellsOf) | (and_intros <;> first | exact hs.cells2 rfl rfl | exact (hs.pull 1).cells2 rfl rfl | exact (hs.pull 2).cells2 rfl rfl | exact (hs.pull 3).cells2 rfl rfl | exact (hs.pull 4).cells2 rfl rfl | exact (hs.pull 5).cells2 rfl rfl | exact (hs.pull 6).cells2 rfl rfl | exact (hs.pull 7).cells2 rfl rfl | exact (hs.pull 8).cells2 rfl rfl | exact hs.cell rfl | exact (hs.pull 1).cell rfl | exact (hs.pull 2).cell rfl | exact (hs.pull 3).cell rfl | exact (hs.pull 4).cell rfl | exact (hs.pull 5).cell rfl | exact (hs.pull 6).cell rfl | exact (hs.pull 7).cell rfl | exact (hs.pull 8).cell rfl | assumption | exact hs.cellsOf | exact (hs.pull 1).cellsOf | exact (hs.pull 2).cellsOf | exact (hs.pull 3).cellsOf | exact (hs.pull 4).cellsOf | exact (hs.pull 5).cellsOf | exact (hs.pull 6).cellsOf | exact (hs.pull 7).cellsOf | exact (hs.pull 8).cellsOf)), ?_⟩
  refine x_nil ?_
  refine then_n ?_
  refine c_seq ?_
  -- region 6 DRAWS
  refine c_draw (fun w => (∀ (j : Nat) (u : Value), [Value.int .u16 (t.to.Id : Nat), Value.int .u32 (t.to.Inc : Nat)][j]? = some u → w.cell? ((⟨b8, 0, none⟩ : Addr).add j) = some u) ∧ w.cell? ⟨b8, 2, none⟩ = some (.slice a5 t.b.length c5)) (fun i => !(false)) [(0, 2), (1, 1), (2, 2), (3, 1), (4, 0), (5, 2), (6, 2)] (by kernel_rfl) (by kernel_rfl) (by kernel_rfl) (by kernel_rfl) ((by first | (first | exact hs.cells2 rfl rfl | exact (hs.pull 1).cells2 rfl rfl | exact (hs.pull 2).cells2 rfl rfl | exact (hs.pull 3).cells2 rfl rfl | exact (hs.pull 4).cells2 rfl rfl | exact (hs.pull 5).cells2 rfl rfl | exact (hs.pull 6).cells2 rfl rfl | exact (hs.pull 7).cells2 rfl rfl | exact (hs.pull 8).cells2 rfl rfl | exact hs.cell rfl | exact (hs.pull 1).cell rfl | exact (hs.pull 2).cell rfl | exact (hs.pull 3).cell rfl | exact (hs.pull 4).cell rfl | exact (hs.pull 5).cell rfl | exact (hs.pull 6).cell rfl | exact (hs.pull 7).cell rfl | exact (hs.pull 8).cell rfl | assumption | exact hs.cellsOf | exact (hs.pull 1).cellsOf | exact (hs.pull 2).cellsOf | exact (hs.pull 3).cellsOf | exact (hs.pull 4).cellsOf | exact (hs.pull 5).cellsOf | exact (hs.pull 6).cellsOf | exact (hs.pull 7).cellsOf | exact (hs.pull 8).cellsOf) | (and_intros <;> first | exact hs.cells2 rfl rfl | exact (hs.pull 1).cells2 rfl rfl | exact (hs.pull 2).cells2 rfl rfl | exact (hs.pull 3).cells2 rfl rfl | exact (hs.pull 4).cells2 rfl rfl | exact (hs.pull 5).cells2 rfl rfl | exact (hs.pull 6).cells2 rfl rfl | exact (hs.pull 7).cells2 rfl rfl | exact (hs.pull 8).cells2 rfl rfl | exact hs.cell rfl | exact (hs.pull 1).cell rfl | exact (hs.pull 2).cell rfl | exact (hs.pull 3).cell rfl | exact (hs.pull 4).cell rfl | exact (hs.pull 5).cell rfl | exact (hs.pull 6).cell rfl | exact (hs.pull 7).cell rfl | exact (hs.pull 8).cell rfl | assumption | exact hs.cellsOf | exact (hs.pull 1).cellsOf | exact (hs.pull 2).cellsOf | exact (hs.pull 3).cellsOf | exact (hs.pull 4).cellsOf | exact (hs.pull 5).cellsOf | exact (hs.pull 6).cellsOf | exact (hs.pull 7).cellsOf | exact (hs.pull 8).cellsOf))) ?_
  replace hs := hs.drew
  first | refine x_field0 fa_59_0 _ rfl ?_ | refine x_field fa_59_0 _ _ rfl ?_
  refine h_loadN [_, _] agg_30 _ rfl (fun w hS => by first | exact hS | exact hS.1 | exact hS.2 | exact hS.2.1 | exact hS.2.2 | exact hS.2.2.1 | exact hS.2.2.2 | exact hS.2.2.2.1 | exact hS.2.2.2.2 | exact hS.cellsOf | exact (hS.pull 1).cellsOf | exact (hS.pull 2).cellsOf | exact (hS.pull 3).cellsOf | exact (hS.pull 4).cellsOf | exact (hS.pull 5).cellsOf | exact (hS.pull 6).cellsOf | exact hS.cells2 rfl rfl | exact (hS.pull 1).cells2 rfl rfl | exact (hS.pull 2).cells2 rfl rfl | exact (hS.pull 3).cells2 rfl rfl | exact (hS.pull 4).cells2 rfl rfl | exact (hS.pull 5).cells2 rfl rfl | exact (hS.pull 6).cells2 rfl rfl) ?_
  first | refine x_field0 fa_59_1 _ rfl ?_ | refine x_field fa_59_1 _ _ rfl ?_
  refine h_load one_22 _ (.slice _ _ _) rfl (fun w hS => by first | exact hS.cell rfl | exact (hS.pull 1).cell rfl | exact (hS.pull 2).cell rfl | exact (hS.pull 3).cell rfl | exact (hS.pull 4).cell rfl | exact (hS.pull 5).cell rfl | exact (hS.pull 6).cell rfl | exact hS | exact hS.1 | exact hS.2 | exact hS.2.1 | exact hS.2.2 | exact hS.2.2.1 | exact hS.2.2.2 | exact hS.2.2.2.1 | exact hS.2.2.2.2) ?_
  first
    | refine x_storeAllI hs 0 rfl rfl agg_30 [_, _] rfl rfl rfl rfl ?_
    | refine x_storeAllI hs 1 rfl rfl agg_30 [_, _] rfl rfl rfl rfl ?_
    | refine x_storeAllI hs 2 rfl rfl agg_30 [_, _] rfl rfl rfl rfl ?_
    | refine x_storeAllI hs 3 rfl rfl agg_30 [_, _] rfl rfl rfl rfl ?_
    | refine x_storeAllI hs 4 rfl rfl agg_30 [_, _] rfl rfl rfl rfl ?_
    | refine x_storeAllI hs 5 rfl rfl agg_30 [_, _] rfl rfl rfl rfl ?_
    | refine x_storeAllI hs 6 rfl rfl agg_30 [_, _] rfl rfl rfl rfl ?_
    | refine x_storeAllI hs 7 rfl rfl agg_30 [_, _] rfl rfl rfl rfl ?_
  clear hs; intro w hs
  try dsimp only [back, List.set_cons_zero, List.set_cons_succ] at hs
  refine ⟨fun h => (by first | (cases h; done) | (first | exact hs.cells2 rfl rfl | exact (hs.pull 1).cells2 rfl rfl | exact (hs.pull 2).cells2 rfl rfl | exact (hs.pull 3).cells2 rfl rfl | exact (hs.pull 4).cells2 rfl rfl | exact (hs.pull 5).cells2 rfl rfl | exact (hs.pull 6).cells2 rfl rfl | exact (hs.pull 7).cells2 rfl rfl | exact (hs.pull 8).cells2 rfl rfl | exact hs.cell rfl | exact (hs.pull 1).cell rfl | exact (hs.pull 2).cell rfl | exact (hs.pull 3).cell rfl | exact (hs.pull 4).cell rfl | exact (hs.pull 5).cell rfl | exact (hs.pull 6).cell rfl | exact (hs.pull 7).cell rfl | exact (hs.pull 8).cell rfl | assumption | exact hs.cellsOf | exact (hs.pull 1).cellsOf | exact (hs.pull 2).cellsOf | exact (hs.pull 3).cellsOf | exact (hs.pull 4).cellsOf | exact (hs.pull 5).cellsOf | exact (hs.pull 6).cellsOf | exact (hs.pull 7).cellsOf | exact (hs.pull 8).cellsOf) | (and_intros <;> first | exact hs.cells2 rfl rfl | exact (hs.pull 1).cells2 rfl rfl | exact (hs.pull 2).cells2 rfl rfl | exact (hs.pull 3).cells2 rfl rfl | exact (hs.pull 4).cells2 rfl rfl | exact (hs.pull 5).cells2 rfl rfl | exact (hs.pull 6).cells2 rfl rfl | exact (hs.pull 7).cells2 rfl rfl | exact (hs.pull 8).cells2 rfl rfl | exact hs.cell rfl | exact (hs.pull 1).cell rfl | exact (hs.pull 2).cell rfl | exact (hs.pull 3).cell rfl | exact (hs.pull 4).cell rfl | exact (hs.pull 5).cell rfl | exact (hs.pull 6).cell rfl | exact (hs.pull 7).cell rfl | exact (hs.pull 8).cell rfl | assumption | exact hs.cellsOf | exact (hs.pull 1).cellsOf | exact (hs.pull 2).cellsOf | exact (hs.pull 3).cellsOf | exact (hs.pull 4).cellsOf | exact (hs.pull 5).cellsOf | exact (hs.pull 6).cellsOf | exact (hs.pull 7).cellsOf | exact (hs.pull 8).cellsOf)), ?_⟩
  refine x_assign (.slice _ _ _) rfl ?_
  refine x_assign (.bool _) rfl ?_
  refine x_nil ?_
  refine then_n ?_
  refine c_ret ?_
  refine ⟨.inr rfl, ?_⟩
  refine ⟨b4, _, rfl, rfl, (hs.pull 4).cellsAt, _, _, rfl, ?_⟩
  have hs := ((hs.pull 4).tail.tail.pull 2).eachOut z1 z2
  rw [← map_eraseIdx, ← map_eraseIdx] at hs
  have hs := hs.perm [2, 3, 1, 0]
  rw [← map_eraseIdx]
  have e : (z.eraseIdx (pk at' z.length)).length = z.length - 1 := by rw [List.length_eraseIdx, if_pos hk]
  rw [← e] at hs
  exact (Sat.fobj' hs).pull 1
theorem ftake_nil {w0 w : World} {L : List HP} {f : Nat} (at' : Int) (hs : Sat w0 w (FP f [] :: L)) :
    Calls Try.prog 15 #[.pointer (some ⟨f, 0, none⟩), .int .i64 at'] w fun e w' => e = .returned (.tuple #[.agg (⟨0, 0⟩ : Pid).cells.toArray, .slice none 0 0, .bool false]) ∧ Sat w0 w' (FP f [] :: L) := by
  refine enterC3 Try.func15 rfl Try.ntmps15 agg_30 4 5 6 rfl (Nat.le_of_ble_eq_true rfl) ?_
  refine c_seq ?_
  -- region 0
  refine c_region ?_
  refine x_alloc zi_30 hs ?_; clear hs; intro b4 w hs; refine ⟨fun h => (by first | (cases h; done) | (first | exact hs.cells2 rfl rfl | exact (hs.pull 1).cells2 rfl rfl | exact (hs.pull 2).cells2 rfl rfl | exact (hs.pull 3).cells2 rfl rfl | exact (hs.pull 4).cells2 rfl rfl | exact (hs.pull 5).cells2 rfl rfl | exact (hs.pull 6).cells2 rfl rfl | exact (hs.pull 7).cells2 rfl rfl | exact (hs.pull 8).cells2 rfl rfl | exact hs.cell rfl | exact (hs.pull 1).cell rfl | exact (hs.pull 2).cell rfl | exact (hs.pull 3).cell rfl | exact (hs.pull 4).cell rfl | exact (hs.pull 5).cell rfl | exact (hs.pull 6).cell rfl | exact (hs.pull 7).cell rfl | exact (hs.pull 8).cell rfl | assumption | exact hs.cellsOf | exact (hs.pull 1).cellsOf | exact (hs.pull 2).cellsOf | exact (hs.pull 3).cellsOf | exact (hs.pull 4).cellsOf | exact (hs.pull 5).cellsOf | exact (hs.pull 6).cellsOf | exact (hs.pull 7).cellsOf | exact (hs.pull 8).cellsOf) | (and_intros <;> first | exact hs.cells2 rfl rfl | exact (hs.pull 1).cells2 rfl rfl | exact (hs.pull 2).cells2 rfl rfl | exact (hs.pull 3).cells2 rfl rfl | exact (hs.pull 4).cells2 rfl rfl | exact (hs.pull 5).cells2 rfl rfl | exact (hs.pull 6).cells2 rfl rfl | exact (hs.pull 7).cells2 rfl rfl | exact (hs.pull 8).cells2 rfl rfl | exact hs.cell rfl | exact (hs.pull 1).cell rfl | exact (hs.pull 2).cell rfl | exact (hs.pull 3).cell rfl | exact (hs.pull 4).cell rfl | exact (hs.pull 5).cell rfl | exact (hs.pull 6).cell rfl | exact (hs.pull 7).cell rfl | exact (hs.pull 8).cell rfl | assumption | exact hs.cellsOf | exact (hs.pull 1).cellsOf | exact (hs.pull 2).cellsOf | exact (hs.pull 3).cellsOf | exact (hs.pull 4).cellsOf | exact (hs.pull 5).cellsOf | exact (hs.pull 6).cellsOf | exact (hs.pull 7).cellsOf | exact (hs.pull 8).cellsOf)), ?_⟩
  refine x_assign (.slice _ _ _) rfl ?_
  refine x_assign (.bool _) rfl ?_
  refine x_nil ?_
  refine then_n ?_
  refine c_seq ?_
  -- region 1
  refine c_region ?_
  refine x_move (.int _ _) rfl ?_
  refine x_move (.pointer _) rfl ?_
  refine x_call Try.f23 Try.func23 rfl rfl _ rfl ?_
  refine (flen_calls (hs.pull 1)).mono ?_
  clear hs; rintro e w ⟨rfl, hs⟩
  replace hs := hs.push 1
  try dsimp only [back] at hs
  refine ⟨_, rfl, fun h => (by first | (cases h; done) | (first | exact hs.cells2 rfl rfl | exact (hs.pull 1).cells2 rfl rfl | exact (hs.pull 2).cells2 rfl rfl | exact (hs.pull 3).cells2 rfl rfl | exact (hs.pull 4).cells2 rfl rfl | exact (hs.pull 5).cells2 rfl rfl | exact (hs.pull 6).cells2 rfl rfl | exact (hs.pull 7).cells2 rfl rfl | exact (hs.pull 8).cells2 rfl rfl | exact hs.cell rfl | exact (hs.pull 1).cell rfl | exact (hs.pull 2).cell rfl | exact (hs.pull 3).cell rfl | exact (hs.pull 4).cell rfl | exact (hs.pull 5).cell rfl | exact (hs.pull 6).cell rfl | exact (hs.pull 7).cell rfl | exact (hs.pull 8).cell rfl | assumption | exact hs.cellsOf | exact (hs.pull 1).cellsOf | exact (hs.pull 2).cellsOf | exact (hs.pull 3).cellsOf | exact (hs.pull 4).cellsOf | exact (hs.pull 5).cellsOf | exact (hs.pull 6).cellsOf | exact (hs.pull 7).cellsOf | exact (hs.pull 8).cellsOf) | (and_intros <;> first | exact hs.cells2 rfl rfl | exact (hs.pull 1).cells2 rfl rfl | exact (hs.pull 2).cells2 rfl rfl | exact (hs.pull 3).cells2 rfl rfl | exact (hs.pull 4).cells2 rfl rfl | exact (hs.pull 5).cells2 rfl rfl | exact (hs.pull 6).cells2 rfl rfl | exact (hs.pull 7).cells2 rfl rfl | exact (hs.pull 8).cells2 rfl rfl | exact hs.cell rfl | exact (hs.pull 1).cell rfl | exact (hs.pull 2).cell rfl | exact (hs.pull 3).cell rfl | exact (hs.pull 4).cell rfl | exact (hs.pull 5).cell rfl | exact (hs.pull 6).cell rfl | exact (hs.pull 7).cell rfl | exact (hs.pull 8).cell rfl | assumption | exact hs.cellsOf | exact (hs.pull 1).cellsOf | exact (hs.pull 2).cellsOf | exact (hs.pull 3).cellsOf | exact (hs.pull 4).cellsOf | exact (hs.pull 5).cellsOf | exact (hs.pull 6).cellsOf | exact (hs.pull 7).cellsOf | exact (hs.pull 8).cellsOf)), ?_⟩
  refine x_call Try.f26 Try.func26 rfl rfl _ rfl ?_
  refine (rest0_calls hs at' _ rfl).mono ?_
  clear hs; rintro e w ⟨rfl, hs⟩
  refine ⟨_, rfl, fun h => (by first | (cases h; done) | (first | exact hs.cells2 rfl rfl | exact (hs.pull 1).cells2 rfl rfl | exact (hs.pull 2).cells2 rfl rfl | exact (hs.pull 3).cells2 rfl rfl | exact (hs.pull 4).cells2 rfl rfl | exact (hs.pull 5).cells2 rfl rfl | exact (hs.pull 6).cells2 rfl rfl | exact (hs.pull 7).cells2 rfl rfl | exact (hs.pull 8).cells2 rfl rfl | exact hs.cell rfl | exact (hs.pull 1).cell rfl | exact (hs.pull 2).cell rfl | exact (hs.pull 3).cell rfl | exact (hs.pull 4).cell rfl | exact (hs.pull 5).cell rfl | exact (hs.pull 6).cell rfl | exact (hs.pull 7).cell rfl | exact (hs.pull 8).cell rfl | assumption | exact hs.cellsOf | exact (hs.pull 1).cellsOf | exact (hs.pull 2).cellsOf | exact (hs.pull 3).cellsOf | exact (hs.pull 4).cellsOf | exact (hs.pull 5).cellsOf | exact (hs.pull 6).cellsOf | exact (hs.pull 7).cellsOf | exact (hs.pull 8).cellsOf) | (and_intros <;> first | exact hs.cells2 rfl rfl | exact (hs.pull 1).cells2 rfl rfl | exact (hs.pull 2).cells2 rfl rfl | exact (hs.pull 3).cells2 rfl rfl | exact (hs.pull 4).cells2 rfl rfl | exact (hs.pull 5).cells2 rfl rfl | exact (hs.pull 6).cells2 rfl rfl | exact (hs.pull 7).cells2 rfl rfl | exact (hs.pull 8).cells2 rfl rfl | exact hs.cell rfl | exact (hs.pull 1).cell rfl | exact (hs.pull 2).cell rfl | exact (hs.pull 3).cell rfl | exact (hs.pull 4).cell rfl | exact (hs.pull 5).cell rfl | exact (hs.pull 6).cell rfl | exact (hs.pull 7).cell rfl | exact (hs.pull 8).cell rfl | assumption | exact hs.cellsOf | exact (hs.pull 1).cellsOf | exact (hs.pull 2).cellsOf | exact (hs.pull 3).cellsOf | exact (hs.pull 4).cellsOf | exact (hs.pull 5).cellsOf | exact (hs.pull 6).cellsOf | exact (hs.pull 7).cellsOf | exact (hs.pull 8).cellsOf)), ?_⟩
  refine x_assign (.int _ _) rfl ?_
  refine x_nil ?_
  refine then_n ?_
  refine c_seq ?_
  refine c_seq ?_
  -- region 2
  refine c_region ?_
  refine x_move (.int _ _) rfl ?_
  refine x_lssT _ _ rfl rfl (by omega) ?_
  refine x_nil ?_
  refine then_n ?_
  refine c_true rfl ?_
  refine c_seq ?_
  -- region 3
  refine c_region ?_
  refine x_build _ [] rfl (fun w => bd_30 w) ?_
  first
    | refine x_storeAllI hs 0 rfl rfl agg_30 [_, _] rfl rfl rfl rfl ?_
    | refine x_storeAllI hs 1 rfl rfl agg_30 [_, _] rfl rfl rfl rfl ?_
    | refine x_storeAllI hs 2 rfl rfl agg_30 [_, _] rfl rfl rfl rfl ?_
    | refine x_storeAllI hs 3 rfl rfl agg_30 [_, _] rfl rfl rfl rfl ?_
    | refine x_storeAllI hs 4 rfl rfl agg_30 [_, _] rfl rfl rfl rfl ?_
    | refine x_storeAllI hs 5 rfl rfl agg_30 [_, _] rfl rfl rfl rfl ?_
    | refine x_storeAllI hs 6 rfl rfl agg_30 [_, _] rfl rfl rfl rfl ?_
    | refine x_storeAllI hs 7 rfl rfl agg_30 [_, _] rfl rfl rfl rfl ?_
  clear hs; intro w hs
  try dsimp only [back, List.set_cons_zero, List.set_cons_succ] at hs
  refine ⟨fun h => (by first | (cases h; done) | (first | exact hs.cells2 rfl rfl | exact (hs.pull 1).cells2 rfl rfl | exact (hs.pull 2).cells2 rfl rfl | exact (hs.pull 3).cells2 rfl rfl | exact (hs.pull 4).cells2 rfl rfl | exact (hs.pull 5).cells2 rfl rfl | exact (hs.pull 6).cells2 rfl rfl | exact (hs.pull 7).cells2 rfl rfl | exact (hs.pull 8).cells2 rfl rfl | exact hs.cell rfl | exact (hs.pull 1).cell rfl | exact (hs.pull 2).cell rfl | exact (hs.pull 3).cell rfl | exact (hs.pull 4).cell rfl | exact (hs.pull 5).cell rfl | exact (hs.pull 6).cell rfl | exact (hs.pull 7).cell rfl | exact (hs.pull 8).cell rfl | assumption | exact hs.cellsOf | exact (hs.pull 1).cellsOf | exact (hs.pull 2).cellsOf | exact (hs.pull 3).cellsOf | exact (hs.pull 4).cellsOf | exact (hs.pull 5).cellsOf | exact (hs.pull 6).cellsOf | exact (hs.pull 7).cellsOf | exact (hs.pull 8).cellsOf) | (and_intros <;> first | exact hs.cells2 rfl rfl | exact (hs.pull 1).cells2 rfl rfl | exact (hs.pull 2).cells2 rfl rfl | exact (hs.pull 3).cells2 rfl rfl | exact (hs.pull 4).cells2 rfl rfl | exact (hs.pull 5).cells2 rfl rfl | exact (hs.pull 6).cells2 rfl rfl | exact (hs.pull 7).cells2 rfl rfl | exact (hs.pull 8).cells2 rfl rfl | exact hs.cell rfl | exact (hs.pull 1).cell rfl | exact (hs.pull 2).cell rfl | exact (hs.pull 3).cell rfl | exact (hs.pull 4).cell rfl | exact (hs.pull 5).cell rfl | exact (hs.pull 6).cell rfl | exact (hs.pull 7).cell rfl | exact (hs.pull 8).cell rfl | assumption | exact hs.cellsOf | exact (hs.pull 1).cellsOf | exact (hs.pull 2).cellsOf | exact (hs.pull 3).cellsOf | exact (hs.pull 4).cellsOf | exact (hs.pull 5).cellsOf | exact (hs.pull 6).cellsOf | exact (hs.pull 7).cellsOf | exact (hs.pull 8).cellsOf)), ?_⟩
  refine x_assign (.slice _ _ _) rfl ?_
  refine x_assign (.bool _) rfl ?_
  refine x_nil ?_
  refine then_n ?_
  refine c_ret ?_
  refine then_r ?_
  refine ⟨.inr rfl, ?_⟩
  exact ⟨b4, _, rfl, rfl, hs.cellsAt, rfl, hs.tail⟩
set_option maxHeartbeats 1000000 in
theorem fdouble_calls {w0 w : World} {L : List HP} {f : Nat} {l : List Thg} (at' : Int) (hs : Sat w0 w (FP f l :: L)) (hl : l.length ≤ 1000000) (hb : ∀ t ∈ l, t.b.length ≤ 1000000) :
    Calls Try.prog 17 #[.pointer (some ⟨f, 0, none⟩), .int .i64 at'] w fun e w' => e = .returned (.bool (thDouble l at').1) ∧ Sat w0 w' (FP f (thDouble l at').2 :: L) := by
  unfold thDouble
  refine enter Try.func17 rfl Try.ntmps17 4 rfl (Nat.le_of_ble_eq_true rfl) ?_
  by_cases h0 : l.length = 0
  · skip
    refine c_seq ?_
    -- region 0
    refine c_region ?_
    refine x_assign (.bool _) rfl ?_
    refine x_nil ?_
    refine then_n ?_
    refine c_seq ?_
    -- region 1
    refine c_region ?_
    refine x_move (.int _ _) rfl ?_
    refine x_move (.pointer _) rfl ?_
    refine x_call Try.f23 Try.func23 rfl rfl _ rfl ?_
    refine (flen_calls hs).mono ?_
    clear hs; rintro e w ⟨rfl, hs⟩
    refine ⟨_, rfl, fun h => (by first | (cases h; done) | (first | exact hs.cells2 rfl rfl | exact (hs.pull 1).cells2 rfl rfl | exact (hs.pull 2).cells2 rfl rfl | exact (hs.pull 3).cells2 rfl rfl | exact (hs.pull 4).cells2 rfl rfl | exact (hs.pull 5).cells2 rfl rfl | exact (hs.pull 6).cells2 rfl rfl | exact (hs.pull 7).cells2 rfl rfl | exact (hs.pull 8).cells2 rfl rfl | exact hs.cell rfl | exact (hs.pull 1).cell rfl | exact (hs.pull 2).cell rfl | exact (hs.pull 3).cell rfl | exact (hs.pull 4).cell rfl | exact (hs.pull 5).cell rfl | exact (hs.pull 6).cell rfl | exact (hs.pull 7).cell rfl | exact (hs.pull 8).cell rfl | assumption | exact hs.cellsOf | exact (hs.pull 1).cellsOf | exact (hs.pull 2).cellsOf | exact (hs.pull 3).cellsOf | exact (hs.pull 4).cellsOf | exact (hs.pull 5).cellsOf | exact (hs.pull 6).cellsOf | exact (hs.pull 7).cellsOf | exact (hs.pull 8).cellsOf) | (and_intros <;> first | exact hs.cells2 rfl rfl | exact (hs.pull 1).cells2 rfl rfl | exact (hs.pull 2).cells2 rfl rfl | exact (hs.pull 3).cells2 rfl rfl | exact (hs.pull 4).cells2 rfl rfl | exact (hs.pull 5).cells2 rfl rfl | exact (hs.pull 6).cells2 rfl rfl | exact (hs.pull 7).cells2 rfl rfl | exact (hs.pull 8).cells2 rfl rfl | exact hs.cell rfl | exact (hs.pull 1).cell rfl | exact (hs.pull 2).cell rfl | exact (hs.pull 3).cell rfl | exact (hs.pull 4).cell rfl | exact (hs.pull 5).cell rfl | exact (hs.pull 6).cell rfl | exact (hs.pull 7).cell rfl | exact (hs.pull 8).cell rfl | assumption | exact hs.cellsOf | exact (hs.pull 1).cellsOf | exact (hs.pull 2).cellsOf | exact (hs.pull 3).cellsOf | exact (hs.pull 4).cellsOf | exact (hs.pull 5).cellsOf | exact (hs.pull 6).cellsOf | exact (hs.pull 7).cellsOf | exact (hs.pull 8).cellsOf)), ?_⟩
    refine x_call Try.f26 Try.func26 rfl rfl _ rfl ?_
    refine (rest0_calls hs at' _ h0).mono ?_
    clear hs; rintro e w ⟨rfl, hs⟩
    refine ⟨_, rfl, fun h => (by first | (cases h; done) | (first | exact hs.cells2 rfl rfl | exact (hs.pull 1).cells2 rfl rfl | exact (hs.pull 2).cells2 rfl rfl | exact (hs.pull 3).cells2 rfl rfl | exact (hs.pull 4).cells2 rfl rfl | exact (hs.pull 5).cells2 rfl rfl | exact (hs.pull 6).cells2 rfl rfl | exact (hs.pull 7).cells2 rfl rfl | exact (hs.pull 8).cells2 rfl rfl | exact hs.cell rfl | exact (hs.pull 1).cell rfl | exact (hs.pull 2).cell rfl | exact (hs.pull 3).cell rfl | exact (hs.pull 4).cell rfl | exact (hs.pull 5).cell rfl | exact (hs.pull 6).cell rfl | exact (hs.pull 7).cell rfl | exact (hs.pull 8).cell rfl | assumption | exact hs.cellsOf | exact (hs.pull 1).cellsOf | exact (hs.pull 2).cellsOf | exact (hs.pull 3).cellsOf | exact (hs.pull 4).cellsOf | exact (hs.pull 5).cellsOf | exact (hs.pull 6).cellsOf | exact (hs.pull 7).cellsOf | exact (hs.pull 8).cellsOf) | (and_intros <;> first | exact hs.cells2 rfl rfl | exact (hs.pull 1).cells2 rfl rfl | exact (hs.pull 2).cells2 rfl rfl | exact (hs.pull 3).cells2 rfl rfl | exact (hs.pull 4).cells2 rfl rfl | exact (hs.pull 5).cells2 rfl rfl | exact (hs.pull 6).cells2 rfl rfl | exact (hs.pull 7).cells2 rfl rfl | exact (hs.pull 8).cells2 rfl rfl | exact hs.cell rfl | exact (hs.pull 1).cell rfl | exact (hs.pull 2).cell rfl | exact (hs.pull 3).cell rfl | exact (hs.pull 4).cell rfl | exact (hs.pull 5).cell rfl | exact (hs.pull 6).cell rfl | exact (hs.pull 7).cell rfl | exact (hs.pull 8).cell rfl | assumption | exact hs.cellsOf | exact (hs.pull 1).cellsOf | exact (hs.pull 2).cellsOf | exact (hs.pull 3).cellsOf | exact (hs.pull 4).cellsOf | exact (hs.pull 5).cellsOf | exact (hs.pull 6).cellsOf | exact (hs.pull 7).cellsOf | exact (hs.pull 8).cellsOf)), ?_⟩
    refine x_assign (.int _ _) rfl ?_
    refine x_nil ?_
    refine then_n ?_
    refine c_seq ?_
    refine c_seq ?_
    -- region 2
    refine c_region ?_
    refine x_move (.int _ _) rfl ?_
    refine x_lssT _ _ rfl rfl (by omega) ?_
    refine x_move (.bool _) rfl ?_
    refine x_skip rfl rfl ?_
    refine x_skip rfl rfl ?_
    refine x_skip rfl rfl ?_
    refine x_skip rfl rfl ?_
    refine x_skip rfl rfl ?_
    refine x_skip rfl rfl ?_
    refine x_pickT (.bool _) rfl rfl ?_
    refine x_nil ?_
    refine then_n ?_
    refine c_true rfl ?_
    refine c_seq ?_
    -- region 3
    refine c_region ?_
    refine x_assign (.bool _) rfl ?_
    refine x_nil ?_
    refine then_n ?_
    refine c_ret ?_
    refine then_r ?_
    refine ⟨.inr rfl, ?_⟩
    rw [if_pos (.inl h0)]
    exact ⟨rfl, hs⟩
  · skip
    refine c_seq ?_
    -- region 0
    refine c_region ?_
    refine x_assign (.bool _) rfl ?_
    refine x_nil ?_
    refine then_n ?_
    refine c_seq ?_
    -- region 1
    refine c_region ?_
    refine x_move (.int _ _) rfl ?_
    refine x_move (.pointer _) rfl ?_
    refine x_call Try.f23 Try.func23 rfl rfl _ rfl ?_
    refine (flen_calls hs).mono ?_
    clear hs; rintro e w ⟨rfl, hs⟩
    refine ⟨_, rfl, fun h => (by first | (cases h; done) | (first | exact hs.cells2 rfl rfl | exact (hs.pull 1).cells2 rfl rfl | exact (hs.pull 2).cells2 rfl rfl | exact (hs.pull 3).cells2 rfl rfl | exact (hs.pull 4).cells2 rfl rfl | exact (hs.pull 5).cells2 rfl rfl | exact (hs.pull 6).cells2 rfl rfl | exact (hs.pull 7).cells2 rfl rfl | exact (hs.pull 8).cells2 rfl rfl | exact hs.cell rfl | exact (hs.pull 1).cell rfl | exact (hs.pull 2).cell rfl | exact (hs.pull 3).cell rfl | exact (hs.pull 4).cell rfl | exact (hs.pull 5).cell rfl | exact (hs.pull 6).cell rfl | exact (hs.pull 7).cell rfl | exact (hs.pull 8).cell rfl | assumption | exact hs.cellsOf | exact (hs.pull 1).cellsOf | exact (hs.pull 2).cellsOf | exact (hs.pull 3).cellsOf | exact (hs.pull 4).cellsOf | exact (hs.pull 5).cellsOf | exact (hs.pull 6).cellsOf | exact (hs.pull 7).cellsOf | exact (hs.pull 8).cellsOf) | (and_intros <;> first | exact hs.cells2 rfl rfl | exact (hs.pull 1).cells2 rfl rfl | exact (hs.pull 2).cells2 rfl rfl | exact (hs.pull 3).cells2 rfl rfl | exact (hs.pull 4).cells2 rfl rfl | exact (hs.pull 5).cells2 rfl rfl | exact (hs.pull 6).cells2 rfl rfl | exact (hs.pull 7).cells2 rfl rfl | exact (hs.pull 8).cells2 rfl rfl | exact hs.cell rfl | exact (hs.pull 1).cell rfl | exact (hs.pull 2).cell rfl | exact (hs.pull 3).cell rfl | exact (hs.pull 4).cell rfl | exact (hs.pull 5).cell rfl | exact (hs.pull 6).cell rfl | exact (hs.pull 7).cell rfl | exact (hs.pull 8).cell rfl | assumption | exact hs.cellsOf | exact (hs.pull 1).cellsOf | exact (hs.pull 2).cellsOf | exact (hs.pull 3).cellsOf | exact (hs.pull 4).cellsOf | exact (hs.pull 5).cellsOf | exact (hs.pull 6).cellsOf | exact (hs.pull 7).cellsOf | exact (hs.pull 8).cellsOf)), ?_⟩
    refine x_call Try.f26 Try.func26 rfl rfl _ rfl ?_
    refine (restk_calls hs at' _ (by omega) (by omega)).mono ?_
    clear hs; rintro e w ⟨rfl, hs⟩
    refine ⟨_, rfl, fun h => (by first | (cases h; done) | (first | exact hs.cells2 rfl rfl | exact (hs.pull 1).cells2 rfl rfl | exact (hs.pull 2).cells2 rfl rfl | exact (hs.pull 3).cells2 rfl rfl | exact (hs.pull 4).cells2 rfl rfl | exact (hs.pull 5).cells2 rfl rfl | exact (hs.pull 6).cells2 rfl rfl | exact (hs.pull 7).cells2 rfl rfl | exact (hs.pull 8).cells2 rfl rfl | exact hs.cell rfl | exact (hs.pull 1).cell rfl | exact (hs.pull 2).cell rfl | exact (hs.pull 3).cell rfl | exact (hs.pull 4).cell rfl | exact (hs.pull 5).cell rfl | exact (hs.pull 6).cell rfl | exact (hs.pull 7).cell rfl | exact (hs.pull 8).cell rfl | assumption | exact hs.cellsOf | exact (hs.pull 1).cellsOf | exact (hs.pull 2).cellsOf | exact (hs.pull 3).cellsOf | exact (hs.pull 4).cellsOf | exact (hs.pull 5).cellsOf | exact (hs.pull 6).cellsOf | exact (hs.pull 7).cellsOf | exact (hs.pull 8).cellsOf) | (and_intros <;> first | exact hs.cells2 rfl rfl | exact (hs.pull 1).cells2 rfl rfl | exact (hs.pull 2).cells2 rfl rfl | exact (hs.pull 3).cells2 rfl rfl | exact (hs.pull 4).cells2 rfl rfl | exact (hs.pull 5).cells2 rfl rfl | exact (hs.pull 6).cells2 rfl rfl | exact (hs.pull 7).cells2 rfl rfl | exact (hs.pull 8).cells2 rfl rfl | exact hs.cell rfl | exact (hs.pull 1).cell rfl | exact (hs.pull 2).cell rfl | exact (hs.pull 3).cell rfl | exact (hs.pull 4).cell rfl | exact (hs.pull 5).cell rfl | exact (hs.pull 6).cell rfl | exact (hs.pull 7).cell rfl | exact (hs.pull 8).cell rfl | assumption | exact hs.cellsOf | exact (hs.pull 1).cellsOf | exact (hs.pull 2).cellsOf | exact (hs.pull 3).cellsOf | exact (hs.pull 4).cellsOf | exact (hs.pull 5).cellsOf | exact (hs.pull 6).cellsOf | exact (hs.pull 7).cellsOf | exact (hs.pull 8).cellsOf)), ?_⟩
    refine x_assign (.int _ _) rfl ?_
    refine x_nil ?_
    refine then_n ?_
    have hf := hs.fobj
    clear hs
    obtain ⟨ao, c, z, rfl, hs⟩ := hf
    rw [List.length_map] at *
    have hz0 : 0 < z.length := by omega
    obtain ⟨t, u, hz, hlk⟩ := thLook_z (a := at') hz0
    have hk := pk_lt' (x := at') hz0
    obtain ⟨z1, z2⟩ := zs hz
    have hbt := hb t (List.mem_map.2 ⟨(t, u), List.mem_of_getElem? hz, rfl⟩)
    rw [hlk]
    obtain ⟨g, o, rfl⟩ := (hs.pull 1).rowAddr hz0
    obtain ⟨a5, c5, rfl⟩ := ((hs.pull 2).eachRB z1 z2).val
    have hcells := RS.all (cells := tcell) (hs.pull 1).rd (fun _ => rfl) hz
    by_cases h5 : 512 ≤ z.length
    · skip
      refine c_seq ?_
      refine c_seq ?_
      -- region 2
      refine c_region ?_
      refine x_move (.int _ _) rfl ?_
      refine x_lssF _ _ rfl rfl (by omega) ?_
      refine x_move (.bool _) rfl ?_
      refine x_want' rfl ?_
      refine x_move (.pointer _) rfl ?_
      refine x_want' rfl ?_
      refine x_nilCheck _ rfl ?_
      refine x_want' rfl ?_
      first | refine x_field0 fa_56_0 _ rfl ?_ | refine x_field fa_56_0 _ _ rfl ?_
      refine x_want' rfl ?_
      refine x_load one_54 _ (.slice _ _ _) rfl (by first | exact hs.cell rfl | exact (hs.pull 1).cell rfl | exact (hs.pull 2).cell rfl | exact (hs.pull 3).cell rfl | assumption | exact (hs.pull 4).cell rfl | exact (hs.pull 5).cell rfl | exact (hs.pull 6).cell rfl | exact (hs.pull 7).cell rfl) ?_
      refine x_want' rfl ?_
      refine x_lenSl Try.underlying54 _ _ _ rfl ?_
      refine x_want' rfl ?_
      refine x_geqT _ _ rfl rfl (by omega) ?_
      refine x_pickF (.bool _) rfl rfl ?_
      refine x_nil ?_
      refine then_n ?_
      refine c_true rfl ?_
      refine c_seq ?_
      -- region 3
      refine c_region ?_
      refine x_assign (.bool _) rfl ?_
      refine x_nil ?_
      refine then_n ?_
      refine c_ret ?_
      refine then_r ?_
      refine ⟨.inr rfl, ?_⟩
      rw [if_pos (.inr h5)]
      exact ⟨rfl, hs.fobj'⟩
    · skip
      refine c_seq ?_
      refine c_seq ?_
      -- region 2
      refine c_region ?_
      refine x_move (.int _ _) rfl ?_
      refine x_lssF _ _ rfl rfl (by omega) ?_
      refine x_move (.bool _) rfl ?_
      refine x_want' rfl ?_
      refine x_move (.pointer _) rfl ?_
      refine x_want' rfl ?_
      refine x_nilCheck _ rfl ?_
      refine x_want' rfl ?_
      first | refine x_field0 fa_56_0 _ rfl ?_ | refine x_field fa_56_0 _ _ rfl ?_
      refine x_want' rfl ?_
      refine x_load one_54 _ (.slice _ _ _) rfl (by first | exact hs.cell rfl | exact (hs.pull 1).cell rfl | exact (hs.pull 2).cell rfl | exact (hs.pull 3).cell rfl | assumption | exact (hs.pull 4).cell rfl | exact (hs.pull 5).cell rfl | exact (hs.pull 6).cell rfl | exact (hs.pull 7).cell rfl) ?_
      refine x_want' rfl ?_
      refine x_lenSl Try.underlying54 _ _ _ rfl ?_
      refine x_want' rfl ?_
      refine x_geqF _ _ rfl rfl (by omega) ?_
      refine x_pickF (.bool _) rfl rfl ?_
      refine x_nil ?_
      refine then_n ?_
      refine c_false rfl ?_
      refine c_skip ?_
      refine then_n ?_
      refine c_seq ?_
      -- region 4
      refine c_region ?_
      refine x_move (.pointer _) rfl ?_
      refine x_nilCheck _ rfl ?_
      first | refine x_field0 fa_56_0 _ rfl ?_ | refine x_field fa_56_0 _ _ rfl ?_
      refine x_load one_54 _ (.slice _ _ _) rfl (by first | exact hs.cell rfl | exact (hs.pull 1).cell rfl | exact (hs.pull 2).cell rfl | exact (hs.pull 3).cell rfl | assumption | exact (hs.pull 4).cell rfl | exact (hs.pull 5).cell rfl | exact (hs.pull 6).cell rfl | exact (hs.pull 7).cell rfl) ?_
      refine x_move (.int _ _) rfl ?_
      refine x_indexAddr Try.underlying54 sz_59 _ _ _ _ _ rfl rfl (by omega) ?_
      refine x_loadN [.int .u16 (t.to.Id : Nat), .int .u32 (t.to.Inc : Nat), .slice a5 t.b.length c5, .bool t.sp] agg_59 _ rfl hcells ?_
      refine x_alloc zi_59 hs ?_; clear hs; intro b6 w hs; refine ⟨fun h => (by first | (cases h; done) | (first | exact hs.cells2 rfl rfl | exact (hs.pull 1).cells2 rfl rfl | exact (hs.pull 2).cells2 rfl rfl | exact (hs.pull 3).cells2 rfl rfl | exact (hs.pull 4).cells2 rfl rfl | exact (hs.pull 5).cells2 rfl rfl | exact (hs.pull 6).cells2 rfl rfl | exact (hs.pull 7).cells2 rfl rfl | exact (hs.pull 8).cells2 rfl rfl | exact hs.cell rfl | exact (hs.pull 1).cell rfl | exact (hs.pull 2).cell rfl | exact (hs.pull 3).cell rfl | exact (hs.pull 4).cell rfl | exact (hs.pull 5).cell rfl | exact (hs.pull 6).cell rfl | exact (hs.pull 7).cell rfl | exact (hs.pull 8).cell rfl | assumption | exact hs.cellsOf | exact (hs.pull 1).cellsOf | exact (hs.pull 2).cellsOf | exact (hs.pull 3).cellsOf | exact (hs.pull 4).cellsOf | exact (hs.pull 5).cellsOf | exact (hs.pull 6).cellsOf | exact (hs.pull 7).cellsOf | exact (hs.pull 8).cellsOf) | (and_intros <;> first | exact hs.cells2 rfl rfl | exact (hs.pull 1).cells2 rfl rfl | exact (hs.pull 2).cells2 rfl rfl | exact (hs.pull 3).cells2 rfl rfl | exact (hs.pull 4).cells2 rfl rfl | exact (hs.pull 5).cells2 rfl rfl | exact (hs.pull 6).cells2 rfl rfl | exact (hs.pull 7).cells2 rfl rfl | exact (hs.pull 8).cells2 rfl rfl | exact hs.cell rfl | exact (hs.pull 1).cell rfl | exact (hs.pull 2).cell rfl | exact (hs.pull 3).cell rfl | exact (hs.pull 4).cell rfl | exact (hs.pull 5).cell rfl | exact (hs.pull 6).cell rfl | exact (hs.pull 7).cell rfl | exact (hs.pull 8).cell rfl | assumption | exact hs.cellsOf | exact (hs.pull 1).cellsOf | exact (hs.pull 2).cellsOf | exact (hs.pull 3).cellsOf | exact (hs.pull 4).cellsOf | exact (hs.pull 5).cellsOf | exact (hs.pull 6).cellsOf | exact (hs.pull 7).cellsOf | exact (hs.pull 8).cellsOf)), ?_⟩
      first
        | refine x_storeAllI hs 0 rfl rfl agg_59 [_, _, _, _] rfl rfl rfl rfl ?_
        | refine x_storeAllI hs 1 rfl rfl agg_59 [_, _, _, _] rfl rfl rfl rfl ?_
        | refine x_storeAllI hs 2 rfl rfl agg_59 [_, _, _, _] rfl rfl rfl rfl ?_
        | refine x_storeAllI hs 3 rfl rfl agg_59 [_, _, _, _] rfl rfl rfl rfl ?_
        | refine x_storeAllI hs 4 rfl rfl agg_59 [_, _, _, _] rfl rfl rfl rfl ?_
        | refine x_storeAllI hs 5 rfl rfl agg_59 [_, _, _, _] rfl rfl rfl rfl ?_
        | refine x_storeAllI hs 6 rfl rfl agg_59 [_, _, _, _] rfl rfl rfl rfl ?_
        | refine x_storeAllI hs 7 rfl rfl agg_59 [_, _, _, _] rfl rfl rfl rfl ?_
      clear hs; intro w hs
      try dsimp only [back, List.set_cons_zero, List.set_cons_succ] at hs
      refine ⟨fun h => (by first | (cases h; done) | (first | exact hs.cells2 rfl rfl | exact (hs.pull 1).cells2 rfl rfl | exact (hs.pull 2).cells2 rfl rfl | exact (hs.pull 3).cells2 rfl rfl | exact (hs.pull 4).cells2 rfl rfl | exact (hs.pull 5).cells2 rfl rfl | exact (hs.pull 6).cells2 rfl rfl | exact (hs.pull 7).cells2 rfl rfl | exact (hs.pull 8).cells2 rfl rfl | exact hs.cell rfl | exact (hs.pull 1).cell rfl | exact (hs.pull 2).cell rfl | exact (hs.pull 3).cell rfl | exact (hs.pull 4).cell rfl | exact (hs.pull 5).cell rfl | exact (hs.pull 6).cell rfl | exact (hs.pull 7).cell rfl | exact (hs.pull 8).cell rfl | assumption | exact hs.cellsOf | exact (hs.pull 1).cellsOf | exact (hs.pull 2).cellsOf | exact (hs.pull 3).cellsOf | exact (hs.pull 4).cellsOf | exact (hs.pull 5).cellsOf | exact (hs.pull 6).cellsOf | exact (hs.pull 7).cellsOf | exact (hs.pull 8).cellsOf) | (and_intros <;> first | exact hs.cells2 rfl rfl | exact (hs.pull 1).cells2 rfl rfl | exact (hs.pull 2).cells2 rfl rfl | exact (hs.pull 3).cells2 rfl rfl | exact (hs.pull 4).cells2 rfl rfl | exact (hs.pull 5).cells2 rfl rfl | exact (hs.pull 6).cells2 rfl rfl | exact (hs.pull 7).cells2 rfl rfl | exact (hs.pull 8).cells2 rfl rfl | exact hs.cell rfl | exact (hs.pull 1).cell rfl | exact (hs.pull 2).cell rfl | exact (hs.pull 3).cell rfl | exact (hs.pull 4).cell rfl | exact (hs.pull 5).cell rfl | exact (hs.pull 6).cell rfl | exact (hs.pull 7).cell rfl | exact (hs.pull 8).cell rfl | assumption | exact hs.cellsOf | exact (hs.pull 1).cellsOf | exact (hs.pull 2).cellsOf | exact (hs.pull 3).cellsOf | exact (hs.pull 4).cellsOf | exact (hs.pull 5).cellsOf | exact (hs.pull 6).cellsOf | exact (hs.pull 7).cellsOf | exact (hs.pull 8).cellsOf)), ?_⟩
      refine x_nil ?_
      refine then_n ?_
      refine c_seq ?_
      -- region 5
      clear hcells
      rw [if_neg (by omega)]
      refine c_region ?_
      first | refine x_field0 fa_59_1 _ rfl ?_ | refine x_field fa_59_1 _ _ rfl ?_
      refine x_load one_22 _ (.slice _ _ _) rfl (by first | exact hs.cell rfl | exact (hs.pull 1).cell rfl | exact (hs.pull 2).cell rfl | exact (hs.pull 3).cell rfl | assumption | exact (hs.pull 4).cell rfl | exact (hs.pull 5).cell rfl | exact (hs.pull 6).cell rfl | exact (hs.pull 7).cell rfl) ?_
      refine x_call Try.f24 Try.func24 rfl rfl _ rfl ?_
      refine (clone_calls hs ((hs.pull 3).eachRB z1 z2) (by omega)).mono ?_
      clear hs; rintro e w ⟨v', rfl, hs⟩
      refine ⟨_, rfl, fun h => (by first | (cases h; done) | (first | exact hs.cells2 rfl rfl | exact (hs.pull 1).cells2 rfl rfl | exact (hs.pull 2).cells2 rfl rfl | exact (hs.pull 3).cells2 rfl rfl | exact (hs.pull 4).cells2 rfl rfl | exact (hs.pull 5).cells2 rfl rfl | exact (hs.pull 6).cells2 rfl rfl | exact (hs.pull 7).cells2 rfl rfl | exact (hs.pull 8).cells2 rfl rfl | exact hs.cell rfl | exact (hs.pull 1).cell rfl | exact (hs.pull 2).cell rfl | exact (hs.pull 3).cell rfl | exact (hs.pull 4).cell rfl | exact (hs.pull 5).cell rfl | exact (hs.pull 6).cell rfl | exact (hs.pull 7).cell rfl | exact (hs.pull 8).cell rfl | assumption | exact hs.cellsOf | exact (hs.pull 1).cellsOf | exact (hs.pull 2).cellsOf | exact (hs.pull 3).cellsOf | exact (hs.pull 4).cellsOf | exact (hs.pull 5).cellsOf | exact (hs.pull 6).cellsOf | exact (hs.pull 7).cellsOf | exact (hs.pull 8).cellsOf) | (and_intros <;> first | exact hs.cells2 rfl rfl | exact (hs.pull 1).cells2 rfl rfl | exact (hs.pull 2).cells2 rfl rfl | exact (hs.pull 3).cells2 rfl rfl | exact (hs.pull 4).cells2 rfl rfl | exact (hs.pull 5).cells2 rfl rfl | exact (hs.pull 6).cells2 rfl rfl | exact (hs.pull 7).cells2 rfl rfl | exact (hs.pull 8).cells2 rfl rfl | exact hs.cell rfl | exact (hs.pull 1).cell rfl | exact (hs.pull 2).cell rfl | exact (hs.pull 3).cell rfl | exact (hs.pull 4).cell rfl | exact (hs.pull 5).cell rfl | exact (hs.pull 6).cell rfl | exact (hs.pull 7).cell rfl | exact (hs.pull 8).cell rfl | assumption | exact hs.cellsOf | exact (hs.pull 1).cellsOf | exact (hs.pull 2).cellsOf | exact (hs.pull 3).cellsOf | exact (hs.pull 4).cellsOf | exact (hs.pull 5).cellsOf | exact (hs.pull 6).cellsOf | exact (hs.pull 7).cellsOf | exact (hs.pull 8).cellsOf)), ?_⟩
      obtain ⟨a2, c2, rfl⟩ := hs.br.val
      first | refine x_field0 fa_59_1 _ rfl ?_ | refine x_field fa_59_1 _ _ rfl ?_
      first
        | refine x_storeI hs 0 rfl rfl one_22 (.slice _ _ _) rfl rfl rfl ?_
        | refine x_storeI hs 1 rfl rfl one_22 (.slice _ _ _) rfl rfl rfl ?_
        | refine x_storeI hs 2 rfl rfl one_22 (.slice _ _ _) rfl rfl rfl ?_
        | refine x_storeI hs 3 rfl rfl one_22 (.slice _ _ _) rfl rfl rfl ?_
        | refine x_storeI hs 4 rfl rfl one_22 (.slice _ _ _) rfl rfl rfl ?_
        | refine x_storeI hs 5 rfl rfl one_22 (.slice _ _ _) rfl rfl rfl ?_
        | refine x_storeI hs 6 rfl rfl one_22 (.slice _ _ _) rfl rfl rfl ?_
        | refine x_storeI hs 7 rfl rfl one_22 (.slice _ _ _) rfl rfl rfl ?_
      clear hs; intro w hs
      try dsimp only [back, List.set_cons_zero, List.set_cons_succ] at hs
      refine ⟨fun h => (by first | (cases h; done) | (first | exact hs.cells2 rfl rfl | exact (hs.pull 1).cells2 rfl rfl | exact (hs.pull 2).cells2 rfl rfl | exact (hs.pull 3).cells2 rfl rfl | exact (hs.pull 4).cells2 rfl rfl | exact (hs.pull 5).cells2 rfl rfl | exact (hs.pull 6).cells2 rfl rfl | exact (hs.pull 7).cells2 rfl rfl | exact (hs.pull 8).cells2 rfl rfl | exact hs.cell rfl | exact (hs.pull 1).cell rfl | exact (hs.pull 2).cell rfl | exact (hs.pull 3).cell rfl | exact (hs.pull 4).cell rfl | exact (hs.pull 5).cell rfl | exact (hs.pull 6).cell rfl | exact (hs.pull 7).cell rfl | exact (hs.pull 8).cell rfl | assumption | exact hs.cellsOf | exact (hs.pull 1).cellsOf | exact (hs.pull 2).cellsOf | exact (hs.pull 3).cellsOf | exact (hs.pull 4).cellsOf | exact (hs.pull 5).cellsOf | exact (hs.pull 6).cellsOf | exact (hs.pull 7).cellsOf | exact (hs.pull 8).cellsOf) | (and_intros <;> first | exact hs.cells2 rfl rfl | exact (hs.pull 1).cells2 rfl rfl | exact (hs.pull 2).cells2 rfl rfl | exact (hs.pull 3).cells2 rfl rfl | exact (hs.pull 4).cells2 rfl rfl | exact (hs.pull 5).cells2 rfl rfl | exact (hs.pull 6).cells2 rfl rfl | exact (hs.pull 7).cells2 rfl rfl | exact (hs.pull 8).cells2 rfl rfl | exact hs.cell rfl | exact (hs.pull 1).cell rfl | exact (hs.pull 2).cell rfl | exact (hs.pull 3).cell rfl | exact (hs.pull 4).cell rfl | exact (hs.pull 5).cell rfl | exact (hs.pull 6).cell rfl | exact (hs.pull 7).cell rfl | exact (hs.pull 8).cell rfl | assumption | exact hs.cellsOf | exact (hs.pull 1).cellsOf | exact (hs.pull 2).cellsOf | exact (hs.pull 3).cellsOf | exact (hs.pull 4).cellsOf | exact (hs.pull 5).cellsOf | exact (hs.pull 6).cellsOf | exact (hs.pull 7).cellsOf | exact (hs.pull 8).cellsOf)), ?_⟩
      refine x_nil ?_
      refine then_n ?_
      refine c_seq ?_
      -- region 6 DRAWS
      refine c_draw (fun w => w.cell? ⟨f, 0, none⟩ = some (.slice (some ⟨g, o, none⟩) z.length c) ∧ (∀ (j : Nat) (u : Value), [Value.int .u16 (t.to.Id : Nat), .int .u32 (t.to.Inc : Nat), .slice a2 t.b.length c2, .bool t.sp][j]? = some u → w.cell? ((⟨b6, 0, none⟩ : Addr).add j) = some u)) (fun i => !(Nat.beq i 7 || Nat.beq i 10)) [(0, 2), (1, 2), (2, 2), (3, 2), (4, 1), (5, 1), (6, 0), (7, 0), (8, 2), (9, 2), (10, 0)] (by kernel_rfl) (by kernel_rfl) (by kernel_rfl) (by kernel_rfl) ((by first | (first | exact hs.cells2 rfl rfl | exact (hs.pull 1).cells2 rfl rfl | exact (hs.pull 2).cells2 rfl rfl | exact (hs.pull 3).cells2 rfl rfl | exact (hs.pull 4).cells2 rfl rfl | exact (hs.pull 5).cells2 rfl rfl | exact (hs.pull 6).cells2 rfl rfl | exact (hs.pull 7).cells2 rfl rfl | exact (hs.pull 8).cells2 rfl rfl | exact hs.cell rfl | exact (hs.pull 1).cell rfl | exact (hs.pull 2).cell rfl | exact (hs.pull 3).cell rfl | exact (hs.pull 4).cell rfl | exact (hs.pull 5).cell rfl | exact (hs.pull 6).cell rfl | exact (hs.pull 7).cell rfl | exact (hs.pull 8).cell rfl | assumption | exact hs.cellsOf | exact (hs.pull 1).cellsOf | exact (hs.pull 2).cellsOf | exact (hs.pull 3).cellsOf | exact (hs.pull 4).cellsOf | exact (hs.pull 5).cellsOf | exact (hs.pull 6).cellsOf | exact (hs.pull 7).cellsOf | exact (hs.pull 8).cellsOf) | (and_intros <;> first | exact hs.cells2 rfl rfl | exact (hs.pull 1).cells2 rfl rfl | exact (hs.pull 2).cells2 rfl rfl | exact (hs.pull 3).cells2 rfl rfl | exact (hs.pull 4).cells2 rfl rfl | exact (hs.pull 5).cells2 rfl rfl | exact (hs.pull 6).cells2 rfl rfl | exact (hs.pull 7).cells2 rfl rfl | exact (hs.pull 8).cells2 rfl rfl | exact hs.cell rfl | exact (hs.pull 1).cell rfl | exact (hs.pull 2).cell rfl | exact (hs.pull 3).cell rfl | exact (hs.pull 4).cell rfl | exact (hs.pull 5).cell rfl | exact (hs.pull 6).cell rfl | exact (hs.pull 7).cell rfl | exact (hs.pull 8).cell rfl | assumption | exact hs.cellsOf | exact (hs.pull 1).cellsOf | exact (hs.pull 2).cellsOf | exact (hs.pull 3).cellsOf | exact (hs.pull 4).cellsOf | exact (hs.pull 5).cellsOf | exact (hs.pull 6).cellsOf | exact (hs.pull 7).cellsOf | exact (hs.pull 8).cellsOf))) ?_
      replace hs := hs.drew
      refine x_move (.pointer _) rfl ?_
      refine x_move (.pointer _) rfl ?_
      refine x_nilCheck _ rfl ?_
      first | refine x_field0 fa_56_0 _ rfl ?_ | refine x_field fa_56_0 _ _ rfl ?_
      refine h_load one_54 _ (.slice _ _ _) rfl (fun w hS => by first | exact hS.cell rfl | exact (hS.pull 1).cell rfl | exact (hS.pull 2).cell rfl | exact (hS.pull 3).cell rfl | exact (hS.pull 4).cell rfl | exact (hS.pull 5).cell rfl | exact (hS.pull 6).cell rfl | exact hS | exact hS.1 | exact hS.2 | exact hS.2.1 | exact hS.2.2 | exact hS.2.2.1 | exact hS.2.2.2 | exact hS.2.2.2.1 | exact hS.2.2.2.2) ?_
      refine h_loadN [_, _, _, _] agg_59 _ rfl (fun w hS => by first | exact hS | exact hS.1 | exact hS.2 | exact hS.2.1 | exact hS.2.2 | exact hS.2.2.1 | exact hS.2.2.2 | exact hS.2.2.2.1 | exact hS.2.2.2.2 | exact hS.cellsOf | exact (hS.pull 1).cellsOf | exact (hS.pull 2).cellsOf | exact (hS.pull 3).cellsOf | exact (hS.pull 4).cellsOf | exact (hS.pull 5).cellsOf | exact (hS.pull 6).cellsOf | exact hS.cells2 rfl rfl | exact (hS.pull 1).cells2 rfl rfl | exact (hS.pull 2).cells2 rfl rfl | exact (hS.pull 3).cells2 rfl rfl | exact (hS.pull 4).cells2 rfl rfl | exact (hS.pull 5).cells2 rfl rfl | exact (hS.pull 6).cells2 rfl rfl) ?_
      refine x_buildSlice _ [(0, (.agg #[(.int .u16 _), (.int .u32 _), (.slice _ _ _), (.bool _)]))] hs rfl (fun w => bs_54_1 _ _ _ _ _ _ w) ?_; clear hs; intro b38 w hs; refine ⟨fun h => (by first | (cases h; done) | (first | exact hs.cells2 rfl rfl | exact (hs.pull 1).cells2 rfl rfl | exact (hs.pull 2).cells2 rfl rfl | exact (hs.pull 3).cells2 rfl rfl | exact (hs.pull 4).cells2 rfl rfl | exact (hs.pull 5).cells2 rfl rfl | exact (hs.pull 6).cells2 rfl rfl | exact (hs.pull 7).cells2 rfl rfl | exact (hs.pull 8).cells2 rfl rfl | exact hs.cell rfl | exact (hs.pull 1).cell rfl | exact (hs.pull 2).cell rfl | exact (hs.pull 3).cell rfl | exact (hs.pull 4).cell rfl | exact (hs.pull 5).cell rfl | exact (hs.pull 6).cell rfl | exact (hs.pull 7).cell rfl | exact (hs.pull 8).cell rfl | assumption | exact hs.cellsOf | exact (hs.pull 1).cellsOf | exact (hs.pull 2).cellsOf | exact (hs.pull 3).cellsOf | exact (hs.pull 4).cellsOf | exact (hs.pull 5).cellsOf | exact (hs.pull 6).cellsOf | exact (hs.pull 7).cellsOf | exact (hs.pull 8).cellsOf) | (and_intros <;> first | exact hs.cells2 rfl rfl | exact (hs.pull 1).cells2 rfl rfl | exact (hs.pull 2).cells2 rfl rfl | exact (hs.pull 3).cells2 rfl rfl | exact (hs.pull 4).cells2 rfl rfl | exact (hs.pull 5).cells2 rfl rfl | exact (hs.pull 6).cells2 rfl rfl | exact (hs.pull 7).cells2 rfl rfl | exact (hs.pull 8).cells2 rfl rfl | exact hs.cell rfl | exact (hs.pull 1).cell rfl | exact (hs.pull 2).cell rfl | exact (hs.pull 3).cell rfl | exact (hs.pull 4).cell rfl | exact (hs.pull 5).cell rfl | exact (hs.pull 6).cell rfl | exact (hs.pull 7).cell rfl | exact (hs.pull 8).cell rfl | assumption | exact hs.cellsOf | exact (hs.pull 1).cellsOf | exact (hs.pull 2).cellsOf | exact (hs.pull 3).cellsOf | exact (hs.pull 4).cellsOf | exact (hs.pull 5).cellsOf | exact (hs.pull 6).cellsOf | exact (hs.pull 7).cellsOf | exact (hs.pull 8).cellsOf)), ?_⟩
      have hrd := rd_blk (size := 4) hs rfl
      refine x_append (hs.pull 4) Try.underlying54 ei_59 hrd (by intro u hu; simp at hu; rcases hu with rfl | rfl | rfl | rfl <;> rfl) (by unfold maxLen; omega) (by omega) rfl rfl ?_
      clear hs hrd; intro v w hs; refine ⟨fun h => (by cases h), ?_⟩
      obtain ⟨a7, c7, rfl⟩ := hs.rd.val
      refine x_nilCheck _ rfl ?_
      first | refine x_field0 fa_56_0 _ rfl ?_ | refine x_field fa_56_0 _ _ rfl ?_
      first
        | refine x_storeI hs 0 rfl rfl one_54 (.slice _ _ _) rfl rfl rfl ?_
        | refine x_storeI hs 1 rfl rfl one_54 (.slice _ _ _) rfl rfl rfl ?_
        | refine x_storeI hs 2 rfl rfl one_54 (.slice _ _ _) rfl rfl rfl ?_
        | refine x_storeI hs 3 rfl rfl one_54 (.slice _ _ _) rfl rfl rfl ?_
        | refine x_storeI hs 4 rfl rfl one_54 (.slice _ _ _) rfl rfl rfl ?_
        | refine x_storeI hs 5 rfl rfl one_54 (.slice _ _ _) rfl rfl rfl ?_
        | refine x_storeI hs 6 rfl rfl one_54 (.slice _ _ _) rfl rfl rfl ?_
        | refine x_storeI hs 7 rfl rfl one_54 (.slice _ _ _) rfl rfl rfl ?_
      clear hs; intro w hs
      try dsimp only [back, List.set_cons_zero, List.set_cons_succ] at hs
      refine ⟨fun h => (by first | (cases h; done) | (first | exact hs.cells2 rfl rfl | exact (hs.pull 1).cells2 rfl rfl | exact (hs.pull 2).cells2 rfl rfl | exact (hs.pull 3).cells2 rfl rfl | exact (hs.pull 4).cells2 rfl rfl | exact (hs.pull 5).cells2 rfl rfl | exact (hs.pull 6).cells2 rfl rfl | exact (hs.pull 7).cells2 rfl rfl | exact (hs.pull 8).cells2 rfl rfl | exact hs.cell rfl | exact (hs.pull 1).cell rfl | exact (hs.pull 2).cell rfl | exact (hs.pull 3).cell rfl | exact (hs.pull 4).cell rfl | exact (hs.pull 5).cell rfl | exact (hs.pull 6).cell rfl | exact (hs.pull 7).cell rfl | exact (hs.pull 8).cell rfl | assumption | exact hs.cellsOf | exact (hs.pull 1).cellsOf | exact (hs.pull 2).cellsOf | exact (hs.pull 3).cellsOf | exact (hs.pull 4).cellsOf | exact (hs.pull 5).cellsOf | exact (hs.pull 6).cellsOf | exact (hs.pull 7).cellsOf | exact (hs.pull 8).cellsOf) | (and_intros <;> first | exact hs.cells2 rfl rfl | exact (hs.pull 1).cells2 rfl rfl | exact (hs.pull 2).cells2 rfl rfl | exact (hs.pull 3).cells2 rfl rfl | exact (hs.pull 4).cells2 rfl rfl | exact (hs.pull 5).cells2 rfl rfl | exact (hs.pull 6).cells2 rfl rfl | exact (hs.pull 7).cells2 rfl rfl | exact (hs.pull 8).cells2 rfl rfl | exact hs.cell rfl | exact (hs.pull 1).cell rfl | exact (hs.pull 2).cell rfl | exact (hs.pull 3).cell rfl | exact (hs.pull 4).cell rfl | exact (hs.pull 5).cell rfl | exact (hs.pull 6).cell rfl | exact (hs.pull 7).cell rfl | exact (hs.pull 8).cell rfl | assumption | exact hs.cellsOf | exact (hs.pull 1).cellsOf | exact (hs.pull 2).cellsOf | exact (hs.pull 3).cellsOf | exact (hs.pull 4).cellsOf | exact (hs.pull 5).cellsOf | exact (hs.pull 6).cellsOf | exact (hs.pull 7).cellsOf | exact (hs.pull 8).cellsOf)), ?_⟩
      refine x_nil ?_
      refine then_n ?_
      refine c_seq ?_
      -- region 7
      refine c_region ?_
      refine x_assign (.bool _) rfl ?_
      refine x_nil ?_
      refine then_n ?_
      refine c_ret ?_
      refine ⟨.inr rfl, ?_⟩
      have hs := ((hs.pull 1).tail.pull 2).tail.perm [2, 0, 3, 1]
      exact ⟨rfl, fobj_snoc (t := t) hs⟩
end Go.Proofs.Ytipleepbhcembaa.X
