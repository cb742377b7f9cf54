/-
  CLOSED FACTS of the program: fields, sizes, kinds of the types that its operations name. Written by xg.py.
-/
import Derived.Test.YtipleepbhcembaaRow
import Derived.Test.YtipleepbhcembaaRows
namespace Go.Proofs.Ytipleepbhcembaa
open Go Go.RowKit X
theorem agg_30 : Agg Try.prog 30 2 := agg_of Try.underlying30 rfl (by kernel_rfl)
theorem agg_44 : Agg Try.prog 44 8 := agg_of Try.underlying44 rfl (by kernel_rfl)
theorem agg_47 : Agg Try.prog 47 4 := agg_of Try.underlying47 rfl (by kernel_rfl)
theorem agg_59 : Agg Try.prog 59 4 := agg_of Try.underlying59 rfl (by kernel_rfl)
theorem bd_30 (w : World) : (Instr.build 30 #[]).run Try.prog w = .ok (.agg #[(.int .u16 0), (.int .u32 0)]) w := by kernel_rfl
theorem bd_30_0_1 (z0 : Int) (z1 : Int) (w : World) : (Instr.build 30 #[(0, (.int .u16 z0)), (1, (.int .u32 z1))]).run Try.prog w = .ok (.agg #[(.int .u16 z0), (.int .u32 z1)]) w := by kernel_rfl
theorem bd_42 (w : World) : (Instr.build 42 #[]).run Try.prog w = .ok (.agg #[(.slice none 0 0)]) w := by kernel_rfl
theorem bd_47 (w : World) : (Instr.build 47 #[]).run Try.prog w = .ok (.agg #[(.int .u16 0), (.int .u32 0), (.slice none 0 0), (.bool false)]) w := by kernel_rfl
theorem bd_47_0_1 (z0 : Int) (z1 : Int) (z2 : Option Addr) (z3 : Nat) (z4 : Nat) (w : World) : (Instr.build 47 #[(0, (.agg #[(.int .u16 z0), (.int .u32 z1)])), (1, (.slice z2 z3 z4))]).run Try.prog w = .ok (.agg #[(.int .u16 z0), (.int .u32 z1), (.slice z2 z3 z4), (.bool false)]) w := by kernel_rfl
theorem bd_47_0_1_2 (z0 : Int) (z1 : Int) (z2 : Option Addr) (z3 : Nat) (z4 : Nat) (z5 : Bool) (w : World) : (Instr.build 47 #[(0, (.agg #[(.int .u16 z0), (.int .u32 z1)])), (1, (.slice z2 z3 z4)), (2, (.bool z5))]).run Try.prog w = .ok (.agg #[(.int .u16 z0), (.int .u32 z1), (.slice z2 z3 z4), (.bool z5)]) w := by kernel_rfl
theorem bd_56 (w : World) : (Instr.build 56 #[]).run Try.prog w = .ok (.agg #[(.slice none 0 0)]) w := by kernel_rfl
theorem bd_59_0_1 (z0 : Int) (z1 : Int) (z2 : Option Addr) (z3 : Nat) (z4 : Nat) (w : World) : (Instr.build 59 #[(0, (.agg #[(.int .u16 z0), (.int .u32 z1)])), (1, (.slice z2 z3 z4))]).run Try.prog w = .ok (.agg #[(.int .u16 z0), (.int .u32 z1), (.slice z2 z3 z4), (.bool false)]) w := by kernel_rfl
theorem bs_22_0 (w : World) : (Instr.buildSlice 22 0 #[]).run Try.prog w = .ok (.slice (some ⟨w.heap.size, 0, none⟩) 0 0) (w.alloc (.cells #[] 5)) := by kernel_rfl
theorem bs_22_2 (z0 : Int) (z1 : Int) (w : World) : (Instr.buildSlice 22 2 #[(0, (.int .u8 z0)), (1, (.int .u8 z1))]).run Try.prog w = .ok (.slice (some ⟨w.heap.size, 0, none⟩) 2 2) (w.alloc (.cells #[(.int .u8 z0), (.int .u8 z1)] 5)) := by kernel_rfl
theorem bs_40_1 (z0 : Int) (z1 : Int) (z2 : Option Addr) (z3 : Nat) (z4 : Nat) (z5 : Bool) (w : World) : (Instr.buildSlice 40 1 #[(0, (.agg #[(.int .u16 z0), (.int .u32 z1), (.slice z2 z3 z4), (.bool z5)]))]).run Try.prog w = .ok (.slice (some ⟨w.heap.size, 0, none⟩) 1 1) (w.alloc (.cells #[(.int .u16 z0), (.int .u32 z1), (.slice z2 z3 z4), (.bool z5)] 47)) := by kernel_rfl
theorem bs_54_1 (z0 : Int) (z1 : Int) (z2 : Option Addr) (z3 : Nat) (z4 : Nat) (z5 : Bool) (w : World) : (Instr.buildSlice 54 1 #[(0, (.agg #[(.int .u16 z0), (.int .u32 z1), (.slice z2 z3 z4), (.bool z5)]))]).run Try.prog w = .ok (.slice (some ⟨w.heap.size, 0, none⟩) 1 1) (w.alloc (.cells #[(.int .u16 z0), (.int .u32 z1), (.slice z2 z3 z4), (.bool z5)] 59)) := by kernel_rfl
theorem cv_3_5 : Cv Try.prog 3 5 .u8 := cv_of Try.underlying3 Try.underlying5
theorem ei_44 : EI Try.prog 44 (.agg #[(.int .i64 0), (.int .i64 0), (.int .i64 0), (.int .i64 0), (.int .i64 0), (.int .u16 0), (.int .u32 0), (.slice none 0 0)]) 8 72 := ei_of (by kernel_rfl) (by rfl) (by decide)
theorem ei_47 : EI Try.prog 47 (.agg #[(.int .u16 0), (.int .u32 0), (.slice none 0 0), (.bool false)]) 4 40 := ei_of (by kernel_rfl) (by rfl) (by decide)
theorem ei_5 : EI Try.prog 5 (.int .u8 0) 1 1 := ei_of (by kernel_rfl) (by rfl) (by decide)
theorem ei_59 : EI Try.prog 59 (.agg #[(.int .u16 0), (.int .u32 0), (.slice none 0 0), (.bool false)]) 4 40 := ei_of (by kernel_rfl) (by rfl) (by decide)
theorem fa_42_0 : FA Try.prog 42 0 0 := fa_of (ft := 40) (s := 0) Try.underlying42 rfl (by kernel_rfl)
theorem fa_44_0 : FA Try.prog 44 0 0 := fa_of (ft := 3) (s := 0) Try.underlying44 rfl (by kernel_rfl)
theorem fa_44_1 : FA Try.prog 44 1 1 := fa_of (ft := 3) (s := 0) Try.underlying44 rfl (by kernel_rfl)
theorem fa_44_2 : FA Try.prog 44 2 2 := fa_of (ft := 3) (s := 0) Try.underlying44 rfl (by kernel_rfl)
theorem fa_44_3 : FA Try.prog 44 3 3 := fa_of (ft := 3) (s := 0) Try.underlying44 rfl (by kernel_rfl)
theorem fa_44_4 : FA Try.prog 44 4 4 := fa_of (ft := 3) (s := 0) Try.underlying44 rfl (by kernel_rfl)
theorem fa_44_5 : FA Try.prog 44 5 5 := fa_of (ft := 30) (s := 1) Try.underlying44 rfl (by kernel_rfl)
theorem fa_44_6 : FA Try.prog 44 6 7 := fa_of (ft := 22) (s := 0) Try.underlying44 rfl (by kernel_rfl)
theorem fa_47_0 : FA Try.prog 47 0 0 := fa_of (ft := 30) (s := 1) Try.underlying47 rfl (by kernel_rfl)
theorem fa_47_1 : FA Try.prog 47 1 2 := fa_of (ft := 22) (s := 0) Try.underlying47 rfl (by kernel_rfl)
theorem fa_47_2 : FA Try.prog 47 2 3 := fa_of (ft := 4) (s := 0) Try.underlying47 rfl (by kernel_rfl)
theorem fa_56_0 : FA Try.prog 56 0 0 := fa_of (ft := 54) (s := 0) Try.underlying56 rfl (by kernel_rfl)
theorem fa_59_0 : FA Try.prog 59 0 0 := fa_of (ft := 30) (s := 1) Try.underlying59 rfl (by kernel_rfl)
theorem fa_59_1 : FA Try.prog 59 1 2 := fa_of (ft := 22) (s := 0) Try.underlying59 rfl (by kernel_rfl)
theorem fa_59_2 : FA Try.prog 59 2 3 := fa_of (ft := 4) (s := 0) Try.underlying59 rfl (by kernel_rfl)
theorem one_22 : One Try.prog 22 := one_of Try.underlying22 rfl (by kernel_rfl)
theorem one_3 : One Try.prog 3 := one_of Try.underlying3 rfl (by kernel_rfl)
theorem one_4 : One Try.prog 4 := one_of Try.underlying4 rfl (by kernel_rfl)
theorem one_40 : One Try.prog 40 := one_of Try.underlying40 rfl (by kernel_rfl)
theorem one_5 : One Try.prog 5 := one_of Try.underlying5 rfl (by kernel_rfl)
theorem one_54 : One Try.prog 54 := one_of Try.underlying54 rfl (by kernel_rfl)
theorem sz_44 : Sz Try.prog 44 8 := sz_of (by kernel_rfl)
theorem sz_47 : Sz Try.prog 47 4 := sz_of (by kernel_rfl)
theorem sz_5 : Sz Try.prog 5 1 := sz_of (by kernel_rfl)
theorem sz_59 : Sz Try.prog 59 4 := sz_of (by kernel_rfl)
theorem zi_30 : (Try.prog.info? 30).map (·.zero) = some (some (.agg #[(.int .u16 0), (.int .u32 0)])) := by kernel_rfl
theorem zi_44 : (Try.prog.info? 44).map (·.zero) = some (some (.agg #[(.int .i64 0), (.int .i64 0), (.int .i64 0), (.int .i64 0), (.int .i64 0), (.int .u16 0), (.int .u32 0), (.slice none 0 0)])) := by kernel_rfl
theorem zi_47 : (Try.prog.info? 47).map (·.zero) = some (some (.agg #[(.int .u16 0), (.int .u32 0), (.slice none 0 0), (.bool false)])) := by kernel_rfl
theorem zi_59 : (Try.prog.info? 59).map (·.zero) = some (some (.agg #[(.int .u16 0), (.int .u32 0), (.slice none 0 0), (.bool false)])) := by kernel_rfl
end Go.Proofs.Ytipleepbhcembaa
