/-
  CLOSED FACTS of the program: fields, sizes, kinds of the types that its operations name. Written by xg.py.
-/
import Derived.Test.YtfnfpajjggbipaaRow
import Derived.Test.YtfnfpajjggbipaaRows
namespace Go.Proofs.Ytfnfpajjggbipaa
open Go Go.RowKit X
theorem agg_32 : Agg Try.prog 32 3 := agg_of Try.underlying32 rfl (by kernel_rfl)
theorem agg_52 : Agg Try.prog 52 3 := agg_of Try.underlying52 rfl (by kernel_rfl)
theorem bd_29_0 (z0 : Int) (w : World) : (Instr.build 29 #[(0, (.int .u64 z0))]).run Try.prog w = .ok (.agg #[(.int .u64 z0), (.int .u64 0), (.slice none 0 0)]) w := by kernel_rfl
theorem bd_52_0 (z0 : Int) (w : World) : (Instr.build 52 #[(0, (.int .u64 z0))]).run Try.prog w = .ok (.agg #[(.int .u64 z0), (.int .u64 0), (.slice none 0 0)]) w := by kernel_rfl
theorem bd_54_0_1 (z0 : Int) (z1 : Option Addr) (z2 : Nat) (z3 : Nat) (w : World) : (Instr.build 54 #[(0, (.int .u64 z0)), (1, (.slice z1 z2 z3))]).run Try.prog w = .ok (.agg #[(.int .u64 z0), (.slice z1 z2 z3)]) w := by kernel_rfl
theorem bs_27_1 (z0 : Int) (z1 : Option Addr) (z2 : Nat) (z3 : Nat) (w : World) : (Instr.buildSlice 27 1 #[(0, (.agg #[(.int .u64 z0), (.slice z1 z2 z3)]))]).run Try.prog w = .ok (.slice (some ⟨w.heap.size, 0, none⟩) 1 1) (w.alloc (.cells #[(.int .u64 z0), (.slice z1 z2 z3)] 54)) := by kernel_rfl
theorem bs_30_0 (w : World) : (Instr.buildSlice 30 0 #[]).run Try.prog w = .ok (.slice (some ⟨w.heap.size, 0, none⟩) 0 0) (w.alloc (.cells #[] 5)) := by kernel_rfl
theorem bs_30_1 (z0 : Int) (w : World) : (Instr.buildSlice 30 1 #[(0, (.int .u8 z0))]).run Try.prog w = .ok (.slice (some ⟨w.heap.size, 0, none⟩) 1 1) (w.alloc (.cells #[(.int .u8 z0)] 5)) := by kernel_rfl
theorem bs_50_1 (z0 : Option Addr) (z1 : Nat) (z2 : Nat) (w : World) : (Instr.buildSlice 50 1 #[(0, (.slice z0 z1 z2))]).run Try.prog w = .ok (.slice (some ⟨w.heap.size, 0, none⟩) 1 1) (w.alloc (.cells #[(.slice z0 z1 z2)] 30)) := by kernel_rfl
theorem cv_22_3 : Cv Try.prog 22 3 .i64 := cv_of Try.underlying22 Try.underlying3
theorem cv_3_22 : Cv Try.prog 3 22 .u64 := cv_of Try.underlying3 Try.underlying22
theorem cv_47_3 : Cv Try.prog 47 3 .i64 := cv_of Try.underlying47 Try.underlying3
theorem cv_5_22 : Cv Try.prog 5 22 .u64 := cv_of Try.underlying5 Try.underlying22
theorem ei_30 : EI Try.prog 30 (.slice none 0 0) 1 24 := ei_of (by kernel_rfl) (by rfl) (by decide)
theorem ei_32 : EI Try.prog 32 (.agg #[(.int .i64 0), (.int .u64 0), (.slice none 0 0)]) 3 40 := ei_of (by kernel_rfl) (by rfl) (by decide)
theorem ei_47 : EI Try.prog 47 (.int .u16 0) 1 2 := ei_of (by kernel_rfl) (by rfl) (by decide)
theorem ei_5 : EI Try.prog 5 (.int .u8 0) 1 1 := ei_of (by kernel_rfl) (by rfl) (by decide)
theorem ei_54 : EI Try.prog 54 (.agg #[(.int .u64 0), (.slice none 0 0)]) 2 32 := ei_of (by kernel_rfl) (by rfl) (by decide)
theorem fa_29_0 : FA Try.prog 29 0 0 := fa_of (ft := 22) (s := 0) Try.underlying29 rfl (by kernel_rfl)
theorem fa_29_1 : FA Try.prog 29 1 1 := fa_of (ft := 22) (s := 0) Try.underlying29 rfl (by kernel_rfl)
theorem fa_29_2 : FA Try.prog 29 2 2 := fa_of (ft := 27) (s := 0) Try.underlying29 rfl (by kernel_rfl)
theorem fa_32_0 : FA Try.prog 32 0 0 := fa_of (ft := 3) (s := 0) Try.underlying32 rfl (by kernel_rfl)
theorem fa_32_1 : FA Try.prog 32 1 1 := fa_of (ft := 22) (s := 0) Try.underlying32 rfl (by kernel_rfl)
theorem fa_32_2 : FA Try.prog 32 2 2 := fa_of (ft := 30) (s := 0) Try.underlying32 rfl (by kernel_rfl)
theorem fa_52_0 : FA Try.prog 52 0 0 := fa_of (ft := 22) (s := 0) Try.underlying52 rfl (by kernel_rfl)
theorem fa_52_1 : FA Try.prog 52 1 1 := fa_of (ft := 22) (s := 0) Try.underlying52 rfl (by kernel_rfl)
theorem fa_52_2 : FA Try.prog 52 2 2 := fa_of (ft := 50) (s := 0) Try.underlying52 rfl (by kernel_rfl)
theorem fa_54_0 : FA Try.prog 54 0 0 := fa_of (ft := 22) (s := 0) Try.underlying54 rfl (by kernel_rfl)
theorem fa_54_1 : FA Try.prog 54 1 1 := fa_of (ft := 30) (s := 0) Try.underlying54 rfl (by kernel_rfl)
theorem one_22 : One Try.prog 22 := one_of Try.underlying22 rfl (by kernel_rfl)
theorem one_27 : One Try.prog 27 := one_of Try.underlying27 rfl (by kernel_rfl)
theorem one_3 : One Try.prog 3 := one_of Try.underlying3 rfl (by kernel_rfl)
theorem one_30 : One Try.prog 30 := one_of Try.underlying30 rfl (by kernel_rfl)
theorem one_47 : One Try.prog 47 := one_of Try.underlying47 rfl (by kernel_rfl)
theorem one_5 : One Try.prog 5 := one_of Try.underlying5 rfl (by kernel_rfl)
theorem one_50 : One Try.prog 50 := one_of Try.underlying50 rfl (by kernel_rfl)
theorem sz_30 : Sz Try.prog 30 1 := sz_of (by kernel_rfl)
theorem sz_32 : Sz Try.prog 32 3 := sz_of (by kernel_rfl)
theorem sz_47 : Sz Try.prog 47 1 := sz_of (by kernel_rfl)
theorem sz_5 : Sz Try.prog 5 1 := sz_of (by kernel_rfl)
theorem sz_54 : Sz Try.prog 54 2 := sz_of (by kernel_rfl)
theorem zi_32 : (Try.prog.info? 32).map (·.zero) = some (some (.agg #[(.int .i64 0), (.int .u64 0), (.slice none 0 0)])) := by kernel_rfl
end Go.Proofs.Ytfnfpajjggbipaa
