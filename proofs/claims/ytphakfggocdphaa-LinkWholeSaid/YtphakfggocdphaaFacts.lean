/-
  CLOSED FACTS of the program: fields, sizes, kinds of the types that its operations name. Written by xg.py.
-/
import Derived.Test.YtphakfggocdphaaRow
import Derived.Test.YtphakfggocdphaaRows
namespace Go.Proofs.Ytphakfggocdphaa
open Go Go.RowKit X
theorem agg_56 : Agg Try.prog 56 2 := agg_of Try.underlying56 rfl (by kernel_rfl)
theorem agg_68 : Agg Try.prog 68 4 := agg_of Try.underlying68 rfl (by kernel_rfl)
theorem bd_29 (w : World) : (Instr.build 29 #[]).run Try.prog w = .ok (.agg #[(.int .u64 0), (.slice none 0 0), (.bool false)]) w := by kernel_rfl
theorem bd_49_0_2 (z0 : Option Addr) (z1 : Option Nat) (w : World) : (Instr.build 49 #[(0, (.pointer z0)), (2, (.map z1))]).run Try.prog w = .ok (.agg #[(.pointer z0), (.int .u64 0), (.map z1), (.bool false)]) w := by kernel_rfl
theorem bd_56_0_1 (z0 : Int) (z1 : Option Addr) (z2 : Nat) (z3 : Nat) (w : World) : (Instr.build 56 #[(0, (.int .u64 z0)), (1, (.slice z1 z2 z3))]).run Try.prog w = .ok (.agg #[(.int .u64 z0), (.slice z1 z2 z3)]) w := by kernel_rfl
theorem bd_66 (w : World) : (Instr.build 66 #[]).run Try.prog w = .ok (.agg #[(.slice none 0 0), (.slice none 0 0), (.int .u64 0), (.int .u64 0), (.int .u64 0)]) w := by kernel_rfl
theorem bd_78_0 (z0 : Int) (w : World) : (Instr.build 78 #[(0, (.int .u64 z0))]).run Try.prog w = .ok (.agg #[(.int .u64 z0), (.slice none 0 0), (.int .u32 0), (.int .u32 0), (.int .u64 0), (.int .u64 0)]) w := by kernel_rfl
theorem bs_27_0 (w : World) : (Instr.buildSlice 27 0 #[]).run Try.prog w = .ok (.slice (some ⟨w.heap.size, 0, none⟩) 0 0) (w.alloc (.cells #[] 56)) := by kernel_rfl
theorem bs_27_1 (z0 : Int) (z1 : Option Addr) (z2 : Nat) (z3 : Nat) (w : World) : (Instr.buildSlice 27 1 #[(0, (.agg #[(.int .u64 z0), (.slice z1 z2 z3)]))]).run Try.prog w = .ok (.slice (some ⟨w.heap.size, 0, none⟩) 1 1) (w.alloc (.cells #[(.int .u64 z0), (.slice z1 z2 z3)] 56)) := by kernel_rfl
theorem bs_30_0 (w : World) : (Instr.buildSlice 30 0 #[]).run Try.prog w = .ok (.slice (some ⟨w.heap.size, 0, none⟩) 0 0) (w.alloc (.cells #[] 5)) := by kernel_rfl
theorem bs_30_1 (z0 : Int) (w : World) : (Instr.buildSlice 30 1 #[(0, (.int .u8 z0))]).run Try.prog w = .ok (.slice (some ⟨w.heap.size, 0, none⟩) 1 1) (w.alloc (.cells #[(.int .u8 z0)] 5)) := by kernel_rfl
theorem bs_35_1 (z0 : Option Addr) (z1 : Nat) (z2 : Nat) (w : World) : (Instr.buildSlice 35 1 #[(0, (.slice z0 z1 z2))]).run Try.prog w = .ok (.slice (some ⟨w.heap.size, 0, none⟩) 1 1) (w.alloc (.cells #[(.slice z0 z1 z2)] 30)) := by kernel_rfl
theorem bs_35_2 (z0 : Option Addr) (z1 : Nat) (z2 : Nat) (z3 : Option Addr) (z4 : Nat) (z5 : Nat) (w : World) : (Instr.buildSlice 35 2 #[(0, (.slice z0 z1 z2)), (1, (.slice z3 z4 z5))]).run Try.prog w = .ok (.slice (some ⟨w.heap.size, 0, none⟩) 2 2) (w.alloc (.cells #[(.slice z0 z1 z2), (.slice z3 z4 z5)] 30)) := by kernel_rfl
theorem bs_64_1 (z0 : Bool) (w : World) : (Instr.buildSlice 64 1 #[(0, (.bool z0))]).run Try.prog w = .ok (.slice (some ⟨w.heap.size, 0, none⟩) 1 1) (w.alloc (.cells #[(.bool z0)] 4)) := by kernel_rfl
theorem cv_26_3 : Cv Try.prog 26 3 .i64 := cv_of Try.underlying26 Try.underlying3
theorem cv_3_26 : Cv Try.prog 3 26 .u64 := cv_of Try.underlying3 Try.underlying26
theorem cv_3_5 : Cv Try.prog 3 5 .u8 := cv_of Try.underlying3 Try.underlying5
theorem cv_3_79 : Cv Try.prog 3 79 .u64 := cv_of Try.underlying3 Try.underlying79
theorem ei_26 : EI Try.prog 26 (.int .u64 0) 1 8 := ei_of (by kernel_rfl) (by rfl) (by decide)
theorem ei_30 : EI Try.prog 30 (.slice none 0 0) 1 24 := ei_of (by kernel_rfl) (by rfl) (by decide)
theorem ei_32 : EI Try.prog 32 (.agg #[(.int .u64 0), (.slice none 0 0), (.bool false)]) 3 40 := ei_of (by kernel_rfl) (by rfl) (by decide)
theorem ei_4 : EI Try.prog 4 (.bool false) 1 1 := ei_of (by kernel_rfl) (by rfl) (by decide)
theorem ei_5 : EI Try.prog 5 (.int .u8 0) 1 1 := ei_of (by kernel_rfl) (by rfl) (by decide)
theorem ei_52 : EI Try.prog 52 (.agg #[(.int .i64 0), (.int .i64 0), (.bool false)]) 3 24 := ei_of (by kernel_rfl) (by rfl) (by decide)
theorem ei_56 : EI Try.prog 56 (.agg #[(.int .u64 0), (.slice none 0 0)]) 2 32 := ei_of (by kernel_rfl) (by rfl) (by decide)
theorem ei_68 : EI Try.prog 68 (.agg #[(.int .i64 0), (.int .i64 0), (.slice none 0 0), (.int .u64 0)]) 4 48 := ei_of (by kernel_rfl) (by rfl) (by decide)
theorem fa_29_0 : FA Try.prog 29 0 0 := fa_of (ft := 26) (s := 0) Try.underlying29 rfl (by kernel_rfl)
theorem fa_29_1 : FA Try.prog 29 1 1 := fa_of (ft := 27) (s := 0) Try.underlying29 rfl (by kernel_rfl)
theorem fa_29_2 : FA Try.prog 29 2 2 := fa_of (ft := 4) (s := 0) Try.underlying29 rfl (by kernel_rfl)
theorem fa_32_0 : FA Try.prog 32 0 0 := fa_of (ft := 26) (s := 0) Try.underlying32 rfl (by kernel_rfl)
theorem fa_32_1 : FA Try.prog 32 1 1 := fa_of (ft := 30) (s := 0) Try.underlying32 rfl (by kernel_rfl)
theorem fa_32_2 : FA Try.prog 32 2 2 := fa_of (ft := 4) (s := 0) Try.underlying32 rfl (by kernel_rfl)
theorem fa_49_0 : FA Try.prog 49 0 0 := fa_of (ft := 46) (s := 0) Try.underlying49 rfl (by kernel_rfl)
theorem fa_49_1 : FA Try.prog 49 1 1 := fa_of (ft := 26) (s := 0) Try.underlying49 rfl (by kernel_rfl)
theorem fa_49_2 : FA Try.prog 49 2 2 := fa_of (ft := 47) (s := 0) Try.underlying49 rfl (by kernel_rfl)
theorem fa_49_3 : FA Try.prog 49 3 3 := fa_of (ft := 4) (s := 0) Try.underlying49 rfl (by kernel_rfl)
theorem fa_52_0 : FA Try.prog 52 0 0 := fa_of (ft := 3) (s := 0) Try.underlying52 rfl (by kernel_rfl)
theorem fa_52_1 : FA Try.prog 52 1 1 := fa_of (ft := 3) (s := 0) Try.underlying52 rfl (by kernel_rfl)
theorem fa_52_2 : FA Try.prog 52 2 2 := fa_of (ft := 4) (s := 0) Try.underlying52 rfl (by kernel_rfl)
theorem fa_56_0 : FA Try.prog 56 0 0 := fa_of (ft := 26) (s := 0) Try.underlying56 rfl (by kernel_rfl)
theorem fa_56_1 : FA Try.prog 56 1 1 := fa_of (ft := 30) (s := 0) Try.underlying56 rfl (by kernel_rfl)
theorem fa_66_0 : FA Try.prog 66 0 0 := fa_of (ft := 27) (s := 0) Try.underlying66 rfl (by kernel_rfl)
theorem fa_66_1 : FA Try.prog 66 1 1 := fa_of (ft := 64) (s := 0) Try.underlying66 rfl (by kernel_rfl)
theorem fa_66_2 : FA Try.prog 66 2 2 := fa_of (ft := 26) (s := 0) Try.underlying66 rfl (by kernel_rfl)
theorem fa_66_3 : FA Try.prog 66 3 3 := fa_of (ft := 26) (s := 0) Try.underlying66 rfl (by kernel_rfl)
theorem fa_66_4 : FA Try.prog 66 4 4 := fa_of (ft := 26) (s := 0) Try.underlying66 rfl (by kernel_rfl)
theorem fa_68_0 : FA Try.prog 68 0 0 := fa_of (ft := 3) (s := 0) Try.underlying68 rfl (by kernel_rfl)
theorem fa_68_1 : FA Try.prog 68 1 1 := fa_of (ft := 3) (s := 0) Try.underlying68 rfl (by kernel_rfl)
theorem fa_68_2 : FA Try.prog 68 2 2 := fa_of (ft := 30) (s := 0) Try.underlying68 rfl (by kernel_rfl)
theorem fa_68_3 : FA Try.prog 68 3 3 := fa_of (ft := 26) (s := 0) Try.underlying68 rfl (by kernel_rfl)
theorem fa_78_0 : FA Try.prog 78 0 0 := fa_of (ft := 26) (s := 0) Try.underlying78 rfl (by kernel_rfl)
theorem fa_78_1 : FA Try.prog 78 1 1 := fa_of (ft := 35) (s := 0) Try.underlying78 rfl (by kernel_rfl)
theorem fa_78_2 : FA Try.prog 78 2 2 := fa_of (ft := 76) (s := 0) Try.underlying78 rfl (by kernel_rfl)
theorem fa_78_3 : FA Try.prog 78 3 3 := fa_of (ft := 76) (s := 0) Try.underlying78 rfl (by kernel_rfl)
theorem fa_78_4 : FA Try.prog 78 4 4 := fa_of (ft := 26) (s := 0) Try.underlying78 rfl (by kernel_rfl)
theorem fa_78_5 : FA Try.prog 78 5 5 := fa_of (ft := 26) (s := 0) Try.underlying78 rfl (by kernel_rfl)
theorem one_26 : One Try.prog 26 := one_of Try.underlying26 rfl (by kernel_rfl)
theorem one_27 : One Try.prog 27 := one_of Try.underlying27 rfl (by kernel_rfl)
theorem one_3 : One Try.prog 3 := one_of Try.underlying3 rfl (by kernel_rfl)
theorem one_30 : One Try.prog 30 := one_of Try.underlying30 rfl (by kernel_rfl)
theorem one_35 : One Try.prog 35 := one_of Try.underlying35 rfl (by kernel_rfl)
theorem one_4 : One Try.prog 4 := one_of Try.underlying4 rfl (by kernel_rfl)
theorem one_46 : One Try.prog 46 := one_of Try.underlying46 rfl (by kernel_rfl)
theorem one_47 : One Try.prog 47 := one_of Try.underlying47 rfl (by kernel_rfl)
theorem one_5 : One Try.prog 5 := one_of Try.underlying5 rfl (by kernel_rfl)
theorem one_64 : One Try.prog 64 := one_of Try.underlying64 rfl (by kernel_rfl)
theorem one_76 : One Try.prog 76 := one_of Try.underlying76 rfl (by kernel_rfl)
theorem sz_26 : Sz Try.prog 26 1 := sz_of (by kernel_rfl)
theorem sz_30 : Sz Try.prog 30 1 := sz_of (by kernel_rfl)
theorem sz_32 : Sz Try.prog 32 3 := sz_of (by kernel_rfl)
theorem sz_4 : Sz Try.prog 4 1 := sz_of (by kernel_rfl)
theorem sz_5 : Sz Try.prog 5 1 := sz_of (by kernel_rfl)
theorem sz_52 : Sz Try.prog 52 3 := sz_of (by kernel_rfl)
theorem sz_56 : Sz Try.prog 56 2 := sz_of (by kernel_rfl)
theorem sz_68 : Sz Try.prog 68 4 := sz_of (by kernel_rfl)
theorem zi_68 : (Try.prog.info? 68).map (·.zero) = some (some (.agg #[(.int .i64 0), (.int .i64 0), (.slice none 0 0), (.int .u64 0)])) := by kernel_rfl
end Go.Proofs.Ytphakfggocdphaa
