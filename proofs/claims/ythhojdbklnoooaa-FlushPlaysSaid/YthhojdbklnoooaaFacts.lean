/-
  CLOSED FACTS of the program: fields, sizes, kinds of the types that its operations name. Written by xg.py.
-/
import Derived.Test.YthhojdbklnoooaaRow
import Derived.Test.YthhojdbklnoooaaRows
namespace Go.Proofs.Ythhojdbklnoooaa
open Go Go.RowKit X
theorem agg_34 : Agg Try.prog 34 2 := agg_of Try.underlying34 rfl (by kernel_rfl)
theorem agg_45 : Agg Try.prog 45 5 := agg_of Try.underlying45 rfl (by kernel_rfl)
theorem agg_61 : Agg Try.prog 61 3 := agg_of Try.underlying61 rfl (by kernel_rfl)
theorem bd_34_0_1 (z0 : Int) (z1 : Int) (w : World) : (Instr.build 34 #[(0, (.int .u16 z0)), (1, (.int .u32 z1))]).run Try.prog w = .ok (.agg #[(.int .u16 z0), (.int .u32 z1)]) w := by kernel_rfl
theorem bd_43_0 (z0 : Option Addr) (z1 : Nat) (z2 : Nat) (w : World) : (Instr.build 43 #[(0, (.slice z0 z1 z2))]).run Try.prog w = .ok (.agg #[(.slice z0 z1 z2), (.slice none 0 0)]) w := by kernel_rfl
theorem bd_56_0_2 (z0 : Int) (z1 : Option Nat) (w : World) : (Instr.build 56 #[(0, (.int .u64 z0)), (2, (.map z1))]).run Try.prog w = .ok (.agg #[(.int .u64 z0), (.slice none 0 0), (.map z1)]) w := by kernel_rfl
theorem bd_61_0_1 (z0 : Int) (z1 : Int) (z2 : Int) (w : World) : (Instr.build 61 #[(0, (.agg #[(.int .u16 z0), (.int .u32 z1)])), (1, (.int .u64 z2))]).run Try.prog w = .ok (.agg #[(.int .u16 z0), (.int .u32 z1), (.int .u64 z2)]) w := by kernel_rfl
theorem bs_22_0 (w : World) : (Instr.buildSlice 22 0 #[]).run Try.prog w = .ok (.slice (some ⟨w.heap.size, 0, none⟩) 0 0) (w.alloc (.cells #[] 34)) := by kernel_rfl
theorem bs_22_1 (z0 : Int) (z1 : Int) (w : World) : (Instr.buildSlice 22 1 #[(0, (.agg #[(.int .u16 z0), (.int .u32 z1)]))]).run Try.prog w = .ok (.slice (some ⟨w.heap.size, 0, none⟩) 1 1) (w.alloc (.cells #[(.int .u16 z0), (.int .u32 z1)] 34)) := by kernel_rfl
theorem bs_22_2 (z0 : Int) (z1 : Int) (z2 : Int) (z3 : Int) (w : World) : (Instr.buildSlice 22 2 #[(0, (.agg #[(.int .u16 z0), (.int .u32 z1)])), (1, (.agg #[(.int .u16 z2), (.int .u32 z3)]))]).run Try.prog w = .ok (.slice (some ⟨w.heap.size, 0, none⟩) 2 2) (w.alloc (.cells #[(.int .u16 z0), (.int .u32 z1), (.int .u16 z2), (.int .u32 z3)] 34)) := by kernel_rfl
theorem bs_40_1 (z0 : Int) (z1 : Int) (z2 : Int) (w : World) : (Instr.buildSlice 40 1 #[(0, (.agg #[(.int .u16 z0), (.int .u32 z1), (.int .u64 z2)]))]).run Try.prog w = .ok (.slice (some ⟨w.heap.size, 0, none⟩) 1 1) (w.alloc (.cells #[(.int .u16 z0), (.int .u32 z1), (.int .u64 z2)] 61)) := by kernel_rfl
theorem cv_5_27 : Cv Try.prog 5 27 .u64 := cv_of Try.underlying5 Try.underlying27
theorem ei_34 : EI Try.prog 34 (.agg #[(.int .u16 0), (.int .u32 0)]) 2 8 := ei_of (by kernel_rfl) (by rfl) (by decide)
theorem ei_45 : EI Try.prog 45 (.agg #[(.int .i64 0), (.int .u16 0), (.int .u32 0), (.int .u64 0), (.slice none 0 0)]) 5 48 := ei_of (by kernel_rfl) (by rfl) (by decide)
theorem ei_5 : EI Try.prog 5 (.int .u8 0) 1 1 := ei_of (by kernel_rfl) (by rfl) (by decide)
theorem ei_61 : EI Try.prog 61 (.agg #[(.int .u16 0), (.int .u32 0), (.int .u64 0)]) 3 16 := ei_of (by kernel_rfl) (by rfl) (by decide)
theorem fa_43_0 : FA Try.prog 43 0 0 := fa_of (ft := 22) (s := 0) Try.underlying43 rfl (by kernel_rfl)
theorem fa_43_1 : FA Try.prog 43 1 1 := fa_of (ft := 40) (s := 0) Try.underlying43 rfl (by kernel_rfl)
theorem fa_45_0 : FA Try.prog 45 0 0 := fa_of (ft := 3) (s := 0) Try.underlying45 rfl (by kernel_rfl)
theorem fa_45_1 : FA Try.prog 45 1 1 := fa_of (ft := 34) (s := 1) Try.underlying45 rfl (by kernel_rfl)
theorem fa_45_2 : FA Try.prog 45 2 3 := fa_of (ft := 27) (s := 0) Try.underlying45 rfl (by kernel_rfl)
theorem fa_45_3 : FA Try.prog 45 3 4 := fa_of (ft := 22) (s := 0) Try.underlying45 rfl (by kernel_rfl)
theorem fa_56_0 : FA Try.prog 56 0 0 := fa_of (ft := 27) (s := 0) Try.underlying56 rfl (by kernel_rfl)
theorem fa_56_1 : FA Try.prog 56 1 1 := fa_of (ft := 22) (s := 0) Try.underlying56 rfl (by kernel_rfl)
theorem fa_56_2 : FA Try.prog 56 2 2 := fa_of (ft := 29) (s := 0) Try.underlying56 rfl (by kernel_rfl)
theorem fa_61_0 : FA Try.prog 61 0 0 := fa_of (ft := 34) (s := 1) Try.underlying61 rfl (by kernel_rfl)
theorem fa_61_1 : FA Try.prog 61 1 2 := fa_of (ft := 27) (s := 0) Try.underlying61 rfl (by kernel_rfl)
theorem one_22 : One Try.prog 22 := one_of Try.underlying22 rfl (by kernel_rfl)
theorem one_27 : One Try.prog 27 := one_of Try.underlying27 rfl (by kernel_rfl)
theorem one_29 : One Try.prog 29 := one_of Try.underlying29 rfl (by kernel_rfl)
theorem one_3 : One Try.prog 3 := one_of Try.underlying3 rfl (by kernel_rfl)
theorem one_40 : One Try.prog 40 := one_of Try.underlying40 rfl (by kernel_rfl)
theorem one_5 : One Try.prog 5 := one_of Try.underlying5 rfl (by kernel_rfl)
theorem sz_34 : Sz Try.prog 34 2 := sz_of (by kernel_rfl)
theorem sz_45 : Sz Try.prog 45 5 := sz_of (by kernel_rfl)
theorem sz_5 : Sz Try.prog 5 1 := sz_of (by kernel_rfl)
theorem sz_61 : Sz Try.prog 61 3 := sz_of (by kernel_rfl)
theorem zi_34 : (Try.prog.info? 34).map (·.zero) = some (some (.agg #[(.int .u16 0), (.int .u32 0)])) := by kernel_rfl
theorem zi_45 : (Try.prog.info? 45).map (·.zero) = some (some (.agg #[(.int .i64 0), (.int .u16 0), (.int .u32 0), (.int .u64 0), (.slice none 0 0)])) := by kernel_rfl
end Go.Proofs.Ythhojdbklnoooaa
