/-
  CLOSED FACTS of the program: fields, sizes, kinds of the types that its operations name. Written by xg.py.
-/
import Derived.Test.YtiffpkbkmpianaaRow
import Derived.Test.YtiffpkbkmpianaaRows
namespace Go.Proofs.Ytiffpkbkmpianaa
open Go Go.RowKit X
theorem agg_26 : Agg Try.prog 26 4 := agg_of Try.underlying26 rfl (by kernel_rfl)
theorem agg_35 : Agg Try.prog 35 2 := agg_of Try.underlying35 rfl (by kernel_rfl)
theorem agg_46 : Agg Try.prog 46 5 := agg_of Try.underlying46 rfl (by kernel_rfl)
theorem agg_54 : Agg Try.prog 54 4 := agg_of Try.underlying54 rfl (by kernel_rfl)
theorem agg_72 : Agg Try.prog 72 3 := agg_of Try.underlying72 rfl (by kernel_rfl)
theorem bd_26_0_1_2_3 (z0 : Int) (z1 : Option Addr) (z2 : Nat) (z3 : Nat) (z4 : Option Addr) (z5 : Nat) (z6 : Nat) (z7 : Option Addr) (z8 : Nat) (z9 : Nat) (w : World) : (Instr.build 26 #[(0, (.int .u64 z0)), (1, (.slice z1 z2 z3)), (2, (.slice z4 z5 z6)), (3, (.slice z7 z8 z9))]).run Try.prog w = .ok (.agg #[(.int .u64 z0), (.slice z1 z2 z3), (.slice z4 z5 z6), (.slice z7 z8 z9)]) w := by kernel_rfl
theorem bd_35 (w : World) : (Instr.build 35 #[]).run Try.prog w = .ok (.agg #[(.int .u16 0), (.int .u32 0)]) w := by kernel_rfl
theorem bd_35_0_1 (z0 : Int) (z1 : Int) (w : World) : (Instr.build 35 #[(0, (.int .u16 z0)), (1, (.int .u32 z1))]).run Try.prog w = .ok (.agg #[(.int .u16 z0), (.int .u32 z1)]) w := by kernel_rfl
theorem bd_52_0 (z0 : Option Addr) (z1 : Nat) (z2 : Nat) (w : World) : (Instr.build 52 #[(0, (.slice z0 z1 z2))]).run Try.prog w = .ok (.agg #[(.slice z0 z1 z2), (.slice none 0 0), (.slice none 0 0)]) w := by kernel_rfl
theorem bd_54 (w : World) : (Instr.build 54 #[]).run Try.prog w = .ok (.agg #[(.int .u16 0), (.int .u32 0), (.int .u64 0), (.slice none 0 0)]) w := by kernel_rfl
theorem bd_54_0_1 (z0 : Int) (z1 : Int) (z2 : Int) (w : World) : (Instr.build 54 #[(0, (.agg #[(.int .u16 z0), (.int .u32 z1)])), (1, (.int .u64 z2))]).run Try.prog w = .ok (.agg #[(.int .u16 z0), (.int .u32 z1), (.int .u64 z2), (.slice none 0 0)]) w := by kernel_rfl
theorem bd_54_0_1_2 (z0 : Int) (z1 : Int) (z2 : Int) (z3 : Option Addr) (z4 : Nat) (z5 : Nat) (w : World) : (Instr.build 54 #[(0, (.agg #[(.int .u16 z0), (.int .u32 z1)])), (1, (.int .u64 z2)), (2, (.slice z3 z4 z5))]).run Try.prog w = .ok (.agg #[(.int .u16 z0), (.int .u32 z1), (.int .u64 z2), (.slice z3 z4 z5)]) w := by kernel_rfl
theorem bd_69_0_1_2_3 (z0 : Int) (z1 : Option Addr) (z2 : Nat) (z3 : Nat) (z4 : Option Nat) (z5 : Option Nat) (w : World) : (Instr.build 69 #[(0, (.int .u64 z0)), (1, (.slice z1 z2 z3)), (2, (.map z4)), (3, (.map z5))]).run Try.prog w = .ok (.agg #[(.int .u64 z0), (.slice z1 z2 z3), (.map z4), (.map z5), (.int .i64 0)]) w := by kernel_rfl
theorem bd_72_0_1 (z0 : Int) (z1 : Int) (z2 : Int) (w : World) : (Instr.build 72 #[(0, (.agg #[(.int .u16 z0), (.int .u32 z1)])), (1, (.int .u64 z2))]).run Try.prog w = .ok (.agg #[(.int .u16 z0), (.int .u32 z1), (.int .u64 z2)]) w := by kernel_rfl
theorem bs_23_0 (w : World) : (Instr.buildSlice 23 0 #[]).run Try.prog w = .ok (.slice (some ⟨w.heap.size, 0, none⟩) 0 0) (w.alloc (.cells #[] 35)) := by kernel_rfl
theorem bs_23_1 (z0 : Int) (z1 : Int) (w : World) : (Instr.buildSlice 23 1 #[(0, (.agg #[(.int .u16 z0), (.int .u32 z1)]))]).run Try.prog w = .ok (.slice (some ⟨w.heap.size, 0, none⟩) 1 1) (w.alloc (.cells #[(.int .u16 z0), (.int .u32 z1)] 35)) := by kernel_rfl
theorem bs_23_2 (z0 : Int) (z1 : Int) (z2 : Int) (z3 : Int) (w : World) : (Instr.buildSlice 23 2 #[(0, (.agg #[(.int .u16 z0), (.int .u32 z1)])), (1, (.agg #[(.int .u16 z2), (.int .u32 z3)]))]).run Try.prog w = .ok (.slice (some ⟨w.heap.size, 0, none⟩) 2 2) (w.alloc (.cells #[(.int .u16 z0), (.int .u32 z1), (.int .u16 z2), (.int .u32 z3)] 35)) := by kernel_rfl
theorem bs_24_1 (z0 : Option Addr) (z1 : Nat) (z2 : Nat) (w : World) : (Instr.buildSlice 24 1 #[(0, (.slice z0 z1 z2))]).run Try.prog w = .ok (.slice (some ⟨w.heap.size, 0, none⟩) 1 1) (w.alloc (.cells #[(.slice z0 z1 z2)] 23)) := by kernel_rfl
theorem bs_38_0 (w : World) : (Instr.buildSlice 38 0 #[]).run Try.prog w = .ok (.slice (some ⟨w.heap.size, 0, none⟩) 0 0) (w.alloc (.cells #[] 5)) := by kernel_rfl
theorem bs_50_1 (z0 : Int) (z1 : Int) (z2 : Int) (z3 : Option Addr) (z4 : Nat) (z5 : Nat) (w : World) : (Instr.buildSlice 50 1 #[(0, (.agg #[(.int .u16 z0), (.int .u32 z1), (.int .u64 z2), (.slice z3 z4 z5)]))]).run Try.prog w = .ok (.slice (some ⟨w.heap.size, 0, none⟩) 1 1) (w.alloc (.cells #[(.int .u16 z0), (.int .u32 z1), (.int .u64 z2), (.slice z3 z4 z5)] 54)) := by kernel_rfl
theorem cv_5_22 : Cv Try.prog 5 22 .u64 := cv_of Try.underlying5 Try.underlying22
theorem ei_23 : EI Try.prog 23 (.slice none 0 0) 1 24 := ei_of (by kernel_rfl) (by rfl) (by decide)
theorem ei_35 : EI Try.prog 35 (.agg #[(.int .u16 0), (.int .u32 0)]) 2 8 := ei_of (by kernel_rfl) (by rfl) (by decide)
theorem ei_4 : EI Try.prog 4 (.bool false) 1 1 := ei_of (by kernel_rfl) (by rfl) (by decide)
theorem ei_46 : EI Try.prog 46 (.agg #[(.int .i64 0), (.int .u16 0), (.int .u32 0), (.int .u64 0), (.slice none 0 0)]) 5 48 := ei_of (by kernel_rfl) (by rfl) (by decide)
theorem ei_5 : EI Try.prog 5 (.int .u8 0) 1 1 := ei_of (by kernel_rfl) (by rfl) (by decide)
theorem ei_54 : EI Try.prog 54 (.agg #[(.int .u16 0), (.int .u32 0), (.int .u64 0), (.slice none 0 0)]) 4 40 := ei_of (by kernel_rfl) (by rfl) (by decide)
theorem fa_26_0 : FA Try.prog 26 0 0 := fa_of (ft := 22) (s := 0) Try.underlying26 rfl (by kernel_rfl)
theorem fa_26_1 : FA Try.prog 26 1 1 := fa_of (ft := 23) (s := 0) Try.underlying26 rfl (by kernel_rfl)
theorem fa_26_2 : FA Try.prog 26 2 2 := fa_of (ft := 24) (s := 0) Try.underlying26 rfl (by kernel_rfl)
theorem fa_26_3 : FA Try.prog 26 3 3 := fa_of (ft := 23) (s := 0) Try.underlying26 rfl (by kernel_rfl)
theorem fa_35_0 : FA Try.prog 35 0 0 := fa_of (ft := 32) (s := 0) Try.underlying35 rfl (by kernel_rfl)
theorem fa_35_1 : FA Try.prog 35 1 1 := fa_of (ft := 33) (s := 0) Try.underlying35 rfl (by kernel_rfl)
theorem fa_46_0 : FA Try.prog 46 0 0 := fa_of (ft := 3) (s := 0) Try.underlying46 rfl (by kernel_rfl)
theorem fa_46_1 : FA Try.prog 46 1 1 := fa_of (ft := 35) (s := 1) Try.underlying46 rfl (by kernel_rfl)
theorem fa_46_2 : FA Try.prog 46 2 3 := fa_of (ft := 22) (s := 0) Try.underlying46 rfl (by kernel_rfl)
theorem fa_46_3 : FA Try.prog 46 3 4 := fa_of (ft := 38) (s := 0) Try.underlying46 rfl (by kernel_rfl)
theorem fa_52_0 : FA Try.prog 52 0 0 := fa_of (ft := 23) (s := 0) Try.underlying52 rfl (by kernel_rfl)
theorem fa_52_1 : FA Try.prog 52 1 1 := fa_of (ft := 50) (s := 0) Try.underlying52 rfl (by kernel_rfl)
theorem fa_52_2 : FA Try.prog 52 2 2 := fa_of (ft := 50) (s := 0) Try.underlying52 rfl (by kernel_rfl)
theorem fa_54_0 : FA Try.prog 54 0 0 := fa_of (ft := 35) (s := 1) Try.underlying54 rfl (by kernel_rfl)
theorem fa_54_1 : FA Try.prog 54 1 2 := fa_of (ft := 22) (s := 0) Try.underlying54 rfl (by kernel_rfl)
theorem fa_54_2 : FA Try.prog 54 2 3 := fa_of (ft := 38) (s := 0) Try.underlying54 rfl (by kernel_rfl)
theorem fa_69_0 : FA Try.prog 69 0 0 := fa_of (ft := 22) (s := 0) Try.underlying69 rfl (by kernel_rfl)
theorem fa_69_1 : FA Try.prog 69 1 1 := fa_of (ft := 23) (s := 0) Try.underlying69 rfl (by kernel_rfl)
theorem fa_69_2 : FA Try.prog 69 2 2 := fa_of (ft := 66) (s := 0) Try.underlying69 rfl (by kernel_rfl)
theorem fa_69_3 : FA Try.prog 69 3 3 := fa_of (ft := 67) (s := 0) Try.underlying69 rfl (by kernel_rfl)
theorem fa_69_4 : FA Try.prog 69 4 4 := fa_of (ft := 3) (s := 0) Try.underlying69 rfl (by kernel_rfl)
theorem fa_72_0 : FA Try.prog 72 0 0 := fa_of (ft := 35) (s := 1) Try.underlying72 rfl (by kernel_rfl)
theorem fa_72_1 : FA Try.prog 72 1 2 := fa_of (ft := 22) (s := 0) Try.underlying72 rfl (by kernel_rfl)
theorem one_22 : One Try.prog 22 := one_of Try.underlying22 rfl (by kernel_rfl)
theorem one_23 : One Try.prog 23 := one_of Try.underlying23 rfl (by kernel_rfl)
theorem one_24 : One Try.prog 24 := one_of Try.underlying24 rfl (by kernel_rfl)
theorem one_3 : One Try.prog 3 := one_of Try.underlying3 rfl (by kernel_rfl)
theorem one_32 : One Try.prog 32 := one_of Try.underlying32 rfl (by kernel_rfl)
theorem one_33 : One Try.prog 33 := one_of Try.underlying33 rfl (by kernel_rfl)
theorem one_38 : One Try.prog 38 := one_of Try.underlying38 rfl (by kernel_rfl)
theorem one_4 : One Try.prog 4 := one_of Try.underlying4 rfl (by kernel_rfl)
theorem one_5 : One Try.prog 5 := one_of Try.underlying5 rfl (by kernel_rfl)
theorem one_50 : One Try.prog 50 := one_of Try.underlying50 rfl (by kernel_rfl)
theorem one_66 : One Try.prog 66 := one_of Try.underlying66 rfl (by kernel_rfl)
theorem one_67 : One Try.prog 67 := one_of Try.underlying67 rfl (by kernel_rfl)
theorem sz_23 : Sz Try.prog 23 1 := sz_of (by kernel_rfl)
theorem sz_35 : Sz Try.prog 35 2 := sz_of (by kernel_rfl)
theorem sz_4 : Sz Try.prog 4 1 := sz_of (by kernel_rfl)
theorem sz_46 : Sz Try.prog 46 5 := sz_of (by kernel_rfl)
theorem sz_5 : Sz Try.prog 5 1 := sz_of (by kernel_rfl)
theorem sz_54 : Sz Try.prog 54 4 := sz_of (by kernel_rfl)
theorem zi_26 : (Try.prog.info? 26).map (·.zero) = some (some (.agg #[(.int .u64 0), (.slice none 0 0), (.slice none 0 0), (.slice none 0 0)])) := by kernel_rfl
theorem zi_35 : (Try.prog.info? 35).map (·.zero) = some (some (.agg #[(.int .u16 0), (.int .u32 0)])) := by kernel_rfl
theorem zi_46 : (Try.prog.info? 46).map (·.zero) = some (some (.agg #[(.int .i64 0), (.int .u16 0), (.int .u32 0), (.int .u64 0), (.slice none 0 0)])) := by kernel_rfl
theorem zi_54 : (Try.prog.info? 54).map (·.zero) = some (some (.agg #[(.int .u16 0), (.int .u32 0), (.int .u64 0), (.slice none 0 0)])) := by kernel_rfl
theorem zi_72 : (Try.prog.info? 72).map (·.zero) = some (some (.agg #[(.int .u16 0), (.int .u32 0), (.int .u64 0)])) := by kernel_rfl
end Go.Proofs.Ytiffpkbkmpianaa
