/-
  CLOSED FACTS of the program: fields, sizes, kinds of the types that its operations name. Written by xg.py.
-/
import Derived.Test.YtcehbdmpjebmbaaRow
import Derived.Test.YtcehbdmpjebmbaaRows
namespace Go.Proofs.Ytcehbdmpjebmbaa
open Go Go.RowKit X
theorem agg_26 : Agg Try.prog 26 4 := agg_of Try.underlying26 rfl (by kernel_rfl)
theorem agg_38 : Agg Try.prog 38 2 := agg_of Try.underlying38 rfl (by kernel_rfl)
theorem agg_40 : Agg Try.prog 40 5 := agg_of Try.underlying40 rfl (by kernel_rfl)
theorem bd_26_0_1_2_3 (z0 : Int) (z1 : Option Addr) (z2 : Nat) (z3 : Nat) (z4 : Option Addr) (z5 : Nat) (z6 : Nat) (z7 : Option Addr) (z8 : Nat) (z9 : Nat) (w : World) : (Instr.build 26 #[(0, (.int .u64 z0)), (1, (.slice z1 z2 z3)), (2, (.slice z4 z5 z6)), (3, (.slice z7 z8 z9))]).run Try.prog w = .ok (.agg #[(.int .u64 z0), (.slice z1 z2 z3), (.slice z4 z5 z6), (.slice z7 z8 z9)]) w := by kernel_rfl
theorem bd_26_0_1_3 (z0 : Int) (z1 : Option Addr) (z2 : Nat) (z3 : Nat) (z4 : Option Addr) (z5 : Nat) (z6 : Nat) (w : World) : (Instr.build 26 #[(0, (.int .u64 z0)), (1, (.slice z1 z2 z3)), (3, (.slice z4 z5 z6))]).run Try.prog w = .ok (.agg #[(.int .u64 z0), (.slice z1 z2 z3), (.slice none 0 0), (.slice z4 z5 z6)]) w := by kernel_rfl
theorem bd_38_0_1 (z0 : Int) (z1 : Int) (w : World) : (Instr.build 38 #[(0, (.int .u16 z0)), (1, (.int .u32 z1))]).run Try.prog w = .ok (.agg #[(.int .u16 z0), (.int .u32 z1)]) w := by kernel_rfl
theorem bd_49_0 (z0 : Int) (z1 : Option Addr) (z2 : Nat) (z3 : Nat) (z4 : Option Addr) (z5 : Nat) (z6 : Nat) (z7 : Option Addr) (z8 : Nat) (z9 : Nat) (w : World) : (Instr.build 49 #[(0, (.agg #[(.int .u64 z0), (.slice z1 z2 z3), (.slice z4 z5 z6), (.slice z7 z8 z9)]))]).run Try.prog w = .ok (.agg #[(.int .u64 z0), (.slice z1 z2 z3), (.slice z4 z5 z6), (.slice z7 z8 z9), (.slice none 0 0)]) w := by kernel_rfl
theorem bd_60_0_1_2 (z0 : Int) (z1 : Option Addr) (z2 : Nat) (z3 : Nat) (z4 : Option Addr) (z5 : Nat) (z6 : Nat) (z7 : Option Addr) (z8 : Nat) (z9 : Nat) (z10 : Option Nat) (z11 : Option Nat) (w : World) : (Instr.build 60 #[(0, (.agg #[(.int .u64 z0), (.slice z1 z2 z3), (.slice z4 z5 z6), (.slice z7 z8 z9)])), (1, (.map z10)), (2, (.map z11))]).run Try.prog w = .ok (.agg #[(.int .u64 z0), (.slice z1 z2 z3), (.slice z4 z5 z6), (.slice z7 z8 z9), (.map z10), (.map z11)]) w := by kernel_rfl
theorem bd_64_0_1_2 (z0 : Int) (z1 : Int) (z2 : Int) (z3 : Int) (w : World) : (Instr.build 64 #[(0, (.agg #[(.int .u16 z0), (.int .u32 z1)])), (1, (.int .i64 z2)), (2, (.int .u64 z3))]).run Try.prog w = .ok (.agg #[(.int .u16 z0), (.int .u32 z1), (.int .i64 z2), (.int .u64 z3)]) w := by kernel_rfl
theorem bd_64_1_2 (z0 : Int) (z1 : Int) (w : World) : (Instr.build 64 #[(1, (.int .i64 z0)), (2, (.int .u64 z1))]).run Try.prog w = .ok (.agg #[(.int .u16 0), (.int .u32 0), (.int .i64 z0), (.int .u64 z1)]) w := by kernel_rfl
theorem bs_23_0 (w : World) : (Instr.buildSlice 23 0 #[]).run Try.prog w = .ok (.slice (some ⟨w.heap.size, 0, none⟩) 0 0) (w.alloc (.cells #[] 38)) := by kernel_rfl
theorem bs_23_1 (z0 : Int) (z1 : Int) (w : World) : (Instr.buildSlice 23 1 #[(0, (.agg #[(.int .u16 z0), (.int .u32 z1)]))]).run Try.prog w = .ok (.slice (some ⟨w.heap.size, 0, none⟩) 1 1) (w.alloc (.cells #[(.int .u16 z0), (.int .u32 z1)] 38)) := by kernel_rfl
theorem bs_23_2 (z0 : Int) (z1 : Int) (z2 : Int) (z3 : Int) (w : World) : (Instr.buildSlice 23 2 #[(0, (.agg #[(.int .u16 z0), (.int .u32 z1)])), (1, (.agg #[(.int .u16 z2), (.int .u32 z3)]))]).run Try.prog w = .ok (.slice (some ⟨w.heap.size, 0, none⟩) 2 2) (w.alloc (.cells #[(.int .u16 z0), (.int .u32 z1), (.int .u16 z2), (.int .u32 z3)] 38)) := by kernel_rfl
theorem bs_23_3 (z0 : Int) (z1 : Int) (z2 : Int) (z3 : Int) (z4 : Int) (z5 : Int) (w : World) : (Instr.buildSlice 23 3 #[(0, (.agg #[(.int .u16 z0), (.int .u32 z1)])), (1, (.agg #[(.int .u16 z2), (.int .u32 z3)])), (2, (.agg #[(.int .u16 z4), (.int .u32 z5)]))]).run Try.prog w = .ok (.slice (some ⟨w.heap.size, 0, none⟩) 3 3) (w.alloc (.cells #[(.int .u16 z0), (.int .u32 z1), (.int .u16 z2), (.int .u32 z3), (.int .u16 z4), (.int .u32 z5)] 38)) := by kernel_rfl
theorem bs_24_1 (z0 : Option Addr) (z1 : Nat) (z2 : Nat) (w : World) : (Instr.buildSlice 24 1 #[(0, (.slice z0 z1 z2))]).run Try.prog w = .ok (.slice (some ⟨w.heap.size, 0, none⟩) 1 1) (w.alloc (.cells #[(.slice z0 z1 z2)] 23)) := by kernel_rfl
theorem bs_24_2 (z0 : Option Addr) (z1 : Nat) (z2 : Nat) (z3 : Option Addr) (z4 : Nat) (z5 : Nat) (w : World) : (Instr.buildSlice 24 2 #[(0, (.slice z0 z1 z2)), (1, (.slice z3 z4 z5))]).run Try.prog w = .ok (.slice (some ⟨w.heap.size, 0, none⟩) 2 2) (w.alloc (.cells #[(.slice z0 z1 z2), (.slice z3 z4 z5)] 23)) := by kernel_rfl
theorem bs_47_1 (z0 : Int) (z1 : Int) (z2 : Int) (z3 : Int) (w : World) : (Instr.buildSlice 47 1 #[(0, (.agg #[(.int .u16 z0), (.int .u32 z1), (.int .i64 z2), (.int .u64 z3)]))]).run Try.prog w = .ok (.slice (some ⟨w.heap.size, 0, none⟩) 1 1) (w.alloc (.cells #[(.int .u16 z0), (.int .u32 z1), (.int .i64 z2), (.int .u64 z3)] 64)) := by kernel_rfl
theorem cv_5_22 : Cv Try.prog 5 22 .u64 := cv_of Try.underlying5 Try.underlying22
theorem ei_22 : EI Try.prog 22 (.int .u64 0) 1 8 := ei_of (by kernel_rfl) (by rfl) (by decide)
theorem ei_23 : EI Try.prog 23 (.slice none 0 0) 1 24 := ei_of (by kernel_rfl) (by rfl) (by decide)
theorem ei_38 : EI Try.prog 38 (.agg #[(.int .u16 0), (.int .u32 0)]) 2 8 := ei_of (by kernel_rfl) (by rfl) (by decide)
theorem ei_40 : EI Try.prog 40 (.agg #[(.int .u16 0), (.int .u32 0), (.bool false), (.int .i64 0), (.int .u64 0)]) 5 32 := ei_of (by kernel_rfl) (by rfl) (by decide)
theorem ei_5 : EI Try.prog 5 (.int .u8 0) 1 1 := ei_of (by kernel_rfl) (by rfl) (by decide)
theorem ei_64 : EI Try.prog 64 (.agg #[(.int .u16 0), (.int .u32 0), (.int .i64 0), (.int .u64 0)]) 4 24 := ei_of (by kernel_rfl) (by rfl) (by decide)
theorem fa_26_0 : FA Try.prog 26 0 0 := fa_of (ft := 22) (s := 0) Try.underlying26 rfl (by kernel_rfl)
theorem fa_26_1 : FA Try.prog 26 1 1 := fa_of (ft := 23) (s := 0) Try.underlying26 rfl (by kernel_rfl)
theorem fa_26_2 : FA Try.prog 26 2 2 := fa_of (ft := 24) (s := 0) Try.underlying26 rfl (by kernel_rfl)
theorem fa_26_3 : FA Try.prog 26 3 3 := fa_of (ft := 23) (s := 0) Try.underlying26 rfl (by kernel_rfl)
theorem fa_38_0 : FA Try.prog 38 0 0 := fa_of (ft := 35) (s := 0) Try.underlying38 rfl (by kernel_rfl)
theorem fa_38_1 : FA Try.prog 38 1 1 := fa_of (ft := 36) (s := 0) Try.underlying38 rfl (by kernel_rfl)
theorem fa_40_0 : FA Try.prog 40 0 0 := fa_of (ft := 38) (s := 1) Try.underlying40 rfl (by kernel_rfl)
theorem fa_40_1 : FA Try.prog 40 1 2 := fa_of (ft := 4) (s := 0) Try.underlying40 rfl (by kernel_rfl)
theorem fa_40_2 : FA Try.prog 40 2 3 := fa_of (ft := 3) (s := 0) Try.underlying40 rfl (by kernel_rfl)
theorem fa_40_3 : FA Try.prog 40 3 4 := fa_of (ft := 22) (s := 0) Try.underlying40 rfl (by kernel_rfl)
theorem fa_49_0 : FA Try.prog 49 0 0 := fa_of (ft := 26) (s := 3) Try.underlying49 rfl (by kernel_rfl)
theorem fa_49_1 : FA Try.prog 49 1 4 := fa_of (ft := 47) (s := 0) Try.underlying49 rfl (by kernel_rfl)
theorem fa_60_0 : FA Try.prog 60 0 0 := fa_of (ft := 26) (s := 3) Try.underlying60 rfl (by kernel_rfl)
theorem fa_60_1 : FA Try.prog 60 1 4 := fa_of (ft := 57) (s := 0) Try.underlying60 rfl (by kernel_rfl)
theorem fa_60_2 : FA Try.prog 60 2 5 := fa_of (ft := 58) (s := 0) Try.underlying60 rfl (by kernel_rfl)
theorem fa_64_0 : FA Try.prog 64 0 0 := fa_of (ft := 38) (s := 1) Try.underlying64 rfl (by kernel_rfl)
theorem fa_64_1 : FA Try.prog 64 1 2 := fa_of (ft := 3) (s := 0) Try.underlying64 rfl (by kernel_rfl)
theorem fa_64_2 : FA Try.prog 64 2 3 := fa_of (ft := 22) (s := 0) Try.underlying64 rfl (by kernel_rfl)
theorem one_22 : One Try.prog 22 := one_of Try.underlying22 rfl (by kernel_rfl)
theorem one_23 : One Try.prog 23 := one_of Try.underlying23 rfl (by kernel_rfl)
theorem one_24 : One Try.prog 24 := one_of Try.underlying24 rfl (by kernel_rfl)
theorem one_3 : One Try.prog 3 := one_of Try.underlying3 rfl (by kernel_rfl)
theorem one_35 : One Try.prog 35 := one_of Try.underlying35 rfl (by kernel_rfl)
theorem one_36 : One Try.prog 36 := one_of Try.underlying36 rfl (by kernel_rfl)
theorem one_4 : One Try.prog 4 := one_of Try.underlying4 rfl (by kernel_rfl)
theorem one_47 : One Try.prog 47 := one_of Try.underlying47 rfl (by kernel_rfl)
theorem one_5 : One Try.prog 5 := one_of Try.underlying5 rfl (by kernel_rfl)
theorem one_57 : One Try.prog 57 := one_of Try.underlying57 rfl (by kernel_rfl)
theorem one_58 : One Try.prog 58 := one_of Try.underlying58 rfl (by kernel_rfl)
theorem sz_22 : Sz Try.prog 22 1 := sz_of (by kernel_rfl)
theorem sz_23 : Sz Try.prog 23 1 := sz_of (by kernel_rfl)
theorem sz_38 : Sz Try.prog 38 2 := sz_of (by kernel_rfl)
theorem sz_40 : Sz Try.prog 40 5 := sz_of (by kernel_rfl)
theorem sz_5 : Sz Try.prog 5 1 := sz_of (by kernel_rfl)
theorem sz_64 : Sz Try.prog 64 4 := sz_of (by kernel_rfl)
theorem zi_26 : (Try.prog.info? 26).map (·.zero) = some (some (.agg #[(.int .u64 0), (.slice none 0 0), (.slice none 0 0), (.slice none 0 0)])) := by kernel_rfl
theorem zi_38 : (Try.prog.info? 38).map (·.zero) = some (some (.agg #[(.int .u16 0), (.int .u32 0)])) := by kernel_rfl
theorem zi_40 : (Try.prog.info? 40).map (·.zero) = some (some (.agg #[(.int .u16 0), (.int .u32 0), (.bool false), (.int .i64 0), (.int .u64 0)])) := by kernel_rfl
end Go.Proofs.Ytcehbdmpjebmbaa
