/-
  LAYER 23: the law InboxTurns.
-/
import Derived.Test.YtiffpkbkmpianaaInb8
namespace Go.Proofs.Ytiffpkbkmpianaa.X
open Go Go.RowKit
set_option linter.unusedVariables false
set_option maxRecDepth 20000
theorem put_ok {w0 w : World} {A : HP} {L : List HP} {f : Nat} {s : ISt} (p : Pid) (n : Nat) (hs : Sat w0 w (IO f s :: A :: L)) (hm : s.mem.length ≤ 1000000) (hn : n ≤ 18446744073709551615) (he : putC s p n [] = 0) :
    Calls Try.prog 11 #[.pointer (some ⟨f, 0, none⟩), .agg #[.int .u16 (p.Id : Nat), .int .u32 (p.Inc : Nat)], .int .u64 (n : Nat), .slice none 0 0] w fun e w' => e = .returned (.int .i64 0) ∧ Sat w0 w' (IO f (s.put p n []) :: A :: L) := by
  have := iput_calls (v := .slice none 0 0) (d := []) p n hs (fun w' L' h => RBnil w') hm (by simp) hn
  rw [he] at this
  exact this
theorem BInv.b6 {s : ISt} (h : BInv s) : ∀ x ∈ s.ws, x.2.length ≤ 1000000 := fun x hx => by have := h.small x hx; omega
def BB2 : Bool → List Value := fun b => [.bool b]
set_option maxHeartbeats 2000000 in
theorem walk_InboxTurns {H : Type} {enc : TypeId × Value → H} {w0 : World} {cs0 : Array Value} {a1 : Option Addr} {l1 c1 : Nat} {x2 : Int} (h0 : TR enc Try.prog w0 26 cs0.toList) (h1 : TR enc Try.prog w0 27 [.slice a1 l1 c1]) (h2 : TR enc Try.prog w0 5 [.int .u8 x2]) :
    Calls Try.prog 3 #[.agg cs0, .slice a1 l1 c1, .int .u8 x2] w0 fun e w' => e = .returned (.bool true) ∧ Below w0.heap.size w0 w' := by
  obtain ⟨D, rfl, hdl, hin, hid⟩ := TR.viewD h0
  obtain ⟨rnd, hr0, hr255⟩ := TR.nat Try.underlying5 rfl h2
  obtain rfl : x2 = (rnd : Int) := by simpa using hr0
  simp only [hi] at hr255
  obtain ⟨want, rfl, hrw, hlen, -⟩ := TR.arg (k := 1) (cells := BB2) Try.underlying27 (by kernel_rfl) (by decide) (fun r hr => TR.bool1 Try.underlying4 hr) h1
  refine law_of fun w hs => ?_
  have hinw : ∀ w' L', Sat w0 w' (Init w0 :: L') → RS w' 1 BB2 (.slice a1 want.length c1) want := fun w' L' h => hrw.below h.init
  clear h0 h1 h2 hr0 hrw
  obtain ⟨R, hR⟩ : ∃ R, R = 1 + rnd % 6 := ⟨_, rfl⟩
  have hR6 : 1 ≤ R ∧ R ≤ 6 := by omega
  refine enter Try.func3 rfl Try.ntmps3 6 rfl (Nat.le_of_ble_eq_true rfl) ?_
  refine c_seq ?_
  -- region 0
  refine c_region ?_
  refine x_box hs (.agg #[_, _, _, _]) rfl ?_; clear hs; intro b3 w hs; refine ⟨fun h => (by first | (cases h; done) | (first | exact hs.cells2 rfl rfl | exact (hs.pull 1).cells2 rfl rfl | exact (hs.pull 2).cells2 rfl rfl | exact (hs.pull 3).cells2 rfl rfl | exact (hs.pull 4).cells2 rfl rfl | exact (hs.pull 5).cells2 rfl rfl | exact (hs.pull 6).cells2 rfl rfl | exact (hs.pull 7).cells2 rfl rfl | exact (hs.pull 8).cells2 rfl rfl | exact hs.cell rfl | exact (hs.pull 1).cell rfl | exact (hs.pull 2).cell rfl | exact (hs.pull 3).cell rfl | exact (hs.pull 4).cell rfl | exact (hs.pull 5).cell rfl | exact (hs.pull 6).cell rfl | exact (hs.pull 7).cell rfl | exact (hs.pull 8).cell rfl | assumption | exact hs.cellsOf | exact (hs.pull 1).cellsOf | exact (hs.pull 2).cellsOf | exact (hs.pull 3).cellsOf | exact (hs.pull 4).cellsOf | exact (hs.pull 5).cellsOf | exact (hs.pull 6).cellsOf | exact (hs.pull 7).cellsOf | exact (hs.pull 8).cellsOf) | (and_intros <;> first | exact hs.cells2 rfl rfl | exact (hs.pull 1).cells2 rfl rfl | exact (hs.pull 2).cells2 rfl rfl | exact (hs.pull 3).cells2 rfl rfl | exact (hs.pull 4).cells2 rfl rfl | exact (hs.pull 5).cells2 rfl rfl | exact (hs.pull 6).cells2 rfl rfl | exact (hs.pull 7).cells2 rfl rfl | exact (hs.pull 8).cells2 rfl rfl | exact hs.cell rfl | exact (hs.pull 1).cell rfl | exact (hs.pull 2).cell rfl | exact (hs.pull 3).cell rfl | exact (hs.pull 4).cell rfl | exact (hs.pull 5).cell rfl | exact (hs.pull 6).cell rfl | exact (hs.pull 7).cell rfl | exact (hs.pull 8).cell rfl | assumption | exact hs.cellsOf | exact (hs.pull 1).cellsOf | exact (hs.pull 2).cellsOf | exact (hs.pull 3).cellsOf | exact (hs.pull 4).cellsOf | exact (hs.pull 5).cellsOf | exact (hs.pull 6).cellsOf | exact (hs.pull 7).cellsOf | exact (hs.pull 8).cellsOf)), ?_⟩
  refine x_assign (.bool _) rfl ?_
  refine x_nil ?_
  refine then_n ?_
  refine c_seq ?_
  refine c_seq ?_
  -- region 1
  refine c_region ?_
  refine x_loadN [_, _, _, _] agg_26 _ rfl (by first | assumption | exact hs.cellsOf | exact (hs.pull 1).cellsOf | exact (hs.pull 2).cellsOf | exact (hs.pull 3).cellsOf | exact (hs.pull 4).cellsOf | exact (hs.pull 5).cellsOf | exact (hs.pull 6).cellsOf | exact (hs.pull 7).cellsOf | exact (hs.pull 8).cellsOf | exact hs.cells2 rfl rfl | exact (hs.pull 1).cells2 rfl rfl | exact (hs.pull 2).cells2 rfl rfl | exact (hs.pull 3).cells2 rfl rfl | exact (hs.pull 4).cells2 rfl rfl | exact (hs.pull 5).cells2 rfl rfl | exact (hs.pull 6).cells2 rfl rfl | exact (hs.pull 7).cells2 rfl rfl | exact (hs.pull 8).cells2 rfl rfl) ?_
  refine x_call Try.f7 Try.func7 rfl rfl _ rfl ?_
  refine (great_d (hs.pull 1) hin hdl).mono ?_
  clear hs; rintro e w ⟨r, rfl, hs, hsm⟩
  replace hs := hs.push 1
  try dsimp only [back] at hs
  refine ⟨_, rfl, fun h => (by first | (cases h; done) | (first | exact hs.cells2 rfl rfl | exact (hs.pull 1).cells2 rfl rfl | exact (hs.pull 2).cells2 rfl rfl | exact (hs.pull 3).cells2 rfl rfl | exact (hs.pull 4).cells2 rfl rfl | exact (hs.pull 5).cells2 rfl rfl | exact (hs.pull 6).cells2 rfl rfl | exact (hs.pull 7).cells2 rfl rfl | exact (hs.pull 8).cells2 rfl rfl | exact hs.cell rfl | exact (hs.pull 1).cell rfl | exact (hs.pull 2).cell rfl | exact (hs.pull 3).cell rfl | exact (hs.pull 4).cell rfl | exact (hs.pull 5).cell rfl | exact (hs.pull 6).cell rfl | exact (hs.pull 7).cell rfl | exact (hs.pull 8).cell rfl | assumption | exact hs.cellsOf | exact (hs.pull 1).cellsOf | exact (hs.pull 2).cellsOf | exact (hs.pull 3).cellsOf | exact (hs.pull 4).cellsOf | exact (hs.pull 5).cellsOf | exact (hs.pull 6).cellsOf | exact (hs.pull 7).cellsOf | exact (hs.pull 8).cellsOf) | (and_intros <;> first | exact hs.cells2 rfl rfl | exact (hs.pull 1).cells2 rfl rfl | exact (hs.pull 2).cells2 rfl rfl | exact (hs.pull 3).cells2 rfl rfl | exact (hs.pull 4).cells2 rfl rfl | exact (hs.pull 5).cells2 rfl rfl | exact (hs.pull 6).cells2 rfl rfl | exact (hs.pull 7).cells2 rfl rfl | exact (hs.pull 8).cells2 rfl rfl | exact hs.cell rfl | exact (hs.pull 1).cell rfl | exact (hs.pull 2).cell rfl | exact (hs.pull 3).cell rfl | exact (hs.pull 4).cell rfl | exact (hs.pull 5).cell rfl | exact (hs.pull 6).cell rfl | exact (hs.pull 7).cell rfl | exact (hs.pull 8).cell rfl | assumption | exact hs.cellsOf | exact (hs.pull 1).cellsOf | exact (hs.pull 2).cellsOf | exact (hs.pull 3).cellsOf | exact (hs.pull 4).cellsOf | exact (hs.pull 5).cellsOf | exact (hs.pull 6).cellsOf | exact (hs.pull 7).cellsOf | exact (hs.pull 8).cellsOf)), ?_⟩
  rcases r with _ | _
  · skip
    refine x_move (.bool _) rfl ?_
    refine x_want' rfl ?_
    refine x_loadN [_, _, _, _] agg_26 _ rfl (by first | assumption | exact hs.cellsOf | exact (hs.pull 1).cellsOf | exact (hs.pull 2).cellsOf | exact (hs.pull 3).cellsOf | exact (hs.pull 4).cellsOf | exact (hs.pull 5).cellsOf | exact (hs.pull 6).cellsOf | exact (hs.pull 7).cellsOf | exact (hs.pull 8).cellsOf | exact hs.cells2 rfl rfl | exact (hs.pull 1).cells2 rfl rfl | exact (hs.pull 2).cells2 rfl rfl | exact (hs.pull 3).cells2 rfl rfl | exact (hs.pull 4).cells2 rfl rfl | exact (hs.pull 5).cells2 rfl rfl | exact (hs.pull 6).cells2 rfl rfl | exact (hs.pull 7).cells2 rfl rfl | exact (hs.pull 8).cells2 rfl rfl) ?_
    refine x_want' rfl ?_
    refine x_call Try.f8 Try.func8 rfl rfl _ rfl ?_
    refine (check_d (hs.pull 1) hin (hsm rfl) hid).mono ?_
    clear hs; rintro e w ⟨r, rfl, hs, hck⟩
    replace hs := hs.push 1
    try dsimp only [back] at hs
    refine ⟨_, rfl, fun h => (by first | (cases h; done) | (first | exact hs.cells2 rfl rfl | exact (hs.pull 1).cells2 rfl rfl | exact (hs.pull 2).cells2 rfl rfl | exact (hs.pull 3).cells2 rfl rfl | exact (hs.pull 4).cells2 rfl rfl | exact (hs.pull 5).cells2 rfl rfl | exact (hs.pull 6).cells2 rfl rfl | exact (hs.pull 7).cells2 rfl rfl | exact (hs.pull 8).cells2 rfl rfl | exact hs.cell rfl | exact (hs.pull 1).cell rfl | exact (hs.pull 2).cell rfl | exact (hs.pull 3).cell rfl | exact (hs.pull 4).cell rfl | exact (hs.pull 5).cell rfl | exact (hs.pull 6).cell rfl | exact (hs.pull 7).cell rfl | exact (hs.pull 8).cell rfl | assumption | exact hs.cellsOf | exact (hs.pull 1).cellsOf | exact (hs.pull 2).cellsOf | exact (hs.pull 3).cellsOf | exact (hs.pull 4).cellsOf | exact (hs.pull 5).cellsOf | exact (hs.pull 6).cellsOf | exact (hs.pull 7).cellsOf | exact (hs.pull 8).cellsOf) | (and_intros <;> first | exact hs.cells2 rfl rfl | exact (hs.pull 1).cells2 rfl rfl | exact (hs.pull 2).cells2 rfl rfl | exact (hs.pull 3).cells2 rfl rfl | exact (hs.pull 4).cells2 rfl rfl | exact (hs.pull 5).cells2 rfl rfl | exact (hs.pull 6).cells2 rfl rfl | exact (hs.pull 7).cells2 rfl rfl | exact (hs.pull 8).cells2 rfl rfl | exact hs.cell rfl | exact (hs.pull 1).cell rfl | exact (hs.pull 2).cell rfl | exact (hs.pull 3).cell rfl | exact (hs.pull 4).cell rfl | exact (hs.pull 5).cell rfl | exact (hs.pull 6).cell rfl | exact (hs.pull 7).cell rfl | exact (hs.pull 8).cell rfl | assumption | exact hs.cellsOf | exact (hs.pull 1).cellsOf | exact (hs.pull 2).cellsOf | exact (hs.pull 3).cellsOf | exact (hs.pull 4).cellsOf | exact (hs.pull 5).cellsOf | exact (hs.pull 6).cellsOf | exact (hs.pull 7).cellsOf | exact (hs.pull 8).cellsOf)), ?_⟩
    refine x_want' rfl ?_
    refine x_eqlB _ _ Try.underlying4 rfl rfl ?_
    refine x_pickF (.bool _) rfl rfl ?_
    refine x_nil ?_
    refine then_n ?_
    refine c_cond rfl (fun hb => ?_) (fun hb => ?_)   -- cond t27
    · skip
      refine c_seq ?_
      -- region 2
      refine c_region ?_
      refine x_call Try.f9 Try.func9 rfl rfl _ rfl ?_
      refine (awake23_calls hs).mono ?_
      clear hs; rintro e w ⟨rfl, hs⟩
      refine ⟨_, rfl, fun h => (by first | (cases h; done) | (first | exact hs.cells2 rfl rfl | exact (hs.pull 1).cells2 rfl rfl | exact (hs.pull 2).cells2 rfl rfl | exact (hs.pull 3).cells2 rfl rfl | exact (hs.pull 4).cells2 rfl rfl | exact (hs.pull 5).cells2 rfl rfl | exact (hs.pull 6).cells2 rfl rfl | exact (hs.pull 7).cells2 rfl rfl | exact (hs.pull 8).cells2 rfl rfl | exact hs.cell rfl | exact (hs.pull 1).cell rfl | exact (hs.pull 2).cell rfl | exact (hs.pull 3).cell rfl | exact (hs.pull 4).cell rfl | exact (hs.pull 5).cell rfl | exact (hs.pull 6).cell rfl | exact (hs.pull 7).cell rfl | exact (hs.pull 8).cell rfl | assumption | exact hs.cellsOf | exact (hs.pull 1).cellsOf | exact (hs.pull 2).cellsOf | exact (hs.pull 3).cellsOf | exact (hs.pull 4).cellsOf | exact (hs.pull 5).cellsOf | exact (hs.pull 6).cellsOf | exact (hs.pull 7).cellsOf | exact (hs.pull 8).cellsOf) | (and_intros <;> first | exact hs.cells2 rfl rfl | exact (hs.pull 1).cells2 rfl rfl | exact (hs.pull 2).cells2 rfl rfl | exact (hs.pull 3).cells2 rfl rfl | exact (hs.pull 4).cells2 rfl rfl | exact (hs.pull 5).cells2 rfl rfl | exact (hs.pull 6).cells2 rfl rfl | exact (hs.pull 7).cells2 rfl rfl | exact (hs.pull 8).cells2 rfl rfl | exact hs.cell rfl | exact (hs.pull 1).cell rfl | exact (hs.pull 2).cell rfl | exact (hs.pull 3).cell rfl | exact (hs.pull 4).cell rfl | exact (hs.pull 5).cell rfl | exact (hs.pull 6).cell rfl | exact (hs.pull 7).cell rfl | exact (hs.pull 8).cell rfl | assumption | exact hs.cellsOf | exact (hs.pull 1).cellsOf | exact (hs.pull 2).cellsOf | exact (hs.pull 3).cellsOf | exact (hs.pull 4).cellsOf | exact (hs.pull 5).cellsOf | exact (hs.pull 6).cellsOf | exact (hs.pull 7).cellsOf | exact (hs.pull 8).cellsOf)), ?_⟩
      refine x_assign (.bool _) rfl ?_
      refine x_nil ?_
      refine then_n ?_
      refine c_ret ?_
      refine then_r ?_
      refine ⟨.inr rfl, ?_⟩
      exact ⟨rfl, hs.tail⟩
    · skip
      refine c_skip ?_
      refine then_n ?_
      refine c_seq ?_
      -- region 3
      have hsm' := hsm rfl
      have hG := hck (by simpa using hb)
      have hm40 : D.mem.length ≤ 40 := hsm'.m
      have hnd : D.mem.Nodup := hG.nodup
      refine c_region ?_
      refine x_loadN [_, _, _, _] agg_26 _ rfl (by first | assumption | exact hs.cellsOf | exact (hs.pull 1).cellsOf | exact (hs.pull 2).cellsOf | exact (hs.pull 3).cellsOf | exact (hs.pull 4).cellsOf | exact (hs.pull 5).cellsOf | exact (hs.pull 6).cellsOf | exact (hs.pull 7).cellsOf | exact (hs.pull 8).cellsOf | exact hs.cells2 rfl rfl | exact (hs.pull 1).cells2 rfl rfl | exact (hs.pull 2).cells2 rfl rfl | exact (hs.pull 3).cells2 rfl rfl | exact (hs.pull 4).cells2 rfl rfl | exact (hs.pull 5).cells2 rfl rfl | exact (hs.pull 6).cells2 rfl rfl | exact (hs.pull 7).cells2 rfl rfl | exact (hs.pull 8).cells2 rfl rfl) ?_
      refine x_call Try.f10 Try.func10 rfl rfl _ rfl ?_
      refine ((new_d (hs.pull 1) hin hsm')).mono ?_
      clear hs; rintro e w ⟨f, rfl, hs⟩
      refine ⟨_, rfl, fun h => (by first | (cases h; done) | (first | exact hs.cells2 rfl rfl | exact (hs.pull 1).cells2 rfl rfl | exact (hs.pull 2).cells2 rfl rfl | exact (hs.pull 3).cells2 rfl rfl | exact (hs.pull 4).cells2 rfl rfl | exact (hs.pull 5).cells2 rfl rfl | exact (hs.pull 6).cells2 rfl rfl | exact (hs.pull 7).cells2 rfl rfl | exact (hs.pull 8).cells2 rfl rfl | exact hs.cell rfl | exact (hs.pull 1).cell rfl | exact (hs.pull 2).cell rfl | exact (hs.pull 3).cell rfl | exact (hs.pull 4).cell rfl | exact (hs.pull 5).cell rfl | exact (hs.pull 6).cell rfl | exact (hs.pull 7).cell rfl | exact (hs.pull 8).cell rfl | assumption | exact hs.cellsOf | exact (hs.pull 1).cellsOf | exact (hs.pull 2).cellsOf | exact (hs.pull 3).cellsOf | exact (hs.pull 4).cellsOf | exact (hs.pull 5).cellsOf | exact (hs.pull 6).cellsOf | exact (hs.pull 7).cellsOf | exact (hs.pull 8).cellsOf) | (and_intros <;> first | exact hs.cells2 rfl rfl | exact (hs.pull 1).cells2 rfl rfl | exact (hs.pull 2).cells2 rfl rfl | exact (hs.pull 3).cells2 rfl rfl | exact (hs.pull 4).cells2 rfl rfl | exact (hs.pull 5).cells2 rfl rfl | exact (hs.pull 6).cells2 rfl rfl | exact (hs.pull 7).cells2 rfl rfl | exact (hs.pull 8).cells2 rfl rfl | exact hs.cell rfl | exact (hs.pull 1).cell rfl | exact (hs.pull 2).cell rfl | exact (hs.pull 3).cell rfl | exact (hs.pull 4).cell rfl | exact (hs.pull 5).cell rfl | exact (hs.pull 6).cell rfl | exact (hs.pull 7).cell rfl | exact (hs.pull 8).cell rfl | assumption | exact hs.cellsOf | exact (hs.pull 1).cellsOf | exact (hs.pull 2).cellsOf | exact (hs.pull 3).cellsOf | exact (hs.pull 4).cellsOf | exact (hs.pull 5).cellsOf | exact (hs.pull 6).cellsOf | exact (hs.pull 7).cellsOf | exact (hs.pull 8).cellsOf)), ?_⟩
      refine x_assign (.pointer _) rfl ?_
      refine x_nil ?_
      refine then_n ?_
      refine c_seq ?_
      -- region 4
      have hr : ∀ w' L', Sat w0 w' (Init w0 :: L') → RS w' 2 Pid.cells (.slice D.am D.mem.length D.cm) D.mem := fun w' L' h => (hin w' L' h).m
      obtain ⟨gm, om, ham⟩ := (hr _ _ (hs.pull 1)).addr hG.pos
      rw [ham] at hr hs
      clear hG hck hsm hsm' hin hdl
      refine c_region ?_
      refine x_assign (.slice _ _ _) rfl ?_
      refine x_nil ?_
      refine then_n ?_
      refine c_seq ?_
      refine c_seq ?_
      -- region 5
      refine c_region ?_
      refine x_assign (.int _ _) rfl ?_
      refine x_nil ?_
      refine then_n ?_
      refine c_block ?_
      refine c_loop (γ := Nat × List Pid × ISt × Option Addr × Nat) (fun (⟨i, all, s, a8, c8⟩ : Nat × List Pid × ISt × Option Addr × Nat) => [(1, .slice a1 want.length c1), (2, .int .u8 (rnd : Nat)), (3, .pointer (some ⟨b3, 0, none⟩)), (7, .pointer (some ⟨f, 0, none⟩)), (8, .slice a8 all.length c8), (9, .int .i64 (i : Nat))]) (fun (⟨i, all, s, a8, c8⟩ : Nat × List Pid × ISt × Option Addr × Nat) w => i ≤ D.mem.length ∧ Sel D.mem all ∧ (∀ q ∈ all, D.mem.idxOf q < i) ∧ all.length ≤ i ∧ PInv D.mem all R ⟨0, 0⟩ 1 s ∧ BInv s ∧ Sat w0 w (IO f s :: PR (.slice a8 all.length c8) all :: Blk b3 (.cells #[.int .u64 (D.Id : Nat), .slice (some ⟨gm, om, none⟩) D.mem.length D.cm, .slice D.al D.lvs.length D.cl, .slice D.ad D.lds.length D.cd] 26 (0, 0)) :: [Init w0])) (fun (⟨i, all, s, a8, c8⟩ : Nat × List Pid × ISt × Option Addr × Nat) => D.mem.length - i) (0, [], ⟨D.Id, D.mem, [], [], 0⟩, none, 0) ⟨rfl, rfl, rfl, rfl, rfl, rfl, trivial⟩ ⟨by omega, Sel.nil _, (fun q h => nomatch h), by simp, ⟨rfl, rfl, rfl, fun q m => by rw [if_neg (by rintro (h | h); exact nomatch h.1; omega)]; rfl⟩, BInv.start _ _, (hs.rowNil (e := 35) (size := 2)).perm [1, 0, 3, 2]⟩ ?_
      clear hs
      rintro ⟨i, all, s, a8, c8⟩ ρ w ⟨hi, hS, hix, hal, hP, hB, hs⟩
      change CW Try.prog 134 _ _ (sets 134 [(1, .slice a1 want.length c1), (2, .int .u8 (rnd : Nat)), (3, .pointer (some ⟨b3, 0, none⟩)), (7, .pointer (some ⟨f, 0, none⟩)), (8, .slice a8 all.length c8), (9, .int .i64 (i : Nat))] ρ) w
      refine c_seq ?_
      refine c_seq ?_
      -- region 6
      refine c_region ?_
      refine x_move (.int _ _) rfl ?_
      first | refine x_field0 fa_26_1 _ rfl ?_ | refine x_field fa_26_1 _ _ rfl ?_
      refine x_load one_23 _ (.slice _ _ _) rfl (by first | exact hs.cell rfl | exact (hs.pull 1).cell rfl | exact (hs.pull 2).cell rfl | exact (hs.pull 3).cell rfl | assumption | exact (hs.pull 4).cell rfl | exact (hs.pull 5).cell rfl | exact (hs.pull 6).cell rfl | exact (hs.pull 7).cell rfl) ?_
      refine x_lenSl Try.underlying23 _ _ _ rfl ?_
      refine x_lss _ _ rfl rfl ?_
      refine x_nil ?_
      refine then_n ?_
      refine c_test _ rfl (fun hb => ?_) (fun hb => ?_)   -- cond t35
      · skip
        obtain ⟨p, hp⟩ : ∃ y, D.mem[i]? = some y := ⟨D.mem[i]'(by omega), List.getElem?_eq_getElem _⟩
        by_cases hiw : i < want.length
        obtain ⟨gw, ow, rfl⟩ := (hinw _ _ (hs.pull 3)).addr (by omega)
        obtain ⟨bw, hbw⟩ : ∃ b, want[i]? = some b := ⟨want[i]'hiw, List.getElem?_eq_getElem _⟩
        have hcw : w.cell? ⟨gw, ow + i * 1, none⟩ = some (.bool bw) := (hinw _ _ (hs.pull 3)).cell (fun a => rfl) hbw (q := 0) rfl
        · skip
          refine c_skip ?_
          refine then_n ?_
          refine c_seq ?_
          refine c_block ?_
          refine c_seq ?_
          refine c_seq ?_
          -- region 8
          refine c_region ?_
          refine x_move (.int _ _) rfl ?_
          refine x_move (.slice _ _ _) rfl ?_
          refine x_lenSl Try.underlying27 _ _ _ rfl ?_
          refine x_lssT _ _ rfl rfl (by omega) ?_
          refine x_move (.bool _) rfl ?_
          refine x_want' rfl ?_
          refine x_move (.slice _ _ _) rfl ?_
          refine x_want' rfl ?_
          refine x_move (.int _ _) rfl ?_
          refine x_want' rfl ?_
          refine x_indexAddr Try.underlying27 sz_4 _ _ _ _ _ rfl rfl (by omega) ?_
          refine x_want' rfl ?_
          refine x_load one_4 _ (.bool _) rfl (by first | exact hs.cell rfl | exact (hs.pull 1).cell rfl | exact (hs.pull 2).cell rfl | exact (hs.pull 3).cell rfl | assumption | exact (hs.pull 4).cell rfl | exact (hs.pull 5).cell rfl | exact (hs.pull 6).cell rfl | exact (hs.pull 7).cell rfl) ?_
          refine x_want' rfl ?_
          refine x_not _ rfl ?_
          refine x_pickT (.bool _) rfl rfl ?_
          refine x_nil ?_
          refine then_n ?_
          refine c_cond rfl (fun hb => ?_) (fun hb => ?_)   -- cond t48
          · skip
            refine c_exit ?_
            refine then_x ?_
            refine inb_e ?_
            refine then_n ?_
            -- region 7
            refine c_region ?_
            refine x_move (.int _ _) rfl ?_
            refine x_add _ _ rfl rfl (by simp only [X.lo]; omega) (by simp only [X.hi]; omega) ?_
            refine x_assign (.int _ _) rfl ?_
            refine x_nil ?_
            refine then_n ?_
            refine ⟨(i + 1, all, s, a8, c8), ⟨rfl, rfl, rfl, rfl, rfl, rfl, trivial⟩, ⟨by omega, hS, fun q hq => by have := hix q hq; omega, by omega, hP, hB, hs⟩, by first | omega | (dsimp only; omega)⟩
          · skip
            refine c_skip ?_
            refine then_n ?_
            refine c_seq ?_
            -- region 9
            have hpm : p ∈ D.mem := List.mem_of_getElem? hp
            have hcells := (hr _ _ (hs.pull 3)).all (fun a => a.cells_len) hp
            obtain ⟨hS', hix', hpa⟩ := hS.snoc hnd hp hix
            refine c_region ?_
            refine x_move (.slice _ _ _) rfl ?_
            first | refine x_field0 fa_26_1 _ rfl ?_ | refine x_field fa_26_1 _ _ rfl ?_
            refine x_load one_23 _ (.slice _ _ _) rfl (by first | exact hs.cell rfl | exact (hs.pull 1).cell rfl | exact (hs.pull 2).cell rfl | exact (hs.pull 3).cell rfl | assumption | exact (hs.pull 4).cell rfl | exact (hs.pull 5).cell rfl | exact (hs.pull 6).cell rfl | exact (hs.pull 7).cell rfl) ?_
            refine x_move (.int _ _) rfl ?_
            refine x_indexAddr Try.underlying23 sz_35 _ _ _ _ _ rfl rfl (by omega) ?_
            refine x_loadN [.int .u16 (p.Id : Nat), .int .u32 (p.Inc : Nat)] agg_35 _ rfl hcells ?_
            refine x_buildSlice _ [(0, (.agg #[(.int .u16 _), (.int .u32 _)]))] hs rfl (fun w => bs_23_1 _ _ w) ?_; clear hs; intro b55 w hs; refine ⟨fun h => (by first | (cases h; done) | (first | exact hs.cells2 rfl rfl | exact (hs.pull 1).cells2 rfl rfl | exact (hs.pull 2).cells2 rfl rfl | exact (hs.pull 3).cells2 rfl rfl | exact (hs.pull 4).cells2 rfl rfl | exact (hs.pull 5).cells2 rfl rfl | exact (hs.pull 6).cells2 rfl rfl | exact (hs.pull 7).cells2 rfl rfl | exact (hs.pull 8).cells2 rfl rfl | exact hs.cell rfl | exact (hs.pull 1).cell rfl | exact (hs.pull 2).cell rfl | exact (hs.pull 3).cell rfl | exact (hs.pull 4).cell rfl | exact (hs.pull 5).cell rfl | exact (hs.pull 6).cell rfl | exact (hs.pull 7).cell rfl | exact (hs.pull 8).cell rfl | assumption | exact hs.cellsOf | exact (hs.pull 1).cellsOf | exact (hs.pull 2).cellsOf | exact (hs.pull 3).cellsOf | exact (hs.pull 4).cellsOf | exact (hs.pull 5).cellsOf | exact (hs.pull 6).cellsOf | exact (hs.pull 7).cellsOf | exact (hs.pull 8).cellsOf) | (and_intros <;> first | exact hs.cells2 rfl rfl | exact (hs.pull 1).cells2 rfl rfl | exact (hs.pull 2).cells2 rfl rfl | exact (hs.pull 3).cells2 rfl rfl | exact (hs.pull 4).cells2 rfl rfl | exact (hs.pull 5).cells2 rfl rfl | exact (hs.pull 6).cells2 rfl rfl | exact (hs.pull 7).cells2 rfl rfl | exact (hs.pull 8).cells2 rfl rfl | exact hs.cell rfl | exact (hs.pull 1).cell rfl | exact (hs.pull 2).cell rfl | exact (hs.pull 3).cell rfl | exact (hs.pull 4).cell rfl | exact (hs.pull 5).cell rfl | exact (hs.pull 6).cell rfl | exact (hs.pull 7).cell rfl | exact (hs.pull 8).cell rfl | assumption | exact hs.cellsOf | exact (hs.pull 1).cellsOf | exact (hs.pull 2).cellsOf | exact (hs.pull 3).cellsOf | exact (hs.pull 4).cellsOf | exact (hs.pull 5).cellsOf | exact (hs.pull 6).cellsOf | exact (hs.pull 7).cellsOf | exact (hs.pull 8).cellsOf)), ?_⟩
            have hrd := rd_blk (size := 2) hs rfl
            refine x_append (hs.pull 2) Try.underlying23 ei_35 hrd (by intro u hu; simp at hu; rcases hu with rfl | rfl <;> rfl) (by unfold maxLen; omega) (by omega) rfl rfl ?_
            clear hs hrd hcells; intro v w hs; refine ⟨fun h => (by cases h), ?_⟩
            obtain ⟨a8, c8, rfl⟩ := hs.rd.val
            have hln : all.length + 1 = (all ++ [p]).length := by simp
            rw [show pcells all ++ #[Value.int .u16 (p.Id : Nat), .int .u32 (p.Inc : Nat)].toList = pcells (all ++ [p]) from (pcells_snoc all p).symm, hln] at hs
            rw [hln]
            refine x_assign (.slice _ _ _) rfl ?_
            refine x_nil ?_
            refine then_n ?_
            refine c_seq ?_
            -- region 10
            refine c_region ?_
            refine x_assign (.int _ _) rfl ?_
            refine x_nil ?_
            refine then_n ?_
            refine c_block ?_
            refine c_loop (γ := Nat × ISt) (fun (⟨n, s'⟩ : Nat × ISt) => [(1, .slice (some ⟨gw, ow, none⟩) want.length c1), (2, .int .u8 (rnd : Nat)), (3, .pointer (some ⟨b3, 0, none⟩)), (7, .pointer (some ⟨f, 0, none⟩)), (8, .slice a8 (all ++ [p]).length c8), (9, .int .i64 (i : Nat)), (10, .int .u64 (n : Nat))]) (fun (⟨n, s'⟩ : Nat × ISt) w => (1 ≤ n ∧ n ≤ R + 1) ∧ PInv D.mem all R p n s' ∧ BInv s' ∧ Sat w0 w (IO f s' :: PR (.slice a8 (all ++ [p]).length c8) (all ++ [p]) :: Blk b3 (.cells #[.int .u64 (D.Id : Nat), .slice (some ⟨gm, om, none⟩) D.mem.length D.cm, .slice D.al D.lvs.length D.cl, .slice D.ad D.lds.length D.cd] 26 (0, 0)) :: [Init w0])) (fun (⟨n, s'⟩ : Nat × ISt) => R + 1 - n) (1, s) ⟨rfl, rfl, rfl, rfl, rfl, rfl, rfl, trivial⟩ ⟨by omega, hP.other p, hB, hs.sel [2, 0, 3, 4] 5⟩ ?_
            clear hs
            rintro ⟨n, s'⟩ ρ w ⟨hn, hP', hB', hs⟩
            change CW Try.prog 134 _ _ (sets 134 [(1, .slice (some ⟨gw, ow, none⟩) want.length c1), (2, .int .u8 (rnd : Nat)), (3, .pointer (some ⟨b3, 0, none⟩)), (7, .pointer (some ⟨f, 0, none⟩)), (8, .slice a8 (all ++ [p]).length c8), (9, .int .i64 (i : Nat)), (10, .int .u64 (n : Nat))] ρ) w
            refine c_seq ?_
            refine c_seq ?_
            -- region 11
            refine c_region ?_
            refine x_move (.int _ _) rfl ?_
            refine x_move (.int _ _) rfl ?_
            refine x_remN rnd 6 rfl rfl rfl (by decide) ?_
            refine x_conv cv_5_22 _ rfl (by simp only [X.lo]; omega) (by simp only [X.hi]; omega) ?_
            refine x_add _ _ rfl rfl (by simp only [X.lo]; omega) (by simp only [X.hi]; omega) ?_
            refine x_leq _ _ rfl rfl ?_
            refine x_nil ?_
            refine then_n ?_
            refine c_test _ rfl (fun hb => ?_) (fun hb => ?_)   -- cond t62
            · skip
              refine c_skip ?_
              refine then_n ?_
              refine c_seq ?_
              refine c_block ?_
              refine c_seq ?_
              -- region 13
              have hcells := (hr _ _ (hs.pull 3)).all (fun a => a.cells_len) hp
              have hn6 : n ≤ R := by omega
              have hpc := hP'.putC hpm hpa hn.1 (by omega)
              have hP2 := hP'.put hpm hpa hn.1 (by omega)
              have hmem' := hP'.memE
              refine c_region ?_
              refine x_move (.pointer _) rfl ?_
              first | refine x_field0 fa_26_1 _ rfl ?_ | refine x_field fa_26_1 _ _ rfl ?_
              refine x_load one_23 _ (.slice _ _ _) rfl (by first | exact hs.cell rfl | exact (hs.pull 1).cell rfl | exact (hs.pull 2).cell rfl | exact (hs.pull 3).cell rfl | assumption | exact (hs.pull 4).cell rfl | exact (hs.pull 5).cell rfl | exact (hs.pull 6).cell rfl | exact (hs.pull 7).cell rfl) ?_
              refine x_move (.int _ _) rfl ?_
              refine x_indexAddr Try.underlying23 sz_35 _ _ _ _ _ rfl rfl (by omega) ?_
              refine x_loadN [.int .u16 (p.Id : Nat), .int .u32 (p.Inc : Nat)] agg_35 _ rfl hcells ?_
              refine x_move (.int _ _) rfl ?_
              refine x_call Try.f11 Try.func11 rfl rfl _ rfl ?_
              refine ((put_ok p n hs (by rw [hmem']; omega) (by omega) hpc)).mono ?_
              clear hs; rintro e w ⟨rfl, hs⟩
              refine ⟨_, rfl, fun h => (by first | (cases h; done) | (first | exact hs.cells2 rfl rfl | exact (hs.pull 1).cells2 rfl rfl | exact (hs.pull 2).cells2 rfl rfl | exact (hs.pull 3).cells2 rfl rfl | exact (hs.pull 4).cells2 rfl rfl | exact (hs.pull 5).cells2 rfl rfl | exact (hs.pull 6).cells2 rfl rfl | exact (hs.pull 7).cells2 rfl rfl | exact (hs.pull 8).cells2 rfl rfl | exact hs.cell rfl | exact (hs.pull 1).cell rfl | exact (hs.pull 2).cell rfl | exact (hs.pull 3).cell rfl | exact (hs.pull 4).cell rfl | exact (hs.pull 5).cell rfl | exact (hs.pull 6).cell rfl | exact (hs.pull 7).cell rfl | exact (hs.pull 8).cell rfl | assumption | exact hs.cellsOf | exact (hs.pull 1).cellsOf | exact (hs.pull 2).cellsOf | exact (hs.pull 3).cellsOf | exact (hs.pull 4).cellsOf | exact (hs.pull 5).cellsOf | exact (hs.pull 6).cellsOf | exact (hs.pull 7).cellsOf | exact (hs.pull 8).cellsOf) | (and_intros <;> first | exact hs.cells2 rfl rfl | exact (hs.pull 1).cells2 rfl rfl | exact (hs.pull 2).cells2 rfl rfl | exact (hs.pull 3).cells2 rfl rfl | exact (hs.pull 4).cells2 rfl rfl | exact (hs.pull 5).cells2 rfl rfl | exact (hs.pull 6).cells2 rfl rfl | exact (hs.pull 7).cells2 rfl rfl | exact (hs.pull 8).cells2 rfl rfl | exact hs.cell rfl | exact (hs.pull 1).cell rfl | exact (hs.pull 2).cell rfl | exact (hs.pull 3).cell rfl | exact (hs.pull 4).cell rfl | exact (hs.pull 5).cell rfl | exact (hs.pull 6).cell rfl | exact (hs.pull 7).cell rfl | exact (hs.pull 8).cell rfl | assumption | exact hs.cellsOf | exact (hs.pull 1).cellsOf | exact (hs.pull 2).cellsOf | exact (hs.pull 3).cellsOf | exact (hs.pull 4).cellsOf | exact (hs.pull 5).cellsOf | exact (hs.pull 6).cellsOf | exact (hs.pull 7).cellsOf | exact (hs.pull 8).cellsOf)), ?_⟩
              refine x_neqF _ _ rfl rfl (by omega) ?_
              refine x_nil ?_
              refine then_n ?_
              refine c_false rfl ?_
              refine c_skip ?_
              refine inb_n ?_
              refine then_n ?_
              -- region 12
              refine c_region ?_
              refine x_move (.int _ _) rfl ?_
              refine x_add _ _ rfl rfl (by simp only [X.lo]; omega) (by simp only [X.hi]; omega) ?_
              refine x_assign (.int _ _) rfl ?_
              refine x_nil ?_
              refine then_n ?_
              refine ⟨(n + 1, s'.put p n []), ⟨rfl, rfl, rfl, rfl, rfl, rfl, rfl, trivial⟩, ⟨by omega, hP2, hB'.put p n [], hs⟩, by first | omega | (dsimp only; omega)⟩
            · skip
              refine c_exit ?_
              refine then_x ?_
              refine then_x ?_
              refine inb_e ?_
              refine inb_n ?_
              refine then_n ?_
              -- region 7
              refine c_region ?_
              refine x_move (.int _ _) rfl ?_
              refine x_add _ _ rfl rfl (by simp only [X.lo]; omega) (by simp only [X.hi]; omega) ?_
              refine x_assign (.int _ _) rfl ?_
              refine x_nil ?_
              refine then_n ?_
              obtain rfl : n = R + 1 := by omega
              have hP3 := hP'.next ⟨0, 0⟩
              refine ⟨(i + 1, all ++ [p], s', a8, c8), ⟨rfl, rfl, rfl, rfl, rfl, rfl, trivial⟩, ⟨by omega, hS', hix', by simp; omega, hP3, hB', hs⟩, by first | omega | (dsimp only; omega)⟩
        · skip
          refine c_skip ?_
          refine then_n ?_
          refine c_seq ?_
          refine c_block ?_
          refine c_seq ?_
          refine c_seq ?_
          -- region 8
          refine c_region ?_
          refine x_move (.int _ _) rfl ?_
          refine x_move (.slice _ _ _) rfl ?_
          refine x_lenSl Try.underlying27 _ _ _ rfl ?_
          refine x_lssF _ _ rfl rfl (by omega) ?_
          refine x_move (.bool _) rfl ?_
          refine x_skip rfl rfl ?_
          refine x_skip rfl rfl ?_
          refine x_skip rfl rfl ?_
          refine x_skip rfl rfl ?_
          refine x_skip rfl rfl ?_
          refine x_pickF (.bool _) rfl rfl ?_
          refine x_nil ?_
          refine then_n ?_
          refine c_false rfl ?_
          refine c_skip ?_
          refine then_n ?_
          refine c_seq ?_
          -- region 9
          have hpm : p ∈ D.mem := List.mem_of_getElem? hp
          have hcells := (hr _ _ (hs.pull 3)).all (fun a => a.cells_len) hp
          obtain ⟨hS', hix', hpa⟩ := hS.snoc hnd hp hix
          refine c_region ?_
          refine x_move (.slice _ _ _) rfl ?_
          first | refine x_field0 fa_26_1 _ rfl ?_ | refine x_field fa_26_1 _ _ rfl ?_
          refine x_load one_23 _ (.slice _ _ _) rfl (by first | exact hs.cell rfl | exact (hs.pull 1).cell rfl | exact (hs.pull 2).cell rfl | exact (hs.pull 3).cell rfl | assumption | exact (hs.pull 4).cell rfl | exact (hs.pull 5).cell rfl | exact (hs.pull 6).cell rfl | exact (hs.pull 7).cell rfl) ?_
          refine x_move (.int _ _) rfl ?_
          refine x_indexAddr Try.underlying23 sz_35 _ _ _ _ _ rfl rfl (by omega) ?_
          refine x_loadN [.int .u16 (p.Id : Nat), .int .u32 (p.Inc : Nat)] agg_35 _ rfl hcells ?_
          refine x_buildSlice _ [(0, (.agg #[(.int .u16 _), (.int .u32 _)]))] hs rfl (fun w => bs_23_1 _ _ w) ?_; clear hs; intro b55 w hs; refine ⟨fun h => (by first | (cases h; done) | (first | exact hs.cells2 rfl rfl | exact (hs.pull 1).cells2 rfl rfl | exact (hs.pull 2).cells2 rfl rfl | exact (hs.pull 3).cells2 rfl rfl | exact (hs.pull 4).cells2 rfl rfl | exact (hs.pull 5).cells2 rfl rfl | exact (hs.pull 6).cells2 rfl rfl | exact (hs.pull 7).cells2 rfl rfl | exact (hs.pull 8).cells2 rfl rfl | exact hs.cell rfl | exact (hs.pull 1).cell rfl | exact (hs.pull 2).cell rfl | exact (hs.pull 3).cell rfl | exact (hs.pull 4).cell rfl | exact (hs.pull 5).cell rfl | exact (hs.pull 6).cell rfl | exact (hs.pull 7).cell rfl | exact (hs.pull 8).cell rfl | assumption | exact hs.cellsOf | exact (hs.pull 1).cellsOf | exact (hs.pull 2).cellsOf | exact (hs.pull 3).cellsOf | exact (hs.pull 4).cellsOf | exact (hs.pull 5).cellsOf | exact (hs.pull 6).cellsOf | exact (hs.pull 7).cellsOf | exact (hs.pull 8).cellsOf) | (and_intros <;> first | exact hs.cells2 rfl rfl | exact (hs.pull 1).cells2 rfl rfl | exact (hs.pull 2).cells2 rfl rfl | exact (hs.pull 3).cells2 rfl rfl | exact (hs.pull 4).cells2 rfl rfl | exact (hs.pull 5).cells2 rfl rfl | exact (hs.pull 6).cells2 rfl rfl | exact (hs.pull 7).cells2 rfl rfl | exact (hs.pull 8).cells2 rfl rfl | exact hs.cell rfl | exact (hs.pull 1).cell rfl | exact (hs.pull 2).cell rfl | exact (hs.pull 3).cell rfl | exact (hs.pull 4).cell rfl | exact (hs.pull 5).cell rfl | exact (hs.pull 6).cell rfl | exact (hs.pull 7).cell rfl | exact (hs.pull 8).cell rfl | assumption | exact hs.cellsOf | exact (hs.pull 1).cellsOf | exact (hs.pull 2).cellsOf | exact (hs.pull 3).cellsOf | exact (hs.pull 4).cellsOf | exact (hs.pull 5).cellsOf | exact (hs.pull 6).cellsOf | exact (hs.pull 7).cellsOf | exact (hs.pull 8).cellsOf)), ?_⟩
          have hrd := rd_blk (size := 2) hs rfl
          refine x_append (hs.pull 2) Try.underlying23 ei_35 hrd (by intro u hu; simp at hu; rcases hu with rfl | rfl <;> rfl) (by unfold maxLen; omega) (by omega) rfl rfl ?_
          clear hs hrd hcells; intro v w hs; refine ⟨fun h => (by cases h), ?_⟩
          obtain ⟨a8, c8, rfl⟩ := hs.rd.val
          have hln : all.length + 1 = (all ++ [p]).length := by simp
          rw [show pcells all ++ #[Value.int .u16 (p.Id : Nat), .int .u32 (p.Inc : Nat)].toList = pcells (all ++ [p]) from (pcells_snoc all p).symm, hln] at hs
          rw [hln]
          refine x_assign (.slice _ _ _) rfl ?_
          refine x_nil ?_
          refine then_n ?_
          refine c_seq ?_
          -- region 10
          refine c_region ?_
          refine x_assign (.int _ _) rfl ?_
          refine x_nil ?_
          refine then_n ?_
          refine c_block ?_
          refine c_loop (γ := Nat × ISt) (fun (⟨n, s'⟩ : Nat × ISt) => [(1, .slice a1 want.length c1), (2, .int .u8 (rnd : Nat)), (3, .pointer (some ⟨b3, 0, none⟩)), (7, .pointer (some ⟨f, 0, none⟩)), (8, .slice a8 (all ++ [p]).length c8), (9, .int .i64 (i : Nat)), (10, .int .u64 (n : Nat))]) (fun (⟨n, s'⟩ : Nat × ISt) w => (1 ≤ n ∧ n ≤ R + 1) ∧ PInv D.mem all R p n s' ∧ BInv s' ∧ Sat w0 w (IO f s' :: PR (.slice a8 (all ++ [p]).length c8) (all ++ [p]) :: Blk b3 (.cells #[.int .u64 (D.Id : Nat), .slice (some ⟨gm, om, none⟩) D.mem.length D.cm, .slice D.al D.lvs.length D.cl, .slice D.ad D.lds.length D.cd] 26 (0, 0)) :: [Init w0])) (fun (⟨n, s'⟩ : Nat × ISt) => R + 1 - n) (1, s) ⟨rfl, rfl, rfl, rfl, rfl, rfl, rfl, trivial⟩ ⟨by omega, hP.other p, hB, hs.sel [2, 0, 3, 4] 5⟩ ?_
          clear hs
          rintro ⟨n, s'⟩ ρ w ⟨hn, hP', hB', hs⟩
          change CW Try.prog 134 _ _ (sets 134 [(1, .slice a1 want.length c1), (2, .int .u8 (rnd : Nat)), (3, .pointer (some ⟨b3, 0, none⟩)), (7, .pointer (some ⟨f, 0, none⟩)), (8, .slice a8 (all ++ [p]).length c8), (9, .int .i64 (i : Nat)), (10, .int .u64 (n : Nat))] ρ) w
          refine c_seq ?_
          refine c_seq ?_
          -- region 11
          refine c_region ?_
          refine x_move (.int _ _) rfl ?_
          refine x_move (.int _ _) rfl ?_
          refine x_remN rnd 6 rfl rfl rfl (by decide) ?_
          refine x_conv cv_5_22 _ rfl (by simp only [X.lo]; omega) (by simp only [X.hi]; omega) ?_
          refine x_add _ _ rfl rfl (by simp only [X.lo]; omega) (by simp only [X.hi]; omega) ?_
          refine x_leq _ _ rfl rfl ?_
          refine x_nil ?_
          refine then_n ?_
          refine c_test _ rfl (fun hb => ?_) (fun hb => ?_)   -- cond t62
          · skip
            refine c_skip ?_
            refine then_n ?_
            refine c_seq ?_
            refine c_block ?_
            refine c_seq ?_
            -- region 13
            have hcells := (hr _ _ (hs.pull 3)).all (fun a => a.cells_len) hp
            have hn6 : n ≤ R := by omega
            have hpc := hP'.putC hpm hpa hn.1 (by omega)
            have hP2 := hP'.put hpm hpa hn.1 (by omega)
            have hmem' := hP'.memE
            refine c_region ?_
            refine x_move (.pointer _) rfl ?_
            first | refine x_field0 fa_26_1 _ rfl ?_ | refine x_field fa_26_1 _ _ rfl ?_
            refine x_load one_23 _ (.slice _ _ _) rfl (by first | exact hs.cell rfl | exact (hs.pull 1).cell rfl | exact (hs.pull 2).cell rfl | exact (hs.pull 3).cell rfl | assumption | exact (hs.pull 4).cell rfl | exact (hs.pull 5).cell rfl | exact (hs.pull 6).cell rfl | exact (hs.pull 7).cell rfl) ?_
            refine x_move (.int _ _) rfl ?_
            refine x_indexAddr Try.underlying23 sz_35 _ _ _ _ _ rfl rfl (by omega) ?_
            refine x_loadN [.int .u16 (p.Id : Nat), .int .u32 (p.Inc : Nat)] agg_35 _ rfl hcells ?_
            refine x_move (.int _ _) rfl ?_
            refine x_call Try.f11 Try.func11 rfl rfl _ rfl ?_
            refine ((put_ok p n hs (by rw [hmem']; omega) (by omega) hpc)).mono ?_
            clear hs; rintro e w ⟨rfl, hs⟩
            refine ⟨_, rfl, fun h => (by first | (cases h; done) | (first | exact hs.cells2 rfl rfl | exact (hs.pull 1).cells2 rfl rfl | exact (hs.pull 2).cells2 rfl rfl | exact (hs.pull 3).cells2 rfl rfl | exact (hs.pull 4).cells2 rfl rfl | exact (hs.pull 5).cells2 rfl rfl | exact (hs.pull 6).cells2 rfl rfl | exact (hs.pull 7).cells2 rfl rfl | exact (hs.pull 8).cells2 rfl rfl | exact hs.cell rfl | exact (hs.pull 1).cell rfl | exact (hs.pull 2).cell rfl | exact (hs.pull 3).cell rfl | exact (hs.pull 4).cell rfl | exact (hs.pull 5).cell rfl | exact (hs.pull 6).cell rfl | exact (hs.pull 7).cell rfl | exact (hs.pull 8).cell rfl | assumption | exact hs.cellsOf | exact (hs.pull 1).cellsOf | exact (hs.pull 2).cellsOf | exact (hs.pull 3).cellsOf | exact (hs.pull 4).cellsOf | exact (hs.pull 5).cellsOf | exact (hs.pull 6).cellsOf | exact (hs.pull 7).cellsOf | exact (hs.pull 8).cellsOf) | (and_intros <;> first | exact hs.cells2 rfl rfl | exact (hs.pull 1).cells2 rfl rfl | exact (hs.pull 2).cells2 rfl rfl | exact (hs.pull 3).cells2 rfl rfl | exact (hs.pull 4).cells2 rfl rfl | exact (hs.pull 5).cells2 rfl rfl | exact (hs.pull 6).cells2 rfl rfl | exact (hs.pull 7).cells2 rfl rfl | exact (hs.pull 8).cells2 rfl rfl | exact hs.cell rfl | exact (hs.pull 1).cell rfl | exact (hs.pull 2).cell rfl | exact (hs.pull 3).cell rfl | exact (hs.pull 4).cell rfl | exact (hs.pull 5).cell rfl | exact (hs.pull 6).cell rfl | exact (hs.pull 7).cell rfl | exact (hs.pull 8).cell rfl | assumption | exact hs.cellsOf | exact (hs.pull 1).cellsOf | exact (hs.pull 2).cellsOf | exact (hs.pull 3).cellsOf | exact (hs.pull 4).cellsOf | exact (hs.pull 5).cellsOf | exact (hs.pull 6).cellsOf | exact (hs.pull 7).cellsOf | exact (hs.pull 8).cellsOf)), ?_⟩
            refine x_neqF _ _ rfl rfl (by omega) ?_
            refine x_nil ?_
            refine then_n ?_
            refine c_false rfl ?_
            refine c_skip ?_
            refine inb_n ?_
            refine then_n ?_
            -- region 12
            refine c_region ?_
            refine x_move (.int _ _) rfl ?_
            refine x_add _ _ rfl rfl (by simp only [X.lo]; omega) (by simp only [X.hi]; omega) ?_
            refine x_assign (.int _ _) rfl ?_
            refine x_nil ?_
            refine then_n ?_
            refine ⟨(n + 1, s'.put p n []), ⟨rfl, rfl, rfl, rfl, rfl, rfl, rfl, trivial⟩, ⟨by omega, hP2, hB'.put p n [], hs⟩, by first | omega | (dsimp only; omega)⟩
          · skip
            refine c_exit ?_
            refine then_x ?_
            refine then_x ?_
            refine inb_e ?_
            refine inb_n ?_
            refine then_n ?_
            -- region 7
            refine c_region ?_
            refine x_move (.int _ _) rfl ?_
            refine x_add _ _ rfl rfl (by simp only [X.lo]; omega) (by simp only [X.hi]; omega) ?_
            refine x_assign (.int _ _) rfl ?_
            refine x_nil ?_
            refine then_n ?_
            obtain rfl : n = R + 1 := by omega
            have hP3 := hP'.next ⟨0, 0⟩
            refine ⟨(i + 1, all ++ [p], s', a8, c8), ⟨rfl, rfl, rfl, rfl, rfl, rfl, trivial⟩, ⟨by omega, hS', hix', by simp; omega, hP3, hB', hs⟩, by first | omega | (dsimp only; omega)⟩
      · skip
        refine c_exit ?_
        refine then_x ?_
        refine then_x ?_
        refine inb_e ?_
        refine then_n ?_
        refine c_seq ?_
        refine c_seq ?_
        -- region 15
        have hT := hP.turns
        refine c_region ?_
        refine x_assign (.int _ _) rfl ?_
        refine x_nil ?_
        refine then_n ?_
        refine c_block ?_
        refine c_loop (γ := Nat × ISt) (fun (⟨n, s⟩ : Nat × ISt) => [(2, .int .u8 (rnd : Nat)), (7, .pointer (some ⟨f, 0, none⟩)), (8, .slice a8 all.length c8), (11, .int .u64 (n : Nat))]) (fun (⟨n, s⟩ : Nat × ISt) w => (1 ≤ n ∧ n ≤ R + 1) ∧ TInv D.mem all R n 0 s ∧ BInv s ∧ Sat w0 w (IO f s :: PR (.slice a8 all.length c8) all :: [Init w0])) (fun (⟨n, s⟩ : Nat × ISt) => R + 1 - n) (1, s) ⟨rfl, rfl, rfl, rfl, trivial⟩ ⟨by omega, hT, hB, hs.sel [0, 1, 3] 4⟩ ?_
        clear hs
        rintro ⟨n, s⟩ ρ w ⟨hn, hT, hB, hs⟩
        change CW Try.prog 134 _ _ (sets 134 [(2, .int .u8 (rnd : Nat)), (7, .pointer (some ⟨f, 0, none⟩)), (8, .slice a8 all.length c8), (11, .int .u64 (n : Nat))] ρ) w
        refine c_seq ?_
        refine c_seq ?_
        -- region 16
        refine c_region ?_
        refine x_move (.int _ _) rfl ?_
        refine x_move (.int _ _) rfl ?_
        refine x_remN rnd 6 rfl rfl rfl (by decide) ?_
        refine x_conv cv_5_22 _ rfl (by simp only [X.lo]; omega) (by simp only [X.hi]; omega) ?_
        refine x_add _ _ rfl rfl (by simp only [X.lo]; omega) (by simp only [X.hi]; omega) ?_
        refine x_leq _ _ rfl rfl ?_
        refine x_nil ?_
        refine then_n ?_
        refine c_test _ rfl (fun hb => ?_) (fun hb => ?_)   -- cond t79
        · skip
          refine c_skip ?_
          refine then_n ?_
          refine c_seq ?_
          refine c_block ?_
          refine c_seq ?_
          -- region 18
          refine c_region ?_
          refine x_assign (.int _ _) rfl ?_
          refine x_nil ?_
          refine then_n ?_
          refine c_block ?_
          refine c_loop (γ := Nat × ISt) (fun (⟨i, s⟩ : Nat × ISt) => [(2, .int .u8 (rnd : Nat)), (7, .pointer (some ⟨f, 0, none⟩)), (8, .slice a8 all.length c8), (11, .int .u64 (n : Nat)), (12, .int .i64 (i : Nat))]) (fun (⟨i, s⟩ : Nat × ISt) w => i ≤ all.length ∧ TInv D.mem all R n i s ∧ BInv s ∧ Sat w0 w (IO f s :: PR (.slice a8 all.length c8) all :: [Init w0])) (fun (⟨i, s⟩ : Nat × ISt) => all.length - i) (0, s) ⟨rfl, rfl, rfl, rfl, rfl, trivial⟩ ⟨by omega, hT, hB, hs⟩ ?_
          clear hs
          rintro ⟨i, s⟩ ρ w ⟨hi, hT, hB, hs⟩
          change CW Try.prog 134 _ _ (sets 134 [(2, .int .u8 (rnd : Nat)), (7, .pointer (some ⟨f, 0, none⟩)), (8, .slice a8 all.length c8), (11, .int .u64 (n : Nat)), (12, .int .i64 (i : Nat))] ρ) w
          refine c_seq ?_
          refine c_seq ?_
          -- region 19
          refine c_region ?_
          refine x_move (.int _ _) rfl ?_
          refine x_move (.slice _ _ _) rfl ?_
          refine x_lenSl Try.underlying23 _ _ _ rfl ?_
          refine x_lss _ _ rfl rfl ?_
          refine x_nil ?_
          refine then_n ?_
          refine c_test _ rfl (fun hb => ?_) (fun hb => ?_)   -- cond t85
          · skip
            refine c_skip ?_
            refine then_n ?_
            refine c_seq ?_
            refine c_block ?_
            refine c_seq ?_
            -- region 21
            obtain ⟨p, hp⟩ : ∃ y, all[i]? = some y := ⟨all[i]'(by omega), List.getElem?_eq_getElem _⟩
            have hnx := hT.next hS hnd hn.1 (by omega) hR6.2 hp
            obtain ⟨hdo, hT2⟩ := hT.done hS hn.1 hp
            have hsm := hT.memE
            have hst := hB.turn
            have hB2 := hB.done p n
            refine c_region ?_
            refine x_move (.pointer _) rfl ?_
            refine x_call Try.f12 Try.func12 rfl rfl _ rfl ?_
            refine ((aw_next p n [] true hs (by rw [hsm]; omega) (by rw [hsm] at hst; omega) hB.b6 hnx)).mono ?_
            clear hs; rintro e w ⟨a9, c9, rfl, hs⟩
            refine ⟨_, rfl, fun h => (by first | (cases h; done) | (first | exact hs.cells2 rfl rfl | exact (hs.pull 1).cells2 rfl rfl | exact (hs.pull 2).cells2 rfl rfl | exact (hs.pull 3).cells2 rfl rfl | exact (hs.pull 4).cells2 rfl rfl | exact (hs.pull 5).cells2 rfl rfl | exact (hs.pull 6).cells2 rfl rfl | exact (hs.pull 7).cells2 rfl rfl | exact (hs.pull 8).cells2 rfl rfl | exact hs.cell rfl | exact (hs.pull 1).cell rfl | exact (hs.pull 2).cell rfl | exact (hs.pull 3).cell rfl | exact (hs.pull 4).cell rfl | exact (hs.pull 5).cell rfl | exact (hs.pull 6).cell rfl | exact (hs.pull 7).cell rfl | exact (hs.pull 8).cell rfl | assumption | exact hs.cellsOf | exact (hs.pull 1).cellsOf | exact (hs.pull 2).cellsOf | exact (hs.pull 3).cellsOf | exact (hs.pull 4).cellsOf | exact (hs.pull 5).cellsOf | exact (hs.pull 6).cellsOf | exact (hs.pull 7).cellsOf | exact (hs.pull 8).cellsOf) | (and_intros <;> first | exact hs.cells2 rfl rfl | exact (hs.pull 1).cells2 rfl rfl | exact (hs.pull 2).cells2 rfl rfl | exact (hs.pull 3).cells2 rfl rfl | exact (hs.pull 4).cells2 rfl rfl | exact (hs.pull 5).cells2 rfl rfl | exact (hs.pull 6).cells2 rfl rfl | exact (hs.pull 7).cells2 rfl rfl | exact (hs.pull 8).cells2 rfl rfl | exact hs.cell rfl | exact (hs.pull 1).cell rfl | exact (hs.pull 2).cell rfl | exact (hs.pull 3).cell rfl | exact (hs.pull 4).cell rfl | exact (hs.pull 5).cell rfl | exact (hs.pull 6).cell rfl | exact (hs.pull 7).cell rfl | exact (hs.pull 8).cell rfl | assumption | exact hs.cellsOf | exact (hs.pull 1).cellsOf | exact (hs.pull 2).cellsOf | exact (hs.pull 3).cellsOf | exact (hs.pull 4).cellsOf | exact (hs.pull 5).cellsOf | exact (hs.pull 6).cellsOf | exact (hs.pull 7).cellsOf | exact (hs.pull 8).cellsOf)), ?_⟩
            replace hs := hs.tail
            refine x_move (.tuple _) rfl ?_
            refine x_extract _ (.agg _) rfl rfl ?_
            refine x_extract _ (.int _ _) rfl rfl ?_
            refine x_extract _ (.slice _ _ _) rfl rfl ?_
            refine x_extract _ (.bool _) rfl rfl ?_
            refine x_alloc zi_35 hs ?_; clear hs; intro b13 w hs; refine ⟨fun h => (by first | (cases h; done) | (first | exact hs.cells2 rfl rfl | exact (hs.pull 1).cells2 rfl rfl | exact (hs.pull 2).cells2 rfl rfl | exact (hs.pull 3).cells2 rfl rfl | exact (hs.pull 4).cells2 rfl rfl | exact (hs.pull 5).cells2 rfl rfl | exact (hs.pull 6).cells2 rfl rfl | exact (hs.pull 7).cells2 rfl rfl | exact (hs.pull 8).cells2 rfl rfl | exact hs.cell rfl | exact (hs.pull 1).cell rfl | exact (hs.pull 2).cell rfl | exact (hs.pull 3).cell rfl | exact (hs.pull 4).cell rfl | exact (hs.pull 5).cell rfl | exact (hs.pull 6).cell rfl | exact (hs.pull 7).cell rfl | exact (hs.pull 8).cell rfl | assumption | exact hs.cellsOf | exact (hs.pull 1).cellsOf | exact (hs.pull 2).cellsOf | exact (hs.pull 3).cellsOf | exact (hs.pull 4).cellsOf | exact (hs.pull 5).cellsOf | exact (hs.pull 6).cellsOf | exact (hs.pull 7).cellsOf | exact (hs.pull 8).cellsOf) | (and_intros <;> first | exact hs.cells2 rfl rfl | exact (hs.pull 1).cells2 rfl rfl | exact (hs.pull 2).cells2 rfl rfl | exact (hs.pull 3).cells2 rfl rfl | exact (hs.pull 4).cells2 rfl rfl | exact (hs.pull 5).cells2 rfl rfl | exact (hs.pull 6).cells2 rfl rfl | exact (hs.pull 7).cells2 rfl rfl | exact (hs.pull 8).cells2 rfl rfl | exact hs.cell rfl | exact (hs.pull 1).cell rfl | exact (hs.pull 2).cell rfl | exact (hs.pull 3).cell rfl | exact (hs.pull 4).cell rfl | exact (hs.pull 5).cell rfl | exact (hs.pull 6).cell rfl | exact (hs.pull 7).cell rfl | exact (hs.pull 8).cell rfl | assumption | exact hs.cellsOf | exact (hs.pull 1).cellsOf | exact (hs.pull 2).cellsOf | exact (hs.pull 3).cellsOf | exact (hs.pull 4).cellsOf | exact (hs.pull 5).cellsOf | exact (hs.pull 6).cellsOf | exact (hs.pull 7).cellsOf | exact (hs.pull 8).cellsOf)), ?_⟩
            first
              | refine x_storeAllI hs 0 rfl rfl agg_35 [_, _] rfl rfl rfl rfl ?_
              | refine x_storeAllI hs 1 rfl rfl agg_35 [_, _] rfl rfl rfl rfl ?_
              | refine x_storeAllI hs 2 rfl rfl agg_35 [_, _] rfl rfl rfl rfl ?_
              | refine x_storeAllI hs 3 rfl rfl agg_35 [_, _] rfl rfl rfl rfl ?_
              | refine x_storeAllI hs 4 rfl rfl agg_35 [_, _] rfl rfl rfl rfl ?_
              | refine x_storeAllI hs 5 rfl rfl agg_35 [_, _] rfl rfl rfl rfl ?_
              | refine x_storeAllI hs 6 rfl rfl agg_35 [_, _] rfl rfl rfl rfl ?_
              | refine x_storeAllI hs 7 rfl rfl agg_35 [_, _] rfl rfl rfl rfl ?_
            clear hs; intro w hs
            try dsimp only [back, List.set_cons_zero, List.set_cons_succ] at hs
            refine ⟨fun h => (by first | (cases h; done) | (first | exact hs.cells2 rfl rfl | exact (hs.pull 1).cells2 rfl rfl | exact (hs.pull 2).cells2 rfl rfl | exact (hs.pull 3).cells2 rfl rfl | exact (hs.pull 4).cells2 rfl rfl | exact (hs.pull 5).cells2 rfl rfl | exact (hs.pull 6).cells2 rfl rfl | exact (hs.pull 7).cells2 rfl rfl | exact (hs.pull 8).cells2 rfl rfl | exact hs.cell rfl | exact (hs.pull 1).cell rfl | exact (hs.pull 2).cell rfl | exact (hs.pull 3).cell rfl | exact (hs.pull 4).cell rfl | exact (hs.pull 5).cell rfl | exact (hs.pull 6).cell rfl | exact (hs.pull 7).cell rfl | exact (hs.pull 8).cell rfl | assumption | exact hs.cellsOf | exact (hs.pull 1).cellsOf | exact (hs.pull 2).cellsOf | exact (hs.pull 3).cellsOf | exact (hs.pull 4).cellsOf | exact (hs.pull 5).cellsOf | exact (hs.pull 6).cellsOf | exact (hs.pull 7).cellsOf | exact (hs.pull 8).cellsOf) | (and_intros <;> first | exact hs.cells2 rfl rfl | exact (hs.pull 1).cells2 rfl rfl | exact (hs.pull 2).cells2 rfl rfl | exact (hs.pull 3).cells2 rfl rfl | exact (hs.pull 4).cells2 rfl rfl | exact (hs.pull 5).cells2 rfl rfl | exact (hs.pull 6).cells2 rfl rfl | exact (hs.pull 7).cells2 rfl rfl | exact (hs.pull 8).cells2 rfl rfl | exact hs.cell rfl | exact (hs.pull 1).cell rfl | exact (hs.pull 2).cell rfl | exact (hs.pull 3).cell rfl | exact (hs.pull 4).cell rfl | exact (hs.pull 5).cell rfl | exact (hs.pull 6).cell rfl | exact (hs.pull 7).cell rfl | exact (hs.pull 8).cell rfl | assumption | exact hs.cellsOf | exact (hs.pull 1).cellsOf | exact (hs.pull 2).cellsOf | exact (hs.pull 3).cellsOf | exact (hs.pull 4).cellsOf | exact (hs.pull 5).cellsOf | exact (hs.pull 6).cellsOf | exact (hs.pull 7).cellsOf | exact (hs.pull 8).cellsOf)), ?_⟩
            refine x_assign (.int _ _) rfl ?_
            refine x_assign (.slice _ _ _) rfl ?_
            refine x_assign (.bool _) rfl ?_
            refine x_nil ?_
            refine then_n ?_
            refine c_seq ?_
            -- region 22 DRAWS
            obtain ⟨g2, o2, rfl⟩ := (hs.pull 2).prs.addr (by omega)
            refine c_draw (fun w => (∀ (j : Nat) (u : Value), [Value.int .u16 (p.Id : Nat), Value.int .u32 (p.Inc : Nat)][j]? = some u → w.cell? ((⟨b13, 0, none⟩ : Addr).add j) = some u) ∧ (∀ (j : Nat) (u : Value), [Value.int .u16 (p.Id : Nat), Value.int .u32 (p.Inc : Nat)][j]? = some u → w.cell? ((⟨g2, o2 + i * 2, none⟩ : Addr).add j) = some u)) (fun i => !(Nat.beq i 19)) [(0, 2), (1, 2), (2, 2), (3, 1), (4, 2), (5, 2), (6, 2), (7, 1), (8, 2), (9, 2), (10, 2), (11, 2), (12, 2), (13, 2), (14, 2), (15, 2), (16, 2), (17, 1), (18, 2), (19, 0), (20, 2), (21, 2)] (by kernel_rfl) (by kernel_rfl) (by kernel_rfl) (by kernel_rfl) (⟨hs.drew.cellsOf, (hs.drew.pull 2).prs.all (fun a => a.cells_len) hp⟩) ?_
            replace hs := hs.drew
            refine x_move (.bool _) rfl ?_
            refine x_not _ rfl ?_
            refine x_move (.bool _) rfl ?_
            refine x_want' rfl ?_
            refine h_loadN [_, _] agg_35 _ rfl (fun w hS => by first | exact hS | exact hS.1 | exact hS.2 | exact hS.2.1 | exact hS.2.2 | exact hS.2.2.1 | exact hS.2.2.2 | exact hS.2.2.2.1 | exact hS.2.2.2.2 | exact hS.2.2.2.2.1 | exact hS.2.2.2.2.2 | exact hS.cellsOf | exact (hS.pull 1).cellsOf | exact (hS.pull 2).cellsOf | exact (hS.pull 3).cellsOf | exact (hS.pull 4).cellsOf | exact (hS.pull 5).cellsOf | exact (hS.pull 6).cellsOf | exact hS.cells2 rfl rfl | exact (hS.pull 1).cells2 rfl rfl | exact (hS.pull 2).cells2 rfl rfl | exact (hS.pull 3).cells2 rfl rfl | exact (hS.pull 4).cells2 rfl rfl | exact (hS.pull 5).cells2 rfl rfl | exact (hS.pull 6).cells2 rfl rfl) ?_
            refine x_want' rfl ?_
            refine x_move (.slice _ _ _) rfl ?_
            refine x_want' rfl ?_
            refine x_move (.int _ _) rfl ?_
            refine x_want' rfl ?_
            refine x_indexAddr Try.underlying23 sz_35 _ _ _ _ _ rfl rfl (by omega) ?_
            refine x_want' rfl ?_
            refine h_loadN [_, _] agg_35 _ rfl (fun w hS => by first | exact hS | exact hS.1 | exact hS.2 | exact hS.2.1 | exact hS.2.2 | exact hS.2.2.1 | exact hS.2.2.2 | exact hS.2.2.2.1 | exact hS.2.2.2.2 | exact hS.2.2.2.2.1 | exact hS.2.2.2.2.2 | exact hS.cellsOf | exact (hS.pull 1).cellsOf | exact (hS.pull 2).cellsOf | exact (hS.pull 3).cellsOf | exact (hS.pull 4).cellsOf | exact (hS.pull 5).cellsOf | exact (hS.pull 6).cellsOf | exact hS.cells2 rfl rfl | exact (hS.pull 1).cells2 rfl rfl | exact (hS.pull 2).cells2 rfl rfl | exact (hS.pull 3).cells2 rfl rfl | exact (hS.pull 4).cells2 rfl rfl | exact (hS.pull 5).cells2 rfl rfl | exact (hS.pull 6).cells2 rfl rfl) ?_
            refine x_want' rfl ?_
            refine x_neqEF eq_pid p p rfl rfl rfl ?_
            refine x_pickF (.bool _) rfl rfl ?_
            refine x_move (.bool _) rfl ?_
            refine x_want' rfl ?_
            refine x_move (.int _ _) rfl ?_
            refine x_want' rfl ?_
            refine x_move (.int _ _) rfl ?_
            refine x_want' rfl ?_
            refine x_neqF _ _ rfl rfl (by omega) ?_
            refine x_pickF (.bool _) rfl rfl ?_
            refine x_move (.bool _) rfl ?_
            refine x_want' rfl ?_
            refine x_move (.pointer _) rfl ?_
            refine x_want' rfl ?_
            refine h_loadN [_, _] agg_35 _ rfl (fun w hS => by first | exact hS | exact hS.1 | exact hS.2 | exact hS.2.1 | exact hS.2.2 | exact hS.2.2.1 | exact hS.2.2.2 | exact hS.2.2.2.1 | exact hS.2.2.2.2 | exact hS.2.2.2.2.1 | exact hS.2.2.2.2.2 | exact hS.cellsOf | exact (hS.pull 1).cellsOf | exact (hS.pull 2).cellsOf | exact (hS.pull 3).cellsOf | exact (hS.pull 4).cellsOf | exact (hS.pull 5).cellsOf | exact (hS.pull 6).cellsOf | exact hS.cells2 rfl rfl | exact (hS.pull 1).cells2 rfl rfl | exact (hS.pull 2).cells2 rfl rfl | exact (hS.pull 3).cells2 rfl rfl | exact (hS.pull 4).cells2 rfl rfl | exact (hS.pull 5).cells2 rfl rfl | exact (hS.pull 6).cells2 rfl rfl) ?_
            refine x_want' rfl ?_
            refine x_move (.int _ _) rfl ?_
            refine x_want' rfl ?_
            refine x_call Try.f13 Try.func13 rfl rfl _ rfl ?_
            refine ((done_is p n true _ (hs.pull 1) (by rw [hsm]; omega) (decide_eq_true hdo) rfl)).mono ?_
            clear hs; rintro e w ⟨rfl, hs⟩
            refine ⟨_, rfl, fun h => (by first | (cases h; done) | (first | exact hs.cells2 rfl rfl | exact (hs.pull 1).cells2 rfl rfl | exact (hs.pull 2).cells2 rfl rfl | exact (hs.pull 3).cells2 rfl rfl | exact (hs.pull 4).cells2 rfl rfl | exact (hs.pull 5).cells2 rfl rfl | exact (hs.pull 6).cells2 rfl rfl | exact (hs.pull 7).cells2 rfl rfl | exact (hs.pull 8).cells2 rfl rfl | exact hs.cell rfl | exact (hs.pull 1).cell rfl | exact (hs.pull 2).cell rfl | exact (hs.pull 3).cell rfl | exact (hs.pull 4).cell rfl | exact (hs.pull 5).cell rfl | exact (hs.pull 6).cell rfl | exact (hs.pull 7).cell rfl | exact (hs.pull 8).cell rfl | assumption | exact hs.cellsOf | exact (hs.pull 1).cellsOf | exact (hs.pull 2).cellsOf | exact (hs.pull 3).cellsOf | exact (hs.pull 4).cellsOf | exact (hs.pull 5).cellsOf | exact (hs.pull 6).cellsOf | exact (hs.pull 7).cellsOf | exact (hs.pull 8).cellsOf) | (and_intros <;> first | exact hs.cells2 rfl rfl | exact (hs.pull 1).cells2 rfl rfl | exact (hs.pull 2).cells2 rfl rfl | exact (hs.pull 3).cells2 rfl rfl | exact (hs.pull 4).cells2 rfl rfl | exact (hs.pull 5).cells2 rfl rfl | exact (hs.pull 6).cells2 rfl rfl | exact (hs.pull 7).cells2 rfl rfl | exact (hs.pull 8).cells2 rfl rfl | exact hs.cell rfl | exact (hs.pull 1).cell rfl | exact (hs.pull 2).cell rfl | exact (hs.pull 3).cell rfl | exact (hs.pull 4).cell rfl | exact (hs.pull 5).cell rfl | exact (hs.pull 6).cell rfl | exact (hs.pull 7).cell rfl | exact (hs.pull 8).cell rfl | assumption | exact hs.cellsOf | exact (hs.pull 1).cellsOf | exact (hs.pull 2).cellsOf | exact (hs.pull 3).cellsOf | exact (hs.pull 4).cellsOf | exact (hs.pull 5).cellsOf | exact (hs.pull 6).cellsOf | exact (hs.pull 7).cellsOf | exact (hs.pull 8).cellsOf)), ?_⟩
            refine x_want' rfl ?_
            refine x_not _ rfl ?_
            refine x_pickF (.bool _) rfl rfl ?_
            refine x_nil ?_
            refine then_n ?_
            refine c_false rfl ?_
            refine c_skip ?_
            refine inb_n ?_
            refine then_n ?_
            -- region 20
            refine c_region ?_
            refine x_move (.int _ _) rfl ?_
            refine x_add _ _ rfl rfl (by simp only [X.lo]; omega) (by simp only [X.hi]; omega) ?_
            refine x_assign (.int _ _) rfl ?_
            refine x_nil ?_
            refine then_n ?_
            refine ⟨(i + 1, s.done p n), ⟨rfl, rfl, rfl, rfl, rfl, trivial⟩, ⟨by omega, hT2, hB2, hs.sel [0, 2, 3] 4⟩, by first | omega | (dsimp only; omega)⟩
          · skip
            refine c_exit ?_
            refine then_x ?_
            refine then_x ?_
            refine inb_e ?_
            refine inb_n ?_
            refine then_n ?_
            -- region 17
            refine c_region ?_
            refine x_move (.int _ _) rfl ?_
            refine x_add _ _ rfl rfl (by simp only [X.lo]; omega) (by simp only [X.hi]; omega) ?_
            refine x_assign (.int _ _) rfl ?_
            refine x_nil ?_
            refine then_n ?_
            obtain rfl : i = all.length := by omega
            refine ⟨(n + 1, s), ⟨rfl, rfl, rfl, rfl, trivial⟩, ⟨by omega, hT.round hn.1, hB, hs⟩, by first | omega | (dsimp only; omega)⟩
        · skip
          refine c_exit ?_
          refine then_x ?_
          refine then_x ?_
          refine inb_e ?_
          refine then_n ?_
          refine c_seq ?_
          -- region 24
          obtain rfl : n = R + 1 := by omega
          obtain ⟨hno, hw0⟩ := hT.none
          have hsm := hT.memE
          have hst := hB.turn
          refine c_region ?_
          refine x_move (.pointer _) rfl ?_
          refine x_call Try.f12 Try.func12 rfl rfl _ rfl ?_
          refine ((aw_next ⟨0, 0⟩ 0 [] false hs (by rw [hsm]; omega) (by rw [hsm] at hst; omega) hB.b6 hno)).mono ?_
          clear hs; rintro e w ⟨a9, c9, rfl, hs⟩
          refine ⟨_, rfl, fun h => (by first | (cases h; done) | (first | exact hs.cells2 rfl rfl | exact (hs.pull 1).cells2 rfl rfl | exact (hs.pull 2).cells2 rfl rfl | exact (hs.pull 3).cells2 rfl rfl | exact (hs.pull 4).cells2 rfl rfl | exact (hs.pull 5).cells2 rfl rfl | exact (hs.pull 6).cells2 rfl rfl | exact (hs.pull 7).cells2 rfl rfl | exact (hs.pull 8).cells2 rfl rfl | exact hs.cell rfl | exact (hs.pull 1).cell rfl | exact (hs.pull 2).cell rfl | exact (hs.pull 3).cell rfl | exact (hs.pull 4).cell rfl | exact (hs.pull 5).cell rfl | exact (hs.pull 6).cell rfl | exact (hs.pull 7).cell rfl | exact (hs.pull 8).cell rfl | assumption | exact hs.cellsOf | exact (hs.pull 1).cellsOf | exact (hs.pull 2).cellsOf | exact (hs.pull 3).cellsOf | exact (hs.pull 4).cellsOf | exact (hs.pull 5).cellsOf | exact (hs.pull 6).cellsOf | exact (hs.pull 7).cellsOf | exact (hs.pull 8).cellsOf) | (and_intros <;> first | exact hs.cells2 rfl rfl | exact (hs.pull 1).cells2 rfl rfl | exact (hs.pull 2).cells2 rfl rfl | exact (hs.pull 3).cells2 rfl rfl | exact (hs.pull 4).cells2 rfl rfl | exact (hs.pull 5).cells2 rfl rfl | exact (hs.pull 6).cells2 rfl rfl | exact (hs.pull 7).cells2 rfl rfl | exact (hs.pull 8).cells2 rfl rfl | exact hs.cell rfl | exact (hs.pull 1).cell rfl | exact (hs.pull 2).cell rfl | exact (hs.pull 3).cell rfl | exact (hs.pull 4).cell rfl | exact (hs.pull 5).cell rfl | exact (hs.pull 6).cell rfl | exact (hs.pull 7).cell rfl | exact (hs.pull 8).cell rfl | assumption | exact hs.cellsOf | exact (hs.pull 1).cellsOf | exact (hs.pull 2).cellsOf | exact (hs.pull 3).cellsOf | exact (hs.pull 4).cellsOf | exact (hs.pull 5).cellsOf | exact (hs.pull 6).cellsOf | exact (hs.pull 7).cellsOf | exact (hs.pull 8).cellsOf)), ?_⟩
          replace hs := hs.tail
          refine x_move (.tuple _) rfl ?_
          refine x_extract _ (.agg _) rfl rfl ?_
          refine x_extract _ (.int _ _) rfl rfl ?_
          refine x_extract _ (.slice _ _ _) rfl rfl ?_
          refine x_extract _ (.bool _) rfl rfl ?_
          refine x_alloc zi_35 hs ?_; clear hs; intro b17 w hs; refine ⟨fun h => (by first | (cases h; done) | (first | exact hs.cells2 rfl rfl | exact (hs.pull 1).cells2 rfl rfl | exact (hs.pull 2).cells2 rfl rfl | exact (hs.pull 3).cells2 rfl rfl | exact (hs.pull 4).cells2 rfl rfl | exact (hs.pull 5).cells2 rfl rfl | exact (hs.pull 6).cells2 rfl rfl | exact (hs.pull 7).cells2 rfl rfl | exact (hs.pull 8).cells2 rfl rfl | exact hs.cell rfl | exact (hs.pull 1).cell rfl | exact (hs.pull 2).cell rfl | exact (hs.pull 3).cell rfl | exact (hs.pull 4).cell rfl | exact (hs.pull 5).cell rfl | exact (hs.pull 6).cell rfl | exact (hs.pull 7).cell rfl | exact (hs.pull 8).cell rfl | assumption | exact hs.cellsOf | exact (hs.pull 1).cellsOf | exact (hs.pull 2).cellsOf | exact (hs.pull 3).cellsOf | exact (hs.pull 4).cellsOf | exact (hs.pull 5).cellsOf | exact (hs.pull 6).cellsOf | exact (hs.pull 7).cellsOf | exact (hs.pull 8).cellsOf) | (and_intros <;> first | exact hs.cells2 rfl rfl | exact (hs.pull 1).cells2 rfl rfl | exact (hs.pull 2).cells2 rfl rfl | exact (hs.pull 3).cells2 rfl rfl | exact (hs.pull 4).cells2 rfl rfl | exact (hs.pull 5).cells2 rfl rfl | exact (hs.pull 6).cells2 rfl rfl | exact (hs.pull 7).cells2 rfl rfl | exact (hs.pull 8).cells2 rfl rfl | exact hs.cell rfl | exact (hs.pull 1).cell rfl | exact (hs.pull 2).cell rfl | exact (hs.pull 3).cell rfl | exact (hs.pull 4).cell rfl | exact (hs.pull 5).cell rfl | exact (hs.pull 6).cell rfl | exact (hs.pull 7).cell rfl | exact (hs.pull 8).cell rfl | assumption | exact hs.cellsOf | exact (hs.pull 1).cellsOf | exact (hs.pull 2).cellsOf | exact (hs.pull 3).cellsOf | exact (hs.pull 4).cellsOf | exact (hs.pull 5).cellsOf | exact (hs.pull 6).cellsOf | exact (hs.pull 7).cellsOf | exact (hs.pull 8).cellsOf)), ?_⟩
          first
            | refine x_storeAllI hs 0 rfl rfl agg_35 [_, _] rfl rfl rfl rfl ?_
            | refine x_storeAllI hs 1 rfl rfl agg_35 [_, _] rfl rfl rfl rfl ?_
            | refine x_storeAllI hs 2 rfl rfl agg_35 [_, _] rfl rfl rfl rfl ?_
            | refine x_storeAllI hs 3 rfl rfl agg_35 [_, _] rfl rfl rfl rfl ?_
            | refine x_storeAllI hs 4 rfl rfl agg_35 [_, _] rfl rfl rfl rfl ?_
            | refine x_storeAllI hs 5 rfl rfl agg_35 [_, _] rfl rfl rfl rfl ?_
            | refine x_storeAllI hs 6 rfl rfl agg_35 [_, _] rfl rfl rfl rfl ?_
            | refine x_storeAllI hs 7 rfl rfl agg_35 [_, _] rfl rfl rfl rfl ?_
          clear hs; intro w hs
          try dsimp only [back, List.set_cons_zero, List.set_cons_succ] at hs
          refine ⟨fun h => (by first | (cases h; done) | (first | exact hs.cells2 rfl rfl | exact (hs.pull 1).cells2 rfl rfl | exact (hs.pull 2).cells2 rfl rfl | exact (hs.pull 3).cells2 rfl rfl | exact (hs.pull 4).cells2 rfl rfl | exact (hs.pull 5).cells2 rfl rfl | exact (hs.pull 6).cells2 rfl rfl | exact (hs.pull 7).cells2 rfl rfl | exact (hs.pull 8).cells2 rfl rfl | exact hs.cell rfl | exact (hs.pull 1).cell rfl | exact (hs.pull 2).cell rfl | exact (hs.pull 3).cell rfl | exact (hs.pull 4).cell rfl | exact (hs.pull 5).cell rfl | exact (hs.pull 6).cell rfl | exact (hs.pull 7).cell rfl | exact (hs.pull 8).cell rfl | assumption | exact hs.cellsOf | exact (hs.pull 1).cellsOf | exact (hs.pull 2).cellsOf | exact (hs.pull 3).cellsOf | exact (hs.pull 4).cellsOf | exact (hs.pull 5).cellsOf | exact (hs.pull 6).cellsOf | exact (hs.pull 7).cellsOf | exact (hs.pull 8).cellsOf) | (and_intros <;> first | exact hs.cells2 rfl rfl | exact (hs.pull 1).cells2 rfl rfl | exact (hs.pull 2).cells2 rfl rfl | exact (hs.pull 3).cells2 rfl rfl | exact (hs.pull 4).cells2 rfl rfl | exact (hs.pull 5).cells2 rfl rfl | exact (hs.pull 6).cells2 rfl rfl | exact (hs.pull 7).cells2 rfl rfl | exact (hs.pull 8).cells2 rfl rfl | exact hs.cell rfl | exact (hs.pull 1).cell rfl | exact (hs.pull 2).cell rfl | exact (hs.pull 3).cell rfl | exact (hs.pull 4).cell rfl | exact (hs.pull 5).cell rfl | exact (hs.pull 6).cell rfl | exact (hs.pull 7).cell rfl | exact (hs.pull 8).cell rfl | assumption | exact hs.cellsOf | exact (hs.pull 1).cellsOf | exact (hs.pull 2).cellsOf | exact (hs.pull 3).cellsOf | exact (hs.pull 4).cellsOf | exact (hs.pull 5).cellsOf | exact (hs.pull 6).cellsOf | exact (hs.pull 7).cellsOf | exact (hs.pull 8).cellsOf)), ?_⟩
          refine x_assign (.int _ _) rfl ?_
          refine x_assign (.slice _ _ _) rfl ?_
          refine x_assign (.bool _) rfl ?_
          refine x_nil ?_
          refine then_n ?_
          refine c_seq ?_
          -- region 25
          refine c_region ?_
          refine x_move (.bool _) rfl ?_
          refine x_not _ rfl ?_
          refine x_move (.bool _) rfl ?_
          refine x_want' rfl ?_
          refine x_move (.pointer _) rfl ?_
          refine x_want' rfl ?_
          refine x_call Try.f14 Try.func14 rfl rfl _ rfl ?_
          refine (ilen_calls (hs.pull 1)).mono ?_
          clear hs; rintro e w ⟨rfl, hs⟩
          replace hs := hs.push 1
          try dsimp only [back] at hs
          refine ⟨_, rfl, fun h => (by first | (cases h; done) | (first | exact hs.cells2 rfl rfl | exact (hs.pull 1).cells2 rfl rfl | exact (hs.pull 2).cells2 rfl rfl | exact (hs.pull 3).cells2 rfl rfl | exact (hs.pull 4).cells2 rfl rfl | exact (hs.pull 5).cells2 rfl rfl | exact (hs.pull 6).cells2 rfl rfl | exact (hs.pull 7).cells2 rfl rfl | exact (hs.pull 8).cells2 rfl rfl | exact hs.cell rfl | exact (hs.pull 1).cell rfl | exact (hs.pull 2).cell rfl | exact (hs.pull 3).cell rfl | exact (hs.pull 4).cell rfl | exact (hs.pull 5).cell rfl | exact (hs.pull 6).cell rfl | exact (hs.pull 7).cell rfl | exact (hs.pull 8).cell rfl | assumption | exact hs.cellsOf | exact (hs.pull 1).cellsOf | exact (hs.pull 2).cellsOf | exact (hs.pull 3).cellsOf | exact (hs.pull 4).cellsOf | exact (hs.pull 5).cellsOf | exact (hs.pull 6).cellsOf | exact (hs.pull 7).cellsOf | exact (hs.pull 8).cellsOf) | (and_intros <;> first | exact hs.cells2 rfl rfl | exact (hs.pull 1).cells2 rfl rfl | exact (hs.pull 2).cells2 rfl rfl | exact (hs.pull 3).cells2 rfl rfl | exact (hs.pull 4).cells2 rfl rfl | exact (hs.pull 5).cells2 rfl rfl | exact (hs.pull 6).cells2 rfl rfl | exact (hs.pull 7).cells2 rfl rfl | exact (hs.pull 8).cells2 rfl rfl | exact hs.cell rfl | exact (hs.pull 1).cell rfl | exact (hs.pull 2).cell rfl | exact (hs.pull 3).cell rfl | exact (hs.pull 4).cell rfl | exact (hs.pull 5).cell rfl | exact (hs.pull 6).cell rfl | exact (hs.pull 7).cell rfl | exact (hs.pull 8).cell rfl | assumption | exact hs.cellsOf | exact (hs.pull 1).cellsOf | exact (hs.pull 2).cellsOf | exact (hs.pull 3).cellsOf | exact (hs.pull 4).cellsOf | exact (hs.pull 5).cellsOf | exact (hs.pull 6).cellsOf | exact (hs.pull 7).cellsOf | exact (hs.pull 8).cellsOf)), ?_⟩
          refine x_want' rfl ?_
          refine x_eqlT _ _ rfl rfl (by omega) ?_
          refine x_pickT (.bool _) rfl rfl ?_
          refine x_move (.bool _) rfl ?_
          refine x_want' rfl ?_
          refine x_call Try.f9 Try.func9 rfl rfl _ rfl ?_
          refine (awake23_calls hs).mono ?_
          clear hs; rintro e w ⟨rfl, hs⟩
          refine ⟨_, rfl, fun h => (by first | (cases h; done) | (first | exact hs.cells2 rfl rfl | exact (hs.pull 1).cells2 rfl rfl | exact (hs.pull 2).cells2 rfl rfl | exact (hs.pull 3).cells2 rfl rfl | exact (hs.pull 4).cells2 rfl rfl | exact (hs.pull 5).cells2 rfl rfl | exact (hs.pull 6).cells2 rfl rfl | exact (hs.pull 7).cells2 rfl rfl | exact (hs.pull 8).cells2 rfl rfl | exact hs.cell rfl | exact (hs.pull 1).cell rfl | exact (hs.pull 2).cell rfl | exact (hs.pull 3).cell rfl | exact (hs.pull 4).cell rfl | exact (hs.pull 5).cell rfl | exact (hs.pull 6).cell rfl | exact (hs.pull 7).cell rfl | exact (hs.pull 8).cell rfl | assumption | exact hs.cellsOf | exact (hs.pull 1).cellsOf | exact (hs.pull 2).cellsOf | exact (hs.pull 3).cellsOf | exact (hs.pull 4).cellsOf | exact (hs.pull 5).cellsOf | exact (hs.pull 6).cellsOf | exact (hs.pull 7).cellsOf | exact (hs.pull 8).cellsOf) | (and_intros <;> first | exact hs.cells2 rfl rfl | exact (hs.pull 1).cells2 rfl rfl | exact (hs.pull 2).cells2 rfl rfl | exact (hs.pull 3).cells2 rfl rfl | exact (hs.pull 4).cells2 rfl rfl | exact (hs.pull 5).cells2 rfl rfl | exact (hs.pull 6).cells2 rfl rfl | exact (hs.pull 7).cells2 rfl rfl | exact (hs.pull 8).cells2 rfl rfl | exact hs.cell rfl | exact (hs.pull 1).cell rfl | exact (hs.pull 2).cell rfl | exact (hs.pull 3).cell rfl | exact (hs.pull 4).cell rfl | exact (hs.pull 5).cell rfl | exact (hs.pull 6).cell rfl | exact (hs.pull 7).cell rfl | exact (hs.pull 8).cell rfl | assumption | exact hs.cellsOf | exact (hs.pull 1).cellsOf | exact (hs.pull 2).cellsOf | exact (hs.pull 3).cellsOf | exact (hs.pull 4).cellsOf | exact (hs.pull 5).cellsOf | exact (hs.pull 6).cellsOf | exact (hs.pull 7).cellsOf | exact (hs.pull 8).cellsOf)), ?_⟩
          refine x_pickT (.bool _) rfl rfl ?_
          refine x_assign (.bool _) rfl ?_
          refine x_nil ?_
          refine then_n ?_
          refine c_ret ?_
          refine ⟨.inr rfl, ?_⟩
          exact ⟨rfl, hs.sel [3] 4⟩
  · skip
    refine x_move (.bool _) rfl ?_
    refine x_skip rfl rfl ?_
    refine x_skip rfl rfl ?_
    refine x_skip rfl rfl ?_
    refine x_pickT (.bool _) rfl rfl ?_
    refine x_nil ?_
    refine then_n ?_
    refine c_true rfl ?_
    refine c_seq ?_
    -- region 2
    refine c_region ?_
    refine x_call Try.f9 Try.func9 rfl rfl _ rfl ?_
    refine (awake23_calls hs).mono ?_
    clear hs; rintro e w ⟨rfl, hs⟩
    refine ⟨_, rfl, fun h => (by first | (cases h; done) | (first | exact hs.cells2 rfl rfl | exact (hs.pull 1).cells2 rfl rfl | exact (hs.pull 2).cells2 rfl rfl | exact (hs.pull 3).cells2 rfl rfl | exact (hs.pull 4).cells2 rfl rfl | exact (hs.pull 5).cells2 rfl rfl | exact (hs.pull 6).cells2 rfl rfl | exact (hs.pull 7).cells2 rfl rfl | exact (hs.pull 8).cells2 rfl rfl | exact hs.cell rfl | exact (hs.pull 1).cell rfl | exact (hs.pull 2).cell rfl | exact (hs.pull 3).cell rfl | exact (hs.pull 4).cell rfl | exact (hs.pull 5).cell rfl | exact (hs.pull 6).cell rfl | exact (hs.pull 7).cell rfl | exact (hs.pull 8).cell rfl | assumption | exact hs.cellsOf | exact (hs.pull 1).cellsOf | exact (hs.pull 2).cellsOf | exact (hs.pull 3).cellsOf | exact (hs.pull 4).cellsOf | exact (hs.pull 5).cellsOf | exact (hs.pull 6).cellsOf | exact (hs.pull 7).cellsOf | exact (hs.pull 8).cellsOf) | (and_intros <;> first | exact hs.cells2 rfl rfl | exact (hs.pull 1).cells2 rfl rfl | exact (hs.pull 2).cells2 rfl rfl | exact (hs.pull 3).cells2 rfl rfl | exact (hs.pull 4).cells2 rfl rfl | exact (hs.pull 5).cells2 rfl rfl | exact (hs.pull 6).cells2 rfl rfl | exact (hs.pull 7).cells2 rfl rfl | exact (hs.pull 8).cells2 rfl rfl | exact hs.cell rfl | exact (hs.pull 1).cell rfl | exact (hs.pull 2).cell rfl | exact (hs.pull 3).cell rfl | exact (hs.pull 4).cell rfl | exact (hs.pull 5).cell rfl | exact (hs.pull 6).cell rfl | exact (hs.pull 7).cell rfl | exact (hs.pull 8).cell rfl | assumption | exact hs.cellsOf | exact (hs.pull 1).cellsOf | exact (hs.pull 2).cellsOf | exact (hs.pull 3).cellsOf | exact (hs.pull 4).cellsOf | exact (hs.pull 5).cellsOf | exact (hs.pull 6).cellsOf | exact (hs.pull 7).cellsOf | exact (hs.pull 8).cellsOf)), ?_⟩
    refine x_assign (.bool _) rfl ?_
    refine x_nil ?_
    refine then_n ?_
    refine c_ret ?_
    refine then_r ?_
    refine ⟨.inr rfl, ?_⟩
    exact ⟨rfl, hs.tail⟩
end Go.Proofs.Ytiffpkbkmpianaa.X
