/-
  LAYER 24: the flush: New, unask, Told, View; who is none.
-/
import Derived.Test.YthhojdbklnoooaaPsl
import Derived.Test.YthhojdbklnoooaaDel
namespace Go.Proofs.Ythhojdbklnoooaa.X
open Go Go.RowKit
set_option linter.unusedVariables false
set_option maxRecDepth 20000
abbrev penc : Pid → Value := fun p => .agg #[.int .u16 (p.Id : Nat), .int .u32 (p.Inc : Nat)]
theorem Sat.prs {w0 w : World} {v : Value} {l : List Pid} {L : List HP} (hs : Sat w0 w (Row 34 2 v l.length (pcells l) :: L)) : RS w 2 Pid.cells v l := hs.rd
theorem pcells_one {l : List Pid} : ∀ u ∈ pcells l, u.oneCell' = true := fun u hu => by
  unfold pcells at hu
  obtain ⟨r, hr, hu⟩ := List.mem_flatten.1 hu
  obtain ⟨p, _, rfl⟩ := List.mem_map.1 hr
  simp [Pid.cells] at hu
  rcases hu with rfl | rfl <;> rfl
theorem pcells_snoc (l : List Pid) (p : Pid) : pcells (l ++ [p]) = pcells l ++ [.int .u16 (p.Id : Nat), .int .u32 (p.Inc : Nat)] := by simp [pcells, Pid.cells]
theorem pcells_erase (l : List Pid) (i : Nat) : (pcells l).take (i * 2) ++ (pcells l).drop ((i + 1) * 2) = pcells (l.eraseIdx i) := by
  unfold pcells
  rw [flat_erase (rows_of (fun a => a.cells_len) l), map_erase]
structure FSt where
  vw : Nat
  ask : List Pid
  told : List (Pid × Nat)
def fm (t : List (Pid × Nat)) : List (Pid × Value) := t.map fun p => (p.1, .int .u64 (p.2 : Nat))
def FO (f : Nat) (s : FSt) : HP := fun h => ∃ x : Value × Nat, SatH [Blk f (.cells #[.int .u64 (s.vw : Nat), x.1, .map (some x.2)] 56 (0, 0)), Row 34 2 x.1 s.ask.length (pcells s.ask), MapR penc x.2 (fm s.told)] h
theorem Sat.fo {w0 w : World} {f : Nat} {s : FSt} {L : List HP} (hs : Sat w0 w (FO f s :: L)) :
    ∃ ao c M, Sat w0 w (Blk f (.cells #[.int .u64 (s.vw : Nat), .slice ao s.ask.length c, .map (some M)] 56 (0, 0)) :: Row 34 2 (.slice ao s.ask.length c) s.ask.length (pcells s.ask) :: MapR penc M (fm s.told) :: L) := by
  obtain ⟨⟨v, M⟩, h⟩ := Sat.ex (F := fun x : Value × Nat => SatH [Blk f (.cells #[.int .u64 (s.vw : Nat), x.1, .map (some x.2)] 56 (0, 0)), Row 34 2 x.1 s.ask.length (pcells s.ask), MapR penc x.2 (fm s.told)]) hs
  have h := h.opn
  obtain ⟨ao, c, e⟩ := (h.pull 1).rd.val
  dsimp only at e
  subst e
  exact ⟨ao, c, M, h⟩
theorem Sat.fo' {w0 w : World} {f : Nat} {s : FSt} {v : Value} {M : Nat} {L : List HP} (hs : Sat w0 w (Blk f (.cells #[.int .u64 (s.vw : Nat), v, .map (some M)] 56 (0, 0)) :: Row 34 2 v s.ask.length (pcells s.ask) :: MapR penc M (fm s.told) :: L)) : Sat w0 w (FO f s :: L) :=
  (Sat.shut (Ls := [Blk f (.cells #[.int .u64 (s.vw : Nat), v, .map (some M)] 56 (0, 0)), Row 34 2 v s.ask.length (pcells s.ask), MapR penc M (fm s.told)]) hs).head fun h hh => ⟨(v, M), hh⟩
theorem mt_told : MT Try.prog 29 34 27 (.int .u64 0) := ⟨Try.underlying29, by kernel_rfl⟩
/-! ### unask -/
def FSt.un (s : FSt) (p : Pid) : FSt := { s with ask := s.ask.eraseIdx (s.ask.idxOf p) }
theorem unask_no {w0 w : World} {L : List HP} {f : Nat} {s : FSt} (p : Pid) (hs : Sat w0 w (FO f s :: L)) (hlen : s.ask.length ≤ 1000000) (hp : p ∉ s.ask) :
    Calls Try.prog 24 #[.pointer (some ⟨f, 0, none⟩), .agg #[.int .u16 (p.Id : Nat), .int .u32 (p.Inc : Nat)]] w fun e w' => e = .returned (.bool false) ∧ Sat w0 w' (FO f s :: L) := by
  obtain ⟨ao, c, M, hs⟩ := hs.fo
  have hx := pix_none hp
  refine enter Try.func24 rfl Try.ntmps24 4 rfl (Nat.le_of_ble_eq_true rfl) ?_
  refine c_seq ?_
  -- region 0
  refine c_region ?_
  refine x_box hs (.agg #[_, _]) rfl ?_; clear hs; intro b3 w hs; refine ⟨fun h => (by first | (cases h; done) | (first | exact hs.cells2 rfl rfl | exact (hs.pull 1).cells2 rfl rfl | exact (hs.pull 2).cells2 rfl rfl | exact (hs.pull 3).cells2 rfl rfl | exact (hs.pull 4).cells2 rfl rfl | exact (hs.pull 5).cells2 rfl rfl | exact (hs.pull 6).cells2 rfl rfl | exact (hs.pull 7).cells2 rfl rfl | exact (hs.pull 8).cells2 rfl rfl | exact hs.cell rfl | exact (hs.pull 1).cell rfl | exact (hs.pull 2).cell rfl | exact (hs.pull 3).cell rfl | exact (hs.pull 4).cell rfl | exact (hs.pull 5).cell rfl | exact (hs.pull 6).cell rfl | exact (hs.pull 7).cell rfl | exact (hs.pull 8).cell rfl | assumption | exact hs.cellsOf | exact (hs.pull 1).cellsOf | exact (hs.pull 2).cellsOf | exact (hs.pull 3).cellsOf | exact (hs.pull 4).cellsOf | exact (hs.pull 5).cellsOf | exact (hs.pull 6).cellsOf | exact (hs.pull 7).cellsOf | exact (hs.pull 8).cellsOf) | (and_intros <;> first | exact hs.cells2 rfl rfl | exact (hs.pull 1).cells2 rfl rfl | exact (hs.pull 2).cells2 rfl rfl | exact (hs.pull 3).cells2 rfl rfl | exact (hs.pull 4).cells2 rfl rfl | exact (hs.pull 5).cells2 rfl rfl | exact (hs.pull 6).cells2 rfl rfl | exact (hs.pull 7).cells2 rfl rfl | exact (hs.pull 8).cells2 rfl rfl | exact hs.cell rfl | exact (hs.pull 1).cell rfl | exact (hs.pull 2).cell rfl | exact (hs.pull 3).cell rfl | exact (hs.pull 4).cell rfl | exact (hs.pull 5).cell rfl | exact (hs.pull 6).cell rfl | exact (hs.pull 7).cell rfl | exact (hs.pull 8).cell rfl | assumption | exact hs.cellsOf | exact (hs.pull 1).cellsOf | exact (hs.pull 2).cellsOf | exact (hs.pull 3).cellsOf | exact (hs.pull 4).cellsOf | exact (hs.pull 5).cellsOf | exact (hs.pull 6).cellsOf | exact (hs.pull 7).cellsOf | exact (hs.pull 8).cellsOf)), ?_⟩
  refine x_assign (.bool _) rfl ?_
  refine x_nil ?_
  refine then_n ?_
  refine c_seq ?_
  -- region 1 DRAWS
  refine c_draw (fun w => w.cell? ⟨f, 1, none⟩ = some (.slice ao s.ask.length c) ∧ (∀ (j : Nat) (u : Value), [Value.int .u16 (p.Id : Nat), Value.int .u32 (p.Inc : Nat)][j]? = some u → w.cell? ((⟨b3, 0, none⟩ : Addr).add j) = some u)) (fun i => !(Nat.beq i 5)) [(0, 2), (1, 2), (2, 2), (3, 1), (4, 1), (5, 0), (6, 2)] (by kernel_rfl) (by kernel_rfl) (by kernel_rfl) (by kernel_rfl) ((by first | (first | exact hs.cells2 rfl rfl | exact (hs.pull 1).cells2 rfl rfl | exact (hs.pull 2).cells2 rfl rfl | exact (hs.pull 3).cells2 rfl rfl | exact (hs.pull 4).cells2 rfl rfl | exact (hs.pull 5).cells2 rfl rfl | exact (hs.pull 6).cells2 rfl rfl | exact (hs.pull 7).cells2 rfl rfl | exact (hs.pull 8).cells2 rfl rfl | exact hs.cell rfl | exact (hs.pull 1).cell rfl | exact (hs.pull 2).cell rfl | exact (hs.pull 3).cell rfl | exact (hs.pull 4).cell rfl | exact (hs.pull 5).cell rfl | exact (hs.pull 6).cell rfl | exact (hs.pull 7).cell rfl | exact (hs.pull 8).cell rfl | assumption | exact hs.cellsOf | exact (hs.pull 1).cellsOf | exact (hs.pull 2).cellsOf | exact (hs.pull 3).cellsOf | exact (hs.pull 4).cellsOf | exact (hs.pull 5).cellsOf | exact (hs.pull 6).cellsOf | exact (hs.pull 7).cellsOf | exact (hs.pull 8).cellsOf) | (and_intros <;> first | exact hs.cells2 rfl rfl | exact (hs.pull 1).cells2 rfl rfl | exact (hs.pull 2).cells2 rfl rfl | exact (hs.pull 3).cells2 rfl rfl | exact (hs.pull 4).cells2 rfl rfl | exact (hs.pull 5).cells2 rfl rfl | exact (hs.pull 6).cells2 rfl rfl | exact (hs.pull 7).cells2 rfl rfl | exact (hs.pull 8).cells2 rfl rfl | exact hs.cell rfl | exact (hs.pull 1).cell rfl | exact (hs.pull 2).cell rfl | exact (hs.pull 3).cell rfl | exact (hs.pull 4).cell rfl | exact (hs.pull 5).cell rfl | exact (hs.pull 6).cell rfl | exact (hs.pull 7).cell rfl | exact (hs.pull 8).cell rfl | assumption | exact hs.cellsOf | exact (hs.pull 1).cellsOf | exact (hs.pull 2).cellsOf | exact (hs.pull 3).cellsOf | exact (hs.pull 4).cellsOf | exact (hs.pull 5).cellsOf | exact (hs.pull 6).cellsOf | exact (hs.pull 7).cellsOf | exact (hs.pull 8).cellsOf))) ?_
  replace hs := hs.drew
  refine x_move (.pointer _) rfl ?_
  refine x_nilCheck _ rfl ?_
  first | refine x_field0 fa_56_1 _ rfl ?_ | refine x_field fa_56_1 _ _ rfl ?_
  refine h_load one_22 _ (.slice _ _ _) rfl (fun w hS => by first | exact hS.cell rfl | exact (hS.pull 1).cell rfl | exact (hS.pull 2).cell rfl | exact (hS.pull 3).cell rfl | exact (hS.pull 4).cell rfl | exact (hS.pull 5).cell rfl | exact (hS.pull 6).cell rfl | exact hS | exact hS.1 | exact hS.2 | exact hS.2.1 | exact hS.2.2 | exact hS.2.2.1 | exact hS.2.2.2 | exact hS.2.2.2.1 | exact hS.2.2.2.2) ?_
  refine h_loadN [_, _] agg_34 _ rfl (fun w hS => by first | exact hS | exact hS.1 | exact hS.2 | exact hS.2.1 | exact hS.2.2 | exact hS.2.2.1 | exact hS.2.2.2 | exact hS.2.2.2.1 | exact hS.2.2.2.2 | exact hS.cellsOf | exact (hS.pull 1).cellsOf | exact (hS.pull 2).cellsOf | exact (hS.pull 3).cellsOf | exact (hS.pull 4).cellsOf | exact (hS.pull 5).cellsOf | exact (hS.pull 6).cellsOf | exact hS.cells2 rfl rfl | exact (hS.pull 1).cells2 rfl rfl | exact (hS.pull 2).cells2 rfl rfl | exact (hS.pull 3).cells2 rfl rfl | exact (hS.pull 4).cells2 rfl rfl | exact (hS.pull 5).cells2 rfl rfl | exact (hS.pull 6).cells2 rfl rfl) ?_
  refine x_call Try.f27 Try.func27 rfl rfl _ rfl ?_
  refine (index_calls p (hs.pull 2) (fun w' L' h => h.prs) (by omega)).mono ?_
  clear hs; rintro e w ⟨rfl, hs⟩
  replace hs := hs.push 2
  try dsimp only [back] at hs
  refine ⟨_, rfl, fun h => (by first | (cases h; done) | (first | exact hs.cells2 rfl rfl | exact (hs.pull 1).cells2 rfl rfl | exact (hs.pull 2).cells2 rfl rfl | exact (hs.pull 3).cells2 rfl rfl | exact (hs.pull 4).cells2 rfl rfl | exact (hs.pull 5).cells2 rfl rfl | exact (hs.pull 6).cells2 rfl rfl | exact (hs.pull 7).cells2 rfl rfl | exact (hs.pull 8).cells2 rfl rfl | exact hs.cell rfl | exact (hs.pull 1).cell rfl | exact (hs.pull 2).cell rfl | exact (hs.pull 3).cell rfl | exact (hs.pull 4).cell rfl | exact (hs.pull 5).cell rfl | exact (hs.pull 6).cell rfl | exact (hs.pull 7).cell rfl | exact (hs.pull 8).cell rfl | assumption | exact hs.cellsOf | exact (hs.pull 1).cellsOf | exact (hs.pull 2).cellsOf | exact (hs.pull 3).cellsOf | exact (hs.pull 4).cellsOf | exact (hs.pull 5).cellsOf | exact (hs.pull 6).cellsOf | exact (hs.pull 7).cellsOf | exact (hs.pull 8).cellsOf) | (and_intros <;> first | exact hs.cells2 rfl rfl | exact (hs.pull 1).cells2 rfl rfl | exact (hs.pull 2).cells2 rfl rfl | exact (hs.pull 3).cells2 rfl rfl | exact (hs.pull 4).cells2 rfl rfl | exact (hs.pull 5).cells2 rfl rfl | exact (hs.pull 6).cells2 rfl rfl | exact (hs.pull 7).cells2 rfl rfl | exact (hs.pull 8).cells2 rfl rfl | exact hs.cell rfl | exact (hs.pull 1).cell rfl | exact (hs.pull 2).cell rfl | exact (hs.pull 3).cell rfl | exact (hs.pull 4).cell rfl | exact (hs.pull 5).cell rfl | exact (hs.pull 6).cell rfl | exact (hs.pull 7).cell rfl | exact (hs.pull 8).cell rfl | assumption | exact hs.cellsOf | exact (hs.pull 1).cellsOf | exact (hs.pull 2).cellsOf | exact (hs.pull 3).cellsOf | exact (hs.pull 4).cellsOf | exact (hs.pull 5).cellsOf | exact (hs.pull 6).cellsOf | exact (hs.pull 7).cellsOf | exact (hs.pull 8).cellsOf)), ?_⟩
  rw [hx]
  refine x_assign (.int _ _) rfl ?_
  refine x_nil ?_
  refine then_n ?_
  refine c_seq ?_
  refine c_seq ?_
  -- region 2
  refine c_region ?_
  refine x_move (.int _ _) rfl ?_
  refine x_lssT _ _ rfl rfl (by omega) ?_
  refine x_nil ?_
  refine then_n ?_
  refine c_true rfl ?_
  refine c_seq ?_
  -- region 3
  refine c_region ?_
  refine x_assign (.bool _) rfl ?_
  refine x_nil ?_
  refine then_n ?_
  refine c_ret ?_
  refine then_r ?_
  refine ⟨.inr rfl, ?_⟩
  exact ⟨rfl, hs.tail.fo'⟩
theorem unask_yes {w0 w : World} {L : List HP} {f : Nat} {s : FSt} (p : Pid) (hs : Sat w0 w (FO f s :: L)) (hlen : s.ask.length ≤ 1000000) (hp : p ∈ s.ask) :
    Calls Try.prog 24 #[.pointer (some ⟨f, 0, none⟩), .agg #[.int .u16 (p.Id : Nat), .int .u32 (p.Inc : Nat)]] w fun e w' => e = .returned (.bool true) ∧ Sat w0 w' (FO f (s.un p) :: L) := by
  obtain ⟨ao, c, M, hs⟩ := hs.fo
  have hx : pix s.ask p = ((s.ask.idxOf p : Nat) : Int) := by unfold pix; rw [if_pos hp]
  have hlt := pix_lt hp
  obtain ⟨g, o, rfl⟩ := (hs.pull 1).rowAddr (show 0 < s.ask.length by omega)
  refine enter Try.func24 rfl Try.ntmps24 4 rfl (Nat.le_of_ble_eq_true rfl) ?_
  refine c_seq ?_
  -- region 0
  refine c_region ?_
  refine x_box hs (.agg #[_, _]) rfl ?_; clear hs; intro b3 w hs; refine ⟨fun h => (by first | (cases h; done) | (first | exact hs.cells2 rfl rfl | exact (hs.pull 1).cells2 rfl rfl | exact (hs.pull 2).cells2 rfl rfl | exact (hs.pull 3).cells2 rfl rfl | exact (hs.pull 4).cells2 rfl rfl | exact (hs.pull 5).cells2 rfl rfl | exact (hs.pull 6).cells2 rfl rfl | exact (hs.pull 7).cells2 rfl rfl | exact (hs.pull 8).cells2 rfl rfl | exact hs.cell rfl | exact (hs.pull 1).cell rfl | exact (hs.pull 2).cell rfl | exact (hs.pull 3).cell rfl | exact (hs.pull 4).cell rfl | exact (hs.pull 5).cell rfl | exact (hs.pull 6).cell rfl | exact (hs.pull 7).cell rfl | exact (hs.pull 8).cell rfl | assumption | exact hs.cellsOf | exact (hs.pull 1).cellsOf | exact (hs.pull 2).cellsOf | exact (hs.pull 3).cellsOf | exact (hs.pull 4).cellsOf | exact (hs.pull 5).cellsOf | exact (hs.pull 6).cellsOf | exact (hs.pull 7).cellsOf | exact (hs.pull 8).cellsOf) | (and_intros <;> first | exact hs.cells2 rfl rfl | exact (hs.pull 1).cells2 rfl rfl | exact (hs.pull 2).cells2 rfl rfl | exact (hs.pull 3).cells2 rfl rfl | exact (hs.pull 4).cells2 rfl rfl | exact (hs.pull 5).cells2 rfl rfl | exact (hs.pull 6).cells2 rfl rfl | exact (hs.pull 7).cells2 rfl rfl | exact (hs.pull 8).cells2 rfl rfl | exact hs.cell rfl | exact (hs.pull 1).cell rfl | exact (hs.pull 2).cell rfl | exact (hs.pull 3).cell rfl | exact (hs.pull 4).cell rfl | exact (hs.pull 5).cell rfl | exact (hs.pull 6).cell rfl | exact (hs.pull 7).cell rfl | exact (hs.pull 8).cell rfl | assumption | exact hs.cellsOf | exact (hs.pull 1).cellsOf | exact (hs.pull 2).cellsOf | exact (hs.pull 3).cellsOf | exact (hs.pull 4).cellsOf | exact (hs.pull 5).cellsOf | exact (hs.pull 6).cellsOf | exact (hs.pull 7).cellsOf | exact (hs.pull 8).cellsOf)), ?_⟩
  refine x_assign (.bool _) rfl ?_
  refine x_nil ?_
  refine then_n ?_
  refine c_seq ?_
  -- region 1 DRAWS
  refine c_draw (fun w => w.cell? ⟨f, 1, none⟩ = some (.slice (some ⟨g, o, none⟩) s.ask.length c) ∧ (∀ (j : Nat) (u : Value), [Value.int .u16 (p.Id : Nat), Value.int .u32 (p.Inc : Nat)][j]? = some u → w.cell? ((⟨b3, 0, none⟩ : Addr).add j) = some u)) (fun i => !(Nat.beq i 5)) [(0, 2), (1, 2), (2, 2), (3, 1), (4, 1), (5, 0), (6, 2)] (by kernel_rfl) (by kernel_rfl) (by kernel_rfl) (by kernel_rfl) ((by first | (first | exact hs.cells2 rfl rfl | exact (hs.pull 1).cells2 rfl rfl | exact (hs.pull 2).cells2 rfl rfl | exact (hs.pull 3).cells2 rfl rfl | exact (hs.pull 4).cells2 rfl rfl | exact (hs.pull 5).cells2 rfl rfl | exact (hs.pull 6).cells2 rfl rfl | exact (hs.pull 7).cells2 rfl rfl | exact (hs.pull 8).cells2 rfl rfl | exact hs.cell rfl | exact (hs.pull 1).cell rfl | exact (hs.pull 2).cell rfl | exact (hs.pull 3).cell rfl | exact (hs.pull 4).cell rfl | exact (hs.pull 5).cell rfl | exact (hs.pull 6).cell rfl | exact (hs.pull 7).cell rfl | exact (hs.pull 8).cell rfl | assumption | exact hs.cellsOf | exact (hs.pull 1).cellsOf | exact (hs.pull 2).cellsOf | exact (hs.pull 3).cellsOf | exact (hs.pull 4).cellsOf | exact (hs.pull 5).cellsOf | exact (hs.pull 6).cellsOf | exact (hs.pull 7).cellsOf | exact (hs.pull 8).cellsOf) | (and_intros <;> first | exact hs.cells2 rfl rfl | exact (hs.pull 1).cells2 rfl rfl | exact (hs.pull 2).cells2 rfl rfl | exact (hs.pull 3).cells2 rfl rfl | exact (hs.pull 4).cells2 rfl rfl | exact (hs.pull 5).cells2 rfl rfl | exact (hs.pull 6).cells2 rfl rfl | exact (hs.pull 7).cells2 rfl rfl | exact (hs.pull 8).cells2 rfl rfl | exact hs.cell rfl | exact (hs.pull 1).cell rfl | exact (hs.pull 2).cell rfl | exact (hs.pull 3).cell rfl | exact (hs.pull 4).cell rfl | exact (hs.pull 5).cell rfl | exact (hs.pull 6).cell rfl | exact (hs.pull 7).cell rfl | exact (hs.pull 8).cell rfl | assumption | exact hs.cellsOf | exact (hs.pull 1).cellsOf | exact (hs.pull 2).cellsOf | exact (hs.pull 3).cellsOf | exact (hs.pull 4).cellsOf | exact (hs.pull 5).cellsOf | exact (hs.pull 6).cellsOf | exact (hs.pull 7).cellsOf | exact (hs.pull 8).cellsOf))) ?_
  replace hs := hs.drew
  refine x_move (.pointer _) rfl ?_
  refine x_nilCheck _ rfl ?_
  first | refine x_field0 fa_56_1 _ rfl ?_ | refine x_field fa_56_1 _ _ rfl ?_
  refine h_load one_22 _ (.slice _ _ _) rfl (fun w hS => by first | exact hS.cell rfl | exact (hS.pull 1).cell rfl | exact (hS.pull 2).cell rfl | exact (hS.pull 3).cell rfl | exact (hS.pull 4).cell rfl | exact (hS.pull 5).cell rfl | exact (hS.pull 6).cell rfl | exact hS | exact hS.1 | exact hS.2 | exact hS.2.1 | exact hS.2.2 | exact hS.2.2.1 | exact hS.2.2.2 | exact hS.2.2.2.1 | exact hS.2.2.2.2) ?_
  refine h_loadN [_, _] agg_34 _ rfl (fun w hS => by first | exact hS | exact hS.1 | exact hS.2 | exact hS.2.1 | exact hS.2.2 | exact hS.2.2.1 | exact hS.2.2.2 | exact hS.2.2.2.1 | exact hS.2.2.2.2 | exact hS.cellsOf | exact (hS.pull 1).cellsOf | exact (hS.pull 2).cellsOf | exact (hS.pull 3).cellsOf | exact (hS.pull 4).cellsOf | exact (hS.pull 5).cellsOf | exact (hS.pull 6).cellsOf | exact hS.cells2 rfl rfl | exact (hS.pull 1).cells2 rfl rfl | exact (hS.pull 2).cells2 rfl rfl | exact (hS.pull 3).cells2 rfl rfl | exact (hS.pull 4).cells2 rfl rfl | exact (hS.pull 5).cells2 rfl rfl | exact (hS.pull 6).cells2 rfl rfl) ?_
  refine x_call Try.f27 Try.func27 rfl rfl _ rfl ?_
  refine (index_calls p (hs.pull 2) (fun w' L' h => h.prs) (by omega)).mono ?_
  clear hs; rintro e w ⟨rfl, hs⟩
  replace hs := hs.push 2
  try dsimp only [back] at hs
  refine ⟨_, rfl, fun h => (by first | (cases h; done) | (first | exact hs.cells2 rfl rfl | exact (hs.pull 1).cells2 rfl rfl | exact (hs.pull 2).cells2 rfl rfl | exact (hs.pull 3).cells2 rfl rfl | exact (hs.pull 4).cells2 rfl rfl | exact (hs.pull 5).cells2 rfl rfl | exact (hs.pull 6).cells2 rfl rfl | exact (hs.pull 7).cells2 rfl rfl | exact (hs.pull 8).cells2 rfl rfl | exact hs.cell rfl | exact (hs.pull 1).cell rfl | exact (hs.pull 2).cell rfl | exact (hs.pull 3).cell rfl | exact (hs.pull 4).cell rfl | exact (hs.pull 5).cell rfl | exact (hs.pull 6).cell rfl | exact (hs.pull 7).cell rfl | exact (hs.pull 8).cell rfl | assumption | exact hs.cellsOf | exact (hs.pull 1).cellsOf | exact (hs.pull 2).cellsOf | exact (hs.pull 3).cellsOf | exact (hs.pull 4).cellsOf | exact (hs.pull 5).cellsOf | exact (hs.pull 6).cellsOf | exact (hs.pull 7).cellsOf | exact (hs.pull 8).cellsOf) | (and_intros <;> first | exact hs.cells2 rfl rfl | exact (hs.pull 1).cells2 rfl rfl | exact (hs.pull 2).cells2 rfl rfl | exact (hs.pull 3).cells2 rfl rfl | exact (hs.pull 4).cells2 rfl rfl | exact (hs.pull 5).cells2 rfl rfl | exact (hs.pull 6).cells2 rfl rfl | exact (hs.pull 7).cells2 rfl rfl | exact (hs.pull 8).cells2 rfl rfl | exact hs.cell rfl | exact (hs.pull 1).cell rfl | exact (hs.pull 2).cell rfl | exact (hs.pull 3).cell rfl | exact (hs.pull 4).cell rfl | exact (hs.pull 5).cell rfl | exact (hs.pull 6).cell rfl | exact (hs.pull 7).cell rfl | exact (hs.pull 8).cell rfl | assumption | exact hs.cellsOf | exact (hs.pull 1).cellsOf | exact (hs.pull 2).cellsOf | exact (hs.pull 3).cellsOf | exact (hs.pull 4).cellsOf | exact (hs.pull 5).cellsOf | exact (hs.pull 6).cellsOf | exact (hs.pull 7).cellsOf | exact (hs.pull 8).cellsOf)), ?_⟩
  rw [hx]
  refine x_assign (.int _ _) rfl ?_
  refine x_nil ?_
  refine then_n ?_
  refine c_seq ?_
  refine c_seq ?_
  -- region 2
  refine c_region ?_
  refine x_move (.int _ _) rfl ?_
  refine x_lssF _ _ rfl rfl (by omega) ?_
  refine x_nil ?_
  refine then_n ?_
  refine c_false rfl ?_
  refine c_skip ?_
  refine then_n ?_
  refine c_seq ?_
  -- region 4
  refine c_region ?_
  refine x_move (.pointer _) rfl ?_
  refine x_move (.pointer _) rfl ?_
  refine x_nilCheck _ rfl ?_
  first | refine x_field0 fa_56_1 _ rfl ?_ | refine x_field fa_56_1 _ _ rfl ?_
  refine x_load one_22 _ (.slice _ _ _) rfl (by first | exact hs.cell rfl | exact (hs.pull 1).cell rfl | exact (hs.pull 2).cell rfl | exact (hs.pull 3).cell rfl | assumption | exact (hs.pull 4).cell rfl | exact (hs.pull 5).cell rfl | exact (hs.pull 6).cell rfl | exact (hs.pull 7).cell rfl) ?_
  refine x_move (.int _ _) rfl ?_
  refine x_move (.int _ _) rfl ?_
  refine x_add _ _ rfl rfl (by simp only [X.lo]; omega) (by simp only [X.hi]; omega) ?_
  refine x_call Try.f28 Try.func28 rfl rfl _ rfl ?_
  refine (delete_calls (s.ask.idxOf p) (hs.pull 2) hlt hlen pcells_one).mono ?_
  clear hs; rintro e w ⟨rfl, hs⟩
  replace hs := hs.push 2
  try dsimp only [back] at hs
  refine ⟨_, rfl, fun h => (by first | (cases h; done) | (first | exact hs.cells2 rfl rfl | exact (hs.pull 1).cells2 rfl rfl | exact (hs.pull 2).cells2 rfl rfl | exact (hs.pull 3).cells2 rfl rfl | exact (hs.pull 4).cells2 rfl rfl | exact (hs.pull 5).cells2 rfl rfl | exact (hs.pull 6).cells2 rfl rfl | exact (hs.pull 7).cells2 rfl rfl | exact (hs.pull 8).cells2 rfl rfl | exact hs.cell rfl | exact (hs.pull 1).cell rfl | exact (hs.pull 2).cell rfl | exact (hs.pull 3).cell rfl | exact (hs.pull 4).cell rfl | exact (hs.pull 5).cell rfl | exact (hs.pull 6).cell rfl | exact (hs.pull 7).cell rfl | exact (hs.pull 8).cell rfl | assumption | exact hs.cellsOf | exact (hs.pull 1).cellsOf | exact (hs.pull 2).cellsOf | exact (hs.pull 3).cellsOf | exact (hs.pull 4).cellsOf | exact (hs.pull 5).cellsOf | exact (hs.pull 6).cellsOf | exact (hs.pull 7).cellsOf | exact (hs.pull 8).cellsOf) | (and_intros <;> first | exact hs.cells2 rfl rfl | exact (hs.pull 1).cells2 rfl rfl | exact (hs.pull 2).cells2 rfl rfl | exact (hs.pull 3).cells2 rfl rfl | exact (hs.pull 4).cells2 rfl rfl | exact (hs.pull 5).cells2 rfl rfl | exact (hs.pull 6).cells2 rfl rfl | exact (hs.pull 7).cells2 rfl rfl | exact (hs.pull 8).cells2 rfl rfl | exact hs.cell rfl | exact (hs.pull 1).cell rfl | exact (hs.pull 2).cell rfl | exact (hs.pull 3).cell rfl | exact (hs.pull 4).cell rfl | exact (hs.pull 5).cell rfl | exact (hs.pull 6).cell rfl | exact (hs.pull 7).cell rfl | exact (hs.pull 8).cell rfl | assumption | exact hs.cellsOf | exact (hs.pull 1).cellsOf | exact (hs.pull 2).cellsOf | exact (hs.pull 3).cellsOf | exact (hs.pull 4).cellsOf | exact (hs.pull 5).cellsOf | exact (hs.pull 6).cellsOf | exact (hs.pull 7).cellsOf | exact (hs.pull 8).cellsOf)), ?_⟩
  rw [pcells_erase] at hs
  refine x_nilCheck _ rfl ?_
  first | refine x_field0 fa_56_1 _ rfl ?_ | refine x_field fa_56_1 _ _ rfl ?_
  first
    | refine x_storeI hs 0 rfl rfl one_22 (.slice _ _ _) rfl rfl rfl ?_
    | refine x_storeI hs 1 rfl rfl one_22 (.slice _ _ _) rfl rfl rfl ?_
    | refine x_storeI hs 2 rfl rfl one_22 (.slice _ _ _) rfl rfl rfl ?_
    | refine x_storeI hs 3 rfl rfl one_22 (.slice _ _ _) rfl rfl rfl ?_
    | refine x_storeI hs 4 rfl rfl one_22 (.slice _ _ _) rfl rfl rfl ?_
    | refine x_storeI hs 5 rfl rfl one_22 (.slice _ _ _) rfl rfl rfl ?_
    | refine x_storeI hs 6 rfl rfl one_22 (.slice _ _ _) rfl rfl rfl ?_
    | refine x_storeI hs 7 rfl rfl one_22 (.slice _ _ _) rfl rfl rfl ?_
  clear hs; intro w hs
  try dsimp only [back, List.set_cons_zero, List.set_cons_succ] at hs
  refine ⟨fun h => (by first | (cases h; done) | (first | exact hs.cells2 rfl rfl | exact (hs.pull 1).cells2 rfl rfl | exact (hs.pull 2).cells2 rfl rfl | exact (hs.pull 3).cells2 rfl rfl | exact (hs.pull 4).cells2 rfl rfl | exact (hs.pull 5).cells2 rfl rfl | exact (hs.pull 6).cells2 rfl rfl | exact (hs.pull 7).cells2 rfl rfl | exact (hs.pull 8).cells2 rfl rfl | exact hs.cell rfl | exact (hs.pull 1).cell rfl | exact (hs.pull 2).cell rfl | exact (hs.pull 3).cell rfl | exact (hs.pull 4).cell rfl | exact (hs.pull 5).cell rfl | exact (hs.pull 6).cell rfl | exact (hs.pull 7).cell rfl | exact (hs.pull 8).cell rfl | assumption | exact hs.cellsOf | exact (hs.pull 1).cellsOf | exact (hs.pull 2).cellsOf | exact (hs.pull 3).cellsOf | exact (hs.pull 4).cellsOf | exact (hs.pull 5).cellsOf | exact (hs.pull 6).cellsOf | exact (hs.pull 7).cellsOf | exact (hs.pull 8).cellsOf) | (and_intros <;> first | exact hs.cells2 rfl rfl | exact (hs.pull 1).cells2 rfl rfl | exact (hs.pull 2).cells2 rfl rfl | exact (hs.pull 3).cells2 rfl rfl | exact (hs.pull 4).cells2 rfl rfl | exact (hs.pull 5).cells2 rfl rfl | exact (hs.pull 6).cells2 rfl rfl | exact (hs.pull 7).cells2 rfl rfl | exact (hs.pull 8).cells2 rfl rfl | exact hs.cell rfl | exact (hs.pull 1).cell rfl | exact (hs.pull 2).cell rfl | exact (hs.pull 3).cell rfl | exact (hs.pull 4).cell rfl | exact (hs.pull 5).cell rfl | exact (hs.pull 6).cell rfl | exact (hs.pull 7).cell rfl | exact (hs.pull 8).cell rfl | assumption | exact hs.cellsOf | exact (hs.pull 1).cellsOf | exact (hs.pull 2).cellsOf | exact (hs.pull 3).cellsOf | exact (hs.pull 4).cellsOf | exact (hs.pull 5).cellsOf | exact (hs.pull 6).cellsOf | exact (hs.pull 7).cellsOf | exact (hs.pull 8).cellsOf)), ?_⟩
  refine x_nil ?_
  refine then_n ?_
  refine c_seq ?_
  -- region 5
  refine c_region ?_
  refine x_assign (.bool _) rfl ?_
  refine x_nil ?_
  refine then_n ?_
  refine c_ret ?_
  refine ⟨.inr rfl, ?_⟩
  have he : s.ask.length - 1 = (s.un p).ask.length := by unfold FSt.un; rw [List.length_eraseIdx_of_lt hlt]
  rw [he] at hs
  exact ⟨rfl, Sat.fo' (s := s.un p) hs.tail⟩
theorem fview_calls {w0 w : World} {L : List HP} {f : Nat} {s : FSt} (hs : Sat w0 w (FO f s :: L)) :
    Calls Try.prog 21 #[.pointer (some ⟨f, 0, none⟩)] w fun e w' => e = .returned (.int .u64 (s.vw : Nat)) ∧ Sat w0 w' (FO f s :: L) := by
  obtain ⟨ao, c, M, hs⟩ := hs.fo
  refine enter Try.func21 rfl Try.ntmps21 2 rfl (Nat.le_of_ble_eq_true rfl) ?_
  refine c_seq ?_
  -- region 0
  refine c_region ?_
  refine x_assign (.int _ _) rfl ?_
  refine x_nil ?_
  refine then_n ?_
  refine c_seq ?_
  refine c_seq ?_
  -- region 1
  refine c_region ?_
  refine x_move (.pointer _) rfl ?_
  refine x_eqlNil Try.underlying25 _ rfl rfl ?_
  refine x_nil ?_
  refine then_n ?_
  refine c_false rfl ?_
  refine c_skip ?_
  refine then_n ?_
  refine c_seq ?_
  -- region 3
  refine c_region ?_
  refine x_move (.pointer _) rfl ?_
  refine x_nilCheck _ rfl ?_
  first | refine x_field0 fa_56_0 _ rfl ?_ | refine x_field fa_56_0 _ _ rfl ?_
  refine x_load one_27 _ (.int _ _) rfl (by first | exact hs.cell rfl | exact (hs.pull 1).cell rfl | exact (hs.pull 2).cell rfl | exact (hs.pull 3).cell rfl | assumption | exact (hs.pull 4).cell rfl | exact (hs.pull 5).cell rfl | exact (hs.pull 6).cell rfl | exact (hs.pull 7).cell rfl) ?_
  refine x_assign (.int _ _) rfl ?_
  refine x_nil ?_
  refine then_n ?_
  refine c_ret ?_
  refine ⟨.inr rfl, ?_⟩
  exact ⟨rfl, hs.fo'⟩
theorem told_yes {w0 w : World} {L : List HP} {f : Nat} {s : FSt} (p : Pid) (n : Nat) (hs : Sat w0 w (FO f s :: L)) (hlen : s.ask.length ≤ 1000000) (hp : p ∈ s.ask) :
    Calls Try.prog 10 #[.pointer (some ⟨f, 0, none⟩), .agg #[.int .u16 (p.Id : Nat), .int .u32 (p.Inc : Nat)], .int .u64 (n : Nat)] w fun e w' => e = .returned (.bool true) ∧ Sat w0 w' (FO f { s.un p with told := mset p n s.told } :: L) := by
  refine enter Try.func10 rfl Try.ntmps10 6 rfl (Nat.le_of_ble_eq_true rfl) ?_
  refine c_seq ?_
  -- region 0
  refine c_region ?_
  refine x_box hs (.agg #[_, _]) rfl ?_; clear hs; intro b4 w hs; refine ⟨fun h => (by first | (cases h; done) | (first | exact hs.cells2 rfl rfl | exact (hs.pull 1).cells2 rfl rfl | exact (hs.pull 2).cells2 rfl rfl | exact (hs.pull 3).cells2 rfl rfl | exact (hs.pull 4).cells2 rfl rfl | exact (hs.pull 5).cells2 rfl rfl | exact (hs.pull 6).cells2 rfl rfl | exact (hs.pull 7).cells2 rfl rfl | exact (hs.pull 8).cells2 rfl rfl | exact hs.cell rfl | exact (hs.pull 1).cell rfl | exact (hs.pull 2).cell rfl | exact (hs.pull 3).cell rfl | exact (hs.pull 4).cell rfl | exact (hs.pull 5).cell rfl | exact (hs.pull 6).cell rfl | exact (hs.pull 7).cell rfl | exact (hs.pull 8).cell rfl | assumption | exact hs.cellsOf | exact (hs.pull 1).cellsOf | exact (hs.pull 2).cellsOf | exact (hs.pull 3).cellsOf | exact (hs.pull 4).cellsOf | exact (hs.pull 5).cellsOf | exact (hs.pull 6).cellsOf | exact (hs.pull 7).cellsOf | exact (hs.pull 8).cellsOf) | (and_intros <;> first | exact hs.cells2 rfl rfl | exact (hs.pull 1).cells2 rfl rfl | exact (hs.pull 2).cells2 rfl rfl | exact (hs.pull 3).cells2 rfl rfl | exact (hs.pull 4).cells2 rfl rfl | exact (hs.pull 5).cells2 rfl rfl | exact (hs.pull 6).cells2 rfl rfl | exact (hs.pull 7).cells2 rfl rfl | exact (hs.pull 8).cells2 rfl rfl | exact hs.cell rfl | exact (hs.pull 1).cell rfl | exact (hs.pull 2).cell rfl | exact (hs.pull 3).cell rfl | exact (hs.pull 4).cell rfl | exact (hs.pull 5).cell rfl | exact (hs.pull 6).cell rfl | exact (hs.pull 7).cell rfl | exact (hs.pull 8).cell rfl | assumption | exact hs.cellsOf | exact (hs.pull 1).cellsOf | exact (hs.pull 2).cellsOf | exact (hs.pull 3).cellsOf | exact (hs.pull 4).cellsOf | exact (hs.pull 5).cellsOf | exact (hs.pull 6).cellsOf | exact (hs.pull 7).cellsOf | exact (hs.pull 8).cellsOf)), ?_⟩
  refine x_assign (.bool _) rfl ?_
  refine x_nil ?_
  refine then_n ?_
  refine c_seq ?_
  refine c_seq ?_
  -- region 1
  refine c_region ?_
  refine x_move (.pointer _) rfl ?_
  refine x_eqlNil Try.underlying25 _ rfl rfl ?_
  refine x_move (.bool _) rfl ?_
  refine x_want' rfl ?_
  refine x_move (.pointer _) rfl ?_
  refine x_want' rfl ?_
  refine x_loadN [_, _] agg_34 _ rfl (by first | assumption | exact hs.cellsOf | exact (hs.pull 1).cellsOf | exact (hs.pull 2).cellsOf | exact (hs.pull 3).cellsOf | exact (hs.pull 4).cellsOf | exact (hs.pull 5).cellsOf | exact (hs.pull 6).cellsOf | exact (hs.pull 7).cellsOf | exact (hs.pull 8).cellsOf | exact hs.cells2 rfl rfl | exact (hs.pull 1).cells2 rfl rfl | exact (hs.pull 2).cells2 rfl rfl | exact (hs.pull 3).cells2 rfl rfl | exact (hs.pull 4).cells2 rfl rfl | exact (hs.pull 5).cells2 rfl rfl | exact (hs.pull 6).cells2 rfl rfl | exact (hs.pull 7).cells2 rfl rfl | exact (hs.pull 8).cells2 rfl rfl) ?_
  refine x_want' rfl ?_
  refine x_call Try.f24 Try.func24 rfl rfl _ rfl ?_
  refine (unask_yes p (hs.pull 1) hlen hp).mono ?_
  clear hs; rintro e w ⟨rfl, hs⟩
  replace hs := hs.push 1
  try dsimp only [back] at hs
  refine ⟨_, rfl, fun h => (by first | (cases h; done) | (first | exact hs.cells2 rfl rfl | exact (hs.pull 1).cells2 rfl rfl | exact (hs.pull 2).cells2 rfl rfl | exact (hs.pull 3).cells2 rfl rfl | exact (hs.pull 4).cells2 rfl rfl | exact (hs.pull 5).cells2 rfl rfl | exact (hs.pull 6).cells2 rfl rfl | exact (hs.pull 7).cells2 rfl rfl | exact (hs.pull 8).cells2 rfl rfl | exact hs.cell rfl | exact (hs.pull 1).cell rfl | exact (hs.pull 2).cell rfl | exact (hs.pull 3).cell rfl | exact (hs.pull 4).cell rfl | exact (hs.pull 5).cell rfl | exact (hs.pull 6).cell rfl | exact (hs.pull 7).cell rfl | exact (hs.pull 8).cell rfl | assumption | exact hs.cellsOf | exact (hs.pull 1).cellsOf | exact (hs.pull 2).cellsOf | exact (hs.pull 3).cellsOf | exact (hs.pull 4).cellsOf | exact (hs.pull 5).cellsOf | exact (hs.pull 6).cellsOf | exact (hs.pull 7).cellsOf | exact (hs.pull 8).cellsOf) | (and_intros <;> first | exact hs.cells2 rfl rfl | exact (hs.pull 1).cells2 rfl rfl | exact (hs.pull 2).cells2 rfl rfl | exact (hs.pull 3).cells2 rfl rfl | exact (hs.pull 4).cells2 rfl rfl | exact (hs.pull 5).cells2 rfl rfl | exact (hs.pull 6).cells2 rfl rfl | exact (hs.pull 7).cells2 rfl rfl | exact (hs.pull 8).cells2 rfl rfl | exact hs.cell rfl | exact (hs.pull 1).cell rfl | exact (hs.pull 2).cell rfl | exact (hs.pull 3).cell rfl | exact (hs.pull 4).cell rfl | exact (hs.pull 5).cell rfl | exact (hs.pull 6).cell rfl | exact (hs.pull 7).cell rfl | exact (hs.pull 8).cell rfl | assumption | exact hs.cellsOf | exact (hs.pull 1).cellsOf | exact (hs.pull 2).cellsOf | exact (hs.pull 3).cellsOf | exact (hs.pull 4).cellsOf | exact (hs.pull 5).cellsOf | exact (hs.pull 6).cellsOf | exact (hs.pull 7).cellsOf | exact (hs.pull 8).cellsOf)), ?_⟩
  refine x_want' rfl ?_
  refine x_not _ rfl ?_
  refine x_pickF (.bool _) rfl rfl ?_
  refine x_nil ?_
  refine then_n ?_
  refine c_false rfl ?_
  refine c_skip ?_
  refine then_n ?_
  refine c_seq ?_
  -- region 3 DRAWS
  obtain ⟨ao, c, M, hs⟩ := (hs.pull 1).fo
  refine c_draw (fun w => w.cell? ⟨f, 2, none⟩ = some (.map (some M)) ∧ (∀ (j : Nat) (u : Value), [Value.int .u16 (p.Id : Nat), Value.int .u32 (p.Inc : Nat)][j]? = some u → w.cell? ((⟨b4, 0, none⟩ : Addr).add j) = some u)) (fun i => !(Nat.beq i 6)) [(0, 2), (1, 2), (2, 2), (3, 1), (4, 1), (5, 2), (6, 0)] (by kernel_rfl) (by kernel_rfl) (by kernel_rfl) (by kernel_rfl) ((by first | (first | exact hs.cells2 rfl rfl | exact (hs.pull 1).cells2 rfl rfl | exact (hs.pull 2).cells2 rfl rfl | exact (hs.pull 3).cells2 rfl rfl | exact (hs.pull 4).cells2 rfl rfl | exact (hs.pull 5).cells2 rfl rfl | exact (hs.pull 6).cells2 rfl rfl | exact (hs.pull 7).cells2 rfl rfl | exact (hs.pull 8).cells2 rfl rfl | exact hs.cell rfl | exact (hs.pull 1).cell rfl | exact (hs.pull 2).cell rfl | exact (hs.pull 3).cell rfl | exact (hs.pull 4).cell rfl | exact (hs.pull 5).cell rfl | exact (hs.pull 6).cell rfl | exact (hs.pull 7).cell rfl | exact (hs.pull 8).cell rfl | assumption | exact hs.cellsOf | exact (hs.pull 1).cellsOf | exact (hs.pull 2).cellsOf | exact (hs.pull 3).cellsOf | exact (hs.pull 4).cellsOf | exact (hs.pull 5).cellsOf | exact (hs.pull 6).cellsOf | exact (hs.pull 7).cellsOf | exact (hs.pull 8).cellsOf) | (and_intros <;> first | exact hs.cells2 rfl rfl | exact (hs.pull 1).cells2 rfl rfl | exact (hs.pull 2).cells2 rfl rfl | exact (hs.pull 3).cells2 rfl rfl | exact (hs.pull 4).cells2 rfl rfl | exact (hs.pull 5).cells2 rfl rfl | exact (hs.pull 6).cells2 rfl rfl | exact (hs.pull 7).cells2 rfl rfl | exact (hs.pull 8).cells2 rfl rfl | exact hs.cell rfl | exact (hs.pull 1).cell rfl | exact (hs.pull 2).cell rfl | exact (hs.pull 3).cell rfl | exact (hs.pull 4).cell rfl | exact (hs.pull 5).cell rfl | exact (hs.pull 6).cell rfl | exact (hs.pull 7).cell rfl | exact (hs.pull 8).cell rfl | assumption | exact hs.cellsOf | exact (hs.pull 1).cellsOf | exact (hs.pull 2).cellsOf | exact (hs.pull 3).cellsOf | exact (hs.pull 4).cellsOf | exact (hs.pull 5).cellsOf | exact (hs.pull 6).cellsOf | exact (hs.pull 7).cellsOf | exact (hs.pull 8).cellsOf))) ?_
  replace hs := hs.drew
  refine x_move (.pointer _) rfl ?_
  refine x_nilCheck _ rfl ?_
  first | refine x_field0 fa_56_2 _ rfl ?_ | refine x_field fa_56_2 _ _ rfl ?_
  refine h_load one_29 _ (.map _) rfl (fun w hS => by first | exact hS.cell rfl | exact (hS.pull 1).cell rfl | exact (hS.pull 2).cell rfl | exact (hS.pull 3).cell rfl | exact (hS.pull 4).cell rfl | exact (hS.pull 5).cell rfl | exact (hS.pull 6).cell rfl | exact hS | exact hS.1 | exact hS.2 | exact hS.2.1 | exact hS.2.2 | exact hS.2.2.1 | exact hS.2.2.2 | exact hS.2.2.2.1 | exact hS.2.2.2.2) ?_
  refine h_loadN [_, _] agg_34 _ rfl (fun w hS => by first | exact hS | exact hS.1 | exact hS.2 | exact hS.2.1 | exact hS.2.2 | exact hS.2.2.1 | exact hS.2.2.2 | exact hS.2.2.2.1 | exact hS.2.2.2.2 | exact hS.cellsOf | exact (hS.pull 1).cellsOf | exact (hS.pull 2).cellsOf | exact (hS.pull 3).cellsOf | exact (hS.pull 4).cellsOf | exact (hS.pull 5).cellsOf | exact (hS.pull 6).cellsOf | exact hS.cells2 rfl rfl | exact (hS.pull 1).cells2 rfl rfl | exact (hS.pull 2).cells2 rfl rfl | exact (hS.pull 3).cells2 rfl rfl | exact (hS.pull 4).cells2 rfl rfl | exact (hS.pull 5).cells2 rfl rfl | exact (hS.pull 6).cells2 rfl rfl) ?_
  refine x_move (.int _ _) rfl ?_
  refine x_update mt_told ko_pid (hs.pull 2) p (.int .u64 (n : Nat)) rfl rfl rfl ?_
  clear hs; intro w hs; refine ⟨fun h => (by cases h), ?_⟩
  have hset : mset p (.int .u64 (n : Nat)) (fm s.told) = fm (mset p n s.told) := mset_map (fun n : Nat => Value.int .u64 (n : Nat)) p n s.told
  rw [show (s.un p).told = s.told from rfl, hset] at hs
  refine x_nil ?_
  refine then_n ?_
  refine c_seq ?_
  -- region 4
  refine c_region ?_
  refine x_assign (.bool _) rfl ?_
  refine x_nil ?_
  refine then_n ?_
  refine c_ret ?_
  refine ⟨.inr rfl, ?_⟩
  exact ⟨rfl, (Sat.fo' (s := { s.un p with told := mset p n s.told }) (hs.perm [1, 2, 0, 3])).pull 1 |>.tail⟩
theorem told_no {w0 w : World} {L : List HP} {f : Nat} {s : FSt} (p : Pid) (n : Nat) (hs : Sat w0 w (FO f s :: L)) (hlen : s.ask.length ≤ 1000000) (hp : p ∉ s.ask) :
    Calls Try.prog 10 #[.pointer (some ⟨f, 0, none⟩), .agg #[.int .u16 (p.Id : Nat), .int .u32 (p.Inc : Nat)], .int .u64 (n : Nat)] w fun e w' => e = .returned (.bool false) ∧ Sat w0 w' (FO f s :: L) := by
  refine enter Try.func10 rfl Try.ntmps10 6 rfl (Nat.le_of_ble_eq_true rfl) ?_
  refine c_seq ?_
  -- region 0
  refine c_region ?_
  refine x_box hs (.agg #[_, _]) rfl ?_; clear hs; intro b4 w hs; refine ⟨fun h => (by first | (cases h; done) | (first | exact hs.cells2 rfl rfl | exact (hs.pull 1).cells2 rfl rfl | exact (hs.pull 2).cells2 rfl rfl | exact (hs.pull 3).cells2 rfl rfl | exact (hs.pull 4).cells2 rfl rfl | exact (hs.pull 5).cells2 rfl rfl | exact (hs.pull 6).cells2 rfl rfl | exact (hs.pull 7).cells2 rfl rfl | exact (hs.pull 8).cells2 rfl rfl | exact hs.cell rfl | exact (hs.pull 1).cell rfl | exact (hs.pull 2).cell rfl | exact (hs.pull 3).cell rfl | exact (hs.pull 4).cell rfl | exact (hs.pull 5).cell rfl | exact (hs.pull 6).cell rfl | exact (hs.pull 7).cell rfl | exact (hs.pull 8).cell rfl | assumption | exact hs.cellsOf | exact (hs.pull 1).cellsOf | exact (hs.pull 2).cellsOf | exact (hs.pull 3).cellsOf | exact (hs.pull 4).cellsOf | exact (hs.pull 5).cellsOf | exact (hs.pull 6).cellsOf | exact (hs.pull 7).cellsOf | exact (hs.pull 8).cellsOf) | (and_intros <;> first | exact hs.cells2 rfl rfl | exact (hs.pull 1).cells2 rfl rfl | exact (hs.pull 2).cells2 rfl rfl | exact (hs.pull 3).cells2 rfl rfl | exact (hs.pull 4).cells2 rfl rfl | exact (hs.pull 5).cells2 rfl rfl | exact (hs.pull 6).cells2 rfl rfl | exact (hs.pull 7).cells2 rfl rfl | exact (hs.pull 8).cells2 rfl rfl | exact hs.cell rfl | exact (hs.pull 1).cell rfl | exact (hs.pull 2).cell rfl | exact (hs.pull 3).cell rfl | exact (hs.pull 4).cell rfl | exact (hs.pull 5).cell rfl | exact (hs.pull 6).cell rfl | exact (hs.pull 7).cell rfl | exact (hs.pull 8).cell rfl | assumption | exact hs.cellsOf | exact (hs.pull 1).cellsOf | exact (hs.pull 2).cellsOf | exact (hs.pull 3).cellsOf | exact (hs.pull 4).cellsOf | exact (hs.pull 5).cellsOf | exact (hs.pull 6).cellsOf | exact (hs.pull 7).cellsOf | exact (hs.pull 8).cellsOf)), ?_⟩
  refine x_assign (.bool _) rfl ?_
  refine x_nil ?_
  refine then_n ?_
  refine c_seq ?_
  refine c_seq ?_
  -- region 1
  refine c_region ?_
  refine x_move (.pointer _) rfl ?_
  refine x_eqlNil Try.underlying25 _ rfl rfl ?_
  refine x_move (.bool _) rfl ?_
  refine x_want' rfl ?_
  refine x_move (.pointer _) rfl ?_
  refine x_want' rfl ?_
  refine x_loadN [_, _] agg_34 _ rfl (by first | assumption | exact hs.cellsOf | exact (hs.pull 1).cellsOf | exact (hs.pull 2).cellsOf | exact (hs.pull 3).cellsOf | exact (hs.pull 4).cellsOf | exact (hs.pull 5).cellsOf | exact (hs.pull 6).cellsOf | exact (hs.pull 7).cellsOf | exact (hs.pull 8).cellsOf | exact hs.cells2 rfl rfl | exact (hs.pull 1).cells2 rfl rfl | exact (hs.pull 2).cells2 rfl rfl | exact (hs.pull 3).cells2 rfl rfl | exact (hs.pull 4).cells2 rfl rfl | exact (hs.pull 5).cells2 rfl rfl | exact (hs.pull 6).cells2 rfl rfl | exact (hs.pull 7).cells2 rfl rfl | exact (hs.pull 8).cells2 rfl rfl) ?_
  refine x_want' rfl ?_
  refine x_call Try.f24 Try.func24 rfl rfl _ rfl ?_
  refine (unask_no p (hs.pull 1) hlen hp).mono ?_
  clear hs; rintro e w ⟨rfl, hs⟩
  replace hs := hs.push 1
  try dsimp only [back] at hs
  refine ⟨_, rfl, fun h => (by first | (cases h; done) | (first | exact hs.cells2 rfl rfl | exact (hs.pull 1).cells2 rfl rfl | exact (hs.pull 2).cells2 rfl rfl | exact (hs.pull 3).cells2 rfl rfl | exact (hs.pull 4).cells2 rfl rfl | exact (hs.pull 5).cells2 rfl rfl | exact (hs.pull 6).cells2 rfl rfl | exact (hs.pull 7).cells2 rfl rfl | exact (hs.pull 8).cells2 rfl rfl | exact hs.cell rfl | exact (hs.pull 1).cell rfl | exact (hs.pull 2).cell rfl | exact (hs.pull 3).cell rfl | exact (hs.pull 4).cell rfl | exact (hs.pull 5).cell rfl | exact (hs.pull 6).cell rfl | exact (hs.pull 7).cell rfl | exact (hs.pull 8).cell rfl | assumption | exact hs.cellsOf | exact (hs.pull 1).cellsOf | exact (hs.pull 2).cellsOf | exact (hs.pull 3).cellsOf | exact (hs.pull 4).cellsOf | exact (hs.pull 5).cellsOf | exact (hs.pull 6).cellsOf | exact (hs.pull 7).cellsOf | exact (hs.pull 8).cellsOf) | (and_intros <;> first | exact hs.cells2 rfl rfl | exact (hs.pull 1).cells2 rfl rfl | exact (hs.pull 2).cells2 rfl rfl | exact (hs.pull 3).cells2 rfl rfl | exact (hs.pull 4).cells2 rfl rfl | exact (hs.pull 5).cells2 rfl rfl | exact (hs.pull 6).cells2 rfl rfl | exact (hs.pull 7).cells2 rfl rfl | exact (hs.pull 8).cells2 rfl rfl | exact hs.cell rfl | exact (hs.pull 1).cell rfl | exact (hs.pull 2).cell rfl | exact (hs.pull 3).cell rfl | exact (hs.pull 4).cell rfl | exact (hs.pull 5).cell rfl | exact (hs.pull 6).cell rfl | exact (hs.pull 7).cell rfl | exact (hs.pull 8).cell rfl | assumption | exact hs.cellsOf | exact (hs.pull 1).cellsOf | exact (hs.pull 2).cellsOf | exact (hs.pull 3).cellsOf | exact (hs.pull 4).cellsOf | exact (hs.pull 5).cellsOf | exact (hs.pull 6).cellsOf | exact (hs.pull 7).cellsOf | exact (hs.pull 8).cellsOf)), ?_⟩
  refine x_want' rfl ?_
  refine x_not _ rfl ?_
  refine x_pickF (.bool _) rfl rfl ?_
  refine x_nil ?_
  refine then_n ?_
  refine c_true rfl ?_
  refine c_seq ?_
  -- region 2
  refine c_region ?_
  refine x_assign (.bool _) rfl ?_
  refine x_nil ?_
  refine then_n ?_
  refine c_ret ?_
  refine then_r ?_
  refine ⟨.inr rfl, ?_⟩
  exact ⟨rfl, hs.tail⟩
end Go.Proofs.Ythhojdbklnoooaa.X
