/-
  LAYER 24: the law FlushPlays.
-/
import Derived.Test.YthhojdbklnoooaaFref4
import Derived.Test.YthhojdbklnoooaaBool
namespace Go.Proofs.Ythhojdbklnoooaa.X
open Go Go.RowKit
set_option linter.unusedVariables false
set_option maxRecDepth 20000
structure One24 where
  P : Pid
  N : Nat
def One24.cells (x : One24) : List Value := x.P.cells ++ [.int .u64 (x.N : Nat)]
structure One24.fine (x : One24) (w : World) : Prop where
  P : x.P.fine w
  N : x.N ≤ 18446744073709551615
theorem One24.cells_len (x : One24) : x.cells.length = 3 := by first | rfl | (simp [One24.cells, Pid.cells_len])
theorem One24.fine.below {x : One24} {w w' : World} (h : x.fine w) (hb : Below w.heap.size w w') : x.fine w' := ⟨h.P.below hb, h.N⟩
set_option maxRecDepth 20000 in
theorem TR.One24 {H : Type} {enc : TypeId × Value → H} {w : World} {cs : List Value} (h : TR enc Try.prog w 61 cs) : ∃ x : One24, cs = x.cells ∧ x.fine w := by
  obtain ⟨h1, h2⟩ := h.struct Try.underlying61
  rw [show Try.prog.cellsOf 61 = 3 from by kernel_rfl] at h1
  match cs, h1 with
  | [y0, y1, y2], _ =>
    have g0 := h2 0 _ rfl
    change TR enc Try.prog w 34 (([y0, y1, y2].drop 0).take (Try.prog.cellsOf 34)) at g0
    rw [show Try.prog.cellsOf 34 = 2 from by kernel_rfl] at g0
    change TR enc Try.prog w 34 [y0, y1] at g0
    obtain ⟨x0, e0, hx0⟩ := TR.Pid g0
    have g1 := h2 1 _ rfl
    change TR enc Try.prog w 27 (([y0, y1, y2].drop 2).take (Try.prog.cellsOf 27)) at g1
    rw [show Try.prog.cellsOf 27 = 1 from by kernel_rfl] at g1
    change TR enc Try.prog w 27 [y2] at g1
    obtain ⟨x1, e1, hx1⟩ := TR.nat1 Try.underlying27 rfl g1
    refine ⟨⟨x0, x1⟩, ?_, ⟨hx0, hx1⟩⟩
    show [y0, y1, y2] = _
    rw [show [y0, y1, y2] = [y0, y1] ++ [y2] from rfl, e0, e1]
    rfl
structure Act24 where
  Kind : Int
  P : Pid
  N : Nat
  L : Value × List (Pid)
def Act24.cells (x : Act24) : List Value := [.int .i64 x.Kind] ++ x.P.cells ++ [.int .u64 (x.N : Nat)] ++ [x.L.1]
structure Act24.fine (x : Act24) (w : World) : Prop where
  Kind : -9223372036854775808 ≤ x.Kind ∧ x.Kind ≤ 9223372036854775807
  P : x.P.fine w
  N : x.N ≤ 18446744073709551615
  L : RS w 2 (fun a : Pid => a.cells) x.L.1 x.L.2 ∧ x.L.2.length ≤ maxLen ∧ ∀ a ∈ x.L.2, a.fine w
theorem Act24.cells_len (x : Act24) : x.cells.length = 5 := by first | rfl | (simp [Act24.cells, Pid.cells_len])
theorem Act24.fine.below {x : Act24} {w w' : World} (h : x.fine w) (hb : Below w.heap.size w w') : x.fine w' := ⟨h.Kind, h.P.below hb, h.N, ⟨RD.below h.L.1 hb, h.L.2.1, fun a ha => (h.L.2.2 a ha).below hb⟩⟩
set_option maxRecDepth 20000 in
theorem TR.Act24 {H : Type} {enc : TypeId × Value → H} {w : World} {cs : List Value} (h : TR enc Try.prog w 45 cs) : ∃ x : Act24, cs = x.cells ∧ x.fine w := by
  obtain ⟨h1, h2⟩ := h.struct Try.underlying45
  rw [show Try.prog.cellsOf 45 = 5 from by kernel_rfl] at h1
  match cs, h1 with
  | [y0, y1, y2, y3, y4], _ =>
    have g0 := h2 0 _ rfl
    change TR enc Try.prog w 3 (([y0, y1, y2, y3, y4].drop 0).take (Try.prog.cellsOf 3)) at g0
    rw [show Try.prog.cellsOf 3 = 1 from by kernel_rfl] at g0
    change TR enc Try.prog w 3 [y0] at g0
    obtain ⟨x0, e0, hx0⟩ := TR.int1 Try.underlying3 rfl g0
    have g1 := h2 1 _ rfl
    change TR enc Try.prog w 34 (([y0, y1, y2, y3, y4].drop 1).take (Try.prog.cellsOf 34)) at g1
    rw [show Try.prog.cellsOf 34 = 2 from by kernel_rfl] at g1
    change TR enc Try.prog w 34 [y1, y2] at g1
    obtain ⟨x1, e1, hx1⟩ := TR.Pid g1
    have g2 := h2 2 _ rfl
    change TR enc Try.prog w 27 (([y0, y1, y2, y3, y4].drop 3).take (Try.prog.cellsOf 27)) at g2
    rw [show Try.prog.cellsOf 27 = 1 from by kernel_rfl] at g2
    change TR enc Try.prog w 27 [y3] at g2
    obtain ⟨x2, e2, hx2⟩ := TR.nat1 Try.underlying27 rfl g2
    have g3 := h2 3 _ rfl
    change TR enc Try.prog w 22 (([y0, y1, y2, y3, y4].drop 4).take (Try.prog.cellsOf 22)) at g3
    rw [show Try.prog.cellsOf 22 = 1 from by kernel_rfl] at g3
    change TR enc Try.prog w 22 [y4] at g3
    obtain ⟨x3, e3, hx3⟩ := TR.slice1 (k := 2) Try.underlying22 (by kernel_rfl) (by decide) (fun r hr => TR.Pid hr) g3
    refine ⟨⟨x0, x1, x2, x3⟩, ?_, ⟨hx0, hx1, hx2, hx3⟩⟩
    show [y0, y1, y2, y3, y4] = _
    rw [show [y0, y1, y2, y3, y4] = [y0] ++ [y1, y2] ++ [y3] ++ [y4] from rfl, e0, e1, e2, e3]
    rfl
theorem skip_same {w0 w : World} {A : HP} {L : List HP} {f : Nat} {s : FSt} {v : Value} {l : List Pid} (hi : FInv s) (hs : Sat w0 w (FO f s :: A :: L)) (hr : ∀ w' L', Sat w0 w' (A :: L') → RS w' 2 Pid.cells v l) (hlen : l.length ≤ 1000000) :
    Calls Try.prog 12 #[.pointer (some ⟨f, 0, none⟩), v] w fun e w' => e = .returned (.int .i64 ((s.rskip l).1 : Nat)) ∧ Sat w0 w' (FO f (s.rskip l).2 :: A :: L) := by
  rw [← (hi.skip l).1]
  exact skip_calls hs hr hlen (by have := hi.len; omega)
theorem rskip_vw (s : FSt) (l : List Pid) : (s.rskip l).2.vw = s.vw := by
  have key : ∀ (l : List Pid) (x : Nat × FSt), (l.foldl (fun (x : Nat × FSt) p => (x.1 + (if x.2.rhit p then 1 else 0), x.2.rsk p)) x).2.vw = x.2.vw := by
    intro l
    induction l with
    | nil => intro x; rfl
    | cons p l ih => intro x; simp only [List.foldl_cons]; rw [ih]; rfl
  exact key l (0, s)
theorem fready_calls {w0 w : World} {L : List HP} {f M2 : Nat} {s : FSt} {last : List (Pid × Nat)} (hs : Sat w0 w (FO f s :: MapR penc M2 (fm (tbl last)) :: L)) :
    Calls Try.prog 9 #[.pointer (some ⟨f, 0, none⟩), .map (some M2)] w fun e w' => e = .returned (.bool (decide (rdyR s.told last ∧ s.ask = []))) ∧ Sat w0 w' (FO f s :: MapR penc M2 (fm (tbl last)) :: L) := by
  by_cases h0 : s.ask = []
  · rw [show decide (rdyR s.told last ∧ s.ask = []) = decide (rdy s.told (tbl last)) from decide_eq_decide.2 (by rw [rdy_tbl]; simp [h0])]
    exact ready_calls hs h0
  · rw [decide_eq_false (fun h => h0 h.2)]
    exact ready_asks hs h0
theorem eqp_true {w0 w : World} {L : List HP} {v1 v2 : Value} {l : List Pid} (hs : Sat w0 w L) (h1 : RS w 2 Pid.cells v1 l) (h2 : RS w 2 Pid.cells v2 l) (hlen1 : l.length ≤ 1000000) :
    Calls Try.prog 17 #[v1, v2] w fun e w' => e = .returned (.bool true) ∧ Sat w0 w' L :=
  (eqp_calls hs h1 h2 hlen1).mono fun e w' h => ⟨by rw [h.1, decide_eq_true rfl], h.2.1⟩
set_option maxHeartbeats 1000000 in
theorem fp_main {H : Type} {enc : TypeId × Value → H} {w0 : World} {x0 : Int} {a1 a2 a3 : Option Addr} {l1 c1 l2 c2 l3 c3 : Nat} (h0 : TR enc Try.prog w0 27 [.int .u64 x0]) (h1 : TR enc Try.prog w0 22 [.slice a1 l1 c1]) (h2 : TR enc Try.prog w0 39 [.slice a2 l2 c2]) (h3 : TR enc Try.prog w0 40 [.slice a3 l3 c3]) (hw1 : ¬ 40 < l1) (hw3 : ¬ 40 < l3) :
    Calls Try.prog 4 #[.int .u64 x0, .slice a1 l1 c1, .slice a2 l2 c2, .slice a3 l3 c3] w0 fun e w' => e = .returned (.bool true) ∧ Below w0.heap.size w0 w' := by
  obtain ⟨vw, hvw, _⟩ := TR.nat Try.underlying27 rfl h0
  obtain rfl : x0 = (vw : Int) := by simpa using hvw
  obtain ⟨who, rfl, hrd, hlen, hfa⟩ := TR.arg (k := 2) Try.underlying22 (by kernel_rfl) (by decide) (fun r hr => TR.Pid hr) h1
  obtain ⟨acts, rfl, hrda, hlena, hfaa⟩ := TR.arg (k := 5) Try.underlying39 (by kernel_rfl) (by decide) (fun r hr => TR.Act24 hr) h2
  obtain ⟨lst, rfl, hrdl, hlenl, hfal⟩ := TR.arg (k := 3) Try.underlying40 (by kernel_rfl) (by decide) (fun r hr => TR.One24 hr) h3
  refine law_of fun w hs => ?_
  have hin : ∀ w' L', Sat w0 w' (Init w0 :: L') → RS w' 2 Pid.cells (.slice a1 who.length c1) who := fun w' L' h => hrd.below h.init
  have hina : ∀ w' L', Sat w0 w' (Init w0 :: L') → RS w' 5 Act24.cells (.slice a2 acts.length c2) acts := fun w' L' h => hrda.below h.init
  obtain ⟨last, hll, hinl⟩ : ∃ last : List (Pid × Nat), last.length = lst.length ∧ ∀ w' L', Sat w0 w' (Init w0 :: L') → RS w' 3 ocell (.slice a3 lst.length c3) last := by
    refine ⟨lst.map fun x => (x.P, x.N), by simp, fun w' L' h => ?_⟩
    have := hrdl.below h.init
    unfold RS at this ⊢
    rw [List.map_map, List.length_map]
    exact this
  rw [← hll] at hinl ⊢
  rw [← hll] at hw3
  clear h0 h1 h2 h3 hvw hrdl hfal hlenl hll hrd hrda hfa
  refine enter Try.func4 rfl Try.ntmps4 8 rfl (Nat.le_of_ble_eq_true rfl) ?_
  refine c_seq ?_
  -- region 0
  refine c_region ?_
  refine x_assign (.bool _) rfl ?_
  refine x_nil ?_
  refine then_n ?_
  refine c_seq ?_
  refine c_seq ?_
  -- region 1
  refine c_region ?_
  refine x_move (.slice _ _ _) rfl ?_
  refine x_lenSl Try.underlying22 _ _ _ rfl ?_
  refine x_gtrF _ _ rfl rfl (by omega) ?_
  refine x_move (.bool _) rfl ?_
  refine x_want' rfl ?_
  refine x_move (.slice _ _ _) rfl ?_
  refine x_want' rfl ?_
  refine x_lenSl Try.underlying40 _ _ _ rfl ?_
  refine x_want' rfl ?_
  refine x_gtrF _ _ rfl rfl (by omega) ?_
  refine x_pickF (.bool _) rfl rfl ?_
  refine x_nil ?_
  refine then_n ?_
  refine c_false rfl ?_
  refine c_skip ?_
  refine then_n ?_
  refine c_seq ?_
  -- region 3
  refine c_region ?_
  refine x_move (.int _ _) rfl ?_
  refine x_move (.slice _ _ _) rfl ?_
  refine x_call Try.f7 Try.func7 rfl rfl _ rfl ?_
  refine ((fnew_calls vw hs hin (by omega))).mono ?_
  clear hs; rintro e w ⟨f, rfl, hs⟩
  refine ⟨_, rfl, fun h => (by first | (cases h; done) | (first | exact hs.cells2 rfl rfl | exact (hs.pull 1).cells2 rfl rfl | exact (hs.pull 2).cells2 rfl rfl | exact (hs.pull 3).cells2 rfl rfl | exact (hs.pull 4).cells2 rfl rfl | exact (hs.pull 5).cells2 rfl rfl | exact (hs.pull 6).cells2 rfl rfl | exact (hs.pull 7).cells2 rfl rfl | exact (hs.pull 8).cells2 rfl rfl | exact hs.cell rfl | exact (hs.pull 1).cell rfl | exact (hs.pull 2).cell rfl | exact (hs.pull 3).cell rfl | exact (hs.pull 4).cell rfl | exact (hs.pull 5).cell rfl | exact (hs.pull 6).cell rfl | exact (hs.pull 7).cell rfl | exact (hs.pull 8).cell rfl | assumption | exact hs.cellsOf | exact (hs.pull 1).cellsOf | exact (hs.pull 2).cellsOf | exact (hs.pull 3).cellsOf | exact (hs.pull 4).cellsOf | exact (hs.pull 5).cellsOf | exact (hs.pull 6).cellsOf | exact (hs.pull 7).cellsOf | exact (hs.pull 8).cellsOf) | (and_intros <;> first | exact hs.cells2 rfl rfl | exact (hs.pull 1).cells2 rfl rfl | exact (hs.pull 2).cells2 rfl rfl | exact (hs.pull 3).cells2 rfl rfl | exact (hs.pull 4).cells2 rfl rfl | exact (hs.pull 5).cells2 rfl rfl | exact (hs.pull 6).cells2 rfl rfl | exact (hs.pull 7).cells2 rfl rfl | exact (hs.pull 8).cells2 rfl rfl | exact hs.cell rfl | exact (hs.pull 1).cell rfl | exact (hs.pull 2).cell rfl | exact (hs.pull 3).cell rfl | exact (hs.pull 4).cell rfl | exact (hs.pull 5).cell rfl | exact (hs.pull 6).cell rfl | exact (hs.pull 7).cell rfl | exact (hs.pull 8).cell rfl | assumption | exact hs.cellsOf | exact (hs.pull 1).cellsOf | exact (hs.pull 2).cellsOf | exact (hs.pull 3).cellsOf | exact (hs.pull 4).cellsOf | exact (hs.pull 5).cellsOf | exact (hs.pull 6).cellsOf | exact (hs.pull 7).cellsOf | exact (hs.pull 8).cellsOf)), ?_⟩
  refine x_move (.slice _ _ _) rfl ?_
  refine x_call Try.f8 Try.func8 rfl rfl _ rfl ?_
  refine ((once_calls (hs.pull 1) hin (by omega))).mono ?_
  clear hs; rintro e w ⟨v10, rfl, hs⟩
  refine ⟨_, rfl, fun h => (by first | (cases h; done) | (first | exact hs.cells2 rfl rfl | exact (hs.pull 1).cells2 rfl rfl | exact (hs.pull 2).cells2 rfl rfl | exact (hs.pull 3).cells2 rfl rfl | exact (hs.pull 4).cells2 rfl rfl | exact (hs.pull 5).cells2 rfl rfl | exact (hs.pull 6).cells2 rfl rfl | exact (hs.pull 7).cells2 rfl rfl | exact (hs.pull 8).cells2 rfl rfl | exact hs.cell rfl | exact (hs.pull 1).cell rfl | exact (hs.pull 2).cell rfl | exact (hs.pull 3).cell rfl | exact (hs.pull 4).cell rfl | exact (hs.pull 5).cell rfl | exact (hs.pull 6).cell rfl | exact (hs.pull 7).cell rfl | exact (hs.pull 8).cell rfl | assumption | exact hs.cellsOf | exact (hs.pull 1).cellsOf | exact (hs.pull 2).cellsOf | exact (hs.pull 3).cellsOf | exact (hs.pull 4).cellsOf | exact (hs.pull 5).cellsOf | exact (hs.pull 6).cellsOf | exact (hs.pull 7).cellsOf | exact (hs.pull 8).cellsOf) | (and_intros <;> first | exact hs.cells2 rfl rfl | exact (hs.pull 1).cells2 rfl rfl | exact (hs.pull 2).cells2 rfl rfl | exact (hs.pull 3).cells2 rfl rfl | exact (hs.pull 4).cells2 rfl rfl | exact (hs.pull 5).cells2 rfl rfl | exact (hs.pull 6).cells2 rfl rfl | exact (hs.pull 7).cells2 rfl rfl | exact (hs.pull 8).cells2 rfl rfl | exact hs.cell rfl | exact (hs.pull 1).cell rfl | exact (hs.pull 2).cell rfl | exact (hs.pull 3).cell rfl | exact (hs.pull 4).cell rfl | exact (hs.pull 5).cell rfl | exact (hs.pull 6).cell rfl | exact (hs.pull 7).cell rfl | exact (hs.pull 8).cell rfl | assumption | exact hs.cellsOf | exact (hs.pull 1).cellsOf | exact (hs.pull 2).cellsOf | exact (hs.pull 3).cellsOf | exact (hs.pull 4).cellsOf | exact (hs.pull 5).cellsOf | exact (hs.pull 6).cellsOf | exact (hs.pull 7).cellsOf | exact (hs.pull 8).cellsOf)), ?_⟩
  obtain ⟨a10, c10, rfl⟩ := hs.rd.val
  have hst := FInv.start vw (l := who) (by omega)
  refine x_build _ [(0, (.slice _ _ _))] rfl (fun w => bd_43_0 _ _ _ w) ?_
  refine x_box hs (.agg #[_, _]) rfl ?_; clear hs; intro b33 w hs; refine ⟨fun h => (by first | (cases h; done) | (first | exact hs.cells2 rfl rfl | exact (hs.pull 1).cells2 rfl rfl | exact (hs.pull 2).cells2 rfl rfl | exact (hs.pull 3).cells2 rfl rfl | exact (hs.pull 4).cells2 rfl rfl | exact (hs.pull 5).cells2 rfl rfl | exact (hs.pull 6).cells2 rfl rfl | exact (hs.pull 7).cells2 rfl rfl | exact (hs.pull 8).cells2 rfl rfl | exact hs.cell rfl | exact (hs.pull 1).cell rfl | exact (hs.pull 2).cell rfl | exact (hs.pull 3).cell rfl | exact (hs.pull 4).cell rfl | exact (hs.pull 5).cell rfl | exact (hs.pull 6).cell rfl | exact (hs.pull 7).cell rfl | exact (hs.pull 8).cell rfl | assumption | exact hs.cellsOf | exact (hs.pull 1).cellsOf | exact (hs.pull 2).cellsOf | exact (hs.pull 3).cellsOf | exact (hs.pull 4).cellsOf | exact (hs.pull 5).cellsOf | exact (hs.pull 6).cellsOf | exact (hs.pull 7).cellsOf | exact (hs.pull 8).cellsOf) | (and_intros <;> first | exact hs.cells2 rfl rfl | exact (hs.pull 1).cells2 rfl rfl | exact (hs.pull 2).cells2 rfl rfl | exact (hs.pull 3).cells2 rfl rfl | exact (hs.pull 4).cells2 rfl rfl | exact (hs.pull 5).cells2 rfl rfl | exact (hs.pull 6).cells2 rfl rfl | exact (hs.pull 7).cells2 rfl rfl | exact (hs.pull 8).cells2 rfl rfl | exact hs.cell rfl | exact (hs.pull 1).cell rfl | exact (hs.pull 2).cell rfl | exact (hs.pull 3).cell rfl | exact (hs.pull 4).cell rfl | exact (hs.pull 5).cell rfl | exact (hs.pull 6).cell rfl | exact (hs.pull 7).cell rfl | exact (hs.pull 8).cell rfl | assumption | exact hs.cellsOf | exact (hs.pull 1).cellsOf | exact (hs.pull 2).cellsOf | exact (hs.pull 3).cellsOf | exact (hs.pull 4).cellsOf | exact (hs.pull 5).cellsOf | exact (hs.pull 6).cellsOf | exact (hs.pull 7).cellsOf | exact (hs.pull 8).cellsOf)), ?_⟩
  refine x_assign (.pointer _) rfl ?_
  refine x_assign (.pointer _) rfl ?_
  refine x_nil ?_
  refine then_n ?_
  refine c_seqI (γ := Unit) (fun (_u : Unit) => [(9, .pointer (some ⟨f, 0, none⟩))]) (fun (_u : Unit) w => Sat w0 w [Init w0]) ?_ ?_
  · skip
    refine c_seq ?_
    -- region 4
    refine c_region ?_
    refine x_assign (.int _ _) rfl ?_
    refine x_nil ?_
    refine then_n ?_
    refine c_block ?_
    refine c_loop (γ := Nat × FSt) (fun (⟨i, s⟩ : Nat × FSt) => [(0, .int .u64 (vw : Nat)), (2, .slice a2 acts.length c2), (3, .slice a3 last.length c3), (9, .pointer (some ⟨f, 0, none⟩)), (10, .pointer (some ⟨b33, 0, none⟩)), (11, .int .i64 (i : Nat))]) (fun (⟨i, s⟩ : Nat × FSt) w => i ≤ 60 ∧ FInv s ∧ s.vw = vw ∧ Sat w0 w (FO f s :: FR b33 s :: [Init w0])) (fun (⟨i, s⟩ : Nat × FSt) => 60 - i) (0, ⟨vw, once who, []⟩) ⟨rfl, rfl, rfl, rfl, rfl, rfl, trivial⟩ ⟨Nat.zero_le _, hst, rfl, (Sat.fr' (s := ⟨vw, once who, []⟩) (((Sat.rowNil (e := 61) (size := 3) hs).perm [1, 2, 0]))).perm [2, 0, 1]⟩ ?_
    clear hs
    rintro ⟨i, s⟩ ρ w ⟨hi, hinv, hvw, hs⟩
    change CW Try.prog 132 _ _ (sets 132 [(0, .int .u64 (vw : Nat)), (2, .slice a2 acts.length c2), (3, .slice a3 last.length c3), (9, .pointer (some ⟨f, 0, none⟩)), (10, .pointer (some ⟨b33, 0, none⟩)), (11, .int .i64 (i : Nat))] ρ) w
    by_cases h1 : i < acts.length
    by_cases h2 : i < 60
    · skip
      refine c_seq ?_
      refine c_seq ?_
      -- region 5
      refine c_region ?_
      refine x_move (.int _ _) rfl ?_
      refine x_move (.slice _ _ _) rfl ?_
      refine x_lenSl Try.underlying39 _ _ _ rfl ?_
      refine x_lssT _ _ rfl rfl (by omega) ?_
      refine x_move (.bool _) rfl ?_
      refine x_want' rfl ?_
      refine x_move (.int _ _) rfl ?_
      refine x_want' rfl ?_
      refine x_lssT _ _ rfl rfl (by omega) ?_
      refine x_pickT (.bool _) rfl rfl ?_
      refine x_nil ?_
      refine then_n ?_
      refine c_true rfl ?_
      refine c_skip ?_
      refine then_n ?_
      refine c_seq ?_
      refine c_block ?_
      refine c_seq ?_
      -- region 7
      obtain ⟨x, hx⟩ : ∃ x, acts[i]? = some x := ⟨acts[i]'h1, List.getElem?_eq_getElem _⟩
      have hR := hina _ _ (hs.pull 2)
      have hfx := hfaa x (List.mem_of_getElem? hx)
      obtain ⟨g, og, rfl⟩ := hR.addr (by omega)
      obtain ⟨Kind, P, N, ⟨vL, l⟩⟩ := x
      obtain ⟨aL, cL, rfl⟩ : ∃ a c, vL = .slice a l.length c := hfx.L.1.val
      have hrL : ∀ w' L', Sat w0 w' (Init w0 :: L') → RS w' 2 Pid.cells (.slice aL l.length cL) l := fun w' L' h => hfx.L.1.below h.init
      have hlL : l.length ≤ maxLen := hfx.L.2.1
      unfold maxLen at hlL
      have hcells := hR.all (fun a => a.cells_len) hx
      have hil := hinv.len
      refine c_region ?_
      refine x_move (.slice _ _ _) rfl ?_
      refine x_move (.int _ _) rfl ?_
      refine x_indexAddr Try.underlying39 sz_45 _ _ _ _ _ rfl rfl (by omega) ?_
      refine x_loadN [.int .i64 Kind, .int .u16 (P.Id : Nat), .int .u32 (P.Inc : Nat), .int .u64 (N : Nat), .slice aL l.length cL] agg_45 _ rfl hcells ?_
      refine x_alloc zi_45 hs ?_; clear hs; intro b12 w hs; refine ⟨fun h => (by first | (cases h; done) | (first | exact hs.cells2 rfl rfl | exact (hs.pull 1).cells2 rfl rfl | exact (hs.pull 2).cells2 rfl rfl | exact (hs.pull 3).cells2 rfl rfl | exact (hs.pull 4).cells2 rfl rfl | exact (hs.pull 5).cells2 rfl rfl | exact (hs.pull 6).cells2 rfl rfl | exact (hs.pull 7).cells2 rfl rfl | exact (hs.pull 8).cells2 rfl rfl | exact hs.cell rfl | exact (hs.pull 1).cell rfl | exact (hs.pull 2).cell rfl | exact (hs.pull 3).cell rfl | exact (hs.pull 4).cell rfl | exact (hs.pull 5).cell rfl | exact (hs.pull 6).cell rfl | exact (hs.pull 7).cell rfl | exact (hs.pull 8).cell rfl | assumption | exact hs.cellsOf | exact (hs.pull 1).cellsOf | exact (hs.pull 2).cellsOf | exact (hs.pull 3).cellsOf | exact (hs.pull 4).cellsOf | exact (hs.pull 5).cellsOf | exact (hs.pull 6).cellsOf | exact (hs.pull 7).cellsOf | exact (hs.pull 8).cellsOf) | (and_intros <;> first | exact hs.cells2 rfl rfl | exact (hs.pull 1).cells2 rfl rfl | exact (hs.pull 2).cells2 rfl rfl | exact (hs.pull 3).cells2 rfl rfl | exact (hs.pull 4).cells2 rfl rfl | exact (hs.pull 5).cells2 rfl rfl | exact (hs.pull 6).cells2 rfl rfl | exact (hs.pull 7).cells2 rfl rfl | exact (hs.pull 8).cells2 rfl rfl | exact hs.cell rfl | exact (hs.pull 1).cell rfl | exact (hs.pull 2).cell rfl | exact (hs.pull 3).cell rfl | exact (hs.pull 4).cell rfl | exact (hs.pull 5).cell rfl | exact (hs.pull 6).cell rfl | exact (hs.pull 7).cell rfl | exact (hs.pull 8).cell rfl | assumption | exact hs.cellsOf | exact (hs.pull 1).cellsOf | exact (hs.pull 2).cellsOf | exact (hs.pull 3).cellsOf | exact (hs.pull 4).cellsOf | exact (hs.pull 5).cellsOf | exact (hs.pull 6).cellsOf | exact (hs.pull 7).cellsOf | exact (hs.pull 8).cellsOf)), ?_⟩
      first
        | refine x_storeAllI hs 0 rfl rfl agg_45 [_, _, _, _, _] rfl rfl rfl rfl ?_
        | refine x_storeAllI hs 1 rfl rfl agg_45 [_, _, _, _, _] rfl rfl rfl rfl ?_
        | refine x_storeAllI hs 2 rfl rfl agg_45 [_, _, _, _, _] rfl rfl rfl rfl ?_
        | refine x_storeAllI hs 3 rfl rfl agg_45 [_, _, _, _, _] rfl rfl rfl rfl ?_
        | refine x_storeAllI hs 4 rfl rfl agg_45 [_, _, _, _, _] rfl rfl rfl rfl ?_
        | refine x_storeAllI hs 5 rfl rfl agg_45 [_, _, _, _, _] rfl rfl rfl rfl ?_
        | refine x_storeAllI hs 6 rfl rfl agg_45 [_, _, _, _, _] rfl rfl rfl rfl ?_
        | refine x_storeAllI hs 7 rfl rfl agg_45 [_, _, _, _, _] rfl rfl rfl rfl ?_
      clear hs; intro w hs
      try dsimp only [back, List.set_cons_zero, List.set_cons_succ] at hs
      refine ⟨fun h => (by first | (cases h; done) | (first | exact hs.cells2 rfl rfl | exact (hs.pull 1).cells2 rfl rfl | exact (hs.pull 2).cells2 rfl rfl | exact (hs.pull 3).cells2 rfl rfl | exact (hs.pull 4).cells2 rfl rfl | exact (hs.pull 5).cells2 rfl rfl | exact (hs.pull 6).cells2 rfl rfl | exact (hs.pull 7).cells2 rfl rfl | exact (hs.pull 8).cells2 rfl rfl | exact hs.cell rfl | exact (hs.pull 1).cell rfl | exact (hs.pull 2).cell rfl | exact (hs.pull 3).cell rfl | exact (hs.pull 4).cell rfl | exact (hs.pull 5).cell rfl | exact (hs.pull 6).cell rfl | exact (hs.pull 7).cell rfl | exact (hs.pull 8).cell rfl | assumption | exact hs.cellsOf | exact (hs.pull 1).cellsOf | exact (hs.pull 2).cellsOf | exact (hs.pull 3).cellsOf | exact (hs.pull 4).cellsOf | exact (hs.pull 5).cellsOf | exact (hs.pull 6).cellsOf | exact (hs.pull 7).cellsOf | exact (hs.pull 8).cellsOf) | (and_intros <;> first | exact hs.cells2 rfl rfl | exact (hs.pull 1).cells2 rfl rfl | exact (hs.pull 2).cells2 rfl rfl | exact (hs.pull 3).cells2 rfl rfl | exact (hs.pull 4).cells2 rfl rfl | exact (hs.pull 5).cells2 rfl rfl | exact (hs.pull 6).cells2 rfl rfl | exact (hs.pull 7).cells2 rfl rfl | exact (hs.pull 8).cells2 rfl rfl | exact hs.cell rfl | exact (hs.pull 1).cell rfl | exact (hs.pull 2).cell rfl | exact (hs.pull 3).cell rfl | exact (hs.pull 4).cell rfl | exact (hs.pull 5).cell rfl | exact (hs.pull 6).cell rfl | exact (hs.pull 7).cell rfl | exact (hs.pull 8).cell rfl | assumption | exact hs.cellsOf | exact (hs.pull 1).cellsOf | exact (hs.pull 2).cellsOf | exact (hs.pull 3).cellsOf | exact (hs.pull 4).cellsOf | exact (hs.pull 5).cellsOf | exact (hs.pull 6).cellsOf | exact (hs.pull 7).cellsOf | exact (hs.pull 8).cellsOf)), ?_⟩
      refine x_nil ?_
      refine then_n ?_
      refine c_seq ?_
      refine c_seq ?_
      -- region 8
      refine c_region ?_
      first | refine x_field0 fa_45_3 _ rfl ?_ | refine x_field fa_45_3 _ _ rfl ?_
      refine x_load one_22 _ (.slice _ _ _) rfl (by first | exact hs.cell rfl | exact (hs.pull 1).cell rfl | exact (hs.pull 2).cell rfl | exact (hs.pull 3).cell rfl | assumption | exact (hs.pull 4).cell rfl | exact (hs.pull 5).cell rfl | exact (hs.pull 6).cell rfl | exact (hs.pull 7).cell rfl) ?_
      refine x_lenSl Try.underlying22 _ _ _ rfl ?_
      refine x_gtr _ _ rfl rfl ?_
      refine x_nil ?_
      refine then_n ?_
      refine c_test _ rfl (fun hb => ?_) (fun hb => ?_)   -- cond t51
      · skip
        refine c_seq ?_
        -- region 9
        refine c_region ?_
        refine x_call Try.f6 Try.func6 rfl rfl _ rfl ?_
        refine (awake24_calls hs).mono ?_
        clear hs; rintro e w ⟨rfl, hs⟩
        refine ⟨_, rfl, fun h => (by first | (cases h; done) | (first | exact hs.cells2 rfl rfl | exact (hs.pull 1).cells2 rfl rfl | exact (hs.pull 2).cells2 rfl rfl | exact (hs.pull 3).cells2 rfl rfl | exact (hs.pull 4).cells2 rfl rfl | exact (hs.pull 5).cells2 rfl rfl | exact (hs.pull 6).cells2 rfl rfl | exact (hs.pull 7).cells2 rfl rfl | exact (hs.pull 8).cells2 rfl rfl | exact hs.cell rfl | exact (hs.pull 1).cell rfl | exact (hs.pull 2).cell rfl | exact (hs.pull 3).cell rfl | exact (hs.pull 4).cell rfl | exact (hs.pull 5).cell rfl | exact (hs.pull 6).cell rfl | exact (hs.pull 7).cell rfl | exact (hs.pull 8).cell rfl | assumption | exact hs.cellsOf | exact (hs.pull 1).cellsOf | exact (hs.pull 2).cellsOf | exact (hs.pull 3).cellsOf | exact (hs.pull 4).cellsOf | exact (hs.pull 5).cellsOf | exact (hs.pull 6).cellsOf | exact (hs.pull 7).cellsOf | exact (hs.pull 8).cellsOf) | (and_intros <;> first | exact hs.cells2 rfl rfl | exact (hs.pull 1).cells2 rfl rfl | exact (hs.pull 2).cells2 rfl rfl | exact (hs.pull 3).cells2 rfl rfl | exact (hs.pull 4).cells2 rfl rfl | exact (hs.pull 5).cells2 rfl rfl | exact (hs.pull 6).cells2 rfl rfl | exact (hs.pull 7).cells2 rfl rfl | exact (hs.pull 8).cells2 rfl rfl | exact hs.cell rfl | exact (hs.pull 1).cell rfl | exact (hs.pull 2).cell rfl | exact (hs.pull 3).cell rfl | exact (hs.pull 4).cell rfl | exact (hs.pull 5).cell rfl | exact (hs.pull 6).cell rfl | exact (hs.pull 7).cell rfl | exact (hs.pull 8).cell rfl | assumption | exact hs.cellsOf | exact (hs.pull 1).cellsOf | exact (hs.pull 2).cellsOf | exact (hs.pull 3).cellsOf | exact (hs.pull 4).cellsOf | exact (hs.pull 5).cellsOf | exact (hs.pull 6).cellsOf | exact (hs.pull 7).cellsOf | exact (hs.pull 8).cellsOf)), ?_⟩
        refine x_assign (.bool _) rfl ?_
        refine x_nil ?_
        refine then_n ?_
        refine c_ret ?_
        refine then_r ?_
        refine inb_r ?_
        refine then_r ?_
        refine then_r ?_
        refine inb_r ?_
        refine then_r ?_
        refine ⟨.inr rfl, ?_⟩
        exact ⟨rfl, hs.tail.tail.tail⟩
      · skip
        refine c_skip ?_
        refine then_n ?_
        refine c_seq ?_
        -- region 10
        refine c_region ?_
        refine x_assign (.bool _) rfl ?_
        refine x_nil ?_
        refine then_n ?_
        refine c_seqI (γ := FSt) (fun (s' : FSt) => [(0, .int .u64 (vw : Nat)), (2, .slice (some ⟨g, og, none⟩) acts.length c2), (3, .slice a3 last.length c3), (9, .pointer (some ⟨f, 0, none⟩)), (10, .pointer (some ⟨b33, 0, none⟩)), (11, .int .i64 (i : Nat)), (12, .pointer (some ⟨b12, 0, none⟩)), (13, .bool true)]) (fun (s' : FSt) w => FInv s' ∧ s'.vw = vw ∧ Sat w0 w (Blk b12 (.cells #[.int .i64 Kind, .int .u16 (P.Id : Nat), .int .u32 (P.Inc : Nat), .int .u64 (N : Nat), .slice aL l.length cL] 45 (0, 0)) :: FO f s' :: FR b33 s' :: [Init w0])) ?_ ?_
        · skip
          refine c_seq ?_
          -- region 11
          refine c_region ?_
          first | refine x_field0 fa_45_0 _ rfl ?_ | refine x_field fa_45_0 _ _ rfl ?_
          refine x_load one_3 _ (.int _ _) rfl (by first | exact hs.cell rfl | exact (hs.pull 1).cell rfl | exact (hs.pull 2).cell rfl | exact (hs.pull 3).cell rfl | assumption | exact (hs.pull 4).cell rfl | exact (hs.pull 5).cell rfl | exact (hs.pull 6).cell rfl | exact (hs.pull 7).cell rfl) ?_
          refine x_call Try.f11 Try.func11 rfl rfl _ rfl ?_
          refine (pick_calls hs _ _ (by decide)).mono ?_
          clear hs; rintro e w ⟨rfl, hs, -⟩
          refine ⟨_, rfl, fun h => (by first | (cases h; done) | (first | exact hs.cells2 rfl rfl | exact (hs.pull 1).cells2 rfl rfl | exact (hs.pull 2).cells2 rfl rfl | exact (hs.pull 3).cells2 rfl rfl | exact (hs.pull 4).cells2 rfl rfl | exact (hs.pull 5).cells2 rfl rfl | exact (hs.pull 6).cells2 rfl rfl | exact (hs.pull 7).cells2 rfl rfl | exact (hs.pull 8).cells2 rfl rfl | exact hs.cell rfl | exact (hs.pull 1).cell rfl | exact (hs.pull 2).cell rfl | exact (hs.pull 3).cell rfl | exact (hs.pull 4).cell rfl | exact (hs.pull 5).cell rfl | exact (hs.pull 6).cell rfl | exact (hs.pull 7).cell rfl | exact (hs.pull 8).cell rfl | assumption | exact hs.cellsOf | exact (hs.pull 1).cellsOf | exact (hs.pull 2).cellsOf | exact (hs.pull 3).cellsOf | exact (hs.pull 4).cellsOf | exact (hs.pull 5).cellsOf | exact (hs.pull 6).cellsOf | exact (hs.pull 7).cellsOf | exact (hs.pull 8).cellsOf) | (and_intros <;> first | exact hs.cells2 rfl rfl | exact (hs.pull 1).cells2 rfl rfl | exact (hs.pull 2).cells2 rfl rfl | exact (hs.pull 3).cells2 rfl rfl | exact (hs.pull 4).cells2 rfl rfl | exact (hs.pull 5).cells2 rfl rfl | exact (hs.pull 6).cells2 rfl rfl | exact (hs.pull 7).cells2 rfl rfl | exact (hs.pull 8).cells2 rfl rfl | exact hs.cell rfl | exact (hs.pull 1).cell rfl | exact (hs.pull 2).cell rfl | exact (hs.pull 3).cell rfl | exact (hs.pull 4).cell rfl | exact (hs.pull 5).cell rfl | exact (hs.pull 6).cell rfl | exact (hs.pull 7).cell rfl | exact (hs.pull 8).cell rfl | assumption | exact hs.cellsOf | exact (hs.pull 1).cellsOf | exact (hs.pull 2).cellsOf | exact (hs.pull 3).cellsOf | exact (hs.pull 4).cellsOf | exact (hs.pull 5).cellsOf | exact (hs.pull 6).cellsOf | exact (hs.pull 7).cellsOf | exact (hs.pull 8).cellsOf)), ?_⟩
          clear hR hcells
          generalize pk Kind 4 = kd
          refine x_eql _ _ rfl rfl ?_
          refine x_nil ?_
          refine then_n ?_
          refine c_test _ rfl (fun hb => ?_) (fun hb => ?_)   -- cond t56
          · skip
            -- region 12 DRAWS
            refine c_draw (fun w => w.cell? ⟨b12, 4, none⟩ = some (.slice aL l.length cL)) (fun i => !(Nat.beq i 7)) [(0, 2), (1, 2), (2, 1), (4, 2), (5, 2), (6, 1), (3, 0), (7, 0), (8, 2), (9, 2)] (by kernel_rfl) (by kernel_rfl) (by kernel_rfl) (by kernel_rfl) ((by first | (first | exact hs.cells2 rfl rfl | exact (hs.pull 1).cells2 rfl rfl | exact (hs.pull 2).cells2 rfl rfl | exact (hs.pull 3).cells2 rfl rfl | exact (hs.pull 4).cells2 rfl rfl | exact (hs.pull 5).cells2 rfl rfl | exact (hs.pull 6).cells2 rfl rfl | exact (hs.pull 7).cells2 rfl rfl | exact (hs.pull 8).cells2 rfl rfl | exact hs.cell rfl | exact (hs.pull 1).cell rfl | exact (hs.pull 2).cell rfl | exact (hs.pull 3).cell rfl | exact (hs.pull 4).cell rfl | exact (hs.pull 5).cell rfl | exact (hs.pull 6).cell rfl | exact (hs.pull 7).cell rfl | exact (hs.pull 8).cell rfl | assumption | exact hs.cellsOf | exact (hs.pull 1).cellsOf | exact (hs.pull 2).cellsOf | exact (hs.pull 3).cellsOf | exact (hs.pull 4).cellsOf | exact (hs.pull 5).cellsOf | exact (hs.pull 6).cellsOf | exact (hs.pull 7).cellsOf | exact (hs.pull 8).cellsOf) | (and_intros <;> first | exact hs.cells2 rfl rfl | exact (hs.pull 1).cells2 rfl rfl | exact (hs.pull 2).cells2 rfl rfl | exact (hs.pull 3).cells2 rfl rfl | exact (hs.pull 4).cells2 rfl rfl | exact (hs.pull 5).cells2 rfl rfl | exact (hs.pull 6).cells2 rfl rfl | exact (hs.pull 7).cells2 rfl rfl | exact (hs.pull 8).cells2 rfl rfl | exact hs.cell rfl | exact (hs.pull 1).cell rfl | exact (hs.pull 2).cell rfl | exact (hs.pull 3).cell rfl | exact (hs.pull 4).cell rfl | exact (hs.pull 5).cell rfl | exact (hs.pull 6).cell rfl | exact (hs.pull 7).cell rfl | exact (hs.pull 8).cell rfl | assumption | exact hs.cellsOf | exact (hs.pull 1).cellsOf | exact (hs.pull 2).cellsOf | exact (hs.pull 3).cellsOf | exact (hs.pull 4).cellsOf | exact (hs.pull 5).cellsOf | exact (hs.pull 6).cellsOf | exact (hs.pull 7).cellsOf | exact (hs.pull 8).cellsOf))) ?_
            replace hs := hs.drew
            refine x_move (.pointer _) rfl ?_
            first | refine x_field0 fa_45_3 _ rfl ?_ | refine x_field fa_45_3 _ _ rfl ?_
            refine h_load one_22 _ (.slice _ _ _) rfl (fun w hS => by first | exact hS.cell rfl | exact (hS.pull 1).cell rfl | exact (hS.pull 2).cell rfl | exact (hS.pull 3).cell rfl | exact (hS.pull 4).cell rfl | exact (hS.pull 5).cell rfl | exact (hS.pull 6).cell rfl | exact hS | exact hS.1 | exact hS.2 | exact hS.2.1 | exact hS.2.2 | exact hS.2.2.1 | exact hS.2.2.2 | exact hS.2.2.2.1 | exact hS.2.2.2.2) ?_
            refine x_move (.pointer _) rfl ?_
            first | refine x_field0 fa_45_3 _ rfl ?_ | refine x_field fa_45_3 _ _ rfl ?_
            refine h_load one_22 _ (.slice _ _ _) rfl (fun w hS => by first | exact hS.cell rfl | exact (hS.pull 1).cell rfl | exact (hS.pull 2).cell rfl | exact (hS.pull 3).cell rfl | exact (hS.pull 4).cell rfl | exact (hS.pull 5).cell rfl | exact (hS.pull 6).cell rfl | exact hS | exact hS.1 | exact hS.2 | exact hS.2.1 | exact hS.2.2 | exact hS.2.2.1 | exact hS.2.2.2 | exact hS.2.2.2.1 | exact hS.2.2.2.2) ?_
            refine x_call Try.f12 Try.func12 rfl rfl _ rfl ?_
            refine ((skip_same hinv (hs.perm [1, 3, 0, 2]) hrL (by omega))).mono ?_
            clear hs; rintro e w ⟨rfl, hs⟩
            refine ⟨_, rfl, fun h => (by first | (cases h; done) | (first | exact hs.cells2 rfl rfl | exact (hs.pull 1).cells2 rfl rfl | exact (hs.pull 2).cells2 rfl rfl | exact (hs.pull 3).cells2 rfl rfl | exact (hs.pull 4).cells2 rfl rfl | exact (hs.pull 5).cells2 rfl rfl | exact (hs.pull 6).cells2 rfl rfl | exact (hs.pull 7).cells2 rfl rfl | exact (hs.pull 8).cells2 rfl rfl | exact hs.cell rfl | exact (hs.pull 1).cell rfl | exact (hs.pull 2).cell rfl | exact (hs.pull 3).cell rfl | exact (hs.pull 4).cell rfl | exact (hs.pull 5).cell rfl | exact (hs.pull 6).cell rfl | exact (hs.pull 7).cell rfl | exact (hs.pull 8).cell rfl | assumption | exact hs.cellsOf | exact (hs.pull 1).cellsOf | exact (hs.pull 2).cellsOf | exact (hs.pull 3).cellsOf | exact (hs.pull 4).cellsOf | exact (hs.pull 5).cellsOf | exact (hs.pull 6).cellsOf | exact (hs.pull 7).cellsOf | exact (hs.pull 8).cellsOf) | (and_intros <;> first | exact hs.cells2 rfl rfl | exact (hs.pull 1).cells2 rfl rfl | exact (hs.pull 2).cells2 rfl rfl | exact (hs.pull 3).cells2 rfl rfl | exact (hs.pull 4).cells2 rfl rfl | exact (hs.pull 5).cells2 rfl rfl | exact (hs.pull 6).cells2 rfl rfl | exact (hs.pull 7).cells2 rfl rfl | exact (hs.pull 8).cells2 rfl rfl | exact hs.cell rfl | exact (hs.pull 1).cell rfl | exact (hs.pull 2).cell rfl | exact (hs.pull 3).cell rfl | exact (hs.pull 4).cell rfl | exact (hs.pull 5).cell rfl | exact (hs.pull 6).cell rfl | exact (hs.pull 7).cell rfl | exact (hs.pull 8).cell rfl | assumption | exact hs.cellsOf | exact (hs.pull 1).cellsOf | exact (hs.pull 2).cellsOf | exact (hs.pull 3).cellsOf | exact (hs.pull 4).cellsOf | exact (hs.pull 5).cellsOf | exact (hs.pull 6).cellsOf | exact (hs.pull 7).cellsOf | exact (hs.pull 8).cellsOf)), ?_⟩
            replace hs := hs.perm [2, 0, 3, 1]
            refine x_call Try.f13 Try.func13 rfl rfl _ rfl ?_
            refine ((rskip_calls (hs.perm [2, 3, 0, 1]) hrL (by omega) (by omega) (by omega))).mono ?_
            clear hs; rintro e w ⟨rfl, hs⟩
            refine ⟨_, rfl, fun h => (by first | (cases h; done) | (first | exact hs.cells2 rfl rfl | exact (hs.pull 1).cells2 rfl rfl | exact (hs.pull 2).cells2 rfl rfl | exact (hs.pull 3).cells2 rfl rfl | exact (hs.pull 4).cells2 rfl rfl | exact (hs.pull 5).cells2 rfl rfl | exact (hs.pull 6).cells2 rfl rfl | exact (hs.pull 7).cells2 rfl rfl | exact (hs.pull 8).cells2 rfl rfl | exact hs.cell rfl | exact (hs.pull 1).cell rfl | exact (hs.pull 2).cell rfl | exact (hs.pull 3).cell rfl | exact (hs.pull 4).cell rfl | exact (hs.pull 5).cell rfl | exact (hs.pull 6).cell rfl | exact (hs.pull 7).cell rfl | exact (hs.pull 8).cell rfl | assumption | exact hs.cellsOf | exact (hs.pull 1).cellsOf | exact (hs.pull 2).cellsOf | exact (hs.pull 3).cellsOf | exact (hs.pull 4).cellsOf | exact (hs.pull 5).cellsOf | exact (hs.pull 6).cellsOf | exact (hs.pull 7).cellsOf | exact (hs.pull 8).cellsOf) | (and_intros <;> first | exact hs.cells2 rfl rfl | exact (hs.pull 1).cells2 rfl rfl | exact (hs.pull 2).cells2 rfl rfl | exact (hs.pull 3).cells2 rfl rfl | exact (hs.pull 4).cells2 rfl rfl | exact (hs.pull 5).cells2 rfl rfl | exact (hs.pull 6).cells2 rfl rfl | exact (hs.pull 7).cells2 rfl rfl | exact (hs.pull 8).cells2 rfl rfl | exact hs.cell rfl | exact (hs.pull 1).cell rfl | exact (hs.pull 2).cell rfl | exact (hs.pull 3).cell rfl | exact (hs.pull 4).cell rfl | exact (hs.pull 5).cell rfl | exact (hs.pull 6).cell rfl | exact (hs.pull 7).cell rfl | exact (hs.pull 8).cell rfl | assumption | exact hs.cellsOf | exact (hs.pull 1).cellsOf | exact (hs.pull 2).cellsOf | exact (hs.pull 3).cellsOf | exact (hs.pull 4).cellsOf | exact (hs.pull 5).cellsOf | exact (hs.pull 6).cellsOf | exact (hs.pull 7).cellsOf | exact (hs.pull 8).cellsOf)), ?_⟩
            rw [← (hinv.skip l).1] at hs
            replace hs := hs.perm [2, 3, 0, 1]
            refine x_eqlT _ _ rfl rfl (by omega) ?_
            refine x_assign (.bool _) rfl ?_
            refine x_nil ?_
            refine then_n ?_
            exact ⟨(s.rskip l).2, ⟨rfl, rfl, rfl, rfl, rfl, rfl, rfl, rfl, trivial⟩, ⟨(hinv.skip l).2, by rw [← hvw]; exact rskip_vw s l, by rw [(hinv.skip l).1] at hs; exact hs⟩⟩
          · skip
            by_cases hp : P ∈ s.ask
            · skip
              -- region 13 DRAWS
              refine c_draw (fun w => (∀ (j : Nat) (u : Value), [Value.int .u16 (P.Id : Nat), Value.int .u32 (P.Inc : Nat)][j]? = some u → w.cell? ((⟨b12, 1, none⟩ : Addr).add j) = some u) ∧ w.cell? ⟨b12, 3, none⟩ = some (.int .u64 (N : Nat))) (fun i => !(Nat.beq i 11)) [(0, 2), (1, 2), (2, 1), (3, 2), (4, 1), (6, 2), (7, 2), (8, 1), (9, 2), (10, 1), (5, 0), (11, 0), (12, 2), (13, 2)] (by kernel_rfl) (by kernel_rfl) (by kernel_rfl) (by kernel_rfl) ((by first | (first | exact hs.cells2 rfl rfl | exact (hs.pull 1).cells2 rfl rfl | exact (hs.pull 2).cells2 rfl rfl | exact (hs.pull 3).cells2 rfl rfl | exact (hs.pull 4).cells2 rfl rfl | exact (hs.pull 5).cells2 rfl rfl | exact (hs.pull 6).cells2 rfl rfl | exact (hs.pull 7).cells2 rfl rfl | exact (hs.pull 8).cells2 rfl rfl | exact hs.cell rfl | exact (hs.pull 1).cell rfl | exact (hs.pull 2).cell rfl | exact (hs.pull 3).cell rfl | exact (hs.pull 4).cell rfl | exact (hs.pull 5).cell rfl | exact (hs.pull 6).cell rfl | exact (hs.pull 7).cell rfl | exact (hs.pull 8).cell rfl | assumption | exact hs.cellsOf | exact (hs.pull 1).cellsOf | exact (hs.pull 2).cellsOf | exact (hs.pull 3).cellsOf | exact (hs.pull 4).cellsOf | exact (hs.pull 5).cellsOf | exact (hs.pull 6).cellsOf | exact (hs.pull 7).cellsOf | exact (hs.pull 8).cellsOf) | (and_intros <;> first | exact hs.cells2 rfl rfl | exact (hs.pull 1).cells2 rfl rfl | exact (hs.pull 2).cells2 rfl rfl | exact (hs.pull 3).cells2 rfl rfl | exact (hs.pull 4).cells2 rfl rfl | exact (hs.pull 5).cells2 rfl rfl | exact (hs.pull 6).cells2 rfl rfl | exact (hs.pull 7).cells2 rfl rfl | exact (hs.pull 8).cells2 rfl rfl | exact hs.cell rfl | exact (hs.pull 1).cell rfl | exact (hs.pull 2).cell rfl | exact (hs.pull 3).cell rfl | exact (hs.pull 4).cell rfl | exact (hs.pull 5).cell rfl | exact (hs.pull 6).cell rfl | exact (hs.pull 7).cell rfl | exact (hs.pull 8).cell rfl | assumption | exact hs.cellsOf | exact (hs.pull 1).cellsOf | exact (hs.pull 2).cellsOf | exact (hs.pull 3).cellsOf | exact (hs.pull 4).cellsOf | exact (hs.pull 5).cellsOf | exact (hs.pull 6).cellsOf | exact (hs.pull 7).cellsOf | exact (hs.pull 8).cellsOf))) ?_
              replace hs := hs.drew
              refine x_move (.pointer _) rfl ?_
              first | refine x_field0 fa_45_1 _ rfl ?_ | refine x_field fa_45_1 _ _ rfl ?_
              refine h_loadN [_, _] agg_34 _ rfl (fun w hS => by first | exact hS | exact hS.1 | exact hS.2 | exact hS.2.1 | exact hS.2.2 | exact hS.2.2.1 | exact hS.2.2.2 | exact hS.2.2.2.1 | exact hS.2.2.2.2 | exact hS.cellsOf | exact (hS.pull 1).cellsOf | exact (hS.pull 2).cellsOf | exact (hS.pull 3).cellsOf | exact (hS.pull 4).cellsOf | exact (hS.pull 5).cellsOf | exact (hS.pull 6).cellsOf | exact hS.cells2 rfl rfl | exact (hS.pull 1).cells2 rfl rfl | exact (hS.pull 2).cells2 rfl rfl | exact (hS.pull 3).cells2 rfl rfl | exact (hS.pull 4).cells2 rfl rfl | exact (hS.pull 5).cells2 rfl rfl | exact (hS.pull 6).cells2 rfl rfl) ?_
              first | refine x_field0 fa_45_2 _ rfl ?_ | refine x_field fa_45_2 _ _ rfl ?_
              refine h_load one_27 _ (.int _ _) rfl (fun w hS => by first | exact hS.cell rfl | exact (hS.pull 1).cell rfl | exact (hS.pull 2).cell rfl | exact (hS.pull 3).cell rfl | exact (hS.pull 4).cell rfl | exact (hS.pull 5).cell rfl | exact (hS.pull 6).cell rfl | exact hS | exact hS.1 | exact hS.2 | exact hS.2.1 | exact hS.2.2 | exact hS.2.2.1 | exact hS.2.2.2 | exact hS.2.2.2.1 | exact hS.2.2.2.2) ?_
              refine x_move (.pointer _) rfl ?_
              first | refine x_field0 fa_45_1 _ rfl ?_ | refine x_field fa_45_1 _ _ rfl ?_
              refine h_loadN [_, _] agg_34 _ rfl (fun w hS => by first | exact hS | exact hS.1 | exact hS.2 | exact hS.2.1 | exact hS.2.2 | exact hS.2.2.1 | exact hS.2.2.2 | exact hS.2.2.2.1 | exact hS.2.2.2.2 | exact hS.cellsOf | exact (hS.pull 1).cellsOf | exact (hS.pull 2).cellsOf | exact (hS.pull 3).cellsOf | exact (hS.pull 4).cellsOf | exact (hS.pull 5).cellsOf | exact (hS.pull 6).cellsOf | exact hS.cells2 rfl rfl | exact (hS.pull 1).cells2 rfl rfl | exact (hS.pull 2).cells2 rfl rfl | exact (hS.pull 3).cells2 rfl rfl | exact (hS.pull 4).cells2 rfl rfl | exact (hS.pull 5).cells2 rfl rfl | exact (hS.pull 6).cells2 rfl rfl) ?_
              first | refine x_field0 fa_45_2 _ rfl ?_ | refine x_field fa_45_2 _ _ rfl ?_
              refine h_load one_27 _ (.int _ _) rfl (fun w hS => by first | exact hS.cell rfl | exact (hS.pull 1).cell rfl | exact (hS.pull 2).cell rfl | exact (hS.pull 3).cell rfl | exact (hS.pull 4).cell rfl | exact (hS.pull 5).cell rfl | exact (hS.pull 6).cell rfl | exact hS | exact hS.1 | exact hS.2 | exact hS.2.1 | exact hS.2.2 | exact hS.2.2.1 | exact hS.2.2.2 | exact hS.2.2.2.1 | exact hS.2.2.2.2) ?_
              refine x_call Try.f10 Try.func10 rfl rfl _ rfl ?_
              refine (told_yes P N (hs.pull 1) (by omega) hp).mono ?_
              clear hs; rintro e w ⟨rfl, hs⟩
              replace hs := hs.push 1
              try dsimp only [back] at hs
              refine ⟨_, rfl, fun h => (by first | (cases h; done) | (first | exact hs.cells2 rfl rfl | exact (hs.pull 1).cells2 rfl rfl | exact (hs.pull 2).cells2 rfl rfl | exact (hs.pull 3).cells2 rfl rfl | exact (hs.pull 4).cells2 rfl rfl | exact (hs.pull 5).cells2 rfl rfl | exact (hs.pull 6).cells2 rfl rfl | exact (hs.pull 7).cells2 rfl rfl | exact (hs.pull 8).cells2 rfl rfl | exact hs.cell rfl | exact (hs.pull 1).cell rfl | exact (hs.pull 2).cell rfl | exact (hs.pull 3).cell rfl | exact (hs.pull 4).cell rfl | exact (hs.pull 5).cell rfl | exact (hs.pull 6).cell rfl | exact (hs.pull 7).cell rfl | exact (hs.pull 8).cell rfl | assumption | exact hs.cellsOf | exact (hs.pull 1).cellsOf | exact (hs.pull 2).cellsOf | exact (hs.pull 3).cellsOf | exact (hs.pull 4).cellsOf | exact (hs.pull 5).cellsOf | exact (hs.pull 6).cellsOf | exact (hs.pull 7).cellsOf | exact (hs.pull 8).cellsOf) | (and_intros <;> first | exact hs.cells2 rfl rfl | exact (hs.pull 1).cells2 rfl rfl | exact (hs.pull 2).cells2 rfl rfl | exact (hs.pull 3).cells2 rfl rfl | exact (hs.pull 4).cells2 rfl rfl | exact (hs.pull 5).cells2 rfl rfl | exact (hs.pull 6).cells2 rfl rfl | exact (hs.pull 7).cells2 rfl rfl | exact (hs.pull 8).cells2 rfl rfl | exact hs.cell rfl | exact (hs.pull 1).cell rfl | exact (hs.pull 2).cell rfl | exact (hs.pull 3).cell rfl | exact (hs.pull 4).cell rfl | exact (hs.pull 5).cell rfl | exact (hs.pull 6).cell rfl | exact (hs.pull 7).cell rfl | exact (hs.pull 8).cell rfl | assumption | exact hs.cellsOf | exact (hs.pull 1).cellsOf | exact (hs.pull 2).cellsOf | exact (hs.pull 3).cellsOf | exact (hs.pull 4).cellsOf | exact (hs.pull 5).cellsOf | exact (hs.pull 6).cellsOf | exact (hs.pull 7).cellsOf | exact (hs.pull 8).cellsOf)), ?_⟩
              rw [hinv.told hp N] at hs
              refine x_call Try.f14 Try.func14 rfl rfl _ rfl ?_
              refine (rtold_yes P N (hs.pull 2) (by omega) (by omega) hp).mono ?_
              clear hs; rintro e w ⟨rfl, hs⟩
              replace hs := hs.push 2
              try dsimp only [back] at hs
              refine ⟨_, rfl, fun h => (by first | (cases h; done) | (first | exact hs.cells2 rfl rfl | exact (hs.pull 1).cells2 rfl rfl | exact (hs.pull 2).cells2 rfl rfl | exact (hs.pull 3).cells2 rfl rfl | exact (hs.pull 4).cells2 rfl rfl | exact (hs.pull 5).cells2 rfl rfl | exact (hs.pull 6).cells2 rfl rfl | exact (hs.pull 7).cells2 rfl rfl | exact (hs.pull 8).cells2 rfl rfl | exact hs.cell rfl | exact (hs.pull 1).cell rfl | exact (hs.pull 2).cell rfl | exact (hs.pull 3).cell rfl | exact (hs.pull 4).cell rfl | exact (hs.pull 5).cell rfl | exact (hs.pull 6).cell rfl | exact (hs.pull 7).cell rfl | exact (hs.pull 8).cell rfl | assumption | exact hs.cellsOf | exact (hs.pull 1).cellsOf | exact (hs.pull 2).cellsOf | exact (hs.pull 3).cellsOf | exact (hs.pull 4).cellsOf | exact (hs.pull 5).cellsOf | exact (hs.pull 6).cellsOf | exact (hs.pull 7).cellsOf | exact (hs.pull 8).cellsOf) | (and_intros <;> first | exact hs.cells2 rfl rfl | exact (hs.pull 1).cells2 rfl rfl | exact (hs.pull 2).cells2 rfl rfl | exact (hs.pull 3).cells2 rfl rfl | exact (hs.pull 4).cells2 rfl rfl | exact (hs.pull 5).cells2 rfl rfl | exact (hs.pull 6).cells2 rfl rfl | exact (hs.pull 7).cells2 rfl rfl | exact (hs.pull 8).cells2 rfl rfl | exact hs.cell rfl | exact (hs.pull 1).cell rfl | exact (hs.pull 2).cell rfl | exact (hs.pull 3).cell rfl | exact (hs.pull 4).cell rfl | exact (hs.pull 5).cell rfl | exact (hs.pull 6).cell rfl | exact (hs.pull 7).cell rfl | exact (hs.pull 8).cell rfl | assumption | exact hs.cellsOf | exact (hs.pull 1).cellsOf | exact (hs.pull 2).cellsOf | exact (hs.pull 3).cellsOf | exact (hs.pull 4).cellsOf | exact (hs.pull 5).cellsOf | exact (hs.pull 6).cellsOf | exact (hs.pull 7).cellsOf | exact (hs.pull 8).cellsOf)), ?_⟩
              refine x_eqlB _ _ Try.underlying4 rfl rfl ?_
              refine x_assign (.bool _) rfl ?_
              refine x_nil ?_
              refine then_n ?_
              exact ⟨(s.tl P N), ⟨rfl, rfl, rfl, rfl, rfl, rfl, rfl, rfl, trivial⟩, ⟨hinv.tl hp N, hvw, hs⟩⟩
            · skip
              -- region 13 DRAWS
              refine c_draw (fun w => (∀ (j : Nat) (u : Value), [Value.int .u16 (P.Id : Nat), Value.int .u32 (P.Inc : Nat)][j]? = some u → w.cell? ((⟨b12, 1, none⟩ : Addr).add j) = some u) ∧ w.cell? ⟨b12, 3, none⟩ = some (.int .u64 (N : Nat))) (fun i => !(Nat.beq i 11)) [(0, 2), (1, 2), (2, 1), (3, 2), (4, 1), (6, 2), (7, 2), (8, 1), (9, 2), (10, 1), (5, 0), (11, 0), (12, 2), (13, 2)] (by kernel_rfl) (by kernel_rfl) (by kernel_rfl) (by kernel_rfl) ((by first | (first | exact hs.cells2 rfl rfl | exact (hs.pull 1).cells2 rfl rfl | exact (hs.pull 2).cells2 rfl rfl | exact (hs.pull 3).cells2 rfl rfl | exact (hs.pull 4).cells2 rfl rfl | exact (hs.pull 5).cells2 rfl rfl | exact (hs.pull 6).cells2 rfl rfl | exact (hs.pull 7).cells2 rfl rfl | exact (hs.pull 8).cells2 rfl rfl | exact hs.cell rfl | exact (hs.pull 1).cell rfl | exact (hs.pull 2).cell rfl | exact (hs.pull 3).cell rfl | exact (hs.pull 4).cell rfl | exact (hs.pull 5).cell rfl | exact (hs.pull 6).cell rfl | exact (hs.pull 7).cell rfl | exact (hs.pull 8).cell rfl | assumption | exact hs.cellsOf | exact (hs.pull 1).cellsOf | exact (hs.pull 2).cellsOf | exact (hs.pull 3).cellsOf | exact (hs.pull 4).cellsOf | exact (hs.pull 5).cellsOf | exact (hs.pull 6).cellsOf | exact (hs.pull 7).cellsOf | exact (hs.pull 8).cellsOf) | (and_intros <;> first | exact hs.cells2 rfl rfl | exact (hs.pull 1).cells2 rfl rfl | exact (hs.pull 2).cells2 rfl rfl | exact (hs.pull 3).cells2 rfl rfl | exact (hs.pull 4).cells2 rfl rfl | exact (hs.pull 5).cells2 rfl rfl | exact (hs.pull 6).cells2 rfl rfl | exact (hs.pull 7).cells2 rfl rfl | exact (hs.pull 8).cells2 rfl rfl | exact hs.cell rfl | exact (hs.pull 1).cell rfl | exact (hs.pull 2).cell rfl | exact (hs.pull 3).cell rfl | exact (hs.pull 4).cell rfl | exact (hs.pull 5).cell rfl | exact (hs.pull 6).cell rfl | exact (hs.pull 7).cell rfl | exact (hs.pull 8).cell rfl | assumption | exact hs.cellsOf | exact (hs.pull 1).cellsOf | exact (hs.pull 2).cellsOf | exact (hs.pull 3).cellsOf | exact (hs.pull 4).cellsOf | exact (hs.pull 5).cellsOf | exact (hs.pull 6).cellsOf | exact (hs.pull 7).cellsOf | exact (hs.pull 8).cellsOf))) ?_
              replace hs := hs.drew
              refine x_move (.pointer _) rfl ?_
              first | refine x_field0 fa_45_1 _ rfl ?_ | refine x_field fa_45_1 _ _ rfl ?_
              refine h_loadN [_, _] agg_34 _ rfl (fun w hS => by first | exact hS | exact hS.1 | exact hS.2 | exact hS.2.1 | exact hS.2.2 | exact hS.2.2.1 | exact hS.2.2.2 | exact hS.2.2.2.1 | exact hS.2.2.2.2 | exact hS.cellsOf | exact (hS.pull 1).cellsOf | exact (hS.pull 2).cellsOf | exact (hS.pull 3).cellsOf | exact (hS.pull 4).cellsOf | exact (hS.pull 5).cellsOf | exact (hS.pull 6).cellsOf | exact hS.cells2 rfl rfl | exact (hS.pull 1).cells2 rfl rfl | exact (hS.pull 2).cells2 rfl rfl | exact (hS.pull 3).cells2 rfl rfl | exact (hS.pull 4).cells2 rfl rfl | exact (hS.pull 5).cells2 rfl rfl | exact (hS.pull 6).cells2 rfl rfl) ?_
              first | refine x_field0 fa_45_2 _ rfl ?_ | refine x_field fa_45_2 _ _ rfl ?_
              refine h_load one_27 _ (.int _ _) rfl (fun w hS => by first | exact hS.cell rfl | exact (hS.pull 1).cell rfl | exact (hS.pull 2).cell rfl | exact (hS.pull 3).cell rfl | exact (hS.pull 4).cell rfl | exact (hS.pull 5).cell rfl | exact (hS.pull 6).cell rfl | exact hS | exact hS.1 | exact hS.2 | exact hS.2.1 | exact hS.2.2 | exact hS.2.2.1 | exact hS.2.2.2 | exact hS.2.2.2.1 | exact hS.2.2.2.2) ?_
              refine x_move (.pointer _) rfl ?_
              first | refine x_field0 fa_45_1 _ rfl ?_ | refine x_field fa_45_1 _ _ rfl ?_
              refine h_loadN [_, _] agg_34 _ rfl (fun w hS => by first | exact hS | exact hS.1 | exact hS.2 | exact hS.2.1 | exact hS.2.2 | exact hS.2.2.1 | exact hS.2.2.2 | exact hS.2.2.2.1 | exact hS.2.2.2.2 | exact hS.cellsOf | exact (hS.pull 1).cellsOf | exact (hS.pull 2).cellsOf | exact (hS.pull 3).cellsOf | exact (hS.pull 4).cellsOf | exact (hS.pull 5).cellsOf | exact (hS.pull 6).cellsOf | exact hS.cells2 rfl rfl | exact (hS.pull 1).cells2 rfl rfl | exact (hS.pull 2).cells2 rfl rfl | exact (hS.pull 3).cells2 rfl rfl | exact (hS.pull 4).cells2 rfl rfl | exact (hS.pull 5).cells2 rfl rfl | exact (hS.pull 6).cells2 rfl rfl) ?_
              first | refine x_field0 fa_45_2 _ rfl ?_ | refine x_field fa_45_2 _ _ rfl ?_
              refine h_load one_27 _ (.int _ _) rfl (fun w hS => by first | exact hS.cell rfl | exact (hS.pull 1).cell rfl | exact (hS.pull 2).cell rfl | exact (hS.pull 3).cell rfl | exact (hS.pull 4).cell rfl | exact (hS.pull 5).cell rfl | exact (hS.pull 6).cell rfl | exact hS | exact hS.1 | exact hS.2 | exact hS.2.1 | exact hS.2.2 | exact hS.2.2.1 | exact hS.2.2.2 | exact hS.2.2.2.1 | exact hS.2.2.2.2) ?_
              refine x_call Try.f10 Try.func10 rfl rfl _ rfl ?_
              refine (told_no P N (hs.pull 1) (by omega) hp).mono ?_
              clear hs; rintro e w ⟨rfl, hs⟩
              replace hs := hs.push 1
              try dsimp only [back] at hs
              refine ⟨_, rfl, fun h => (by first | (cases h; done) | (first | exact hs.cells2 rfl rfl | exact (hs.pull 1).cells2 rfl rfl | exact (hs.pull 2).cells2 rfl rfl | exact (hs.pull 3).cells2 rfl rfl | exact (hs.pull 4).cells2 rfl rfl | exact (hs.pull 5).cells2 rfl rfl | exact (hs.pull 6).cells2 rfl rfl | exact (hs.pull 7).cells2 rfl rfl | exact (hs.pull 8).cells2 rfl rfl | exact hs.cell rfl | exact (hs.pull 1).cell rfl | exact (hs.pull 2).cell rfl | exact (hs.pull 3).cell rfl | exact (hs.pull 4).cell rfl | exact (hs.pull 5).cell rfl | exact (hs.pull 6).cell rfl | exact (hs.pull 7).cell rfl | exact (hs.pull 8).cell rfl | assumption | exact hs.cellsOf | exact (hs.pull 1).cellsOf | exact (hs.pull 2).cellsOf | exact (hs.pull 3).cellsOf | exact (hs.pull 4).cellsOf | exact (hs.pull 5).cellsOf | exact (hs.pull 6).cellsOf | exact (hs.pull 7).cellsOf | exact (hs.pull 8).cellsOf) | (and_intros <;> first | exact hs.cells2 rfl rfl | exact (hs.pull 1).cells2 rfl rfl | exact (hs.pull 2).cells2 rfl rfl | exact (hs.pull 3).cells2 rfl rfl | exact (hs.pull 4).cells2 rfl rfl | exact (hs.pull 5).cells2 rfl rfl | exact (hs.pull 6).cells2 rfl rfl | exact (hs.pull 7).cells2 rfl rfl | exact (hs.pull 8).cells2 rfl rfl | exact hs.cell rfl | exact (hs.pull 1).cell rfl | exact (hs.pull 2).cell rfl | exact (hs.pull 3).cell rfl | exact (hs.pull 4).cell rfl | exact (hs.pull 5).cell rfl | exact (hs.pull 6).cell rfl | exact (hs.pull 7).cell rfl | exact (hs.pull 8).cell rfl | assumption | exact hs.cellsOf | exact (hs.pull 1).cellsOf | exact (hs.pull 2).cellsOf | exact (hs.pull 3).cellsOf | exact (hs.pull 4).cellsOf | exact (hs.pull 5).cellsOf | exact (hs.pull 6).cellsOf | exact (hs.pull 7).cellsOf | exact (hs.pull 8).cellsOf)), ?_⟩
              refine x_call Try.f14 Try.func14 rfl rfl _ rfl ?_
              refine (rtold_no P N (hs.pull 2) (by omega) hp).mono ?_
              clear hs; rintro e w ⟨rfl, hs⟩
              replace hs := hs.push 2
              try dsimp only [back] at hs
              refine ⟨_, rfl, fun h => (by first | (cases h; done) | (first | exact hs.cells2 rfl rfl | exact (hs.pull 1).cells2 rfl rfl | exact (hs.pull 2).cells2 rfl rfl | exact (hs.pull 3).cells2 rfl rfl | exact (hs.pull 4).cells2 rfl rfl | exact (hs.pull 5).cells2 rfl rfl | exact (hs.pull 6).cells2 rfl rfl | exact (hs.pull 7).cells2 rfl rfl | exact (hs.pull 8).cells2 rfl rfl | exact hs.cell rfl | exact (hs.pull 1).cell rfl | exact (hs.pull 2).cell rfl | exact (hs.pull 3).cell rfl | exact (hs.pull 4).cell rfl | exact (hs.pull 5).cell rfl | exact (hs.pull 6).cell rfl | exact (hs.pull 7).cell rfl | exact (hs.pull 8).cell rfl | assumption | exact hs.cellsOf | exact (hs.pull 1).cellsOf | exact (hs.pull 2).cellsOf | exact (hs.pull 3).cellsOf | exact (hs.pull 4).cellsOf | exact (hs.pull 5).cellsOf | exact (hs.pull 6).cellsOf | exact (hs.pull 7).cellsOf | exact (hs.pull 8).cellsOf) | (and_intros <;> first | exact hs.cells2 rfl rfl | exact (hs.pull 1).cells2 rfl rfl | exact (hs.pull 2).cells2 rfl rfl | exact (hs.pull 3).cells2 rfl rfl | exact (hs.pull 4).cells2 rfl rfl | exact (hs.pull 5).cells2 rfl rfl | exact (hs.pull 6).cells2 rfl rfl | exact (hs.pull 7).cells2 rfl rfl | exact (hs.pull 8).cells2 rfl rfl | exact hs.cell rfl | exact (hs.pull 1).cell rfl | exact (hs.pull 2).cell rfl | exact (hs.pull 3).cell rfl | exact (hs.pull 4).cell rfl | exact (hs.pull 5).cell rfl | exact (hs.pull 6).cell rfl | exact (hs.pull 7).cell rfl | exact (hs.pull 8).cell rfl | assumption | exact hs.cellsOf | exact (hs.pull 1).cellsOf | exact (hs.pull 2).cellsOf | exact (hs.pull 3).cellsOf | exact (hs.pull 4).cellsOf | exact (hs.pull 5).cellsOf | exact (hs.pull 6).cellsOf | exact (hs.pull 7).cellsOf | exact (hs.pull 8).cellsOf)), ?_⟩
              refine x_eqlB _ _ Try.underlying4 rfl rfl ?_
              refine x_assign (.bool _) rfl ?_
              refine x_nil ?_
              refine then_n ?_
              exact ⟨s, ⟨rfl, rfl, rfl, rfl, rfl, rfl, rfl, rfl, trivial⟩, ⟨hinv, hvw, hs⟩⟩
        · skip
          clear hs
          rintro s' ρ w ⟨hinv', hvw', hs⟩
          change CW Try.prog 132 _ _ (sets 132 [(0, .int .u64 (vw : Nat)), (2, .slice (some ⟨g, og, none⟩) acts.length c2), (3, .slice a3 last.length c3), (9, .pointer (some ⟨f, 0, none⟩)), (10, .pointer (some ⟨b33, 0, none⟩)), (11, .int .i64 (i : Nat)), (12, .pointer (some ⟨b12, 0, none⟩)), (13, .bool true)] ρ) w
          have hil' := hinv'.len
          refine c_seq ?_
          -- region 14
          refine c_region ?_
          refine x_move (.pointer _) rfl ?_
          first | refine x_field0 fa_45_1 _ rfl ?_ | refine x_field fa_45_1 _ _ rfl ?_
          refine x_loadN [_, _] agg_34 _ rfl (by first | assumption | exact hs.cellsOf | exact (hs.pull 1).cellsOf | exact (hs.pull 2).cellsOf | exact (hs.pull 3).cellsOf | exact (hs.pull 4).cellsOf | exact (hs.pull 5).cellsOf | exact (hs.pull 6).cellsOf | exact (hs.pull 7).cellsOf | exact (hs.pull 8).cellsOf | exact hs.cells2 rfl rfl | exact (hs.pull 1).cells2 rfl rfl | exact (hs.pull 2).cells2 rfl rfl | exact (hs.pull 3).cells2 rfl rfl | exact (hs.pull 4).cells2 rfl rfl | exact (hs.pull 5).cells2 rfl rfl | exact (hs.pull 6).cells2 rfl rfl | exact (hs.pull 7).cells2 rfl rfl | exact (hs.pull 8).cells2 rfl rfl) ?_
          refine x_call Try.f15 Try.func15 rfl rfl _ rfl ?_
          refine (fcount_calls P (hs.pull 1)).mono ?_
          clear hs; rintro e w ⟨rfl, hs⟩
          replace hs := hs.push 1
          try dsimp only [back] at hs
          refine ⟨_, rfl, fun h => (by first | (cases h; done) | (first | exact hs.cells2 rfl rfl | exact (hs.pull 1).cells2 rfl rfl | exact (hs.pull 2).cells2 rfl rfl | exact (hs.pull 3).cells2 rfl rfl | exact (hs.pull 4).cells2 rfl rfl | exact (hs.pull 5).cells2 rfl rfl | exact (hs.pull 6).cells2 rfl rfl | exact (hs.pull 7).cells2 rfl rfl | exact (hs.pull 8).cells2 rfl rfl | exact hs.cell rfl | exact (hs.pull 1).cell rfl | exact (hs.pull 2).cell rfl | exact (hs.pull 3).cell rfl | exact (hs.pull 4).cell rfl | exact (hs.pull 5).cell rfl | exact (hs.pull 6).cell rfl | exact (hs.pull 7).cell rfl | exact (hs.pull 8).cell rfl | assumption | exact hs.cellsOf | exact (hs.pull 1).cellsOf | exact (hs.pull 2).cellsOf | exact (hs.pull 3).cellsOf | exact (hs.pull 4).cellsOf | exact (hs.pull 5).cellsOf | exact (hs.pull 6).cellsOf | exact (hs.pull 7).cellsOf | exact (hs.pull 8).cellsOf) | (and_intros <;> first | exact hs.cells2 rfl rfl | exact (hs.pull 1).cells2 rfl rfl | exact (hs.pull 2).cells2 rfl rfl | exact (hs.pull 3).cells2 rfl rfl | exact (hs.pull 4).cells2 rfl rfl | exact (hs.pull 5).cells2 rfl rfl | exact (hs.pull 6).cells2 rfl rfl | exact (hs.pull 7).cells2 rfl rfl | exact (hs.pull 8).cells2 rfl rfl | exact hs.cell rfl | exact (hs.pull 1).cell rfl | exact (hs.pull 2).cell rfl | exact (hs.pull 3).cell rfl | exact (hs.pull 4).cell rfl | exact (hs.pull 5).cell rfl | exact (hs.pull 6).cell rfl | exact (hs.pull 7).cell rfl | exact (hs.pull 8).cell rfl | assumption | exact hs.cellsOf | exact (hs.pull 1).cellsOf | exact (hs.pull 2).cellsOf | exact (hs.pull 3).cellsOf | exact (hs.pull 4).cellsOf | exact (hs.pull 5).cellsOf | exact (hs.pull 6).cellsOf | exact (hs.pull 7).cellsOf | exact (hs.pull 8).cellsOf)), ?_⟩
          refine x_move (.tuple _) rfl ?_
          refine x_extract _ (.int _ _) rfl rfl ?_
          refine x_extract _ (.bool _) rfl rfl ?_
          refine x_assign (.int _ _) rfl ?_
          refine x_assign (.bool _) rfl ?_
          refine x_nil ?_
          refine then_n ?_
          refine c_seq ?_
          -- region 15
          refine c_region ?_
          refine x_move (.pointer _) rfl ?_
          first | refine x_field0 fa_45_1 _ rfl ?_ | refine x_field fa_45_1 _ _ rfl ?_
          refine x_loadN [_, _] agg_34 _ rfl (by first | assumption | exact hs.cellsOf | exact (hs.pull 1).cellsOf | exact (hs.pull 2).cellsOf | exact (hs.pull 3).cellsOf | exact (hs.pull 4).cellsOf | exact (hs.pull 5).cellsOf | exact (hs.pull 6).cellsOf | exact (hs.pull 7).cellsOf | exact (hs.pull 8).cellsOf | exact hs.cells2 rfl rfl | exact (hs.pull 1).cells2 rfl rfl | exact (hs.pull 2).cells2 rfl rfl | exact (hs.pull 3).cells2 rfl rfl | exact (hs.pull 4).cells2 rfl rfl | exact (hs.pull 5).cells2 rfl rfl | exact (hs.pull 6).cells2 rfl rfl | exact (hs.pull 7).cells2 rfl rfl | exact (hs.pull 8).cells2 rfl rfl) ?_
          refine x_call Try.f16 Try.func16 rfl rfl _ rfl ?_
          refine (rcount_calls P (hs.pull 2) (by omega)).mono ?_
          clear hs; rintro e w ⟨rfl, hs⟩
          replace hs := hs.push 2
          try dsimp only [back] at hs
          refine ⟨_, rfl, fun h => (by first | (cases h; done) | (first | exact hs.cells2 rfl rfl | exact (hs.pull 1).cells2 rfl rfl | exact (hs.pull 2).cells2 rfl rfl | exact (hs.pull 3).cells2 rfl rfl | exact (hs.pull 4).cells2 rfl rfl | exact (hs.pull 5).cells2 rfl rfl | exact (hs.pull 6).cells2 rfl rfl | exact (hs.pull 7).cells2 rfl rfl | exact (hs.pull 8).cells2 rfl rfl | exact hs.cell rfl | exact (hs.pull 1).cell rfl | exact (hs.pull 2).cell rfl | exact (hs.pull 3).cell rfl | exact (hs.pull 4).cell rfl | exact (hs.pull 5).cell rfl | exact (hs.pull 6).cell rfl | exact (hs.pull 7).cell rfl | exact (hs.pull 8).cell rfl | assumption | exact hs.cellsOf | exact (hs.pull 1).cellsOf | exact (hs.pull 2).cellsOf | exact (hs.pull 3).cellsOf | exact (hs.pull 4).cellsOf | exact (hs.pull 5).cellsOf | exact (hs.pull 6).cellsOf | exact (hs.pull 7).cellsOf | exact (hs.pull 8).cellsOf) | (and_intros <;> first | exact hs.cells2 rfl rfl | exact (hs.pull 1).cells2 rfl rfl | exact (hs.pull 2).cells2 rfl rfl | exact (hs.pull 3).cells2 rfl rfl | exact (hs.pull 4).cells2 rfl rfl | exact (hs.pull 5).cells2 rfl rfl | exact (hs.pull 6).cells2 rfl rfl | exact (hs.pull 7).cells2 rfl rfl | exact (hs.pull 8).cells2 rfl rfl | exact hs.cell rfl | exact (hs.pull 1).cell rfl | exact (hs.pull 2).cell rfl | exact (hs.pull 3).cell rfl | exact (hs.pull 4).cell rfl | exact (hs.pull 5).cell rfl | exact (hs.pull 6).cell rfl | exact (hs.pull 7).cell rfl | exact (hs.pull 8).cell rfl | assumption | exact hs.cellsOf | exact (hs.pull 1).cellsOf | exact (hs.pull 2).cellsOf | exact (hs.pull 3).cellsOf | exact (hs.pull 4).cellsOf | exact (hs.pull 5).cellsOf | exact (hs.pull 6).cellsOf | exact (hs.pull 7).cellsOf | exact (hs.pull 8).cellsOf)), ?_⟩
          refine x_move (.tuple _) rfl ?_
          refine x_extract _ (.int _ _) rfl rfl ?_
          refine x_extract _ (.bool _) rfl rfl ?_
          refine x_assign (.int _ _) rfl ?_
          refine x_assign (.bool _) rfl ?_
          refine x_nil ?_
          refine then_n ?_
          refine c_seq ?_
          -- region 16 DRAWS
          obtain ⟨r1, q1, r2, q2, hs⟩ := (hs.pull 2).fr
          refine c_draw (fun w => w.cell? ⟨b33, 0, none⟩ = some (.slice r1 s'.ask.length q1)) (fun i => !(Nat.beq i 19 || Nat.beq i 25 || Nat.beq i 26 || Nat.beq i 29 || Nat.beq i 34)) [(0, 2), (1, 2), (2, 2), (3, 2), (4, 2), (5, 2), (6, 2), (7, 2), (8, 2), (9, 2), (10, 2), (11, 2), (12, 2), (13, 2), (15, 2), (16, 2), (17, 2), (18, 1), (14, 0), (19, 0), (20, 2), (21, 2), (22, 2), (23, 2), (24, 2), (27, 2), (28, 2), (25, 0), (26, 0), (29, 0), (30, 2), (31, 2), (32, 2), (33, 2), (35, 2), (34, 0), (36, 2), (37, 2)] (by kernel_rfl) (by kernel_rfl) (by kernel_rfl) (by kernel_rfl) ((by first | (first | exact hs.cells2 rfl rfl | exact (hs.pull 1).cells2 rfl rfl | exact (hs.pull 2).cells2 rfl rfl | exact (hs.pull 3).cells2 rfl rfl | exact (hs.pull 4).cells2 rfl rfl | exact (hs.pull 5).cells2 rfl rfl | exact (hs.pull 6).cells2 rfl rfl | exact (hs.pull 7).cells2 rfl rfl | exact (hs.pull 8).cells2 rfl rfl | exact hs.cell rfl | exact (hs.pull 1).cell rfl | exact (hs.pull 2).cell rfl | exact (hs.pull 3).cell rfl | exact (hs.pull 4).cell rfl | exact (hs.pull 5).cell rfl | exact (hs.pull 6).cell rfl | exact (hs.pull 7).cell rfl | exact (hs.pull 8).cell rfl | assumption | exact hs.cellsOf | exact (hs.pull 1).cellsOf | exact (hs.pull 2).cellsOf | exact (hs.pull 3).cellsOf | exact (hs.pull 4).cellsOf | exact (hs.pull 5).cellsOf | exact (hs.pull 6).cellsOf | exact (hs.pull 7).cellsOf | exact (hs.pull 8).cellsOf) | (and_intros <;> first | exact hs.cells2 rfl rfl | exact (hs.pull 1).cells2 rfl rfl | exact (hs.pull 2).cells2 rfl rfl | exact (hs.pull 3).cells2 rfl rfl | exact (hs.pull 4).cells2 rfl rfl | exact (hs.pull 5).cells2 rfl rfl | exact (hs.pull 6).cells2 rfl rfl | exact (hs.pull 7).cells2 rfl rfl | exact (hs.pull 8).cells2 rfl rfl | exact hs.cell rfl | exact (hs.pull 1).cell rfl | exact (hs.pull 2).cell rfl | exact (hs.pull 3).cell rfl | exact (hs.pull 4).cell rfl | exact (hs.pull 5).cell rfl | exact (hs.pull 6).cell rfl | exact (hs.pull 7).cell rfl | exact (hs.pull 8).cell rfl | assumption | exact hs.cellsOf | exact (hs.pull 1).cellsOf | exact (hs.pull 2).cellsOf | exact (hs.pull 3).cellsOf | exact (hs.pull 4).cellsOf | exact (hs.pull 5).cellsOf | exact (hs.pull 6).cellsOf | exact (hs.pull 7).cellsOf | exact (hs.pull 8).cellsOf))) ?_
          replace hs := hs.drew
          refine x_move (.bool _) rfl ?_
          refine x_not _ rfl ?_
          refine x_move (.bool _) rfl ?_
          refine x_want' rfl ?_
          refine x_move (.int _ _) rfl ?_
          refine x_want' rfl ?_
          refine x_move (.int _ _) rfl ?_
          refine x_want' rfl ?_
          refine x_neqF _ _ rfl rfl (by omega) ?_
          refine x_pickF (.bool _) rfl rfl ?_
          refine x_move (.bool _) rfl ?_
          refine x_want' rfl ?_
          refine x_move (.bool _) rfl ?_
          refine x_want' rfl ?_
          refine x_move (.bool _) rfl ?_
          refine x_want' rfl ?_
          refine x_neqBF _ _ Try.underlying4 rfl rfl (by first | rfl | assumption | (simp; done) | (simp_all; done)) ?_
          refine x_pickF (.bool _) rfl rfl ?_
          refine x_move (.bool _) rfl ?_
          refine x_want' rfl ?_
          refine x_move (.pointer _) rfl ?_
          refine x_want' rfl ?_
          refine x_move (.pointer _) rfl ?_
          refine x_want' rfl ?_
          refine x_nilCheck _ rfl ?_
          refine x_want' rfl ?_
          first | refine x_field0 fa_43_0 _ rfl ?_ | refine x_field fa_43_0 _ _ rfl ?_
          refine x_want' rfl ?_
          refine h_load one_22 _ (.slice _ _ _) rfl (fun w hS => by first | exact hS.cell rfl | exact (hS.pull 1).cell rfl | exact (hS.pull 2).cell rfl | exact (hS.pull 3).cell rfl | exact (hS.pull 4).cell rfl | exact (hS.pull 5).cell rfl | exact (hS.pull 6).cell rfl | exact hS | exact hS.1 | exact hS.2 | exact hS.2.1 | exact hS.2.2 | exact hS.2.2.1 | exact hS.2.2.2 | exact hS.2.2.2.1 | exact hS.2.2.2.2) ?_
          refine x_want' rfl ?_
          refine x_call Try.f18 Try.func18 rfl rfl _ rfl ?_
          refine (missing_calls (hs.pull 4) (by omega)).mono ?_
          clear hs; rintro e w ⟨v7, rfl, hs⟩
          replace hs := hs.push 4
          try dsimp only [back] at hs
          refine ⟨_, rfl, fun h => (by first | (cases h; done) | (first | exact hs.cells2 rfl rfl | exact (hs.pull 1).cells2 rfl rfl | exact (hs.pull 2).cells2 rfl rfl | exact (hs.pull 3).cells2 rfl rfl | exact (hs.pull 4).cells2 rfl rfl | exact (hs.pull 5).cells2 rfl rfl | exact (hs.pull 6).cells2 rfl rfl | exact (hs.pull 7).cells2 rfl rfl | exact (hs.pull 8).cells2 rfl rfl | exact hs.cell rfl | exact (hs.pull 1).cell rfl | exact (hs.pull 2).cell rfl | exact (hs.pull 3).cell rfl | exact (hs.pull 4).cell rfl | exact (hs.pull 5).cell rfl | exact (hs.pull 6).cell rfl | exact (hs.pull 7).cell rfl | exact (hs.pull 8).cell rfl | assumption | exact hs.cellsOf | exact (hs.pull 1).cellsOf | exact (hs.pull 2).cellsOf | exact (hs.pull 3).cellsOf | exact (hs.pull 4).cellsOf | exact (hs.pull 5).cellsOf | exact (hs.pull 6).cellsOf | exact (hs.pull 7).cellsOf | exact (hs.pull 8).cellsOf) | (and_intros <;> first | exact hs.cells2 rfl rfl | exact (hs.pull 1).cells2 rfl rfl | exact (hs.pull 2).cells2 rfl rfl | exact (hs.pull 3).cells2 rfl rfl | exact (hs.pull 4).cells2 rfl rfl | exact (hs.pull 5).cells2 rfl rfl | exact (hs.pull 6).cells2 rfl rfl | exact (hs.pull 7).cells2 rfl rfl | exact (hs.pull 8).cells2 rfl rfl | exact hs.cell rfl | exact (hs.pull 1).cell rfl | exact (hs.pull 2).cell rfl | exact (hs.pull 3).cell rfl | exact (hs.pull 4).cell rfl | exact (hs.pull 5).cell rfl | exact (hs.pull 6).cell rfl | exact (hs.pull 7).cell rfl | exact (hs.pull 8).cell rfl | assumption | exact hs.cellsOf | exact (hs.pull 1).cellsOf | exact (hs.pull 2).cellsOf | exact (hs.pull 3).cellsOf | exact (hs.pull 4).cellsOf | exact (hs.pull 5).cellsOf | exact (hs.pull 6).cellsOf | exact (hs.pull 7).cellsOf | exact (hs.pull 8).cellsOf)), ?_⟩
          obtain ⟨a7, c7, rfl⟩ := (hs.pull 4).rd.val
          refine x_want' rfl ?_
          refine x_call Try.f17 Try.func17 rfl rfl _ rfl ?_
          refine ((eqp_true hs (hs.pull 4).prs (hs.pull 2).prs (by omega))).mono ?_
          clear hs; rintro e w ⟨rfl, hs⟩
          refine ⟨_, rfl, fun h => (by first | (cases h; done) | (first | exact hs.cells2 rfl rfl | exact (hs.pull 1).cells2 rfl rfl | exact (hs.pull 2).cells2 rfl rfl | exact (hs.pull 3).cells2 rfl rfl | exact (hs.pull 4).cells2 rfl rfl | exact (hs.pull 5).cells2 rfl rfl | exact (hs.pull 6).cells2 rfl rfl | exact (hs.pull 7).cells2 rfl rfl | exact (hs.pull 8).cells2 rfl rfl | exact hs.cell rfl | exact (hs.pull 1).cell rfl | exact (hs.pull 2).cell rfl | exact (hs.pull 3).cell rfl | exact (hs.pull 4).cell rfl | exact (hs.pull 5).cell rfl | exact (hs.pull 6).cell rfl | exact (hs.pull 7).cell rfl | exact (hs.pull 8).cell rfl | assumption | exact hs.cellsOf | exact (hs.pull 1).cellsOf | exact (hs.pull 2).cellsOf | exact (hs.pull 3).cellsOf | exact (hs.pull 4).cellsOf | exact (hs.pull 5).cellsOf | exact (hs.pull 6).cellsOf | exact (hs.pull 7).cellsOf | exact (hs.pull 8).cellsOf) | (and_intros <;> first | exact hs.cells2 rfl rfl | exact (hs.pull 1).cells2 rfl rfl | exact (hs.pull 2).cells2 rfl rfl | exact (hs.pull 3).cells2 rfl rfl | exact (hs.pull 4).cells2 rfl rfl | exact (hs.pull 5).cells2 rfl rfl | exact (hs.pull 6).cells2 rfl rfl | exact (hs.pull 7).cells2 rfl rfl | exact (hs.pull 8).cells2 rfl rfl | exact hs.cell rfl | exact (hs.pull 1).cell rfl | exact (hs.pull 2).cell rfl | exact (hs.pull 3).cell rfl | exact (hs.pull 4).cell rfl | exact (hs.pull 5).cell rfl | exact (hs.pull 6).cell rfl | exact (hs.pull 7).cell rfl | exact (hs.pull 8).cell rfl | assumption | exact hs.cellsOf | exact (hs.pull 1).cellsOf | exact (hs.pull 2).cellsOf | exact (hs.pull 3).cellsOf | exact (hs.pull 4).cellsOf | exact (hs.pull 5).cellsOf | exact (hs.pull 6).cellsOf | exact (hs.pull 7).cellsOf | exact (hs.pull 8).cellsOf)), ?_⟩
          refine x_want' rfl ?_
          refine x_not _ rfl ?_
          refine x_pickF (.bool _) rfl rfl ?_
          refine x_move (.bool _) rfl ?_
          refine x_want' rfl ?_
          refine x_move (.pointer _) rfl ?_
          refine x_want' rfl ?_
          refine x_move (.slice _ _ _) rfl ?_
          refine x_want' rfl ?_
          refine x_move (.pointer _) rfl ?_
          refine x_want' rfl ?_
          refine x_move (.slice _ _ _) rfl ?_
          refine x_want' rfl ?_
          refine x_call Try.f19 Try.func19 rfl rfl _ rfl ?_
          refine ((table_calls (hs.pull 6) hinl (by omega))).mono ?_
          clear hs; rintro e w ⟨M, rfl, hs⟩
          refine ⟨_, rfl, fun h => (by first | (cases h; done) | (first | exact hs.cells2 rfl rfl | exact (hs.pull 1).cells2 rfl rfl | exact (hs.pull 2).cells2 rfl rfl | exact (hs.pull 3).cells2 rfl rfl | exact (hs.pull 4).cells2 rfl rfl | exact (hs.pull 5).cells2 rfl rfl | exact (hs.pull 6).cells2 rfl rfl | exact (hs.pull 7).cells2 rfl rfl | exact (hs.pull 8).cells2 rfl rfl | exact hs.cell rfl | exact (hs.pull 1).cell rfl | exact (hs.pull 2).cell rfl | exact (hs.pull 3).cell rfl | exact (hs.pull 4).cell rfl | exact (hs.pull 5).cell rfl | exact (hs.pull 6).cell rfl | exact (hs.pull 7).cell rfl | exact (hs.pull 8).cell rfl | assumption | exact hs.cellsOf | exact (hs.pull 1).cellsOf | exact (hs.pull 2).cellsOf | exact (hs.pull 3).cellsOf | exact (hs.pull 4).cellsOf | exact (hs.pull 5).cellsOf | exact (hs.pull 6).cellsOf | exact (hs.pull 7).cellsOf | exact (hs.pull 8).cellsOf) | (and_intros <;> first | exact hs.cells2 rfl rfl | exact (hs.pull 1).cells2 rfl rfl | exact (hs.pull 2).cells2 rfl rfl | exact (hs.pull 3).cells2 rfl rfl | exact (hs.pull 4).cells2 rfl rfl | exact (hs.pull 5).cells2 rfl rfl | exact (hs.pull 6).cells2 rfl rfl | exact (hs.pull 7).cells2 rfl rfl | exact (hs.pull 8).cells2 rfl rfl | exact hs.cell rfl | exact (hs.pull 1).cell rfl | exact (hs.pull 2).cell rfl | exact (hs.pull 3).cell rfl | exact (hs.pull 4).cell rfl | exact (hs.pull 5).cell rfl | exact (hs.pull 6).cell rfl | exact (hs.pull 7).cell rfl | exact (hs.pull 8).cell rfl | assumption | exact hs.cellsOf | exact (hs.pull 1).cellsOf | exact (hs.pull 2).cellsOf | exact (hs.pull 3).cellsOf | exact (hs.pull 4).cellsOf | exact (hs.pull 5).cellsOf | exact (hs.pull 6).cellsOf | exact (hs.pull 7).cellsOf | exact (hs.pull 8).cellsOf)), ?_⟩
          refine x_want' rfl ?_
          refine x_call Try.f9 Try.func9 rfl rfl _ rfl ?_
          refine ((fready_calls (hs.perm [2, 0, 1, 3, 4, 5, 6, 7]))).mono ?_
          clear hs; rintro e w ⟨rfl, hs⟩
          refine ⟨_, rfl, fun h => (by first | (cases h; done) | (first | exact hs.cells2 rfl rfl | exact (hs.pull 1).cells2 rfl rfl | exact (hs.pull 2).cells2 rfl rfl | exact (hs.pull 3).cells2 rfl rfl | exact (hs.pull 4).cells2 rfl rfl | exact (hs.pull 5).cells2 rfl rfl | exact (hs.pull 6).cells2 rfl rfl | exact (hs.pull 7).cells2 rfl rfl | exact (hs.pull 8).cells2 rfl rfl | exact hs.cell rfl | exact (hs.pull 1).cell rfl | exact (hs.pull 2).cell rfl | exact (hs.pull 3).cell rfl | exact (hs.pull 4).cell rfl | exact (hs.pull 5).cell rfl | exact (hs.pull 6).cell rfl | exact (hs.pull 7).cell rfl | exact (hs.pull 8).cell rfl | assumption | exact hs.cellsOf | exact (hs.pull 1).cellsOf | exact (hs.pull 2).cellsOf | exact (hs.pull 3).cellsOf | exact (hs.pull 4).cellsOf | exact (hs.pull 5).cellsOf | exact (hs.pull 6).cellsOf | exact (hs.pull 7).cellsOf | exact (hs.pull 8).cellsOf) | (and_intros <;> first | exact hs.cells2 rfl rfl | exact (hs.pull 1).cells2 rfl rfl | exact (hs.pull 2).cells2 rfl rfl | exact (hs.pull 3).cells2 rfl rfl | exact (hs.pull 4).cells2 rfl rfl | exact (hs.pull 5).cells2 rfl rfl | exact (hs.pull 6).cells2 rfl rfl | exact (hs.pull 7).cells2 rfl rfl | exact (hs.pull 8).cells2 rfl rfl | exact hs.cell rfl | exact (hs.pull 1).cell rfl | exact (hs.pull 2).cell rfl | exact (hs.pull 3).cell rfl | exact (hs.pull 4).cell rfl | exact (hs.pull 5).cell rfl | exact (hs.pull 6).cell rfl | exact (hs.pull 7).cell rfl | exact (hs.pull 8).cell rfl | assumption | exact hs.cellsOf | exact (hs.pull 1).cellsOf | exact (hs.pull 2).cellsOf | exact (hs.pull 3).cellsOf | exact (hs.pull 4).cellsOf | exact (hs.pull 5).cellsOf | exact (hs.pull 6).cellsOf | exact (hs.pull 7).cellsOf | exact (hs.pull 8).cellsOf)), ?_⟩
          refine x_want' rfl ?_
          refine x_call Try.f20 Try.func20 rfl rfl _ rfl ?_
          refine ((rready_calls (s := s') (Sat.fr' (s := s') (hs.perm [3, 4, 5, 2, 0, 1, 6, 7])) hinl (by omega) (by omega) (by omega))).mono ?_
          clear hs; rintro e w ⟨rfl, hs⟩
          refine ⟨_, rfl, fun h => (by first | (cases h; done) | (first | exact hs.cells2 rfl rfl | exact (hs.pull 1).cells2 rfl rfl | exact (hs.pull 2).cells2 rfl rfl | exact (hs.pull 3).cells2 rfl rfl | exact (hs.pull 4).cells2 rfl rfl | exact (hs.pull 5).cells2 rfl rfl | exact (hs.pull 6).cells2 rfl rfl | exact (hs.pull 7).cells2 rfl rfl | exact (hs.pull 8).cells2 rfl rfl | exact hs.cell rfl | exact (hs.pull 1).cell rfl | exact (hs.pull 2).cell rfl | exact (hs.pull 3).cell rfl | exact (hs.pull 4).cell rfl | exact (hs.pull 5).cell rfl | exact (hs.pull 6).cell rfl | exact (hs.pull 7).cell rfl | exact (hs.pull 8).cell rfl | assumption | exact hs.cellsOf | exact (hs.pull 1).cellsOf | exact (hs.pull 2).cellsOf | exact (hs.pull 3).cellsOf | exact (hs.pull 4).cellsOf | exact (hs.pull 5).cellsOf | exact (hs.pull 6).cellsOf | exact (hs.pull 7).cellsOf | exact (hs.pull 8).cellsOf) | (and_intros <;> first | exact hs.cells2 rfl rfl | exact (hs.pull 1).cells2 rfl rfl | exact (hs.pull 2).cells2 rfl rfl | exact (hs.pull 3).cells2 rfl rfl | exact (hs.pull 4).cells2 rfl rfl | exact (hs.pull 5).cells2 rfl rfl | exact (hs.pull 6).cells2 rfl rfl | exact (hs.pull 7).cells2 rfl rfl | exact (hs.pull 8).cells2 rfl rfl | exact hs.cell rfl | exact (hs.pull 1).cell rfl | exact (hs.pull 2).cell rfl | exact (hs.pull 3).cell rfl | exact (hs.pull 4).cell rfl | exact (hs.pull 5).cell rfl | exact (hs.pull 6).cell rfl | exact (hs.pull 7).cell rfl | exact (hs.pull 8).cell rfl | assumption | exact hs.cellsOf | exact (hs.pull 1).cellsOf | exact (hs.pull 2).cellsOf | exact (hs.pull 3).cellsOf | exact (hs.pull 4).cellsOf | exact (hs.pull 5).cellsOf | exact (hs.pull 6).cellsOf | exact (hs.pull 7).cellsOf | exact (hs.pull 8).cellsOf)), ?_⟩
          refine x_want' rfl ?_
          refine x_neqBF _ _ Try.underlying4 rfl rfl (by first | rfl | assumption | (simp; done) | (simp_all; done)) ?_
          refine x_pickF (.bool _) rfl rfl ?_
          refine x_move (.bool _) rfl ?_
          refine x_want' rfl ?_
          refine x_move (.pointer _) rfl ?_
          refine x_want' rfl ?_
          refine x_move (.int _ _) rfl ?_
          refine x_want' rfl ?_
          refine x_call Try.f21 Try.func21 rfl rfl _ rfl ?_
          refine (fview_calls (hs.pull 2)).mono ?_
          clear hs; rintro e w ⟨rfl, hs⟩
          replace hs := hs.push 2
          try dsimp only [back] at hs
          refine ⟨_, rfl, fun h => (by first | (cases h; done) | (first | exact hs.cells2 rfl rfl | exact (hs.pull 1).cells2 rfl rfl | exact (hs.pull 2).cells2 rfl rfl | exact (hs.pull 3).cells2 rfl rfl | exact (hs.pull 4).cells2 rfl rfl | exact (hs.pull 5).cells2 rfl rfl | exact (hs.pull 6).cells2 rfl rfl | exact (hs.pull 7).cells2 rfl rfl | exact (hs.pull 8).cells2 rfl rfl | exact hs.cell rfl | exact (hs.pull 1).cell rfl | exact (hs.pull 2).cell rfl | exact (hs.pull 3).cell rfl | exact (hs.pull 4).cell rfl | exact (hs.pull 5).cell rfl | exact (hs.pull 6).cell rfl | exact (hs.pull 7).cell rfl | exact (hs.pull 8).cell rfl | assumption | exact hs.cellsOf | exact (hs.pull 1).cellsOf | exact (hs.pull 2).cellsOf | exact (hs.pull 3).cellsOf | exact (hs.pull 4).cellsOf | exact (hs.pull 5).cellsOf | exact (hs.pull 6).cellsOf | exact (hs.pull 7).cellsOf | exact (hs.pull 8).cellsOf) | (and_intros <;> first | exact hs.cells2 rfl rfl | exact (hs.pull 1).cells2 rfl rfl | exact (hs.pull 2).cells2 rfl rfl | exact (hs.pull 3).cells2 rfl rfl | exact (hs.pull 4).cells2 rfl rfl | exact (hs.pull 5).cells2 rfl rfl | exact (hs.pull 6).cells2 rfl rfl | exact (hs.pull 7).cells2 rfl rfl | exact (hs.pull 8).cells2 rfl rfl | exact hs.cell rfl | exact (hs.pull 1).cell rfl | exact (hs.pull 2).cell rfl | exact (hs.pull 3).cell rfl | exact (hs.pull 4).cell rfl | exact (hs.pull 5).cell rfl | exact (hs.pull 6).cell rfl | exact (hs.pull 7).cell rfl | exact (hs.pull 8).cell rfl | assumption | exact hs.cellsOf | exact (hs.pull 1).cellsOf | exact (hs.pull 2).cellsOf | exact (hs.pull 3).cellsOf | exact (hs.pull 4).cellsOf | exact (hs.pull 5).cellsOf | exact (hs.pull 6).cellsOf | exact (hs.pull 7).cellsOf | exact (hs.pull 8).cellsOf)), ?_⟩
          refine x_want' rfl ?_
          refine x_neqF _ _ rfl rfl (by omega) ?_
          refine x_pickF (.bool _) rfl rfl ?_
          refine x_nil ?_
          refine then_n ?_
          refine c_false rfl ?_
          refine c_skip ?_
          refine inb_n ?_
          refine then_n ?_
          -- region 6
          refine c_region ?_
          refine x_move (.int _ _) rfl ?_
          refine x_add _ _ rfl rfl (by simp only [X.lo]; omega) (by simp only [X.hi]; omega) ?_
          refine x_assign (.int _ _) rfl ?_
          refine x_nil ?_
          refine then_n ?_
          refine ⟨(i + 1, s'), ⟨rfl, rfl, rfl, rfl, rfl, rfl, trivial⟩, ⟨by omega, hinv', hvw', Sat.left (Ls := [_, _, _]) (hs.perm [2, 0, 1])⟩, by first | omega | (dsimp only; omega)⟩
    · skip
      refine c_seq ?_
      refine c_seq ?_
      -- region 5
      refine c_region ?_
      refine x_move (.int _ _) rfl ?_
      refine x_move (.slice _ _ _) rfl ?_
      refine x_lenSl Try.underlying39 _ _ _ rfl ?_
      refine x_lssT _ _ rfl rfl (by omega) ?_
      refine x_move (.bool _) rfl ?_
      refine x_want' rfl ?_
      refine x_move (.int _ _) rfl ?_
      refine x_want' rfl ?_
      refine x_lssF _ _ rfl rfl (by omega) ?_
      refine x_pickT (.bool _) rfl rfl ?_
      refine x_nil ?_
      refine then_n ?_
      refine c_false rfl ?_
      refine c_exit ?_
      refine then_x ?_
      refine then_x ?_
      refine inb_e ?_
      refine then_n ?_
      exact ⟨(), ⟨rfl, trivial⟩, hs.tail.tail⟩
    · skip
      refine c_seq ?_
      refine c_seq ?_
      -- region 5
      refine c_region ?_
      refine x_move (.int _ _) rfl ?_
      refine x_move (.slice _ _ _) rfl ?_
      refine x_lenSl Try.underlying39 _ _ _ rfl ?_
      refine x_lssF _ _ rfl rfl (by omega) ?_
      refine x_move (.bool _) rfl ?_
      refine x_skip rfl rfl ?_
      refine x_skip rfl rfl ?_
      refine x_pickF (.bool _) rfl rfl ?_
      refine x_nil ?_
      refine then_n ?_
      refine c_false rfl ?_
      refine c_exit ?_
      refine then_x ?_
      refine then_x ?_
      refine inb_e ?_
      refine then_n ?_
      exact ⟨(), ⟨rfl, trivial⟩, hs.tail.tail⟩
  · skip
    clear hs
    rintro _u ρ w hs
    change CW Try.prog 132 _ _ (sets 132 [(9, .pointer (some ⟨f, 0, none⟩))] ρ) w
    refine c_seq ?_
    -- region 18
    refine c_region ?_
    refine x_call Try.f6 Try.func6 rfl rfl _ rfl ?_
    refine (awake24_calls hs).mono ?_
    clear hs; rintro e w ⟨rfl, hs⟩
    refine ⟨_, rfl, fun h => (by first | (cases h; done) | (first | exact hs.cells2 rfl rfl | exact (hs.pull 1).cells2 rfl rfl | exact (hs.pull 2).cells2 rfl rfl | exact (hs.pull 3).cells2 rfl rfl | exact (hs.pull 4).cells2 rfl rfl | exact (hs.pull 5).cells2 rfl rfl | exact (hs.pull 6).cells2 rfl rfl | exact (hs.pull 7).cells2 rfl rfl | exact (hs.pull 8).cells2 rfl rfl | exact hs.cell rfl | exact (hs.pull 1).cell rfl | exact (hs.pull 2).cell rfl | exact (hs.pull 3).cell rfl | exact (hs.pull 4).cell rfl | exact (hs.pull 5).cell rfl | exact (hs.pull 6).cell rfl | exact (hs.pull 7).cell rfl | exact (hs.pull 8).cell rfl | assumption | exact hs.cellsOf | exact (hs.pull 1).cellsOf | exact (hs.pull 2).cellsOf | exact (hs.pull 3).cellsOf | exact (hs.pull 4).cellsOf | exact (hs.pull 5).cellsOf | exact (hs.pull 6).cellsOf | exact (hs.pull 7).cellsOf | exact (hs.pull 8).cellsOf) | (and_intros <;> first | exact hs.cells2 rfl rfl | exact (hs.pull 1).cells2 rfl rfl | exact (hs.pull 2).cells2 rfl rfl | exact (hs.pull 3).cells2 rfl rfl | exact (hs.pull 4).cells2 rfl rfl | exact (hs.pull 5).cells2 rfl rfl | exact (hs.pull 6).cells2 rfl rfl | exact (hs.pull 7).cells2 rfl rfl | exact (hs.pull 8).cells2 rfl rfl | exact hs.cell rfl | exact (hs.pull 1).cell rfl | exact (hs.pull 2).cell rfl | exact (hs.pull 3).cell rfl | exact (hs.pull 4).cell rfl | exact (hs.pull 5).cell rfl | exact (hs.pull 6).cell rfl | exact (hs.pull 7).cell rfl | exact (hs.pull 8).cell rfl | assumption | exact hs.cellsOf | exact (hs.pull 1).cellsOf | exact (hs.pull 2).cellsOf | exact (hs.pull 3).cellsOf | exact (hs.pull 4).cellsOf | exact (hs.pull 5).cellsOf | exact (hs.pull 6).cellsOf | exact (hs.pull 7).cellsOf | exact (hs.pull 8).cellsOf)), ?_⟩
    refine x_assign (.bool _) rfl ?_
    refine x_nil ?_
    refine then_n ?_
    refine c_ret ?_
    refine ⟨.inr rfl, ?_⟩
    exact ⟨rfl, hs⟩
theorem walk_FlushPlays {H : Type} {enc : TypeId × Value → H} {w0 : World} {x0 : Int} {a1 a2 a3 : Option Addr} {l1 c1 l2 c2 l3 c3 : Nat} (h0 : TR enc Try.prog w0 27 [.int .u64 x0]) (h1 : TR enc Try.prog w0 22 [.slice a1 l1 c1]) (h2 : TR enc Try.prog w0 39 [.slice a2 l2 c2]) (h3 : TR enc Try.prog w0 40 [.slice a3 l3 c3]) :
    Calls Try.prog 4 #[.int .u64 x0, .slice a1 l1 c1, .slice a2 l2 c2, .slice a3 l3 c3] w0 fun e w' => e = .returned (.bool true) ∧ Below w0.heap.size w0 w' := by
  by_cases hw1 : 40 < l1
  · refine law_of fun w hs => ?_
    refine enter Try.func4 rfl Try.ntmps4 8 rfl (Nat.le_of_ble_eq_true rfl) ?_
    refine c_seq ?_
    -- region 0
    refine c_region ?_
    refine x_assign (.bool _) rfl ?_
    refine x_nil ?_
    refine then_n ?_
    refine c_seq ?_
    refine c_seq ?_
    -- region 1
    refine c_region ?_
    refine x_move (.slice _ _ _) rfl ?_
    refine x_lenSl Try.underlying22 _ _ _ rfl ?_
    refine x_gtrT _ _ rfl rfl (by omega) ?_
    refine x_move (.bool _) rfl ?_
    refine x_skip rfl rfl ?_
    refine x_skip rfl rfl ?_
    refine x_skip rfl rfl ?_
    refine x_pickT (.bool _) rfl rfl ?_
    refine x_nil ?_
    refine then_n ?_
    refine c_true rfl ?_
    refine c_seq ?_
    -- region 2
    refine c_region ?_
    refine x_call Try.f6 Try.func6 rfl rfl _ rfl ?_
    refine (awake24_calls hs).mono ?_
    clear hs; rintro e w ⟨rfl, hs⟩
    refine ⟨_, rfl, fun h => (by first | (cases h; done) | (first | exact hs.cells2 rfl rfl | exact (hs.pull 1).cells2 rfl rfl | exact (hs.pull 2).cells2 rfl rfl | exact (hs.pull 3).cells2 rfl rfl | exact (hs.pull 4).cells2 rfl rfl | exact (hs.pull 5).cells2 rfl rfl | exact (hs.pull 6).cells2 rfl rfl | exact (hs.pull 7).cells2 rfl rfl | exact (hs.pull 8).cells2 rfl rfl | exact hs.cell rfl | exact (hs.pull 1).cell rfl | exact (hs.pull 2).cell rfl | exact (hs.pull 3).cell rfl | exact (hs.pull 4).cell rfl | exact (hs.pull 5).cell rfl | exact (hs.pull 6).cell rfl | exact (hs.pull 7).cell rfl | exact (hs.pull 8).cell rfl | assumption | exact hs.cellsOf | exact (hs.pull 1).cellsOf | exact (hs.pull 2).cellsOf | exact (hs.pull 3).cellsOf | exact (hs.pull 4).cellsOf | exact (hs.pull 5).cellsOf | exact (hs.pull 6).cellsOf | exact (hs.pull 7).cellsOf | exact (hs.pull 8).cellsOf) | (and_intros <;> first | exact hs.cells2 rfl rfl | exact (hs.pull 1).cells2 rfl rfl | exact (hs.pull 2).cells2 rfl rfl | exact (hs.pull 3).cells2 rfl rfl | exact (hs.pull 4).cells2 rfl rfl | exact (hs.pull 5).cells2 rfl rfl | exact (hs.pull 6).cells2 rfl rfl | exact (hs.pull 7).cells2 rfl rfl | exact (hs.pull 8).cells2 rfl rfl | exact hs.cell rfl | exact (hs.pull 1).cell rfl | exact (hs.pull 2).cell rfl | exact (hs.pull 3).cell rfl | exact (hs.pull 4).cell rfl | exact (hs.pull 5).cell rfl | exact (hs.pull 6).cell rfl | exact (hs.pull 7).cell rfl | exact (hs.pull 8).cell rfl | assumption | exact hs.cellsOf | exact (hs.pull 1).cellsOf | exact (hs.pull 2).cellsOf | exact (hs.pull 3).cellsOf | exact (hs.pull 4).cellsOf | exact (hs.pull 5).cellsOf | exact (hs.pull 6).cellsOf | exact (hs.pull 7).cellsOf | exact (hs.pull 8).cellsOf)), ?_⟩
    refine x_assign (.bool _) rfl ?_
    refine x_nil ?_
    refine then_n ?_
    refine c_ret ?_
    refine then_r ?_
    refine ⟨.inr rfl, ?_⟩
    exact ⟨rfl, hs⟩
  by_cases hw3 : 40 < l3
  · refine law_of fun w hs => ?_
    refine enter Try.func4 rfl Try.ntmps4 8 rfl (Nat.le_of_ble_eq_true rfl) ?_
    refine c_seq ?_
    -- region 0
    refine c_region ?_
    refine x_assign (.bool _) rfl ?_
    refine x_nil ?_
    refine then_n ?_
    refine c_seq ?_
    refine c_seq ?_
    -- region 1
    refine c_region ?_
    refine x_move (.slice _ _ _) rfl ?_
    refine x_lenSl Try.underlying22 _ _ _ rfl ?_
    refine x_gtrF _ _ rfl rfl (by omega) ?_
    refine x_move (.bool _) rfl ?_
    refine x_want' rfl ?_
    refine x_move (.slice _ _ _) rfl ?_
    refine x_want' rfl ?_
    refine x_lenSl Try.underlying40 _ _ _ rfl ?_
    refine x_want' rfl ?_
    refine x_gtrT _ _ rfl rfl (by omega) ?_
    refine x_pickF (.bool _) rfl rfl ?_
    refine x_nil ?_
    refine then_n ?_
    refine c_true rfl ?_
    refine c_seq ?_
    -- region 2
    refine c_region ?_
    refine x_call Try.f6 Try.func6 rfl rfl _ rfl ?_
    refine (awake24_calls hs).mono ?_
    clear hs; rintro e w ⟨rfl, hs⟩
    refine ⟨_, rfl, fun h => (by first | (cases h; done) | (first | exact hs.cells2 rfl rfl | exact (hs.pull 1).cells2 rfl rfl | exact (hs.pull 2).cells2 rfl rfl | exact (hs.pull 3).cells2 rfl rfl | exact (hs.pull 4).cells2 rfl rfl | exact (hs.pull 5).cells2 rfl rfl | exact (hs.pull 6).cells2 rfl rfl | exact (hs.pull 7).cells2 rfl rfl | exact (hs.pull 8).cells2 rfl rfl | exact hs.cell rfl | exact (hs.pull 1).cell rfl | exact (hs.pull 2).cell rfl | exact (hs.pull 3).cell rfl | exact (hs.pull 4).cell rfl | exact (hs.pull 5).cell rfl | exact (hs.pull 6).cell rfl | exact (hs.pull 7).cell rfl | exact (hs.pull 8).cell rfl | assumption | exact hs.cellsOf | exact (hs.pull 1).cellsOf | exact (hs.pull 2).cellsOf | exact (hs.pull 3).cellsOf | exact (hs.pull 4).cellsOf | exact (hs.pull 5).cellsOf | exact (hs.pull 6).cellsOf | exact (hs.pull 7).cellsOf | exact (hs.pull 8).cellsOf) | (and_intros <;> first | exact hs.cells2 rfl rfl | exact (hs.pull 1).cells2 rfl rfl | exact (hs.pull 2).cells2 rfl rfl | exact (hs.pull 3).cells2 rfl rfl | exact (hs.pull 4).cells2 rfl rfl | exact (hs.pull 5).cells2 rfl rfl | exact (hs.pull 6).cells2 rfl rfl | exact (hs.pull 7).cells2 rfl rfl | exact (hs.pull 8).cells2 rfl rfl | exact hs.cell rfl | exact (hs.pull 1).cell rfl | exact (hs.pull 2).cell rfl | exact (hs.pull 3).cell rfl | exact (hs.pull 4).cell rfl | exact (hs.pull 5).cell rfl | exact (hs.pull 6).cell rfl | exact (hs.pull 7).cell rfl | exact (hs.pull 8).cell rfl | assumption | exact hs.cellsOf | exact (hs.pull 1).cellsOf | exact (hs.pull 2).cellsOf | exact (hs.pull 3).cellsOf | exact (hs.pull 4).cellsOf | exact (hs.pull 5).cellsOf | exact (hs.pull 6).cellsOf | exact (hs.pull 7).cellsOf | exact (hs.pull 8).cellsOf)), ?_⟩
    refine x_assign (.bool _) rfl ?_
    refine x_nil ?_
    refine then_n ?_
    refine c_ret ?_
    refine then_r ?_
    refine ⟨.inr rfl, ?_⟩
    exact ⟨rfl, hs⟩
  exact fp_main h0 h1 h2 h3 hw1 hw3
end Go.Proofs.Ythhojdbklnoooaa.X
