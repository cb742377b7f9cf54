/-
  LAYER 14: great, the script; what all things keep; the law FlightPlays.
-/
import Derived.Test.YtipleepbhcembaaFl9
import Derived.Test.YtipleepbhcembaaPid
namespace Go.Proofs.Ytipleepbhcembaa.X
open Go Go.RowKit
set_option linter.unusedVariables false
set_option maxRecDepth 20000
structure Act where
  Kind : Int
  N : Int
  At : Int
  X : Int
  Y : Int
  To : Pid
  B : Value × List UInt8
def Act.cells (x : Act) : List Value := [.int .i64 x.Kind] ++ [.int .i64 x.N] ++ [.int .i64 x.At] ++ [.int .i64 x.X] ++ [.int .i64 x.Y] ++ x.To.cells ++ [x.B.1]
structure Act.fine (x : Act) (w : World) : Prop where
  Kind : -9223372036854775808 ≤ x.Kind ∧ x.Kind ≤ 9223372036854775807
  N : -9223372036854775808 ≤ x.N ∧ x.N ≤ 9223372036854775807
  At : -9223372036854775808 ≤ x.At ∧ x.At ≤ 9223372036854775807
  X : -9223372036854775808 ≤ x.X ∧ x.X ≤ 9223372036854775807
  Y : -9223372036854775808 ≤ x.Y ∧ x.Y ≤ 9223372036854775807
  To : x.To.fine w
  B : RB w x.B.1 x.B.2 ∧ x.B.2.length ≤ maxLen
theorem Act.cells_len (x : Act) : x.cells.length = 8 := by first | rfl | (simp [Act.cells, Pid.cells_len])
theorem Act.fine.below {x : Act} {w w' : World} (h : x.fine w) (hb : Below w.heap.size w w') : x.fine w' := ⟨h.Kind, h.N, h.At, h.X, h.Y, h.To.below hb, ⟨RD.below h.B.1 hb, h.B.2⟩⟩
set_option maxRecDepth 20000 in
theorem TR.Act {H : Type} {enc : TypeId × Value → H} {w : World} {cs : List Value} (h : TR enc Try.prog w 44 cs) : ∃ x : Act, cs = x.cells ∧ x.fine w := by
  obtain ⟨h1, h2⟩ := h.struct Try.underlying44
  rw [show Try.prog.cellsOf 44 = 8 from by kernel_rfl] at h1
  match cs, h1 with
  | [y0, y1, y2, y3, y4, y5, y6, y7], _ =>
    have g0 := h2 0 _ rfl
    change TR enc Try.prog w 3 (([y0, y1, y2, y3, y4, y5, y6, y7].drop 0).take (Try.prog.cellsOf 3)) at g0
    rw [show Try.prog.cellsOf 3 = 1 from by kernel_rfl] at g0
    change TR enc Try.prog w 3 [y0] at g0
    obtain ⟨x0, e0, hx0⟩ := TR.int1 Try.underlying3 rfl g0
    have g1 := h2 1 _ rfl
    change TR enc Try.prog w 3 (([y0, y1, y2, y3, y4, y5, y6, y7].drop 1).take (Try.prog.cellsOf 3)) at g1
    rw [show Try.prog.cellsOf 3 = 1 from by kernel_rfl] at g1
    change TR enc Try.prog w 3 [y1] at g1
    obtain ⟨x1, e1, hx1⟩ := TR.int1 Try.underlying3 rfl g1
    have g2 := h2 2 _ rfl
    change TR enc Try.prog w 3 (([y0, y1, y2, y3, y4, y5, y6, y7].drop 2).take (Try.prog.cellsOf 3)) at g2
    rw [show Try.prog.cellsOf 3 = 1 from by kernel_rfl] at g2
    change TR enc Try.prog w 3 [y2] at g2
    obtain ⟨x2, e2, hx2⟩ := TR.int1 Try.underlying3 rfl g2
    have g3 := h2 3 _ rfl
    change TR enc Try.prog w 3 (([y0, y1, y2, y3, y4, y5, y6, y7].drop 3).take (Try.prog.cellsOf 3)) at g3
    rw [show Try.prog.cellsOf 3 = 1 from by kernel_rfl] at g3
    change TR enc Try.prog w 3 [y3] at g3
    obtain ⟨x3, e3, hx3⟩ := TR.int1 Try.underlying3 rfl g3
    have g4 := h2 4 _ rfl
    change TR enc Try.prog w 3 (([y0, y1, y2, y3, y4, y5, y6, y7].drop 4).take (Try.prog.cellsOf 3)) at g4
    rw [show Try.prog.cellsOf 3 = 1 from by kernel_rfl] at g4
    change TR enc Try.prog w 3 [y4] at g4
    obtain ⟨x4, e4, hx4⟩ := TR.int1 Try.underlying3 rfl g4
    have g5 := h2 5 _ rfl
    change TR enc Try.prog w 30 (([y0, y1, y2, y3, y4, y5, y6, y7].drop 5).take (Try.prog.cellsOf 30)) at g5
    rw [show Try.prog.cellsOf 30 = 2 from by kernel_rfl] at g5
    change TR enc Try.prog w 30 [y5, y6] at g5
    obtain ⟨x5, e5, hx5⟩ := TR.Pid g5
    have g6 := h2 6 _ rfl
    change TR enc Try.prog w 22 (([y0, y1, y2, y3, y4, y5, y6, y7].drop 7).take (Try.prog.cellsOf 22)) at g6
    rw [show Try.prog.cellsOf 22 = 1 from by kernel_rfl] at g6
    change TR enc Try.prog w 22 [y7] at g6
    obtain ⟨x6, e6, hx6⟩ := TR.bytes1 Try.underlying22 Try.underlying5 (by kernel_rfl) g6
    refine ⟨⟨x0, x1, x2, x3, x4, x5, x6⟩, ?_, ⟨hx0, hx1, hx2, hx3, hx4, hx5, hx6⟩⟩
    show [y0, y1, y2, y3, y4, y5, y6, y7] = _
    rw [show [y0, y1, y2, y3, y4, y5, y6, y7] = [y0] ++ [y1] ++ [y2] ++ [y3] ++ [y4] ++ [y5, y6] ++ [y7] from rfl, e0, e1, e2, e3, e4, e5, e6]
    rfl
theorem Sat.left {w0 w : World} {Ls L : List HP} (hs : Sat w0 w (Ls ++ L)) : Sat w0 w Ls := hs.map fun h hh => let ⟨_, _, _, hA, _⟩ := SatH.unflat hh; hA.of_on
theorem eq_pid : EQ Try.prog 30 fun p : Pid => .agg #[.int .u16 (p.Id : Nat), .int .u32 (p.Inc : Nat)] :=
  eq2_of (fun p : Pid => p.Id) (fun p => p.Inc) Try.underlying30 (by decide) (by decide) rfl rfl Try.underlying27 Try.underlying28 (one_of Try.underlying27 rfl (by kernel_rfl)) (one_of Try.underlying28 rfl (by kernel_rfl)) (by kernel_rfl) (by kernel_rfl) fun a b h1 h2 => by
    cases a; cases b; simp_all
theorem great14_calls {w0 w1 : World} {L : List HP} {v : Value} {acts : List Act} (hs : Sat w0 w1 L) (hr : RS w1 8 Act.cells v acts) (hf : ∀ x ∈ acts, x.fine w1) (hlen : acts.length ≤ 9223372036854775807) :
    Calls Try.prog 13 #[v] w1 fun e w' => ∃ r, e = .returned (.bool r) ∧ Sat w0 w' L ∧ w'.heap = w1.heap ∧ (r = false → ∀ (j : Nat) (x : Act), j < 60 → acts[j]? = some x → x.B.2.length ≤ 300) := by
  obtain ⟨a0, c0, rfl⟩ := hr.val
  refine enter Try.func13 rfl Try.ntmps13 2 rfl (Nat.le_of_ble_eq_true rfl) ?_
  refine c_seq ?_
  -- region 0
  refine c_region ?_
  refine x_assign (.bool _) rfl ?_
  refine x_nil ?_
  refine then_n ?_
  refine c_seq ?_
  refine c_seq ?_
  -- region 1
  refine c_region ?_
  refine x_assign (.int _ _) rfl ?_
  refine x_nil ?_
  refine then_n ?_
  refine c_block ?_
  refine c_loop (γ := Nat) (fun (i : Nat) => [(0, .slice a0 acts.length c0), (3, .int .i64 (i : Nat))]) (fun (i : Nat) w => i ≤ 60 ∧ i ≤ acts.length ∧ (∀ (j : Nat) (x : Act), j < i → acts[j]? = some x → x.B.2.length ≤ 300) ∧ Sat w0 w L ∧ w.heap = w1.heap) (fun (i : Nat) => 60 - i) 0 ⟨rfl, rfl, trivial⟩ ⟨Nat.zero_le _, Nat.zero_le _, fun j x h => (by omega), hs, rfl⟩ ?_
  clear hs
  rintro i ρ w ⟨hi, hil, hall, hs, hw⟩
  change CW Try.prog 21 _ _ (sets 21 [(0, .slice a0 acts.length c0), (3, .int .i64 (i : Nat))] ρ) w
  by_cases h1 : i < acts.length
  by_cases h2 : i < 60
  · skip
    refine c_seq ?_
    refine c_seq ?_
    -- region 2
    refine c_region ?_
    refine x_move (.int _ _) rfl ?_
    refine x_move (.slice _ _ _) rfl ?_
    refine x_lenSl Try.underlying37 _ _ _ rfl ?_
    refine x_lssT _ _ rfl rfl (by omega) ?_
    refine x_move (.bool _) rfl ?_
    refine x_want' rfl ?_
    refine x_move (.int _ _) rfl ?_
    refine x_want' rfl ?_
    refine x_lssT _ _ rfl rfl (by omega) ?_
    refine x_pickT (.bool _) rfl rfl ?_
    refine x_nil ?_
    refine then_n ?_
    obtain ⟨x, hx⟩ : ∃ x, acts[i]? = some x := ⟨acts[i]'h1, List.getElem?_eq_getElem _⟩
    have hr := hr.heapEq hw
    have hfx := hf x (List.mem_of_getElem? hx)
    have hstep : x.B.2.length ≤ 300 → ∀ (j : Nat) (x : Act), j < i + 1 → acts[j]? = some x → x.B.2.length ≤ 300 := fun hB j y hj hy => by
      by_cases hji : j < i
      · exact hall j y hji hy
      · obtain rfl : j = i := by omega
        rw [hx] at hy; cases hy; exact hB
    obtain ⟨g, o, rfl⟩ := hr.addr (by omega)
    obtain ⟨Kind, N, At, X0, Y0, To, ⟨vB, B⟩⟩ := x
    obtain ⟨a2, c2, rfl⟩ : ∃ a c, vB = .slice a B.length c := hfx.B.1.val
    have hcB := hr.cell (fun a => a.cells_len) hx (q := 7) rfl
    have hBm := hfx.B.2
    dsimp only at hcB hstep hBm
    unfold maxLen at hBm
    by_cases h3 : 300 < B.length
    rotate_left
    · skip
      refine c_true rfl ?_
      refine c_skip ?_
      refine then_n ?_
      refine c_seq ?_
      refine c_block ?_
      refine c_seq ?_
      -- region 4
      refine c_region ?_
      refine x_move (.slice _ _ _) rfl ?_
      refine x_move (.int _ _) rfl ?_
      refine x_indexAddr Try.underlying37 sz_44 _ _ _ _ _ rfl rfl (by omega) ?_
      first | refine x_field0 fa_44_6 _ rfl ?_ | refine x_field fa_44_6 _ _ rfl ?_
      refine x_load one_22 _ (.slice _ _ _) rfl (by first | exact hs.cell rfl | exact (hs.pull 1).cell rfl | exact (hs.pull 2).cell rfl | exact (hs.pull 3).cell rfl | assumption | exact (hs.pull 4).cell rfl | exact (hs.pull 5).cell rfl | exact (hs.pull 6).cell rfl | exact (hs.pull 7).cell rfl) ?_
      refine x_lenSl Try.underlying22 _ _ _ rfl ?_
      refine x_gtrF _ _ rfl rfl (by omega) ?_
      refine x_nil ?_
      refine then_n ?_
      refine c_false rfl ?_
      refine c_skip ?_
      refine inb_n ?_
      refine then_n ?_
      -- region 3
      refine c_region ?_
      refine x_move (.int _ _) rfl ?_
      refine x_add _ _ rfl rfl (by simp only [X.lo]; omega) (by simp only [X.hi]; omega) ?_
      refine x_assign (.int _ _) rfl ?_
      refine x_nil ?_
      refine then_n ?_
      refine ⟨i + 1, ⟨rfl, rfl, trivial⟩, ⟨by omega, by omega, hstep (by omega), hs, hw⟩, by first | omega | (dsimp only; omega)⟩
    · skip
      refine c_true rfl ?_
      refine c_skip ?_
      refine then_n ?_
      refine c_seq ?_
      refine c_block ?_
      refine c_seq ?_
      -- region 4
      refine c_region ?_
      refine x_move (.slice _ _ _) rfl ?_
      refine x_move (.int _ _) rfl ?_
      refine x_indexAddr Try.underlying37 sz_44 _ _ _ _ _ rfl rfl (by omega) ?_
      first | refine x_field0 fa_44_6 _ rfl ?_ | refine x_field fa_44_6 _ _ rfl ?_
      refine x_load one_22 _ (.slice _ _ _) rfl (by first | exact hs.cell rfl | exact (hs.pull 1).cell rfl | exact (hs.pull 2).cell rfl | exact (hs.pull 3).cell rfl | assumption | exact (hs.pull 4).cell rfl | exact (hs.pull 5).cell rfl | exact (hs.pull 6).cell rfl | exact (hs.pull 7).cell rfl) ?_
      refine x_lenSl Try.underlying22 _ _ _ rfl ?_
      refine x_gtrT _ _ rfl rfl (by omega) ?_
      refine x_nil ?_
      refine then_n ?_
      refine c_true rfl ?_
      refine c_seq ?_
      -- region 5
      refine c_region ?_
      refine x_assign (.bool _) rfl ?_
      refine x_nil ?_
      refine then_n ?_
      refine c_ret ?_
      refine inb_r ?_
      refine then_r ?_
      refine then_r ?_
      refine inb_r ?_
      refine then_r ?_
      refine ⟨.inr rfl, ?_⟩
      exact ⟨true, rfl, hs, hw, fun h => nomatch h⟩
  · skip
    refine c_seq ?_
    refine c_seq ?_
    -- region 2
    refine c_region ?_
    refine x_move (.int _ _) rfl ?_
    refine x_move (.slice _ _ _) rfl ?_
    refine x_lenSl Try.underlying37 _ _ _ rfl ?_
    refine x_lssT _ _ rfl rfl (by omega) ?_
    refine x_move (.bool _) rfl ?_
    refine x_want' rfl ?_
    refine x_move (.int _ _) rfl ?_
    refine x_want' rfl ?_
    refine x_lssF _ _ rfl rfl (by omega) ?_
    refine x_pickT (.bool _) rfl rfl ?_
    refine x_nil ?_
    refine then_n ?_
    refine c_false rfl ?_
    refine c_exit ?_
    refine then_x ?_
    refine then_x ?_
    refine inb_e ?_
    refine then_n ?_
    refine c_seq ?_
    -- region 6
    refine c_region ?_
    refine x_assign (.bool _) rfl ?_
    refine x_nil ?_
    refine then_n ?_
    refine c_ret ?_
    refine ⟨.inr rfl, ?_⟩
    exact ⟨false, rfl, hs, hw, fun _ j x hj hx => hall j x (by omega) hx⟩
  · skip
    refine c_seq ?_
    refine c_seq ?_
    -- region 2
    refine c_region ?_
    refine x_move (.int _ _) rfl ?_
    refine x_move (.slice _ _ _) rfl ?_
    refine x_lenSl Try.underlying37 _ _ _ rfl ?_
    refine x_lssF _ _ rfl rfl (by omega) ?_
    refine x_move (.bool _) rfl ?_
    refine x_skip rfl rfl ?_
    refine x_skip rfl rfl ?_
    refine x_pickF (.bool _) rfl rfl ?_
    refine x_nil ?_
    refine then_n ?_
    refine c_false rfl ?_
    refine c_exit ?_
    refine then_x ?_
    refine then_x ?_
    refine inb_e ?_
    refine then_n ?_
    refine c_seq ?_
    -- region 6
    refine c_region ?_
    refine x_assign (.bool _) rfl ?_
    refine x_nil ?_
    refine then_n ?_
    refine c_ret ?_
    refine ⟨.inr rfl, ?_⟩
    exact ⟨false, rfl, hs, hw, fun _ j x hj hx => hall j x (by have := (List.getElem?_eq_some_iff.1 hx).1; omega) hx⟩
/-- few things, each of few bytes -/
structure thInv (l : List Thg) : Prop where
  len : l.length ≤ 512
  each : ∀ t ∈ l, t.b.length ≤ 300
theorem thInv.look {l : List Thg} (h : thInv l) (a : Int) : (thLook l a).b.length ≤ 300 := by
  unfold thLook
  by_cases hk : pk a l.length < l.length
  · rw [List.getD_eq_getElem?_getD, List.getElem?_eq_getElem hk]
    exact h.each _ (List.getElem_mem hk)
  · rw [List.getD_eq_getElem?_getD, List.getElem?_eq_none (by omega)]
    exact Nat.zero_le _
theorem thInv.put {l : List Thg} (h : thInv l) (to : Pid) {b : List UInt8} (hb : b.length ≤ 300) : thInv (thPut l to b).2 := by
  unfold thPut
  by_cases h5 : 512 ≤ l.length
  · rw [if_pos h5]; exact h
  · rw [if_neg h5]
    refine ⟨by simp; omega, fun t ht => ?_⟩
    rcases List.mem_append.1 ht with ht | ht
    · exact h.each t ht
    · simp at ht; subst ht; exact hb
theorem thInv.take {l : List Thg} (h : thInv l) (a : Int) : thInv (thTake l a) := by
  unfold thTake
  have h1 := h.len
  have h2 : (l.eraseIdx (pk a l.length)).length ≤ l.length := by rw [List.length_eraseIdx]; split <;> omega
  exact ⟨by omega, fun t ht => h.each t (List.mem_of_mem_eraseIdx ht)⟩
theorem thInv.double {l : List Thg} (h : thInv l) (a : Int) : thInv (thDouble l a).2 := by
  unfold thDouble
  by_cases h5 : l.length = 0 ∨ 512 ≤ l.length
  · rw [if_pos h5]; exact h
  · rw [if_neg h5]
    refine ⟨by simp; omega, fun t ht => ?_⟩
    rcases List.mem_append.1 ht with ht | ht
    · exact h.each t ht
    · simp at ht; subst ht; exact h.look a
theorem thInv.set {l : List Thg} (h : thInv l) (k : Nat) {t : Thg} (ht : t.b.length ≤ 300) : thInv (l.set k t) := by
  refine ⟨by rw [List.length_set]; exact h.len, fun x hx => ?_⟩
  rcases List.mem_or_eq_of_mem_set hx with hx | rfl
  · exact h.each x hx
  · exact ht
theorem thInv.spoil {l : List Thg} (h : thInv l) (a wh y : Int) : thInv (thSpoil l a wh y).2 := by
  unfold thSpoil
  split
  · exact h.set _ (by simpa using h.look a)
  · exact h
theorem thInv.cut {l : List Thg} (h : thInv l) (a n : Int) : thInv (thCut l a n).2 := by
  unfold thCut
  split
  · refine h.set _ ?_
    have := h.look a
    dsimp only
    rw [List.length_take]
    omega
  · exact h
theorem thInv.le {l : List Thg} (h : thInv l) : l.length ≤ 1000000 ∧ ∀ t ∈ l, t.b.length ≤ 1000000 := ⟨by have := h.len; omega, fun t ht => by have := h.each t ht; omega⟩
theorem thInv.nil : thInv [] := ⟨by simp, fun t h => nomatch h⟩
theorem RBnil (w : World) : RB w (.slice none 0 0) [] := ⟨rfl, none, 0, rfl, Nat.le_refl _, fun _ => rfl, (fun _ h => nomatch h)⟩
theorem pk_id {i n : Nat} (h : i < n) : pk (i : Int) n = i := by
  unfold pk
  rw [if_neg (by omega)]
  have e : ((i : Int)).tmod n = i := by
    rw [Int.tmod_eq_emod_of_nonneg (by omega)]
    exact Int.emod_eq_of_lt (by omega) (by omega)
  rw [e, if_neg (by omega)]
  omega
theorem bv_bytes (B : List UInt8) : ∀ u ∈ bv B, ∃ k : Nat, u = .int .u8 (k : Nat) ∧ k < 256 := fun u hu => by
  obtain ⟨y, _, rfl⟩ := List.mem_map.1 hu
  exact ⟨y.toNat, rfl, y.toNat_lt⟩
theorem set_bytes {xs : List Value} {j k : Nat} (h : ∀ u ∈ xs, ∃ k : Nat, u = .int .u8 (k : Nat) ∧ k < 256) (hk : k < 256) : ∀ u ∈ xs.set j (.int .u8 (k : Nat)), ∃ k : Nat, u = .int .u8 (k : Nat) ∧ k < 256 := fun u hu => by
  rcases List.mem_or_eq_of_mem_set hu with hu | rfl
  · exact h u hu
  · exact ⟨k, rfl, hk⟩
set_option maxHeartbeats 16000000 in
theorem walk_FlightPlays {H : Type} {enc : TypeId × Value → H} {w0 : World} {a0 : Option Addr} {l0 c0 : Nat} (h0 : TR enc Try.prog w0 37 [.slice a0 l0 c0]) :
    Calls Try.prog 4 #[.slice a0 l0 c0] w0 fun e w' => e = .returned (.bool true) ∧ Below w0.heap.size w0 w' := by
  obtain ⟨acts, rfl, hrd, hlen, hfa⟩ := TR.arg (k := 8) Try.underlying37 (by kernel_rfl) (by decide) (fun r hr => TR.Act hr) h0
  refine law_of fun w hs => ?_
  have hin : ∀ w' L', Sat w0 w' (Init w0 :: L') → RS w' 8 Act.cells (.slice a0 acts.length c0) acts := fun w' L' h => hrd.below h.init
  have hfin : ∀ w' L', Sat w0 w' (Init w0 :: L') → ∀ x ∈ acts, x.fine w' := fun w' L' h x hx => (hfa x hx).below h.init
  clear h0
  refine enter Try.func4 rfl Try.ntmps4 2 rfl (Nat.le_of_ble_eq_true rfl) ?_
  refine c_seq ?_
  -- region 0
  refine c_region ?_
  refine x_assign (.bool _) rfl ?_
  refine x_nil ?_
  refine then_n ?_
  refine c_seq ?_
  refine c_seq ?_
  -- region 1
  refine c_region ?_
  refine x_move (.slice _ _ _) rfl ?_
  refine x_call Try.f13 Try.func13 rfl rfl _ rfl ?_
  refine (great14_calls hs (hin _ _ hs) (hfin _ _ hs) (by omega)).mono ?_
  clear hs; rintro e w ⟨r, rfl, hs, hw, hg⟩
  refine ⟨_, rfl, fun h => (by first | (cases h; done) | (first | exact hs.cells2 rfl rfl | exact (hs.pull 1).cells2 rfl rfl | exact (hs.pull 2).cells2 rfl rfl | exact (hs.pull 3).cells2 rfl rfl | exact (hs.pull 4).cells2 rfl rfl | exact (hs.pull 5).cells2 rfl rfl | exact (hs.pull 6).cells2 rfl rfl | exact (hs.pull 7).cells2 rfl rfl | exact (hs.pull 8).cells2 rfl rfl | exact hs.cell rfl | exact (hs.pull 1).cell rfl | exact (hs.pull 2).cell rfl | exact (hs.pull 3).cell rfl | exact (hs.pull 4).cell rfl | exact (hs.pull 5).cell rfl | exact (hs.pull 6).cell rfl | exact (hs.pull 7).cell rfl | exact (hs.pull 8).cell rfl | assumption | exact hs.cellsOf | exact (hs.pull 1).cellsOf | exact (hs.pull 2).cellsOf | exact (hs.pull 3).cellsOf | exact (hs.pull 4).cellsOf | exact (hs.pull 5).cellsOf | exact (hs.pull 6).cellsOf | exact (hs.pull 7).cellsOf | exact (hs.pull 8).cellsOf) | (and_intros <;> first | exact hs.cells2 rfl rfl | exact (hs.pull 1).cells2 rfl rfl | exact (hs.pull 2).cells2 rfl rfl | exact (hs.pull 3).cells2 rfl rfl | exact (hs.pull 4).cells2 rfl rfl | exact (hs.pull 5).cells2 rfl rfl | exact (hs.pull 6).cells2 rfl rfl | exact (hs.pull 7).cells2 rfl rfl | exact (hs.pull 8).cells2 rfl rfl | exact hs.cell rfl | exact (hs.pull 1).cell rfl | exact (hs.pull 2).cell rfl | exact (hs.pull 3).cell rfl | exact (hs.pull 4).cell rfl | exact (hs.pull 5).cell rfl | exact (hs.pull 6).cell rfl | exact (hs.pull 7).cell rfl | exact (hs.pull 8).cell rfl | assumption | exact hs.cellsOf | exact (hs.pull 1).cellsOf | exact (hs.pull 2).cellsOf | exact (hs.pull 3).cellsOf | exact (hs.pull 4).cellsOf | exact (hs.pull 5).cellsOf | exact (hs.pull 6).cellsOf | exact (hs.pull 7).cellsOf | exact (hs.pull 8).cellsOf)), ?_⟩
  refine x_nil ?_
  refine then_n ?_
  refine c_cond rfl (fun hb => ?_) (fun hb => ?_)   -- cond t25
  · skip
    refine c_seq ?_
    -- region 2
    refine c_region ?_
    refine x_call Try.f6 Try.func6 rfl rfl _ rfl ?_
    refine (awake14_calls hs).mono ?_
    clear hs; rintro e w ⟨rfl, hs⟩
    refine ⟨_, rfl, fun h => (by first | (cases h; done) | (first | exact hs.cells2 rfl rfl | exact (hs.pull 1).cells2 rfl rfl | exact (hs.pull 2).cells2 rfl rfl | exact (hs.pull 3).cells2 rfl rfl | exact (hs.pull 4).cells2 rfl rfl | exact (hs.pull 5).cells2 rfl rfl | exact (hs.pull 6).cells2 rfl rfl | exact (hs.pull 7).cells2 rfl rfl | exact (hs.pull 8).cells2 rfl rfl | exact hs.cell rfl | exact (hs.pull 1).cell rfl | exact (hs.pull 2).cell rfl | exact (hs.pull 3).cell rfl | exact (hs.pull 4).cell rfl | exact (hs.pull 5).cell rfl | exact (hs.pull 6).cell rfl | exact (hs.pull 7).cell rfl | exact (hs.pull 8).cell rfl | assumption | exact hs.cellsOf | exact (hs.pull 1).cellsOf | exact (hs.pull 2).cellsOf | exact (hs.pull 3).cellsOf | exact (hs.pull 4).cellsOf | exact (hs.pull 5).cellsOf | exact (hs.pull 6).cellsOf | exact (hs.pull 7).cellsOf | exact (hs.pull 8).cellsOf) | (and_intros <;> first | exact hs.cells2 rfl rfl | exact (hs.pull 1).cells2 rfl rfl | exact (hs.pull 2).cells2 rfl rfl | exact (hs.pull 3).cells2 rfl rfl | exact (hs.pull 4).cells2 rfl rfl | exact (hs.pull 5).cells2 rfl rfl | exact (hs.pull 6).cells2 rfl rfl | exact (hs.pull 7).cells2 rfl rfl | exact (hs.pull 8).cells2 rfl rfl | exact hs.cell rfl | exact (hs.pull 1).cell rfl | exact (hs.pull 2).cell rfl | exact (hs.pull 3).cell rfl | exact (hs.pull 4).cell rfl | exact (hs.pull 5).cell rfl | exact (hs.pull 6).cell rfl | exact (hs.pull 7).cell rfl | exact (hs.pull 8).cell rfl | assumption | exact hs.cellsOf | exact (hs.pull 1).cellsOf | exact (hs.pull 2).cellsOf | exact (hs.pull 3).cellsOf | exact (hs.pull 4).cellsOf | exact (hs.pull 5).cellsOf | exact (hs.pull 6).cellsOf | exact (hs.pull 7).cellsOf | exact (hs.pull 8).cellsOf)), ?_⟩
    refine x_assign (.bool _) rfl ?_
    refine x_nil ?_
    refine then_n ?_
    refine c_ret ?_
    refine then_r ?_
    refine ⟨.inr rfl, ?_⟩
    exact ⟨rfl, hs⟩
  · skip
    refine c_skip ?_
    refine then_n ?_
    refine c_seq ?_
    -- region 3
    refine c_region ?_
    refine x_call Try.f7 Try.func7 rfl rfl _ rfl ?_
    refine (fnew_calls hs).mono ?_
    clear hs; rintro e w ⟨f, rfl, hs⟩
    refine ⟨_, rfl, fun h => (by first | (cases h; done) | (first | exact hs.cells2 rfl rfl | exact (hs.pull 1).cells2 rfl rfl | exact (hs.pull 2).cells2 rfl rfl | exact (hs.pull 3).cells2 rfl rfl | exact (hs.pull 4).cells2 rfl rfl | exact (hs.pull 5).cells2 rfl rfl | exact (hs.pull 6).cells2 rfl rfl | exact (hs.pull 7).cells2 rfl rfl | exact (hs.pull 8).cells2 rfl rfl | exact hs.cell rfl | exact (hs.pull 1).cell rfl | exact (hs.pull 2).cell rfl | exact (hs.pull 3).cell rfl | exact (hs.pull 4).cell rfl | exact (hs.pull 5).cell rfl | exact (hs.pull 6).cell rfl | exact (hs.pull 7).cell rfl | exact (hs.pull 8).cell rfl | assumption | exact hs.cellsOf | exact (hs.pull 1).cellsOf | exact (hs.pull 2).cellsOf | exact (hs.pull 3).cellsOf | exact (hs.pull 4).cellsOf | exact (hs.pull 5).cellsOf | exact (hs.pull 6).cellsOf | exact (hs.pull 7).cellsOf | exact (hs.pull 8).cellsOf) | (and_intros <;> first | exact hs.cells2 rfl rfl | exact (hs.pull 1).cells2 rfl rfl | exact (hs.pull 2).cells2 rfl rfl | exact (hs.pull 3).cells2 rfl rfl | exact (hs.pull 4).cells2 rfl rfl | exact (hs.pull 5).cells2 rfl rfl | exact (hs.pull 6).cells2 rfl rfl | exact (hs.pull 7).cells2 rfl rfl | exact (hs.pull 8).cells2 rfl rfl | exact hs.cell rfl | exact (hs.pull 1).cell rfl | exact (hs.pull 2).cell rfl | exact (hs.pull 3).cell rfl | exact (hs.pull 4).cell rfl | exact (hs.pull 5).cell rfl | exact (hs.pull 6).cell rfl | exact (hs.pull 7).cell rfl | exact (hs.pull 8).cell rfl | assumption | exact hs.cellsOf | exact (hs.pull 1).cellsOf | exact (hs.pull 2).cellsOf | exact (hs.pull 3).cellsOf | exact (hs.pull 4).cellsOf | exact (hs.pull 5).cellsOf | exact (hs.pull 6).cellsOf | exact (hs.pull 7).cellsOf | exact (hs.pull 8).cellsOf)), ?_⟩
    refine x_build _ [] rfl (fun w => bd_42 w) ?_
    refine x_box hs (.agg #[_]) rfl ?_; clear hs; intro b29 w hs; refine ⟨fun h => (by first | (cases h; done) | (first | exact hs.cells2 rfl rfl | exact (hs.pull 1).cells2 rfl rfl | exact (hs.pull 2).cells2 rfl rfl | exact (hs.pull 3).cells2 rfl rfl | exact (hs.pull 4).cells2 rfl rfl | exact (hs.pull 5).cells2 rfl rfl | exact (hs.pull 6).cells2 rfl rfl | exact (hs.pull 7).cells2 rfl rfl | exact (hs.pull 8).cells2 rfl rfl | exact hs.cell rfl | exact (hs.pull 1).cell rfl | exact (hs.pull 2).cell rfl | exact (hs.pull 3).cell rfl | exact (hs.pull 4).cell rfl | exact (hs.pull 5).cell rfl | exact (hs.pull 6).cell rfl | exact (hs.pull 7).cell rfl | exact (hs.pull 8).cell rfl | assumption | exact hs.cellsOf | exact (hs.pull 1).cellsOf | exact (hs.pull 2).cellsOf | exact (hs.pull 3).cellsOf | exact (hs.pull 4).cellsOf | exact (hs.pull 5).cellsOf | exact (hs.pull 6).cellsOf | exact (hs.pull 7).cellsOf | exact (hs.pull 8).cellsOf) | (and_intros <;> first | exact hs.cells2 rfl rfl | exact (hs.pull 1).cells2 rfl rfl | exact (hs.pull 2).cells2 rfl rfl | exact (hs.pull 3).cells2 rfl rfl | exact (hs.pull 4).cells2 rfl rfl | exact (hs.pull 5).cells2 rfl rfl | exact (hs.pull 6).cells2 rfl rfl | exact (hs.pull 7).cells2 rfl rfl | exact (hs.pull 8).cells2 rfl rfl | exact hs.cell rfl | exact (hs.pull 1).cell rfl | exact (hs.pull 2).cell rfl | exact (hs.pull 3).cell rfl | exact (hs.pull 4).cell rfl | exact (hs.pull 5).cell rfl | exact (hs.pull 6).cell rfl | exact (hs.pull 7).cell rfl | exact (hs.pull 8).cell rfl | assumption | exact hs.cellsOf | exact (hs.pull 1).cellsOf | exact (hs.pull 2).cellsOf | exact (hs.pull 3).cellsOf | exact (hs.pull 4).cellsOf | exact (hs.pull 5).cellsOf | exact (hs.pull 6).cellsOf | exact (hs.pull 7).cellsOf | exact (hs.pull 8).cellsOf)), ?_⟩
    refine x_assign (.pointer _) rfl ?_
    refine x_assign (.pointer _) rfl ?_
    refine x_nil ?_
    refine then_n ?_
    refine c_seqI (γ := List Thg) (fun (l : List Thg) => [(3, .pointer (some ⟨f, 0, none⟩)), (4, .pointer (some ⟨b29, 0, none⟩))]) (fun (l : List Thg) w => thInv l ∧ Sat w0 w (FP f l :: FR b29 l :: [Init w0])) ?_ ?_
    · skip
      refine c_seq ?_
      -- region 4
      refine c_region ?_
      refine x_assign (.int _ _) rfl ?_
      refine x_nil ?_
      refine then_n ?_
      refine c_block ?_
      refine c_loop (γ := Nat × List Thg) (fun (⟨i, l⟩ : Nat × List Thg) => [(0, .slice a0 acts.length c0), (3, .pointer (some ⟨f, 0, none⟩)), (4, .pointer (some ⟨b29, 0, none⟩)), (5, .int .i64 (i : Nat))]) (fun (⟨i, l⟩ : Nat × List Thg) w => i ≤ 60 ∧ thInv l ∧ Sat w0 w (FP f l :: FR b29 l :: [Init w0])) (fun (⟨i, l⟩ : Nat × List Thg) => 60 - i) (0, []) ⟨rfl, rfl, rfl, rfl, trivial⟩ ⟨Nat.zero_le _, thInv.nil, (fobj_new hs).perm [1, 0]⟩ ?_
      clear hs
      rintro ⟨i, l⟩ ρ w ⟨hi, hinv, hs⟩
      change CW Try.prog 263 _ _ (sets 263 [(0, .slice a0 acts.length c0), (3, .pointer (some ⟨f, 0, none⟩)), (4, .pointer (some ⟨b29, 0, none⟩)), (5, .int .i64 (i : Nat))] ρ) w
      by_cases h1 : i < acts.length
      by_cases h2 : i < 60
      · skip
        refine c_seq ?_
        refine c_seq ?_
        -- region 5
        refine c_region ?_
        refine x_move (.int _ _) rfl ?_
        refine x_move (.slice _ _ _) rfl ?_
        refine x_lenSl Try.underlying37 _ _ _ rfl ?_
        refine x_lssT _ _ rfl rfl (by omega) ?_
        refine x_move (.bool _) rfl ?_
        refine x_want' rfl ?_
        refine x_move (.int _ _) rfl ?_
        refine x_want' rfl ?_
        refine x_lssT _ _ rfl rfl (by omega) ?_
        refine x_pickT (.bool _) rfl rfl ?_
        refine x_nil ?_
        refine then_n ?_
        refine c_true rfl ?_
        refine c_skip ?_
        refine then_n ?_
        refine c_seq ?_
        refine c_block ?_
        refine c_seq ?_
        -- region 7
        obtain ⟨x, hx⟩ : ∃ x, acts[i]? = some x := ⟨acts[i]'h1, List.getElem?_eq_getElem _⟩
        have hR := hin _ _ (hs.pull 2)
        have hfx := hfa x (List.mem_of_getElem? hx)
        have hB5 := hg hb i x h2 hx
        obtain ⟨g, og, rfl⟩ := hR.addr (by omega)
        obtain ⟨Kind, N, At, X0, Y0, To, ⟨vB, B⟩⟩ := x
        obtain ⟨a2, c2, rfl⟩ : ∃ a c, vB = .slice a B.length c := hfx.B.1.val
        have hrB : ∀ w' L', Sat w0 w' (Init w0 :: L') → RB w' (.slice a2 B.length c2) B := fun w' L' h => RD.below hfx.B.1 h.init
        have hcells := hR.all (fun a => a.cells_len) hx
        dsimp only at hB5
        have hll := hinv.le.1
        have hlb := hinv.le.2
        refine c_region ?_
        refine x_move (.slice _ _ _) rfl ?_
        refine x_move (.int _ _) rfl ?_
        refine x_indexAddr Try.underlying37 sz_44 _ _ _ _ _ rfl rfl (by omega) ?_
        refine x_loadN [.int .i64 Kind, .int .i64 N, .int .i64 At, .int .i64 X0, .int .i64 Y0, .int .u16 (To.Id : Nat), .int .u32 (To.Inc : Nat), .slice a2 B.length c2] agg_44 _ rfl hcells ?_
        refine x_alloc zi_44 hs ?_; clear hs; intro b6 w hs; refine ⟨fun h => (by first | (cases h; done) | (first | exact hs.cells2 rfl rfl | exact (hs.pull 1).cells2 rfl rfl | exact (hs.pull 2).cells2 rfl rfl | exact (hs.pull 3).cells2 rfl rfl | exact (hs.pull 4).cells2 rfl rfl | exact (hs.pull 5).cells2 rfl rfl | exact (hs.pull 6).cells2 rfl rfl | exact (hs.pull 7).cells2 rfl rfl | exact (hs.pull 8).cells2 rfl rfl | exact hs.cell rfl | exact (hs.pull 1).cell rfl | exact (hs.pull 2).cell rfl | exact (hs.pull 3).cell rfl | exact (hs.pull 4).cell rfl | exact (hs.pull 5).cell rfl | exact (hs.pull 6).cell rfl | exact (hs.pull 7).cell rfl | exact (hs.pull 8).cell rfl | assumption | exact hs.cellsOf | exact (hs.pull 1).cellsOf | exact (hs.pull 2).cellsOf | exact (hs.pull 3).cellsOf | exact (hs.pull 4).cellsOf | exact (hs.pull 5).cellsOf | exact (hs.pull 6).cellsOf | exact (hs.pull 7).cellsOf | exact (hs.pull 8).cellsOf) | (and_intros <;> first | exact hs.cells2 rfl rfl | exact (hs.pull 1).cells2 rfl rfl | exact (hs.pull 2).cells2 rfl rfl | exact (hs.pull 3).cells2 rfl rfl | exact (hs.pull 4).cells2 rfl rfl | exact (hs.pull 5).cells2 rfl rfl | exact (hs.pull 6).cells2 rfl rfl | exact (hs.pull 7).cells2 rfl rfl | exact (hs.pull 8).cells2 rfl rfl | exact hs.cell rfl | exact (hs.pull 1).cell rfl | exact (hs.pull 2).cell rfl | exact (hs.pull 3).cell rfl | exact (hs.pull 4).cell rfl | exact (hs.pull 5).cell rfl | exact (hs.pull 6).cell rfl | exact (hs.pull 7).cell rfl | exact (hs.pull 8).cell rfl | assumption | exact hs.cellsOf | exact (hs.pull 1).cellsOf | exact (hs.pull 2).cellsOf | exact (hs.pull 3).cellsOf | exact (hs.pull 4).cellsOf | exact (hs.pull 5).cellsOf | exact (hs.pull 6).cellsOf | exact (hs.pull 7).cellsOf | exact (hs.pull 8).cellsOf)), ?_⟩
        first
          | refine x_storeAllI hs 0 rfl rfl agg_44 [_, _, _, _, _, _, _, _] rfl rfl rfl rfl ?_
          | refine x_storeAllI hs 1 rfl rfl agg_44 [_, _, _, _, _, _, _, _] rfl rfl rfl rfl ?_
          | refine x_storeAllI hs 2 rfl rfl agg_44 [_, _, _, _, _, _, _, _] rfl rfl rfl rfl ?_
          | refine x_storeAllI hs 3 rfl rfl agg_44 [_, _, _, _, _, _, _, _] rfl rfl rfl rfl ?_
          | refine x_storeAllI hs 4 rfl rfl agg_44 [_, _, _, _, _, _, _, _] rfl rfl rfl rfl ?_
          | refine x_storeAllI hs 5 rfl rfl agg_44 [_, _, _, _, _, _, _, _] rfl rfl rfl rfl ?_
          | refine x_storeAllI hs 6 rfl rfl agg_44 [_, _, _, _, _, _, _, _] rfl rfl rfl rfl ?_
          | refine x_storeAllI hs 7 rfl rfl agg_44 [_, _, _, _, _, _, _, _] rfl rfl rfl rfl ?_
        clear hs; intro w hs
        try dsimp only [back, List.set_cons_zero, List.set_cons_succ] at hs
        refine ⟨fun h => (by first | (cases h; done) | (first | exact hs.cells2 rfl rfl | exact (hs.pull 1).cells2 rfl rfl | exact (hs.pull 2).cells2 rfl rfl | exact (hs.pull 3).cells2 rfl rfl | exact (hs.pull 4).cells2 rfl rfl | exact (hs.pull 5).cells2 rfl rfl | exact (hs.pull 6).cells2 rfl rfl | exact (hs.pull 7).cells2 rfl rfl | exact (hs.pull 8).cells2 rfl rfl | exact hs.cell rfl | exact (hs.pull 1).cell rfl | exact (hs.pull 2).cell rfl | exact (hs.pull 3).cell rfl | exact (hs.pull 4).cell rfl | exact (hs.pull 5).cell rfl | exact (hs.pull 6).cell rfl | exact (hs.pull 7).cell rfl | exact (hs.pull 8).cell rfl | assumption | exact hs.cellsOf | exact (hs.pull 1).cellsOf | exact (hs.pull 2).cellsOf | exact (hs.pull 3).cellsOf | exact (hs.pull 4).cellsOf | exact (hs.pull 5).cellsOf | exact (hs.pull 6).cellsOf | exact (hs.pull 7).cellsOf | exact (hs.pull 8).cellsOf) | (and_intros <;> first | exact hs.cells2 rfl rfl | exact (hs.pull 1).cells2 rfl rfl | exact (hs.pull 2).cells2 rfl rfl | exact (hs.pull 3).cells2 rfl rfl | exact (hs.pull 4).cells2 rfl rfl | exact (hs.pull 5).cells2 rfl rfl | exact (hs.pull 6).cells2 rfl rfl | exact (hs.pull 7).cells2 rfl rfl | exact (hs.pull 8).cells2 rfl rfl | exact hs.cell rfl | exact (hs.pull 1).cell rfl | exact (hs.pull 2).cell rfl | exact (hs.pull 3).cell rfl | exact (hs.pull 4).cell rfl | exact (hs.pull 5).cell rfl | exact (hs.pull 6).cell rfl | exact (hs.pull 7).cell rfl | exact (hs.pull 8).cell rfl | assumption | exact hs.cellsOf | exact (hs.pull 1).cellsOf | exact (hs.pull 2).cellsOf | exact (hs.pull 3).cellsOf | exact (hs.pull 4).cellsOf | exact (hs.pull 5).cellsOf | exact (hs.pull 6).cellsOf | exact (hs.pull 7).cellsOf | exact (hs.pull 8).cellsOf)), ?_⟩
        refine x_nil ?_
        refine then_n ?_
        refine c_seq ?_
        -- region 8
        refine c_region ?_
        refine x_assign (.bool _) rfl ?_
        refine x_nil ?_
        refine then_n ?_
        refine c_seqI (γ := List Thg) (fun (l' : List Thg) => [(0, .slice (some ⟨g, og, none⟩) acts.length c0), (3, .pointer (some ⟨f, 0, none⟩)), (4, .pointer (some ⟨b29, 0, none⟩)), (5, .int .i64 (i : Nat)), (6, .pointer (some ⟨b6, 0, none⟩)), (7, .bool true)]) (fun (l' : List Thg) w => thInv l' ∧ Sat w0 w (Blk b6 (.cells #[.int .i64 Kind, .int .i64 N, .int .i64 At, .int .i64 X0, .int .i64 Y0, .int .u16 (To.Id : Nat), .int .u32 (To.Inc : Nat), .slice a2 B.length c2] 44 (0, 0)) :: FP f l' :: FR b29 l' :: [Init w0])) ?_ ?_
        · skip
          refine c_seq ?_
          -- region 9
          refine c_region ?_
          first | refine x_field0 fa_44_0 _ rfl ?_ | refine x_field fa_44_0 _ _ rfl ?_
          refine x_load one_3 _ (.int _ _) rfl (by first | exact hs.cell rfl | exact (hs.pull 1).cell rfl | exact (hs.pull 2).cell rfl | exact (hs.pull 3).cell rfl | assumption | exact (hs.pull 4).cell rfl | exact (hs.pull 5).cell rfl | exact (hs.pull 6).cell rfl | exact (hs.pull 7).cell rfl) ?_
          refine x_call Try.f14 Try.func14 rfl rfl _ rfl ?_
          refine (pick_calls hs _ _ (by decide)).mono ?_
          clear hs; rintro e w ⟨rfl, hs, -⟩
          refine ⟨_, rfl, fun h => (by first | (cases h; done) | (first | exact hs.cells2 rfl rfl | exact (hs.pull 1).cells2 rfl rfl | exact (hs.pull 2).cells2 rfl rfl | exact (hs.pull 3).cells2 rfl rfl | exact (hs.pull 4).cells2 rfl rfl | exact (hs.pull 5).cells2 rfl rfl | exact (hs.pull 6).cells2 rfl rfl | exact (hs.pull 7).cells2 rfl rfl | exact (hs.pull 8).cells2 rfl rfl | exact hs.cell rfl | exact (hs.pull 1).cell rfl | exact (hs.pull 2).cell rfl | exact (hs.pull 3).cell rfl | exact (hs.pull 4).cell rfl | exact (hs.pull 5).cell rfl | exact (hs.pull 6).cell rfl | exact (hs.pull 7).cell rfl | exact (hs.pull 8).cell rfl | assumption | exact hs.cellsOf | exact (hs.pull 1).cellsOf | exact (hs.pull 2).cellsOf | exact (hs.pull 3).cellsOf | exact (hs.pull 4).cellsOf | exact (hs.pull 5).cellsOf | exact (hs.pull 6).cellsOf | exact (hs.pull 7).cellsOf | exact (hs.pull 8).cellsOf) | (and_intros <;> first | exact hs.cells2 rfl rfl | exact (hs.pull 1).cells2 rfl rfl | exact (hs.pull 2).cells2 rfl rfl | exact (hs.pull 3).cells2 rfl rfl | exact (hs.pull 4).cells2 rfl rfl | exact (hs.pull 5).cells2 rfl rfl | exact (hs.pull 6).cells2 rfl rfl | exact (hs.pull 7).cells2 rfl rfl | exact (hs.pull 8).cells2 rfl rfl | exact hs.cell rfl | exact (hs.pull 1).cell rfl | exact (hs.pull 2).cell rfl | exact (hs.pull 3).cell rfl | exact (hs.pull 4).cell rfl | exact (hs.pull 5).cell rfl | exact (hs.pull 6).cell rfl | exact (hs.pull 7).cell rfl | exact (hs.pull 8).cell rfl | assumption | exact hs.cellsOf | exact (hs.pull 1).cellsOf | exact (hs.pull 2).cellsOf | exact (hs.pull 3).cellsOf | exact (hs.pull 4).cellsOf | exact (hs.pull 5).cellsOf | exact (hs.pull 6).cellsOf | exact (hs.pull 7).cellsOf | exact (hs.pull 8).cellsOf)), ?_⟩
          clear hR hcells
          generalize pk Kind 7 = kd
          refine x_nil ?_
          refine then_n ?_
          refine c_block ?_
          refine c_seq ?_
          -- region 19
          refine c_region ?_
          refine x_eql _ _ rfl rfl ?_
          refine x_assign (.bool _) rfl ?_
          refine x_nil ?_
          refine then_n ?_
          refine c_test _ rfl (fun hb => ?_) (fun hb => ?_)   -- cond t94
          · skip
            by_cases hl0 : 0 < l.length
            · skip
              refine c_seq ?_
              -- region 20
              refine c_region ?_
              refine x_move (.pointer _) rfl ?_
              first | refine x_field0 fa_44_2 _ rfl ?_ | refine x_field fa_44_2 _ _ rfl ?_
              refine x_load one_3 _ (.int _ _) rfl (by first | exact hs.cell rfl | exact (hs.pull 1).cell rfl | exact (hs.pull 2).cell rfl | exact (hs.pull 3).cell rfl | assumption | exact (hs.pull 4).cell rfl | exact (hs.pull 5).cell rfl | exact (hs.pull 6).cell rfl | exact (hs.pull 7).cell rfl) ?_
              refine x_call Try.f15 Try.func15 rfl rfl _ rfl ?_
              refine (ftake_calls At (hs.pull 1) hll hlb hl0).mono ?_
              clear hs; rintro e w ⟨a3, c3, rfl, hs⟩
              replace hs := hs.push 1
              try dsimp only [back] at hs
              refine ⟨_, rfl, fun h => (by first | (cases h; done) | (first | exact hs.cells2 rfl rfl | exact (hs.pull 1).cells2 rfl rfl | exact (hs.pull 2).cells2 rfl rfl | exact (hs.pull 3).cells2 rfl rfl | exact (hs.pull 4).cells2 rfl rfl | exact (hs.pull 5).cells2 rfl rfl | exact (hs.pull 6).cells2 rfl rfl | exact (hs.pull 7).cells2 rfl rfl | exact (hs.pull 8).cells2 rfl rfl | exact hs.cell rfl | exact (hs.pull 1).cell rfl | exact (hs.pull 2).cell rfl | exact (hs.pull 3).cell rfl | exact (hs.pull 4).cell rfl | exact (hs.pull 5).cell rfl | exact (hs.pull 6).cell rfl | exact (hs.pull 7).cell rfl | exact (hs.pull 8).cell rfl | assumption | exact hs.cellsOf | exact (hs.pull 1).cellsOf | exact (hs.pull 2).cellsOf | exact (hs.pull 3).cellsOf | exact (hs.pull 4).cellsOf | exact (hs.pull 5).cellsOf | exact (hs.pull 6).cellsOf | exact (hs.pull 7).cellsOf | exact (hs.pull 8).cellsOf) | (and_intros <;> first | exact hs.cells2 rfl rfl | exact (hs.pull 1).cells2 rfl rfl | exact (hs.pull 2).cells2 rfl rfl | exact (hs.pull 3).cells2 rfl rfl | exact (hs.pull 4).cells2 rfl rfl | exact (hs.pull 5).cells2 rfl rfl | exact (hs.pull 6).cells2 rfl rfl | exact (hs.pull 7).cells2 rfl rfl | exact (hs.pull 8).cells2 rfl rfl | exact hs.cell rfl | exact (hs.pull 1).cell rfl | exact (hs.pull 2).cell rfl | exact (hs.pull 3).cell rfl | exact (hs.pull 4).cell rfl | exact (hs.pull 5).cell rfl | exact (hs.pull 6).cell rfl | exact (hs.pull 7).cell rfl | exact (hs.pull 8).cell rfl | assumption | exact hs.cellsOf | exact (hs.pull 1).cellsOf | exact (hs.pull 2).cellsOf | exact (hs.pull 3).cellsOf | exact (hs.pull 4).cellsOf | exact (hs.pull 5).cellsOf | exact (hs.pull 6).cellsOf | exact (hs.pull 7).cellsOf | exact (hs.pull 8).cellsOf)), ?_⟩
              refine x_move (.tuple _) rfl ?_
              refine x_extract _ (.agg _) rfl rfl ?_
              refine x_extract _ (.slice _ _ _) rfl rfl ?_
              refine x_extract _ (.bool _) rfl rfl ?_
              refine x_alloc zi_30 hs ?_; clear hs; intro b8 w hs; refine ⟨fun h => (by first | (cases h; done) | (first | exact hs.cells2 rfl rfl | exact (hs.pull 1).cells2 rfl rfl | exact (hs.pull 2).cells2 rfl rfl | exact (hs.pull 3).cells2 rfl rfl | exact (hs.pull 4).cells2 rfl rfl | exact (hs.pull 5).cells2 rfl rfl | exact (hs.pull 6).cells2 rfl rfl | exact (hs.pull 7).cells2 rfl rfl | exact (hs.pull 8).cells2 rfl rfl | exact hs.cell rfl | exact (hs.pull 1).cell rfl | exact (hs.pull 2).cell rfl | exact (hs.pull 3).cell rfl | exact (hs.pull 4).cell rfl | exact (hs.pull 5).cell rfl | exact (hs.pull 6).cell rfl | exact (hs.pull 7).cell rfl | exact (hs.pull 8).cell rfl | assumption | exact hs.cellsOf | exact (hs.pull 1).cellsOf | exact (hs.pull 2).cellsOf | exact (hs.pull 3).cellsOf | exact (hs.pull 4).cellsOf | exact (hs.pull 5).cellsOf | exact (hs.pull 6).cellsOf | exact (hs.pull 7).cellsOf | exact (hs.pull 8).cellsOf) | (and_intros <;> first | exact hs.cells2 rfl rfl | exact (hs.pull 1).cells2 rfl rfl | exact (hs.pull 2).cells2 rfl rfl | exact (hs.pull 3).cells2 rfl rfl | exact (hs.pull 4).cells2 rfl rfl | exact (hs.pull 5).cells2 rfl rfl | exact (hs.pull 6).cells2 rfl rfl | exact (hs.pull 7).cells2 rfl rfl | exact (hs.pull 8).cells2 rfl rfl | exact hs.cell rfl | exact (hs.pull 1).cell rfl | exact (hs.pull 2).cell rfl | exact (hs.pull 3).cell rfl | exact (hs.pull 4).cell rfl | exact (hs.pull 5).cell rfl | exact (hs.pull 6).cell rfl | exact (hs.pull 7).cell rfl | exact (hs.pull 8).cell rfl | assumption | exact hs.cellsOf | exact (hs.pull 1).cellsOf | exact (hs.pull 2).cellsOf | exact (hs.pull 3).cellsOf | exact (hs.pull 4).cellsOf | exact (hs.pull 5).cellsOf | exact (hs.pull 6).cellsOf | exact (hs.pull 7).cellsOf | exact (hs.pull 8).cellsOf)), ?_⟩
              first
                | refine x_storeAllI hs 0 rfl rfl agg_30 [_, _] rfl rfl rfl rfl ?_
                | refine x_storeAllI hs 1 rfl rfl agg_30 [_, _] rfl rfl rfl rfl ?_
                | refine x_storeAllI hs 2 rfl rfl agg_30 [_, _] rfl rfl rfl rfl ?_
                | refine x_storeAllI hs 3 rfl rfl agg_30 [_, _] rfl rfl rfl rfl ?_
                | refine x_storeAllI hs 4 rfl rfl agg_30 [_, _] rfl rfl rfl rfl ?_
                | refine x_storeAllI hs 5 rfl rfl agg_30 [_, _] rfl rfl rfl rfl ?_
                | refine x_storeAllI hs 6 rfl rfl agg_30 [_, _] rfl rfl rfl rfl ?_
                | refine x_storeAllI hs 7 rfl rfl agg_30 [_, _] rfl rfl rfl rfl ?_
              clear hs; intro w hs
              try dsimp only [back, List.set_cons_zero, List.set_cons_succ] at hs
              refine ⟨fun h => (by first | (cases h; done) | (first | exact hs.cells2 rfl rfl | exact (hs.pull 1).cells2 rfl rfl | exact (hs.pull 2).cells2 rfl rfl | exact (hs.pull 3).cells2 rfl rfl | exact (hs.pull 4).cells2 rfl rfl | exact (hs.pull 5).cells2 rfl rfl | exact (hs.pull 6).cells2 rfl rfl | exact (hs.pull 7).cells2 rfl rfl | exact (hs.pull 8).cells2 rfl rfl | exact hs.cell rfl | exact (hs.pull 1).cell rfl | exact (hs.pull 2).cell rfl | exact (hs.pull 3).cell rfl | exact (hs.pull 4).cell rfl | exact (hs.pull 5).cell rfl | exact (hs.pull 6).cell rfl | exact (hs.pull 7).cell rfl | exact (hs.pull 8).cell rfl | assumption | exact hs.cellsOf | exact (hs.pull 1).cellsOf | exact (hs.pull 2).cellsOf | exact (hs.pull 3).cellsOf | exact (hs.pull 4).cellsOf | exact (hs.pull 5).cellsOf | exact (hs.pull 6).cellsOf | exact (hs.pull 7).cellsOf | exact (hs.pull 8).cellsOf) | (and_intros <;> first | exact hs.cells2 rfl rfl | exact (hs.pull 1).cells2 rfl rfl | exact (hs.pull 2).cells2 rfl rfl | exact (hs.pull 3).cells2 rfl rfl | exact (hs.pull 4).cells2 rfl rfl | exact (hs.pull 5).cells2 rfl rfl | exact (hs.pull 6).cells2 rfl rfl | exact (hs.pull 7).cells2 rfl rfl | exact (hs.pull 8).cells2 rfl rfl | exact hs.cell rfl | exact (hs.pull 1).cell rfl | exact (hs.pull 2).cell rfl | exact (hs.pull 3).cell rfl | exact (hs.pull 4).cell rfl | exact (hs.pull 5).cell rfl | exact (hs.pull 6).cell rfl | exact (hs.pull 7).cell rfl | exact (hs.pull 8).cell rfl | assumption | exact hs.cellsOf | exact (hs.pull 1).cellsOf | exact (hs.pull 2).cellsOf | exact (hs.pull 3).cellsOf | exact (hs.pull 4).cellsOf | exact (hs.pull 5).cellsOf | exact (hs.pull 6).cellsOf | exact (hs.pull 7).cellsOf | exact (hs.pull 8).cellsOf)), ?_⟩
              refine x_assign (.slice _ _ _) rfl ?_
              refine x_assign (.bool _) rfl ?_
              refine x_nil ?_
              refine then_n ?_
              refine c_seq ?_
              -- region 21
              refine c_region ?_
              refine x_move (.pointer _) rfl ?_
              first | refine x_field0 fa_44_2 _ rfl ?_ | refine x_field fa_44_2 _ _ rfl ?_
              refine x_load one_3 _ (.int _ _) rfl (by first | exact hs.cell rfl | exact (hs.pull 1).cell rfl | exact (hs.pull 2).cell rfl | exact (hs.pull 3).cell rfl | assumption | exact (hs.pull 4).cell rfl | exact (hs.pull 5).cell rfl | exact (hs.pull 6).cell rfl | exact (hs.pull 7).cell rfl) ?_
              refine x_call Try.f16 Try.func16 rfl rfl _ rfl ?_
              refine ((rtake14_calls At (hs.pull 4) hll hlb hl0)).mono ?_
              clear hs; rintro e w ⟨a4, c4, rfl, hs⟩
              refine ⟨_, rfl, fun h => (by first | (cases h; done) | (first | exact hs.cells2 rfl rfl | exact (hs.pull 1).cells2 rfl rfl | exact (hs.pull 2).cells2 rfl rfl | exact (hs.pull 3).cells2 rfl rfl | exact (hs.pull 4).cells2 rfl rfl | exact (hs.pull 5).cells2 rfl rfl | exact (hs.pull 6).cells2 rfl rfl | exact (hs.pull 7).cells2 rfl rfl | exact (hs.pull 8).cells2 rfl rfl | exact hs.cell rfl | exact (hs.pull 1).cell rfl | exact (hs.pull 2).cell rfl | exact (hs.pull 3).cell rfl | exact (hs.pull 4).cell rfl | exact (hs.pull 5).cell rfl | exact (hs.pull 6).cell rfl | exact (hs.pull 7).cell rfl | exact (hs.pull 8).cell rfl | assumption | exact hs.cellsOf | exact (hs.pull 1).cellsOf | exact (hs.pull 2).cellsOf | exact (hs.pull 3).cellsOf | exact (hs.pull 4).cellsOf | exact (hs.pull 5).cellsOf | exact (hs.pull 6).cellsOf | exact (hs.pull 7).cellsOf | exact (hs.pull 8).cellsOf) | (and_intros <;> first | exact hs.cells2 rfl rfl | exact (hs.pull 1).cells2 rfl rfl | exact (hs.pull 2).cells2 rfl rfl | exact (hs.pull 3).cells2 rfl rfl | exact (hs.pull 4).cells2 rfl rfl | exact (hs.pull 5).cells2 rfl rfl | exact (hs.pull 6).cells2 rfl rfl | exact (hs.pull 7).cells2 rfl rfl | exact (hs.pull 8).cells2 rfl rfl | exact hs.cell rfl | exact (hs.pull 1).cell rfl | exact (hs.pull 2).cell rfl | exact (hs.pull 3).cell rfl | exact (hs.pull 4).cell rfl | exact (hs.pull 5).cell rfl | exact (hs.pull 6).cell rfl | exact (hs.pull 7).cell rfl | exact (hs.pull 8).cell rfl | assumption | exact hs.cellsOf | exact (hs.pull 1).cellsOf | exact (hs.pull 2).cellsOf | exact (hs.pull 3).cellsOf | exact (hs.pull 4).cellsOf | exact (hs.pull 5).cellsOf | exact (hs.pull 6).cellsOf | exact (hs.pull 7).cellsOf | exact (hs.pull 8).cellsOf)), ?_⟩
              refine x_move (.tuple _) rfl ?_
              refine x_extract _ (.agg _) rfl rfl ?_
              refine x_extract _ (.bool _) rfl rfl ?_
              refine x_alloc zi_47 hs ?_; clear hs; intro b11 w hs; refine ⟨fun h => (by first | (cases h; done) | (first | exact hs.cells2 rfl rfl | exact (hs.pull 1).cells2 rfl rfl | exact (hs.pull 2).cells2 rfl rfl | exact (hs.pull 3).cells2 rfl rfl | exact (hs.pull 4).cells2 rfl rfl | exact (hs.pull 5).cells2 rfl rfl | exact (hs.pull 6).cells2 rfl rfl | exact (hs.pull 7).cells2 rfl rfl | exact (hs.pull 8).cells2 rfl rfl | exact hs.cell rfl | exact (hs.pull 1).cell rfl | exact (hs.pull 2).cell rfl | exact (hs.pull 3).cell rfl | exact (hs.pull 4).cell rfl | exact (hs.pull 5).cell rfl | exact (hs.pull 6).cell rfl | exact (hs.pull 7).cell rfl | exact (hs.pull 8).cell rfl | assumption | exact hs.cellsOf | exact (hs.pull 1).cellsOf | exact (hs.pull 2).cellsOf | exact (hs.pull 3).cellsOf | exact (hs.pull 4).cellsOf | exact (hs.pull 5).cellsOf | exact (hs.pull 6).cellsOf | exact (hs.pull 7).cellsOf | exact (hs.pull 8).cellsOf) | (and_intros <;> first | exact hs.cells2 rfl rfl | exact (hs.pull 1).cells2 rfl rfl | exact (hs.pull 2).cells2 rfl rfl | exact (hs.pull 3).cells2 rfl rfl | exact (hs.pull 4).cells2 rfl rfl | exact (hs.pull 5).cells2 rfl rfl | exact (hs.pull 6).cells2 rfl rfl | exact (hs.pull 7).cells2 rfl rfl | exact (hs.pull 8).cells2 rfl rfl | exact hs.cell rfl | exact (hs.pull 1).cell rfl | exact (hs.pull 2).cell rfl | exact (hs.pull 3).cell rfl | exact (hs.pull 4).cell rfl | exact (hs.pull 5).cell rfl | exact (hs.pull 6).cell rfl | exact (hs.pull 7).cell rfl | exact (hs.pull 8).cell rfl | assumption | exact hs.cellsOf | exact (hs.pull 1).cellsOf | exact (hs.pull 2).cellsOf | exact (hs.pull 3).cellsOf | exact (hs.pull 4).cellsOf | exact (hs.pull 5).cellsOf | exact (hs.pull 6).cellsOf | exact (hs.pull 7).cellsOf | exact (hs.pull 8).cellsOf)), ?_⟩
              first
                | refine x_storeAllI hs 0 rfl rfl agg_47 [_, _, _, _] rfl rfl rfl rfl ?_
                | refine x_storeAllI hs 1 rfl rfl agg_47 [_, _, _, _] rfl rfl rfl rfl ?_
                | refine x_storeAllI hs 2 rfl rfl agg_47 [_, _, _, _] rfl rfl rfl rfl ?_
                | refine x_storeAllI hs 3 rfl rfl agg_47 [_, _, _, _] rfl rfl rfl rfl ?_
                | refine x_storeAllI hs 4 rfl rfl agg_47 [_, _, _, _] rfl rfl rfl rfl ?_
                | refine x_storeAllI hs 5 rfl rfl agg_47 [_, _, _, _] rfl rfl rfl rfl ?_
                | refine x_storeAllI hs 6 rfl rfl agg_47 [_, _, _, _] rfl rfl rfl rfl ?_
                | refine x_storeAllI hs 7 rfl rfl agg_47 [_, _, _, _] rfl rfl rfl rfl ?_
              clear hs; intro w hs
              try dsimp only [back, List.set_cons_zero, List.set_cons_succ] at hs
              refine ⟨fun h => (by first | (cases h; done) | (first | exact hs.cells2 rfl rfl | exact (hs.pull 1).cells2 rfl rfl | exact (hs.pull 2).cells2 rfl rfl | exact (hs.pull 3).cells2 rfl rfl | exact (hs.pull 4).cells2 rfl rfl | exact (hs.pull 5).cells2 rfl rfl | exact (hs.pull 6).cells2 rfl rfl | exact (hs.pull 7).cells2 rfl rfl | exact (hs.pull 8).cells2 rfl rfl | exact hs.cell rfl | exact (hs.pull 1).cell rfl | exact (hs.pull 2).cell rfl | exact (hs.pull 3).cell rfl | exact (hs.pull 4).cell rfl | exact (hs.pull 5).cell rfl | exact (hs.pull 6).cell rfl | exact (hs.pull 7).cell rfl | exact (hs.pull 8).cell rfl | assumption | exact hs.cellsOf | exact (hs.pull 1).cellsOf | exact (hs.pull 2).cellsOf | exact (hs.pull 3).cellsOf | exact (hs.pull 4).cellsOf | exact (hs.pull 5).cellsOf | exact (hs.pull 6).cellsOf | exact (hs.pull 7).cellsOf | exact (hs.pull 8).cellsOf) | (and_intros <;> first | exact hs.cells2 rfl rfl | exact (hs.pull 1).cells2 rfl rfl | exact (hs.pull 2).cells2 rfl rfl | exact (hs.pull 3).cells2 rfl rfl | exact (hs.pull 4).cells2 rfl rfl | exact (hs.pull 5).cells2 rfl rfl | exact (hs.pull 6).cells2 rfl rfl | exact (hs.pull 7).cells2 rfl rfl | exact (hs.pull 8).cells2 rfl rfl | exact hs.cell rfl | exact (hs.pull 1).cell rfl | exact (hs.pull 2).cell rfl | exact (hs.pull 3).cell rfl | exact (hs.pull 4).cell rfl | exact (hs.pull 5).cell rfl | exact (hs.pull 6).cell rfl | exact (hs.pull 7).cell rfl | exact (hs.pull 8).cell rfl | assumption | exact hs.cellsOf | exact (hs.pull 1).cellsOf | exact (hs.pull 2).cellsOf | exact (hs.pull 3).cellsOf | exact (hs.pull 4).cellsOf | exact (hs.pull 5).cellsOf | exact (hs.pull 6).cellsOf | exact (hs.pull 7).cellsOf | exact (hs.pull 8).cellsOf)), ?_⟩
              refine x_assign (.bool _) rfl ?_
              refine x_nil ?_
              refine then_n ?_
              -- region 22
              refine c_region ?_
              refine x_loadN [_, _] agg_30 _ rfl (by first | assumption | exact hs.cellsOf | exact (hs.pull 1).cellsOf | exact (hs.pull 2).cellsOf | exact (hs.pull 3).cellsOf | exact (hs.pull 4).cellsOf | exact (hs.pull 5).cellsOf | exact (hs.pull 6).cellsOf | exact (hs.pull 7).cellsOf | exact (hs.pull 8).cellsOf | exact hs.cells2 rfl rfl | exact (hs.pull 1).cells2 rfl rfl | exact (hs.pull 2).cells2 rfl rfl | exact (hs.pull 3).cells2 rfl rfl | exact (hs.pull 4).cells2 rfl rfl | exact (hs.pull 5).cells2 rfl rfl | exact (hs.pull 6).cells2 rfl rfl | exact (hs.pull 7).cells2 rfl rfl | exact (hs.pull 8).cells2 rfl rfl) ?_
              first | refine x_field0 fa_47_0 _ rfl ?_ | refine x_field fa_47_0 _ _ rfl ?_
              refine x_loadN [_, _] agg_30 _ rfl (by first | assumption | exact hs.cellsOf | exact (hs.pull 1).cellsOf | exact (hs.pull 2).cellsOf | exact (hs.pull 3).cellsOf | exact (hs.pull 4).cellsOf | exact (hs.pull 5).cellsOf | exact (hs.pull 6).cellsOf | exact (hs.pull 7).cellsOf | exact (hs.pull 8).cellsOf | exact hs.cells2 rfl rfl | exact (hs.pull 1).cells2 rfl rfl | exact (hs.pull 2).cells2 rfl rfl | exact (hs.pull 3).cells2 rfl rfl | exact (hs.pull 4).cells2 rfl rfl | exact (hs.pull 5).cells2 rfl rfl | exact (hs.pull 6).cells2 rfl rfl | exact (hs.pull 7).cells2 rfl rfl | exact (hs.pull 8).cells2 rfl rfl) ?_
              refine x_eqlET eq_pid (thLook l At).to (thLook l At).to rfl rfl rfl ?_
              refine x_move (.bool _) rfl ?_
              refine x_want' rfl ?_
              refine x_move (.slice _ _ _) rfl ?_
              refine x_want' rfl ?_
              first | refine x_field0 fa_47_1 _ rfl ?_ | refine x_field fa_47_1 _ _ rfl ?_
              refine x_want' rfl ?_
              refine x_load one_22 _ (.slice _ _ _) rfl (by first | exact hs.cell rfl | exact (hs.pull 1).cell rfl | exact (hs.pull 2).cell rfl | exact (hs.pull 3).cell rfl | assumption | exact (hs.pull 4).cell rfl | exact (hs.pull 5).cell rfl | exact (hs.pull 6).cell rfl | exact (hs.pull 7).cell rfl) ?_
              refine x_want' rfl ?_
              refine x_call Try.f12 Try.func12 rfl rfl _ rfl ?_
              refine ((eq01_true hs (hs.pull 5).br (hs.pull 1).br (by have := hinv.look At; omega))).mono ?_
              clear hs; rintro e w ⟨rfl, hs⟩
              refine ⟨_, rfl, fun h => (by first | (cases h; done) | (first | exact hs.cells2 rfl rfl | exact (hs.pull 1).cells2 rfl rfl | exact (hs.pull 2).cells2 rfl rfl | exact (hs.pull 3).cells2 rfl rfl | exact (hs.pull 4).cells2 rfl rfl | exact (hs.pull 5).cells2 rfl rfl | exact (hs.pull 6).cells2 rfl rfl | exact (hs.pull 7).cells2 rfl rfl | exact (hs.pull 8).cells2 rfl rfl | exact hs.cell rfl | exact (hs.pull 1).cell rfl | exact (hs.pull 2).cell rfl | exact (hs.pull 3).cell rfl | exact (hs.pull 4).cell rfl | exact (hs.pull 5).cell rfl | exact (hs.pull 6).cell rfl | exact (hs.pull 7).cell rfl | exact (hs.pull 8).cell rfl | assumption | exact hs.cellsOf | exact (hs.pull 1).cellsOf | exact (hs.pull 2).cellsOf | exact (hs.pull 3).cellsOf | exact (hs.pull 4).cellsOf | exact (hs.pull 5).cellsOf | exact (hs.pull 6).cellsOf | exact (hs.pull 7).cellsOf | exact (hs.pull 8).cellsOf) | (and_intros <;> first | exact hs.cells2 rfl rfl | exact (hs.pull 1).cells2 rfl rfl | exact (hs.pull 2).cells2 rfl rfl | exact (hs.pull 3).cells2 rfl rfl | exact (hs.pull 4).cells2 rfl rfl | exact (hs.pull 5).cells2 rfl rfl | exact (hs.pull 6).cells2 rfl rfl | exact (hs.pull 7).cells2 rfl rfl | exact (hs.pull 8).cells2 rfl rfl | exact hs.cell rfl | exact (hs.pull 1).cell rfl | exact (hs.pull 2).cell rfl | exact (hs.pull 3).cell rfl | exact (hs.pull 4).cell rfl | exact (hs.pull 5).cell rfl | exact (hs.pull 6).cell rfl | exact (hs.pull 7).cell rfl | exact (hs.pull 8).cell rfl | assumption | exact hs.cellsOf | exact (hs.pull 1).cellsOf | exact (hs.pull 2).cellsOf | exact (hs.pull 3).cellsOf | exact (hs.pull 4).cellsOf | exact (hs.pull 5).cellsOf | exact (hs.pull 6).cellsOf | exact (hs.pull 7).cellsOf | exact (hs.pull 8).cellsOf)), ?_⟩
              refine x_pickT (.bool _) rfl rfl ?_
              refine x_move (.bool _) rfl ?_
              refine x_want' rfl ?_
              refine x_move (.bool _) rfl ?_
              refine x_want' rfl ?_
              refine x_move (.bool _) rfl ?_
              refine x_want' rfl ?_
              refine x_eqlB _ _ Try.underlying4 rfl rfl ?_
              refine x_pickT (.bool _) rfl rfl ?_
              refine x_assign (.bool _) rfl ?_
              refine x_nil ?_
              refine inb_n ?_
              refine then_n ?_
              exact ⟨(thTake l At), ⟨rfl, rfl, rfl, rfl, rfl, rfl, trivial⟩, ⟨hinv.take At, Sat.left (Ls := [_, _, _, _]) (hs.perm [6, 4, 2, 7, 0, 1, 3, 5])⟩⟩
            · skip
              obtain rfl : l = [] := List.eq_nil_of_length_eq_zero (by omega)
              · skip
                refine c_seq ?_
                -- region 20
                refine c_region ?_
                refine x_move (.pointer _) rfl ?_
                first | refine x_field0 fa_44_2 _ rfl ?_ | refine x_field fa_44_2 _ _ rfl ?_
                refine x_load one_3 _ (.int _ _) rfl (by first | exact hs.cell rfl | exact (hs.pull 1).cell rfl | exact (hs.pull 2).cell rfl | exact (hs.pull 3).cell rfl | assumption | exact (hs.pull 4).cell rfl | exact (hs.pull 5).cell rfl | exact (hs.pull 6).cell rfl | exact (hs.pull 7).cell rfl) ?_
                refine x_call Try.f15 Try.func15 rfl rfl _ rfl ?_
                refine (ftake_nil At (hs.pull 1)).mono ?_
                clear hs; rintro e w ⟨rfl, hs⟩
                replace hs := hs.push 1
                try dsimp only [back] at hs
                refine ⟨_, rfl, fun h => (by first | (cases h; done) | (first | exact hs.cells2 rfl rfl | exact (hs.pull 1).cells2 rfl rfl | exact (hs.pull 2).cells2 rfl rfl | exact (hs.pull 3).cells2 rfl rfl | exact (hs.pull 4).cells2 rfl rfl | exact (hs.pull 5).cells2 rfl rfl | exact (hs.pull 6).cells2 rfl rfl | exact (hs.pull 7).cells2 rfl rfl | exact (hs.pull 8).cells2 rfl rfl | exact hs.cell rfl | exact (hs.pull 1).cell rfl | exact (hs.pull 2).cell rfl | exact (hs.pull 3).cell rfl | exact (hs.pull 4).cell rfl | exact (hs.pull 5).cell rfl | exact (hs.pull 6).cell rfl | exact (hs.pull 7).cell rfl | exact (hs.pull 8).cell rfl | assumption | exact hs.cellsOf | exact (hs.pull 1).cellsOf | exact (hs.pull 2).cellsOf | exact (hs.pull 3).cellsOf | exact (hs.pull 4).cellsOf | exact (hs.pull 5).cellsOf | exact (hs.pull 6).cellsOf | exact (hs.pull 7).cellsOf | exact (hs.pull 8).cellsOf) | (and_intros <;> first | exact hs.cells2 rfl rfl | exact (hs.pull 1).cells2 rfl rfl | exact (hs.pull 2).cells2 rfl rfl | exact (hs.pull 3).cells2 rfl rfl | exact (hs.pull 4).cells2 rfl rfl | exact (hs.pull 5).cells2 rfl rfl | exact (hs.pull 6).cells2 rfl rfl | exact (hs.pull 7).cells2 rfl rfl | exact (hs.pull 8).cells2 rfl rfl | exact hs.cell rfl | exact (hs.pull 1).cell rfl | exact (hs.pull 2).cell rfl | exact (hs.pull 3).cell rfl | exact (hs.pull 4).cell rfl | exact (hs.pull 5).cell rfl | exact (hs.pull 6).cell rfl | exact (hs.pull 7).cell rfl | exact (hs.pull 8).cell rfl | assumption | exact hs.cellsOf | exact (hs.pull 1).cellsOf | exact (hs.pull 2).cellsOf | exact (hs.pull 3).cellsOf | exact (hs.pull 4).cellsOf | exact (hs.pull 5).cellsOf | exact (hs.pull 6).cellsOf | exact (hs.pull 7).cellsOf | exact (hs.pull 8).cellsOf)), ?_⟩
                refine x_move (.tuple _) rfl ?_
                refine x_extract _ (.agg _) rfl rfl ?_
                refine x_extract _ (.slice _ _ _) rfl rfl ?_
                refine x_extract _ (.bool _) rfl rfl ?_
                refine x_alloc zi_30 hs ?_; clear hs; intro b8 w hs; refine ⟨fun h => (by first | (cases h; done) | (first | exact hs.cells2 rfl rfl | exact (hs.pull 1).cells2 rfl rfl | exact (hs.pull 2).cells2 rfl rfl | exact (hs.pull 3).cells2 rfl rfl | exact (hs.pull 4).cells2 rfl rfl | exact (hs.pull 5).cells2 rfl rfl | exact (hs.pull 6).cells2 rfl rfl | exact (hs.pull 7).cells2 rfl rfl | exact (hs.pull 8).cells2 rfl rfl | exact hs.cell rfl | exact (hs.pull 1).cell rfl | exact (hs.pull 2).cell rfl | exact (hs.pull 3).cell rfl | exact (hs.pull 4).cell rfl | exact (hs.pull 5).cell rfl | exact (hs.pull 6).cell rfl | exact (hs.pull 7).cell rfl | exact (hs.pull 8).cell rfl | assumption | exact hs.cellsOf | exact (hs.pull 1).cellsOf | exact (hs.pull 2).cellsOf | exact (hs.pull 3).cellsOf | exact (hs.pull 4).cellsOf | exact (hs.pull 5).cellsOf | exact (hs.pull 6).cellsOf | exact (hs.pull 7).cellsOf | exact (hs.pull 8).cellsOf) | (and_intros <;> first | exact hs.cells2 rfl rfl | exact (hs.pull 1).cells2 rfl rfl | exact (hs.pull 2).cells2 rfl rfl | exact (hs.pull 3).cells2 rfl rfl | exact (hs.pull 4).cells2 rfl rfl | exact (hs.pull 5).cells2 rfl rfl | exact (hs.pull 6).cells2 rfl rfl | exact (hs.pull 7).cells2 rfl rfl | exact (hs.pull 8).cells2 rfl rfl | exact hs.cell rfl | exact (hs.pull 1).cell rfl | exact (hs.pull 2).cell rfl | exact (hs.pull 3).cell rfl | exact (hs.pull 4).cell rfl | exact (hs.pull 5).cell rfl | exact (hs.pull 6).cell rfl | exact (hs.pull 7).cell rfl | exact (hs.pull 8).cell rfl | assumption | exact hs.cellsOf | exact (hs.pull 1).cellsOf | exact (hs.pull 2).cellsOf | exact (hs.pull 3).cellsOf | exact (hs.pull 4).cellsOf | exact (hs.pull 5).cellsOf | exact (hs.pull 6).cellsOf | exact (hs.pull 7).cellsOf | exact (hs.pull 8).cellsOf)), ?_⟩
                first
                  | refine x_storeAllI hs 0 rfl rfl agg_30 [_, _] rfl rfl rfl rfl ?_
                  | refine x_storeAllI hs 1 rfl rfl agg_30 [_, _] rfl rfl rfl rfl ?_
                  | refine x_storeAllI hs 2 rfl rfl agg_30 [_, _] rfl rfl rfl rfl ?_
                  | refine x_storeAllI hs 3 rfl rfl agg_30 [_, _] rfl rfl rfl rfl ?_
                  | refine x_storeAllI hs 4 rfl rfl agg_30 [_, _] rfl rfl rfl rfl ?_
                  | refine x_storeAllI hs 5 rfl rfl agg_30 [_, _] rfl rfl rfl rfl ?_
                  | refine x_storeAllI hs 6 rfl rfl agg_30 [_, _] rfl rfl rfl rfl ?_
                  | refine x_storeAllI hs 7 rfl rfl agg_30 [_, _] rfl rfl rfl rfl ?_
                clear hs; intro w hs
                try dsimp only [back, List.set_cons_zero, List.set_cons_succ] at hs
                refine ⟨fun h => (by first | (cases h; done) | (first | exact hs.cells2 rfl rfl | exact (hs.pull 1).cells2 rfl rfl | exact (hs.pull 2).cells2 rfl rfl | exact (hs.pull 3).cells2 rfl rfl | exact (hs.pull 4).cells2 rfl rfl | exact (hs.pull 5).cells2 rfl rfl | exact (hs.pull 6).cells2 rfl rfl | exact (hs.pull 7).cells2 rfl rfl | exact (hs.pull 8).cells2 rfl rfl | exact hs.cell rfl | exact (hs.pull 1).cell rfl | exact (hs.pull 2).cell rfl | exact (hs.pull 3).cell rfl | exact (hs.pull 4).cell rfl | exact (hs.pull 5).cell rfl | exact (hs.pull 6).cell rfl | exact (hs.pull 7).cell rfl | exact (hs.pull 8).cell rfl | assumption | exact hs.cellsOf | exact (hs.pull 1).cellsOf | exact (hs.pull 2).cellsOf | exact (hs.pull 3).cellsOf | exact (hs.pull 4).cellsOf | exact (hs.pull 5).cellsOf | exact (hs.pull 6).cellsOf | exact (hs.pull 7).cellsOf | exact (hs.pull 8).cellsOf) | (and_intros <;> first | exact hs.cells2 rfl rfl | exact (hs.pull 1).cells2 rfl rfl | exact (hs.pull 2).cells2 rfl rfl | exact (hs.pull 3).cells2 rfl rfl | exact (hs.pull 4).cells2 rfl rfl | exact (hs.pull 5).cells2 rfl rfl | exact (hs.pull 6).cells2 rfl rfl | exact (hs.pull 7).cells2 rfl rfl | exact (hs.pull 8).cells2 rfl rfl | exact hs.cell rfl | exact (hs.pull 1).cell rfl | exact (hs.pull 2).cell rfl | exact (hs.pull 3).cell rfl | exact (hs.pull 4).cell rfl | exact (hs.pull 5).cell rfl | exact (hs.pull 6).cell rfl | exact (hs.pull 7).cell rfl | exact (hs.pull 8).cell rfl | assumption | exact hs.cellsOf | exact (hs.pull 1).cellsOf | exact (hs.pull 2).cellsOf | exact (hs.pull 3).cellsOf | exact (hs.pull 4).cellsOf | exact (hs.pull 5).cellsOf | exact (hs.pull 6).cellsOf | exact (hs.pull 7).cellsOf | exact (hs.pull 8).cellsOf)), ?_⟩
                refine x_assign (.slice _ _ _) rfl ?_
                refine x_assign (.bool _) rfl ?_
                refine x_nil ?_
                refine then_n ?_
                refine c_seq ?_
                -- region 21
                refine c_region ?_
                refine x_move (.pointer _) rfl ?_
                first | refine x_field0 fa_44_2 _ rfl ?_ | refine x_field fa_44_2 _ _ rfl ?_
                refine x_load one_3 _ (.int _ _) rfl (by first | exact hs.cell rfl | exact (hs.pull 1).cell rfl | exact (hs.pull 2).cell rfl | exact (hs.pull 3).cell rfl | assumption | exact (hs.pull 4).cell rfl | exact (hs.pull 5).cell rfl | exact (hs.pull 6).cell rfl | exact (hs.pull 7).cell rfl) ?_
                refine x_call Try.f16 Try.func16 rfl rfl _ rfl ?_
                refine ((rtake14_nil At (hs.pull 3))).mono ?_
                clear hs; rintro e w ⟨rfl, hs⟩
                refine ⟨_, rfl, fun h => (by first | (cases h; done) | (first | exact hs.cells2 rfl rfl | exact (hs.pull 1).cells2 rfl rfl | exact (hs.pull 2).cells2 rfl rfl | exact (hs.pull 3).cells2 rfl rfl | exact (hs.pull 4).cells2 rfl rfl | exact (hs.pull 5).cells2 rfl rfl | exact (hs.pull 6).cells2 rfl rfl | exact (hs.pull 7).cells2 rfl rfl | exact (hs.pull 8).cells2 rfl rfl | exact hs.cell rfl | exact (hs.pull 1).cell rfl | exact (hs.pull 2).cell rfl | exact (hs.pull 3).cell rfl | exact (hs.pull 4).cell rfl | exact (hs.pull 5).cell rfl | exact (hs.pull 6).cell rfl | exact (hs.pull 7).cell rfl | exact (hs.pull 8).cell rfl | assumption | exact hs.cellsOf | exact (hs.pull 1).cellsOf | exact (hs.pull 2).cellsOf | exact (hs.pull 3).cellsOf | exact (hs.pull 4).cellsOf | exact (hs.pull 5).cellsOf | exact (hs.pull 6).cellsOf | exact (hs.pull 7).cellsOf | exact (hs.pull 8).cellsOf) | (and_intros <;> first | exact hs.cells2 rfl rfl | exact (hs.pull 1).cells2 rfl rfl | exact (hs.pull 2).cells2 rfl rfl | exact (hs.pull 3).cells2 rfl rfl | exact (hs.pull 4).cells2 rfl rfl | exact (hs.pull 5).cells2 rfl rfl | exact (hs.pull 6).cells2 rfl rfl | exact (hs.pull 7).cells2 rfl rfl | exact (hs.pull 8).cells2 rfl rfl | exact hs.cell rfl | exact (hs.pull 1).cell rfl | exact (hs.pull 2).cell rfl | exact (hs.pull 3).cell rfl | exact (hs.pull 4).cell rfl | exact (hs.pull 5).cell rfl | exact (hs.pull 6).cell rfl | exact (hs.pull 7).cell rfl | exact (hs.pull 8).cell rfl | assumption | exact hs.cellsOf | exact (hs.pull 1).cellsOf | exact (hs.pull 2).cellsOf | exact (hs.pull 3).cellsOf | exact (hs.pull 4).cellsOf | exact (hs.pull 5).cellsOf | exact (hs.pull 6).cellsOf | exact (hs.pull 7).cellsOf | exact (hs.pull 8).cellsOf)), ?_⟩
                refine x_move (.tuple _) rfl ?_
                refine x_extract _ (.agg _) rfl rfl ?_
                refine x_extract _ (.bool _) rfl rfl ?_
                refine x_alloc zi_47 hs ?_; clear hs; intro b11 w hs; refine ⟨fun h => (by first | (cases h; done) | (first | exact hs.cells2 rfl rfl | exact (hs.pull 1).cells2 rfl rfl | exact (hs.pull 2).cells2 rfl rfl | exact (hs.pull 3).cells2 rfl rfl | exact (hs.pull 4).cells2 rfl rfl | exact (hs.pull 5).cells2 rfl rfl | exact (hs.pull 6).cells2 rfl rfl | exact (hs.pull 7).cells2 rfl rfl | exact (hs.pull 8).cells2 rfl rfl | exact hs.cell rfl | exact (hs.pull 1).cell rfl | exact (hs.pull 2).cell rfl | exact (hs.pull 3).cell rfl | exact (hs.pull 4).cell rfl | exact (hs.pull 5).cell rfl | exact (hs.pull 6).cell rfl | exact (hs.pull 7).cell rfl | exact (hs.pull 8).cell rfl | assumption | exact hs.cellsOf | exact (hs.pull 1).cellsOf | exact (hs.pull 2).cellsOf | exact (hs.pull 3).cellsOf | exact (hs.pull 4).cellsOf | exact (hs.pull 5).cellsOf | exact (hs.pull 6).cellsOf | exact (hs.pull 7).cellsOf | exact (hs.pull 8).cellsOf) | (and_intros <;> first | exact hs.cells2 rfl rfl | exact (hs.pull 1).cells2 rfl rfl | exact (hs.pull 2).cells2 rfl rfl | exact (hs.pull 3).cells2 rfl rfl | exact (hs.pull 4).cells2 rfl rfl | exact (hs.pull 5).cells2 rfl rfl | exact (hs.pull 6).cells2 rfl rfl | exact (hs.pull 7).cells2 rfl rfl | exact (hs.pull 8).cells2 rfl rfl | exact hs.cell rfl | exact (hs.pull 1).cell rfl | exact (hs.pull 2).cell rfl | exact (hs.pull 3).cell rfl | exact (hs.pull 4).cell rfl | exact (hs.pull 5).cell rfl | exact (hs.pull 6).cell rfl | exact (hs.pull 7).cell rfl | exact (hs.pull 8).cell rfl | assumption | exact hs.cellsOf | exact (hs.pull 1).cellsOf | exact (hs.pull 2).cellsOf | exact (hs.pull 3).cellsOf | exact (hs.pull 4).cellsOf | exact (hs.pull 5).cellsOf | exact (hs.pull 6).cellsOf | exact (hs.pull 7).cellsOf | exact (hs.pull 8).cellsOf)), ?_⟩
                first
                  | refine x_storeAllI hs 0 rfl rfl agg_47 [_, _, _, _] rfl rfl rfl rfl ?_
                  | refine x_storeAllI hs 1 rfl rfl agg_47 [_, _, _, _] rfl rfl rfl rfl ?_
                  | refine x_storeAllI hs 2 rfl rfl agg_47 [_, _, _, _] rfl rfl rfl rfl ?_
                  | refine x_storeAllI hs 3 rfl rfl agg_47 [_, _, _, _] rfl rfl rfl rfl ?_
                  | refine x_storeAllI hs 4 rfl rfl agg_47 [_, _, _, _] rfl rfl rfl rfl ?_
                  | refine x_storeAllI hs 5 rfl rfl agg_47 [_, _, _, _] rfl rfl rfl rfl ?_
                  | refine x_storeAllI hs 6 rfl rfl agg_47 [_, _, _, _] rfl rfl rfl rfl ?_
                  | refine x_storeAllI hs 7 rfl rfl agg_47 [_, _, _, _] rfl rfl rfl rfl ?_
                clear hs; intro w hs
                try dsimp only [back, List.set_cons_zero, List.set_cons_succ] at hs
                refine ⟨fun h => (by first | (cases h; done) | (first | exact hs.cells2 rfl rfl | exact (hs.pull 1).cells2 rfl rfl | exact (hs.pull 2).cells2 rfl rfl | exact (hs.pull 3).cells2 rfl rfl | exact (hs.pull 4).cells2 rfl rfl | exact (hs.pull 5).cells2 rfl rfl | exact (hs.pull 6).cells2 rfl rfl | exact (hs.pull 7).cells2 rfl rfl | exact (hs.pull 8).cells2 rfl rfl | exact hs.cell rfl | exact (hs.pull 1).cell rfl | exact (hs.pull 2).cell rfl | exact (hs.pull 3).cell rfl | exact (hs.pull 4).cell rfl | exact (hs.pull 5).cell rfl | exact (hs.pull 6).cell rfl | exact (hs.pull 7).cell rfl | exact (hs.pull 8).cell rfl | assumption | exact hs.cellsOf | exact (hs.pull 1).cellsOf | exact (hs.pull 2).cellsOf | exact (hs.pull 3).cellsOf | exact (hs.pull 4).cellsOf | exact (hs.pull 5).cellsOf | exact (hs.pull 6).cellsOf | exact (hs.pull 7).cellsOf | exact (hs.pull 8).cellsOf) | (and_intros <;> first | exact hs.cells2 rfl rfl | exact (hs.pull 1).cells2 rfl rfl | exact (hs.pull 2).cells2 rfl rfl | exact (hs.pull 3).cells2 rfl rfl | exact (hs.pull 4).cells2 rfl rfl | exact (hs.pull 5).cells2 rfl rfl | exact (hs.pull 6).cells2 rfl rfl | exact (hs.pull 7).cells2 rfl rfl | exact (hs.pull 8).cells2 rfl rfl | exact hs.cell rfl | exact (hs.pull 1).cell rfl | exact (hs.pull 2).cell rfl | exact (hs.pull 3).cell rfl | exact (hs.pull 4).cell rfl | exact (hs.pull 5).cell rfl | exact (hs.pull 6).cell rfl | exact (hs.pull 7).cell rfl | exact (hs.pull 8).cell rfl | assumption | exact hs.cellsOf | exact (hs.pull 1).cellsOf | exact (hs.pull 2).cellsOf | exact (hs.pull 3).cellsOf | exact (hs.pull 4).cellsOf | exact (hs.pull 5).cellsOf | exact (hs.pull 6).cellsOf | exact (hs.pull 7).cellsOf | exact (hs.pull 8).cellsOf)), ?_⟩
                refine x_assign (.bool _) rfl ?_
                refine x_nil ?_
                refine then_n ?_
                -- region 22
                refine c_region ?_
                refine x_loadN [_, _] agg_30 _ rfl (by first | assumption | exact hs.cellsOf | exact (hs.pull 1).cellsOf | exact (hs.pull 2).cellsOf | exact (hs.pull 3).cellsOf | exact (hs.pull 4).cellsOf | exact (hs.pull 5).cellsOf | exact (hs.pull 6).cellsOf | exact (hs.pull 7).cellsOf | exact (hs.pull 8).cellsOf | exact hs.cells2 rfl rfl | exact (hs.pull 1).cells2 rfl rfl | exact (hs.pull 2).cells2 rfl rfl | exact (hs.pull 3).cells2 rfl rfl | exact (hs.pull 4).cells2 rfl rfl | exact (hs.pull 5).cells2 rfl rfl | exact (hs.pull 6).cells2 rfl rfl | exact (hs.pull 7).cells2 rfl rfl | exact (hs.pull 8).cells2 rfl rfl) ?_
                first | refine x_field0 fa_47_0 _ rfl ?_ | refine x_field fa_47_0 _ _ rfl ?_
                refine x_loadN [_, _] agg_30 _ rfl (by first | assumption | exact hs.cellsOf | exact (hs.pull 1).cellsOf | exact (hs.pull 2).cellsOf | exact (hs.pull 3).cellsOf | exact (hs.pull 4).cellsOf | exact (hs.pull 5).cellsOf | exact (hs.pull 6).cellsOf | exact (hs.pull 7).cellsOf | exact (hs.pull 8).cellsOf | exact hs.cells2 rfl rfl | exact (hs.pull 1).cells2 rfl rfl | exact (hs.pull 2).cells2 rfl rfl | exact (hs.pull 3).cells2 rfl rfl | exact (hs.pull 4).cells2 rfl rfl | exact (hs.pull 5).cells2 rfl rfl | exact (hs.pull 6).cells2 rfl rfl | exact (hs.pull 7).cells2 rfl rfl | exact (hs.pull 8).cells2 rfl rfl) ?_
                refine x_eqlET eq_pid (⟨0, 0⟩ : Pid) (⟨0, 0⟩ : Pid) rfl rfl rfl ?_
                refine x_move (.bool _) rfl ?_
                refine x_want' rfl ?_
                refine x_move (.slice _ _ _) rfl ?_
                refine x_want' rfl ?_
                first | refine x_field0 fa_47_1 _ rfl ?_ | refine x_field fa_47_1 _ _ rfl ?_
                refine x_want' rfl ?_
                refine x_load one_22 _ (.slice _ _ _) rfl (by first | exact hs.cell rfl | exact (hs.pull 1).cell rfl | exact (hs.pull 2).cell rfl | exact (hs.pull 3).cell rfl | assumption | exact (hs.pull 4).cell rfl | exact (hs.pull 5).cell rfl | exact (hs.pull 6).cell rfl | exact (hs.pull 7).cell rfl) ?_
                refine x_want' rfl ?_
                refine x_call Try.f12 Try.func12 rfl rfl _ rfl ?_
                refine ((eq01_true hs (RBnil _) (RBnil _) (by decide))).mono ?_
                clear hs; rintro e w ⟨rfl, hs⟩
                refine ⟨_, rfl, fun h => (by first | (cases h; done) | (first | exact hs.cells2 rfl rfl | exact (hs.pull 1).cells2 rfl rfl | exact (hs.pull 2).cells2 rfl rfl | exact (hs.pull 3).cells2 rfl rfl | exact (hs.pull 4).cells2 rfl rfl | exact (hs.pull 5).cells2 rfl rfl | exact (hs.pull 6).cells2 rfl rfl | exact (hs.pull 7).cells2 rfl rfl | exact (hs.pull 8).cells2 rfl rfl | exact hs.cell rfl | exact (hs.pull 1).cell rfl | exact (hs.pull 2).cell rfl | exact (hs.pull 3).cell rfl | exact (hs.pull 4).cell rfl | exact (hs.pull 5).cell rfl | exact (hs.pull 6).cell rfl | exact (hs.pull 7).cell rfl | exact (hs.pull 8).cell rfl | assumption | exact hs.cellsOf | exact (hs.pull 1).cellsOf | exact (hs.pull 2).cellsOf | exact (hs.pull 3).cellsOf | exact (hs.pull 4).cellsOf | exact (hs.pull 5).cellsOf | exact (hs.pull 6).cellsOf | exact (hs.pull 7).cellsOf | exact (hs.pull 8).cellsOf) | (and_intros <;> first | exact hs.cells2 rfl rfl | exact (hs.pull 1).cells2 rfl rfl | exact (hs.pull 2).cells2 rfl rfl | exact (hs.pull 3).cells2 rfl rfl | exact (hs.pull 4).cells2 rfl rfl | exact (hs.pull 5).cells2 rfl rfl | exact (hs.pull 6).cells2 rfl rfl | exact (hs.pull 7).cells2 rfl rfl | exact (hs.pull 8).cells2 rfl rfl | exact hs.cell rfl | exact (hs.pull 1).cell rfl | exact (hs.pull 2).cell rfl | exact (hs.pull 3).cell rfl | exact (hs.pull 4).cell rfl | exact (hs.pull 5).cell rfl | exact (hs.pull 6).cell rfl | exact (hs.pull 7).cell rfl | exact (hs.pull 8).cell rfl | assumption | exact hs.cellsOf | exact (hs.pull 1).cellsOf | exact (hs.pull 2).cellsOf | exact (hs.pull 3).cellsOf | exact (hs.pull 4).cellsOf | exact (hs.pull 5).cellsOf | exact (hs.pull 6).cellsOf | exact (hs.pull 7).cellsOf | exact (hs.pull 8).cellsOf)), ?_⟩
                refine x_pickT (.bool _) rfl rfl ?_
                refine x_move (.bool _) rfl ?_
                refine x_want' rfl ?_
                refine x_move (.bool _) rfl ?_
                refine x_want' rfl ?_
                refine x_move (.bool _) rfl ?_
                refine x_want' rfl ?_
                refine x_eqlB _ _ Try.underlying4 rfl rfl ?_
                refine x_pickT (.bool _) rfl rfl ?_
                refine x_assign (.bool _) rfl ?_
                refine x_nil ?_
                refine inb_n ?_
                refine then_n ?_
                exact ⟨[], ⟨rfl, rfl, rfl, rfl, rfl, rfl, trivial⟩, ⟨hinv, Sat.left (Ls := [_, _, _, _]) (hs.perm [3, 4, 1, 5, 0, 2])⟩⟩
          · skip
            refine c_seq ?_
            -- region 23
            refine c_region ?_
            refine x_eql _ _ rfl rfl ?_
            refine x_assign (.bool _) rfl ?_
            refine x_nil ?_
            refine then_n ?_
            refine c_test _ rfl (fun hb => ?_) (fun hb => ?_)   -- cond t126
            · skip
              -- region 24 DRAWS
              refine c_draw (fun w => w.cell? ⟨b6, 2, none⟩ = some (.int .i64 At)) (fun i => !(Nat.beq i 7)) [(0, 2), (1, 2), (2, 1), (4, 2), (5, 2), (6, 1), (3, 0), (7, 0), (8, 2), (9, 2)] (by kernel_rfl) (by kernel_rfl) (by kernel_rfl) (by kernel_rfl) ((by first | (first | exact hs.cells2 rfl rfl | exact (hs.pull 1).cells2 rfl rfl | exact (hs.pull 2).cells2 rfl rfl | exact (hs.pull 3).cells2 rfl rfl | exact (hs.pull 4).cells2 rfl rfl | exact (hs.pull 5).cells2 rfl rfl | exact (hs.pull 6).cells2 rfl rfl | exact (hs.pull 7).cells2 rfl rfl | exact (hs.pull 8).cells2 rfl rfl | exact hs.cell rfl | exact (hs.pull 1).cell rfl | exact (hs.pull 2).cell rfl | exact (hs.pull 3).cell rfl | exact (hs.pull 4).cell rfl | exact (hs.pull 5).cell rfl | exact (hs.pull 6).cell rfl | exact (hs.pull 7).cell rfl | exact (hs.pull 8).cell rfl | assumption | exact hs.cellsOf | exact (hs.pull 1).cellsOf | exact (hs.pull 2).cellsOf | exact (hs.pull 3).cellsOf | exact (hs.pull 4).cellsOf | exact (hs.pull 5).cellsOf | exact (hs.pull 6).cellsOf | exact (hs.pull 7).cellsOf | exact (hs.pull 8).cellsOf) | (and_intros <;> first | exact hs.cells2 rfl rfl | exact (hs.pull 1).cells2 rfl rfl | exact (hs.pull 2).cells2 rfl rfl | exact (hs.pull 3).cells2 rfl rfl | exact (hs.pull 4).cells2 rfl rfl | exact (hs.pull 5).cells2 rfl rfl | exact (hs.pull 6).cells2 rfl rfl | exact (hs.pull 7).cells2 rfl rfl | exact (hs.pull 8).cells2 rfl rfl | exact hs.cell rfl | exact (hs.pull 1).cell rfl | exact (hs.pull 2).cell rfl | exact (hs.pull 3).cell rfl | exact (hs.pull 4).cell rfl | exact (hs.pull 5).cell rfl | exact (hs.pull 6).cell rfl | exact (hs.pull 7).cell rfl | exact (hs.pull 8).cell rfl | assumption | exact hs.cellsOf | exact (hs.pull 1).cellsOf | exact (hs.pull 2).cellsOf | exact (hs.pull 3).cellsOf | exact (hs.pull 4).cellsOf | exact (hs.pull 5).cellsOf | exact (hs.pull 6).cellsOf | exact (hs.pull 7).cellsOf | exact (hs.pull 8).cellsOf))) ?_
              replace hs := hs.drew
              refine x_move (.pointer _) rfl ?_
              first | refine x_field0 fa_44_2 _ rfl ?_ | refine x_field fa_44_2 _ _ rfl ?_
              refine h_load one_3 _ (.int _ _) rfl (fun w hS => by first | exact hS.cell rfl | exact (hS.pull 1).cell rfl | exact (hS.pull 2).cell rfl | exact (hS.pull 3).cell rfl | exact (hS.pull 4).cell rfl | exact (hS.pull 5).cell rfl | exact (hS.pull 6).cell rfl | exact hS | exact hS.1 | exact hS.2 | exact hS.2.1 | exact hS.2.2 | exact hS.2.2.1 | exact hS.2.2.2 | exact hS.2.2.2.1 | exact hS.2.2.2.2) ?_
              refine x_move (.pointer _) rfl ?_
              first | refine x_field0 fa_44_2 _ rfl ?_ | refine x_field fa_44_2 _ _ rfl ?_
              refine h_load one_3 _ (.int _ _) rfl (fun w hS => by first | exact hS.cell rfl | exact (hS.pull 1).cell rfl | exact (hS.pull 2).cell rfl | exact (hS.pull 3).cell rfl | exact (hS.pull 4).cell rfl | exact (hS.pull 5).cell rfl | exact (hS.pull 6).cell rfl | exact hS | exact hS.1 | exact hS.2 | exact hS.2.1 | exact hS.2.2 | exact hS.2.2.1 | exact hS.2.2.2 | exact hS.2.2.2.1 | exact hS.2.2.2.2) ?_
              refine x_call Try.f17 Try.func17 rfl rfl _ rfl ?_
              refine (fdouble_calls At (hs.pull 1) hll hlb).mono ?_
              clear hs; rintro e w ⟨rfl, hs⟩
              replace hs := hs.push 1
              try dsimp only [back] at hs
              refine ⟨_, rfl, fun h => (by first | (cases h; done) | (first | exact hs.cells2 rfl rfl | exact (hs.pull 1).cells2 rfl rfl | exact (hs.pull 2).cells2 rfl rfl | exact (hs.pull 3).cells2 rfl rfl | exact (hs.pull 4).cells2 rfl rfl | exact (hs.pull 5).cells2 rfl rfl | exact (hs.pull 6).cells2 rfl rfl | exact (hs.pull 7).cells2 rfl rfl | exact (hs.pull 8).cells2 rfl rfl | exact hs.cell rfl | exact (hs.pull 1).cell rfl | exact (hs.pull 2).cell rfl | exact (hs.pull 3).cell rfl | exact (hs.pull 4).cell rfl | exact (hs.pull 5).cell rfl | exact (hs.pull 6).cell rfl | exact (hs.pull 7).cell rfl | exact (hs.pull 8).cell rfl | assumption | exact hs.cellsOf | exact (hs.pull 1).cellsOf | exact (hs.pull 2).cellsOf | exact (hs.pull 3).cellsOf | exact (hs.pull 4).cellsOf | exact (hs.pull 5).cellsOf | exact (hs.pull 6).cellsOf | exact (hs.pull 7).cellsOf | exact (hs.pull 8).cellsOf) | (and_intros <;> first | exact hs.cells2 rfl rfl | exact (hs.pull 1).cells2 rfl rfl | exact (hs.pull 2).cells2 rfl rfl | exact (hs.pull 3).cells2 rfl rfl | exact (hs.pull 4).cells2 rfl rfl | exact (hs.pull 5).cells2 rfl rfl | exact (hs.pull 6).cells2 rfl rfl | exact (hs.pull 7).cells2 rfl rfl | exact (hs.pull 8).cells2 rfl rfl | exact hs.cell rfl | exact (hs.pull 1).cell rfl | exact (hs.pull 2).cell rfl | exact (hs.pull 3).cell rfl | exact (hs.pull 4).cell rfl | exact (hs.pull 5).cell rfl | exact (hs.pull 6).cell rfl | exact (hs.pull 7).cell rfl | exact (hs.pull 8).cell rfl | assumption | exact hs.cellsOf | exact (hs.pull 1).cellsOf | exact (hs.pull 2).cellsOf | exact (hs.pull 3).cellsOf | exact (hs.pull 4).cellsOf | exact (hs.pull 5).cellsOf | exact (hs.pull 6).cellsOf | exact (hs.pull 7).cellsOf | exact (hs.pull 8).cellsOf)), ?_⟩
              refine x_call Try.f18 Try.func18 rfl rfl _ rfl ?_
              refine (rdouble_calls At (hs.pull 2) hll hlb).mono ?_
              clear hs; rintro e w ⟨rfl, hs⟩
              replace hs := hs.push 2
              try dsimp only [back] at hs
              refine ⟨_, rfl, fun h => (by first | (cases h; done) | (first | exact hs.cells2 rfl rfl | exact (hs.pull 1).cells2 rfl rfl | exact (hs.pull 2).cells2 rfl rfl | exact (hs.pull 3).cells2 rfl rfl | exact (hs.pull 4).cells2 rfl rfl | exact (hs.pull 5).cells2 rfl rfl | exact (hs.pull 6).cells2 rfl rfl | exact (hs.pull 7).cells2 rfl rfl | exact (hs.pull 8).cells2 rfl rfl | exact hs.cell rfl | exact (hs.pull 1).cell rfl | exact (hs.pull 2).cell rfl | exact (hs.pull 3).cell rfl | exact (hs.pull 4).cell rfl | exact (hs.pull 5).cell rfl | exact (hs.pull 6).cell rfl | exact (hs.pull 7).cell rfl | exact (hs.pull 8).cell rfl | assumption | exact hs.cellsOf | exact (hs.pull 1).cellsOf | exact (hs.pull 2).cellsOf | exact (hs.pull 3).cellsOf | exact (hs.pull 4).cellsOf | exact (hs.pull 5).cellsOf | exact (hs.pull 6).cellsOf | exact (hs.pull 7).cellsOf | exact (hs.pull 8).cellsOf) | (and_intros <;> first | exact hs.cells2 rfl rfl | exact (hs.pull 1).cells2 rfl rfl | exact (hs.pull 2).cells2 rfl rfl | exact (hs.pull 3).cells2 rfl rfl | exact (hs.pull 4).cells2 rfl rfl | exact (hs.pull 5).cells2 rfl rfl | exact (hs.pull 6).cells2 rfl rfl | exact (hs.pull 7).cells2 rfl rfl | exact (hs.pull 8).cells2 rfl rfl | exact hs.cell rfl | exact (hs.pull 1).cell rfl | exact (hs.pull 2).cell rfl | exact (hs.pull 3).cell rfl | exact (hs.pull 4).cell rfl | exact (hs.pull 5).cell rfl | exact (hs.pull 6).cell rfl | exact (hs.pull 7).cell rfl | exact (hs.pull 8).cell rfl | assumption | exact hs.cellsOf | exact (hs.pull 1).cellsOf | exact (hs.pull 2).cellsOf | exact (hs.pull 3).cellsOf | exact (hs.pull 4).cellsOf | exact (hs.pull 5).cellsOf | exact (hs.pull 6).cellsOf | exact (hs.pull 7).cellsOf | exact (hs.pull 8).cellsOf)), ?_⟩
              refine x_eqlB _ _ Try.underlying4 rfl rfl ?_
              refine x_assign (.bool _) rfl ?_
              refine x_nil ?_
              refine inb_n ?_
              refine then_n ?_
              rw [beq_self_eq_true]
              exact ⟨(thDouble l At).2, ⟨rfl, rfl, rfl, rfl, rfl, rfl, trivial⟩, ⟨hinv.double At, hs⟩⟩
            · skip
              refine c_seq ?_
              -- region 25
              refine c_region ?_
              refine x_eql _ _ rfl rfl ?_
              refine x_assign (.bool _) rfl ?_
              refine x_nil ?_
              refine then_n ?_
              refine c_test _ rfl (fun hb => ?_) (fun hb => ?_)   -- cond t137
              · skip
                -- region 26 DRAWS
                refine c_draw (fun w => w.cell? ⟨b6, 2, none⟩ = some (.int .i64 At) ∧ w.cell? ⟨b6, 3, none⟩ = some (.int .i64 X0) ∧ w.cell? ⟨b6, 4, none⟩ = some (.int .i64 Y0)) (fun i => !(Nat.beq i 15)) [(0, 2), (1, 2), (2, 1), (3, 2), (4, 1), (5, 2), (6, 1), (8, 2), (9, 2), (10, 1), (11, 2), (12, 1), (13, 2), (14, 1), (7, 0), (15, 0), (16, 2), (17, 2)] (by kernel_rfl) (by kernel_rfl) (by kernel_rfl) (by kernel_rfl) ((by first | (first | exact hs.cells2 rfl rfl | exact (hs.pull 1).cells2 rfl rfl | exact (hs.pull 2).cells2 rfl rfl | exact (hs.pull 3).cells2 rfl rfl | exact (hs.pull 4).cells2 rfl rfl | exact (hs.pull 5).cells2 rfl rfl | exact (hs.pull 6).cells2 rfl rfl | exact (hs.pull 7).cells2 rfl rfl | exact (hs.pull 8).cells2 rfl rfl | exact hs.cell rfl | exact (hs.pull 1).cell rfl | exact (hs.pull 2).cell rfl | exact (hs.pull 3).cell rfl | exact (hs.pull 4).cell rfl | exact (hs.pull 5).cell rfl | exact (hs.pull 6).cell rfl | exact (hs.pull 7).cell rfl | exact (hs.pull 8).cell rfl | assumption | exact hs.cellsOf | exact (hs.pull 1).cellsOf | exact (hs.pull 2).cellsOf | exact (hs.pull 3).cellsOf | exact (hs.pull 4).cellsOf | exact (hs.pull 5).cellsOf | exact (hs.pull 6).cellsOf | exact (hs.pull 7).cellsOf | exact (hs.pull 8).cellsOf) | (and_intros <;> first | exact hs.cells2 rfl rfl | exact (hs.pull 1).cells2 rfl rfl | exact (hs.pull 2).cells2 rfl rfl | exact (hs.pull 3).cells2 rfl rfl | exact (hs.pull 4).cells2 rfl rfl | exact (hs.pull 5).cells2 rfl rfl | exact (hs.pull 6).cells2 rfl rfl | exact (hs.pull 7).cells2 rfl rfl | exact (hs.pull 8).cells2 rfl rfl | exact hs.cell rfl | exact (hs.pull 1).cell rfl | exact (hs.pull 2).cell rfl | exact (hs.pull 3).cell rfl | exact (hs.pull 4).cell rfl | exact (hs.pull 5).cell rfl | exact (hs.pull 6).cell rfl | exact (hs.pull 7).cell rfl | exact (hs.pull 8).cell rfl | assumption | exact hs.cellsOf | exact (hs.pull 1).cellsOf | exact (hs.pull 2).cellsOf | exact (hs.pull 3).cellsOf | exact (hs.pull 4).cellsOf | exact (hs.pull 5).cellsOf | exact (hs.pull 6).cellsOf | exact (hs.pull 7).cellsOf | exact (hs.pull 8).cellsOf))) ?_
                replace hs := hs.drew
                refine x_move (.pointer _) rfl ?_
                first | refine x_field0 fa_44_2 _ rfl ?_ | refine x_field fa_44_2 _ _ rfl ?_
                refine h_load one_3 _ (.int _ _) rfl (fun w hS => by first | exact hS.cell rfl | exact (hS.pull 1).cell rfl | exact (hS.pull 2).cell rfl | exact (hS.pull 3).cell rfl | exact (hS.pull 4).cell rfl | exact (hS.pull 5).cell rfl | exact (hS.pull 6).cell rfl | exact hS | exact hS.1 | exact hS.2 | exact hS.2.1 | exact hS.2.2 | exact hS.2.2.1 | exact hS.2.2.2 | exact hS.2.2.2.1 | exact hS.2.2.2.2) ?_
                first | refine x_field0 fa_44_3 _ rfl ?_ | refine x_field fa_44_3 _ _ rfl ?_
                refine h_load one_3 _ (.int _ _) rfl (fun w hS => by first | exact hS.cell rfl | exact (hS.pull 1).cell rfl | exact (hS.pull 2).cell rfl | exact (hS.pull 3).cell rfl | exact (hS.pull 4).cell rfl | exact (hS.pull 5).cell rfl | exact (hS.pull 6).cell rfl | exact hS | exact hS.1 | exact hS.2 | exact hS.2.1 | exact hS.2.2 | exact hS.2.2.1 | exact hS.2.2.2 | exact hS.2.2.2.1 | exact hS.2.2.2.2) ?_
                first | refine x_field0 fa_44_4 _ rfl ?_ | refine x_field fa_44_4 _ _ rfl ?_
                refine h_load one_3 _ (.int _ _) rfl (fun w hS => by first | exact hS.cell rfl | exact (hS.pull 1).cell rfl | exact (hS.pull 2).cell rfl | exact (hS.pull 3).cell rfl | exact (hS.pull 4).cell rfl | exact (hS.pull 5).cell rfl | exact (hS.pull 6).cell rfl | exact hS | exact hS.1 | exact hS.2 | exact hS.2.1 | exact hS.2.2 | exact hS.2.2.1 | exact hS.2.2.2 | exact hS.2.2.2.1 | exact hS.2.2.2.2) ?_
                refine x_move (.pointer _) rfl ?_
                first | refine x_field0 fa_44_2 _ rfl ?_ | refine x_field fa_44_2 _ _ rfl ?_
                refine h_load one_3 _ (.int _ _) rfl (fun w hS => by first | exact hS.cell rfl | exact (hS.pull 1).cell rfl | exact (hS.pull 2).cell rfl | exact (hS.pull 3).cell rfl | exact (hS.pull 4).cell rfl | exact (hS.pull 5).cell rfl | exact (hS.pull 6).cell rfl | exact hS | exact hS.1 | exact hS.2 | exact hS.2.1 | exact hS.2.2 | exact hS.2.2.1 | exact hS.2.2.2 | exact hS.2.2.2.1 | exact hS.2.2.2.2) ?_
                first | refine x_field0 fa_44_3 _ rfl ?_ | refine x_field fa_44_3 _ _ rfl ?_
                refine h_load one_3 _ (.int _ _) rfl (fun w hS => by first | exact hS.cell rfl | exact (hS.pull 1).cell rfl | exact (hS.pull 2).cell rfl | exact (hS.pull 3).cell rfl | exact (hS.pull 4).cell rfl | exact (hS.pull 5).cell rfl | exact (hS.pull 6).cell rfl | exact hS | exact hS.1 | exact hS.2 | exact hS.2.1 | exact hS.2.2 | exact hS.2.2.1 | exact hS.2.2.2 | exact hS.2.2.2.1 | exact hS.2.2.2.2) ?_
                first | refine x_field0 fa_44_4 _ rfl ?_ | refine x_field fa_44_4 _ _ rfl ?_
                refine h_load one_3 _ (.int _ _) rfl (fun w hS => by first | exact hS.cell rfl | exact (hS.pull 1).cell rfl | exact (hS.pull 2).cell rfl | exact (hS.pull 3).cell rfl | exact (hS.pull 4).cell rfl | exact (hS.pull 5).cell rfl | exact (hS.pull 6).cell rfl | exact hS | exact hS.1 | exact hS.2 | exact hS.2.1 | exact hS.2.2 | exact hS.2.2.1 | exact hS.2.2.2 | exact hS.2.2.2.1 | exact hS.2.2.2.2) ?_
                refine x_call Try.f10 Try.func10 rfl rfl _ rfl ?_
                refine (fspoil_calls At X0 Y0 (hs.pull 1) hll hlb).mono ?_
                clear hs; rintro e w ⟨rfl, hs⟩
                replace hs := hs.push 1
                try dsimp only [back] at hs
                refine ⟨_, rfl, fun h => (by first | (cases h; done) | (first | exact hs.cells2 rfl rfl | exact (hs.pull 1).cells2 rfl rfl | exact (hs.pull 2).cells2 rfl rfl | exact (hs.pull 3).cells2 rfl rfl | exact (hs.pull 4).cells2 rfl rfl | exact (hs.pull 5).cells2 rfl rfl | exact (hs.pull 6).cells2 rfl rfl | exact (hs.pull 7).cells2 rfl rfl | exact (hs.pull 8).cells2 rfl rfl | exact hs.cell rfl | exact (hs.pull 1).cell rfl | exact (hs.pull 2).cell rfl | exact (hs.pull 3).cell rfl | exact (hs.pull 4).cell rfl | exact (hs.pull 5).cell rfl | exact (hs.pull 6).cell rfl | exact (hs.pull 7).cell rfl | exact (hs.pull 8).cell rfl | assumption | exact hs.cellsOf | exact (hs.pull 1).cellsOf | exact (hs.pull 2).cellsOf | exact (hs.pull 3).cellsOf | exact (hs.pull 4).cellsOf | exact (hs.pull 5).cellsOf | exact (hs.pull 6).cellsOf | exact (hs.pull 7).cellsOf | exact (hs.pull 8).cellsOf) | (and_intros <;> first | exact hs.cells2 rfl rfl | exact (hs.pull 1).cells2 rfl rfl | exact (hs.pull 2).cells2 rfl rfl | exact (hs.pull 3).cells2 rfl rfl | exact (hs.pull 4).cells2 rfl rfl | exact (hs.pull 5).cells2 rfl rfl | exact (hs.pull 6).cells2 rfl rfl | exact (hs.pull 7).cells2 rfl rfl | exact (hs.pull 8).cells2 rfl rfl | exact hs.cell rfl | exact (hs.pull 1).cell rfl | exact (hs.pull 2).cell rfl | exact (hs.pull 3).cell rfl | exact (hs.pull 4).cell rfl | exact (hs.pull 5).cell rfl | exact (hs.pull 6).cell rfl | exact (hs.pull 7).cell rfl | exact (hs.pull 8).cell rfl | assumption | exact hs.cellsOf | exact (hs.pull 1).cellsOf | exact (hs.pull 2).cellsOf | exact (hs.pull 3).cellsOf | exact (hs.pull 4).cellsOf | exact (hs.pull 5).cellsOf | exact (hs.pull 6).cellsOf | exact (hs.pull 7).cellsOf | exact (hs.pull 8).cellsOf)), ?_⟩
                refine x_call Try.f19 Try.func19 rfl rfl _ rfl ?_
                refine (rspoil_calls At X0 Y0 (hs.pull 2) hll hlb).mono ?_
                clear hs; rintro e w ⟨rfl, hs⟩
                replace hs := hs.push 2
                try dsimp only [back] at hs
                refine ⟨_, rfl, fun h => (by first | (cases h; done) | (first | exact hs.cells2 rfl rfl | exact (hs.pull 1).cells2 rfl rfl | exact (hs.pull 2).cells2 rfl rfl | exact (hs.pull 3).cells2 rfl rfl | exact (hs.pull 4).cells2 rfl rfl | exact (hs.pull 5).cells2 rfl rfl | exact (hs.pull 6).cells2 rfl rfl | exact (hs.pull 7).cells2 rfl rfl | exact (hs.pull 8).cells2 rfl rfl | exact hs.cell rfl | exact (hs.pull 1).cell rfl | exact (hs.pull 2).cell rfl | exact (hs.pull 3).cell rfl | exact (hs.pull 4).cell rfl | exact (hs.pull 5).cell rfl | exact (hs.pull 6).cell rfl | exact (hs.pull 7).cell rfl | exact (hs.pull 8).cell rfl | assumption | exact hs.cellsOf | exact (hs.pull 1).cellsOf | exact (hs.pull 2).cellsOf | exact (hs.pull 3).cellsOf | exact (hs.pull 4).cellsOf | exact (hs.pull 5).cellsOf | exact (hs.pull 6).cellsOf | exact (hs.pull 7).cellsOf | exact (hs.pull 8).cellsOf) | (and_intros <;> first | exact hs.cells2 rfl rfl | exact (hs.pull 1).cells2 rfl rfl | exact (hs.pull 2).cells2 rfl rfl | exact (hs.pull 3).cells2 rfl rfl | exact (hs.pull 4).cells2 rfl rfl | exact (hs.pull 5).cells2 rfl rfl | exact (hs.pull 6).cells2 rfl rfl | exact (hs.pull 7).cells2 rfl rfl | exact (hs.pull 8).cells2 rfl rfl | exact hs.cell rfl | exact (hs.pull 1).cell rfl | exact (hs.pull 2).cell rfl | exact (hs.pull 3).cell rfl | exact (hs.pull 4).cell rfl | exact (hs.pull 5).cell rfl | exact (hs.pull 6).cell rfl | exact (hs.pull 7).cell rfl | exact (hs.pull 8).cell rfl | assumption | exact hs.cellsOf | exact (hs.pull 1).cellsOf | exact (hs.pull 2).cellsOf | exact (hs.pull 3).cellsOf | exact (hs.pull 4).cellsOf | exact (hs.pull 5).cellsOf | exact (hs.pull 6).cellsOf | exact (hs.pull 7).cellsOf | exact (hs.pull 8).cellsOf)), ?_⟩
                refine x_eqlB _ _ Try.underlying4 rfl rfl ?_
                refine x_assign (.bool _) rfl ?_
                refine x_nil ?_
                refine inb_n ?_
                refine then_n ?_
                rw [beq_self_eq_true]
                exact ⟨(thSpoil l At X0 Y0).2, ⟨rfl, rfl, rfl, rfl, rfl, rfl, trivial⟩, ⟨hinv.spoil At X0 Y0, hs⟩⟩
              · skip
                refine c_seq ?_
                -- region 27
                refine c_region ?_
                refine x_eql _ _ rfl rfl ?_
                refine x_assign (.bool _) rfl ?_
                refine x_nil ?_
                refine then_n ?_
                refine c_test _ rfl (fun hb => ?_) (fun hb => ?_)   -- cond t156
                · skip
                  -- region 28 DRAWS
                  refine c_draw (fun w => w.cell? ⟨b6, 2, none⟩ = some (.int .i64 At) ∧ w.cell? ⟨b6, 3, none⟩ = some (.int .i64 X0)) (fun i => !(Nat.beq i 11)) [(0, 2), (1, 2), (2, 1), (3, 2), (4, 1), (6, 2), (7, 2), (8, 1), (9, 2), (10, 1), (5, 0), (11, 0), (12, 2), (13, 2)] (by kernel_rfl) (by kernel_rfl) (by kernel_rfl) (by kernel_rfl) ((by first | (first | exact hs.cells2 rfl rfl | exact (hs.pull 1).cells2 rfl rfl | exact (hs.pull 2).cells2 rfl rfl | exact (hs.pull 3).cells2 rfl rfl | exact (hs.pull 4).cells2 rfl rfl | exact (hs.pull 5).cells2 rfl rfl | exact (hs.pull 6).cells2 rfl rfl | exact (hs.pull 7).cells2 rfl rfl | exact (hs.pull 8).cells2 rfl rfl | exact hs.cell rfl | exact (hs.pull 1).cell rfl | exact (hs.pull 2).cell rfl | exact (hs.pull 3).cell rfl | exact (hs.pull 4).cell rfl | exact (hs.pull 5).cell rfl | exact (hs.pull 6).cell rfl | exact (hs.pull 7).cell rfl | exact (hs.pull 8).cell rfl | assumption | exact hs.cellsOf | exact (hs.pull 1).cellsOf | exact (hs.pull 2).cellsOf | exact (hs.pull 3).cellsOf | exact (hs.pull 4).cellsOf | exact (hs.pull 5).cellsOf | exact (hs.pull 6).cellsOf | exact (hs.pull 7).cellsOf | exact (hs.pull 8).cellsOf) | (and_intros <;> first | exact hs.cells2 rfl rfl | exact (hs.pull 1).cells2 rfl rfl | exact (hs.pull 2).cells2 rfl rfl | exact (hs.pull 3).cells2 rfl rfl | exact (hs.pull 4).cells2 rfl rfl | exact (hs.pull 5).cells2 rfl rfl | exact (hs.pull 6).cells2 rfl rfl | exact (hs.pull 7).cells2 rfl rfl | exact (hs.pull 8).cells2 rfl rfl | exact hs.cell rfl | exact (hs.pull 1).cell rfl | exact (hs.pull 2).cell rfl | exact (hs.pull 3).cell rfl | exact (hs.pull 4).cell rfl | exact (hs.pull 5).cell rfl | exact (hs.pull 6).cell rfl | exact (hs.pull 7).cell rfl | exact (hs.pull 8).cell rfl | assumption | exact hs.cellsOf | exact (hs.pull 1).cellsOf | exact (hs.pull 2).cellsOf | exact (hs.pull 3).cellsOf | exact (hs.pull 4).cellsOf | exact (hs.pull 5).cellsOf | exact (hs.pull 6).cellsOf | exact (hs.pull 7).cellsOf | exact (hs.pull 8).cellsOf))) ?_
                  replace hs := hs.drew
                  refine x_move (.pointer _) rfl ?_
                  first | refine x_field0 fa_44_2 _ rfl ?_ | refine x_field fa_44_2 _ _ rfl ?_
                  refine h_load one_3 _ (.int _ _) rfl (fun w hS => by first | exact hS.cell rfl | exact (hS.pull 1).cell rfl | exact (hS.pull 2).cell rfl | exact (hS.pull 3).cell rfl | exact (hS.pull 4).cell rfl | exact (hS.pull 5).cell rfl | exact (hS.pull 6).cell rfl | exact hS | exact hS.1 | exact hS.2 | exact hS.2.1 | exact hS.2.2 | exact hS.2.2.1 | exact hS.2.2.2 | exact hS.2.2.2.1 | exact hS.2.2.2.2) ?_
                  first | refine x_field0 fa_44_3 _ rfl ?_ | refine x_field fa_44_3 _ _ rfl ?_
                  refine h_load one_3 _ (.int _ _) rfl (fun w hS => by first | exact hS.cell rfl | exact (hS.pull 1).cell rfl | exact (hS.pull 2).cell rfl | exact (hS.pull 3).cell rfl | exact (hS.pull 4).cell rfl | exact (hS.pull 5).cell rfl | exact (hS.pull 6).cell rfl | exact hS | exact hS.1 | exact hS.2 | exact hS.2.1 | exact hS.2.2 | exact hS.2.2.1 | exact hS.2.2.2 | exact hS.2.2.2.1 | exact hS.2.2.2.2) ?_
                  refine x_move (.pointer _) rfl ?_
                  first | refine x_field0 fa_44_2 _ rfl ?_ | refine x_field fa_44_2 _ _ rfl ?_
                  refine h_load one_3 _ (.int _ _) rfl (fun w hS => by first | exact hS.cell rfl | exact (hS.pull 1).cell rfl | exact (hS.pull 2).cell rfl | exact (hS.pull 3).cell rfl | exact (hS.pull 4).cell rfl | exact (hS.pull 5).cell rfl | exact (hS.pull 6).cell rfl | exact hS | exact hS.1 | exact hS.2 | exact hS.2.1 | exact hS.2.2 | exact hS.2.2.1 | exact hS.2.2.2 | exact hS.2.2.2.1 | exact hS.2.2.2.2) ?_
                  first | refine x_field0 fa_44_3 _ rfl ?_ | refine x_field fa_44_3 _ _ rfl ?_
                  refine h_load one_3 _ (.int _ _) rfl (fun w hS => by first | exact hS.cell rfl | exact (hS.pull 1).cell rfl | exact (hS.pull 2).cell rfl | exact (hS.pull 3).cell rfl | exact (hS.pull 4).cell rfl | exact (hS.pull 5).cell rfl | exact (hS.pull 6).cell rfl | exact hS | exact hS.1 | exact hS.2 | exact hS.2.1 | exact hS.2.2 | exact hS.2.2.1 | exact hS.2.2.2 | exact hS.2.2.2.1 | exact hS.2.2.2.2) ?_
                  refine x_call Try.f9 Try.func9 rfl rfl _ rfl ?_
                  refine (fcut_calls At X0 (hs.pull 1) hll hlb).mono ?_
                  clear hs; rintro e w ⟨rfl, hs⟩
                  replace hs := hs.push 1
                  try dsimp only [back] at hs
                  refine ⟨_, rfl, fun h => (by first | (cases h; done) | (first | exact hs.cells2 rfl rfl | exact (hs.pull 1).cells2 rfl rfl | exact (hs.pull 2).cells2 rfl rfl | exact (hs.pull 3).cells2 rfl rfl | exact (hs.pull 4).cells2 rfl rfl | exact (hs.pull 5).cells2 rfl rfl | exact (hs.pull 6).cells2 rfl rfl | exact (hs.pull 7).cells2 rfl rfl | exact (hs.pull 8).cells2 rfl rfl | exact hs.cell rfl | exact (hs.pull 1).cell rfl | exact (hs.pull 2).cell rfl | exact (hs.pull 3).cell rfl | exact (hs.pull 4).cell rfl | exact (hs.pull 5).cell rfl | exact (hs.pull 6).cell rfl | exact (hs.pull 7).cell rfl | exact (hs.pull 8).cell rfl | assumption | exact hs.cellsOf | exact (hs.pull 1).cellsOf | exact (hs.pull 2).cellsOf | exact (hs.pull 3).cellsOf | exact (hs.pull 4).cellsOf | exact (hs.pull 5).cellsOf | exact (hs.pull 6).cellsOf | exact (hs.pull 7).cellsOf | exact (hs.pull 8).cellsOf) | (and_intros <;> first | exact hs.cells2 rfl rfl | exact (hs.pull 1).cells2 rfl rfl | exact (hs.pull 2).cells2 rfl rfl | exact (hs.pull 3).cells2 rfl rfl | exact (hs.pull 4).cells2 rfl rfl | exact (hs.pull 5).cells2 rfl rfl | exact (hs.pull 6).cells2 rfl rfl | exact (hs.pull 7).cells2 rfl rfl | exact (hs.pull 8).cells2 rfl rfl | exact hs.cell rfl | exact (hs.pull 1).cell rfl | exact (hs.pull 2).cell rfl | exact (hs.pull 3).cell rfl | exact (hs.pull 4).cell rfl | exact (hs.pull 5).cell rfl | exact (hs.pull 6).cell rfl | exact (hs.pull 7).cell rfl | exact (hs.pull 8).cell rfl | assumption | exact hs.cellsOf | exact (hs.pull 1).cellsOf | exact (hs.pull 2).cellsOf | exact (hs.pull 3).cellsOf | exact (hs.pull 4).cellsOf | exact (hs.pull 5).cellsOf | exact (hs.pull 6).cellsOf | exact (hs.pull 7).cellsOf | exact (hs.pull 8).cellsOf)), ?_⟩
                  refine x_call Try.f20 Try.func20 rfl rfl _ rfl ?_
                  refine (rcut_calls At X0 (hs.pull 2) hll hlb).mono ?_
                  clear hs; rintro e w ⟨rfl, hs⟩
                  replace hs := hs.push 2
                  try dsimp only [back] at hs
                  refine ⟨_, rfl, fun h => (by first | (cases h; done) | (first | exact hs.cells2 rfl rfl | exact (hs.pull 1).cells2 rfl rfl | exact (hs.pull 2).cells2 rfl rfl | exact (hs.pull 3).cells2 rfl rfl | exact (hs.pull 4).cells2 rfl rfl | exact (hs.pull 5).cells2 rfl rfl | exact (hs.pull 6).cells2 rfl rfl | exact (hs.pull 7).cells2 rfl rfl | exact (hs.pull 8).cells2 rfl rfl | exact hs.cell rfl | exact (hs.pull 1).cell rfl | exact (hs.pull 2).cell rfl | exact (hs.pull 3).cell rfl | exact (hs.pull 4).cell rfl | exact (hs.pull 5).cell rfl | exact (hs.pull 6).cell rfl | exact (hs.pull 7).cell rfl | exact (hs.pull 8).cell rfl | assumption | exact hs.cellsOf | exact (hs.pull 1).cellsOf | exact (hs.pull 2).cellsOf | exact (hs.pull 3).cellsOf | exact (hs.pull 4).cellsOf | exact (hs.pull 5).cellsOf | exact (hs.pull 6).cellsOf | exact (hs.pull 7).cellsOf | exact (hs.pull 8).cellsOf) | (and_intros <;> first | exact hs.cells2 rfl rfl | exact (hs.pull 1).cells2 rfl rfl | exact (hs.pull 2).cells2 rfl rfl | exact (hs.pull 3).cells2 rfl rfl | exact (hs.pull 4).cells2 rfl rfl | exact (hs.pull 5).cells2 rfl rfl | exact (hs.pull 6).cells2 rfl rfl | exact (hs.pull 7).cells2 rfl rfl | exact (hs.pull 8).cells2 rfl rfl | exact hs.cell rfl | exact (hs.pull 1).cell rfl | exact (hs.pull 2).cell rfl | exact (hs.pull 3).cell rfl | exact (hs.pull 4).cell rfl | exact (hs.pull 5).cell rfl | exact (hs.pull 6).cell rfl | exact (hs.pull 7).cell rfl | exact (hs.pull 8).cell rfl | assumption | exact hs.cellsOf | exact (hs.pull 1).cellsOf | exact (hs.pull 2).cellsOf | exact (hs.pull 3).cellsOf | exact (hs.pull 4).cellsOf | exact (hs.pull 5).cellsOf | exact (hs.pull 6).cellsOf | exact (hs.pull 7).cellsOf | exact (hs.pull 8).cellsOf)), ?_⟩
                  refine x_eqlB _ _ Try.underlying4 rfl rfl ?_
                  refine x_assign (.bool _) rfl ?_
                  refine x_nil ?_
                  refine inb_n ?_
                  refine then_n ?_
                  rw [beq_self_eq_true]
                  exact ⟨(thCut l At X0).2, ⟨rfl, rfl, rfl, rfl, rfl, rfl, trivial⟩, ⟨hinv.cut At X0, hs⟩⟩
                · skip
                  refine c_seq ?_
                  -- region 10
                  refine c_region ?_
                  refine x_buildSlice _ [] hs rfl (fun w => bs_22_0 w) ?_; clear hs; intro b47 w hs; refine ⟨fun h => (by first | (cases h; done) | (first | exact hs.cells2 rfl rfl | exact (hs.pull 1).cells2 rfl rfl | exact (hs.pull 2).cells2 rfl rfl | exact (hs.pull 3).cells2 rfl rfl | exact (hs.pull 4).cells2 rfl rfl | exact (hs.pull 5).cells2 rfl rfl | exact (hs.pull 6).cells2 rfl rfl | exact (hs.pull 7).cells2 rfl rfl | exact (hs.pull 8).cells2 rfl rfl | exact hs.cell rfl | exact (hs.pull 1).cell rfl | exact (hs.pull 2).cell rfl | exact (hs.pull 3).cell rfl | exact (hs.pull 4).cell rfl | exact (hs.pull 5).cell rfl | exact (hs.pull 6).cell rfl | exact (hs.pull 7).cell rfl | exact (hs.pull 8).cell rfl | assumption | exact hs.cellsOf | exact (hs.pull 1).cellsOf | exact (hs.pull 2).cellsOf | exact (hs.pull 3).cellsOf | exact (hs.pull 4).cellsOf | exact (hs.pull 5).cellsOf | exact (hs.pull 6).cellsOf | exact (hs.pull 7).cellsOf | exact (hs.pull 8).cellsOf) | (and_intros <;> first | exact hs.cells2 rfl rfl | exact (hs.pull 1).cells2 rfl rfl | exact (hs.pull 2).cells2 rfl rfl | exact (hs.pull 3).cells2 rfl rfl | exact (hs.pull 4).cells2 rfl rfl | exact (hs.pull 5).cells2 rfl rfl | exact (hs.pull 6).cells2 rfl rfl | exact (hs.pull 7).cells2 rfl rfl | exact (hs.pull 8).cells2 rfl rfl | exact hs.cell rfl | exact (hs.pull 1).cell rfl | exact (hs.pull 2).cell rfl | exact (hs.pull 3).cell rfl | exact (hs.pull 4).cell rfl | exact (hs.pull 5).cell rfl | exact (hs.pull 6).cell rfl | exact (hs.pull 7).cell rfl | exact (hs.pull 8).cell rfl | assumption | exact hs.cellsOf | exact (hs.pull 1).cellsOf | exact (hs.pull 2).cellsOf | exact (hs.pull 3).cellsOf | exact (hs.pull 4).cellsOf | exact (hs.pull 5).cellsOf | exact (hs.pull 6).cellsOf | exact (hs.pull 7).cellsOf | exact (hs.pull 8).cellsOf)), ?_⟩
                  first | refine x_field0 fa_44_6 _ rfl ?_ | refine x_field fa_44_6 _ _ rfl ?_
                  refine x_load one_22 _ (.slice _ _ _) rfl (by first | exact hs.cell rfl | exact (hs.pull 1).cell rfl | exact (hs.pull 2).cell rfl | exact (hs.pull 3).cell rfl | assumption | exact (hs.pull 4).cell rfl | exact (hs.pull 5).cell rfl | exact (hs.pull 6).cell rfl | exact (hs.pull 7).cell rfl) ?_
                  refine x_append (row_blk (size := 1) (len := 0) hs rfl (by decide)) Try.underlying22 ei_5 (hrB _ _ (hs.pull 4)) bv_one (by unfold maxLen; omega) (by omega) rfl rfl ?_
                  clear hs; intro v w hs; refine ⟨fun h => (by cases h), ?_⟩
                  rw [show 0 + B.length = B.length from Nat.zero_add _, show (#[] : Array Value).toList ++ bv B = bv B from rfl] at hs
                  obtain ⟨a6, c6, rfl⟩ := hs.rd.val
                  refine x_assign (.slice _ _ _) rfl ?_
                  refine x_nil ?_
                  refine then_n ?_
                  refine c_seq ?_
                  refine c_seq ?_
                  -- region 11
                  refine c_region ?_
                  refine x_assign (.int _ _) rfl ?_
                  refine x_nil ?_
                  refine then_n ?_
                  refine c_block ?_
                  refine c_loop (γ := Nat × List Thg) (fun (⟨k, l'⟩ : Nat × List Thg) => [(0, .slice (some ⟨g, og, none⟩) acts.length c0), (3, .pointer (some ⟨f, 0, none⟩)), (4, .pointer (some ⟨b29, 0, none⟩)), (5, .int .i64 (i : Nat)), (6, .pointer (some ⟨b6, 0, none⟩)), (7, .bool true), (13, .slice a6 B.length c6), (14, .int .i64 (k : Nat))]) (fun (⟨k, l'⟩ : Nat × List Thg) w => k ≤ 300 ∧ thInv l' ∧ Sat w0 w (Row 5 1 (.slice a6 B.length c6) B.length (bv B) :: Blk b6 (.cells #[.int .i64 Kind, .int .i64 N, .int .i64 At, .int .i64 X0, .int .i64 Y0, .int .u16 (To.Id : Nat), .int .u32 (To.Inc : Nat), .slice a2 B.length c2] 44 (0, 0)) :: FP f l' :: FR b29 l' :: [Init w0])) (fun (⟨k, l'⟩ : Nat × List Thg) => 300 - k) (0, l) ⟨rfl, rfl, rfl, rfl, rfl, rfl, rfl, rfl, trivial⟩ ⟨by omega, hinv, hs⟩ ?_
                  clear hs
                  rintro ⟨k, l'⟩ ρ w ⟨hk, hinv', hs⟩
                  change CW Try.prog 263 _ _ (sets 263 [(0, .slice (some ⟨g, og, none⟩) acts.length c0), (3, .pointer (some ⟨f, 0, none⟩)), (4, .pointer (some ⟨b29, 0, none⟩)), (5, .int .i64 (i : Nat)), (6, .pointer (some ⟨b6, 0, none⟩)), (7, .bool true), (13, .slice a6 B.length c6), (14, .int .i64 (k : Nat))] ρ) w
                  by_cases h5 : k < 1
                  rotate_left
                  by_cases h6 : (k : Int) < N
                  by_cases h7 : k < 300
                  · skip
                    refine c_seq ?_
                    refine c_seq ?_
                    -- region 12
                    refine c_region ?_
                    refine x_move (.bool _) rfl ?_
                    refine x_move (.bool _) rfl ?_
                    refine x_want' rfl ?_
                    refine x_move (.int _ _) rfl ?_
                    refine x_want' rfl ?_
                    refine x_lssF _ _ rfl rfl (by omega) ?_
                    refine x_want' rfl ?_
                    refine x_move (.bool _) rfl ?_
                    refine x_want' rfl ?_
                    refine x_move (.int _ _) rfl ?_
                    refine x_want' rfl ?_
                    first | refine x_field0 fa_44_1 _ rfl ?_ | refine x_field fa_44_1 _ _ rfl ?_
                    refine x_want' rfl ?_
                    refine x_load one_3 _ (.int _ _) rfl (by first | exact hs.cell rfl | exact (hs.pull 1).cell rfl | exact (hs.pull 2).cell rfl | exact (hs.pull 3).cell rfl | assumption | exact (hs.pull 4).cell rfl | exact (hs.pull 5).cell rfl | exact (hs.pull 6).cell rfl | exact (hs.pull 7).cell rfl) ?_
                    refine x_want' rfl ?_
                    refine x_lssT _ _ rfl rfl (by omega) ?_
                    refine x_want' rfl ?_
                    refine x_move (.bool _) rfl ?_
                    refine x_want' rfl ?_
                    refine x_move (.int _ _) rfl ?_
                    refine x_want' rfl ?_
                    refine x_lssT _ _ rfl rfl (by omega) ?_
                    refine x_want' rfl ?_
                    refine x_pickT (.bool _) rfl rfl ?_
                    refine x_want' rfl ?_
                    refine x_pickF (.bool _) rfl rfl ?_
                    refine x_pickT (.bool _) rfl rfl ?_
                    refine x_nil ?_
                    refine then_n ?_
                    refine c_true rfl ?_
                    refine c_skip ?_
                    refine then_n ?_
                    refine c_seq ?_
                    refine c_block ?_
                    -- region 14 DRAWS
                    refine c_draw (fun w => (∀ (j : Nat) (u : Value), [Value.int .u16 (To.Id : Nat), Value.int .u32 (To.Inc : Nat)][j]? = some u → w.cell? ((⟨b6, 5, none⟩ : Addr).add j) = some u) ∧ w.cell? ⟨b6, 7, none⟩ = some (.slice a2 B.length c2)) (fun i => !(Nat.beq i 10)) [(0, 2), (1, 2), (2, 1), (3, 2), (5, 2), (6, 2), (7, 1), (8, 2), (9, 1), (4, 0), (10, 0), (11, 2), (12, 2)] (by kernel_rfl) (by kernel_rfl) (by kernel_rfl) (by kernel_rfl) ((by first | (first | exact hs.cells2 rfl rfl | exact (hs.pull 1).cells2 rfl rfl | exact (hs.pull 2).cells2 rfl rfl | exact (hs.pull 3).cells2 rfl rfl | exact (hs.pull 4).cells2 rfl rfl | exact (hs.pull 5).cells2 rfl rfl | exact (hs.pull 6).cells2 rfl rfl | exact (hs.pull 7).cells2 rfl rfl | exact (hs.pull 8).cells2 rfl rfl | exact hs.cell rfl | exact (hs.pull 1).cell rfl | exact (hs.pull 2).cell rfl | exact (hs.pull 3).cell rfl | exact (hs.pull 4).cell rfl | exact (hs.pull 5).cell rfl | exact (hs.pull 6).cell rfl | exact (hs.pull 7).cell rfl | exact (hs.pull 8).cell rfl | assumption | exact hs.cellsOf | exact (hs.pull 1).cellsOf | exact (hs.pull 2).cellsOf | exact (hs.pull 3).cellsOf | exact (hs.pull 4).cellsOf | exact (hs.pull 5).cellsOf | exact (hs.pull 6).cellsOf | exact (hs.pull 7).cellsOf | exact (hs.pull 8).cellsOf) | (and_intros <;> first | exact hs.cells2 rfl rfl | exact (hs.pull 1).cells2 rfl rfl | exact (hs.pull 2).cells2 rfl rfl | exact (hs.pull 3).cells2 rfl rfl | exact (hs.pull 4).cells2 rfl rfl | exact (hs.pull 5).cells2 rfl rfl | exact (hs.pull 6).cells2 rfl rfl | exact (hs.pull 7).cells2 rfl rfl | exact (hs.pull 8).cells2 rfl rfl | exact hs.cell rfl | exact (hs.pull 1).cell rfl | exact (hs.pull 2).cell rfl | exact (hs.pull 3).cell rfl | exact (hs.pull 4).cell rfl | exact (hs.pull 5).cell rfl | exact (hs.pull 6).cell rfl | exact (hs.pull 7).cell rfl | exact (hs.pull 8).cell rfl | assumption | exact hs.cellsOf | exact (hs.pull 1).cellsOf | exact (hs.pull 2).cellsOf | exact (hs.pull 3).cellsOf | exact (hs.pull 4).cellsOf | exact (hs.pull 5).cellsOf | exact (hs.pull 6).cellsOf | exact (hs.pull 7).cellsOf | exact (hs.pull 8).cellsOf))) ?_
                    replace hs := hs.drew
                    refine x_move (.pointer _) rfl ?_
                    first | refine x_field0 fa_44_5 _ rfl ?_ | refine x_field fa_44_5 _ _ rfl ?_
                    refine h_loadN [_, _] agg_30 _ rfl (fun w hS => by first | exact hS | exact hS.1 | exact hS.2 | exact hS.2.1 | exact hS.2.2 | exact hS.2.2.1 | exact hS.2.2.2 | exact hS.2.2.2.1 | exact hS.2.2.2.2 | exact hS.cellsOf | exact (hS.pull 1).cellsOf | exact (hS.pull 2).cellsOf | exact (hS.pull 3).cellsOf | exact (hS.pull 4).cellsOf | exact (hS.pull 5).cellsOf | exact (hS.pull 6).cellsOf | exact hS.cells2 rfl rfl | exact (hS.pull 1).cells2 rfl rfl | exact (hS.pull 2).cells2 rfl rfl | exact (hS.pull 3).cells2 rfl rfl | exact (hS.pull 4).cells2 rfl rfl | exact (hS.pull 5).cells2 rfl rfl | exact (hS.pull 6).cells2 rfl rfl) ?_
                    refine x_move (.slice _ _ _) rfl ?_
                    refine x_move (.pointer _) rfl ?_
                    first | refine x_field0 fa_44_5 _ rfl ?_ | refine x_field fa_44_5 _ _ rfl ?_
                    refine h_loadN [_, _] agg_30 _ rfl (fun w hS => by first | exact hS | exact hS.1 | exact hS.2 | exact hS.2.1 | exact hS.2.2 | exact hS.2.2.1 | exact hS.2.2.2 | exact hS.2.2.2.1 | exact hS.2.2.2.2 | exact hS.cellsOf | exact (hS.pull 1).cellsOf | exact (hS.pull 2).cellsOf | exact (hS.pull 3).cellsOf | exact (hS.pull 4).cellsOf | exact (hS.pull 5).cellsOf | exact (hS.pull 6).cellsOf | exact hS.cells2 rfl rfl | exact (hS.pull 1).cells2 rfl rfl | exact (hS.pull 2).cells2 rfl rfl | exact (hS.pull 3).cells2 rfl rfl | exact (hS.pull 4).cells2 rfl rfl | exact (hS.pull 5).cells2 rfl rfl | exact (hS.pull 6).cells2 rfl rfl) ?_
                    first | refine x_field0 fa_44_6 _ rfl ?_ | refine x_field fa_44_6 _ _ rfl ?_
                    refine h_load one_22 _ (.slice _ _ _) rfl (fun w hS => by first | exact hS.cell rfl | exact (hS.pull 1).cell rfl | exact (hS.pull 2).cell rfl | exact (hS.pull 3).cell rfl | exact (hS.pull 4).cell rfl | exact (hS.pull 5).cell rfl | exact (hS.pull 6).cell rfl | exact hS | exact hS.1 | exact hS.2 | exact hS.2.1 | exact hS.2.2 | exact hS.2.2.1 | exact hS.2.2.2 | exact hS.2.2.2.1 | exact hS.2.2.2.2) ?_
                    refine x_call Try.f8 Try.func8 rfl rfl _ rfl ?_
                    refine ((fput_calls To B (hs.perm [2, 0, 1, 3, 4]) (fun w' L' h => h.rd) (hinv'.le.1) (by omega))).mono ?_
                    clear hs; rintro e w ⟨rfl, hs⟩
                    refine ⟨_, rfl, fun h => (by first | (cases h; done) | (and_intros <;> first | exact (hs.pull 2).cells2 rfl rfl | exact (hs.pull 2).cell rfl)), ?_⟩
                    replace hs := hs.perm [1, 2, 0, 3, 4]
                    refine x_call Try.f21 Try.func21 rfl rfl _ rfl ?_
                    refine ((rput14_calls To B (hs.perm [3, 4, 0, 1, 2]) (fun w' L' h => hrB w' L' h) (hinv'.le.1) (by omega))).mono ?_
                    clear hs; rintro e w ⟨rfl, hs⟩
                    refine ⟨_, rfl, fun h => (by first | (cases h; done) | (first | exact hs.cells2 rfl rfl | exact (hs.pull 1).cells2 rfl rfl | exact (hs.pull 2).cells2 rfl rfl | exact (hs.pull 3).cells2 rfl rfl | exact (hs.pull 4).cells2 rfl rfl | exact (hs.pull 5).cells2 rfl rfl | exact (hs.pull 6).cells2 rfl rfl | exact (hs.pull 7).cells2 rfl rfl | exact (hs.pull 8).cells2 rfl rfl | exact hs.cell rfl | exact (hs.pull 1).cell rfl | exact (hs.pull 2).cell rfl | exact (hs.pull 3).cell rfl | exact (hs.pull 4).cell rfl | exact (hs.pull 5).cell rfl | exact (hs.pull 6).cell rfl | exact (hs.pull 7).cell rfl | exact (hs.pull 8).cell rfl | assumption | exact hs.cellsOf | exact (hs.pull 1).cellsOf | exact (hs.pull 2).cellsOf | exact (hs.pull 3).cellsOf | exact (hs.pull 4).cellsOf | exact (hs.pull 5).cellsOf | exact (hs.pull 6).cellsOf | exact (hs.pull 7).cellsOf | exact (hs.pull 8).cellsOf) | (and_intros <;> first | exact hs.cells2 rfl rfl | exact (hs.pull 1).cells2 rfl rfl | exact (hs.pull 2).cells2 rfl rfl | exact (hs.pull 3).cells2 rfl rfl | exact (hs.pull 4).cells2 rfl rfl | exact (hs.pull 5).cells2 rfl rfl | exact (hs.pull 6).cells2 rfl rfl | exact (hs.pull 7).cells2 rfl rfl | exact (hs.pull 8).cells2 rfl rfl | exact hs.cell rfl | exact (hs.pull 1).cell rfl | exact (hs.pull 2).cell rfl | exact (hs.pull 3).cell rfl | exact (hs.pull 4).cell rfl | exact (hs.pull 5).cell rfl | exact (hs.pull 6).cell rfl | exact (hs.pull 7).cell rfl | exact (hs.pull 8).cell rfl | assumption | exact hs.cellsOf | exact (hs.pull 1).cellsOf | exact (hs.pull 2).cellsOf | exact (hs.pull 3).cellsOf | exact (hs.pull 4).cellsOf | exact (hs.pull 5).cellsOf | exact (hs.pull 6).cellsOf | exact (hs.pull 7).cellsOf | exact (hs.pull 8).cellsOf)), ?_⟩
                    replace hs := hs.perm [2, 3, 4, 0, 1]
                    refine x_eqlB _ _ Try.underlying4 rfl rfl ?_
                    refine x_assign (.bool _) rfl ?_
                    refine x_nil ?_
                    refine inb_n ?_
                    refine then_n ?_
                    -- region 13
                    refine c_region ?_
                    refine x_move (.int _ _) rfl ?_
                    refine x_add _ _ rfl rfl (by simp only [X.lo]; omega) (by simp only [X.hi]; omega) ?_
                    refine x_assign (.int _ _) rfl ?_
                    refine x_nil ?_
                    refine then_n ?_
                    rw [beq_self_eq_true]
                    refine ⟨(k + 1, (thPut l' To B).2), ⟨rfl, rfl, rfl, rfl, rfl, rfl, rfl, rfl, trivial⟩, ⟨by omega, hinv'.put To hB5, hs⟩, by first | omega | (dsimp only; omega)⟩
                  · skip
                    refine c_seq ?_
                    refine c_seq ?_
                    -- region 12
                    refine c_region ?_
                    refine x_move (.bool _) rfl ?_
                    refine x_move (.bool _) rfl ?_
                    refine x_want' rfl ?_
                    refine x_move (.int _ _) rfl ?_
                    refine x_want' rfl ?_
                    refine x_lssF _ _ rfl rfl (by omega) ?_
                    refine x_want' rfl ?_
                    refine x_move (.bool _) rfl ?_
                    refine x_want' rfl ?_
                    refine x_move (.int _ _) rfl ?_
                    refine x_want' rfl ?_
                    first | refine x_field0 fa_44_1 _ rfl ?_ | refine x_field fa_44_1 _ _ rfl ?_
                    refine x_want' rfl ?_
                    refine x_load one_3 _ (.int _ _) rfl (by first | exact hs.cell rfl | exact (hs.pull 1).cell rfl | exact (hs.pull 2).cell rfl | exact (hs.pull 3).cell rfl | assumption | exact (hs.pull 4).cell rfl | exact (hs.pull 5).cell rfl | exact (hs.pull 6).cell rfl | exact (hs.pull 7).cell rfl) ?_
                    refine x_want' rfl ?_
                    refine x_lssT _ _ rfl rfl (by omega) ?_
                    refine x_want' rfl ?_
                    refine x_move (.bool _) rfl ?_
                    refine x_want' rfl ?_
                    refine x_move (.int _ _) rfl ?_
                    refine x_want' rfl ?_
                    refine x_lssF _ _ rfl rfl (by omega) ?_
                    refine x_want' rfl ?_
                    refine x_pickT (.bool _) rfl rfl ?_
                    refine x_want' rfl ?_
                    refine x_pickF (.bool _) rfl rfl ?_
                    refine x_pickT (.bool _) rfl rfl ?_
                    refine x_nil ?_
                    refine then_n ?_
                    refine c_false rfl ?_
                    refine c_exit ?_
                    refine then_x ?_
                    refine then_x ?_
                    refine inb_e ?_
                    refine then_n ?_
                    refine c_seq ?_
                    -- region 15
                    refine c_region ?_
                    refine x_assign (.int _ _) rfl ?_
                    refine x_nil ?_
                    refine then_n ?_
                    refine c_block ?_
                    refine c_loop (γ := Nat × List Value) (fun (⟨j, xs⟩ : Nat × List Value) => [(0, .slice (some ⟨g, og, none⟩) acts.length c0), (3, .pointer (some ⟨f, 0, none⟩)), (4, .pointer (some ⟨b29, 0, none⟩)), (5, .int .i64 (i : Nat)), (6, .pointer (some ⟨b6, 0, none⟩)), (7, .bool true), (13, .slice a6 B.length c6), (15, .int .i64 (j : Nat))]) (fun (⟨j, xs⟩ : Nat × List Value) w => j ≤ B.length ∧ xs.length = B.length ∧ (∀ u ∈ xs, ∃ k : Nat, u = .int .u8 (k : Nat) ∧ k < 256) ∧ Sat w0 w (Row 5 1 (.slice a6 B.length c6) B.length xs :: Blk b6 (.cells #[.int .i64 Kind, .int .i64 N, .int .i64 At, .int .i64 X0, .int .i64 Y0, .int .u16 (To.Id : Nat), .int .u32 (To.Inc : Nat), .slice a2 B.length c2] 44 (0, 0)) :: FP f l' :: FR b29 l' :: [Init w0])) (fun (⟨j, xs⟩ : Nat × List Value) => B.length - j) (0, bv B) ⟨rfl, rfl, rfl, rfl, rfl, rfl, rfl, rfl, trivial⟩ ⟨Nat.zero_le _, bv_len B, bv_bytes B, hs⟩ ?_
                    clear hs
                    rintro ⟨j, xs⟩ ρ w ⟨hjl, hxl, hxk, hs⟩
                    change CW Try.prog 263 _ _ (sets 263 [(0, .slice (some ⟨g, og, none⟩) acts.length c0), (3, .pointer (some ⟨f, 0, none⟩)), (4, .pointer (some ⟨b29, 0, none⟩)), (5, .int .i64 (i : Nat)), (6, .pointer (some ⟨b6, 0, none⟩)), (7, .bool true), (13, .slice a6 B.length c6), (15, .int .i64 (j : Nat))] ρ) w
                    refine c_seq ?_
                    refine c_seq ?_
                    -- region 16
                    refine c_region ?_
                    refine x_move (.int _ _) rfl ?_
                    refine x_move (.slice _ _ _) rfl ?_
                    refine x_lenSl Try.underlying22 _ _ _ rfl ?_
                    refine x_lss _ _ rfl rfl ?_
                    refine x_nil ?_
                    refine then_n ?_
                    refine c_test _ rfl (fun hb => ?_) (fun hb => ?_)   -- cond t83
                    · skip
                      refine c_skip ?_
                      refine then_n ?_
                      refine c_seq ?_
                      refine c_block ?_
                      -- region 18
                      have hjlt : j < xs.length := by omega
                      obtain ⟨kb, hkb, hk256⟩ := hxk _ (List.getElem_mem hjlt)
                      obtain ⟨g2, o2, rfl⟩ := hs.rowAddr (by omega)
                      have hcell : w.cell? ⟨g2, o2 + j * 1, none⟩ = some (.int .u8 (kb : Nat)) := by
                        rw [Nat.mul_one]
                        exact hs.rowCell (by rw [List.getElem?_eq_getElem hjlt, hkb])
                      refine c_region ?_
                      refine x_move (.slice _ _ _) rfl ?_
                      refine x_move (.int _ _) rfl ?_
                      refine x_move (.slice _ _ _) rfl ?_
                      refine x_move (.int _ _) rfl ?_
                      refine x_indexAddr Try.underlying22 sz_5 _ _ _ _ _ rfl rfl (by omega) ?_
                      refine x_load one_5 _ (.int _ _) rfl (by first | exact hs.cell rfl | exact (hs.pull 1).cell rfl | exact (hs.pull 2).cell rfl | exact (hs.pull 3).cell rfl | assumption | exact (hs.pull 4).cell rfl | exact (hs.pull 5).cell rfl | exact (hs.pull 6).cell rfl | exact (hs.pull 7).cell rfl) ?_
                      refine x_xor kb 255 rfl rfl rfl hk256 (by decide) ?_
                      refine x_indexAddr Try.underlying22 sz_5 _ _ _ _ _ rfl rfl (by omega) ?_
                      refine x_storeRow hs one_5 (.int .u8 ((kb ^^^ 255 : Nat) : Int)) rfl rfl rfl (by omega) ?_
                      clear hs hcell; intro w hs; refine ⟨fun h => (by cases h), ?_⟩
                      refine x_nil ?_
                      refine inb_n ?_
                      refine then_n ?_
                      -- region 17
                      refine c_region ?_
                      refine x_move (.int _ _) rfl ?_
                      refine x_add _ _ rfl rfl (by simp only [X.lo]; omega) (by simp only [X.hi]; omega) ?_
                      refine x_assign (.int _ _) rfl ?_
                      refine x_nil ?_
                      refine then_n ?_
                      refine ⟨(j + 1, xs.set (j * 1) (.int .u8 ((kb ^^^ 255 : Nat) : Int))), ⟨rfl, rfl, rfl, rfl, rfl, rfl, rfl, rfl, trivial⟩, ⟨by omega, by simpa using hxl, set_bytes hxk (Nat.xor_lt_two_pow (n := 8) hk256 (by decide)), hs⟩, by first | omega | (dsimp only; omega)⟩
                    · skip
                      refine c_exit ?_
                      refine then_x ?_
                      refine then_x ?_
                      refine inb_e ?_
                      refine inb_n ?_
                      refine then_n ?_
                      exact ⟨l', ⟨rfl, rfl, rfl, rfl, rfl, rfl, trivial⟩, ⟨hinv', hs.tail⟩⟩
                  · skip
                    refine c_seq ?_
                    refine c_seq ?_
                    -- region 12
                    refine c_region ?_
                    refine x_move (.bool _) rfl ?_
                    refine x_move (.bool _) rfl ?_
                    refine x_want' rfl ?_
                    refine x_move (.int _ _) rfl ?_
                    refine x_want' rfl ?_
                    refine x_lssF _ _ rfl rfl (by omega) ?_
                    refine x_want' rfl ?_
                    refine x_move (.bool _) rfl ?_
                    refine x_want' rfl ?_
                    refine x_move (.int _ _) rfl ?_
                    refine x_want' rfl ?_
                    first | refine x_field0 fa_44_1 _ rfl ?_ | refine x_field fa_44_1 _ _ rfl ?_
                    refine x_want' rfl ?_
                    refine x_load one_3 _ (.int _ _) rfl (by first | exact hs.cell rfl | exact (hs.pull 1).cell rfl | exact (hs.pull 2).cell rfl | exact (hs.pull 3).cell rfl | assumption | exact (hs.pull 4).cell rfl | exact (hs.pull 5).cell rfl | exact (hs.pull 6).cell rfl | exact (hs.pull 7).cell rfl) ?_
                    refine x_want' rfl ?_
                    refine x_lssF _ _ rfl rfl (by omega) ?_
                    refine x_want' rfl ?_
                    refine x_move (.bool _) rfl ?_
                    refine x_skip rfl rfl ?_
                    refine x_skip rfl rfl ?_
                    refine x_want' rfl ?_
                    refine x_pickF (.bool _) rfl rfl ?_
                    refine x_want' rfl ?_
                    refine x_pickF (.bool _) rfl rfl ?_
                    refine x_pickT (.bool _) rfl rfl ?_
                    refine x_nil ?_
                    refine then_n ?_
                    refine c_false rfl ?_
                    refine c_exit ?_
                    refine then_x ?_
                    refine then_x ?_
                    refine inb_e ?_
                    refine then_n ?_
                    refine c_seq ?_
                    -- region 15
                    refine c_region ?_
                    refine x_assign (.int _ _) rfl ?_
                    refine x_nil ?_
                    refine then_n ?_
                    refine c_block ?_
                    refine c_loop (γ := Nat × List Value) (fun (⟨j, xs⟩ : Nat × List Value) => [(0, .slice (some ⟨g, og, none⟩) acts.length c0), (3, .pointer (some ⟨f, 0, none⟩)), (4, .pointer (some ⟨b29, 0, none⟩)), (5, .int .i64 (i : Nat)), (6, .pointer (some ⟨b6, 0, none⟩)), (7, .bool true), (13, .slice a6 B.length c6), (15, .int .i64 (j : Nat))]) (fun (⟨j, xs⟩ : Nat × List Value) w => j ≤ B.length ∧ xs.length = B.length ∧ (∀ u ∈ xs, ∃ k : Nat, u = .int .u8 (k : Nat) ∧ k < 256) ∧ Sat w0 w (Row 5 1 (.slice a6 B.length c6) B.length xs :: Blk b6 (.cells #[.int .i64 Kind, .int .i64 N, .int .i64 At, .int .i64 X0, .int .i64 Y0, .int .u16 (To.Id : Nat), .int .u32 (To.Inc : Nat), .slice a2 B.length c2] 44 (0, 0)) :: FP f l' :: FR b29 l' :: [Init w0])) (fun (⟨j, xs⟩ : Nat × List Value) => B.length - j) (0, bv B) ⟨rfl, rfl, rfl, rfl, rfl, rfl, rfl, rfl, trivial⟩ ⟨Nat.zero_le _, bv_len B, bv_bytes B, hs⟩ ?_
                    clear hs
                    rintro ⟨j, xs⟩ ρ w ⟨hjl, hxl, hxk, hs⟩
                    change CW Try.prog 263 _ _ (sets 263 [(0, .slice (some ⟨g, og, none⟩) acts.length c0), (3, .pointer (some ⟨f, 0, none⟩)), (4, .pointer (some ⟨b29, 0, none⟩)), (5, .int .i64 (i : Nat)), (6, .pointer (some ⟨b6, 0, none⟩)), (7, .bool true), (13, .slice a6 B.length c6), (15, .int .i64 (j : Nat))] ρ) w
                    refine c_seq ?_
                    refine c_seq ?_
                    -- region 16
                    refine c_region ?_
                    refine x_move (.int _ _) rfl ?_
                    refine x_move (.slice _ _ _) rfl ?_
                    refine x_lenSl Try.underlying22 _ _ _ rfl ?_
                    refine x_lss _ _ rfl rfl ?_
                    refine x_nil ?_
                    refine then_n ?_
                    refine c_test _ rfl (fun hb => ?_) (fun hb => ?_)   -- cond t83
                    · skip
                      refine c_skip ?_
                      refine then_n ?_
                      refine c_seq ?_
                      refine c_block ?_
                      -- region 18
                      have hjlt : j < xs.length := by omega
                      obtain ⟨kb, hkb, hk256⟩ := hxk _ (List.getElem_mem hjlt)
                      obtain ⟨g2, o2, rfl⟩ := hs.rowAddr (by omega)
                      have hcell : w.cell? ⟨g2, o2 + j * 1, none⟩ = some (.int .u8 (kb : Nat)) := by
                        rw [Nat.mul_one]
                        exact hs.rowCell (by rw [List.getElem?_eq_getElem hjlt, hkb])
                      refine c_region ?_
                      refine x_move (.slice _ _ _) rfl ?_
                      refine x_move (.int _ _) rfl ?_
                      refine x_move (.slice _ _ _) rfl ?_
                      refine x_move (.int _ _) rfl ?_
                      refine x_indexAddr Try.underlying22 sz_5 _ _ _ _ _ rfl rfl (by omega) ?_
                      refine x_load one_5 _ (.int _ _) rfl (by first | exact hs.cell rfl | exact (hs.pull 1).cell rfl | exact (hs.pull 2).cell rfl | exact (hs.pull 3).cell rfl | assumption | exact (hs.pull 4).cell rfl | exact (hs.pull 5).cell rfl | exact (hs.pull 6).cell rfl | exact (hs.pull 7).cell rfl) ?_
                      refine x_xor kb 255 rfl rfl rfl hk256 (by decide) ?_
                      refine x_indexAddr Try.underlying22 sz_5 _ _ _ _ _ rfl rfl (by omega) ?_
                      refine x_storeRow hs one_5 (.int .u8 ((kb ^^^ 255 : Nat) : Int)) rfl rfl rfl (by omega) ?_
                      clear hs hcell; intro w hs; refine ⟨fun h => (by cases h), ?_⟩
                      refine x_nil ?_
                      refine inb_n ?_
                      refine then_n ?_
                      -- region 17
                      refine c_region ?_
                      refine x_move (.int _ _) rfl ?_
                      refine x_add _ _ rfl rfl (by simp only [X.lo]; omega) (by simp only [X.hi]; omega) ?_
                      refine x_assign (.int _ _) rfl ?_
                      refine x_nil ?_
                      refine then_n ?_
                      refine ⟨(j + 1, xs.set (j * 1) (.int .u8 ((kb ^^^ 255 : Nat) : Int))), ⟨rfl, rfl, rfl, rfl, rfl, rfl, rfl, rfl, trivial⟩, ⟨by omega, by simpa using hxl, set_bytes hxk (Nat.xor_lt_two_pow (n := 8) hk256 (by decide)), hs⟩, by first | omega | (dsimp only; omega)⟩
                    · skip
                      refine c_exit ?_
                      refine then_x ?_
                      refine then_x ?_
                      refine inb_e ?_
                      refine inb_n ?_
                      refine then_n ?_
                      exact ⟨l', ⟨rfl, rfl, rfl, rfl, rfl, rfl, trivial⟩, ⟨hinv', hs.tail⟩⟩
                  · skip
                    refine c_seq ?_
                    refine c_seq ?_
                    -- region 12
                    refine c_region ?_
                    refine x_move (.bool _) rfl ?_
                    refine x_move (.bool _) rfl ?_
                    refine x_want' rfl ?_
                    refine x_move (.int _ _) rfl ?_
                    refine x_want' rfl ?_
                    refine x_lssT _ _ rfl rfl (by omega) ?_
                    refine x_want' rfl ?_
                    refine x_move (.bool _) rfl ?_
                    refine x_skip rfl rfl ?_
                    refine x_skip rfl rfl ?_
                    refine x_skip rfl rfl ?_
                    refine x_skip rfl rfl ?_
                    refine x_skip rfl rfl ?_
                    refine x_skipU rfl ?_
                    refine x_skipU rfl ?_
                    refine x_skip rfl rfl ?_
                    refine x_want' rfl ?_
                    refine x_pickT (.bool _) rfl rfl ?_
                    refine x_pickT (.bool _) rfl rfl ?_
                    refine x_nil ?_
                    refine then_n ?_
                    refine c_true rfl ?_
                    refine c_skip ?_
                    refine then_n ?_
                    refine c_seq ?_
                    refine c_block ?_
                    -- region 14 DRAWS
                    refine c_draw (fun w => (∀ (j : Nat) (u : Value), [Value.int .u16 (To.Id : Nat), Value.int .u32 (To.Inc : Nat)][j]? = some u → w.cell? ((⟨b6, 5, none⟩ : Addr).add j) = some u) ∧ w.cell? ⟨b6, 7, none⟩ = some (.slice a2 B.length c2)) (fun i => !(Nat.beq i 10)) [(0, 2), (1, 2), (2, 1), (3, 2), (5, 2), (6, 2), (7, 1), (8, 2), (9, 1), (4, 0), (10, 0), (11, 2), (12, 2)] (by kernel_rfl) (by kernel_rfl) (by kernel_rfl) (by kernel_rfl) ((by first | (first | exact hs.cells2 rfl rfl | exact (hs.pull 1).cells2 rfl rfl | exact (hs.pull 2).cells2 rfl rfl | exact (hs.pull 3).cells2 rfl rfl | exact (hs.pull 4).cells2 rfl rfl | exact (hs.pull 5).cells2 rfl rfl | exact (hs.pull 6).cells2 rfl rfl | exact (hs.pull 7).cells2 rfl rfl | exact (hs.pull 8).cells2 rfl rfl | exact hs.cell rfl | exact (hs.pull 1).cell rfl | exact (hs.pull 2).cell rfl | exact (hs.pull 3).cell rfl | exact (hs.pull 4).cell rfl | exact (hs.pull 5).cell rfl | exact (hs.pull 6).cell rfl | exact (hs.pull 7).cell rfl | exact (hs.pull 8).cell rfl | assumption | exact hs.cellsOf | exact (hs.pull 1).cellsOf | exact (hs.pull 2).cellsOf | exact (hs.pull 3).cellsOf | exact (hs.pull 4).cellsOf | exact (hs.pull 5).cellsOf | exact (hs.pull 6).cellsOf | exact (hs.pull 7).cellsOf | exact (hs.pull 8).cellsOf) | (and_intros <;> first | exact hs.cells2 rfl rfl | exact (hs.pull 1).cells2 rfl rfl | exact (hs.pull 2).cells2 rfl rfl | exact (hs.pull 3).cells2 rfl rfl | exact (hs.pull 4).cells2 rfl rfl | exact (hs.pull 5).cells2 rfl rfl | exact (hs.pull 6).cells2 rfl rfl | exact (hs.pull 7).cells2 rfl rfl | exact (hs.pull 8).cells2 rfl rfl | exact hs.cell rfl | exact (hs.pull 1).cell rfl | exact (hs.pull 2).cell rfl | exact (hs.pull 3).cell rfl | exact (hs.pull 4).cell rfl | exact (hs.pull 5).cell rfl | exact (hs.pull 6).cell rfl | exact (hs.pull 7).cell rfl | exact (hs.pull 8).cell rfl | assumption | exact hs.cellsOf | exact (hs.pull 1).cellsOf | exact (hs.pull 2).cellsOf | exact (hs.pull 3).cellsOf | exact (hs.pull 4).cellsOf | exact (hs.pull 5).cellsOf | exact (hs.pull 6).cellsOf | exact (hs.pull 7).cellsOf | exact (hs.pull 8).cellsOf))) ?_
                    replace hs := hs.drew
                    refine x_move (.pointer _) rfl ?_
                    first | refine x_field0 fa_44_5 _ rfl ?_ | refine x_field fa_44_5 _ _ rfl ?_
                    refine h_loadN [_, _] agg_30 _ rfl (fun w hS => by first | exact hS | exact hS.1 | exact hS.2 | exact hS.2.1 | exact hS.2.2 | exact hS.2.2.1 | exact hS.2.2.2 | exact hS.2.2.2.1 | exact hS.2.2.2.2 | exact hS.cellsOf | exact (hS.pull 1).cellsOf | exact (hS.pull 2).cellsOf | exact (hS.pull 3).cellsOf | exact (hS.pull 4).cellsOf | exact (hS.pull 5).cellsOf | exact (hS.pull 6).cellsOf | exact hS.cells2 rfl rfl | exact (hS.pull 1).cells2 rfl rfl | exact (hS.pull 2).cells2 rfl rfl | exact (hS.pull 3).cells2 rfl rfl | exact (hS.pull 4).cells2 rfl rfl | exact (hS.pull 5).cells2 rfl rfl | exact (hS.pull 6).cells2 rfl rfl) ?_
                    refine x_move (.slice _ _ _) rfl ?_
                    refine x_move (.pointer _) rfl ?_
                    first | refine x_field0 fa_44_5 _ rfl ?_ | refine x_field fa_44_5 _ _ rfl ?_
                    refine h_loadN [_, _] agg_30 _ rfl (fun w hS => by first | exact hS | exact hS.1 | exact hS.2 | exact hS.2.1 | exact hS.2.2 | exact hS.2.2.1 | exact hS.2.2.2 | exact hS.2.2.2.1 | exact hS.2.2.2.2 | exact hS.cellsOf | exact (hS.pull 1).cellsOf | exact (hS.pull 2).cellsOf | exact (hS.pull 3).cellsOf | exact (hS.pull 4).cellsOf | exact (hS.pull 5).cellsOf | exact (hS.pull 6).cellsOf | exact hS.cells2 rfl rfl | exact (hS.pull 1).cells2 rfl rfl | exact (hS.pull 2).cells2 rfl rfl | exact (hS.pull 3).cells2 rfl rfl | exact (hS.pull 4).cells2 rfl rfl | exact (hS.pull 5).cells2 rfl rfl | exact (hS.pull 6).cells2 rfl rfl) ?_
                    first | refine x_field0 fa_44_6 _ rfl ?_ | refine x_field fa_44_6 _ _ rfl ?_
                    refine h_load one_22 _ (.slice _ _ _) rfl (fun w hS => by first | exact hS.cell rfl | exact (hS.pull 1).cell rfl | exact (hS.pull 2).cell rfl | exact (hS.pull 3).cell rfl | exact (hS.pull 4).cell rfl | exact (hS.pull 5).cell rfl | exact (hS.pull 6).cell rfl | exact hS | exact hS.1 | exact hS.2 | exact hS.2.1 | exact hS.2.2 | exact hS.2.2.1 | exact hS.2.2.2 | exact hS.2.2.2.1 | exact hS.2.2.2.2) ?_
                    refine x_call Try.f8 Try.func8 rfl rfl _ rfl ?_
                    refine ((fput_calls To B (hs.perm [2, 0, 1, 3, 4]) (fun w' L' h => h.rd) (hinv'.le.1) (by omega))).mono ?_
                    clear hs; rintro e w ⟨rfl, hs⟩
                    refine ⟨_, rfl, fun h => (by first | (cases h; done) | (and_intros <;> first | exact (hs.pull 2).cells2 rfl rfl | exact (hs.pull 2).cell rfl)), ?_⟩
                    replace hs := hs.perm [1, 2, 0, 3, 4]
                    refine x_call Try.f21 Try.func21 rfl rfl _ rfl ?_
                    refine ((rput14_calls To B (hs.perm [3, 4, 0, 1, 2]) (fun w' L' h => hrB w' L' h) (hinv'.le.1) (by omega))).mono ?_
                    clear hs; rintro e w ⟨rfl, hs⟩
                    refine ⟨_, rfl, fun h => (by first | (cases h; done) | (first | exact hs.cells2 rfl rfl | exact (hs.pull 1).cells2 rfl rfl | exact (hs.pull 2).cells2 rfl rfl | exact (hs.pull 3).cells2 rfl rfl | exact (hs.pull 4).cells2 rfl rfl | exact (hs.pull 5).cells2 rfl rfl | exact (hs.pull 6).cells2 rfl rfl | exact (hs.pull 7).cells2 rfl rfl | exact (hs.pull 8).cells2 rfl rfl | exact hs.cell rfl | exact (hs.pull 1).cell rfl | exact (hs.pull 2).cell rfl | exact (hs.pull 3).cell rfl | exact (hs.pull 4).cell rfl | exact (hs.pull 5).cell rfl | exact (hs.pull 6).cell rfl | exact (hs.pull 7).cell rfl | exact (hs.pull 8).cell rfl | assumption | exact hs.cellsOf | exact (hs.pull 1).cellsOf | exact (hs.pull 2).cellsOf | exact (hs.pull 3).cellsOf | exact (hs.pull 4).cellsOf | exact (hs.pull 5).cellsOf | exact (hs.pull 6).cellsOf | exact (hs.pull 7).cellsOf | exact (hs.pull 8).cellsOf) | (and_intros <;> first | exact hs.cells2 rfl rfl | exact (hs.pull 1).cells2 rfl rfl | exact (hs.pull 2).cells2 rfl rfl | exact (hs.pull 3).cells2 rfl rfl | exact (hs.pull 4).cells2 rfl rfl | exact (hs.pull 5).cells2 rfl rfl | exact (hs.pull 6).cells2 rfl rfl | exact (hs.pull 7).cells2 rfl rfl | exact (hs.pull 8).cells2 rfl rfl | exact hs.cell rfl | exact (hs.pull 1).cell rfl | exact (hs.pull 2).cell rfl | exact (hs.pull 3).cell rfl | exact (hs.pull 4).cell rfl | exact (hs.pull 5).cell rfl | exact (hs.pull 6).cell rfl | exact (hs.pull 7).cell rfl | exact (hs.pull 8).cell rfl | assumption | exact hs.cellsOf | exact (hs.pull 1).cellsOf | exact (hs.pull 2).cellsOf | exact (hs.pull 3).cellsOf | exact (hs.pull 4).cellsOf | exact (hs.pull 5).cellsOf | exact (hs.pull 6).cellsOf | exact (hs.pull 7).cellsOf | exact (hs.pull 8).cellsOf)), ?_⟩
                    replace hs := hs.perm [2, 3, 4, 0, 1]
                    refine x_eqlB _ _ Try.underlying4 rfl rfl ?_
                    refine x_assign (.bool _) rfl ?_
                    refine x_nil ?_
                    refine inb_n ?_
                    refine then_n ?_
                    -- region 13
                    refine c_region ?_
                    refine x_move (.int _ _) rfl ?_
                    refine x_add _ _ rfl rfl (by simp only [X.lo]; omega) (by simp only [X.hi]; omega) ?_
                    refine x_assign (.int _ _) rfl ?_
                    refine x_nil ?_
                    refine then_n ?_
                    rw [beq_self_eq_true]
                    refine ⟨(k + 1, (thPut l' To B).2), ⟨rfl, rfl, rfl, rfl, rfl, rfl, rfl, rfl, trivial⟩, ⟨by omega, hinv'.put To hB5, hs⟩, by first | omega | (dsimp only; omega)⟩
        · skip
          clear hs
          rintro l' ρ w ⟨hinv', hs⟩
          change CW Try.prog 263 _ _ (sets 263 [(0, .slice (some ⟨g, og, none⟩) acts.length c0), (3, .pointer (some ⟨f, 0, none⟩)), (4, .pointer (some ⟨b29, 0, none⟩)), (5, .int .i64 (i : Nat)), (6, .pointer (some ⟨b6, 0, none⟩)), (7, .bool true)] ρ) w
          have hll' := hinv'.le.1
          have hlb' := hinv'.le.2
          have hlkb := hinv'.look At
          generalize hlk : thLook l' At = t at *
          obtain ⟨to, b, sp⟩ := t
          dsimp only at hlkb
          refine c_seq ?_
          -- region 29
          refine c_region ?_
          refine x_move (.pointer _) rfl ?_
          first | refine x_field0 fa_44_2 _ rfl ?_ | refine x_field fa_44_2 _ _ rfl ?_
          refine x_load one_3 _ (.int _ _) rfl (by first | exact hs.cell rfl | exact (hs.pull 1).cell rfl | exact (hs.pull 2).cell rfl | exact (hs.pull 3).cell rfl | assumption | exact (hs.pull 4).cell rfl | exact (hs.pull 5).cell rfl | exact (hs.pull 6).cell rfl | exact (hs.pull 7).cell rfl) ?_
          refine x_call Try.f11 Try.func11 rfl rfl _ rfl ?_
          refine (flook_eq to b sp hlk (hs.pull 1) hll' hlb').mono ?_
          clear hs; rintro e w ⟨a3, c3, rfl, hs⟩
          replace hs := hs.push 1
          try dsimp only [back] at hs
          refine ⟨_, rfl, fun h => (by first | (cases h; done) | (first | exact hs.cells2 rfl rfl | exact (hs.pull 1).cells2 rfl rfl | exact (hs.pull 2).cells2 rfl rfl | exact (hs.pull 3).cells2 rfl rfl | exact (hs.pull 4).cells2 rfl rfl | exact (hs.pull 5).cells2 rfl rfl | exact (hs.pull 6).cells2 rfl rfl | exact (hs.pull 7).cells2 rfl rfl | exact (hs.pull 8).cells2 rfl rfl | exact hs.cell rfl | exact (hs.pull 1).cell rfl | exact (hs.pull 2).cell rfl | exact (hs.pull 3).cell rfl | exact (hs.pull 4).cell rfl | exact (hs.pull 5).cell rfl | exact (hs.pull 6).cell rfl | exact (hs.pull 7).cell rfl | exact (hs.pull 8).cell rfl | assumption | exact hs.cellsOf | exact (hs.pull 1).cellsOf | exact (hs.pull 2).cellsOf | exact (hs.pull 3).cellsOf | exact (hs.pull 4).cellsOf | exact (hs.pull 5).cellsOf | exact (hs.pull 6).cellsOf | exact (hs.pull 7).cellsOf | exact (hs.pull 8).cellsOf) | (and_intros <;> first | exact hs.cells2 rfl rfl | exact (hs.pull 1).cells2 rfl rfl | exact (hs.pull 2).cells2 rfl rfl | exact (hs.pull 3).cells2 rfl rfl | exact (hs.pull 4).cells2 rfl rfl | exact (hs.pull 5).cells2 rfl rfl | exact (hs.pull 6).cells2 rfl rfl | exact (hs.pull 7).cells2 rfl rfl | exact (hs.pull 8).cells2 rfl rfl | exact hs.cell rfl | exact (hs.pull 1).cell rfl | exact (hs.pull 2).cell rfl | exact (hs.pull 3).cell rfl | exact (hs.pull 4).cell rfl | exact (hs.pull 5).cell rfl | exact (hs.pull 6).cell rfl | exact (hs.pull 7).cell rfl | exact (hs.pull 8).cell rfl | assumption | exact hs.cellsOf | exact (hs.pull 1).cellsOf | exact (hs.pull 2).cellsOf | exact (hs.pull 3).cellsOf | exact (hs.pull 4).cellsOf | exact (hs.pull 5).cellsOf | exact (hs.pull 6).cellsOf | exact (hs.pull 7).cellsOf | exact (hs.pull 8).cellsOf)), ?_⟩
          refine x_move (.tuple _) rfl ?_
          refine x_extract _ (.agg _) rfl rfl ?_
          refine x_extract _ (.slice _ _ _) rfl rfl ?_
          refine x_extract _ (.bool _) rfl rfl ?_
          refine x_alloc zi_30 hs ?_; clear hs; intro b16 w hs; refine ⟨fun h => (by first | (cases h; done) | (first | exact hs.cells2 rfl rfl | exact (hs.pull 1).cells2 rfl rfl | exact (hs.pull 2).cells2 rfl rfl | exact (hs.pull 3).cells2 rfl rfl | exact (hs.pull 4).cells2 rfl rfl | exact (hs.pull 5).cells2 rfl rfl | exact (hs.pull 6).cells2 rfl rfl | exact (hs.pull 7).cells2 rfl rfl | exact (hs.pull 8).cells2 rfl rfl | exact hs.cell rfl | exact (hs.pull 1).cell rfl | exact (hs.pull 2).cell rfl | exact (hs.pull 3).cell rfl | exact (hs.pull 4).cell rfl | exact (hs.pull 5).cell rfl | exact (hs.pull 6).cell rfl | exact (hs.pull 7).cell rfl | exact (hs.pull 8).cell rfl | assumption | exact hs.cellsOf | exact (hs.pull 1).cellsOf | exact (hs.pull 2).cellsOf | exact (hs.pull 3).cellsOf | exact (hs.pull 4).cellsOf | exact (hs.pull 5).cellsOf | exact (hs.pull 6).cellsOf | exact (hs.pull 7).cellsOf | exact (hs.pull 8).cellsOf) | (and_intros <;> first | exact hs.cells2 rfl rfl | exact (hs.pull 1).cells2 rfl rfl | exact (hs.pull 2).cells2 rfl rfl | exact (hs.pull 3).cells2 rfl rfl | exact (hs.pull 4).cells2 rfl rfl | exact (hs.pull 5).cells2 rfl rfl | exact (hs.pull 6).cells2 rfl rfl | exact (hs.pull 7).cells2 rfl rfl | exact (hs.pull 8).cells2 rfl rfl | exact hs.cell rfl | exact (hs.pull 1).cell rfl | exact (hs.pull 2).cell rfl | exact (hs.pull 3).cell rfl | exact (hs.pull 4).cell rfl | exact (hs.pull 5).cell rfl | exact (hs.pull 6).cell rfl | exact (hs.pull 7).cell rfl | exact (hs.pull 8).cell rfl | assumption | exact hs.cellsOf | exact (hs.pull 1).cellsOf | exact (hs.pull 2).cellsOf | exact (hs.pull 3).cellsOf | exact (hs.pull 4).cellsOf | exact (hs.pull 5).cellsOf | exact (hs.pull 6).cellsOf | exact (hs.pull 7).cellsOf | exact (hs.pull 8).cellsOf)), ?_⟩
          first
            | refine x_storeAllI hs 0 rfl rfl agg_30 [_, _] rfl rfl rfl rfl ?_
            | refine x_storeAllI hs 1 rfl rfl agg_30 [_, _] rfl rfl rfl rfl ?_
            | refine x_storeAllI hs 2 rfl rfl agg_30 [_, _] rfl rfl rfl rfl ?_
            | refine x_storeAllI hs 3 rfl rfl agg_30 [_, _] rfl rfl rfl rfl ?_
            | refine x_storeAllI hs 4 rfl rfl agg_30 [_, _] rfl rfl rfl rfl ?_
            | refine x_storeAllI hs 5 rfl rfl agg_30 [_, _] rfl rfl rfl rfl ?_
            | refine x_storeAllI hs 6 rfl rfl agg_30 [_, _] rfl rfl rfl rfl ?_
            | refine x_storeAllI hs 7 rfl rfl agg_30 [_, _] rfl rfl rfl rfl ?_
          clear hs; intro w hs
          try dsimp only [back, List.set_cons_zero, List.set_cons_succ] at hs
          refine ⟨fun h => (by first | (cases h; done) | (first | exact hs.cells2 rfl rfl | exact (hs.pull 1).cells2 rfl rfl | exact (hs.pull 2).cells2 rfl rfl | exact (hs.pull 3).cells2 rfl rfl | exact (hs.pull 4).cells2 rfl rfl | exact (hs.pull 5).cells2 rfl rfl | exact (hs.pull 6).cells2 rfl rfl | exact (hs.pull 7).cells2 rfl rfl | exact (hs.pull 8).cells2 rfl rfl | exact hs.cell rfl | exact (hs.pull 1).cell rfl | exact (hs.pull 2).cell rfl | exact (hs.pull 3).cell rfl | exact (hs.pull 4).cell rfl | exact (hs.pull 5).cell rfl | exact (hs.pull 6).cell rfl | exact (hs.pull 7).cell rfl | exact (hs.pull 8).cell rfl | assumption | exact hs.cellsOf | exact (hs.pull 1).cellsOf | exact (hs.pull 2).cellsOf | exact (hs.pull 3).cellsOf | exact (hs.pull 4).cellsOf | exact (hs.pull 5).cellsOf | exact (hs.pull 6).cellsOf | exact (hs.pull 7).cellsOf | exact (hs.pull 8).cellsOf) | (and_intros <;> first | exact hs.cells2 rfl rfl | exact (hs.pull 1).cells2 rfl rfl | exact (hs.pull 2).cells2 rfl rfl | exact (hs.pull 3).cells2 rfl rfl | exact (hs.pull 4).cells2 rfl rfl | exact (hs.pull 5).cells2 rfl rfl | exact (hs.pull 6).cells2 rfl rfl | exact (hs.pull 7).cells2 rfl rfl | exact (hs.pull 8).cells2 rfl rfl | exact hs.cell rfl | exact (hs.pull 1).cell rfl | exact (hs.pull 2).cell rfl | exact (hs.pull 3).cell rfl | exact (hs.pull 4).cell rfl | exact (hs.pull 5).cell rfl | exact (hs.pull 6).cell rfl | exact (hs.pull 7).cell rfl | exact (hs.pull 8).cell rfl | assumption | exact hs.cellsOf | exact (hs.pull 1).cellsOf | exact (hs.pull 2).cellsOf | exact (hs.pull 3).cellsOf | exact (hs.pull 4).cellsOf | exact (hs.pull 5).cellsOf | exact (hs.pull 6).cellsOf | exact (hs.pull 7).cellsOf | exact (hs.pull 8).cellsOf)), ?_⟩
          refine x_assign (.slice _ _ _) rfl ?_
          refine x_assign (.bool _) rfl ?_
          refine x_nil ?_
          refine then_n ?_
          refine c_seq ?_
          -- region 30
          refine c_region ?_
          refine x_move (.pointer _) rfl ?_
          first | refine x_field0 fa_44_2 _ rfl ?_ | refine x_field fa_44_2 _ _ rfl ?_
          refine x_load one_3 _ (.int _ _) rfl (by first | exact hs.cell rfl | exact (hs.pull 1).cell rfl | exact (hs.pull 2).cell rfl | exact (hs.pull 3).cell rfl | assumption | exact (hs.pull 4).cell rfl | exact (hs.pull 5).cell rfl | exact (hs.pull 6).cell rfl | exact (hs.pull 7).cell rfl) ?_
          refine x_call Try.f22 Try.func22 rfl rfl _ rfl ?_
          refine ((rlook14_calls At (hs.pull 4) hll')).mono ?_
          clear hs; rintro e w ⟨u, v, z, rfl, hrl⟩
          refine ⟨_, rfl, fun h => (by first | (cases h; done) | (first | exact hs.cells2 rfl rfl | exact (hs.pull 1).cells2 rfl rfl | exact (hs.pull 2).cells2 rfl rfl | exact (hs.pull 3).cells2 rfl rfl | exact (hs.pull 4).cells2 rfl rfl | exact (hs.pull 5).cells2 rfl rfl | exact (hs.pull 6).cells2 rfl rfl | exact (hs.pull 7).cells2 rfl rfl | exact (hs.pull 8).cells2 rfl rfl | exact hs.cell rfl | exact (hs.pull 1).cell rfl | exact (hs.pull 2).cell rfl | exact (hs.pull 3).cell rfl | exact (hs.pull 4).cell rfl | exact (hs.pull 5).cell rfl | exact (hs.pull 6).cell rfl | exact (hs.pull 7).cell rfl | exact (hs.pull 8).cell rfl | assumption | exact hs.cellsOf | exact (hs.pull 1).cellsOf | exact (hs.pull 2).cellsOf | exact (hs.pull 3).cellsOf | exact (hs.pull 4).cellsOf | exact (hs.pull 5).cellsOf | exact (hs.pull 6).cellsOf | exact (hs.pull 7).cellsOf | exact (hs.pull 8).cellsOf) | (and_intros <;> first | exact hs.cells2 rfl rfl | exact (hs.pull 1).cells2 rfl rfl | exact (hs.pull 2).cells2 rfl rfl | exact (hs.pull 3).cells2 rfl rfl | exact (hs.pull 4).cells2 rfl rfl | exact (hs.pull 5).cells2 rfl rfl | exact (hs.pull 6).cells2 rfl rfl | exact (hs.pull 7).cells2 rfl rfl | exact (hs.pull 8).cells2 rfl rfl | exact hs.cell rfl | exact (hs.pull 1).cell rfl | exact (hs.pull 2).cell rfl | exact (hs.pull 3).cell rfl | exact (hs.pull 4).cell rfl | exact (hs.pull 5).cell rfl | exact (hs.pull 6).cell rfl | exact (hs.pull 7).cell rfl | exact (hs.pull 8).cell rfl | assumption | exact hs.cellsOf | exact (hs.pull 1).cellsOf | exact (hs.pull 2).cellsOf | exact (hs.pull 3).cellsOf | exact (hs.pull 4).cellsOf | exact (hs.pull 5).cellsOf | exact (hs.pull 6).cellsOf | exact (hs.pull 7).cellsOf | exact (hs.pull 8).cellsOf)), ?_⟩
          obtain ⟨hzz, hrdu, hzk, hs⟩ := hrl
          rw [hlk] at hrdu ⊢
          obtain ⟨a5, c5, rfl⟩ : ∃ a c, u = .slice a b.length c := (hrdu _ _ (hs.pull 2)).val
          obtain ⟨a9, c9, rfl⟩ := (hs.pull 1).rd.val
          have hzl : z.length = l'.length := by rw [hzz, List.length_map]
          refine x_alloc zi_47 hs ?_; clear hs; intro b19 w hs; refine ⟨fun h => (by first | (cases h; done) | (first | exact hs.cells2 rfl rfl | exact (hs.pull 1).cells2 rfl rfl | exact (hs.pull 2).cells2 rfl rfl | exact (hs.pull 3).cells2 rfl rfl | exact (hs.pull 4).cells2 rfl rfl | exact (hs.pull 5).cells2 rfl rfl | exact (hs.pull 6).cells2 rfl rfl | exact (hs.pull 7).cells2 rfl rfl | exact (hs.pull 8).cells2 rfl rfl | exact hs.cell rfl | exact (hs.pull 1).cell rfl | exact (hs.pull 2).cell rfl | exact (hs.pull 3).cell rfl | exact (hs.pull 4).cell rfl | exact (hs.pull 5).cell rfl | exact (hs.pull 6).cell rfl | exact (hs.pull 7).cell rfl | exact (hs.pull 8).cell rfl | assumption | exact hs.cellsOf | exact (hs.pull 1).cellsOf | exact (hs.pull 2).cellsOf | exact (hs.pull 3).cellsOf | exact (hs.pull 4).cellsOf | exact (hs.pull 5).cellsOf | exact (hs.pull 6).cellsOf | exact (hs.pull 7).cellsOf | exact (hs.pull 8).cellsOf) | (and_intros <;> first | exact hs.cells2 rfl rfl | exact (hs.pull 1).cells2 rfl rfl | exact (hs.pull 2).cells2 rfl rfl | exact (hs.pull 3).cells2 rfl rfl | exact (hs.pull 4).cells2 rfl rfl | exact (hs.pull 5).cells2 rfl rfl | exact (hs.pull 6).cells2 rfl rfl | exact (hs.pull 7).cells2 rfl rfl | exact (hs.pull 8).cells2 rfl rfl | exact hs.cell rfl | exact (hs.pull 1).cell rfl | exact (hs.pull 2).cell rfl | exact (hs.pull 3).cell rfl | exact (hs.pull 4).cell rfl | exact (hs.pull 5).cell rfl | exact (hs.pull 6).cell rfl | exact (hs.pull 7).cell rfl | exact (hs.pull 8).cell rfl | assumption | exact hs.cellsOf | exact (hs.pull 1).cellsOf | exact (hs.pull 2).cellsOf | exact (hs.pull 3).cellsOf | exact (hs.pull 4).cellsOf | exact (hs.pull 5).cellsOf | exact (hs.pull 6).cellsOf | exact (hs.pull 7).cellsOf | exact (hs.pull 8).cellsOf)), ?_⟩
          first
            | refine x_storeAllI hs 0 rfl rfl agg_47 [_, _, _, _] rfl rfl rfl rfl ?_
            | refine x_storeAllI hs 1 rfl rfl agg_47 [_, _, _, _] rfl rfl rfl rfl ?_
            | refine x_storeAllI hs 2 rfl rfl agg_47 [_, _, _, _] rfl rfl rfl rfl ?_
            | refine x_storeAllI hs 3 rfl rfl agg_47 [_, _, _, _] rfl rfl rfl rfl ?_
            | refine x_storeAllI hs 4 rfl rfl agg_47 [_, _, _, _] rfl rfl rfl rfl ?_
            | refine x_storeAllI hs 5 rfl rfl agg_47 [_, _, _, _] rfl rfl rfl rfl ?_
            | refine x_storeAllI hs 6 rfl rfl agg_47 [_, _, _, _] rfl rfl rfl rfl ?_
            | refine x_storeAllI hs 7 rfl rfl agg_47 [_, _, _, _] rfl rfl rfl rfl ?_
          clear hs; intro w hs
          try dsimp only [back, List.set_cons_zero, List.set_cons_succ] at hs
          refine ⟨fun h => (by first | (cases h; done) | (first | exact hs.cells2 rfl rfl | exact (hs.pull 1).cells2 rfl rfl | exact (hs.pull 2).cells2 rfl rfl | exact (hs.pull 3).cells2 rfl rfl | exact (hs.pull 4).cells2 rfl rfl | exact (hs.pull 5).cells2 rfl rfl | exact (hs.pull 6).cells2 rfl rfl | exact (hs.pull 7).cells2 rfl rfl | exact (hs.pull 8).cells2 rfl rfl | exact hs.cell rfl | exact (hs.pull 1).cell rfl | exact (hs.pull 2).cell rfl | exact (hs.pull 3).cell rfl | exact (hs.pull 4).cell rfl | exact (hs.pull 5).cell rfl | exact (hs.pull 6).cell rfl | exact (hs.pull 7).cell rfl | exact (hs.pull 8).cell rfl | assumption | exact hs.cellsOf | exact (hs.pull 1).cellsOf | exact (hs.pull 2).cellsOf | exact (hs.pull 3).cellsOf | exact (hs.pull 4).cellsOf | exact (hs.pull 5).cellsOf | exact (hs.pull 6).cellsOf | exact (hs.pull 7).cellsOf | exact (hs.pull 8).cellsOf) | (and_intros <;> first | exact hs.cells2 rfl rfl | exact (hs.pull 1).cells2 rfl rfl | exact (hs.pull 2).cells2 rfl rfl | exact (hs.pull 3).cells2 rfl rfl | exact (hs.pull 4).cells2 rfl rfl | exact (hs.pull 5).cells2 rfl rfl | exact (hs.pull 6).cells2 rfl rfl | exact (hs.pull 7).cells2 rfl rfl | exact (hs.pull 8).cells2 rfl rfl | exact hs.cell rfl | exact (hs.pull 1).cell rfl | exact (hs.pull 2).cell rfl | exact (hs.pull 3).cell rfl | exact (hs.pull 4).cell rfl | exact (hs.pull 5).cell rfl | exact (hs.pull 6).cell rfl | exact (hs.pull 7).cell rfl | exact (hs.pull 8).cell rfl | assumption | exact hs.cellsOf | exact (hs.pull 1).cellsOf | exact (hs.pull 2).cellsOf | exact (hs.pull 3).cellsOf | exact (hs.pull 4).cellsOf | exact (hs.pull 5).cellsOf | exact (hs.pull 6).cellsOf | exact (hs.pull 7).cellsOf | exact (hs.pull 8).cellsOf)), ?_⟩
          refine x_nil ?_
          refine then_n ?_
          refine c_seq ?_
          -- region 31 DRAWS
          refine c_draw (fun w => w.cell? ⟨b29, 0, none⟩ = some (.slice a9 z.length c9) ∧ (∀ (j : Nat) (u : Value), [Value.int .u16 (to.Id : Nat), Value.int .u32 (to.Inc : Nat)][j]? = some u → w.cell? ((⟨b16, 0, none⟩ : Addr).add j) = some u) ∧ (∀ (j : Nat) (u : Value), [Value.int .u16 (to.Id : Nat), Value.int .u32 (to.Inc : Nat)][j]? = some u → w.cell? ((⟨b19, 0, none⟩ : Addr).add j) = some u) ∧ w.cell? ⟨b19, 2, none⟩ = some (.slice a5 b.length c5) ∧ w.cell? ⟨b19, 3, none⟩ = some (.bool sp)) (fun i => !(Nat.beq i 22 || Nat.beq i 28)) [(0, 2), (1, 2), (2, 2), (3, 2), (5, 2), (6, 2), (7, 2), (8, 1), (9, 2), (4, 0), (10, 2), (11, 2), (12, 2), (13, 1), (14, 2), (15, 1), (16, 2), (17, 2), (18, 2), (19, 2), (20, 2), (21, 1), (22, 0), (23, 2), (24, 2), (25, 2), (26, 2), (27, 2), (28, 0), (29, 2), (30, 2)] (by kernel_rfl) (by kernel_rfl) (by kernel_rfl) (by kernel_rfl) ((by first | (first | exact hs.cells2 rfl rfl | exact (hs.pull 1).cells2 rfl rfl | exact (hs.pull 2).cells2 rfl rfl | exact (hs.pull 3).cells2 rfl rfl | exact (hs.pull 4).cells2 rfl rfl | exact (hs.pull 5).cells2 rfl rfl | exact (hs.pull 6).cells2 rfl rfl | exact (hs.pull 7).cells2 rfl rfl | exact (hs.pull 8).cells2 rfl rfl | exact hs.cell rfl | exact (hs.pull 1).cell rfl | exact (hs.pull 2).cell rfl | exact (hs.pull 3).cell rfl | exact (hs.pull 4).cell rfl | exact (hs.pull 5).cell rfl | exact (hs.pull 6).cell rfl | exact (hs.pull 7).cell rfl | exact (hs.pull 8).cell rfl | assumption | exact hs.cellsOf | exact (hs.pull 1).cellsOf | exact (hs.pull 2).cellsOf | exact (hs.pull 3).cellsOf | exact (hs.pull 4).cellsOf | exact (hs.pull 5).cellsOf | exact (hs.pull 6).cellsOf | exact (hs.pull 7).cellsOf | exact (hs.pull 8).cellsOf) | (and_intros <;> first | exact hs.cells2 rfl rfl | exact (hs.pull 1).cells2 rfl rfl | exact (hs.pull 2).cells2 rfl rfl | exact (hs.pull 3).cells2 rfl rfl | exact (hs.pull 4).cells2 rfl rfl | exact (hs.pull 5).cells2 rfl rfl | exact (hs.pull 6).cells2 rfl rfl | exact (hs.pull 7).cells2 rfl rfl | exact (hs.pull 8).cells2 rfl rfl | exact hs.cell rfl | exact (hs.pull 1).cell rfl | exact (hs.pull 2).cell rfl | exact (hs.pull 3).cell rfl | exact (hs.pull 4).cell rfl | exact (hs.pull 5).cell rfl | exact (hs.pull 6).cell rfl | exact (hs.pull 7).cell rfl | exact (hs.pull 8).cell rfl | assumption | exact hs.cellsOf | exact (hs.pull 1).cellsOf | exact (hs.pull 2).cellsOf | exact (hs.pull 3).cellsOf | exact (hs.pull 4).cellsOf | exact (hs.pull 5).cellsOf | exact (hs.pull 6).cellsOf | exact (hs.pull 7).cellsOf | exact (hs.pull 8).cellsOf))) ?_
          replace hs := hs.drew
          refine x_move (.bool _) rfl ?_
          refine x_not _ rfl ?_
          refine x_move (.bool _) rfl ?_
          refine x_want' rfl ?_
          refine x_move (.pointer _) rfl ?_
          refine x_want' rfl ?_
          refine x_move (.pointer _) rfl ?_
          refine x_want' rfl ?_
          refine x_nilCheck _ rfl ?_
          refine x_want' rfl ?_
          first | refine x_field0 fa_42_0 _ rfl ?_ | refine x_field fa_42_0 _ _ rfl ?_
          refine x_want' rfl ?_
          refine h_load one_40 _ (.slice _ _ _) rfl (fun w hS => by first | exact hS.cell rfl | exact (hS.pull 1).cell rfl | exact (hS.pull 2).cell rfl | exact (hS.pull 3).cell rfl | exact (hS.pull 4).cell rfl | exact (hS.pull 5).cell rfl | exact (hS.pull 6).cell rfl | exact hS | exact hS.1 | exact hS.2 | exact hS.2.1 | exact hS.2.2 | exact hS.2.2.1 | exact hS.2.2.2 | exact hS.2.2.2.1 | exact hS.2.2.2.2) ?_
          refine x_want' rfl ?_
          refine x_lenSl Try.underlying40 _ _ _ rfl ?_
          refine x_want' rfl ?_
          refine x_call Try.f23 Try.func23 rfl rfl _ rfl ?_
          refine (flen_calls (hs.pull 5)).mono ?_
          clear hs; rintro e w ⟨rfl, hs⟩
          replace hs := hs.push 5
          try dsimp only [back] at hs
          refine ⟨_, rfl, fun h => (by first | (cases h; done) | (first | exact hs.cells2 rfl rfl | exact (hs.pull 1).cells2 rfl rfl | exact (hs.pull 2).cells2 rfl rfl | exact (hs.pull 3).cells2 rfl rfl | exact (hs.pull 4).cells2 rfl rfl | exact (hs.pull 5).cells2 rfl rfl | exact (hs.pull 6).cells2 rfl rfl | exact (hs.pull 7).cells2 rfl rfl | exact (hs.pull 8).cells2 rfl rfl | exact hs.cell rfl | exact (hs.pull 1).cell rfl | exact (hs.pull 2).cell rfl | exact (hs.pull 3).cell rfl | exact (hs.pull 4).cell rfl | exact (hs.pull 5).cell rfl | exact (hs.pull 6).cell rfl | exact (hs.pull 7).cell rfl | exact (hs.pull 8).cell rfl | assumption | exact hs.cellsOf | exact (hs.pull 1).cellsOf | exact (hs.pull 2).cellsOf | exact (hs.pull 3).cellsOf | exact (hs.pull 4).cellsOf | exact (hs.pull 5).cellsOf | exact (hs.pull 6).cellsOf | exact (hs.pull 7).cellsOf | exact (hs.pull 8).cellsOf) | (and_intros <;> first | exact hs.cells2 rfl rfl | exact (hs.pull 1).cells2 rfl rfl | exact (hs.pull 2).cells2 rfl rfl | exact (hs.pull 3).cells2 rfl rfl | exact (hs.pull 4).cells2 rfl rfl | exact (hs.pull 5).cells2 rfl rfl | exact (hs.pull 6).cells2 rfl rfl | exact (hs.pull 7).cells2 rfl rfl | exact (hs.pull 8).cells2 rfl rfl | exact hs.cell rfl | exact (hs.pull 1).cell rfl | exact (hs.pull 2).cell rfl | exact (hs.pull 3).cell rfl | exact (hs.pull 4).cell rfl | exact (hs.pull 5).cell rfl | exact (hs.pull 6).cell rfl | exact (hs.pull 7).cell rfl | exact (hs.pull 8).cell rfl | assumption | exact hs.cellsOf | exact (hs.pull 1).cellsOf | exact (hs.pull 2).cellsOf | exact (hs.pull 3).cellsOf | exact (hs.pull 4).cellsOf | exact (hs.pull 5).cellsOf | exact (hs.pull 6).cellsOf | exact (hs.pull 7).cellsOf | exact (hs.pull 8).cellsOf)), ?_⟩
          refine x_want' rfl ?_
          refine x_neqF _ _ rfl rfl (by omega) ?_
          refine x_pickF (.bool _) rfl rfl ?_
          refine x_move (.bool _) rfl ?_
          refine x_want' rfl ?_
          refine h_loadN [_, _] agg_30 _ rfl (fun w hS => by first | exact hS | exact hS.1 | exact hS.2 | exact hS.2.1 | exact hS.2.2 | exact hS.2.2.1 | exact hS.2.2.2 | exact hS.2.2.2.1 | exact hS.2.2.2.2 | exact hS.cellsOf | exact (hS.pull 1).cellsOf | exact (hS.pull 2).cellsOf | exact (hS.pull 3).cellsOf | exact (hS.pull 4).cellsOf | exact (hS.pull 5).cellsOf | exact (hS.pull 6).cellsOf | exact hS.cells2 rfl rfl | exact (hS.pull 1).cells2 rfl rfl | exact (hS.pull 2).cells2 rfl rfl | exact (hS.pull 3).cells2 rfl rfl | exact (hS.pull 4).cells2 rfl rfl | exact (hS.pull 5).cells2 rfl rfl | exact (hS.pull 6).cells2 rfl rfl) ?_
          refine x_want' rfl ?_
          first | refine x_field0 fa_47_0 _ rfl ?_ | refine x_field fa_47_0 _ _ rfl ?_
          refine x_want' rfl ?_
          refine h_loadN [_, _] agg_30 _ rfl (fun w hS => by first | exact hS | exact hS.1 | exact hS.2 | exact hS.2.1 | exact hS.2.2 | exact hS.2.2.1 | exact hS.2.2.2 | exact hS.2.2.2.1 | exact hS.2.2.2.2 | exact hS.cellsOf | exact (hS.pull 1).cellsOf | exact (hS.pull 2).cellsOf | exact (hS.pull 3).cellsOf | exact (hS.pull 4).cellsOf | exact (hS.pull 5).cellsOf | exact (hS.pull 6).cellsOf | exact hS.cells2 rfl rfl | exact (hS.pull 1).cells2 rfl rfl | exact (hS.pull 2).cells2 rfl rfl | exact (hS.pull 3).cells2 rfl rfl | exact (hS.pull 4).cells2 rfl rfl | exact (hS.pull 5).cells2 rfl rfl | exact (hS.pull 6).cells2 rfl rfl) ?_
          refine x_want' rfl ?_
          refine x_neqEF eq_pid to to rfl rfl rfl ?_
          refine x_pickF (.bool _) rfl rfl ?_
          refine x_move (.bool _) rfl ?_
          refine x_want' rfl ?_
          refine x_move (.slice _ _ _) rfl ?_
          refine x_want' rfl ?_
          first | refine x_field0 fa_47_1 _ rfl ?_ | refine x_field fa_47_1 _ _ rfl ?_
          refine x_want' rfl ?_
          refine h_load one_22 _ (.slice _ _ _) rfl (fun w hS => by first | exact hS.cell rfl | exact (hS.pull 1).cell rfl | exact (hS.pull 2).cell rfl | exact (hS.pull 3).cell rfl | exact (hS.pull 4).cell rfl | exact (hS.pull 5).cell rfl | exact (hS.pull 6).cell rfl | exact hS | exact hS.1 | exact hS.2 | exact hS.2.1 | exact hS.2.2 | exact hS.2.2.1 | exact hS.2.2.2 | exact hS.2.2.2.1 | exact hS.2.2.2.2) ?_
          refine x_want' rfl ?_
          refine x_call Try.f12 Try.func12 rfl rfl _ rfl ?_
          refine ((eq01_true hs (hs.pull 6).br (hrdu _ _ (hs.pull 3)) (by omega))).mono ?_
          clear hs; rintro e w ⟨rfl, hs⟩
          refine ⟨_, rfl, fun h => (by first | (cases h; done) | (first | exact hs.cells2 rfl rfl | exact (hs.pull 1).cells2 rfl rfl | exact (hs.pull 2).cells2 rfl rfl | exact (hs.pull 3).cells2 rfl rfl | exact (hs.pull 4).cells2 rfl rfl | exact (hs.pull 5).cells2 rfl rfl | exact (hs.pull 6).cells2 rfl rfl | exact (hs.pull 7).cells2 rfl rfl | exact (hs.pull 8).cells2 rfl rfl | exact hs.cell rfl | exact (hs.pull 1).cell rfl | exact (hs.pull 2).cell rfl | exact (hs.pull 3).cell rfl | exact (hs.pull 4).cell rfl | exact (hs.pull 5).cell rfl | exact (hs.pull 6).cell rfl | exact (hs.pull 7).cell rfl | exact (hs.pull 8).cell rfl | assumption | exact hs.cellsOf | exact (hs.pull 1).cellsOf | exact (hs.pull 2).cellsOf | exact (hs.pull 3).cellsOf | exact (hs.pull 4).cellsOf | exact (hs.pull 5).cellsOf | exact (hs.pull 6).cellsOf | exact (hs.pull 7).cellsOf | exact (hs.pull 8).cellsOf) | (and_intros <;> first | exact hs.cells2 rfl rfl | exact (hs.pull 1).cells2 rfl rfl | exact (hs.pull 2).cells2 rfl rfl | exact (hs.pull 3).cells2 rfl rfl | exact (hs.pull 4).cells2 rfl rfl | exact (hs.pull 5).cells2 rfl rfl | exact (hs.pull 6).cells2 rfl rfl | exact (hs.pull 7).cells2 rfl rfl | exact (hs.pull 8).cells2 rfl rfl | exact hs.cell rfl | exact (hs.pull 1).cell rfl | exact (hs.pull 2).cell rfl | exact (hs.pull 3).cell rfl | exact (hs.pull 4).cell rfl | exact (hs.pull 5).cell rfl | exact (hs.pull 6).cell rfl | exact (hs.pull 7).cell rfl | exact (hs.pull 8).cell rfl | assumption | exact hs.cellsOf | exact (hs.pull 1).cellsOf | exact (hs.pull 2).cellsOf | exact (hs.pull 3).cellsOf | exact (hs.pull 4).cellsOf | exact (hs.pull 5).cellsOf | exact (hs.pull 6).cellsOf | exact (hs.pull 7).cellsOf | exact (hs.pull 8).cellsOf)), ?_⟩
          refine x_want' rfl ?_
          refine x_not _ rfl ?_
          refine x_pickF (.bool _) rfl rfl ?_
          refine x_move (.bool _) rfl ?_
          refine x_want' rfl ?_
          refine x_move (.bool _) rfl ?_
          refine x_want' rfl ?_
          first | refine x_field0 fa_47_2 _ rfl ?_ | refine x_field fa_47_2 _ _ rfl ?_
          refine x_want' rfl ?_
          refine x_load one_4 _ (.bool _) rfl (by first | exact hs.cell rfl | exact (hs.pull 1).cell rfl | exact (hs.pull 2).cell rfl | exact (hs.pull 3).cell rfl | assumption | exact (hs.pull 4).cell rfl | exact (hs.pull 5).cell rfl | exact (hs.pull 6).cell rfl | exact (hs.pull 7).cell rfl) ?_
          refine x_want' rfl ?_
          refine x_neqB _ _ Try.underlying4 rfl rfl ?_
          refine x_pickF (.bool _) rfl rfl ?_
          refine x_nil ?_
          refine then_n ?_
          refine c_cond rfl (fun hb => ?_) (fun hb => ?_)   -- cond t213
          · skip
            refine c_seq ?_
            -- region 32
            refine c_region ?_
            refine x_assign (.bool _) rfl ?_
            refine x_nil ?_
            refine then_n ?_
            refine c_ret ?_
            refine inb_r ?_
            refine then_r ?_
            refine then_r ?_
            refine inb_r ?_
            refine then_r ?_
            refine ⟨.inr rfl, ?_⟩
            exact absurd hb (by simp)
          · skip
            refine c_skip ?_
            refine inb_n ?_
            refine then_n ?_
            -- region 6
            refine c_region ?_
            refine x_move (.int _ _) rfl ?_
            refine x_add _ _ rfl rfl (by simp only [X.lo]; omega) (by simp only [X.hi]; omega) ?_
            refine x_assign (.int _ _) rfl ?_
            refine x_nil ?_
            refine then_n ?_
            have hs := Sat.fobj' (hs.perm [1, 2, 3, 5, 8, 0, 4, 6, 7])
            rw [← hzz] at hs
            have hs := Sat.left (Ls := [FP f l', FR b29 l', Init w0]) (hs.perm [1, 0, 2])
            refine ⟨(i + 1, l'), ⟨rfl, rfl, rfl, rfl, trivial⟩, ⟨by omega, hinv', hs⟩, by first | omega | (dsimp only; omega)⟩
      · skip
        refine c_seq ?_
        refine c_seq ?_
        -- region 5
        refine c_region ?_
        refine x_move (.int _ _) rfl ?_
        refine x_move (.slice _ _ _) rfl ?_
        refine x_lenSl Try.underlying37 _ _ _ rfl ?_
        refine x_lssT _ _ rfl rfl (by omega) ?_
        refine x_move (.bool _) rfl ?_
        refine x_want' rfl ?_
        refine x_move (.int _ _) rfl ?_
        refine x_want' rfl ?_
        refine x_lssF _ _ rfl rfl (by omega) ?_
        refine x_pickT (.bool _) rfl rfl ?_
        refine x_nil ?_
        refine then_n ?_
        refine c_false rfl ?_
        refine c_exit ?_
        refine then_x ?_
        refine then_x ?_
        refine inb_e ?_
        refine then_n ?_
        exact ⟨l, ⟨rfl, rfl, trivial⟩, ⟨hinv, hs⟩⟩
      · skip
        refine c_seq ?_
        refine c_seq ?_
        -- region 5
        refine c_region ?_
        refine x_move (.int _ _) rfl ?_
        refine x_move (.slice _ _ _) rfl ?_
        refine x_lenSl Try.underlying37 _ _ _ rfl ?_
        refine x_lssF _ _ rfl rfl (by omega) ?_
        refine x_move (.bool _) rfl ?_
        refine x_skip rfl rfl ?_
        refine x_skip rfl rfl ?_
        refine x_pickF (.bool _) rfl rfl ?_
        refine x_nil ?_
        refine then_n ?_
        refine c_false rfl ?_
        refine c_exit ?_
        refine then_x ?_
        refine then_x ?_
        refine inb_e ?_
        refine then_n ?_
        exact ⟨l, ⟨rfl, rfl, trivial⟩, ⟨hinv, hs⟩⟩
    · skip
      clear hs
      rintro l ρ w ⟨hinv, hs⟩
      change CW Try.prog 263 _ _ (sets 263 [(3, .pointer (some ⟨f, 0, none⟩)), (4, .pointer (some ⟨b29, 0, none⟩))] ρ) w
      refine c_seq ?_
      refine c_seq ?_
      -- region 33
      refine c_region ?_
      refine x_assign (.int _ _) rfl ?_
      refine x_nil ?_
      refine then_n ?_
      refine c_block ?_
      refine c_loop (γ := Nat) (fun (i : Nat) => [(3, .pointer (some ⟨f, 0, none⟩)), (4, .pointer (some ⟨b29, 0, none⟩)), (20, .int .i64 (i : Nat))]) (fun (i : Nat) w => i ≤ l.length ∧ Sat w0 w (FP f l :: FR b29 l :: [Init w0])) (fun (i : Nat) => l.length - i) 0 ⟨rfl, rfl, rfl, trivial⟩ ⟨Nat.zero_le _, hs⟩ ?_
      clear hs
      rintro i ρ w ⟨hil, hs⟩
      change CW Try.prog 263 _ _ (sets 263 [(3, .pointer (some ⟨f, 0, none⟩)), (4, .pointer (some ⟨b29, 0, none⟩)), (20, .int .i64 (i : Nat))] ρ) w
      have hll := hinv.le.1
      have hlb := hinv.le.2
      refine c_seq ?_
      refine c_seq ?_
      -- region 34
      refine c_region ?_
      refine x_move (.int _ _) rfl ?_
      refine x_move (.pointer _) rfl ?_
      refine x_call Try.f23 Try.func23 rfl rfl _ rfl ?_
      refine (flen_calls hs).mono ?_
      clear hs; rintro e w ⟨rfl, hs⟩
      refine ⟨_, rfl, fun h => (by first | (cases h; done) | (first | exact hs.cells2 rfl rfl | exact (hs.pull 1).cells2 rfl rfl | exact (hs.pull 2).cells2 rfl rfl | exact (hs.pull 3).cells2 rfl rfl | exact (hs.pull 4).cells2 rfl rfl | exact (hs.pull 5).cells2 rfl rfl | exact (hs.pull 6).cells2 rfl rfl | exact (hs.pull 7).cells2 rfl rfl | exact (hs.pull 8).cells2 rfl rfl | exact hs.cell rfl | exact (hs.pull 1).cell rfl | exact (hs.pull 2).cell rfl | exact (hs.pull 3).cell rfl | exact (hs.pull 4).cell rfl | exact (hs.pull 5).cell rfl | exact (hs.pull 6).cell rfl | exact (hs.pull 7).cell rfl | exact (hs.pull 8).cell rfl | assumption | exact hs.cellsOf | exact (hs.pull 1).cellsOf | exact (hs.pull 2).cellsOf | exact (hs.pull 3).cellsOf | exact (hs.pull 4).cellsOf | exact (hs.pull 5).cellsOf | exact (hs.pull 6).cellsOf | exact (hs.pull 7).cellsOf | exact (hs.pull 8).cellsOf) | (and_intros <;> first | exact hs.cells2 rfl rfl | exact (hs.pull 1).cells2 rfl rfl | exact (hs.pull 2).cells2 rfl rfl | exact (hs.pull 3).cells2 rfl rfl | exact (hs.pull 4).cells2 rfl rfl | exact (hs.pull 5).cells2 rfl rfl | exact (hs.pull 6).cells2 rfl rfl | exact (hs.pull 7).cells2 rfl rfl | exact (hs.pull 8).cells2 rfl rfl | exact hs.cell rfl | exact (hs.pull 1).cell rfl | exact (hs.pull 2).cell rfl | exact (hs.pull 3).cell rfl | exact (hs.pull 4).cell rfl | exact (hs.pull 5).cell rfl | exact (hs.pull 6).cell rfl | exact (hs.pull 7).cell rfl | exact (hs.pull 8).cell rfl | assumption | exact hs.cellsOf | exact (hs.pull 1).cellsOf | exact (hs.pull 2).cellsOf | exact (hs.pull 3).cellsOf | exact (hs.pull 4).cellsOf | exact (hs.pull 5).cellsOf | exact (hs.pull 6).cellsOf | exact (hs.pull 7).cellsOf | exact (hs.pull 8).cellsOf)), ?_⟩
      refine x_lss _ _ rfl rfl ?_
      refine x_nil ?_
      refine then_n ?_
      refine c_test _ rfl (fun hb => ?_) (fun hb => ?_)   -- cond t217
      · skip
        refine c_skip ?_
        refine then_n ?_
        refine c_seq ?_
        refine c_block ?_
        refine c_seq ?_
        -- region 36
        have hlt : i < l.length := by omega
        have hlkb := hinv.look (i : Int)
        have hpi := pk_id hlt
        generalize hlk : thLook l (i : Int) = t at *
        obtain ⟨to, b, sp⟩ := t
        dsimp only at hlkb
        refine c_region ?_
        refine x_move (.pointer _) rfl ?_
        refine x_move (.int _ _) rfl ?_
        refine x_call Try.f11 Try.func11 rfl rfl _ rfl ?_
        refine (flook_eq to b sp hlk hs hll hlb).mono ?_
        clear hs; rintro e w ⟨a3, c3, rfl, hs⟩
        refine ⟨_, rfl, fun h => (by first | (cases h; done) | (first | exact hs.cells2 rfl rfl | exact (hs.pull 1).cells2 rfl rfl | exact (hs.pull 2).cells2 rfl rfl | exact (hs.pull 3).cells2 rfl rfl | exact (hs.pull 4).cells2 rfl rfl | exact (hs.pull 5).cells2 rfl rfl | exact (hs.pull 6).cells2 rfl rfl | exact (hs.pull 7).cells2 rfl rfl | exact (hs.pull 8).cells2 rfl rfl | exact hs.cell rfl | exact (hs.pull 1).cell rfl | exact (hs.pull 2).cell rfl | exact (hs.pull 3).cell rfl | exact (hs.pull 4).cell rfl | exact (hs.pull 5).cell rfl | exact (hs.pull 6).cell rfl | exact (hs.pull 7).cell rfl | exact (hs.pull 8).cell rfl | assumption | exact hs.cellsOf | exact (hs.pull 1).cellsOf | exact (hs.pull 2).cellsOf | exact (hs.pull 3).cellsOf | exact (hs.pull 4).cellsOf | exact (hs.pull 5).cellsOf | exact (hs.pull 6).cellsOf | exact (hs.pull 7).cellsOf | exact (hs.pull 8).cellsOf) | (and_intros <;> first | exact hs.cells2 rfl rfl | exact (hs.pull 1).cells2 rfl rfl | exact (hs.pull 2).cells2 rfl rfl | exact (hs.pull 3).cells2 rfl rfl | exact (hs.pull 4).cells2 rfl rfl | exact (hs.pull 5).cells2 rfl rfl | exact (hs.pull 6).cells2 rfl rfl | exact (hs.pull 7).cells2 rfl rfl | exact (hs.pull 8).cells2 rfl rfl | exact hs.cell rfl | exact (hs.pull 1).cell rfl | exact (hs.pull 2).cell rfl | exact (hs.pull 3).cell rfl | exact (hs.pull 4).cell rfl | exact (hs.pull 5).cell rfl | exact (hs.pull 6).cell rfl | exact (hs.pull 7).cell rfl | exact (hs.pull 8).cell rfl | assumption | exact hs.cellsOf | exact (hs.pull 1).cellsOf | exact (hs.pull 2).cellsOf | exact (hs.pull 3).cellsOf | exact (hs.pull 4).cellsOf | exact (hs.pull 5).cellsOf | exact (hs.pull 6).cellsOf | exact (hs.pull 7).cellsOf | exact (hs.pull 8).cellsOf)), ?_⟩
        refine x_move (.tuple _) rfl ?_
        refine x_extract _ (.agg _) rfl rfl ?_
        refine x_extract _ (.slice _ _ _) rfl rfl ?_
        refine x_extract _ (.bool _) rfl rfl ?_
        refine x_alloc zi_30 hs ?_; clear hs; intro b21 w hs; refine ⟨fun h => (by first | (cases h; done) | (first | exact hs.cells2 rfl rfl | exact (hs.pull 1).cells2 rfl rfl | exact (hs.pull 2).cells2 rfl rfl | exact (hs.pull 3).cells2 rfl rfl | exact (hs.pull 4).cells2 rfl rfl | exact (hs.pull 5).cells2 rfl rfl | exact (hs.pull 6).cells2 rfl rfl | exact (hs.pull 7).cells2 rfl rfl | exact (hs.pull 8).cells2 rfl rfl | exact hs.cell rfl | exact (hs.pull 1).cell rfl | exact (hs.pull 2).cell rfl | exact (hs.pull 3).cell rfl | exact (hs.pull 4).cell rfl | exact (hs.pull 5).cell rfl | exact (hs.pull 6).cell rfl | exact (hs.pull 7).cell rfl | exact (hs.pull 8).cell rfl | assumption | exact hs.cellsOf | exact (hs.pull 1).cellsOf | exact (hs.pull 2).cellsOf | exact (hs.pull 3).cellsOf | exact (hs.pull 4).cellsOf | exact (hs.pull 5).cellsOf | exact (hs.pull 6).cellsOf | exact (hs.pull 7).cellsOf | exact (hs.pull 8).cellsOf) | (and_intros <;> first | exact hs.cells2 rfl rfl | exact (hs.pull 1).cells2 rfl rfl | exact (hs.pull 2).cells2 rfl rfl | exact (hs.pull 3).cells2 rfl rfl | exact (hs.pull 4).cells2 rfl rfl | exact (hs.pull 5).cells2 rfl rfl | exact (hs.pull 6).cells2 rfl rfl | exact (hs.pull 7).cells2 rfl rfl | exact (hs.pull 8).cells2 rfl rfl | exact hs.cell rfl | exact (hs.pull 1).cell rfl | exact (hs.pull 2).cell rfl | exact (hs.pull 3).cell rfl | exact (hs.pull 4).cell rfl | exact (hs.pull 5).cell rfl | exact (hs.pull 6).cell rfl | exact (hs.pull 7).cell rfl | exact (hs.pull 8).cell rfl | assumption | exact hs.cellsOf | exact (hs.pull 1).cellsOf | exact (hs.pull 2).cellsOf | exact (hs.pull 3).cellsOf | exact (hs.pull 4).cellsOf | exact (hs.pull 5).cellsOf | exact (hs.pull 6).cellsOf | exact (hs.pull 7).cellsOf | exact (hs.pull 8).cellsOf)), ?_⟩
        first
          | refine x_storeAllI hs 0 rfl rfl agg_30 [_, _] rfl rfl rfl rfl ?_
          | refine x_storeAllI hs 1 rfl rfl agg_30 [_, _] rfl rfl rfl rfl ?_
          | refine x_storeAllI hs 2 rfl rfl agg_30 [_, _] rfl rfl rfl rfl ?_
          | refine x_storeAllI hs 3 rfl rfl agg_30 [_, _] rfl rfl rfl rfl ?_
          | refine x_storeAllI hs 4 rfl rfl agg_30 [_, _] rfl rfl rfl rfl ?_
          | refine x_storeAllI hs 5 rfl rfl agg_30 [_, _] rfl rfl rfl rfl ?_
          | refine x_storeAllI hs 6 rfl rfl agg_30 [_, _] rfl rfl rfl rfl ?_
          | refine x_storeAllI hs 7 rfl rfl agg_30 [_, _] rfl rfl rfl rfl ?_
        clear hs; intro w hs
        try dsimp only [back, List.set_cons_zero, List.set_cons_succ] at hs
        refine ⟨fun h => (by first | (cases h; done) | (first | exact hs.cells2 rfl rfl | exact (hs.pull 1).cells2 rfl rfl | exact (hs.pull 2).cells2 rfl rfl | exact (hs.pull 3).cells2 rfl rfl | exact (hs.pull 4).cells2 rfl rfl | exact (hs.pull 5).cells2 rfl rfl | exact (hs.pull 6).cells2 rfl rfl | exact (hs.pull 7).cells2 rfl rfl | exact (hs.pull 8).cells2 rfl rfl | exact hs.cell rfl | exact (hs.pull 1).cell rfl | exact (hs.pull 2).cell rfl | exact (hs.pull 3).cell rfl | exact (hs.pull 4).cell rfl | exact (hs.pull 5).cell rfl | exact (hs.pull 6).cell rfl | exact (hs.pull 7).cell rfl | exact (hs.pull 8).cell rfl | assumption | exact hs.cellsOf | exact (hs.pull 1).cellsOf | exact (hs.pull 2).cellsOf | exact (hs.pull 3).cellsOf | exact (hs.pull 4).cellsOf | exact (hs.pull 5).cellsOf | exact (hs.pull 6).cellsOf | exact (hs.pull 7).cellsOf | exact (hs.pull 8).cellsOf) | (and_intros <;> first | exact hs.cells2 rfl rfl | exact (hs.pull 1).cells2 rfl rfl | exact (hs.pull 2).cells2 rfl rfl | exact (hs.pull 3).cells2 rfl rfl | exact (hs.pull 4).cells2 rfl rfl | exact (hs.pull 5).cells2 rfl rfl | exact (hs.pull 6).cells2 rfl rfl | exact (hs.pull 7).cells2 rfl rfl | exact (hs.pull 8).cells2 rfl rfl | exact hs.cell rfl | exact (hs.pull 1).cell rfl | exact (hs.pull 2).cell rfl | exact (hs.pull 3).cell rfl | exact (hs.pull 4).cell rfl | exact (hs.pull 5).cell rfl | exact (hs.pull 6).cell rfl | exact (hs.pull 7).cell rfl | exact (hs.pull 8).cell rfl | assumption | exact hs.cellsOf | exact (hs.pull 1).cellsOf | exact (hs.pull 2).cellsOf | exact (hs.pull 3).cellsOf | exact (hs.pull 4).cellsOf | exact (hs.pull 5).cellsOf | exact (hs.pull 6).cellsOf | exact (hs.pull 7).cellsOf | exact (hs.pull 8).cellsOf)), ?_⟩
        refine x_assign (.slice _ _ _) rfl ?_
        refine x_assign (.bool _) rfl ?_
        refine x_nil ?_
        refine then_n ?_
        refine c_seq ?_
        -- region 37 DRAWS
        have hf := (hs.pull 3).fobj
        obtain ⟨ao, c, z, hzz, hs⟩ := hf
        have hzl : z.length = l.length := by rw [hzz, List.length_map]
        obtain ⟨t, u, hz, hlk2⟩ := thLook_z (a := (i : Int)) (show 0 < z.length by omega)
        rw [← hzz, hlk] at hlk2
        rw [hzl, hpi] at hz
        subst hlk2
        obtain ⟨z1, z2⟩ := zs hz
        obtain ⟨g, o, rfl⟩ := (hs.pull 1).rowAddr (show 0 < z.length by omega)
        obtain ⟨a5, c5, rfl⟩ : ∃ a c, u = .slice a b.length c := ((hs.pull 2).eachRB z1 z2).val
        have hall : ∀ {w : World} {L : List HP}, Sat w0 w (Row 47 4 (.slice (some ⟨g, o, none⟩) z.length c) z.length (tcells z) :: L) → (∀ (j : Nat) (u : Value), [Value.int .u16 (to.Id : Nat), Value.int .u32 (to.Inc : Nat)][j]? = some u → w.cell? ((⟨g, o + i * 4 + 0, none⟩ : Addr).add j) = some u) ∧ w.cell? ⟨g, o + i * 4 + 2, none⟩ = some (.slice a5 b.length c5) ∧ w.cell? ⟨g, o + i * 4 + 3, none⟩ = some (.bool sp) := fun hs =>
          ⟨cells2 (RS.cell (cells := tcell) hs.rd (fun _ => rfl) hz (q := 0) rfl) (RS.cell (cells := tcell) hs.rd (fun _ => rfl) hz (q := 1) rfl), RS.cell (cells := tcell) hs.rd (fun _ => rfl) hz (q := 2) rfl, RS.cell (cells := tcell) hs.rd (fun _ => rfl) hz (q := 3) rfl⟩
        refine c_draw (fun w => w.cell? ⟨b29, 0, none⟩ = some (.slice (some ⟨g, o, none⟩) z.length c) ∧ (∀ (j : Nat) (u : Value), [Value.int .u16 (to.Id : Nat), Value.int .u32 (to.Inc : Nat)][j]? = some u → w.cell? ((⟨b21, 0, none⟩ : Addr).add j) = some u) ∧ (∀ (j : Nat) (u : Value), [Value.int .u16 (to.Id : Nat), Value.int .u32 (to.Inc : Nat)][j]? = some u → w.cell? ((⟨g, o + i * 4 + 0, none⟩ : Addr).add j) = some u) ∧ w.cell? ⟨g, o + i * 4 + 2, none⟩ = some (.slice a5 b.length c5) ∧ w.cell? ⟨g, o + i * 4 + 3, none⟩ = some (.bool sp)) (fun i => !(Nat.beq i 20)) [(0, 1), (1, 2), (2, 2), (3, 2), (4, 1), (5, 2), (6, 2), (7, 2), (8, 1), (9, 2), (10, 2), (11, 2), (12, 2), (13, 2), (14, 2), (15, 1), (16, 2), (17, 2), (18, 2), (19, 1), (20, 0), (21, 2), (22, 2), (23, 2), (24, 2), (25, 2), (26, 2), (27, 2), (0, 3), (28, 1), (29, 2), (30, 2), (31, 2), (32, 1), (33, 2), (34, 2)] (by kernel_rfl) (by kernel_rfl) (by kernel_rfl) (by kernel_rfl) (⟨hs.drew.cell rfl, (hs.drew.pull 3).cells2 rfl rfl, hall (hs.drew.pull 1)⟩) ?_
        replace hs := hs.drew
        refine h_loadN [_, _] agg_30 _ rfl (fun w hS => by first | exact hS | exact hS.1 | exact hS.2 | exact hS.2.1 | exact hS.2.2 | exact hS.2.2.1 | exact hS.2.2.2 | exact hS.2.2.2.1 | exact hS.2.2.2.2 | exact hS.cellsOf | exact (hS.pull 1).cellsOf | exact (hS.pull 2).cellsOf | exact (hS.pull 3).cellsOf | exact (hS.pull 4).cellsOf | exact (hS.pull 5).cellsOf | exact (hS.pull 6).cellsOf | exact hS.cells2 rfl rfl | exact (hS.pull 1).cells2 rfl rfl | exact (hS.pull 2).cells2 rfl rfl | exact (hS.pull 3).cells2 rfl rfl | exact (hS.pull 4).cells2 rfl rfl | exact (hS.pull 5).cells2 rfl rfl | exact (hS.pull 6).cells2 rfl rfl) ?_
        refine x_move (.pointer _) rfl ?_
        refine x_nilCheck _ rfl ?_
        first | refine x_field0 fa_42_0 _ rfl ?_ | refine x_field fa_42_0 _ _ rfl ?_
        refine h_load one_40 _ (.slice _ _ _) rfl (fun w hS => by first | exact hS.cell rfl | exact (hS.pull 1).cell rfl | exact (hS.pull 2).cell rfl | exact (hS.pull 3).cell rfl | exact (hS.pull 4).cell rfl | exact (hS.pull 5).cell rfl | exact (hS.pull 6).cell rfl | exact hS | exact hS.1 | exact hS.2 | exact hS.2.1 | exact hS.2.2 | exact hS.2.2.1 | exact hS.2.2.2 | exact hS.2.2.2.1 | exact hS.2.2.2.2) ?_
        refine x_move (.int _ _) rfl ?_
        refine x_indexAddr Try.underlying40 sz_47 _ _ _ _ _ rfl rfl (by omega) ?_
        first | refine x_field0 fa_47_0 _ rfl ?_ | refine x_field fa_47_0 _ _ rfl ?_
        refine h_loadN [_, _] agg_30 _ rfl (fun w hS => by first | exact hS | exact hS.1 | exact hS.2 | exact hS.2.1 | exact hS.2.2 | exact hS.2.2.1 | exact hS.2.2.2 | exact hS.2.2.2.1 | exact hS.2.2.2.2 | exact hS.cellsOf | exact (hS.pull 1).cellsOf | exact (hS.pull 2).cellsOf | exact (hS.pull 3).cellsOf | exact (hS.pull 4).cellsOf | exact (hS.pull 5).cellsOf | exact (hS.pull 6).cellsOf | exact hS.cells2 rfl rfl | exact (hS.pull 1).cells2 rfl rfl | exact (hS.pull 2).cells2 rfl rfl | exact (hS.pull 3).cells2 rfl rfl | exact (hS.pull 4).cells2 rfl rfl | exact (hS.pull 5).cells2 rfl rfl | exact (hS.pull 6).cells2 rfl rfl) ?_
        refine x_neqEF eq_pid to to rfl rfl rfl ?_
        refine x_move (.bool _) rfl ?_
        refine x_want' rfl ?_
        refine x_move (.slice _ _ _) rfl ?_
        refine x_want' rfl ?_
        refine x_move (.pointer _) rfl ?_
        refine x_want' rfl ?_
        refine x_nilCheck _ rfl ?_
        refine x_want' rfl ?_
        first | refine x_field0 fa_42_0 _ rfl ?_ | refine x_field fa_42_0 _ _ rfl ?_
        refine x_want' rfl ?_
        refine h_load one_40 _ (.slice _ _ _) rfl (fun w hS => by first | exact hS.cell rfl | exact (hS.pull 1).cell rfl | exact (hS.pull 2).cell rfl | exact (hS.pull 3).cell rfl | exact (hS.pull 4).cell rfl | exact (hS.pull 5).cell rfl | exact (hS.pull 6).cell rfl | exact hS | exact hS.1 | exact hS.2 | exact hS.2.1 | exact hS.2.2 | exact hS.2.2.1 | exact hS.2.2.2 | exact hS.2.2.2.1 | exact hS.2.2.2.2) ?_
        refine x_want' rfl ?_
        refine x_move (.int _ _) rfl ?_
        refine x_want' rfl ?_
        refine x_indexAddr Try.underlying40 sz_47 _ _ _ _ _ rfl rfl (by omega) ?_
        refine x_want' rfl ?_
        first | refine x_field0 fa_47_1 _ rfl ?_ | refine x_field fa_47_1 _ _ rfl ?_
        refine x_want' rfl ?_
        refine h_load one_22 _ (.slice _ _ _) rfl (fun w hS => by first | exact hS.cell rfl | exact (hS.pull 1).cell rfl | exact (hS.pull 2).cell rfl | exact (hS.pull 3).cell rfl | exact (hS.pull 4).cell rfl | exact (hS.pull 5).cell rfl | exact (hS.pull 6).cell rfl | exact hS | exact hS.1 | exact hS.2 | exact hS.2.1 | exact hS.2.2 | exact hS.2.2.1 | exact hS.2.2.2 | exact hS.2.2.2.1 | exact hS.2.2.2.2) ?_
        refine x_want' rfl ?_
        refine x_call Try.f12 Try.func12 rfl rfl _ rfl ?_
        refine ((eq01_true hs (hs.pull 4).br ((hs.pull 2).eachRB z1 z2) (by omega))).mono ?_
        clear hs; rintro e w ⟨rfl, hs⟩
        refine ⟨_, rfl, fun h => ⟨hs.cell rfl, (hs.pull 3).cells2 rfl rfl, hall (hs.pull 1)⟩, ?_⟩
        refine x_want' rfl ?_
        refine x_not _ rfl ?_
        refine x_pickF (.bool _) rfl rfl ?_
        refine x_move (.bool _) rfl ?_
        refine x_want' rfl ?_
        refine x_move (.bool _) rfl ?_
        refine x_want' rfl ?_
        refine x_move (.pointer _) rfl ?_
        refine x_want' rfl ?_
        refine x_nilCheck _ rfl ?_
        refine x_want' rfl ?_
        first | refine x_field0 fa_42_0 _ rfl ?_ | refine x_field fa_42_0 _ _ rfl ?_
        refine x_reset (fun w => w.cell? ⟨b29, 0, none⟩ = some (.slice (some ⟨g, o, none⟩) z.length c) ∧ w.cell? ⟨g, o + i * 4 + 3, none⟩ = some (.bool sp)) (⟨hs.cell rfl, (hall (hs.pull 1)).2.2⟩) ?_
        refine x_want' rfl ?_
        refine h_load one_40 _ (.slice _ _ _) rfl (fun w hS => by first | exact hS.cell rfl | exact (hS.pull 1).cell rfl | exact (hS.pull 2).cell rfl | exact (hS.pull 3).cell rfl | exact (hS.pull 4).cell rfl | exact (hS.pull 5).cell rfl | exact (hS.pull 6).cell rfl | exact hS | exact hS.1 | exact hS.2 | exact hS.2.1 | exact hS.2.2 | exact hS.2.2.1 | exact hS.2.2.2 | exact hS.2.2.2.1 | exact hS.2.2.2.2) ?_
        refine x_want' rfl ?_
        refine x_move (.int _ _) rfl ?_
        refine x_want' rfl ?_
        refine x_indexAddr Try.underlying40 sz_47 _ _ _ _ _ rfl rfl (by omega) ?_
        refine x_want' rfl ?_
        first | refine x_field0 fa_47_2 _ rfl ?_ | refine x_field fa_47_2 _ _ rfl ?_
        refine x_want' rfl ?_
        refine h_load one_4 _ (.bool _) rfl (fun w hS => by first | exact hS.cell rfl | exact (hS.pull 1).cell rfl | exact (hS.pull 2).cell rfl | exact (hS.pull 3).cell rfl | exact (hS.pull 4).cell rfl | exact (hS.pull 5).cell rfl | exact (hS.pull 6).cell rfl | exact hS | exact hS.1 | exact hS.2 | exact hS.2.1 | exact hS.2.2 | exact hS.2.2.1 | exact hS.2.2.2 | exact hS.2.2.2.1 | exact hS.2.2.2.2) ?_
        refine x_want' rfl ?_
        refine x_neqB _ _ Try.underlying4 rfl rfl ?_
        refine x_pickF (.bool _) rfl rfl ?_
        refine x_nil ?_
        refine then_n ?_
        refine c_cond rfl (fun hb => ?_) (fun hb => ?_)   -- cond t261
        · skip
          refine c_seq ?_
          -- region 38
          refine c_region ?_
          refine x_assign (.bool _) rfl ?_
          refine x_nil ?_
          refine then_n ?_
          refine c_ret ?_
          refine inb_r ?_
          refine then_r ?_
          refine then_r ?_
          refine inb_r ?_
          refine then_r ?_
          refine ⟨.inr rfl, ?_⟩
          exact absurd hb (by simp)
        · skip
          refine c_skip ?_
          refine inb_n ?_
          refine then_n ?_
          -- region 35
          refine c_region ?_
          refine x_move (.int _ _) rfl ?_
          refine x_add _ _ rfl rfl (by simp only [X.lo]; omega) (by simp only [X.hi]; omega) ?_
          refine x_assign (.int _ _) rfl ?_
          refine x_nil ?_
          refine then_n ?_
          have hs := Sat.fobj' (hs.perm [0, 1, 2, 5, 6, 3, 4])
          rw [← hzz] at hs
          have hs := Sat.left (Ls := [FP f l, FR b29 l, Init w0]) (hs.perm [1, 0, 2])
          refine ⟨i + 1, ⟨rfl, rfl, rfl, trivial⟩, ⟨by omega, hs⟩, by first | omega | (dsimp only; omega)⟩
      · skip
        refine c_exit ?_
        refine then_x ?_
        refine then_x ?_
        refine inb_e ?_
        refine then_n ?_
        refine c_seq ?_
        -- region 39
        refine c_region ?_
        refine x_call Try.f6 Try.func6 rfl rfl _ rfl ?_
        refine (awake14_calls hs).mono ?_
        clear hs; rintro e w ⟨rfl, hs⟩
        refine ⟨_, rfl, fun h => (by first | (cases h; done) | (first | exact hs.cells2 rfl rfl | exact (hs.pull 1).cells2 rfl rfl | exact (hs.pull 2).cells2 rfl rfl | exact (hs.pull 3).cells2 rfl rfl | exact (hs.pull 4).cells2 rfl rfl | exact (hs.pull 5).cells2 rfl rfl | exact (hs.pull 6).cells2 rfl rfl | exact (hs.pull 7).cells2 rfl rfl | exact (hs.pull 8).cells2 rfl rfl | exact hs.cell rfl | exact (hs.pull 1).cell rfl | exact (hs.pull 2).cell rfl | exact (hs.pull 3).cell rfl | exact (hs.pull 4).cell rfl | exact (hs.pull 5).cell rfl | exact (hs.pull 6).cell rfl | exact (hs.pull 7).cell rfl | exact (hs.pull 8).cell rfl | assumption | exact hs.cellsOf | exact (hs.pull 1).cellsOf | exact (hs.pull 2).cellsOf | exact (hs.pull 3).cellsOf | exact (hs.pull 4).cellsOf | exact (hs.pull 5).cellsOf | exact (hs.pull 6).cellsOf | exact (hs.pull 7).cellsOf | exact (hs.pull 8).cellsOf) | (and_intros <;> first | exact hs.cells2 rfl rfl | exact (hs.pull 1).cells2 rfl rfl | exact (hs.pull 2).cells2 rfl rfl | exact (hs.pull 3).cells2 rfl rfl | exact (hs.pull 4).cells2 rfl rfl | exact (hs.pull 5).cells2 rfl rfl | exact (hs.pull 6).cells2 rfl rfl | exact (hs.pull 7).cells2 rfl rfl | exact (hs.pull 8).cells2 rfl rfl | exact hs.cell rfl | exact (hs.pull 1).cell rfl | exact (hs.pull 2).cell rfl | exact (hs.pull 3).cell rfl | exact (hs.pull 4).cell rfl | exact (hs.pull 5).cell rfl | exact (hs.pull 6).cell rfl | exact (hs.pull 7).cell rfl | exact (hs.pull 8).cell rfl | assumption | exact hs.cellsOf | exact (hs.pull 1).cellsOf | exact (hs.pull 2).cellsOf | exact (hs.pull 3).cellsOf | exact (hs.pull 4).cellsOf | exact (hs.pull 5).cellsOf | exact (hs.pull 6).cellsOf | exact (hs.pull 7).cellsOf | exact (hs.pull 8).cellsOf)), ?_⟩
        refine x_assign (.bool _) rfl ?_
        refine x_nil ?_
        refine then_n ?_
        refine c_ret ?_
        refine ⟨.inr rfl, ?_⟩
        exact ⟨rfl, hs.tail.tail⟩
end Go.Proofs.Ytipleepbhcembaa.X
