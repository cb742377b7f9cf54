/-
  LAYER 23, the reference: Next, Put, Finish.
-/
import Derived.Test.YtiffpkbkmpianaaInb6
namespace Go.Proofs.Ytiffpkbkmpianaa.X
open Go Go.RowKit
set_option linter.unusedVariables false
set_option maxRecDepth 20000
def fromOf (mem : List Pid) (dn : List Key) : Nat := match dn.getLast? with
  | none => 0
  | some k => mem.idxOf k.1 + 1
theorem fromOf_le {mem : List Pid} {dn : List Key} (h : ∀ k ∈ dn, k.1 ∈ mem) : fromOf mem dn ≤ mem.length := by
  unfold fromOf
  cases hl : dn.getLast? with
  | none => exact Nat.zero_le _
  | some k =>
    have := pix_lt (h k (List.mem_of_getLast? hl))
    dsimp only
    omega
theorem wget {k : Key} : ∀ {e : List WE}, k ∈ e.map (·.1) → ∃ v d, e[(e.map (·.1)).idxOf k]? = some (k, v, d) ∧ mget k e = some (v, d)
  | [], h => by simp at h
  | (a, v, d) :: e, h => by
    by_cases ha : a = k
    · subst ha
      refine ⟨v, d, ?_, by simp only [mget, if_pos]⟩
      rw [List.map_cons, List.idxOf_cons_self]
      rfl
    · have hm : k ∈ e.map (·.1) := by
        rcases List.mem_cons.1 h with h | h
        · exact absurd h.symm ha
        · exact h
      obtain ⟨v', d', h1, h2⟩ := wget hm
      refine ⟨v', d', ?_, by simp only [mget]; rw [if_neg (fun e => ha e.symm)]; exact h2⟩
      rw [List.map_cons, List.idxOf_cons, show (a == k) = false from by simpa using ha]
      simpa using h1
theorem mget_none' {k : Key} {e : List WE} (h : k ∉ e.map (·.1)) : mget k e = none := mget_none.2 h
/-- what it wants, told by keys and bytes -/
abbrev wsOf (e : List WE) : List (Key × List UInt8) := e.map fun x => (x.1, x.2.2)
theorem wsOf_get (e : List WE) (k : Key) : mget k (wsOf e) = (mget k e).map (·.2) := mget_map (fun x : Value × List UInt8 => x.2) k e
set_option maxHeartbeats 2000000 in
theorem rnext_calls {w0 w : World} {A : HP} {L : List HP} {f cm : Nat} {am : Option Addr} {e : List WE} {dn : List Key} {mem : List Pid} (hs : Sat w0 w (RI f (.slice am mem.length cm) e dn :: A :: L)) (hr : ∀ w' L', Sat w0 w' (A :: L') → RS w' 2 Pid.cells (.slice am mem.length cm) mem) (hm : mem.length ≤ 1000) (hl : e.length ≤ 1000000) (hdl : dn.length ≤ 1000000) (hd : ∀ k ∈ dn, k.1 ∈ mem) :
    Calls Try.prog 16 #[.pointer (some ⟨f, 0, none⟩)] w fun e' w' => ∃ r a c, r = nextR mem (rLast dn) (wsOf e) (fromOf mem dn) ∧ e' = .returned (.tuple #[.agg #[.int .u16 (r.p.Id : Nat), .int .u32 (r.p.Inc : Nat), .int .u64 (r.n : Nat), .slice a r.d.length c], .bool r.ok]) ∧ (∀ w' L', Sat w0 w' (RI f (.slice am mem.length cm) e dn :: L') → RB w' (.slice a r.d.length c) r.d) ∧ Sat w0 w' (RI f (.slice am mem.length cm) e dn :: A :: L) := by
  have hfl := fromOf_le hd
  refine enterC2 Try.func16 rfl Try.ntmps16 agg_54 2 3 rfl (Nat.le_of_ble_eq_true rfl) ?_
  refine c_seq ?_
  -- region 0
  refine c_region ?_
  refine x_alloc zi_54 hs ?_; clear hs; intro b2 w hs; refine ⟨fun h => (by first | (cases h; done) | (first | exact hs.cells2 rfl rfl | exact (hs.pull 1).cells2 rfl rfl | exact (hs.pull 2).cells2 rfl rfl | exact (hs.pull 3).cells2 rfl rfl | exact (hs.pull 4).cells2 rfl rfl | exact (hs.pull 5).cells2 rfl rfl | exact (hs.pull 6).cells2 rfl rfl | exact (hs.pull 7).cells2 rfl rfl | exact (hs.pull 8).cells2 rfl rfl | exact hs.cell rfl | exact (hs.pull 1).cell rfl | exact (hs.pull 2).cell rfl | exact (hs.pull 3).cell rfl | exact (hs.pull 4).cell rfl | exact (hs.pull 5).cell rfl | exact (hs.pull 6).cell rfl | exact (hs.pull 7).cell rfl | exact (hs.pull 8).cell rfl | assumption | exact hs.cellsOf | exact (hs.pull 1).cellsOf | exact (hs.pull 2).cellsOf | exact (hs.pull 3).cellsOf | exact (hs.pull 4).cellsOf | exact (hs.pull 5).cellsOf | exact (hs.pull 6).cellsOf | exact (hs.pull 7).cellsOf | exact (hs.pull 8).cellsOf) | (and_intros <;> first | exact hs.cells2 rfl rfl | exact (hs.pull 1).cells2 rfl rfl | exact (hs.pull 2).cells2 rfl rfl | exact (hs.pull 3).cells2 rfl rfl | exact (hs.pull 4).cells2 rfl rfl | exact (hs.pull 5).cells2 rfl rfl | exact (hs.pull 6).cells2 rfl rfl | exact (hs.pull 7).cells2 rfl rfl | exact (hs.pull 8).cells2 rfl rfl | exact hs.cell rfl | exact (hs.pull 1).cell rfl | exact (hs.pull 2).cell rfl | exact (hs.pull 3).cell rfl | exact (hs.pull 4).cell rfl | exact (hs.pull 5).cell rfl | exact (hs.pull 6).cell rfl | exact (hs.pull 7).cell rfl | exact (hs.pull 8).cell rfl | assumption | exact hs.cellsOf | exact (hs.pull 1).cellsOf | exact (hs.pull 2).cellsOf | exact (hs.pull 3).cellsOf | exact (hs.pull 4).cellsOf | exact (hs.pull 5).cellsOf | exact (hs.pull 6).cellsOf | exact (hs.pull 7).cellsOf | exact (hs.pull 8).cellsOf)), ?_⟩
  refine x_assign (.bool _) rfl ?_
  refine x_nil ?_
  refine then_n ?_
  refine c_seq ?_
  -- region 1
  obtain ⟨a, c, a', c', hs⟩ := (hs.pull 1).ri
  refine c_region ?_
  refine x_move (.pointer _) rfl ?_
  refine x_nilCheck _ rfl ?_
  first | refine x_field0 fa_52_0 _ rfl ?_ | refine x_field fa_52_0 _ _ rfl ?_
  refine x_load one_23 _ (.slice _ _ _) rfl (by first | exact hs.cell rfl | exact (hs.pull 1).cell rfl | exact (hs.pull 2).cell rfl | exact (hs.pull 3).cell rfl | assumption | exact (hs.pull 4).cell rfl | exact (hs.pull 5).cell rfl | exact (hs.pull 6).cell rfl | exact (hs.pull 7).cell rfl) ?_
  refine x_lenSl Try.underlying23 _ _ _ rfl ?_
  refine x_assign (.int _ _) rfl ?_
  refine x_nil ?_
  refine then_n ?_
  refine c_seq ?_
  -- region 2
  refine c_region ?_
  refine x_assign (.int _ _) rfl ?_
  refine x_nil ?_
  refine then_n ?_
  refine c_seqI (γ := Unit) (fun (_u : Unit) => [(0, .pointer (some ⟨f, 0, none⟩)), (2, .pointer (some ⟨b2, 0, none⟩)), (4, .int .i64 (mem.length : Nat)), (5, .int .i64 (fromOf mem dn : Nat))]) (fun (_u : Unit) w => Sat w0 w (RI f (.slice am mem.length cm) e dn :: A :: Blk b2 (.cells #[.int .u16 0, .int .u32 0, .int .u64 0, .slice none 0 0] 54 (0, 0)) :: L)) ?_ ?_
  · skip
    refine c_seq ?_
    -- region 3
    refine c_region ?_
    refine x_move (.pointer _) rfl ?_
    refine x_nilCheck _ rfl ?_
    first | refine x_field0 fa_52_2 _ rfl ?_ | refine x_field fa_52_2 _ _ rfl ?_
    refine x_load one_50 _ (.slice _ _ _) rfl (by first | exact hs.cell rfl | exact (hs.pull 1).cell rfl | exact (hs.pull 2).cell rfl | exact (hs.pull 3).cell rfl | assumption | exact (hs.pull 4).cell rfl | exact (hs.pull 5).cell rfl | exact (hs.pull 6).cell rfl | exact (hs.pull 7).cell rfl) ?_
    refine x_lenSl Try.underlying50 _ _ _ rfl ?_
    refine x_gtr _ _ rfl rfl ?_
    refine x_nil ?_
    refine then_n ?_
    refine c_test _ rfl (fun hb => ?_) (fun hb => ?_)   -- cond t19
    · skip
      -- region 4 DRAWS
      obtain ⟨k, hk⟩ : ∃ k, dn[dn.length - 1]? = some k := ⟨dn[dn.length - 1]'(by omega), List.getElem?_eq_getElem _⟩
      have hkm := hd k (List.mem_of_getElem? hk)
      have hfr : fromOf mem dn = mem.idxOf k.1 + 1 := by unfold fromOf; rw [List.getLast?_eq_getElem?, hk]
      obtain ⟨g, o, rfl⟩ := (hs.pull 2).rowAddr (by omega)
      refine c_draw (fun w => w.cell? ⟨f, 0, none⟩ = some (.slice am mem.length cm) ∧ w.cell? ⟨f, 2, none⟩ = some (.slice (some ⟨g, o, none⟩) dn.length c') ∧ (∀ (j : Nat) (u : Value), [Value.int .u16 (k.1.Id : Nat), Value.int .u32 (k.1.Inc : Nat)][j]? = some u → w.cell? ((⟨g, o + (dn.length - 1) * 4, none⟩ : Addr).add j) = some u)) (fun i => !(Nat.beq i 17)) [(0, 2), (1, 2), (2, 2), (3, 1), (4, 2), (5, 2), (6, 2), (7, 1), (8, 2), (9, 2), (10, 2), (11, 1), (12, 2), (13, 2), (14, 2), (15, 2), (16, 1), (17, 0), (18, 2), (19, 2)] (by kernel_rfl) (by kernel_rfl) (by kernel_rfl) (by kernel_rfl) (⟨hs.drew.cell rfl, hs.drew.cell rfl, (hs.drew.pull 2).drs.dP hk⟩) ?_
      replace hs := hs.drew
      refine x_move (.pointer _) rfl ?_
      refine x_nilCheck _ rfl ?_
      first | refine x_field0 fa_52_0 _ rfl ?_ | refine x_field fa_52_0 _ _ rfl ?_
      refine h_load one_23 _ (.slice _ _ _) rfl (fun w hS => by first | exact hS.cell rfl | exact (hS.pull 1).cell rfl | exact (hS.pull 2).cell rfl | exact (hS.pull 3).cell rfl | exact (hS.pull 4).cell rfl | exact (hS.pull 5).cell rfl | exact (hS.pull 6).cell rfl | exact hS | exact hS.1 | exact hS.2 | exact hS.2.1 | exact hS.2.2 | exact hS.2.2.1 | exact hS.2.2.2 | exact hS.2.2.2.1 | exact hS.2.2.2.2 | exact hS.2.2.2.2.1 | exact hS.2.2.2.2.2) ?_
      refine x_move (.pointer _) rfl ?_
      refine x_nilCheck _ rfl ?_
      first | refine x_field0 fa_52_2 _ rfl ?_ | refine x_field fa_52_2 _ _ rfl ?_
      refine h_load one_50 _ (.slice _ _ _) rfl (fun w hS => by first | exact hS.cell rfl | exact (hS.pull 1).cell rfl | exact (hS.pull 2).cell rfl | exact (hS.pull 3).cell rfl | exact (hS.pull 4).cell rfl | exact (hS.pull 5).cell rfl | exact (hS.pull 6).cell rfl | exact hS | exact hS.1 | exact hS.2 | exact hS.2.1 | exact hS.2.2 | exact hS.2.2.1 | exact hS.2.2.2 | exact hS.2.2.2.1 | exact hS.2.2.2.2 | exact hS.2.2.2.2.1 | exact hS.2.2.2.2.2) ?_
      refine x_move (.pointer _) rfl ?_
      refine x_nilCheck _ rfl ?_
      first | refine x_field0 fa_52_2 _ rfl ?_ | refine x_field fa_52_2 _ _ rfl ?_
      refine h_load one_50 _ (.slice _ _ _) rfl (fun w hS => by first | exact hS.cell rfl | exact (hS.pull 1).cell rfl | exact (hS.pull 2).cell rfl | exact (hS.pull 3).cell rfl | exact (hS.pull 4).cell rfl | exact (hS.pull 5).cell rfl | exact (hS.pull 6).cell rfl | exact hS | exact hS.1 | exact hS.2 | exact hS.2.1 | exact hS.2.2 | exact hS.2.2.1 | exact hS.2.2.2 | exact hS.2.2.2.1 | exact hS.2.2.2.2 | exact hS.2.2.2.2.1 | exact hS.2.2.2.2.2) ?_
      refine x_lenSl Try.underlying50 _ _ _ rfl ?_
      refine x_subN _ 1 rfl rfl (by omega) (by simp only [X.hi]; omega) ?_
      refine x_indexAddr Try.underlying50 sz_54 _ _ _ _ _ rfl rfl (by omega) ?_
      first | refine x_field0 fa_54_0 _ rfl ?_ | refine x_field fa_54_0 _ _ rfl ?_
      refine h_loadN [_, _] agg_35 _ rfl (fun w hS => by first | exact hS | exact hS.1 | exact hS.2 | exact hS.2.1 | exact hS.2.2 | exact hS.2.2.1 | exact hS.2.2.2 | exact hS.2.2.2.1 | exact hS.2.2.2.2 | exact hS.2.2.2.2.1 | exact hS.2.2.2.2.2 | exact hS.cellsOf | exact (hS.pull 1).cellsOf | exact (hS.pull 2).cellsOf | exact (hS.pull 3).cellsOf | exact (hS.pull 4).cellsOf | exact (hS.pull 5).cellsOf | exact (hS.pull 6).cellsOf | exact hS.cells2 rfl rfl | exact (hS.pull 1).cells2 rfl rfl | exact (hS.pull 2).cells2 rfl rfl | exact (hS.pull 3).cells2 rfl rfl | exact (hS.pull 4).cells2 rfl rfl | exact (hS.pull 5).cells2 rfl rfl | exact (hS.pull 6).cells2 rfl rfl) ?_
      refine x_call Try.f30 Try.func30 rfl rfl _ rfl ?_
      refine ((at08_calls k.1 (hs.pull 5) hr (by omega))).mono ?_
      clear hs; rintro e w ⟨rfl, hs⟩
      refine ⟨_, rfl, fun h => (by first | (cases h; done) | (first | exact hs.cells2 rfl rfl | exact (hs.pull 1).cells2 rfl rfl | exact (hs.pull 2).cells2 rfl rfl | exact (hs.pull 3).cells2 rfl rfl | exact (hs.pull 4).cells2 rfl rfl | exact (hs.pull 5).cells2 rfl rfl | exact (hs.pull 6).cells2 rfl rfl | exact (hs.pull 7).cells2 rfl rfl | exact (hs.pull 8).cells2 rfl rfl | exact hs.cell rfl | exact (hs.pull 1).cell rfl | exact (hs.pull 2).cell rfl | exact (hs.pull 3).cell rfl | exact (hs.pull 4).cell rfl | exact (hs.pull 5).cell rfl | exact (hs.pull 6).cell rfl | exact (hs.pull 7).cell rfl | exact (hs.pull 8).cell rfl | assumption | exact hs.cellsOf | exact (hs.pull 1).cellsOf | exact (hs.pull 2).cellsOf | exact (hs.pull 3).cellsOf | exact (hs.pull 4).cellsOf | exact (hs.pull 5).cellsOf | exact (hs.pull 6).cellsOf | exact (hs.pull 7).cellsOf | exact (hs.pull 8).cellsOf) | (and_intros <;> first | exact hs.cells2 rfl rfl | exact (hs.pull 1).cells2 rfl rfl | exact (hs.pull 2).cells2 rfl rfl | exact (hs.pull 3).cells2 rfl rfl | exact (hs.pull 4).cells2 rfl rfl | exact (hs.pull 5).cells2 rfl rfl | exact (hs.pull 6).cells2 rfl rfl | exact (hs.pull 7).cells2 rfl rfl | exact (hs.pull 8).cells2 rfl rfl | exact hs.cell rfl | exact (hs.pull 1).cell rfl | exact (hs.pull 2).cell rfl | exact (hs.pull 3).cell rfl | exact (hs.pull 4).cell rfl | exact (hs.pull 5).cell rfl | exact (hs.pull 6).cell rfl | exact (hs.pull 7).cell rfl | exact (hs.pull 8).cell rfl | assumption | exact hs.cellsOf | exact (hs.pull 1).cellsOf | exact (hs.pull 2).cellsOf | exact (hs.pull 3).cellsOf | exact (hs.pull 4).cellsOf | exact (hs.pull 5).cellsOf | exact (hs.pull 6).cellsOf | exact (hs.pull 7).cellsOf | exact (hs.pull 8).cellsOf)), ?_⟩
      rw [show pix mem k.1 = ((mem.idxOf k.1 : Nat) : Int) from by unfold pix; rw [if_pos hkm]]
      have hxl := pix_lt hkm
      refine x_add _ _ rfl rfl (by simp only [X.lo]; omega) (by simp only [X.hi]; omega) ?_
      refine x_assign (.int _ _) rfl ?_
      refine x_nil ?_
      refine then_n ?_
      rw [hfr]
      exact ⟨(), ⟨rfl, rfl, rfl, rfl, trivial⟩, (Sat.ri' (e := e) (dn := dn) (hs.perm [1, 2, 3, 4, 0, 5]))⟩
    · skip
      refine c_skip ?_
      refine then_n ?_
      have hdn0 : dn = [] := List.eq_nil_of_length_eq_zero (by omega)
      rw [show fromOf mem dn = 0 from by rw [hdn0]; rfl]
      exact ⟨(), ⟨rfl, rfl, rfl, rfl, trivial⟩, Sat.ri' (e := e) (dn := dn) (hs.perm [0, 1, 2, 3, 5, 4])⟩
  · skip
    clear hs
    rintro _u ρ w hs
    change CW Try.prog 72 _ _ (sets 72 [(0, .pointer (some ⟨f, 0, none⟩)), (2, .pointer (some ⟨b2, 0, none⟩)), (4, .int .i64 (mem.length : Nat)), (5, .int .i64 (fromOf mem dn : Nat))] ρ) w
    refine c_seq ?_
    refine c_seq ?_
    -- region 5
    refine c_region ?_
    refine x_assign (.int _ _) rfl ?_
    refine x_nil ?_
    refine then_n ?_
    refine c_block ?_
    refine c_loop (γ := Nat) (fun (i : Nat) => [(0, .pointer (some ⟨f, 0, none⟩)), (2, .pointer (some ⟨b2, 0, none⟩)), (4, .int .i64 (mem.length : Nat)), (5, .int .i64 (fromOf mem dn : Nat)), (6, .int .i64 (i : Nat))]) (fun (i : Nat) w => i ≤ mem.length ∧ (∀ j, j < i → mget (cand mem (rLast dn) (fromOf mem dn) j) (wsOf e) = none) ∧ Sat w0 w (RI f (.slice am mem.length cm) e dn :: A :: Blk b2 (.cells #[.int .u16 0, .int .u32 0, .int .u64 0, .slice none 0 0] 54 (0, 0)) :: L)) (fun (i : Nat) => mem.length - i) 0 ⟨rfl, rfl, rfl, rfl, rfl, trivial⟩ ⟨by omega, (fun j hj => by omega), hs⟩ ?_
    clear hs
    rintro i ρ w ⟨hi, hno, hs⟩
    change CW Try.prog 72 _ _ (sets 72 [(0, .pointer (some ⟨f, 0, none⟩)), (2, .pointer (some ⟨b2, 0, none⟩)), (4, .int .i64 (mem.length : Nat)), (5, .int .i64 (fromOf mem dn : Nat)), (6, .int .i64 (i : Nat))] ρ) w
    refine c_seq ?_
    refine c_seq ?_
    -- region 6
    refine c_region ?_
    refine x_move (.int _ _) rfl ?_
    refine x_move (.int _ _) rfl ?_
    refine x_lss _ _ rfl rfl ?_
    refine x_nil ?_
    refine then_n ?_
    refine c_test _ rfl (fun hb => ?_) (fun hb => ?_)   -- cond t41
    · skip
      refine c_skip ?_
      refine then_n ?_
      refine c_seq ?_
      refine c_block ?_
      refine c_seq ?_
      -- region 8 DRAWS
      have hlt : (fromOf mem dn + i) % mem.length < mem.length := Nat.mod_lt _ (by omega)
      obtain ⟨q, hq⟩ : ∃ q, mem[(fromOf mem dn + i) % mem.length]? = some q := ⟨_, List.getElem?_eq_getElem hlt⟩
      have hgq : mem.getD ((fromOf mem dn + i) % mem.length) ⟨0, 0⟩ = q := by rw [List.getD_eq_getElem?_getD, hq]; rfl
      have hcand : cand mem (rLast dn) (fromOf mem dn) i = (q, nx (rLast dn q)) := by unfold cand; rw [hgq]
      obtain ⟨g, o, rfl⟩ := (hr _ _ (hs.pull 1)).addr (by omega)
      have hqc : ∀ {w' L'}, Sat w0 w' (A :: L') → (∀ (j : Nat) (u : Value), [Value.int .u16 (q.Id : Nat), Value.int .u32 (q.Inc : Nat)][j]? = some u → w'.cell? ((⟨g, o + ((fromOf mem dn + i) % mem.length) * 2, none⟩ : Addr).add j) = some u) := fun h => (hr _ _ h).all (fun a => a.cells_len) hq
      obtain ⟨a, c, a', c', hs⟩ := hs.ri
      refine c_draw (fun w => w.cell? ⟨f, 0, none⟩ = some (.slice (some ⟨g, o, none⟩) mem.length cm) ∧ (∀ (j : Nat) (u : Value), [Value.int .u16 (q.Id : Nat), Value.int .u32 (q.Inc : Nat)][j]? = some u → w.cell? ((⟨g, o + ((fromOf mem dn + i) % mem.length) * 2, none⟩ : Addr).add j) = some u)) (fun i => !(Nat.beq i 12)) [(0, 2), (1, 2), (2, 2), (3, 1), (4, 2), (5, 2), (6, 2), (7, 2), (8, 2), (9, 2), (10, 1), (11, 0), (12, 0)] (by kernel_rfl) (by kernel_rfl) (by kernel_rfl) (by kernel_rfl) (⟨hs.drew.cell rfl, hqc (hs.drew.pull 4)⟩) ?_
      replace hs := hs.drew
      refine x_move (.pointer _) rfl ?_
      refine x_nilCheck _ rfl ?_
      first | refine x_field0 fa_52_0 _ rfl ?_ | refine x_field fa_52_0 _ _ rfl ?_
      refine h_load one_23 _ (.slice _ _ _) rfl (fun w hS => by first | exact hS.cell rfl | exact (hS.pull 1).cell rfl | exact (hS.pull 2).cell rfl | exact (hS.pull 3).cell rfl | exact (hS.pull 4).cell rfl | exact (hS.pull 5).cell rfl | exact (hS.pull 6).cell rfl | exact hS | exact hS.1 | exact hS.2 | exact hS.2.1 | exact hS.2.2 | exact hS.2.2.1 | exact hS.2.2.2 | exact hS.2.2.2.1 | exact hS.2.2.2.2 | exact hS.2.2.2.2.1 | exact hS.2.2.2.2.2) ?_
      refine x_move (.int _ _) rfl ?_
      refine x_move (.int _ _) rfl ?_
      refine x_add _ _ rfl rfl (by simp only [X.lo]; omega) (by simp only [X.hi]; omega) ?_
      refine x_move (.int _ _) rfl ?_
      refine x_remN (fromOf mem dn + i) mem.length (by omega) rfl rfl (by omega) ?_
      refine x_indexAddr Try.underlying23 sz_35 _ _ _ _ _ rfl rfl (by omega) ?_
      refine h_loadN [_, _] agg_35 _ rfl (fun w hS => by first | exact hS | exact hS.1 | exact hS.2 | exact hS.2.1 | exact hS.2.2 | exact hS.2.2.1 | exact hS.2.2.2 | exact hS.2.2.2.1 | exact hS.2.2.2.2 | exact hS.2.2.2.2.1 | exact hS.2.2.2.2.2 | exact hS.cellsOf | exact (hS.pull 1).cellsOf | exact (hS.pull 2).cellsOf | exact (hS.pull 3).cellsOf | exact (hS.pull 4).cellsOf | exact (hS.pull 5).cellsOf | exact (hS.pull 6).cellsOf | exact hS.cells2 rfl rfl | exact (hS.pull 1).cells2 rfl rfl | exact (hS.pull 2).cells2 rfl rfl | exact (hS.pull 3).cells2 rfl rfl | exact (hS.pull 4).cells2 rfl rfl | exact (hS.pull 5).cells2 rfl rfl | exact (hS.pull 6).cells2 rfl rfl) ?_
      refine x_alloc zi_35 hs ?_; clear hs; intro b7 w hs; refine ⟨fun h => (by first | (cases h; done) | exact ⟨(hs.pull 1).cell rfl, hqc (hs.pull 5)⟩), ?_⟩
      first
        | refine x_storeAllI hs 0 rfl rfl agg_35 [_, _] rfl rfl rfl rfl ?_
        | refine x_storeAllI hs 1 rfl rfl agg_35 [_, _] rfl rfl rfl rfl ?_
        | refine x_storeAllI hs 2 rfl rfl agg_35 [_, _] rfl rfl rfl rfl ?_
        | refine x_storeAllI hs 3 rfl rfl agg_35 [_, _] rfl rfl rfl rfl ?_
        | refine x_storeAllI hs 4 rfl rfl agg_35 [_, _] rfl rfl rfl rfl ?_
        | refine x_storeAllI hs 5 rfl rfl agg_35 [_, _] rfl rfl rfl rfl ?_
        | refine x_storeAllI hs 6 rfl rfl agg_35 [_, _] rfl rfl rfl rfl ?_
        | refine x_storeAllI hs 7 rfl rfl agg_35 [_, _] rfl rfl rfl rfl ?_
      clear hs; intro w hs
      try dsimp only [back, List.set_cons_zero, List.set_cons_succ] at hs
      refine ⟨fun h => (by first | (cases h; done) | exact ⟨(hs.pull 1).cell rfl, hqc (hs.pull 5)⟩), ?_⟩
      refine x_nil ?_
      refine then_n ?_
      refine c_seq ?_
      -- region 9 DRAWS
      replace hs := Sat.ri' (e := e) (dn := dn) (hs.perm [1, 2, 3, 4, 0])
      refine c_draw (fun w => (∀ (j : Nat) (u : Value), [Value.int .u16 (q.Id : Nat), Value.int .u32 (q.Inc : Nat)][j]? = some u → w.cell? ((⟨b7, 0, none⟩ : Addr).add j) = some u)) (fun i => !(Nat.beq i 6)) [(0, 2), (1, 1), (2, 2), (3, 1), (4, 0), (5, 2), (6, 0), (7, 2)] (by kernel_rfl) (by kernel_rfl) (by kernel_rfl) (by kernel_rfl) ((by first | (first | exact hs.cells2 rfl rfl | exact (hs.pull 1).cells2 rfl rfl | exact (hs.pull 2).cells2 rfl rfl | exact (hs.pull 3).cells2 rfl rfl | exact (hs.pull 4).cells2 rfl rfl | exact (hs.pull 5).cells2 rfl rfl | exact (hs.pull 6).cells2 rfl rfl | exact (hs.pull 7).cells2 rfl rfl | exact (hs.pull 8).cells2 rfl rfl | exact hs.cell rfl | exact (hs.pull 1).cell rfl | exact (hs.pull 2).cell rfl | exact (hs.pull 3).cell rfl | exact (hs.pull 4).cell rfl | exact (hs.pull 5).cell rfl | exact (hs.pull 6).cell rfl | exact (hs.pull 7).cell rfl | exact (hs.pull 8).cell rfl | assumption | exact hs.cellsOf | exact (hs.pull 1).cellsOf | exact (hs.pull 2).cellsOf | exact (hs.pull 3).cellsOf | exact (hs.pull 4).cellsOf | exact (hs.pull 5).cellsOf | exact (hs.pull 6).cellsOf | exact (hs.pull 7).cellsOf | exact (hs.pull 8).cellsOf) | (and_intros <;> first | exact hs.cells2 rfl rfl | exact (hs.pull 1).cells2 rfl rfl | exact (hs.pull 2).cells2 rfl rfl | exact (hs.pull 3).cells2 rfl rfl | exact (hs.pull 4).cells2 rfl rfl | exact (hs.pull 5).cells2 rfl rfl | exact (hs.pull 6).cells2 rfl rfl | exact (hs.pull 7).cells2 rfl rfl | exact (hs.pull 8).cells2 rfl rfl | exact hs.cell rfl | exact (hs.pull 1).cell rfl | exact (hs.pull 2).cell rfl | exact (hs.pull 3).cell rfl | exact (hs.pull 4).cell rfl | exact (hs.pull 5).cell rfl | exact (hs.pull 6).cell rfl | exact (hs.pull 7).cell rfl | exact (hs.pull 8).cell rfl | assumption | exact hs.cellsOf | exact (hs.pull 1).cellsOf | exact (hs.pull 2).cellsOf | exact (hs.pull 3).cellsOf | exact (hs.pull 4).cellsOf | exact (hs.pull 5).cellsOf | exact (hs.pull 6).cellsOf | exact (hs.pull 7).cellsOf | exact (hs.pull 8).cellsOf))) ?_
      replace hs := hs.drew
      refine x_move (.pointer _) rfl ?_
      refine h_loadN [_, _] agg_35 _ rfl (fun w hS => by first | exact hS | exact hS.1 | exact hS.2 | exact hS.2.1 | exact hS.2.2 | exact hS.2.2.1 | exact hS.2.2.2 | exact hS.2.2.2.1 | exact hS.2.2.2.2 | exact hS.2.2.2.2.1 | exact hS.2.2.2.2.2 | exact hS.cellsOf | exact (hS.pull 1).cellsOf | exact (hS.pull 2).cellsOf | exact (hS.pull 3).cellsOf | exact (hS.pull 4).cellsOf | exact (hS.pull 5).cellsOf | exact (hS.pull 6).cellsOf | exact hS.cells2 rfl rfl | exact (hS.pull 1).cells2 rfl rfl | exact (hS.pull 2).cells2 rfl rfl | exact (hS.pull 3).cells2 rfl rfl | exact (hS.pull 4).cells2 rfl rfl | exact (hS.pull 5).cells2 rfl rfl | exact (hS.pull 6).cells2 rfl rfl) ?_
      refine x_move (.pointer _) rfl ?_
      refine h_loadN [_, _] agg_35 _ rfl (fun w hS => by first | exact hS | exact hS.1 | exact hS.2 | exact hS.2.1 | exact hS.2.2 | exact hS.2.2.1 | exact hS.2.2.2 | exact hS.2.2.2.1 | exact hS.2.2.2.2 | exact hS.2.2.2.2.1 | exact hS.2.2.2.2.2 | exact hS.cellsOf | exact (hS.pull 1).cellsOf | exact (hS.pull 2).cellsOf | exact (hS.pull 3).cellsOf | exact (hS.pull 4).cellsOf | exact (hS.pull 5).cellsOf | exact (hS.pull 6).cellsOf | exact hS.cells2 rfl rfl | exact (hS.pull 1).cells2 rfl rfl | exact (hS.pull 2).cells2 rfl rfl | exact (hS.pull 3).cells2 rfl rfl | exact (hS.pull 4).cells2 rfl rfl | exact (hS.pull 5).cells2 rfl rfl | exact (hS.pull 6).cells2 rfl rfl) ?_
      refine x_call Try.f21 Try.func21 rfl rfl _ rfl ?_
      refine ((rlast_calls q hs hdl)).mono ?_
      clear hs; rintro e w ⟨rfl, hs⟩
      refine ⟨_, rfl, fun h => (by first | (cases h; done) | (first | exact hs.cells2 rfl rfl | exact (hs.pull 1).cells2 rfl rfl | exact (hs.pull 2).cells2 rfl rfl | exact (hs.pull 3).cells2 rfl rfl | exact (hs.pull 4).cells2 rfl rfl | exact (hs.pull 5).cells2 rfl rfl | exact (hs.pull 6).cells2 rfl rfl | exact (hs.pull 7).cells2 rfl rfl | exact (hs.pull 8).cells2 rfl rfl | exact hs.cell rfl | exact (hs.pull 1).cell rfl | exact (hs.pull 2).cell rfl | exact (hs.pull 3).cell rfl | exact (hs.pull 4).cell rfl | exact (hs.pull 5).cell rfl | exact (hs.pull 6).cell rfl | exact (hs.pull 7).cell rfl | exact (hs.pull 8).cell rfl | assumption | exact hs.cellsOf | exact (hs.pull 1).cellsOf | exact (hs.pull 2).cellsOf | exact (hs.pull 3).cellsOf | exact (hs.pull 4).cellsOf | exact (hs.pull 5).cellsOf | exact (hs.pull 6).cellsOf | exact (hs.pull 7).cellsOf | exact (hs.pull 8).cellsOf) | (and_intros <;> first | exact hs.cells2 rfl rfl | exact (hs.pull 1).cells2 rfl rfl | exact (hs.pull 2).cells2 rfl rfl | exact (hs.pull 3).cells2 rfl rfl | exact (hs.pull 4).cells2 rfl rfl | exact (hs.pull 5).cells2 rfl rfl | exact (hs.pull 6).cells2 rfl rfl | exact (hs.pull 7).cells2 rfl rfl | exact (hs.pull 8).cells2 rfl rfl | exact hs.cell rfl | exact (hs.pull 1).cell rfl | exact (hs.pull 2).cell rfl | exact (hs.pull 3).cell rfl | exact (hs.pull 4).cell rfl | exact (hs.pull 5).cell rfl | exact (hs.pull 6).cell rfl | exact (hs.pull 7).cell rfl | exact (hs.pull 8).cell rfl | assumption | exact hs.cellsOf | exact (hs.pull 1).cellsOf | exact (hs.pull 2).cellsOf | exact (hs.pull 3).cellsOf | exact (hs.pull 4).cellsOf | exact (hs.pull 5).cellsOf | exact (hs.pull 6).cellsOf | exact (hs.pull 7).cellsOf | exact (hs.pull 8).cellsOf)), ?_⟩
      refine x_add64 _ 1 rfl rfl ?_
      refine x_call Try.f31 Try.func31 rfl rfl _ rfl ?_
      refine ((rfind_calls q (nx (rLast dn q)) hs hl)).mono ?_
      clear hs; rintro e w ⟨rfl, hs⟩
      refine ⟨_, rfl, fun h => (by first | (cases h; done) | (first | exact hs.cells2 rfl rfl | exact (hs.pull 1).cells2 rfl rfl | exact (hs.pull 2).cells2 rfl rfl | exact (hs.pull 3).cells2 rfl rfl | exact (hs.pull 4).cells2 rfl rfl | exact (hs.pull 5).cells2 rfl rfl | exact (hs.pull 6).cells2 rfl rfl | exact (hs.pull 7).cells2 rfl rfl | exact (hs.pull 8).cells2 rfl rfl | exact hs.cell rfl | exact (hs.pull 1).cell rfl | exact (hs.pull 2).cell rfl | exact (hs.pull 3).cell rfl | exact (hs.pull 4).cell rfl | exact (hs.pull 5).cell rfl | exact (hs.pull 6).cell rfl | exact (hs.pull 7).cell rfl | exact (hs.pull 8).cell rfl | assumption | exact hs.cellsOf | exact (hs.pull 1).cellsOf | exact (hs.pull 2).cellsOf | exact (hs.pull 3).cellsOf | exact (hs.pull 4).cellsOf | exact (hs.pull 5).cellsOf | exact (hs.pull 6).cellsOf | exact (hs.pull 7).cellsOf | exact (hs.pull 8).cellsOf) | (and_intros <;> first | exact hs.cells2 rfl rfl | exact (hs.pull 1).cells2 rfl rfl | exact (hs.pull 2).cells2 rfl rfl | exact (hs.pull 3).cells2 rfl rfl | exact (hs.pull 4).cells2 rfl rfl | exact (hs.pull 5).cells2 rfl rfl | exact (hs.pull 6).cells2 rfl rfl | exact (hs.pull 7).cells2 rfl rfl | exact (hs.pull 8).cells2 rfl rfl | exact hs.cell rfl | exact (hs.pull 1).cell rfl | exact (hs.pull 2).cell rfl | exact (hs.pull 3).cell rfl | exact (hs.pull 4).cell rfl | exact (hs.pull 5).cell rfl | exact (hs.pull 6).cell rfl | exact (hs.pull 7).cell rfl | exact (hs.pull 8).cell rfl | assumption | exact hs.cellsOf | exact (hs.pull 1).cellsOf | exact (hs.pull 2).cellsOf | exact (hs.pull 3).cellsOf | exact (hs.pull 4).cellsOf | exact (hs.pull 5).cellsOf | exact (hs.pull 6).cellsOf | exact (hs.pull 7).cellsOf | exact (hs.pull 8).cellsOf)), ?_⟩
      have hwf : -1 ≤ wfind e (q, nx (rLast dn q)) := by unfold wfind; split <;> omega
      refine x_assign (.int _ _) rfl ?_
      refine x_nil ?_
      refine then_n ?_
      refine c_seq ?_
      -- region 10
      refine c_region ?_
      refine x_move (.int _ _) rfl ?_
      refine x_geq _ _ rfl rfl ?_
      refine x_nil ?_
      refine then_n ?_
      refine c_test _ rfl (fun hb => ?_) (fun hb => ?_)   -- cond t63
      · skip
        refine c_seq ?_
        -- region 11
        have hmem : (q, nx (rLast dn q)) ∈ e.map (·.1) := by
          by_cases hh : (q, nx (rLast dn q)) ∈ e.map (·.1)
          · exact hh
          · rw [show wfind e (q, nx (rLast dn q)) = -1 from if_neg hh] at hb; omega
        obtain ⟨v, d, he1, he2⟩ := wget hmem
        have hil := (List.getElem?_eq_some_iff.1 he1).1
        rw [show wfind e (q, nx (rLast dn q)) = (((e.map (·.1)).idxOf (q, nx (rLast dn q)) : Nat) : Int) from if_pos hmem]
        obtain ⟨a, c, a', c', hs⟩ := hs.ri
        obtain ⟨av, cv, rfl⟩ := ((hs.pull 3).eeRB he2).val
        obtain ⟨g2, o2, rfl⟩ := (hs.pull 1).rowAddr (by omega)
        have hcw := (hs.pull 1).wrs.all wcell_len he1
        refine c_region ?_
        refine x_move (.pointer _) rfl ?_
        refine x_nilCheck _ rfl ?_
        first | refine x_field0 fa_52_1 _ rfl ?_ | refine x_field fa_52_1 _ _ rfl ?_
        refine x_load one_50 _ (.slice _ _ _) rfl (by first | exact hs.cell rfl | exact (hs.pull 1).cell rfl | exact (hs.pull 2).cell rfl | exact (hs.pull 3).cell rfl | assumption | exact (hs.pull 4).cell rfl | exact (hs.pull 5).cell rfl | exact (hs.pull 6).cell rfl | exact (hs.pull 7).cell rfl) ?_
        refine x_move (.int _ _) rfl ?_
        refine x_indexAddr Try.underlying50 sz_54 _ _ _ _ _ rfl rfl (by omega) ?_
        refine x_loadN [.int .u16 (q.Id : Nat), .int .u32 (q.Inc : Nat), .int .u64 (nx (rLast dn q) : Nat), .slice av d.length cv] agg_54 _ rfl hcw ?_
        first
          | refine x_storeAllI hs 0 rfl rfl agg_54 [_, _, _, _] rfl rfl rfl rfl ?_
          | refine x_storeAllI hs 1 rfl rfl agg_54 [_, _, _, _] rfl rfl rfl rfl ?_
          | refine x_storeAllI hs 2 rfl rfl agg_54 [_, _, _, _] rfl rfl rfl rfl ?_
          | refine x_storeAllI hs 3 rfl rfl agg_54 [_, _, _, _] rfl rfl rfl rfl ?_
          | refine x_storeAllI hs 4 rfl rfl agg_54 [_, _, _, _] rfl rfl rfl rfl ?_
          | refine x_storeAllI hs 5 rfl rfl agg_54 [_, _, _, _] rfl rfl rfl rfl ?_
          | refine x_storeAllI hs 6 rfl rfl agg_54 [_, _, _, _] rfl rfl rfl rfl ?_
          | refine x_storeAllI hs 7 rfl rfl agg_54 [_, _, _, _] rfl rfl rfl rfl ?_
        clear hs; intro w hs
        try dsimp only [back, List.set_cons_zero, List.set_cons_succ] at hs
        refine ⟨fun h => (by first | (cases h; done) | (first | exact hs.cells2 rfl rfl | exact (hs.pull 1).cells2 rfl rfl | exact (hs.pull 2).cells2 rfl rfl | exact (hs.pull 3).cells2 rfl rfl | exact (hs.pull 4).cells2 rfl rfl | exact (hs.pull 5).cells2 rfl rfl | exact (hs.pull 6).cells2 rfl rfl | exact (hs.pull 7).cells2 rfl rfl | exact (hs.pull 8).cells2 rfl rfl | exact hs.cell rfl | exact (hs.pull 1).cell rfl | exact (hs.pull 2).cell rfl | exact (hs.pull 3).cell rfl | exact (hs.pull 4).cell rfl | exact (hs.pull 5).cell rfl | exact (hs.pull 6).cell rfl | exact (hs.pull 7).cell rfl | exact (hs.pull 8).cell rfl | assumption | exact hs.cellsOf | exact (hs.pull 1).cellsOf | exact (hs.pull 2).cellsOf | exact (hs.pull 3).cellsOf | exact (hs.pull 4).cellsOf | exact (hs.pull 5).cellsOf | exact (hs.pull 6).cellsOf | exact (hs.pull 7).cellsOf | exact (hs.pull 8).cellsOf) | (and_intros <;> first | exact hs.cells2 rfl rfl | exact (hs.pull 1).cells2 rfl rfl | exact (hs.pull 2).cells2 rfl rfl | exact (hs.pull 3).cells2 rfl rfl | exact (hs.pull 4).cells2 rfl rfl | exact (hs.pull 5).cells2 rfl rfl | exact (hs.pull 6).cells2 rfl rfl | exact (hs.pull 7).cells2 rfl rfl | exact (hs.pull 8).cells2 rfl rfl | exact hs.cell rfl | exact (hs.pull 1).cell rfl | exact (hs.pull 2).cell rfl | exact (hs.pull 3).cell rfl | exact (hs.pull 4).cell rfl | exact (hs.pull 5).cell rfl | exact (hs.pull 6).cell rfl | exact (hs.pull 7).cell rfl | exact (hs.pull 8).cell rfl | assumption | exact hs.cellsOf | exact (hs.pull 1).cellsOf | exact (hs.pull 2).cellsOf | exact (hs.pull 3).cellsOf | exact (hs.pull 4).cellsOf | exact (hs.pull 5).cellsOf | exact (hs.pull 6).cellsOf | exact (hs.pull 7).cellsOf | exact (hs.pull 8).cellsOf)), ?_⟩
        refine x_assign (.bool _) rfl ?_
        refine x_nil ?_
        refine then_n ?_
        refine c_ret ?_
        refine inb_r ?_
        refine then_r ?_
        refine then_r ?_
        refine inb_r ?_
        refine then_r ?_
        refine ⟨.inr rfl, ?_⟩
        have hrr := nextR_some (ws := wsOf e) (d := d) (turn := fromOf mem dn) (mem := mem) (A := rLast dn) (by omega) hno (by rw [hcand, wsOf_get, he2]; rfl)
        rw [hcand] at hrr
        exact ⟨b2, [.int .u16 (q.Id : Nat), .int .u32 (q.Inc : Nat), .int .u64 (nx (rLast dn q) : Nat), .slice av d.length cv], rfl, rfl, (hs.pull 6).cellsAt, _, av, cv, hrr.symm, rfl, (fun w' L' h => by obtain ⟨_, _, _, _, h⟩ := h.ri; exact (h.pull 3).eeRB he2), Sat.ri' (hs.sel [0, 1, 2, 3, 5] 7)⟩
      · skip
        refine c_skip ?_
        refine inb_n ?_
        refine then_n ?_
        -- region 7
        refine c_region ?_
        refine x_move (.int _ _) rfl ?_
        refine x_add _ _ rfl rfl (by simp only [X.lo]; omega) (by simp only [X.hi]; omega) ?_
        refine x_assign (.int _ _) rfl ?_
        refine x_nil ?_
        refine then_n ?_
        have hwn : (q, nx (rLast dn q)) ∉ e.map (·.1) := fun hh => by
          rw [show wfind e (q, nx (rLast dn q)) = (((e.map (·.1)).idxOf (q, nx (rLast dn q)) : Nat) : Int) from if_pos hh] at hb; omega
        have hno' : ∀ j, j < i + 1 → mget (cand mem (rLast dn) (fromOf mem dn) j) (wsOf e) = none := fun j hj => by
          by_cases hji : j < i
          · exact hno j hji
          · obtain rfl : j = i := by omega
            rw [hcand, wsOf_get, mget_none' hwn]; rfl
        refine ⟨i + 1, ⟨rfl, rfl, rfl, rfl, rfl, trivial⟩, ⟨by omega, hno', hs.sel [0, 2, 3] 4⟩, by first | omega | (dsimp only; omega)⟩
    · skip
      refine c_exit ?_
      refine then_x ?_
      refine then_x ?_
      refine inb_e ?_
      refine then_n ?_
      refine c_seq ?_
      -- region 12
      refine c_region ?_
      refine x_build _ [] rfl (fun w => bd_54 w) ?_
      first
        | refine x_storeAllI hs 0 rfl rfl agg_54 [_, _, _, _] rfl rfl rfl rfl ?_
        | refine x_storeAllI hs 1 rfl rfl agg_54 [_, _, _, _] rfl rfl rfl rfl ?_
        | refine x_storeAllI hs 2 rfl rfl agg_54 [_, _, _, _] rfl rfl rfl rfl ?_
        | refine x_storeAllI hs 3 rfl rfl agg_54 [_, _, _, _] rfl rfl rfl rfl ?_
        | refine x_storeAllI hs 4 rfl rfl agg_54 [_, _, _, _] rfl rfl rfl rfl ?_
        | refine x_storeAllI hs 5 rfl rfl agg_54 [_, _, _, _] rfl rfl rfl rfl ?_
        | refine x_storeAllI hs 6 rfl rfl agg_54 [_, _, _, _] rfl rfl rfl rfl ?_
        | refine x_storeAllI hs 7 rfl rfl agg_54 [_, _, _, _] rfl rfl rfl rfl ?_
      clear hs; intro w hs
      try dsimp only [back, List.set_cons_zero, List.set_cons_succ] at hs
      refine ⟨fun h => (by first | (cases h; done) | (first | exact hs.cells2 rfl rfl | exact (hs.pull 1).cells2 rfl rfl | exact (hs.pull 2).cells2 rfl rfl | exact (hs.pull 3).cells2 rfl rfl | exact (hs.pull 4).cells2 rfl rfl | exact (hs.pull 5).cells2 rfl rfl | exact (hs.pull 6).cells2 rfl rfl | exact (hs.pull 7).cells2 rfl rfl | exact (hs.pull 8).cells2 rfl rfl | exact hs.cell rfl | exact (hs.pull 1).cell rfl | exact (hs.pull 2).cell rfl | exact (hs.pull 3).cell rfl | exact (hs.pull 4).cell rfl | exact (hs.pull 5).cell rfl | exact (hs.pull 6).cell rfl | exact (hs.pull 7).cell rfl | exact (hs.pull 8).cell rfl | assumption | exact hs.cellsOf | exact (hs.pull 1).cellsOf | exact (hs.pull 2).cellsOf | exact (hs.pull 3).cellsOf | exact (hs.pull 4).cellsOf | exact (hs.pull 5).cellsOf | exact (hs.pull 6).cellsOf | exact (hs.pull 7).cellsOf | exact (hs.pull 8).cellsOf) | (and_intros <;> first | exact hs.cells2 rfl rfl | exact (hs.pull 1).cells2 rfl rfl | exact (hs.pull 2).cells2 rfl rfl | exact (hs.pull 3).cells2 rfl rfl | exact (hs.pull 4).cells2 rfl rfl | exact (hs.pull 5).cells2 rfl rfl | exact (hs.pull 6).cells2 rfl rfl | exact (hs.pull 7).cells2 rfl rfl | exact (hs.pull 8).cells2 rfl rfl | exact hs.cell rfl | exact (hs.pull 1).cell rfl | exact (hs.pull 2).cell rfl | exact (hs.pull 3).cell rfl | exact (hs.pull 4).cell rfl | exact (hs.pull 5).cell rfl | exact (hs.pull 6).cell rfl | exact (hs.pull 7).cell rfl | exact (hs.pull 8).cell rfl | assumption | exact hs.cellsOf | exact (hs.pull 1).cellsOf | exact (hs.pull 2).cellsOf | exact (hs.pull 3).cellsOf | exact (hs.pull 4).cellsOf | exact (hs.pull 5).cellsOf | exact (hs.pull 6).cellsOf | exact (hs.pull 7).cellsOf | exact (hs.pull 8).cellsOf)), ?_⟩
      refine x_assign (.bool _) rfl ?_
      refine x_nil ?_
      refine then_n ?_
      refine c_ret ?_
      refine ⟨.inr rfl, ?_⟩
      have hrr := nextR_none (ws := wsOf e) (turn := fromOf mem dn) (mem := mem) (A := rLast dn) (fun j hj => hno j (by omega))
      exact ⟨b2, [.int .u16 0, .int .u32 0, .int .u64 0, .slice none 0 0], rfl, rfl, (hs.pull 2).cellsAt, _, none, 0, hrr.symm, rfl, (fun w' L' h => RBnil w'), hs.sel [0, 1] 3⟩
/-! ### Put -/
def rputC (mem : List Pid) (e : List WE) (dn : List Key) (p : Pid) (n : Nat) (d : List UInt8) : Nat := if p ∉ mem then 15 else if 200 < d.length then 14 else if n ≤ rLast dn p then 10 else if 6 < n - rLast dn p then 11 else if (p, n) ∈ e.map (·.1) then 9 else 0
set_option maxHeartbeats 2000000 in
theorem rput_calls {w0 w : World} {A : HP} {L : List HP} {f cm : Nat} {am : Option Addr} {e : List WE} {dn : List Key} {mem : List Pid} (p : Pid) (n : Nat) {v : Value} {d : List UInt8} (hs : Sat w0 w (RI f (.slice am mem.length cm) e dn :: A :: L)) (hr : ∀ w' L', Sat w0 w' (A :: L') → RS w' 2 Pid.cells (.slice am mem.length cm) mem) (hdt : ∀ w' L', Sat w0 w' (A :: L') → RB w' v d) (hm : mem.length ≤ 1000) (hl : e.length ≤ 900000) (hdl : dn.length ≤ 1000000) (hl2 : d.length ≤ 1000000) (hn64 : n ≤ 18446744073709551615) :
    Calls Try.prog 18 #[.pointer (some ⟨f, 0, none⟩), .agg #[.int .u16 (p.Id : Nat), .int .u32 (p.Inc : Nat)], .int .u64 (n : Nat), v] w fun e' w' => ∃ u, e' = .returned (.int .i64 (rputC mem e dn p n d : Nat)) ∧ Sat w0 w' (RI f (.slice am mem.length cm) (if rputC mem e dn p n d = 0 then e ++ [((p, n), u, d)] else e) dn :: A :: L) := by
  obtain ⟨ad, cd, rfl⟩ := (hdt _ _ (hs.pull 1)).val
  by_cases hp : p ∈ mem
  rotate_left
  · have hc : rputC mem e dn p n d = 15 := if_pos hp
    simp only [hc, if_neg (show ¬ (15 : Nat) = 0 by decide)]
    obtain ⟨a, c, a', c', hs⟩ := hs.ri
    refine enter Try.func18 rfl Try.ntmps18 8 rfl (Nat.le_of_ble_eq_true rfl) ?_
    refine c_seq ?_
    -- region 0
    refine c_region ?_
    refine x_box hs (.agg #[_, _]) rfl ?_; clear hs; intro b5 w hs; refine ⟨fun h => (by first | (cases h; done) | (first | exact hs.cells2 rfl rfl | exact (hs.pull 1).cells2 rfl rfl | exact (hs.pull 2).cells2 rfl rfl | exact (hs.pull 3).cells2 rfl rfl | exact (hs.pull 4).cells2 rfl rfl | exact (hs.pull 5).cells2 rfl rfl | exact (hs.pull 6).cells2 rfl rfl | exact (hs.pull 7).cells2 rfl rfl | exact (hs.pull 8).cells2 rfl rfl | exact hs.cell rfl | exact (hs.pull 1).cell rfl | exact (hs.pull 2).cell rfl | exact (hs.pull 3).cell rfl | exact (hs.pull 4).cell rfl | exact (hs.pull 5).cell rfl | exact (hs.pull 6).cell rfl | exact (hs.pull 7).cell rfl | exact (hs.pull 8).cell rfl | assumption | exact hs.cellsOf | exact (hs.pull 1).cellsOf | exact (hs.pull 2).cellsOf | exact (hs.pull 3).cellsOf | exact (hs.pull 4).cellsOf | exact (hs.pull 5).cellsOf | exact (hs.pull 6).cellsOf | exact (hs.pull 7).cellsOf | exact (hs.pull 8).cellsOf) | (and_intros <;> first | exact hs.cells2 rfl rfl | exact (hs.pull 1).cells2 rfl rfl | exact (hs.pull 2).cells2 rfl rfl | exact (hs.pull 3).cells2 rfl rfl | exact (hs.pull 4).cells2 rfl rfl | exact (hs.pull 5).cells2 rfl rfl | exact (hs.pull 6).cells2 rfl rfl | exact (hs.pull 7).cells2 rfl rfl | exact (hs.pull 8).cells2 rfl rfl | exact hs.cell rfl | exact (hs.pull 1).cell rfl | exact (hs.pull 2).cell rfl | exact (hs.pull 3).cell rfl | exact (hs.pull 4).cell rfl | exact (hs.pull 5).cell rfl | exact (hs.pull 6).cell rfl | exact (hs.pull 7).cell rfl | exact (hs.pull 8).cell rfl | assumption | exact hs.cellsOf | exact (hs.pull 1).cellsOf | exact (hs.pull 2).cellsOf | exact (hs.pull 3).cellsOf | exact (hs.pull 4).cellsOf | exact (hs.pull 5).cellsOf | exact (hs.pull 6).cellsOf | exact (hs.pull 7).cellsOf | exact (hs.pull 8).cellsOf)), ?_⟩
    refine x_assign (.int _ _) rfl ?_
    refine x_nil ?_
    refine then_n ?_
    refine c_seq ?_
    refine c_block ?_
    refine c_seq ?_
    -- region 1 DRAWS
    refine c_draw (fun w => (∀ (j : Nat) (u : Value), [Value.int .u16 (p.Id : Nat), Value.int .u32 (p.Inc : Nat)][j]? = some u → w.cell? ((⟨b5, 0, none⟩ : Addr).add j) = some u) ∧ w.cell? ⟨f, 0, none⟩ = some (.slice am mem.length cm)) (fun i => !(Nat.beq i 5)) [(0, 2), (1, 2), (2, 2), (3, 1), (4, 1), (5, 0), (6, 2), (7, 2)] (by kernel_rfl) (by kernel_rfl) (by kernel_rfl) (by kernel_rfl) ((by first | (first | exact hs.cells2 rfl rfl | exact (hs.pull 1).cells2 rfl rfl | exact (hs.pull 2).cells2 rfl rfl | exact (hs.pull 3).cells2 rfl rfl | exact (hs.pull 4).cells2 rfl rfl | exact (hs.pull 5).cells2 rfl rfl | exact (hs.pull 6).cells2 rfl rfl | exact (hs.pull 7).cells2 rfl rfl | exact (hs.pull 8).cells2 rfl rfl | exact hs.cell rfl | exact (hs.pull 1).cell rfl | exact (hs.pull 2).cell rfl | exact (hs.pull 3).cell rfl | exact (hs.pull 4).cell rfl | exact (hs.pull 5).cell rfl | exact (hs.pull 6).cell rfl | exact (hs.pull 7).cell rfl | exact (hs.pull 8).cell rfl | assumption | exact hs.cellsOf | exact (hs.pull 1).cellsOf | exact (hs.pull 2).cellsOf | exact (hs.pull 3).cellsOf | exact (hs.pull 4).cellsOf | exact (hs.pull 5).cellsOf | exact (hs.pull 6).cellsOf | exact (hs.pull 7).cellsOf | exact (hs.pull 8).cellsOf) | (and_intros <;> first | exact hs.cells2 rfl rfl | exact (hs.pull 1).cells2 rfl rfl | exact (hs.pull 2).cells2 rfl rfl | exact (hs.pull 3).cells2 rfl rfl | exact (hs.pull 4).cells2 rfl rfl | exact (hs.pull 5).cells2 rfl rfl | exact (hs.pull 6).cells2 rfl rfl | exact (hs.pull 7).cells2 rfl rfl | exact (hs.pull 8).cells2 rfl rfl | exact hs.cell rfl | exact (hs.pull 1).cell rfl | exact (hs.pull 2).cell rfl | exact (hs.pull 3).cell rfl | exact (hs.pull 4).cell rfl | exact (hs.pull 5).cell rfl | exact (hs.pull 6).cell rfl | exact (hs.pull 7).cell rfl | exact (hs.pull 8).cell rfl | assumption | exact hs.cellsOf | exact (hs.pull 1).cellsOf | exact (hs.pull 2).cellsOf | exact (hs.pull 3).cellsOf | exact (hs.pull 4).cellsOf | exact (hs.pull 5).cellsOf | exact (hs.pull 6).cellsOf | exact (hs.pull 7).cellsOf | exact (hs.pull 8).cellsOf))) ?_
    replace hs := hs.drew
    refine x_move (.pointer _) rfl ?_
    refine x_nilCheck _ rfl ?_
    first | refine x_field0 fa_52_0 _ rfl ?_ | refine x_field fa_52_0 _ _ rfl ?_
    refine h_load one_23 _ (.slice _ _ _) rfl (fun w hS => by first | exact hS.cell rfl | exact (hS.pull 1).cell rfl | exact (hS.pull 2).cell rfl | exact (hS.pull 3).cell rfl | exact (hS.pull 4).cell rfl | exact (hS.pull 5).cell rfl | exact (hS.pull 6).cell rfl | exact hS | exact hS.1 | exact hS.2 | exact hS.2.1 | exact hS.2.2 | exact hS.2.2.1 | exact hS.2.2.2 | exact hS.2.2.2.1 | exact hS.2.2.2.2 | exact hS.2.2.2.2.1 | exact hS.2.2.2.2.2) ?_
    refine h_loadN [_, _] agg_35 _ rfl (fun w hS => by first | exact hS | exact hS.1 | exact hS.2 | exact hS.2.1 | exact hS.2.2 | exact hS.2.2.1 | exact hS.2.2.2 | exact hS.2.2.2.1 | exact hS.2.2.2.2 | exact hS.2.2.2.2.1 | exact hS.2.2.2.2.2 | exact hS.cellsOf | exact (hS.pull 1).cellsOf | exact (hS.pull 2).cellsOf | exact (hS.pull 3).cellsOf | exact (hS.pull 4).cellsOf | exact (hS.pull 5).cellsOf | exact (hS.pull 6).cellsOf | exact hS.cells2 rfl rfl | exact (hS.pull 1).cells2 rfl rfl | exact (hS.pull 2).cells2 rfl rfl | exact (hS.pull 3).cells2 rfl rfl | exact (hS.pull 4).cells2 rfl rfl | exact (hS.pull 5).cells2 rfl rfl | exact (hS.pull 6).cells2 rfl rfl) ?_
    refine x_call Try.f30 Try.func30 rfl rfl _ rfl ?_
    refine (at08_calls p (hs.pull 5) hr (by omega)).mono ?_
    clear hs; rintro e w ⟨rfl, hs⟩
    replace hs := hs.push 5
    try dsimp only [back] at hs
    refine ⟨_, rfl, fun h => (by first | (cases h; done) | (first | exact hs.cells2 rfl rfl | exact (hs.pull 1).cells2 rfl rfl | exact (hs.pull 2).cells2 rfl rfl | exact (hs.pull 3).cells2 rfl rfl | exact (hs.pull 4).cells2 rfl rfl | exact (hs.pull 5).cells2 rfl rfl | exact (hs.pull 6).cells2 rfl rfl | exact (hs.pull 7).cells2 rfl rfl | exact (hs.pull 8).cells2 rfl rfl | exact hs.cell rfl | exact (hs.pull 1).cell rfl | exact (hs.pull 2).cell rfl | exact (hs.pull 3).cell rfl | exact (hs.pull 4).cell rfl | exact (hs.pull 5).cell rfl | exact (hs.pull 6).cell rfl | exact (hs.pull 7).cell rfl | exact (hs.pull 8).cell rfl | assumption | exact hs.cellsOf | exact (hs.pull 1).cellsOf | exact (hs.pull 2).cellsOf | exact (hs.pull 3).cellsOf | exact (hs.pull 4).cellsOf | exact (hs.pull 5).cellsOf | exact (hs.pull 6).cellsOf | exact (hs.pull 7).cellsOf | exact (hs.pull 8).cellsOf) | (and_intros <;> first | exact hs.cells2 rfl rfl | exact (hs.pull 1).cells2 rfl rfl | exact (hs.pull 2).cells2 rfl rfl | exact (hs.pull 3).cells2 rfl rfl | exact (hs.pull 4).cells2 rfl rfl | exact (hs.pull 5).cells2 rfl rfl | exact (hs.pull 6).cells2 rfl rfl | exact (hs.pull 7).cells2 rfl rfl | exact (hs.pull 8).cells2 rfl rfl | exact hs.cell rfl | exact (hs.pull 1).cell rfl | exact (hs.pull 2).cell rfl | exact (hs.pull 3).cell rfl | exact (hs.pull 4).cell rfl | exact (hs.pull 5).cell rfl | exact (hs.pull 6).cell rfl | exact (hs.pull 7).cell rfl | exact (hs.pull 8).cell rfl | assumption | exact hs.cellsOf | exact (hs.pull 1).cellsOf | exact (hs.pull 2).cellsOf | exact (hs.pull 3).cellsOf | exact (hs.pull 4).cellsOf | exact (hs.pull 5).cellsOf | exact (hs.pull 6).cellsOf | exact (hs.pull 7).cellsOf | exact (hs.pull 8).cellsOf)), ?_⟩
    rw [pix_none hp]
    refine x_lssT _ _ rfl rfl (by omega) ?_
    refine x_assign (.bool _) rfl ?_
    refine x_nil ?_
    refine then_n ?_
    refine c_true rfl ?_
    refine c_seq ?_
    -- region 2
    refine c_region ?_
    refine x_assign (.int _ _) rfl ?_
    refine x_nil ?_
    refine then_n ?_
    refine c_ret ?_
    refine inb_r ?_
    refine then_r ?_
    refine ⟨.inr rfl, ?_⟩
    exact ⟨.slice none 0 0, rfl, hs.tail.ri'⟩
  have hx : pix mem p = ((mem.idxOf p : Nat) : Int) := by unfold pix; rw [if_pos hp]
  have hxl := pix_lt hp
  obtain ⟨a, c, a', c', hs⟩ := hs.ri
  refine enter Try.func18 rfl Try.ntmps18 8 rfl (Nat.le_of_ble_eq_true rfl) ?_
  refine c_seq ?_
  -- region 0
  refine c_region ?_
  refine x_box hs (.agg #[_, _]) rfl ?_; clear hs; intro b5 w hs; refine ⟨fun h => (by first | (cases h; done) | (first | exact hs.cells2 rfl rfl | exact (hs.pull 1).cells2 rfl rfl | exact (hs.pull 2).cells2 rfl rfl | exact (hs.pull 3).cells2 rfl rfl | exact (hs.pull 4).cells2 rfl rfl | exact (hs.pull 5).cells2 rfl rfl | exact (hs.pull 6).cells2 rfl rfl | exact (hs.pull 7).cells2 rfl rfl | exact (hs.pull 8).cells2 rfl rfl | exact hs.cell rfl | exact (hs.pull 1).cell rfl | exact (hs.pull 2).cell rfl | exact (hs.pull 3).cell rfl | exact (hs.pull 4).cell rfl | exact (hs.pull 5).cell rfl | exact (hs.pull 6).cell rfl | exact (hs.pull 7).cell rfl | exact (hs.pull 8).cell rfl | assumption | exact hs.cellsOf | exact (hs.pull 1).cellsOf | exact (hs.pull 2).cellsOf | exact (hs.pull 3).cellsOf | exact (hs.pull 4).cellsOf | exact (hs.pull 5).cellsOf | exact (hs.pull 6).cellsOf | exact (hs.pull 7).cellsOf | exact (hs.pull 8).cellsOf) | (and_intros <;> first | exact hs.cells2 rfl rfl | exact (hs.pull 1).cells2 rfl rfl | exact (hs.pull 2).cells2 rfl rfl | exact (hs.pull 3).cells2 rfl rfl | exact (hs.pull 4).cells2 rfl rfl | exact (hs.pull 5).cells2 rfl rfl | exact (hs.pull 6).cells2 rfl rfl | exact (hs.pull 7).cells2 rfl rfl | exact (hs.pull 8).cells2 rfl rfl | exact hs.cell rfl | exact (hs.pull 1).cell rfl | exact (hs.pull 2).cell rfl | exact (hs.pull 3).cell rfl | exact (hs.pull 4).cell rfl | exact (hs.pull 5).cell rfl | exact (hs.pull 6).cell rfl | exact (hs.pull 7).cell rfl | exact (hs.pull 8).cell rfl | assumption | exact hs.cellsOf | exact (hs.pull 1).cellsOf | exact (hs.pull 2).cellsOf | exact (hs.pull 3).cellsOf | exact (hs.pull 4).cellsOf | exact (hs.pull 5).cellsOf | exact (hs.pull 6).cellsOf | exact (hs.pull 7).cellsOf | exact (hs.pull 8).cellsOf)), ?_⟩
  refine x_assign (.int _ _) rfl ?_
  refine x_nil ?_
  refine then_n ?_
  refine c_seq ?_
  refine c_block ?_
  refine c_seq ?_
  -- region 1 DRAWS
  refine c_draw (fun w => (∀ (j : Nat) (u : Value), [Value.int .u16 (p.Id : Nat), Value.int .u32 (p.Inc : Nat)][j]? = some u → w.cell? ((⟨b5, 0, none⟩ : Addr).add j) = some u) ∧ w.cell? ⟨f, 0, none⟩ = some (.slice am mem.length cm)) (fun i => !(Nat.beq i 5)) [(0, 2), (1, 2), (2, 2), (3, 1), (4, 1), (5, 0), (6, 2), (7, 2)] (by kernel_rfl) (by kernel_rfl) (by kernel_rfl) (by kernel_rfl) ((by first | (first | exact hs.cells2 rfl rfl | exact (hs.pull 1).cells2 rfl rfl | exact (hs.pull 2).cells2 rfl rfl | exact (hs.pull 3).cells2 rfl rfl | exact (hs.pull 4).cells2 rfl rfl | exact (hs.pull 5).cells2 rfl rfl | exact (hs.pull 6).cells2 rfl rfl | exact (hs.pull 7).cells2 rfl rfl | exact (hs.pull 8).cells2 rfl rfl | exact hs.cell rfl | exact (hs.pull 1).cell rfl | exact (hs.pull 2).cell rfl | exact (hs.pull 3).cell rfl | exact (hs.pull 4).cell rfl | exact (hs.pull 5).cell rfl | exact (hs.pull 6).cell rfl | exact (hs.pull 7).cell rfl | exact (hs.pull 8).cell rfl | assumption | exact hs.cellsOf | exact (hs.pull 1).cellsOf | exact (hs.pull 2).cellsOf | exact (hs.pull 3).cellsOf | exact (hs.pull 4).cellsOf | exact (hs.pull 5).cellsOf | exact (hs.pull 6).cellsOf | exact (hs.pull 7).cellsOf | exact (hs.pull 8).cellsOf) | (and_intros <;> first | exact hs.cells2 rfl rfl | exact (hs.pull 1).cells2 rfl rfl | exact (hs.pull 2).cells2 rfl rfl | exact (hs.pull 3).cells2 rfl rfl | exact (hs.pull 4).cells2 rfl rfl | exact (hs.pull 5).cells2 rfl rfl | exact (hs.pull 6).cells2 rfl rfl | exact (hs.pull 7).cells2 rfl rfl | exact (hs.pull 8).cells2 rfl rfl | exact hs.cell rfl | exact (hs.pull 1).cell rfl | exact (hs.pull 2).cell rfl | exact (hs.pull 3).cell rfl | exact (hs.pull 4).cell rfl | exact (hs.pull 5).cell rfl | exact (hs.pull 6).cell rfl | exact (hs.pull 7).cell rfl | exact (hs.pull 8).cell rfl | assumption | exact hs.cellsOf | exact (hs.pull 1).cellsOf | exact (hs.pull 2).cellsOf | exact (hs.pull 3).cellsOf | exact (hs.pull 4).cellsOf | exact (hs.pull 5).cellsOf | exact (hs.pull 6).cellsOf | exact (hs.pull 7).cellsOf | exact (hs.pull 8).cellsOf))) ?_
  replace hs := hs.drew
  refine x_move (.pointer _) rfl ?_
  refine x_nilCheck _ rfl ?_
  first | refine x_field0 fa_52_0 _ rfl ?_ | refine x_field fa_52_0 _ _ rfl ?_
  refine h_load one_23 _ (.slice _ _ _) rfl (fun w hS => by first | exact hS.cell rfl | exact (hS.pull 1).cell rfl | exact (hS.pull 2).cell rfl | exact (hS.pull 3).cell rfl | exact (hS.pull 4).cell rfl | exact (hS.pull 5).cell rfl | exact (hS.pull 6).cell rfl | exact hS | exact hS.1 | exact hS.2 | exact hS.2.1 | exact hS.2.2 | exact hS.2.2.1 | exact hS.2.2.2 | exact hS.2.2.2.1 | exact hS.2.2.2.2 | exact hS.2.2.2.2.1 | exact hS.2.2.2.2.2) ?_
  refine h_loadN [_, _] agg_35 _ rfl (fun w hS => by first | exact hS | exact hS.1 | exact hS.2 | exact hS.2.1 | exact hS.2.2 | exact hS.2.2.1 | exact hS.2.2.2 | exact hS.2.2.2.1 | exact hS.2.2.2.2 | exact hS.2.2.2.2.1 | exact hS.2.2.2.2.2 | exact hS.cellsOf | exact (hS.pull 1).cellsOf | exact (hS.pull 2).cellsOf | exact (hS.pull 3).cellsOf | exact (hS.pull 4).cellsOf | exact (hS.pull 5).cellsOf | exact (hS.pull 6).cellsOf | exact hS.cells2 rfl rfl | exact (hS.pull 1).cells2 rfl rfl | exact (hS.pull 2).cells2 rfl rfl | exact (hS.pull 3).cells2 rfl rfl | exact (hS.pull 4).cells2 rfl rfl | exact (hS.pull 5).cells2 rfl rfl | exact (hS.pull 6).cells2 rfl rfl) ?_
  refine x_call Try.f30 Try.func30 rfl rfl _ rfl ?_
  refine (at08_calls p (hs.pull 5) hr (by omega)).mono ?_
  clear hs; rintro e w ⟨rfl, hs⟩
  replace hs := hs.push 5
  try dsimp only [back] at hs
  refine ⟨_, rfl, fun h => (by first | (cases h; done) | (first | exact hs.cells2 rfl rfl | exact (hs.pull 1).cells2 rfl rfl | exact (hs.pull 2).cells2 rfl rfl | exact (hs.pull 3).cells2 rfl rfl | exact (hs.pull 4).cells2 rfl rfl | exact (hs.pull 5).cells2 rfl rfl | exact (hs.pull 6).cells2 rfl rfl | exact (hs.pull 7).cells2 rfl rfl | exact (hs.pull 8).cells2 rfl rfl | exact hs.cell rfl | exact (hs.pull 1).cell rfl | exact (hs.pull 2).cell rfl | exact (hs.pull 3).cell rfl | exact (hs.pull 4).cell rfl | exact (hs.pull 5).cell rfl | exact (hs.pull 6).cell rfl | exact (hs.pull 7).cell rfl | exact (hs.pull 8).cell rfl | assumption | exact hs.cellsOf | exact (hs.pull 1).cellsOf | exact (hs.pull 2).cellsOf | exact (hs.pull 3).cellsOf | exact (hs.pull 4).cellsOf | exact (hs.pull 5).cellsOf | exact (hs.pull 6).cellsOf | exact (hs.pull 7).cellsOf | exact (hs.pull 8).cellsOf) | (and_intros <;> first | exact hs.cells2 rfl rfl | exact (hs.pull 1).cells2 rfl rfl | exact (hs.pull 2).cells2 rfl rfl | exact (hs.pull 3).cells2 rfl rfl | exact (hs.pull 4).cells2 rfl rfl | exact (hs.pull 5).cells2 rfl rfl | exact (hs.pull 6).cells2 rfl rfl | exact (hs.pull 7).cells2 rfl rfl | exact (hs.pull 8).cells2 rfl rfl | exact hs.cell rfl | exact (hs.pull 1).cell rfl | exact (hs.pull 2).cell rfl | exact (hs.pull 3).cell rfl | exact (hs.pull 4).cell rfl | exact (hs.pull 5).cell rfl | exact (hs.pull 6).cell rfl | exact (hs.pull 7).cell rfl | exact (hs.pull 8).cell rfl | assumption | exact hs.cellsOf | exact (hs.pull 1).cellsOf | exact (hs.pull 2).cellsOf | exact (hs.pull 3).cellsOf | exact (hs.pull 4).cellsOf | exact (hs.pull 5).cellsOf | exact (hs.pull 6).cellsOf | exact (hs.pull 7).cellsOf | exact (hs.pull 8).cellsOf)), ?_⟩
  rw [hx]
  refine x_lssF _ _ rfl rfl (by omega) ?_
  refine x_assign (.bool _) rfl ?_
  refine x_nil ?_
  refine then_n ?_
  refine c_false rfl ?_
  refine c_seq ?_
  -- region 3
  replace hs := Sat.ri' (e := e) (dn := dn) (hs.perm [1, 2, 3, 4, 0, 5])
  refine c_region ?_
  refine x_move (.slice _ _ _) rfl ?_
  refine x_lenSl Try.underlying38 _ _ _ rfl ?_
  refine x_gtr _ _ rfl rfl ?_
  refine x_assign (.bool _) rfl ?_
  refine x_nil ?_
  refine then_n ?_
  refine c_test _ rfl (fun hb => ?_) (fun hb => ?_)   -- cond t17
  · skip
    refine c_seq ?_
    -- region 4
    refine c_region ?_
    refine x_assign (.int _ _) rfl ?_
    refine x_nil ?_
    refine then_n ?_
    refine c_ret ?_
    refine inb_r ?_
    refine then_r ?_
    refine ⟨.inr rfl, ?_⟩
    have hc : rputC mem e dn p n d = 14 := by unfold rputC; rw [if_neg (fun h => h hp), if_pos (by omega)]
    simp only [hc, if_neg (show ¬ (14 : Nat) = 0 by decide)]
    exact ⟨.slice none 0 0, rfl, hs.sel [0, 2] 3⟩
  · skip
    refine c_seq ?_
    -- region 5
    have hd200 : ¬ 200 < d.length := by omega
    refine c_region ?_
    refine x_move (.int _ _) rfl ?_
    refine x_move (.pointer _) rfl ?_
    refine x_loadN [_, _] agg_35 _ rfl (by first | assumption | exact hs.cellsOf | exact (hs.pull 1).cellsOf | exact (hs.pull 2).cellsOf | exact (hs.pull 3).cellsOf | exact (hs.pull 4).cellsOf | exact (hs.pull 5).cellsOf | exact (hs.pull 6).cellsOf | exact (hs.pull 7).cellsOf | exact (hs.pull 8).cellsOf | exact hs.cells2 rfl rfl | exact (hs.pull 1).cells2 rfl rfl | exact (hs.pull 2).cells2 rfl rfl | exact (hs.pull 3).cells2 rfl rfl | exact (hs.pull 4).cells2 rfl rfl | exact (hs.pull 5).cells2 rfl rfl | exact (hs.pull 6).cells2 rfl rfl | exact (hs.pull 7).cells2 rfl rfl | exact (hs.pull 8).cells2 rfl rfl) ?_
    refine x_call Try.f21 Try.func21 rfl rfl _ rfl ?_
    refine ((rlast_calls p hs hdl)).mono ?_
    clear hs; rintro e w ⟨rfl, hs⟩
    refine ⟨_, rfl, fun h => (by first | (cases h; done) | (first | exact hs.cells2 rfl rfl | exact (hs.pull 1).cells2 rfl rfl | exact (hs.pull 2).cells2 rfl rfl | exact (hs.pull 3).cells2 rfl rfl | exact (hs.pull 4).cells2 rfl rfl | exact (hs.pull 5).cells2 rfl rfl | exact (hs.pull 6).cells2 rfl rfl | exact (hs.pull 7).cells2 rfl rfl | exact (hs.pull 8).cells2 rfl rfl | exact hs.cell rfl | exact (hs.pull 1).cell rfl | exact (hs.pull 2).cell rfl | exact (hs.pull 3).cell rfl | exact (hs.pull 4).cell rfl | exact (hs.pull 5).cell rfl | exact (hs.pull 6).cell rfl | exact (hs.pull 7).cell rfl | exact (hs.pull 8).cell rfl | assumption | exact hs.cellsOf | exact (hs.pull 1).cellsOf | exact (hs.pull 2).cellsOf | exact (hs.pull 3).cellsOf | exact (hs.pull 4).cellsOf | exact (hs.pull 5).cellsOf | exact (hs.pull 6).cellsOf | exact (hs.pull 7).cellsOf | exact (hs.pull 8).cellsOf) | (and_intros <;> first | exact hs.cells2 rfl rfl | exact (hs.pull 1).cells2 rfl rfl | exact (hs.pull 2).cells2 rfl rfl | exact (hs.pull 3).cells2 rfl rfl | exact (hs.pull 4).cells2 rfl rfl | exact (hs.pull 5).cells2 rfl rfl | exact (hs.pull 6).cells2 rfl rfl | exact (hs.pull 7).cells2 rfl rfl | exact (hs.pull 8).cells2 rfl rfl | exact hs.cell rfl | exact (hs.pull 1).cell rfl | exact (hs.pull 2).cell rfl | exact (hs.pull 3).cell rfl | exact (hs.pull 4).cell rfl | exact (hs.pull 5).cell rfl | exact (hs.pull 6).cell rfl | exact (hs.pull 7).cell rfl | exact (hs.pull 8).cell rfl | assumption | exact hs.cellsOf | exact (hs.pull 1).cellsOf | exact (hs.pull 2).cellsOf | exact (hs.pull 3).cellsOf | exact (hs.pull 4).cellsOf | exact (hs.pull 5).cellsOf | exact (hs.pull 6).cellsOf | exact (hs.pull 7).cellsOf | exact (hs.pull 8).cellsOf)), ?_⟩
    refine x_leq _ _ rfl rfl ?_
    refine x_assign (.bool _) rfl ?_
    refine x_nil ?_
    refine then_n ?_
    refine c_test _ rfl (fun hb => ?_) (fun hb => ?_)   -- cond t21
    · skip
      refine c_seq ?_
      -- region 6
      refine c_region ?_
      refine x_assign (.int _ _) rfl ?_
      refine x_nil ?_
      refine then_n ?_
      refine c_ret ?_
      refine inb_r ?_
      refine then_r ?_
      refine ⟨.inr rfl, ?_⟩
      have hc : rputC mem e dn p n d = 10 := by unfold rputC; rw [if_neg (fun h => h hp), if_neg hd200, if_pos (by omega)]
      simp only [hc, if_neg (show ¬ (10 : Nat) = 0 by decide)]
      exact ⟨.slice none 0 0, rfl, hs.sel [0, 2] 3⟩
    · skip
      refine c_seq ?_
      -- region 7
      have hst : ¬ n ≤ rLast dn p := by omega
      refine c_region ?_
      refine x_move (.int _ _) rfl ?_
      refine x_move (.pointer _) rfl ?_
      refine x_loadN [_, _] agg_35 _ rfl (by first | assumption | exact hs.cellsOf | exact (hs.pull 1).cellsOf | exact (hs.pull 2).cellsOf | exact (hs.pull 3).cellsOf | exact (hs.pull 4).cellsOf | exact (hs.pull 5).cellsOf | exact (hs.pull 6).cellsOf | exact (hs.pull 7).cellsOf | exact (hs.pull 8).cellsOf | exact hs.cells2 rfl rfl | exact (hs.pull 1).cells2 rfl rfl | exact (hs.pull 2).cells2 rfl rfl | exact (hs.pull 3).cells2 rfl rfl | exact (hs.pull 4).cells2 rfl rfl | exact (hs.pull 5).cells2 rfl rfl | exact (hs.pull 6).cells2 rfl rfl | exact (hs.pull 7).cells2 rfl rfl | exact (hs.pull 8).cells2 rfl rfl) ?_
      refine x_call Try.f21 Try.func21 rfl rfl _ rfl ?_
      refine ((rlast_calls p hs hdl)).mono ?_
      clear hs; rintro e w ⟨rfl, hs⟩
      refine ⟨_, rfl, fun h => (by first | (cases h; done) | (first | exact hs.cells2 rfl rfl | exact (hs.pull 1).cells2 rfl rfl | exact (hs.pull 2).cells2 rfl rfl | exact (hs.pull 3).cells2 rfl rfl | exact (hs.pull 4).cells2 rfl rfl | exact (hs.pull 5).cells2 rfl rfl | exact (hs.pull 6).cells2 rfl rfl | exact (hs.pull 7).cells2 rfl rfl | exact (hs.pull 8).cells2 rfl rfl | exact hs.cell rfl | exact (hs.pull 1).cell rfl | exact (hs.pull 2).cell rfl | exact (hs.pull 3).cell rfl | exact (hs.pull 4).cell rfl | exact (hs.pull 5).cell rfl | exact (hs.pull 6).cell rfl | exact (hs.pull 7).cell rfl | exact (hs.pull 8).cell rfl | assumption | exact hs.cellsOf | exact (hs.pull 1).cellsOf | exact (hs.pull 2).cellsOf | exact (hs.pull 3).cellsOf | exact (hs.pull 4).cellsOf | exact (hs.pull 5).cellsOf | exact (hs.pull 6).cellsOf | exact (hs.pull 7).cellsOf | exact (hs.pull 8).cellsOf) | (and_intros <;> first | exact hs.cells2 rfl rfl | exact (hs.pull 1).cells2 rfl rfl | exact (hs.pull 2).cells2 rfl rfl | exact (hs.pull 3).cells2 rfl rfl | exact (hs.pull 4).cells2 rfl rfl | exact (hs.pull 5).cells2 rfl rfl | exact (hs.pull 6).cells2 rfl rfl | exact (hs.pull 7).cells2 rfl rfl | exact (hs.pull 8).cells2 rfl rfl | exact hs.cell rfl | exact (hs.pull 1).cell rfl | exact (hs.pull 2).cell rfl | exact (hs.pull 3).cell rfl | exact (hs.pull 4).cell rfl | exact (hs.pull 5).cell rfl | exact (hs.pull 6).cell rfl | exact (hs.pull 7).cell rfl | exact (hs.pull 8).cell rfl | assumption | exact hs.cellsOf | exact (hs.pull 1).cellsOf | exact (hs.pull 2).cellsOf | exact (hs.pull 3).cellsOf | exact (hs.pull 4).cellsOf | exact (hs.pull 5).cellsOf | exact (hs.pull 6).cellsOf | exact (hs.pull 7).cellsOf | exact (hs.pull 8).cellsOf)), ?_⟩
      refine x_subN _ _ rfl rfl (by omega) (by simp only [X.hi]; omega) ?_
      refine x_gtr _ _ rfl rfl ?_
      refine x_assign (.bool _) rfl ?_
      refine x_nil ?_
      refine then_n ?_
      refine c_test _ rfl (fun hb => ?_) (fun hb => ?_)   -- cond t27
      · skip
        refine c_seq ?_
        -- region 8
        refine c_region ?_
        refine x_assign (.int _ _) rfl ?_
        refine x_nil ?_
        refine then_n ?_
        refine c_ret ?_
        refine inb_r ?_
        refine then_r ?_
        refine ⟨.inr rfl, ?_⟩
        have hc : rputC mem e dn p n d = 11 := by unfold rputC; rw [if_neg (fun h => h hp), if_neg hd200, if_neg hst, if_pos (by omega)]
        simp only [hc, if_neg (show ¬ (11 : Nat) = 0 by decide)]
        exact ⟨.slice none 0 0, rfl, hs.sel [0, 2] 3⟩
      · skip
        refine c_seq ?_
        -- region 9
        have hah : ¬ 6 < n - rLast dn p := by omega
        refine c_region ?_
        refine x_move (.pointer _) rfl ?_
        refine x_loadN [_, _] agg_35 _ rfl (by first | assumption | exact hs.cellsOf | exact (hs.pull 1).cellsOf | exact (hs.pull 2).cellsOf | exact (hs.pull 3).cellsOf | exact (hs.pull 4).cellsOf | exact (hs.pull 5).cellsOf | exact (hs.pull 6).cellsOf | exact (hs.pull 7).cellsOf | exact (hs.pull 8).cellsOf | exact hs.cells2 rfl rfl | exact (hs.pull 1).cells2 rfl rfl | exact (hs.pull 2).cells2 rfl rfl | exact (hs.pull 3).cells2 rfl rfl | exact (hs.pull 4).cells2 rfl rfl | exact (hs.pull 5).cells2 rfl rfl | exact (hs.pull 6).cells2 rfl rfl | exact (hs.pull 7).cells2 rfl rfl | exact (hs.pull 8).cells2 rfl rfl) ?_
        refine x_move (.int _ _) rfl ?_
        refine x_call Try.f31 Try.func31 rfl rfl _ rfl ?_
        refine ((rfind_calls p n hs (by omega))).mono ?_
        clear hs; rintro e w ⟨rfl, hs⟩
        refine ⟨_, rfl, fun h => (by first | (cases h; done) | (first | exact hs.cells2 rfl rfl | exact (hs.pull 1).cells2 rfl rfl | exact (hs.pull 2).cells2 rfl rfl | exact (hs.pull 3).cells2 rfl rfl | exact (hs.pull 4).cells2 rfl rfl | exact (hs.pull 5).cells2 rfl rfl | exact (hs.pull 6).cells2 rfl rfl | exact (hs.pull 7).cells2 rfl rfl | exact (hs.pull 8).cells2 rfl rfl | exact hs.cell rfl | exact (hs.pull 1).cell rfl | exact (hs.pull 2).cell rfl | exact (hs.pull 3).cell rfl | exact (hs.pull 4).cell rfl | exact (hs.pull 5).cell rfl | exact (hs.pull 6).cell rfl | exact (hs.pull 7).cell rfl | exact (hs.pull 8).cell rfl | assumption | exact hs.cellsOf | exact (hs.pull 1).cellsOf | exact (hs.pull 2).cellsOf | exact (hs.pull 3).cellsOf | exact (hs.pull 4).cellsOf | exact (hs.pull 5).cellsOf | exact (hs.pull 6).cellsOf | exact (hs.pull 7).cellsOf | exact (hs.pull 8).cellsOf) | (and_intros <;> first | exact hs.cells2 rfl rfl | exact (hs.pull 1).cells2 rfl rfl | exact (hs.pull 2).cells2 rfl rfl | exact (hs.pull 3).cells2 rfl rfl | exact (hs.pull 4).cells2 rfl rfl | exact (hs.pull 5).cells2 rfl rfl | exact (hs.pull 6).cells2 rfl rfl | exact (hs.pull 7).cells2 rfl rfl | exact (hs.pull 8).cells2 rfl rfl | exact hs.cell rfl | exact (hs.pull 1).cell rfl | exact (hs.pull 2).cell rfl | exact (hs.pull 3).cell rfl | exact (hs.pull 4).cell rfl | exact (hs.pull 5).cell rfl | exact (hs.pull 6).cell rfl | exact (hs.pull 7).cell rfl | exact (hs.pull 8).cell rfl | assumption | exact hs.cellsOf | exact (hs.pull 1).cellsOf | exact (hs.pull 2).cellsOf | exact (hs.pull 3).cellsOf | exact (hs.pull 4).cellsOf | exact (hs.pull 5).cellsOf | exact (hs.pull 6).cellsOf | exact (hs.pull 7).cellsOf | exact (hs.pull 8).cellsOf)), ?_⟩
        refine x_geq _ _ rfl rfl ?_
        refine x_assign (.bool _) rfl ?_
        refine x_nil ?_
        refine then_n ?_
        refine c_test _ rfl (fun hb => ?_) (fun hb => ?_)   -- cond t34
        · skip
          refine c_seq ?_
          -- region 10
          refine c_region ?_
          refine x_assign (.int _ _) rfl ?_
          refine x_nil ?_
          refine then_n ?_
          refine c_ret ?_
          refine inb_r ?_
          refine then_r ?_
          refine ⟨.inr rfl, ?_⟩
          have hk : (p, n) ∈ e.map (·.1) := by
            by_cases hh : (p, n) ∈ e.map (·.1)
            · exact hh
            · rw [show wfind e (p, n) = -1 from if_neg hh] at hb; omega
          have hc : rputC mem e dn p n d = 9 := by unfold rputC; rw [if_neg (fun h => h hp), if_neg hd200, if_neg hst, if_neg hah, if_pos hk]
          simp only [hc, if_neg (show ¬ (9 : Nat) = 0 by decide)]
          exact ⟨.slice none 0 0, rfl, hs.sel [0, 2] 3⟩
        · skip
          refine c_skip ?_
          refine inb_n ?_
          refine then_n ?_
          refine c_seq ?_
          -- region 11 DRAWS
          have hk : (p, n) ∉ e.map (·.1) := fun hh => by
            rw [show wfind e (p, n) = (((e.map (·.1)).idxOf (p, n) : Nat) : Int) from if_pos hh] at hb; omega
          have hc : rputC mem e dn p n d = 0 := by unfold rputC; rw [if_neg (fun h => h hp), if_neg hd200, if_neg hst, if_neg hah, if_neg hk]
          simp only [hc, if_pos (show (0 : Nat) = 0 from rfl)]
          obtain ⟨a, c, a', c', hs⟩ := hs.ri
          refine c_draw (fun w => w.cell? ⟨f, 1, none⟩ = some (.slice a e.length c) ∧ (∀ (j : Nat) (u : Value), [Value.int .u16 (p.Id : Nat), Value.int .u32 (p.Inc : Nat)][j]? = some u → w.cell? ((⟨b5, 0, none⟩ : Addr).add j) = some u)) (fun i => !(Nat.beq i 12 || Nat.beq i 15)) [(0, 2), (1, 2), (2, 2), (3, 2), (4, 1), (5, 1), (6, 2), (8, 2), (7, 0), (9, 0), (10, 2), (11, 0), (12, 0), (13, 2), (14, 2), (15, 0)] (by kernel_rfl) (by kernel_rfl) (by kernel_rfl) (by kernel_rfl) ((by first | (first | exact hs.cells2 rfl rfl | exact (hs.pull 1).cells2 rfl rfl | exact (hs.pull 2).cells2 rfl rfl | exact (hs.pull 3).cells2 rfl rfl | exact (hs.pull 4).cells2 rfl rfl | exact (hs.pull 5).cells2 rfl rfl | exact (hs.pull 6).cells2 rfl rfl | exact (hs.pull 7).cells2 rfl rfl | exact (hs.pull 8).cells2 rfl rfl | exact hs.cell rfl | exact (hs.pull 1).cell rfl | exact (hs.pull 2).cell rfl | exact (hs.pull 3).cell rfl | exact (hs.pull 4).cell rfl | exact (hs.pull 5).cell rfl | exact (hs.pull 6).cell rfl | exact (hs.pull 7).cell rfl | exact (hs.pull 8).cell rfl | assumption | exact hs.cellsOf | exact (hs.pull 1).cellsOf | exact (hs.pull 2).cellsOf | exact (hs.pull 3).cellsOf | exact (hs.pull 4).cellsOf | exact (hs.pull 5).cellsOf | exact (hs.pull 6).cellsOf | exact (hs.pull 7).cellsOf | exact (hs.pull 8).cellsOf) | (and_intros <;> first | exact hs.cells2 rfl rfl | exact (hs.pull 1).cells2 rfl rfl | exact (hs.pull 2).cells2 rfl rfl | exact (hs.pull 3).cells2 rfl rfl | exact (hs.pull 4).cells2 rfl rfl | exact (hs.pull 5).cells2 rfl rfl | exact (hs.pull 6).cells2 rfl rfl | exact (hs.pull 7).cells2 rfl rfl | exact (hs.pull 8).cells2 rfl rfl | exact hs.cell rfl | exact (hs.pull 1).cell rfl | exact (hs.pull 2).cell rfl | exact (hs.pull 3).cell rfl | exact (hs.pull 4).cell rfl | exact (hs.pull 5).cell rfl | exact (hs.pull 6).cell rfl | exact (hs.pull 7).cell rfl | exact (hs.pull 8).cell rfl | assumption | exact hs.cellsOf | exact (hs.pull 1).cellsOf | exact (hs.pull 2).cellsOf | exact (hs.pull 3).cellsOf | exact (hs.pull 4).cellsOf | exact (hs.pull 5).cellsOf | exact (hs.pull 6).cellsOf | exact (hs.pull 7).cellsOf | exact (hs.pull 8).cellsOf))) ?_
          replace hs := hs.drew
          refine x_move (.pointer _) rfl ?_
          refine x_move (.pointer _) rfl ?_
          refine x_nilCheck _ rfl ?_
          first | refine x_field0 fa_52_1 _ rfl ?_ | refine x_field fa_52_1 _ _ rfl ?_
          refine h_load one_50 _ (.slice _ _ _) rfl (fun w hS => by first | exact hS.cell rfl | exact (hS.pull 1).cell rfl | exact (hS.pull 2).cell rfl | exact (hS.pull 3).cell rfl | exact (hS.pull 4).cell rfl | exact (hS.pull 5).cell rfl | exact (hS.pull 6).cell rfl | exact hS | exact hS.1 | exact hS.2 | exact hS.2.1 | exact hS.2.2 | exact hS.2.2.1 | exact hS.2.2.2 | exact hS.2.2.2.1 | exact hS.2.2.2.2 | exact hS.2.2.2.2.1 | exact hS.2.2.2.2.2) ?_
          refine h_loadN [_, _] agg_35 _ rfl (fun w hS => by first | exact hS | exact hS.1 | exact hS.2 | exact hS.2.1 | exact hS.2.2 | exact hS.2.2.1 | exact hS.2.2.2 | exact hS.2.2.2.1 | exact hS.2.2.2.2 | exact hS.2.2.2.2.1 | exact hS.2.2.2.2.2 | exact hS.cellsOf | exact (hS.pull 1).cellsOf | exact (hS.pull 2).cellsOf | exact (hS.pull 3).cellsOf | exact (hS.pull 4).cellsOf | exact (hS.pull 5).cellsOf | exact (hS.pull 6).cellsOf | exact hS.cells2 rfl rfl | exact (hS.pull 1).cells2 rfl rfl | exact (hS.pull 2).cells2 rfl rfl | exact (hS.pull 3).cells2 rfl rfl | exact (hS.pull 4).cells2 rfl rfl | exact (hS.pull 5).cells2 rfl rfl | exact (hS.pull 6).cells2 rfl rfl) ?_
          refine x_move (.int _ _) rfl ?_
          refine x_move (.slice _ _ _) rfl ?_
          refine x_buildSlice _ [] hs rfl (fun w => bs_38_0 w) ?_; clear hs; intro b47 w hs; refine ⟨fun h => (by first | (cases h; done) | (first | exact hs.cells2 rfl rfl | exact (hs.pull 1).cells2 rfl rfl | exact (hs.pull 2).cells2 rfl rfl | exact (hs.pull 3).cells2 rfl rfl | exact (hs.pull 4).cells2 rfl rfl | exact (hs.pull 5).cells2 rfl rfl | exact (hs.pull 6).cells2 rfl rfl | exact (hs.pull 7).cells2 rfl rfl | exact (hs.pull 8).cells2 rfl rfl | exact hs.cell rfl | exact (hs.pull 1).cell rfl | exact (hs.pull 2).cell rfl | exact (hs.pull 3).cell rfl | exact (hs.pull 4).cell rfl | exact (hs.pull 5).cell rfl | exact (hs.pull 6).cell rfl | exact (hs.pull 7).cell rfl | exact (hs.pull 8).cell rfl | assumption | exact hs.cellsOf | exact (hs.pull 1).cellsOf | exact (hs.pull 2).cellsOf | exact (hs.pull 3).cellsOf | exact (hs.pull 4).cellsOf | exact (hs.pull 5).cellsOf | exact (hs.pull 6).cellsOf | exact (hs.pull 7).cellsOf | exact (hs.pull 8).cellsOf) | (and_intros <;> first | exact hs.cells2 rfl rfl | exact (hs.pull 1).cells2 rfl rfl | exact (hs.pull 2).cells2 rfl rfl | exact (hs.pull 3).cells2 rfl rfl | exact (hs.pull 4).cells2 rfl rfl | exact (hs.pull 5).cells2 rfl rfl | exact (hs.pull 6).cells2 rfl rfl | exact (hs.pull 7).cells2 rfl rfl | exact (hs.pull 8).cells2 rfl rfl | exact hs.cell rfl | exact (hs.pull 1).cell rfl | exact (hs.pull 2).cell rfl | exact (hs.pull 3).cell rfl | exact (hs.pull 4).cell rfl | exact (hs.pull 5).cell rfl | exact (hs.pull 6).cell rfl | exact (hs.pull 7).cell rfl | exact (hs.pull 8).cell rfl | assumption | exact hs.cellsOf | exact (hs.pull 1).cellsOf | exact (hs.pull 2).cellsOf | exact (hs.pull 3).cellsOf | exact (hs.pull 4).cellsOf | exact (hs.pull 5).cellsOf | exact (hs.pull 6).cellsOf | exact (hs.pull 7).cellsOf | exact (hs.pull 8).cellsOf)), ?_⟩
          refine x_append (row_blk (size := 1) (len := 0) hs rfl (by decide)) Try.underlying38 ei_5 (hdt _ _ (hs.pull 6)) bv_one (by unfold maxLen; omega) (by omega) rfl rfl ?_
          clear hs; intro v w hs; refine ⟨fun h => (by first | (cases h; done) | exact ⟨(hs.pull 1).cell rfl, (hs.pull 5).cellsOf⟩), ?_⟩
          rw [show 0 + d.length = d.length from Nat.zero_add _, show (#[] : Array Value).toList ++ bv d = bv d from rfl] at hs
          obtain ⟨a6, c6, rfl⟩ := hs.rd.val
          refine x_build _ [(0, (.agg #[(.int .u16 _), (.int .u32 _)])), (1, (.int .u64 _)), (2, (.slice _ _ _))] rfl (fun w => bd_54_0_1_2 _ _ _ _ _ _ w) ?_
          refine x_buildSlice _ [(0, (.agg #[(.int .u16 _), (.int .u32 _), (.int .u64 _), (.slice _ _ _)]))] hs rfl (fun w => bs_50_1 _ _ _ _ _ _ w) ?_; clear hs; intro b51 w hs; refine ⟨fun h => (by first | (cases h; done) | (first | exact hs.cells2 rfl rfl | exact (hs.pull 1).cells2 rfl rfl | exact (hs.pull 2).cells2 rfl rfl | exact (hs.pull 3).cells2 rfl rfl | exact (hs.pull 4).cells2 rfl rfl | exact (hs.pull 5).cells2 rfl rfl | exact (hs.pull 6).cells2 rfl rfl | exact (hs.pull 7).cells2 rfl rfl | exact (hs.pull 8).cells2 rfl rfl | exact hs.cell rfl | exact (hs.pull 1).cell rfl | exact (hs.pull 2).cell rfl | exact (hs.pull 3).cell rfl | exact (hs.pull 4).cell rfl | exact (hs.pull 5).cell rfl | exact (hs.pull 6).cell rfl | exact (hs.pull 7).cell rfl | exact (hs.pull 8).cell rfl | assumption | exact hs.cellsOf | exact (hs.pull 1).cellsOf | exact (hs.pull 2).cellsOf | exact (hs.pull 3).cellsOf | exact (hs.pull 4).cellsOf | exact (hs.pull 5).cellsOf | exact (hs.pull 6).cellsOf | exact (hs.pull 7).cellsOf | exact (hs.pull 8).cellsOf) | (and_intros <;> first | exact hs.cells2 rfl rfl | exact (hs.pull 1).cells2 rfl rfl | exact (hs.pull 2).cells2 rfl rfl | exact (hs.pull 3).cells2 rfl rfl | exact (hs.pull 4).cells2 rfl rfl | exact (hs.pull 5).cells2 rfl rfl | exact (hs.pull 6).cells2 rfl rfl | exact (hs.pull 7).cells2 rfl rfl | exact (hs.pull 8).cells2 rfl rfl | exact hs.cell rfl | exact (hs.pull 1).cell rfl | exact (hs.pull 2).cell rfl | exact (hs.pull 3).cell rfl | exact (hs.pull 4).cell rfl | exact (hs.pull 5).cell rfl | exact (hs.pull 6).cell rfl | exact (hs.pull 7).cell rfl | exact (hs.pull 8).cell rfl | assumption | exact hs.cellsOf | exact (hs.pull 1).cellsOf | exact (hs.pull 2).cellsOf | exact (hs.pull 3).cellsOf | exact (hs.pull 4).cellsOf | exact (hs.pull 5).cellsOf | exact (hs.pull 6).cellsOf | exact (hs.pull 7).cellsOf | exact (hs.pull 8).cellsOf)), ?_⟩
          have hrd := rd_blk (size := 4) hs rfl
          refine x_append (hs.pull 3) Try.underlying50 ei_54 hrd (by intro u hu; simp at hu; rcases hu with rfl | rfl | rfl | rfl <;> rfl) (by unfold maxLen; omega) (by omega) rfl rfl ?_
          clear hs hrd; intro v w hs; refine ⟨fun h => (by cases h), ?_⟩
          obtain ⟨a7, c7, rfl⟩ := hs.rd.val
          have hln : e.length + 1 = (e ++ [(((p, n), Value.slice a6 d.length c6, d) : WE)]).length := by simp
          rw [show wcells e ++ #[Value.int .u16 (p.Id : Nat), .int .u32 (p.Inc : Nat), .int .u64 (n : Nat), .slice a6 d.length c6].toList = wcells (e ++ [(((p, n), Value.slice a6 d.length c6, d) : WE)]) from (wcells_snoc e ((p, n), Value.slice a6 d.length c6, d)).symm, hln] at hs
          rw [hln]
          refine x_nilCheck _ rfl ?_
          first | refine x_field0 fa_52_1 _ rfl ?_ | refine x_field fa_52_1 _ _ rfl ?_
          first
            | refine x_storeI hs 0 rfl rfl one_50 (.slice _ _ _) rfl rfl rfl ?_
            | refine x_storeI hs 1 rfl rfl one_50 (.slice _ _ _) rfl rfl rfl ?_
            | refine x_storeI hs 2 rfl rfl one_50 (.slice _ _ _) rfl rfl rfl ?_
            | refine x_storeI hs 3 rfl rfl one_50 (.slice _ _ _) rfl rfl rfl ?_
            | refine x_storeI hs 4 rfl rfl one_50 (.slice _ _ _) rfl rfl rfl ?_
            | refine x_storeI hs 5 rfl rfl one_50 (.slice _ _ _) rfl rfl rfl ?_
            | refine x_storeI hs 6 rfl rfl one_50 (.slice _ _ _) rfl rfl rfl ?_
            | refine x_storeI hs 7 rfl rfl one_50 (.slice _ _ _) rfl rfl rfl ?_
          clear hs; intro w hs
          try dsimp only [back, List.set_cons_zero, List.set_cons_succ] at hs
          refine ⟨fun h => (by first | (cases h; done) | (first | exact hs.cells2 rfl rfl | exact (hs.pull 1).cells2 rfl rfl | exact (hs.pull 2).cells2 rfl rfl | exact (hs.pull 3).cells2 rfl rfl | exact (hs.pull 4).cells2 rfl rfl | exact (hs.pull 5).cells2 rfl rfl | exact (hs.pull 6).cells2 rfl rfl | exact (hs.pull 7).cells2 rfl rfl | exact (hs.pull 8).cells2 rfl rfl | exact hs.cell rfl | exact (hs.pull 1).cell rfl | exact (hs.pull 2).cell rfl | exact (hs.pull 3).cell rfl | exact (hs.pull 4).cell rfl | exact (hs.pull 5).cell rfl | exact (hs.pull 6).cell rfl | exact (hs.pull 7).cell rfl | exact (hs.pull 8).cell rfl | assumption | exact hs.cellsOf | exact (hs.pull 1).cellsOf | exact (hs.pull 2).cellsOf | exact (hs.pull 3).cellsOf | exact (hs.pull 4).cellsOf | exact (hs.pull 5).cellsOf | exact (hs.pull 6).cellsOf | exact (hs.pull 7).cellsOf | exact (hs.pull 8).cellsOf) | (and_intros <;> first | exact hs.cells2 rfl rfl | exact (hs.pull 1).cells2 rfl rfl | exact (hs.pull 2).cells2 rfl rfl | exact (hs.pull 3).cells2 rfl rfl | exact (hs.pull 4).cells2 rfl rfl | exact (hs.pull 5).cells2 rfl rfl | exact (hs.pull 6).cells2 rfl rfl | exact (hs.pull 7).cells2 rfl rfl | exact (hs.pull 8).cells2 rfl rfl | exact hs.cell rfl | exact (hs.pull 1).cell rfl | exact (hs.pull 2).cell rfl | exact (hs.pull 3).cell rfl | exact (hs.pull 4).cell rfl | exact (hs.pull 5).cell rfl | exact (hs.pull 6).cell rfl | exact (hs.pull 7).cell rfl | exact (hs.pull 8).cell rfl | assumption | exact hs.cellsOf | exact (hs.pull 1).cellsOf | exact (hs.pull 2).cellsOf | exact (hs.pull 3).cellsOf | exact (hs.pull 4).cellsOf | exact (hs.pull 5).cellsOf | exact (hs.pull 6).cellsOf | exact (hs.pull 7).cellsOf | exact (hs.pull 8).cellsOf)), ?_⟩
          refine x_nil ?_
          refine then_n ?_
          refine c_seq ?_
          -- region 12
          refine c_region ?_
          refine x_assign (.int _ _) rfl ?_
          refine x_nil ?_
          refine then_n ?_
          refine c_ret ?_
          refine ⟨.inr rfl, ?_⟩
          refine ⟨.slice a6 d.length c6, rfl, ?_⟩
          have hs := Sat.eeSnoc (k := ((p, n) : Key)) (b := d) (v := .slice a6 d.length c6) (hs.sel [5, 2, 3, 0, 4, 7] 8)
          exact Sat.ri' (e := e ++ [((p, n), .slice a6 d.length c6, d)]) (hs.perm [1, 2, 3, 0, 4])
/-! ### Finish -/
theorem EE.filt (q : WE → Bool) : ∀ {e : List WE} {L : List HP} {h : PH}, SatH (EE e :: L) h → SatH (EE (e.filter q) :: L) h
  | [], L, h, hs => hs
  | (k, v, b) :: e, L, h, hs => by
    have h1 : SatH (BR v b :: EE e :: L) h := SatH.flat (Ls := [BR v b, EE e]) hs
    by_cases hq : q (k, v, b) = true
    · rw [List.filter_cons_of_pos hq]
      have h2 : SatH (BR v b :: EE (e.filter q) :: L) h := SatH.cons_mono (fun h hh => EE.filt q hh) h1
      exact SatH.unflat (Ls := [BR v b, EE (e.filter q)]) h2
    · rw [List.filter_cons_of_neg (by simpa using hq)]
      exact EE.filt q h1.tail
theorem Sat.eeFilt (q : WE → Bool) {w0 w : World} {e : List WE} {L : List HP} (hs : Sat w0 w (EE e :: L)) : Sat w0 w (EE (e.filter q) :: L) := hs.map fun _ h => EE.filt q h
theorem EE.one : ∀ {e : List WE} {w0 w : World} {L : List HP}, Sat w0 w (EE e :: L) → ∀ x ∈ e, ∃ a c, x.2.1 = .slice a x.2.2.length c
  | [], _, _, _, _, x, h => by cases h
  | (k, v, b) :: e, w0, w, L, hs, x, h => by
    have h1 : Sat w0 w (BR v b :: EE e :: L) := hs.opn (Ls := [BR v b, EE e])
    rcases List.mem_cons.1 h with rfl | h
    · exact h1.rd.val
    · exact EE.one h1.tail x h
def weDone (p : Pid) (n : Nat) (e : List WE) : List WE := e.filter fun x => decide (¬ bad p n x.1)
theorem weDone_snoc (p : Pid) (n : Nat) (e : List WE) (x : WE) : weDone p n (e ++ [x]) = if bad p n x.1 then weDone p n e else weDone p n e ++ [x] := by
  unfold weDone
  rw [List.filter_append]
  by_cases h : bad p n x.1 <;> simp [h]
theorem weDone_len (p : Pid) (n : Nat) (e : List WE) : (weDone p n e).length ≤ e.length := List.length_filter_le ..
def rdoneOk (mem : List Pid) (dn : List Key) (p : Pid) (n : Nat) : Prop := p ∈ mem ∧ rLast dn p < n
instance (mem : List Pid) (dn : List Key) (p : Pid) (n : Nat) : Decidable (rdoneOk mem dn p n) := by unfold rdoneOk; infer_instance
set_option maxHeartbeats 2000000 in
theorem rfinish_calls {w0 w : World} {A : HP} {L : List HP} {f cm : Nat} {am : Option Addr} {e : List WE} {dn : List Key} {mem : List Pid} (p : Pid) (n : Nat) (hs : Sat w0 w (RI f (.slice am mem.length cm) e dn :: A :: L)) (hr : ∀ w' L', Sat w0 w' (A :: L') → RS w' 2 Pid.cells (.slice am mem.length cm) mem) (hm : mem.length ≤ 1000) (hl : e.length ≤ 900000) (hdl : dn.length ≤ 900000) :
    Calls Try.prog 17 #[.pointer (some ⟨f, 0, none⟩), .agg #[.int .u16 (p.Id : Nat), .int .u32 (p.Inc : Nat)], .int .u64 (n : Nat)] w fun e' w' => e' = .returned (.bool (decide (rdoneOk mem dn p n))) ∧ Sat w0 w' (RI f (.slice am mem.length cm) (if rdoneOk mem dn p n then weDone p n e else e) (if rdoneOk mem dn p n then dn ++ [(p, n)] else dn) :: A :: L) := by
  by_cases hp : p ∈ mem
  rotate_left
  · have hno : ¬ rdoneOk mem dn p n := fun h => hp h.1
    rw [if_neg hno, if_neg hno, decide_eq_false hno]
    obtain ⟨a, c, a', c', hs⟩ := hs.ri
    refine enter Try.func17 rfl Try.ntmps17 6 rfl (Nat.le_of_ble_eq_true rfl) ?_
    refine c_seq ?_
    -- region 0
    refine c_region ?_
    refine x_box hs (.agg #[_, _]) rfl ?_; clear hs; intro b4 w hs; refine ⟨fun h => (by first | (cases h; done) | (first | exact hs.cells2 rfl rfl | exact (hs.pull 1).cells2 rfl rfl | exact (hs.pull 2).cells2 rfl rfl | exact (hs.pull 3).cells2 rfl rfl | exact (hs.pull 4).cells2 rfl rfl | exact (hs.pull 5).cells2 rfl rfl | exact (hs.pull 6).cells2 rfl rfl | exact (hs.pull 7).cells2 rfl rfl | exact (hs.pull 8).cells2 rfl rfl | exact hs.cell rfl | exact (hs.pull 1).cell rfl | exact (hs.pull 2).cell rfl | exact (hs.pull 3).cell rfl | exact (hs.pull 4).cell rfl | exact (hs.pull 5).cell rfl | exact (hs.pull 6).cell rfl | exact (hs.pull 7).cell rfl | exact (hs.pull 8).cell rfl | assumption | exact hs.cellsOf | exact (hs.pull 1).cellsOf | exact (hs.pull 2).cellsOf | exact (hs.pull 3).cellsOf | exact (hs.pull 4).cellsOf | exact (hs.pull 5).cellsOf | exact (hs.pull 6).cellsOf | exact (hs.pull 7).cellsOf | exact (hs.pull 8).cellsOf) | (and_intros <;> first | exact hs.cells2 rfl rfl | exact (hs.pull 1).cells2 rfl rfl | exact (hs.pull 2).cells2 rfl rfl | exact (hs.pull 3).cells2 rfl rfl | exact (hs.pull 4).cells2 rfl rfl | exact (hs.pull 5).cells2 rfl rfl | exact (hs.pull 6).cells2 rfl rfl | exact (hs.pull 7).cells2 rfl rfl | exact (hs.pull 8).cells2 rfl rfl | exact hs.cell rfl | exact (hs.pull 1).cell rfl | exact (hs.pull 2).cell rfl | exact (hs.pull 3).cell rfl | exact (hs.pull 4).cell rfl | exact (hs.pull 5).cell rfl | exact (hs.pull 6).cell rfl | exact (hs.pull 7).cell rfl | exact (hs.pull 8).cell rfl | assumption | exact hs.cellsOf | exact (hs.pull 1).cellsOf | exact (hs.pull 2).cellsOf | exact (hs.pull 3).cellsOf | exact (hs.pull 4).cellsOf | exact (hs.pull 5).cellsOf | exact (hs.pull 6).cellsOf | exact (hs.pull 7).cellsOf | exact (hs.pull 8).cellsOf)), ?_⟩
    refine x_assign (.bool _) rfl ?_
    refine x_nil ?_
    refine then_n ?_
    refine c_seq ?_
    refine c_seq ?_
    -- region 1 DRAWS
    refine c_draw (fun w => (∀ (j : Nat) (u : Value), [Value.int .u16 (p.Id : Nat), Value.int .u32 (p.Inc : Nat)][j]? = some u → w.cell? ((⟨b4, 0, none⟩ : Addr).add j) = some u) ∧ w.cell? ⟨f, 0, none⟩ = some (.slice am mem.length cm)) (fun i => !(Nat.beq i 5 || Nat.beq i 10 || Nat.beq i 11)) [(0, 2), (1, 2), (2, 2), (3, 1), (4, 1), (5, 0), (6, 2), (7, 2), (8, 2), (9, 2), (10, 0), (11, 0), (12, 2), (13, 2)] (by kernel_rfl) (by kernel_rfl) (by kernel_rfl) (by kernel_rfl) ((by first | (first | exact hs.cells2 rfl rfl | exact (hs.pull 1).cells2 rfl rfl | exact (hs.pull 2).cells2 rfl rfl | exact (hs.pull 3).cells2 rfl rfl | exact (hs.pull 4).cells2 rfl rfl | exact (hs.pull 5).cells2 rfl rfl | exact (hs.pull 6).cells2 rfl rfl | exact (hs.pull 7).cells2 rfl rfl | exact (hs.pull 8).cells2 rfl rfl | exact hs.cell rfl | exact (hs.pull 1).cell rfl | exact (hs.pull 2).cell rfl | exact (hs.pull 3).cell rfl | exact (hs.pull 4).cell rfl | exact (hs.pull 5).cell rfl | exact (hs.pull 6).cell rfl | exact (hs.pull 7).cell rfl | exact (hs.pull 8).cell rfl | assumption | exact hs.cellsOf | exact (hs.pull 1).cellsOf | exact (hs.pull 2).cellsOf | exact (hs.pull 3).cellsOf | exact (hs.pull 4).cellsOf | exact (hs.pull 5).cellsOf | exact (hs.pull 6).cellsOf | exact (hs.pull 7).cellsOf | exact (hs.pull 8).cellsOf) | (and_intros <;> first | exact hs.cells2 rfl rfl | exact (hs.pull 1).cells2 rfl rfl | exact (hs.pull 2).cells2 rfl rfl | exact (hs.pull 3).cells2 rfl rfl | exact (hs.pull 4).cells2 rfl rfl | exact (hs.pull 5).cells2 rfl rfl | exact (hs.pull 6).cells2 rfl rfl | exact (hs.pull 7).cells2 rfl rfl | exact (hs.pull 8).cells2 rfl rfl | exact hs.cell rfl | exact (hs.pull 1).cell rfl | exact (hs.pull 2).cell rfl | exact (hs.pull 3).cell rfl | exact (hs.pull 4).cell rfl | exact (hs.pull 5).cell rfl | exact (hs.pull 6).cell rfl | exact (hs.pull 7).cell rfl | exact (hs.pull 8).cell rfl | assumption | exact hs.cellsOf | exact (hs.pull 1).cellsOf | exact (hs.pull 2).cellsOf | exact (hs.pull 3).cellsOf | exact (hs.pull 4).cellsOf | exact (hs.pull 5).cellsOf | exact (hs.pull 6).cellsOf | exact (hs.pull 7).cellsOf | exact (hs.pull 8).cellsOf))) ?_
    replace hs := hs.drew
    refine x_move (.pointer _) rfl ?_
    refine x_nilCheck _ rfl ?_
    first | refine x_field0 fa_52_0 _ rfl ?_ | refine x_field fa_52_0 _ _ rfl ?_
    refine h_load one_23 _ (.slice _ _ _) rfl (fun w hS => by first | exact hS.cell rfl | exact (hS.pull 1).cell rfl | exact (hS.pull 2).cell rfl | exact (hS.pull 3).cell rfl | exact (hS.pull 4).cell rfl | exact (hS.pull 5).cell rfl | exact (hS.pull 6).cell rfl | exact hS | exact hS.1 | exact hS.2 | exact hS.2.1 | exact hS.2.2 | exact hS.2.2.1 | exact hS.2.2.2 | exact hS.2.2.2.1 | exact hS.2.2.2.2 | exact hS.2.2.2.2.1 | exact hS.2.2.2.2.2) ?_
    refine h_loadN [_, _] agg_35 _ rfl (fun w hS => by first | exact hS | exact hS.1 | exact hS.2 | exact hS.2.1 | exact hS.2.2 | exact hS.2.2.1 | exact hS.2.2.2 | exact hS.2.2.2.1 | exact hS.2.2.2.2 | exact hS.2.2.2.2.1 | exact hS.2.2.2.2.2 | exact hS.cellsOf | exact (hS.pull 1).cellsOf | exact (hS.pull 2).cellsOf | exact (hS.pull 3).cellsOf | exact (hS.pull 4).cellsOf | exact (hS.pull 5).cellsOf | exact (hS.pull 6).cellsOf | exact hS.cells2 rfl rfl | exact (hS.pull 1).cells2 rfl rfl | exact (hS.pull 2).cells2 rfl rfl | exact (hS.pull 3).cells2 rfl rfl | exact (hS.pull 4).cells2 rfl rfl | exact (hS.pull 5).cells2 rfl rfl | exact (hS.pull 6).cells2 rfl rfl) ?_
    refine x_call Try.f30 Try.func30 rfl rfl _ rfl ?_
    refine (at08_calls p (hs.pull 5) hr (by omega)).mono ?_
    clear hs; rintro e w ⟨rfl, hs⟩
    replace hs := hs.push 5
    try dsimp only [back] at hs
    refine ⟨_, rfl, fun h => (by first | (cases h; done) | (first | exact hs.cells2 rfl rfl | exact (hs.pull 1).cells2 rfl rfl | exact (hs.pull 2).cells2 rfl rfl | exact (hs.pull 3).cells2 rfl rfl | exact (hs.pull 4).cells2 rfl rfl | exact (hs.pull 5).cells2 rfl rfl | exact (hs.pull 6).cells2 rfl rfl | exact (hs.pull 7).cells2 rfl rfl | exact (hs.pull 8).cells2 rfl rfl | exact hs.cell rfl | exact (hs.pull 1).cell rfl | exact (hs.pull 2).cell rfl | exact (hs.pull 3).cell rfl | exact (hs.pull 4).cell rfl | exact (hs.pull 5).cell rfl | exact (hs.pull 6).cell rfl | exact (hs.pull 7).cell rfl | exact (hs.pull 8).cell rfl | assumption | exact hs.cellsOf | exact (hs.pull 1).cellsOf | exact (hs.pull 2).cellsOf | exact (hs.pull 3).cellsOf | exact (hs.pull 4).cellsOf | exact (hs.pull 5).cellsOf | exact (hs.pull 6).cellsOf | exact (hs.pull 7).cellsOf | exact (hs.pull 8).cellsOf) | (and_intros <;> first | exact hs.cells2 rfl rfl | exact (hs.pull 1).cells2 rfl rfl | exact (hs.pull 2).cells2 rfl rfl | exact (hs.pull 3).cells2 rfl rfl | exact (hs.pull 4).cells2 rfl rfl | exact (hs.pull 5).cells2 rfl rfl | exact (hs.pull 6).cells2 rfl rfl | exact (hs.pull 7).cells2 rfl rfl | exact (hs.pull 8).cells2 rfl rfl | exact hs.cell rfl | exact (hs.pull 1).cell rfl | exact (hs.pull 2).cell rfl | exact (hs.pull 3).cell rfl | exact (hs.pull 4).cell rfl | exact (hs.pull 5).cell rfl | exact (hs.pull 6).cell rfl | exact (hs.pull 7).cell rfl | exact (hs.pull 8).cell rfl | assumption | exact hs.cellsOf | exact (hs.pull 1).cellsOf | exact (hs.pull 2).cellsOf | exact (hs.pull 3).cellsOf | exact (hs.pull 4).cellsOf | exact (hs.pull 5).cellsOf | exact (hs.pull 6).cellsOf | exact (hs.pull 7).cellsOf | exact (hs.pull 8).cellsOf)), ?_⟩
    rw [pix_none hp]
    refine x_lssT _ _ rfl rfl (by omega) ?_
    refine x_move (.bool _) rfl ?_
    refine x_skip rfl rfl ?_
    refine x_skip rfl rfl ?_
    refine x_skip rfl rfl ?_
    refine x_skip rfl rfl ?_
    refine x_skip rfl rfl ?_
    refine x_pickT (.bool _) rfl rfl ?_
    refine x_nil ?_
    refine then_n ?_
    refine c_true rfl ?_
    refine c_seq ?_
    -- region 2
    refine c_region ?_
    refine x_assign (.bool _) rfl ?_
    refine x_nil ?_
    refine then_n ?_
    refine c_ret ?_
    refine then_r ?_
    refine ⟨.inr rfl, ?_⟩
    exact ⟨rfl, hs.tail.ri'⟩
  have hx : pix mem p = ((mem.idxOf p : Nat) : Int) := by unfold pix; rw [if_pos hp]
  have hxl := pix_lt hp
  by_cases hn : rLast dn p < n
  rotate_left
  · have hno : ¬ rdoneOk mem dn p n := fun h => hn h.2
    rw [if_neg hno, if_neg hno, decide_eq_false hno]
    obtain ⟨a, c, a', c', hs⟩ := hs.ri
    refine enter Try.func17 rfl Try.ntmps17 6 rfl (Nat.le_of_ble_eq_true rfl) ?_
    refine c_seq ?_
    -- region 0
    refine c_region ?_
    refine x_box hs (.agg #[_, _]) rfl ?_; clear hs; intro b4 w hs; refine ⟨fun h => (by first | (cases h; done) | (first | exact hs.cells2 rfl rfl | exact (hs.pull 1).cells2 rfl rfl | exact (hs.pull 2).cells2 rfl rfl | exact (hs.pull 3).cells2 rfl rfl | exact (hs.pull 4).cells2 rfl rfl | exact (hs.pull 5).cells2 rfl rfl | exact (hs.pull 6).cells2 rfl rfl | exact (hs.pull 7).cells2 rfl rfl | exact (hs.pull 8).cells2 rfl rfl | exact hs.cell rfl | exact (hs.pull 1).cell rfl | exact (hs.pull 2).cell rfl | exact (hs.pull 3).cell rfl | exact (hs.pull 4).cell rfl | exact (hs.pull 5).cell rfl | exact (hs.pull 6).cell rfl | exact (hs.pull 7).cell rfl | exact (hs.pull 8).cell rfl | assumption | exact hs.cellsOf | exact (hs.pull 1).cellsOf | exact (hs.pull 2).cellsOf | exact (hs.pull 3).cellsOf | exact (hs.pull 4).cellsOf | exact (hs.pull 5).cellsOf | exact (hs.pull 6).cellsOf | exact (hs.pull 7).cellsOf | exact (hs.pull 8).cellsOf) | (and_intros <;> first | exact hs.cells2 rfl rfl | exact (hs.pull 1).cells2 rfl rfl | exact (hs.pull 2).cells2 rfl rfl | exact (hs.pull 3).cells2 rfl rfl | exact (hs.pull 4).cells2 rfl rfl | exact (hs.pull 5).cells2 rfl rfl | exact (hs.pull 6).cells2 rfl rfl | exact (hs.pull 7).cells2 rfl rfl | exact (hs.pull 8).cells2 rfl rfl | exact hs.cell rfl | exact (hs.pull 1).cell rfl | exact (hs.pull 2).cell rfl | exact (hs.pull 3).cell rfl | exact (hs.pull 4).cell rfl | exact (hs.pull 5).cell rfl | exact (hs.pull 6).cell rfl | exact (hs.pull 7).cell rfl | exact (hs.pull 8).cell rfl | assumption | exact hs.cellsOf | exact (hs.pull 1).cellsOf | exact (hs.pull 2).cellsOf | exact (hs.pull 3).cellsOf | exact (hs.pull 4).cellsOf | exact (hs.pull 5).cellsOf | exact (hs.pull 6).cellsOf | exact (hs.pull 7).cellsOf | exact (hs.pull 8).cellsOf)), ?_⟩
    refine x_assign (.bool _) rfl ?_
    refine x_nil ?_
    refine then_n ?_
    refine c_seq ?_
    refine c_seq ?_
    -- region 1 DRAWS
    refine c_draw (fun w => (∀ (j : Nat) (u : Value), [Value.int .u16 (p.Id : Nat), Value.int .u32 (p.Inc : Nat)][j]? = some u → w.cell? ((⟨b4, 0, none⟩ : Addr).add j) = some u) ∧ w.cell? ⟨f, 0, none⟩ = some (.slice am mem.length cm)) (fun i => !(Nat.beq i 5 || Nat.beq i 10 || Nat.beq i 11)) [(0, 2), (1, 2), (2, 2), (3, 1), (4, 1), (5, 0), (6, 2), (7, 2), (8, 2), (9, 2), (10, 0), (11, 0), (12, 2), (13, 2)] (by kernel_rfl) (by kernel_rfl) (by kernel_rfl) (by kernel_rfl) ((by first | (first | exact hs.cells2 rfl rfl | exact (hs.pull 1).cells2 rfl rfl | exact (hs.pull 2).cells2 rfl rfl | exact (hs.pull 3).cells2 rfl rfl | exact (hs.pull 4).cells2 rfl rfl | exact (hs.pull 5).cells2 rfl rfl | exact (hs.pull 6).cells2 rfl rfl | exact (hs.pull 7).cells2 rfl rfl | exact (hs.pull 8).cells2 rfl rfl | exact hs.cell rfl | exact (hs.pull 1).cell rfl | exact (hs.pull 2).cell rfl | exact (hs.pull 3).cell rfl | exact (hs.pull 4).cell rfl | exact (hs.pull 5).cell rfl | exact (hs.pull 6).cell rfl | exact (hs.pull 7).cell rfl | exact (hs.pull 8).cell rfl | assumption | exact hs.cellsOf | exact (hs.pull 1).cellsOf | exact (hs.pull 2).cellsOf | exact (hs.pull 3).cellsOf | exact (hs.pull 4).cellsOf | exact (hs.pull 5).cellsOf | exact (hs.pull 6).cellsOf | exact (hs.pull 7).cellsOf | exact (hs.pull 8).cellsOf) | (and_intros <;> first | exact hs.cells2 rfl rfl | exact (hs.pull 1).cells2 rfl rfl | exact (hs.pull 2).cells2 rfl rfl | exact (hs.pull 3).cells2 rfl rfl | exact (hs.pull 4).cells2 rfl rfl | exact (hs.pull 5).cells2 rfl rfl | exact (hs.pull 6).cells2 rfl rfl | exact (hs.pull 7).cells2 rfl rfl | exact (hs.pull 8).cells2 rfl rfl | exact hs.cell rfl | exact (hs.pull 1).cell rfl | exact (hs.pull 2).cell rfl | exact (hs.pull 3).cell rfl | exact (hs.pull 4).cell rfl | exact (hs.pull 5).cell rfl | exact (hs.pull 6).cell rfl | exact (hs.pull 7).cell rfl | exact (hs.pull 8).cell rfl | assumption | exact hs.cellsOf | exact (hs.pull 1).cellsOf | exact (hs.pull 2).cellsOf | exact (hs.pull 3).cellsOf | exact (hs.pull 4).cellsOf | exact (hs.pull 5).cellsOf | exact (hs.pull 6).cellsOf | exact (hs.pull 7).cellsOf | exact (hs.pull 8).cellsOf))) ?_
    replace hs := hs.drew
    refine x_move (.pointer _) rfl ?_
    refine x_nilCheck _ rfl ?_
    first | refine x_field0 fa_52_0 _ rfl ?_ | refine x_field fa_52_0 _ _ rfl ?_
    refine h_load one_23 _ (.slice _ _ _) rfl (fun w hS => by first | exact hS.cell rfl | exact (hS.pull 1).cell rfl | exact (hS.pull 2).cell rfl | exact (hS.pull 3).cell rfl | exact (hS.pull 4).cell rfl | exact (hS.pull 5).cell rfl | exact (hS.pull 6).cell rfl | exact hS | exact hS.1 | exact hS.2 | exact hS.2.1 | exact hS.2.2 | exact hS.2.2.1 | exact hS.2.2.2 | exact hS.2.2.2.1 | exact hS.2.2.2.2 | exact hS.2.2.2.2.1 | exact hS.2.2.2.2.2) ?_
    refine h_loadN [_, _] agg_35 _ rfl (fun w hS => by first | exact hS | exact hS.1 | exact hS.2 | exact hS.2.1 | exact hS.2.2 | exact hS.2.2.1 | exact hS.2.2.2 | exact hS.2.2.2.1 | exact hS.2.2.2.2 | exact hS.2.2.2.2.1 | exact hS.2.2.2.2.2 | exact hS.cellsOf | exact (hS.pull 1).cellsOf | exact (hS.pull 2).cellsOf | exact (hS.pull 3).cellsOf | exact (hS.pull 4).cellsOf | exact (hS.pull 5).cellsOf | exact (hS.pull 6).cellsOf | exact hS.cells2 rfl rfl | exact (hS.pull 1).cells2 rfl rfl | exact (hS.pull 2).cells2 rfl rfl | exact (hS.pull 3).cells2 rfl rfl | exact (hS.pull 4).cells2 rfl rfl | exact (hS.pull 5).cells2 rfl rfl | exact (hS.pull 6).cells2 rfl rfl) ?_
    refine x_call Try.f30 Try.func30 rfl rfl _ rfl ?_
    refine (at08_calls p (hs.pull 5) hr (by omega)).mono ?_
    clear hs; rintro e w ⟨rfl, hs⟩
    replace hs := hs.push 5
    try dsimp only [back] at hs
    refine ⟨_, rfl, fun h => (by first | (cases h; done) | (first | exact hs.cells2 rfl rfl | exact (hs.pull 1).cells2 rfl rfl | exact (hs.pull 2).cells2 rfl rfl | exact (hs.pull 3).cells2 rfl rfl | exact (hs.pull 4).cells2 rfl rfl | exact (hs.pull 5).cells2 rfl rfl | exact (hs.pull 6).cells2 rfl rfl | exact (hs.pull 7).cells2 rfl rfl | exact (hs.pull 8).cells2 rfl rfl | exact hs.cell rfl | exact (hs.pull 1).cell rfl | exact (hs.pull 2).cell rfl | exact (hs.pull 3).cell rfl | exact (hs.pull 4).cell rfl | exact (hs.pull 5).cell rfl | exact (hs.pull 6).cell rfl | exact (hs.pull 7).cell rfl | exact (hs.pull 8).cell rfl | assumption | exact hs.cellsOf | exact (hs.pull 1).cellsOf | exact (hs.pull 2).cellsOf | exact (hs.pull 3).cellsOf | exact (hs.pull 4).cellsOf | exact (hs.pull 5).cellsOf | exact (hs.pull 6).cellsOf | exact (hs.pull 7).cellsOf | exact (hs.pull 8).cellsOf) | (and_intros <;> first | exact hs.cells2 rfl rfl | exact (hs.pull 1).cells2 rfl rfl | exact (hs.pull 2).cells2 rfl rfl | exact (hs.pull 3).cells2 rfl rfl | exact (hs.pull 4).cells2 rfl rfl | exact (hs.pull 5).cells2 rfl rfl | exact (hs.pull 6).cells2 rfl rfl | exact (hs.pull 7).cells2 rfl rfl | exact (hs.pull 8).cells2 rfl rfl | exact hs.cell rfl | exact (hs.pull 1).cell rfl | exact (hs.pull 2).cell rfl | exact (hs.pull 3).cell rfl | exact (hs.pull 4).cell rfl | exact (hs.pull 5).cell rfl | exact (hs.pull 6).cell rfl | exact (hs.pull 7).cell rfl | exact (hs.pull 8).cell rfl | assumption | exact hs.cellsOf | exact (hs.pull 1).cellsOf | exact (hs.pull 2).cellsOf | exact (hs.pull 3).cellsOf | exact (hs.pull 4).cellsOf | exact (hs.pull 5).cellsOf | exact (hs.pull 6).cellsOf | exact (hs.pull 7).cellsOf | exact (hs.pull 8).cellsOf)), ?_⟩
    rw [hx]
    replace hs := Sat.ri' (e := e) (dn := dn) (hs.perm [1, 2, 3, 4, 0, 5])
    refine x_lssF _ _ rfl rfl (by omega) ?_
    refine x_move (.bool _) rfl ?_
    refine x_want' rfl ?_
    refine x_move (.int _ _) rfl ?_
    refine x_want' rfl ?_
    refine x_move (.pointer _) rfl ?_
    refine x_want' rfl ?_
    refine x_loadN [_, _] agg_35 _ rfl (by first | assumption | exact hs.cellsOf | exact (hs.pull 1).cellsOf | exact (hs.pull 2).cellsOf | exact (hs.pull 3).cellsOf | exact (hs.pull 4).cellsOf | exact (hs.pull 5).cellsOf | exact (hs.pull 6).cellsOf | exact (hs.pull 7).cellsOf | exact (hs.pull 8).cellsOf | exact hs.cells2 rfl rfl | exact (hs.pull 1).cells2 rfl rfl | exact (hs.pull 2).cells2 rfl rfl | exact (hs.pull 3).cells2 rfl rfl | exact (hs.pull 4).cells2 rfl rfl | exact (hs.pull 5).cells2 rfl rfl | exact (hs.pull 6).cells2 rfl rfl | exact (hs.pull 7).cells2 rfl rfl | exact (hs.pull 8).cells2 rfl rfl) ?_
    refine x_want' rfl ?_
    refine x_call Try.f21 Try.func21 rfl rfl _ rfl ?_
    refine ((rlast_calls p hs (by omega))).mono ?_
    clear hs; rintro e w ⟨rfl, hs⟩
    refine ⟨_, rfl, fun h => (by first | (cases h; done) | (first | exact hs.cells2 rfl rfl | exact (hs.pull 1).cells2 rfl rfl | exact (hs.pull 2).cells2 rfl rfl | exact (hs.pull 3).cells2 rfl rfl | exact (hs.pull 4).cells2 rfl rfl | exact (hs.pull 5).cells2 rfl rfl | exact (hs.pull 6).cells2 rfl rfl | exact (hs.pull 7).cells2 rfl rfl | exact (hs.pull 8).cells2 rfl rfl | exact hs.cell rfl | exact (hs.pull 1).cell rfl | exact (hs.pull 2).cell rfl | exact (hs.pull 3).cell rfl | exact (hs.pull 4).cell rfl | exact (hs.pull 5).cell rfl | exact (hs.pull 6).cell rfl | exact (hs.pull 7).cell rfl | exact (hs.pull 8).cell rfl | assumption | exact hs.cellsOf | exact (hs.pull 1).cellsOf | exact (hs.pull 2).cellsOf | exact (hs.pull 3).cellsOf | exact (hs.pull 4).cellsOf | exact (hs.pull 5).cellsOf | exact (hs.pull 6).cellsOf | exact (hs.pull 7).cellsOf | exact (hs.pull 8).cellsOf) | (and_intros <;> first | exact hs.cells2 rfl rfl | exact (hs.pull 1).cells2 rfl rfl | exact (hs.pull 2).cells2 rfl rfl | exact (hs.pull 3).cells2 rfl rfl | exact (hs.pull 4).cells2 rfl rfl | exact (hs.pull 5).cells2 rfl rfl | exact (hs.pull 6).cells2 rfl rfl | exact (hs.pull 7).cells2 rfl rfl | exact (hs.pull 8).cells2 rfl rfl | exact hs.cell rfl | exact (hs.pull 1).cell rfl | exact (hs.pull 2).cell rfl | exact (hs.pull 3).cell rfl | exact (hs.pull 4).cell rfl | exact (hs.pull 5).cell rfl | exact (hs.pull 6).cell rfl | exact (hs.pull 7).cell rfl | exact (hs.pull 8).cell rfl | assumption | exact hs.cellsOf | exact (hs.pull 1).cellsOf | exact (hs.pull 2).cellsOf | exact (hs.pull 3).cellsOf | exact (hs.pull 4).cellsOf | exact (hs.pull 5).cellsOf | exact (hs.pull 6).cellsOf | exact (hs.pull 7).cellsOf | exact (hs.pull 8).cellsOf)), ?_⟩
    refine x_want' rfl ?_
    refine x_leqT _ _ rfl rfl (by omega) ?_
    refine x_pickF (.bool _) rfl rfl ?_
    refine x_nil ?_
    refine then_n ?_
    refine c_true rfl ?_
    refine c_seq ?_
    -- region 2
    refine c_region ?_
    refine x_assign (.bool _) rfl ?_
    refine x_nil ?_
    refine then_n ?_
    refine c_ret ?_
    refine then_r ?_
    refine ⟨.inr rfl, ?_⟩
    exact ⟨rfl, hs.sel [0, 2] 3⟩
  have hyes : rdoneOk mem dn p n := ⟨hp, hn⟩
  rw [if_pos hyes, if_pos hyes, decide_eq_true hyes]
  obtain ⟨a, c, a', c', hs⟩ := hs.ri
  refine enter Try.func17 rfl Try.ntmps17 6 rfl (Nat.le_of_ble_eq_true rfl) ?_
  refine c_seq ?_
  -- region 0
  refine c_region ?_
  refine x_box hs (.agg #[_, _]) rfl ?_; clear hs; intro b4 w hs; refine ⟨fun h => (by first | (cases h; done) | (first | exact hs.cells2 rfl rfl | exact (hs.pull 1).cells2 rfl rfl | exact (hs.pull 2).cells2 rfl rfl | exact (hs.pull 3).cells2 rfl rfl | exact (hs.pull 4).cells2 rfl rfl | exact (hs.pull 5).cells2 rfl rfl | exact (hs.pull 6).cells2 rfl rfl | exact (hs.pull 7).cells2 rfl rfl | exact (hs.pull 8).cells2 rfl rfl | exact hs.cell rfl | exact (hs.pull 1).cell rfl | exact (hs.pull 2).cell rfl | exact (hs.pull 3).cell rfl | exact (hs.pull 4).cell rfl | exact (hs.pull 5).cell rfl | exact (hs.pull 6).cell rfl | exact (hs.pull 7).cell rfl | exact (hs.pull 8).cell rfl | assumption | exact hs.cellsOf | exact (hs.pull 1).cellsOf | exact (hs.pull 2).cellsOf | exact (hs.pull 3).cellsOf | exact (hs.pull 4).cellsOf | exact (hs.pull 5).cellsOf | exact (hs.pull 6).cellsOf | exact (hs.pull 7).cellsOf | exact (hs.pull 8).cellsOf) | (and_intros <;> first | exact hs.cells2 rfl rfl | exact (hs.pull 1).cells2 rfl rfl | exact (hs.pull 2).cells2 rfl rfl | exact (hs.pull 3).cells2 rfl rfl | exact (hs.pull 4).cells2 rfl rfl | exact (hs.pull 5).cells2 rfl rfl | exact (hs.pull 6).cells2 rfl rfl | exact (hs.pull 7).cells2 rfl rfl | exact (hs.pull 8).cells2 rfl rfl | exact hs.cell rfl | exact (hs.pull 1).cell rfl | exact (hs.pull 2).cell rfl | exact (hs.pull 3).cell rfl | exact (hs.pull 4).cell rfl | exact (hs.pull 5).cell rfl | exact (hs.pull 6).cell rfl | exact (hs.pull 7).cell rfl | exact (hs.pull 8).cell rfl | assumption | exact hs.cellsOf | exact (hs.pull 1).cellsOf | exact (hs.pull 2).cellsOf | exact (hs.pull 3).cellsOf | exact (hs.pull 4).cellsOf | exact (hs.pull 5).cellsOf | exact (hs.pull 6).cellsOf | exact (hs.pull 7).cellsOf | exact (hs.pull 8).cellsOf)), ?_⟩
  refine x_assign (.bool _) rfl ?_
  refine x_nil ?_
  refine then_n ?_
  refine c_seq ?_
  refine c_seq ?_
  -- region 1 DRAWS
  refine c_draw (fun w => (∀ (j : Nat) (u : Value), [Value.int .u16 (p.Id : Nat), Value.int .u32 (p.Inc : Nat)][j]? = some u → w.cell? ((⟨b4, 0, none⟩ : Addr).add j) = some u) ∧ w.cell? ⟨f, 0, none⟩ = some (.slice am mem.length cm)) (fun i => !(Nat.beq i 5 || Nat.beq i 10 || Nat.beq i 11)) [(0, 2), (1, 2), (2, 2), (3, 1), (4, 1), (5, 0), (6, 2), (7, 2), (8, 2), (9, 2), (10, 0), (11, 0), (12, 2), (13, 2)] (by kernel_rfl) (by kernel_rfl) (by kernel_rfl) (by kernel_rfl) ((by first | (first | exact hs.cells2 rfl rfl | exact (hs.pull 1).cells2 rfl rfl | exact (hs.pull 2).cells2 rfl rfl | exact (hs.pull 3).cells2 rfl rfl | exact (hs.pull 4).cells2 rfl rfl | exact (hs.pull 5).cells2 rfl rfl | exact (hs.pull 6).cells2 rfl rfl | exact (hs.pull 7).cells2 rfl rfl | exact (hs.pull 8).cells2 rfl rfl | exact hs.cell rfl | exact (hs.pull 1).cell rfl | exact (hs.pull 2).cell rfl | exact (hs.pull 3).cell rfl | exact (hs.pull 4).cell rfl | exact (hs.pull 5).cell rfl | exact (hs.pull 6).cell rfl | exact (hs.pull 7).cell rfl | exact (hs.pull 8).cell rfl | assumption | exact hs.cellsOf | exact (hs.pull 1).cellsOf | exact (hs.pull 2).cellsOf | exact (hs.pull 3).cellsOf | exact (hs.pull 4).cellsOf | exact (hs.pull 5).cellsOf | exact (hs.pull 6).cellsOf | exact (hs.pull 7).cellsOf | exact (hs.pull 8).cellsOf) | (and_intros <;> first | exact hs.cells2 rfl rfl | exact (hs.pull 1).cells2 rfl rfl | exact (hs.pull 2).cells2 rfl rfl | exact (hs.pull 3).cells2 rfl rfl | exact (hs.pull 4).cells2 rfl rfl | exact (hs.pull 5).cells2 rfl rfl | exact (hs.pull 6).cells2 rfl rfl | exact (hs.pull 7).cells2 rfl rfl | exact (hs.pull 8).cells2 rfl rfl | exact hs.cell rfl | exact (hs.pull 1).cell rfl | exact (hs.pull 2).cell rfl | exact (hs.pull 3).cell rfl | exact (hs.pull 4).cell rfl | exact (hs.pull 5).cell rfl | exact (hs.pull 6).cell rfl | exact (hs.pull 7).cell rfl | exact (hs.pull 8).cell rfl | assumption | exact hs.cellsOf | exact (hs.pull 1).cellsOf | exact (hs.pull 2).cellsOf | exact (hs.pull 3).cellsOf | exact (hs.pull 4).cellsOf | exact (hs.pull 5).cellsOf | exact (hs.pull 6).cellsOf | exact (hs.pull 7).cellsOf | exact (hs.pull 8).cellsOf))) ?_
  replace hs := hs.drew
  refine x_move (.pointer _) rfl ?_
  refine x_nilCheck _ rfl ?_
  first | refine x_field0 fa_52_0 _ rfl ?_ | refine x_field fa_52_0 _ _ rfl ?_
  refine h_load one_23 _ (.slice _ _ _) rfl (fun w hS => by first | exact hS.cell rfl | exact (hS.pull 1).cell rfl | exact (hS.pull 2).cell rfl | exact (hS.pull 3).cell rfl | exact (hS.pull 4).cell rfl | exact (hS.pull 5).cell rfl | exact (hS.pull 6).cell rfl | exact hS | exact hS.1 | exact hS.2 | exact hS.2.1 | exact hS.2.2 | exact hS.2.2.1 | exact hS.2.2.2 | exact hS.2.2.2.1 | exact hS.2.2.2.2 | exact hS.2.2.2.2.1 | exact hS.2.2.2.2.2) ?_
  refine h_loadN [_, _] agg_35 _ rfl (fun w hS => by first | exact hS | exact hS.1 | exact hS.2 | exact hS.2.1 | exact hS.2.2 | exact hS.2.2.1 | exact hS.2.2.2 | exact hS.2.2.2.1 | exact hS.2.2.2.2 | exact hS.2.2.2.2.1 | exact hS.2.2.2.2.2 | exact hS.cellsOf | exact (hS.pull 1).cellsOf | exact (hS.pull 2).cellsOf | exact (hS.pull 3).cellsOf | exact (hS.pull 4).cellsOf | exact (hS.pull 5).cellsOf | exact (hS.pull 6).cellsOf | exact hS.cells2 rfl rfl | exact (hS.pull 1).cells2 rfl rfl | exact (hS.pull 2).cells2 rfl rfl | exact (hS.pull 3).cells2 rfl rfl | exact (hS.pull 4).cells2 rfl rfl | exact (hS.pull 5).cells2 rfl rfl | exact (hS.pull 6).cells2 rfl rfl) ?_
  refine x_call Try.f30 Try.func30 rfl rfl _ rfl ?_
  refine (at08_calls p (hs.pull 5) hr (by omega)).mono ?_
  clear hs; rintro e w ⟨rfl, hs⟩
  replace hs := hs.push 5
  try dsimp only [back] at hs
  refine ⟨_, rfl, fun h => (by first | (cases h; done) | (first | exact hs.cells2 rfl rfl | exact (hs.pull 1).cells2 rfl rfl | exact (hs.pull 2).cells2 rfl rfl | exact (hs.pull 3).cells2 rfl rfl | exact (hs.pull 4).cells2 rfl rfl | exact (hs.pull 5).cells2 rfl rfl | exact (hs.pull 6).cells2 rfl rfl | exact (hs.pull 7).cells2 rfl rfl | exact (hs.pull 8).cells2 rfl rfl | exact hs.cell rfl | exact (hs.pull 1).cell rfl | exact (hs.pull 2).cell rfl | exact (hs.pull 3).cell rfl | exact (hs.pull 4).cell rfl | exact (hs.pull 5).cell rfl | exact (hs.pull 6).cell rfl | exact (hs.pull 7).cell rfl | exact (hs.pull 8).cell rfl | assumption | exact hs.cellsOf | exact (hs.pull 1).cellsOf | exact (hs.pull 2).cellsOf | exact (hs.pull 3).cellsOf | exact (hs.pull 4).cellsOf | exact (hs.pull 5).cellsOf | exact (hs.pull 6).cellsOf | exact (hs.pull 7).cellsOf | exact (hs.pull 8).cellsOf) | (and_intros <;> first | exact hs.cells2 rfl rfl | exact (hs.pull 1).cells2 rfl rfl | exact (hs.pull 2).cells2 rfl rfl | exact (hs.pull 3).cells2 rfl rfl | exact (hs.pull 4).cells2 rfl rfl | exact (hs.pull 5).cells2 rfl rfl | exact (hs.pull 6).cells2 rfl rfl | exact (hs.pull 7).cells2 rfl rfl | exact (hs.pull 8).cells2 rfl rfl | exact hs.cell rfl | exact (hs.pull 1).cell rfl | exact (hs.pull 2).cell rfl | exact (hs.pull 3).cell rfl | exact (hs.pull 4).cell rfl | exact (hs.pull 5).cell rfl | exact (hs.pull 6).cell rfl | exact (hs.pull 7).cell rfl | exact (hs.pull 8).cell rfl | assumption | exact hs.cellsOf | exact (hs.pull 1).cellsOf | exact (hs.pull 2).cellsOf | exact (hs.pull 3).cellsOf | exact (hs.pull 4).cellsOf | exact (hs.pull 5).cellsOf | exact (hs.pull 6).cellsOf | exact (hs.pull 7).cellsOf | exact (hs.pull 8).cellsOf)), ?_⟩
  rw [hx]
  replace hs := Sat.ri' (e := e) (dn := dn) (hs.perm [1, 2, 3, 4, 0, 5])
  refine x_lssF _ _ rfl rfl (by omega) ?_
  refine x_move (.bool _) rfl ?_
  refine x_want' rfl ?_
  refine x_move (.int _ _) rfl ?_
  refine x_want' rfl ?_
  refine x_move (.pointer _) rfl ?_
  refine x_want' rfl ?_
  refine x_loadN [_, _] agg_35 _ rfl (by first | assumption | exact hs.cellsOf | exact (hs.pull 1).cellsOf | exact (hs.pull 2).cellsOf | exact (hs.pull 3).cellsOf | exact (hs.pull 4).cellsOf | exact (hs.pull 5).cellsOf | exact (hs.pull 6).cellsOf | exact (hs.pull 7).cellsOf | exact (hs.pull 8).cellsOf | exact hs.cells2 rfl rfl | exact (hs.pull 1).cells2 rfl rfl | exact (hs.pull 2).cells2 rfl rfl | exact (hs.pull 3).cells2 rfl rfl | exact (hs.pull 4).cells2 rfl rfl | exact (hs.pull 5).cells2 rfl rfl | exact (hs.pull 6).cells2 rfl rfl | exact (hs.pull 7).cells2 rfl rfl | exact (hs.pull 8).cells2 rfl rfl) ?_
  refine x_want' rfl ?_
  refine x_call Try.f21 Try.func21 rfl rfl _ rfl ?_
  refine ((rlast_calls p hs (by omega))).mono ?_
  clear hs; rintro e w ⟨rfl, hs⟩
  refine ⟨_, rfl, fun h => (by first | (cases h; done) | (first | exact hs.cells2 rfl rfl | exact (hs.pull 1).cells2 rfl rfl | exact (hs.pull 2).cells2 rfl rfl | exact (hs.pull 3).cells2 rfl rfl | exact (hs.pull 4).cells2 rfl rfl | exact (hs.pull 5).cells2 rfl rfl | exact (hs.pull 6).cells2 rfl rfl | exact (hs.pull 7).cells2 rfl rfl | exact (hs.pull 8).cells2 rfl rfl | exact hs.cell rfl | exact (hs.pull 1).cell rfl | exact (hs.pull 2).cell rfl | exact (hs.pull 3).cell rfl | exact (hs.pull 4).cell rfl | exact (hs.pull 5).cell rfl | exact (hs.pull 6).cell rfl | exact (hs.pull 7).cell rfl | exact (hs.pull 8).cell rfl | assumption | exact hs.cellsOf | exact (hs.pull 1).cellsOf | exact (hs.pull 2).cellsOf | exact (hs.pull 3).cellsOf | exact (hs.pull 4).cellsOf | exact (hs.pull 5).cellsOf | exact (hs.pull 6).cellsOf | exact (hs.pull 7).cellsOf | exact (hs.pull 8).cellsOf) | (and_intros <;> first | exact hs.cells2 rfl rfl | exact (hs.pull 1).cells2 rfl rfl | exact (hs.pull 2).cells2 rfl rfl | exact (hs.pull 3).cells2 rfl rfl | exact (hs.pull 4).cells2 rfl rfl | exact (hs.pull 5).cells2 rfl rfl | exact (hs.pull 6).cells2 rfl rfl | exact (hs.pull 7).cells2 rfl rfl | exact (hs.pull 8).cells2 rfl rfl | exact hs.cell rfl | exact (hs.pull 1).cell rfl | exact (hs.pull 2).cell rfl | exact (hs.pull 3).cell rfl | exact (hs.pull 4).cell rfl | exact (hs.pull 5).cell rfl | exact (hs.pull 6).cell rfl | exact (hs.pull 7).cell rfl | exact (hs.pull 8).cell rfl | assumption | exact hs.cellsOf | exact (hs.pull 1).cellsOf | exact (hs.pull 2).cellsOf | exact (hs.pull 3).cellsOf | exact (hs.pull 4).cellsOf | exact (hs.pull 5).cellsOf | exact (hs.pull 6).cellsOf | exact (hs.pull 7).cellsOf | exact (hs.pull 8).cellsOf)), ?_⟩
  refine x_want' rfl ?_
  refine x_leqF _ _ rfl rfl (by omega) ?_
  refine x_pickF (.bool _) rfl rfl ?_
  refine x_nil ?_
  refine then_n ?_
  refine c_false rfl ?_
  refine c_skip ?_
  refine then_n ?_
  refine c_seq ?_
  -- region 3 DRAWS
  obtain ⟨a, c, a', c', hs⟩ := hs.ri
  refine c_draw (fun w => w.cell? ⟨f, 2, none⟩ = some (.slice a' dn.length c') ∧ (∀ (j : Nat) (u : Value), [Value.int .u16 (p.Id : Nat), Value.int .u32 (p.Inc : Nat)][j]? = some u → w.cell? ((⟨b4, 0, none⟩ : Addr).add j) = some u)) (fun i => !(Nat.beq i 9 || Nat.beq i 12)) [(0, 2), (1, 2), (2, 2), (3, 2), (4, 1), (5, 1), (6, 2), (7, 2), (8, 0), (9, 0), (10, 2), (11, 2), (12, 0)] (by kernel_rfl) (by kernel_rfl) (by kernel_rfl) (by kernel_rfl) ((by first | (first | exact hs.cells2 rfl rfl | exact (hs.pull 1).cells2 rfl rfl | exact (hs.pull 2).cells2 rfl rfl | exact (hs.pull 3).cells2 rfl rfl | exact (hs.pull 4).cells2 rfl rfl | exact (hs.pull 5).cells2 rfl rfl | exact (hs.pull 6).cells2 rfl rfl | exact (hs.pull 7).cells2 rfl rfl | exact (hs.pull 8).cells2 rfl rfl | exact hs.cell rfl | exact (hs.pull 1).cell rfl | exact (hs.pull 2).cell rfl | exact (hs.pull 3).cell rfl | exact (hs.pull 4).cell rfl | exact (hs.pull 5).cell rfl | exact (hs.pull 6).cell rfl | exact (hs.pull 7).cell rfl | exact (hs.pull 8).cell rfl | assumption | exact hs.cellsOf | exact (hs.pull 1).cellsOf | exact (hs.pull 2).cellsOf | exact (hs.pull 3).cellsOf | exact (hs.pull 4).cellsOf | exact (hs.pull 5).cellsOf | exact (hs.pull 6).cellsOf | exact (hs.pull 7).cellsOf | exact (hs.pull 8).cellsOf) | (and_intros <;> first | exact hs.cells2 rfl rfl | exact (hs.pull 1).cells2 rfl rfl | exact (hs.pull 2).cells2 rfl rfl | exact (hs.pull 3).cells2 rfl rfl | exact (hs.pull 4).cells2 rfl rfl | exact (hs.pull 5).cells2 rfl rfl | exact (hs.pull 6).cells2 rfl rfl | exact (hs.pull 7).cells2 rfl rfl | exact (hs.pull 8).cells2 rfl rfl | exact hs.cell rfl | exact (hs.pull 1).cell rfl | exact (hs.pull 2).cell rfl | exact (hs.pull 3).cell rfl | exact (hs.pull 4).cell rfl | exact (hs.pull 5).cell rfl | exact (hs.pull 6).cell rfl | exact (hs.pull 7).cell rfl | exact (hs.pull 8).cell rfl | assumption | exact hs.cellsOf | exact (hs.pull 1).cellsOf | exact (hs.pull 2).cellsOf | exact (hs.pull 3).cellsOf | exact (hs.pull 4).cellsOf | exact (hs.pull 5).cellsOf | exact (hs.pull 6).cellsOf | exact (hs.pull 7).cellsOf | exact (hs.pull 8).cellsOf))) ?_
  replace hs := hs.drew
  refine x_move (.pointer _) rfl ?_
  refine x_move (.pointer _) rfl ?_
  refine x_nilCheck _ rfl ?_
  first | refine x_field0 fa_52_2 _ rfl ?_ | refine x_field fa_52_2 _ _ rfl ?_
  refine h_load one_50 _ (.slice _ _ _) rfl (fun w hS => by first | exact hS.cell rfl | exact (hS.pull 1).cell rfl | exact (hS.pull 2).cell rfl | exact (hS.pull 3).cell rfl | exact (hS.pull 4).cell rfl | exact (hS.pull 5).cell rfl | exact (hS.pull 6).cell rfl | exact hS | exact hS.1 | exact hS.2 | exact hS.2.1 | exact hS.2.2 | exact hS.2.2.1 | exact hS.2.2.2 | exact hS.2.2.2.1 | exact hS.2.2.2.2 | exact hS.2.2.2.2.1 | exact hS.2.2.2.2.2) ?_
  refine h_loadN [_, _] agg_35 _ rfl (fun w hS => by first | exact hS | exact hS.1 | exact hS.2 | exact hS.2.1 | exact hS.2.2 | exact hS.2.2.1 | exact hS.2.2.2 | exact hS.2.2.2.1 | exact hS.2.2.2.2 | exact hS.2.2.2.2.1 | exact hS.2.2.2.2.2 | exact hS.cellsOf | exact (hS.pull 1).cellsOf | exact (hS.pull 2).cellsOf | exact (hS.pull 3).cellsOf | exact (hS.pull 4).cellsOf | exact (hS.pull 5).cellsOf | exact (hS.pull 6).cellsOf | exact hS.cells2 rfl rfl | exact (hS.pull 1).cells2 rfl rfl | exact (hS.pull 2).cells2 rfl rfl | exact (hS.pull 3).cells2 rfl rfl | exact (hS.pull 4).cells2 rfl rfl | exact (hS.pull 5).cells2 rfl rfl | exact (hS.pull 6).cells2 rfl rfl) ?_
  refine x_move (.int _ _) rfl ?_
  refine x_build _ [(0, (.agg #[(.int .u16 _), (.int .u32 _)])), (1, (.int .u64 _))] rfl (fun w => bd_54_0_1 _ _ _ w) ?_
  refine x_buildSlice _ [(0, (.agg #[(.int .u16 _), (.int .u32 _), (.int .u64 _), (.slice _ _ _)]))] hs rfl (fun w => bs_50_1 _ _ _ _ _ _ w) ?_; clear hs; intro b31 w hs; refine ⟨fun h => (by first | (cases h; done) | (first | exact hs.cells2 rfl rfl | exact (hs.pull 1).cells2 rfl rfl | exact (hs.pull 2).cells2 rfl rfl | exact (hs.pull 3).cells2 rfl rfl | exact (hs.pull 4).cells2 rfl rfl | exact (hs.pull 5).cells2 rfl rfl | exact (hs.pull 6).cells2 rfl rfl | exact (hs.pull 7).cells2 rfl rfl | exact (hs.pull 8).cells2 rfl rfl | exact hs.cell rfl | exact (hs.pull 1).cell rfl | exact (hs.pull 2).cell rfl | exact (hs.pull 3).cell rfl | exact (hs.pull 4).cell rfl | exact (hs.pull 5).cell rfl | exact (hs.pull 6).cell rfl | exact (hs.pull 7).cell rfl | exact (hs.pull 8).cell rfl | assumption | exact hs.cellsOf | exact (hs.pull 1).cellsOf | exact (hs.pull 2).cellsOf | exact (hs.pull 3).cellsOf | exact (hs.pull 4).cellsOf | exact (hs.pull 5).cellsOf | exact (hs.pull 6).cellsOf | exact (hs.pull 7).cellsOf | exact (hs.pull 8).cellsOf) | (and_intros <;> first | exact hs.cells2 rfl rfl | exact (hs.pull 1).cells2 rfl rfl | exact (hs.pull 2).cells2 rfl rfl | exact (hs.pull 3).cells2 rfl rfl | exact (hs.pull 4).cells2 rfl rfl | exact (hs.pull 5).cells2 rfl rfl | exact (hs.pull 6).cells2 rfl rfl | exact (hs.pull 7).cells2 rfl rfl | exact (hs.pull 8).cells2 rfl rfl | exact hs.cell rfl | exact (hs.pull 1).cell rfl | exact (hs.pull 2).cell rfl | exact (hs.pull 3).cell rfl | exact (hs.pull 4).cell rfl | exact (hs.pull 5).cell rfl | exact (hs.pull 6).cell rfl | exact (hs.pull 7).cell rfl | exact (hs.pull 8).cell rfl | assumption | exact hs.cellsOf | exact (hs.pull 1).cellsOf | exact (hs.pull 2).cellsOf | exact (hs.pull 3).cellsOf | exact (hs.pull 4).cellsOf | exact (hs.pull 5).cellsOf | exact (hs.pull 6).cellsOf | exact (hs.pull 7).cellsOf | exact (hs.pull 8).cellsOf)), ?_⟩
  have hrd := rd_blk (size := 4) hs rfl
  refine x_append (hs.pull 3) Try.underlying50 ei_54 hrd (by intro u hu; simp at hu; rcases hu with rfl | rfl | rfl | rfl <;> rfl) (by unfold maxLen; omega) (by omega) rfl rfl ?_
  clear hs hrd; intro v w hs; refine ⟨fun h => (by cases h), ?_⟩
  obtain ⟨a7, c7, rfl⟩ := hs.rd.val
  have hln : dn.length + 1 = (dn ++ [((p, n) : Key)]).length := by simp
  rw [show dcells dn ++ #[Value.int .u16 (p.Id : Nat), .int .u32 (p.Inc : Nat), .int .u64 (n : Nat), .slice none 0 0].toList = dcells (dn ++ [((p, n) : Key)]) from (dcells_snoc dn (p, n)).symm, hln] at hs
  rw [hln]
  refine x_nilCheck _ rfl ?_
  first | refine x_field0 fa_52_2 _ rfl ?_ | refine x_field fa_52_2 _ _ rfl ?_
  first
    | refine x_storeI hs 0 rfl rfl one_50 (.slice _ _ _) rfl rfl rfl ?_
    | refine x_storeI hs 1 rfl rfl one_50 (.slice _ _ _) rfl rfl rfl ?_
    | refine x_storeI hs 2 rfl rfl one_50 (.slice _ _ _) rfl rfl rfl ?_
    | refine x_storeI hs 3 rfl rfl one_50 (.slice _ _ _) rfl rfl rfl ?_
    | refine x_storeI hs 4 rfl rfl one_50 (.slice _ _ _) rfl rfl rfl ?_
    | refine x_storeI hs 5 rfl rfl one_50 (.slice _ _ _) rfl rfl rfl ?_
    | refine x_storeI hs 6 rfl rfl one_50 (.slice _ _ _) rfl rfl rfl ?_
    | refine x_storeI hs 7 rfl rfl one_50 (.slice _ _ _) rfl rfl rfl ?_
  clear hs; intro w hs
  try dsimp only [back, List.set_cons_zero, List.set_cons_succ] at hs
  refine ⟨fun h => (by first | (cases h; done) | (first | exact hs.cells2 rfl rfl | exact (hs.pull 1).cells2 rfl rfl | exact (hs.pull 2).cells2 rfl rfl | exact (hs.pull 3).cells2 rfl rfl | exact (hs.pull 4).cells2 rfl rfl | exact (hs.pull 5).cells2 rfl rfl | exact (hs.pull 6).cells2 rfl rfl | exact (hs.pull 7).cells2 rfl rfl | exact (hs.pull 8).cells2 rfl rfl | exact hs.cell rfl | exact (hs.pull 1).cell rfl | exact (hs.pull 2).cell rfl | exact (hs.pull 3).cell rfl | exact (hs.pull 4).cell rfl | exact (hs.pull 5).cell rfl | exact (hs.pull 6).cell rfl | exact (hs.pull 7).cell rfl | exact (hs.pull 8).cell rfl | assumption | exact hs.cellsOf | exact (hs.pull 1).cellsOf | exact (hs.pull 2).cellsOf | exact (hs.pull 3).cellsOf | exact (hs.pull 4).cellsOf | exact (hs.pull 5).cellsOf | exact (hs.pull 6).cellsOf | exact (hs.pull 7).cellsOf | exact (hs.pull 8).cellsOf) | (and_intros <;> first | exact hs.cells2 rfl rfl | exact (hs.pull 1).cells2 rfl rfl | exact (hs.pull 2).cells2 rfl rfl | exact (hs.pull 3).cells2 rfl rfl | exact (hs.pull 4).cells2 rfl rfl | exact (hs.pull 5).cells2 rfl rfl | exact (hs.pull 6).cells2 rfl rfl | exact (hs.pull 7).cells2 rfl rfl | exact (hs.pull 8).cells2 rfl rfl | exact hs.cell rfl | exact (hs.pull 1).cell rfl | exact (hs.pull 2).cell rfl | exact (hs.pull 3).cell rfl | exact (hs.pull 4).cell rfl | exact (hs.pull 5).cell rfl | exact (hs.pull 6).cell rfl | exact (hs.pull 7).cell rfl | exact (hs.pull 8).cell rfl | assumption | exact hs.cellsOf | exact (hs.pull 1).cellsOf | exact (hs.pull 2).cellsOf | exact (hs.pull 3).cellsOf | exact (hs.pull 4).cellsOf | exact (hs.pull 5).cellsOf | exact (hs.pull 6).cellsOf | exact (hs.pull 7).cellsOf | exact (hs.pull 8).cellsOf)), ?_⟩
  refine x_nil ?_
  refine then_n ?_
  refine c_seq ?_
  -- region 4
  refine c_region ?_
  refine x_assign (.slice _ _ _) rfl ?_
  refine x_nil ?_
  refine then_n ?_
  refine c_seq ?_
  refine c_seq ?_
  -- region 5
  refine c_region ?_
  refine x_assign (.int _ _) rfl ?_
  refine x_nil ?_
  refine then_n ?_
  refine c_block ?_
  refine c_loop (γ := Nat × Option Addr × Nat) (fun (⟨k, a9, c9⟩ : Nat × Option Addr × Nat) => [(0, .pointer (some ⟨f, 0, none⟩)), (2, .int .u64 (n : Nat)), (4, .pointer (some ⟨b4, 0, none⟩)), (7, .slice a9 (weDone p n (e.take k)).length c9), (8, .int .i64 (k : Nat))]) (fun (⟨k, a9, c9⟩ : Nat × Option Addr × Nat) w => k ≤ e.length ∧ Sat w0 w (Row 54 4 (.slice a9 (weDone p n (e.take k)).length c9) (weDone p n (e.take k)).length (wcells (weDone p n (e.take k))) :: Blk f (.cells #[.slice am mem.length cm, .slice a e.length c, .slice a7 (dn ++ [((p, n) : Key)]).length c7] 52 (0, 0)) :: Row 54 4 (.slice a e.length c) e.length (wcells e) :: Row 54 4 (.slice a7 (dn ++ [((p, n) : Key)]).length c7) (dn ++ [((p, n) : Key)]).length (dcells (dn ++ [(p, n)])) :: EE e :: Blk b4 (.cells #[.int .u16 (p.Id : Nat), .int .u32 (p.Inc : Nat)] 35 (0, 0)) :: A :: L)) (fun (⟨k, a9, c9⟩ : Nat × Option Addr × Nat) => e.length - k) (0, none, 0) ⟨rfl, rfl, rfl, rfl, rfl, trivial⟩ ⟨Nat.zero_le _, Sat.rowNil (hs.sel [2, 3, 0, 4, 5, 6] 7)⟩ ?_
  clear hs
  rintro ⟨k, a9, c9⟩ ρ w ⟨hk, hs⟩
  change CW Try.prog 80 _ _ (sets 80 [(0, .pointer (some ⟨f, 0, none⟩)), (2, .int .u64 (n : Nat)), (4, .pointer (some ⟨b4, 0, none⟩)), (7, .slice a9 (weDone p n (e.take k)).length c9), (8, .int .i64 (k : Nat))] ρ) w
  refine c_seq ?_
  refine c_seq ?_
  -- region 6
  refine c_region ?_
  refine x_move (.int _ _) rfl ?_
  refine x_move (.pointer _) rfl ?_
  refine x_nilCheck _ rfl ?_
  first | refine x_field0 fa_52_1 _ rfl ?_ | refine x_field fa_52_1 _ _ rfl ?_
  refine x_load one_50 _ (.slice _ _ _) rfl (by first | exact hs.cell rfl | exact (hs.pull 1).cell rfl | exact (hs.pull 2).cell rfl | exact (hs.pull 3).cell rfl | assumption | exact (hs.pull 4).cell rfl | exact (hs.pull 5).cell rfl | exact (hs.pull 6).cell rfl | exact (hs.pull 7).cell rfl) ?_
  refine x_lenSl Try.underlying50 _ _ _ rfl ?_
  refine x_lss _ _ rfl rfl ?_
  refine x_nil ?_
  refine then_n ?_
  refine c_test _ rfl (fun hb => ?_) (fun hb => ?_)   -- cond t41
  · skip
    obtain ⟨⟨⟨q, m⟩, vq, dq⟩, hq⟩ : ∃ y, e[k]? = some y := ⟨e[k]'(by omega), List.getElem?_eq_getElem _⟩
    obtain ⟨g2, o2, rfl⟩ := (hs.pull 2).rowAddr (by omega)
    obtain ⟨av, cv, hvq⟩ := EE.one (hs.pull 4) _ (List.mem_of_getElem? hq)
    dsimp only at hvq
    subst hvq
    have hon := weDone_snoc p n (e.take k) ((q, m), .slice av dq.length cv, dq)
    rw [show e.take k ++ [(((q, m), .slice av dq.length cv, dq) : WE)] = e.take (k + 1) from by rw [List.take_add_one, hq]; rfl] at hon
    dsimp only at hon
    have hol := weDone_len p n (e.take k)
    rw [List.length_take] at hol
    by_cases hqp : q = p
    by_cases hmn : n < m
    · skip
      refine c_skip ?_
      refine then_n ?_
      refine c_seq ?_
      refine c_block ?_
      refine c_seq ?_
      -- region 8 DRAWS
      refine c_draw (fun w => w.cell? ⟨f, 1, none⟩ = some (.slice (some ⟨g2, o2, none⟩) e.length c) ∧ (∀ (j : Nat) (u : Value), [Value.int .u16 (q.Id : Nat), Value.int .u32 (q.Inc : Nat)][j]? = some u → w.cell? ((⟨g2, o2 + k * 4, none⟩ : Addr).add j) = some u) ∧ (∀ (j : Nat) (u : Value), [Value.int .u16 (p.Id : Nat), Value.int .u32 (p.Inc : Nat)][j]? = some u → w.cell? ((⟨b4, 0, none⟩ : Addr).add j) = some u) ∧ w.cell? ⟨g2, o2 + k * 4 + 2, none⟩ = some (.int .u64 (m : Nat))) (fun i => !(false)) [(0, 2), (1, 2), (2, 2), (3, 1), (4, 2), (5, 2), (6, 2), (7, 1), (8, 1), (9, 2), (10, 2), (11, 2), (12, 2), (13, 2), (14, 1), (15, 2), (16, 2), (17, 2), (18, 1), (19, 2), (20, 2), (21, 2)] (by kernel_rfl) (by kernel_rfl) (by kernel_rfl) (by kernel_rfl) (⟨(hs.drew.pull 1).cell rfl, (hs.drew.pull 2).wrs.wP hq, (hs.drew.pull 5).cellsOf, (hs.drew.pull 2).wrs.wN hq⟩) ?_
      replace hs := hs.drew
      refine x_move (.pointer _) rfl ?_
      refine x_nilCheck _ rfl ?_
      first | refine x_field0 fa_52_1 _ rfl ?_ | refine x_field fa_52_1 _ _ rfl ?_
      refine h_load one_50 _ (.slice _ _ _) rfl (fun w hS => by first | exact hS.cell rfl | exact (hS.pull 1).cell rfl | exact (hS.pull 2).cell rfl | exact (hS.pull 3).cell rfl | exact (hS.pull 4).cell rfl | exact (hS.pull 5).cell rfl | exact (hS.pull 6).cell rfl | exact hS | exact hS.1 | exact hS.2 | exact hS.2.1 | exact hS.2.2 | exact hS.2.2.1 | exact hS.2.2.2 | exact hS.2.2.2.1 | exact hS.2.2.2.2 | exact hS.2.2.2.2.1 | exact hS.2.2.2.2.2) ?_
      refine x_move (.int _ _) rfl ?_
      refine x_indexAddr Try.underlying50 sz_54 _ _ _ _ _ rfl rfl (by omega) ?_
      first | refine x_field0 fa_54_0 _ rfl ?_ | refine x_field fa_54_0 _ _ rfl ?_
      refine h_loadN [_, _] agg_35 _ rfl (fun w hS => by first | exact hS | exact hS.1 | exact hS.2 | exact hS.2.1 | exact hS.2.2 | exact hS.2.2.1 | exact hS.2.2.2 | exact hS.2.2.2.1 | exact hS.2.2.2.2 | exact hS.2.2.2.2.1 | exact hS.2.2.2.2.2 | exact hS.cellsOf | exact (hS.pull 1).cellsOf | exact (hS.pull 2).cellsOf | exact (hS.pull 3).cellsOf | exact (hS.pull 4).cellsOf | exact (hS.pull 5).cellsOf | exact (hS.pull 6).cellsOf | exact hS.cells2 rfl rfl | exact (hS.pull 1).cells2 rfl rfl | exact (hS.pull 2).cells2 rfl rfl | exact (hS.pull 3).cells2 rfl rfl | exact (hS.pull 4).cells2 rfl rfl | exact (hS.pull 5).cells2 rfl rfl | exact (hS.pull 6).cells2 rfl rfl) ?_
      refine h_loadN [_, _] agg_35 _ rfl (fun w hS => by first | exact hS | exact hS.1 | exact hS.2 | exact hS.2.1 | exact hS.2.2 | exact hS.2.2.1 | exact hS.2.2.2 | exact hS.2.2.2.1 | exact hS.2.2.2.2 | exact hS.2.2.2.2.1 | exact hS.2.2.2.2.2 | exact hS.cellsOf | exact (hS.pull 1).cellsOf | exact (hS.pull 2).cellsOf | exact (hS.pull 3).cellsOf | exact (hS.pull 4).cellsOf | exact (hS.pull 5).cellsOf | exact (hS.pull 6).cellsOf | exact hS.cells2 rfl rfl | exact (hS.pull 1).cells2 rfl rfl | exact (hS.pull 2).cells2 rfl rfl | exact (hS.pull 3).cells2 rfl rfl | exact (hS.pull 4).cells2 rfl rfl | exact (hS.pull 5).cells2 rfl rfl | exact (hS.pull 6).cells2 rfl rfl) ?_
      refine x_neqEF eq_pid q p rfl rfl hqp ?_
      refine x_move (.bool _) rfl ?_
      refine x_want' rfl ?_
      refine x_move (.pointer _) rfl ?_
      refine x_want' rfl ?_
      refine x_nilCheck _ rfl ?_
      refine x_want' rfl ?_
      first | refine x_field0 fa_52_1 _ rfl ?_ | refine x_field fa_52_1 _ _ rfl ?_
      refine x_want' rfl ?_
      refine h_load one_50 _ (.slice _ _ _) rfl (fun w hS => by first | exact hS.cell rfl | exact (hS.pull 1).cell rfl | exact (hS.pull 2).cell rfl | exact (hS.pull 3).cell rfl | exact (hS.pull 4).cell rfl | exact (hS.pull 5).cell rfl | exact (hS.pull 6).cell rfl | exact hS | exact hS.1 | exact hS.2 | exact hS.2.1 | exact hS.2.2 | exact hS.2.2.1 | exact hS.2.2.2 | exact hS.2.2.2.1 | exact hS.2.2.2.2 | exact hS.2.2.2.2.1 | exact hS.2.2.2.2.2) ?_
      refine x_want' rfl ?_
      refine x_move (.int _ _) rfl ?_
      refine x_want' rfl ?_
      refine x_indexAddr Try.underlying50 sz_54 _ _ _ _ _ rfl rfl (by omega) ?_
      refine x_want' rfl ?_
      first | refine x_field0 fa_54_1 _ rfl ?_ | refine x_field fa_54_1 _ _ rfl ?_
      refine x_want' rfl ?_
      refine h_load one_22 _ (.int _ _) rfl (fun w hS => by first | exact hS.cell rfl | exact (hS.pull 1).cell rfl | exact (hS.pull 2).cell rfl | exact (hS.pull 3).cell rfl | exact (hS.pull 4).cell rfl | exact (hS.pull 5).cell rfl | exact (hS.pull 6).cell rfl | exact hS | exact hS.1 | exact hS.2 | exact hS.2.1 | exact hS.2.2 | exact hS.2.2.1 | exact hS.2.2.2 | exact hS.2.2.2.1 | exact hS.2.2.2.2 | exact hS.2.2.2.2.1 | exact hS.2.2.2.2.2) ?_
      refine x_want' rfl ?_
      refine x_move (.int _ _) rfl ?_
      refine x_want' rfl ?_
      refine x_gtrT _ _ rfl rfl (by omega) ?_
      refine x_pickF (.bool _) rfl rfl ?_
      refine x_nil ?_
      refine then_n ?_
      refine c_true rfl ?_
      -- region 9
      have hco := (hs.pull 2).wrs.all wcell_len hq
      have hnb : ¬ bad p n (q, m) := by
        rintro ⟨h1, h2⟩
        dsimp only at h1 h2
        first | exact hqp h1 | omega
      refine c_region ?_
      refine x_move (.slice _ _ _) rfl ?_
      refine x_move (.pointer _) rfl ?_
      refine x_nilCheck _ rfl ?_
      first | refine x_field0 fa_52_1 _ rfl ?_ | refine x_field fa_52_1 _ _ rfl ?_
      refine x_load one_50 _ (.slice _ _ _) rfl (by first | exact hs.cell rfl | exact (hs.pull 1).cell rfl | exact (hs.pull 2).cell rfl | exact (hs.pull 3).cell rfl | assumption | exact (hs.pull 4).cell rfl | exact (hs.pull 5).cell rfl | exact (hs.pull 6).cell rfl | exact (hs.pull 7).cell rfl) ?_
      refine x_move (.int _ _) rfl ?_
      refine x_indexAddr Try.underlying50 sz_54 _ _ _ _ _ rfl rfl (by omega) ?_
      refine x_loadN [.int .u16 (q.Id : Nat), .int .u32 (q.Inc : Nat), .int .u64 (m : Nat), .slice av dq.length cv] agg_54 _ rfl hco ?_
      refine x_buildSlice _ [(0, (.agg #[(.int .u16 _), (.int .u32 _), (.int .u64 _), (.slice _ _ _)]))] hs rfl (fun w => bs_50_1 _ _ _ _ _ _ w) ?_; clear hs; intro b74 w hs; refine ⟨fun h => (by first | (cases h; done) | (first | exact hs.cells2 rfl rfl | exact (hs.pull 1).cells2 rfl rfl | exact (hs.pull 2).cells2 rfl rfl | exact (hs.pull 3).cells2 rfl rfl | exact (hs.pull 4).cells2 rfl rfl | exact (hs.pull 5).cells2 rfl rfl | exact (hs.pull 6).cells2 rfl rfl | exact (hs.pull 7).cells2 rfl rfl | exact (hs.pull 8).cells2 rfl rfl | exact hs.cell rfl | exact (hs.pull 1).cell rfl | exact (hs.pull 2).cell rfl | exact (hs.pull 3).cell rfl | exact (hs.pull 4).cell rfl | exact (hs.pull 5).cell rfl | exact (hs.pull 6).cell rfl | exact (hs.pull 7).cell rfl | exact (hs.pull 8).cell rfl | assumption | exact hs.cellsOf | exact (hs.pull 1).cellsOf | exact (hs.pull 2).cellsOf | exact (hs.pull 3).cellsOf | exact (hs.pull 4).cellsOf | exact (hs.pull 5).cellsOf | exact (hs.pull 6).cellsOf | exact (hs.pull 7).cellsOf | exact (hs.pull 8).cellsOf) | (and_intros <;> first | exact hs.cells2 rfl rfl | exact (hs.pull 1).cells2 rfl rfl | exact (hs.pull 2).cells2 rfl rfl | exact (hs.pull 3).cells2 rfl rfl | exact (hs.pull 4).cells2 rfl rfl | exact (hs.pull 5).cells2 rfl rfl | exact (hs.pull 6).cells2 rfl rfl | exact (hs.pull 7).cells2 rfl rfl | exact (hs.pull 8).cells2 rfl rfl | exact hs.cell rfl | exact (hs.pull 1).cell rfl | exact (hs.pull 2).cell rfl | exact (hs.pull 3).cell rfl | exact (hs.pull 4).cell rfl | exact (hs.pull 5).cell rfl | exact (hs.pull 6).cell rfl | exact (hs.pull 7).cell rfl | exact (hs.pull 8).cell rfl | assumption | exact hs.cellsOf | exact (hs.pull 1).cellsOf | exact (hs.pull 2).cellsOf | exact (hs.pull 3).cellsOf | exact (hs.pull 4).cellsOf | exact (hs.pull 5).cellsOf | exact (hs.pull 6).cellsOf | exact (hs.pull 7).cellsOf | exact (hs.pull 8).cellsOf)), ?_⟩
      have hrd := rd_blk (size := 4) hs rfl
      refine x_append (hs.pull 1) Try.underlying50 ei_54 hrd (by intro u hu; simp at hu; rcases hu with rfl | rfl | rfl | rfl <;> rfl) (by unfold maxLen; omega) (by omega) rfl rfl ?_
      clear hs hrd hco; intro v w hs; refine ⟨fun h => (by cases h), ?_⟩
      obtain ⟨a8, c8, rfl⟩ := hs.rd.val
      have hon' : weDone p n (e.take (k + 1)) = weDone p n (e.take k) ++ [((q, m), .slice av dq.length cv, dq)] := by rw [hon, if_neg hnb]
      have hln : (weDone p n (e.take k)).length + 1 = (weDone p n (e.take (k + 1))).length := by rw [hon']; simp
      rw [show wcells (weDone p n (e.take k)) ++ #[Value.int .u16 (q.Id : Nat), .int .u32 (q.Inc : Nat), .int .u64 (m : Nat), .slice av dq.length cv].toList = wcells (weDone p n (e.take (k + 1))) from by rw [hon', wcells_snoc], hln] at hs
      rw [hln]
      refine x_assign (.slice _ _ _) rfl ?_
      refine x_nil ?_
      refine inb_n ?_
      refine then_n ?_
      -- region 7
      refine c_region ?_
      refine x_move (.int _ _) rfl ?_
      refine x_add _ _ rfl rfl (by simp only [X.lo]; omega) (by simp only [X.hi]; omega) ?_
      refine x_assign (.int _ _) rfl ?_
      refine x_nil ?_
      refine then_n ?_
      refine ⟨(k + 1, a8, c8), ⟨rfl, rfl, rfl, rfl, rfl, trivial⟩, ⟨by omega, (hs.pull 1).tail⟩, by first | omega | (dsimp only; omega)⟩
    · skip
      refine c_skip ?_
      refine then_n ?_
      refine c_seq ?_
      refine c_block ?_
      refine c_seq ?_
      -- region 8 DRAWS
      refine c_draw (fun w => w.cell? ⟨f, 1, none⟩ = some (.slice (some ⟨g2, o2, none⟩) e.length c) ∧ (∀ (j : Nat) (u : Value), [Value.int .u16 (q.Id : Nat), Value.int .u32 (q.Inc : Nat)][j]? = some u → w.cell? ((⟨g2, o2 + k * 4, none⟩ : Addr).add j) = some u) ∧ (∀ (j : Nat) (u : Value), [Value.int .u16 (p.Id : Nat), Value.int .u32 (p.Inc : Nat)][j]? = some u → w.cell? ((⟨b4, 0, none⟩ : Addr).add j) = some u) ∧ w.cell? ⟨g2, o2 + k * 4 + 2, none⟩ = some (.int .u64 (m : Nat))) (fun i => !(false)) [(0, 2), (1, 2), (2, 2), (3, 1), (4, 2), (5, 2), (6, 2), (7, 1), (8, 1), (9, 2), (10, 2), (11, 2), (12, 2), (13, 2), (14, 1), (15, 2), (16, 2), (17, 2), (18, 1), (19, 2), (20, 2), (21, 2)] (by kernel_rfl) (by kernel_rfl) (by kernel_rfl) (by kernel_rfl) (⟨(hs.drew.pull 1).cell rfl, (hs.drew.pull 2).wrs.wP hq, (hs.drew.pull 5).cellsOf, (hs.drew.pull 2).wrs.wN hq⟩) ?_
      replace hs := hs.drew
      refine x_move (.pointer _) rfl ?_
      refine x_nilCheck _ rfl ?_
      first | refine x_field0 fa_52_1 _ rfl ?_ | refine x_field fa_52_1 _ _ rfl ?_
      refine h_load one_50 _ (.slice _ _ _) rfl (fun w hS => by first | exact hS.cell rfl | exact (hS.pull 1).cell rfl | exact (hS.pull 2).cell rfl | exact (hS.pull 3).cell rfl | exact (hS.pull 4).cell rfl | exact (hS.pull 5).cell rfl | exact (hS.pull 6).cell rfl | exact hS | exact hS.1 | exact hS.2 | exact hS.2.1 | exact hS.2.2 | exact hS.2.2.1 | exact hS.2.2.2 | exact hS.2.2.2.1 | exact hS.2.2.2.2 | exact hS.2.2.2.2.1 | exact hS.2.2.2.2.2) ?_
      refine x_move (.int _ _) rfl ?_
      refine x_indexAddr Try.underlying50 sz_54 _ _ _ _ _ rfl rfl (by omega) ?_
      first | refine x_field0 fa_54_0 _ rfl ?_ | refine x_field fa_54_0 _ _ rfl ?_
      refine h_loadN [_, _] agg_35 _ rfl (fun w hS => by first | exact hS | exact hS.1 | exact hS.2 | exact hS.2.1 | exact hS.2.2 | exact hS.2.2.1 | exact hS.2.2.2 | exact hS.2.2.2.1 | exact hS.2.2.2.2 | exact hS.2.2.2.2.1 | exact hS.2.2.2.2.2 | exact hS.cellsOf | exact (hS.pull 1).cellsOf | exact (hS.pull 2).cellsOf | exact (hS.pull 3).cellsOf | exact (hS.pull 4).cellsOf | exact (hS.pull 5).cellsOf | exact (hS.pull 6).cellsOf | exact hS.cells2 rfl rfl | exact (hS.pull 1).cells2 rfl rfl | exact (hS.pull 2).cells2 rfl rfl | exact (hS.pull 3).cells2 rfl rfl | exact (hS.pull 4).cells2 rfl rfl | exact (hS.pull 5).cells2 rfl rfl | exact (hS.pull 6).cells2 rfl rfl) ?_
      refine h_loadN [_, _] agg_35 _ rfl (fun w hS => by first | exact hS | exact hS.1 | exact hS.2 | exact hS.2.1 | exact hS.2.2 | exact hS.2.2.1 | exact hS.2.2.2 | exact hS.2.2.2.1 | exact hS.2.2.2.2 | exact hS.2.2.2.2.1 | exact hS.2.2.2.2.2 | exact hS.cellsOf | exact (hS.pull 1).cellsOf | exact (hS.pull 2).cellsOf | exact (hS.pull 3).cellsOf | exact (hS.pull 4).cellsOf | exact (hS.pull 5).cellsOf | exact (hS.pull 6).cellsOf | exact hS.cells2 rfl rfl | exact (hS.pull 1).cells2 rfl rfl | exact (hS.pull 2).cells2 rfl rfl | exact (hS.pull 3).cells2 rfl rfl | exact (hS.pull 4).cells2 rfl rfl | exact (hS.pull 5).cells2 rfl rfl | exact (hS.pull 6).cells2 rfl rfl) ?_
      refine x_neqEF eq_pid q p rfl rfl hqp ?_
      refine x_move (.bool _) rfl ?_
      refine x_want' rfl ?_
      refine x_move (.pointer _) rfl ?_
      refine x_want' rfl ?_
      refine x_nilCheck _ rfl ?_
      refine x_want' rfl ?_
      first | refine x_field0 fa_52_1 _ rfl ?_ | refine x_field fa_52_1 _ _ rfl ?_
      refine x_want' rfl ?_
      refine h_load one_50 _ (.slice _ _ _) rfl (fun w hS => by first | exact hS.cell rfl | exact (hS.pull 1).cell rfl | exact (hS.pull 2).cell rfl | exact (hS.pull 3).cell rfl | exact (hS.pull 4).cell rfl | exact (hS.pull 5).cell rfl | exact (hS.pull 6).cell rfl | exact hS | exact hS.1 | exact hS.2 | exact hS.2.1 | exact hS.2.2 | exact hS.2.2.1 | exact hS.2.2.2 | exact hS.2.2.2.1 | exact hS.2.2.2.2 | exact hS.2.2.2.2.1 | exact hS.2.2.2.2.2) ?_
      refine x_want' rfl ?_
      refine x_move (.int _ _) rfl ?_
      refine x_want' rfl ?_
      refine x_indexAddr Try.underlying50 sz_54 _ _ _ _ _ rfl rfl (by omega) ?_
      refine x_want' rfl ?_
      first | refine x_field0 fa_54_1 _ rfl ?_ | refine x_field fa_54_1 _ _ rfl ?_
      refine x_want' rfl ?_
      refine h_load one_22 _ (.int _ _) rfl (fun w hS => by first | exact hS.cell rfl | exact (hS.pull 1).cell rfl | exact (hS.pull 2).cell rfl | exact (hS.pull 3).cell rfl | exact (hS.pull 4).cell rfl | exact (hS.pull 5).cell rfl | exact (hS.pull 6).cell rfl | exact hS | exact hS.1 | exact hS.2 | exact hS.2.1 | exact hS.2.2 | exact hS.2.2.1 | exact hS.2.2.2 | exact hS.2.2.2.1 | exact hS.2.2.2.2 | exact hS.2.2.2.2.1 | exact hS.2.2.2.2.2) ?_
      refine x_want' rfl ?_
      refine x_move (.int _ _) rfl ?_
      refine x_want' rfl ?_
      refine x_gtrF _ _ rfl rfl (by omega) ?_
      refine x_pickF (.bool _) rfl rfl ?_
      refine x_nil ?_
      refine then_n ?_
      refine c_false rfl ?_
      refine c_skip ?_
      refine inb_n ?_
      refine then_n ?_
      -- region 7
      refine c_region ?_
      refine x_move (.int _ _) rfl ?_
      refine x_add _ _ rfl rfl (by simp only [X.lo]; omega) (by simp only [X.hi]; omega) ?_
      refine x_assign (.int _ _) rfl ?_
      refine x_nil ?_
      refine then_n ?_
      have hon' : weDone p n (e.take (k + 1)) = weDone p n (e.take k) := by rw [hon, if_pos ⟨hqp, by dsimp only; omega⟩]
      have hs' := hs
      rw [← hon'] at hs'
      rw [← hon']
      refine ⟨(k + 1, a9, c9), ⟨rfl, rfl, rfl, rfl, rfl, trivial⟩, ⟨by omega, hs'⟩, by first | omega | (dsimp only; omega)⟩
    · skip
      refine c_skip ?_
      refine then_n ?_
      refine c_seq ?_
      refine c_block ?_
      refine c_seq ?_
      -- region 8 DRAWS
      refine c_draw (fun w => w.cell? ⟨f, 1, none⟩ = some (.slice (some ⟨g2, o2, none⟩) e.length c) ∧ (∀ (j : Nat) (u : Value), [Value.int .u16 (q.Id : Nat), Value.int .u32 (q.Inc : Nat)][j]? = some u → w.cell? ((⟨g2, o2 + k * 4, none⟩ : Addr).add j) = some u) ∧ (∀ (j : Nat) (u : Value), [Value.int .u16 (p.Id : Nat), Value.int .u32 (p.Inc : Nat)][j]? = some u → w.cell? ((⟨b4, 0, none⟩ : Addr).add j) = some u) ∧ w.cell? ⟨g2, o2 + k * 4 + 2, none⟩ = some (.int .u64 (m : Nat))) (fun i => !(false)) [(0, 2), (1, 2), (2, 2), (3, 1), (4, 2), (5, 2), (6, 2), (7, 1), (8, 1), (9, 2), (10, 2), (11, 2), (12, 2), (13, 2), (14, 1), (15, 2), (16, 2), (17, 2), (18, 1), (19, 2), (20, 2), (21, 2)] (by kernel_rfl) (by kernel_rfl) (by kernel_rfl) (by kernel_rfl) (⟨(hs.drew.pull 1).cell rfl, (hs.drew.pull 2).wrs.wP hq, (hs.drew.pull 5).cellsOf, (hs.drew.pull 2).wrs.wN hq⟩) ?_
      replace hs := hs.drew
      refine x_move (.pointer _) rfl ?_
      refine x_nilCheck _ rfl ?_
      first | refine x_field0 fa_52_1 _ rfl ?_ | refine x_field fa_52_1 _ _ rfl ?_
      refine h_load one_50 _ (.slice _ _ _) rfl (fun w hS => by first | exact hS.cell rfl | exact (hS.pull 1).cell rfl | exact (hS.pull 2).cell rfl | exact (hS.pull 3).cell rfl | exact (hS.pull 4).cell rfl | exact (hS.pull 5).cell rfl | exact (hS.pull 6).cell rfl | exact hS | exact hS.1 | exact hS.2 | exact hS.2.1 | exact hS.2.2 | exact hS.2.2.1 | exact hS.2.2.2 | exact hS.2.2.2.1 | exact hS.2.2.2.2 | exact hS.2.2.2.2.1 | exact hS.2.2.2.2.2) ?_
      refine x_move (.int _ _) rfl ?_
      refine x_indexAddr Try.underlying50 sz_54 _ _ _ _ _ rfl rfl (by omega) ?_
      first | refine x_field0 fa_54_0 _ rfl ?_ | refine x_field fa_54_0 _ _ rfl ?_
      refine h_loadN [_, _] agg_35 _ rfl (fun w hS => by first | exact hS | exact hS.1 | exact hS.2 | exact hS.2.1 | exact hS.2.2 | exact hS.2.2.1 | exact hS.2.2.2 | exact hS.2.2.2.1 | exact hS.2.2.2.2 | exact hS.2.2.2.2.1 | exact hS.2.2.2.2.2 | exact hS.cellsOf | exact (hS.pull 1).cellsOf | exact (hS.pull 2).cellsOf | exact (hS.pull 3).cellsOf | exact (hS.pull 4).cellsOf | exact (hS.pull 5).cellsOf | exact (hS.pull 6).cellsOf | exact hS.cells2 rfl rfl | exact (hS.pull 1).cells2 rfl rfl | exact (hS.pull 2).cells2 rfl rfl | exact (hS.pull 3).cells2 rfl rfl | exact (hS.pull 4).cells2 rfl rfl | exact (hS.pull 5).cells2 rfl rfl | exact (hS.pull 6).cells2 rfl rfl) ?_
      refine h_loadN [_, _] agg_35 _ rfl (fun w hS => by first | exact hS | exact hS.1 | exact hS.2 | exact hS.2.1 | exact hS.2.2 | exact hS.2.2.1 | exact hS.2.2.2 | exact hS.2.2.2.1 | exact hS.2.2.2.2 | exact hS.2.2.2.2.1 | exact hS.2.2.2.2.2 | exact hS.cellsOf | exact (hS.pull 1).cellsOf | exact (hS.pull 2).cellsOf | exact (hS.pull 3).cellsOf | exact (hS.pull 4).cellsOf | exact (hS.pull 5).cellsOf | exact (hS.pull 6).cellsOf | exact hS.cells2 rfl rfl | exact (hS.pull 1).cells2 rfl rfl | exact (hS.pull 2).cells2 rfl rfl | exact (hS.pull 3).cells2 rfl rfl | exact (hS.pull 4).cells2 rfl rfl | exact (hS.pull 5).cells2 rfl rfl | exact (hS.pull 6).cells2 rfl rfl) ?_
      refine x_neqET eq_pid q p rfl rfl hqp ?_
      refine x_move (.bool _) rfl ?_
      refine x_skip rfl rfl ?_
      refine x_skip rfl rfl ?_
      refine x_skip rfl rfl ?_
      refine x_skip rfl rfl ?_
      refine x_skip rfl rfl ?_
      refine x_skip rfl rfl ?_
      refine x_skip rfl rfl ?_
      refine x_skip rfl rfl ?_
      refine x_skip rfl rfl ?_
      refine x_skip rfl rfl ?_
      refine x_pickT (.bool _) rfl rfl ?_
      refine x_nil ?_
      refine then_n ?_
      refine c_true rfl ?_
      -- region 9
      have hco := (hs.pull 2).wrs.all wcell_len hq
      have hnb : ¬ bad p n (q, m) := by
        rintro ⟨h1, h2⟩
        dsimp only at h1 h2
        first | exact hqp h1 | omega
      refine c_region ?_
      refine x_move (.slice _ _ _) rfl ?_
      refine x_move (.pointer _) rfl ?_
      refine x_nilCheck _ rfl ?_
      first | refine x_field0 fa_52_1 _ rfl ?_ | refine x_field fa_52_1 _ _ rfl ?_
      refine x_load one_50 _ (.slice _ _ _) rfl (by first | exact hs.cell rfl | exact (hs.pull 1).cell rfl | exact (hs.pull 2).cell rfl | exact (hs.pull 3).cell rfl | assumption | exact (hs.pull 4).cell rfl | exact (hs.pull 5).cell rfl | exact (hs.pull 6).cell rfl | exact (hs.pull 7).cell rfl) ?_
      refine x_move (.int _ _) rfl ?_
      refine x_indexAddr Try.underlying50 sz_54 _ _ _ _ _ rfl rfl (by omega) ?_
      refine x_loadN [.int .u16 (q.Id : Nat), .int .u32 (q.Inc : Nat), .int .u64 (m : Nat), .slice av dq.length cv] agg_54 _ rfl hco ?_
      refine x_buildSlice _ [(0, (.agg #[(.int .u16 _), (.int .u32 _), (.int .u64 _), (.slice _ _ _)]))] hs rfl (fun w => bs_50_1 _ _ _ _ _ _ w) ?_; clear hs; intro b74 w hs; refine ⟨fun h => (by first | (cases h; done) | (first | exact hs.cells2 rfl rfl | exact (hs.pull 1).cells2 rfl rfl | exact (hs.pull 2).cells2 rfl rfl | exact (hs.pull 3).cells2 rfl rfl | exact (hs.pull 4).cells2 rfl rfl | exact (hs.pull 5).cells2 rfl rfl | exact (hs.pull 6).cells2 rfl rfl | exact (hs.pull 7).cells2 rfl rfl | exact (hs.pull 8).cells2 rfl rfl | exact hs.cell rfl | exact (hs.pull 1).cell rfl | exact (hs.pull 2).cell rfl | exact (hs.pull 3).cell rfl | exact (hs.pull 4).cell rfl | exact (hs.pull 5).cell rfl | exact (hs.pull 6).cell rfl | exact (hs.pull 7).cell rfl | exact (hs.pull 8).cell rfl | assumption | exact hs.cellsOf | exact (hs.pull 1).cellsOf | exact (hs.pull 2).cellsOf | exact (hs.pull 3).cellsOf | exact (hs.pull 4).cellsOf | exact (hs.pull 5).cellsOf | exact (hs.pull 6).cellsOf | exact (hs.pull 7).cellsOf | exact (hs.pull 8).cellsOf) | (and_intros <;> first | exact hs.cells2 rfl rfl | exact (hs.pull 1).cells2 rfl rfl | exact (hs.pull 2).cells2 rfl rfl | exact (hs.pull 3).cells2 rfl rfl | exact (hs.pull 4).cells2 rfl rfl | exact (hs.pull 5).cells2 rfl rfl | exact (hs.pull 6).cells2 rfl rfl | exact (hs.pull 7).cells2 rfl rfl | exact (hs.pull 8).cells2 rfl rfl | exact hs.cell rfl | exact (hs.pull 1).cell rfl | exact (hs.pull 2).cell rfl | exact (hs.pull 3).cell rfl | exact (hs.pull 4).cell rfl | exact (hs.pull 5).cell rfl | exact (hs.pull 6).cell rfl | exact (hs.pull 7).cell rfl | exact (hs.pull 8).cell rfl | assumption | exact hs.cellsOf | exact (hs.pull 1).cellsOf | exact (hs.pull 2).cellsOf | exact (hs.pull 3).cellsOf | exact (hs.pull 4).cellsOf | exact (hs.pull 5).cellsOf | exact (hs.pull 6).cellsOf | exact (hs.pull 7).cellsOf | exact (hs.pull 8).cellsOf)), ?_⟩
      have hrd := rd_blk (size := 4) hs rfl
      refine x_append (hs.pull 1) Try.underlying50 ei_54 hrd (by intro u hu; simp at hu; rcases hu with rfl | rfl | rfl | rfl <;> rfl) (by unfold maxLen; omega) (by omega) rfl rfl ?_
      clear hs hrd hco; intro v w hs; refine ⟨fun h => (by cases h), ?_⟩
      obtain ⟨a8, c8, rfl⟩ := hs.rd.val
      have hon' : weDone p n (e.take (k + 1)) = weDone p n (e.take k) ++ [((q, m), .slice av dq.length cv, dq)] := by rw [hon, if_neg hnb]
      have hln : (weDone p n (e.take k)).length + 1 = (weDone p n (e.take (k + 1))).length := by rw [hon']; simp
      rw [show wcells (weDone p n (e.take k)) ++ #[Value.int .u16 (q.Id : Nat), .int .u32 (q.Inc : Nat), .int .u64 (m : Nat), .slice av dq.length cv].toList = wcells (weDone p n (e.take (k + 1))) from by rw [hon', wcells_snoc], hln] at hs
      rw [hln]
      refine x_assign (.slice _ _ _) rfl ?_
      refine x_nil ?_
      refine inb_n ?_
      refine then_n ?_
      -- region 7
      refine c_region ?_
      refine x_move (.int _ _) rfl ?_
      refine x_add _ _ rfl rfl (by simp only [X.lo]; omega) (by simp only [X.hi]; omega) ?_
      refine x_assign (.int _ _) rfl ?_
      refine x_nil ?_
      refine then_n ?_
      refine ⟨(k + 1, a8, c8), ⟨rfl, rfl, rfl, rfl, rfl, trivial⟩, ⟨by omega, (hs.pull 1).tail⟩, by first | omega | (dsimp only; omega)⟩
  · skip
    refine c_exit ?_
    refine then_x ?_
    refine then_x ?_
    refine inb_e ?_
    refine then_n ?_
    refine c_seq ?_
    -- region 10
    rw [List.take_of_length_le (by omega)] at hs
    rw [List.take_of_length_le (by omega)]
    refine c_region ?_
    refine x_move (.pointer _) rfl ?_
    refine x_move (.slice _ _ _) rfl ?_
    refine x_nilCheck _ rfl ?_
    first | refine x_field0 fa_52_1 _ rfl ?_ | refine x_field fa_52_1 _ _ rfl ?_
    first
      | refine x_storeI hs 0 rfl rfl one_50 (.slice _ _ _) rfl rfl rfl ?_
      | refine x_storeI hs 1 rfl rfl one_50 (.slice _ _ _) rfl rfl rfl ?_
      | refine x_storeI hs 2 rfl rfl one_50 (.slice _ _ _) rfl rfl rfl ?_
      | refine x_storeI hs 3 rfl rfl one_50 (.slice _ _ _) rfl rfl rfl ?_
      | refine x_storeI hs 4 rfl rfl one_50 (.slice _ _ _) rfl rfl rfl ?_
      | refine x_storeI hs 5 rfl rfl one_50 (.slice _ _ _) rfl rfl rfl ?_
      | refine x_storeI hs 6 rfl rfl one_50 (.slice _ _ _) rfl rfl rfl ?_
      | refine x_storeI hs 7 rfl rfl one_50 (.slice _ _ _) rfl rfl rfl ?_
    clear hs; intro w hs
    try dsimp only [back, List.set_cons_zero, List.set_cons_succ] at hs
    refine ⟨fun h => (by first | (cases h; done) | (first | exact hs.cells2 rfl rfl | exact (hs.pull 1).cells2 rfl rfl | exact (hs.pull 2).cells2 rfl rfl | exact (hs.pull 3).cells2 rfl rfl | exact (hs.pull 4).cells2 rfl rfl | exact (hs.pull 5).cells2 rfl rfl | exact (hs.pull 6).cells2 rfl rfl | exact (hs.pull 7).cells2 rfl rfl | exact (hs.pull 8).cells2 rfl rfl | exact hs.cell rfl | exact (hs.pull 1).cell rfl | exact (hs.pull 2).cell rfl | exact (hs.pull 3).cell rfl | exact (hs.pull 4).cell rfl | exact (hs.pull 5).cell rfl | exact (hs.pull 6).cell rfl | exact (hs.pull 7).cell rfl | exact (hs.pull 8).cell rfl | assumption | exact hs.cellsOf | exact (hs.pull 1).cellsOf | exact (hs.pull 2).cellsOf | exact (hs.pull 3).cellsOf | exact (hs.pull 4).cellsOf | exact (hs.pull 5).cellsOf | exact (hs.pull 6).cellsOf | exact (hs.pull 7).cellsOf | exact (hs.pull 8).cellsOf) | (and_intros <;> first | exact hs.cells2 rfl rfl | exact (hs.pull 1).cells2 rfl rfl | exact (hs.pull 2).cells2 rfl rfl | exact (hs.pull 3).cells2 rfl rfl | exact (hs.pull 4).cells2 rfl rfl | exact (hs.pull 5).cells2 rfl rfl | exact (hs.pull 6).cells2 rfl rfl | exact (hs.pull 7).cells2 rfl rfl | exact (hs.pull 8).cells2 rfl rfl | exact hs.cell rfl | exact (hs.pull 1).cell rfl | exact (hs.pull 2).cell rfl | exact (hs.pull 3).cell rfl | exact (hs.pull 4).cell rfl | exact (hs.pull 5).cell rfl | exact (hs.pull 6).cell rfl | exact (hs.pull 7).cell rfl | exact (hs.pull 8).cell rfl | assumption | exact hs.cellsOf | exact (hs.pull 1).cellsOf | exact (hs.pull 2).cellsOf | exact (hs.pull 3).cellsOf | exact (hs.pull 4).cellsOf | exact (hs.pull 5).cellsOf | exact (hs.pull 6).cellsOf | exact (hs.pull 7).cellsOf | exact (hs.pull 8).cellsOf)), ?_⟩
    refine x_nil ?_
    refine then_n ?_
    refine c_seq ?_
    -- region 11
    refine c_region ?_
    refine x_assign (.bool _) rfl ?_
    refine x_nil ?_
    refine then_n ?_
    refine c_ret ?_
    refine ⟨.inr rfl, ?_⟩
    have hs := Sat.eeFilt (fun x => decide (¬ bad p n x.1)) (hs.sel [4, 1, 0, 3, 6] 7)
    exact ⟨rfl, Sat.ri' (e := weDone p n e) (dn := dn ++ [(p, n)]) (hs.perm [1, 2, 3, 0])⟩
end Go.Proofs.Ytiffpkbkmpianaa.X
