/-
  LAYER 23, the reference: its object; Last, find, Next.
-/
import Derived.Test.YtiffpkbkmpianaaInb5
namespace Go.Proofs.Ytiffpkbkmpianaa.X
open Go Go.RowKit
set_option linter.unusedVariables false
set_option maxRecDepth 20000
/-- what is wanted: key, value, bytes -/
abbrev WE : Type := Key × Value × List UInt8
def wcell : WE → List Value := fun x => [.int .u16 (x.1.1.Id : Nat), .int .u32 (x.1.1.Inc : Nat), .int .u64 (x.1.2 : Nat), x.2.1]
theorem wcell_len (x : WE) : (wcell x).length = 4 := rfl
def wcells (l : List WE) : List Value := (l.map wcell).flatten
theorem wcells_snoc (l : List WE) (x : WE) : wcells (l ++ [x]) = wcells l ++ [.int .u16 (x.1.1.Id : Nat), .int .u32 (x.1.1.Inc : Nat), .int .u64 (x.1.2 : Nat), x.2.1] := by simp [wcells, wcell]
/-- what was done -/
def dcell : Key → List Value := fun x => [.int .u16 (x.1.Id : Nat), .int .u32 (x.1.Inc : Nat), .int .u64 (x.2 : Nat), .slice none 0 0]
theorem dcell_len (x : Key) : (dcell x).length = 4 := rfl
def dcells (l : List Key) : List Value := (l.map dcell).flatten
theorem dcells_snoc (l : List Key) (x : Key) : dcells (l ++ [x]) = dcells l ++ [.int .u16 (x.1.Id : Nat), .int .u32 (x.1.Inc : Nat), .int .u64 (x.2 : Nat), .slice none 0 0] := by simp [dcells, dcell]
theorem Sat.wrs {w0 w : World} {v : Value} {l : List WE} {L : List HP} (hs : Sat w0 w (Row 54 4 v l.length (wcells l) :: L)) : RS w 4 wcell v l := hs.rd
theorem Sat.drs {w0 w : World} {v : Value} {l : List Key} {L : List HP} (hs : Sat w0 w (Row 54 4 v l.length (dcells l) :: L)) : RS w 4 dcell v l := hs.rd
theorem RS.wP {w : World} {g o c i : Nat} {x : WE} {l : List WE} (h : RS w 4 wcell (.slice (some ⟨g, o, none⟩) l.length c) l) (hy : l[i]? = some x) : ∀ (j : Nat) (u : Value), [Value.int .u16 (x.1.1.Id : Nat), Value.int .u32 (x.1.1.Inc : Nat)][j]? = some u → w.cell? ((⟨g, o + i * 4, none⟩ : Addr).add j) = some u :=
  cells2 (h.cell wcell_len hy (q := 0) rfl) (h.cell wcell_len hy (q := 1) rfl)
theorem RS.wN {w : World} {g o c i : Nat} {x : WE} {l : List WE} (h : RS w 4 wcell (.slice (some ⟨g, o, none⟩) l.length c) l) (hy : l[i]? = some x) : w.cell? ⟨g, o + i * 4 + 2, none⟩ = some (.int .u64 (x.1.2 : Nat)) := h.cell wcell_len hy (q := 2) rfl
theorem RS.dP {w : World} {g o c i : Nat} {x : Key} {l : List Key} (h : RS w 4 dcell (.slice (some ⟨g, o, none⟩) l.length c) l) (hy : l[i]? = some x) : ∀ (j : Nat) (u : Value), [Value.int .u16 (x.1.Id : Nat), Value.int .u32 (x.1.Inc : Nat)][j]? = some u → w.cell? ((⟨g, o + i * 4, none⟩ : Addr).add j) = some u :=
  cells2 (h.cell dcell_len hy (q := 0) rfl) (h.cell dcell_len hy (q := 1) rfl)
theorem RS.dN {w : World} {g o c i : Nat} {x : Key} {l : List Key} (h : RS w 4 dcell (.slice (some ⟨g, o, none⟩) l.length c) l) (hy : l[i]? = some x) : w.cell? ⟨g, o + i * 4 + 2, none⟩ = some (.int .u64 (x.2 : Nat)) := h.cell dcell_len hy (q := 2) rfl
/-- the document's inbox: its members are read elsewhere -/
def RI (f : Nat) (vm : Value) (e : List WE) (dn : List Key) : HP := fun h => ∃ x : Value × Value, SatH [Blk f (.cells #[vm, x.1, x.2] 52 (0, 0)), Row 54 4 x.1 e.length (wcells e), Row 54 4 x.2 dn.length (dcells dn), EE e] h
theorem Sat.ri {w0 w : World} {f : Nat} {vm : Value} {e : List WE} {dn : List Key} {L : List HP} (hs : Sat w0 w (RI f vm e dn :: L)) :
    ∃ a c a' c', Sat w0 w (Blk f (.cells #[vm, .slice a e.length c, .slice a' dn.length c'] 52 (0, 0)) :: Row 54 4 (.slice a e.length c) e.length (wcells e) :: Row 54 4 (.slice a' dn.length c') dn.length (dcells dn) :: EE e :: L) := by
  obtain ⟨⟨v, u⟩, h⟩ := Sat.ex (F := fun x : Value × Value => SatH [Blk f (.cells #[vm, x.1, x.2] 52 (0, 0)), Row 54 4 x.1 e.length (wcells e), Row 54 4 x.2 dn.length (dcells dn), EE e]) hs
  replace h := h.opn
  obtain ⟨a, c, e1⟩ := (h.pull 1).rd.val
  obtain ⟨a', c', e2⟩ := (h.pull 2).rd.val
  dsimp only at e1 e2
  subst e1 e2
  exact ⟨a, c, a', c', h⟩
theorem Sat.ri' {w0 w : World} {f : Nat} {vm v u : Value} {e : List WE} {dn : List Key} {L : List HP} (hs : Sat w0 w (Blk f (.cells #[vm, v, u] 52 (0, 0)) :: Row 54 4 v e.length (wcells e) :: Row 54 4 u dn.length (dcells dn) :: EE e :: L)) : Sat w0 w (RI f vm e dn :: L) :=
  (Sat.shut (Ls := [Blk f (.cells #[vm, v, u] 52 (0, 0)), Row 54 4 v e.length (wcells e), Row 54 4 u dn.length (dcells dn), EE e]) hs).head fun h hh => ⟨(v, u), hh⟩
def rLast (dn : List Key) (p : Pid) : Nat := dn.foldl (fun n x => if x.1 = p then x.2 else n) 0
theorem rLast_snoc (l : List Key) (x : Key) (p : Pid) : rLast (l ++ [x]) p = if x.1 = p then x.2 else rLast l p := by unfold rLast; rw [List.foldl_append]; rfl
/-- where a want stands; -1: nowhere -/
def wfind (e : List WE) (k : Key) : Int := if k ∈ e.map (·.1) then (((e.map (·.1)).idxOf k : Nat) : Int) else -1
theorem wfind_at {e : List WE} {i : Nat} {k : Key} (h1 : (e.map (·.1))[i]? = some k) (h2 : k ∉ (e.map (·.1)).take i) : wfind e k = i := by
  obtain ⟨hi, hp⟩ := List.getElem?_eq_some_iff.1 h1
  unfold wfind
  rw [if_pos (List.mem_of_getElem? h1)]
  have e : (e.map (·.1)).idxOf k = i := by
    conv => lhs; rw [← List.take_append_drop i (e.map (·.1))]
    rw [List.idxOf_append, if_neg h2, List.drop_eq_getElem_cons hi, hp, List.idxOf_cons_self, List.length_take]
    omega
  rw [e]
set_option maxHeartbeats 1000000 in
theorem rlast_calls {w0 w : World} {L : List HP} {f : Nat} {vm : Value} {e : List WE} {dn : List Key} (p : Pid) (hs : Sat w0 w (RI f vm e dn :: L)) (hl : dn.length ≤ 1000000) :
    Calls Try.prog 21 #[.pointer (some ⟨f, 0, none⟩), .agg #[.int .u16 (p.Id : Nat), .int .u32 (p.Inc : Nat)]] w fun e' w' => e' = .returned (.int .u64 (rLast dn p : Nat)) ∧ Sat w0 w' (RI f vm e dn :: L) := by
  obtain ⟨a, c, a', c', hs⟩ := hs.ri
  refine enter Try.func21 rfl Try.ntmps21 4 rfl (Nat.le_of_ble_eq_true rfl) ?_
  refine c_seq ?_
  -- region 0
  refine c_region ?_
  refine x_box hs (.agg #[_, _]) rfl ?_; clear hs; intro b3 w hs; refine ⟨fun h => (by first | (cases h; done) | (first | exact hs.cells2 rfl rfl | exact (hs.pull 1).cells2 rfl rfl | exact (hs.pull 2).cells2 rfl rfl | exact (hs.pull 3).cells2 rfl rfl | exact (hs.pull 4).cells2 rfl rfl | exact (hs.pull 5).cells2 rfl rfl | exact (hs.pull 6).cells2 rfl rfl | exact (hs.pull 7).cells2 rfl rfl | exact (hs.pull 8).cells2 rfl rfl | exact hs.cell rfl | exact (hs.pull 1).cell rfl | exact (hs.pull 2).cell rfl | exact (hs.pull 3).cell rfl | exact (hs.pull 4).cell rfl | exact (hs.pull 5).cell rfl | exact (hs.pull 6).cell rfl | exact (hs.pull 7).cell rfl | exact (hs.pull 8).cell rfl | assumption | exact hs.cellsOf | exact (hs.pull 1).cellsOf | exact (hs.pull 2).cellsOf | exact (hs.pull 3).cellsOf | exact (hs.pull 4).cellsOf | exact (hs.pull 5).cellsOf | exact (hs.pull 6).cellsOf | exact (hs.pull 7).cellsOf | exact (hs.pull 8).cellsOf) | (and_intros <;> first | exact hs.cells2 rfl rfl | exact (hs.pull 1).cells2 rfl rfl | exact (hs.pull 2).cells2 rfl rfl | exact (hs.pull 3).cells2 rfl rfl | exact (hs.pull 4).cells2 rfl rfl | exact (hs.pull 5).cells2 rfl rfl | exact (hs.pull 6).cells2 rfl rfl | exact (hs.pull 7).cells2 rfl rfl | exact (hs.pull 8).cells2 rfl rfl | exact hs.cell rfl | exact (hs.pull 1).cell rfl | exact (hs.pull 2).cell rfl | exact (hs.pull 3).cell rfl | exact (hs.pull 4).cell rfl | exact (hs.pull 5).cell rfl | exact (hs.pull 6).cell rfl | exact (hs.pull 7).cell rfl | exact (hs.pull 8).cell rfl | assumption | exact hs.cellsOf | exact (hs.pull 1).cellsOf | exact (hs.pull 2).cellsOf | exact (hs.pull 3).cellsOf | exact (hs.pull 4).cellsOf | exact (hs.pull 5).cellsOf | exact (hs.pull 6).cellsOf | exact (hs.pull 7).cellsOf | exact (hs.pull 8).cellsOf)), ?_⟩
  refine x_assign (.int _ _) rfl ?_
  refine x_nil ?_
  refine then_n ?_
  refine c_seq ?_
  -- region 1
  refine c_region ?_
  refine x_assign (.int _ _) rfl ?_
  refine x_nil ?_
  refine then_n ?_
  refine c_seq ?_
  refine c_seq ?_
  -- region 2
  refine c_region ?_
  refine x_assign (.int _ _) rfl ?_
  refine x_nil ?_
  refine then_n ?_
  refine c_block ?_
  refine c_loop (γ := Nat) (fun (i : Nat) => [(0, .pointer (some ⟨f, 0, none⟩)), (3, .pointer (some ⟨b3, 0, none⟩)), (5, .int .u64 (rLast (dn.take i) p : Nat)), (6, .int .i64 (i : Nat))]) (fun (i : Nat) w => i ≤ dn.length ∧ Sat w0 w (Blk b3 (.cells #[.int .u16 (p.Id : Nat), .int .u32 (p.Inc : Nat)] 35 (0, 0)) :: Blk f (.cells #[vm, .slice a e.length c, .slice a' dn.length c'] 52 (0, 0)) :: Row 54 4 (.slice a e.length c) e.length (wcells e) :: Row 54 4 (.slice a' dn.length c') dn.length (dcells dn) :: EE e :: L)) (fun (i : Nat) => dn.length - i) 0 ⟨rfl, rfl, rfl, rfl, trivial⟩ ⟨Nat.zero_le _, hs⟩ ?_
  clear hs
  rintro i ρ w ⟨hi, hs⟩
  change CW Try.prog 35 _ _ (sets 35 [(0, .pointer (some ⟨f, 0, none⟩)), (3, .pointer (some ⟨b3, 0, none⟩)), (5, .int .u64 (rLast (dn.take i) p : Nat)), (6, .int .i64 (i : Nat))] ρ) w
  refine c_seq ?_
  refine c_seq ?_
  -- region 3
  refine c_region ?_
  refine x_move (.int _ _) rfl ?_
  refine x_move (.pointer _) rfl ?_
  refine x_nilCheck _ rfl ?_
  first | refine x_field0 fa_52_2 _ rfl ?_ | refine x_field fa_52_2 _ _ rfl ?_
  refine x_load one_50 _ (.slice _ _ _) rfl (by first | exact hs.cell rfl | exact (hs.pull 1).cell rfl | exact (hs.pull 2).cell rfl | exact (hs.pull 3).cell rfl | assumption | exact (hs.pull 4).cell rfl | exact (hs.pull 5).cell rfl | exact (hs.pull 6).cell rfl | exact (hs.pull 7).cell rfl) ?_
  refine x_lenSl Try.underlying50 _ _ _ rfl ?_
  refine x_lss _ _ rfl rfl ?_
  refine x_nil ?_
  refine then_n ?_
  refine c_test _ rfl (fun hb => ?_) (fun hb => ?_)   -- cond t13
  · skip
    refine c_skip ?_
    refine then_n ?_
    refine c_seq ?_
    refine c_block ?_
    refine c_seq ?_
    -- region 5 DRAWS
    obtain ⟨⟨q, m⟩, hy⟩ : ∃ y, dn[i]? = some y := ⟨dn[i]'(by omega), List.getElem?_eq_getElem _⟩
    obtain ⟨g, o, rfl⟩ := (hs.pull 3).rowAddr (by omega)
    have hon := rLast_snoc (dn.take i) (q, m) p
    rw [show dn.take i ++ [(q, m)] = dn.take (i + 1) from by rw [List.take_add_one, hy]; rfl] at hon
    dsimp only at hon
    refine c_draw (fun w => w.cell? ⟨f, 2, none⟩ = some (.slice (some ⟨g, o, none⟩) dn.length c') ∧ (∀ (j : Nat) (u : Value), [Value.int .u16 (q.Id : Nat), Value.int .u32 (q.Inc : Nat)][j]? = some u → w.cell? ((⟨g, o + i * 4, none⟩ : Addr).add j) = some u) ∧ (∀ (j : Nat) (u : Value), [Value.int .u16 (p.Id : Nat), Value.int .u32 (p.Inc : Nat)][j]? = some u → w.cell? ((⟨b3, 0, none⟩ : Addr).add j) = some u)) (fun i => !(false)) [(0, 2), (1, 2), (2, 2), (3, 1), (4, 2), (5, 2), (6, 2), (7, 1), (8, 1), (9, 2)] (by kernel_rfl) (by kernel_rfl) (by kernel_rfl) (by kernel_rfl) (⟨(hs.drew.pull 1).cell rfl, (hs.drew.pull 3).drs.dP hy, hs.drew.cellsOf⟩) ?_
    replace hs := hs.drew
    refine x_move (.pointer _) rfl ?_
    refine x_nilCheck _ rfl ?_
    first | refine x_field0 fa_52_2 _ rfl ?_ | refine x_field fa_52_2 _ _ rfl ?_
    refine h_load one_50 _ (.slice _ _ _) rfl (fun w hS => by first | exact hS.cell rfl | exact (hS.pull 1).cell rfl | exact (hS.pull 2).cell rfl | exact (hS.pull 3).cell rfl | exact (hS.pull 4).cell rfl | exact (hS.pull 5).cell rfl | exact (hS.pull 6).cell rfl | exact hS | exact hS.1 | exact hS.2 | exact hS.2.1 | exact hS.2.2 | exact hS.2.2.1 | exact hS.2.2.2 | exact hS.2.2.2.1 | exact hS.2.2.2.2 | exact hS.2.2.2.2.1 | exact hS.2.2.2.2.2) ?_
    refine x_move (.int _ _) rfl ?_
    refine x_indexAddr Try.underlying50 sz_54 _ _ _ _ _ rfl rfl (by omega) ?_
    first | refine x_field0 fa_54_0 _ rfl ?_ | refine x_field fa_54_0 _ _ rfl ?_
    refine h_loadN [_, _] agg_35 _ rfl (fun w hS => by first | exact hS | exact hS.1 | exact hS.2 | exact hS.2.1 | exact hS.2.2 | exact hS.2.2.1 | exact hS.2.2.2 | exact hS.2.2.2.1 | exact hS.2.2.2.2 | exact hS.2.2.2.2.1 | exact hS.2.2.2.2.2 | exact hS.cellsOf | exact (hS.pull 1).cellsOf | exact (hS.pull 2).cellsOf | exact (hS.pull 3).cellsOf | exact (hS.pull 4).cellsOf | exact (hS.pull 5).cellsOf | exact (hS.pull 6).cellsOf | exact hS.cells2 rfl rfl | exact (hS.pull 1).cells2 rfl rfl | exact (hS.pull 2).cells2 rfl rfl | exact (hS.pull 3).cells2 rfl rfl | exact (hS.pull 4).cells2 rfl rfl | exact (hS.pull 5).cells2 rfl rfl | exact (hS.pull 6).cells2 rfl rfl) ?_
    refine h_loadN [_, _] agg_35 _ rfl (fun w hS => by first | exact hS | exact hS.1 | exact hS.2 | exact hS.2.1 | exact hS.2.2 | exact hS.2.2.1 | exact hS.2.2.2 | exact hS.2.2.2.1 | exact hS.2.2.2.2 | exact hS.2.2.2.2.1 | exact hS.2.2.2.2.2 | exact hS.cellsOf | exact (hS.pull 1).cellsOf | exact (hS.pull 2).cellsOf | exact (hS.pull 3).cellsOf | exact (hS.pull 4).cellsOf | exact (hS.pull 5).cellsOf | exact (hS.pull 6).cellsOf | exact hS.cells2 rfl rfl | exact (hS.pull 1).cells2 rfl rfl | exact (hS.pull 2).cells2 rfl rfl | exact (hS.pull 3).cells2 rfl rfl | exact (hS.pull 4).cells2 rfl rfl | exact (hS.pull 5).cells2 rfl rfl | exact (hS.pull 6).cells2 rfl rfl) ?_
    refine x_eqlE eq_pid q p rfl rfl ?_
    refine x_nil ?_
    refine then_n ?_
    refine c_cond rfl (fun hb => ?_) (fun hb => ?_)   -- cond t25
    · skip
      -- region 6
      have hcn := (hs.pull 3).drs.dN hy
      dsimp only at hcn
      rw [if_pos (by simpa using hb)] at hon
      refine c_region ?_
      refine x_move (.pointer _) rfl ?_
      refine x_nilCheck _ rfl ?_
      first | refine x_field0 fa_52_2 _ rfl ?_ | refine x_field fa_52_2 _ _ rfl ?_
      refine x_load one_50 _ (.slice _ _ _) rfl (by first | exact hs.cell rfl | exact (hs.pull 1).cell rfl | exact (hs.pull 2).cell rfl | exact (hs.pull 3).cell rfl | assumption | exact (hs.pull 4).cell rfl | exact (hs.pull 5).cell rfl | exact (hs.pull 6).cell rfl | exact (hs.pull 7).cell rfl) ?_
      refine x_move (.int _ _) rfl ?_
      refine x_indexAddr Try.underlying50 sz_54 _ _ _ _ _ rfl rfl (by omega) ?_
      first | refine x_field0 fa_54_1 _ rfl ?_ | refine x_field fa_54_1 _ _ rfl ?_
      refine x_load one_22 _ (.int _ _) rfl (by first | exact hs.cell rfl | exact (hs.pull 1).cell rfl | exact (hs.pull 2).cell rfl | exact (hs.pull 3).cell rfl | assumption | exact (hs.pull 4).cell rfl | exact (hs.pull 5).cell rfl | exact (hs.pull 6).cell rfl | exact (hs.pull 7).cell rfl) ?_
      refine x_assign (.int _ _) rfl ?_
      refine x_nil ?_
      refine inb_n ?_
      refine then_n ?_
      -- region 4
      refine c_region ?_
      refine x_move (.int _ _) rfl ?_
      refine x_add _ _ rfl rfl (by simp only [X.lo]; omega) (by simp only [X.hi]; omega) ?_
      refine x_assign (.int _ _) rfl ?_
      refine x_nil ?_
      refine then_n ?_
      rw [← hon]
      refine ⟨i + 1, ⟨rfl, rfl, rfl, rfl, trivial⟩, ⟨by omega, hs⟩, by first | omega | (dsimp only; omega)⟩
    · skip
      refine c_skip ?_
      refine inb_n ?_
      refine then_n ?_
      -- region 4
      refine c_region ?_
      refine x_move (.int _ _) rfl ?_
      refine x_add _ _ rfl rfl (by simp only [X.lo]; omega) (by simp only [X.hi]; omega) ?_
      refine x_assign (.int _ _) rfl ?_
      refine x_nil ?_
      refine then_n ?_
      rw [if_neg (by simpa using hb)] at hon
      rw [← hon]
      refine ⟨i + 1, ⟨rfl, rfl, rfl, rfl, trivial⟩, ⟨by omega, hs⟩, by first | omega | (dsimp only; omega)⟩
  · skip
    refine c_exit ?_
    refine then_x ?_
    refine then_x ?_
    refine inb_e ?_
    refine then_n ?_
    refine c_seq ?_
    -- region 7
    refine c_region ?_
    refine x_move (.int _ _) rfl ?_
    refine x_assign (.int _ _) rfl ?_
    refine x_nil ?_
    refine then_n ?_
    refine c_ret ?_
    refine ⟨.inr rfl, ?_⟩
    rw [List.take_of_length_le (by omega)]
    exact ⟨rfl, hs.tail.ri'⟩
set_option maxHeartbeats 1000000 in
theorem rfind_calls {w0 w : World} {L : List HP} {f : Nat} {vm : Value} {e : List WE} {dn : List Key} (p : Pid) (n : Nat) (hs : Sat w0 w (RI f vm e dn :: L)) (hl : e.length ≤ 1000000) :
    Calls Try.prog 31 #[.pointer (some ⟨f, 0, none⟩), .agg #[.int .u16 (p.Id : Nat), .int .u32 (p.Inc : Nat)], .int .u64 (n : Nat)] w fun e' w' => e' = .returned (.int .i64 (wfind e (p, n))) ∧ Sat w0 w' (RI f vm e dn :: L) := by
  obtain ⟨a, c, a', c', hs⟩ := hs.ri
  refine enter Try.func31 rfl Try.ntmps31 6 rfl (Nat.le_of_ble_eq_true rfl) ?_
  refine c_seq ?_
  -- region 0
  refine c_region ?_
  refine x_box hs (.agg #[_, _]) rfl ?_; clear hs; intro b4 w hs; refine ⟨fun h => (by first | (cases h; done) | (first | exact hs.cells2 rfl rfl | exact (hs.pull 1).cells2 rfl rfl | exact (hs.pull 2).cells2 rfl rfl | exact (hs.pull 3).cells2 rfl rfl | exact (hs.pull 4).cells2 rfl rfl | exact (hs.pull 5).cells2 rfl rfl | exact (hs.pull 6).cells2 rfl rfl | exact (hs.pull 7).cells2 rfl rfl | exact (hs.pull 8).cells2 rfl rfl | exact hs.cell rfl | exact (hs.pull 1).cell rfl | exact (hs.pull 2).cell rfl | exact (hs.pull 3).cell rfl | exact (hs.pull 4).cell rfl | exact (hs.pull 5).cell rfl | exact (hs.pull 6).cell rfl | exact (hs.pull 7).cell rfl | exact (hs.pull 8).cell rfl | assumption | exact hs.cellsOf | exact (hs.pull 1).cellsOf | exact (hs.pull 2).cellsOf | exact (hs.pull 3).cellsOf | exact (hs.pull 4).cellsOf | exact (hs.pull 5).cellsOf | exact (hs.pull 6).cellsOf | exact (hs.pull 7).cellsOf | exact (hs.pull 8).cellsOf) | (and_intros <;> first | exact hs.cells2 rfl rfl | exact (hs.pull 1).cells2 rfl rfl | exact (hs.pull 2).cells2 rfl rfl | exact (hs.pull 3).cells2 rfl rfl | exact (hs.pull 4).cells2 rfl rfl | exact (hs.pull 5).cells2 rfl rfl | exact (hs.pull 6).cells2 rfl rfl | exact (hs.pull 7).cells2 rfl rfl | exact (hs.pull 8).cells2 rfl rfl | exact hs.cell rfl | exact (hs.pull 1).cell rfl | exact (hs.pull 2).cell rfl | exact (hs.pull 3).cell rfl | exact (hs.pull 4).cell rfl | exact (hs.pull 5).cell rfl | exact (hs.pull 6).cell rfl | exact (hs.pull 7).cell rfl | exact (hs.pull 8).cell rfl | assumption | exact hs.cellsOf | exact (hs.pull 1).cellsOf | exact (hs.pull 2).cellsOf | exact (hs.pull 3).cellsOf | exact (hs.pull 4).cellsOf | exact (hs.pull 5).cellsOf | exact (hs.pull 6).cellsOf | exact (hs.pull 7).cellsOf | exact (hs.pull 8).cellsOf)), ?_⟩
  refine x_assign (.int _ _) rfl ?_
  refine x_nil ?_
  refine then_n ?_
  refine c_seq ?_
  refine c_seq ?_
  -- region 1
  refine c_region ?_
  refine x_assign (.int _ _) rfl ?_
  refine x_nil ?_
  refine then_n ?_
  refine c_block ?_
  refine c_loop (γ := Nat) (fun (i : Nat) => [(0, .pointer (some ⟨f, 0, none⟩)), (2, .int .u64 (n : Nat)), (4, .pointer (some ⟨b4, 0, none⟩)), (7, .int .i64 (i : Nat))]) (fun (i : Nat) w => i ≤ e.length ∧ (p, n) ∉ (e.map (·.1)).take i ∧ Sat w0 w (Blk b4 (.cells #[.int .u16 (p.Id : Nat), .int .u32 (p.Inc : Nat)] 35 (0, 0)) :: Blk f (.cells #[vm, .slice a e.length c, .slice a' dn.length c'] 52 (0, 0)) :: Row 54 4 (.slice a e.length c) e.length (wcells e) :: Row 54 4 (.slice a' dn.length c') dn.length (dcells dn) :: EE e :: L)) (fun (i : Nat) => e.length - i) 0 ⟨rfl, rfl, rfl, rfl, trivial⟩ ⟨Nat.zero_le _, by simp, hs⟩ ?_
  clear hs
  rintro i ρ w ⟨hi, hno, hs⟩
  change CW Try.prog 40 _ _ (sets 40 [(0, .pointer (some ⟨f, 0, none⟩)), (2, .int .u64 (n : Nat)), (4, .pointer (some ⟨b4, 0, none⟩)), (7, .int .i64 (i : Nat))] ρ) w
  refine c_seq ?_
  refine c_seq ?_
  -- region 2
  refine c_region ?_
  refine x_move (.int _ _) rfl ?_
  refine x_move (.pointer _) rfl ?_
  refine x_nilCheck _ rfl ?_
  first | refine x_field0 fa_52_1 _ rfl ?_ | refine x_field fa_52_1 _ _ rfl ?_
  refine x_load one_50 _ (.slice _ _ _) rfl (by first | exact hs.cell rfl | exact (hs.pull 1).cell rfl | exact (hs.pull 2).cell rfl | exact (hs.pull 3).cell rfl | assumption | exact (hs.pull 4).cell rfl | exact (hs.pull 5).cell rfl | exact (hs.pull 6).cell rfl | exact (hs.pull 7).cell rfl) ?_
  refine x_lenSl Try.underlying50 _ _ _ rfl ?_
  refine x_lss _ _ rfl rfl ?_
  refine x_nil ?_
  refine then_n ?_
  refine c_test _ rfl (fun hb => ?_) (fun hb => ?_)   -- cond t14
  · skip
    obtain ⟨⟨⟨q, m⟩, vq, dq⟩, hy⟩ : ∃ y, e[i]? = some y := ⟨e[i]'(by omega), List.getElem?_eq_getElem _⟩
    have hyk : (e.map (·.1))[i]? = some (q, m) := by rw [List.getElem?_map, hy]; rfl
    obtain ⟨g, o, rfl⟩ := (hs.pull 2).rowAddr (by omega)
    have hno' : (q, m) ≠ (p, n) → (p, n) ∉ (e.map (·.1)).take (i + 1) := fun hne h => by
      rw [List.take_add_one, hyk] at h
      simp only [Option.toList_some, List.mem_append, List.mem_singleton] at h
      rcases h with h | h
      · exact hno h
      · exact hne h.symm
    by_cases hqp : q = p
    by_cases hmn : m = n
    · skip
      refine c_skip ?_
      refine then_n ?_
      refine c_seq ?_
      refine c_block ?_
      refine c_seq ?_
      -- region 4 DRAWS
      refine c_draw (fun w => w.cell? ⟨f, 1, none⟩ = some (.slice (some ⟨g, o, none⟩) e.length c) ∧ (∀ (j : Nat) (u : Value), [Value.int .u16 (q.Id : Nat), Value.int .u32 (q.Inc : Nat)][j]? = some u → w.cell? ((⟨g, o + i * 4, none⟩ : Addr).add j) = some u) ∧ (∀ (j : Nat) (u : Value), [Value.int .u16 (p.Id : Nat), Value.int .u32 (p.Inc : Nat)][j]? = some u → w.cell? ((⟨b4, 0, none⟩ : Addr).add j) = some u) ∧ w.cell? ⟨g, o + i * 4 + 2, none⟩ = some (.int .u64 (m : Nat))) (fun i => !(false)) [(0, 2), (1, 2), (2, 2), (3, 1), (4, 2), (5, 2), (6, 2), (7, 1), (8, 1), (9, 2), (10, 2), (11, 2), (12, 2), (13, 2), (14, 1), (15, 2), (16, 2), (17, 2), (18, 1), (19, 2), (20, 2), (21, 2)] (by kernel_rfl) (by kernel_rfl) (by kernel_rfl) (by kernel_rfl) (⟨(hs.drew.pull 1).cell rfl, (hs.drew.pull 2).wrs.wP hy, hs.drew.cellsOf, (hs.drew.pull 2).wrs.wN hy⟩) ?_
      replace hs := hs.drew
      refine x_move (.pointer _) rfl ?_
      refine x_nilCheck _ rfl ?_
      first | refine x_field0 fa_52_1 _ rfl ?_ | refine x_field fa_52_1 _ _ rfl ?_
      refine h_load one_50 _ (.slice _ _ _) rfl (fun w hS => by first | exact hS.cell rfl | exact (hS.pull 1).cell rfl | exact (hS.pull 2).cell rfl | exact (hS.pull 3).cell rfl | exact (hS.pull 4).cell rfl | exact (hS.pull 5).cell rfl | exact (hS.pull 6).cell rfl | exact hS | exact hS.1 | exact hS.2 | exact hS.2.1 | exact hS.2.2 | exact hS.2.2.1 | exact hS.2.2.2 | exact hS.2.2.2.1 | exact hS.2.2.2.2 | exact hS.2.2.2.2.1 | exact hS.2.2.2.2.2) ?_
      refine x_move (.int _ _) rfl ?_
      refine x_indexAddr Try.underlying50 sz_54 _ _ _ _ _ rfl rfl (by omega) ?_
      first | refine x_field0 fa_54_0 _ rfl ?_ | refine x_field fa_54_0 _ _ rfl ?_
      refine h_loadN [_, _] agg_35 _ rfl (fun w hS => by first | exact hS | exact hS.1 | exact hS.2 | exact hS.2.1 | exact hS.2.2 | exact hS.2.2.1 | exact hS.2.2.2 | exact hS.2.2.2.1 | exact hS.2.2.2.2 | exact hS.2.2.2.2.1 | exact hS.2.2.2.2.2 | exact hS.cellsOf | exact (hS.pull 1).cellsOf | exact (hS.pull 2).cellsOf | exact (hS.pull 3).cellsOf | exact (hS.pull 4).cellsOf | exact (hS.pull 5).cellsOf | exact (hS.pull 6).cellsOf | exact hS.cells2 rfl rfl | exact (hS.pull 1).cells2 rfl rfl | exact (hS.pull 2).cells2 rfl rfl | exact (hS.pull 3).cells2 rfl rfl | exact (hS.pull 4).cells2 rfl rfl | exact (hS.pull 5).cells2 rfl rfl | exact (hS.pull 6).cells2 rfl rfl) ?_
      refine h_loadN [_, _] agg_35 _ rfl (fun w hS => by first | exact hS | exact hS.1 | exact hS.2 | exact hS.2.1 | exact hS.2.2 | exact hS.2.2.1 | exact hS.2.2.2 | exact hS.2.2.2.1 | exact hS.2.2.2.2 | exact hS.2.2.2.2.1 | exact hS.2.2.2.2.2 | exact hS.cellsOf | exact (hS.pull 1).cellsOf | exact (hS.pull 2).cellsOf | exact (hS.pull 3).cellsOf | exact (hS.pull 4).cellsOf | exact (hS.pull 5).cellsOf | exact (hS.pull 6).cellsOf | exact hS.cells2 rfl rfl | exact (hS.pull 1).cells2 rfl rfl | exact (hS.pull 2).cells2 rfl rfl | exact (hS.pull 3).cells2 rfl rfl | exact (hS.pull 4).cells2 rfl rfl | exact (hS.pull 5).cells2 rfl rfl | exact (hS.pull 6).cells2 rfl rfl) ?_
      refine x_eqlET eq_pid q p rfl rfl hqp ?_
      refine x_move (.bool _) rfl ?_
      refine x_want' rfl ?_
      refine x_move (.pointer _) rfl ?_
      refine x_want' rfl ?_
      refine x_nilCheck _ rfl ?_
      refine x_want' rfl ?_
      first | refine x_field0 fa_52_1 _ rfl ?_ | refine x_field fa_52_1 _ _ rfl ?_
      refine x_want' rfl ?_
      refine h_load one_50 _ (.slice _ _ _) rfl (fun w hS => by first | exact hS.cell rfl | exact (hS.pull 1).cell rfl | exact (hS.pull 2).cell rfl | exact (hS.pull 3).cell rfl | exact (hS.pull 4).cell rfl | exact (hS.pull 5).cell rfl | exact (hS.pull 6).cell rfl | exact hS | exact hS.1 | exact hS.2 | exact hS.2.1 | exact hS.2.2 | exact hS.2.2.1 | exact hS.2.2.2 | exact hS.2.2.2.1 | exact hS.2.2.2.2 | exact hS.2.2.2.2.1 | exact hS.2.2.2.2.2) ?_
      refine x_want' rfl ?_
      refine x_move (.int _ _) rfl ?_
      refine x_want' rfl ?_
      refine x_indexAddr Try.underlying50 sz_54 _ _ _ _ _ rfl rfl (by omega) ?_
      refine x_want' rfl ?_
      first | refine x_field0 fa_54_1 _ rfl ?_ | refine x_field fa_54_1 _ _ rfl ?_
      refine x_want' rfl ?_
      refine h_load one_22 _ (.int _ _) rfl (fun w hS => by first | exact hS.cell rfl | exact (hS.pull 1).cell rfl | exact (hS.pull 2).cell rfl | exact (hS.pull 3).cell rfl | exact (hS.pull 4).cell rfl | exact (hS.pull 5).cell rfl | exact (hS.pull 6).cell rfl | exact hS | exact hS.1 | exact hS.2 | exact hS.2.1 | exact hS.2.2 | exact hS.2.2.1 | exact hS.2.2.2 | exact hS.2.2.2.1 | exact hS.2.2.2.2 | exact hS.2.2.2.2.1 | exact hS.2.2.2.2.2) ?_
      refine x_want' rfl ?_
      refine x_move (.int _ _) rfl ?_
      refine x_want' rfl ?_
      refine x_eqlT _ _ rfl rfl (by omega) ?_
      refine x_pickT (.bool _) rfl rfl ?_
      refine x_nil ?_
      refine then_n ?_
      refine c_true rfl ?_
      refine c_seq ?_
      -- region 5
      refine c_region ?_
      refine x_move (.int _ _) rfl ?_
      refine x_assign (.int _ _) rfl ?_
      refine x_nil ?_
      refine then_n ?_
      refine c_ret ?_
      refine inb_r ?_
      refine then_r ?_
      refine then_r ?_
      refine inb_r ?_
      refine then_r ?_
      refine ⟨.inr rfl, ?_⟩
      rw [wfind_at (k := (p, n)) (by rw [hyk, hqp, hmn]) hno]
      exact ⟨rfl, hs.tail.ri'⟩
    · skip
      refine c_skip ?_
      refine then_n ?_
      refine c_seq ?_
      refine c_block ?_
      refine c_seq ?_
      -- region 4 DRAWS
      refine c_draw (fun w => w.cell? ⟨f, 1, none⟩ = some (.slice (some ⟨g, o, none⟩) e.length c) ∧ (∀ (j : Nat) (u : Value), [Value.int .u16 (q.Id : Nat), Value.int .u32 (q.Inc : Nat)][j]? = some u → w.cell? ((⟨g, o + i * 4, none⟩ : Addr).add j) = some u) ∧ (∀ (j : Nat) (u : Value), [Value.int .u16 (p.Id : Nat), Value.int .u32 (p.Inc : Nat)][j]? = some u → w.cell? ((⟨b4, 0, none⟩ : Addr).add j) = some u) ∧ w.cell? ⟨g, o + i * 4 + 2, none⟩ = some (.int .u64 (m : Nat))) (fun i => !(false)) [(0, 2), (1, 2), (2, 2), (3, 1), (4, 2), (5, 2), (6, 2), (7, 1), (8, 1), (9, 2), (10, 2), (11, 2), (12, 2), (13, 2), (14, 1), (15, 2), (16, 2), (17, 2), (18, 1), (19, 2), (20, 2), (21, 2)] (by kernel_rfl) (by kernel_rfl) (by kernel_rfl) (by kernel_rfl) (⟨(hs.drew.pull 1).cell rfl, (hs.drew.pull 2).wrs.wP hy, hs.drew.cellsOf, (hs.drew.pull 2).wrs.wN hy⟩) ?_
      replace hs := hs.drew
      refine x_move (.pointer _) rfl ?_
      refine x_nilCheck _ rfl ?_
      first | refine x_field0 fa_52_1 _ rfl ?_ | refine x_field fa_52_1 _ _ rfl ?_
      refine h_load one_50 _ (.slice _ _ _) rfl (fun w hS => by first | exact hS.cell rfl | exact (hS.pull 1).cell rfl | exact (hS.pull 2).cell rfl | exact (hS.pull 3).cell rfl | exact (hS.pull 4).cell rfl | exact (hS.pull 5).cell rfl | exact (hS.pull 6).cell rfl | exact hS | exact hS.1 | exact hS.2 | exact hS.2.1 | exact hS.2.2 | exact hS.2.2.1 | exact hS.2.2.2 | exact hS.2.2.2.1 | exact hS.2.2.2.2 | exact hS.2.2.2.2.1 | exact hS.2.2.2.2.2) ?_
      refine x_move (.int _ _) rfl ?_
      refine x_indexAddr Try.underlying50 sz_54 _ _ _ _ _ rfl rfl (by omega) ?_
      first | refine x_field0 fa_54_0 _ rfl ?_ | refine x_field fa_54_0 _ _ rfl ?_
      refine h_loadN [_, _] agg_35 _ rfl (fun w hS => by first | exact hS | exact hS.1 | exact hS.2 | exact hS.2.1 | exact hS.2.2 | exact hS.2.2.1 | exact hS.2.2.2 | exact hS.2.2.2.1 | exact hS.2.2.2.2 | exact hS.2.2.2.2.1 | exact hS.2.2.2.2.2 | exact hS.cellsOf | exact (hS.pull 1).cellsOf | exact (hS.pull 2).cellsOf | exact (hS.pull 3).cellsOf | exact (hS.pull 4).cellsOf | exact (hS.pull 5).cellsOf | exact (hS.pull 6).cellsOf | exact hS.cells2 rfl rfl | exact (hS.pull 1).cells2 rfl rfl | exact (hS.pull 2).cells2 rfl rfl | exact (hS.pull 3).cells2 rfl rfl | exact (hS.pull 4).cells2 rfl rfl | exact (hS.pull 5).cells2 rfl rfl | exact (hS.pull 6).cells2 rfl rfl) ?_
      refine h_loadN [_, _] agg_35 _ rfl (fun w hS => by first | exact hS | exact hS.1 | exact hS.2 | exact hS.2.1 | exact hS.2.2 | exact hS.2.2.1 | exact hS.2.2.2 | exact hS.2.2.2.1 | exact hS.2.2.2.2 | exact hS.2.2.2.2.1 | exact hS.2.2.2.2.2 | exact hS.cellsOf | exact (hS.pull 1).cellsOf | exact (hS.pull 2).cellsOf | exact (hS.pull 3).cellsOf | exact (hS.pull 4).cellsOf | exact (hS.pull 5).cellsOf | exact (hS.pull 6).cellsOf | exact hS.cells2 rfl rfl | exact (hS.pull 1).cells2 rfl rfl | exact (hS.pull 2).cells2 rfl rfl | exact (hS.pull 3).cells2 rfl rfl | exact (hS.pull 4).cells2 rfl rfl | exact (hS.pull 5).cells2 rfl rfl | exact (hS.pull 6).cells2 rfl rfl) ?_
      refine x_eqlET eq_pid q p rfl rfl hqp ?_
      refine x_move (.bool _) rfl ?_
      refine x_want' rfl ?_
      refine x_move (.pointer _) rfl ?_
      refine x_want' rfl ?_
      refine x_nilCheck _ rfl ?_
      refine x_want' rfl ?_
      first | refine x_field0 fa_52_1 _ rfl ?_ | refine x_field fa_52_1 _ _ rfl ?_
      refine x_want' rfl ?_
      refine h_load one_50 _ (.slice _ _ _) rfl (fun w hS => by first | exact hS.cell rfl | exact (hS.pull 1).cell rfl | exact (hS.pull 2).cell rfl | exact (hS.pull 3).cell rfl | exact (hS.pull 4).cell rfl | exact (hS.pull 5).cell rfl | exact (hS.pull 6).cell rfl | exact hS | exact hS.1 | exact hS.2 | exact hS.2.1 | exact hS.2.2 | exact hS.2.2.1 | exact hS.2.2.2 | exact hS.2.2.2.1 | exact hS.2.2.2.2 | exact hS.2.2.2.2.1 | exact hS.2.2.2.2.2) ?_
      refine x_want' rfl ?_
      refine x_move (.int _ _) rfl ?_
      refine x_want' rfl ?_
      refine x_indexAddr Try.underlying50 sz_54 _ _ _ _ _ rfl rfl (by omega) ?_
      refine x_want' rfl ?_
      first | refine x_field0 fa_54_1 _ rfl ?_ | refine x_field fa_54_1 _ _ rfl ?_
      refine x_want' rfl ?_
      refine h_load one_22 _ (.int _ _) rfl (fun w hS => by first | exact hS.cell rfl | exact (hS.pull 1).cell rfl | exact (hS.pull 2).cell rfl | exact (hS.pull 3).cell rfl | exact (hS.pull 4).cell rfl | exact (hS.pull 5).cell rfl | exact (hS.pull 6).cell rfl | exact hS | exact hS.1 | exact hS.2 | exact hS.2.1 | exact hS.2.2 | exact hS.2.2.1 | exact hS.2.2.2 | exact hS.2.2.2.1 | exact hS.2.2.2.2 | exact hS.2.2.2.2.1 | exact hS.2.2.2.2.2) ?_
      refine x_want' rfl ?_
      refine x_move (.int _ _) rfl ?_
      refine x_want' rfl ?_
      refine x_eqlF _ _ rfl rfl (by omega) ?_
      refine x_pickT (.bool _) rfl rfl ?_
      refine x_nil ?_
      refine then_n ?_
      refine c_false rfl ?_
      refine c_skip ?_
      refine inb_n ?_
      refine then_n ?_
      -- region 3
      refine c_region ?_
      refine x_move (.int _ _) rfl ?_
      refine x_add _ _ rfl rfl (by simp only [X.lo]; omega) (by simp only [X.hi]; omega) ?_
      refine x_assign (.int _ _) rfl ?_
      refine x_nil ?_
      refine then_n ?_
      refine ⟨i + 1, ⟨rfl, rfl, rfl, rfl, trivial⟩, ⟨by omega, hno' (fun h => hmn (by cases h; rfl)), hs⟩, by first | omega | (dsimp only; omega)⟩
    · skip
      refine c_skip ?_
      refine then_n ?_
      refine c_seq ?_
      refine c_block ?_
      refine c_seq ?_
      -- region 4 DRAWS
      refine c_draw (fun w => w.cell? ⟨f, 1, none⟩ = some (.slice (some ⟨g, o, none⟩) e.length c) ∧ (∀ (j : Nat) (u : Value), [Value.int .u16 (q.Id : Nat), Value.int .u32 (q.Inc : Nat)][j]? = some u → w.cell? ((⟨g, o + i * 4, none⟩ : Addr).add j) = some u) ∧ (∀ (j : Nat) (u : Value), [Value.int .u16 (p.Id : Nat), Value.int .u32 (p.Inc : Nat)][j]? = some u → w.cell? ((⟨b4, 0, none⟩ : Addr).add j) = some u) ∧ w.cell? ⟨g, o + i * 4 + 2, none⟩ = some (.int .u64 (m : Nat))) (fun i => !(false)) [(0, 2), (1, 2), (2, 2), (3, 1), (4, 2), (5, 2), (6, 2), (7, 1), (8, 1), (9, 2), (10, 2), (11, 2), (12, 2), (13, 2), (14, 1), (15, 2), (16, 2), (17, 2), (18, 1), (19, 2), (20, 2), (21, 2)] (by kernel_rfl) (by kernel_rfl) (by kernel_rfl) (by kernel_rfl) (⟨(hs.drew.pull 1).cell rfl, (hs.drew.pull 2).wrs.wP hy, hs.drew.cellsOf, (hs.drew.pull 2).wrs.wN hy⟩) ?_
      replace hs := hs.drew
      refine x_move (.pointer _) rfl ?_
      refine x_nilCheck _ rfl ?_
      first | refine x_field0 fa_52_1 _ rfl ?_ | refine x_field fa_52_1 _ _ rfl ?_
      refine h_load one_50 _ (.slice _ _ _) rfl (fun w hS => by first | exact hS.cell rfl | exact (hS.pull 1).cell rfl | exact (hS.pull 2).cell rfl | exact (hS.pull 3).cell rfl | exact (hS.pull 4).cell rfl | exact (hS.pull 5).cell rfl | exact (hS.pull 6).cell rfl | exact hS | exact hS.1 | exact hS.2 | exact hS.2.1 | exact hS.2.2 | exact hS.2.2.1 | exact hS.2.2.2 | exact hS.2.2.2.1 | exact hS.2.2.2.2 | exact hS.2.2.2.2.1 | exact hS.2.2.2.2.2) ?_
      refine x_move (.int _ _) rfl ?_
      refine x_indexAddr Try.underlying50 sz_54 _ _ _ _ _ rfl rfl (by omega) ?_
      first | refine x_field0 fa_54_0 _ rfl ?_ | refine x_field fa_54_0 _ _ rfl ?_
      refine h_loadN [_, _] agg_35 _ rfl (fun w hS => by first | exact hS | exact hS.1 | exact hS.2 | exact hS.2.1 | exact hS.2.2 | exact hS.2.2.1 | exact hS.2.2.2 | exact hS.2.2.2.1 | exact hS.2.2.2.2 | exact hS.2.2.2.2.1 | exact hS.2.2.2.2.2 | exact hS.cellsOf | exact (hS.pull 1).cellsOf | exact (hS.pull 2).cellsOf | exact (hS.pull 3).cellsOf | exact (hS.pull 4).cellsOf | exact (hS.pull 5).cellsOf | exact (hS.pull 6).cellsOf | exact hS.cells2 rfl rfl | exact (hS.pull 1).cells2 rfl rfl | exact (hS.pull 2).cells2 rfl rfl | exact (hS.pull 3).cells2 rfl rfl | exact (hS.pull 4).cells2 rfl rfl | exact (hS.pull 5).cells2 rfl rfl | exact (hS.pull 6).cells2 rfl rfl) ?_
      refine h_loadN [_, _] agg_35 _ rfl (fun w hS => by first | exact hS | exact hS.1 | exact hS.2 | exact hS.2.1 | exact hS.2.2 | exact hS.2.2.1 | exact hS.2.2.2 | exact hS.2.2.2.1 | exact hS.2.2.2.2 | exact hS.2.2.2.2.1 | exact hS.2.2.2.2.2 | exact hS.cellsOf | exact (hS.pull 1).cellsOf | exact (hS.pull 2).cellsOf | exact (hS.pull 3).cellsOf | exact (hS.pull 4).cellsOf | exact (hS.pull 5).cellsOf | exact (hS.pull 6).cellsOf | exact hS.cells2 rfl rfl | exact (hS.pull 1).cells2 rfl rfl | exact (hS.pull 2).cells2 rfl rfl | exact (hS.pull 3).cells2 rfl rfl | exact (hS.pull 4).cells2 rfl rfl | exact (hS.pull 5).cells2 rfl rfl | exact (hS.pull 6).cells2 rfl rfl) ?_
      refine x_eqlEF eq_pid q p rfl rfl hqp ?_
      refine x_move (.bool _) rfl ?_
      refine x_skip rfl rfl ?_
      refine x_skip rfl rfl ?_
      refine x_skip rfl rfl ?_
      refine x_skip rfl rfl ?_
      refine x_skip rfl rfl ?_
      refine x_skip rfl rfl ?_
      refine x_skip rfl rfl ?_
      refine x_skip rfl rfl ?_
      refine x_skip rfl rfl ?_
      refine x_skip rfl rfl ?_
      refine x_pickF (.bool _) rfl rfl ?_
      refine x_nil ?_
      refine then_n ?_
      refine c_false rfl ?_
      refine c_skip ?_
      refine inb_n ?_
      refine then_n ?_
      -- region 3
      refine c_region ?_
      refine x_move (.int _ _) rfl ?_
      refine x_add _ _ rfl rfl (by simp only [X.lo]; omega) (by simp only [X.hi]; omega) ?_
      refine x_assign (.int _ _) rfl ?_
      refine x_nil ?_
      refine then_n ?_
      refine ⟨i + 1, ⟨rfl, rfl, rfl, rfl, trivial⟩, ⟨by omega, hno' (fun h => hqp (by cases h; rfl)), hs⟩, by first | omega | (dsimp only; omega)⟩
  · skip
    refine c_exit ?_
    refine then_x ?_
    refine then_x ?_
    refine inb_e ?_
    refine then_n ?_
    refine c_seq ?_
    -- region 6
    refine c_region ?_
    refine x_assign (.int _ _) rfl ?_
    refine x_nil ?_
    refine then_n ?_
    refine c_ret ?_
    refine ⟨.inr rfl, ?_⟩
    rw [List.take_of_length_le (by rw [List.length_map]; omega)] at hno
    rw [show wfind e (p, n) = -1 from if_neg hno]
    exact ⟨rfl, hs.tail.ri'⟩
end Go.Proofs.Ytiffpkbkmpianaa.X
