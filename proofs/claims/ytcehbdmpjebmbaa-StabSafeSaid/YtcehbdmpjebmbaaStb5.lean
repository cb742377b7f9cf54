/-
  LAYER 26, the reference: its object; Of, Told, Leaf, All, Report, ReportLeaf.
-/
import Derived.Test.YtcehbdmpjebmbaaStb3
import Derived.Test.YtcehbdmpjebmbaaHas3
namespace Go.Proofs.Ytcehbdmpjebmbaa.X
open Go Go.RowKit
set_option linter.unusedVariables false
set_option maxRecDepth 20000
structure O26 where
  P : Pid
  lf : Int
  N : Nat
def O26.c : O26 → List Value := fun x => [.int .u16 (x.P.Id : Nat), .int .u32 (x.P.Inc : Nat), .int .i64 x.lf, .int .u64 (x.N : Nat)]
theorem O26.c_len (x : O26) : x.c.length = 4 := rfl
def ocs (l : List O26) : List Value := (l.map O26.c).flatten
theorem ocs_snoc (l : List O26) (x : O26) : ocs (l ++ [x]) = ocs l ++ [.int .u16 (x.P.Id : Nat), .int .u32 (x.P.Inc : Nat), .int .i64 x.lf, .int .u64 (x.N : Nat)] := by simp [ocs, O26.c]
theorem Sat.o26 {w0 w : World} {v : Value} {l : List O26} {L : List HP} (hs : Sat w0 w (Row 64 4 v l.length (ocs l) :: L)) : RS w 4 O26.c v l := hs.rd
theorem RS.o26P {w : World} {g o c i : Nat} {x : O26} {l : List O26} (h : RS w 4 O26.c (.slice (some ⟨g, o, none⟩) l.length c) l) (hy : l[i]? = some x) : ∀ (j : Nat) (u : Value), [Value.int .u16 (x.P.Id : Nat), Value.int .u32 (x.P.Inc : Nat)][j]? = some u → w.cell? ((⟨g, o + i * 4, none⟩ : Addr).add j) = some u := fun j u hj => by
  refine h.all O26.c_len hy j u ?_
  unfold O26.c
  match j, hj with
  | 0, hj => exact hj
  | 1, hj => exact hj
  | j + 2, hj => simp at hj
theorem RS.o26L {w : World} {g o c i : Nat} {x : O26} {l : List O26} (h : RS w 4 O26.c (.slice (some ⟨g, o, none⟩) l.length c) l) (hy : l[i]? = some x) : w.cell? ⟨g, o + i * 4 + 2, none⟩ = some (.int .i64 x.lf) := h.cell O26.c_len hy (q := 2) rfl
theorem RS.o26N {w : World} {g o c i : Nat} {x : O26} {l : List O26} (h : RS w 4 O26.c (.slice (some ⟨g, o, none⟩) l.length c) l) (hy : l[i]? = some x) : w.cell? ⟨g, o + i * 4 + 3, none⟩ = some (.int .u64 (x.N : Nat)) := h.cell O26.c_len hy (q := 3) rfl
/-- a view's own slices -/
structure VD where
  Id : Nat
  am : Option Addr
  cm : Nat
  mem : List Pid
  al : Option Addr
  cl : Nat
  lvs : List (Value × List Pid)
  ad : Option Addr
  cd : Nat
  lds : List Pid
abbrev VD.v (x : VD) : View := ⟨x.Id, (.slice x.am x.mem.length x.cm, x.mem), (.slice x.al x.lvs.length x.cl, x.lvs), (.slice x.ad x.lds.length x.cd, x.lds)⟩
abbrev VD.cs (x : VD) (v : Value) : Array Value := #[.int .u64 (x.Id : Nat), .slice x.am x.mem.length x.cm, .slice x.al x.lvs.length x.cl, .slice x.ad x.lds.length x.cd, v]
def RO (f : Nat) (D : VD) (l : List O26) : HP := fun h => ∃ v : Value, SatH [Blk f (.cells (D.cs v) 49 (0, 0)), Row 64 4 v l.length (ocs l)] h
theorem Sat.ro {w0 w : World} {f : Nat} {D : VD} {l : List O26} {L : List HP} (hs : Sat w0 w (RO f D l :: L)) :
    ∃ a c, Sat w0 w (Blk f (.cells #[.int .u64 (D.Id : Nat), .slice D.am D.mem.length D.cm, .slice D.al D.lvs.length D.cl, .slice D.ad D.lds.length D.cd, .slice a l.length c] 49 (0, 0)) :: Row 64 4 (.slice a l.length c) l.length (ocs l) :: L) := by
  obtain ⟨v, h⟩ := Sat.ex (F := fun v : Value => SatH [Blk f (.cells (D.cs v) 49 (0, 0)), Row 64 4 v l.length (ocs l)]) hs
  have h := h.opn
  obtain ⟨a, c, e⟩ := (h.pull 1).rd.val
  subst e
  exact ⟨a, c, h⟩
theorem Sat.ro' {w0 w : World} {f : Nat} {D : VD} {l : List O26} {v : Value} {L : List HP} (hs : Sat w0 w (Blk f (.cells #[.int .u64 (D.Id : Nat), .slice D.am D.mem.length D.cm, .slice D.al D.lvs.length D.cl, .slice D.ad D.lds.length D.cd, v] 49 (0, 0)) :: Row 64 4 v l.length (ocs l) :: L)) : Sat w0 w (RO f D l :: L) :=
  (Sat.shut (Ls := [Blk f (.cells (D.cs v) 49 (0, 0)), Row 64 4 v l.length (ocs l)]) hs).head fun h hh => ⟨v, hh⟩
def rOf (l : List O26) (p : Pid) : Nat := l.foldl (fun m o => if o.lf < 0 ∧ o.P = p then max m o.N else m) 0
def rTold (l : List O26) (k : Int) : Nat := l.foldl (fun m o => if o.lf = k then max m o.N else m) 0
theorem rOf_snoc (l : List O26) (o : O26) (p : Pid) : rOf (l ++ [o]) p = if o.lf < 0 ∧ o.P = p then max (rOf l p) o.N else rOf l p := by unfold rOf; rw [List.foldl_append]; rfl
theorem rTold_snoc (l : List O26) (o : O26) (k : Int) : rTold (l ++ [o]) k = if o.lf = k then max (rTold l k) o.N else rTold l k := by unfold rTold; rw [List.foldl_append]; rfl
def rmin (A : Pid → Nat) : List Pid → Nat
  | [] => 0
  | a :: l => l.foldl (fun m p => min m (A p)) (A a)
theorem rmin_snoc (A : Pid → Nat) (l : List Pid) (p : Pid) : rmin A (l ++ [p]) = if l = [] then A p else min (rmin A l) (A p) := by
  cases l with
  | nil => rfl
  | cons a l => rw [if_neg (by simp), List.cons_append]; simp only [rmin, List.foldl_append, List.foldl_cons, List.foldl_nil]
def rLeafV (D : VD) (l : List O26) (k : Nat) : Nat := max (rmin (rOf l) ((D.lvs.map (·.2)).getD k [])) (rTold l k)
def rLeafI (D : VD) (l : List O26) (k : Int) : Nat := if 0 ≤ k ∧ k < D.lvs.length then rLeafV D l k.toNat else 0
def rAllF (D : VD) (l : List O26) : Nat → Nat
  | 0 => 0
  | i + 1 => if i = 0 then rLeafV D l 0 else min (rAllF D l i) (rLeafV D l i)
def rRep (D : VD) (l : List O26) (p : Pid) (n : Nat) : Bool × List O26 := if p ∈ D.mem ∧ rOf l p < n then (true, l ++ [⟨p, -1, n⟩]) else (false, l)
def rRepL (D : VD) (l : List O26) (k : Int) (n : Nat) : Bool × List O26 := if (0 ≤ k ∧ k < D.lvs.length) ∧ rTold l k < n then (true, l ++ [⟨⟨0, 0⟩, k, n⟩]) else (false, l)
set_option maxHeartbeats 1000000 in
theorem rof26_calls {w0 w : World} {L : List HP} {f : Nat} {D : VD} {l : List O26} (p : Pid) (hs : Sat w0 w (RO f D l :: L)) (hl : l.length ≤ 1000000) :
    Calls Try.prog 19 #[.pointer (some ⟨f, 0, none⟩), .agg #[.int .u16 (p.Id : Nat), .int .u32 (p.Inc : Nat)]] w fun e w' => e = .returned (.int .u64 (rOf l p : Nat)) ∧ Sat w0 w' (RO f D l :: L) := by
  obtain ⟨a, c, hs⟩ := hs.ro
  refine enter Try.func19 rfl Try.ntmps19 4 rfl (Nat.le_of_ble_eq_true rfl) ?_
  refine c_seq ?_
  -- region 0
  refine c_region ?_
  refine x_box hs (.agg #[_, _]) rfl ?_; clear hs; intro b3 w hs; refine ⟨fun h => (by first | (cases h; done) | (first | exact hs.cells2 rfl rfl | exact (hs.pull 1).cells2 rfl rfl | exact (hs.pull 2).cells2 rfl rfl | exact (hs.pull 3).cells2 rfl rfl | exact (hs.pull 4).cells2 rfl rfl | exact (hs.pull 5).cells2 rfl rfl | exact (hs.pull 6).cells2 rfl rfl | exact (hs.pull 7).cells2 rfl rfl | exact (hs.pull 8).cells2 rfl rfl | exact hs.cell rfl | exact (hs.pull 1).cell rfl | exact (hs.pull 2).cell rfl | exact (hs.pull 3).cell rfl | exact (hs.pull 4).cell rfl | exact (hs.pull 5).cell rfl | exact (hs.pull 6).cell rfl | exact (hs.pull 7).cell rfl | exact (hs.pull 8).cell rfl | assumption | exact hs.cellsOf | exact (hs.pull 1).cellsOf | exact (hs.pull 2).cellsOf | exact (hs.pull 3).cellsOf | exact (hs.pull 4).cellsOf | exact (hs.pull 5).cellsOf | exact (hs.pull 6).cellsOf | exact (hs.pull 7).cellsOf | exact (hs.pull 8).cellsOf) | (and_intros <;> first | exact hs.cells2 rfl rfl | exact (hs.pull 1).cells2 rfl rfl | exact (hs.pull 2).cells2 rfl rfl | exact (hs.pull 3).cells2 rfl rfl | exact (hs.pull 4).cells2 rfl rfl | exact (hs.pull 5).cells2 rfl rfl | exact (hs.pull 6).cells2 rfl rfl | exact (hs.pull 7).cells2 rfl rfl | exact (hs.pull 8).cells2 rfl rfl | exact hs.cell rfl | exact (hs.pull 1).cell rfl | exact (hs.pull 2).cell rfl | exact (hs.pull 3).cell rfl | exact (hs.pull 4).cell rfl | exact (hs.pull 5).cell rfl | exact (hs.pull 6).cell rfl | exact (hs.pull 7).cell rfl | exact (hs.pull 8).cell rfl | assumption | exact hs.cellsOf | exact (hs.pull 1).cellsOf | exact (hs.pull 2).cellsOf | exact (hs.pull 3).cellsOf | exact (hs.pull 4).cellsOf | exact (hs.pull 5).cellsOf | exact (hs.pull 6).cellsOf | exact (hs.pull 7).cellsOf | exact (hs.pull 8).cellsOf)), ?_⟩
  refine x_assign (.int _ _) rfl ?_
  refine x_nil ?_
  refine then_n ?_
  refine c_seq ?_
  -- region 1
  refine c_region ?_
  refine x_assign (.int _ _) rfl ?_
  refine x_nil ?_
  refine then_n ?_
  refine c_seq ?_
  refine c_seq ?_
  -- region 2
  refine c_region ?_
  refine x_assign (.int _ _) rfl ?_
  refine x_nil ?_
  refine then_n ?_
  refine c_block ?_
  refine c_loop (γ := Nat) (fun (i : Nat) => [(0, .pointer (some ⟨f, 0, none⟩)), (3, .pointer (some ⟨b3, 0, none⟩)), (5, .int .u64 (rOf (l.take i) p : Nat)), (6, .int .i64 (i : Nat))]) (fun (i : Nat) w => i ≤ l.length ∧ Sat w0 w (Blk b3 (.cells #[.int .u16 (p.Id : Nat), .int .u32 (p.Inc : Nat)] 38 (0, 0)) :: Blk f (.cells #[.int .u64 (D.Id : Nat), .slice D.am D.mem.length D.cm, .slice D.al D.lvs.length D.cl, .slice D.ad D.lds.length D.cd, .slice a l.length c] 49 (0, 0)) :: Row 64 4 (.slice a l.length c) l.length (ocs l) :: L)) (fun (i : Nat) => l.length - i) 0 ⟨rfl, rfl, rfl, rfl, trivial⟩ ⟨Nat.zero_le _, hs⟩ ?_
  clear hs
  rintro i ρ w ⟨hi, hs⟩
  change CW Try.prog 48 _ _ (sets 48 [(0, .pointer (some ⟨f, 0, none⟩)), (3, .pointer (some ⟨b3, 0, none⟩)), (5, .int .u64 (rOf (l.take i) p : Nat)), (6, .int .i64 (i : Nat))] ρ) w
  refine c_seq ?_
  refine c_seq ?_
  -- region 3
  refine c_region ?_
  refine x_move (.int _ _) rfl ?_
  refine x_move (.pointer _) rfl ?_
  refine x_nilCheck _ rfl ?_
  first | refine x_field0 fa_49_1 _ rfl ?_ | refine x_field fa_49_1 _ _ rfl ?_
  refine x_load one_47 _ (.slice _ _ _) rfl (by first | exact hs.cell rfl | exact (hs.pull 1).cell rfl | exact (hs.pull 2).cell rfl | exact (hs.pull 3).cell rfl | assumption | exact (hs.pull 4).cell rfl | exact (hs.pull 5).cell rfl | exact (hs.pull 6).cell rfl | exact (hs.pull 7).cell rfl) ?_
  refine x_lenSl Try.underlying47 _ _ _ rfl ?_
  refine x_lss _ _ rfl rfl ?_
  refine x_nil ?_
  refine then_n ?_
  refine c_test _ rfl (fun hb => ?_) (fun hb => ?_)   -- cond t13
  · skip
    obtain ⟨⟨q, k, m⟩, hx⟩ : ∃ y, l[i]? = some y := ⟨l[i]'(by omega), List.getElem?_eq_getElem _⟩
    obtain ⟨g, o, rfl⟩ := (hs.pull 2).rowAddr (by omega)
    have hon := rOf_snoc (l.take i) ⟨q, k, m⟩ p
    rw [show l.take i ++ [(⟨q, k, m⟩ : O26)] = l.take (i + 1) from by rw [List.take_add_one, hx]; rfl] at hon
    dsimp only at hon
    by_cases hk : k < 0
    · skip
      refine c_skip ?_
      refine then_n ?_
      refine c_seq ?_
      refine c_block ?_
      refine c_seq ?_
      -- region 5 DRAWS
      refine c_draw (fun w => w.cell? ⟨f, 4, none⟩ = some (.slice (some ⟨g, o, none⟩) l.length c) ∧ w.cell? ⟨g, o + i * 4 + 2, none⟩ = some (.int .i64 k) ∧ (∀ (j : Nat) (u : Value), [Value.int .u16 (q.Id : Nat), Value.int .u32 (q.Inc : Nat)][j]? = some u → w.cell? ((⟨g, o + i * 4, none⟩ : Addr).add j) = some u) ∧ (∀ (j : Nat) (u : Value), [Value.int .u16 (p.Id : Nat), Value.int .u32 (p.Inc : Nat)][j]? = some u → w.cell? ((⟨b3, 0, none⟩ : Addr).add j) = some u)) (fun i => !(false)) [(0, 2), (1, 2), (2, 2), (3, 1), (4, 2), (5, 2), (6, 2), (7, 1), (8, 2), (9, 2), (10, 2), (11, 2), (12, 2), (13, 1), (14, 2), (15, 2), (16, 2), (17, 1), (18, 1), (19, 2), (20, 2)] (by kernel_rfl) (by kernel_rfl) (by kernel_rfl) (by kernel_rfl) (⟨(hs.drew.pull 1).cell rfl, (hs.drew.pull 2).o26.o26L hx, (hs.drew.pull 2).o26.o26P hx, hs.drew.cellsOf⟩) ?_
      replace hs := hs.drew
      refine x_move (.pointer _) rfl ?_
      refine x_nilCheck _ rfl ?_
      first | refine x_field0 fa_49_1 _ rfl ?_ | refine x_field fa_49_1 _ _ rfl ?_
      refine h_load one_47 _ (.slice _ _ _) rfl (fun w hS => by first | exact hS.cell rfl | exact (hS.pull 1).cell rfl | exact (hS.pull 2).cell rfl | exact (hS.pull 3).cell rfl | exact (hS.pull 4).cell rfl | exact (hS.pull 5).cell rfl | exact (hS.pull 6).cell rfl | exact hS | exact hS.1 | exact hS.2 | exact hS.2.1 | exact hS.2.2 | exact hS.2.2.1 | exact hS.2.2.2 | exact hS.2.2.2.1 | exact hS.2.2.2.2) ?_
      refine x_move (.int _ _) rfl ?_
      refine x_indexAddr Try.underlying47 sz_64 _ _ _ _ _ rfl rfl (by omega) ?_
      first | refine x_field0 fa_64_1 _ rfl ?_ | refine x_field fa_64_1 _ _ rfl ?_
      refine h_load one_3 _ (.int _ _) rfl (fun w hS => by first | exact hS.cell rfl | exact (hS.pull 1).cell rfl | exact (hS.pull 2).cell rfl | exact (hS.pull 3).cell rfl | exact (hS.pull 4).cell rfl | exact (hS.pull 5).cell rfl | exact (hS.pull 6).cell rfl | exact hS | exact hS.1 | exact hS.2 | exact hS.2.1 | exact hS.2.2 | exact hS.2.2.1 | exact hS.2.2.2 | exact hS.2.2.2.1 | exact hS.2.2.2.2) ?_
      refine x_lssT _ _ rfl rfl (by omega) ?_
      refine x_move (.bool _) rfl ?_
      refine x_want' rfl ?_
      refine x_move (.pointer _) rfl ?_
      refine x_want' rfl ?_
      refine x_nilCheck _ rfl ?_
      refine x_want' rfl ?_
      first | refine x_field0 fa_49_1 _ rfl ?_ | refine x_field fa_49_1 _ _ rfl ?_
      refine x_want' rfl ?_
      refine h_load one_47 _ (.slice _ _ _) rfl (fun w hS => by first | exact hS.cell rfl | exact (hS.pull 1).cell rfl | exact (hS.pull 2).cell rfl | exact (hS.pull 3).cell rfl | exact (hS.pull 4).cell rfl | exact (hS.pull 5).cell rfl | exact (hS.pull 6).cell rfl | exact hS | exact hS.1 | exact hS.2 | exact hS.2.1 | exact hS.2.2 | exact hS.2.2.1 | exact hS.2.2.2 | exact hS.2.2.2.1 | exact hS.2.2.2.2) ?_
      refine x_want' rfl ?_
      refine x_move (.int _ _) rfl ?_
      refine x_want' rfl ?_
      refine x_indexAddr Try.underlying47 sz_64 _ _ _ _ _ rfl rfl (by omega) ?_
      refine x_want' rfl ?_
      first | refine x_field0 fa_64_0 _ rfl ?_ | refine x_field fa_64_0 _ _ rfl ?_
      refine x_want' rfl ?_
      refine h_loadN [_, _] agg_38 _ rfl (fun w hS => by first | exact hS | exact hS.1 | exact hS.2 | exact hS.2.1 | exact hS.2.2 | exact hS.2.2.1 | exact hS.2.2.2 | exact hS.2.2.2.1 | exact hS.2.2.2.2 | exact hS.cellsOf | exact (hS.pull 1).cellsOf | exact (hS.pull 2).cellsOf | exact (hS.pull 3).cellsOf | exact (hS.pull 4).cellsOf | exact (hS.pull 5).cellsOf | exact (hS.pull 6).cellsOf | exact hS.cells2 rfl rfl | exact (hS.pull 1).cells2 rfl rfl | exact (hS.pull 2).cells2 rfl rfl | exact (hS.pull 3).cells2 rfl rfl | exact (hS.pull 4).cells2 rfl rfl | exact (hS.pull 5).cells2 rfl rfl | exact (hS.pull 6).cells2 rfl rfl) ?_
      refine x_want' rfl ?_
      refine h_loadN [_, _] agg_38 _ rfl (fun w hS => by first | exact hS | exact hS.1 | exact hS.2 | exact hS.2.1 | exact hS.2.2 | exact hS.2.2.1 | exact hS.2.2.2 | exact hS.2.2.2.1 | exact hS.2.2.2.2 | exact hS.cellsOf | exact (hS.pull 1).cellsOf | exact (hS.pull 2).cellsOf | exact (hS.pull 3).cellsOf | exact (hS.pull 4).cellsOf | exact (hS.pull 5).cellsOf | exact (hS.pull 6).cellsOf | exact hS.cells2 rfl rfl | exact (hS.pull 1).cells2 rfl rfl | exact (hS.pull 2).cells2 rfl rfl | exact (hS.pull 3).cells2 rfl rfl | exact (hS.pull 4).cells2 rfl rfl | exact (hS.pull 5).cells2 rfl rfl | exact (hS.pull 6).cells2 rfl rfl) ?_
      refine x_want' rfl ?_
      refine x_eqlE eq_pid q p rfl rfl ?_
      refine x_pickT (.bool _) rfl rfl ?_
      refine x_nil ?_
      refine then_n ?_
      refine c_cond rfl (fun hb => ?_) (fun hb => ?_)   -- cond t36
      · skip
        -- region 6
        have hcn := (hs.pull 2).o26.o26N hx
        dsimp only at hcn
        rw [if_pos ⟨hk, by simpa using hb⟩] at hon
        refine c_region ?_
        refine x_move (.int _ _) rfl ?_
        refine x_move (.pointer _) rfl ?_
        refine x_nilCheck _ rfl ?_
        first | refine x_field0 fa_49_1 _ rfl ?_ | refine x_field fa_49_1 _ _ rfl ?_
        refine x_load one_47 _ (.slice _ _ _) rfl (by first | exact hs.cell rfl | exact (hs.pull 1).cell rfl | exact (hs.pull 2).cell rfl | exact (hs.pull 3).cell rfl | assumption | exact (hs.pull 4).cell rfl | exact (hs.pull 5).cell rfl | exact (hs.pull 6).cell rfl | exact (hs.pull 7).cell rfl) ?_
        refine x_move (.int _ _) rfl ?_
        refine x_indexAddr Try.underlying47 sz_64 _ _ _ _ _ rfl rfl (by omega) ?_
        first | refine x_field0 fa_64_2 _ rfl ?_ | refine x_field fa_64_2 _ _ rfl ?_
        refine x_load one_22 _ (.int _ _) rfl (by first | exact hs.cell rfl | exact (hs.pull 1).cell rfl | exact (hs.pull 2).cell rfl | exact (hs.pull 3).cell rfl | assumption | exact (hs.pull 4).cell rfl | exact (hs.pull 5).cell rfl | exact (hs.pull 6).cell rfl | exact (hs.pull 7).cell rfl) ?_
        refine x_max _ _ ((rOf (l.take (i + 1)) p : Nat) : Int) rfl rfl (by rw [hon]; split <;> omega) ?_
        refine x_assign (.int _ _) rfl ?_
        refine x_nil ?_
        refine inb_n ?_
        refine then_n ?_
        -- region 4
        refine c_region ?_
        refine x_move (.int _ _) rfl ?_
        refine x_add _ _ rfl rfl (by simp only [X.lo]; omega) (by simp only [X.hi]; omega) ?_
        refine x_assign (.int _ _) rfl ?_
        refine x_nil ?_
        refine then_n ?_
        refine ⟨i + 1, ⟨rfl, rfl, rfl, rfl, trivial⟩, ⟨by omega, hs⟩, by first | omega | (dsimp only; omega)⟩
      · skip
        refine c_skip ?_
        refine inb_n ?_
        refine then_n ?_
        -- region 4
        refine c_region ?_
        refine x_move (.int _ _) rfl ?_
        refine x_add _ _ rfl rfl (by simp only [X.lo]; omega) (by simp only [X.hi]; omega) ?_
        refine x_assign (.int _ _) rfl ?_
        refine x_nil ?_
        refine then_n ?_
        rw [if_neg (fun h => by rw [decide_eq_true h.2] at hb; cases hb)] at hon
        rw [← hon]
        refine ⟨i + 1, ⟨rfl, rfl, rfl, rfl, trivial⟩, ⟨by omega, hs⟩, by first | omega | (dsimp only; omega)⟩
    · skip
      refine c_skip ?_
      refine then_n ?_
      refine c_seq ?_
      refine c_block ?_
      refine c_seq ?_
      -- region 5 DRAWS
      refine c_draw (fun w => w.cell? ⟨f, 4, none⟩ = some (.slice (some ⟨g, o, none⟩) l.length c) ∧ w.cell? ⟨g, o + i * 4 + 2, none⟩ = some (.int .i64 k)) (fun i => !(false)) [(0, 2), (1, 2), (2, 2), (3, 1), (4, 2), (5, 2), (6, 2), (7, 1), (8, 2), (9, 2), (10, 2), (11, 2), (12, 2), (13, 1), (14, 2), (15, 2), (16, 2), (17, 1), (18, 1), (19, 2), (20, 2)] (by kernel_rfl) (by kernel_rfl) (by kernel_rfl) (by kernel_rfl) (⟨(hs.drew.pull 1).cell rfl, (hs.drew.pull 2).o26.o26L hx⟩) ?_
      replace hs := hs.drew
      refine x_move (.pointer _) rfl ?_
      refine x_nilCheck _ rfl ?_
      first | refine x_field0 fa_49_1 _ rfl ?_ | refine x_field fa_49_1 _ _ rfl ?_
      refine h_load one_47 _ (.slice _ _ _) rfl (fun w hS => by first | exact hS.cell rfl | exact (hS.pull 1).cell rfl | exact (hS.pull 2).cell rfl | exact (hS.pull 3).cell rfl | exact (hS.pull 4).cell rfl | exact (hS.pull 5).cell rfl | exact (hS.pull 6).cell rfl | exact hS | exact hS.1 | exact hS.2 | exact hS.2.1 | exact hS.2.2 | exact hS.2.2.1 | exact hS.2.2.2 | exact hS.2.2.2.1 | exact hS.2.2.2.2) ?_
      refine x_move (.int _ _) rfl ?_
      refine x_indexAddr Try.underlying47 sz_64 _ _ _ _ _ rfl rfl (by omega) ?_
      first | refine x_field0 fa_64_1 _ rfl ?_ | refine x_field fa_64_1 _ _ rfl ?_
      refine h_load one_3 _ (.int _ _) rfl (fun w hS => by first | exact hS.cell rfl | exact (hS.pull 1).cell rfl | exact (hS.pull 2).cell rfl | exact (hS.pull 3).cell rfl | exact (hS.pull 4).cell rfl | exact (hS.pull 5).cell rfl | exact (hS.pull 6).cell rfl | exact hS | exact hS.1 | exact hS.2 | exact hS.2.1 | exact hS.2.2 | exact hS.2.2.1 | exact hS.2.2.2 | exact hS.2.2.2.1 | exact hS.2.2.2.2) ?_
      refine x_lssF _ _ rfl rfl (by omega) ?_
      refine x_move (.bool _) rfl ?_
      refine x_skip rfl rfl ?_
      refine x_skip rfl rfl ?_
      refine x_skip rfl rfl ?_
      refine x_skip rfl rfl ?_
      refine x_skip rfl rfl ?_
      refine x_skip rfl rfl ?_
      refine x_skip rfl rfl ?_
      refine x_skip rfl rfl ?_
      refine x_skip rfl rfl ?_
      refine x_skip rfl rfl ?_
      refine x_pickF (.bool _) rfl rfl ?_
      refine x_nil ?_
      refine then_n ?_
      refine c_false rfl ?_
      refine c_skip ?_
      refine inb_n ?_
      refine then_n ?_
      -- region 4
      refine c_region ?_
      refine x_move (.int _ _) rfl ?_
      refine x_add _ _ rfl rfl (by simp only [X.lo]; omega) (by simp only [X.hi]; omega) ?_
      refine x_assign (.int _ _) rfl ?_
      refine x_nil ?_
      refine then_n ?_
      rw [if_neg (fun h => hk h.1)] at hon
      rw [← hon]
      refine ⟨i + 1, ⟨rfl, rfl, rfl, rfl, trivial⟩, ⟨by omega, hs⟩, by first | omega | (dsimp only; omega)⟩
  · skip
    refine c_exit ?_
    refine then_x ?_
    refine then_x ?_
    refine inb_e ?_
    refine then_n ?_
    refine c_seq ?_
    -- region 7
    refine c_region ?_
    refine x_move (.int _ _) rfl ?_
    refine x_assign (.int _ _) rfl ?_
    refine x_nil ?_
    refine then_n ?_
    refine c_ret ?_
    refine ⟨.inr rfl, ?_⟩
    rw [List.take_of_length_le (by omega)]
    exact ⟨rfl, hs.tail.ro'⟩
set_option maxHeartbeats 1000000 in
theorem rtold26_calls {w0 w : World} {L : List HP} {f : Nat} {D : VD} {l : List O26} (k : Int) (hs : Sat w0 w (RO f D l :: L)) (hl : l.length ≤ 1000000) :
    Calls Try.prog 28 #[.pointer (some ⟨f, 0, none⟩), .int .i64 k] w fun e w' => e = .returned (.int .u64 (rTold l k : Nat)) ∧ Sat w0 w' (RO f D l :: L) := by
  obtain ⟨a, c, hs⟩ := hs.ro
  refine enter Try.func28 rfl Try.ntmps28 4 rfl (Nat.le_of_ble_eq_true rfl) ?_
  refine c_seq ?_
  -- region 0
  refine c_region ?_
  refine x_assign (.int _ _) rfl ?_
  refine x_nil ?_
  refine then_n ?_
  refine c_seq ?_
  -- region 1
  refine c_region ?_
  refine x_assign (.int _ _) rfl ?_
  refine x_nil ?_
  refine then_n ?_
  refine c_seq ?_
  refine c_seq ?_
  -- region 2
  refine c_region ?_
  refine x_assign (.int _ _) rfl ?_
  refine x_nil ?_
  refine then_n ?_
  refine c_block ?_
  refine c_loop (γ := Nat) (fun (i : Nat) => [(0, .pointer (some ⟨f, 0, none⟩)), (1, .int .i64 k), (5, .int .u64 (rTold (l.take i) k : Nat)), (6, .int .i64 (i : Nat))]) (fun (i : Nat) w => i ≤ l.length ∧ Sat w0 w (Blk f (.cells #[.int .u64 (D.Id : Nat), .slice D.am D.mem.length D.cm, .slice D.al D.lvs.length D.cl, .slice D.ad D.lds.length D.cd, .slice a l.length c] 49 (0, 0)) :: Row 64 4 (.slice a l.length c) l.length (ocs l) :: L)) (fun (i : Nat) => l.length - i) 0 ⟨rfl, rfl, rfl, rfl, trivial⟩ ⟨Nat.zero_le _, hs⟩ ?_
  clear hs
  rintro i ρ w ⟨hi, hs⟩
  change CW Try.prog 37 _ _ (sets 37 [(0, .pointer (some ⟨f, 0, none⟩)), (1, .int .i64 k), (5, .int .u64 (rTold (l.take i) k : Nat)), (6, .int .i64 (i : Nat))] ρ) w
  refine c_seq ?_
  refine c_seq ?_
  -- region 3
  refine c_region ?_
  refine x_move (.int _ _) rfl ?_
  refine x_move (.pointer _) rfl ?_
  refine x_nilCheck _ rfl ?_
  first | refine x_field0 fa_49_1 _ rfl ?_ | refine x_field fa_49_1 _ _ rfl ?_
  refine x_load one_47 _ (.slice _ _ _) rfl (by first | exact hs.cell rfl | exact (hs.pull 1).cell rfl | exact (hs.pull 2).cell rfl | exact (hs.pull 3).cell rfl | assumption | exact (hs.pull 4).cell rfl | exact (hs.pull 5).cell rfl | exact (hs.pull 6).cell rfl | exact (hs.pull 7).cell rfl) ?_
  refine x_lenSl Try.underlying47 _ _ _ rfl ?_
  refine x_lss _ _ rfl rfl ?_
  refine x_nil ?_
  refine then_n ?_
  refine c_test _ rfl (fun hb => ?_) (fun hb => ?_)   -- cond t13
  · skip
    refine c_skip ?_
    refine then_n ?_
    refine c_seq ?_
    refine c_block ?_
    refine c_seq ?_
    -- region 5
    obtain ⟨⟨q, k', m⟩, hx⟩ : ∃ y, l[i]? = some y := ⟨l[i]'(by omega), List.getElem?_eq_getElem _⟩
    obtain ⟨g, o, rfl⟩ := (hs.pull 1).rowAddr (by omega)
    have hon := rTold_snoc (l.take i) ⟨q, k', m⟩ k
    rw [show l.take i ++ [(⟨q, k', m⟩ : O26)] = l.take (i + 1) from by rw [List.take_add_one, hx]; rfl] at hon
    dsimp only at hon
    have hcl := (hs.pull 1).o26.o26L hx
    have hcn := (hs.pull 1).o26.o26N hx
    dsimp only at hcl hcn
    refine c_region ?_
    refine x_move (.pointer _) rfl ?_
    refine x_nilCheck _ rfl ?_
    first | refine x_field0 fa_49_1 _ rfl ?_ | refine x_field fa_49_1 _ _ rfl ?_
    refine x_load one_47 _ (.slice _ _ _) rfl (by first | exact hs.cell rfl | exact (hs.pull 1).cell rfl | exact (hs.pull 2).cell rfl | exact (hs.pull 3).cell rfl | assumption | exact (hs.pull 4).cell rfl | exact (hs.pull 5).cell rfl | exact (hs.pull 6).cell rfl | exact (hs.pull 7).cell rfl) ?_
    refine x_move (.int _ _) rfl ?_
    refine x_indexAddr Try.underlying47 sz_64 _ _ _ _ _ rfl rfl (by omega) ?_
    first | refine x_field0 fa_64_1 _ rfl ?_ | refine x_field fa_64_1 _ _ rfl ?_
    refine x_load one_3 _ (.int _ _) rfl (by first | exact hs.cell rfl | exact (hs.pull 1).cell rfl | exact (hs.pull 2).cell rfl | exact (hs.pull 3).cell rfl | assumption | exact (hs.pull 4).cell rfl | exact (hs.pull 5).cell rfl | exact (hs.pull 6).cell rfl | exact (hs.pull 7).cell rfl) ?_
    refine x_move (.int _ _) rfl ?_
    refine x_eql _ _ rfl rfl ?_
    refine x_nil ?_
    refine then_n ?_
    refine c_test _ rfl (fun hb => ?_) (fun hb => ?_)   -- cond t25
    · skip
      -- region 6
      rw [if_pos hb] at hon
      refine c_region ?_
      refine x_move (.int _ _) rfl ?_
      refine x_move (.pointer _) rfl ?_
      refine x_nilCheck _ rfl ?_
      first | refine x_field0 fa_49_1 _ rfl ?_ | refine x_field fa_49_1 _ _ rfl ?_
      refine x_load one_47 _ (.slice _ _ _) rfl (by first | exact hs.cell rfl | exact (hs.pull 1).cell rfl | exact (hs.pull 2).cell rfl | exact (hs.pull 3).cell rfl | assumption | exact (hs.pull 4).cell rfl | exact (hs.pull 5).cell rfl | exact (hs.pull 6).cell rfl | exact (hs.pull 7).cell rfl) ?_
      refine x_move (.int _ _) rfl ?_
      refine x_indexAddr Try.underlying47 sz_64 _ _ _ _ _ rfl rfl (by omega) ?_
      first | refine x_field0 fa_64_2 _ rfl ?_ | refine x_field fa_64_2 _ _ rfl ?_
      refine x_load one_22 _ (.int _ _) rfl (by first | exact hs.cell rfl | exact (hs.pull 1).cell rfl | exact (hs.pull 2).cell rfl | exact (hs.pull 3).cell rfl | assumption | exact (hs.pull 4).cell rfl | exact (hs.pull 5).cell rfl | exact (hs.pull 6).cell rfl | exact (hs.pull 7).cell rfl) ?_
      refine x_max _ _ ((rTold (l.take (i + 1)) k : Nat) : Int) rfl rfl (by rw [hon]; split <;> omega) ?_
      refine x_assign (.int _ _) rfl ?_
      refine x_nil ?_
      refine inb_n ?_
      refine then_n ?_
      -- region 4
      refine c_region ?_
      refine x_move (.int _ _) rfl ?_
      refine x_add _ _ rfl rfl (by simp only [X.lo]; omega) (by simp only [X.hi]; omega) ?_
      refine x_assign (.int _ _) rfl ?_
      refine x_nil ?_
      refine then_n ?_
      refine ⟨i + 1, ⟨rfl, rfl, rfl, rfl, trivial⟩, ⟨by omega, hs⟩, by first | omega | (dsimp only; omega)⟩
    · skip
      refine c_skip ?_
      refine inb_n ?_
      refine then_n ?_
      -- region 4
      refine c_region ?_
      refine x_move (.int _ _) rfl ?_
      refine x_add _ _ rfl rfl (by simp only [X.lo]; omega) (by simp only [X.hi]; omega) ?_
      refine x_assign (.int _ _) rfl ?_
      refine x_nil ?_
      refine then_n ?_
      rw [if_neg hb] at hon
      rw [← hon]
      refine ⟨i + 1, ⟨rfl, rfl, rfl, rfl, trivial⟩, ⟨by omega, hs⟩, by first | omega | (dsimp only; omega)⟩
  · skip
    refine c_exit ?_
    refine then_x ?_
    refine then_x ?_
    refine inb_e ?_
    refine then_n ?_
    refine c_seq ?_
    -- region 7
    refine c_region ?_
    refine x_move (.int _ _) rfl ?_
    refine x_assign (.int _ _) rfl ?_
    refine x_nil ?_
    refine then_n ?_
    refine c_ret ?_
    refine ⟨.inr rfl, ?_⟩
    rw [List.take_of_length_le (by omega)]
    exact ⟨rfl, hs.ro'⟩
end Go.Proofs.Ytcehbdmpjebmbaa.X
