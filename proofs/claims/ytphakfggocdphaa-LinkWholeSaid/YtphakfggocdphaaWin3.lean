/-
  LAYER 11, THE PROGRAM's TEXT, Due: the items that are told.
-/
import Derived.Test.YtphakfggocdphaaWin2
namespace Go.Proofs.Ytphakfggocdphaa.X
open Go Go.RowKit
set_option linter.unusedVariables false
/-- the cells of a row of items -/
def icells : List Nat → List Value → List Value
  | q :: qs, u :: us => .int .u64 (q : Nat) :: u :: icells qs us
  | _, _ => []
theorem icells_snoc : ∀ (qs : List Nat) (us : List Value) (q : Nat) (u : Value), qs.length = us.length → icells (qs ++ [q]) (us ++ [u]) = icells qs us ++ [.int .u64 (q : Nat), u]
  | [], [], _, _, _ => rfl
  | q1 :: qs, u1 :: us, q, u, h => by simp only [List.cons_append, icells]; rw [icells_snoc qs us q u (by simpa using h)]
  | [], _ :: _, _, _, h => by cases h
  | _ :: _, [], _, _, h => by cases h
theorem icells_len : ∀ (qs : List Nat) (us : List Value), qs.length = us.length → (icells qs us).length = qs.length * 2
  | [], [], _ => rfl
  | q1 :: qs, u1 :: us, h => by simp only [icells, List.length_cons]; rw [icells_len qs us (by simpa using h)]; omega
  | [], _ :: _, h => by cases h
  | _ :: _, [], h => by cases h
theorem icells_get : ∀ (qs : List Nat) (us : List Value) (i : Nat) (q : Nat) (u : Value), qs[i]? = some q → us[i]? = some u → (icells qs us)[i * 2]? = some (.int .u64 (q : Nat)) ∧ (icells qs us)[i * 2 + 1]? = some u
  | q1 :: qs, u1 :: us, 0, q, u, h1, h2 => by
    simp at h1 h2; subst h1; subst h2; exact ⟨rfl, rfl⟩
  | q1 :: qs, u1 :: us, i + 1, q, u, h1, h2 => by
    have := icells_get qs us i q u (by simpa using h1) (by simpa using h2)
    rw [show (i + 1) * 2 = i * 2 + 1 + 1 from by omega]
    simpa [icells] using this
  | [], _, _, _, _, h, _ => by cases h
  | _ :: _, [], _, _, _, _, h => by cases h
abbrev Item := Nat × List UInt8
/-- items, owned with their bytes -/
def IR (v : Value) (l : List Item) : HP := fun h => ∃ us, SatH [Row 56 2 v l.length (icells (l.map (·.1)) us), EachB us (l.map (·.2))] h
theorem Sat.ir {w0 w : World} {v : Value} {l : List Item} {L : List HP} (hs : Sat w0 w (IR v l :: L)) : ∃ us, Sat w0 w (Row 56 2 v l.length (icells (l.map (·.1)) us) :: EachB us (l.map (·.2)) :: L) := by
  obtain ⟨vs, h⟩ := Sat.ex (F := fun us => SatH [Row 56 2 v l.length (icells (l.map (·.1)) us), EachB us (l.map (·.2))]) hs
  exact ⟨vs, h.opn⟩
theorem Sat.ir' {w0 w : World} {v : Value} {l : List Item} {us : List Value} {L : List HP} (hs : Sat w0 w (Row 56 2 v l.length (icells (l.map (·.1)) us) :: EachB us (l.map (·.2)) :: L)) : Sat w0 w (IR v l :: L) :=
  (Sat.shut (Ls := [Row 56 2 v l.length (icells (l.map (·.1)) us), EachB us (l.map (·.2))]) hs).head fun h hh => ⟨us, hh⟩
theorem Sat.irNil {w0 w : World} {L : List HP} (hs : Sat w0 w L) : Sat w0 w (IR (.slice none 0 0) [] :: L) := Sat.ir' (us := []) (EachB.nil hs).rowNil

/-- what Due has done behind i places -/
structure DSt where
  told : Nat
  ever : Nat
  once : Nat
  more : Nat
  out : List Item
def SSt.dueStep (s : SSt) (i : Nat) (d : DSt) : DSt :=
  if d.told >>> i % 2 = 0 then
    if d.ever >>> i % 2 = 0 then ⟨d.told ||| 1 <<< i, d.ever ||| 1 <<< i, d.once + 1, d.more, d.out ++ [(s.base + i, s.wait.getD i [])]⟩
    else ⟨d.told ||| 1 <<< i, d.ever, d.once, d.more + 1, d.out ++ [(s.base + i, s.wait.getD i [])]⟩
  else d
def SSt.dueD (s : SSt) : Nat → DSt
  | 0 => ⟨s.told, s.ever, s.once, s.more, []⟩
  | i + 1 => s.dueStep i (s.dueD i)
def SSt.at (s : SSt) (d : DSt) : SSt := { s with told := d.told, ever := d.ever, once := d.once, more := d.more }
def SSt.due (s : SSt) : List Item × SSt := ((s.dueD (min 16 s.wait.length)).out, s.at (s.dueD (min 16 s.wait.length)))
theorem one_shl {i : Nat} (h : i < 16) : 1 <<< i < 4294967296 := by
  rw [Nat.one_shiftLeft]
  exact Nat.lt_of_lt_of_le (Nat.pow_lt_pow_right (by decide) h) (by decide)
theorem dueD_ok {s : SSt} (ok : s.ok) : ∀ i, i ≤ 16 → (s.dueD i).told < 4294967296 ∧ (s.dueD i).ever < 4294967296 ∧ (s.dueD i).once ≤ s.once + i ∧ (s.dueD i).more ≤ s.more + i ∧ (s.dueD i).out.length ≤ i
  | 0, _ => ⟨ok.told, ok.ever, Nat.le_refl _, Nat.le_refl _, Nat.le_refl _⟩
  | i + 1, h => by
    obtain ⟨h1, h2, h3, h4, h5⟩ := dueD_ok ok i (by omega)
    have h6 := one_shl (i := i) (by omega)
    rw [show s.dueD (i + 1) = s.dueStep i (s.dueD i) from rfl]
    generalize s.dueD i = d at *
    have h7 : d.told ||| 1 <<< i < 2 ^ 32 := Nat.or_lt_two_pow (by simpa using h1) (by simpa using h6)
    have h8 : d.ever ||| 1 <<< i < 2 ^ 32 := Nat.or_lt_two_pow (by simpa using h2) (by simpa using h6)
    unfold SSt.dueStep
    split
    · split
      · exact ⟨h7, h8, by dsimp only; omega, by dsimp only; omega, by simp; omega⟩
      · exact ⟨h7, h2, by dsimp only; omega, by dsimp only; omega, by simp; omega⟩
    · exact ⟨h1, h2, by omega, by omega, by omega⟩
structure GDue where
  i : Nat
  v : Value
set_option maxHeartbeats 2000000 in
theorem sdue_calls {w0 w : World} {L : List HP} {S : Nat} {s : SSt} (hs : Sat w0 w (SObj S s :: L)) (ok : s.ok) :
    Calls Try.prog 22 #[.pointer (some ⟨S, 0, none⟩)] w fun e w' => ∃ v, e = .returned v ∧ Sat w0 w' (IR v s.due.1 :: SObj S s.due.2 :: L) := by
  refine enter Try.func22 rfl Try.ntmps22 2 rfl (Nat.le_of_ble_eq_true rfl) ?_
  refine c_seq ?_
  -- region 0
  refine c_region ?_
  refine x_assign (.slice _ _ _) rfl ?_
  refine x_nil ?_
  refine then_n ?_
  refine c_seq ?_
  refine c_seq ?_
  -- region 1
  refine c_region ?_
  refine x_move (.pointer _) rfl ?_
  refine x_eqlNil Try.underlying46 _ rfl rfl ?_
  refine x_nil ?_
  refine then_n ?_
  refine c_false rfl ?_
  refine c_skip ?_
  refine then_n ?_
  refine c_seq ?_
  -- region 3
  refine c_region ?_
  refine x_assign (.slice _ _ _) rfl ?_
  refine x_nil ?_
  refine then_n ?_
  refine c_seq ?_
  refine c_seq ?_
  -- region 4
  refine c_region ?_
  refine x_assign (.int _ _) rfl ?_
  refine x_nil ?_
  refine then_n ?_
  refine c_block ?_
  refine c_loop (γ := GDue) (fun g => [(0, .pointer (some ⟨S, 0, none⟩)), (3, g.v), (4, .int .i64 (g.i : Nat))]) (fun g w => g.i ≤ 16 ∧ g.i ≤ s.wait.length ∧ Sat w0 w (SObj S (s.at (s.dueD g.i)) :: IR g.v (s.dueD g.i).out :: L)) (fun g => 16 - g.i) ⟨0, .slice none 0 0⟩ ⟨rfl, rfl, rfl, trivial⟩ ⟨Nat.zero_le _, Nat.zero_le _, (Sat.irNil hs).pull 1⟩ ?_
  clear hs
  rintro ⟨i, v⟩ ρ w ⟨hi, hil, hs⟩
  dsimp only at hi hil hs
  have ok' := ok
  obtain ⟨ok1, ok2, ok3, ok4, ok5, ok6, ok7⟩ := ok'
  obtain ⟨d1, d2, d3, d4, d5⟩ := dueD_ok ok i hi
  have hstep : s.dueD (i + 1) = s.dueStep i (s.dueD i) := rfl
  have hend : i = min 16 s.wait.length → s.due = ((s.dueD i).out, s.at (s.dueD i)) := fun e => by unfold SSt.due; rw [← e]
  generalize s.dueD i = d at *
  obtain ⟨a3, c3, rfl⟩ : ∃ ao c, v = .slice ao d.out.length c := by
    obtain ⟨us, hs⟩ := (hs.pull 1).ir
    exact hs.rd.val
  obtain ⟨ao, c, hs⟩ := hs.sobj
  dsimp only [SSt.at] at hs
  change CW Try.prog 92 _ _ (sets 92 [(0, .pointer (some ⟨S, 0, none⟩)), (3, .slice a3 d.out.length c3), (4, .int .i64 (i : Nat))] ρ) w
  by_cases h1 : i < s.wait.length
  by_cases h2 : i < 16
  · skip
    refine c_seq ?_
    refine c_seq ?_
    -- region 5
    refine c_region ?_
    refine x_move (.int _ _) rfl ?_
    refine x_move (.pointer _) rfl ?_
    refine x_nilCheck _ rfl ?_
    first | refine x_field0 fa_78_1 _ rfl ?_ | refine x_field fa_78_1 _ _ rfl ?_
    refine x_load one_35 _ (.slice _ _ _) rfl (by first | exact hs.cell rfl | exact (hs.pull 1).cell rfl | exact (hs.pull 2).cell rfl | exact (hs.pull 3).cell rfl | assumption | exact (hs.pull 4).cell rfl | exact (hs.pull 5).cell rfl | exact (hs.pull 6).cell rfl | exact (hs.pull 7).cell rfl) ?_
    refine x_lenSl Try.underlying35 _ _ _ rfl ?_
    refine x_lssT _ _ rfl rfl (by omega) ?_
    refine x_move (.bool _) rfl ?_
    refine x_want' rfl ?_
    refine x_move (.int _ _) rfl ?_
    refine x_want' rfl ?_
    refine x_lssT _ _ rfl rfl (by omega) ?_
    refine x_pickT (.bool _) rfl rfl ?_
    refine x_nil ?_
    refine then_n ?_
    refine c_true rfl ?_
    refine c_skip ?_
    refine then_n ?_
    refine c_seq ?_
    refine c_block ?_
    refine c_seq ?_
    -- region 7
    refine c_region ?_
    refine x_move (.pointer _) rfl ?_
    refine x_nilCheck _ rfl ?_
    first | refine x_field0 fa_78_2 _ rfl ?_ | refine x_field fa_78_2 _ _ rfl ?_
    refine x_load one_76 _ (.int _ _) rfl (by first | exact hs.cell rfl | exact (hs.pull 1).cell rfl | exact (hs.pull 2).cell rfl | exact (hs.pull 3).cell rfl | assumption | exact (hs.pull 4).cell rfl | exact (hs.pull 5).cell rfl | exact (hs.pull 6).cell rfl | exact (hs.pull 7).cell rfl) ?_
    refine x_move (.int _ _) rfl ?_
    refine x_conv cv_3_79 _ rfl (by simp only [X.lo]; omega) (by simp only [X.hi]; omega) ?_
    refine x_shr _ _ rfl rfl (by simp only [IntKind.bits]; omega) ?_
    refine x_and1 _ rfl rfl rfl ?_
    refine x_eql _ _ rfl rfl ?_
    refine x_nil ?_
    refine then_n ?_
    refine c_test _ rfl (fun hb => ?_) (fun hb => ?_)   -- cond t28
    · skip
      refine c_seq ?_
      -- region 8 DRAWS
      obtain ⟨vs, hs⟩ := (hs.pull 1).bb
      have hvl := hs.tail.eachLen
      have hwi : s.wait[i]? = some (s.wait.getD i []) := by simp [List.getD_eq_getElem?_getD, List.getElem?_eq_getElem h1]
      obtain ⟨u, hu⟩ : ∃ u, vs[i]? = some u := ⟨vs[i]'(by omega), List.getElem?_eq_getElem (by omega)⟩
      have hbl : (s.wait.getD i []).length ≤ 4096 := ok3 _ (List.mem_of_getElem? hwi)
      obtain ⟨b, off, rfl⟩ : ∃ b off, ao = some ⟨b, off, none⟩ := hs.rowAddr (by omega)
      have hcell : ∀ {w : World} {L : List HP}, Sat w0 w (Row 30 1 (.slice (some ⟨b, off, none⟩) s.wait.length c) s.wait.length vs :: L) → w.cell? ⟨b, off + i * 1, none⟩ = some u := fun hs => hs.rowCell (by simpa using hu)
      obtain ⟨a5, c5, rfl⟩ := ((hs.pull 1).eachRB hu hwi).val
      have hs := hs.perm [2, 0, 1, 3]
      refine c_draw (fun w => w.cell? ⟨S, 0, none⟩ = some (.int .u64 (s.base : Nat)) ∧ w.cell? ⟨S, 1, none⟩ = some (.slice (some ⟨b, off, none⟩) s.wait.length c) ∧ w.cell? ⟨b, off + i * 1, none⟩ = some (.slice a5 (s.wait.getD i []).length c5)) (fun i => !(Nat.beq i 17 || Nat.beq i 18)) [(0, 2), (1, 2), (2, 2), (3, 2), (4, 1), (5, 2), (6, 2), (7, 2), (8, 2), (9, 2), (10, 2), (11, 1), (12, 2), (13, 2), (14, 1), (15, 0), (16, 2), (17, 0), (18, 0), (19, 2)] (by kernel_rfl) (by kernel_rfl) (by kernel_rfl) (by kernel_rfl) (⟨hs.cell rfl, hs.cell rfl, hcell (hs.drew.pull 1)⟩) ?_
      replace hs := hs.drew
      refine x_move (.slice _ _ _) rfl ?_
      refine x_move (.pointer _) rfl ?_
      refine x_nilCheck _ rfl ?_
      first | refine x_field0 fa_78_0 _ rfl ?_ | refine x_field fa_78_0 _ _ rfl ?_
      refine h_load one_26 _ (.int _ _) rfl (fun w hS => by first | exact hS.cell rfl | exact (hS.pull 1).cell rfl | exact (hS.pull 2).cell rfl | exact (hS.pull 3).cell rfl | exact hS | exact hS.1 | exact hS.2 | exact hS.2.1 | exact hS.2.2 | exact hS.2.2.1 | exact hS.2.2.2 | exact hS.2.2.2.1 | exact hS.2.2.2.2) ?_
      refine x_move (.int _ _) rfl ?_
      refine x_conv cv_3_26 _ rfl (by simp only [X.lo]; omega) (by simp only [X.hi]; omega) ?_
      refine x_add _ _ rfl rfl (by simp only [X.lo]; omega) (by simp only [X.hi]; omega) ?_
      refine x_move (.pointer _) rfl ?_
      refine x_nilCheck _ rfl ?_
      first | refine x_field0 fa_78_1 _ rfl ?_ | refine x_field fa_78_1 _ _ rfl ?_
      refine h_load one_35 _ (.slice _ _ _) rfl (fun w hS => by first | exact hS.cell rfl | exact (hS.pull 1).cell rfl | exact (hS.pull 2).cell rfl | exact (hS.pull 3).cell rfl | exact hS | exact hS.1 | exact hS.2 | exact hS.2.1 | exact hS.2.2 | exact hS.2.2.1 | exact hS.2.2.2 | exact hS.2.2.2.1 | exact hS.2.2.2.2) ?_
      refine x_move (.int _ _) rfl ?_
      refine x_indexAddr Try.underlying35 sz_30 _ _ _ _ _ rfl rfl (by omega) ?_
      refine h_load one_30 _ (.slice _ _ _) rfl (fun w hS => by first | exact hS.cell rfl | exact (hS.pull 1).cell rfl | exact (hS.pull 2).cell rfl | exact (hS.pull 3).cell rfl | exact hS | exact hS.1 | exact hS.2 | exact hS.2.1 | exact hS.2.2 | exact hS.2.2.1 | exact hS.2.2.2 | exact hS.2.2.2.1 | exact hS.2.2.2.2) ?_
      refine x_call Try.f37 Try.func37 rfl rfl [.slice a5 (s.wait.getD i []).length c5] rfl ?_
      refine (clone_calls hs ((hs.pull 2).eachRB hu hwi) (by omega)).mono ?_
      clear hs; rintro e w ⟨v', rfl, hs⟩
      refine ⟨v', rfl, fun _ => ⟨(hs.pull 1).cell rfl, (hs.pull 1).cell rfl, hcell (hs.pull 2)⟩, ?_⟩
      obtain ⟨a6, c6, rfl⟩ := hs.br.val
      refine x_build (.agg #[.int .u64 ((s.base : Int) + (i : Int)), .slice a6 (s.wait.getD i []).length c6]) [(0, .int .u64 ((s.base : Int) + (i : Int))), (1, .slice a6 (s.wait.getD i []).length c6)] rfl (fun w => bd_item _ _ _ _ w) ?_
      refine x_buildSlice #[.int .u64 ((s.base : Int) + (i : Int)), .slice a6 (s.wait.getD i []).length c6] [(0, .agg #[.int .u64 ((s.base : Int) + (i : Int)), .slice a6 (s.wait.getD i []).length c6])] hs rfl (fun w => bs_item _ _ _ _ w) ?_
      clear hs; intro b2 w hs; refine ⟨fun _ => ⟨(hs.pull 2).cell rfl, (hs.pull 2).cell rfl, hcell (hs.pull 3)⟩, ?_⟩
      have hrd := rd_blk (size := 2) hs rfl
      obtain ⟨us, hs⟩ := (hs.tail.pull 4).ir
      have hul := hs.tail.eachLen
      refine x_append hs Try.underlying27 ei_56 hrd (by intro u hu; simp at hu; rcases hu with rfl | rfl <;> rfl) (by unfold maxLen; omega) (by omega) rfl rfl ?_
      clear hs; intro v w hs; refine ⟨fun h => (by cases h), ?_⟩
      obtain ⟨a7, c7, rfl⟩ := hs.rd.val
      have hs := ((hs.perm [1, 2, 0]).eachSnoc).perm [1, 0]
      rw [show icells (d.out.map (·.1)) us ++ #[Value.int .u64 ((s.base : Int) + (i : Int)), .slice a6 (s.wait.getD i []).length c6].toList = icells ((d.out ++ [(s.base + i, s.wait.getD i [])]).map (·.1)) (us ++ [.slice a6 (s.wait.getD i []).length c6]) from by
        rw [List.map_append, List.map_singleton, icells_snoc _ _ _ _ (by simpa using hul.symm)]; rfl] at hs
      rw [show d.out.map (·.2) ++ [s.wait.getD i []] = (d.out ++ [(s.base + i, s.wait.getD i [])]).map (·.2) from by simp] at hs
      rw [show d.out.length + 1 = (d.out ++ [(s.base + i, s.wait.getD i [])]).length from by simp] at hs ⊢
      have hs := (Sat.ir' hs).perm [2, 3, 0, 1]
      have hs := (Sat.bb' hs).perm [2, 0, 1]
      refine x_assign (.slice _ _ _) rfl ?_
      refine x_nil ?_
      refine then_n ?_
      refine c_seq ?_
      -- region 9
      refine c_region ?_
      refine x_move (.pointer _) rfl ?_
      refine x_nilCheck _ rfl ?_
      first | refine x_field0 fa_78_2 _ rfl ?_ | refine x_field fa_78_2 _ _ rfl ?_
      refine x_load one_76 _ (.int _ _) rfl (by first | exact hs.cell rfl | exact (hs.pull 1).cell rfl | exact (hs.pull 2).cell rfl | exact (hs.pull 3).cell rfl | assumption | exact (hs.pull 4).cell rfl | exact (hs.pull 5).cell rfl | exact (hs.pull 6).cell rfl | exact (hs.pull 7).cell rfl) ?_
      refine x_move (.int _ _) rfl ?_
      refine x_conv cv_3_79 _ rfl (by simp only [X.lo]; omega) (by simp only [X.hi]; omega) ?_
      refine x_shl 1 i rfl rfl rfl (by simp only [IntKind.bits]; omega) (one_shl h2) ?_
      refine x_or _ _ rfl rfl rfl d1 (one_shl h2) ?_
      refine x_nilCheck _ rfl ?_
      first | refine x_field0 fa_78_2 _ rfl ?_ | refine x_field fa_78_2 _ _ rfl ?_
      refine x_store hs one_76 (.int _ _) rfl rfl rfl rfl ?_; clear hs; intro w hs; refine ⟨fun h => (by first | cases h | exact h), ?_⟩
      refine x_nil ?_
      refine then_n ?_
      refine c_seq ?_
      -- region 10
      refine c_region ?_
      refine x_move (.pointer _) rfl ?_
      refine x_nilCheck _ rfl ?_
      first | refine x_field0 fa_78_3 _ rfl ?_ | refine x_field fa_78_3 _ _ rfl ?_
      refine x_load one_76 _ (.int _ _) rfl (by first | exact hs.cell rfl | exact (hs.pull 1).cell rfl | exact (hs.pull 2).cell rfl | exact (hs.pull 3).cell rfl | assumption | exact (hs.pull 4).cell rfl | exact (hs.pull 5).cell rfl | exact (hs.pull 6).cell rfl | exact (hs.pull 7).cell rfl) ?_
      refine x_move (.int _ _) rfl ?_
      refine x_conv cv_3_79 _ rfl (by simp only [X.lo]; omega) (by simp only [X.hi]; omega) ?_
      refine x_shr _ _ rfl rfl (by simp only [IntKind.bits]; omega) ?_
      refine x_and1 _ rfl rfl rfl ?_
      refine x_eql _ _ rfl rfl ?_
      refine x_nil ?_
      refine then_n ?_
      refine c_test _ rfl (fun hb => ?_) (fun hb => ?_)   -- cond t66
      · skip
        refine c_seq ?_
        -- region 11
        refine c_region ?_
        refine x_move (.pointer _) rfl ?_
        refine x_nilCheck _ rfl ?_
        first | refine x_field0 fa_78_3 _ rfl ?_ | refine x_field fa_78_3 _ _ rfl ?_
        refine x_load one_76 _ (.int _ _) rfl (by first | exact hs.cell rfl | exact (hs.pull 1).cell rfl | exact (hs.pull 2).cell rfl | exact (hs.pull 3).cell rfl | assumption | exact (hs.pull 4).cell rfl | exact (hs.pull 5).cell rfl | exact (hs.pull 6).cell rfl | exact (hs.pull 7).cell rfl) ?_
        refine x_move (.int _ _) rfl ?_
        refine x_conv cv_3_79 _ rfl (by simp only [X.lo]; omega) (by simp only [X.hi]; omega) ?_
        refine x_shl 1 i rfl rfl rfl (by simp only [IntKind.bits]; omega) (one_shl h2) ?_
        refine x_or _ _ rfl rfl rfl d2 (one_shl h2) ?_
        refine x_nilCheck _ rfl ?_
        first | refine x_field0 fa_78_3 _ rfl ?_ | refine x_field fa_78_3 _ _ rfl ?_
        refine x_store hs one_76 (.int _ _) rfl rfl rfl rfl ?_; clear hs; intro w hs; refine ⟨fun h => (by first | cases h | exact h), ?_⟩
        refine x_nil ?_
        refine then_n ?_
        -- region 12
        refine c_region ?_
        refine x_move (.pointer _) rfl ?_
        refine x_nilCheck _ rfl ?_
        first | refine x_field0 fa_78_4 _ rfl ?_ | refine x_field fa_78_4 _ _ rfl ?_
        refine x_load one_26 _ (.int _ _) rfl (by first | exact hs.cell rfl | exact (hs.pull 1).cell rfl | exact (hs.pull 2).cell rfl | exact (hs.pull 3).cell rfl | assumption | exact (hs.pull 4).cell rfl | exact (hs.pull 5).cell rfl | exact (hs.pull 6).cell rfl | exact (hs.pull 7).cell rfl) ?_
        refine x_add _ _ rfl rfl (by simp only [X.lo]; omega) (by simp only [X.hi]; omega) ?_
        refine x_nilCheck _ rfl ?_
        first | refine x_field0 fa_78_4 _ rfl ?_ | refine x_field fa_78_4 _ _ rfl ?_
        refine x_store hs one_26 (.int _ _) rfl rfl rfl rfl ?_; clear hs; intro w hs; refine ⟨fun h => (by first | cases h | exact h), ?_⟩
        refine x_nil ?_
        refine inb_n ?_
        refine then_n ?_
        -- region 6
        refine c_region ?_
        refine x_move (.int _ _) rfl ?_
        refine x_add _ _ rfl rfl (by simp only [X.lo]; omega) (by simp only [X.hi]; omega) ?_
        refine x_assign (.int _ _) rfl ?_
        refine x_nil ?_
        refine then_n ?_
        have hd : s.dueD (i + 1) = ⟨d.told ||| 1 <<< i, d.ever ||| 1 <<< i, d.once + 1, d.more, d.out ++ [(s.base + i, s.wait.getD i [])]⟩ := by rw [hstep]; unfold SSt.dueStep; rw [if_pos (by omega), if_pos (by omega)]
        refine ⟨⟨i + 1, _⟩, ⟨rfl, rfl, rfl, trivial⟩, ⟨by dsimp only; omega, by dsimp only; omega, ?_⟩, by dsimp only; omega⟩
        dsimp only
        rw [hd]
        exact Sat.sobj' (s := s.at ⟨d.told ||| 1 <<< i, d.ever ||| 1 <<< i, d.once + 1, d.more, d.out ++ [(s.base + i, s.wait.getD i [])]⟩) hs
      · skip
        -- region 13
        refine c_region ?_
        refine x_move (.pointer _) rfl ?_
        refine x_nilCheck _ rfl ?_
        first | refine x_field0 fa_78_5 _ rfl ?_ | refine x_field fa_78_5 _ _ rfl ?_
        refine x_load one_26 _ (.int _ _) rfl (by first | exact hs.cell rfl | exact (hs.pull 1).cell rfl | exact (hs.pull 2).cell rfl | exact (hs.pull 3).cell rfl | assumption | exact (hs.pull 4).cell rfl | exact (hs.pull 5).cell rfl | exact (hs.pull 6).cell rfl | exact (hs.pull 7).cell rfl) ?_
        refine x_add _ _ rfl rfl (by simp only [X.lo]; omega) (by simp only [X.hi]; omega) ?_
        refine x_nilCheck _ rfl ?_
        first | refine x_field0 fa_78_5 _ rfl ?_ | refine x_field fa_78_5 _ _ rfl ?_
        refine x_store hs one_26 (.int _ _) rfl rfl rfl rfl ?_; clear hs; intro w hs; refine ⟨fun h => (by first | cases h | exact h), ?_⟩
        refine x_nil ?_
        refine inb_n ?_
        refine then_n ?_
        -- region 6
        refine c_region ?_
        refine x_move (.int _ _) rfl ?_
        refine x_add _ _ rfl rfl (by simp only [X.lo]; omega) (by simp only [X.hi]; omega) ?_
        refine x_assign (.int _ _) rfl ?_
        refine x_nil ?_
        refine then_n ?_
        have hd : s.dueD (i + 1) = ⟨d.told ||| 1 <<< i, d.ever, d.once, d.more + 1, d.out ++ [(s.base + i, s.wait.getD i [])]⟩ := by rw [hstep]; unfold SSt.dueStep; rw [if_pos (by omega), if_neg (by omega)]
        refine ⟨⟨i + 1, _⟩, ⟨rfl, rfl, rfl, trivial⟩, ⟨by dsimp only; omega, by dsimp only; omega, ?_⟩, by dsimp only; omega⟩
        dsimp only
        rw [hd]
        exact Sat.sobj' (s := s.at ⟨d.told ||| 1 <<< i, d.ever, d.once, d.more + 1, d.out ++ [(s.base + i, s.wait.getD i [])]⟩) hs
    · skip
      refine c_skip ?_
      refine inb_n ?_
      refine then_n ?_
      -- region 6
      refine c_region ?_
      refine x_move (.int _ _) rfl ?_
      refine x_add _ _ rfl rfl (by simp only [X.lo]; omega) (by simp only [X.hi]; omega) ?_
      refine x_assign (.int _ _) rfl ?_
      refine x_nil ?_
      refine then_n ?_
      have hd : s.dueD (i + 1) = d := by rw [hstep]; unfold SSt.dueStep; rw [if_neg (by omega)]
      refine ⟨⟨i + 1, _⟩, ⟨rfl, rfl, rfl, trivial⟩, ⟨by dsimp only; omega, by dsimp only; omega, ?_⟩, by dsimp only; omega⟩
      dsimp only
      rw [hd]
      exact Sat.sobj' (s := s.at d) hs
  · skip
    refine c_seq ?_
    refine c_seq ?_
    -- region 5
    refine c_region ?_
    refine x_move (.int _ _) rfl ?_
    refine x_move (.pointer _) rfl ?_
    refine x_nilCheck _ rfl ?_
    first | refine x_field0 fa_78_1 _ rfl ?_ | refine x_field fa_78_1 _ _ rfl ?_
    refine x_load one_35 _ (.slice _ _ _) rfl (by first | exact hs.cell rfl | exact (hs.pull 1).cell rfl | exact (hs.pull 2).cell rfl | exact (hs.pull 3).cell rfl | assumption | exact (hs.pull 4).cell rfl | exact (hs.pull 5).cell rfl | exact (hs.pull 6).cell rfl | exact (hs.pull 7).cell rfl) ?_
    refine x_lenSl Try.underlying35 _ _ _ rfl ?_
    refine x_lssT _ _ rfl rfl (by omega) ?_
    refine x_move (.bool _) rfl ?_
    refine x_want' rfl ?_
    refine x_move (.int _ _) rfl ?_
    refine x_want' rfl ?_
    refine x_lssF _ _ rfl rfl (by omega) ?_
    refine x_pickT (.bool _) rfl rfl ?_
    refine x_nil ?_
    refine then_n ?_
    refine c_false rfl ?_
    refine c_exit ?_
    refine then_x ?_
    refine then_x ?_
    refine inb_e ?_
    refine then_n ?_
    refine c_seq ?_
    -- region 14
    refine c_region ?_
    refine x_move (.slice _ _ _) rfl ?_
    refine x_assign (.slice _ _ _) rfl ?_
    refine x_nil ?_
    refine then_n ?_
    refine c_ret ?_
    refine ⟨.inr rfl, ?_⟩
    rw [hend (by omega)]
    exact ⟨_, rfl, (Sat.sobj' (s := s.at d) hs).pull 1⟩
  · skip
    refine c_seq ?_
    refine c_seq ?_
    -- region 5
    refine c_region ?_
    refine x_move (.int _ _) rfl ?_
    refine x_move (.pointer _) rfl ?_
    refine x_nilCheck _ rfl ?_
    first | refine x_field0 fa_78_1 _ rfl ?_ | refine x_field fa_78_1 _ _ rfl ?_
    refine x_load one_35 _ (.slice _ _ _) rfl (by first | exact hs.cell rfl | exact (hs.pull 1).cell rfl | exact (hs.pull 2).cell rfl | exact (hs.pull 3).cell rfl | assumption | exact (hs.pull 4).cell rfl | exact (hs.pull 5).cell rfl | exact (hs.pull 6).cell rfl | exact (hs.pull 7).cell rfl) ?_
    refine x_lenSl Try.underlying35 _ _ _ rfl ?_
    refine x_lssF _ _ rfl rfl (by omega) ?_
    refine x_move (.bool _) rfl ?_
    refine x_skip rfl rfl ?_
    refine x_skip rfl rfl ?_
    refine x_pickF (.bool _) rfl rfl ?_
    refine x_nil ?_
    refine then_n ?_
    refine c_false rfl ?_
    refine c_exit ?_
    refine then_x ?_
    refine then_x ?_
    refine inb_e ?_
    refine then_n ?_
    refine c_seq ?_
    -- region 14
    refine c_region ?_
    refine x_move (.slice _ _ _) rfl ?_
    refine x_assign (.slice _ _ _) rfl ?_
    refine x_nil ?_
    refine then_n ?_
    refine c_ret ?_
    refine ⟨.inr rfl, ?_⟩
    rw [hend (by omega)]
    exact ⟨_, rfl, (Sat.sobj' (s := s.at d) hs).pull 1⟩
end Go.Proofs.Ytphakfggocdphaa.X
