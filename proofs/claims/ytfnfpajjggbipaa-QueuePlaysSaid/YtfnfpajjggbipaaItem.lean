/-
  ITEMS: rows of them, owned with their bytes, or only read; SameItems.
-/
import Derived.Test.YtfnfpajjggbipaaFoc
import Derived.Test.YtfnfpajjggbipaaCmp
namespace Go.Proofs.Ytfnfpajjggbipaa.X
open Go Go.RowKit
set_option linter.unusedVariables false
set_option maxRecDepth 20000
/-- the cells of a row of items -/
def icells : List Nat → List Value → List Value
  | q :: qs, u :: us => .int .u64 (q : Nat) :: u :: icells qs us
  | _, _ => []
theorem icells_snoc : ∀ (qs : List Nat) (us : List Value) (q : Nat) (u : Value), qs.length = us.length → icells (qs ++ [q]) (us ++ [u]) = icells qs us ++ [.int .u64 (q : Nat), u]
  | [], [], _, _, _ => rfl
  | q1 :: qs, u1 :: us, q, u, h => by simp only [List.cons_append, icells]; rw [icells_snoc qs us q u (by simpa using h)]
  | [], _ :: _, _, _, h => by cases h
  | _ :: _, [], _, _, h => by cases h
theorem icells_len : ∀ (qs : List Nat) (us : List Value), qs.length = us.length → (icells qs us).length = qs.length * 2
  | [], [], _ => rfl
  | q1 :: qs, u1 :: us, h => by simp only [icells, List.length_cons]; rw [icells_len qs us (by simpa using h)]; omega
  | [], _ :: _, h => by cases h
  | _ :: _, [], h => by cases h
theorem icells_get : ∀ (qs : List Nat) (us : List Value) (i : Nat) (q : Nat) (u : Value), qs[i]? = some q → us[i]? = some u → (icells qs us)[i * 2]? = some (.int .u64 (q : Nat)) ∧ (icells qs us)[i * 2 + 1]? = some u
  | q1 :: qs, u1 :: us, 0, q, u, h1, h2 => by
    simp at h1 h2; subst h1; subst h2; exact ⟨rfl, rfl⟩
  | q1 :: qs, u1 :: us, i + 1, q, u, h1, h2 => by
    have := icells_get qs us i q u (by simpa using h1) (by simpa using h2)
    rw [show (i + 1) * 2 = i * 2 + 1 + 1 from by omega]
    simpa [icells] using this
  | [], _, _, _, _, h, _ => by cases h
  | _ :: _, [], _, _, _, _, h => by cases h
abbrev Item := Nat × List UInt8
/-- items, owned with their bytes -/
def IR (v : Value) (l : List Item) : HP := fun h => ∃ us, SatH [Row 54 2 v l.length (icells (l.map (·.1)) us), EachB us (l.map (·.2))] h
theorem Sat.ir {w0 w : World} {v : Value} {l : List Item} {L : List HP} (hs : Sat w0 w (IR v l :: L)) : ∃ us, Sat w0 w (Row 54 2 v l.length (icells (l.map (·.1)) us) :: EachB us (l.map (·.2)) :: L) := by
  obtain ⟨vs, h⟩ := Sat.ex (F := fun us => SatH [Row 54 2 v l.length (icells (l.map (·.1)) us), EachB us (l.map (·.2))]) hs
  exact ⟨vs, h.opn⟩
theorem Sat.ir' {w0 w : World} {v : Value} {l : List Item} {us : List Value} {L : List HP} (hs : Sat w0 w (Row 54 2 v l.length (icells (l.map (·.1)) us) :: EachB us (l.map (·.2)) :: L)) : Sat w0 w (IR v l :: L) :=
  (Sat.shut (Ls := [Row 54 2 v l.length (icells (l.map (·.1)) us), EachB us (l.map (·.2))]) hs).head fun h hh => ⟨us, hh⟩
theorem Sat.irNil {w0 w : World} {L : List HP} (hs : Sat w0 w L) : Sat w0 w (IR (.slice none 0 0) [] :: L) := Sat.ir' (us := []) (EachB.nil hs).rowNil

theorem icells_take : ∀ (k : Nat) (qs : List Nat) (us : List Value), (icells qs us).take (k * 2) = icells (qs.take k) (us.take k)
  | 0, qs, us => by simp [icells]
  | k + 1, [], us => by simp [icells]
  | k + 1, q :: qs, [] => by simp [icells]
  | k + 1, q :: qs, u :: us => by
    rw [show (k + 1) * 2 = k * 2 + 1 + 1 from by omega]
    simp only [icells, List.take_succ_cons]
    rw [icells_take k]
theorem icells_drop : ∀ (k : Nat) (qs : List Nat) (us : List Value), qs.length = us.length → (icells qs us).drop (k * 2) = icells (qs.drop k) (us.drop k)
  | 0, qs, us, _ => by simp
  | k + 1, [], [], _ => by simp [icells]
  | k + 1, q :: qs, [], h => by simp at h
  | k + 1, [], u :: us, h => by simp at h
  | k + 1, q :: qs, u :: us, h => by
    rw [show (k + 1) * 2 = k * 2 + 1 + 1 from by omega]
    simp only [icells, List.drop_succ_cons]
    rw [icells_drop k _ _ (by simpa using h)]
theorem icells_append : ∀ (qs qs' : List Nat) (us us' : List Value), qs.length = us.length → icells (qs ++ qs') (us ++ us') = icells qs us ++ icells qs' us'
  | [], qs', [], us', _ => rfl
  | q :: qs, qs', [], us', h => by simp at h
  | [], qs', u :: us, us', h => by simp at h
  | q :: qs, qs', u :: us, us', h => by
    simp only [List.cons_append, icells]
    rw [icells_append qs qs' us us' (by simpa using h)]
theorem icells_one : ∀ (qs : List Nat) (us : List Value), (∀ u ∈ us, u.oneCell' = true) → ∀ u ∈ icells qs us, u.oneCell' = true
  | [], us, _, u, hu => by simp [icells] at hu
  | q :: qs, [], _, u, hu => by simp [icells] at hu
  | q :: qs, u1 :: us, h, u, hu => by
    simp only [icells, List.mem_cons] at hu
    rcases hu with rfl | rfl | hu
    · rfl
    · exact h _ (by simp)
    · exact icells_one qs us (fun u hu => h u (by simp [hu])) u hu
theorem Sat.eachOne {w0 w : World} {vs : List Value} {ls : List (List UInt8)} {L : List HP} (hs : Sat w0 w (EachB vs ls :: L)) : ∀ u ∈ vs, u.oneCell' = true := fun u hu => by
  obtain ⟨i, hi, rfl⟩ := List.getElem_of_mem hu
  have hl := hs.eachLen
  obtain ⟨a, c, e⟩ := (hs.eachRB (List.getElem?_eq_getElem hi) (List.getElem?_eq_getElem (by omega))).val
  rw [e]
  rfl
def items : Nat → List (List UInt8) → List Item
  | _, [] => []
  | b, l :: ls => (b, l) :: items (b + 1) ls
theorem items_len : ∀ (b : Nat) (ls : List (List UInt8)), (items b ls).length = ls.length
  | _, [] => rfl
  | b, l :: ls => by simp [items, items_len (b + 1) ls]
theorem items_snoc : ∀ (b : Nat) (ls : List (List UInt8)) (l : List UInt8), items b (ls ++ [l]) = items b ls ++ [(b + ls.length, l)]
  | b, [], l => by simp [items]
  | b, l1 :: ls, l => by
    simp only [List.cons_append, items, items_snoc (b + 1) ls l, List.length_cons]
    rw [show b + 1 + ls.length = b + (ls.length + 1) from by omega]
theorem items_drop : ∀ (k b : Nat) (ls : List (List UInt8)), (items b ls).drop k = items (b + k) (ls.drop k)
  | 0, b, ls => by simp
  | k + 1, b, [] => by simp [items]
  | k + 1, b, l :: ls => by
    simp only [items, List.drop_succ_cons, items_drop k (b + 1) ls]
    rw [show b + 1 + k = b + (k + 1) from by omega]
theorem items_get : ∀ (b : Nat) (ls : List (List UInt8)) (i : Nat) (l : List UInt8), ls[i]? = some l → (items b ls)[i]? = some (b + i, l)
  | b, [], i, l, h => by simp at h
  | b, l1 :: ls, 0, l, h => by
    simp at h
    simp [items, h]
  | b, l1 :: ls, i + 1, l, h => by
    simp only [items, List.getElem?_cons_succ]
    rw [items_get (b + 1) ls i l (by simpa using h), show b + 1 + i = b + (i + 1) from by omega]
theorem items_snd : ∀ (b : Nat) (ls : List (List UInt8)), (items b ls).map (·.2) = ls
  | _, [] => rfl
  | b, l :: ls => by simp [items, items_snd (b + 1) ls]
/-- items that are only read -/
def RI (w : World) (v : Value) (l : List Item) : Prop := ∃ us, us.length = l.length ∧ RD w 2 v l.length (icells (l.map (·.1)) us) ∧ ∀ (i : Nat) (u : Value) (p : Item), us[i]? = some u → l[i]? = some p → RB w u p.2
theorem Sat.ri {w0 w : World} {v : Value} {l : List Item} {L : List HP} (hs : Sat w0 w (IR v l :: L)) : RI w v l := by
  obtain ⟨us, hs⟩ := hs.ir
  refine ⟨us, by simpa using hs.tail.eachLen, hs.rd, fun i u p h1 h2 => hs.tail.eachRB h1 (by rw [List.getElem?_map, h2]; rfl)⟩
theorem RI.heapEq {w w' : World} {v : Value} {l : List Item} (h : RI w v l) (hh : w'.heap = w.heap) : RI w' v l := by
  obtain ⟨us, h0, h1, h2⟩ := h
  exact ⟨us, h0, h1.heapEq hh, fun i u p h3 h4 => (h2 i u p h3 h4).heapEq hh⟩
theorem RI.val {w : World} {v : Value} {l : List Item} (h : RI w v l) : ∃ ao c, v = .slice ao l.length c := let ⟨_, _, h1, _⟩ := h; h1.val

/-! ### SameItems -/
theorem RI.get {w : World} {ao : Option Addr} {c : Nat} {l : List Item} (h : RI w (.slice ao l.length c) l) {i : Nat} {p : Item} (hi : l[i]? = some p) :
    ∃ g o a' c', ao = some ⟨g, o, none⟩ ∧ w.cell? ⟨g, o + i * 2 + 0, none⟩ = some (.int .u64 (p.1 : Nat)) ∧ w.cell? ⟨g, o + i * 2 + 1, none⟩ = some (.slice a' p.2.length c') ∧ RB w (.slice a' p.2.length c') p.2 := by
  obtain ⟨us, h0, h1, h2⟩ := h
  have hil : i < l.length := (List.getElem?_eq_some_iff.1 hi).1
  obtain ⟨g, o, rfl⟩ := h1.addr (by omega)
  obtain ⟨u, hu⟩ : ∃ u, us[i]? = some u := ⟨us[i]'(by omega), List.getElem?_eq_getElem _⟩
  have hrb := h2 i u p hu hi
  obtain ⟨a', c', rfl⟩ := hrb.val
  have hq : (l.map (·.1))[i]? = some p.1 := by rw [List.getElem?_map, hi]; rfl
  obtain ⟨g1, g2⟩ := icells_get _ us i _ _ hq hu
  exact ⟨g, o, a', c', rfl, h1.cell g1, h1.cell g2, hrb⟩
set_option maxHeartbeats 2000000 in
theorem sameitems_calls {w0 w1 : World} {L : List HP} {v1 v2 : Value} {l1 l2 : List Item} (hs : Sat w0 w1 L) (h1 : RI w1 v1 l1) (h2 : RI w1 v2 l2) (hlen1 : l1.length ≤ 1000000000000) :
    Calls Try.prog 14 #[v1, v2] w1 fun e w' => e = .returned (.bool (decide (l1 = l2))) ∧ Sat w0 w' L ∧ w'.heap = w1.heap := by
  obtain ⟨a1, c1, rfl⟩ := h1.val
  obtain ⟨a2, c2, rfl⟩ := h2.val
  refine enter Try.func14 rfl Try.ntmps14 4 rfl (Nat.le_of_ble_eq_true rfl) ?_
  refine c_seq ?_
  -- region 0
  refine c_region ?_
  refine x_assign (.bool _) rfl ?_
  refine x_nil ?_
  refine then_n ?_
  refine c_seq ?_
  refine c_seq ?_
  -- region 1
  refine c_region ?_
  refine x_move (.slice _ _ _) rfl ?_
  refine x_lenSl Try.underlying27 _ _ _ rfl ?_
  refine x_move (.slice _ _ _) rfl ?_
  refine x_lenSl Try.underlying27 _ _ _ rfl ?_
  refine x_neq _ _ rfl rfl ?_
  refine x_nil ?_
  refine then_n ?_
  refine c_test _ rfl (fun hb => ?_) (fun hb => ?_)   -- cond t10
  · skip
    refine c_seq ?_
    -- region 2
    refine c_region ?_
    refine x_assign (.bool _) rfl ?_
    refine x_nil ?_
    refine then_n ?_
    refine c_ret ?_
    refine then_r ?_
    refine ⟨.inr rfl, ?_⟩
    have : ¬ l1 = l2 := fun e => by subst e; exact hb rfl
    rw [decide_eq_false this]
    exact ⟨rfl, hs, rfl⟩
  · skip
    refine c_skip ?_
    refine then_n ?_
    refine c_seq ?_
    refine c_seq ?_
    -- region 3
    refine c_region ?_
    refine x_assign (.int _ _) rfl ?_
    refine x_nil ?_
    refine then_n ?_
    refine c_block ?_
    refine c_loop (γ := Nat) (fun (i : Nat) => [(0, .slice a1 l1.length c1), (1, .slice a2 l2.length c2), (5, .int .i64 (i : Nat))]) (fun (i : Nat) w => i ≤ l1.length ∧ l1.take i = l2.take i ∧ Sat w0 w L ∧ w.heap = w1.heap) (fun (i : Nat) => l1.length - i) 0 ⟨rfl, rfl, rfl, trivial⟩ ⟨Nat.zero_le _, rfl, hs, rfl⟩ ?_
    clear hs
    rintro i ρ w ⟨hil, ht, hs, hw⟩
    change CW Try.prog 43 _ _ (sets 43 [(0, .slice a1 l1.length c1), (1, .slice a2 l2.length c2), (5, .int .i64 (i : Nat))] ρ) w
    have hlen : l1.length = l2.length := by omega
    refine c_seq ?_
    refine c_seq ?_
    -- region 4
    refine c_region ?_
    refine x_move (.int _ _) rfl ?_
    refine x_move (.slice _ _ _) rfl ?_
    refine x_lenSl Try.underlying27 _ _ _ rfl ?_
    refine x_lss _ _ rfl rfl ?_
    refine x_nil ?_
    refine then_n ?_
    refine c_test _ rfl (fun hb => ?_) (fun hb => ?_)   -- cond t14
    · skip
      have hlt : i < l1.length := by omega
      obtain ⟨p1, hp1⟩ : ∃ b, l1[i]? = some b := ⟨l1[i]'hlt, List.getElem?_eq_getElem _⟩
      obtain ⟨p2, hp2⟩ : ∃ b, l2[i]? = some b := ⟨l2[i]'(by omega), List.getElem?_eq_getElem _⟩
      obtain ⟨g1, o1, a3, c3, rfl, hx1, hc1, hr1⟩ := (h1.heapEq hw).get hp1
      obtain ⟨g2, o2, a4, c4, rfl, hx2, hc2, hr2⟩ := (h2.heapEq hw).get hp2
      have hst1 : l1.take (i + 1) = l1.take i ++ [p1] := by rw [List.take_add_one, hp1]; rfl
      have hst2 : l2.take (i + 1) = l2.take i ++ [p2] := by rw [List.take_add_one, hp2]; rfl
      by_cases hq : p1.1 = p2.1
      · skip
        refine c_skip ?_
        refine then_n ?_
        refine c_seq ?_
        refine c_block ?_
        refine c_seq ?_
        -- region 6 DRAWS
        refine c_draw (fun w => w1.heap = w.heap ∧ w.cell? ⟨g1, o1 + i * 2 + 0, none⟩ = some (.int .u64 (p1.1 : Nat)) ∧ w.cell? ⟨g2, o2 + i * 2 + 0, none⟩ = some (.int .u64 (p2.1 : Nat)) ∧ w.cell? ⟨g1, o1 + i * 2 + 1, none⟩ = some (.slice a3 p1.2.length c3) ∧ w.cell? ⟨g2, o2 + i * 2 + 1, none⟩ = some (.slice a4 p2.2.length c4)) (fun i => !(false)) [(0, 2), (1, 2), (2, 2), (3, 2), (4, 1), (5, 2), (6, 2), (7, 2), (8, 2), (9, 1), (10, 2), (11, 2), (12, 2), (13, 2), (14, 2), (15, 2), (16, 1), (17, 1), (18, 2), (19, 2), (20, 2), (21, 2), (22, 1), (23, 1), (24, 2), (25, 2)] (by kernel_rfl) (by kernel_rfl) (by kernel_rfl) (by kernel_rfl) (⟨hw.symm, hx1, hx2, hc1, hc2⟩) ?_
        replace hs := hs.drew
        refine x_move (.slice _ _ _) rfl ?_
        refine x_move (.int _ _) rfl ?_
        refine x_indexAddr Try.underlying27 sz_54 _ _ _ _ _ rfl rfl (by omega) ?_
        first | refine x_field0 fa_54_0 _ rfl ?_ | refine x_field fa_54_0 _ _ rfl ?_
        refine h_load one_22 _ (.int _ _) rfl (fun w hS => by first | exact hS.cell rfl | exact (hS.pull 1).cell rfl | exact (hS.pull 2).cell rfl | exact (hS.pull 3).cell rfl | exact (hS.pull 4).cell rfl | exact (hS.pull 5).cell rfl | exact (hS.pull 6).cell rfl | exact hS | exact hS.1 | exact hS.2 | exact hS.2.1 | exact hS.2.2 | exact hS.2.2.1 | exact hS.2.2.2 | exact hS.2.2.2.1 | exact hS.2.2.2.2) ?_
        refine x_move (.slice _ _ _) rfl ?_
        refine x_move (.int _ _) rfl ?_
        refine x_indexAddr Try.underlying27 sz_54 _ _ _ _ _ rfl rfl (by omega) ?_
        first | refine x_field0 fa_54_0 _ rfl ?_ | refine x_field fa_54_0 _ _ rfl ?_
        refine h_load one_22 _ (.int _ _) rfl (fun w hS => by first | exact hS.cell rfl | exact (hS.pull 1).cell rfl | exact (hS.pull 2).cell rfl | exact (hS.pull 3).cell rfl | exact (hS.pull 4).cell rfl | exact (hS.pull 5).cell rfl | exact (hS.pull 6).cell rfl | exact hS | exact hS.1 | exact hS.2 | exact hS.2.1 | exact hS.2.2 | exact hS.2.2.1 | exact hS.2.2.2 | exact hS.2.2.2.1 | exact hS.2.2.2.2) ?_
        refine x_neqF _ _ rfl rfl (by omega) ?_
        refine x_move (.bool _) rfl ?_
        refine x_want' rfl ?_
        refine x_move (.slice _ _ _) rfl ?_
        refine x_want' rfl ?_
        refine x_move (.int _ _) rfl ?_
        refine x_want' rfl ?_
        refine x_indexAddr Try.underlying27 sz_54 _ _ _ _ _ rfl rfl (by omega) ?_
        refine x_want' rfl ?_
        first | refine x_field0 fa_54_1 _ rfl ?_ | refine x_field fa_54_1 _ _ rfl ?_
        refine x_want' rfl ?_
        refine h_load one_30 _ (.slice _ _ _) rfl (fun w hS => by first | exact hS.cell rfl | exact (hS.pull 1).cell rfl | exact (hS.pull 2).cell rfl | exact (hS.pull 3).cell rfl | exact (hS.pull 4).cell rfl | exact (hS.pull 5).cell rfl | exact (hS.pull 6).cell rfl | exact hS | exact hS.1 | exact hS.2 | exact hS.2.1 | exact hS.2.2 | exact hS.2.2.1 | exact hS.2.2.2 | exact hS.2.2.2.1 | exact hS.2.2.2.2) ?_
        refine x_want' rfl ?_
        refine h_str Try.underlying30 Try.underlying5 Try.underlying9 p1.2 (fun w hS => hr1.heapEq (hS.1.symm.trans hw.symm)) rfl ?_
        refine x_want' rfl ?_
        refine x_move (.slice _ _ _) rfl ?_
        refine x_want' rfl ?_
        refine x_move (.int _ _) rfl ?_
        refine x_want' rfl ?_
        refine x_indexAddr Try.underlying27 sz_54 _ _ _ _ _ rfl rfl (by omega) ?_
        refine x_want' rfl ?_
        first | refine x_field0 fa_54_1 _ rfl ?_ | refine x_field fa_54_1 _ _ rfl ?_
        refine x_want' rfl ?_
        refine h_load one_30 _ (.slice _ _ _) rfl (fun w hS => by first | exact hS.cell rfl | exact (hS.pull 1).cell rfl | exact (hS.pull 2).cell rfl | exact (hS.pull 3).cell rfl | exact (hS.pull 4).cell rfl | exact (hS.pull 5).cell rfl | exact (hS.pull 6).cell rfl | exact hS | exact hS.1 | exact hS.2 | exact hS.2.1 | exact hS.2.2 | exact hS.2.2.1 | exact hS.2.2.2 | exact hS.2.2.2.1 | exact hS.2.2.2.2) ?_
        refine x_want' rfl ?_
        refine h_str Try.underlying30 Try.underlying5 Try.underlying9 p2.2 (fun w hS => hr2.heapEq (hS.1.symm.trans hw.symm)) rfl ?_
        refine x_want' rfl ?_
        refine x_neqS _ _ rfl rfl ?_
        refine x_pickF (.bool _) rfl rfl ?_
        refine x_nil ?_
        refine then_n ?_
        refine c_test _ rfl (fun hb => ?_) (fun hb => ?_)   -- cond t42
        · skip
          refine c_seq ?_
          -- region 7
          refine c_region ?_
          refine x_assign (.bool _) rfl ?_
          refine x_nil ?_
          refine then_n ?_
          refine c_ret ?_
          refine inb_r ?_
          refine then_r ?_
          refine then_r ?_
          refine inb_r ?_
          refine then_r ?_
          refine ⟨.inr rfl, ?_⟩
          have : ¬ l1 = l2 := fun e => by subst e; rw [hp1] at hp2; cases hp2; exact hb rfl
          rw [decide_eq_false this]
          exact ⟨rfl, hs, hw⟩
        · skip
          refine c_skip ?_
          refine inb_n ?_
          refine then_n ?_
          -- region 5
          refine c_region ?_
          refine x_move (.int _ _) rfl ?_
          refine x_add _ _ rfl rfl (by simp only [X.lo]; omega) (by simp only [X.hi]; omega) ?_
          refine x_assign (.int _ _) rfl ?_
          refine x_nil ?_
          refine then_n ?_
          have hpp : p1 = p2 := Prod.ext hq (Classical.byContradiction fun h => hb h)
          refine ⟨i + 1, ⟨rfl, rfl, rfl, trivial⟩, ⟨by omega, by rw [hst1, hst2, ht, hpp], hs, hw⟩, by first | omega | (dsimp only; omega)⟩
      · skip
        refine c_skip ?_
        refine then_n ?_
        refine c_seq ?_
        refine c_block ?_
        refine c_seq ?_
        -- region 6 DRAWS
        refine c_draw (fun w => w1.heap = w.heap ∧ w.cell? ⟨g1, o1 + i * 2 + 0, none⟩ = some (.int .u64 (p1.1 : Nat)) ∧ w.cell? ⟨g2, o2 + i * 2 + 0, none⟩ = some (.int .u64 (p2.1 : Nat)) ∧ w.cell? ⟨g1, o1 + i * 2 + 1, none⟩ = some (.slice a3 p1.2.length c3) ∧ w.cell? ⟨g2, o2 + i * 2 + 1, none⟩ = some (.slice a4 p2.2.length c4)) (fun i => !(false)) [(0, 2), (1, 2), (2, 2), (3, 2), (4, 1), (5, 2), (6, 2), (7, 2), (8, 2), (9, 1), (10, 2), (11, 2), (12, 2), (13, 2), (14, 2), (15, 2), (16, 1), (17, 1), (18, 2), (19, 2), (20, 2), (21, 2), (22, 1), (23, 1), (24, 2), (25, 2)] (by kernel_rfl) (by kernel_rfl) (by kernel_rfl) (by kernel_rfl) (⟨hw.symm, hx1, hx2, hc1, hc2⟩) ?_
        replace hs := hs.drew
        refine x_move (.slice _ _ _) rfl ?_
        refine x_move (.int _ _) rfl ?_
        refine x_indexAddr Try.underlying27 sz_54 _ _ _ _ _ rfl rfl (by omega) ?_
        first | refine x_field0 fa_54_0 _ rfl ?_ | refine x_field fa_54_0 _ _ rfl ?_
        refine h_load one_22 _ (.int _ _) rfl (fun w hS => by first | exact hS.cell rfl | exact (hS.pull 1).cell rfl | exact (hS.pull 2).cell rfl | exact (hS.pull 3).cell rfl | exact (hS.pull 4).cell rfl | exact (hS.pull 5).cell rfl | exact (hS.pull 6).cell rfl | exact hS | exact hS.1 | exact hS.2 | exact hS.2.1 | exact hS.2.2 | exact hS.2.2.1 | exact hS.2.2.2 | exact hS.2.2.2.1 | exact hS.2.2.2.2) ?_
        refine x_move (.slice _ _ _) rfl ?_
        refine x_move (.int _ _) rfl ?_
        refine x_indexAddr Try.underlying27 sz_54 _ _ _ _ _ rfl rfl (by omega) ?_
        first | refine x_field0 fa_54_0 _ rfl ?_ | refine x_field fa_54_0 _ _ rfl ?_
        refine h_load one_22 _ (.int _ _) rfl (fun w hS => by first | exact hS.cell rfl | exact (hS.pull 1).cell rfl | exact (hS.pull 2).cell rfl | exact (hS.pull 3).cell rfl | exact (hS.pull 4).cell rfl | exact (hS.pull 5).cell rfl | exact (hS.pull 6).cell rfl | exact hS | exact hS.1 | exact hS.2 | exact hS.2.1 | exact hS.2.2 | exact hS.2.2.1 | exact hS.2.2.2 | exact hS.2.2.2.1 | exact hS.2.2.2.2) ?_
        refine x_neqT _ _ rfl rfl (by omega) ?_
        refine x_move (.bool _) rfl ?_
        refine x_skip rfl rfl ?_
        refine x_skip rfl rfl ?_
        refine x_skip rfl rfl ?_
        refine x_skip rfl rfl ?_
        refine x_skip rfl rfl ?_
        refine x_skip rfl rfl ?_
        refine x_skip rfl rfl ?_
        refine x_skip rfl rfl ?_
        refine x_skip rfl rfl ?_
        refine x_skip rfl rfl ?_
        refine x_skip rfl rfl ?_
        refine x_skip rfl rfl ?_
        refine x_skip rfl rfl ?_
        refine x_pickT (.bool _) rfl rfl ?_
        refine x_nil ?_
        refine then_n ?_
        refine c_true rfl ?_
        refine c_seq ?_
        -- region 7
        refine c_region ?_
        refine x_assign (.bool _) rfl ?_
        refine x_nil ?_
        refine then_n ?_
        refine c_ret ?_
        refine inb_r ?_
        refine then_r ?_
        refine then_r ?_
        refine inb_r ?_
        refine then_r ?_
        refine ⟨.inr rfl, ?_⟩
        have : ¬ l1 = l2 := fun e => by subst e; rw [hp1] at hp2; cases hp2; exact hq rfl
        rw [decide_eq_false this]
        exact ⟨rfl, hs, hw⟩
    · skip
      refine c_exit ?_
      refine then_x ?_
      refine then_x ?_
      refine inb_e ?_
      refine then_n ?_
      refine c_seq ?_
      -- region 8
      refine c_region ?_
      refine x_assign (.bool _) rfl ?_
      refine x_nil ?_
      refine then_n ?_
      refine c_ret ?_
      refine ⟨.inr rfl, ?_⟩
      have h1e : l1.take i = l1 := List.take_of_length_le (by omega)
      have h2e : l2.take i = l2 := List.take_of_length_le (by omega)
      have : l1 = l2 := by rw [← h1e, ht, h2e]
      rw [decide_eq_true this]
      exact ⟨rfl, hs, hw⟩
end Go.Proofs.Ytfnfpajjggbipaa.X
