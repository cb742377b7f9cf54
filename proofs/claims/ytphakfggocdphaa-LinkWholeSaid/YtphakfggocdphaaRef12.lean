/-
  LAYER 12's REFERENCE: find, Take.
-/
import Derived.Test.YtphakfggocdphaaLawL2
namespace Go.Proofs.Ytphakfggocdphaa.X
open Go Go.RowKit
set_option linter.unusedVariables false
set_option maxRecDepth 20000
/-- the place of a key -/
def hpos (q : Nat) : Held → Option Nat
  | [] => none
  | (a, _) :: h => if a = q then some 0 else (hpos q h).map (· + 1)
theorem hpos_hit {q : Nat} : ∀ {h : Held} {i : Nat} {b : List UInt8}, (∀ j p, j < i → h[j]? = some p → p.1 ≠ q) → h[i]? = some (q, b) → hpos q h = some i
  | [], i, b, _, h2 => by simp at h2
  | (a, c) :: h, 0, b, h1, h2 => by
    simp at h2
    simp [hpos, h2.1]
  | (a, c) :: h, i + 1, b, h1, h2 => by
    have h3 : a ≠ q := h1 0 (a, c) (by omega) rfl
    have h4 := hpos_hit (h := h) (i := i) (b := b) (fun j p hj hp => h1 (j + 1) p (by omega) (by simpa using hp)) (by simpa using h2)
    simp [hpos, h3, h4]
theorem hpos_miss {q : Nat} : ∀ {h : Held}, (∀ (j : Nat) p, h[j]? = some p → p.1 ≠ q) → hpos q h = none
  | [], _ => rfl
  | (a, c) :: h, h1 => by
    have h3 : a ≠ q := h1 0 (a, c) rfl
    have h4 := hpos_miss (h := h) (fun j p hp => h1 (j + 1) p (by simpa using hp))
    simp [hpos, h3, h4]
theorem hpos_none {q : Nat} : ∀ {h : Held}, hpos q h = none → mget q h = none
  | [], _ => rfl
  | (a, c) :: h, h1 => by
    unfold hpos at h1
    split at h1
    · cases h1
    · rename_i hne
      have h2 := hpos_none (h := h) (by simpa using h1)
      simp [mget, h2, Ne.symm hne]
theorem hpos_some {q : Nat} : ∀ {h : Held} {k : Nat}, hpos q h = some k → ∃ b, h[k]? = some (q, b) ∧ mget q h = some b ∧ mdel q h = h.take k ++ h.drop (k + 1)
  | [], _, h1 => by cases h1
  | (a, c) :: h, k, h1 => by
    unfold hpos at h1
    split at h1
    · rename_i he
      cases h1
      subst he
      exact ⟨c, rfl, by simp [mget], by simp [mdel]⟩
    · rename_i hne
      obtain ⟨k, hk, rfl⟩ := Option.map_eq_some_iff.1 h1
      obtain ⟨b, g1, g2, g3⟩ := hpos_some hk
      exact ⟨b, by simpa using g1, by simp [mget, g2, Ne.symm hne], by simp [mdel, g3, Ne.symm hne]⟩
def posv (o : Option Nat) : Int := match o with | some k => (k : Int) | none => -1
structure GFind where
  i : Nat
set_option maxHeartbeats 2000000 in
theorem find_calls {w0 w : World} {L : List HP} {x u n c : Nat} {ao : Option Addr} {ow : Bool} {h : Held} {us : List Value} (q : Nat) (hn : n = h.length) (hul : us.length = n) (hlen : n ≤ 1000000) (hs : Sat w0 w (Blk x (.cells #[.int .u64 (u : Nat), .slice ao n c, .bool ow] 29 (0, 0)) :: Row 56 2 (.slice ao n c) n (icells (h.map (·.1)) us) :: L)) :
    Calls Try.prog 38 #[.pointer (some ⟨x, 0, none⟩), .int .u64 (q : Nat)] w fun e w' => e = .returned (.int .i64 (posv (hpos q h))) ∧ Sat w0 w' (Blk x (.cells #[.int .u64 (u : Nat), .slice ao n c, .bool ow] 29 (0, 0)) :: Row 56 2 (.slice ao n c) n (icells (h.map (·.1)) us) :: L) := by
  subst hn
  refine enter Try.func38 rfl Try.ntmps38 4 rfl (Nat.le_of_ble_eq_true rfl) ?_
  refine c_seq ?_
  -- region 0
  refine c_region ?_
  refine x_assign (.int _ _) rfl ?_
  refine x_nil ?_
  refine then_n ?_
  refine c_seq ?_
  refine c_seq ?_
  -- region 1
  refine c_region ?_
  refine x_assign (.int _ _) rfl ?_
  refine x_nil ?_
  refine then_n ?_
  refine c_block ?_
  refine c_loop (γ := GFind) (fun g => [(0, .pointer (some ⟨x, 0, none⟩)), (1, .int .u64 (q : Nat)), (5, .int .i64 (g.i : Nat))]) (fun g w => g.i ≤ h.length ∧ (∀ j p, j < g.i → h[j]? = some p → p.1 ≠ q) ∧ Sat w0 w (Blk x (.cells #[.int .u64 (u : Nat), .slice ao h.length c, .bool ow] 29 (0, 0)) :: Row 56 2 (.slice ao h.length c) h.length (icells (h.map (·.1)) us) :: L)) (fun g => h.length - g.i) ⟨0⟩ ⟨rfl, rfl, rfl, trivial⟩ ⟨Nat.zero_le _, fun j p hj => by (dsimp only at hj; omega), hs⟩ ?_
  clear hs
  rintro ⟨i⟩ ρ w ⟨hil, hno, hs⟩
  dsimp only at hil hno hs
  change CW Try.prog 26 _ _ (sets 26 [(0, .pointer (some ⟨x, 0, none⟩)), (1, .int .u64 (q : Nat)), (5, .int .i64 (i : Nat))] ρ) w
  refine c_seq ?_
  refine c_seq ?_
  -- region 2
  refine c_region ?_
  refine x_move (.int _ _) rfl ?_
  refine x_move (.pointer _) rfl ?_
  refine x_nilCheck _ rfl ?_
  first | refine x_field0 fa_29_1 _ rfl ?_ | refine x_field fa_29_1 _ _ rfl ?_
  refine x_load one_27 _ (.slice _ _ _) rfl (by first | exact hs.cell rfl | exact (hs.pull 1).cell rfl | exact (hs.pull 2).cell rfl | exact (hs.pull 3).cell rfl | assumption | exact (hs.pull 4).cell rfl | exact (hs.pull 5).cell rfl | exact (hs.pull 6).cell rfl | exact (hs.pull 7).cell rfl) ?_
  refine x_lenSl Try.underlying27 _ _ _ rfl ?_
  refine x_lss _ _ rfl rfl ?_
  refine x_nil ?_
  refine then_n ?_
  refine c_test _ rfl (fun hb => ?_) (fun hb => ?_)   -- cond t12
  · skip
    refine c_skip ?_
    refine then_n ?_
    refine c_seq ?_
    refine c_block ?_
    refine c_seq ?_
    -- region 4
    have hlt : i < h.length := by omega
    obtain ⟨g, o, rfl⟩ := (hs.pull 1).rowAddr (by omega)
    obtain ⟨⟨k, b⟩, hk⟩ : ∃ p, h[i]? = some p := ⟨h[i]'hlt, List.getElem?_eq_getElem _⟩
    have hk1 : (h.map (·.1))[i]? = some k := by rw [List.getElem?_map, hk]; rfl
    have hcell : w.cell? ⟨g, o + i * 2 + 0, none⟩ = some (.int .u64 (k : Nat)) := (hs.pull 1).rowCell (icells_get _ us i k _ hk1 (List.getElem?_eq_getElem (by omega))).1
    refine c_region ?_
    refine x_move (.pointer _) rfl ?_
    refine x_nilCheck _ rfl ?_
    first | refine x_field0 fa_29_1 _ rfl ?_ | refine x_field fa_29_1 _ _ rfl ?_
    refine x_load one_27 _ (.slice _ _ _) rfl (by first | exact hs.cell rfl | exact (hs.pull 1).cell rfl | exact (hs.pull 2).cell rfl | exact (hs.pull 3).cell rfl | assumption | exact (hs.pull 4).cell rfl | exact (hs.pull 5).cell rfl | exact (hs.pull 6).cell rfl | exact (hs.pull 7).cell rfl) ?_
    refine x_move (.int _ _) rfl ?_
    refine x_indexAddr Try.underlying27 sz_56 _ _ _ _ _ rfl rfl (by omega) ?_
    first | refine x_field0 fa_56_0 _ rfl ?_ | refine x_field fa_56_0 _ _ rfl ?_
    refine x_load one_26 _ (.int _ _) rfl (by first | exact hs.cell rfl | exact (hs.pull 1).cell rfl | exact (hs.pull 2).cell rfl | exact (hs.pull 3).cell rfl | assumption | exact (hs.pull 4).cell rfl | exact (hs.pull 5).cell rfl | exact (hs.pull 6).cell rfl | exact (hs.pull 7).cell rfl) ?_
    refine x_move (.int _ _) rfl ?_
    refine x_eql _ _ rfl rfl ?_
    refine x_nil ?_
    refine then_n ?_
    refine c_test _ rfl (fun hb => ?_) (fun hb => ?_)   -- cond t24
    · skip
      refine c_seq ?_
      -- region 5
      refine c_region ?_
      refine x_move (.int _ _) rfl ?_
      refine x_assign (.int _ _) rfl ?_
      refine x_nil ?_
      refine then_n ?_
      refine c_ret ?_
      refine inb_r ?_
      refine then_r ?_
      refine then_r ?_
      refine inb_r ?_
      refine then_r ?_
      refine ⟨.inr rfl, ?_⟩
      have hkq : k = q := by omega
      subst hkq
      rw [hpos_hit hno hk]
      exact ⟨rfl, hs⟩
    · skip
      refine c_skip ?_
      refine inb_n ?_
      refine then_n ?_
      -- region 3
      refine c_region ?_
      refine x_move (.int _ _) rfl ?_
      refine x_add _ _ rfl rfl (by simp only [X.lo]; omega) (by simp only [X.hi]; omega) ?_
      refine x_assign (.int _ _) rfl ?_
      refine x_nil ?_
      refine then_n ?_
      exact ⟨⟨i + 1⟩, ⟨rfl, rfl, rfl, trivial⟩, ⟨by dsimp only; omega, fun j p hj hp => by
      dsimp only at hj
      by_cases e : j = i
      · subst e
        rw [hk] at hp
        cases hp
        dsimp only
        omega
      · exact hno j p (by omega) hp, hs⟩, by dsimp only; omega⟩
  · skip
    refine c_exit ?_
    refine then_x ?_
    refine then_x ?_
    refine inb_e ?_
    refine then_n ?_
    refine c_seq ?_
    -- region 6
    refine c_region ?_
    refine x_assign (.int _ _) rfl ?_
    refine x_nil ?_
    refine then_n ?_
    refine c_ret ?_
    refine ⟨.inr rfl, ?_⟩
    rw [hpos_miss (q := q) (h := h) fun j p hp => hno j p (by have := (List.getElem?_eq_some_iff.1 hp).1; omega) hp]
    exact ⟨rfl, hs⟩

/-! ### rows of items, cut and joined -/
theorem icells_take : ∀ (k : Nat) (qs : List Nat) (us : List Value), (icells qs us).take (k * 2) = icells (qs.take k) (us.take k)
  | 0, qs, us => by simp [icells]
  | k + 1, [], us => by simp [icells]
  | k + 1, q :: qs, [] => by simp [icells]
  | k + 1, q :: qs, u :: us => by
    rw [show (k + 1) * 2 = k * 2 + 1 + 1 from by omega]
    simp only [icells, List.take_succ_cons]
    rw [icells_take k]
theorem icells_drop : ∀ (k : Nat) (qs : List Nat) (us : List Value), qs.length = us.length → (icells qs us).drop (k * 2) = icells (qs.drop k) (us.drop k)
  | 0, qs, us, _ => by simp
  | k + 1, [], [], _ => by simp [icells]
  | k + 1, q :: qs, [], h => by simp at h
  | k + 1, [], u :: us, h => by simp at h
  | k + 1, q :: qs, u :: us, h => by
    rw [show (k + 1) * 2 = k * 2 + 1 + 1 from by omega]
    simp only [icells, List.drop_succ_cons]
    rw [icells_drop k _ _ (by simpa using h)]
theorem icells_append : ∀ (qs qs' : List Nat) (us us' : List Value), qs.length = us.length → icells (qs ++ qs') (us ++ us') = icells qs us ++ icells qs' us'
  | [], qs', [], us', _ => rfl
  | q :: qs, qs', [], us', h => by simp at h
  | [], qs', u :: us, us', h => by simp at h
  | q :: qs, qs', u :: us, us', h => by
    simp only [List.cons_append, icells]
    rw [icells_append qs qs' us us' (by simpa using h)]
theorem icells_one : ∀ (qs : List Nat) (us : List Value), (∀ u ∈ us, u.oneCell' = true) → ∀ u ∈ icells qs us, u.oneCell' = true
  | [], us, _, u, hu => by simp [icells] at hu
  | q :: qs, [], _, u, hu => by simp [icells] at hu
  | q :: qs, u1 :: us, h, u, hu => by
    simp only [icells, List.mem_cons] at hu
    rcases hu with rfl | rfl | hu
    · rfl
    · exact h _ (by simp)
    · exact icells_one qs us (fun u hu => h u (by simp [hu])) u hu
theorem Sat.eachOne {w0 w : World} {vs : List Value} {ls : List (List UInt8)} {L : List HP} (hs : Sat w0 w (EachB vs ls :: L)) : ∀ u ∈ vs, u.oneCell' = true := fun u hu => by
  obtain ⟨i, hi, rfl⟩ := List.getElem_of_mem hu
  have hl := hs.eachLen
  obtain ⟨a, c, e⟩ := (hs.eachRB (List.getElem?_eq_getElem hi) (List.getElem?_eq_getElem (by omega))).val
  rw [e]
  rfl
theorem EachB.pick : ∀ {k : Nat} {vs : List Value} {ls : List (List UInt8)} {v : Value} {l : List UInt8} {L : List HP} {h : PH}, vs[k]? = some v → ls[k]? = some l → SatH (EachB vs ls :: L) h → SatH (BR v l :: EachB (vs.take k ++ vs.drop (k + 1)) (ls.take k ++ ls.drop (k + 1)) :: L) h
  | k, [], _, _, _, _, _, h1, _, _ => by simp at h1
  | k, _ :: _, [], _, _, _, _, _, h2, _ => by simp at h2
  | 0, v1 :: vs, l1 :: ls, v, l, L, h, h1, h2, hs => by
    simp only [List.getElem?_cons_zero, Option.some.injEq] at h1 h2
    subst h1; subst h2
    exact SatH.flat (Ls := [BR v1 l1, EachB vs ls]) hs
  | k + 1, v1 :: vs, l1 :: ls, v, l, L, h, h1, h2, hs => by
    have hs1 : SatH (BR v1 l1 :: EachB vs ls :: L) h := SatH.flat (Ls := [BR v1 l1, EachB vs ls]) hs
    have hs2 : SatH (BR v1 l1 :: BR v l :: EachB (vs.take k ++ vs.drop (k + 1)) (ls.take k ++ ls.drop (k + 1)) :: L) h := SatH.cons_mono (fun h hh => EachB.pick (by simpa using h1) (by simpa using h2) hh) hs1
    have hs3 := hs2.swap
    refine SatH.cons_mono (fun h hh => ?_) hs3
    exact SatH.unflat (Ls := [BR v1 l1, EachB (vs.take k ++ vs.drop (k + 1)) (ls.take k ++ ls.drop (k + 1))]) hh
theorem Sat.eachPick {k : Nat} {w0 w : World} {vs : List Value} {ls : List (List UInt8)} {v : Value} {l : List UInt8} {L : List HP} (hs : Sat w0 w (EachB vs ls :: L)) (h1 : vs[k]? = some v) (h2 : ls[k]? = some l) : Sat w0 w (BR v l :: EachB (vs.take k ++ vs.drop (k + 1)) (ls.take k ++ ls.drop (k + 1)) :: L) := hs.map fun _ h => EachB.pick h1 h2 h

/-! ### Take -/
def RObj (x : Nat) (st : LSt) : HP := fun h => ∃ v : Value, SatH [Blk x (.cells #[.int .u64 (st.upto : Nat), v, .bool st.owes] 29 (0, 0)), IR v st.held] h
theorem Sat.robj {w0 w : World} {x : Nat} {st : LSt} {L : List HP} (hs : Sat w0 w (RObj x st :: L)) :
    ∃ ao c us, us.length = st.held.length ∧ Sat w0 w (Blk x (.cells #[.int .u64 (st.upto : Nat), .slice ao st.held.length c, .bool st.owes] 29 (0, 0)) :: Row 56 2 (.slice ao st.held.length c) st.held.length (icells (st.held.map (·.1)) us) :: EachB us (st.held.map (·.2)) :: L) := by
  obtain ⟨v, h⟩ := Sat.ex (F := fun v : Value => SatH [Blk x (.cells #[.int .u64 (st.upto : Nat), v, .bool st.owes] 29 (0, 0)), IR v st.held]) hs
  obtain ⟨us, h⟩ := (h.opn.pull 1).ir
  obtain ⟨ao, c, rfl⟩ := h.rd.val
  have hl := h.tail.eachLen
  exact ⟨ao, c, us, by simpa using hl, h.perm [2, 0, 1]⟩
theorem Sat.robj' {w0 w : World} {x : Nat} {v : Value} {us : List Value} {st : LSt} {L : List HP} (hs : Sat w0 w (Blk x (.cells #[.int .u64 (st.upto : Nat), v, .bool st.owes] 29 (0, 0)) :: Row 56 2 v st.held.length (icells (st.held.map (·.1)) us) :: EachB us (st.held.map (·.2)) :: L)) : Sat w0 w (RObj x st :: L) :=
  (Sat.shut (Ls := [Blk x (.cells #[.int .u64 (st.upto : Nat), v, .bool st.owes] 29 (0, 0)), IR v st.held]) ((Sat.ir' (hs.perm [1, 2, 0])).pull 1)).head fun h hh => ⟨v, hh⟩
structure GRTake where
  n : Nat
  u : Nat
  h : Held
  o : List (List UInt8)
  v : Value
theorem posv_ge {o : Option Nat} (h : posv o ≥ 0) : ∃ k, o = some k := by
  cases o with
  | none => simp [posv] at h
  | some k => exact ⟨k, rfl⟩
theorem posv_lt {o : Option Nat} (h : ¬ posv o ≥ 0) : o = none := by
  cases o with
  | none => rfl
  | some k => exact absurd (by simp [posv]) h
set_option maxHeartbeats 4000000 in
theorem rtake_calls {w0 w : World} {A : HP} {L : List HP} {x : Nat} {st : LSt} {v : Value} (q : Nat) (b : List UInt8) (hs : Sat w0 w (RObj x st :: A :: L)) (hr : ∀ w' L', Sat w0 w' (A :: L') → RB w' v b) (hb : b.length ≤ 140737488355328) (hq : q ≤ 18446744073709551615) (hu : st.upto ≤ 1000000000000) (hl : st.held.length ≤ 900000) :
    Calls Try.prog 16 #[.pointer (some ⟨x, 0, none⟩), .int .u64 (q : Nat), v] w fun e w' => ∃ r, e = .returned r ∧ Sat w0 w' (BB r (st.take q b).1 :: RObj x (st.take q b).2 :: A :: L) := by
  obtain ⟨a1, c1, rfl⟩ := (hr _ _ hs.tail).val
  obtain ⟨ao, c, us, hul, hs⟩ := hs.robj
  by_cases h0 : (mget q st.held).isSome ∨ q ≤ st.upto ∨ 16 < q - st.upto
  · have hg : st.take q b = ([], { st with owes := true }) := by unfold LSt.take; rw [if_pos h0]
    rw [hg]
    have hfin : ∀ {w : World}, Sat w0 w (Blk x (.cells #[.int .u64 (st.upto : Nat), .slice ao st.held.length c, .bool true] 29 (0, 0)) :: Row 56 2 (.slice ao st.held.length c) st.held.length (icells (st.held.map (·.1)) us) :: EachB us (st.held.map (·.2)) :: A :: L) →
        ∃ r, Ending.returned (.slice none 0 0) = .returned r ∧ Sat w0 w (BB r [] :: RObj x { st with owes := true } :: A :: L) := fun hs => ⟨_, rfl, Sat.bbNil (Sat.robj' (st := { st with owes := true }) hs)⟩
    by_cases h1 : q ≤ st.upto
    · skip
      refine enter Try.func16 rfl Try.ntmps16 6 rfl (Nat.le_of_ble_eq_true rfl) ?_
      refine c_seq ?_
      -- region 0
      refine c_region ?_
      refine x_assign (.slice _ _ _) rfl ?_
      refine x_nil ?_
      refine then_n ?_
      refine c_seq ?_
      -- region 1
      refine c_region ?_
      refine x_move (.pointer _) rfl ?_
      refine x_nilCheck _ rfl ?_
      first | refine x_field0 fa_29_2 _ rfl ?_ | refine x_field fa_29_2 _ _ rfl ?_
      refine x_store hs one_4 (.bool _) rfl rfl rfl rfl ?_; clear hs; intro w hs; refine ⟨fun h => (by first | cases h | exact h), ?_⟩
      refine x_nil ?_
      refine then_n ?_
      refine c_seq ?_
      refine c_seq ?_
      -- region 2
      refine c_region ?_
      refine x_move (.int _ _) rfl ?_
      refine x_move (.pointer _) rfl ?_
      refine x_nilCheck _ rfl ?_
      first | refine x_field0 fa_29_0 _ rfl ?_ | refine x_field fa_29_0 _ _ rfl ?_
      refine x_load one_26 _ (.int _ _) rfl (by first | exact hs.cell rfl | exact (hs.pull 1).cell rfl | exact (hs.pull 2).cell rfl | exact (hs.pull 3).cell rfl | assumption | exact (hs.pull 4).cell rfl | exact (hs.pull 5).cell rfl | exact (hs.pull 6).cell rfl | exact (hs.pull 7).cell rfl) ?_
      refine x_leqT _ _ rfl rfl (by omega) ?_
      refine x_move (.bool _) rfl ?_
      refine x_skip rfl rfl ?_
      refine x_skip rfl rfl ?_
      refine x_skip rfl rfl ?_
      refine x_skip rfl rfl ?_
      refine x_skip rfl rfl ?_
      refine x_skip rfl rfl ?_
      refine x_skip rfl rfl ?_
      refine x_pickT (.bool _) rfl rfl ?_
      refine x_move (.bool _) rfl ?_
      refine x_skip rfl rfl ?_
      refine x_skip rfl rfl ?_
      refine x_skip rfl rfl ?_
      refine x_skip rfl rfl ?_
      refine x_pickT (.bool _) rfl rfl ?_
      refine x_nil ?_
      refine then_n ?_
      refine c_true rfl ?_
      refine c_seq ?_
      -- region 3
      refine c_region ?_
      refine x_assign (.slice _ _ _) rfl ?_
      refine x_nil ?_
      refine then_n ?_
      refine c_ret ?_
      refine then_r ?_
      refine ⟨.inr rfl, ?_⟩
      exact hfin hs
    by_cases h2 : 16 < q - st.upto
    · skip
      refine enter Try.func16 rfl Try.ntmps16 6 rfl (Nat.le_of_ble_eq_true rfl) ?_
      refine c_seq ?_
      -- region 0
      refine c_region ?_
      refine x_assign (.slice _ _ _) rfl ?_
      refine x_nil ?_
      refine then_n ?_
      refine c_seq ?_
      -- region 1
      refine c_region ?_
      refine x_move (.pointer _) rfl ?_
      refine x_nilCheck _ rfl ?_
      first | refine x_field0 fa_29_2 _ rfl ?_ | refine x_field fa_29_2 _ _ rfl ?_
      refine x_store hs one_4 (.bool _) rfl rfl rfl rfl ?_; clear hs; intro w hs; refine ⟨fun h => (by first | cases h | exact h), ?_⟩
      refine x_nil ?_
      refine then_n ?_
      refine c_seq ?_
      refine c_seq ?_
      -- region 2
      refine c_region ?_
      refine x_move (.int _ _) rfl ?_
      refine x_move (.pointer _) rfl ?_
      refine x_nilCheck _ rfl ?_
      first | refine x_field0 fa_29_0 _ rfl ?_ | refine x_field fa_29_0 _ _ rfl ?_
      refine x_load one_26 _ (.int _ _) rfl (by first | exact hs.cell rfl | exact (hs.pull 1).cell rfl | exact (hs.pull 2).cell rfl | exact (hs.pull 3).cell rfl | assumption | exact (hs.pull 4).cell rfl | exact (hs.pull 5).cell rfl | exact (hs.pull 6).cell rfl | exact (hs.pull 7).cell rfl) ?_
      refine x_leqF _ _ rfl rfl (by omega) ?_
      refine x_move (.bool _) rfl ?_
      refine x_want' rfl ?_
      refine x_move (.int _ _) rfl ?_
      refine x_want' rfl ?_
      refine x_move (.pointer _) rfl ?_
      refine x_want' rfl ?_
      refine x_nilCheck _ rfl ?_
      refine x_want' rfl ?_
      first | refine x_field0 fa_29_0 _ rfl ?_ | refine x_field fa_29_0 _ _ rfl ?_
      refine x_want' rfl ?_
      refine x_load one_26 _ (.int _ _) rfl (by first | exact hs.cell rfl | exact (hs.pull 1).cell rfl | exact (hs.pull 2).cell rfl | exact (hs.pull 3).cell rfl | assumption | exact (hs.pull 4).cell rfl | exact (hs.pull 5).cell rfl | exact (hs.pull 6).cell rfl | exact (hs.pull 7).cell rfl) ?_
      refine x_want' rfl ?_
      refine x_sub _ _ rfl rfl (by simp only [X.lo]; omega) (by simp only [X.hi]; omega) ?_
      refine x_want' rfl ?_
      refine x_gtrT _ _ rfl rfl (by omega) ?_
      refine x_pickF (.bool _) rfl rfl ?_
      refine x_move (.bool _) rfl ?_
      refine x_skip rfl rfl ?_
      refine x_skip rfl rfl ?_
      refine x_skip rfl rfl ?_
      refine x_skip rfl rfl ?_
      refine x_pickT (.bool _) rfl rfl ?_
      refine x_nil ?_
      refine then_n ?_
      refine c_true rfl ?_
      refine c_seq ?_
      -- region 3
      refine c_region ?_
      refine x_assign (.slice _ _ _) rfl ?_
      refine x_nil ?_
      refine then_n ?_
      refine c_ret ?_
      refine then_r ?_
      refine ⟨.inr rfl, ?_⟩
      exact hfin hs
    · have h3 : (mget q st.held).isSome := by rcases h0 with h | h | h <;> first | exact h | omega
      refine enter Try.func16 rfl Try.ntmps16 6 rfl (Nat.le_of_ble_eq_true rfl) ?_
      refine c_seq ?_
      -- region 0
      refine c_region ?_
      refine x_assign (.slice _ _ _) rfl ?_
      refine x_nil ?_
      refine then_n ?_
      refine c_seq ?_
      -- region 1
      refine c_region ?_
      refine x_move (.pointer _) rfl ?_
      refine x_nilCheck _ rfl ?_
      first | refine x_field0 fa_29_2 _ rfl ?_ | refine x_field fa_29_2 _ _ rfl ?_
      refine x_store hs one_4 (.bool _) rfl rfl rfl rfl ?_; clear hs; intro w hs; refine ⟨fun h => (by first | cases h | exact h), ?_⟩
      refine x_nil ?_
      refine then_n ?_
      refine c_seq ?_
      refine c_seq ?_
      -- region 2
      refine c_region ?_
      refine x_move (.int _ _) rfl ?_
      refine x_move (.pointer _) rfl ?_
      refine x_nilCheck _ rfl ?_
      first | refine x_field0 fa_29_0 _ rfl ?_ | refine x_field fa_29_0 _ _ rfl ?_
      refine x_load one_26 _ (.int _ _) rfl (by first | exact hs.cell rfl | exact (hs.pull 1).cell rfl | exact (hs.pull 2).cell rfl | exact (hs.pull 3).cell rfl | assumption | exact (hs.pull 4).cell rfl | exact (hs.pull 5).cell rfl | exact (hs.pull 6).cell rfl | exact (hs.pull 7).cell rfl) ?_
      refine x_leqF _ _ rfl rfl (by omega) ?_
      refine x_move (.bool _) rfl ?_
      refine x_want' rfl ?_
      refine x_move (.int _ _) rfl ?_
      refine x_want' rfl ?_
      refine x_move (.pointer _) rfl ?_
      refine x_want' rfl ?_
      refine x_nilCheck _ rfl ?_
      refine x_want' rfl ?_
      first | refine x_field0 fa_29_0 _ rfl ?_ | refine x_field fa_29_0 _ _ rfl ?_
      refine x_want' rfl ?_
      refine x_load one_26 _ (.int _ _) rfl (by first | exact hs.cell rfl | exact (hs.pull 1).cell rfl | exact (hs.pull 2).cell rfl | exact (hs.pull 3).cell rfl | assumption | exact (hs.pull 4).cell rfl | exact (hs.pull 5).cell rfl | exact (hs.pull 6).cell rfl | exact (hs.pull 7).cell rfl) ?_
      refine x_want' rfl ?_
      refine x_sub _ _ rfl rfl (by simp only [X.lo]; omega) (by simp only [X.hi]; omega) ?_
      refine x_want' rfl ?_
      refine x_gtrF _ _ rfl rfl (by omega) ?_
      refine x_pickF (.bool _) rfl rfl ?_
      refine x_move (.bool _) rfl ?_
      refine x_want' rfl ?_
      refine x_move (.pointer _) rfl ?_
      refine x_want' rfl ?_
      refine x_move (.int _ _) rfl ?_
      refine x_want' rfl ?_
      refine x_call Try.f38 Try.func38 rfl rfl [.pointer (some ⟨x, 0, none⟩), .int .u64 (q : Nat)] rfl ?_
      refine (find_calls q rfl hul (by omega) hs).mono ?_
      clear hs; rintro e w ⟨rfl, hs⟩
      have hp : posv (hpos q st.held) ≥ 0 := by
        cases hm : hpos q st.held with
        | none => rw [hpos_none hm] at h3; cases h3
        | some k => simp [posv]
      refine ⟨.int .i64 (posv (hpos q st.held)), rfl, fun h => (by cases h), ?_⟩
      refine x_want' rfl ?_
      refine x_geqT _ _ rfl rfl (by omega) ?_
      refine x_pickF (.bool _) rfl rfl ?_
      refine x_nil ?_
      refine then_n ?_
      refine c_true rfl ?_
      refine c_seq ?_
      -- region 3
      refine c_region ?_
      refine x_assign (.slice _ _ _) rfl ?_
      refine x_nil ?_
      refine then_n ?_
      refine c_ret ?_
      refine then_r ?_
      refine ⟨.inr rfl, ?_⟩
      exact hfin hs
  · have hg : st.take q b = ((drain (st.held.length + 2) st.upto (st.held ++ [(q, b)]) []).2.2, { st with owes := true, upto := (drain (st.held.length + 2) st.upto (st.held ++ [(q, b)]) []).1, held := (drain (st.held.length + 2) st.upto (st.held ++ [(q, b)]) []).2.1 }) := by unfold LSt.take; rw [if_neg h0]
    rw [hg]
    simp only [not_or] at h0
    obtain ⟨h1, h2, h3⟩ := h0
    have hm : hpos q st.held = none := by
      cases hm : hpos q st.held with
      | none => rfl
      | some k => obtain ⟨b', _, e, _⟩ := hpos_some hm; rw [e] at h1; simp at h1
    generalize hR : drain (st.held.length + 2) st.upto (st.held ++ [(q, b)]) [] = R
    refine enter Try.func16 rfl Try.ntmps16 6 rfl (Nat.le_of_ble_eq_true rfl) ?_
    refine c_seq ?_
    -- region 0
    refine c_region ?_
    refine x_assign (.slice _ _ _) rfl ?_
    refine x_nil ?_
    refine then_n ?_
    refine c_seq ?_
    -- region 1
    refine c_region ?_
    refine x_move (.pointer _) rfl ?_
    refine x_nilCheck _ rfl ?_
    first | refine x_field0 fa_29_2 _ rfl ?_ | refine x_field fa_29_2 _ _ rfl ?_
    refine x_store hs one_4 (.bool _) rfl rfl rfl rfl ?_; clear hs; intro w hs; refine ⟨fun h => (by first | cases h | exact h), ?_⟩
    refine x_nil ?_
    refine then_n ?_
    refine c_seq ?_
    refine c_seq ?_
    -- region 2
    refine c_region ?_
    refine x_move (.int _ _) rfl ?_
    refine x_move (.pointer _) rfl ?_
    refine x_nilCheck _ rfl ?_
    first | refine x_field0 fa_29_0 _ rfl ?_ | refine x_field fa_29_0 _ _ rfl ?_
    refine x_load one_26 _ (.int _ _) rfl (by first | exact hs.cell rfl | exact (hs.pull 1).cell rfl | exact (hs.pull 2).cell rfl | exact (hs.pull 3).cell rfl | assumption | exact (hs.pull 4).cell rfl | exact (hs.pull 5).cell rfl | exact (hs.pull 6).cell rfl | exact (hs.pull 7).cell rfl) ?_
    refine x_leqF _ _ rfl rfl (by omega) ?_
    refine x_move (.bool _) rfl ?_
    refine x_want' rfl ?_
    refine x_move (.int _ _) rfl ?_
    refine x_want' rfl ?_
    refine x_move (.pointer _) rfl ?_
    refine x_want' rfl ?_
    refine x_nilCheck _ rfl ?_
    refine x_want' rfl ?_
    first | refine x_field0 fa_29_0 _ rfl ?_ | refine x_field fa_29_0 _ _ rfl ?_
    refine x_want' rfl ?_
    refine x_load one_26 _ (.int _ _) rfl (by first | exact hs.cell rfl | exact (hs.pull 1).cell rfl | exact (hs.pull 2).cell rfl | exact (hs.pull 3).cell rfl | assumption | exact (hs.pull 4).cell rfl | exact (hs.pull 5).cell rfl | exact (hs.pull 6).cell rfl | exact (hs.pull 7).cell rfl) ?_
    refine x_want' rfl ?_
    refine x_sub _ _ rfl rfl (by simp only [X.lo]; omega) (by simp only [X.hi]; omega) ?_
    refine x_want' rfl ?_
    refine x_gtrF _ _ rfl rfl (by omega) ?_
    refine x_pickF (.bool _) rfl rfl ?_
    refine x_move (.bool _) rfl ?_
    refine x_want' rfl ?_
    refine x_move (.pointer _) rfl ?_
    refine x_want' rfl ?_
    refine x_move (.int _ _) rfl ?_
    refine x_want' rfl ?_
    refine x_call Try.f38 Try.func38 rfl rfl [.pointer (some ⟨x, 0, none⟩), .int .u64 (q : Nat)] rfl ?_
    refine (find_calls q rfl hul (by omega) hs).mono ?_
    clear hs; rintro e w ⟨rfl, hs⟩
    refine ⟨.int .i64 (-1), (by rw [hm]; rfl), fun h => (by cases h), ?_⟩
    refine x_want' rfl ?_
    refine x_geqF _ _ rfl rfl (by omega) ?_
    refine x_pickF (.bool _) rfl rfl ?_
    refine x_nil ?_
    refine then_n ?_
    refine c_false rfl ?_
    refine c_skip ?_
    refine then_n ?_
    refine c_seq ?_
    -- region 4 DRAWS
    refine c_draw (fun w => w.cell? ⟨x, 1, none⟩ = some (.slice ao st.held.length c)) (fun i => !(Nat.beq i 11 || Nat.beq i 14)) [(0, 2), (1, 2), (2, 2), (3, 2), (4, 1), (5, 2), (7, 2), (6, 0), (8, 0), (9, 2), (10, 0), (11, 0), (12, 2), (13, 2), (14, 0)] (by kernel_rfl) (by kernel_rfl) (by kernel_rfl) (by kernel_rfl) (hs.cell rfl) ?_
    replace hs := hs.drew
    refine x_move (.pointer _) rfl ?_
    refine x_move (.pointer _) rfl ?_
    refine x_nilCheck _ rfl ?_
    first | refine x_field0 fa_29_1 _ rfl ?_ | refine x_field fa_29_1 _ _ rfl ?_
    refine h_load one_27 _ (.slice _ _ _) rfl (fun w hS => by first | exact hS.cell rfl | exact (hS.pull 1).cell rfl | exact (hS.pull 2).cell rfl | exact (hS.pull 3).cell rfl | exact hS | exact hS.1 | exact hS.2 | exact hS.2.1 | exact hS.2.2 | exact hS.2.2.1 | exact hS.2.2.2 | exact hS.2.2.2.1 | exact hS.2.2.2.2) ?_
    refine x_move (.int _ _) rfl ?_
    refine x_move (.slice _ _ _) rfl ?_
    refine x_buildSlice #[] [] hs rfl (fun w => bs_bytes0 w) ?_
    clear hs; intro b1 w hs; refine ⟨fun _ => (hs.pull 1).cell rfl, ?_⟩
    have hs := row_blk (size := 1) (len := 0) hs rfl (by decide)
    refine x_append hs Try.underlying30 ei_5 (hr _ _ (hs.pull 4)) bv_one (by unfold maxLen; omega) (by omega) rfl rfl ?_
    clear hs; intro v w hs; refine ⟨fun _ => (hs.pull 1).cell rfl, ?_⟩
    rw [show 0 + b.length = b.length from Nat.zero_add _, show (#[] : Array Value).toList ++ bv b = bv b from rfl] at hs
    obtain ⟨a6, c6, rfl⟩ := hs.rd.val
    refine x_build (.agg #[.int .u64 (q : Nat), .slice a6 b.length c6]) [(0, .int .u64 (q : Nat)), (1, .slice a6 b.length c6)] rfl (fun w => bd_item _ _ _ _ w) ?_
    refine x_buildSlice #[.int .u64 (q : Nat), .slice a6 b.length c6] [(0, .agg #[.int .u64 (q : Nat), .slice a6 b.length c6])] hs rfl (fun w => bs_item _ _ _ _ w) ?_
    clear hs; intro b2 w hs; refine ⟨fun _ => (hs.pull 2).cell rfl, ?_⟩
    have hrd := rd_blk (size := 2) hs rfl
    have hs := hs.perm [3, 1, 2, 4, 0]
    refine x_append hs Try.underlying27 ei_56 hrd (by intro u hu; simp at hu; rcases hu with rfl | rfl <;> rfl) (by unfold maxLen; omega) (by omega) rfl rfl ?_
    clear hs; intro v w hs; refine ⟨fun h => (by cases h), ?_⟩
    obtain ⟨a7, c7, rfl⟩ := hs.rd.val
    have hs := ((hs.perm [3, 1, 0, 2, 4]).eachSnoc).perm [2, 1, 0]
    rw [show icells (st.held.map (·.1)) us ++ #[Value.int .u64 (q : Nat), .slice a6 b.length c6].toList = icells ((st.held ++ [(q, b)]).map (·.1)) (us ++ [.slice a6 b.length c6]) from by
      rw [List.map_append, List.map_singleton, icells_snoc _ _ _ _ (by simpa using hul.symm)]] at hs
    rw [show st.held.map (·.2) ++ [b] = (st.held ++ [(q, b)]).map (·.2) from by simp] at hs
    rw [show st.held.length + 1 = (st.held ++ [(q, b)]).length from by simp] at hs ⊢
    have hul2 : (us ++ [Value.slice a6 b.length c6]).length = (st.held ++ [(q, b)]).length := by simp [hul]
    generalize us ++ [Value.slice a6 b.length c6] = us2 at hs hul2
    refine x_nilCheck _ rfl ?_
    first | refine x_field0 fa_29_1 _ rfl ?_ | refine x_field fa_29_1 _ _ rfl ?_
    refine x_store hs one_27 (.slice _ _ _) rfl rfl rfl rfl ?_; clear hs; intro w hs; refine ⟨fun h => (by first | cases h | exact h), ?_⟩
    refine x_nil ?_
    refine then_n ?_
    refine c_seq ?_
    -- region 5
    refine c_region ?_
    refine x_assign (.slice _ _ _) rfl ?_
    refine x_nil ?_
    refine then_n ?_
    refine c_seq ?_
    refine c_block ?_
    refine c_loop (γ := GRTake) (fun g => [(0, .pointer (some ⟨x, 0, none⟩)), (7, g.v)]) (fun g w => drain g.n g.u g.h g.o = R ∧ g.h.length < g.n ∧ g.u + g.h.length ≤ st.upto + st.held.length + 1 ∧ g.o.length + g.h.length ≤ st.held.length + 1 ∧ Sat w0 w (RObj x ⟨st.s, g.u, g.h, true⟩ :: BB g.v g.o :: A :: L)) (fun g => g.h.length)
      ⟨st.held.length + 2, st.upto, st.held ++ [(q, b)], [], .slice none 0 0⟩ ⟨rfl, rfl, trivial⟩ ⟨hR, by simp, by simp; omega, by simp, (Sat.bbNil (Sat.robj' (st := ⟨st.s, st.upto, st.held ++ [(q, b)], true⟩) ((hs.pull 3).tail))).pull 1⟩ ?_
    clear hs
    rintro ⟨n, u, h, o, v⟩ ρ w ⟨hd, hn, hb1, hb2, hs⟩
    dsimp only at hd hn hb1 hb2 hs
    obtain ⟨n, rfl⟩ : ∃ m, n = m + 1 := ⟨n - 1, by omega⟩
    obtain ⟨a3, c3, rfl⟩ := (hs.pull 1).rbb.val
    obtain ⟨ao, c, us, hul, hs⟩ := hs.robj
    dsimp only at hul hs
    change CW Try.prog 102 _ _ (sets 102 [(0, .pointer (some ⟨x, 0, none⟩)), (7, .slice a3 o.length c3)] ρ) w
    refine c_seq ?_
    refine c_seq ?_
    -- region 6
    refine c_region ?_
    refine x_move (.pointer _) rfl ?_
    refine x_move (.pointer _) rfl ?_
    refine x_nilCheck _ rfl ?_
    first | refine x_field0 fa_29_0 _ rfl ?_ | refine x_field fa_29_0 _ _ rfl ?_
    refine x_load one_26 _ (.int _ _) rfl (by first | exact hs.cell rfl | exact (hs.pull 1).cell rfl | exact (hs.pull 2).cell rfl | exact (hs.pull 3).cell rfl | assumption | exact (hs.pull 4).cell rfl | exact (hs.pull 5).cell rfl | exact (hs.pull 6).cell rfl | exact (hs.pull 7).cell rfl) ?_
    refine x_add _ _ rfl rfl (by simp only [X.lo]; omega) (by simp only [X.hi]; omega) ?_
    refine x_call Try.f38 Try.func38 rfl rfl [.pointer (some ⟨x, 0, none⟩), .int .u64 ((u + 1 : Nat) : Nat)] rfl ?_
    refine (find_calls (u + 1) rfl hul (by omega) hs).mono ?_
    clear hs; rintro e w ⟨rfl, hs⟩
    refine ⟨.int .i64 (posv (hpos (u + 1) h)), rfl, fun h => (by cases h), ?_⟩
    refine x_geq _ _ rfl rfl ?_
    refine x_nil ?_
    refine then_n ?_
    refine c_test _ rfl (fun hb => ?_) (fun hb => ?_)   -- cond t55
    · skip
      refine c_skip ?_
      refine then_n ?_
      refine c_block ?_
      refine c_seq ?_
      -- region 7
      obtain ⟨k, hk⟩ := posv_ge hb
      refine c_region ?_
      refine x_move (.pointer _) rfl ?_
      refine x_move (.pointer _) rfl ?_
      refine x_nilCheck _ rfl ?_
      first | refine x_field0 fa_29_0 _ rfl ?_ | refine x_field fa_29_0 _ _ rfl ?_
      refine x_load one_26 _ (.int _ _) rfl (by first | exact hs.cell rfl | exact (hs.pull 1).cell rfl | exact (hs.pull 2).cell rfl | exact (hs.pull 3).cell rfl | assumption | exact (hs.pull 4).cell rfl | exact (hs.pull 5).cell rfl | exact (hs.pull 6).cell rfl | exact (hs.pull 7).cell rfl) ?_
      refine x_add _ _ rfl rfl (by simp only [X.lo]; omega) (by simp only [X.hi]; omega) ?_
      refine x_call Try.f38 Try.func38 rfl rfl [.pointer (some ⟨x, 0, none⟩), .int .u64 ((u + 1 : Nat) : Nat)] rfl ?_
      refine (find_calls (u + 1) rfl hul (by omega) hs).mono ?_
      clear hs; rintro e w ⟨rfl, hs⟩
      refine ⟨.int .i64 (k : Nat), (by rw [hk]; rfl), fun h => (by cases h), ?_⟩
      refine x_assign (.int _ _) rfl ?_
      refine x_nil ?_
      refine then_n ?_
      refine c_seq ?_
      -- region 8
      obtain ⟨b1, hkb, hmg, hmd⟩ := hpos_some hk
      have hkl : k < h.length := (List.getElem?_eq_some_iff.1 hkb).1
      have hk1 : (h.map (·.1))[k]? = some (u + 1) := by rw [List.getElem?_map, hkb]; rfl
      have hk2 : (h.map (·.2))[k]? = some b1 := by rw [List.getElem?_map, hkb]; rfl
      obtain ⟨y, hy⟩ : ∃ y, us[k]? = some y := ⟨us[k]'(by omega), List.getElem?_eq_getElem _⟩
      obtain ⟨a2, c2, rfl⟩ := ((hs.pull 2).eachRB hy hk2).val
      obtain ⟨g, o1, rfl⟩ := (hs.pull 1).rowAddr (by omega)
      have hcell : w.cell? ⟨g, o1 + k * 2 + 1, none⟩ = some (.slice a2 b1.length c2) := (hs.pull 1).rowCell (icells_get _ us k _ _ hk1 hy).2
      have hone := (hs.pull 2).eachOne
      refine c_region ?_
      refine x_move (.slice _ _ _) rfl ?_
      refine x_move (.pointer _) rfl ?_
      refine x_nilCheck _ rfl ?_
      first | refine x_field0 fa_29_1 _ rfl ?_ | refine x_field fa_29_1 _ _ rfl ?_
      refine x_load one_27 _ (.slice _ _ _) rfl (by first | exact hs.cell rfl | exact (hs.pull 1).cell rfl | exact (hs.pull 2).cell rfl | exact (hs.pull 3).cell rfl | assumption | exact (hs.pull 4).cell rfl | exact (hs.pull 5).cell rfl | exact (hs.pull 6).cell rfl | exact (hs.pull 7).cell rfl) ?_
      refine x_move (.int _ _) rfl ?_
      refine x_indexAddr Try.underlying27 sz_56 _ _ _ _ _ rfl rfl (by omega) ?_
      first | refine x_field0 fa_56_1 _ rfl ?_ | refine x_field fa_56_1 _ _ rfl ?_
      refine x_load one_30 _ (.slice _ _ _) rfl (by first | exact hs.cell rfl | exact (hs.pull 1).cell rfl | exact (hs.pull 2).cell rfl | exact (hs.pull 3).cell rfl | assumption | exact (hs.pull 4).cell rfl | exact (hs.pull 5).cell rfl | exact (hs.pull 6).cell rfl | exact (hs.pull 7).cell rfl) ?_
      refine x_buildSlice #[.slice a2 b1.length c2] [(0, .slice a2 b1.length c2)] hs rfl (fun w => bs_bb _ _ _ w) ?_
      clear hs hcell; intro b2 w hs; refine ⟨fun h => (by cases h), ?_⟩
      have hrd := rd_blk (size := 1) hs rfl
      obtain ⟨vs, hs⟩ := (hs.tail.pull 3).bb
      refine x_append hs Try.underlying35 ei_30 hrd (by intro u hu; simp at hu; subst hu; rfl) (by unfold maxLen; omega) (by omega) rfl rfl ?_
      clear hs; intro v w hs; refine ⟨fun h => (by cases h), ?_⟩
      obtain ⟨a7, c7, rfl⟩ := hs.rd.val
      have hs := (((hs.pull 4).eachPick hy hk2).perm [3, 0, 2, 4, 5, 1]).eachSnoc.perm [1, 0]
      rw [show o.length + 1 = (o ++ [b1]).length from by simp] at hs ⊢
      have hs := (Sat.bb' hs).perm [1, 2, 3, 0]
      have hrow := (hs.pull 1).rd
      have hcap : h.length ≤ c := by obtain ⟨_, _, _, e, h', _⟩ := hrow; cases e; exact h'
      have hicl := icells_len (h.map (·.1)) us (by simpa using hul.symm)
      have hsl1 : RD w 2 (slVal (some ⟨g, o1, none⟩) h.length c 0 k 2) k (icells ((h.map (·.1)).take k) (us.take k)) := by
        have := rd_slice (i := 0) (j := k) hrow (Nat.zero_le _) (by omega)
        rwa [Nat.sub_zero, Nat.zero_mul, List.drop_zero, icells_take] at this
      refine x_assign (.slice _ _ _) rfl ?_
      refine x_nil ?_
      refine then_n ?_
      refine c_seq ?_
      -- region 9
      refine c_region ?_
      refine x_assign (.slice _ _ _) rfl ?_
      refine x_nil ?_
      refine then_n ?_
      refine c_seq ?_
      -- region 10
      refine c_region ?_
      refine x_move (.slice _ _ _) rfl ?_
      refine x_move (.pointer _) rfl ?_
      refine x_nilCheck _ rfl ?_
      first | refine x_field0 fa_29_1 _ rfl ?_ | refine x_field fa_29_1 _ _ rfl ?_
      refine x_load one_27 _ (.slice _ _ _) rfl (by first | exact hs.cell rfl | exact (hs.pull 1).cell rfl | exact (hs.pull 2).cell rfl | exact (hs.pull 3).cell rfl | assumption | exact (hs.pull 4).cell rfl | exact (hs.pull 5).cell rfl | exact (hs.pull 6).cell rfl | exact (hs.pull 7).cell rfl) ?_
      refine x_move (.int _ _) rfl ?_
      refine x_slice Try.underlying27 sz_56 (lo := none) (hi := some _) (some ⟨g, o1, none⟩) h.length c 0 k rfl (.inl ⟨rfl, rfl⟩) (.inr ⟨_, rfl⟩) (Nat.zero_le _) (by omega) ?_
      refine x_append (hs.rowNil (e := 56) (size := 2)) Try.underlying27 ei_56 hsl1 (icells_one _ _ fun u hu => hone u (List.mem_of_mem_take hu)) (by unfold maxLen; omega) (by omega) rfl rfl ?_
      clear hs; intro v w hs; refine ⟨fun h => (by cases h), ?_⟩
      rw [Nat.zero_add, List.nil_append] at hs
      obtain ⟨a8, c8, rfl⟩ := hs.rd.val
      have hrow := (hs.pull 2).rd
      have hsl2 : RD w 2 (slVal (some ⟨g, o1, none⟩) h.length c (k + 1) h.length 2) (h.length - (k + 1)) (icells ((h.map (·.1)).drop (k + 1)) (us.drop (k + 1))) := by
        have := rd_slice (i := k + 1) (j := h.length) hrow (by omega) (Nat.le_refl _)
        rw [icells_drop _ _ _ (by simpa using hul.symm), List.take_of_length_le (by rw [icells_len _ _ (by simp [hul])]; simp)] at this
        exact this
      refine x_assign (.slice _ _ _) rfl ?_
      refine x_nil ?_
      refine then_n ?_
      refine c_seq ?_
      -- region 11
      refine c_region ?_
      refine x_move (.pointer _) rfl ?_
      refine x_move (.slice _ _ _) rfl ?_
      refine x_move (.pointer _) rfl ?_
      refine x_nilCheck _ rfl ?_
      first | refine x_field0 fa_29_1 _ rfl ?_ | refine x_field fa_29_1 _ _ rfl ?_
      refine x_load one_27 _ (.slice _ _ _) rfl (by first | exact hs.cell rfl | exact (hs.pull 1).cell rfl | exact (hs.pull 2).cell rfl | exact (hs.pull 3).cell rfl | assumption | exact (hs.pull 4).cell rfl | exact (hs.pull 5).cell rfl | exact (hs.pull 6).cell rfl | exact (hs.pull 7).cell rfl) ?_
      refine x_move (.int _ _) rfl ?_
      refine x_add _ _ rfl rfl (by simp only [X.lo]; omega) (by simp only [X.hi]; omega) ?_
      refine x_slice Try.underlying27 sz_56 (lo := some _) (hi := none) (some ⟨g, o1, none⟩) h.length c (k + 1) h.length rfl (.inr ⟨_, rfl⟩) (.inl ⟨rfl, rfl⟩) (by omega) (by omega) ?_
      refine x_append hs Try.underlying27 ei_56 hsl2 (icells_one _ _ fun u hu => hone u (List.mem_of_mem_drop hu)) (by unfold maxLen; omega) (by omega) rfl rfl ?_
      clear hs; intro v w hs; refine ⟨fun h => (by cases h), ?_⟩
      obtain ⟨a9, c9, rfl⟩ := hs.rd.val
      have hs := hs.perm [1, 0, 3, 2, 4]
      refine x_nilCheck _ rfl ?_
      first | refine x_field0 fa_29_1 _ rfl ?_ | refine x_field fa_29_1 _ _ rfl ?_
      refine x_store hs one_27 (.slice _ _ _) rfl rfl rfl rfl ?_; clear hs; intro w hs; refine ⟨fun h => (by first | cases h | exact h), ?_⟩
      refine x_nil ?_
      refine then_n ?_
      -- region 12
      refine c_region ?_
      refine x_move (.pointer _) rfl ?_
      refine x_nilCheck _ rfl ?_
      first | refine x_field0 fa_29_0 _ rfl ?_ | refine x_field fa_29_0 _ _ rfl ?_
      refine x_load one_26 _ (.int _ _) rfl (by first | exact hs.cell rfl | exact (hs.pull 1).cell rfl | exact (hs.pull 2).cell rfl | exact (hs.pull 3).cell rfl | assumption | exact (hs.pull 4).cell rfl | exact (hs.pull 5).cell rfl | exact (hs.pull 6).cell rfl | exact (hs.pull 7).cell rfl) ?_
      refine x_add _ _ rfl rfl (by simp only [X.lo]; omega) (by simp only [X.hi]; omega) ?_
      refine x_nilCheck _ rfl ?_
      first | refine x_field0 fa_29_0 _ rfl ?_ | refine x_field fa_29_0 _ _ rfl ?_
      refine x_store hs one_26 (.int _ _) rfl rfl rfl rfl ?_; clear hs; intro w hs; refine ⟨fun h => (by first | cases h | exact h), ?_⟩
      refine x_nil ?_
      refine inb_n ?_
      refine then_n ?_
      have hl := mdel_len hmg
      have hs := (hs.pull 3).tail
      have hml : k + (h.length - (k + 1)) = (mdel (u + 1) h).length := by omega
      rw [← icells_append _ _ _ _ (by simp [hul]), ← List.map_take, ← List.map_drop, ← List.map_append, ← hmd, ← List.map_take, ← List.map_drop, ← List.map_append, ← hmd, hml] at hs
      refine ⟨⟨n, u + 1, mdel (u + 1) h, o ++ [b1], _⟩, ⟨rfl, rfl, trivial⟩, ⟨?_, by dsimp only; omega, by dsimp only; omega, by simp; omega, Sat.robj' (st := ⟨st.s, u + 1, mdel (u + 1) h, true⟩) hs⟩, by dsimp only; omega⟩
      rw [← hd]
      show _ = drain (n + 1) u h o
      conv => rhs; unfold drain
      rw [hmg]
    · skip
      refine c_exit ?_
      refine then_x ?_
      refine then_x ?_
      refine inb_e ?_
      refine then_n ?_
      refine c_seq ?_
      -- region 13
      refine c_region ?_
      refine x_move (.slice _ _ _) rfl ?_
      refine x_assign (.slice _ _ _) rfl ?_
      refine x_nil ?_
      refine then_n ?_
      refine c_ret ?_
      refine ⟨.inr rfl, ?_⟩
      have hmn := hpos_none (posv_lt hb)
      have hd2 : R = (u, h, o) := by
        rw [← hd]
        unfold drain
        rw [hmn]
      rw [hd2]
      exact ⟨_, rfl, (Sat.robj' (st := ⟨st.s, u, h, true⟩) hs).pull 1⟩
end Go.Proofs.Ytphakfggocdphaa.X
