/-
  LAYER 12, THE PROGRAM's TEXT: what each method of link.Link does to its object.
-/
import Derived.Test.YtphakfggocdphaaWin3
import Derived.Test.YtphakfggocdphaaMapB
namespace Go.Proofs.Ytphakfggocdphaa.X
open Go Go.RowKit
set_option linter.unusedVariables false
set_option maxRecDepth 20000
abbrev Held := List (Nat × List UInt8)
structure LSt where
  s : SSt
  upto : Nat
  held : Held
  owes : Bool
def LObj (l : Nat) (st : LSt) : HP := fun h => ∃ x : Nat × Nat, SatH [Blk l (.cells #[.pointer (some ⟨x.1, 0, none⟩), .int .u64 (st.upto : Nat), .map (some x.2), .bool st.owes] 49 (0, 0)), SObj x.1 st.s, MB (ik .u64) x.2 st.held] h
theorem Sat.lobj {w0 w : World} {l : Nat} {st : LSt} {L : List HP} (hs : Sat w0 w (LObj l st :: L)) :
    ∃ S M, Sat w0 w (Blk l (.cells #[.pointer (some ⟨S, 0, none⟩), .int .u64 (st.upto : Nat), .map (some M), .bool st.owes] 49 (0, 0)) :: SObj S st.s :: MB (ik .u64) M st.held :: L) := by
  obtain ⟨⟨S, M⟩, h⟩ := Sat.ex (F := fun x : Nat × Nat => SatH [Blk l (.cells #[.pointer (some ⟨x.1, 0, none⟩), .int .u64 (st.upto : Nat), .map (some x.2), .bool st.owes] 49 (0, 0)), SObj x.1 st.s, MB (ik .u64) x.2 st.held]) hs
  exact ⟨S, M, h.opn⟩
theorem Sat.lobj' {w0 w : World} {l S M : Nat} {st : LSt} {L : List HP} (hs : Sat w0 w (Blk l (.cells #[.pointer (some ⟨S, 0, none⟩), .int .u64 (st.upto : Nat), .map (some M), .bool st.owes] 49 (0, 0)) :: SObj S st.s :: MB (ik .u64) M st.held :: L)) : Sat w0 w (LObj l st :: L) :=
  (Sat.shut (Ls := [Blk l (.cells #[.pointer (some ⟨S, 0, none⟩), .int .u64 (st.upto : Nat), .map (some M), .bool st.owes] 49 (0, 0)), SObj S st.s, MB (ik .u64) M st.held]) hs).head fun h hh => ⟨⟨S, M⟩, hh⟩
theorem mt_47 : MT Try.prog 47 26 30 (.slice none 0 0) := ⟨Try.underlying47, by kernel_rfl⟩
theorem ko_26 : KO Try.prog 26 (ik .u64) := ko_int Try.underlying26
theorem bd_link (S M : Nat) (w : World) : (Instr.build 49 #[(0, .pointer (some ⟨S, 0, none⟩)), (2, .map (some M))]).run Try.prog w = .ok (.agg #[.pointer (some ⟨S, 0, none⟩), .int .u64 0, .map (some M), .bool false]) w := by kernel_rfl
def LSt.new : LSt := ⟨SSt.new, 0, [], false⟩
theorem lnew_calls {w0 w : World} {L : List HP} (hs : Sat w0 w L) :
    Calls Try.prog 12 #[] w fun e w' => ∃ l, e = .returned (.pointer (some ⟨l, 0, none⟩)) ∧ Sat w0 w' (LObj l LSt.new :: L) := by
  refine enter Try.func12 rfl Try.ntmps12 0 rfl (Nat.le_of_ble_eq_true rfl) ?_
  refine c_seq ?_
  -- region 0
  refine c_region ?_
  refine x_assign (.pointer _) rfl ?_
  refine x_nil ?_
  refine then_n ?_
  refine c_seq ?_
  -- region 1
  refine c_region ?_
  refine x_call Try.f27 Try.func27 rfl rfl [] rfl ?_
  refine (snew_calls hs).mono ?_
  clear hs; rintro e w ⟨S, rfl, hs⟩
  refine ⟨.pointer (some ⟨S, 0, none⟩), rfl, fun h => (by cases h), ?_⟩
  refine x_makeMap (κ := Nat) (enc := ik .u64) hs ?_
  clear hs; intro M w hs; refine ⟨fun h => (by cases h), ?_⟩
  refine x_build (.agg #[.pointer (some ⟨S, 0, none⟩), .int .u64 0, .map (some M), .bool false]) [(0, .pointer (some ⟨S, 0, none⟩)), (2, .map (some M))] rfl (fun w => bd_link _ _ w) ?_
  refine x_box hs (.agg #[.pointer (some ⟨S, 0, none⟩), .int .u64 0, .map (some M), .bool false]) rfl ?_
  clear hs; intro l w hs; refine ⟨fun h => (by cases h), ?_⟩
  refine x_assign (.pointer _) rfl ?_
  refine x_nil ?_
  refine then_n ?_
  refine c_ret ?_
  refine ⟨.inr rfl, ?_⟩
  exact ⟨l, rfl, Sat.lobj' (st := LSt.new) ((Sat.mbNil (hs.pull 1)).perm [1, 2, 0])⟩
theorem lupto_calls {w0 w : World} {L : List HP} {l : Nat} {st : LSt} (hs : Sat w0 w (LObj l st :: L)) :
    Calls Try.prog 17 #[.pointer (some ⟨l, 0, none⟩)] w fun e w' => e = .returned (.int .u64 (st.upto : Nat)) ∧ Sat w0 w' (LObj l st :: L) := by
  obtain ⟨S, M, hs⟩ := hs.lobj
  refine enter Try.func17 rfl Try.ntmps17 2 rfl (Nat.le_of_ble_eq_true rfl) ?_
  refine c_seq ?_
  -- region 0
  refine c_region ?_
  refine x_assign (.int _ _) rfl ?_
  refine x_nil ?_
  refine then_n ?_
  refine c_seq ?_
  refine c_seq ?_
  -- region 1
  refine c_region ?_
  refine x_move (.pointer _) rfl ?_
  refine x_eqlNil Try.underlying23 _ rfl rfl ?_
  refine x_nil ?_
  refine then_n ?_
  refine c_false rfl ?_
  refine c_skip ?_
  refine then_n ?_
  refine c_seq ?_
  -- region 3
  refine c_region ?_
  refine x_move (.pointer _) rfl ?_
  refine x_nilCheck _ rfl ?_
  first | refine x_field0 fa_49_1 _ rfl ?_ | refine x_field fa_49_1 _ _ rfl ?_
  refine x_load one_26 _ (.int _ _) rfl (by first | exact hs.cell rfl | exact (hs.pull 1).cell rfl | exact (hs.pull 2).cell rfl | exact (hs.pull 3).cell rfl | assumption | exact (hs.pull 4).cell rfl | exact (hs.pull 5).cell rfl | exact (hs.pull 6).cell rfl | exact (hs.pull 7).cell rfl) ?_
  refine x_assign (.int _ _) rfl ?_
  refine x_nil ?_
  refine then_n ?_
  refine c_ret ?_
  refine ⟨.inr rfl, ?_⟩
  exact ⟨rfl, hs.lobj'⟩
theorem lheld_calls {w0 w : World} {L : List HP} {l : Nat} {st : LSt} (hs : Sat w0 w (LObj l st :: L)) :
    Calls Try.prog 18 #[.pointer (some ⟨l, 0, none⟩)] w fun e w' => e = .returned (.int .i64 st.held.length) ∧ Sat w0 w' (LObj l st :: L) := by
  obtain ⟨S, M, hs⟩ := hs.lobj
  refine enter Try.func18 rfl Try.ntmps18 2 rfl (Nat.le_of_ble_eq_true rfl) ?_
  refine c_seq ?_
  -- region 0
  refine c_region ?_
  refine x_assign (.int _ _) rfl ?_
  refine x_nil ?_
  refine then_n ?_
  refine c_seq ?_
  refine c_seq ?_
  -- region 1
  refine c_region ?_
  refine x_move (.pointer _) rfl ?_
  refine x_eqlNil Try.underlying23 _ rfl rfl ?_
  refine x_nil ?_
  refine then_n ?_
  refine c_false rfl ?_
  refine c_skip ?_
  refine then_n ?_
  refine c_seq ?_
  -- region 3
  refine c_region ?_
  refine x_move (.pointer _) rfl ?_
  refine x_nilCheck _ rfl ?_
  first | refine x_field0 fa_49_2 _ rfl ?_ | refine x_field fa_49_2 _ _ rfl ?_
  refine x_load one_47 _ (.map _) rfl (by first | exact hs.cell rfl | exact (hs.pull 1).cell rfl | exact (hs.pull 2).cell rfl | exact (hs.pull 3).cell rfl | assumption | exact (hs.pull 4).cell rfl | exact (hs.pull 5).cell rfl | exact (hs.pull 6).cell rfl | exact (hs.pull 7).cell rfl) ?_
  obtain ⟨e, he, hs⟩ := (hs.pull 2).mb
  refine x_lenMap mt_47 hs rfl ?_
  refine x_assign (.int _ _) rfl ?_
  refine x_nil ?_
  refine then_n ?_
  refine c_ret ?_
  refine ⟨.inr rfl, ?_⟩
  have hl : ((e.map fun p => (p.1, p.2.1)).length : Int) = st.held.length := by rw [← he]; simp
  rw [hl]
  refine ⟨rfl, Sat.lobj' (S := S) (M := M) ?_⟩
  rw [← he]
  exact (Sat.mb' hs).perm [1, 2, 0]
theorem lowes_calls {w0 w : World} {L : List HP} {l : Nat} {st : LSt} (hs : Sat w0 w (LObj l st :: L)) :
    Calls Try.prog 19 #[.pointer (some ⟨l, 0, none⟩)] w fun e w' => e = .returned (.bool st.owes) ∧ Sat w0 w' (LObj l { st with owes := false } :: L) := by
  obtain ⟨S, M, hs⟩ := hs.lobj
  refine enter Try.func19 rfl Try.ntmps19 2 rfl (Nat.le_of_ble_eq_true rfl) ?_
  refine c_seq ?_
  -- region 0
  refine c_region ?_
  refine x_assign (.bool _) rfl ?_
  refine x_nil ?_
  refine then_n ?_
  refine c_seq ?_
  refine c_seq ?_
  -- region 1
  refine c_region ?_
  refine x_move (.pointer _) rfl ?_
  refine x_eqlNil Try.underlying23 _ rfl rfl ?_
  refine x_nil ?_
  refine then_n ?_
  refine c_false rfl ?_
  refine c_skip ?_
  refine then_n ?_
  refine c_seq ?_
  -- region 3
  refine c_region ?_
  refine x_move (.pointer _) rfl ?_
  refine x_nilCheck _ rfl ?_
  first | refine x_field0 fa_49_3 _ rfl ?_ | refine x_field fa_49_3 _ _ rfl ?_
  refine x_load one_4 _ (.bool _) rfl (by first | exact hs.cell rfl | exact (hs.pull 1).cell rfl | exact (hs.pull 2).cell rfl | exact (hs.pull 3).cell rfl | assumption | exact (hs.pull 4).cell rfl | exact (hs.pull 5).cell rfl | exact (hs.pull 6).cell rfl | exact (hs.pull 7).cell rfl) ?_
  refine x_assign (.bool _) rfl ?_
  refine x_nil ?_
  refine then_n ?_
  refine c_seq ?_
  -- region 4
  refine c_region ?_
  refine x_move (.pointer _) rfl ?_
  refine x_nilCheck _ rfl ?_
  first | refine x_field0 fa_49_3 _ rfl ?_ | refine x_field fa_49_3 _ _ rfl ?_
  refine x_store hs one_4 (.bool _) rfl rfl rfl rfl ?_; clear hs; intro w hs; refine ⟨fun h => (by first | cases h | exact h), ?_⟩
  refine x_nil ?_
  refine then_n ?_
  refine c_seq ?_
  -- region 5
  refine c_region ?_
  refine x_move (.bool _) rfl ?_
  refine x_assign (.bool _) rfl ?_
  refine x_nil ?_
  refine then_n ?_
  refine c_ret ?_
  refine ⟨.inr rfl, ?_⟩
  exact ⟨rfl, Sat.lobj' (st := { st with owes := false }) hs⟩

/-! ### Take -/
/-- what is let go, round by round -/
def drain : Nat → Nat → Held → List (List UInt8) → Nat × Held × List (List UInt8)
  | 0, u, h, o => (u, h, o)
  | n + 1, u, h, o => match mget (u + 1) h with
    | none => (u, h, o)
    | some b => drain n (u + 1) (mdel (u + 1) h) (o ++ [b])
def LSt.take (st : LSt) (q : Nat) (b : List UInt8) : List (List UInt8) × LSt :=
  if (mget q st.held).isSome ∨ q ≤ st.upto ∨ 16 < q - st.upto then ([], { st with owes := true })
  else
    let r := drain (st.held.length + 2) st.upto (st.held ++ [(q, b)]) []
    (r.2.2, { st with owes := true, upto := r.1, held := r.2.1 })
structure GTake where
  n : Nat
  u : Nat
  h : Held
  o : List (List UInt8)
  v : Value
theorem drain_len : ∀ (n u : Nat) (h : Held) (o : List (List UInt8)), (drain n u h o).1 + (drain n u h o).2.1.length = u + h.length
  | 0, _, _, _ => rfl
  | n + 1, u, h, o => by
    unfold drain
    split
    · rfl
    · rename_i b hb
      rw [drain_len n]
      have := mdel_len hb
      omega
set_option maxHeartbeats 4000000 in
theorem ltake_calls {w0 w : World} {A : HP} {L : List HP} {l : Nat} {st : LSt} {v : Value} (q : Nat) (b : List UInt8) (hs : Sat w0 w (LObj l st :: A :: L)) (hr : ∀ w' L', Sat w0 w' (A :: L') → RB w' v b) (hb : b.length ≤ 140737488355328) (hq : q ≤ 18446744073709551615) (hu : st.upto ≤ 1000000000000) (hl : st.held.length ≤ 1000000) :
    Calls Try.prog 15 #[.pointer (some ⟨l, 0, none⟩), .int .u64 (q : Nat), v] w fun e w' => ∃ r, e = .returned r ∧ Sat w0 w' (BB r (st.take q b).1 :: LObj l (st.take q b).2 :: A :: L) := by
  obtain ⟨a1, c1, rfl⟩ := (hr _ _ hs.tail).val
  by_cases h0 : (mget q st.held).isSome ∨ q ≤ st.upto ∨ 16 < q - st.upto
  · have hg : st.take q b = ([], { st with owes := true }) := by unfold LSt.take; rw [if_pos h0]
    rw [hg]
    obtain ⟨S, M, hs⟩ := hs.lobj
    obtain ⟨e, he, hs⟩ := (hs.pull 2).mb
    have hs := hs.perm [2, 0, 1, 3]
    have hme : mget q (e.map fun p => (p.1, p.2.1)) = (mget q e).map (·.1) := mget_map (fun p : Value × List UInt8 => p.1) q e
    have hmh : mget q st.held = (mget q e).map (·.2) := by rw [← he]; exact mget_map (fun p : Value × List UInt8 => p.2) q e
    have hfin : ∀ {w : World}, Sat w0 w (Blk l (.cells #[.pointer (some ⟨S, 0, none⟩), .int .u64 (st.upto : Nat), .map (some M), .bool true] 49 (0, 0)) :: MapR (ik .u64) M (e.map fun p => (p.1, p.2.1)) :: EE e :: SObj S st.s :: A :: L) →
        ∃ r, Ending.returned (.slice none 0 0) = .returned r ∧ Sat w0 w (BB r [] :: LObj l { st with owes := true } :: A :: L) := fun hs => by
      refine ⟨_, rfl, ?_⟩
      refine (Sat.bbNil ?_)
      refine Sat.lobj' (S := S) (M := M) (st := { st with owes := true }) ?_
      have h1 := Sat.mb' (hs.perm [1, 2, 0])
      rw [he] at h1
      exact h1.perm [1, 2, 0]
    cases hm : mget q e with
    | some p =>
      obtain ⟨v1, b1⟩ := p
      obtain ⟨a2, c2, rfl⟩ := ((hs.pull 2).eeRB hm).val
      rw [hm] at hme
      refine enter Try.func15 rfl Try.ntmps15 6 rfl (Nat.le_of_ble_eq_true rfl) ?_
      refine c_seq ?_
      -- region 0
      refine c_region ?_
      refine x_assign (.slice _ _ _) rfl ?_
      refine x_nil ?_
      refine then_n ?_
      refine c_seq ?_
      refine c_seq ?_
      -- region 1
      refine c_region ?_
      refine x_move (.pointer _) rfl ?_
      refine x_eqlNil Try.underlying23 _ rfl rfl ?_
      refine x_nil ?_
      refine then_n ?_
      refine c_false rfl ?_
      refine c_skip ?_
      refine then_n ?_
      refine c_seq ?_
      -- region 3
      refine c_region ?_
      refine x_move (.pointer _) rfl ?_
      refine x_nilCheck _ rfl ?_
      first | refine x_field0 fa_49_3 _ rfl ?_ | refine x_field fa_49_3 _ _ rfl ?_
      refine x_store hs one_4 (.bool _) rfl rfl rfl rfl ?_; clear hs; intro w hs; refine ⟨fun h => (by first | cases h | exact h), ?_⟩
      refine x_nil ?_
      refine then_n ?_
      refine c_seq ?_
      refine c_seq ?_
      -- region 4
      refine c_region ?_
      refine x_move (.pointer _) rfl ?_
      refine x_nilCheck _ rfl ?_
      first | refine x_field0 fa_49_2 _ rfl ?_ | refine x_field fa_49_2 _ _ rfl ?_
      refine x_load one_47 _ (.map _) rfl (by first | exact hs.cell rfl | exact (hs.pull 1).cell rfl | exact (hs.pull 2).cell rfl | exact (hs.pull 3).cell rfl | assumption | exact (hs.pull 4).cell rfl | exact (hs.pull 5).cell rfl | exact (hs.pull 6).cell rfl | exact (hs.pull 7).cell rfl) ?_
      refine x_move (.int _ _) rfl ?_
      refine x_lookup2T mt_47 ko_26 (hs.pull 1) q _ rfl rfl hme ?_
      refine x_move (.tuple _) rfl ?_
      refine x_extract _ (.slice _ _ _) rfl rfl ?_
      refine x_extract _ (.bool _) rfl rfl ?_
      refine x_assign (.slice _ _ _) rfl ?_
      refine x_assign (.bool _) rfl ?_
      refine x_nil ?_
      refine then_n ?_
      refine c_seq ?_
      -- region 5
      refine c_region ?_
      refine x_move (.bool _) rfl ?_
      refine x_move (.bool _) rfl ?_
      refine x_skip rfl rfl ?_
      refine x_skip rfl rfl ?_
      refine x_skip rfl rfl ?_
      refine x_skip rfl rfl ?_
      refine x_skip rfl rfl ?_
      refine x_skip rfl rfl ?_
      refine x_pickT (.bool _) rfl rfl ?_
      refine x_move (.bool _) rfl ?_
      refine x_skip rfl rfl ?_
      refine x_skip rfl rfl ?_
      refine x_skip rfl rfl ?_
      refine x_skip rfl rfl ?_
      refine x_skip rfl rfl ?_
      refine x_skip rfl rfl ?_
      refine x_skip rfl rfl ?_
      refine x_pickT (.bool _) rfl rfl ?_
      refine x_nil ?_
      refine then_n ?_
      refine c_true rfl ?_
      refine c_seq ?_
      -- region 6
      refine c_region ?_
      refine x_assign (.slice _ _ _) rfl ?_
      refine x_nil ?_
      refine then_n ?_
      refine c_ret ?_
      refine then_r ?_
      refine ⟨.inr rfl, ?_⟩
      exact hfin hs
    | none =>
      rw [hm] at hme hmh
      rw [hmh] at h0
      simp only [Option.map_none, Option.isSome_none, Bool.false_eq_true, false_or] at h0
      by_cases h1 : q ≤ st.upto
      · skip
        refine enter Try.func15 rfl Try.ntmps15 6 rfl (Nat.le_of_ble_eq_true rfl) ?_
        refine c_seq ?_
        -- region 0
        refine c_region ?_
        refine x_assign (.slice _ _ _) rfl ?_
        refine x_nil ?_
        refine then_n ?_
        refine c_seq ?_
        refine c_seq ?_
        -- region 1
        refine c_region ?_
        refine x_move (.pointer _) rfl ?_
        refine x_eqlNil Try.underlying23 _ rfl rfl ?_
        refine x_nil ?_
        refine then_n ?_
        refine c_false rfl ?_
        refine c_skip ?_
        refine then_n ?_
        refine c_seq ?_
        -- region 3
        refine c_region ?_
        refine x_move (.pointer _) rfl ?_
        refine x_nilCheck _ rfl ?_
        first | refine x_field0 fa_49_3 _ rfl ?_ | refine x_field fa_49_3 _ _ rfl ?_
        refine x_store hs one_4 (.bool _) rfl rfl rfl rfl ?_; clear hs; intro w hs; refine ⟨fun h => (by first | cases h | exact h), ?_⟩
        refine x_nil ?_
        refine then_n ?_
        refine c_seq ?_
        refine c_seq ?_
        -- region 4
        refine c_region ?_
        refine x_move (.pointer _) rfl ?_
        refine x_nilCheck _ rfl ?_
        first | refine x_field0 fa_49_2 _ rfl ?_ | refine x_field fa_49_2 _ _ rfl ?_
        refine x_load one_47 _ (.map _) rfl (by first | exact hs.cell rfl | exact (hs.pull 1).cell rfl | exact (hs.pull 2).cell rfl | exact (hs.pull 3).cell rfl | assumption | exact (hs.pull 4).cell rfl | exact (hs.pull 5).cell rfl | exact (hs.pull 6).cell rfl | exact (hs.pull 7).cell rfl) ?_
        refine x_move (.int _ _) rfl ?_
        refine x_lookup2F mt_47 ko_26 (hs.pull 1) q rfl rfl hme ?_
        refine x_move (.tuple _) rfl ?_
        refine x_extract _ (.slice _ _ _) rfl rfl ?_
        refine x_extract _ (.bool _) rfl rfl ?_
        refine x_assign (.slice _ _ _) rfl ?_
        refine x_assign (.bool _) rfl ?_
        refine x_nil ?_
        refine then_n ?_
        refine c_seq ?_
        -- region 5
        refine c_region ?_
        refine x_move (.bool _) rfl ?_
        refine x_move (.bool _) rfl ?_
        refine x_want' rfl ?_
        refine x_move (.int _ _) rfl ?_
        refine x_want' rfl ?_
        refine x_move (.pointer _) rfl ?_
        refine x_want' rfl ?_
        refine x_nilCheck _ rfl ?_
        refine x_want' rfl ?_
        first | refine x_field0 fa_49_1 _ rfl ?_ | refine x_field fa_49_1 _ _ rfl ?_
        refine x_want' rfl ?_
        refine x_load one_26 _ (.int _ _) rfl (by first | exact hs.cell rfl | exact (hs.pull 1).cell rfl | exact (hs.pull 2).cell rfl | exact (hs.pull 3).cell rfl | assumption | exact (hs.pull 4).cell rfl | exact (hs.pull 5).cell rfl | exact (hs.pull 6).cell rfl | exact (hs.pull 7).cell rfl) ?_
        refine x_want' rfl ?_
        refine x_leqT _ _ rfl rfl (by omega) ?_
        refine x_pickF (.bool _) rfl rfl ?_
        refine x_move (.bool _) rfl ?_
        refine x_skip rfl rfl ?_
        refine x_skip rfl rfl ?_
        refine x_skip rfl rfl ?_
        refine x_skip rfl rfl ?_
        refine x_skip rfl rfl ?_
        refine x_skip rfl rfl ?_
        refine x_skip rfl rfl ?_
        refine x_pickT (.bool _) rfl rfl ?_
        refine x_nil ?_
        refine then_n ?_
        refine c_true rfl ?_
        refine c_seq ?_
        -- region 6
        refine c_region ?_
        refine x_assign (.slice _ _ _) rfl ?_
        refine x_nil ?_
        refine then_n ?_
        refine c_ret ?_
        refine then_r ?_
        refine ⟨.inr rfl, ?_⟩
        exact hfin hs
      · skip
        refine enter Try.func15 rfl Try.ntmps15 6 rfl (Nat.le_of_ble_eq_true rfl) ?_
        refine c_seq ?_
        -- region 0
        refine c_region ?_
        refine x_assign (.slice _ _ _) rfl ?_
        refine x_nil ?_
        refine then_n ?_
        refine c_seq ?_
        refine c_seq ?_
        -- region 1
        refine c_region ?_
        refine x_move (.pointer _) rfl ?_
        refine x_eqlNil Try.underlying23 _ rfl rfl ?_
        refine x_nil ?_
        refine then_n ?_
        refine c_false rfl ?_
        refine c_skip ?_
        refine then_n ?_
        refine c_seq ?_
        -- region 3
        refine c_region ?_
        refine x_move (.pointer _) rfl ?_
        refine x_nilCheck _ rfl ?_
        first | refine x_field0 fa_49_3 _ rfl ?_ | refine x_field fa_49_3 _ _ rfl ?_
        refine x_store hs one_4 (.bool _) rfl rfl rfl rfl ?_; clear hs; intro w hs; refine ⟨fun h => (by first | cases h | exact h), ?_⟩
        refine x_nil ?_
        refine then_n ?_
        refine c_seq ?_
        refine c_seq ?_
        -- region 4
        refine c_region ?_
        refine x_move (.pointer _) rfl ?_
        refine x_nilCheck _ rfl ?_
        first | refine x_field0 fa_49_2 _ rfl ?_ | refine x_field fa_49_2 _ _ rfl ?_
        refine x_load one_47 _ (.map _) rfl (by first | exact hs.cell rfl | exact (hs.pull 1).cell rfl | exact (hs.pull 2).cell rfl | exact (hs.pull 3).cell rfl | assumption | exact (hs.pull 4).cell rfl | exact (hs.pull 5).cell rfl | exact (hs.pull 6).cell rfl | exact (hs.pull 7).cell rfl) ?_
        refine x_move (.int _ _) rfl ?_
        refine x_lookup2F mt_47 ko_26 (hs.pull 1) q rfl rfl hme ?_
        refine x_move (.tuple _) rfl ?_
        refine x_extract _ (.slice _ _ _) rfl rfl ?_
        refine x_extract _ (.bool _) rfl rfl ?_
        refine x_assign (.slice _ _ _) rfl ?_
        refine x_assign (.bool _) rfl ?_
        refine x_nil ?_
        refine then_n ?_
        refine c_seq ?_
        -- region 5
        refine c_region ?_
        refine x_move (.bool _) rfl ?_
        refine x_move (.bool _) rfl ?_
        refine x_want' rfl ?_
        refine x_move (.int _ _) rfl ?_
        refine x_want' rfl ?_
        refine x_move (.pointer _) rfl ?_
        refine x_want' rfl ?_
        refine x_nilCheck _ rfl ?_
        refine x_want' rfl ?_
        first | refine x_field0 fa_49_1 _ rfl ?_ | refine x_field fa_49_1 _ _ rfl ?_
        refine x_want' rfl ?_
        refine x_load one_26 _ (.int _ _) rfl (by first | exact hs.cell rfl | exact (hs.pull 1).cell rfl | exact (hs.pull 2).cell rfl | exact (hs.pull 3).cell rfl | assumption | exact (hs.pull 4).cell rfl | exact (hs.pull 5).cell rfl | exact (hs.pull 6).cell rfl | exact (hs.pull 7).cell rfl) ?_
        refine x_want' rfl ?_
        refine x_leqF _ _ rfl rfl (by omega) ?_
        refine x_pickF (.bool _) rfl rfl ?_
        refine x_move (.bool _) rfl ?_
        refine x_want' rfl ?_
        refine x_move (.int _ _) rfl ?_
        refine x_want' rfl ?_
        refine x_move (.pointer _) rfl ?_
        refine x_want' rfl ?_
        refine x_nilCheck _ rfl ?_
        refine x_want' rfl ?_
        first | refine x_field0 fa_49_1 _ rfl ?_ | refine x_field fa_49_1 _ _ rfl ?_
        refine x_want' rfl ?_
        refine x_load one_26 _ (.int _ _) rfl (by first | exact hs.cell rfl | exact (hs.pull 1).cell rfl | exact (hs.pull 2).cell rfl | exact (hs.pull 3).cell rfl | assumption | exact (hs.pull 4).cell rfl | exact (hs.pull 5).cell rfl | exact (hs.pull 6).cell rfl | exact (hs.pull 7).cell rfl) ?_
        refine x_want' rfl ?_
        refine x_sub _ _ rfl rfl (by simp only [X.lo]; omega) (by simp only [X.hi]; omega) ?_
        refine x_want' rfl ?_
        refine x_gtrT _ _ rfl rfl (by omega) ?_
        refine x_pickF (.bool _) rfl rfl ?_
        refine x_nil ?_
        refine then_n ?_
        refine c_true rfl ?_
        refine c_seq ?_
        -- region 6
        refine c_region ?_
        refine x_assign (.slice _ _ _) rfl ?_
        refine x_nil ?_
        refine then_n ?_
        refine c_ret ?_
        refine then_r ?_
        refine ⟨.inr rfl, ?_⟩
        exact hfin hs
  · have hg : st.take q b = ((drain (st.held.length + 2) st.upto (st.held ++ [(q, b)]) []).2.2, { st with owes := true, upto := (drain (st.held.length + 2) st.upto (st.held ++ [(q, b)]) []).1, held := (drain (st.held.length + 2) st.upto (st.held ++ [(q, b)]) []).2.1 }) := by unfold LSt.take; rw [if_neg h0]
    rw [hg]
    obtain ⟨S, M, hs⟩ := hs.lobj
    obtain ⟨e, he, hs⟩ := (hs.pull 2).mb
    have hs := hs.perm [2, 0, 1, 3]
    have hme : mget q (e.map fun p => (p.1, p.2.1)) = (mget q e).map (·.1) := mget_map (fun p : Value × List UInt8 => p.1) q e
    have hmh : mget q st.held = (mget q e).map (·.2) := by rw [← he]; exact mget_map (fun p : Value × List UInt8 => p.2) q e
    simp only [not_or] at h0
    obtain ⟨h1, h2, h3⟩ := h0
    have hm : mget q e = none := by
      rw [hmh] at h1
      cases hm : mget q e with
      | none => rfl
      | some p => rw [hm] at h1; simp at h1
    rw [hm] at hme
    generalize hR : drain (st.held.length + 2) st.upto (st.held ++ [(q, b)]) [] = R
    refine enter Try.func15 rfl Try.ntmps15 6 rfl (Nat.le_of_ble_eq_true rfl) ?_
    refine c_seq ?_
    -- region 0
    refine c_region ?_
    refine x_assign (.slice _ _ _) rfl ?_
    refine x_nil ?_
    refine then_n ?_
    refine c_seq ?_
    refine c_seq ?_
    -- region 1
    refine c_region ?_
    refine x_move (.pointer _) rfl ?_
    refine x_eqlNil Try.underlying23 _ rfl rfl ?_
    refine x_nil ?_
    refine then_n ?_
    refine c_false rfl ?_
    refine c_skip ?_
    refine then_n ?_
    refine c_seq ?_
    -- region 3
    refine c_region ?_
    refine x_move (.pointer _) rfl ?_
    refine x_nilCheck _ rfl ?_
    first | refine x_field0 fa_49_3 _ rfl ?_ | refine x_field fa_49_3 _ _ rfl ?_
    refine x_store hs one_4 (.bool _) rfl rfl rfl rfl ?_; clear hs; intro w hs; refine ⟨fun h => (by first | cases h | exact h), ?_⟩
    refine x_nil ?_
    refine then_n ?_
    refine c_seq ?_
    refine c_seq ?_
    -- region 4
    refine c_region ?_
    refine x_move (.pointer _) rfl ?_
    refine x_nilCheck _ rfl ?_
    first | refine x_field0 fa_49_2 _ rfl ?_ | refine x_field fa_49_2 _ _ rfl ?_
    refine x_load one_47 _ (.map _) rfl (by first | exact hs.cell rfl | exact (hs.pull 1).cell rfl | exact (hs.pull 2).cell rfl | exact (hs.pull 3).cell rfl | assumption | exact (hs.pull 4).cell rfl | exact (hs.pull 5).cell rfl | exact (hs.pull 6).cell rfl | exact (hs.pull 7).cell rfl) ?_
    refine x_move (.int _ _) rfl ?_
    refine x_lookup2F mt_47 ko_26 (hs.pull 1) q rfl rfl hme ?_
    refine x_move (.tuple _) rfl ?_
    refine x_extract _ (.slice _ _ _) rfl rfl ?_
    refine x_extract _ (.bool _) rfl rfl ?_
    refine x_assign (.slice _ _ _) rfl ?_
    refine x_assign (.bool _) rfl ?_
    refine x_nil ?_
    refine then_n ?_
    refine c_seq ?_
    -- region 5
    refine c_region ?_
    refine x_move (.bool _) rfl ?_
    refine x_move (.bool _) rfl ?_
    refine x_want' rfl ?_
    refine x_move (.int _ _) rfl ?_
    refine x_want' rfl ?_
    refine x_move (.pointer _) rfl ?_
    refine x_want' rfl ?_
    refine x_nilCheck _ rfl ?_
    refine x_want' rfl ?_
    first | refine x_field0 fa_49_1 _ rfl ?_ | refine x_field fa_49_1 _ _ rfl ?_
    refine x_want' rfl ?_
    refine x_load one_26 _ (.int _ _) rfl (by first | exact hs.cell rfl | exact (hs.pull 1).cell rfl | exact (hs.pull 2).cell rfl | exact (hs.pull 3).cell rfl | assumption | exact (hs.pull 4).cell rfl | exact (hs.pull 5).cell rfl | exact (hs.pull 6).cell rfl | exact (hs.pull 7).cell rfl) ?_
    refine x_want' rfl ?_
    refine x_leqF _ _ rfl rfl (by omega) ?_
    refine x_pickF (.bool _) rfl rfl ?_
    refine x_move (.bool _) rfl ?_
    refine x_want' rfl ?_
    refine x_move (.int _ _) rfl ?_
    refine x_want' rfl ?_
    refine x_move (.pointer _) rfl ?_
    refine x_want' rfl ?_
    refine x_nilCheck _ rfl ?_
    refine x_want' rfl ?_
    first | refine x_field0 fa_49_1 _ rfl ?_ | refine x_field fa_49_1 _ _ rfl ?_
    refine x_want' rfl ?_
    refine x_load one_26 _ (.int _ _) rfl (by first | exact hs.cell rfl | exact (hs.pull 1).cell rfl | exact (hs.pull 2).cell rfl | exact (hs.pull 3).cell rfl | assumption | exact (hs.pull 4).cell rfl | exact (hs.pull 5).cell rfl | exact (hs.pull 6).cell rfl | exact (hs.pull 7).cell rfl) ?_
    refine x_want' rfl ?_
    refine x_sub _ _ rfl rfl (by simp only [X.lo]; omega) (by simp only [X.hi]; omega) ?_
    refine x_want' rfl ?_
    refine x_gtrF _ _ rfl rfl (by omega) ?_
    refine x_pickF (.bool _) rfl rfl ?_
    refine x_nil ?_
    refine then_n ?_
    refine c_false rfl ?_
    refine c_skip ?_
    refine then_n ?_
    refine c_seq ?_
    -- region 7 DRAWS
    refine c_draw (fun w => SameL hs w) (fun i => !(Nat.beq i 7)) [(0, 2), (1, 2), (2, 2), (3, 1), (4, 2), (5, 2), (6, 0), (7, 0)] (by kernel_rfl) (by kernel_rfl) (by kernel_rfl) (by kernel_rfl) (hs.drew) ?_
    replace hs := hs.drew
    refine x_move (.pointer _) rfl ?_
    refine x_nilCheck _ rfl ?_
    first | refine x_field0 fa_49_2 _ rfl ?_ | refine x_field fa_49_2 _ _ rfl ?_
    refine h_load one_47 _ (.map _) rfl (fun w hS => by first | exact hS.cell rfl | exact (hS.pull 1).cell rfl | exact (hS.pull 2).cell rfl | exact (hS.pull 3).cell rfl | exact hS | exact hS.1 | exact hS.2 | exact hS.2.1 | exact hS.2.2 | exact hS.2.2.1 | exact hS.2.2.2 | exact hS.2.2.2.1 | exact hS.2.2.2.2) ?_
    refine x_move (.int _ _) rfl ?_
    refine x_move (.slice _ _ _) rfl ?_
    refine x_call Try.f37 Try.func37 rfl rfl [.slice a1 b.length c1] rfl ?_
    refine (clone_calls hs (hr _ _ (hs.pull 4)) hb).mono ?_
    clear hs; rintro e1 w ⟨v', rfl, hs⟩
    refine ⟨v', rfl, fun _ => hs.tail, ?_⟩
    refine x_update mt_47 ko_26 (hs.pull 2) q v' rfl rfl rfl ?_
    clear hs; intro w hs; refine ⟨fun h => (by cases h), ?_⟩
    have hset : mset q v' (e.map fun p => (p.1, p.2.1)) = (e ++ [(q, v', b)]).map fun p => (p.1, p.2.1) := by rw [mset_new hme]; simp
    rw [hset] at hs
    have hs := Sat.mb' ((Sat.eeSnoc (k := q) (hs.perm [3, 1, 0, 2, 4, 5])).perm [1, 0])
    rw [show ((e ++ [(q, v', b)]).map fun p => (p.1, p.2.2)) = st.held ++ [(q, b)] from by rw [List.map_append, he]; rfl] at hs
    have hs := hs.perm [1, 2, 0, 3]
    refine x_nil ?_
    refine then_n ?_
    refine c_seq ?_
    -- region 8
    refine c_region ?_
    refine x_assign (.slice _ _ _) rfl ?_
    refine x_nil ?_
    refine then_n ?_
    refine c_block ?_
    refine c_loop (γ := GTake) (fun g => [(0, .pointer (some ⟨l, 0, none⟩)), (9, g.v)]) (fun g w => drain g.n g.u g.h g.o = R ∧ g.h.length < g.n ∧ g.u + g.h.length ≤ st.upto + st.held.length + 1 ∧ g.o.length + g.h.length ≤ st.held.length + 1 ∧ Sat w0 w (Blk l (.cells #[.pointer (some ⟨S, 0, none⟩), .int .u64 (g.u : Nat), .map (some M), .bool true] 49 (0, 0)) :: SObj S st.s :: MB (ik .u64) M g.h :: BB g.v g.o :: A :: L)) (fun g => g.h.length)
      ⟨st.held.length + 2, st.upto, st.held ++ [(q, b)], [], .slice none 0 0⟩ ⟨rfl, rfl, trivial⟩ ⟨hR, by simp, by simp; omega, by simp, (Sat.bbNil hs).perm [1, 2, 3, 0]⟩ ?_
    clear hs
    rintro ⟨n, u, h, o, v⟩ ρ w ⟨hd, hn, hb1, hb2, hs⟩
    dsimp only at hd hn hb1 hb2 hs
    obtain ⟨n, rfl⟩ : ∃ m, n = m + 1 := ⟨n - 1, by omega⟩
    obtain ⟨a3, c3, rfl⟩ : ∃ ao c, v = .slice ao o.length c := by
      obtain ⟨vs, hs⟩ := (hs.pull 3).bb
      exact hs.rd.val
    change CW Try.prog 86 _ _ (sets 86 [(0, .pointer (some ⟨l, 0, none⟩)), (9, .slice a3 o.length c3)] ρ) w
    clear he hm hme hmh h1 h2 h3 hR
    obtain ⟨e, he, hs⟩ := (hs.pull 2).mb
    have hs := hs.perm [2, 0, 1, 3, 4]
    have hme : mget (u + 1) (e.map fun p => (p.1, p.2.1)) = (mget (u + 1) e).map (·.1) := mget_map (fun p : Value × List UInt8 => p.1) (u + 1) e
    have hmh : mget (u + 1) h = (mget (u + 1) e).map (·.2) := by rw [← he]; exact mget_map (fun p : Value × List UInt8 => p.2) (u + 1) e
    have hdd : mdel (u + 1) (e.map fun p => (p.1, p.2.1)) = (mdel (u + 1) e).map fun p => (p.1, p.2.1) := mdel_map (fun p : Value × List UInt8 => p.1) (u + 1) e
    have hdh : mdel (u + 1) h = (mdel (u + 1) e).map fun p => (p.1, p.2.2) := by rw [← he]; exact mdel_map (fun p : Value × List UInt8 => p.2) (u + 1) e
    cases hm : mget (u + 1) e
    rotate_left
    rename_i p
    obtain ⟨v1, b1⟩ := p
    obtain ⟨a2, c2, rfl⟩ := ((hs.pull 2).eeRB hm).val
    all_goals rw [hm] at hme hmh
    · skip
      refine c_block ?_
      refine c_seq ?_
      -- region 9 DRAWS
      refine c_draw (fun w => SameL hs w) (fun i => !(false)) [(0, 2), (1, 2), (2, 2), (3, 1), (4, 2), (5, 2), (6, 2), (7, 1), (8, 2), (9, 1), (10, 2), (11, 2), (12, 2), (13, 2), (14, 2)] (by kernel_rfl) (by kernel_rfl) (by kernel_rfl) (by kernel_rfl) (hs.drew) ?_
      replace hs := hs.drew
      refine x_move (.pointer _) rfl ?_
      refine x_nilCheck _ rfl ?_
      first | refine x_field0 fa_49_2 _ rfl ?_ | refine x_field fa_49_2 _ _ rfl ?_
      refine h_load one_47 _ (.map _) rfl (fun w hS => by first | exact hS.cell rfl | exact (hS.pull 1).cell rfl | exact (hS.pull 2).cell rfl | exact (hS.pull 3).cell rfl | exact hS | exact hS.1 | exact hS.2 | exact hS.2.1 | exact hS.2.2 | exact hS.2.2.1 | exact hS.2.2.2 | exact hS.2.2.2.1 | exact hS.2.2.2.2) ?_
      refine x_move (.pointer _) rfl ?_
      refine x_nilCheck _ rfl ?_
      first | refine x_field0 fa_49_1 _ rfl ?_ | refine x_field fa_49_1 _ _ rfl ?_
      refine h_load one_26 _ (.int _ _) rfl (fun w hS => by first | exact hS.cell rfl | exact (hS.pull 1).cell rfl | exact (hS.pull 2).cell rfl | exact (hS.pull 3).cell rfl | exact hS | exact hS.1 | exact hS.2 | exact hS.2.1 | exact hS.2.2 | exact hS.2.2.1 | exact hS.2.2.2 | exact hS.2.2.2.1 | exact hS.2.2.2.2) ?_
      refine x_add _ _ rfl rfl (by simp only [X.lo]; omega) (by simp only [X.hi]; omega) ?_
      refine h_lookup2T mt_47 ko_26 (u + 1) _ (fun w hS => ⟨_, _, hS.pull 1⟩) rfl rfl hme ?_
      refine x_move (.tuple _) rfl ?_
      refine x_extract _ (.slice _ _ _) rfl rfl ?_
      refine x_extract _ (.bool _) rfl rfl ?_
      refine x_assign (.slice _ _ _) rfl ?_
      refine x_assign (.bool _) rfl ?_
      refine x_nil ?_
      refine then_n ?_
      refine c_seq ?_
      refine c_seq ?_
      -- region 10
      refine c_region ?_
      refine x_move (.bool _) rfl ?_
      refine x_not _ rfl ?_
      refine x_nil ?_
      refine then_n ?_
      refine c_false rfl ?_
      refine c_skip ?_
      refine then_n ?_
      refine c_seq ?_
      -- region 12
      refine c_region ?_
      refine x_move (.pointer _) rfl ?_
      refine x_nilCheck _ rfl ?_
      first | refine x_field0 fa_49_1 _ rfl ?_ | refine x_field fa_49_1 _ _ rfl ?_
      refine x_load one_26 _ (.int _ _) rfl (by first | exact hs.cell rfl | exact (hs.pull 1).cell rfl | exact (hs.pull 2).cell rfl | exact (hs.pull 3).cell rfl | assumption | exact (hs.pull 4).cell rfl | exact (hs.pull 5).cell rfl | exact (hs.pull 6).cell rfl | exact (hs.pull 7).cell rfl) ?_
      refine x_add _ _ rfl rfl (by simp only [X.lo]; omega) (by simp only [X.hi]; omega) ?_
      refine x_nilCheck _ rfl ?_
      first | refine x_field0 fa_49_1 _ rfl ?_ | refine x_field fa_49_1 _ _ rfl ?_
      refine x_store hs one_26 (.int _ _) rfl rfl rfl rfl ?_; clear hs; intro w hs; refine ⟨fun h => (by first | cases h | exact h), ?_⟩
      refine x_nil ?_
      refine then_n ?_
      refine c_seq ?_
      -- region 13 DRAWS
      refine c_draw (fun w => SameL hs w) (fun i => !(Nat.beq i 8)) [(0, 2), (1, 2), (2, 2), (3, 1), (4, 2), (5, 2), (6, 2), (7, 1), (8, 0)] (by kernel_rfl) (by kernel_rfl) (by kernel_rfl) (by kernel_rfl) (hs.drew) ?_
      replace hs := hs.drew
      refine x_move (.pointer _) rfl ?_
      refine x_nilCheck _ rfl ?_
      first | refine x_field0 fa_49_2 _ rfl ?_ | refine x_field fa_49_2 _ _ rfl ?_
      refine h_load one_47 _ (.map _) rfl (fun w hS => by first | exact hS.cell rfl | exact (hS.pull 1).cell rfl | exact (hS.pull 2).cell rfl | exact (hS.pull 3).cell rfl | exact hS | exact hS.1 | exact hS.2 | exact hS.2.1 | exact hS.2.2 | exact hS.2.2.1 | exact hS.2.2.2 | exact hS.2.2.2.1 | exact hS.2.2.2.2) ?_
      refine x_move (.pointer _) rfl ?_
      refine x_nilCheck _ rfl ?_
      first | refine x_field0 fa_49_1 _ rfl ?_ | refine x_field fa_49_1 _ _ rfl ?_
      refine h_load one_26 _ (.int _ _) rfl (fun w hS => by first | exact hS.cell rfl | exact (hS.pull 1).cell rfl | exact (hS.pull 2).cell rfl | exact (hS.pull 3).cell rfl | exact hS | exact hS.1 | exact hS.2 | exact hS.2.1 | exact hS.2.2 | exact hS.2.2.1 | exact hS.2.2.2 | exact hS.2.2.2.1 | exact hS.2.2.2.2) ?_
      refine x_delete mt_47 ko_26 (hs.pull 1) (u + 1) rfl rfl ?_
      clear hs; intro w hs; refine ⟨fun h => (by cases h), ?_⟩
      rw [hdd] at hs
      refine x_nil ?_
      refine then_n ?_
      -- region 14
      refine c_region ?_
      refine x_move (.slice _ _ _) rfl ?_
      refine x_move (.slice _ _ _) rfl ?_
      refine x_buildSlice #[.slice a2 b1.length c2] [(0, .slice a2 b1.length c2)] hs rfl (fun w => bs_bb _ _ _ w) ?_
      clear hs; intro b2 w hs; refine ⟨fun h => (by cases h), ?_⟩
      have hrd := rd_blk (size := 1) hs rfl
      obtain ⟨vs, hs⟩ := (hs.tail.pull 4).bb
      refine x_append hs Try.underlying35 ei_30 hrd (by intro u hu; simp at hu; subst hu; rfl) (by unfold maxLen; omega) (by omega) rfl rfl ?_
      clear hs; intro v w hs; refine ⟨fun h => (by cases h), ?_⟩
      obtain ⟨a7, c7, rfl⟩ := hs.rd.val
      have hs := (((hs.pull 4).eeGet hm).perm [3, 0, 2, 1, 4, 5, 6]).eachSnoc.perm [1, 0]
      rw [show o.length + 1 = (o ++ [b1]).length from by simp] at hs ⊢
      have hs := Sat.mb' ((Sat.bb' hs).perm [2, 1, 0])
      rw [← hdh] at hs
      have hs := hs.perm [2, 3, 0, 1]
      refine x_assign (.slice _ _ _) rfl ?_
      refine x_nil ?_
      refine inb_n ?_
      refine then_n ?_
      have hl := mdel_len hmh
      refine ⟨⟨n, u + 1, mdel (u + 1) h, o ++ [b1], _⟩, ⟨rfl, rfl, trivial⟩, ⟨?_, by dsimp only; omega, by dsimp only; omega, by simp; omega, hs⟩, by dsimp only; omega⟩
      rw [← hd]
      show _ = drain (n + 1) u h o
      conv => rhs; unfold drain
      rw [hmh]
      rfl
    · skip
      refine c_block ?_
      refine c_seq ?_
      -- region 9 DRAWS
      refine c_draw (fun w => SameL hs w) (fun i => !(false)) [(0, 2), (1, 2), (2, 2), (3, 1), (4, 2), (5, 2), (6, 2), (7, 1), (8, 2), (9, 1), (10, 2), (11, 2), (12, 2), (13, 2), (14, 2)] (by kernel_rfl) (by kernel_rfl) (by kernel_rfl) (by kernel_rfl) (hs.drew) ?_
      replace hs := hs.drew
      refine x_move (.pointer _) rfl ?_
      refine x_nilCheck _ rfl ?_
      first | refine x_field0 fa_49_2 _ rfl ?_ | refine x_field fa_49_2 _ _ rfl ?_
      refine h_load one_47 _ (.map _) rfl (fun w hS => by first | exact hS.cell rfl | exact (hS.pull 1).cell rfl | exact (hS.pull 2).cell rfl | exact (hS.pull 3).cell rfl | exact hS | exact hS.1 | exact hS.2 | exact hS.2.1 | exact hS.2.2 | exact hS.2.2.1 | exact hS.2.2.2 | exact hS.2.2.2.1 | exact hS.2.2.2.2) ?_
      refine x_move (.pointer _) rfl ?_
      refine x_nilCheck _ rfl ?_
      first | refine x_field0 fa_49_1 _ rfl ?_ | refine x_field fa_49_1 _ _ rfl ?_
      refine h_load one_26 _ (.int _ _) rfl (fun w hS => by first | exact hS.cell rfl | exact (hS.pull 1).cell rfl | exact (hS.pull 2).cell rfl | exact (hS.pull 3).cell rfl | exact hS | exact hS.1 | exact hS.2 | exact hS.2.1 | exact hS.2.2 | exact hS.2.2.1 | exact hS.2.2.2 | exact hS.2.2.2.1 | exact hS.2.2.2.2) ?_
      refine x_add _ _ rfl rfl (by simp only [X.lo]; omega) (by simp only [X.hi]; omega) ?_
      refine h_lookup2F mt_47 ko_26 (u + 1) (fun w hS => ⟨_, _, hS.pull 1⟩) rfl rfl hme ?_
      refine x_move (.tuple _) rfl ?_
      refine x_extract _ (.slice _ _ _) rfl rfl ?_
      refine x_extract _ (.bool _) rfl rfl ?_
      refine x_assign (.slice _ _ _) rfl ?_
      refine x_assign (.bool _) rfl ?_
      refine x_nil ?_
      refine then_n ?_
      refine c_seq ?_
      refine c_seq ?_
      -- region 10
      refine c_region ?_
      refine x_move (.bool _) rfl ?_
      refine x_not _ rfl ?_
      refine x_nil ?_
      refine then_n ?_
      refine c_true rfl ?_
      refine c_seq ?_
      -- region 11
      refine c_region ?_
      refine x_move (.slice _ _ _) rfl ?_
      refine x_assign (.slice _ _ _) rfl ?_
      refine x_nil ?_
      refine then_n ?_
      refine c_ret ?_
      refine then_r ?_
      refine inb_r ?_
      refine then_r ?_
      refine inb_r ?_
      refine ⟨.inr rfl, ?_⟩
      have hd2 : R = (u, h, o) := by
        rw [← hd]
        unfold drain
        rw [hmh]
        rfl
      rw [hd2]
      refine ⟨_, rfl, ?_⟩
      have hs := Sat.mb' (hs.perm [1, 2, 0])
      rw [he] at hs
      exact (Sat.lobj' (st := { st with owes := true, upto := u, held := h }) (hs.perm [1, 2, 0])).pull 1
end Go.Proofs.Ytphakfggocdphaa.X
