/-
  LAYER 12: how a link's state stands; the law LinkBound.
-/
import Derived.Test.YtphakfggocdphaaLawL1
namespace Go.Proofs.Ytphakfggocdphaa.X
open Go Go.RowKit
set_option linter.unusedVariables false
set_option maxRecDepth 20000
theorem nodup_len : ∀ (n a : Nat) (l : List Nat), l.Nodup → (∀ x ∈ l, a ≤ x ∧ x < a + n) → l.length ≤ n
  | 0, a, l, _, h => by
    cases l with
    | nil => simp
    | cons x l => have := h x (by simp); omega
  | n + 1, a, l, hd, h => by
    have h1 := nodup_len n a (l.erase (a + n)) (hd.erase _) fun x hx => by
      have h2 := (hd.mem_erase_iff).1 hx
      have h3 := h x h2.2
      have h4 := h2.1
      omega
    have h5 := List.length_erase (a := a + n) (l := l)
    split at h5 <;> omega
/-- keys once each, above Upto + 1 and within the window -/
def LSt.inv (st : LSt) : Prop := (st.held.map (·.1)).Nodup ∧ ∀ k ∈ st.held.map (·.1), st.upto + 1 < k ∧ k ≤ st.upto + 16
theorem LSt.inv_len {st : LSt} (h : st.inv) : st.held.length ≤ 15 := by
  have := nodup_len 15 (st.upto + 2) (st.held.map (·.1)) h.1 fun x hx => by have := h.2 x hx; omega
  simpa using this
theorem drain_inv (B : Nat) : ∀ (n u : Nat) (h : Held) (o : List (List UInt8)), h.length < n → (h.map (·.1)).Nodup → (∀ k ∈ h.map (·.1), u < k ∧ k ≤ B) →
    u ≤ (drain n u h o).1 ∧ (drain n u h o).2.2.length + u = o.length + (drain n u h o).1 ∧ ((drain n u h o).2.1.map (·.1)).Nodup ∧ ∀ k ∈ (drain n u h o).2.1.map (·.1), (drain n u h o).1 + 1 < k ∧ k ≤ B
  | 0, _, _, _, hn, _, _ => by omega
  | n + 1, u, h, o, hn, h1, h2 => by
    unfold drain
    split
    · rename_i hm
      refine ⟨Nat.le_refl _, rfl, h1, fun k hk => ?_⟩
      have h3 := h2 k hk
      have h4 : k ≠ u + 1 := fun e => by subst e; exact mget_none.1 hm hk
      exact ⟨by omega, h3.2⟩
    · rename_i b hm
      have hl := mdel_len hm
      obtain ⟨g1, g2⟩ := mdel_keys (k := u + 1) h1
      obtain ⟨r1, r2, r3, r4⟩ := drain_inv B n (u + 1) (mdel (u + 1) h) (o ++ [b]) (by omega) g1 fun k hk => by
        have h3 := (g2 k).1 hk
        have h4 := h2 k h3.2
        have h5 := h3.1
        exact ⟨by omega, h4.2⟩
      refine ⟨by omega, ?_, r3, r4⟩
      rw [List.length_append] at r2
      simp only [List.length_cons, List.length_nil] at r2
      omega
theorem LSt.take_inv {st : LSt} (q : Nat) (b : List UInt8) (h : st.inv) :
    (st.take q b).2.inv ∧ (st.take q b).2.upto = st.upto + (st.take q b).1.length ∧ (st.take q b).2.upto + (st.take q b).2.held.length ≤ st.upto + st.held.length + 1 := by
  unfold LSt.take
  split
  · exact ⟨h, rfl, by dsimp only; omega⟩
  · rename_i h0
    simp only [not_or] at h0
    obtain ⟨h1, h2, h3⟩ := h0
    have hm : mget q st.held = none := by
      cases hm : mget q st.held with
      | none => rfl
      | some p => rw [hm] at h1; simp at h1
    have hq := mget_none.1 hm
    have hk : (st.held ++ [(q, b)]).map (·.1) = st.held.map (·.1) ++ [q] := by simp
    obtain ⟨r1, r2, r3, r4⟩ := drain_inv (st.upto + 16) (st.held.length + 2) st.upto (st.held ++ [(q, b)]) [] (by simp) (by
      rw [hk, List.nodup_append]
      refine ⟨h.1, by simp, fun a ha c hc => ?_⟩
      simp only [List.mem_singleton] at hc
      subst hc
      exact fun e => hq (e ▸ ha)) (by
      rw [hk]
      intro k hk
      rcases List.mem_append.1 hk with hk | hk
      · have := h.2 k hk; omega
      · simp only [List.mem_singleton] at hk
        subst hk
        omega)
    have r5 := drain_len (st.held.length + 2) st.upto (st.held ++ [(q, b)]) []
    refine ⟨⟨r3, fun k hk => ?_⟩, ?_, ?_⟩
    · have := r4 k hk
      exact ⟨this.1, by dsimp only; omega⟩
    · dsimp only
      simp only [List.length_nil] at r2
      omega
    · dsimp only
      rw [List.length_append] at r5
      simp only [List.length_cons, List.length_nil] at r5
      omega
theorem LSt.new_inv : LSt.new.inv := ⟨by decide, fun k hk => by simp [LSt.new] at hk⟩

/-! ### LinkBound -/
structure GLB where
  i : Nat
  st : LSt
set_option maxHeartbeats 4000000 in
theorem walk_LinkBound {H : Type} {enc : TypeId × Value → H} {w0 : World} {a0 : Option Addr} {l0 c0 : Nat} (h0 : TR enc Try.prog w0 40 [.slice a0 l0 c0]) :
    Calls Try.prog 4 #[.slice a0 l0 c0] w0 fun e w' => e = .returned (.bool true) ∧ Below w0.heap.size w0 w' := by
  obtain ⟨v, xs, hv, hrd, hlen, hxs⟩ := h0.nats Try.underlying40 Try.underlying26 (by kernel_rfl) rfl
  obtain rfl : v = .slice a0 l0 c0 := by simpa using hv.symm
  have hl0 : l0 = xs.length := by
    obtain ⟨_, a, c, h, _⟩ := hrd
    cases h
    rfl
  subst hl0
  refine law_of fun w hs => ?_
  have hin : ∀ w' L', Sat w0 w' (Init w0 :: L') → RD w' 1 (.slice a0 xs.length c0) xs.length (xs.map fun n => .int .u64 (n : Nat)) := fun w' L' h => hrd.below h.init
  unfold maxLen at hlen
  refine enter Try.func4 rfl Try.ntmps4 2 rfl (Nat.le_of_ble_eq_true rfl) ?_
  refine c_seq ?_
  -- region 0
  refine c_region ?_
  refine x_assign (.bool _) rfl ?_
  refine x_nil ?_
  refine then_n ?_
  refine c_seq ?_
  -- region 1
  refine c_region ?_
  refine x_call Try.f12 Try.func12 rfl rfl [] rfl ?_
  refine (lnew_calls hs).mono ?_
  clear hs; rintro e w ⟨l, rfl, hs⟩
  refine ⟨.pointer (some ⟨l, 0, none⟩), rfl, fun h => (by cases h), ?_⟩
  refine x_assign (.pointer _) rfl ?_
  refine x_nil ?_
  refine then_n ?_
  refine c_seq ?_
  -- region 2
  refine c_region ?_
  refine x_assign (.int _ _) rfl ?_
  refine x_nil ?_
  refine then_n ?_
  refine c_seq ?_
  refine c_seq ?_
  -- region 3
  refine c_region ?_
  refine x_assign (.int _ _) rfl ?_
  refine x_nil ?_
  refine then_n ?_
  refine c_block ?_
  refine c_loop (γ := GLB) (fun g => [(0, .slice a0 xs.length c0), (3, .pointer (some ⟨l, 0, none⟩)), (4, .int .u64 (g.st.upto : Nat)), (5, .int .i64 (g.i : Nat))]) (fun g w => g.i ≤ 200 ∧ g.st.inv ∧ g.st.upto + g.st.held.length ≤ g.i ∧ Sat w0 w (LObj l g.st :: [Init w0])) (fun g => 200 - g.i) ⟨0, LSt.new⟩ ⟨rfl, rfl, rfl, rfl, trivial⟩ ⟨Nat.zero_le _, LSt.new_inv, Nat.le_refl _, hs⟩ ?_
  clear hs
  rintro ⟨i, st⟩ ρ w ⟨hil, hinv, hub, hs⟩
  dsimp only at hil hinv hub hs
  change CW Try.prog 40 _ _ (sets 40 [(0, .slice a0 xs.length c0), (3, .pointer (some ⟨l, 0, none⟩)), (4, .int .u64 (st.upto : Nat)), (5, .int .i64 (i : Nat))] ρ) w
  by_cases h1 : i < xs.length
  by_cases h2 : i < 200
  · skip
    refine c_seq ?_
    refine c_seq ?_
    -- region 4
    refine c_region ?_
    refine x_move (.int _ _) rfl ?_
    refine x_move (.slice _ _ _) rfl ?_
    refine x_lenSl Try.underlying40 _ _ _ rfl ?_
    refine x_lssT _ _ rfl rfl (by omega) ?_
    refine x_move (.bool _) rfl ?_
    refine x_want' rfl ?_
    refine x_move (.int _ _) rfl ?_
    refine x_want' rfl ?_
    refine x_lssT _ _ rfl rfl (by omega) ?_
    refine x_pickT (.bool _) rfl rfl ?_
    refine x_nil ?_
    refine then_n ?_
    refine c_true rfl ?_
    refine c_skip ?_
    refine then_n ?_
    refine c_seq ?_
    refine c_block ?_
    refine c_seq ?_
    -- region 6
    obtain ⟨q, hq⟩ : ∃ q, xs[i]? = some q := ⟨xs[i]'h1, List.getElem?_eq_getElem _⟩
    have hq' : (xs.map fun n : Nat => Value.int .u64 (n : Nat))[i]? = some (.int .u64 (q : Nat)) := by rw [List.getElem?_map, hq]; rfl
    have hqb : q ≤ 18446744073709551615 := by have := hxs q (List.mem_of_getElem? hq); simp only [hi] at this; omega
    have hR := hin _ _ hs.tail
    obtain ⟨g, o, rfl⟩ := hR.addr (by omega)
    have hcell : w.cell? ⟨g, o + i * 1, none⟩ = some (.int .u64 (q : Nat)) := by rw [Nat.mul_one]; exact hR.cell hq'
    refine c_region ?_
    refine x_move (.pointer _) rfl ?_
    refine x_move (.slice _ _ _) rfl ?_
    refine x_move (.int _ _) rfl ?_
    refine x_indexAddr Try.underlying40 sz_26 _ _ _ _ _ rfl rfl (by omega) ?_
    refine x_load one_26 _ (.int _ _) rfl (by first | exact hs.cell rfl | exact (hs.pull 1).cell rfl | exact (hs.pull 2).cell rfl | exact (hs.pull 3).cell rfl | assumption | exact (hs.pull 4).cell rfl | exact (hs.pull 5).cell rfl | exact (hs.pull 6).cell rfl | exact (hs.pull 7).cell rfl) ?_
    refine x_call Try.f15 Try.func15 rfl rfl [.pointer (some ⟨l, 0, none⟩), .int .u64 (q : Nat), .slice none 0 0] rfl ?_
    have hti := st.take_inv q [] hinv
    refine (ltake_calls q [] hs (fun w' L' h => ⟨rfl, none, 0, rfl, Nat.le_refl _, fun _ => rfl, (fun _ h => nomatch h)⟩) (by decide) hqb (by omega) (by omega)).mono ?_
    generalize st.take q [] = T at hti
    obtain ⟨out, st'⟩ := T
    obtain ⟨hi1, hi2, hi3⟩ := hti
    dsimp only at hi1 hi2 hi3
    have hi1 : st'.inv := hi1
    have hi4 := LSt.inv_len hi1
    clear hs hR hcell; rintro e w ⟨r, rfl, hs⟩
    refine ⟨r, rfl, fun h => (by cases h), ?_⟩
    obtain ⟨a1, c1, rfl⟩ : ∃ a c, r = .slice a out.length c := hs.rbb.val
    have hs : Sat w0 w (LObj l st' :: Init w0 :: []) := hs.tail
    refine x_lenSl Try.underlying35 _ _ _ rfl ?_
    refine x_conv cv_3_26 _ rfl (by simp only [X.lo]; omega) (by simp only [X.hi]; omega) ?_
    refine x_assign (.int _ _) rfl ?_
    refine x_nil ?_
    refine then_n ?_
    refine c_seq ?_
    refine c_seq ?_
    -- region 7
    refine c_region ?_
    refine x_move (.pointer _) rfl ?_
    refine x_call Try.f17 Try.func17 rfl rfl [.pointer (some ⟨l, 0, none⟩)] rfl ?_
    refine (lupto_calls hs).mono ?_
    clear hs; rintro e w ⟨rfl, hs⟩
    refine ⟨.int .u64 (st'.upto : Nat), rfl, fun h => (by cases h), ?_⟩
    refine x_move (.int _ _) rfl ?_
    refine x_move (.int _ _) rfl ?_
    refine x_add _ _ rfl rfl (by simp only [X.lo]; omega) (by simp only [X.hi]; omega) ?_
    refine x_neqF _ _ rfl rfl (by omega) ?_
    refine x_move (.bool _) rfl ?_
    refine x_want' rfl ?_
    refine x_move (.pointer _) rfl ?_
    refine x_want' rfl ?_
    refine x_call Try.f18 Try.func18 rfl rfl [.pointer (some ⟨l, 0, none⟩)] rfl ?_
    refine (lheld_calls hs).mono ?_
    clear hs; rintro e w ⟨rfl, hs⟩
    refine ⟨.int .i64 (st'.held.length : Nat), rfl, fun h => (by cases h), ?_⟩
    refine x_want' rfl ?_
    refine x_gtrF _ _ rfl rfl (by omega) ?_
    refine x_pickF (.bool _) rfl rfl ?_
    refine x_nil ?_
    refine then_n ?_
    refine c_false rfl ?_
    refine c_skip ?_
    refine then_n ?_
    -- region 9
    refine c_region ?_
    refine x_move (.pointer _) rfl ?_
    refine x_call Try.f17 Try.func17 rfl rfl [.pointer (some ⟨l, 0, none⟩)] rfl ?_
    refine (lupto_calls hs).mono ?_
    clear hs; rintro e w ⟨rfl, hs⟩
    refine ⟨.int .u64 (st'.upto : Nat), rfl, fun h => (by cases h), ?_⟩
    refine x_assign (.int _ _) rfl ?_
    refine x_nil ?_
    refine inb_n ?_
    refine then_n ?_
    -- region 5
    refine c_region ?_
    refine x_move (.int _ _) rfl ?_
    refine x_add _ _ rfl rfl (by simp only [X.lo]; omega) (by simp only [X.hi]; omega) ?_
    refine x_assign (.int _ _) rfl ?_
    refine x_nil ?_
    refine then_n ?_
    exact ⟨⟨i + 1, st'⟩, ⟨rfl, rfl, rfl, rfl, trivial⟩, ⟨by dsimp only; omega, hi1, by dsimp only; omega, hs⟩, by dsimp only; omega⟩
  · skip
    refine c_seq ?_
    refine c_seq ?_
    -- region 4
    refine c_region ?_
    refine x_move (.int _ _) rfl ?_
    refine x_move (.slice _ _ _) rfl ?_
    refine x_lenSl Try.underlying40 _ _ _ rfl ?_
    refine x_lssT _ _ rfl rfl (by omega) ?_
    refine x_move (.bool _) rfl ?_
    refine x_want' rfl ?_
    refine x_move (.int _ _) rfl ?_
    refine x_want' rfl ?_
    refine x_lssF _ _ rfl rfl (by omega) ?_
    refine x_pickT (.bool _) rfl rfl ?_
    refine x_nil ?_
    refine then_n ?_
    refine c_false rfl ?_
    refine c_exit ?_
    refine then_x ?_
    refine then_x ?_
    refine inb_e ?_
    refine then_n ?_
    refine c_seq ?_
    -- region 10
    refine c_region ?_
    refine x_call Try.f13 Try.func13 rfl rfl [] rfl ?_
    refine (awake12_calls hs).mono ?_
    clear hs; rintro e w ⟨rfl, hs⟩
    refine ⟨.bool true, rfl, fun h => (by cases h), ?_⟩
    refine x_assign (.bool _) rfl ?_
    refine x_nil ?_
    refine then_n ?_
    refine c_ret ?_
    refine ⟨.inr rfl, ?_⟩
    exact ⟨rfl, hs.tail⟩
  · skip
    refine c_seq ?_
    refine c_seq ?_
    -- region 4
    refine c_region ?_
    refine x_move (.int _ _) rfl ?_
    refine x_move (.slice _ _ _) rfl ?_
    refine x_lenSl Try.underlying40 _ _ _ rfl ?_
    refine x_lssF _ _ rfl rfl (by omega) ?_
    refine x_move (.bool _) rfl ?_
    refine x_skip rfl rfl ?_
    refine x_skip rfl rfl ?_
    refine x_pickF (.bool _) rfl rfl ?_
    refine x_nil ?_
    refine then_n ?_
    refine c_false rfl ?_
    refine c_exit ?_
    refine then_x ?_
    refine then_x ?_
    refine inb_e ?_
    refine then_n ?_
    refine c_seq ?_
    -- region 10
    refine c_region ?_
    refine x_call Try.f13 Try.func13 rfl rfl [] rfl ?_
    refine (awake12_calls hs).mono ?_
    clear hs; rintro e w ⟨rfl, hs⟩
    refine ⟨.bool true, rfl, fun h => (by cases h), ?_⟩
    refine x_assign (.bool _) rfl ?_
    refine x_nil ?_
    refine then_n ?_
    refine c_ret ?_
    refine ⟨.inr rfl, ?_⟩
    exact ⟨rfl, hs.tail⟩
end Go.Proofs.Ytphakfggocdphaa.X
