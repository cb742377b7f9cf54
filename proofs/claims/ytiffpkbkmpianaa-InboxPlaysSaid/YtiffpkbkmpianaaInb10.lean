/-
  LAYER 23: the inbox and the document's play alike; the law InboxPlays.
-/
import Derived.Test.YtiffpkbkmpianaaInb7
namespace Go.Proofs.Ytiffpkbkmpianaa.X
open Go Go.RowKit
set_option linter.unusedVariables false
set_option maxRecDepth 20000
theorem Sat.eeNil {w0 w : World} {L : List HP} (hs : Sat w0 w L) : Sat w0 w (EE ([] : List WE) :: L) := hs.add (by unfold EE; trivial)
theorem Sat.riNew {w0 w : World} {f : Nat} {vm : Value} {L : List HP} (hs : Sat w0 w (Blk f (.cells #[vm, .slice none 0 0, .slice none 0 0] 52 (0, 0)) :: L)) : Sat w0 w (RI f vm [] [] :: L) := by
  have h := ((Sat.eeNil hs).rowNil (e := 54) (size := 4)).rowNil (e := 54) (size := 4)
  exact Sat.ri' (e := []) (dn := []) (h.pull 3)
theorem BInv.b7 {s : ISt} (h : BInv s) : ∀ x ∈ s.ws, x.2.length ≤ 1000000 := fun x hx => by have := h.small x hx; omega
/-- the two alike -/
structure IRel (s : ISt) (e : List WE) (dn : List Key) (D : VD) (i : Nat) : Prop where
  mem : s.mem = D.mem
  vw : s.vw = D.Id
  ws : s.ws = wsOf e
  last : ∀ p, getN s.last p = rLast dn p
  turn : s.turn = fromOf D.mem dn
  dnm : ∀ k ∈ dn, k.1 ∈ D.mem
  inv : BInv s
  le : e.length ≤ i
  ld : dn.length ≤ i
theorem IRel.start (D : VD) : IRel ⟨D.Id, D.mem, [], [], 0⟩ [] [] D 0 := ⟨rfl, rfl, rfl, fun p => rfl, rfl, (fun k h => nomatch h), BInv.start _ _, Nat.le_refl _, Nat.le_refl _⟩
theorem IRel.next {s : ISt} {e : List WE} {dn : List Key} {D : VD} {i : Nat} (h : IRel s e dn D i) : s.next = nextR D.mem (rLast dn) (wsOf e) (fromOf D.mem dn) := by
  unfold ISt.next
  rw [h.mem, h.ws, h.turn, show getN s.last = rLast dn from funext h.last]
theorem IRel.putC {s : ISt} {e : List WE} {dn : List Key} {D : VD} {i : Nat} (h : IRel s e dn D i) (p : Pid) (n : Nat) (d : List UInt8) : putC s p n d = rputC D.mem e dn p n d := by
  unfold X.putC rputC
  rw [h.mem, h.last, h.ws, wsOf_get]
  by_cases hk : (p, n) ∈ e.map (·.1)
  · obtain ⟨v, d', -, h2⟩ := wget hk
    rw [h2, if_pos hk, if_pos (show ((some (v, d')).map fun x : Value × List UInt8 => x.2).isSome = true from rfl)]
  · rw [mget_none' hk, if_neg hk, if_neg (show ¬ (((none : Option (Value × List UInt8)).map fun x : Value × List UInt8 => x.2).isSome = true) from fun h => by cases h)]
theorem IRel.put {s : ISt} {e : List WE} {dn : List Key} {D : VD} {i : Nat} (h : IRel s e dn D i) (p : Pid) (n : Nat) (d : List UInt8) (u : Value) : IRel (s.put p n d) (if rputC D.mem e dn p n d = 0 then e ++ [((p, n), u, d)] else e) dn D (i + 1) := by
  have hb := h.inv.put p n d
  have hle := h.le
  have hld := h.ld
  unfold ISt.put at hb ⊢
  rw [h.putC] at hb ⊢
  by_cases hc : rputC D.mem e dn p n d = 0
  · rw [if_pos hc] at hb ⊢
    rw [if_pos hc]
    exact ⟨h.mem, h.vw, by show s.ws ++ [((p, n), d)] = _; rw [h.ws]; simp [wsOf], h.last, h.turn, h.dnm, hb, by simp; omega, by omega⟩
  · rw [if_neg hc] at hb ⊢
    rw [if_neg hc]
    exact ⟨h.mem, h.vw, h.ws, h.last, h.turn, h.dnm, hb, by omega, by omega⟩
theorem IRel.ok {s : ISt} {e : List WE} {dn : List Key} {D : VD} {i : Nat} (h : IRel s e dn D i) (p : Pid) (n : Nat) : s.doneOk p n ↔ rdoneOk D.mem dn p n := by
  unfold ISt.doneOk rdoneOk
  rw [h.mem, h.last]
theorem wsDone_of (p : Pid) (n : Nat) : ∀ e : List WE, wsDone p n (wsOf e) = wsOf (weDone p n e)
  | [] => rfl
  | x :: e => by
    have ih := wsDone_of p n e
    unfold wsDone weDone wsOf at ih ⊢
    rw [List.map_cons]
    by_cases hx : decide (¬ bad p n x.1) = true
    · rw [List.filter_cons_of_pos (by exact hx), List.filter_cons_of_pos (by exact hx), List.map_cons, ih]
    · rw [List.filter_cons_of_neg (by exact hx), List.filter_cons_of_neg (by exact hx), ih]
theorem IRel.done {s : ISt} {e : List WE} {dn : List Key} {D : VD} {i : Nat} (h : IRel s e dn D i) (p : Pid) (n : Nat) : IRel (s.done p n) (if rdoneOk D.mem dn p n then weDone p n e else e) (if rdoneOk D.mem dn p n then dn ++ [(p, n)] else dn) D (i + 1) := by
  have hb := h.inv.done p n
  have hle := h.le
  have hld := h.ld
  unfold ISt.done at hb ⊢
  by_cases hc : rdoneOk D.mem dn p n
  · have hc' := (h.ok p n).2 hc
    rw [if_pos hc'] at hb ⊢
    rw [if_pos hc, if_pos hc]
    refine ⟨h.mem, h.vw, by show wsDone p n s.ws = _; rw [h.ws, wsDone_of], fun q => ?_, ?_, fun k hk => ?_, hb, by have := weDone_len p n e; omega, by simp; omega⟩
    · show getN (mset p n s.last) q = _
      rw [getN_set, rLast_snoc]
      by_cases hq : q = p
      · rw [if_pos hq, if_pos hq.symm]
      · rw [if_neg hq, if_neg (fun e => hq e.symm)]
        exact h.last q
    · show s.mem.idxOf p + 1 = _
      unfold fromOf
      rw [List.getLast?_append, List.getLast?_singleton, h.mem]
      rfl
    · rcases List.mem_append.1 hk with hk | hk
      · exact h.dnm k hk
      · simp at hk; subst hk; exact hc.1
  · have hc' := fun x => hc ((h.ok p n).1 x)
    rw [if_neg hc'] at hb ⊢
    rw [if_neg hc, if_neg hc]
    exact ⟨h.mem, h.vw, h.ws, h.last, h.turn, h.dnm, hb, by omega, by omega⟩
theorem nextR_len {mem : List Pid} {A : Pid → Nat} {ws : List (Key × List UInt8)} {turn : Nat} (h : ∀ x ∈ ws, x.2.length ≤ 200) : (nextR mem A ws turn).d.length ≤ 200 := by
  unfold nextR
  split
  · simp
  · rename_i i hi
    dsimp only
    cases hg : mget (cand mem A turn i) ws with
    | none => simp
    | some d => exact h _ (mget_mem hg)
theorem IRel.len {s : ISt} {e : List WE} {dn : List Key} {D : VD} {i : Nat} (h : IRel s e dn D i) {r : NR} (hr : r = nextR D.mem (rLast dn) (wsOf e) (fromOf D.mem dn)) : r.d.length ≤ 200 := by
  rw [hr, ← h.ws]
  exact nextR_len h.inv.small
/-! ### the calls -/
theorem put_same {w0 w : World} {A : HP} {L : List HP} {f : Nat} {s : ISt} {e : List WE} {dn : List Key} {D : VD} {i : Nat} (p : Pid) (n : Nat) {v : Value} {d : List UInt8} (hs : Sat w0 w (IO f s :: A :: L)) (h : IRel s e dn D i) (hd : ∀ w' L', Sat w0 w' (A :: L') → RB w' v d) (hm : D.mem.length ≤ 40) (hl : d.length ≤ 1000000) (hn64 : n ≤ 18446744073709551615) :
    Calls Try.prog 11 #[.pointer (some ⟨f, 0, none⟩), .agg #[.int .u16 (p.Id : Nat), .int .u32 (p.Inc : Nat)], .int .u64 (n : Nat), v] w fun e' w' => e' = .returned (.int .i64 (rputC D.mem e dn p n d : Nat)) ∧ Sat w0 w' (IO f (s.put p n d) :: A :: L) := by
  rw [← h.putC]
  exact iput_calls p n hs hd (by rw [h.mem]; omega) hl hn64
theorem done_same {w0 w : World} {L : List HP} {f : Nat} {s : ISt} {e : List WE} {dn : List Key} {D : VD} {i : Nat} (p : Pid) (n : Nat) (hs : Sat w0 w (IO f s :: L)) (h : IRel s e dn D i) (hm : D.mem.length ≤ 40) :
    Calls Try.prog 13 #[.pointer (some ⟨f, 0, none⟩), .agg #[.int .u16 (p.Id : Nat), .int .u32 (p.Inc : Nat)], .int .u64 (n : Nat)] w fun e' w' => e' = .returned (.bool (decide (rdoneOk D.mem dn p n))) ∧ Sat w0 w' (IO f (s.done p n) :: L) := by
  rw [← show decide (s.doneOk p n) = decide (rdoneOk D.mem dn p n) from by simp only [h.ok]]
  exact idone_calls p n hs (by rw [h.mem]; omega)
theorem len_same {w0 w : World} {L : List HP} {f : Nat} {s : ISt} {e : List WE} {dn : List Key} {D : VD} {i : Nat} (hs : Sat w0 w (IO f s :: L)) (h : IRel s e dn D i) :
    Calls Try.prog 14 #[.pointer (some ⟨f, 0, none⟩)] w fun e' w' => e' = .returned (.int .i64 (e.length : Nat)) ∧ Sat w0 w' (IO f s :: L) := by
  rw [show e.length = s.ws.length from by rw [h.ws]; simp]
  exact ilen_calls hs
theorem last_same {w0 w : World} {L : List HP} {f : Nat} {s : ISt} {e : List WE} {dn : List Key} {D : VD} {i : Nat} (p : Pid) (hs : Sat w0 w (IO f s :: L)) (h : IRel s e dn D i) :
    Calls Try.prog 20 #[.pointer (some ⟨f, 0, none⟩), .agg #[.int .u16 (p.Id : Nat), .int .u32 (p.Inc : Nat)]] w fun e' w' => e' = .returned (.int .u64 (rLast dn p : Nat)) ∧ Sat w0 w' (IO f s :: L) := by
  rw [← h.last]
  exact ilast_calls p hs
theorem view_same {w0 w : World} {L : List HP} {f : Nat} {s : ISt} {e : List WE} {dn : List Key} {D : VD} {i : Nat} (hs : Sat w0 w (IO f s :: L)) (h : IRel s e dn D i) :
    Calls Try.prog 22 #[.pointer (some ⟨f, 0, none⟩)] w fun e' w' => e' = .returned (.int .u64 (D.Id : Nat)) ∧ Sat w0 w' (IO f s :: L) := by
  rw [← h.vw]
  exact iview_calls hs
theorem next_same {w0 w : World} {L : List HP} {f : Nat} {s : ISt} {e : List WE} {dn : List Key} {D : VD} {i : Nat} (r : NR) (hs : Sat w0 w (IO f s :: L)) (h : IRel s e dn D i) (hm : D.mem.length ≤ 40) (hr : r = nextR D.mem (rLast dn) (wsOf e) (fromOf D.mem dn)) :
    Calls Try.prog 12 #[.pointer (some ⟨f, 0, none⟩)] w fun e' w' => ∃ a c, e' = .returned (.tuple #[.agg #[.int .u16 (r.p.Id : Nat), .int .u32 (r.p.Inc : Nat)], .int .u64 (r.n : Nat), .slice a r.d.length c, .bool r.ok]) ∧ Sat w0 w' (BR (.slice a r.d.length c) r.d :: IO f s :: L) :=
  next_is r hs (by rw [h.mem]; omega) (by have := h.inv.turn; rw [h.mem] at this; omega) h.inv.b7 (by rw [h.next, hr])
theorem eqSame_calls {w0 w : World} {L : List HP} {v1 v2 : Value} {l : List UInt8} (hs : Sat w0 w L) (h1 : RB w v1 l) (h2 : RB w v2 l) (hlen : l.length ≤ 1000000000000) :
    Calls Try.prog 19 #[v1, v2] w fun e w' => e = .returned (.bool true) ∧ Sat w0 w' L := by
  refine (eq01_calls hs h1 h2 hlen).mono fun e w' ⟨h1, h2, h3⟩ => ⟨?_, h2⟩
  rw [h1, decide_eq_true rfl]
set_option maxHeartbeats 1000000 in
theorem rlast2_calls {w0 w : World} {L : List HP} {f : Nat} {vm : Value} {e : List WE} {dn : List Key} {a c a' c'} (p : Pid) (hs : Sat w0 w (Blk f (.cells #[vm, .slice a e.length c, .slice a' dn.length c'] 52 (0, 0)) :: Row 54 4 (.slice a e.length c) e.length (wcells e) :: Row 54 4 (.slice a' dn.length c') dn.length (dcells dn) :: EE e :: L)) (hl : dn.length ≤ 1000000) :
    Calls Try.prog 21 #[.pointer (some ⟨f, 0, none⟩), .agg #[.int .u16 (p.Id : Nat), .int .u32 (p.Inc : Nat)]] w fun e' w' => e' = .returned (.int .u64 (rLast dn p : Nat)) ∧ Sat w0 w' (Blk f (.cells #[vm, .slice a e.length c, .slice a' dn.length c'] 52 (0, 0)) :: Row 54 4 (.slice a e.length c) e.length (wcells e) :: Row 54 4 (.slice a' dn.length c') dn.length (dcells dn) :: EE e :: L) := by
  refine enter Try.func21 rfl Try.ntmps21 4 rfl (Nat.le_of_ble_eq_true rfl) ?_
  refine c_seq ?_
  -- region 0
  refine c_region ?_
  refine x_box hs (.agg #[_, _]) rfl ?_; clear hs; intro b3 w hs; refine ⟨fun h => (by first | (cases h; done) | (first | exact hs.cells2 rfl rfl | exact (hs.pull 1).cells2 rfl rfl | exact (hs.pull 2).cells2 rfl rfl | exact (hs.pull 3).cells2 rfl rfl | exact (hs.pull 4).cells2 rfl rfl | exact (hs.pull 5).cells2 rfl rfl | exact (hs.pull 6).cells2 rfl rfl | exact (hs.pull 7).cells2 rfl rfl | exact (hs.pull 8).cells2 rfl rfl | exact hs.cell rfl | exact (hs.pull 1).cell rfl | exact (hs.pull 2).cell rfl | exact (hs.pull 3).cell rfl | exact (hs.pull 4).cell rfl | exact (hs.pull 5).cell rfl | exact (hs.pull 6).cell rfl | exact (hs.pull 7).cell rfl | exact (hs.pull 8).cell rfl | assumption | exact hs.cellsOf | exact (hs.pull 1).cellsOf | exact (hs.pull 2).cellsOf | exact (hs.pull 3).cellsOf | exact (hs.pull 4).cellsOf | exact (hs.pull 5).cellsOf | exact (hs.pull 6).cellsOf | exact (hs.pull 7).cellsOf | exact (hs.pull 8).cellsOf) | (and_intros <;> first | exact hs.cells2 rfl rfl | exact (hs.pull 1).cells2 rfl rfl | exact (hs.pull 2).cells2 rfl rfl | exact (hs.pull 3).cells2 rfl rfl | exact (hs.pull 4).cells2 rfl rfl | exact (hs.pull 5).cells2 rfl rfl | exact (hs.pull 6).cells2 rfl rfl | exact (hs.pull 7).cells2 rfl rfl | exact (hs.pull 8).cells2 rfl rfl | exact hs.cell rfl | exact (hs.pull 1).cell rfl | exact (hs.pull 2).cell rfl | exact (hs.pull 3).cell rfl | exact (hs.pull 4).cell rfl | exact (hs.pull 5).cell rfl | exact (hs.pull 6).cell rfl | exact (hs.pull 7).cell rfl | exact (hs.pull 8).cell rfl | assumption | exact hs.cellsOf | exact (hs.pull 1).cellsOf | exact (hs.pull 2).cellsOf | exact (hs.pull 3).cellsOf | exact (hs.pull 4).cellsOf | exact (hs.pull 5).cellsOf | exact (hs.pull 6).cellsOf | exact (hs.pull 7).cellsOf | exact (hs.pull 8).cellsOf)), ?_⟩
  refine x_assign (.int _ _) rfl ?_
  refine x_nil ?_
  refine then_n ?_
  refine c_seq ?_
  -- region 1
  refine c_region ?_
  refine x_assign (.int _ _) rfl ?_
  refine x_nil ?_
  refine then_n ?_
  refine c_seq ?_
  refine c_seq ?_
  -- region 2
  refine c_region ?_
  refine x_assign (.int _ _) rfl ?_
  refine x_nil ?_
  refine then_n ?_
  refine c_block ?_
  refine c_loop (γ := Nat) (fun (i : Nat) => [(0, .pointer (some ⟨f, 0, none⟩)), (3, .pointer (some ⟨b3, 0, none⟩)), (5, .int .u64 (rLast (dn.take i) p : Nat)), (6, .int .i64 (i : Nat))]) (fun (i : Nat) w => i ≤ dn.length ∧ Sat w0 w (Blk b3 (.cells #[.int .u16 (p.Id : Nat), .int .u32 (p.Inc : Nat)] 35 (0, 0)) :: Blk f (.cells #[vm, .slice a e.length c, .slice a' dn.length c'] 52 (0, 0)) :: Row 54 4 (.slice a e.length c) e.length (wcells e) :: Row 54 4 (.slice a' dn.length c') dn.length (dcells dn) :: EE e :: L)) (fun (i : Nat) => dn.length - i) 0 ⟨rfl, rfl, rfl, rfl, trivial⟩ ⟨Nat.zero_le _, hs⟩ ?_
  clear hs
  rintro i ρ w ⟨hi, hs⟩
  change CW Try.prog 35 _ _ (sets 35 [(0, .pointer (some ⟨f, 0, none⟩)), (3, .pointer (some ⟨b3, 0, none⟩)), (5, .int .u64 (rLast (dn.take i) p : Nat)), (6, .int .i64 (i : Nat))] ρ) w
  refine c_seq ?_
  refine c_seq ?_
  -- region 3
  refine c_region ?_
  refine x_move (.int _ _) rfl ?_
  refine x_move (.pointer _) rfl ?_
  refine x_nilCheck _ rfl ?_
  first | refine x_field0 fa_52_2 _ rfl ?_ | refine x_field fa_52_2 _ _ rfl ?_
  refine x_load one_50 _ (.slice _ _ _) rfl (by first | exact hs.cell rfl | exact (hs.pull 1).cell rfl | exact (hs.pull 2).cell rfl | exact (hs.pull 3).cell rfl | assumption | exact (hs.pull 4).cell rfl | exact (hs.pull 5).cell rfl | exact (hs.pull 6).cell rfl | exact (hs.pull 7).cell rfl) ?_
  refine x_lenSl Try.underlying50 _ _ _ rfl ?_
  refine x_lss _ _ rfl rfl ?_
  refine x_nil ?_
  refine then_n ?_
  refine c_test _ rfl (fun hb => ?_) (fun hb => ?_)   -- cond t13
  · skip
    refine c_skip ?_
    refine then_n ?_
    refine c_seq ?_
    refine c_block ?_
    refine c_seq ?_
    -- region 5 DRAWS
    obtain ⟨⟨q, m⟩, hy⟩ : ∃ y, dn[i]? = some y := ⟨dn[i]'(by omega), List.getElem?_eq_getElem _⟩
    obtain ⟨g, o, rfl⟩ := (hs.pull 3).rowAddr (by omega)
    have hon := rLast_snoc (dn.take i) (q, m) p
    rw [show dn.take i ++ [(q, m)] = dn.take (i + 1) from by rw [List.take_add_one, hy]; rfl] at hon
    dsimp only at hon
    refine c_draw (fun w => w.cell? ⟨f, 2, none⟩ = some (.slice (some ⟨g, o, none⟩) dn.length c') ∧ (∀ (j : Nat) (u : Value), [Value.int .u16 (q.Id : Nat), Value.int .u32 (q.Inc : Nat)][j]? = some u → w.cell? ((⟨g, o + i * 4, none⟩ : Addr).add j) = some u) ∧ (∀ (j : Nat) (u : Value), [Value.int .u16 (p.Id : Nat), Value.int .u32 (p.Inc : Nat)][j]? = some u → w.cell? ((⟨b3, 0, none⟩ : Addr).add j) = some u)) (fun i => !(false)) [(0, 2), (1, 2), (2, 2), (3, 1), (4, 2), (5, 2), (6, 2), (7, 1), (8, 1), (9, 2)] (by kernel_rfl) (by kernel_rfl) (by kernel_rfl) (by kernel_rfl) (⟨(hs.drew.pull 1).cell rfl, (hs.drew.pull 3).drs.dP hy, hs.drew.cellsOf⟩) ?_
    replace hs := hs.drew
    refine x_move (.pointer _) rfl ?_
    refine x_nilCheck _ rfl ?_
    first | refine x_field0 fa_52_2 _ rfl ?_ | refine x_field fa_52_2 _ _ rfl ?_
    refine h_load one_50 _ (.slice _ _ _) rfl (fun w hS => by first | exact hS.cell rfl | exact (hS.pull 1).cell rfl | exact (hS.pull 2).cell rfl | exact (hS.pull 3).cell rfl | exact (hS.pull 4).cell rfl | exact (hS.pull 5).cell rfl | exact (hS.pull 6).cell rfl | exact hS | exact hS.1 | exact hS.2 | exact hS.2.1 | exact hS.2.2 | exact hS.2.2.1 | exact hS.2.2.2 | exact hS.2.2.2.1 | exact hS.2.2.2.2 | exact hS.2.2.2.2.1 | exact hS.2.2.2.2.2) ?_
    refine x_move (.int _ _) rfl ?_
    refine x_indexAddr Try.underlying50 sz_54 _ _ _ _ _ rfl rfl (by omega) ?_
    first | refine x_field0 fa_54_0 _ rfl ?_ | refine x_field fa_54_0 _ _ rfl ?_
    refine h_loadN [_, _] agg_35 _ rfl (fun w hS => by first | exact hS | exact hS.1 | exact hS.2 | exact hS.2.1 | exact hS.2.2 | exact hS.2.2.1 | exact hS.2.2.2 | exact hS.2.2.2.1 | exact hS.2.2.2.2 | exact hS.2.2.2.2.1 | exact hS.2.2.2.2.2 | exact hS.cellsOf | exact (hS.pull 1).cellsOf | exact (hS.pull 2).cellsOf | exact (hS.pull 3).cellsOf | exact (hS.pull 4).cellsOf | exact (hS.pull 5).cellsOf | exact (hS.pull 6).cellsOf | exact hS.cells2 rfl rfl | exact (hS.pull 1).cells2 rfl rfl | exact (hS.pull 2).cells2 rfl rfl | exact (hS.pull 3).cells2 rfl rfl | exact (hS.pull 4).cells2 rfl rfl | exact (hS.pull 5).cells2 rfl rfl | exact (hS.pull 6).cells2 rfl rfl) ?_
    refine h_loadN [_, _] agg_35 _ rfl (fun w hS => by first | exact hS | exact hS.1 | exact hS.2 | exact hS.2.1 | exact hS.2.2 | exact hS.2.2.1 | exact hS.2.2.2 | exact hS.2.2.2.1 | exact hS.2.2.2.2 | exact hS.2.2.2.2.1 | exact hS.2.2.2.2.2 | exact hS.cellsOf | exact (hS.pull 1).cellsOf | exact (hS.pull 2).cellsOf | exact (hS.pull 3).cellsOf | exact (hS.pull 4).cellsOf | exact (hS.pull 5).cellsOf | exact (hS.pull 6).cellsOf | exact hS.cells2 rfl rfl | exact (hS.pull 1).cells2 rfl rfl | exact (hS.pull 2).cells2 rfl rfl | exact (hS.pull 3).cells2 rfl rfl | exact (hS.pull 4).cells2 rfl rfl | exact (hS.pull 5).cells2 rfl rfl | exact (hS.pull 6).cells2 rfl rfl) ?_
    refine x_eqlE eq_pid q p rfl rfl ?_
    refine x_nil ?_
    refine then_n ?_
    refine c_cond rfl (fun hb => ?_) (fun hb => ?_)   -- cond t25
    · skip
      -- region 6
      have hcn := (hs.pull 3).drs.dN hy
      dsimp only at hcn
      rw [if_pos (by simpa using hb)] at hon
      refine c_region ?_
      refine x_move (.pointer _) rfl ?_
      refine x_nilCheck _ rfl ?_
      first | refine x_field0 fa_52_2 _ rfl ?_ | refine x_field fa_52_2 _ _ rfl ?_
      refine x_load one_50 _ (.slice _ _ _) rfl (by first | exact hs.cell rfl | exact (hs.pull 1).cell rfl | exact (hs.pull 2).cell rfl | exact (hs.pull 3).cell rfl | assumption | exact (hs.pull 4).cell rfl | exact (hs.pull 5).cell rfl | exact (hs.pull 6).cell rfl | exact (hs.pull 7).cell rfl) ?_
      refine x_move (.int _ _) rfl ?_
      refine x_indexAddr Try.underlying50 sz_54 _ _ _ _ _ rfl rfl (by omega) ?_
      first | refine x_field0 fa_54_1 _ rfl ?_ | refine x_field fa_54_1 _ _ rfl ?_
      refine x_load one_22 _ (.int _ _) rfl (by first | exact hs.cell rfl | exact (hs.pull 1).cell rfl | exact (hs.pull 2).cell rfl | exact (hs.pull 3).cell rfl | assumption | exact (hs.pull 4).cell rfl | exact (hs.pull 5).cell rfl | exact (hs.pull 6).cell rfl | exact (hs.pull 7).cell rfl) ?_
      refine x_assign (.int _ _) rfl ?_
      refine x_nil ?_
      refine inb_n ?_
      refine then_n ?_
      -- region 4
      refine c_region ?_
      refine x_move (.int _ _) rfl ?_
      refine x_add _ _ rfl rfl (by simp only [X.lo]; omega) (by simp only [X.hi]; omega) ?_
      refine x_assign (.int _ _) rfl ?_
      refine x_nil ?_
      refine then_n ?_
      rw [← hon]
      refine ⟨i + 1, ⟨rfl, rfl, rfl, rfl, trivial⟩, ⟨by omega, hs⟩, by first | omega | (dsimp only; omega)⟩
    · skip
      refine c_skip ?_
      refine inb_n ?_
      refine then_n ?_
      -- region 4
      refine c_region ?_
      refine x_move (.int _ _) rfl ?_
      refine x_add _ _ rfl rfl (by simp only [X.lo]; omega) (by simp only [X.hi]; omega) ?_
      refine x_assign (.int _ _) rfl ?_
      refine x_nil ?_
      refine then_n ?_
      rw [if_neg (by simpa using hb)] at hon
      rw [← hon]
      refine ⟨i + 1, ⟨rfl, rfl, rfl, rfl, trivial⟩, ⟨by omega, hs⟩, by first | omega | (dsimp only; omega)⟩
  · skip
    refine c_exit ?_
    refine then_x ?_
    refine then_x ?_
    refine inb_e ?_
    refine then_n ?_
    refine c_seq ?_
    -- region 7
    refine c_region ?_
    refine x_move (.int _ _) rfl ?_
    refine x_assign (.int _ _) rfl ?_
    refine x_nil ?_
    refine then_n ?_
    refine c_ret ?_
    refine ⟨.inr rfl, ?_⟩
    rw [List.take_of_length_le (by omega)]
    exact ⟨rfl, hs.tail⟩
set_option maxHeartbeats 4000000 in
theorem walk_InboxPlays {H : Type} {enc : TypeId × Value → H} {w0 : World} {cs0 : Array Value} {a1 : Option Addr} {l1 c1 : Nat} (h0 : TR enc Try.prog w0 26 cs0.toList) (h1 : TR enc Try.prog w0 44 [.slice a1 l1 c1]) :
    Calls Try.prog 5 #[.agg cs0, .slice a1 l1 c1] w0 fun e w' => e = .returned (.bool true) ∧ Below w0.heap.size w0 w' := by
  obtain ⟨D, rfl, hdl, hin, hid⟩ := TR.viewD h0
  obtain ⟨acts, rfl, hrd, hlen, hfa⟩ := TR.arg (k := 5) Try.underlying44 (by kernel_rfl) (by decide) (fun r hr => TR.Act23 hr) h1
  refine law_of fun w hs => ?_
  have hina : ∀ w' L', Sat w0 w' (Init w0 :: L') → RS w' 5 Act23.cells (.slice a1 acts.length c1) acts := fun w' L' h => hrd.below h.init
  have hrm : ∀ w' L', Sat w0 w' (Init w0 :: L') → RS w' 2 Pid.cells (.slice D.am D.mem.length D.cm) D.mem := fun w' L' h => (hin w' L' h).m
  clear h0 h1 hrd
  refine enter Try.func5 rfl Try.ntmps5 4 rfl (Nat.le_of_ble_eq_true rfl) ?_
  refine c_seq ?_
  -- region 0
  refine c_region ?_
  refine x_box hs (.agg #[_, _, _, _]) rfl ?_; clear hs; intro b2 w hs; refine ⟨fun h => (by first | (cases h; done) | (first | exact hs.cells2 rfl rfl | exact (hs.pull 1).cells2 rfl rfl | exact (hs.pull 2).cells2 rfl rfl | exact (hs.pull 3).cells2 rfl rfl | exact (hs.pull 4).cells2 rfl rfl | exact (hs.pull 5).cells2 rfl rfl | exact (hs.pull 6).cells2 rfl rfl | exact (hs.pull 7).cells2 rfl rfl | exact (hs.pull 8).cells2 rfl rfl | exact hs.cell rfl | exact (hs.pull 1).cell rfl | exact (hs.pull 2).cell rfl | exact (hs.pull 3).cell rfl | exact (hs.pull 4).cell rfl | exact (hs.pull 5).cell rfl | exact (hs.pull 6).cell rfl | exact (hs.pull 7).cell rfl | exact (hs.pull 8).cell rfl | assumption | exact hs.cellsOf | exact (hs.pull 1).cellsOf | exact (hs.pull 2).cellsOf | exact (hs.pull 3).cellsOf | exact (hs.pull 4).cellsOf | exact (hs.pull 5).cellsOf | exact (hs.pull 6).cellsOf | exact (hs.pull 7).cellsOf | exact (hs.pull 8).cellsOf) | (and_intros <;> first | exact hs.cells2 rfl rfl | exact (hs.pull 1).cells2 rfl rfl | exact (hs.pull 2).cells2 rfl rfl | exact (hs.pull 3).cells2 rfl rfl | exact (hs.pull 4).cells2 rfl rfl | exact (hs.pull 5).cells2 rfl rfl | exact (hs.pull 6).cells2 rfl rfl | exact (hs.pull 7).cells2 rfl rfl | exact (hs.pull 8).cells2 rfl rfl | exact hs.cell rfl | exact (hs.pull 1).cell rfl | exact (hs.pull 2).cell rfl | exact (hs.pull 3).cell rfl | exact (hs.pull 4).cell rfl | exact (hs.pull 5).cell rfl | exact (hs.pull 6).cell rfl | exact (hs.pull 7).cell rfl | exact (hs.pull 8).cell rfl | assumption | exact hs.cellsOf | exact (hs.pull 1).cellsOf | exact (hs.pull 2).cellsOf | exact (hs.pull 3).cellsOf | exact (hs.pull 4).cellsOf | exact (hs.pull 5).cellsOf | exact (hs.pull 6).cellsOf | exact (hs.pull 7).cellsOf | exact (hs.pull 8).cellsOf)), ?_⟩
  refine x_assign (.bool _) rfl ?_
  refine x_nil ?_
  refine then_n ?_
  refine c_seq ?_
  refine c_seq ?_
  -- region 1
  refine c_region ?_
  refine x_loadN [_, _, _, _] agg_26 _ rfl (by first | assumption | exact hs.cellsOf | exact (hs.pull 1).cellsOf | exact (hs.pull 2).cellsOf | exact (hs.pull 3).cellsOf | exact (hs.pull 4).cellsOf | exact (hs.pull 5).cellsOf | exact (hs.pull 6).cellsOf | exact (hs.pull 7).cellsOf | exact (hs.pull 8).cellsOf | exact hs.cells2 rfl rfl | exact (hs.pull 1).cells2 rfl rfl | exact (hs.pull 2).cells2 rfl rfl | exact (hs.pull 3).cells2 rfl rfl | exact (hs.pull 4).cells2 rfl rfl | exact (hs.pull 5).cells2 rfl rfl | exact (hs.pull 6).cells2 rfl rfl | exact (hs.pull 7).cells2 rfl rfl | exact (hs.pull 8).cells2 rfl rfl) ?_
  refine x_call Try.f7 Try.func7 rfl rfl _ rfl ?_
  refine (great_d (hs.pull 1) hin hdl).mono ?_
  clear hs; rintro e w ⟨r, rfl, hs, hsm⟩
  replace hs := hs.push 1
  try dsimp only [back] at hs
  refine ⟨_, rfl, fun h => (by first | (cases h; done) | (first | exact hs.cells2 rfl rfl | exact (hs.pull 1).cells2 rfl rfl | exact (hs.pull 2).cells2 rfl rfl | exact (hs.pull 3).cells2 rfl rfl | exact (hs.pull 4).cells2 rfl rfl | exact (hs.pull 5).cells2 rfl rfl | exact (hs.pull 6).cells2 rfl rfl | exact (hs.pull 7).cells2 rfl rfl | exact (hs.pull 8).cells2 rfl rfl | exact hs.cell rfl | exact (hs.pull 1).cell rfl | exact (hs.pull 2).cell rfl | exact (hs.pull 3).cell rfl | exact (hs.pull 4).cell rfl | exact (hs.pull 5).cell rfl | exact (hs.pull 6).cell rfl | exact (hs.pull 7).cell rfl | exact (hs.pull 8).cell rfl | assumption | exact hs.cellsOf | exact (hs.pull 1).cellsOf | exact (hs.pull 2).cellsOf | exact (hs.pull 3).cellsOf | exact (hs.pull 4).cellsOf | exact (hs.pull 5).cellsOf | exact (hs.pull 6).cellsOf | exact (hs.pull 7).cellsOf | exact (hs.pull 8).cellsOf) | (and_intros <;> first | exact hs.cells2 rfl rfl | exact (hs.pull 1).cells2 rfl rfl | exact (hs.pull 2).cells2 rfl rfl | exact (hs.pull 3).cells2 rfl rfl | exact (hs.pull 4).cells2 rfl rfl | exact (hs.pull 5).cells2 rfl rfl | exact (hs.pull 6).cells2 rfl rfl | exact (hs.pull 7).cells2 rfl rfl | exact (hs.pull 8).cells2 rfl rfl | exact hs.cell rfl | exact (hs.pull 1).cell rfl | exact (hs.pull 2).cell rfl | exact (hs.pull 3).cell rfl | exact (hs.pull 4).cell rfl | exact (hs.pull 5).cell rfl | exact (hs.pull 6).cell rfl | exact (hs.pull 7).cell rfl | exact (hs.pull 8).cell rfl | assumption | exact hs.cellsOf | exact (hs.pull 1).cellsOf | exact (hs.pull 2).cellsOf | exact (hs.pull 3).cellsOf | exact (hs.pull 4).cellsOf | exact (hs.pull 5).cellsOf | exact (hs.pull 6).cellsOf | exact (hs.pull 7).cellsOf | exact (hs.pull 8).cellsOf)), ?_⟩
  rcases r with _ | _
  · skip
    refine x_move (.bool _) rfl ?_
    refine x_want' rfl ?_
    refine x_loadN [_, _, _, _] agg_26 _ rfl (by first | assumption | exact hs.cellsOf | exact (hs.pull 1).cellsOf | exact (hs.pull 2).cellsOf | exact (hs.pull 3).cellsOf | exact (hs.pull 4).cellsOf | exact (hs.pull 5).cellsOf | exact (hs.pull 6).cellsOf | exact (hs.pull 7).cellsOf | exact (hs.pull 8).cellsOf | exact hs.cells2 rfl rfl | exact (hs.pull 1).cells2 rfl rfl | exact (hs.pull 2).cells2 rfl rfl | exact (hs.pull 3).cells2 rfl rfl | exact (hs.pull 4).cells2 rfl rfl | exact (hs.pull 5).cells2 rfl rfl | exact (hs.pull 6).cells2 rfl rfl | exact (hs.pull 7).cells2 rfl rfl | exact (hs.pull 8).cells2 rfl rfl) ?_
    refine x_want' rfl ?_
    refine x_call Try.f8 Try.func8 rfl rfl _ rfl ?_
    refine (check_d (hs.pull 1) hin (hsm rfl) hid).mono ?_
    clear hs; rintro e w ⟨r, rfl, hs, -⟩
    replace hs := hs.push 1
    try dsimp only [back] at hs
    refine ⟨_, rfl, fun h => (by first | (cases h; done) | (first | exact hs.cells2 rfl rfl | exact (hs.pull 1).cells2 rfl rfl | exact (hs.pull 2).cells2 rfl rfl | exact (hs.pull 3).cells2 rfl rfl | exact (hs.pull 4).cells2 rfl rfl | exact (hs.pull 5).cells2 rfl rfl | exact (hs.pull 6).cells2 rfl rfl | exact (hs.pull 7).cells2 rfl rfl | exact (hs.pull 8).cells2 rfl rfl | exact hs.cell rfl | exact (hs.pull 1).cell rfl | exact (hs.pull 2).cell rfl | exact (hs.pull 3).cell rfl | exact (hs.pull 4).cell rfl | exact (hs.pull 5).cell rfl | exact (hs.pull 6).cell rfl | exact (hs.pull 7).cell rfl | exact (hs.pull 8).cell rfl | assumption | exact hs.cellsOf | exact (hs.pull 1).cellsOf | exact (hs.pull 2).cellsOf | exact (hs.pull 3).cellsOf | exact (hs.pull 4).cellsOf | exact (hs.pull 5).cellsOf | exact (hs.pull 6).cellsOf | exact (hs.pull 7).cellsOf | exact (hs.pull 8).cellsOf) | (and_intros <;> first | exact hs.cells2 rfl rfl | exact (hs.pull 1).cells2 rfl rfl | exact (hs.pull 2).cells2 rfl rfl | exact (hs.pull 3).cells2 rfl rfl | exact (hs.pull 4).cells2 rfl rfl | exact (hs.pull 5).cells2 rfl rfl | exact (hs.pull 6).cells2 rfl rfl | exact (hs.pull 7).cells2 rfl rfl | exact (hs.pull 8).cells2 rfl rfl | exact hs.cell rfl | exact (hs.pull 1).cell rfl | exact (hs.pull 2).cell rfl | exact (hs.pull 3).cell rfl | exact (hs.pull 4).cell rfl | exact (hs.pull 5).cell rfl | exact (hs.pull 6).cell rfl | exact (hs.pull 7).cell rfl | exact (hs.pull 8).cell rfl | assumption | exact hs.cellsOf | exact (hs.pull 1).cellsOf | exact (hs.pull 2).cellsOf | exact (hs.pull 3).cellsOf | exact (hs.pull 4).cellsOf | exact (hs.pull 5).cellsOf | exact (hs.pull 6).cellsOf | exact (hs.pull 7).cellsOf | exact (hs.pull 8).cellsOf)), ?_⟩
    refine x_want' rfl ?_
    refine x_eqlB _ _ Try.underlying4 rfl rfl ?_
    refine x_pickF (.bool _) rfl rfl ?_
    refine x_nil ?_
    refine then_n ?_
    refine c_cond rfl (fun hb => ?_) (fun hb => ?_)   -- cond t22
    · skip
      refine c_seq ?_
      -- region 2
      refine c_region ?_
      refine x_call Try.f9 Try.func9 rfl rfl _ rfl ?_
      refine (awake23_calls hs).mono ?_
      clear hs; rintro e w ⟨rfl, hs⟩
      refine ⟨_, rfl, fun h => (by first | (cases h; done) | (first | exact hs.cells2 rfl rfl | exact (hs.pull 1).cells2 rfl rfl | exact (hs.pull 2).cells2 rfl rfl | exact (hs.pull 3).cells2 rfl rfl | exact (hs.pull 4).cells2 rfl rfl | exact (hs.pull 5).cells2 rfl rfl | exact (hs.pull 6).cells2 rfl rfl | exact (hs.pull 7).cells2 rfl rfl | exact (hs.pull 8).cells2 rfl rfl | exact hs.cell rfl | exact (hs.pull 1).cell rfl | exact (hs.pull 2).cell rfl | exact (hs.pull 3).cell rfl | exact (hs.pull 4).cell rfl | exact (hs.pull 5).cell rfl | exact (hs.pull 6).cell rfl | exact (hs.pull 7).cell rfl | exact (hs.pull 8).cell rfl | assumption | exact hs.cellsOf | exact (hs.pull 1).cellsOf | exact (hs.pull 2).cellsOf | exact (hs.pull 3).cellsOf | exact (hs.pull 4).cellsOf | exact (hs.pull 5).cellsOf | exact (hs.pull 6).cellsOf | exact (hs.pull 7).cellsOf | exact (hs.pull 8).cellsOf) | (and_intros <;> first | exact hs.cells2 rfl rfl | exact (hs.pull 1).cells2 rfl rfl | exact (hs.pull 2).cells2 rfl rfl | exact (hs.pull 3).cells2 rfl rfl | exact (hs.pull 4).cells2 rfl rfl | exact (hs.pull 5).cells2 rfl rfl | exact (hs.pull 6).cells2 rfl rfl | exact (hs.pull 7).cells2 rfl rfl | exact (hs.pull 8).cells2 rfl rfl | exact hs.cell rfl | exact (hs.pull 1).cell rfl | exact (hs.pull 2).cell rfl | exact (hs.pull 3).cell rfl | exact (hs.pull 4).cell rfl | exact (hs.pull 5).cell rfl | exact (hs.pull 6).cell rfl | exact (hs.pull 7).cell rfl | exact (hs.pull 8).cell rfl | assumption | exact hs.cellsOf | exact (hs.pull 1).cellsOf | exact (hs.pull 2).cellsOf | exact (hs.pull 3).cellsOf | exact (hs.pull 4).cellsOf | exact (hs.pull 5).cellsOf | exact (hs.pull 6).cellsOf | exact (hs.pull 7).cellsOf | exact (hs.pull 8).cellsOf)), ?_⟩
      refine x_assign (.bool _) rfl ?_
      refine x_nil ?_
      refine then_n ?_
      refine c_ret ?_
      refine then_r ?_
      refine ⟨.inr rfl, ?_⟩
      exact ⟨rfl, hs.tail⟩
    · skip
      refine c_skip ?_
      refine then_n ?_
      refine c_seqI (γ := Nat × Nat) (fun (⟨f, x⟩ : Nat × Nat) => [(1, .slice a1 acts.length c1), (2, .pointer (some ⟨b2, 0, none⟩)), (5, .pointer (some ⟨f, 0, none⟩)), (6, .pointer (some ⟨x, 0, none⟩))]) (fun (⟨f, x⟩ : Nat × Nat) w => Sat w0 w (IO f ⟨D.Id, D.mem, [], [], 0⟩ :: RI x (.slice D.am D.mem.length D.cm) [] [] :: Blk b2 (.cells #[.int .u64 (D.Id : Nat), .slice D.am D.mem.length D.cm, .slice D.al D.lvs.length D.cl, .slice D.ad D.lds.length D.cd] 26 (0, 0)) :: [Init w0])) ?_ ?_
      · skip
        -- region 3 DRAWS
        have hsm' := hsm rfl
        refine c_fork (fun w => (∀ (j : Nat) (u : Value), [Value.int .u64 (D.Id : Nat), .slice D.am D.mem.length D.cm, .slice D.al D.lvs.length D.cl, .slice D.ad D.lds.length D.cd][j]? = some u → w.cell? ((⟨b2, 0, none⟩ : Addr).add j) = some u) ∧ w.cell? ⟨b2, 1, none⟩ = some (.slice D.am D.mem.length D.cm)) (fun i => !(false)) [(0, 1), (2, 2), (3, 1), (4, 2)] [(1, [(6, 2), (5, 0), (7, 2)]), (5, [(1, 0), (6, 2), (7, 2)])] 3 (by kernel_rfl) (by kernel_rfl) (by kernel_rfl) (by kernel_rfl) ((by first | (first | exact hs.cells2 rfl rfl | exact (hs.pull 1).cells2 rfl rfl | exact (hs.pull 2).cells2 rfl rfl | exact (hs.pull 3).cells2 rfl rfl | exact (hs.pull 4).cells2 rfl rfl | exact (hs.pull 5).cells2 rfl rfl | exact (hs.pull 6).cells2 rfl rfl | exact (hs.pull 7).cells2 rfl rfl | exact (hs.pull 8).cells2 rfl rfl | exact hs.cell rfl | exact (hs.pull 1).cell rfl | exact (hs.pull 2).cell rfl | exact (hs.pull 3).cell rfl | exact (hs.pull 4).cell rfl | exact (hs.pull 5).cell rfl | exact (hs.pull 6).cell rfl | exact (hs.pull 7).cell rfl | exact (hs.pull 8).cell rfl | assumption | exact hs.cellsOf | exact (hs.pull 1).cellsOf | exact (hs.pull 2).cellsOf | exact (hs.pull 3).cellsOf | exact (hs.pull 4).cellsOf | exact (hs.pull 5).cellsOf | exact (hs.pull 6).cellsOf | exact (hs.pull 7).cellsOf | exact (hs.pull 8).cellsOf) | (and_intros <;> first | exact hs.cells2 rfl rfl | exact (hs.pull 1).cells2 rfl rfl | exact (hs.pull 2).cells2 rfl rfl | exact (hs.pull 3).cells2 rfl rfl | exact (hs.pull 4).cells2 rfl rfl | exact (hs.pull 5).cells2 rfl rfl | exact (hs.pull 6).cells2 rfl rfl | exact (hs.pull 7).cells2 rfl rfl | exact (hs.pull 8).cells2 rfl rfl | exact hs.cell rfl | exact (hs.pull 1).cell rfl | exact (hs.pull 2).cell rfl | exact (hs.pull 3).cell rfl | exact (hs.pull 4).cell rfl | exact (hs.pull 5).cell rfl | exact (hs.pull 6).cell rfl | exact (hs.pull 7).cell rfl | exact (hs.pull 8).cell rfl | assumption | exact hs.cellsOf | exact (hs.pull 1).cellsOf | exact (hs.pull 2).cellsOf | exact (hs.pull 3).cellsOf | exact (hs.pull 4).cellsOf | exact (hs.pull 5).cellsOf | exact (hs.pull 6).cellsOf | exact (hs.pull 7).cellsOf | exact (hs.pull 8).cellsOf))) ?_
        replace hs := hs.drew
        refine h_loadN [_, _, _, _] agg_26 _ rfl (fun w hS => by first | exact hS | exact hS.1 | exact hS.2 | exact hS.2.1 | exact hS.2.2 | exact hS.2.2.1 | exact hS.2.2.2 | exact hS.2.2.2.1 | exact hS.2.2.2.2 | exact hS.2.2.2.2.1 | exact hS.2.2.2.2.2 | exact hS.cellsOf | exact (hS.pull 1).cellsOf | exact (hS.pull 2).cellsOf | exact (hS.pull 3).cellsOf | exact (hS.pull 4).cellsOf | exact (hS.pull 5).cellsOf | exact (hS.pull 6).cellsOf | exact hS.cells2 rfl rfl | exact (hS.pull 1).cells2 rfl rfl | exact (hS.pull 2).cells2 rfl rfl | exact (hS.pull 3).cells2 rfl rfl | exact (hS.pull 4).cells2 rfl rfl | exact (hS.pull 5).cells2 rfl rfl | exact (hS.pull 6).cells2 rfl rfl) ?_
        first | refine x_field0 fa_26_1 _ rfl ?_ | refine x_field fa_26_1 _ _ rfl ?_
        refine h_load one_23 _ (.slice _ _ _) rfl (fun w hS => by first | exact hS.cell rfl | exact (hS.pull 1).cell rfl | exact (hS.pull 2).cell rfl | exact (hS.pull 3).cell rfl | exact (hS.pull 4).cell rfl | exact (hS.pull 5).cell rfl | exact (hS.pull 6).cell rfl | exact hS | exact hS.1 | exact hS.2 | exact hS.2.1 | exact hS.2.2 | exact hS.2.2.1 | exact hS.2.2.2 | exact hS.2.2.2.1 | exact hS.2.2.2.2 | exact hS.2.2.2.2.1 | exact hS.2.2.2.2.2) ?_
        refine x_build _ [(0, (.slice _ _ _))] rfl (fun w => bd_52_0 _ _ _ w) ?_
        refine x_nil ?_
        refine (List.forall_mem_cons.2 ⟨?_, (List.forall_mem_cons.2 ⟨?_, (fun _ h => by cases h)⟩)⟩)
        · skip
          refine x_call Try.f10 Try.func10 rfl rfl _ rfl ?_
          refine ((new_d (hs.pull 1) hin hsm')).mono ?_
          clear hs; rintro e w ⟨f, rfl, hs⟩
          refine ⟨_, rfl, fun h => (by first | (cases h; done) | (first | exact hs.cells2 rfl rfl | exact (hs.pull 1).cells2 rfl rfl | exact (hs.pull 2).cells2 rfl rfl | exact (hs.pull 3).cells2 rfl rfl | exact (hs.pull 4).cells2 rfl rfl | exact (hs.pull 5).cells2 rfl rfl | exact (hs.pull 6).cells2 rfl rfl | exact (hs.pull 7).cells2 rfl rfl | exact (hs.pull 8).cells2 rfl rfl | exact hs.cell rfl | exact (hs.pull 1).cell rfl | exact (hs.pull 2).cell rfl | exact (hs.pull 3).cell rfl | exact (hs.pull 4).cell rfl | exact (hs.pull 5).cell rfl | exact (hs.pull 6).cell rfl | exact (hs.pull 7).cell rfl | exact (hs.pull 8).cell rfl | assumption | exact hs.cellsOf | exact (hs.pull 1).cellsOf | exact (hs.pull 2).cellsOf | exact (hs.pull 3).cellsOf | exact (hs.pull 4).cellsOf | exact (hs.pull 5).cellsOf | exact (hs.pull 6).cellsOf | exact (hs.pull 7).cellsOf | exact (hs.pull 8).cellsOf) | (and_intros <;> first | exact hs.cells2 rfl rfl | exact (hs.pull 1).cells2 rfl rfl | exact (hs.pull 2).cells2 rfl rfl | exact (hs.pull 3).cells2 rfl rfl | exact (hs.pull 4).cells2 rfl rfl | exact (hs.pull 5).cells2 rfl rfl | exact (hs.pull 6).cells2 rfl rfl | exact (hs.pull 7).cells2 rfl rfl | exact (hs.pull 8).cells2 rfl rfl | exact hs.cell rfl | exact (hs.pull 1).cell rfl | exact (hs.pull 2).cell rfl | exact (hs.pull 3).cell rfl | exact (hs.pull 4).cell rfl | exact (hs.pull 5).cell rfl | exact (hs.pull 6).cell rfl | exact (hs.pull 7).cell rfl | exact (hs.pull 8).cell rfl | assumption | exact hs.cellsOf | exact (hs.pull 1).cellsOf | exact (hs.pull 2).cellsOf | exact (hs.pull 3).cellsOf | exact (hs.pull 4).cellsOf | exact (hs.pull 5).cellsOf | exact (hs.pull 6).cellsOf | exact (hs.pull 7).cellsOf | exact (hs.pull 8).cellsOf)), ?_⟩
          refine x_assign (.pointer _) rfl ?_
          refine x_box hs (.agg #[_, _, _]) rfl ?_; clear hs; intro b29 w hs; refine ⟨fun h => (by first | (cases h; done) | (first | exact hs.cells2 rfl rfl | exact (hs.pull 1).cells2 rfl rfl | exact (hs.pull 2).cells2 rfl rfl | exact (hs.pull 3).cells2 rfl rfl | exact (hs.pull 4).cells2 rfl rfl | exact (hs.pull 5).cells2 rfl rfl | exact (hs.pull 6).cells2 rfl rfl | exact (hs.pull 7).cells2 rfl rfl | exact (hs.pull 8).cells2 rfl rfl | exact hs.cell rfl | exact (hs.pull 1).cell rfl | exact (hs.pull 2).cell rfl | exact (hs.pull 3).cell rfl | exact (hs.pull 4).cell rfl | exact (hs.pull 5).cell rfl | exact (hs.pull 6).cell rfl | exact (hs.pull 7).cell rfl | exact (hs.pull 8).cell rfl | assumption | exact hs.cellsOf | exact (hs.pull 1).cellsOf | exact (hs.pull 2).cellsOf | exact (hs.pull 3).cellsOf | exact (hs.pull 4).cellsOf | exact (hs.pull 5).cellsOf | exact (hs.pull 6).cellsOf | exact (hs.pull 7).cellsOf | exact (hs.pull 8).cellsOf) | (and_intros <;> first | exact hs.cells2 rfl rfl | exact (hs.pull 1).cells2 rfl rfl | exact (hs.pull 2).cells2 rfl rfl | exact (hs.pull 3).cells2 rfl rfl | exact (hs.pull 4).cells2 rfl rfl | exact (hs.pull 5).cells2 rfl rfl | exact (hs.pull 6).cells2 rfl rfl | exact (hs.pull 7).cells2 rfl rfl | exact (hs.pull 8).cells2 rfl rfl | exact hs.cell rfl | exact (hs.pull 1).cell rfl | exact (hs.pull 2).cell rfl | exact (hs.pull 3).cell rfl | exact (hs.pull 4).cell rfl | exact (hs.pull 5).cell rfl | exact (hs.pull 6).cell rfl | exact (hs.pull 7).cell rfl | exact (hs.pull 8).cell rfl | assumption | exact hs.cellsOf | exact (hs.pull 1).cellsOf | exact (hs.pull 2).cellsOf | exact (hs.pull 3).cellsOf | exact (hs.pull 4).cellsOf | exact (hs.pull 5).cellsOf | exact (hs.pull 6).cellsOf | exact (hs.pull 7).cellsOf | exact (hs.pull 8).cellsOf)), ?_⟩
          refine x_assign (.pointer _) rfl ?_
          refine x_nil ?_
          refine then_n ?_
          exact ⟨(f, b29), ⟨rfl, rfl, rfl, rfl, trivial⟩, (Sat.riNew (hs.perm [0, 1, 2, 3])).perm [1, 0, 3, 2]⟩
        · skip
          refine x_box hs (.agg #[_, _, _]) rfl ?_; clear hs; intro b29 w hs; refine ⟨fun h => (by first | (cases h; done) | (first | exact hs.cells2 rfl rfl | exact (hs.pull 1).cells2 rfl rfl | exact (hs.pull 2).cells2 rfl rfl | exact (hs.pull 3).cells2 rfl rfl | exact (hs.pull 4).cells2 rfl rfl | exact (hs.pull 5).cells2 rfl rfl | exact (hs.pull 6).cells2 rfl rfl | exact (hs.pull 7).cells2 rfl rfl | exact (hs.pull 8).cells2 rfl rfl | exact hs.cell rfl | exact (hs.pull 1).cell rfl | exact (hs.pull 2).cell rfl | exact (hs.pull 3).cell rfl | exact (hs.pull 4).cell rfl | exact (hs.pull 5).cell rfl | exact (hs.pull 6).cell rfl | exact (hs.pull 7).cell rfl | exact (hs.pull 8).cell rfl | assumption | exact hs.cellsOf | exact (hs.pull 1).cellsOf | exact (hs.pull 2).cellsOf | exact (hs.pull 3).cellsOf | exact (hs.pull 4).cellsOf | exact (hs.pull 5).cellsOf | exact (hs.pull 6).cellsOf | exact (hs.pull 7).cellsOf | exact (hs.pull 8).cellsOf) | (and_intros <;> first | exact hs.cells2 rfl rfl | exact (hs.pull 1).cells2 rfl rfl | exact (hs.pull 2).cells2 rfl rfl | exact (hs.pull 3).cells2 rfl rfl | exact (hs.pull 4).cells2 rfl rfl | exact (hs.pull 5).cells2 rfl rfl | exact (hs.pull 6).cells2 rfl rfl | exact (hs.pull 7).cells2 rfl rfl | exact (hs.pull 8).cells2 rfl rfl | exact hs.cell rfl | exact (hs.pull 1).cell rfl | exact (hs.pull 2).cell rfl | exact (hs.pull 3).cell rfl | exact (hs.pull 4).cell rfl | exact (hs.pull 5).cell rfl | exact (hs.pull 6).cell rfl | exact (hs.pull 7).cell rfl | exact (hs.pull 8).cell rfl | assumption | exact hs.cellsOf | exact (hs.pull 1).cellsOf | exact (hs.pull 2).cellsOf | exact (hs.pull 3).cellsOf | exact (hs.pull 4).cellsOf | exact (hs.pull 5).cellsOf | exact (hs.pull 6).cellsOf | exact (hs.pull 7).cellsOf | exact (hs.pull 8).cellsOf)), ?_⟩
          refine x_call Try.f10 Try.func10 rfl rfl _ rfl ?_
          refine ((new_d (hs.pull 2) hin hsm')).mono ?_
          clear hs; rintro e w ⟨f, rfl, hs⟩
          refine ⟨_, rfl, fun h => (by first | (cases h; done) | (first | exact hs.cells2 rfl rfl | exact (hs.pull 1).cells2 rfl rfl | exact (hs.pull 2).cells2 rfl rfl | exact (hs.pull 3).cells2 rfl rfl | exact (hs.pull 4).cells2 rfl rfl | exact (hs.pull 5).cells2 rfl rfl | exact (hs.pull 6).cells2 rfl rfl | exact (hs.pull 7).cells2 rfl rfl | exact (hs.pull 8).cells2 rfl rfl | exact hs.cell rfl | exact (hs.pull 1).cell rfl | exact (hs.pull 2).cell rfl | exact (hs.pull 3).cell rfl | exact (hs.pull 4).cell rfl | exact (hs.pull 5).cell rfl | exact (hs.pull 6).cell rfl | exact (hs.pull 7).cell rfl | exact (hs.pull 8).cell rfl | assumption | exact hs.cellsOf | exact (hs.pull 1).cellsOf | exact (hs.pull 2).cellsOf | exact (hs.pull 3).cellsOf | exact (hs.pull 4).cellsOf | exact (hs.pull 5).cellsOf | exact (hs.pull 6).cellsOf | exact (hs.pull 7).cellsOf | exact (hs.pull 8).cellsOf) | (and_intros <;> first | exact hs.cells2 rfl rfl | exact (hs.pull 1).cells2 rfl rfl | exact (hs.pull 2).cells2 rfl rfl | exact (hs.pull 3).cells2 rfl rfl | exact (hs.pull 4).cells2 rfl rfl | exact (hs.pull 5).cells2 rfl rfl | exact (hs.pull 6).cells2 rfl rfl | exact (hs.pull 7).cells2 rfl rfl | exact (hs.pull 8).cells2 rfl rfl | exact hs.cell rfl | exact (hs.pull 1).cell rfl | exact (hs.pull 2).cell rfl | exact (hs.pull 3).cell rfl | exact (hs.pull 4).cell rfl | exact (hs.pull 5).cell rfl | exact (hs.pull 6).cell rfl | exact (hs.pull 7).cell rfl | exact (hs.pull 8).cell rfl | assumption | exact hs.cellsOf | exact (hs.pull 1).cellsOf | exact (hs.pull 2).cellsOf | exact (hs.pull 3).cellsOf | exact (hs.pull 4).cellsOf | exact (hs.pull 5).cellsOf | exact (hs.pull 6).cellsOf | exact (hs.pull 7).cellsOf | exact (hs.pull 8).cellsOf)), ?_⟩
          refine x_assign (.pointer _) rfl ?_
          refine x_assign (.pointer _) rfl ?_
          refine x_nil ?_
          refine then_n ?_
          exact ⟨(f, b29), ⟨rfl, rfl, rfl, rfl, trivial⟩, (Sat.riNew (hs.perm [2, 0, 1, 3])).perm [1, 0, 3, 2]⟩
      · skip
        clear hs
        rintro ⟨f, x⟩ ρ w hs
        change CW Try.prog 171 _ _ (sets 171 [(1, .slice a1 acts.length c1), (2, .pointer (some ⟨b2, 0, none⟩)), (5, .pointer (some ⟨f, 0, none⟩)), (6, .pointer (some ⟨x, 0, none⟩))] ρ) w
        have hsm' := hsm rfl
        have hm40 : D.mem.length ≤ 40 := hsm'.m
        refine c_seqI (γ := Unit) (fun (_u : Unit) => [(5, .pointer (some ⟨f, 0, none⟩))]) (fun (_u : Unit) w => Sat w0 w [Init w0]) ?_ ?_
        · skip
          refine c_seq ?_
          -- region 4
          refine c_region ?_
          refine x_assign (.int _ _) rfl ?_
          refine x_nil ?_
          refine then_n ?_
          refine c_block ?_
          refine c_loop (γ := Nat × ISt × List WE × List Key) (fun (⟨i, s, e, dn⟩ : Nat × ISt × List WE × List Key) => [(1, .slice a1 acts.length c1), (2, .pointer (some ⟨b2, 0, none⟩)), (5, .pointer (some ⟨f, 0, none⟩)), (6, .pointer (some ⟨x, 0, none⟩)), (7, .int .i64 (i : Nat))]) (fun (⟨i, s, e, dn⟩ : Nat × ISt × List WE × List Key) w => i ≤ 100 ∧ IRel s e dn D i ∧ Sat w0 w (IO f s :: RI x (.slice D.am D.mem.length D.cm) e dn :: Blk b2 (.cells #[.int .u64 (D.Id : Nat), .slice D.am D.mem.length D.cm, .slice D.al D.lvs.length D.cl, .slice D.ad D.lds.length D.cd] 26 (0, 0)) :: [Init w0])) (fun (⟨i, s, e, dn⟩ : Nat × ISt × List WE × List Key) => 100 - i) (0, ⟨D.Id, D.mem, [], [], 0⟩, [], []) ⟨rfl, rfl, rfl, rfl, rfl, trivial⟩ ⟨by omega, IRel.start D, hs⟩ ?_
          clear hs
          rintro ⟨i, s, e, dn⟩ ρ w ⟨hi, hrel, hs⟩
          change CW Try.prog 171 _ _ (sets 171 [(1, .slice a1 acts.length c1), (2, .pointer (some ⟨b2, 0, none⟩)), (5, .pointer (some ⟨f, 0, none⟩)), (6, .pointer (some ⟨x, 0, none⟩)), (7, .int .i64 (i : Nat))] ρ) w
          by_cases g1 : i < acts.length
          by_cases g2 : i < 100
          · skip
            refine c_seq ?_
            refine c_seq ?_
            -- region 5
            refine c_region ?_
            refine x_move (.int _ _) rfl ?_
            refine x_move (.slice _ _ _) rfl ?_
            refine x_lenSl Try.underlying44 _ _ _ rfl ?_
            refine x_lssT _ _ rfl rfl (by omega) ?_
            refine x_move (.bool _) rfl ?_
            refine x_want' rfl ?_
            refine x_move (.int _ _) rfl ?_
            refine x_want' rfl ?_
            refine x_lssT _ _ rfl rfl (by omega) ?_
            refine x_pickT (.bool _) rfl rfl ?_
            refine x_nil ?_
            refine then_n ?_
            refine c_true rfl ?_
            refine c_skip ?_
            refine then_n ?_
            refine c_seq ?_
            refine c_block ?_
            refine c_seq ?_
            -- region 7
            obtain ⟨y, hy⟩ : ∃ y, acts[i]? = some y := ⟨acts[i]'g1, List.getElem?_eq_getElem _⟩
            have hR := hina _ _ (hs.pull 3)
            have hfx := hfa y (List.mem_of_getElem? hy)
            obtain ⟨g, og, rfl⟩ := hR.addr (by omega)
            obtain ⟨Kind, P, N, ⟨vD, d⟩⟩ := y
            obtain ⟨aD, cD, rfl⟩ : ∃ a c, vD = .slice a d.length c := hfx.Data.1.val
            have hrD : ∀ w' L', Sat w0 w' (Init w0 :: L') → RB w' (.slice aD d.length cD) d := fun w' L' h => RD.below hfx.Data.1 h.init
            have hlD : d.length ≤ maxLen := hfx.Data.2
            have hN64 : N ≤ 18446744073709551615 := hfx.Num
            unfold maxLen at hlD
            have hcells := hR.all (fun a => a.cells_len) hy
            have hle := hrel.le
            have hld := hrel.ld
            refine c_region ?_
            refine x_move (.slice _ _ _) rfl ?_
            refine x_move (.int _ _) rfl ?_
            refine x_indexAddr Try.underlying44 sz_46 _ _ _ _ _ rfl rfl (by omega) ?_
            refine x_loadN [.int .i64 Kind, .int .u16 (P.Id : Nat), .int .u32 (P.Inc : Nat), .int .u64 (N : Nat), .slice aD d.length cD] agg_46 _ rfl hcells ?_
            refine x_alloc zi_46 hs ?_; clear hs; intro b8 w hs; refine ⟨fun h => (by first | (cases h; done) | (first | exact hs.cells2 rfl rfl | exact (hs.pull 1).cells2 rfl rfl | exact (hs.pull 2).cells2 rfl rfl | exact (hs.pull 3).cells2 rfl rfl | exact (hs.pull 4).cells2 rfl rfl | exact (hs.pull 5).cells2 rfl rfl | exact (hs.pull 6).cells2 rfl rfl | exact (hs.pull 7).cells2 rfl rfl | exact (hs.pull 8).cells2 rfl rfl | exact hs.cell rfl | exact (hs.pull 1).cell rfl | exact (hs.pull 2).cell rfl | exact (hs.pull 3).cell rfl | exact (hs.pull 4).cell rfl | exact (hs.pull 5).cell rfl | exact (hs.pull 6).cell rfl | exact (hs.pull 7).cell rfl | exact (hs.pull 8).cell rfl | assumption | exact hs.cellsOf | exact (hs.pull 1).cellsOf | exact (hs.pull 2).cellsOf | exact (hs.pull 3).cellsOf | exact (hs.pull 4).cellsOf | exact (hs.pull 5).cellsOf | exact (hs.pull 6).cellsOf | exact (hs.pull 7).cellsOf | exact (hs.pull 8).cellsOf) | (and_intros <;> first | exact hs.cells2 rfl rfl | exact (hs.pull 1).cells2 rfl rfl | exact (hs.pull 2).cells2 rfl rfl | exact (hs.pull 3).cells2 rfl rfl | exact (hs.pull 4).cells2 rfl rfl | exact (hs.pull 5).cells2 rfl rfl | exact (hs.pull 6).cells2 rfl rfl | exact (hs.pull 7).cells2 rfl rfl | exact (hs.pull 8).cells2 rfl rfl | exact hs.cell rfl | exact (hs.pull 1).cell rfl | exact (hs.pull 2).cell rfl | exact (hs.pull 3).cell rfl | exact (hs.pull 4).cell rfl | exact (hs.pull 5).cell rfl | exact (hs.pull 6).cell rfl | exact (hs.pull 7).cell rfl | exact (hs.pull 8).cell rfl | assumption | exact hs.cellsOf | exact (hs.pull 1).cellsOf | exact (hs.pull 2).cellsOf | exact (hs.pull 3).cellsOf | exact (hs.pull 4).cellsOf | exact (hs.pull 5).cellsOf | exact (hs.pull 6).cellsOf | exact (hs.pull 7).cellsOf | exact (hs.pull 8).cellsOf)), ?_⟩
            first
              | refine x_storeAllI hs 0 rfl rfl agg_46 [_, _, _, _, _] rfl rfl rfl rfl ?_
              | refine x_storeAllI hs 1 rfl rfl agg_46 [_, _, _, _, _] rfl rfl rfl rfl ?_
              | refine x_storeAllI hs 2 rfl rfl agg_46 [_, _, _, _, _] rfl rfl rfl rfl ?_
              | refine x_storeAllI hs 3 rfl rfl agg_46 [_, _, _, _, _] rfl rfl rfl rfl ?_
              | refine x_storeAllI hs 4 rfl rfl agg_46 [_, _, _, _, _] rfl rfl rfl rfl ?_
              | refine x_storeAllI hs 5 rfl rfl agg_46 [_, _, _, _, _] rfl rfl rfl rfl ?_
              | refine x_storeAllI hs 6 rfl rfl agg_46 [_, _, _, _, _] rfl rfl rfl rfl ?_
              | refine x_storeAllI hs 7 rfl rfl agg_46 [_, _, _, _, _] rfl rfl rfl rfl ?_
            clear hs; intro w hs
            try dsimp only [back, List.set_cons_zero, List.set_cons_succ] at hs
            refine ⟨fun h => (by first | (cases h; done) | (first | exact hs.cells2 rfl rfl | exact (hs.pull 1).cells2 rfl rfl | exact (hs.pull 2).cells2 rfl rfl | exact (hs.pull 3).cells2 rfl rfl | exact (hs.pull 4).cells2 rfl rfl | exact (hs.pull 5).cells2 rfl rfl | exact (hs.pull 6).cells2 rfl rfl | exact (hs.pull 7).cells2 rfl rfl | exact (hs.pull 8).cells2 rfl rfl | exact hs.cell rfl | exact (hs.pull 1).cell rfl | exact (hs.pull 2).cell rfl | exact (hs.pull 3).cell rfl | exact (hs.pull 4).cell rfl | exact (hs.pull 5).cell rfl | exact (hs.pull 6).cell rfl | exact (hs.pull 7).cell rfl | exact (hs.pull 8).cell rfl | assumption | exact hs.cellsOf | exact (hs.pull 1).cellsOf | exact (hs.pull 2).cellsOf | exact (hs.pull 3).cellsOf | exact (hs.pull 4).cellsOf | exact (hs.pull 5).cellsOf | exact (hs.pull 6).cellsOf | exact (hs.pull 7).cellsOf | exact (hs.pull 8).cellsOf) | (and_intros <;> first | exact hs.cells2 rfl rfl | exact (hs.pull 1).cells2 rfl rfl | exact (hs.pull 2).cells2 rfl rfl | exact (hs.pull 3).cells2 rfl rfl | exact (hs.pull 4).cells2 rfl rfl | exact (hs.pull 5).cells2 rfl rfl | exact (hs.pull 6).cells2 rfl rfl | exact (hs.pull 7).cells2 rfl rfl | exact (hs.pull 8).cells2 rfl rfl | exact hs.cell rfl | exact (hs.pull 1).cell rfl | exact (hs.pull 2).cell rfl | exact (hs.pull 3).cell rfl | exact (hs.pull 4).cell rfl | exact (hs.pull 5).cell rfl | exact (hs.pull 6).cell rfl | exact (hs.pull 7).cell rfl | exact (hs.pull 8).cell rfl | assumption | exact hs.cellsOf | exact (hs.pull 1).cellsOf | exact (hs.pull 2).cellsOf | exact (hs.pull 3).cellsOf | exact (hs.pull 4).cellsOf | exact (hs.pull 5).cellsOf | exact (hs.pull 6).cellsOf | exact (hs.pull 7).cellsOf | exact (hs.pull 8).cellsOf)), ?_⟩
            refine x_nil ?_
            refine then_n ?_
            refine c_seq ?_
            refine c_seq ?_
            -- region 8
            refine c_region ?_
            first | refine x_field0 fa_46_3 _ rfl ?_ | refine x_field fa_46_3 _ _ rfl ?_
            refine x_load one_38 _ (.slice _ _ _) rfl (by first | exact hs.cell rfl | exact (hs.pull 1).cell rfl | exact (hs.pull 2).cell rfl | exact (hs.pull 3).cell rfl | assumption | exact (hs.pull 4).cell rfl | exact (hs.pull 5).cell rfl | exact (hs.pull 6).cell rfl | exact (hs.pull 7).cell rfl) ?_
            refine x_lenSl Try.underlying38 _ _ _ rfl ?_
            refine x_gtr _ _ rfl rfl ?_
            refine x_nil ?_
            refine then_n ?_
            refine c_test _ rfl (fun hb => ?_) (fun hb => ?_)   -- cond t47
            · skip
              refine c_seq ?_
              -- region 9
              refine c_region ?_
              refine x_call Try.f9 Try.func9 rfl rfl _ rfl ?_
              refine (awake23_calls hs).mono ?_
              clear hs; rintro e w ⟨rfl, hs⟩
              refine ⟨_, rfl, fun h => (by first | (cases h; done) | (first | exact hs.cells2 rfl rfl | exact (hs.pull 1).cells2 rfl rfl | exact (hs.pull 2).cells2 rfl rfl | exact (hs.pull 3).cells2 rfl rfl | exact (hs.pull 4).cells2 rfl rfl | exact (hs.pull 5).cells2 rfl rfl | exact (hs.pull 6).cells2 rfl rfl | exact (hs.pull 7).cells2 rfl rfl | exact (hs.pull 8).cells2 rfl rfl | exact hs.cell rfl | exact (hs.pull 1).cell rfl | exact (hs.pull 2).cell rfl | exact (hs.pull 3).cell rfl | exact (hs.pull 4).cell rfl | exact (hs.pull 5).cell rfl | exact (hs.pull 6).cell rfl | exact (hs.pull 7).cell rfl | exact (hs.pull 8).cell rfl | assumption | exact hs.cellsOf | exact (hs.pull 1).cellsOf | exact (hs.pull 2).cellsOf | exact (hs.pull 3).cellsOf | exact (hs.pull 4).cellsOf | exact (hs.pull 5).cellsOf | exact (hs.pull 6).cellsOf | exact (hs.pull 7).cellsOf | exact (hs.pull 8).cellsOf) | (and_intros <;> first | exact hs.cells2 rfl rfl | exact (hs.pull 1).cells2 rfl rfl | exact (hs.pull 2).cells2 rfl rfl | exact (hs.pull 3).cells2 rfl rfl | exact (hs.pull 4).cells2 rfl rfl | exact (hs.pull 5).cells2 rfl rfl | exact (hs.pull 6).cells2 rfl rfl | exact (hs.pull 7).cells2 rfl rfl | exact (hs.pull 8).cells2 rfl rfl | exact hs.cell rfl | exact (hs.pull 1).cell rfl | exact (hs.pull 2).cell rfl | exact (hs.pull 3).cell rfl | exact (hs.pull 4).cell rfl | exact (hs.pull 5).cell rfl | exact (hs.pull 6).cell rfl | exact (hs.pull 7).cell rfl | exact (hs.pull 8).cell rfl | assumption | exact hs.cellsOf | exact (hs.pull 1).cellsOf | exact (hs.pull 2).cellsOf | exact (hs.pull 3).cellsOf | exact (hs.pull 4).cellsOf | exact (hs.pull 5).cellsOf | exact (hs.pull 6).cellsOf | exact (hs.pull 7).cellsOf | exact (hs.pull 8).cellsOf)), ?_⟩
              refine x_assign (.bool _) rfl ?_
              refine x_nil ?_
              refine then_n ?_
              refine c_ret ?_
              refine then_r ?_
              refine inb_r ?_
              refine then_r ?_
              refine then_r ?_
              refine inb_r ?_
              refine then_r ?_
              refine ⟨.inr rfl, ?_⟩
              exact ⟨rfl, hs.sel [4] 5⟩
            · skip
              refine c_skip ?_
              refine then_n ?_
              refine c_seq ?_
              -- region 10
              clear hR hcells
              refine c_region ?_
              refine x_assign (.bool _) rfl ?_
              refine x_nil ?_
              refine then_n ?_
              refine c_seq ?_
              -- region 11
              refine c_region ?_
              refine x_move (.pointer _) rfl ?_
              refine x_call Try.f16 Try.func16 rfl rfl _ rfl ?_
              refine ((rnext_calls (hs.perm [2, 4, 0, 1, 3]) hrm (by omega) (by omega) (by omega) hrel.dnm)).mono ?_
              clear hs; rintro e w ⟨r, a5, c5, hnr, rfl, hrb, hs⟩
              refine ⟨_, rfl, fun h => (by first | (cases h; done) | (first | exact hs.cells2 rfl rfl | exact (hs.pull 1).cells2 rfl rfl | exact (hs.pull 2).cells2 rfl rfl | exact (hs.pull 3).cells2 rfl rfl | exact (hs.pull 4).cells2 rfl rfl | exact (hs.pull 5).cells2 rfl rfl | exact (hs.pull 6).cells2 rfl rfl | exact (hs.pull 7).cells2 rfl rfl | exact (hs.pull 8).cells2 rfl rfl | exact hs.cell rfl | exact (hs.pull 1).cell rfl | exact (hs.pull 2).cell rfl | exact (hs.pull 3).cell rfl | exact (hs.pull 4).cell rfl | exact (hs.pull 5).cell rfl | exact (hs.pull 6).cell rfl | exact (hs.pull 7).cell rfl | exact (hs.pull 8).cell rfl | assumption | exact hs.cellsOf | exact (hs.pull 1).cellsOf | exact (hs.pull 2).cellsOf | exact (hs.pull 3).cellsOf | exact (hs.pull 4).cellsOf | exact (hs.pull 5).cellsOf | exact (hs.pull 6).cellsOf | exact (hs.pull 7).cellsOf | exact (hs.pull 8).cellsOf) | (and_intros <;> first | exact hs.cells2 rfl rfl | exact (hs.pull 1).cells2 rfl rfl | exact (hs.pull 2).cells2 rfl rfl | exact (hs.pull 3).cells2 rfl rfl | exact (hs.pull 4).cells2 rfl rfl | exact (hs.pull 5).cells2 rfl rfl | exact (hs.pull 6).cells2 rfl rfl | exact (hs.pull 7).cells2 rfl rfl | exact (hs.pull 8).cells2 rfl rfl | exact hs.cell rfl | exact (hs.pull 1).cell rfl | exact (hs.pull 2).cell rfl | exact (hs.pull 3).cell rfl | exact (hs.pull 4).cell rfl | exact (hs.pull 5).cell rfl | exact (hs.pull 6).cell rfl | exact (hs.pull 7).cell rfl | exact (hs.pull 8).cell rfl | assumption | exact hs.cellsOf | exact (hs.pull 1).cellsOf | exact (hs.pull 2).cellsOf | exact (hs.pull 3).cellsOf | exact (hs.pull 4).cellsOf | exact (hs.pull 5).cellsOf | exact (hs.pull 6).cellsOf | exact (hs.pull 7).cellsOf | exact (hs.pull 8).cellsOf)), ?_⟩
              refine x_move (.tuple _) rfl ?_
              refine x_extract _ (.agg _) rfl rfl ?_
              refine x_extract _ (.bool _) rfl rfl ?_
              refine x_alloc zi_54 hs ?_; clear hs; intro b10 w hs; refine ⟨fun h => (by first | (cases h; done) | (first | exact hs.cells2 rfl rfl | exact (hs.pull 1).cells2 rfl rfl | exact (hs.pull 2).cells2 rfl rfl | exact (hs.pull 3).cells2 rfl rfl | exact (hs.pull 4).cells2 rfl rfl | exact (hs.pull 5).cells2 rfl rfl | exact (hs.pull 6).cells2 rfl rfl | exact (hs.pull 7).cells2 rfl rfl | exact (hs.pull 8).cells2 rfl rfl | exact hs.cell rfl | exact (hs.pull 1).cell rfl | exact (hs.pull 2).cell rfl | exact (hs.pull 3).cell rfl | exact (hs.pull 4).cell rfl | exact (hs.pull 5).cell rfl | exact (hs.pull 6).cell rfl | exact (hs.pull 7).cell rfl | exact (hs.pull 8).cell rfl | assumption | exact hs.cellsOf | exact (hs.pull 1).cellsOf | exact (hs.pull 2).cellsOf | exact (hs.pull 3).cellsOf | exact (hs.pull 4).cellsOf | exact (hs.pull 5).cellsOf | exact (hs.pull 6).cellsOf | exact (hs.pull 7).cellsOf | exact (hs.pull 8).cellsOf) | (and_intros <;> first | exact hs.cells2 rfl rfl | exact (hs.pull 1).cells2 rfl rfl | exact (hs.pull 2).cells2 rfl rfl | exact (hs.pull 3).cells2 rfl rfl | exact (hs.pull 4).cells2 rfl rfl | exact (hs.pull 5).cells2 rfl rfl | exact (hs.pull 6).cells2 rfl rfl | exact (hs.pull 7).cells2 rfl rfl | exact (hs.pull 8).cells2 rfl rfl | exact hs.cell rfl | exact (hs.pull 1).cell rfl | exact (hs.pull 2).cell rfl | exact (hs.pull 3).cell rfl | exact (hs.pull 4).cell rfl | exact (hs.pull 5).cell rfl | exact (hs.pull 6).cell rfl | exact (hs.pull 7).cell rfl | exact (hs.pull 8).cell rfl | assumption | exact hs.cellsOf | exact (hs.pull 1).cellsOf | exact (hs.pull 2).cellsOf | exact (hs.pull 3).cellsOf | exact (hs.pull 4).cellsOf | exact (hs.pull 5).cellsOf | exact (hs.pull 6).cellsOf | exact (hs.pull 7).cellsOf | exact (hs.pull 8).cellsOf)), ?_⟩
              first
                | refine x_storeAllI hs 0 rfl rfl agg_54 [_, _, _, _] rfl rfl rfl rfl ?_
                | refine x_storeAllI hs 1 rfl rfl agg_54 [_, _, _, _] rfl rfl rfl rfl ?_
                | refine x_storeAllI hs 2 rfl rfl agg_54 [_, _, _, _] rfl rfl rfl rfl ?_
                | refine x_storeAllI hs 3 rfl rfl agg_54 [_, _, _, _] rfl rfl rfl rfl ?_
                | refine x_storeAllI hs 4 rfl rfl agg_54 [_, _, _, _] rfl rfl rfl rfl ?_
                | refine x_storeAllI hs 5 rfl rfl agg_54 [_, _, _, _] rfl rfl rfl rfl ?_
                | refine x_storeAllI hs 6 rfl rfl agg_54 [_, _, _, _] rfl rfl rfl rfl ?_
                | refine x_storeAllI hs 7 rfl rfl agg_54 [_, _, _, _] rfl rfl rfl rfl ?_
              clear hs; intro w hs
              try dsimp only [back, List.set_cons_zero, List.set_cons_succ] at hs
              refine ⟨fun h => (by first | (cases h; done) | (first | exact hs.cells2 rfl rfl | exact (hs.pull 1).cells2 rfl rfl | exact (hs.pull 2).cells2 rfl rfl | exact (hs.pull 3).cells2 rfl rfl | exact (hs.pull 4).cells2 rfl rfl | exact (hs.pull 5).cells2 rfl rfl | exact (hs.pull 6).cells2 rfl rfl | exact (hs.pull 7).cells2 rfl rfl | exact (hs.pull 8).cells2 rfl rfl | exact hs.cell rfl | exact (hs.pull 1).cell rfl | exact (hs.pull 2).cell rfl | exact (hs.pull 3).cell rfl | exact (hs.pull 4).cell rfl | exact (hs.pull 5).cell rfl | exact (hs.pull 6).cell rfl | exact (hs.pull 7).cell rfl | exact (hs.pull 8).cell rfl | assumption | exact hs.cellsOf | exact (hs.pull 1).cellsOf | exact (hs.pull 2).cellsOf | exact (hs.pull 3).cellsOf | exact (hs.pull 4).cellsOf | exact (hs.pull 5).cellsOf | exact (hs.pull 6).cellsOf | exact (hs.pull 7).cellsOf | exact (hs.pull 8).cellsOf) | (and_intros <;> first | exact hs.cells2 rfl rfl | exact (hs.pull 1).cells2 rfl rfl | exact (hs.pull 2).cells2 rfl rfl | exact (hs.pull 3).cells2 rfl rfl | exact (hs.pull 4).cells2 rfl rfl | exact (hs.pull 5).cells2 rfl rfl | exact (hs.pull 6).cells2 rfl rfl | exact (hs.pull 7).cells2 rfl rfl | exact (hs.pull 8).cells2 rfl rfl | exact hs.cell rfl | exact (hs.pull 1).cell rfl | exact (hs.pull 2).cell rfl | exact (hs.pull 3).cell rfl | exact (hs.pull 4).cell rfl | exact (hs.pull 5).cell rfl | exact (hs.pull 6).cell rfl | exact (hs.pull 7).cell rfl | exact (hs.pull 8).cell rfl | assumption | exact hs.cellsOf | exact (hs.pull 1).cellsOf | exact (hs.pull 2).cellsOf | exact (hs.pull 3).cellsOf | exact (hs.pull 4).cellsOf | exact (hs.pull 5).cellsOf | exact (hs.pull 6).cellsOf | exact (hs.pull 7).cellsOf | exact (hs.pull 8).cellsOf)), ?_⟩
              refine x_assign (.bool _) rfl ?_
              refine x_nil ?_
              refine then_n ?_
              refine c_seqI (γ := ISt × List WE × List Key) (fun (⟨s', e', dn'⟩ : ISt × List WE × List Key) => [(1, .slice (some ⟨g, og, none⟩) acts.length c1), (2, .pointer (some ⟨b2, 0, none⟩)), (5, .pointer (some ⟨f, 0, none⟩)), (6, .pointer (some ⟨x, 0, none⟩)), (7, .int .i64 (i : Nat)), (8, .pointer (some ⟨b8, 0, none⟩)), (9, .bool true), (10, .pointer (some ⟨b10, 0, none⟩))]) (fun (⟨s', e', dn'⟩ : ISt × List WE × List Key) w => IRel s' e' dn' D (i + 1) ∧ Sat w0 w (IO f s' :: RI x (.slice D.am D.mem.length D.cm) e' dn' :: Blk b10 (.cells #[.int .u16 (r.p.Id : Nat), .int .u32 (r.p.Inc : Nat), .int .u64 (r.n : Nat), .slice a5 r.d.length c5] 54 (0, 0)) :: Blk b8 (.cells #[.int .i64 Kind, .int .u16 (P.Id : Nat), .int .u32 (P.Inc : Nat), .int .u64 (N : Nat), .slice aD d.length cD] 46 (0, 0)) :: Blk b2 (.cells #[.int .u64 (D.Id : Nat), .slice D.am D.mem.length D.cm, .slice D.al D.lvs.length D.cl, .slice D.ad D.lds.length D.cd] 26 (0, 0)) :: [Init w0])) ?_ ?_
              · skip
                refine c_seq ?_
                -- region 12
                refine c_region ?_
                first | refine x_field0 fa_46_0 _ rfl ?_ | refine x_field fa_46_0 _ _ rfl ?_
                refine x_load one_3 _ (.int _ _) rfl (by first | exact hs.cell rfl | exact (hs.pull 1).cell rfl | exact (hs.pull 2).cell rfl | exact (hs.pull 3).cell rfl | assumption | exact (hs.pull 4).cell rfl | exact (hs.pull 5).cell rfl | exact (hs.pull 6).cell rfl | exact (hs.pull 7).cell rfl) ?_
                refine x_call Try.f15 Try.func15 rfl rfl _ rfl ?_
                refine (pick_calls hs _ _ (by decide)).mono ?_
                clear hs; rintro e w ⟨rfl, hs, -⟩
                refine ⟨_, rfl, fun h => (by first | (cases h; done) | (first | exact hs.cells2 rfl rfl | exact (hs.pull 1).cells2 rfl rfl | exact (hs.pull 2).cells2 rfl rfl | exact (hs.pull 3).cells2 rfl rfl | exact (hs.pull 4).cells2 rfl rfl | exact (hs.pull 5).cells2 rfl rfl | exact (hs.pull 6).cells2 rfl rfl | exact (hs.pull 7).cells2 rfl rfl | exact (hs.pull 8).cells2 rfl rfl | exact hs.cell rfl | exact (hs.pull 1).cell rfl | exact (hs.pull 2).cell rfl | exact (hs.pull 3).cell rfl | exact (hs.pull 4).cell rfl | exact (hs.pull 5).cell rfl | exact (hs.pull 6).cell rfl | exact (hs.pull 7).cell rfl | exact (hs.pull 8).cell rfl | assumption | exact hs.cellsOf | exact (hs.pull 1).cellsOf | exact (hs.pull 2).cellsOf | exact (hs.pull 3).cellsOf | exact (hs.pull 4).cellsOf | exact (hs.pull 5).cellsOf | exact (hs.pull 6).cellsOf | exact (hs.pull 7).cellsOf | exact (hs.pull 8).cellsOf) | (and_intros <;> first | exact hs.cells2 rfl rfl | exact (hs.pull 1).cells2 rfl rfl | exact (hs.pull 2).cells2 rfl rfl | exact (hs.pull 3).cells2 rfl rfl | exact (hs.pull 4).cells2 rfl rfl | exact (hs.pull 5).cells2 rfl rfl | exact (hs.pull 6).cells2 rfl rfl | exact (hs.pull 7).cells2 rfl rfl | exact (hs.pull 8).cells2 rfl rfl | exact hs.cell rfl | exact (hs.pull 1).cell rfl | exact (hs.pull 2).cell rfl | exact (hs.pull 3).cell rfl | exact (hs.pull 4).cell rfl | exact (hs.pull 5).cell rfl | exact (hs.pull 6).cell rfl | exact (hs.pull 7).cell rfl | exact (hs.pull 8).cell rfl | assumption | exact hs.cellsOf | exact (hs.pull 1).cellsOf | exact (hs.pull 2).cellsOf | exact (hs.pull 3).cellsOf | exact (hs.pull 4).cellsOf | exact (hs.pull 5).cellsOf | exact (hs.pull 6).cellsOf | exact (hs.pull 7).cellsOf | exact (hs.pull 8).cellsOf)), ?_⟩
                generalize pk Kind 5 = kd
                refine x_nil ?_
                refine then_n ?_
                refine c_block ?_
                refine c_seq ?_
                -- region 14
                refine c_region ?_
                refine x_eql _ _ rfl rfl ?_
                refine x_assign (.bool _) rfl ?_
                refine x_nil ?_
                refine then_n ?_
                refine c_test _ rfl (fun hb => ?_) (fun hb => ?_)   -- cond t74
                · skip
                  -- region 15 DRAWS
                  refine c_draw (fun w => (∀ (j : Nat) (u : Value), [Value.int .u16 (r.p.Id : Nat), Value.int .u32 (r.p.Inc : Nat)][j]? = some u → w.cell? ((⟨b10, 0, none⟩ : Addr).add j) = some u) ∧ w.cell? ⟨b10, 2, none⟩ = some (.int .u64 (r.n : Nat))) (fun i => !(Nat.beq i 11)) [(0, 2), (1, 2), (2, 1), (3, 2), (4, 1), (6, 2), (7, 2), (8, 1), (9, 2), (10, 1), (5, 0), (11, 0), (12, 2), (13, 2)] (by kernel_rfl) (by kernel_rfl) (by kernel_rfl) (by kernel_rfl) ((by first | (first | exact hs.cells2 rfl rfl | exact (hs.pull 1).cells2 rfl rfl | exact (hs.pull 2).cells2 rfl rfl | exact (hs.pull 3).cells2 rfl rfl | exact (hs.pull 4).cells2 rfl rfl | exact (hs.pull 5).cells2 rfl rfl | exact (hs.pull 6).cells2 rfl rfl | exact (hs.pull 7).cells2 rfl rfl | exact (hs.pull 8).cells2 rfl rfl | exact hs.cell rfl | exact (hs.pull 1).cell rfl | exact (hs.pull 2).cell rfl | exact (hs.pull 3).cell rfl | exact (hs.pull 4).cell rfl | exact (hs.pull 5).cell rfl | exact (hs.pull 6).cell rfl | exact (hs.pull 7).cell rfl | exact (hs.pull 8).cell rfl | assumption | exact hs.cellsOf | exact (hs.pull 1).cellsOf | exact (hs.pull 2).cellsOf | exact (hs.pull 3).cellsOf | exact (hs.pull 4).cellsOf | exact (hs.pull 5).cellsOf | exact (hs.pull 6).cellsOf | exact (hs.pull 7).cellsOf | exact (hs.pull 8).cellsOf) | (and_intros <;> first | exact hs.cells2 rfl rfl | exact (hs.pull 1).cells2 rfl rfl | exact (hs.pull 2).cells2 rfl rfl | exact (hs.pull 3).cells2 rfl rfl | exact (hs.pull 4).cells2 rfl rfl | exact (hs.pull 5).cells2 rfl rfl | exact (hs.pull 6).cells2 rfl rfl | exact (hs.pull 7).cells2 rfl rfl | exact (hs.pull 8).cells2 rfl rfl | exact hs.cell rfl | exact (hs.pull 1).cell rfl | exact (hs.pull 2).cell rfl | exact (hs.pull 3).cell rfl | exact (hs.pull 4).cell rfl | exact (hs.pull 5).cell rfl | exact (hs.pull 6).cell rfl | exact (hs.pull 7).cell rfl | exact (hs.pull 8).cell rfl | assumption | exact hs.cellsOf | exact (hs.pull 1).cellsOf | exact (hs.pull 2).cellsOf | exact (hs.pull 3).cellsOf | exact (hs.pull 4).cellsOf | exact (hs.pull 5).cellsOf | exact (hs.pull 6).cellsOf | exact (hs.pull 7).cellsOf | exact (hs.pull 8).cellsOf))) ?_
                  replace hs := hs.drew
                  refine x_move (.pointer _) rfl ?_
                  first | refine x_field0 fa_54_0 _ rfl ?_ | refine x_field fa_54_0 _ _ rfl ?_
                  refine h_loadN [_, _] agg_35 _ rfl (fun w hS => by first | exact hS | exact hS.1 | exact hS.2 | exact hS.2.1 | exact hS.2.2 | exact hS.2.2.1 | exact hS.2.2.2 | exact hS.2.2.2.1 | exact hS.2.2.2.2 | exact hS.2.2.2.2.1 | exact hS.2.2.2.2.2 | exact hS.cellsOf | exact (hS.pull 1).cellsOf | exact (hS.pull 2).cellsOf | exact (hS.pull 3).cellsOf | exact (hS.pull 4).cellsOf | exact (hS.pull 5).cellsOf | exact (hS.pull 6).cellsOf | exact hS.cells2 rfl rfl | exact (hS.pull 1).cells2 rfl rfl | exact (hS.pull 2).cells2 rfl rfl | exact (hS.pull 3).cells2 rfl rfl | exact (hS.pull 4).cells2 rfl rfl | exact (hS.pull 5).cells2 rfl rfl | exact (hS.pull 6).cells2 rfl rfl) ?_
                  first | refine x_field0 fa_54_1 _ rfl ?_ | refine x_field fa_54_1 _ _ rfl ?_
                  refine h_load one_22 _ (.int _ _) rfl (fun w hS => by first | exact hS.cell rfl | exact (hS.pull 1).cell rfl | exact (hS.pull 2).cell rfl | exact (hS.pull 3).cell rfl | exact (hS.pull 4).cell rfl | exact (hS.pull 5).cell rfl | exact (hS.pull 6).cell rfl | exact hS | exact hS.1 | exact hS.2 | exact hS.2.1 | exact hS.2.2 | exact hS.2.2.1 | exact hS.2.2.2 | exact hS.2.2.2.1 | exact hS.2.2.2.2 | exact hS.2.2.2.2.1 | exact hS.2.2.2.2.2) ?_
                  refine x_move (.pointer _) rfl ?_
                  first | refine x_field0 fa_54_0 _ rfl ?_ | refine x_field fa_54_0 _ _ rfl ?_
                  refine h_loadN [_, _] agg_35 _ rfl (fun w hS => by first | exact hS | exact hS.1 | exact hS.2 | exact hS.2.1 | exact hS.2.2 | exact hS.2.2.1 | exact hS.2.2.2 | exact hS.2.2.2.1 | exact hS.2.2.2.2 | exact hS.2.2.2.2.1 | exact hS.2.2.2.2.2 | exact hS.cellsOf | exact (hS.pull 1).cellsOf | exact (hS.pull 2).cellsOf | exact (hS.pull 3).cellsOf | exact (hS.pull 4).cellsOf | exact (hS.pull 5).cellsOf | exact (hS.pull 6).cellsOf | exact hS.cells2 rfl rfl | exact (hS.pull 1).cells2 rfl rfl | exact (hS.pull 2).cells2 rfl rfl | exact (hS.pull 3).cells2 rfl rfl | exact (hS.pull 4).cells2 rfl rfl | exact (hS.pull 5).cells2 rfl rfl | exact (hS.pull 6).cells2 rfl rfl) ?_
                  first | refine x_field0 fa_54_1 _ rfl ?_ | refine x_field fa_54_1 _ _ rfl ?_
                  refine h_load one_22 _ (.int _ _) rfl (fun w hS => by first | exact hS.cell rfl | exact (hS.pull 1).cell rfl | exact (hS.pull 2).cell rfl | exact (hS.pull 3).cell rfl | exact (hS.pull 4).cell rfl | exact (hS.pull 5).cell rfl | exact (hS.pull 6).cell rfl | exact hS | exact hS.1 | exact hS.2 | exact hS.2.1 | exact hS.2.2 | exact hS.2.2.1 | exact hS.2.2.2 | exact hS.2.2.2.1 | exact hS.2.2.2.2 | exact hS.2.2.2.2.1 | exact hS.2.2.2.2.2) ?_
                  refine x_call Try.f13 Try.func13 rfl rfl _ rfl ?_
                  refine ((done_same r.p r.n (hs.pull 4) hrel hm40)).mono ?_
                  clear hs; rintro e w ⟨rfl, hs⟩
                  refine ⟨_, rfl, fun h => (by first | (cases h; done) | (first | exact hs.cells2 rfl rfl | exact (hs.pull 1).cells2 rfl rfl | exact (hs.pull 2).cells2 rfl rfl | exact (hs.pull 3).cells2 rfl rfl | exact (hs.pull 4).cells2 rfl rfl | exact (hs.pull 5).cells2 rfl rfl | exact (hs.pull 6).cells2 rfl rfl | exact (hs.pull 7).cells2 rfl rfl | exact (hs.pull 8).cells2 rfl rfl | exact hs.cell rfl | exact (hs.pull 1).cell rfl | exact (hs.pull 2).cell rfl | exact (hs.pull 3).cell rfl | exact (hs.pull 4).cell rfl | exact (hs.pull 5).cell rfl | exact (hs.pull 6).cell rfl | exact (hs.pull 7).cell rfl | exact (hs.pull 8).cell rfl | assumption | exact hs.cellsOf | exact (hs.pull 1).cellsOf | exact (hs.pull 2).cellsOf | exact (hs.pull 3).cellsOf | exact (hs.pull 4).cellsOf | exact (hs.pull 5).cellsOf | exact (hs.pull 6).cellsOf | exact (hs.pull 7).cellsOf | exact (hs.pull 8).cellsOf) | (and_intros <;> first | exact hs.cells2 rfl rfl | exact (hs.pull 1).cells2 rfl rfl | exact (hs.pull 2).cells2 rfl rfl | exact (hs.pull 3).cells2 rfl rfl | exact (hs.pull 4).cells2 rfl rfl | exact (hs.pull 5).cells2 rfl rfl | exact (hs.pull 6).cells2 rfl rfl | exact (hs.pull 7).cells2 rfl rfl | exact (hs.pull 8).cells2 rfl rfl | exact hs.cell rfl | exact (hs.pull 1).cell rfl | exact (hs.pull 2).cell rfl | exact (hs.pull 3).cell rfl | exact (hs.pull 4).cell rfl | exact (hs.pull 5).cell rfl | exact (hs.pull 6).cell rfl | exact (hs.pull 7).cell rfl | exact (hs.pull 8).cell rfl | assumption | exact hs.cellsOf | exact (hs.pull 1).cellsOf | exact (hs.pull 2).cellsOf | exact (hs.pull 3).cellsOf | exact (hs.pull 4).cellsOf | exact (hs.pull 5).cellsOf | exact (hs.pull 6).cellsOf | exact (hs.pull 7).cellsOf | exact (hs.pull 8).cellsOf)), ?_⟩
                  refine x_call Try.f17 Try.func17 rfl rfl _ rfl ?_
                  refine ((rfinish_calls r.p r.n (hs.perm [2, 3, 0, 1, 4, 5]) hrm (by omega) (by omega) (by omega))).mono ?_
                  clear hs; rintro e w ⟨rfl, hs⟩
                  refine ⟨_, rfl, fun h => (by cases h), ?_⟩
                  refine x_eqlBT _ _ Try.underlying4 rfl rfl (by first | rfl | assumption | (simp; done) | (simp_all; done)) ?_
                  refine x_assign (.bool _) rfl ?_
                  refine x_nil ?_
                  refine inb_n ?_
                  refine then_n ?_
                  exact ⟨(s.done r.p r.n, _, _), ⟨rfl, rfl, rfl, rfl, rfl, rfl, rfl, rfl, trivial⟩, ⟨hrel.done r.p r.n, hs.perm [2, 0, 3, 4, 5, 1]⟩⟩
                · skip
                  refine c_seq ?_
                  -- region 16
                  refine c_region ?_
                  refine x_eql _ _ rfl rfl ?_
                  refine x_assign (.bool _) rfl ?_
                  refine x_nil ?_
                  refine then_n ?_
                  refine c_test _ rfl (fun hb => ?_) (fun hb => ?_)   -- cond t89
                  · skip
                    -- region 17 DRAWS
                    refine c_draw (fun w => (∀ (j : Nat) (u : Value), [Value.int .u16 (P.Id : Nat), Value.int .u32 (P.Inc : Nat)][j]? = some u → w.cell? ((⟨b8, 1, none⟩ : Addr).add j) = some u) ∧ w.cell? ⟨b8, 3, none⟩ = some (.int .u64 (N : Nat))) (fun i => !(Nat.beq i 11)) [(0, 2), (1, 2), (2, 1), (3, 2), (4, 1), (6, 2), (7, 2), (8, 1), (9, 2), (10, 1), (5, 0), (11, 0), (12, 2), (13, 2)] (by kernel_rfl) (by kernel_rfl) (by kernel_rfl) (by kernel_rfl) ((by first | (first | exact hs.cells2 rfl rfl | exact (hs.pull 1).cells2 rfl rfl | exact (hs.pull 2).cells2 rfl rfl | exact (hs.pull 3).cells2 rfl rfl | exact (hs.pull 4).cells2 rfl rfl | exact (hs.pull 5).cells2 rfl rfl | exact (hs.pull 6).cells2 rfl rfl | exact (hs.pull 7).cells2 rfl rfl | exact (hs.pull 8).cells2 rfl rfl | exact hs.cell rfl | exact (hs.pull 1).cell rfl | exact (hs.pull 2).cell rfl | exact (hs.pull 3).cell rfl | exact (hs.pull 4).cell rfl | exact (hs.pull 5).cell rfl | exact (hs.pull 6).cell rfl | exact (hs.pull 7).cell rfl | exact (hs.pull 8).cell rfl | assumption | exact hs.cellsOf | exact (hs.pull 1).cellsOf | exact (hs.pull 2).cellsOf | exact (hs.pull 3).cellsOf | exact (hs.pull 4).cellsOf | exact (hs.pull 5).cellsOf | exact (hs.pull 6).cellsOf | exact (hs.pull 7).cellsOf | exact (hs.pull 8).cellsOf) | (and_intros <;> first | exact hs.cells2 rfl rfl | exact (hs.pull 1).cells2 rfl rfl | exact (hs.pull 2).cells2 rfl rfl | exact (hs.pull 3).cells2 rfl rfl | exact (hs.pull 4).cells2 rfl rfl | exact (hs.pull 5).cells2 rfl rfl | exact (hs.pull 6).cells2 rfl rfl | exact (hs.pull 7).cells2 rfl rfl | exact (hs.pull 8).cells2 rfl rfl | exact hs.cell rfl | exact (hs.pull 1).cell rfl | exact (hs.pull 2).cell rfl | exact (hs.pull 3).cell rfl | exact (hs.pull 4).cell rfl | exact (hs.pull 5).cell rfl | exact (hs.pull 6).cell rfl | exact (hs.pull 7).cell rfl | exact (hs.pull 8).cell rfl | assumption | exact hs.cellsOf | exact (hs.pull 1).cellsOf | exact (hs.pull 2).cellsOf | exact (hs.pull 3).cellsOf | exact (hs.pull 4).cellsOf | exact (hs.pull 5).cellsOf | exact (hs.pull 6).cellsOf | exact (hs.pull 7).cellsOf | exact (hs.pull 8).cellsOf))) ?_
                    replace hs := hs.drew
                    refine x_move (.pointer _) rfl ?_
                    first | refine x_field0 fa_46_1 _ rfl ?_ | refine x_field fa_46_1 _ _ rfl ?_
                    refine h_loadN [_, _] agg_35 _ rfl (fun w hS => by first | exact hS | exact hS.1 | exact hS.2 | exact hS.2.1 | exact hS.2.2 | exact hS.2.2.1 | exact hS.2.2.2 | exact hS.2.2.2.1 | exact hS.2.2.2.2 | exact hS.2.2.2.2.1 | exact hS.2.2.2.2.2 | exact hS.cellsOf | exact (hS.pull 1).cellsOf | exact (hS.pull 2).cellsOf | exact (hS.pull 3).cellsOf | exact (hS.pull 4).cellsOf | exact (hS.pull 5).cellsOf | exact (hS.pull 6).cellsOf | exact hS.cells2 rfl rfl | exact (hS.pull 1).cells2 rfl rfl | exact (hS.pull 2).cells2 rfl rfl | exact (hS.pull 3).cells2 rfl rfl | exact (hS.pull 4).cells2 rfl rfl | exact (hS.pull 5).cells2 rfl rfl | exact (hS.pull 6).cells2 rfl rfl) ?_
                    first | refine x_field0 fa_46_2 _ rfl ?_ | refine x_field fa_46_2 _ _ rfl ?_
                    refine h_load one_22 _ (.int _ _) rfl (fun w hS => by first | exact hS.cell rfl | exact (hS.pull 1).cell rfl | exact (hS.pull 2).cell rfl | exact (hS.pull 3).cell rfl | exact (hS.pull 4).cell rfl | exact (hS.pull 5).cell rfl | exact (hS.pull 6).cell rfl | exact hS | exact hS.1 | exact hS.2 | exact hS.2.1 | exact hS.2.2 | exact hS.2.2.1 | exact hS.2.2.2 | exact hS.2.2.2.1 | exact hS.2.2.2.2 | exact hS.2.2.2.2.1 | exact hS.2.2.2.2.2) ?_
                    refine x_move (.pointer _) rfl ?_
                    first | refine x_field0 fa_46_1 _ rfl ?_ | refine x_field fa_46_1 _ _ rfl ?_
                    refine h_loadN [_, _] agg_35 _ rfl (fun w hS => by first | exact hS | exact hS.1 | exact hS.2 | exact hS.2.1 | exact hS.2.2 | exact hS.2.2.1 | exact hS.2.2.2 | exact hS.2.2.2.1 | exact hS.2.2.2.2 | exact hS.2.2.2.2.1 | exact hS.2.2.2.2.2 | exact hS.cellsOf | exact (hS.pull 1).cellsOf | exact (hS.pull 2).cellsOf | exact (hS.pull 3).cellsOf | exact (hS.pull 4).cellsOf | exact (hS.pull 5).cellsOf | exact (hS.pull 6).cellsOf | exact hS.cells2 rfl rfl | exact (hS.pull 1).cells2 rfl rfl | exact (hS.pull 2).cells2 rfl rfl | exact (hS.pull 3).cells2 rfl rfl | exact (hS.pull 4).cells2 rfl rfl | exact (hS.pull 5).cells2 rfl rfl | exact (hS.pull 6).cells2 rfl rfl) ?_
                    first | refine x_field0 fa_46_2 _ rfl ?_ | refine x_field fa_46_2 _ _ rfl ?_
                    refine h_load one_22 _ (.int _ _) rfl (fun w hS => by first | exact hS.cell rfl | exact (hS.pull 1).cell rfl | exact (hS.pull 2).cell rfl | exact (hS.pull 3).cell rfl | exact (hS.pull 4).cell rfl | exact (hS.pull 5).cell rfl | exact (hS.pull 6).cell rfl | exact hS | exact hS.1 | exact hS.2 | exact hS.2.1 | exact hS.2.2 | exact hS.2.2.1 | exact hS.2.2.2 | exact hS.2.2.2.1 | exact hS.2.2.2.2 | exact hS.2.2.2.2.1 | exact hS.2.2.2.2.2) ?_
                    refine x_call Try.f13 Try.func13 rfl rfl _ rfl ?_
                    refine ((done_same P N (hs.pull 4) hrel hm40)).mono ?_
                    clear hs; rintro e w ⟨rfl, hs⟩
                    refine ⟨_, rfl, fun h => (by first | (cases h; done) | (first | exact hs.cells2 rfl rfl | exact (hs.pull 1).cells2 rfl rfl | exact (hs.pull 2).cells2 rfl rfl | exact (hs.pull 3).cells2 rfl rfl | exact (hs.pull 4).cells2 rfl rfl | exact (hs.pull 5).cells2 rfl rfl | exact (hs.pull 6).cells2 rfl rfl | exact (hs.pull 7).cells2 rfl rfl | exact (hs.pull 8).cells2 rfl rfl | exact hs.cell rfl | exact (hs.pull 1).cell rfl | exact (hs.pull 2).cell rfl | exact (hs.pull 3).cell rfl | exact (hs.pull 4).cell rfl | exact (hs.pull 5).cell rfl | exact (hs.pull 6).cell rfl | exact (hs.pull 7).cell rfl | exact (hs.pull 8).cell rfl | assumption | exact hs.cellsOf | exact (hs.pull 1).cellsOf | exact (hs.pull 2).cellsOf | exact (hs.pull 3).cellsOf | exact (hs.pull 4).cellsOf | exact (hs.pull 5).cellsOf | exact (hs.pull 6).cellsOf | exact (hs.pull 7).cellsOf | exact (hs.pull 8).cellsOf) | (and_intros <;> first | exact hs.cells2 rfl rfl | exact (hs.pull 1).cells2 rfl rfl | exact (hs.pull 2).cells2 rfl rfl | exact (hs.pull 3).cells2 rfl rfl | exact (hs.pull 4).cells2 rfl rfl | exact (hs.pull 5).cells2 rfl rfl | exact (hs.pull 6).cells2 rfl rfl | exact (hs.pull 7).cells2 rfl rfl | exact (hs.pull 8).cells2 rfl rfl | exact hs.cell rfl | exact (hs.pull 1).cell rfl | exact (hs.pull 2).cell rfl | exact (hs.pull 3).cell rfl | exact (hs.pull 4).cell rfl | exact (hs.pull 5).cell rfl | exact (hs.pull 6).cell rfl | exact (hs.pull 7).cell rfl | exact (hs.pull 8).cell rfl | assumption | exact hs.cellsOf | exact (hs.pull 1).cellsOf | exact (hs.pull 2).cellsOf | exact (hs.pull 3).cellsOf | exact (hs.pull 4).cellsOf | exact (hs.pull 5).cellsOf | exact (hs.pull 6).cellsOf | exact (hs.pull 7).cellsOf | exact (hs.pull 8).cellsOf)), ?_⟩
                    refine x_call Try.f17 Try.func17 rfl rfl _ rfl ?_
                    refine ((rfinish_calls P N (hs.perm [2, 3, 0, 1, 4, 5]) hrm (by omega) (by omega) (by omega))).mono ?_
                    clear hs; rintro e w ⟨rfl, hs⟩
                    refine ⟨_, rfl, fun h => (by cases h), ?_⟩
                    refine x_eqlBT _ _ Try.underlying4 rfl rfl (by first | rfl | assumption | (simp; done) | (simp_all; done)) ?_
                    refine x_assign (.bool _) rfl ?_
                    refine x_nil ?_
                    refine inb_n ?_
                    refine then_n ?_
                    exact ⟨(s.done P N, _, _), ⟨rfl, rfl, rfl, rfl, rfl, rfl, rfl, rfl, trivial⟩, ⟨hrel.done P N, hs.perm [2, 0, 3, 4, 5, 1]⟩⟩
                  · skip
                    -- region 13 DRAWS
                    refine c_draw (fun w => (∀ (j : Nat) (u : Value), [Value.int .u16 (P.Id : Nat), Value.int .u32 (P.Inc : Nat)][j]? = some u → w.cell? ((⟨b8, 1, none⟩ : Addr).add j) = some u) ∧ w.cell? ⟨b8, 3, none⟩ = some (.int .u64 (N : Nat)) ∧ w.cell? ⟨b8, 4, none⟩ = some (.slice aD d.length cD)) (fun i => !(Nat.beq i 15)) [(0, 2), (1, 2), (2, 1), (3, 2), (4, 1), (5, 2), (6, 1), (8, 2), (9, 2), (10, 1), (11, 2), (12, 1), (13, 2), (14, 1), (7, 0), (15, 0), (16, 2), (17, 2)] (by kernel_rfl) (by kernel_rfl) (by kernel_rfl) (by kernel_rfl) ((by first | (first | exact hs.cells2 rfl rfl | exact (hs.pull 1).cells2 rfl rfl | exact (hs.pull 2).cells2 rfl rfl | exact (hs.pull 3).cells2 rfl rfl | exact (hs.pull 4).cells2 rfl rfl | exact (hs.pull 5).cells2 rfl rfl | exact (hs.pull 6).cells2 rfl rfl | exact (hs.pull 7).cells2 rfl rfl | exact (hs.pull 8).cells2 rfl rfl | exact hs.cell rfl | exact (hs.pull 1).cell rfl | exact (hs.pull 2).cell rfl | exact (hs.pull 3).cell rfl | exact (hs.pull 4).cell rfl | exact (hs.pull 5).cell rfl | exact (hs.pull 6).cell rfl | exact (hs.pull 7).cell rfl | exact (hs.pull 8).cell rfl | assumption | exact hs.cellsOf | exact (hs.pull 1).cellsOf | exact (hs.pull 2).cellsOf | exact (hs.pull 3).cellsOf | exact (hs.pull 4).cellsOf | exact (hs.pull 5).cellsOf | exact (hs.pull 6).cellsOf | exact (hs.pull 7).cellsOf | exact (hs.pull 8).cellsOf) | (and_intros <;> first | exact hs.cells2 rfl rfl | exact (hs.pull 1).cells2 rfl rfl | exact (hs.pull 2).cells2 rfl rfl | exact (hs.pull 3).cells2 rfl rfl | exact (hs.pull 4).cells2 rfl rfl | exact (hs.pull 5).cells2 rfl rfl | exact (hs.pull 6).cells2 rfl rfl | exact (hs.pull 7).cells2 rfl rfl | exact (hs.pull 8).cells2 rfl rfl | exact hs.cell rfl | exact (hs.pull 1).cell rfl | exact (hs.pull 2).cell rfl | exact (hs.pull 3).cell rfl | exact (hs.pull 4).cell rfl | exact (hs.pull 5).cell rfl | exact (hs.pull 6).cell rfl | exact (hs.pull 7).cell rfl | exact (hs.pull 8).cell rfl | assumption | exact hs.cellsOf | exact (hs.pull 1).cellsOf | exact (hs.pull 2).cellsOf | exact (hs.pull 3).cellsOf | exact (hs.pull 4).cellsOf | exact (hs.pull 5).cellsOf | exact (hs.pull 6).cellsOf | exact (hs.pull 7).cellsOf | exact (hs.pull 8).cellsOf))) ?_
                    replace hs := hs.drew
                    refine x_move (.pointer _) rfl ?_
                    first | refine x_field0 fa_46_1 _ rfl ?_ | refine x_field fa_46_1 _ _ rfl ?_
                    refine h_loadN [_, _] agg_35 _ rfl (fun w hS => by first | exact hS | exact hS.1 | exact hS.2 | exact hS.2.1 | exact hS.2.2 | exact hS.2.2.1 | exact hS.2.2.2 | exact hS.2.2.2.1 | exact hS.2.2.2.2 | exact hS.2.2.2.2.1 | exact hS.2.2.2.2.2 | exact hS.cellsOf | exact (hS.pull 1).cellsOf | exact (hS.pull 2).cellsOf | exact (hS.pull 3).cellsOf | exact (hS.pull 4).cellsOf | exact (hS.pull 5).cellsOf | exact (hS.pull 6).cellsOf | exact hS.cells2 rfl rfl | exact (hS.pull 1).cells2 rfl rfl | exact (hS.pull 2).cells2 rfl rfl | exact (hS.pull 3).cells2 rfl rfl | exact (hS.pull 4).cells2 rfl rfl | exact (hS.pull 5).cells2 rfl rfl | exact (hS.pull 6).cells2 rfl rfl) ?_
                    first | refine x_field0 fa_46_2 _ rfl ?_ | refine x_field fa_46_2 _ _ rfl ?_
                    refine h_load one_22 _ (.int _ _) rfl (fun w hS => by first | exact hS.cell rfl | exact (hS.pull 1).cell rfl | exact (hS.pull 2).cell rfl | exact (hS.pull 3).cell rfl | exact (hS.pull 4).cell rfl | exact (hS.pull 5).cell rfl | exact (hS.pull 6).cell rfl | exact hS | exact hS.1 | exact hS.2 | exact hS.2.1 | exact hS.2.2 | exact hS.2.2.1 | exact hS.2.2.2 | exact hS.2.2.2.1 | exact hS.2.2.2.2 | exact hS.2.2.2.2.1 | exact hS.2.2.2.2.2) ?_
                    first | refine x_field0 fa_46_3 _ rfl ?_ | refine x_field fa_46_3 _ _ rfl ?_
                    refine h_load one_38 _ (.slice _ _ _) rfl (fun w hS => by first | exact hS.cell rfl | exact (hS.pull 1).cell rfl | exact (hS.pull 2).cell rfl | exact (hS.pull 3).cell rfl | exact (hS.pull 4).cell rfl | exact (hS.pull 5).cell rfl | exact (hS.pull 6).cell rfl | exact hS | exact hS.1 | exact hS.2 | exact hS.2.1 | exact hS.2.2 | exact hS.2.2.1 | exact hS.2.2.2 | exact hS.2.2.2.1 | exact hS.2.2.2.2 | exact hS.2.2.2.2.1 | exact hS.2.2.2.2.2) ?_
                    refine x_move (.pointer _) rfl ?_
                    first | refine x_field0 fa_46_1 _ rfl ?_ | refine x_field fa_46_1 _ _ rfl ?_
                    refine h_loadN [_, _] agg_35 _ rfl (fun w hS => by first | exact hS | exact hS.1 | exact hS.2 | exact hS.2.1 | exact hS.2.2 | exact hS.2.2.1 | exact hS.2.2.2 | exact hS.2.2.2.1 | exact hS.2.2.2.2 | exact hS.2.2.2.2.1 | exact hS.2.2.2.2.2 | exact hS.cellsOf | exact (hS.pull 1).cellsOf | exact (hS.pull 2).cellsOf | exact (hS.pull 3).cellsOf | exact (hS.pull 4).cellsOf | exact (hS.pull 5).cellsOf | exact (hS.pull 6).cellsOf | exact hS.cells2 rfl rfl | exact (hS.pull 1).cells2 rfl rfl | exact (hS.pull 2).cells2 rfl rfl | exact (hS.pull 3).cells2 rfl rfl | exact (hS.pull 4).cells2 rfl rfl | exact (hS.pull 5).cells2 rfl rfl | exact (hS.pull 6).cells2 rfl rfl) ?_
                    first | refine x_field0 fa_46_2 _ rfl ?_ | refine x_field fa_46_2 _ _ rfl ?_
                    refine h_load one_22 _ (.int _ _) rfl (fun w hS => by first | exact hS.cell rfl | exact (hS.pull 1).cell rfl | exact (hS.pull 2).cell rfl | exact (hS.pull 3).cell rfl | exact (hS.pull 4).cell rfl | exact (hS.pull 5).cell rfl | exact (hS.pull 6).cell rfl | exact hS | exact hS.1 | exact hS.2 | exact hS.2.1 | exact hS.2.2 | exact hS.2.2.1 | exact hS.2.2.2 | exact hS.2.2.2.1 | exact hS.2.2.2.2 | exact hS.2.2.2.2.1 | exact hS.2.2.2.2.2) ?_
                    first | refine x_field0 fa_46_3 _ rfl ?_ | refine x_field fa_46_3 _ _ rfl ?_
                    refine h_load one_38 _ (.slice _ _ _) rfl (fun w hS => by first | exact hS.cell rfl | exact (hS.pull 1).cell rfl | exact (hS.pull 2).cell rfl | exact (hS.pull 3).cell rfl | exact (hS.pull 4).cell rfl | exact (hS.pull 5).cell rfl | exact (hS.pull 6).cell rfl | exact hS | exact hS.1 | exact hS.2 | exact hS.2.1 | exact hS.2.2 | exact hS.2.2.1 | exact hS.2.2.2 | exact hS.2.2.2.1 | exact hS.2.2.2.2 | exact hS.2.2.2.2.1 | exact hS.2.2.2.2.2) ?_
                    refine x_call Try.f11 Try.func11 rfl rfl _ rfl ?_
                    refine ((put_same P N (hs.perm [4, 2, 0, 1, 3, 5]) hrel hrD hm40 (by omega) hN64)).mono ?_
                    clear hs; rintro e w ⟨rfl, hs⟩
                    refine ⟨_, rfl, fun h => (by first | (cases h; done) | (first | exact hs.cells2 rfl rfl | exact (hs.pull 1).cells2 rfl rfl | exact (hs.pull 2).cells2 rfl rfl | exact (hs.pull 3).cells2 rfl rfl | exact (hs.pull 4).cells2 rfl rfl | exact (hs.pull 5).cells2 rfl rfl | exact (hs.pull 6).cells2 rfl rfl | exact (hs.pull 7).cells2 rfl rfl | exact (hs.pull 8).cells2 rfl rfl | exact hs.cell rfl | exact (hs.pull 1).cell rfl | exact (hs.pull 2).cell rfl | exact (hs.pull 3).cell rfl | exact (hs.pull 4).cell rfl | exact (hs.pull 5).cell rfl | exact (hs.pull 6).cell rfl | exact (hs.pull 7).cell rfl | exact (hs.pull 8).cell rfl | assumption | exact hs.cellsOf | exact (hs.pull 1).cellsOf | exact (hs.pull 2).cellsOf | exact (hs.pull 3).cellsOf | exact (hs.pull 4).cellsOf | exact (hs.pull 5).cellsOf | exact (hs.pull 6).cellsOf | exact (hs.pull 7).cellsOf | exact (hs.pull 8).cellsOf) | (and_intros <;> first | exact hs.cells2 rfl rfl | exact (hs.pull 1).cells2 rfl rfl | exact (hs.pull 2).cells2 rfl rfl | exact (hs.pull 3).cells2 rfl rfl | exact (hs.pull 4).cells2 rfl rfl | exact (hs.pull 5).cells2 rfl rfl | exact (hs.pull 6).cells2 rfl rfl | exact (hs.pull 7).cells2 rfl rfl | exact (hs.pull 8).cells2 rfl rfl | exact hs.cell rfl | exact (hs.pull 1).cell rfl | exact (hs.pull 2).cell rfl | exact (hs.pull 3).cell rfl | exact (hs.pull 4).cell rfl | exact (hs.pull 5).cell rfl | exact (hs.pull 6).cell rfl | exact (hs.pull 7).cell rfl | exact (hs.pull 8).cell rfl | assumption | exact hs.cellsOf | exact (hs.pull 1).cellsOf | exact (hs.pull 2).cellsOf | exact (hs.pull 3).cellsOf | exact (hs.pull 4).cellsOf | exact (hs.pull 5).cellsOf | exact (hs.pull 6).cellsOf | exact (hs.pull 7).cellsOf | exact (hs.pull 8).cellsOf)), ?_⟩
                    refine x_call Try.f18 Try.func18 rfl rfl _ rfl ?_
                    refine ((rput_calls P N (hs.perm [3, 1, 0, 2, 4, 5]) hrm hrD (by omega) (by omega) (by omega) (by omega) hN64)).mono ?_
                    clear hs; rintro e w ⟨u, rfl, hs⟩
                    refine ⟨_, rfl, fun h => (by cases h), ?_⟩
                    refine x_eqlT _ _ rfl rfl (by omega) ?_
                    refine x_assign (.bool _) rfl ?_
                    refine x_nil ?_
                    refine inb_n ?_
                    refine then_n ?_
                    exact ⟨(s.put P N d, _, _), ⟨rfl, rfl, rfl, rfl, rfl, rfl, rfl, rfl, trivial⟩, ⟨hrel.put P N d u, hs.perm [2, 0, 3, 4, 5, 1]⟩⟩
              · skip
                clear hs
                rintro ⟨s', e', dn'⟩ ρ w ⟨hrel', hs⟩
                change CW Try.prog 171 _ _ (sets 171 [(1, .slice (some ⟨g, og, none⟩) acts.length c1), (2, .pointer (some ⟨b2, 0, none⟩)), (5, .pointer (some ⟨f, 0, none⟩)), (6, .pointer (some ⟨x, 0, none⟩)), (7, .int .i64 (i : Nat)), (8, .pointer (some ⟨b8, 0, none⟩)), (9, .bool true), (10, .pointer (some ⟨b10, 0, none⟩))] ρ) w
                refine c_seq ?_
                -- region 18
                have hle := hrel'.le
                have hld := hrel'.ld
                refine c_region ?_
                refine x_move (.pointer _) rfl ?_
                refine x_call Try.f16 Try.func16 rfl rfl _ rfl ?_
                refine ((rnext_calls (hs.perm [1, 5, 0, 2, 3, 4]) hrm (by omega) (by omega) (by omega) hrel'.dnm)).mono ?_
                clear hs; rintro e w ⟨r2, a6, c6, hnr2, rfl, hrb2, hs⟩
                refine ⟨_, rfl, fun h => (by first | (cases h; done) | (first | exact hs.cells2 rfl rfl | exact (hs.pull 1).cells2 rfl rfl | exact (hs.pull 2).cells2 rfl rfl | exact (hs.pull 3).cells2 rfl rfl | exact (hs.pull 4).cells2 rfl rfl | exact (hs.pull 5).cells2 rfl rfl | exact (hs.pull 6).cells2 rfl rfl | exact (hs.pull 7).cells2 rfl rfl | exact (hs.pull 8).cells2 rfl rfl | exact hs.cell rfl | exact (hs.pull 1).cell rfl | exact (hs.pull 2).cell rfl | exact (hs.pull 3).cell rfl | exact (hs.pull 4).cell rfl | exact (hs.pull 5).cell rfl | exact (hs.pull 6).cell rfl | exact (hs.pull 7).cell rfl | exact (hs.pull 8).cell rfl | assumption | exact hs.cellsOf | exact (hs.pull 1).cellsOf | exact (hs.pull 2).cellsOf | exact (hs.pull 3).cellsOf | exact (hs.pull 4).cellsOf | exact (hs.pull 5).cellsOf | exact (hs.pull 6).cellsOf | exact (hs.pull 7).cellsOf | exact (hs.pull 8).cellsOf) | (and_intros <;> first | exact hs.cells2 rfl rfl | exact (hs.pull 1).cells2 rfl rfl | exact (hs.pull 2).cells2 rfl rfl | exact (hs.pull 3).cells2 rfl rfl | exact (hs.pull 4).cells2 rfl rfl | exact (hs.pull 5).cells2 rfl rfl | exact (hs.pull 6).cells2 rfl rfl | exact (hs.pull 7).cells2 rfl rfl | exact (hs.pull 8).cells2 rfl rfl | exact hs.cell rfl | exact (hs.pull 1).cell rfl | exact (hs.pull 2).cell rfl | exact (hs.pull 3).cell rfl | exact (hs.pull 4).cell rfl | exact (hs.pull 5).cell rfl | exact (hs.pull 6).cell rfl | exact (hs.pull 7).cell rfl | exact (hs.pull 8).cell rfl | assumption | exact hs.cellsOf | exact (hs.pull 1).cellsOf | exact (hs.pull 2).cellsOf | exact (hs.pull 3).cellsOf | exact (hs.pull 4).cellsOf | exact (hs.pull 5).cellsOf | exact (hs.pull 6).cellsOf | exact (hs.pull 7).cellsOf | exact (hs.pull 8).cellsOf)), ?_⟩
                refine x_move (.tuple _) rfl ?_
                refine x_extract _ (.agg _) rfl rfl ?_
                refine x_extract _ (.bool _) rfl rfl ?_
                first
                  | refine x_storeAllI hs 0 rfl rfl agg_54 [_, _, _, _] rfl rfl rfl rfl ?_
                  | refine x_storeAllI hs 1 rfl rfl agg_54 [_, _, _, _] rfl rfl rfl rfl ?_
                  | refine x_storeAllI hs 2 rfl rfl agg_54 [_, _, _, _] rfl rfl rfl rfl ?_
                  | refine x_storeAllI hs 3 rfl rfl agg_54 [_, _, _, _] rfl rfl rfl rfl ?_
                  | refine x_storeAllI hs 4 rfl rfl agg_54 [_, _, _, _] rfl rfl rfl rfl ?_
                  | refine x_storeAllI hs 5 rfl rfl agg_54 [_, _, _, _] rfl rfl rfl rfl ?_
                  | refine x_storeAllI hs 6 rfl rfl agg_54 [_, _, _, _] rfl rfl rfl rfl ?_
                  | refine x_storeAllI hs 7 rfl rfl agg_54 [_, _, _, _] rfl rfl rfl rfl ?_
                clear hs; intro w hs
                try dsimp only [back, List.set_cons_zero, List.set_cons_succ] at hs
                refine ⟨fun h => (by first | (cases h; done) | (first | exact hs.cells2 rfl rfl | exact (hs.pull 1).cells2 rfl rfl | exact (hs.pull 2).cells2 rfl rfl | exact (hs.pull 3).cells2 rfl rfl | exact (hs.pull 4).cells2 rfl rfl | exact (hs.pull 5).cells2 rfl rfl | exact (hs.pull 6).cells2 rfl rfl | exact (hs.pull 7).cells2 rfl rfl | exact (hs.pull 8).cells2 rfl rfl | exact hs.cell rfl | exact (hs.pull 1).cell rfl | exact (hs.pull 2).cell rfl | exact (hs.pull 3).cell rfl | exact (hs.pull 4).cell rfl | exact (hs.pull 5).cell rfl | exact (hs.pull 6).cell rfl | exact (hs.pull 7).cell rfl | exact (hs.pull 8).cell rfl | assumption | exact hs.cellsOf | exact (hs.pull 1).cellsOf | exact (hs.pull 2).cellsOf | exact (hs.pull 3).cellsOf | exact (hs.pull 4).cellsOf | exact (hs.pull 5).cellsOf | exact (hs.pull 6).cellsOf | exact (hs.pull 7).cellsOf | exact (hs.pull 8).cellsOf) | (and_intros <;> first | exact hs.cells2 rfl rfl | exact (hs.pull 1).cells2 rfl rfl | exact (hs.pull 2).cells2 rfl rfl | exact (hs.pull 3).cells2 rfl rfl | exact (hs.pull 4).cells2 rfl rfl | exact (hs.pull 5).cells2 rfl rfl | exact (hs.pull 6).cells2 rfl rfl | exact (hs.pull 7).cells2 rfl rfl | exact (hs.pull 8).cells2 rfl rfl | exact hs.cell rfl | exact (hs.pull 1).cell rfl | exact (hs.pull 2).cell rfl | exact (hs.pull 3).cell rfl | exact (hs.pull 4).cell rfl | exact (hs.pull 5).cell rfl | exact (hs.pull 6).cell rfl | exact (hs.pull 7).cell rfl | exact (hs.pull 8).cell rfl | assumption | exact hs.cellsOf | exact (hs.pull 1).cellsOf | exact (hs.pull 2).cellsOf | exact (hs.pull 3).cellsOf | exact (hs.pull 4).cellsOf | exact (hs.pull 5).cellsOf | exact (hs.pull 6).cellsOf | exact (hs.pull 7).cellsOf | exact (hs.pull 8).cellsOf)), ?_⟩
                refine x_assign (.bool _) rfl ?_
                refine x_nil ?_
                refine then_n ?_
                refine c_seq ?_
                -- region 19
                refine c_region ?_
                refine x_move (.pointer _) rfl ?_
                refine x_call Try.f12 Try.func12 rfl rfl _ rfl ?_
                refine ((next_same r2 (hs.pull 2) hrel' hm40 hnr2)).mono ?_
                clear hs; rintro e w ⟨a7, c7, rfl, hs⟩
                refine ⟨_, rfl, fun h => (by first | (cases h; done) | (first | exact hs.cells2 rfl rfl | exact (hs.pull 1).cells2 rfl rfl | exact (hs.pull 2).cells2 rfl rfl | exact (hs.pull 3).cells2 rfl rfl | exact (hs.pull 4).cells2 rfl rfl | exact (hs.pull 5).cells2 rfl rfl | exact (hs.pull 6).cells2 rfl rfl | exact (hs.pull 7).cells2 rfl rfl | exact (hs.pull 8).cells2 rfl rfl | exact hs.cell rfl | exact (hs.pull 1).cell rfl | exact (hs.pull 2).cell rfl | exact (hs.pull 3).cell rfl | exact (hs.pull 4).cell rfl | exact (hs.pull 5).cell rfl | exact (hs.pull 6).cell rfl | exact (hs.pull 7).cell rfl | exact (hs.pull 8).cell rfl | assumption | exact hs.cellsOf | exact (hs.pull 1).cellsOf | exact (hs.pull 2).cellsOf | exact (hs.pull 3).cellsOf | exact (hs.pull 4).cellsOf | exact (hs.pull 5).cellsOf | exact (hs.pull 6).cellsOf | exact (hs.pull 7).cellsOf | exact (hs.pull 8).cellsOf) | (and_intros <;> first | exact hs.cells2 rfl rfl | exact (hs.pull 1).cells2 rfl rfl | exact (hs.pull 2).cells2 rfl rfl | exact (hs.pull 3).cells2 rfl rfl | exact (hs.pull 4).cells2 rfl rfl | exact (hs.pull 5).cells2 rfl rfl | exact (hs.pull 6).cells2 rfl rfl | exact (hs.pull 7).cells2 rfl rfl | exact (hs.pull 8).cells2 rfl rfl | exact hs.cell rfl | exact (hs.pull 1).cell rfl | exact (hs.pull 2).cell rfl | exact (hs.pull 3).cell rfl | exact (hs.pull 4).cell rfl | exact (hs.pull 5).cell rfl | exact (hs.pull 6).cell rfl | exact (hs.pull 7).cell rfl | exact (hs.pull 8).cell rfl | assumption | exact hs.cellsOf | exact (hs.pull 1).cellsOf | exact (hs.pull 2).cellsOf | exact (hs.pull 3).cellsOf | exact (hs.pull 4).cellsOf | exact (hs.pull 5).cellsOf | exact (hs.pull 6).cellsOf | exact (hs.pull 7).cellsOf | exact (hs.pull 8).cellsOf)), ?_⟩
                refine x_move (.tuple _) rfl ?_
                refine x_extract _ (.agg _) rfl rfl ?_
                refine x_extract _ (.int _ _) rfl rfl ?_
                refine x_extract _ (.slice _ _ _) rfl rfl ?_
                refine x_extract _ (.bool _) rfl rfl ?_
                refine x_alloc zi_35 hs ?_; clear hs; intro b12 w hs; refine ⟨fun h => (by first | (cases h; done) | (first | exact hs.cells2 rfl rfl | exact (hs.pull 1).cells2 rfl rfl | exact (hs.pull 2).cells2 rfl rfl | exact (hs.pull 3).cells2 rfl rfl | exact (hs.pull 4).cells2 rfl rfl | exact (hs.pull 5).cells2 rfl rfl | exact (hs.pull 6).cells2 rfl rfl | exact (hs.pull 7).cells2 rfl rfl | exact (hs.pull 8).cells2 rfl rfl | exact hs.cell rfl | exact (hs.pull 1).cell rfl | exact (hs.pull 2).cell rfl | exact (hs.pull 3).cell rfl | exact (hs.pull 4).cell rfl | exact (hs.pull 5).cell rfl | exact (hs.pull 6).cell rfl | exact (hs.pull 7).cell rfl | exact (hs.pull 8).cell rfl | assumption | exact hs.cellsOf | exact (hs.pull 1).cellsOf | exact (hs.pull 2).cellsOf | exact (hs.pull 3).cellsOf | exact (hs.pull 4).cellsOf | exact (hs.pull 5).cellsOf | exact (hs.pull 6).cellsOf | exact (hs.pull 7).cellsOf | exact (hs.pull 8).cellsOf) | (and_intros <;> first | exact hs.cells2 rfl rfl | exact (hs.pull 1).cells2 rfl rfl | exact (hs.pull 2).cells2 rfl rfl | exact (hs.pull 3).cells2 rfl rfl | exact (hs.pull 4).cells2 rfl rfl | exact (hs.pull 5).cells2 rfl rfl | exact (hs.pull 6).cells2 rfl rfl | exact (hs.pull 7).cells2 rfl rfl | exact (hs.pull 8).cells2 rfl rfl | exact hs.cell rfl | exact (hs.pull 1).cell rfl | exact (hs.pull 2).cell rfl | exact (hs.pull 3).cell rfl | exact (hs.pull 4).cell rfl | exact (hs.pull 5).cell rfl | exact (hs.pull 6).cell rfl | exact (hs.pull 7).cell rfl | exact (hs.pull 8).cell rfl | assumption | exact hs.cellsOf | exact (hs.pull 1).cellsOf | exact (hs.pull 2).cellsOf | exact (hs.pull 3).cellsOf | exact (hs.pull 4).cellsOf | exact (hs.pull 5).cellsOf | exact (hs.pull 6).cellsOf | exact (hs.pull 7).cellsOf | exact (hs.pull 8).cellsOf)), ?_⟩
                first
                  | refine x_storeAllI hs 0 rfl rfl agg_35 [_, _] rfl rfl rfl rfl ?_
                  | refine x_storeAllI hs 1 rfl rfl agg_35 [_, _] rfl rfl rfl rfl ?_
                  | refine x_storeAllI hs 2 rfl rfl agg_35 [_, _] rfl rfl rfl rfl ?_
                  | refine x_storeAllI hs 3 rfl rfl agg_35 [_, _] rfl rfl rfl rfl ?_
                  | refine x_storeAllI hs 4 rfl rfl agg_35 [_, _] rfl rfl rfl rfl ?_
                  | refine x_storeAllI hs 5 rfl rfl agg_35 [_, _] rfl rfl rfl rfl ?_
                  | refine x_storeAllI hs 6 rfl rfl agg_35 [_, _] rfl rfl rfl rfl ?_
                  | refine x_storeAllI hs 7 rfl rfl agg_35 [_, _] rfl rfl rfl rfl ?_
                clear hs; intro w hs
                try dsimp only [back, List.set_cons_zero, List.set_cons_succ] at hs
                refine ⟨fun h => (by first | (cases h; done) | (first | exact hs.cells2 rfl rfl | exact (hs.pull 1).cells2 rfl rfl | exact (hs.pull 2).cells2 rfl rfl | exact (hs.pull 3).cells2 rfl rfl | exact (hs.pull 4).cells2 rfl rfl | exact (hs.pull 5).cells2 rfl rfl | exact (hs.pull 6).cells2 rfl rfl | exact (hs.pull 7).cells2 rfl rfl | exact (hs.pull 8).cells2 rfl rfl | exact hs.cell rfl | exact (hs.pull 1).cell rfl | exact (hs.pull 2).cell rfl | exact (hs.pull 3).cell rfl | exact (hs.pull 4).cell rfl | exact (hs.pull 5).cell rfl | exact (hs.pull 6).cell rfl | exact (hs.pull 7).cell rfl | exact (hs.pull 8).cell rfl | assumption | exact hs.cellsOf | exact (hs.pull 1).cellsOf | exact (hs.pull 2).cellsOf | exact (hs.pull 3).cellsOf | exact (hs.pull 4).cellsOf | exact (hs.pull 5).cellsOf | exact (hs.pull 6).cellsOf | exact (hs.pull 7).cellsOf | exact (hs.pull 8).cellsOf) | (and_intros <;> first | exact hs.cells2 rfl rfl | exact (hs.pull 1).cells2 rfl rfl | exact (hs.pull 2).cells2 rfl rfl | exact (hs.pull 3).cells2 rfl rfl | exact (hs.pull 4).cells2 rfl rfl | exact (hs.pull 5).cells2 rfl rfl | exact (hs.pull 6).cells2 rfl rfl | exact (hs.pull 7).cells2 rfl rfl | exact (hs.pull 8).cells2 rfl rfl | exact hs.cell rfl | exact (hs.pull 1).cell rfl | exact (hs.pull 2).cell rfl | exact (hs.pull 3).cell rfl | exact (hs.pull 4).cell rfl | exact (hs.pull 5).cell rfl | exact (hs.pull 6).cell rfl | exact (hs.pull 7).cell rfl | exact (hs.pull 8).cell rfl | assumption | exact hs.cellsOf | exact (hs.pull 1).cellsOf | exact (hs.pull 2).cellsOf | exact (hs.pull 3).cellsOf | exact (hs.pull 4).cellsOf | exact (hs.pull 5).cellsOf | exact (hs.pull 6).cellsOf | exact (hs.pull 7).cellsOf | exact (hs.pull 8).cellsOf)), ?_⟩
                refine x_assign (.int _ _) rfl ?_
                refine x_assign (.slice _ _ _) rfl ?_
                refine x_assign (.bool _) rfl ?_
                refine x_nil ?_
                refine then_n ?_
                refine c_seq ?_
                -- region 20 DRAWS
                have hr2l := hrel'.len hnr2
                obtain ⟨a, c, a', c', hs⟩ := (hs.pull 3).ri
                replace hs := hs.perm [0, 1, 2, 3, 4, 8, 9, 10, 6, 5, 7]
                refine c_draw (fun w => (∀ (j : Nat) (u : Value), [Value.int .u16 (r2.p.Id : Nat), Value.int .u32 (r2.p.Inc : Nat)][j]? = some u → w.cell? ((⟨b12, 0, none⟩ : Addr).add j) = some u) ∧ (∀ (j : Nat) (u : Value), [Value.int .u16 (r2.p.Id : Nat), Value.int .u32 (r2.p.Inc : Nat)][j]? = some u → w.cell? ((⟨b10, 0, none⟩ : Addr).add j) = some u) ∧ w.cell? ⟨b10, 2, none⟩ = some (.int .u64 (r2.n : Nat)) ∧ w.cell? ⟨b10, 3, none⟩ = some (.slice a6 r2.d.length c6)) (fun i => !(Nat.beq i 23 || Nat.beq i 44)) [(0, 2), (1, 2), (2, 2), (3, 2), (4, 2), (5, 2), (6, 2), (7, 2), (8, 1), (9, 2), (10, 1), (11, 2), (12, 2), (13, 2), (14, 2), (15, 2), (16, 1), (17, 2), (18, 2), (19, 2), (20, 2), (21, 2), (22, 1), (23, 0), (24, 2), (25, 2), (26, 2), (27, 2), (29, 2), (30, 2), (31, 2), (0, 3), (32, 1), (33, 2), (28, 0), (34, 2), (35, 2), (36, 2), (37, 2), (38, 2), (39, 1), (41, 2), (42, 2), (43, 1), (40, 0), (44, 0), (45, 2), (46, 2), (47, 2), (48, 2), (50, 2), (0, 3), (51, 1), (49, 0), (52, 2), (53, 2)] (by kernel_rfl) (by kernel_rfl) (by kernel_rfl) (by kernel_rfl) ((by first | (first | exact hs.cells2 rfl rfl | exact (hs.pull 1).cells2 rfl rfl | exact (hs.pull 2).cells2 rfl rfl | exact (hs.pull 3).cells2 rfl rfl | exact (hs.pull 4).cells2 rfl rfl | exact (hs.pull 5).cells2 rfl rfl | exact (hs.pull 6).cells2 rfl rfl | exact (hs.pull 7).cells2 rfl rfl | exact (hs.pull 8).cells2 rfl rfl | exact hs.cell rfl | exact (hs.pull 1).cell rfl | exact (hs.pull 2).cell rfl | exact (hs.pull 3).cell rfl | exact (hs.pull 4).cell rfl | exact (hs.pull 5).cell rfl | exact (hs.pull 6).cell rfl | exact (hs.pull 7).cell rfl | exact (hs.pull 8).cell rfl | assumption | exact hs.cellsOf | exact (hs.pull 1).cellsOf | exact (hs.pull 2).cellsOf | exact (hs.pull 3).cellsOf | exact (hs.pull 4).cellsOf | exact (hs.pull 5).cellsOf | exact (hs.pull 6).cellsOf | exact (hs.pull 7).cellsOf | exact (hs.pull 8).cellsOf) | (and_intros <;> first | exact hs.cells2 rfl rfl | exact (hs.pull 1).cells2 rfl rfl | exact (hs.pull 2).cells2 rfl rfl | exact (hs.pull 3).cells2 rfl rfl | exact (hs.pull 4).cells2 rfl rfl | exact (hs.pull 5).cells2 rfl rfl | exact (hs.pull 6).cells2 rfl rfl | exact (hs.pull 7).cells2 rfl rfl | exact (hs.pull 8).cells2 rfl rfl | exact hs.cell rfl | exact (hs.pull 1).cell rfl | exact (hs.pull 2).cell rfl | exact (hs.pull 3).cell rfl | exact (hs.pull 4).cell rfl | exact (hs.pull 5).cell rfl | exact (hs.pull 6).cell rfl | exact (hs.pull 7).cell rfl | exact (hs.pull 8).cell rfl | assumption | exact hs.cellsOf | exact (hs.pull 1).cellsOf | exact (hs.pull 2).cellsOf | exact (hs.pull 3).cellsOf | exact (hs.pull 4).cellsOf | exact (hs.pull 5).cellsOf | exact (hs.pull 6).cellsOf | exact (hs.pull 7).cellsOf | exact (hs.pull 8).cellsOf))) ?_
                replace hs := hs.drew
                refine x_move (.bool _) rfl ?_
                refine x_not _ rfl ?_
                refine x_move (.bool _) rfl ?_
                refine x_want' rfl ?_
                refine x_move (.bool _) rfl ?_
                refine x_want' rfl ?_
                refine x_move (.bool _) rfl ?_
                refine x_want' rfl ?_
                refine x_neqBF _ _ Try.underlying4 rfl rfl (by first | rfl | assumption | (simp; done) | (simp_all; done)) ?_
                refine x_pickF (.bool _) rfl rfl ?_
                refine x_move (.bool _) rfl ?_
                refine x_want' rfl ?_
                refine h_loadN [_, _] agg_35 _ rfl (fun w hS => by first | exact hS | exact hS.1 | exact hS.2 | exact hS.2.1 | exact hS.2.2 | exact hS.2.2.1 | exact hS.2.2.2 | exact hS.2.2.2.1 | exact hS.2.2.2.2 | exact hS.2.2.2.2.1 | exact hS.2.2.2.2.2 | exact hS.cellsOf | exact (hS.pull 1).cellsOf | exact (hS.pull 2).cellsOf | exact (hS.pull 3).cellsOf | exact (hS.pull 4).cellsOf | exact (hS.pull 5).cellsOf | exact (hS.pull 6).cellsOf | exact hS.cells2 rfl rfl | exact (hS.pull 1).cells2 rfl rfl | exact (hS.pull 2).cells2 rfl rfl | exact (hS.pull 3).cells2 rfl rfl | exact (hS.pull 4).cells2 rfl rfl | exact (hS.pull 5).cells2 rfl rfl | exact (hS.pull 6).cells2 rfl rfl) ?_
                refine x_want' rfl ?_
                first | refine x_field0 fa_54_0 _ rfl ?_ | refine x_field fa_54_0 _ _ rfl ?_
                refine x_want' rfl ?_
                refine h_loadN [_, _] agg_35 _ rfl (fun w hS => by first | exact hS | exact hS.1 | exact hS.2 | exact hS.2.1 | exact hS.2.2 | exact hS.2.2.1 | exact hS.2.2.2 | exact hS.2.2.2.1 | exact hS.2.2.2.2 | exact hS.2.2.2.2.1 | exact hS.2.2.2.2.2 | exact hS.cellsOf | exact (hS.pull 1).cellsOf | exact (hS.pull 2).cellsOf | exact (hS.pull 3).cellsOf | exact (hS.pull 4).cellsOf | exact (hS.pull 5).cellsOf | exact (hS.pull 6).cellsOf | exact hS.cells2 rfl rfl | exact (hS.pull 1).cells2 rfl rfl | exact (hS.pull 2).cells2 rfl rfl | exact (hS.pull 3).cells2 rfl rfl | exact (hS.pull 4).cells2 rfl rfl | exact (hS.pull 5).cells2 rfl rfl | exact (hS.pull 6).cells2 rfl rfl) ?_
                refine x_want' rfl ?_
                refine x_neqEF eq_pid r2.p r2.p rfl rfl rfl ?_
                refine x_pickF (.bool _) rfl rfl ?_
                refine x_move (.bool _) rfl ?_
                refine x_want' rfl ?_
                refine x_move (.int _ _) rfl ?_
                refine x_want' rfl ?_
                first | refine x_field0 fa_54_1 _ rfl ?_ | refine x_field fa_54_1 _ _ rfl ?_
                refine x_want' rfl ?_
                refine h_load one_22 _ (.int _ _) rfl (fun w hS => by first | exact hS.cell rfl | exact (hS.pull 1).cell rfl | exact (hS.pull 2).cell rfl | exact (hS.pull 3).cell rfl | exact (hS.pull 4).cell rfl | exact (hS.pull 5).cell rfl | exact (hS.pull 6).cell rfl | exact hS | exact hS.1 | exact hS.2 | exact hS.2.1 | exact hS.2.2 | exact hS.2.2.1 | exact hS.2.2.2 | exact hS.2.2.2.1 | exact hS.2.2.2.2 | exact hS.2.2.2.2.1 | exact hS.2.2.2.2.2) ?_
                refine x_want' rfl ?_
                refine x_neqF _ _ rfl rfl (by omega) ?_
                refine x_pickF (.bool _) rfl rfl ?_
                refine x_move (.bool _) rfl ?_
                refine x_want' rfl ?_
                refine x_move (.slice _ _ _) rfl ?_
                refine x_want' rfl ?_
                first | refine x_field0 fa_54_2 _ rfl ?_ | refine x_field fa_54_2 _ _ rfl ?_
                refine x_want' rfl ?_
                refine h_load one_38 _ (.slice _ _ _) rfl (fun w hS => by first | exact hS.cell rfl | exact (hS.pull 1).cell rfl | exact (hS.pull 2).cell rfl | exact (hS.pull 3).cell rfl | exact (hS.pull 4).cell rfl | exact (hS.pull 5).cell rfl | exact (hS.pull 6).cell rfl | exact hS | exact hS.1 | exact hS.2 | exact hS.2.1 | exact hS.2.2 | exact hS.2.2.1 | exact hS.2.2.2 | exact hS.2.2.2.1 | exact hS.2.2.2.2 | exact hS.2.2.2.2.1 | exact hS.2.2.2.2.2) ?_
                refine x_want' rfl ?_
                refine x_call Try.f19 Try.func19 rfl rfl _ rfl ?_
                refine ((eqSame_calls hs ((hs.pull 9).br) (hrb2 _ _ (Sat.ri' hs)) (by omega))).mono ?_
                clear hs; rintro e w ⟨rfl, hs⟩
                refine ⟨_, rfl, fun h => (by first | (cases h; done) | (first | exact hs.cells2 rfl rfl | exact (hs.pull 1).cells2 rfl rfl | exact (hs.pull 2).cells2 rfl rfl | exact (hs.pull 3).cells2 rfl rfl | exact (hs.pull 4).cells2 rfl rfl | exact (hs.pull 5).cells2 rfl rfl | exact (hs.pull 6).cells2 rfl rfl | exact (hs.pull 7).cells2 rfl rfl | exact (hs.pull 8).cells2 rfl rfl | exact hs.cell rfl | exact (hs.pull 1).cell rfl | exact (hs.pull 2).cell rfl | exact (hs.pull 3).cell rfl | exact (hs.pull 4).cell rfl | exact (hs.pull 5).cell rfl | exact (hs.pull 6).cell rfl | exact (hs.pull 7).cell rfl | exact (hs.pull 8).cell rfl | assumption | exact hs.cellsOf | exact (hs.pull 1).cellsOf | exact (hs.pull 2).cellsOf | exact (hs.pull 3).cellsOf | exact (hs.pull 4).cellsOf | exact (hs.pull 5).cellsOf | exact (hs.pull 6).cellsOf | exact (hs.pull 7).cellsOf | exact (hs.pull 8).cellsOf) | (and_intros <;> first | exact hs.cells2 rfl rfl | exact (hs.pull 1).cells2 rfl rfl | exact (hs.pull 2).cells2 rfl rfl | exact (hs.pull 3).cells2 rfl rfl | exact (hs.pull 4).cells2 rfl rfl | exact (hs.pull 5).cells2 rfl rfl | exact (hs.pull 6).cells2 rfl rfl | exact (hs.pull 7).cells2 rfl rfl | exact (hs.pull 8).cells2 rfl rfl | exact hs.cell rfl | exact (hs.pull 1).cell rfl | exact (hs.pull 2).cell rfl | exact (hs.pull 3).cell rfl | exact (hs.pull 4).cell rfl | exact (hs.pull 5).cell rfl | exact (hs.pull 6).cell rfl | exact (hs.pull 7).cell rfl | exact (hs.pull 8).cell rfl | assumption | exact hs.cellsOf | exact (hs.pull 1).cellsOf | exact (hs.pull 2).cellsOf | exact (hs.pull 3).cellsOf | exact (hs.pull 4).cellsOf | exact (hs.pull 5).cellsOf | exact (hs.pull 6).cellsOf | exact (hs.pull 7).cellsOf | exact (hs.pull 8).cellsOf)), ?_⟩
                refine x_want' rfl ?_
                refine x_not _ rfl ?_
                refine x_pickF (.bool _) rfl rfl ?_
                refine x_move (.bool _) rfl ?_
                refine x_want' rfl ?_
                refine x_move (.pointer _) rfl ?_
                refine x_want' rfl ?_
                refine x_move (.pointer _) rfl ?_
                refine x_want' rfl ?_
                refine x_nilCheck _ rfl ?_
                refine x_want' rfl ?_
                first | refine x_field0 fa_52_1 _ rfl ?_ | refine x_field fa_52_1 _ _ rfl ?_
                refine x_reset (fun w => w.cell? ⟨x, 1, none⟩ = some (.slice a e'.length c) ∧ (∀ (j : Nat) (u : Value), [Value.int .u16 (P.Id : Nat), Value.int .u32 (P.Inc : Nat)][j]? = some u → w.cell? ((⟨b8, 1, none⟩ : Addr).add j) = some u)) ((by first | (first | exact hs.cells2 rfl rfl | exact (hs.pull 1).cells2 rfl rfl | exact (hs.pull 2).cells2 rfl rfl | exact (hs.pull 3).cells2 rfl rfl | exact (hs.pull 4).cells2 rfl rfl | exact (hs.pull 5).cells2 rfl rfl | exact (hs.pull 6).cells2 rfl rfl | exact (hs.pull 7).cells2 rfl rfl | exact (hs.pull 8).cells2 rfl rfl | exact hs.cell rfl | exact (hs.pull 1).cell rfl | exact (hs.pull 2).cell rfl | exact (hs.pull 3).cell rfl | exact (hs.pull 4).cell rfl | exact (hs.pull 5).cell rfl | exact (hs.pull 6).cell rfl | exact (hs.pull 7).cell rfl | exact (hs.pull 8).cell rfl | assumption | exact hs.cellsOf | exact (hs.pull 1).cellsOf | exact (hs.pull 2).cellsOf | exact (hs.pull 3).cellsOf | exact (hs.pull 4).cellsOf | exact (hs.pull 5).cellsOf | exact (hs.pull 6).cellsOf | exact (hs.pull 7).cellsOf | exact (hs.pull 8).cellsOf) | (and_intros <;> first | exact hs.cells2 rfl rfl | exact (hs.pull 1).cells2 rfl rfl | exact (hs.pull 2).cells2 rfl rfl | exact (hs.pull 3).cells2 rfl rfl | exact (hs.pull 4).cells2 rfl rfl | exact (hs.pull 5).cells2 rfl rfl | exact (hs.pull 6).cells2 rfl rfl | exact (hs.pull 7).cells2 rfl rfl | exact (hs.pull 8).cells2 rfl rfl | exact hs.cell rfl | exact (hs.pull 1).cell rfl | exact (hs.pull 2).cell rfl | exact (hs.pull 3).cell rfl | exact (hs.pull 4).cell rfl | exact (hs.pull 5).cell rfl | exact (hs.pull 6).cell rfl | exact (hs.pull 7).cell rfl | exact (hs.pull 8).cell rfl | assumption | exact hs.cellsOf | exact (hs.pull 1).cellsOf | exact (hs.pull 2).cellsOf | exact (hs.pull 3).cellsOf | exact (hs.pull 4).cellsOf | exact (hs.pull 5).cellsOf | exact (hs.pull 6).cellsOf | exact (hs.pull 7).cellsOf | exact (hs.pull 8).cellsOf))) ?_
                refine x_want' rfl ?_
                refine h_load one_50 _ (.slice _ _ _) rfl (fun w hS => by first | exact hS.cell rfl | exact (hS.pull 1).cell rfl | exact (hS.pull 2).cell rfl | exact (hS.pull 3).cell rfl | exact (hS.pull 4).cell rfl | exact (hS.pull 5).cell rfl | exact (hS.pull 6).cell rfl | exact hS | exact hS.1 | exact hS.2 | exact hS.2.1 | exact hS.2.2 | exact hS.2.2.1 | exact hS.2.2.2 | exact hS.2.2.2.1 | exact hS.2.2.2.2 | exact hS.2.2.2.2.1 | exact hS.2.2.2.2.2) ?_
                refine x_want' rfl ?_
                refine x_lenSl Try.underlying50 _ _ _ rfl ?_
                refine x_want' rfl ?_
                refine x_call Try.f14 Try.func14 rfl rfl _ rfl ?_
                refine (len_same (hs.pull 8) hrel').mono ?_
                clear hs; rintro e w ⟨rfl, hs⟩
                replace hs := hs.push 8
                try dsimp only [back] at hs
                refine ⟨_, rfl, fun h => (by first | (cases h; done) | (first | exact hs.cells2 rfl rfl | exact (hs.pull 1).cells2 rfl rfl | exact (hs.pull 2).cells2 rfl rfl | exact (hs.pull 3).cells2 rfl rfl | exact (hs.pull 4).cells2 rfl rfl | exact (hs.pull 5).cells2 rfl rfl | exact (hs.pull 6).cells2 rfl rfl | exact (hs.pull 7).cells2 rfl rfl | exact (hs.pull 8).cells2 rfl rfl | exact hs.cell rfl | exact (hs.pull 1).cell rfl | exact (hs.pull 2).cell rfl | exact (hs.pull 3).cell rfl | exact (hs.pull 4).cell rfl | exact (hs.pull 5).cell rfl | exact (hs.pull 6).cell rfl | exact (hs.pull 7).cell rfl | exact (hs.pull 8).cell rfl | assumption | exact hs.cellsOf | exact (hs.pull 1).cellsOf | exact (hs.pull 2).cellsOf | exact (hs.pull 3).cellsOf | exact (hs.pull 4).cellsOf | exact (hs.pull 5).cellsOf | exact (hs.pull 6).cellsOf | exact (hs.pull 7).cellsOf | exact (hs.pull 8).cellsOf) | (and_intros <;> first | exact hs.cells2 rfl rfl | exact (hs.pull 1).cells2 rfl rfl | exact (hs.pull 2).cells2 rfl rfl | exact (hs.pull 3).cells2 rfl rfl | exact (hs.pull 4).cells2 rfl rfl | exact (hs.pull 5).cells2 rfl rfl | exact (hs.pull 6).cells2 rfl rfl | exact (hs.pull 7).cells2 rfl rfl | exact (hs.pull 8).cells2 rfl rfl | exact hs.cell rfl | exact (hs.pull 1).cell rfl | exact (hs.pull 2).cell rfl | exact (hs.pull 3).cell rfl | exact (hs.pull 4).cell rfl | exact (hs.pull 5).cell rfl | exact (hs.pull 6).cell rfl | exact (hs.pull 7).cell rfl | exact (hs.pull 8).cell rfl | assumption | exact hs.cellsOf | exact (hs.pull 1).cellsOf | exact (hs.pull 2).cellsOf | exact (hs.pull 3).cellsOf | exact (hs.pull 4).cellsOf | exact (hs.pull 5).cellsOf | exact (hs.pull 6).cellsOf | exact (hs.pull 7).cellsOf | exact (hs.pull 8).cellsOf)), ?_⟩
                refine x_want' rfl ?_
                refine x_neqF _ _ rfl rfl (by omega) ?_
                refine x_pickF (.bool _) rfl rfl ?_
                refine x_move (.bool _) rfl ?_
                refine x_want' rfl ?_
                refine x_move (.pointer _) rfl ?_
                refine x_want' rfl ?_
                first | refine x_field0 fa_46_1 _ rfl ?_ | refine x_field fa_46_1 _ _ rfl ?_
                refine x_want' rfl ?_
                refine h_loadN [_, _] agg_35 _ rfl (fun w hS => by first | exact hS | exact hS.1 | exact hS.2 | exact hS.2.1 | exact hS.2.2 | exact hS.2.2.1 | exact hS.2.2.2 | exact hS.2.2.2.1 | exact hS.2.2.2.2 | exact hS.2.2.2.2.1 | exact hS.2.2.2.2.2 | exact hS.cellsOf | exact (hS.pull 1).cellsOf | exact (hS.pull 2).cellsOf | exact (hS.pull 3).cellsOf | exact (hS.pull 4).cellsOf | exact (hS.pull 5).cellsOf | exact (hS.pull 6).cellsOf | exact hS.cells2 rfl rfl | exact (hS.pull 1).cells2 rfl rfl | exact (hS.pull 2).cells2 rfl rfl | exact (hS.pull 3).cells2 rfl rfl | exact (hS.pull 4).cells2 rfl rfl | exact (hS.pull 5).cells2 rfl rfl | exact (hS.pull 6).cells2 rfl rfl) ?_
                refine x_want' rfl ?_
                refine x_move (.pointer _) rfl ?_
                refine x_want' rfl ?_
                first | refine x_field0 fa_46_1 _ rfl ?_ | refine x_field fa_46_1 _ _ rfl ?_
                refine x_want' rfl ?_
                refine h_loadN [_, _] agg_35 _ rfl (fun w hS => by first | exact hS | exact hS.1 | exact hS.2 | exact hS.2.1 | exact hS.2.2 | exact hS.2.2.1 | exact hS.2.2.2 | exact hS.2.2.2.1 | exact hS.2.2.2.2 | exact hS.2.2.2.2.1 | exact hS.2.2.2.2.2 | exact hS.cellsOf | exact (hS.pull 1).cellsOf | exact (hS.pull 2).cellsOf | exact (hS.pull 3).cellsOf | exact (hS.pull 4).cellsOf | exact (hS.pull 5).cellsOf | exact (hS.pull 6).cellsOf | exact hS.cells2 rfl rfl | exact (hS.pull 1).cells2 rfl rfl | exact (hS.pull 2).cells2 rfl rfl | exact (hS.pull 3).cells2 rfl rfl | exact (hS.pull 4).cells2 rfl rfl | exact (hS.pull 5).cells2 rfl rfl | exact (hS.pull 6).cells2 rfl rfl) ?_
                refine x_want' rfl ?_
                refine x_call Try.f20 Try.func20 rfl rfl _ rfl ?_
                refine (last_same P (hs.pull 8) hrel').mono ?_
                clear hs; rintro e w ⟨rfl, hs⟩
                replace hs := hs.push 8
                try dsimp only [back] at hs
                refine ⟨_, rfl, fun h => (by first | (cases h; done) | (first | exact hs.cells2 rfl rfl | exact (hs.pull 1).cells2 rfl rfl | exact (hs.pull 2).cells2 rfl rfl | exact (hs.pull 3).cells2 rfl rfl | exact (hs.pull 4).cells2 rfl rfl | exact (hs.pull 5).cells2 rfl rfl | exact (hs.pull 6).cells2 rfl rfl | exact (hs.pull 7).cells2 rfl rfl | exact (hs.pull 8).cells2 rfl rfl | exact hs.cell rfl | exact (hs.pull 1).cell rfl | exact (hs.pull 2).cell rfl | exact (hs.pull 3).cell rfl | exact (hs.pull 4).cell rfl | exact (hs.pull 5).cell rfl | exact (hs.pull 6).cell rfl | exact (hs.pull 7).cell rfl | exact (hs.pull 8).cell rfl | assumption | exact hs.cellsOf | exact (hs.pull 1).cellsOf | exact (hs.pull 2).cellsOf | exact (hs.pull 3).cellsOf | exact (hs.pull 4).cellsOf | exact (hs.pull 5).cellsOf | exact (hs.pull 6).cellsOf | exact (hs.pull 7).cellsOf | exact (hs.pull 8).cellsOf) | (and_intros <;> first | exact hs.cells2 rfl rfl | exact (hs.pull 1).cells2 rfl rfl | exact (hs.pull 2).cells2 rfl rfl | exact (hs.pull 3).cells2 rfl rfl | exact (hs.pull 4).cells2 rfl rfl | exact (hs.pull 5).cells2 rfl rfl | exact (hs.pull 6).cells2 rfl rfl | exact (hs.pull 7).cells2 rfl rfl | exact (hs.pull 8).cells2 rfl rfl | exact hs.cell rfl | exact (hs.pull 1).cell rfl | exact (hs.pull 2).cell rfl | exact (hs.pull 3).cell rfl | exact (hs.pull 4).cell rfl | exact (hs.pull 5).cell rfl | exact (hs.pull 6).cell rfl | exact (hs.pull 7).cell rfl | exact (hs.pull 8).cell rfl | assumption | exact hs.cellsOf | exact (hs.pull 1).cellsOf | exact (hs.pull 2).cellsOf | exact (hs.pull 3).cellsOf | exact (hs.pull 4).cellsOf | exact (hs.pull 5).cellsOf | exact (hs.pull 6).cellsOf | exact (hs.pull 7).cellsOf | exact (hs.pull 8).cellsOf)), ?_⟩
                refine x_want' rfl ?_
                refine x_call Try.f21 Try.func21 rfl rfl _ rfl ?_
                refine ((rlast2_calls P hs (by omega))).mono ?_
                clear hs; rintro e w ⟨rfl, hs⟩
                refine ⟨_, rfl, fun h => (by first | (cases h; done) | (first | exact hs.cells2 rfl rfl | exact (hs.pull 1).cells2 rfl rfl | exact (hs.pull 2).cells2 rfl rfl | exact (hs.pull 3).cells2 rfl rfl | exact (hs.pull 4).cells2 rfl rfl | exact (hs.pull 5).cells2 rfl rfl | exact (hs.pull 6).cells2 rfl rfl | exact (hs.pull 7).cells2 rfl rfl | exact (hs.pull 8).cells2 rfl rfl | exact hs.cell rfl | exact (hs.pull 1).cell rfl | exact (hs.pull 2).cell rfl | exact (hs.pull 3).cell rfl | exact (hs.pull 4).cell rfl | exact (hs.pull 5).cell rfl | exact (hs.pull 6).cell rfl | exact (hs.pull 7).cell rfl | exact (hs.pull 8).cell rfl | assumption | exact hs.cellsOf | exact (hs.pull 1).cellsOf | exact (hs.pull 2).cellsOf | exact (hs.pull 3).cellsOf | exact (hs.pull 4).cellsOf | exact (hs.pull 5).cellsOf | exact (hs.pull 6).cellsOf | exact (hs.pull 7).cellsOf | exact (hs.pull 8).cellsOf) | (and_intros <;> first | exact hs.cells2 rfl rfl | exact (hs.pull 1).cells2 rfl rfl | exact (hs.pull 2).cells2 rfl rfl | exact (hs.pull 3).cells2 rfl rfl | exact (hs.pull 4).cells2 rfl rfl | exact (hs.pull 5).cells2 rfl rfl | exact (hs.pull 6).cells2 rfl rfl | exact (hs.pull 7).cells2 rfl rfl | exact (hs.pull 8).cells2 rfl rfl | exact hs.cell rfl | exact (hs.pull 1).cell rfl | exact (hs.pull 2).cell rfl | exact (hs.pull 3).cell rfl | exact (hs.pull 4).cell rfl | exact (hs.pull 5).cell rfl | exact (hs.pull 6).cell rfl | exact (hs.pull 7).cell rfl | exact (hs.pull 8).cell rfl | assumption | exact hs.cellsOf | exact (hs.pull 1).cellsOf | exact (hs.pull 2).cellsOf | exact (hs.pull 3).cellsOf | exact (hs.pull 4).cellsOf | exact (hs.pull 5).cellsOf | exact (hs.pull 6).cellsOf | exact (hs.pull 7).cellsOf | exact (hs.pull 8).cellsOf)), ?_⟩
                refine x_want' rfl ?_
                refine x_neqF _ _ rfl rfl (by omega) ?_
                refine x_pickF (.bool _) rfl rfl ?_
                refine x_move (.bool _) rfl ?_
                refine x_want' rfl ?_
                refine x_move (.pointer _) rfl ?_
                refine x_want' rfl ?_
                first | refine x_field0 fa_26_0 _ rfl ?_ | refine x_field fa_26_0 _ _ rfl ?_
                refine x_reset (fun w => w.cell? ⟨b2, 0, none⟩ = some (.int .u64 (D.Id : Nat))) ((by first | (first | exact hs.cells2 rfl rfl | exact (hs.pull 1).cells2 rfl rfl | exact (hs.pull 2).cells2 rfl rfl | exact (hs.pull 3).cells2 rfl rfl | exact (hs.pull 4).cells2 rfl rfl | exact (hs.pull 5).cells2 rfl rfl | exact (hs.pull 6).cells2 rfl rfl | exact (hs.pull 7).cells2 rfl rfl | exact (hs.pull 8).cells2 rfl rfl | exact hs.cell rfl | exact (hs.pull 1).cell rfl | exact (hs.pull 2).cell rfl | exact (hs.pull 3).cell rfl | exact (hs.pull 4).cell rfl | exact (hs.pull 5).cell rfl | exact (hs.pull 6).cell rfl | exact (hs.pull 7).cell rfl | exact (hs.pull 8).cell rfl | assumption | exact hs.cellsOf | exact (hs.pull 1).cellsOf | exact (hs.pull 2).cellsOf | exact (hs.pull 3).cellsOf | exact (hs.pull 4).cellsOf | exact (hs.pull 5).cellsOf | exact (hs.pull 6).cellsOf | exact (hs.pull 7).cellsOf | exact (hs.pull 8).cellsOf) | (and_intros <;> first | exact hs.cells2 rfl rfl | exact (hs.pull 1).cells2 rfl rfl | exact (hs.pull 2).cells2 rfl rfl | exact (hs.pull 3).cells2 rfl rfl | exact (hs.pull 4).cells2 rfl rfl | exact (hs.pull 5).cells2 rfl rfl | exact (hs.pull 6).cells2 rfl rfl | exact (hs.pull 7).cells2 rfl rfl | exact (hs.pull 8).cells2 rfl rfl | exact hs.cell rfl | exact (hs.pull 1).cell rfl | exact (hs.pull 2).cell rfl | exact (hs.pull 3).cell rfl | exact (hs.pull 4).cell rfl | exact (hs.pull 5).cell rfl | exact (hs.pull 6).cell rfl | exact (hs.pull 7).cell rfl | exact (hs.pull 8).cell rfl | assumption | exact hs.cellsOf | exact (hs.pull 1).cellsOf | exact (hs.pull 2).cellsOf | exact (hs.pull 3).cellsOf | exact (hs.pull 4).cellsOf | exact (hs.pull 5).cellsOf | exact (hs.pull 6).cellsOf | exact (hs.pull 7).cellsOf | exact (hs.pull 8).cellsOf))) ?_
                refine x_want' rfl ?_
                refine h_load one_22 _ (.int _ _) rfl (fun w hS => by first | exact hS.cell rfl | exact (hS.pull 1).cell rfl | exact (hS.pull 2).cell rfl | exact (hS.pull 3).cell rfl | exact (hS.pull 4).cell rfl | exact (hS.pull 5).cell rfl | exact (hS.pull 6).cell rfl | exact hS | exact hS.1 | exact hS.2 | exact hS.2.1 | exact hS.2.2 | exact hS.2.2.1 | exact hS.2.2.2 | exact hS.2.2.2.1 | exact hS.2.2.2.2 | exact hS.2.2.2.2.1 | exact hS.2.2.2.2.2) ?_
                refine x_want' rfl ?_
                refine x_call Try.f22 Try.func22 rfl rfl _ rfl ?_
                refine (view_same (hs.pull 8) hrel').mono ?_
                clear hs; rintro e w ⟨rfl, hs⟩
                replace hs := hs.push 8
                try dsimp only [back] at hs
                refine ⟨_, rfl, fun h => (by first | (cases h; done) | (first | exact hs.cells2 rfl rfl | exact (hs.pull 1).cells2 rfl rfl | exact (hs.pull 2).cells2 rfl rfl | exact (hs.pull 3).cells2 rfl rfl | exact (hs.pull 4).cells2 rfl rfl | exact (hs.pull 5).cells2 rfl rfl | exact (hs.pull 6).cells2 rfl rfl | exact (hs.pull 7).cells2 rfl rfl | exact (hs.pull 8).cells2 rfl rfl | exact hs.cell rfl | exact (hs.pull 1).cell rfl | exact (hs.pull 2).cell rfl | exact (hs.pull 3).cell rfl | exact (hs.pull 4).cell rfl | exact (hs.pull 5).cell rfl | exact (hs.pull 6).cell rfl | exact (hs.pull 7).cell rfl | exact (hs.pull 8).cell rfl | assumption | exact hs.cellsOf | exact (hs.pull 1).cellsOf | exact (hs.pull 2).cellsOf | exact (hs.pull 3).cellsOf | exact (hs.pull 4).cellsOf | exact (hs.pull 5).cellsOf | exact (hs.pull 6).cellsOf | exact (hs.pull 7).cellsOf | exact (hs.pull 8).cellsOf) | (and_intros <;> first | exact hs.cells2 rfl rfl | exact (hs.pull 1).cells2 rfl rfl | exact (hs.pull 2).cells2 rfl rfl | exact (hs.pull 3).cells2 rfl rfl | exact (hs.pull 4).cells2 rfl rfl | exact (hs.pull 5).cells2 rfl rfl | exact (hs.pull 6).cells2 rfl rfl | exact (hs.pull 7).cells2 rfl rfl | exact (hs.pull 8).cells2 rfl rfl | exact hs.cell rfl | exact (hs.pull 1).cell rfl | exact (hs.pull 2).cell rfl | exact (hs.pull 3).cell rfl | exact (hs.pull 4).cell rfl | exact (hs.pull 5).cell rfl | exact (hs.pull 6).cell rfl | exact (hs.pull 7).cell rfl | exact (hs.pull 8).cell rfl | assumption | exact hs.cellsOf | exact (hs.pull 1).cellsOf | exact (hs.pull 2).cellsOf | exact (hs.pull 3).cellsOf | exact (hs.pull 4).cellsOf | exact (hs.pull 5).cellsOf | exact (hs.pull 6).cellsOf | exact (hs.pull 7).cellsOf | exact (hs.pull 8).cellsOf)), ?_⟩
                refine x_want' rfl ?_
                refine x_neqF _ _ rfl rfl (by omega) ?_
                refine x_pickF (.bool _) rfl rfl ?_
                refine x_nil ?_
                refine then_n ?_
                refine c_false rfl ?_
                refine c_skip ?_
                refine inb_n ?_
                refine then_n ?_
                -- region 6
                refine c_region ?_
                refine x_move (.int _ _) rfl ?_
                refine x_add _ _ rfl rfl (by simp only [X.lo]; omega) (by simp only [X.hi]; omega) ?_
                refine x_assign (.int _ _) rfl ?_
                refine x_nil ?_
                refine then_n ?_
                refine ⟨(i + 1, s', e', dn'), ⟨rfl, rfl, rfl, rfl, rfl, trivial⟩, ⟨by omega, hrel', ((Sat.ri' hs).sel [5, 0, 4, 7] 8)⟩, by first | omega | (dsimp only; omega)⟩
          · skip
            refine c_seq ?_
            refine c_seq ?_
            -- region 5
            refine c_region ?_
            refine x_move (.int _ _) rfl ?_
            refine x_move (.slice _ _ _) rfl ?_
            refine x_lenSl Try.underlying44 _ _ _ rfl ?_
            refine x_lssT _ _ rfl rfl (by omega) ?_
            refine x_move (.bool _) rfl ?_
            refine x_want' rfl ?_
            refine x_move (.int _ _) rfl ?_
            refine x_want' rfl ?_
            refine x_lssF _ _ rfl rfl (by omega) ?_
            refine x_pickT (.bool _) rfl rfl ?_
            refine x_nil ?_
            refine then_n ?_
            refine c_false rfl ?_
            refine c_exit ?_
            refine then_x ?_
            refine then_x ?_
            refine inb_e ?_
            refine then_n ?_
            exact ⟨(), ⟨rfl, trivial⟩, hs.sel [3] 4⟩
          · skip
            refine c_seq ?_
            refine c_seq ?_
            -- region 5
            refine c_region ?_
            refine x_move (.int _ _) rfl ?_
            refine x_move (.slice _ _ _) rfl ?_
            refine x_lenSl Try.underlying44 _ _ _ rfl ?_
            refine x_lssF _ _ rfl rfl (by omega) ?_
            refine x_move (.bool _) rfl ?_
            refine x_skip rfl rfl ?_
            refine x_skip rfl rfl ?_
            refine x_pickF (.bool _) rfl rfl ?_
            refine x_nil ?_
            refine then_n ?_
            refine c_false rfl ?_
            refine c_exit ?_
            refine then_x ?_
            refine then_x ?_
            refine inb_e ?_
            refine then_n ?_
            exact ⟨(), ⟨rfl, trivial⟩, hs.sel [3] 4⟩
        · skip
          clear hs
          rintro _u ρ w hs
          change CW Try.prog 171 _ _ (sets 171 [(5, .pointer (some ⟨f, 0, none⟩))] ρ) w
          refine c_seq ?_
          -- region 22
          refine c_region ?_
          refine x_call Try.f9 Try.func9 rfl rfl _ rfl ?_
          refine (awake23_calls hs).mono ?_
          clear hs; rintro e w ⟨rfl, hs⟩
          refine ⟨_, rfl, fun h => (by first | (cases h; done) | (first | exact hs.cells2 rfl rfl | exact (hs.pull 1).cells2 rfl rfl | exact (hs.pull 2).cells2 rfl rfl | exact (hs.pull 3).cells2 rfl rfl | exact (hs.pull 4).cells2 rfl rfl | exact (hs.pull 5).cells2 rfl rfl | exact (hs.pull 6).cells2 rfl rfl | exact (hs.pull 7).cells2 rfl rfl | exact (hs.pull 8).cells2 rfl rfl | exact hs.cell rfl | exact (hs.pull 1).cell rfl | exact (hs.pull 2).cell rfl | exact (hs.pull 3).cell rfl | exact (hs.pull 4).cell rfl | exact (hs.pull 5).cell rfl | exact (hs.pull 6).cell rfl | exact (hs.pull 7).cell rfl | exact (hs.pull 8).cell rfl | assumption | exact hs.cellsOf | exact (hs.pull 1).cellsOf | exact (hs.pull 2).cellsOf | exact (hs.pull 3).cellsOf | exact (hs.pull 4).cellsOf | exact (hs.pull 5).cellsOf | exact (hs.pull 6).cellsOf | exact (hs.pull 7).cellsOf | exact (hs.pull 8).cellsOf) | (and_intros <;> first | exact hs.cells2 rfl rfl | exact (hs.pull 1).cells2 rfl rfl | exact (hs.pull 2).cells2 rfl rfl | exact (hs.pull 3).cells2 rfl rfl | exact (hs.pull 4).cells2 rfl rfl | exact (hs.pull 5).cells2 rfl rfl | exact (hs.pull 6).cells2 rfl rfl | exact (hs.pull 7).cells2 rfl rfl | exact (hs.pull 8).cells2 rfl rfl | exact hs.cell rfl | exact (hs.pull 1).cell rfl | exact (hs.pull 2).cell rfl | exact (hs.pull 3).cell rfl | exact (hs.pull 4).cell rfl | exact (hs.pull 5).cell rfl | exact (hs.pull 6).cell rfl | exact (hs.pull 7).cell rfl | exact (hs.pull 8).cell rfl | assumption | exact hs.cellsOf | exact (hs.pull 1).cellsOf | exact (hs.pull 2).cellsOf | exact (hs.pull 3).cellsOf | exact (hs.pull 4).cellsOf | exact (hs.pull 5).cellsOf | exact (hs.pull 6).cellsOf | exact (hs.pull 7).cellsOf | exact (hs.pull 8).cellsOf)), ?_⟩
          refine x_assign (.bool _) rfl ?_
          refine x_nil ?_
          refine then_n ?_
          refine c_ret ?_
          refine ⟨.inr rfl, ?_⟩
          exact ⟨rfl, hs⟩
  · skip
    refine x_move (.bool _) rfl ?_
    refine x_skip rfl rfl ?_
    refine x_skip rfl rfl ?_
    refine x_skip rfl rfl ?_
    refine x_pickT (.bool _) rfl rfl ?_
    refine x_nil ?_
    refine then_n ?_
    refine c_true rfl ?_
    refine c_seq ?_
    -- region 2
    refine c_region ?_
    refine x_call Try.f9 Try.func9 rfl rfl _ rfl ?_
    refine (awake23_calls hs).mono ?_
    clear hs; rintro e w ⟨rfl, hs⟩
    refine ⟨_, rfl, fun h => (by first | (cases h; done) | (first | exact hs.cells2 rfl rfl | exact (hs.pull 1).cells2 rfl rfl | exact (hs.pull 2).cells2 rfl rfl | exact (hs.pull 3).cells2 rfl rfl | exact (hs.pull 4).cells2 rfl rfl | exact (hs.pull 5).cells2 rfl rfl | exact (hs.pull 6).cells2 rfl rfl | exact (hs.pull 7).cells2 rfl rfl | exact (hs.pull 8).cells2 rfl rfl | exact hs.cell rfl | exact (hs.pull 1).cell rfl | exact (hs.pull 2).cell rfl | exact (hs.pull 3).cell rfl | exact (hs.pull 4).cell rfl | exact (hs.pull 5).cell rfl | exact (hs.pull 6).cell rfl | exact (hs.pull 7).cell rfl | exact (hs.pull 8).cell rfl | assumption | exact hs.cellsOf | exact (hs.pull 1).cellsOf | exact (hs.pull 2).cellsOf | exact (hs.pull 3).cellsOf | exact (hs.pull 4).cellsOf | exact (hs.pull 5).cellsOf | exact (hs.pull 6).cellsOf | exact (hs.pull 7).cellsOf | exact (hs.pull 8).cellsOf) | (and_intros <;> first | exact hs.cells2 rfl rfl | exact (hs.pull 1).cells2 rfl rfl | exact (hs.pull 2).cells2 rfl rfl | exact (hs.pull 3).cells2 rfl rfl | exact (hs.pull 4).cells2 rfl rfl | exact (hs.pull 5).cells2 rfl rfl | exact (hs.pull 6).cells2 rfl rfl | exact (hs.pull 7).cells2 rfl rfl | exact (hs.pull 8).cells2 rfl rfl | exact hs.cell rfl | exact (hs.pull 1).cell rfl | exact (hs.pull 2).cell rfl | exact (hs.pull 3).cell rfl | exact (hs.pull 4).cell rfl | exact (hs.pull 5).cell rfl | exact (hs.pull 6).cell rfl | exact (hs.pull 7).cell rfl | exact (hs.pull 8).cell rfl | assumption | exact hs.cellsOf | exact (hs.pull 1).cellsOf | exact (hs.pull 2).cellsOf | exact (hs.pull 3).cellsOf | exact (hs.pull 4).cellsOf | exact (hs.pull 5).cellsOf | exact (hs.pull 6).cellsOf | exact (hs.pull 7).cellsOf | exact (hs.pull 8).cellsOf)), ?_⟩
    refine x_assign (.bool _) rfl ?_
    refine x_nil ?_
    refine then_n ?_
    refine c_ret ?_
    refine then_r ?_
    refine ⟨.inr rfl, ?_⟩
    exact ⟨rfl, hs.tail⟩
end Go.Proofs.Ytiffpkbkmpianaa.X
