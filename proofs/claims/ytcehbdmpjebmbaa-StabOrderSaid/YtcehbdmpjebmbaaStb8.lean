/-
  LAYER 26: in which order is told; the law StabOrder.
-/
import Derived.Test.YtcehbdmpjebmbaaStb7
namespace Go.Proofs.Ytcehbdmpjebmbaa.X
open Go Go.RowKit
set_option linter.unusedVariables false
set_option maxRecDepth 20000
def tell (V : SV) (s : SSt) (t : Told26) : SSt := if t.Of = true then (s.repL V t.Leaf t.N).2 else (s.rep V t.P t.N).2
def tells (V : SV) (l : List Told26) (s : SSt) : SSt := l.foldl (tell V) s
def wP (V : SV) (p : Pid) (t : Told26) : Nat := if t.Of = false ∧ t.P = p ∧ p ∈ V.mem then t.N else 0
def wL (V : SV) (k : Nat) (t : Told26) : Nat := if t.Of = true ∧ t.Leaf = (k : Int) ∧ k < V.lls.length then t.N else 0
theorem tell_ps (V : SV) (s : SSt) (t : Told26) (p : Pid) : getN (tell V s t).ps p = max (getN s.ps p) (wP V p t) := by
  unfold tell wP
  by_cases ho : t.Of = true
  · rw [if_pos ho, if_neg (fun h => by rw [ho] at h; cases h.1)]
    unfold SSt.repL
    split <;> (show getN s.ps p = _; omega)
  · rw [if_neg ho]
    have ho' : t.Of = false := by simpa using ho
    unfold SSt.rep
    by_cases hp : t.P = p
    · subst hp
      by_cases hm : t.P ∈ V.mem
      · rw [if_pos (show t.Of = false ∧ t.P = t.P ∧ t.P ∈ V.mem from ⟨ho', rfl, hm⟩)]
        by_cases hn : getN s.ps t.P < t.N
        · rw [if_pos ⟨hm, hn⟩]
          show getN (mset t.P t.N s.ps) t.P = _
          rw [getN_set, if_pos rfl]
          omega
        · rw [if_neg (fun h => hn h.2)]
          show getN s.ps t.P = _
          omega
      · rw [if_neg (show ¬ (t.Of = false ∧ t.P = t.P ∧ t.P ∈ V.mem) from fun h => hm h.2.2), if_neg (fun h => hm h.1)]
        show getN s.ps t.P = _
        omega
    · rw [if_neg (show ¬ (t.Of = false ∧ t.P = p ∧ p ∈ V.mem) from fun h => hp h.2.1)]
      split
      · show getN (mset t.P t.N s.ps) p = _
        rw [getN_set, if_neg (fun h => hp h.symm)]
        omega
      · show getN s.ps p = _
        omega
theorem tell_lv (V : SV) (s : SSt) (t : Told26) (k : Nat) : getN (tell V s t).lv k = max (getN s.lv k) (wL V k t) := by
  unfold tell wL
  by_cases ho : t.Of = true
  · rw [if_pos ho]
    unfold SSt.repL
    by_cases hk : t.Leaf = (k : Int) ∧ k < V.lls.length
    · rw [if_pos (show t.Of = true ∧ t.Leaf = (k : Int) ∧ k < V.lls.length from ⟨ho, hk⟩)]
      have hkn : t.Leaf.toNat = k := by omega
      rw [hkn]
      by_cases hn : getN s.lv k < t.N
      · rw [if_pos ⟨⟨by omega, by omega⟩, hn⟩]
        show getN (mset k t.N s.lv) k = _
        rw [getN_set, if_pos rfl]
        omega
      · rw [if_neg (fun h => hn h.2)]
        show getN s.lv k = _
        omega
    · rw [if_neg (show ¬ (t.Of = true ∧ t.Leaf = (k : Int) ∧ k < V.lls.length) from fun h => hk h.2)]
      split
      · rename_i h
        show getN (mset t.Leaf.toNat t.N s.lv) k = _
        rw [getN_set, if_neg (fun e => hk ⟨by omega, by omega⟩)]
        omega
      · show getN s.lv k = _
        omega
  · rw [if_neg ho, if_neg (fun h => ho h.1)]
    unfold SSt.rep
    split <;> (show getN s.lv k = _; omega)
theorem tells_snoc (V : SV) (l : List Told26) (t : Told26) (s : SSt) : tells V (l ++ [t]) s = tell V (tells V l s) t := by unfold tells; rw [List.foldl_append]; rfl
theorem tells_ps (V : SV) (p : Pid) (c : Nat) : ∀ (l : List Told26) (s : SSt), getN (tells V l s).ps p ≤ c ↔ getN s.ps p ≤ c ∧ ∀ t ∈ l, wP V p t ≤ c
  | [], s => by simp [tells]
  | t :: l, s => by
    show getN (tells V l (tell V s t)).ps p ≤ c ↔ _
    rw [tells_ps V p c l, tell_ps]
    simp only [List.forall_mem_cons, Nat.max_le, and_assoc]
theorem tells_lv (V : SV) (k c : Nat) : ∀ (l : List Told26) (s : SSt), getN (tells V l s).lv k ≤ c ↔ getN s.lv k ≤ c ∧ ∀ t ∈ l, wL V k t ≤ c
  | [], s => by simp [tells]
  | t :: l, s => by
    show getN (tells V l (tell V s t)).lv k ≤ c ↔ _
    rw [tells_lv V k c l, tell_lv]
    simp only [List.forall_mem_cons, Nat.max_le, and_assoc]
theorem tells_same {V : SV} {l l' : List Told26} (h : ∀ t, t ∈ l ↔ t ∈ l') (s : SSt) : getN (tells V l s).ps = getN (tells V l' s).ps ∧ getN (tells V l s).lv = getN (tells V l' s).lv := by
  refine ⟨funext fun p => ?_, funext fun k => ?_⟩
  · refine Nat.le_antisymm ((tells_ps V p _ l s).2 ?_) ((tells_ps V p _ l' s).2 ?_)
    · have := (tells_ps V p _ l' s).1 (Nat.le_refl _)
      exact ⟨this.1, fun t ht => this.2 t ((h t).1 ht)⟩
    · have := (tells_ps V p _ l s).1 (Nat.le_refl _)
      exact ⟨this.1, fun t ht => this.2 t ((h t).2 ht)⟩
  · refine Nat.le_antisymm ((tells_lv V k _ l s).2 ?_) ((tells_lv V k _ l' s).2 ?_)
    · have := (tells_lv V k _ l' s).1 (Nat.le_refl _)
      exact ⟨this.1, fun t ht => this.2 t ((h t).1 ht)⟩
    · have := (tells_lv V k _ l s).1 (Nat.le_refl _)
      exact ⟨this.1, fun t ht => this.2 t ((h t).2 ht)⟩
theorem leafI_congr {V : SV} {s s' : SSt} (h1 : getN s.ps = getN s'.ps) (h2 : getN s.lv = getN s'.lv) (k : Int) : leafI V s k = leafI V s' k := by unfold leafI leafV; rw [h1, h2]
theorem allV_congr {V : SV} {s s' : SSt} (h1 : getN s.ps = getN s'.ps) (h2 : getN s.lv = getN s'.lv) : allV V s = allV V s' := by unfold allV allF leafV; rw [h1, h2]
def rp (n : Nat) (l : List Told26) : List Told26 := (List.replicate n l).flatten
theorem rp_succ (n : Nat) (l : List Told26) : rp (n + 1) l = rp n l ++ l := by unfold rp; rw [List.replicate_succ', List.flatten_append]; simp
theorem rp_mem {l : List Told26} (t : Told26) : t ∈ rp 2 l ↔ t ∈ l := by simp [rp, List.replicate]
theorem tell_T {w0 w : World} {L : List HP} {f : Nat} {V : SV} {s : SSt} {t : Told26} (hs : Sat w0 w (SO f V s :: L)) (ho : t.Of = true) :
    Calls Try.prog 14 #[.pointer (some ⟨f, 0, none⟩), .int .i64 t.Leaf, .int .u64 (t.N : Nat)] w fun e w' => ∃ r, e = .returned (.bool r) ∧ Sat w0 w' (SO f V (tell V s t) :: L) := by
  have := sreportL_calls (V := V) t.Leaf t.N hs
  unfold tell
  rw [if_pos ho]
  exact this.mono fun e w' h => ⟨_, h⟩
theorem tell_F {w0 w : World} {L : List HP} {f : Nat} {V : SV} {s : SSt} {t : Told26} (hs : Sat w0 w (SO f V s :: L)) (ho : t.Of = false) :
    Calls Try.prog 13 #[.pointer (some ⟨f, 0, none⟩), .agg #[.int .u16 (t.P.Id : Nat), .int .u32 (t.P.Inc : Nat)], .int .u64 (t.N : Nat)] w fun e w' => ∃ r, e = .returned (.bool r) ∧ Sat w0 w' (SO f V (tell V s t) :: L) := by
  have := sreport_calls (V := V) t.P t.N hs
  unfold tell
  rw [if_neg (by rw [ho]; exact fun h => nomatch h)]
  exact this.mono fun e w' h => ⟨_, h⟩
abbrev S0 : SSt := ⟨[], []⟩
set_option maxHeartbeats 1000000 in
theorem walk_StabOrder {H : Type} {enc : TypeId × Value → H} {w0 : World} {cs0 : Array Value} {a1 : Option Addr} {l1 c1 : Nat} (h0 : TR enc Try.prog w0 26 cs0.toList) (h1 : TR enc Try.prog w0 28 [.slice a1 l1 c1]) :
    Calls Try.prog 7 #[.agg cs0, .slice a1 l1 c1] w0 fun e w' => e = .returned (.bool true) ∧ Below w0.heap.size w0 w' := by
  obtain ⟨D, rfl, hdl, hin⟩ := TR.viewD h0
  obtain ⟨ts, rfl, hrd, hlen, hfa⟩ := TR.arg (k := 5) Try.underlying28 (by kernel_rfl) (by decide) (fun r hr => TR.Told26 hr) h1
  refine law_of fun w hs => ?_
  have hina : ∀ w' L', Sat w0 w' (Init w0 :: L') → RS w' 5 Told26.cells (.slice a1 ts.length c1) ts := fun w' L' h => hrd.below h.init
  clear h0 h1 hrd hfa
  refine enter Try.func7 rfl Try.ntmps7 4 rfl (Nat.le_of_ble_eq_true rfl) ?_
  refine c_seq ?_
  -- region 0
  refine c_region ?_
  refine x_box hs (.agg #[_, _, _, _]) rfl ?_; clear hs; intro b2 w hs; refine ⟨fun h => (by first | (cases h; done) | (first | exact hs.cells2 rfl rfl | exact (hs.pull 1).cells2 rfl rfl | exact (hs.pull 2).cells2 rfl rfl | exact (hs.pull 3).cells2 rfl rfl | exact (hs.pull 4).cells2 rfl rfl | exact (hs.pull 5).cells2 rfl rfl | exact (hs.pull 6).cells2 rfl rfl | exact (hs.pull 7).cells2 rfl rfl | exact (hs.pull 8).cells2 rfl rfl | exact hs.cell rfl | exact (hs.pull 1).cell rfl | exact (hs.pull 2).cell rfl | exact (hs.pull 3).cell rfl | exact (hs.pull 4).cell rfl | exact (hs.pull 5).cell rfl | exact (hs.pull 6).cell rfl | exact (hs.pull 7).cell rfl | exact (hs.pull 8).cell rfl | assumption | exact hs.cellsOf | exact (hs.pull 1).cellsOf | exact (hs.pull 2).cellsOf | exact (hs.pull 3).cellsOf | exact (hs.pull 4).cellsOf | exact (hs.pull 5).cellsOf | exact (hs.pull 6).cellsOf | exact (hs.pull 7).cellsOf | exact (hs.pull 8).cellsOf) | (and_intros <;> first | exact hs.cells2 rfl rfl | exact (hs.pull 1).cells2 rfl rfl | exact (hs.pull 2).cells2 rfl rfl | exact (hs.pull 3).cells2 rfl rfl | exact (hs.pull 4).cells2 rfl rfl | exact (hs.pull 5).cells2 rfl rfl | exact (hs.pull 6).cells2 rfl rfl | exact (hs.pull 7).cells2 rfl rfl | exact (hs.pull 8).cells2 rfl rfl | exact hs.cell rfl | exact (hs.pull 1).cell rfl | exact (hs.pull 2).cell rfl | exact (hs.pull 3).cell rfl | exact (hs.pull 4).cell rfl | exact (hs.pull 5).cell rfl | exact (hs.pull 6).cell rfl | exact (hs.pull 7).cell rfl | exact (hs.pull 8).cell rfl | assumption | exact hs.cellsOf | exact (hs.pull 1).cellsOf | exact (hs.pull 2).cellsOf | exact (hs.pull 3).cellsOf | exact (hs.pull 4).cellsOf | exact (hs.pull 5).cellsOf | exact (hs.pull 6).cellsOf | exact (hs.pull 7).cellsOf | exact (hs.pull 8).cellsOf)), ?_⟩
  refine x_assign (.bool _) rfl ?_
  refine x_nil ?_
  refine then_n ?_
  refine c_seq ?_
  refine c_seq ?_
  -- region 1
  refine c_region ?_
  refine x_loadN [_, _, _, _] agg_26 _ rfl (by first | assumption | exact hs.cellsOf | exact (hs.pull 1).cellsOf | exact (hs.pull 2).cellsOf | exact (hs.pull 3).cellsOf | exact (hs.pull 4).cellsOf | exact (hs.pull 5).cellsOf | exact (hs.pull 6).cellsOf | exact (hs.pull 7).cellsOf | exact (hs.pull 8).cellsOf | exact hs.cells2 rfl rfl | exact (hs.pull 1).cells2 rfl rfl | exact (hs.pull 2).cells2 rfl rfl | exact (hs.pull 3).cells2 rfl rfl | exact (hs.pull 4).cells2 rfl rfl | exact (hs.pull 5).cells2 rfl rfl | exact (hs.pull 6).cells2 rfl rfl | exact (hs.pull 7).cells2 rfl rfl | exact (hs.pull 8).cells2 rfl rfl) ?_
  refine x_call Try.f8 Try.func8 rfl rfl _ rfl ?_
  refine (great_d (hs.pull 1) hin hdl).mono ?_
  clear hs; rintro e w ⟨r, rfl, hs, hsm⟩
  replace hs := hs.push 1
  try dsimp only [back] at hs
  refine ⟨_, rfl, fun h => (by first | (cases h; done) | (first | exact hs.cells2 rfl rfl | exact (hs.pull 1).cells2 rfl rfl | exact (hs.pull 2).cells2 rfl rfl | exact (hs.pull 3).cells2 rfl rfl | exact (hs.pull 4).cells2 rfl rfl | exact (hs.pull 5).cells2 rfl rfl | exact (hs.pull 6).cells2 rfl rfl | exact (hs.pull 7).cells2 rfl rfl | exact (hs.pull 8).cells2 rfl rfl | exact hs.cell rfl | exact (hs.pull 1).cell rfl | exact (hs.pull 2).cell rfl | exact (hs.pull 3).cell rfl | exact (hs.pull 4).cell rfl | exact (hs.pull 5).cell rfl | exact (hs.pull 6).cell rfl | exact (hs.pull 7).cell rfl | exact (hs.pull 8).cell rfl | assumption | exact hs.cellsOf | exact (hs.pull 1).cellsOf | exact (hs.pull 2).cellsOf | exact (hs.pull 3).cellsOf | exact (hs.pull 4).cellsOf | exact (hs.pull 5).cellsOf | exact (hs.pull 6).cellsOf | exact (hs.pull 7).cellsOf | exact (hs.pull 8).cellsOf) | (and_intros <;> first | exact hs.cells2 rfl rfl | exact (hs.pull 1).cells2 rfl rfl | exact (hs.pull 2).cells2 rfl rfl | exact (hs.pull 3).cells2 rfl rfl | exact (hs.pull 4).cells2 rfl rfl | exact (hs.pull 5).cells2 rfl rfl | exact (hs.pull 6).cells2 rfl rfl | exact (hs.pull 7).cells2 rfl rfl | exact (hs.pull 8).cells2 rfl rfl | exact hs.cell rfl | exact (hs.pull 1).cell rfl | exact (hs.pull 2).cell rfl | exact (hs.pull 3).cell rfl | exact (hs.pull 4).cell rfl | exact (hs.pull 5).cell rfl | exact (hs.pull 6).cell rfl | exact (hs.pull 7).cell rfl | exact (hs.pull 8).cell rfl | assumption | exact hs.cellsOf | exact (hs.pull 1).cellsOf | exact (hs.pull 2).cellsOf | exact (hs.pull 3).cellsOf | exact (hs.pull 4).cellsOf | exact (hs.pull 5).cellsOf | exact (hs.pull 6).cellsOf | exact (hs.pull 7).cellsOf | exact (hs.pull 8).cellsOf)), ?_⟩
  rcases r with _ | _
  · skip
    refine x_move (.bool _) rfl ?_
    refine x_want' rfl ?_
    refine x_move (.slice _ _ _) rfl ?_
    refine x_want' rfl ?_
    refine x_lenSl Try.underlying28 _ _ _ rfl ?_
    refine x_want' rfl ?_
    refine x_gtr _ _ rfl rfl ?_
    refine x_pickF (.bool _) rfl rfl ?_
    refine x_nil ?_
    refine then_n ?_
    refine c_test _ rfl (fun hb => ?_) (fun hb => ?_)   -- cond t18
    · skip
      refine c_seq ?_
      -- region 2
      refine c_region ?_
      refine x_call Try.f10 Try.func10 rfl rfl _ rfl ?_
      refine (awake26_calls hs).mono ?_
      clear hs; rintro e w ⟨rfl, hs⟩
      refine ⟨_, rfl, fun h => (by first | (cases h; done) | (first | exact hs.cells2 rfl rfl | exact (hs.pull 1).cells2 rfl rfl | exact (hs.pull 2).cells2 rfl rfl | exact (hs.pull 3).cells2 rfl rfl | exact (hs.pull 4).cells2 rfl rfl | exact (hs.pull 5).cells2 rfl rfl | exact (hs.pull 6).cells2 rfl rfl | exact (hs.pull 7).cells2 rfl rfl | exact (hs.pull 8).cells2 rfl rfl | exact hs.cell rfl | exact (hs.pull 1).cell rfl | exact (hs.pull 2).cell rfl | exact (hs.pull 3).cell rfl | exact (hs.pull 4).cell rfl | exact (hs.pull 5).cell rfl | exact (hs.pull 6).cell rfl | exact (hs.pull 7).cell rfl | exact (hs.pull 8).cell rfl | assumption | exact hs.cellsOf | exact (hs.pull 1).cellsOf | exact (hs.pull 2).cellsOf | exact (hs.pull 3).cellsOf | exact (hs.pull 4).cellsOf | exact (hs.pull 5).cellsOf | exact (hs.pull 6).cellsOf | exact (hs.pull 7).cellsOf | exact (hs.pull 8).cellsOf) | (and_intros <;> first | exact hs.cells2 rfl rfl | exact (hs.pull 1).cells2 rfl rfl | exact (hs.pull 2).cells2 rfl rfl | exact (hs.pull 3).cells2 rfl rfl | exact (hs.pull 4).cells2 rfl rfl | exact (hs.pull 5).cells2 rfl rfl | exact (hs.pull 6).cells2 rfl rfl | exact (hs.pull 7).cells2 rfl rfl | exact (hs.pull 8).cells2 rfl rfl | exact hs.cell rfl | exact (hs.pull 1).cell rfl | exact (hs.pull 2).cell rfl | exact (hs.pull 3).cell rfl | exact (hs.pull 4).cell rfl | exact (hs.pull 5).cell rfl | exact (hs.pull 6).cell rfl | exact (hs.pull 7).cell rfl | exact (hs.pull 8).cell rfl | assumption | exact hs.cellsOf | exact (hs.pull 1).cellsOf | exact (hs.pull 2).cellsOf | exact (hs.pull 3).cellsOf | exact (hs.pull 4).cellsOf | exact (hs.pull 5).cellsOf | exact (hs.pull 6).cellsOf | exact (hs.pull 7).cellsOf | exact (hs.pull 8).cellsOf)), ?_⟩
      refine x_assign (.bool _) rfl ?_
      refine x_nil ?_
      refine then_n ?_
      refine c_ret ?_
      refine then_r ?_
      refine ⟨.inr rfl, ?_⟩
      exact ⟨rfl, hs.tail⟩
    · skip
      refine c_skip ?_
      refine then_n ?_
      refine c_seq ?_
      -- region 3 DRAWS
      refine c_draw (fun w => (∀ (j : Nat) (u : Value), [Value.int .u64 (D.Id : Nat), .slice D.am D.mem.length D.cm, .slice D.al D.lvs.length D.cl, .slice D.ad D.lds.length D.cd][j]? = some u → w.cell? ((⟨b2, 0, none⟩ : Addr).add j) = some u)) (fun i => !(Nat.beq i 3)) [(0, 1), (2, 1), (1, 0), (3, 0), (4, 2), (5, 2)] (by kernel_rfl) (by kernel_rfl) (by kernel_rfl) (by kernel_rfl) ((by first | (first | exact hs.cells2 rfl rfl | exact (hs.pull 1).cells2 rfl rfl | exact (hs.pull 2).cells2 rfl rfl | exact (hs.pull 3).cells2 rfl rfl | exact (hs.pull 4).cells2 rfl rfl | exact (hs.pull 5).cells2 rfl rfl | exact (hs.pull 6).cells2 rfl rfl | exact (hs.pull 7).cells2 rfl rfl | exact (hs.pull 8).cells2 rfl rfl | exact hs.cell rfl | exact (hs.pull 1).cell rfl | exact (hs.pull 2).cell rfl | exact (hs.pull 3).cell rfl | exact (hs.pull 4).cell rfl | exact (hs.pull 5).cell rfl | exact (hs.pull 6).cell rfl | exact (hs.pull 7).cell rfl | exact (hs.pull 8).cell rfl | assumption | exact hs.cellsOf | exact (hs.pull 1).cellsOf | exact (hs.pull 2).cellsOf | exact (hs.pull 3).cellsOf | exact (hs.pull 4).cellsOf | exact (hs.pull 5).cellsOf | exact (hs.pull 6).cellsOf | exact (hs.pull 7).cellsOf | exact (hs.pull 8).cellsOf) | (and_intros <;> first | exact hs.cells2 rfl rfl | exact (hs.pull 1).cells2 rfl rfl | exact (hs.pull 2).cells2 rfl rfl | exact (hs.pull 3).cells2 rfl rfl | exact (hs.pull 4).cells2 rfl rfl | exact (hs.pull 5).cells2 rfl rfl | exact (hs.pull 6).cells2 rfl rfl | exact (hs.pull 7).cells2 rfl rfl | exact (hs.pull 8).cells2 rfl rfl | exact hs.cell rfl | exact (hs.pull 1).cell rfl | exact (hs.pull 2).cell rfl | exact (hs.pull 3).cell rfl | exact (hs.pull 4).cell rfl | exact (hs.pull 5).cell rfl | exact (hs.pull 6).cell rfl | exact (hs.pull 7).cell rfl | exact (hs.pull 8).cell rfl | assumption | exact hs.cellsOf | exact (hs.pull 1).cellsOf | exact (hs.pull 2).cellsOf | exact (hs.pull 3).cellsOf | exact (hs.pull 4).cellsOf | exact (hs.pull 5).cellsOf | exact (hs.pull 6).cellsOf | exact (hs.pull 7).cellsOf | exact (hs.pull 8).cellsOf))) ?_
      replace hs := hs.drew
      refine h_loadN [_, _, _, _] agg_26 _ rfl (fun w hS => by first | exact hS | exact hS.1 | exact hS.2 | exact hS.2.1 | exact hS.2.2 | exact hS.2.2.1 | exact hS.2.2.2 | exact hS.2.2.2.1 | exact hS.2.2.2.2 | exact hS.cellsOf | exact (hS.pull 1).cellsOf | exact (hS.pull 2).cellsOf | exact (hS.pull 3).cellsOf | exact (hS.pull 4).cellsOf | exact (hS.pull 5).cellsOf | exact (hS.pull 6).cellsOf | exact hS.cells2 rfl rfl | exact (hS.pull 1).cells2 rfl rfl | exact (hS.pull 2).cells2 rfl rfl | exact (hS.pull 3).cells2 rfl rfl | exact (hS.pull 4).cells2 rfl rfl | exact (hS.pull 5).cells2 rfl rfl | exact (hS.pull 6).cells2 rfl rfl) ?_
      refine h_loadN [_, _, _, _] agg_26 _ rfl (fun w hS => by first | exact hS | exact hS.1 | exact hS.2 | exact hS.2.1 | exact hS.2.2 | exact hS.2.2.1 | exact hS.2.2.2 | exact hS.2.2.2.1 | exact hS.2.2.2.2 | exact hS.cellsOf | exact (hS.pull 1).cellsOf | exact (hS.pull 2).cellsOf | exact (hS.pull 3).cellsOf | exact (hS.pull 4).cellsOf | exact (hS.pull 5).cellsOf | exact (hS.pull 6).cellsOf | exact hS.cells2 rfl rfl | exact (hS.pull 1).cells2 rfl rfl | exact (hS.pull 2).cells2 rfl rfl | exact (hS.pull 3).cells2 rfl rfl | exact (hS.pull 4).cells2 rfl rfl | exact (hS.pull 5).cells2 rfl rfl | exact (hS.pull 6).cells2 rfl rfl) ?_
      refine x_call Try.f11 Try.func11 rfl rfl _ rfl ?_
      refine ((new_d (hs.pull 1) hin (hsm rfl))).mono ?_
      clear hs; rintro e w ⟨f, rfl, hs⟩
      refine ⟨_, rfl, fun h => (by first | (cases h; done) | (first | exact hs.cells2 rfl rfl | exact (hs.pull 1).cells2 rfl rfl | exact (hs.pull 2).cells2 rfl rfl | exact (hs.pull 3).cells2 rfl rfl | exact (hs.pull 4).cells2 rfl rfl | exact (hs.pull 5).cells2 rfl rfl | exact (hs.pull 6).cells2 rfl rfl | exact (hs.pull 7).cells2 rfl rfl | exact (hs.pull 8).cells2 rfl rfl | exact hs.cell rfl | exact (hs.pull 1).cell rfl | exact (hs.pull 2).cell rfl | exact (hs.pull 3).cell rfl | exact (hs.pull 4).cell rfl | exact (hs.pull 5).cell rfl | exact (hs.pull 6).cell rfl | exact (hs.pull 7).cell rfl | exact (hs.pull 8).cell rfl | assumption | exact hs.cellsOf | exact (hs.pull 1).cellsOf | exact (hs.pull 2).cellsOf | exact (hs.pull 3).cellsOf | exact (hs.pull 4).cellsOf | exact (hs.pull 5).cellsOf | exact (hs.pull 6).cellsOf | exact (hs.pull 7).cellsOf | exact (hs.pull 8).cellsOf) | (and_intros <;> first | exact hs.cells2 rfl rfl | exact (hs.pull 1).cells2 rfl rfl | exact (hs.pull 2).cells2 rfl rfl | exact (hs.pull 3).cells2 rfl rfl | exact (hs.pull 4).cells2 rfl rfl | exact (hs.pull 5).cells2 rfl rfl | exact (hs.pull 6).cells2 rfl rfl | exact (hs.pull 7).cells2 rfl rfl | exact (hs.pull 8).cells2 rfl rfl | exact hs.cell rfl | exact (hs.pull 1).cell rfl | exact (hs.pull 2).cell rfl | exact (hs.pull 3).cell rfl | exact (hs.pull 4).cell rfl | exact (hs.pull 5).cell rfl | exact (hs.pull 6).cell rfl | exact (hs.pull 7).cell rfl | exact (hs.pull 8).cell rfl | assumption | exact hs.cellsOf | exact (hs.pull 1).cellsOf | exact (hs.pull 2).cellsOf | exact (hs.pull 3).cellsOf | exact (hs.pull 4).cellsOf | exact (hs.pull 5).cellsOf | exact (hs.pull 6).cellsOf | exact (hs.pull 7).cellsOf | exact (hs.pull 8).cellsOf)), ?_⟩
      refine x_call Try.f11 Try.func11 rfl rfl _ rfl ?_
      refine ((new_d (hs.pull 1) hin (hsm rfl))).mono ?_
      clear hs; rintro e w ⟨x, rfl, hs⟩
      refine ⟨_, rfl, fun h => (by first | (cases h; done) | (first | exact hs.cells2 rfl rfl | exact (hs.pull 1).cells2 rfl rfl | exact (hs.pull 2).cells2 rfl rfl | exact (hs.pull 3).cells2 rfl rfl | exact (hs.pull 4).cells2 rfl rfl | exact (hs.pull 5).cells2 rfl rfl | exact (hs.pull 6).cells2 rfl rfl | exact (hs.pull 7).cells2 rfl rfl | exact (hs.pull 8).cells2 rfl rfl | exact hs.cell rfl | exact (hs.pull 1).cell rfl | exact (hs.pull 2).cell rfl | exact (hs.pull 3).cell rfl | exact (hs.pull 4).cell rfl | exact (hs.pull 5).cell rfl | exact (hs.pull 6).cell rfl | exact (hs.pull 7).cell rfl | exact (hs.pull 8).cell rfl | assumption | exact hs.cellsOf | exact (hs.pull 1).cellsOf | exact (hs.pull 2).cellsOf | exact (hs.pull 3).cellsOf | exact (hs.pull 4).cellsOf | exact (hs.pull 5).cellsOf | exact (hs.pull 6).cellsOf | exact (hs.pull 7).cellsOf | exact (hs.pull 8).cellsOf) | (and_intros <;> first | exact hs.cells2 rfl rfl | exact (hs.pull 1).cells2 rfl rfl | exact (hs.pull 2).cells2 rfl rfl | exact (hs.pull 3).cells2 rfl rfl | exact (hs.pull 4).cells2 rfl rfl | exact (hs.pull 5).cells2 rfl rfl | exact (hs.pull 6).cells2 rfl rfl | exact (hs.pull 7).cells2 rfl rfl | exact (hs.pull 8).cells2 rfl rfl | exact hs.cell rfl | exact (hs.pull 1).cell rfl | exact (hs.pull 2).cell rfl | exact (hs.pull 3).cell rfl | exact (hs.pull 4).cell rfl | exact (hs.pull 5).cell rfl | exact (hs.pull 6).cell rfl | exact (hs.pull 7).cell rfl | exact (hs.pull 8).cell rfl | assumption | exact hs.cellsOf | exact (hs.pull 1).cellsOf | exact (hs.pull 2).cellsOf | exact (hs.pull 3).cellsOf | exact (hs.pull 4).cellsOf | exact (hs.pull 5).cellsOf | exact (hs.pull 6).cellsOf | exact (hs.pull 7).cellsOf | exact (hs.pull 8).cellsOf)), ?_⟩
      refine x_assign (.pointer _) rfl ?_
      refine x_assign (.pointer _) rfl ?_
      refine x_nil ?_
      refine then_n ?_
      refine c_seq ?_
      refine c_seq ?_
      -- region 4
      generalize D.v.sv = V at *
      refine c_region ?_
      refine x_assign (.int _ _) rfl ?_
      refine x_nil ?_
      refine then_n ?_
      refine c_block ?_
      refine c_loop (γ := Nat) (fun (T : Nat) => [(1, .slice a1 ts.length c1), (5, .pointer (some ⟨f, 0, none⟩)), (6, .pointer (some ⟨x, 0, none⟩)), (7, .int .i64 (T : Nat))]) (fun (T : Nat) w => T ≤ 2 ∧ Sat w0 w (SO f V (tells V (rp T ts) S0) :: SO x V (tells V (rp T ts.reverse) S0) :: [Init w0])) (fun (T : Nat) => 2 - T) 0 ⟨rfl, rfl, rfl, rfl, trivial⟩ ⟨by omega, hs.sel [2, 0, 1] 4⟩ ?_
      clear hs
      rintro T ρ w ⟨hT, hs⟩
      change CW Try.prog 120 _ _ (sets 120 [(1, .slice a1 ts.length c1), (5, .pointer (some ⟨f, 0, none⟩)), (6, .pointer (some ⟨x, 0, none⟩)), (7, .int .i64 (T : Nat))] ρ) w
      refine c_seq ?_
      refine c_seq ?_
      -- region 5
      refine c_region ?_
      refine x_move (.int _ _) rfl ?_
      refine x_lss _ _ rfl rfl ?_
      refine x_nil ?_
      refine then_n ?_
      refine c_test _ rfl (fun hb => ?_) (fun hb => ?_)   -- cond t25
      · skip
        refine c_skip ?_
        refine then_n ?_
        refine c_seq ?_
        refine c_block ?_
        refine c_seq ?_
        -- region 7
        refine c_region ?_
        refine x_assign (.int _ _) rfl ?_
        refine x_nil ?_
        refine then_n ?_
        refine c_block ?_
        refine c_loop (γ := Nat) (fun (i : Nat) => [(1, .slice a1 ts.length c1), (5, .pointer (some ⟨f, 0, none⟩)), (6, .pointer (some ⟨x, 0, none⟩)), (7, .int .i64 (T : Nat)), (8, .int .i64 (i : Nat))]) (fun (i : Nat) w => i ≤ ts.length ∧ Sat w0 w (SO f V (tells V (rp T ts ++ ts.take i) S0) :: SO x V (tells V (rp T ts.reverse ++ ts.reverse.take i) S0) :: [Init w0])) (fun (i : Nat) => ts.length - i) 0 ⟨rfl, rfl, rfl, rfl, rfl, trivial⟩ ⟨by omega, by rw [List.take_zero, List.take_zero, List.append_nil, List.append_nil]; exact hs⟩ ?_
        clear hs
        rintro i ρ w ⟨hi, hs⟩
        change CW Try.prog 120 _ _ (sets 120 [(1, .slice a1 ts.length c1), (5, .pointer (some ⟨f, 0, none⟩)), (6, .pointer (some ⟨x, 0, none⟩)), (7, .int .i64 (T : Nat)), (8, .int .i64 (i : Nat))] ρ) w
        refine c_seq ?_
        refine c_seq ?_
        -- region 8
        refine c_region ?_
        refine x_move (.int _ _) rfl ?_
        refine x_move (.slice _ _ _) rfl ?_
        refine x_lenSl Try.underlying28 _ _ _ rfl ?_
        refine x_lss _ _ rfl rfl ?_
        refine x_nil ?_
        refine then_n ?_
        refine c_test _ rfl (fun hb => ?_) (fun hb => ?_)   -- cond t31
        · skip
          obtain ⟨u, hu⟩ : ∃ y, ts[i]? = some y := ⟨ts[i]'(by omega), List.getElem?_eq_getElem _⟩
          obtain ⟨v, hv⟩ : ∃ y, ts[ts.length - 1 - i]? = some y := ⟨ts[ts.length - 1 - i]'(by omega), List.getElem?_eq_getElem _⟩
          obtain ⟨g, o, rfl⟩ := (hina _ _ (hs.pull 2)).addr (by omega)
          have hcu : ∀ {w' L'}, Sat w0 w' (Init w0 :: L') → (∀ (j : Nat) (y : Value), [Value.int .u16 (u.P.Id : Nat), .int .u32 (u.P.Inc : Nat), .bool u.Of, .int .i64 u.Leaf, .int .u64 (u.N : Nat)][j]? = some y → w'.cell? ((⟨g, o + i * 5, none⟩ : Addr).add j) = some y) := fun h => (hina _ _ h).all (fun a => a.cells_len) hu
          have hcv : ∀ {w' L'}, Sat w0 w' (Init w0 :: L') → (∀ (j : Nat) (y : Value), [Value.int .u16 (v.P.Id : Nat), .int .u32 (v.P.Inc : Nat), .bool v.Of, .int .i64 v.Leaf, .int .u64 (v.N : Nat)][j]? = some y → w'.cell? ((⟨g, o + (ts.length - 1 - i) * 5, none⟩ : Addr).add j) = some y) := fun h => (hina _ _ h).all (fun a => a.cells_len) hv
          have htu : tells V (rp T ts ++ ts.take (i + 1)) S0 = tell V (tells V (rp T ts ++ ts.take i) S0) u := by rw [← tells_snoc, List.take_add_one, hu, List.append_assoc]; rfl
          have htv : tells V (rp T ts.reverse ++ ts.reverse.take (i + 1)) S0 = tell V (tells V (rp T ts.reverse ++ ts.reverse.take i) S0) v := by rw [← tells_snoc, List.take_add_one, List.getElem?_reverse (by omega), hv, List.append_assoc]; rfl
          · skip
            refine c_skip ?_
            refine then_n ?_
            refine c_seq ?_
            refine c_block ?_
            refine c_seqI (γ := Nat × Nat) (fun (⟨B9, B10⟩ : Nat × Nat) => [(1, .slice (some ⟨g, o, none⟩) ts.length c1), (5, .pointer (some ⟨f, 0, none⟩)), (6, .pointer (some ⟨x, 0, none⟩)), (7, .int .i64 (T : Nat)), (8, .int .i64 (i : Nat)), (9, .pointer (some ⟨B9, 0, none⟩)), (10, .pointer (some ⟨B10, 0, none⟩))]) (fun (⟨B9, B10⟩ : Nat × Nat) w => Sat w0 w (Blk B9 (.cells #[.int .u16 (u.P.Id : Nat), .int .u32 (u.P.Inc : Nat), .bool u.Of, .int .i64 u.Leaf, .int .u64 (u.N : Nat)] 40 (0, 0)) :: Blk B10 (.cells #[.int .u16 (v.P.Id : Nat), .int .u32 (v.P.Inc : Nat), .bool v.Of, .int .i64 v.Leaf, .int .u64 (v.N : Nat)] 40 (0, 0)) :: SO f V (tells V (rp T ts ++ ts.take i) S0) :: SO x V (tells V (rp T ts.reverse ++ ts.reverse.take i) S0) :: [Init w0])) ?_ ?_
            · skip
              -- region 10 DRAWS
              refine c_fork (fun w => (∀ (j : Nat) (y : Value), [Value.int .u16 (u.P.Id : Nat), .int .u32 (u.P.Inc : Nat), .bool u.Of, .int .i64 u.Leaf, .int .u64 (u.N : Nat)][j]? = some y → w.cell? ((⟨g, o + i * 5, none⟩ : Addr).add j) = some y) ∧ (∀ (j : Nat) (y : Value), [Value.int .u16 (v.P.Id : Nat), .int .u32 (v.P.Inc : Nat), .bool v.Of, .int .i64 v.Leaf, .int .u64 (v.N : Nat)][j]? = some y → w.cell? ((⟨g, o + (ts.length - 1 - i) * 5, none⟩ : Addr).add j) = some y)) (fun i => !(Nat.beq i 15)) [(0, 2), (1, 2), (2, 2), (3, 1), (4, 2), (5, 2), (6, 2), (7, 2), (8, 2), (9, 2), (10, 2), (11, 1)] [(12, [(13, 0), (14, 0), (15, 0)]), (13, [(12, 0), (14, 0), (15, 0)])] 3 (by kernel_rfl) (by kernel_rfl) (by kernel_rfl) (by kernel_rfl) (⟨hcu (hs.drew.pull 2), hcv (hs.drew.pull 2)⟩) ?_
              replace hs := hs.drew
              refine x_move (.slice _ _ _) rfl ?_
              refine x_move (.int _ _) rfl ?_
              refine x_indexAddr Try.underlying28 sz_40 _ _ _ _ _ rfl rfl (by omega) ?_
              refine h_loadN [_, _, _, _, _] agg_40 _ rfl (fun w hS => by first | exact hS | exact hS.1 | exact hS.2 | exact hS.2.1 | exact hS.2.2 | exact hS.2.2.1 | exact hS.2.2.2 | exact hS.2.2.2.1 | exact hS.2.2.2.2 | exact hS.cellsOf | exact (hS.pull 1).cellsOf | exact (hS.pull 2).cellsOf | exact (hS.pull 3).cellsOf | exact (hS.pull 4).cellsOf | exact (hS.pull 5).cellsOf | exact (hS.pull 6).cellsOf | exact hS.cells2 rfl rfl | exact (hS.pull 1).cells2 rfl rfl | exact (hS.pull 2).cells2 rfl rfl | exact (hS.pull 3).cells2 rfl rfl | exact (hS.pull 4).cells2 rfl rfl | exact (hS.pull 5).cells2 rfl rfl | exact (hS.pull 6).cells2 rfl rfl) ?_
              refine x_move (.slice _ _ _) rfl ?_
              refine x_move (.slice _ _ _) rfl ?_
              refine x_lenSl Try.underlying28 _ _ _ rfl ?_
              refine x_subN _ 1 rfl rfl (by omega) (by simp only [X.hi]; omega) ?_
              refine x_move (.int _ _) rfl ?_
              refine x_subN _ _ rfl rfl (by omega) (by simp only [X.hi]; omega) ?_
              refine x_indexAddr Try.underlying28 sz_40 _ _ _ _ _ rfl rfl (by omega) ?_
              refine h_loadN [_, _, _, _, _] agg_40 _ rfl (fun w hS => by first | exact hS | exact hS.1 | exact hS.2 | exact hS.2.1 | exact hS.2.2 | exact hS.2.2.1 | exact hS.2.2.2 | exact hS.2.2.2.1 | exact hS.2.2.2.2 | exact hS.cellsOf | exact (hS.pull 1).cellsOf | exact (hS.pull 2).cellsOf | exact (hS.pull 3).cellsOf | exact (hS.pull 4).cellsOf | exact (hS.pull 5).cellsOf | exact (hS.pull 6).cellsOf | exact hS.cells2 rfl rfl | exact (hS.pull 1).cells2 rfl rfl | exact (hS.pull 2).cells2 rfl rfl | exact (hS.pull 3).cells2 rfl rfl | exact (hS.pull 4).cells2 rfl rfl | exact (hS.pull 5).cells2 rfl rfl | exact (hS.pull 6).cells2 rfl rfl) ?_
              refine x_nil ?_
              refine (List.forall_mem_cons.2 ⟨?_, (List.forall_mem_cons.2 ⟨?_, (fun _ h => by cases h)⟩)⟩)
              · skip
                refine x_alloc zi_40 hs ?_; clear hs; intro b9 w hs; refine ⟨fun h => (by first | (cases h; done) | exact ⟨hcu (hs.pull 3), hcv (hs.pull 3)⟩ | exact ⟨hcu (hs.pull 4), hcv (hs.pull 4)⟩), ?_⟩
                refine x_alloc zi_40 hs ?_; clear hs; intro b10 w hs; refine ⟨fun h => (by first | (cases h; done) | exact ⟨hcu (hs.pull 3), hcv (hs.pull 3)⟩ | exact ⟨hcu (hs.pull 4), hcv (hs.pull 4)⟩), ?_⟩
                first
                  | refine x_storeAllI hs 0 rfl rfl agg_40 [_, _, _, _, _] rfl rfl rfl rfl ?_
                  | refine x_storeAllI hs 1 rfl rfl agg_40 [_, _, _, _, _] rfl rfl rfl rfl ?_
                  | refine x_storeAllI hs 2 rfl rfl agg_40 [_, _, _, _, _] rfl rfl rfl rfl ?_
                  | refine x_storeAllI hs 3 rfl rfl agg_40 [_, _, _, _, _] rfl rfl rfl rfl ?_
                  | refine x_storeAllI hs 4 rfl rfl agg_40 [_, _, _, _, _] rfl rfl rfl rfl ?_
                  | refine x_storeAllI hs 5 rfl rfl agg_40 [_, _, _, _, _] rfl rfl rfl rfl ?_
                  | refine x_storeAllI hs 6 rfl rfl agg_40 [_, _, _, _, _] rfl rfl rfl rfl ?_
                  | refine x_storeAllI hs 7 rfl rfl agg_40 [_, _, _, _, _] rfl rfl rfl rfl ?_
                clear hs; intro w hs
                try dsimp only [back, List.set_cons_zero, List.set_cons_succ] at hs
                refine ⟨fun h => (by first | (cases h; done) | exact ⟨hcu (hs.pull 3), hcv (hs.pull 3)⟩ | exact ⟨hcu (hs.pull 4), hcv (hs.pull 4)⟩), ?_⟩
                first
                  | refine x_storeAllI hs 0 rfl rfl agg_40 [_, _, _, _, _] rfl rfl rfl rfl ?_
                  | refine x_storeAllI hs 1 rfl rfl agg_40 [_, _, _, _, _] rfl rfl rfl rfl ?_
                  | refine x_storeAllI hs 2 rfl rfl agg_40 [_, _, _, _, _] rfl rfl rfl rfl ?_
                  | refine x_storeAllI hs 3 rfl rfl agg_40 [_, _, _, _, _] rfl rfl rfl rfl ?_
                  | refine x_storeAllI hs 4 rfl rfl agg_40 [_, _, _, _, _] rfl rfl rfl rfl ?_
                  | refine x_storeAllI hs 5 rfl rfl agg_40 [_, _, _, _, _] rfl rfl rfl rfl ?_
                  | refine x_storeAllI hs 6 rfl rfl agg_40 [_, _, _, _, _] rfl rfl rfl rfl ?_
                  | refine x_storeAllI hs 7 rfl rfl agg_40 [_, _, _, _, _] rfl rfl rfl rfl ?_
                clear hs; intro w hs
                try dsimp only [back, List.set_cons_zero, List.set_cons_succ] at hs
                refine ⟨fun h => (by first | (cases h; done) | exact ⟨hcu (hs.pull 3), hcv (hs.pull 3)⟩ | exact ⟨hcu (hs.pull 4), hcv (hs.pull 4)⟩), ?_⟩
                refine x_nil ?_
                refine then_n ?_
                exact ⟨(b9, b10), ⟨rfl, rfl, rfl, rfl, rfl, rfl, rfl, trivial⟩, hs.perm [1, 0]⟩
              · skip
                refine x_alloc zi_40 hs ?_; clear hs; intro b10 w hs; refine ⟨fun h => (by first | (cases h; done) | exact ⟨hcu (hs.pull 3), hcv (hs.pull 3)⟩ | exact ⟨hcu (hs.pull 4), hcv (hs.pull 4)⟩), ?_⟩
                refine x_alloc zi_40 hs ?_; clear hs; intro b9 w hs; refine ⟨fun h => (by first | (cases h; done) | exact ⟨hcu (hs.pull 3), hcv (hs.pull 3)⟩ | exact ⟨hcu (hs.pull 4), hcv (hs.pull 4)⟩), ?_⟩
                first
                  | refine x_storeAllI hs 0 rfl rfl agg_40 [_, _, _, _, _] rfl rfl rfl rfl ?_
                  | refine x_storeAllI hs 1 rfl rfl agg_40 [_, _, _, _, _] rfl rfl rfl rfl ?_
                  | refine x_storeAllI hs 2 rfl rfl agg_40 [_, _, _, _, _] rfl rfl rfl rfl ?_
                  | refine x_storeAllI hs 3 rfl rfl agg_40 [_, _, _, _, _] rfl rfl rfl rfl ?_
                  | refine x_storeAllI hs 4 rfl rfl agg_40 [_, _, _, _, _] rfl rfl rfl rfl ?_
                  | refine x_storeAllI hs 5 rfl rfl agg_40 [_, _, _, _, _] rfl rfl rfl rfl ?_
                  | refine x_storeAllI hs 6 rfl rfl agg_40 [_, _, _, _, _] rfl rfl rfl rfl ?_
                  | refine x_storeAllI hs 7 rfl rfl agg_40 [_, _, _, _, _] rfl rfl rfl rfl ?_
                clear hs; intro w hs
                try dsimp only [back, List.set_cons_zero, List.set_cons_succ] at hs
                refine ⟨fun h => (by first | (cases h; done) | exact ⟨hcu (hs.pull 3), hcv (hs.pull 3)⟩ | exact ⟨hcu (hs.pull 4), hcv (hs.pull 4)⟩), ?_⟩
                first
                  | refine x_storeAllI hs 0 rfl rfl agg_40 [_, _, _, _, _] rfl rfl rfl rfl ?_
                  | refine x_storeAllI hs 1 rfl rfl agg_40 [_, _, _, _, _] rfl rfl rfl rfl ?_
                  | refine x_storeAllI hs 2 rfl rfl agg_40 [_, _, _, _, _] rfl rfl rfl rfl ?_
                  | refine x_storeAllI hs 3 rfl rfl agg_40 [_, _, _, _, _] rfl rfl rfl rfl ?_
                  | refine x_storeAllI hs 4 rfl rfl agg_40 [_, _, _, _, _] rfl rfl rfl rfl ?_
                  | refine x_storeAllI hs 5 rfl rfl agg_40 [_, _, _, _, _] rfl rfl rfl rfl ?_
                  | refine x_storeAllI hs 6 rfl rfl agg_40 [_, _, _, _, _] rfl rfl rfl rfl ?_
                  | refine x_storeAllI hs 7 rfl rfl agg_40 [_, _, _, _, _] rfl rfl rfl rfl ?_
                clear hs; intro w hs
                try dsimp only [back, List.set_cons_zero, List.set_cons_succ] at hs
                refine ⟨fun h => (by first | (cases h; done) | exact ⟨hcu (hs.pull 3), hcv (hs.pull 3)⟩ | exact ⟨hcu (hs.pull 4), hcv (hs.pull 4)⟩), ?_⟩
                refine x_nil ?_
                refine then_n ?_
                exact ⟨(b9, b10), ⟨rfl, rfl, rfl, rfl, rfl, rfl, rfl, trivial⟩, hs⟩
            · skip
              clear hs
              rintro ⟨B9, B10⟩ ρ w hs
              change CW Try.prog 120 _ _ (sets 120 [(1, .slice (some ⟨g, o, none⟩) ts.length c1), (5, .pointer (some ⟨f, 0, none⟩)), (6, .pointer (some ⟨x, 0, none⟩)), (7, .int .i64 (T : Nat)), (8, .int .i64 (i : Nat)), (9, .pointer (some ⟨B9, 0, none⟩)), (10, .pointer (some ⟨B10, 0, none⟩))] ρ) w
              refine c_seqI (γ := Unit) (fun (_u : Unit) => [(1, .slice (some ⟨g, o, none⟩) ts.length c1), (5, .pointer (some ⟨f, 0, none⟩)), (6, .pointer (some ⟨x, 0, none⟩)), (7, .int .i64 (T : Nat)), (8, .int .i64 (i : Nat)), (9, .pointer (some ⟨B9, 0, none⟩)), (10, .pointer (some ⟨B10, 0, none⟩))]) (fun (_u : Unit) w => Sat w0 w (SO f V (tells V (rp T ts ++ ts.take (i + 1)) S0) :: Blk B10 (.cells #[.int .u16 (v.P.Id : Nat), .int .u32 (v.P.Inc : Nat), .bool v.Of, .int .i64 v.Leaf, .int .u64 (v.N : Nat)] 40 (0, 0)) :: SO x V (tells V (rp T ts.reverse ++ ts.reverse.take i) S0) :: [Init w0])) ?_ ?_
              · skip
                refine c_seq ?_
                -- region 11
                refine c_region ?_
                first | refine x_field0 fa_40_1 _ rfl ?_ | refine x_field fa_40_1 _ _ rfl ?_
                refine x_load one_4 _ (.bool _) rfl (by first | exact hs.cell rfl | exact (hs.pull 1).cell rfl | exact (hs.pull 2).cell rfl | exact (hs.pull 3).cell rfl | assumption | exact (hs.pull 4).cell rfl | exact (hs.pull 5).cell rfl | exact (hs.pull 6).cell rfl | exact (hs.pull 7).cell rfl) ?_
                refine x_nil ?_
                refine then_n ?_
                refine c_cond rfl (fun hb => ?_) (fun hb => ?_)   -- cond t47
                · skip
                  -- region 12
                  refine c_region ?_
                  refine x_move (.pointer _) rfl ?_
                  first | refine x_field0 fa_40_2 _ rfl ?_ | refine x_field fa_40_2 _ _ rfl ?_
                  refine x_load one_3 _ (.int _ _) rfl (by first | exact hs.cell rfl | exact (hs.pull 1).cell rfl | exact (hs.pull 2).cell rfl | exact (hs.pull 3).cell rfl | assumption | exact (hs.pull 4).cell rfl | exact (hs.pull 5).cell rfl | exact (hs.pull 6).cell rfl | exact (hs.pull 7).cell rfl) ?_
                  first | refine x_field0 fa_40_3 _ rfl ?_ | refine x_field fa_40_3 _ _ rfl ?_
                  refine x_load one_22 _ (.int _ _) rfl (by first | exact hs.cell rfl | exact (hs.pull 1).cell rfl | exact (hs.pull 2).cell rfl | exact (hs.pull 3).cell rfl | assumption | exact (hs.pull 4).cell rfl | exact (hs.pull 5).cell rfl | exact (hs.pull 6).cell rfl | exact (hs.pull 7).cell rfl) ?_
                  refine x_call Try.f14 Try.func14 rfl rfl _ rfl ?_
                  refine (tell_T (t := u) (hs.pull 2) hb).mono ?_
                  clear hs; rintro e w ⟨r, rfl, hs⟩
                  replace hs := hs.push 2
                  try dsimp only [back] at hs
                  refine ⟨_, rfl, fun h => (by first | (cases h; done) | (first | exact hs.cells2 rfl rfl | exact (hs.pull 1).cells2 rfl rfl | exact (hs.pull 2).cells2 rfl rfl | exact (hs.pull 3).cells2 rfl rfl | exact (hs.pull 4).cells2 rfl rfl | exact (hs.pull 5).cells2 rfl rfl | exact (hs.pull 6).cells2 rfl rfl | exact (hs.pull 7).cells2 rfl rfl | exact (hs.pull 8).cells2 rfl rfl | exact hs.cell rfl | exact (hs.pull 1).cell rfl | exact (hs.pull 2).cell rfl | exact (hs.pull 3).cell rfl | exact (hs.pull 4).cell rfl | exact (hs.pull 5).cell rfl | exact (hs.pull 6).cell rfl | exact (hs.pull 7).cell rfl | exact (hs.pull 8).cell rfl | assumption | exact hs.cellsOf | exact (hs.pull 1).cellsOf | exact (hs.pull 2).cellsOf | exact (hs.pull 3).cellsOf | exact (hs.pull 4).cellsOf | exact (hs.pull 5).cellsOf | exact (hs.pull 6).cellsOf | exact (hs.pull 7).cellsOf | exact (hs.pull 8).cellsOf) | (and_intros <;> first | exact hs.cells2 rfl rfl | exact (hs.pull 1).cells2 rfl rfl | exact (hs.pull 2).cells2 rfl rfl | exact (hs.pull 3).cells2 rfl rfl | exact (hs.pull 4).cells2 rfl rfl | exact (hs.pull 5).cells2 rfl rfl | exact (hs.pull 6).cells2 rfl rfl | exact (hs.pull 7).cells2 rfl rfl | exact (hs.pull 8).cells2 rfl rfl | exact hs.cell rfl | exact (hs.pull 1).cell rfl | exact (hs.pull 2).cell rfl | exact (hs.pull 3).cell rfl | exact (hs.pull 4).cell rfl | exact (hs.pull 5).cell rfl | exact (hs.pull 6).cell rfl | exact (hs.pull 7).cell rfl | exact (hs.pull 8).cell rfl | assumption | exact hs.cellsOf | exact (hs.pull 1).cellsOf | exact (hs.pull 2).cellsOf | exact (hs.pull 3).cellsOf | exact (hs.pull 4).cellsOf | exact (hs.pull 5).cellsOf | exact (hs.pull 6).cellsOf | exact (hs.pull 7).cellsOf | exact (hs.pull 8).cellsOf)), ?_⟩
                  refine x_nil ?_
                  refine then_n ?_
                  exact ⟨(), ⟨rfl, rfl, rfl, rfl, rfl, rfl, rfl, trivial⟩, by rw [htu]; exact (hs.perm [2, 1, 3, 4, 0]).sel [0, 1, 2, 3] 5⟩
                · skip
                  -- region 13
                  refine c_region ?_
                  refine x_move (.pointer _) rfl ?_
                  first | refine x_field0 fa_40_0 _ rfl ?_ | refine x_field fa_40_0 _ _ rfl ?_
                  refine x_loadN [_, _] agg_38 _ rfl (by first | assumption | exact hs.cellsOf | exact (hs.pull 1).cellsOf | exact (hs.pull 2).cellsOf | exact (hs.pull 3).cellsOf | exact (hs.pull 4).cellsOf | exact (hs.pull 5).cellsOf | exact (hs.pull 6).cellsOf | exact (hs.pull 7).cellsOf | exact (hs.pull 8).cellsOf | exact hs.cells2 rfl rfl | exact (hs.pull 1).cells2 rfl rfl | exact (hs.pull 2).cells2 rfl rfl | exact (hs.pull 3).cells2 rfl rfl | exact (hs.pull 4).cells2 rfl rfl | exact (hs.pull 5).cells2 rfl rfl | exact (hs.pull 6).cells2 rfl rfl | exact (hs.pull 7).cells2 rfl rfl | exact (hs.pull 8).cells2 rfl rfl) ?_
                  first | refine x_field0 fa_40_3 _ rfl ?_ | refine x_field fa_40_3 _ _ rfl ?_
                  refine x_load one_22 _ (.int _ _) rfl (by first | exact hs.cell rfl | exact (hs.pull 1).cell rfl | exact (hs.pull 2).cell rfl | exact (hs.pull 3).cell rfl | assumption | exact (hs.pull 4).cell rfl | exact (hs.pull 5).cell rfl | exact (hs.pull 6).cell rfl | exact (hs.pull 7).cell rfl) ?_
                  refine x_call Try.f13 Try.func13 rfl rfl _ rfl ?_
                  refine (tell_F (t := u) (hs.pull 2) hb).mono ?_
                  clear hs; rintro e w ⟨r, rfl, hs⟩
                  replace hs := hs.push 2
                  try dsimp only [back] at hs
                  refine ⟨_, rfl, fun h => (by first | (cases h; done) | (first | exact hs.cells2 rfl rfl | exact (hs.pull 1).cells2 rfl rfl | exact (hs.pull 2).cells2 rfl rfl | exact (hs.pull 3).cells2 rfl rfl | exact (hs.pull 4).cells2 rfl rfl | exact (hs.pull 5).cells2 rfl rfl | exact (hs.pull 6).cells2 rfl rfl | exact (hs.pull 7).cells2 rfl rfl | exact (hs.pull 8).cells2 rfl rfl | exact hs.cell rfl | exact (hs.pull 1).cell rfl | exact (hs.pull 2).cell rfl | exact (hs.pull 3).cell rfl | exact (hs.pull 4).cell rfl | exact (hs.pull 5).cell rfl | exact (hs.pull 6).cell rfl | exact (hs.pull 7).cell rfl | exact (hs.pull 8).cell rfl | assumption | exact hs.cellsOf | exact (hs.pull 1).cellsOf | exact (hs.pull 2).cellsOf | exact (hs.pull 3).cellsOf | exact (hs.pull 4).cellsOf | exact (hs.pull 5).cellsOf | exact (hs.pull 6).cellsOf | exact (hs.pull 7).cellsOf | exact (hs.pull 8).cellsOf) | (and_intros <;> first | exact hs.cells2 rfl rfl | exact (hs.pull 1).cells2 rfl rfl | exact (hs.pull 2).cells2 rfl rfl | exact (hs.pull 3).cells2 rfl rfl | exact (hs.pull 4).cells2 rfl rfl | exact (hs.pull 5).cells2 rfl rfl | exact (hs.pull 6).cells2 rfl rfl | exact (hs.pull 7).cells2 rfl rfl | exact (hs.pull 8).cells2 rfl rfl | exact hs.cell rfl | exact (hs.pull 1).cell rfl | exact (hs.pull 2).cell rfl | exact (hs.pull 3).cell rfl | exact (hs.pull 4).cell rfl | exact (hs.pull 5).cell rfl | exact (hs.pull 6).cell rfl | exact (hs.pull 7).cell rfl | exact (hs.pull 8).cell rfl | assumption | exact hs.cellsOf | exact (hs.pull 1).cellsOf | exact (hs.pull 2).cellsOf | exact (hs.pull 3).cellsOf | exact (hs.pull 4).cellsOf | exact (hs.pull 5).cellsOf | exact (hs.pull 6).cellsOf | exact (hs.pull 7).cellsOf | exact (hs.pull 8).cellsOf)), ?_⟩
                  refine x_nil ?_
                  refine then_n ?_
                  exact ⟨(), ⟨rfl, rfl, rfl, rfl, rfl, rfl, rfl, trivial⟩, by rw [htu]; exact (hs.perm [2, 1, 3, 4, 0]).sel [0, 1, 2, 3] 5⟩
              · skip
                clear hs
                rintro _u ρ w hs
                change CW Try.prog 120 _ _ (sets 120 [(1, .slice (some ⟨g, o, none⟩) ts.length c1), (5, .pointer (some ⟨f, 0, none⟩)), (6, .pointer (some ⟨x, 0, none⟩)), (7, .int .i64 (T : Nat)), (8, .int .i64 (i : Nat)), (9, .pointer (some ⟨B9, 0, none⟩)), (10, .pointer (some ⟨B10, 0, none⟩))] ρ) w
                refine c_seq ?_
                -- region 14
                refine c_region ?_
                first | refine x_field0 fa_40_1 _ rfl ?_ | refine x_field fa_40_1 _ _ rfl ?_
                refine x_load one_4 _ (.bool _) rfl (by first | exact hs.cell rfl | exact (hs.pull 1).cell rfl | exact (hs.pull 2).cell rfl | exact (hs.pull 3).cell rfl | assumption | exact (hs.pull 4).cell rfl | exact (hs.pull 5).cell rfl | exact (hs.pull 6).cell rfl | exact (hs.pull 7).cell rfl) ?_
                refine x_nil ?_
                refine then_n ?_
                refine c_cond rfl (fun hb => ?_) (fun hb => ?_)   -- cond t61
                · skip
                  -- region 15
                  refine c_region ?_
                  refine x_move (.pointer _) rfl ?_
                  first | refine x_field0 fa_40_2 _ rfl ?_ | refine x_field fa_40_2 _ _ rfl ?_
                  refine x_load one_3 _ (.int _ _) rfl (by first | exact hs.cell rfl | exact (hs.pull 1).cell rfl | exact (hs.pull 2).cell rfl | exact (hs.pull 3).cell rfl | assumption | exact (hs.pull 4).cell rfl | exact (hs.pull 5).cell rfl | exact (hs.pull 6).cell rfl | exact (hs.pull 7).cell rfl) ?_
                  first | refine x_field0 fa_40_3 _ rfl ?_ | refine x_field fa_40_3 _ _ rfl ?_
                  refine x_load one_22 _ (.int _ _) rfl (by first | exact hs.cell rfl | exact (hs.pull 1).cell rfl | exact (hs.pull 2).cell rfl | exact (hs.pull 3).cell rfl | assumption | exact (hs.pull 4).cell rfl | exact (hs.pull 5).cell rfl | exact (hs.pull 6).cell rfl | exact (hs.pull 7).cell rfl) ?_
                  refine x_call Try.f14 Try.func14 rfl rfl _ rfl ?_
                  refine (tell_T (t := v) (hs.pull 2) hb).mono ?_
                  clear hs; rintro e w ⟨r, rfl, hs⟩
                  replace hs := hs.push 2
                  try dsimp only [back] at hs
                  refine ⟨_, rfl, fun h => (by first | (cases h; done) | (first | exact hs.cells2 rfl rfl | exact (hs.pull 1).cells2 rfl rfl | exact (hs.pull 2).cells2 rfl rfl | exact (hs.pull 3).cells2 rfl rfl | exact (hs.pull 4).cells2 rfl rfl | exact (hs.pull 5).cells2 rfl rfl | exact (hs.pull 6).cells2 rfl rfl | exact (hs.pull 7).cells2 rfl rfl | exact (hs.pull 8).cells2 rfl rfl | exact hs.cell rfl | exact (hs.pull 1).cell rfl | exact (hs.pull 2).cell rfl | exact (hs.pull 3).cell rfl | exact (hs.pull 4).cell rfl | exact (hs.pull 5).cell rfl | exact (hs.pull 6).cell rfl | exact (hs.pull 7).cell rfl | exact (hs.pull 8).cell rfl | assumption | exact hs.cellsOf | exact (hs.pull 1).cellsOf | exact (hs.pull 2).cellsOf | exact (hs.pull 3).cellsOf | exact (hs.pull 4).cellsOf | exact (hs.pull 5).cellsOf | exact (hs.pull 6).cellsOf | exact (hs.pull 7).cellsOf | exact (hs.pull 8).cellsOf) | (and_intros <;> first | exact hs.cells2 rfl rfl | exact (hs.pull 1).cells2 rfl rfl | exact (hs.pull 2).cells2 rfl rfl | exact (hs.pull 3).cells2 rfl rfl | exact (hs.pull 4).cells2 rfl rfl | exact (hs.pull 5).cells2 rfl rfl | exact (hs.pull 6).cells2 rfl rfl | exact (hs.pull 7).cells2 rfl rfl | exact (hs.pull 8).cells2 rfl rfl | exact hs.cell rfl | exact (hs.pull 1).cell rfl | exact (hs.pull 2).cell rfl | exact (hs.pull 3).cell rfl | exact (hs.pull 4).cell rfl | exact (hs.pull 5).cell rfl | exact (hs.pull 6).cell rfl | exact (hs.pull 7).cell rfl | exact (hs.pull 8).cell rfl | assumption | exact hs.cellsOf | exact (hs.pull 1).cellsOf | exact (hs.pull 2).cellsOf | exact (hs.pull 3).cellsOf | exact (hs.pull 4).cellsOf | exact (hs.pull 5).cellsOf | exact (hs.pull 6).cellsOf | exact (hs.pull 7).cellsOf | exact (hs.pull 8).cellsOf)), ?_⟩
                  refine x_nil ?_
                  refine inb_n ?_
                  refine then_n ?_
                  -- region 9
                  refine c_region ?_
                  refine x_move (.int _ _) rfl ?_
                  refine x_add _ _ rfl rfl (by simp only [X.lo]; omega) (by simp only [X.hi]; omega) ?_
                  refine x_assign (.int _ _) rfl ?_
                  refine x_nil ?_
                  refine then_n ?_
                  refine ⟨i + 1, ⟨rfl, rfl, rfl, rfl, rfl, trivial⟩, ⟨by omega, by rw [htv]; exact hs.sel [0, 2, 3] 4⟩, by first | omega | (dsimp only; omega)⟩
                · skip
                  -- region 16
                  refine c_region ?_
                  refine x_move (.pointer _) rfl ?_
                  first | refine x_field0 fa_40_0 _ rfl ?_ | refine x_field fa_40_0 _ _ rfl ?_
                  refine x_loadN [_, _] agg_38 _ rfl (by first | assumption | exact hs.cellsOf | exact (hs.pull 1).cellsOf | exact (hs.pull 2).cellsOf | exact (hs.pull 3).cellsOf | exact (hs.pull 4).cellsOf | exact (hs.pull 5).cellsOf | exact (hs.pull 6).cellsOf | exact (hs.pull 7).cellsOf | exact (hs.pull 8).cellsOf | exact hs.cells2 rfl rfl | exact (hs.pull 1).cells2 rfl rfl | exact (hs.pull 2).cells2 rfl rfl | exact (hs.pull 3).cells2 rfl rfl | exact (hs.pull 4).cells2 rfl rfl | exact (hs.pull 5).cells2 rfl rfl | exact (hs.pull 6).cells2 rfl rfl | exact (hs.pull 7).cells2 rfl rfl | exact (hs.pull 8).cells2 rfl rfl) ?_
                  first | refine x_field0 fa_40_3 _ rfl ?_ | refine x_field fa_40_3 _ _ rfl ?_
                  refine x_load one_22 _ (.int _ _) rfl (by first | exact hs.cell rfl | exact (hs.pull 1).cell rfl | exact (hs.pull 2).cell rfl | exact (hs.pull 3).cell rfl | assumption | exact (hs.pull 4).cell rfl | exact (hs.pull 5).cell rfl | exact (hs.pull 6).cell rfl | exact (hs.pull 7).cell rfl) ?_
                  refine x_call Try.f13 Try.func13 rfl rfl _ rfl ?_
                  refine (tell_F (t := v) (hs.pull 2) hb).mono ?_
                  clear hs; rintro e w ⟨r, rfl, hs⟩
                  replace hs := hs.push 2
                  try dsimp only [back] at hs
                  refine ⟨_, rfl, fun h => (by first | (cases h; done) | (first | exact hs.cells2 rfl rfl | exact (hs.pull 1).cells2 rfl rfl | exact (hs.pull 2).cells2 rfl rfl | exact (hs.pull 3).cells2 rfl rfl | exact (hs.pull 4).cells2 rfl rfl | exact (hs.pull 5).cells2 rfl rfl | exact (hs.pull 6).cells2 rfl rfl | exact (hs.pull 7).cells2 rfl rfl | exact (hs.pull 8).cells2 rfl rfl | exact hs.cell rfl | exact (hs.pull 1).cell rfl | exact (hs.pull 2).cell rfl | exact (hs.pull 3).cell rfl | exact (hs.pull 4).cell rfl | exact (hs.pull 5).cell rfl | exact (hs.pull 6).cell rfl | exact (hs.pull 7).cell rfl | exact (hs.pull 8).cell rfl | assumption | exact hs.cellsOf | exact (hs.pull 1).cellsOf | exact (hs.pull 2).cellsOf | exact (hs.pull 3).cellsOf | exact (hs.pull 4).cellsOf | exact (hs.pull 5).cellsOf | exact (hs.pull 6).cellsOf | exact (hs.pull 7).cellsOf | exact (hs.pull 8).cellsOf) | (and_intros <;> first | exact hs.cells2 rfl rfl | exact (hs.pull 1).cells2 rfl rfl | exact (hs.pull 2).cells2 rfl rfl | exact (hs.pull 3).cells2 rfl rfl | exact (hs.pull 4).cells2 rfl rfl | exact (hs.pull 5).cells2 rfl rfl | exact (hs.pull 6).cells2 rfl rfl | exact (hs.pull 7).cells2 rfl rfl | exact (hs.pull 8).cells2 rfl rfl | exact hs.cell rfl | exact (hs.pull 1).cell rfl | exact (hs.pull 2).cell rfl | exact (hs.pull 3).cell rfl | exact (hs.pull 4).cell rfl | exact (hs.pull 5).cell rfl | exact (hs.pull 6).cell rfl | exact (hs.pull 7).cell rfl | exact (hs.pull 8).cell rfl | assumption | exact hs.cellsOf | exact (hs.pull 1).cellsOf | exact (hs.pull 2).cellsOf | exact (hs.pull 3).cellsOf | exact (hs.pull 4).cellsOf | exact (hs.pull 5).cellsOf | exact (hs.pull 6).cellsOf | exact (hs.pull 7).cellsOf | exact (hs.pull 8).cellsOf)), ?_⟩
                  refine x_nil ?_
                  refine inb_n ?_
                  refine then_n ?_
                  -- region 9
                  refine c_region ?_
                  refine x_move (.int _ _) rfl ?_
                  refine x_add _ _ rfl rfl (by simp only [X.lo]; omega) (by simp only [X.hi]; omega) ?_
                  refine x_assign (.int _ _) rfl ?_
                  refine x_nil ?_
                  refine then_n ?_
                  refine ⟨i + 1, ⟨rfl, rfl, rfl, rfl, rfl, trivial⟩, ⟨by omega, by rw [htv]; exact hs.sel [0, 2, 3] 4⟩, by first | omega | (dsimp only; omega)⟩
        · skip
          refine c_exit ?_
          refine then_x ?_
          refine then_x ?_
          refine inb_e ?_
          refine inb_n ?_
          refine then_n ?_
          -- region 6
          refine c_region ?_
          refine x_move (.int _ _) rfl ?_
          refine x_add _ _ rfl rfl (by simp only [X.lo]; omega) (by simp only [X.hi]; omega) ?_
          refine x_assign (.int _ _) rfl ?_
          refine x_nil ?_
          refine then_n ?_
          refine ⟨T + 1, ⟨rfl, rfl, rfl, rfl, trivial⟩, ⟨by omega, by rw [rp_succ, rp_succ]; rw [List.take_of_length_le (by omega), List.take_of_length_le (by rw [List.length_reverse]; omega)] at hs; exact hs⟩, by first | omega | (dsimp only; omega)⟩
      · skip
        refine c_exit ?_
        refine then_x ?_
        refine then_x ?_
        refine inb_e ?_
        refine then_n ?_
        refine c_seq ?_
        refine c_seq ?_
        -- region 17
        obtain rfl : T = 2 := by omega
        obtain ⟨he1, he2⟩ := tells_same (V := V) (l := rp 2 ts) (l' := rp 2 ts.reverse) (fun t => by rw [rp_mem, rp_mem, List.mem_reverse]) S0
        generalize tells V (rp 2 ts) S0 = sA at *
        generalize tells V (rp 2 ts.reverse) S0 = sB at *
        refine c_region ?_
        refine x_assign (.int _ _) rfl ?_
        refine x_nil ?_
        refine then_n ?_
        refine c_block ?_
        refine c_loop (γ := Nat) (fun (i : Nat) => [(1, .slice a1 ts.length c1), (5, .pointer (some ⟨f, 0, none⟩)), (6, .pointer (some ⟨x, 0, none⟩)), (11, .int .i64 (i : Nat))]) (fun (i : Nat) w => i ≤ ts.length ∧ Sat w0 w (SO f V sA :: SO x V sB :: [Init w0])) (fun (i : Nat) => ts.length - i) 0 ⟨rfl, rfl, rfl, rfl, trivial⟩ ⟨by omega, hs⟩ ?_
        clear hs
        rintro i ρ w ⟨hi, hs⟩
        change CW Try.prog 120 _ _ (sets 120 [(1, .slice a1 ts.length c1), (5, .pointer (some ⟨f, 0, none⟩)), (6, .pointer (some ⟨x, 0, none⟩)), (11, .int .i64 (i : Nat))] ρ) w
        refine c_seq ?_
        refine c_seq ?_
        -- region 18
        refine c_region ?_
        refine x_move (.int _ _) rfl ?_
        refine x_move (.slice _ _ _) rfl ?_
        refine x_lenSl Try.underlying28 _ _ _ rfl ?_
        refine x_lss _ _ rfl rfl ?_
        refine x_nil ?_
        refine then_n ?_
        refine c_test _ rfl (fun hb => ?_) (fun hb => ?_)   -- cond t77
        · skip
          refine c_skip ?_
          refine then_n ?_
          refine c_seq ?_
          refine c_block ?_
          refine c_seq ?_
          -- region 20 DRAWS
          obtain ⟨u, hu⟩ : ∃ y, ts[i]? = some y := ⟨ts[i]'(by omega), List.getElem?_eq_getElem _⟩
          obtain ⟨g, o, rfl⟩ := (hina _ _ (hs.pull 2)).addr (by omega)
          have hcp : ∀ {w' L'}, Sat w0 w' (Init w0 :: L') → (∀ (j : Nat) (y : Value), [Value.int .u16 (u.P.Id : Nat), Value.int .u32 (u.P.Inc : Nat)][j]? = some y → w'.cell? ((⟨g, o + i * 5, none⟩ : Addr).add j) = some y) := fun h =>
            cells2 ((hina _ _ h).cell (fun a => a.cells_len) hu (q := 0) rfl) ((hina _ _ h).cell (fun a => a.cells_len) hu (q := 1) rfl)
          have hcl : ∀ {w' L'}, Sat w0 w' (Init w0 :: L') → w'.cell? ⟨g, o + i * 5 + 3, none⟩ = some (.int .i64 u.Leaf) := fun h => (hina _ _ h).cell (fun a => a.cells_len) hu (q := 3) rfl
          have heq1 : getN sA.ps u.P = getN sB.ps u.P := by rw [he1]
          have heq2 := leafI_congr (V := V) he1 he2 u.Leaf
          refine c_draw (fun w => (∀ (j : Nat) (y : Value), [Value.int .u16 (u.P.Id : Nat), Value.int .u32 (u.P.Inc : Nat)][j]? = some y → w.cell? ((⟨g, o + i * 5, none⟩ : Addr).add j) = some y)) (fun i => !(Nat.beq i 13 || Nat.beq i 29)) [(0, 2), (1, 2), (2, 2), (3, 2), (4, 2), (5, 1), (7, 2), (8, 2), (9, 2), (10, 2), (11, 2), (12, 1), (6, 0), (13, 0), (14, 2), (15, 2), (16, 2), (17, 2), (18, 2), (19, 2), (20, 2), (0, 3), (21, 1), (23, 2), (24, 2), (25, 2), (26, 2), (27, 2), (28, 1), (22, 0), (29, 0), (30, 2), (31, 2)] (by kernel_rfl) (by kernel_rfl) (by kernel_rfl) (by kernel_rfl) (hcp (hs.drew.pull 2)) ?_
          replace hs := hs.drew
          refine x_move (.pointer _) rfl ?_
          refine x_move (.slice _ _ _) rfl ?_
          refine x_move (.int _ _) rfl ?_
          refine x_indexAddr Try.underlying28 sz_40 _ _ _ _ _ rfl rfl (by omega) ?_
          first | refine x_field0 fa_40_0 _ rfl ?_ | refine x_field fa_40_0 _ _ rfl ?_
          refine h_loadN [_, _] agg_38 _ rfl (fun w hS => by first | exact hS | exact hS.1 | exact hS.2 | exact hS.2.1 | exact hS.2.2 | exact hS.2.2.1 | exact hS.2.2.2 | exact hS.2.2.2.1 | exact hS.2.2.2.2 | exact hS.cellsOf | exact (hS.pull 1).cellsOf | exact (hS.pull 2).cellsOf | exact (hS.pull 3).cellsOf | exact (hS.pull 4).cellsOf | exact (hS.pull 5).cellsOf | exact (hS.pull 6).cellsOf | exact hS.cells2 rfl rfl | exact (hS.pull 1).cells2 rfl rfl | exact (hS.pull 2).cells2 rfl rfl | exact (hS.pull 3).cells2 rfl rfl | exact (hS.pull 4).cells2 rfl rfl | exact (hS.pull 5).cells2 rfl rfl | exact (hS.pull 6).cells2 rfl rfl) ?_
          refine x_move (.pointer _) rfl ?_
          refine x_move (.slice _ _ _) rfl ?_
          refine x_move (.int _ _) rfl ?_
          refine x_indexAddr Try.underlying28 sz_40 _ _ _ _ _ rfl rfl (by omega) ?_
          first | refine x_field0 fa_40_0 _ rfl ?_ | refine x_field fa_40_0 _ _ rfl ?_
          refine h_loadN [_, _] agg_38 _ rfl (fun w hS => by first | exact hS | exact hS.1 | exact hS.2 | exact hS.2.1 | exact hS.2.2 | exact hS.2.2.1 | exact hS.2.2.2 | exact hS.2.2.2.1 | exact hS.2.2.2.2 | exact hS.cellsOf | exact (hS.pull 1).cellsOf | exact (hS.pull 2).cellsOf | exact (hS.pull 3).cellsOf | exact (hS.pull 4).cellsOf | exact (hS.pull 5).cellsOf | exact (hS.pull 6).cellsOf | exact hS.cells2 rfl rfl | exact (hS.pull 1).cells2 rfl rfl | exact (hS.pull 2).cells2 rfl rfl | exact (hS.pull 3).cells2 rfl rfl | exact (hS.pull 4).cells2 rfl rfl | exact (hS.pull 5).cells2 rfl rfl | exact (hS.pull 6).cells2 rfl rfl) ?_
          refine x_call Try.f18 Try.func18 rfl rfl _ rfl ?_
          refine (sof_calls u.P hs).mono ?_
          clear hs; rintro e w ⟨rfl, hs⟩
          refine ⟨_, rfl, fun h => hcp (hs.pull 2), ?_⟩
          refine x_call Try.f18 Try.func18 rfl rfl _ rfl ?_
          refine (sof_calls u.P (hs.pull 1)).mono ?_
          clear hs; rintro e w ⟨rfl, hs⟩
          replace hs := hs.push 1
          try dsimp only [back] at hs
          refine ⟨_, rfl, fun h => hcp (hs.pull 2), ?_⟩
          refine x_neqF _ _ rfl rfl (by omega) ?_
          refine x_move (.bool _) rfl ?_
          refine x_want' rfl ?_
          refine x_move (.pointer _) rfl ?_
          refine x_want' rfl ?_
          refine x_move (.slice _ _ _) rfl ?_
          refine x_want' rfl ?_
          refine x_move (.int _ _) rfl ?_
          refine x_want' rfl ?_
          refine x_indexAddr Try.underlying28 sz_40 _ _ _ _ _ rfl rfl (by omega) ?_
          refine x_want' rfl ?_
          first | refine x_field0 fa_40_2 _ rfl ?_ | refine x_field fa_40_2 _ _ rfl ?_
          refine x_reset (fun w => w.cell? ⟨g, o + i * 5 + 3, none⟩ = some (.int .i64 u.Leaf)) (hcl (hs.pull 2)) ?_
          refine x_want' rfl ?_
          refine h_load one_3 _ (.int _ _) rfl (fun w hS => by first | exact hS.cell rfl | exact (hS.pull 1).cell rfl | exact (hS.pull 2).cell rfl | exact (hS.pull 3).cell rfl | exact (hS.pull 4).cell rfl | exact (hS.pull 5).cell rfl | exact (hS.pull 6).cell rfl | exact hS | exact hS.1 | exact hS.2 | exact hS.2.1 | exact hS.2.2 | exact hS.2.2.1 | exact hS.2.2.2 | exact hS.2.2.2.1 | exact hS.2.2.2.2) ?_
          refine x_want' rfl ?_
          refine x_move (.pointer _) rfl ?_
          refine x_want' rfl ?_
          refine x_move (.slice _ _ _) rfl ?_
          refine x_want' rfl ?_
          refine x_move (.int _ _) rfl ?_
          refine x_want' rfl ?_
          refine x_indexAddr Try.underlying28 sz_40 _ _ _ _ _ rfl rfl (by omega) ?_
          refine x_want' rfl ?_
          first | refine x_field0 fa_40_2 _ rfl ?_ | refine x_field fa_40_2 _ _ rfl ?_
          refine x_want' rfl ?_
          refine h_load one_3 _ (.int _ _) rfl (fun w hS => by first | exact hS.cell rfl | exact (hS.pull 1).cell rfl | exact (hS.pull 2).cell rfl | exact (hS.pull 3).cell rfl | exact (hS.pull 4).cell rfl | exact (hS.pull 5).cell rfl | exact (hS.pull 6).cell rfl | exact hS | exact hS.1 | exact hS.2 | exact hS.2.1 | exact hS.2.2 | exact hS.2.2.1 | exact hS.2.2.2 | exact hS.2.2.2.1 | exact hS.2.2.2.2) ?_
          refine x_want' rfl ?_
          refine x_call Try.f20 Try.func20 rfl rfl _ rfl ?_
          refine (sleaf_calls u.Leaf hs).mono ?_
          clear hs; rintro e w ⟨rfl, hs⟩
          refine ⟨_, rfl, fun h => hcl (hs.pull 2), ?_⟩
          refine x_want' rfl ?_
          refine x_call Try.f20 Try.func20 rfl rfl _ rfl ?_
          refine (sleaf_calls u.Leaf (hs.pull 1)).mono ?_
          clear hs; rintro e w ⟨rfl, hs⟩
          replace hs := hs.push 1
          try dsimp only [back] at hs
          refine ⟨_, rfl, fun h => hcl (hs.pull 2), ?_⟩
          refine x_want' rfl ?_
          refine x_neqF _ _ rfl rfl (by omega) ?_
          refine x_pickF (.bool _) rfl rfl ?_
          refine x_nil ?_
          refine then_n ?_
          refine c_false rfl ?_
          refine c_skip ?_
          refine inb_n ?_
          refine then_n ?_
          -- region 19
          refine c_region ?_
          refine x_move (.int _ _) rfl ?_
          refine x_add _ _ rfl rfl (by simp only [X.lo]; omega) (by simp only [X.hi]; omega) ?_
          refine x_assign (.int _ _) rfl ?_
          refine x_nil ?_
          refine then_n ?_
          refine ⟨i + 1, ⟨rfl, rfl, rfl, rfl, trivial⟩, ⟨by omega, hs⟩, by first | omega | (dsimp only; omega)⟩
        · skip
          refine c_exit ?_
          refine then_x ?_
          refine then_x ?_
          refine inb_e ?_
          refine then_n ?_
          refine c_seq ?_
          -- region 22
          have heq3 := allV_congr (V := V) he1 he2
          refine c_region ?_
          refine x_move (.pointer _) rfl ?_
          refine x_call Try.f15 Try.func15 rfl rfl _ rfl ?_
          refine (sall_calls hs).mono ?_
          clear hs; rintro e w ⟨rfl, hs⟩
          refine ⟨_, rfl, fun h => (by first | (cases h; done) | (first | exact hs.cells2 rfl rfl | exact (hs.pull 1).cells2 rfl rfl | exact (hs.pull 2).cells2 rfl rfl | exact (hs.pull 3).cells2 rfl rfl | exact (hs.pull 4).cells2 rfl rfl | exact (hs.pull 5).cells2 rfl rfl | exact (hs.pull 6).cells2 rfl rfl | exact (hs.pull 7).cells2 rfl rfl | exact (hs.pull 8).cells2 rfl rfl | exact hs.cell rfl | exact (hs.pull 1).cell rfl | exact (hs.pull 2).cell rfl | exact (hs.pull 3).cell rfl | exact (hs.pull 4).cell rfl | exact (hs.pull 5).cell rfl | exact (hs.pull 6).cell rfl | exact (hs.pull 7).cell rfl | exact (hs.pull 8).cell rfl | assumption | exact hs.cellsOf | exact (hs.pull 1).cellsOf | exact (hs.pull 2).cellsOf | exact (hs.pull 3).cellsOf | exact (hs.pull 4).cellsOf | exact (hs.pull 5).cellsOf | exact (hs.pull 6).cellsOf | exact (hs.pull 7).cellsOf | exact (hs.pull 8).cellsOf) | (and_intros <;> first | exact hs.cells2 rfl rfl | exact (hs.pull 1).cells2 rfl rfl | exact (hs.pull 2).cells2 rfl rfl | exact (hs.pull 3).cells2 rfl rfl | exact (hs.pull 4).cells2 rfl rfl | exact (hs.pull 5).cells2 rfl rfl | exact (hs.pull 6).cells2 rfl rfl | exact (hs.pull 7).cells2 rfl rfl | exact (hs.pull 8).cells2 rfl rfl | exact hs.cell rfl | exact (hs.pull 1).cell rfl | exact (hs.pull 2).cell rfl | exact (hs.pull 3).cell rfl | exact (hs.pull 4).cell rfl | exact (hs.pull 5).cell rfl | exact (hs.pull 6).cell rfl | exact (hs.pull 7).cell rfl | exact (hs.pull 8).cell rfl | assumption | exact hs.cellsOf | exact (hs.pull 1).cellsOf | exact (hs.pull 2).cellsOf | exact (hs.pull 3).cellsOf | exact (hs.pull 4).cellsOf | exact (hs.pull 5).cellsOf | exact (hs.pull 6).cellsOf | exact (hs.pull 7).cellsOf | exact (hs.pull 8).cellsOf)), ?_⟩
          refine x_move (.pointer _) rfl ?_
          refine x_call Try.f15 Try.func15 rfl rfl _ rfl ?_
          refine (sall_calls (hs.pull 1)).mono ?_
          clear hs; rintro e w ⟨rfl, hs⟩
          replace hs := hs.push 1
          try dsimp only [back] at hs
          refine ⟨_, rfl, fun h => (by first | (cases h; done) | (first | exact hs.cells2 rfl rfl | exact (hs.pull 1).cells2 rfl rfl | exact (hs.pull 2).cells2 rfl rfl | exact (hs.pull 3).cells2 rfl rfl | exact (hs.pull 4).cells2 rfl rfl | exact (hs.pull 5).cells2 rfl rfl | exact (hs.pull 6).cells2 rfl rfl | exact (hs.pull 7).cells2 rfl rfl | exact (hs.pull 8).cells2 rfl rfl | exact hs.cell rfl | exact (hs.pull 1).cell rfl | exact (hs.pull 2).cell rfl | exact (hs.pull 3).cell rfl | exact (hs.pull 4).cell rfl | exact (hs.pull 5).cell rfl | exact (hs.pull 6).cell rfl | exact (hs.pull 7).cell rfl | exact (hs.pull 8).cell rfl | assumption | exact hs.cellsOf | exact (hs.pull 1).cellsOf | exact (hs.pull 2).cellsOf | exact (hs.pull 3).cellsOf | exact (hs.pull 4).cellsOf | exact (hs.pull 5).cellsOf | exact (hs.pull 6).cellsOf | exact (hs.pull 7).cellsOf | exact (hs.pull 8).cellsOf) | (and_intros <;> first | exact hs.cells2 rfl rfl | exact (hs.pull 1).cells2 rfl rfl | exact (hs.pull 2).cells2 rfl rfl | exact (hs.pull 3).cells2 rfl rfl | exact (hs.pull 4).cells2 rfl rfl | exact (hs.pull 5).cells2 rfl rfl | exact (hs.pull 6).cells2 rfl rfl | exact (hs.pull 7).cells2 rfl rfl | exact (hs.pull 8).cells2 rfl rfl | exact hs.cell rfl | exact (hs.pull 1).cell rfl | exact (hs.pull 2).cell rfl | exact (hs.pull 3).cell rfl | exact (hs.pull 4).cell rfl | exact (hs.pull 5).cell rfl | exact (hs.pull 6).cell rfl | exact (hs.pull 7).cell rfl | exact (hs.pull 8).cell rfl | assumption | exact hs.cellsOf | exact (hs.pull 1).cellsOf | exact (hs.pull 2).cellsOf | exact (hs.pull 3).cellsOf | exact (hs.pull 4).cellsOf | exact (hs.pull 5).cellsOf | exact (hs.pull 6).cellsOf | exact (hs.pull 7).cellsOf | exact (hs.pull 8).cellsOf)), ?_⟩
          refine x_eqlT _ _ rfl rfl (by omega) ?_
          refine x_move (.bool _) rfl ?_
          refine x_want' rfl ?_
          refine x_call Try.f10 Try.func10 rfl rfl _ rfl ?_
          refine (awake26_calls hs).mono ?_
          clear hs; rintro e w ⟨rfl, hs⟩
          refine ⟨_, rfl, fun h => (by first | (cases h; done) | (first | exact hs.cells2 rfl rfl | exact (hs.pull 1).cells2 rfl rfl | exact (hs.pull 2).cells2 rfl rfl | exact (hs.pull 3).cells2 rfl rfl | exact (hs.pull 4).cells2 rfl rfl | exact (hs.pull 5).cells2 rfl rfl | exact (hs.pull 6).cells2 rfl rfl | exact (hs.pull 7).cells2 rfl rfl | exact (hs.pull 8).cells2 rfl rfl | exact hs.cell rfl | exact (hs.pull 1).cell rfl | exact (hs.pull 2).cell rfl | exact (hs.pull 3).cell rfl | exact (hs.pull 4).cell rfl | exact (hs.pull 5).cell rfl | exact (hs.pull 6).cell rfl | exact (hs.pull 7).cell rfl | exact (hs.pull 8).cell rfl | assumption | exact hs.cellsOf | exact (hs.pull 1).cellsOf | exact (hs.pull 2).cellsOf | exact (hs.pull 3).cellsOf | exact (hs.pull 4).cellsOf | exact (hs.pull 5).cellsOf | exact (hs.pull 6).cellsOf | exact (hs.pull 7).cellsOf | exact (hs.pull 8).cellsOf) | (and_intros <;> first | exact hs.cells2 rfl rfl | exact (hs.pull 1).cells2 rfl rfl | exact (hs.pull 2).cells2 rfl rfl | exact (hs.pull 3).cells2 rfl rfl | exact (hs.pull 4).cells2 rfl rfl | exact (hs.pull 5).cells2 rfl rfl | exact (hs.pull 6).cells2 rfl rfl | exact (hs.pull 7).cells2 rfl rfl | exact (hs.pull 8).cells2 rfl rfl | exact hs.cell rfl | exact (hs.pull 1).cell rfl | exact (hs.pull 2).cell rfl | exact (hs.pull 3).cell rfl | exact (hs.pull 4).cell rfl | exact (hs.pull 5).cell rfl | exact (hs.pull 6).cell rfl | exact (hs.pull 7).cell rfl | exact (hs.pull 8).cell rfl | assumption | exact hs.cellsOf | exact (hs.pull 1).cellsOf | exact (hs.pull 2).cellsOf | exact (hs.pull 3).cellsOf | exact (hs.pull 4).cellsOf | exact (hs.pull 5).cellsOf | exact (hs.pull 6).cellsOf | exact (hs.pull 7).cellsOf | exact (hs.pull 8).cellsOf)), ?_⟩
          refine x_pickT (.bool _) rfl rfl ?_
          refine x_assign (.bool _) rfl ?_
          refine x_nil ?_
          refine then_n ?_
          refine c_ret ?_
          refine ⟨.inr rfl, ?_⟩
          exact ⟨rfl, hs.tail.tail⟩
  · skip
    refine x_move (.bool _) rfl ?_
    refine x_skip rfl rfl ?_
    refine x_skip rfl rfl ?_
    refine x_skip rfl rfl ?_
    refine x_pickT (.bool _) rfl rfl ?_
    refine x_nil ?_
    refine then_n ?_
    refine c_true rfl ?_
    refine c_seq ?_
    -- region 2
    refine c_region ?_
    refine x_call Try.f10 Try.func10 rfl rfl _ rfl ?_
    refine (awake26_calls hs).mono ?_
    clear hs; rintro e w ⟨rfl, hs⟩
    refine ⟨_, rfl, fun h => (by first | (cases h; done) | (first | exact hs.cells2 rfl rfl | exact (hs.pull 1).cells2 rfl rfl | exact (hs.pull 2).cells2 rfl rfl | exact (hs.pull 3).cells2 rfl rfl | exact (hs.pull 4).cells2 rfl rfl | exact (hs.pull 5).cells2 rfl rfl | exact (hs.pull 6).cells2 rfl rfl | exact (hs.pull 7).cells2 rfl rfl | exact (hs.pull 8).cells2 rfl rfl | exact hs.cell rfl | exact (hs.pull 1).cell rfl | exact (hs.pull 2).cell rfl | exact (hs.pull 3).cell rfl | exact (hs.pull 4).cell rfl | exact (hs.pull 5).cell rfl | exact (hs.pull 6).cell rfl | exact (hs.pull 7).cell rfl | exact (hs.pull 8).cell rfl | assumption | exact hs.cellsOf | exact (hs.pull 1).cellsOf | exact (hs.pull 2).cellsOf | exact (hs.pull 3).cellsOf | exact (hs.pull 4).cellsOf | exact (hs.pull 5).cellsOf | exact (hs.pull 6).cellsOf | exact (hs.pull 7).cellsOf | exact (hs.pull 8).cellsOf) | (and_intros <;> first | exact hs.cells2 rfl rfl | exact (hs.pull 1).cells2 rfl rfl | exact (hs.pull 2).cells2 rfl rfl | exact (hs.pull 3).cells2 rfl rfl | exact (hs.pull 4).cells2 rfl rfl | exact (hs.pull 5).cells2 rfl rfl | exact (hs.pull 6).cells2 rfl rfl | exact (hs.pull 7).cells2 rfl rfl | exact (hs.pull 8).cells2 rfl rfl | exact hs.cell rfl | exact (hs.pull 1).cell rfl | exact (hs.pull 2).cell rfl | exact (hs.pull 3).cell rfl | exact (hs.pull 4).cell rfl | exact (hs.pull 5).cell rfl | exact (hs.pull 6).cell rfl | exact (hs.pull 7).cell rfl | exact (hs.pull 8).cell rfl | assumption | exact hs.cellsOf | exact (hs.pull 1).cellsOf | exact (hs.pull 2).cellsOf | exact (hs.pull 3).cellsOf | exact (hs.pull 4).cellsOf | exact (hs.pull 5).cellsOf | exact (hs.pull 6).cellsOf | exact (hs.pull 7).cellsOf | exact (hs.pull 8).cellsOf)), ?_⟩
    refine x_assign (.bool _) rfl ?_
    refine x_nil ?_
    refine then_n ?_
    refine c_ret ?_
    refine then_r ?_
    refine ⟨.inr rfl, ?_⟩
    exact ⟨rfl, hs.tail⟩
end Go.Proofs.Ytcehbdmpjebmbaa.X
