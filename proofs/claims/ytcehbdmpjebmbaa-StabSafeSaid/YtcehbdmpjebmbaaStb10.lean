/-
  LAYER 26: nobody is told to be further than it is; the law StabSafe.
-/
import Derived.Test.YtcehbdmpjebmbaaStb9
import Derived.Laws.MakeOwn
namespace Go.Proofs.Ytcehbdmpjebmbaa.X
open Go Go.RowKit
set_option linter.unusedVariables false
set_option maxRecDepth 20000
def wc (W : List Nat) : List Value := W.map fun n => .int .u64 (n : Nat)
theorem wc_len (W : List Nat) : (wc W).length = W.length := by simp [wc]
theorem wc_get {W : List Nat} {i n : Nat} (h : W[i]? = some n) : (wc W)[i]? = some (.int .u64 (n : Nat)) := by unfold wc; rw [List.getElem?_map, h]; rfl
theorem wc_set (W : List Nat) (i n : Nat) : (wc W).set i (.int .u64 (n : Nat)) = wc (W.set i n) := by unfold wc; rw [List.map_set]
theorem made_u64 (n : Nat) : (madeCells #[.int .u64 0] n).toList = wc (List.replicate n 0) := by
  apply List.ext_getElem?
  intro i
  unfold wc
  by_cases h : i < n
  · simp [madeCells, h, Nat.mod_one]
  · simp [madeCells, h]
theorem x_makeN {n : Nat} {ops : Array Oper} {S : World → Prop} {K : Env → World → Prop} {rest : List (Oper × Nat × Bool)} {ρ : Env} {w w0 : World} {L : List HP} {d : Nat} {ty : TypeId} {pos : String} {af : Array Edge} {need : Bool} {x y : Operand} {k k' : IntKind}
    (hs : Sat w0 w L) (m : Nat) (hm : m ≤ 1000000) (hx : ev ρ x = .int k (m : Nat)) (hy : ev ρ y = .int k' (m : Nat))
    (h : ∀ b w', Sat w0 w' (Row 22 1 (.slice (some ⟨b, 0, none⟩) m m) m (wc (List.replicate m 0)) :: L) → (need = true → S w') ∧ RX Try.prog n ops S K rest (upd n ρ d (.slice (some ⟨b, 0, none⟩) m m)) w') :
    RX Try.prog n ops S K ((⟨some d, .makeSlice 31 x y, ty, pos, af, none⟩, 0, need) :: rest) ρ w := by
  obtain ⟨i, hi, hz, hsz, hby, hzs, hpos⟩ := ei_22
  have hr := run_makeSlice (P := Try.prog) w 31 22 i _ Try.underlying31 hi hz k k' m m (by omega) (by omega) (by rw [hsz]; simp; omega) (by rw [hby]; omega) (by omega)
  rw [hsz, Int.toNat_natCast, Nat.mul_one] at hr
  have hnew := hs.alloc (.cells (madeCells (Value.int .u64 0).cells m) 22)
  have hsize : (madeCells (Value.int .u64 0).cells m).size = m := by simp [madeCells]
  have hrow := row_blk (size := 1) (len := m) hnew (by rw [hsize, Nat.mul_one]) (by unfold maxLen; omega)
  have e : (madeCells (Value.int .u64 0).cells m).toList = wc (List.replicate m 0) := made_u64 m
  rw [e] at hrow
  obtain ⟨h2, h3⟩ := h _ _ hrow
  exact x_turn rfl (by simp [execOp, hx, hy, hr]) h2 h3
def minW (l : List Nat) : Nat := l.foldl min U64
theorem minW_snoc (l : List Nat) (n : Nat) : minW (l ++ [n]) = min (minW l) n := by unfold minW; rw [List.foldl_append]; rfl
theorem le_minW (c : Nat) (l : List Nat) : c ≤ minW l ↔ c ≤ U64 ∧ ∀ n ∈ l, c ≤ n := by
  have key : ∀ (l : List Nat) (m : Nat), c ≤ l.foldl min m ↔ c ≤ m ∧ ∀ n ∈ l, c ≤ n := by
    intro l
    induction l with
    | nil => intro m; simp
    | cons a l ih =>
      intro m
      simp only [List.foldl_cons, ih, Nat.le_min, List.forall_mem_cons, and_assoc]
  exact key l _
/-- nobody is told to be further than it is -/
structure SInv (V : SV) (A : Pid → Nat) (s : SSt) : Prop where
  ps : ∀ p ∈ V.mem, getN s.ps p ≤ A p
  lv : ∀ k, k < V.lls.length → ∀ p ∈ V.lls.getD k [], getN s.lv k ≤ A p
theorem SInv.start (V : SV) (A : Pid → Nat) : SInv V A ⟨[], []⟩ := ⟨fun p _ => Nat.zero_le _, fun k _ p _ => Nat.zero_le _⟩
theorem SInv.le {V : SV} {A : Pid → Nat} {s : SSt} (h : SInv V A s) (hV : SVG V) {p : Pid} (hp : p ∈ V.mem) : allV V s ≤ A p := hV.all_le s hp (h.ps p hp) (fun k hk hpk => h.lv k hk p hpk)
theorem SVG.mono {V : SV} (h : SVG V) {s s' : SSt} (h1 : ∀ p, getN s.ps p ≤ getN s'.ps p) (h2 : ∀ k, getN s.lv k ≤ getN s'.lv k) : allV V s ≤ allV V s' := by
  rw [h.le_allV]
  intro k hk
  have h3 := (h.le_allV s _).1 (Nat.le_refl _) k hk
  rw [h.leafV s hk] at h3
  rw [h.leafV s' hk]
  have h4 := (le_minL (getN s.ps) _ (V.lls.getD k [])).1 (Nat.le_refl _)
  have h5 := (le_minL (getN s'.ps) (minL (getN s.ps) (V.lls.getD k [])) (V.lls.getD k [])).2 ⟨h4.1, fun p hp => Nat.le_trans (h4.2 p hp) (h1 p)⟩
  have := h2 k
  omega
theorem SInv.rep {V : SV} {A : Pid → Nat} {s : SSt} (h : SInv V A s) (hV : SVG V) {p : Pid} {n : Nat} (hn : n ≤ A p) : SInv V A (s.rep V p n).2 ∧ allV V s ≤ allV V (s.rep V p n).2 := by
  unfold SSt.rep
  split
  · rename_i hc
    refine ⟨⟨fun q hq => ?_, h.lv⟩, hV.mono (fun q => ?_) (fun k => Nat.le_refl _)⟩
    · show getN (mset p n s.ps) q ≤ A q
      rw [getN_set]
      split
      · rename_i e; subst e; exact hn
      · exact h.ps q hq
    · show _ ≤ getN (mset p n s.ps) q
      rw [getN_set]
      split
      · rename_i e; subst e; omega
      · exact Nat.le_refl _
  · exact ⟨h, Nat.le_refl _⟩
theorem SInv.repL {V : SV} {A : Pid → Nat} {s : SSt} (h : SInv V A s) (hV : SVG V) {j n : Nat} (hn : ∀ p ∈ V.lls.getD j [], n ≤ A p) : SInv V A (s.repL V (j : Int) n).2 ∧ allV V s ≤ allV V (s.repL V (j : Int) n).2 := by
  unfold SSt.repL
  split
  · rename_i hc
    rw [Int.toNat_natCast] at hc ⊢
    refine ⟨⟨h.ps, fun k hk p hp => ?_⟩, hV.mono (fun q => Nat.le_refl _) (fun k => ?_)⟩
    · show getN (mset j n s.lv) k ≤ A p
      rw [getN_set]
      split
      · rename_i e; subst e; exact hn p hp
      · exact h.lv k hk p hp
    · show _ ≤ getN (mset j n s.lv) k
      rw [getN_set]
      split
      · rename_i e; subst e; omega
      · exact Nat.le_refl _
  · exact ⟨h, Nat.le_refl _⟩
theorem srep_ex {w0 w : World} {L : List HP} {f : Nat} {V : SV} {s : SSt} (p : Pid) (n : Nat) (hs : Sat w0 w (SO f V s :: L)) :
    Calls Try.prog 13 #[.pointer (some ⟨f, 0, none⟩), .agg #[.int .u16 (p.Id : Nat), .int .u32 (p.Inc : Nat)], .int .u64 (n : Nat)] w fun e w' => ∃ r, e = .returned (.bool r) ∧ Sat w0 w' (SO f V (s.rep V p n).2 :: L) := (sreport_calls p n hs).mono fun e w' h => ⟨_, h⟩
theorem srepL_ex {w0 w : World} {L : List HP} {f : Nat} {V : SV} {s : SSt} (k : Int) (n : Nat) (hs : Sat w0 w (SO f V s :: L)) :
    Calls Try.prog 14 #[.pointer (some ⟨f, 0, none⟩), .int .i64 k, .int .u64 (n : Nat)] w fun e w' => ∃ r, e = .returned (.bool r) ∧ Sat w0 w' (SO f V (s.repL V k n).2 :: L) := (sreportL_calls k n hs).mono fun e w' h => ⟨_, h⟩
theorem idx_nodup {l : List Pid} (h : l.Nodup) {j : Nat} (hj : j < l.length) : l.idxOf l[j] = j := by
  have hi := pix_lt (List.getElem_mem hj)
  have e : l[l.idxOf l[j]] = l[j] := List.getElem_idxOf hi
  rw [List.nodup_iff_pairwise_ne, List.pairwise_iff_getElem] at h
  rcases Nat.lt_trichotomy (l.idxOf l[j]) j with hlt | heq | hlt
  · exact absurd e (h _ _ hi hj hlt)
  · exact heq
  · exact absurd e.symm (h _ _ hj hi hlt)
set_option maxHeartbeats 1000000 in
theorem walk_StabSafe {H : Type} {enc : TypeId × Value → H} {w0 : World} {cs0 : Array Value} {a1 a2 : Option Addr} {l1 c1 l2 c2 : Nat} (h0 : TR enc Try.prog w0 26 cs0.toList) (h1 : TR enc Try.prog w0 27 [.slice a1 l1 c1]) (h2 : TR enc Try.prog w0 28 [.slice a2 l2 c2]) :
    Calls Try.prog 3 #[.agg cs0, .slice a1 l1 c1, .slice a2 l2 c2] w0 fun e w' => e = .returned (.bool true) ∧ Below w0.heap.size w0 w' := by
  have hid0 := TR.View h0
  obtain ⟨D, rfl, hdl, hin⟩ := TR.viewD h0
  have hid : D.Id ≤ U64 := by
    obtain ⟨x, hx, hf⟩ := hid0
    have h2 := hf.Id
    simp [View.cells] at hx
    have : x.Id = D.Id := by omega
    rw [← this]
    exact h2
  clear hid0
  obtain ⟨cs, rfl, hrb, hclen⟩ := TR.argB Try.underlying27 Try.underlying5 (by kernel_rfl) h1
  obtain ⟨ts, rfl, hrd, hlen, hfa⟩ := TR.arg (k := 5) Try.underlying28 (by kernel_rfl) (by decide) (fun r hr => TR.Told26 hr) h2
  refine law_of fun w hs => ?_
  have hinb : ∀ w' L', Sat w0 w' (Init w0 :: L') → RB w' (.slice a1 cs.length c1) cs := fun w' L' h => RD.below hrb h.init
  have hina : ∀ w' L', Sat w0 w' (Init w0 :: L') → RS w' 5 Told26.cells (.slice a2 ts.length c2) ts := fun w' L' h => hrd.below h.init
  clear h0 h1 h2 hrb hrd hfa
  refine enter Try.func3 rfl Try.ntmps3 6 rfl (Nat.le_of_ble_eq_true rfl) ?_
  refine c_seq ?_
  -- region 0
  refine c_region ?_
  refine x_box hs (.agg #[_, _, _, _]) rfl ?_; clear hs; intro b3 w hs; refine ⟨fun h => (by first | (cases h; done) | (first | exact hs.cells2 rfl rfl | exact (hs.pull 1).cells2 rfl rfl | exact (hs.pull 2).cells2 rfl rfl | exact (hs.pull 3).cells2 rfl rfl | exact (hs.pull 4).cells2 rfl rfl | exact (hs.pull 5).cells2 rfl rfl | exact (hs.pull 6).cells2 rfl rfl | exact (hs.pull 7).cells2 rfl rfl | exact (hs.pull 8).cells2 rfl rfl | exact hs.cell rfl | exact (hs.pull 1).cell rfl | exact (hs.pull 2).cell rfl | exact (hs.pull 3).cell rfl | exact (hs.pull 4).cell rfl | exact (hs.pull 5).cell rfl | exact (hs.pull 6).cell rfl | exact (hs.pull 7).cell rfl | exact (hs.pull 8).cell rfl | assumption | exact hs.cellsOf | exact (hs.pull 1).cellsOf | exact (hs.pull 2).cellsOf | exact (hs.pull 3).cellsOf | exact (hs.pull 4).cellsOf | exact (hs.pull 5).cellsOf | exact (hs.pull 6).cellsOf | exact (hs.pull 7).cellsOf | exact (hs.pull 8).cellsOf) | (and_intros <;> first | exact hs.cells2 rfl rfl | exact (hs.pull 1).cells2 rfl rfl | exact (hs.pull 2).cells2 rfl rfl | exact (hs.pull 3).cells2 rfl rfl | exact (hs.pull 4).cells2 rfl rfl | exact (hs.pull 5).cells2 rfl rfl | exact (hs.pull 6).cells2 rfl rfl | exact (hs.pull 7).cells2 rfl rfl | exact (hs.pull 8).cells2 rfl rfl | exact hs.cell rfl | exact (hs.pull 1).cell rfl | exact (hs.pull 2).cell rfl | exact (hs.pull 3).cell rfl | exact (hs.pull 4).cell rfl | exact (hs.pull 5).cell rfl | exact (hs.pull 6).cell rfl | exact (hs.pull 7).cell rfl | exact (hs.pull 8).cell rfl | assumption | exact hs.cellsOf | exact (hs.pull 1).cellsOf | exact (hs.pull 2).cellsOf | exact (hs.pull 3).cellsOf | exact (hs.pull 4).cellsOf | exact (hs.pull 5).cellsOf | exact (hs.pull 6).cellsOf | exact (hs.pull 7).cellsOf | exact (hs.pull 8).cellsOf)), ?_⟩
  refine x_assign (.bool _) rfl ?_
  refine x_nil ?_
  refine then_n ?_
  refine c_seq ?_
  refine c_seq ?_
  -- region 1
  refine c_region ?_
  refine x_loadN [_, _, _, _] agg_26 _ rfl (by first | assumption | exact hs.cellsOf | exact (hs.pull 1).cellsOf | exact (hs.pull 2).cellsOf | exact (hs.pull 3).cellsOf | exact (hs.pull 4).cellsOf | exact (hs.pull 5).cellsOf | exact (hs.pull 6).cellsOf | exact (hs.pull 7).cellsOf | exact (hs.pull 8).cellsOf | exact hs.cells2 rfl rfl | exact (hs.pull 1).cells2 rfl rfl | exact (hs.pull 2).cells2 rfl rfl | exact (hs.pull 3).cells2 rfl rfl | exact (hs.pull 4).cells2 rfl rfl | exact (hs.pull 5).cells2 rfl rfl | exact (hs.pull 6).cells2 rfl rfl | exact (hs.pull 7).cells2 rfl rfl | exact (hs.pull 8).cells2 rfl rfl) ?_
  refine x_call Try.f8 Try.func8 rfl rfl _ rfl ?_
  refine (great_d (hs.pull 1) hin hdl).mono ?_
  clear hs; rintro e w ⟨r, rfl, hs, hsm⟩
  replace hs := hs.push 1
  try dsimp only [back] at hs
  refine ⟨_, rfl, fun h => (by first | (cases h; done) | (first | exact hs.cells2 rfl rfl | exact (hs.pull 1).cells2 rfl rfl | exact (hs.pull 2).cells2 rfl rfl | exact (hs.pull 3).cells2 rfl rfl | exact (hs.pull 4).cells2 rfl rfl | exact (hs.pull 5).cells2 rfl rfl | exact (hs.pull 6).cells2 rfl rfl | exact (hs.pull 7).cells2 rfl rfl | exact (hs.pull 8).cells2 rfl rfl | exact hs.cell rfl | exact (hs.pull 1).cell rfl | exact (hs.pull 2).cell rfl | exact (hs.pull 3).cell rfl | exact (hs.pull 4).cell rfl | exact (hs.pull 5).cell rfl | exact (hs.pull 6).cell rfl | exact (hs.pull 7).cell rfl | exact (hs.pull 8).cell rfl | assumption | exact hs.cellsOf | exact (hs.pull 1).cellsOf | exact (hs.pull 2).cellsOf | exact (hs.pull 3).cellsOf | exact (hs.pull 4).cellsOf | exact (hs.pull 5).cellsOf | exact (hs.pull 6).cellsOf | exact (hs.pull 7).cellsOf | exact (hs.pull 8).cellsOf) | (and_intros <;> first | exact hs.cells2 rfl rfl | exact (hs.pull 1).cells2 rfl rfl | exact (hs.pull 2).cells2 rfl rfl | exact (hs.pull 3).cells2 rfl rfl | exact (hs.pull 4).cells2 rfl rfl | exact (hs.pull 5).cells2 rfl rfl | exact (hs.pull 6).cells2 rfl rfl | exact (hs.pull 7).cells2 rfl rfl | exact (hs.pull 8).cells2 rfl rfl | exact hs.cell rfl | exact (hs.pull 1).cell rfl | exact (hs.pull 2).cell rfl | exact (hs.pull 3).cell rfl | exact (hs.pull 4).cell rfl | exact (hs.pull 5).cell rfl | exact (hs.pull 6).cell rfl | exact (hs.pull 7).cell rfl | exact (hs.pull 8).cell rfl | assumption | exact hs.cellsOf | exact (hs.pull 1).cellsOf | exact (hs.pull 2).cellsOf | exact (hs.pull 3).cellsOf | exact (hs.pull 4).cellsOf | exact (hs.pull 5).cellsOf | exact (hs.pull 6).cellsOf | exact (hs.pull 7).cellsOf | exact (hs.pull 8).cellsOf)), ?_⟩
  rcases r with _ | _
  · skip
    refine x_move (.bool _) rfl ?_
    refine x_want' rfl ?_
    refine x_loadN [_, _, _, _] agg_26 _ rfl (by first | assumption | exact hs.cellsOf | exact (hs.pull 1).cellsOf | exact (hs.pull 2).cellsOf | exact (hs.pull 3).cellsOf | exact (hs.pull 4).cellsOf | exact (hs.pull 5).cellsOf | exact (hs.pull 6).cellsOf | exact (hs.pull 7).cellsOf | exact (hs.pull 8).cellsOf | exact hs.cells2 rfl rfl | exact (hs.pull 1).cells2 rfl rfl | exact (hs.pull 2).cells2 rfl rfl | exact (hs.pull 3).cells2 rfl rfl | exact (hs.pull 4).cells2 rfl rfl | exact (hs.pull 5).cells2 rfl rfl | exact (hs.pull 6).cells2 rfl rfl | exact (hs.pull 7).cells2 rfl rfl | exact (hs.pull 8).cells2 rfl rfl) ?_
    refine x_want' rfl ?_
    refine x_call Try.f9 Try.func9 rfl rfl _ rfl ?_
    refine (check_d (hs.pull 1) hin (hsm rfl) hid).mono ?_
    clear hs; rintro e w ⟨r, rfl, hs, hck⟩
    replace hs := hs.push 1
    try dsimp only [back] at hs
    refine ⟨_, rfl, fun h => (by first | (cases h; done) | (first | exact hs.cells2 rfl rfl | exact (hs.pull 1).cells2 rfl rfl | exact (hs.pull 2).cells2 rfl rfl | exact (hs.pull 3).cells2 rfl rfl | exact (hs.pull 4).cells2 rfl rfl | exact (hs.pull 5).cells2 rfl rfl | exact (hs.pull 6).cells2 rfl rfl | exact (hs.pull 7).cells2 rfl rfl | exact (hs.pull 8).cells2 rfl rfl | exact hs.cell rfl | exact (hs.pull 1).cell rfl | exact (hs.pull 2).cell rfl | exact (hs.pull 3).cell rfl | exact (hs.pull 4).cell rfl | exact (hs.pull 5).cell rfl | exact (hs.pull 6).cell rfl | exact (hs.pull 7).cell rfl | exact (hs.pull 8).cell rfl | assumption | exact hs.cellsOf | exact (hs.pull 1).cellsOf | exact (hs.pull 2).cellsOf | exact (hs.pull 3).cellsOf | exact (hs.pull 4).cellsOf | exact (hs.pull 5).cellsOf | exact (hs.pull 6).cellsOf | exact (hs.pull 7).cellsOf | exact (hs.pull 8).cellsOf) | (and_intros <;> first | exact hs.cells2 rfl rfl | exact (hs.pull 1).cells2 rfl rfl | exact (hs.pull 2).cells2 rfl rfl | exact (hs.pull 3).cells2 rfl rfl | exact (hs.pull 4).cells2 rfl rfl | exact (hs.pull 5).cells2 rfl rfl | exact (hs.pull 6).cells2 rfl rfl | exact (hs.pull 7).cells2 rfl rfl | exact (hs.pull 8).cells2 rfl rfl | exact hs.cell rfl | exact (hs.pull 1).cell rfl | exact (hs.pull 2).cell rfl | exact (hs.pull 3).cell rfl | exact (hs.pull 4).cell rfl | exact (hs.pull 5).cell rfl | exact (hs.pull 6).cell rfl | exact (hs.pull 7).cell rfl | exact (hs.pull 8).cell rfl | assumption | exact hs.cellsOf | exact (hs.pull 1).cellsOf | exact (hs.pull 2).cellsOf | exact (hs.pull 3).cellsOf | exact (hs.pull 4).cellsOf | exact (hs.pull 5).cellsOf | exact (hs.pull 6).cellsOf | exact (hs.pull 7).cellsOf | exact (hs.pull 8).cellsOf)), ?_⟩
    refine x_want' rfl ?_
    refine x_not _ rfl ?_
    refine x_pickF (.bool _) rfl rfl ?_
    refine x_nil ?_
    refine then_n ?_
    refine c_cond rfl (fun hb => ?_) (fun hb => ?_)   -- cond t23
    · skip
      refine c_seq ?_
      -- region 2
      refine c_region ?_
      refine x_call Try.f10 Try.func10 rfl rfl _ rfl ?_
      refine (awake26_calls hs).mono ?_
      clear hs; rintro e w ⟨rfl, hs⟩
      refine ⟨_, rfl, fun h => (by first | (cases h; done) | (first | exact hs.cells2 rfl rfl | exact (hs.pull 1).cells2 rfl rfl | exact (hs.pull 2).cells2 rfl rfl | exact (hs.pull 3).cells2 rfl rfl | exact (hs.pull 4).cells2 rfl rfl | exact (hs.pull 5).cells2 rfl rfl | exact (hs.pull 6).cells2 rfl rfl | exact (hs.pull 7).cells2 rfl rfl | exact (hs.pull 8).cells2 rfl rfl | exact hs.cell rfl | exact (hs.pull 1).cell rfl | exact (hs.pull 2).cell rfl | exact (hs.pull 3).cell rfl | exact (hs.pull 4).cell rfl | exact (hs.pull 5).cell rfl | exact (hs.pull 6).cell rfl | exact (hs.pull 7).cell rfl | exact (hs.pull 8).cell rfl | assumption | exact hs.cellsOf | exact (hs.pull 1).cellsOf | exact (hs.pull 2).cellsOf | exact (hs.pull 3).cellsOf | exact (hs.pull 4).cellsOf | exact (hs.pull 5).cellsOf | exact (hs.pull 6).cellsOf | exact (hs.pull 7).cellsOf | exact (hs.pull 8).cellsOf) | (and_intros <;> first | exact hs.cells2 rfl rfl | exact (hs.pull 1).cells2 rfl rfl | exact (hs.pull 2).cells2 rfl rfl | exact (hs.pull 3).cells2 rfl rfl | exact (hs.pull 4).cells2 rfl rfl | exact (hs.pull 5).cells2 rfl rfl | exact (hs.pull 6).cells2 rfl rfl | exact (hs.pull 7).cells2 rfl rfl | exact (hs.pull 8).cells2 rfl rfl | exact hs.cell rfl | exact (hs.pull 1).cell rfl | exact (hs.pull 2).cell rfl | exact (hs.pull 3).cell rfl | exact (hs.pull 4).cell rfl | exact (hs.pull 5).cell rfl | exact (hs.pull 6).cell rfl | exact (hs.pull 7).cell rfl | exact (hs.pull 8).cell rfl | assumption | exact hs.cellsOf | exact (hs.pull 1).cellsOf | exact (hs.pull 2).cellsOf | exact (hs.pull 3).cellsOf | exact (hs.pull 4).cellsOf | exact (hs.pull 5).cellsOf | exact (hs.pull 6).cellsOf | exact (hs.pull 7).cellsOf | exact (hs.pull 8).cellsOf)), ?_⟩
      refine x_assign (.bool _) rfl ?_
      refine x_nil ?_
      refine then_n ?_
      refine c_ret ?_
      refine then_r ?_
      refine ⟨.inr rfl, ?_⟩
      exact ⟨rfl, hs.tail⟩
    · skip
      refine c_skip ?_
      refine then_n ?_
      refine c_seq ?_
      -- region 3
      have hsm' := hsm rfl
      have hV := (hck (by simpa using hb)).svg
      have hm40 : D.mem.length ≤ 40 := hsm'.m
      have hl40 : D.lvs.length ≤ 40 := hsm'.l
      refine c_region ?_
      first | refine x_field0 fa_26_1 _ rfl ?_ | refine x_field fa_26_1 _ _ rfl ?_
      refine x_load one_23 _ (.slice _ _ _) rfl (by first | exact hs.cell rfl | exact (hs.pull 1).cell rfl | exact (hs.pull 2).cell rfl | exact (hs.pull 3).cell rfl | assumption | exact (hs.pull 4).cell rfl | exact (hs.pull 5).cell rfl | exact (hs.pull 6).cell rfl | exact (hs.pull 7).cell rfl) ?_
      refine x_lenSl Try.underlying23 _ _ _ rfl ?_
      refine x_makeN hs D.mem.length (by omega) rfl rfl ?_
      clear hs; intro bw w hs; refine ⟨fun h => (by cases h), ?_⟩
      refine x_assign (.slice _ _ _) rfl ?_
      refine x_nil ?_
      refine then_n ?_
      refine c_seqI (γ := List Nat) (fun (W : List Nat) => [(2, .slice a2 ts.length c2), (3, .pointer (some ⟨b3, 0, none⟩)), (7, .slice (some ⟨bw, 0, none⟩) D.mem.length D.mem.length)]) (fun (W : List Nat) w => (W.length = D.mem.length ∧ ∀ x ∈ W, x ≤ 255) ∧ Sat w0 w (Row 22 1 (.slice (some ⟨bw, 0, none⟩) D.mem.length D.mem.length) D.mem.length (wc W) :: Blk b3 (.cells #[.int .u64 (D.Id : Nat), .slice D.am D.mem.length D.cm, .slice D.al D.lvs.length D.cl, .slice D.ad D.lds.length D.cd] 26 (0, 0)) :: [Init w0])) ?_ ?_
      · skip
        refine c_seq ?_
        -- region 4
        refine c_region ?_
        refine x_assign (.int _ _) rfl ?_
        refine x_nil ?_
        refine then_n ?_
        refine c_block ?_
        refine c_loop (γ := Nat × List Nat) (fun (⟨i, W⟩ : Nat × List Nat) => [(1, .slice a1 cs.length c1), (2, .slice a2 ts.length c2), (3, .pointer (some ⟨b3, 0, none⟩)), (7, .slice (some ⟨bw, 0, none⟩) D.mem.length D.mem.length), (8, .int .i64 (i : Nat))]) (fun (⟨i, W⟩ : Nat × List Nat) w => i ≤ D.mem.length ∧ (W.length = D.mem.length ∧ ∀ x ∈ W, x ≤ 255) ∧ Sat w0 w (Row 22 1 (.slice (some ⟨bw, 0, none⟩) D.mem.length D.mem.length) D.mem.length (wc W) :: Blk b3 (.cells #[.int .u64 (D.Id : Nat), .slice D.am D.mem.length D.cm, .slice D.al D.lvs.length D.cl, .slice D.ad D.lds.length D.cd] 26 (0, 0)) :: [Init w0])) (fun (⟨i, W⟩ : Nat × List Nat) => D.mem.length - i) (0, List.replicate D.mem.length 0) ⟨rfl, rfl, rfl, rfl, rfl, trivial⟩ ⟨by omega, ⟨by simp, fun x hx => by rw [List.eq_of_mem_replicate hx]; omega⟩, hs⟩ ?_
        clear hs
        rintro ⟨i, W⟩ ρ w ⟨hi, ⟨hWl, hW⟩, hs⟩
        change CW Try.prog 192 _ _ (sets 192 [(1, .slice a1 cs.length c1), (2, .slice a2 ts.length c2), (3, .pointer (some ⟨b3, 0, none⟩)), (7, .slice (some ⟨bw, 0, none⟩) D.mem.length D.mem.length), (8, .int .i64 (i : Nat))] ρ) w
        by_cases g1 : i < D.mem.length
        by_cases g2 : i < cs.length
        · skip
          refine c_seq ?_
          refine c_seq ?_
          -- region 5
          refine c_region ?_
          refine x_move (.int _ _) rfl ?_
          refine x_move (.slice _ _ _) rfl ?_
          refine x_lenSl Try.underlying31 _ _ _ rfl ?_
          refine x_lssT _ _ rfl rfl (by omega) ?_
          refine x_move (.bool _) rfl ?_
          refine x_want' rfl ?_
          refine x_move (.int _ _) rfl ?_
          refine x_want' rfl ?_
          refine x_move (.slice _ _ _) rfl ?_
          refine x_want' rfl ?_
          refine x_lenSl Try.underlying27 _ _ _ rfl ?_
          refine x_want' rfl ?_
          refine x_lssT _ _ rfl rfl (by omega) ?_
          refine x_pickT (.bool _) rfl rfl ?_
          refine x_nil ?_
          refine then_n ?_
          refine c_true rfl ?_
          refine c_skip ?_
          refine then_n ?_
          refine c_seq ?_
          refine c_block ?_
          -- region 7
          obtain ⟨bt, hbt⟩ : ∃ b, cs[i]? = some b := ⟨cs[i]'(by omega), List.getElem?_eq_getElem _⟩
          obtain ⟨g1, o1, rfl⟩ := (hinb _ _ (hs.pull 2)).addr (by omega)
          have hc1 : w.cell? ⟨g1, o1 + i * 1, none⟩ = some (.int .u8 (bt.toNat : Nat)) := by rw [Nat.mul_one]; exact (hinb _ _ (hs.pull 2)).cell (bv_get hbt)
          have hbl := UInt8.toNat_lt bt
          refine c_region ?_
          refine x_move (.slice _ _ _) rfl ?_
          refine x_move (.int _ _) rfl ?_
          refine x_move (.slice _ _ _) rfl ?_
          refine x_move (.int _ _) rfl ?_
          refine x_indexAddr Try.underlying27 sz_5 _ _ _ _ _ rfl rfl (by omega) ?_
          refine x_load one_5 _ (.int _ _) rfl (by first | exact hs.cell rfl | exact (hs.pull 1).cell rfl | exact (hs.pull 2).cell rfl | exact (hs.pull 3).cell rfl | assumption | exact (hs.pull 4).cell rfl | exact (hs.pull 5).cell rfl | exact (hs.pull 6).cell rfl | exact (hs.pull 7).cell rfl) ?_
          refine x_conv cv_5_22 _ rfl (by simp only [X.lo]; omega) (by simp only [X.hi]; omega) ?_
          refine x_indexAddr Try.underlying31 sz_22 _ _ _ _ _ rfl rfl (by omega) ?_
          refine x_storeRow hs one_22 (.int .u64 (bt.toNat : Nat)) rfl rfl rfl (by omega) ?_
          clear hs hc1; intro w hs; refine ⟨fun h => (by cases h), ?_⟩
          rw [wc_set] at hs
          refine x_nil ?_
          refine inb_n ?_
          refine then_n ?_
          -- region 6
          refine c_region ?_
          refine x_move (.int _ _) rfl ?_
          refine x_add _ _ rfl rfl (by simp only [X.lo]; omega) (by simp only [X.hi]; omega) ?_
          refine x_assign (.int _ _) rfl ?_
          refine x_nil ?_
          refine then_n ?_
          refine ⟨(i + 1, W.set (i * 1) bt.toNat), ⟨rfl, rfl, rfl, rfl, rfl, trivial⟩, ⟨by omega, ⟨by simp [hWl], fun x hx => by rcases List.mem_or_eq_of_mem_set hx with hx | rfl; exact hW x hx; omega⟩, hs⟩, by first | omega | (dsimp only; omega)⟩
        · skip
          refine c_seq ?_
          refine c_seq ?_
          -- region 5
          refine c_region ?_
          refine x_move (.int _ _) rfl ?_
          refine x_move (.slice _ _ _) rfl ?_
          refine x_lenSl Try.underlying31 _ _ _ rfl ?_
          refine x_lssT _ _ rfl rfl (by omega) ?_
          refine x_move (.bool _) rfl ?_
          refine x_want' rfl ?_
          refine x_move (.int _ _) rfl ?_
          refine x_want' rfl ?_
          refine x_move (.slice _ _ _) rfl ?_
          refine x_want' rfl ?_
          refine x_lenSl Try.underlying27 _ _ _ rfl ?_
          refine x_want' rfl ?_
          refine x_lssF _ _ rfl rfl (by omega) ?_
          refine x_pickT (.bool _) rfl rfl ?_
          refine x_nil ?_
          refine then_n ?_
          refine c_false rfl ?_
          refine c_exit ?_
          refine then_x ?_
          refine then_x ?_
          refine inb_e ?_
          refine then_n ?_
          exact ⟨W, ⟨rfl, rfl, rfl, trivial⟩, ⟨⟨hWl, hW⟩, hs⟩⟩
        · skip
          refine c_seq ?_
          refine c_seq ?_
          -- region 5
          refine c_region ?_
          refine x_move (.int _ _) rfl ?_
          refine x_move (.slice _ _ _) rfl ?_
          refine x_lenSl Try.underlying31 _ _ _ rfl ?_
          refine x_lssF _ _ rfl rfl (by omega) ?_
          refine x_move (.bool _) rfl ?_
          refine x_skip rfl rfl ?_
          refine x_skip rfl rfl ?_
          refine x_skip rfl rfl ?_
          refine x_skip rfl rfl ?_
          refine x_pickF (.bool _) rfl rfl ?_
          refine x_nil ?_
          refine then_n ?_
          refine c_false rfl ?_
          refine c_exit ?_
          refine then_x ?_
          refine then_x ?_
          refine inb_e ?_
          refine then_n ?_
          exact ⟨W, ⟨rfl, rfl, rfl, trivial⟩, ⟨⟨hWl, hW⟩, hs⟩⟩
      · skip
        clear hs
        rintro W ρ w ⟨⟨hWl, hW⟩, hs⟩
        change CW Try.prog 192 _ _ (sets 192 [(2, .slice a2 ts.length c2), (3, .pointer (some ⟨b3, 0, none⟩)), (7, .slice (some ⟨bw, 0, none⟩) D.mem.length D.mem.length)] ρ) w
        refine c_seq ?_
        -- region 8
        refine c_region ?_
        refine x_assign (.int _ _) rfl ?_
        refine x_nil ?_
        refine then_n ?_
        refine c_seq ?_
        refine c_seq ?_
        -- region 9
        refine c_region ?_
        refine x_assign (.int _ _) rfl ?_
        refine x_nil ?_
        refine then_n ?_
        refine c_block ?_
        refine c_loop (γ := Nat) (fun (i : Nat) => [(2, .slice a2 ts.length c2), (3, .pointer (some ⟨b3, 0, none⟩)), (7, .slice (some ⟨bw, 0, none⟩) D.mem.length D.mem.length), (9, .int .u64 (minW (W.take i) : Nat)), (10, .int .i64 (i : Nat))]) (fun (i : Nat) w => i ≤ D.mem.length ∧ Sat w0 w (Row 22 1 (.slice (some ⟨bw, 0, none⟩) D.mem.length D.mem.length) D.mem.length (wc W) :: Blk b3 (.cells #[.int .u64 (D.Id : Nat), .slice D.am D.mem.length D.cm, .slice D.al D.lvs.length D.cl, .slice D.ad D.lds.length D.cd] 26 (0, 0)) :: [Init w0])) (fun (i : Nat) => D.mem.length - i) 0 ⟨rfl, rfl, rfl, rfl, rfl, trivial⟩ ⟨by omega, hs⟩ ?_
        clear hs
        rintro i ρ w ⟨hi, hs⟩
        change CW Try.prog 192 _ _ (sets 192 [(2, .slice a2 ts.length c2), (3, .pointer (some ⟨b3, 0, none⟩)), (7, .slice (some ⟨bw, 0, none⟩) D.mem.length D.mem.length), (9, .int .u64 (minW (W.take i) : Nat)), (10, .int .i64 (i : Nat))] ρ) w
        refine c_seq ?_
        refine c_seq ?_
        -- region 10
        refine c_region ?_
        refine x_move (.int _ _) rfl ?_
        refine x_move (.slice _ _ _) rfl ?_
        refine x_lenSl Try.underlying31 _ _ _ rfl ?_
        refine x_lss _ _ rfl rfl ?_
        refine x_nil ?_
        refine then_n ?_
        refine c_test _ rfl (fun hb => ?_) (fun hb => ?_)   -- cond t52
        · skip
          refine c_skip ?_
          refine then_n ?_
          refine c_seq ?_
          refine c_block ?_
          -- region 12
          obtain ⟨n, hn⟩ : ∃ n, W[i]? = some n := ⟨W[i]'(by omega), List.getElem?_eq_getElem _⟩
          have hcw : w.cell? ⟨bw, 0 + i * 1, none⟩ = some (.int .u64 (n : Nat)) := hs.rowCell (by rw [Nat.mul_one]; exact wc_get hn)
          have hms := minW_snoc (W.take i) n
          rw [show W.take i ++ [n] = W.take (i + 1) from by rw [List.take_add_one, hn]; rfl] at hms
          refine c_region ?_
          refine x_move (.int _ _) rfl ?_
          refine x_move (.slice _ _ _) rfl ?_
          refine x_move (.int _ _) rfl ?_
          refine x_indexAddr Try.underlying31 sz_22 _ _ _ _ _ rfl rfl (by omega) ?_
          refine x_load one_22 _ (.int _ _) rfl (by first | exact hs.cell rfl | exact (hs.pull 1).cell rfl | exact (hs.pull 2).cell rfl | exact (hs.pull 3).cell rfl | assumption | exact (hs.pull 4).cell rfl | exact (hs.pull 5).cell rfl | exact (hs.pull 6).cell rfl | exact (hs.pull 7).cell rfl) ?_
          refine x_min _ _ ((minW (W.take (i + 1)) : Nat) : Int) rfl rfl (by rw [hms]; split <;> omega) ?_
          refine x_assign (.int _ _) rfl ?_
          refine x_nil ?_
          refine inb_n ?_
          refine then_n ?_
          -- region 11
          refine c_region ?_
          refine x_move (.int _ _) rfl ?_
          refine x_add _ _ rfl rfl (by simp only [X.lo]; omega) (by simp only [X.hi]; omega) ?_
          refine x_assign (.int _ _) rfl ?_
          refine x_nil ?_
          refine then_n ?_
          refine ⟨i + 1, ⟨rfl, rfl, rfl, rfl, rfl, trivial⟩, ⟨by omega, hs⟩, by first | omega | (dsimp only; omega)⟩
        · skip
          refine c_exit ?_
          refine then_x ?_
          refine then_x ?_
          refine inb_e ?_
          refine then_n ?_
          refine c_seq ?_
          -- region 13
          rw [List.take_of_length_le (by omega)]
          refine c_region ?_
          refine x_loadN [_, _, _, _] agg_26 _ rfl (by first | assumption | exact hs.cellsOf | exact (hs.pull 1).cellsOf | exact (hs.pull 2).cellsOf | exact (hs.pull 3).cellsOf | exact (hs.pull 4).cellsOf | exact (hs.pull 5).cellsOf | exact (hs.pull 6).cellsOf | exact (hs.pull 7).cellsOf | exact (hs.pull 8).cellsOf | exact hs.cells2 rfl rfl | exact (hs.pull 1).cells2 rfl rfl | exact (hs.pull 2).cells2 rfl rfl | exact (hs.pull 3).cells2 rfl rfl | exact (hs.pull 4).cells2 rfl rfl | exact (hs.pull 5).cells2 rfl rfl | exact (hs.pull 6).cells2 rfl rfl | exact (hs.pull 7).cells2 rfl rfl | exact (hs.pull 8).cells2 rfl rfl) ?_
          refine x_call Try.f11 Try.func11 rfl rfl _ rfl ?_
          refine ((new_d (hs.pull 2) hin hsm')).mono ?_
          clear hs; rintro e w ⟨f, rfl, hs⟩
          refine ⟨_, rfl, fun h => (by first | (cases h; done) | (first | exact hs.cells2 rfl rfl | exact (hs.pull 1).cells2 rfl rfl | exact (hs.pull 2).cells2 rfl rfl | exact (hs.pull 3).cells2 rfl rfl | exact (hs.pull 4).cells2 rfl rfl | exact (hs.pull 5).cells2 rfl rfl | exact (hs.pull 6).cells2 rfl rfl | exact (hs.pull 7).cells2 rfl rfl | exact (hs.pull 8).cells2 rfl rfl | exact hs.cell rfl | exact (hs.pull 1).cell rfl | exact (hs.pull 2).cell rfl | exact (hs.pull 3).cell rfl | exact (hs.pull 4).cell rfl | exact (hs.pull 5).cell rfl | exact (hs.pull 6).cell rfl | exact (hs.pull 7).cell rfl | exact (hs.pull 8).cell rfl | assumption | exact hs.cellsOf | exact (hs.pull 1).cellsOf | exact (hs.pull 2).cellsOf | exact (hs.pull 3).cellsOf | exact (hs.pull 4).cellsOf | exact (hs.pull 5).cellsOf | exact (hs.pull 6).cellsOf | exact (hs.pull 7).cellsOf | exact (hs.pull 8).cellsOf) | (and_intros <;> first | exact hs.cells2 rfl rfl | exact (hs.pull 1).cells2 rfl rfl | exact (hs.pull 2).cells2 rfl rfl | exact (hs.pull 3).cells2 rfl rfl | exact (hs.pull 4).cells2 rfl rfl | exact (hs.pull 5).cells2 rfl rfl | exact (hs.pull 6).cells2 rfl rfl | exact (hs.pull 7).cells2 rfl rfl | exact (hs.pull 8).cells2 rfl rfl | exact hs.cell rfl | exact (hs.pull 1).cell rfl | exact (hs.pull 2).cell rfl | exact (hs.pull 3).cell rfl | exact (hs.pull 4).cell rfl | exact (hs.pull 5).cell rfl | exact (hs.pull 6).cell rfl | exact (hs.pull 7).cell rfl | exact (hs.pull 8).cell rfl | assumption | exact hs.cellsOf | exact (hs.pull 1).cellsOf | exact (hs.pull 2).cellsOf | exact (hs.pull 3).cellsOf | exact (hs.pull 4).cellsOf | exact (hs.pull 5).cellsOf | exact (hs.pull 6).cellsOf | exact (hs.pull 7).cellsOf | exact (hs.pull 8).cellsOf)), ?_⟩
          refine x_assign (.pointer _) rfl ?_
          refine x_nil ?_
          refine then_n ?_
          refine c_seq ?_
          -- region 14
          have hr : ∀ w' L', Sat w0 w' (Init w0 :: L') → RS w' 2 Pid.cells (.slice D.am D.mem.length D.cm) D.mem := fun w' L' h => (hin w' L' h).m
          have hrl : ∀ w' L', Sat w0 w' (Init w0 :: L') → RLL w' (.slice D.al D.lvs.length D.cl) D.lvs := fun w' L' h => (hin w' L' h).l
          obtain ⟨gm, om, ham⟩ := (hr _ _ (hs.pull 1)).addr hV.pos
          have hlls : D.v.sv.lls = D.lvs.map (·.2) := rfl
          have hmem : D.v.sv.mem = D.mem := rfl
          have hlln : D.v.sv.lls.length = D.lvs.length := by rw [hlls, List.length_map]
          have hlp : 0 < D.lvs.length := by
            obtain ⟨k, hk, -⟩ := hV.cov _ (List.getElem_mem hV.pos)
            rw [← hlln]; omega
          obtain ⟨gl, ol, hal⟩ := (hrl _ _ (hs.pull 1)).1.addr hlp
          rw [ham] at hr hs
          rw [hal] at hrl hs
          have hls40 := hsm'.ls
          generalize D.v.sv = V at *
          clear hin hck hsm hsm' hdl
          have hA : ∀ p ∈ D.mem, W[D.mem.idxOf p]? = some (W.getD (D.mem.idxOf p) 0) := fun p hp => by
            have := pix_lt hp
            rw [List.getD_eq_getElem?_getD, List.getElem?_eq_getElem (by omega)]
            rfl
          have hleast : ∀ {s : SSt}, SInv V (fun p => W.getD (D.mem.idxOf p) 0) s → allV V s ≤ minW W := fun {s} h => by
            rw [le_minW]
            have key : ∀ n ∈ W, allV V s ≤ n := fun n hn => by
              obtain ⟨j, hj, rfl⟩ := List.mem_iff_getElem.1 hn
              have hjm : j < D.mem.length := by omega
              have h1 := h.le hV (p := D.mem[j]) (by rw [hmem]; exact List.getElem_mem hjm)
              have h2 : D.mem.idxOf D.mem[j] = j := idx_nodup (by rw [← hmem]; exact hV.nodup) hjm
              rw [h2] at h1
              rw [List.getD_eq_getElem?_getD, List.getElem?_eq_getElem hj] at h1
              exact h1
            have h0 : 0 < W.length := by rw [hWl, ← hmem]; exact hV.pos
            have h1 := key _ (List.getElem_mem h0)
            have h2 := hW _ (List.getElem_mem h0)
            exact ⟨by unfold U64; omega, key⟩
          refine c_region ?_
          refine x_assign (.int _ _) rfl ?_
          refine x_nil ?_
          refine then_n ?_
          refine c_seqI (γ := Unit) (fun (_u : Unit) => [(11, .pointer (some ⟨f, 0, none⟩))]) (fun (_u : Unit) w => Sat w0 w [Init w0]) ?_ ?_
          · skip
            refine c_seq ?_
            -- region 15
            refine c_region ?_
            refine x_assign (.int _ _) rfl ?_
            refine x_nil ?_
            refine then_n ?_
            refine c_block ?_
            refine c_loop (γ := Nat × SSt × Nat) (fun (⟨i, s, last⟩ : Nat × SSt × Nat) => [(2, .slice a2 ts.length c2), (3, .pointer (some ⟨b3, 0, none⟩)), (7, .slice (some ⟨bw, 0, none⟩) D.mem.length D.mem.length), (9, .int .u64 (minW W : Nat)), (11, .pointer (some ⟨f, 0, none⟩)), (12, .int .u64 (last : Nat)), (13, .int .i64 (i : Nat))]) (fun (⟨i, s, last⟩ : Nat × SSt × Nat) w => i ≤ 100 ∧ SInv V (fun p => W.getD (D.mem.idxOf p) 0) s ∧ last = allV V s ∧ Sat w0 w (SO f V s :: Row 22 1 (.slice (some ⟨bw, 0, none⟩) D.mem.length D.mem.length) D.mem.length (wc W) :: Blk b3 (.cells #[.int .u64 (D.Id : Nat), .slice (some ⟨gm, om, none⟩) D.mem.length D.cm, .slice (some ⟨gl, ol, none⟩) D.lvs.length D.cl, .slice D.ad D.lds.length D.cd] 26 (0, 0)) :: [Init w0])) (fun (⟨i, s, last⟩ : Nat × SSt × Nat) => 100 - i) (0, ⟨[], []⟩, 0) ⟨rfl, rfl, rfl, rfl, rfl, rfl, rfl, trivial⟩ ⟨by omega, SInv.start V _, by have := (hV.all_le ⟨[], []⟩ (c := 0) (List.getElem_mem hV.pos) (Nat.le_refl _) (fun k _ _ => Nat.le_refl _)); omega, hs.perm [0, 2, 3, 1]⟩ ?_
            clear hs
            rintro ⟨i, s, last⟩ ρ w ⟨hi, hinv, hlast, hs⟩
            change CW Try.prog 192 _ _ (sets 192 [(2, .slice a2 ts.length c2), (3, .pointer (some ⟨b3, 0, none⟩)), (7, .slice (some ⟨bw, 0, none⟩) D.mem.length D.mem.length), (9, .int .u64 (minW W : Nat)), (11, .pointer (some ⟨f, 0, none⟩)), (12, .int .u64 (last : Nat)), (13, .int .i64 (i : Nat))] ρ) w
            by_cases g1 : i < ts.length
            by_cases g2 : i < 100
            · skip
              refine c_seq ?_
              refine c_seq ?_
              -- region 16
              refine c_region ?_
              refine x_move (.int _ _) rfl ?_
              refine x_move (.slice _ _ _) rfl ?_
              refine x_lenSl Try.underlying28 _ _ _ rfl ?_
              refine x_lssT _ _ rfl rfl (by omega) ?_
              refine x_move (.bool _) rfl ?_
              refine x_want' rfl ?_
              refine x_move (.int _ _) rfl ?_
              refine x_want' rfl ?_
              refine x_lssT _ _ rfl rfl (by omega) ?_
              refine x_pickT (.bool _) rfl rfl ?_
              refine x_nil ?_
              refine then_n ?_
              obtain ⟨t, ht⟩ : ∃ x, ts[i]? = some x := ⟨ts[i]'g1, List.getElem?_eq_getElem _⟩
              obtain ⟨g, o, rfl⟩ := (hina _ _ (hs.pull 3)).addr (by omega)
              obtain ⟨P, Of, Leaf, N⟩ := t
              have hcp : ∀ {w' L'}, Sat w0 w' (Init w0 :: L') → (∀ (j : Nat) (u : Value), [Value.int .u16 (P.Id : Nat), Value.int .u32 (P.Inc : Nat)][j]? = some u → w'.cell? ((⟨g, o + i * 5, none⟩ : Addr).add j) = some u) := fun h =>
                cells2 ((hina _ _ h).cell (fun a => a.cells_len) ht (q := 0) rfl) ((hina _ _ h).cell (fun a => a.cells_len) ht (q := 1) rfl)
              have hco : ∀ {w' L'}, Sat w0 w' (Init w0 :: L') → w'.cell? ⟨g, o + i * 5 + 2, none⟩ = some (.bool Of) := fun h => (hina _ _ h).cell (fun a => a.cells_len) ht (q := 2) rfl
              have hcl : ∀ {w' L'}, Sat w0 w' (Init w0 :: L') → w'.cell? ⟨g, o + i * 5 + 3, none⟩ = some (.int .i64 Leaf) := fun h => (hina _ _ h).cell (fun a => a.cells_len) ht (q := 3) rfl
              have hcn : ∀ {w' L'}, Sat w0 w' (Init w0 :: L') → w'.cell? ⟨g, o + i * 5 + 4, none⟩ = some (.int .u64 (N : Nat)) := fun h => (hina _ _ h).cell (fun a => a.cells_len) ht (q := 4) rfl
              have hle0 := hleast hinv
              have hrow : ∀ {w' L'}, Sat w0 w' (Row 22 1 (.slice (some ⟨bw, 0, none⟩) D.mem.length D.mem.length) D.mem.length (wc W) :: L') → ∀ p ∈ D.mem, w'.cell? ⟨bw, 0 + D.mem.idxOf p * 1, none⟩ = some (.int .u64 (W.getD (D.mem.idxOf p) 0 : Nat)) := fun h p hp => h.rowCell (by rw [Nat.mul_one]; exact wc_get (hA p hp))
              rcases Of with _ | _
              by_cases hp : P ∈ D.mem
              rotate_left
              rotate_left
              by_cases hlf : 0 ≤ Leaf ∧ Leaf < D.lvs.length
              rotate_left
              by_cases h0 : 0 ≤ Leaf
              · skip
                refine c_true rfl ?_
                refine c_skip ?_
                refine then_n ?_
                refine c_seq ?_
                refine c_block ?_
                refine c_seq ?_
                -- region 18 DRAWS
                refine c_draw (fun w => (∀ (j : Nat) (u : Value), [Value.int .u16 (P.Id : Nat), Value.int .u32 (P.Inc : Nat)][j]? = some u → w.cell? ((⟨g, o + i * 5, none⟩ : Addr).add j) = some u) ∧ w.cell? ⟨b3, 1, none⟩ = some (.slice (some ⟨gm, om, none⟩) D.mem.length D.cm)) (fun i => !(Nat.beq i 7)) [(0, 2), (1, 1), (2, 2), (3, 2), (4, 2), (5, 2), (6, 1), (7, 0), (8, 2)] (by kernel_rfl) (by kernel_rfl) (by kernel_rfl) (by kernel_rfl) (⟨hcp (hs.drew.pull 3), (hs.drew.pull 2).cell rfl⟩) ?_
                replace hs := hs.drew
                first | refine x_field0 fa_26_1 _ rfl ?_ | refine x_field fa_26_1 _ _ rfl ?_
                refine h_load one_23 _ (.slice _ _ _) rfl (fun w hS => by first | exact hS.cell rfl | exact (hS.pull 1).cell rfl | exact (hS.pull 2).cell rfl | exact (hS.pull 3).cell rfl | exact (hS.pull 4).cell rfl | exact (hS.pull 5).cell rfl | exact (hS.pull 6).cell rfl | exact hS | exact hS.1 | exact hS.2 | exact hS.2.1 | exact hS.2.2 | exact hS.2.2.1 | exact hS.2.2.2 | exact hS.2.2.2.1 | exact hS.2.2.2.2) ?_
                refine x_move (.slice _ _ _) rfl ?_
                refine x_move (.int _ _) rfl ?_
                refine x_indexAddr Try.underlying28 sz_40 _ _ _ _ _ rfl rfl (by omega) ?_
                first | refine x_field0 fa_40_0 _ rfl ?_ | refine x_field fa_40_0 _ _ rfl ?_
                refine h_loadN [_, _] agg_38 _ rfl (fun w hS => by first | exact hS | exact hS.1 | exact hS.2 | exact hS.2.1 | exact hS.2.2 | exact hS.2.2.1 | exact hS.2.2.2 | exact hS.2.2.2.1 | exact hS.2.2.2.2 | exact hS.cellsOf | exact (hS.pull 1).cellsOf | exact (hS.pull 2).cellsOf | exact (hS.pull 3).cellsOf | exact (hS.pull 4).cellsOf | exact (hS.pull 5).cellsOf | exact (hS.pull 6).cellsOf | exact hS.cells2 rfl rfl | exact (hS.pull 1).cells2 rfl rfl | exact (hS.pull 2).cells2 rfl rfl | exact (hS.pull 3).cells2 rfl rfl | exact (hS.pull 4).cells2 rfl rfl | exact (hS.pull 5).cells2 rfl rfl | exact (hS.pull 6).cells2 rfl rfl) ?_
                refine x_call Try.f12 Try.func12 rfl rfl _ rfl ?_
                refine (at08_calls P (hs.pull 3) hr (by omega)).mono ?_
                clear hs; rintro e w ⟨rfl, hs⟩
                replace hs := hs.push 3
                try dsimp only [back] at hs
                refine ⟨_, rfl, fun h => (by first | (cases h; done) | (first | exact hs.cells2 rfl rfl | exact (hs.pull 1).cells2 rfl rfl | exact (hs.pull 2).cells2 rfl rfl | exact (hs.pull 3).cells2 rfl rfl | exact (hs.pull 4).cells2 rfl rfl | exact (hs.pull 5).cells2 rfl rfl | exact (hs.pull 6).cells2 rfl rfl | exact (hs.pull 7).cells2 rfl rfl | exact (hs.pull 8).cells2 rfl rfl | exact hs.cell rfl | exact (hs.pull 1).cell rfl | exact (hs.pull 2).cell rfl | exact (hs.pull 3).cell rfl | exact (hs.pull 4).cell rfl | exact (hs.pull 5).cell rfl | exact (hs.pull 6).cell rfl | exact (hs.pull 7).cell rfl | exact (hs.pull 8).cell rfl | assumption | exact hs.cellsOf | exact (hs.pull 1).cellsOf | exact (hs.pull 2).cellsOf | exact (hs.pull 3).cellsOf | exact (hs.pull 4).cellsOf | exact (hs.pull 5).cellsOf | exact (hs.pull 6).cellsOf | exact (hs.pull 7).cellsOf | exact (hs.pull 8).cellsOf) | (and_intros <;> first | exact hs.cells2 rfl rfl | exact (hs.pull 1).cells2 rfl rfl | exact (hs.pull 2).cells2 rfl rfl | exact (hs.pull 3).cells2 rfl rfl | exact (hs.pull 4).cells2 rfl rfl | exact (hs.pull 5).cells2 rfl rfl | exact (hs.pull 6).cells2 rfl rfl | exact (hs.pull 7).cells2 rfl rfl | exact (hs.pull 8).cells2 rfl rfl | exact hs.cell rfl | exact (hs.pull 1).cell rfl | exact (hs.pull 2).cell rfl | exact (hs.pull 3).cell rfl | exact (hs.pull 4).cell rfl | exact (hs.pull 5).cell rfl | exact (hs.pull 6).cell rfl | exact (hs.pull 7).cell rfl | exact (hs.pull 8).cell rfl | assumption | exact hs.cellsOf | exact (hs.pull 1).cellsOf | exact (hs.pull 2).cellsOf | exact (hs.pull 3).cellsOf | exact (hs.pull 4).cellsOf | exact (hs.pull 5).cellsOf | exact (hs.pull 6).cellsOf | exact (hs.pull 7).cellsOf | exact (hs.pull 8).cellsOf)), ?_⟩
                refine x_assign (.int _ _) rfl ?_
                refine x_nil ?_
                refine then_n ?_
                refine c_seq ?_
                refine c_seq ?_
                -- region 19
                have hco1 := hco (hs.pull 3)
                refine c_region ?_
                refine x_move (.slice _ _ _) rfl ?_
                refine x_move (.int _ _) rfl ?_
                refine x_indexAddr Try.underlying28 sz_40 _ _ _ _ _ rfl rfl (by omega) ?_
                first | refine x_field0 fa_40_1 _ rfl ?_ | refine x_field fa_40_1 _ _ rfl ?_
                refine x_load one_4 _ (.bool _) rfl (by first | exact hs.cell rfl | exact (hs.pull 1).cell rfl | exact (hs.pull 2).cell rfl | exact (hs.pull 3).cell rfl | assumption | exact (hs.pull 4).cell rfl | exact (hs.pull 5).cell rfl | exact (hs.pull 6).cell rfl | exact (hs.pull 7).cell rfl) ?_
                refine x_not _ rfl ?_
                refine x_move (.bool _) rfl ?_
                refine x_skip rfl rfl ?_
                refine x_skip rfl rfl ?_
                refine x_pickF (.bool _) rfl rfl ?_
                refine x_nil ?_
                refine then_n ?_
                refine c_false rfl ?_
                refine c_skip ?_
                refine then_n ?_
                refine c_seq ?_
                refine c_seq ?_
                -- region 21 DRAWS
                refine c_draw (fun w => w.cell? ⟨g, o + i * 5 + 2, none⟩ = some (.bool true) ∧ w.cell? ⟨g, o + i * 5 + 3, none⟩ = some (.int .i64 Leaf) ∧ w.cell? ⟨b3, 2, none⟩ = some (.slice (some ⟨gl, ol, none⟩) D.lvs.length D.cl)) (fun i => !(false)) [(0, 2), (1, 2), (2, 2), (3, 2), (4, 1), (5, 2), (6, 2), (7, 2), (8, 2), (9, 2), (10, 1), (11, 2), (12, 2), (13, 2), (14, 2), (15, 2), (16, 2), (17, 2), (18, 1), (19, 2), (20, 1), (21, 2), (22, 2), (23, 2)] (by kernel_rfl) (by kernel_rfl) (by kernel_rfl) (by kernel_rfl) (⟨hco (hs.drew.pull 3), hcl (hs.drew.pull 3), (hs.drew.pull 2).cell rfl⟩) ?_
                replace hs := hs.drew
                refine x_move (.slice _ _ _) rfl ?_
                refine x_move (.int _ _) rfl ?_
                refine x_indexAddr Try.underlying28 sz_40 _ _ _ _ _ rfl rfl (by omega) ?_
                first | refine x_field0 fa_40_1 _ rfl ?_ | refine x_field fa_40_1 _ _ rfl ?_
                refine h_load one_4 _ (.bool _) rfl (fun w hS => by first | exact hS.cell rfl | exact (hS.pull 1).cell rfl | exact (hS.pull 2).cell rfl | exact (hS.pull 3).cell rfl | exact (hS.pull 4).cell rfl | exact (hS.pull 5).cell rfl | exact (hS.pull 6).cell rfl | exact hS | exact hS.1 | exact hS.2 | exact hS.2.1 | exact hS.2.2 | exact hS.2.2.1 | exact hS.2.2.2 | exact hS.2.2.2.1 | exact hS.2.2.2.2) ?_
                refine x_move (.bool _) rfl ?_
                refine x_want' rfl ?_
                refine x_move (.slice _ _ _) rfl ?_
                refine x_want' rfl ?_
                refine x_move (.int _ _) rfl ?_
                refine x_want' rfl ?_
                refine x_indexAddr Try.underlying28 sz_40 _ _ _ _ _ rfl rfl (by omega) ?_
                refine x_want' rfl ?_
                first | refine x_field0 fa_40_2 _ rfl ?_ | refine x_field fa_40_2 _ _ rfl ?_
                refine x_want' rfl ?_
                refine h_load one_3 _ (.int _ _) rfl (fun w hS => by first | exact hS.cell rfl | exact (hS.pull 1).cell rfl | exact (hS.pull 2).cell rfl | exact (hS.pull 3).cell rfl | exact (hS.pull 4).cell rfl | exact (hS.pull 5).cell rfl | exact (hS.pull 6).cell rfl | exact hS | exact hS.1 | exact hS.2 | exact hS.2.1 | exact hS.2.2 | exact hS.2.2.1 | exact hS.2.2.2 | exact hS.2.2.2.1 | exact hS.2.2.2.2) ?_
                refine x_want' rfl ?_
                refine x_geqT _ _ rfl rfl (by omega) ?_
                refine x_pickT (.bool _) rfl rfl ?_
                refine x_move (.bool _) rfl ?_
                refine x_want' rfl ?_
                refine x_move (.slice _ _ _) rfl ?_
                refine x_want' rfl ?_
                refine x_move (.int _ _) rfl ?_
                refine x_want' rfl ?_
                refine x_indexAddr Try.underlying28 sz_40 _ _ _ _ _ rfl rfl (by omega) ?_
                refine x_want' rfl ?_
                first | refine x_field0 fa_40_2 _ rfl ?_ | refine x_field fa_40_2 _ _ rfl ?_
                refine x_want' rfl ?_
                refine h_load one_3 _ (.int _ _) rfl (fun w hS => by first | exact hS.cell rfl | exact (hS.pull 1).cell rfl | exact (hS.pull 2).cell rfl | exact (hS.pull 3).cell rfl | exact (hS.pull 4).cell rfl | exact (hS.pull 5).cell rfl | exact (hS.pull 6).cell rfl | exact hS | exact hS.1 | exact hS.2 | exact hS.2.1 | exact hS.2.2 | exact hS.2.2.1 | exact hS.2.2.2 | exact hS.2.2.2.1 | exact hS.2.2.2.2) ?_
                refine x_want' rfl ?_
                first | refine x_field0 fa_26_2 _ rfl ?_ | refine x_field fa_26_2 _ _ rfl ?_
                refine x_want' rfl ?_
                refine h_load one_24 _ (.slice _ _ _) rfl (fun w hS => by first | exact hS.cell rfl | exact (hS.pull 1).cell rfl | exact (hS.pull 2).cell rfl | exact (hS.pull 3).cell rfl | exact (hS.pull 4).cell rfl | exact (hS.pull 5).cell rfl | exact (hS.pull 6).cell rfl | exact hS | exact hS.1 | exact hS.2 | exact hS.2.1 | exact hS.2.2 | exact hS.2.2.1 | exact hS.2.2.2 | exact hS.2.2.2.1 | exact hS.2.2.2.2) ?_
                refine x_want' rfl ?_
                refine x_lenSl Try.underlying24 _ _ _ rfl ?_
                refine x_want' rfl ?_
                refine x_lssF _ _ rfl rfl (by omega) ?_
                refine x_pickT (.bool _) rfl rfl ?_
                refine x_nil ?_
                refine then_n ?_
                refine c_false rfl ?_
                refine c_skip ?_
                refine then_n ?_
                refine c_seq ?_
                refine c_seq ?_
                -- region 28
                refine c_region ?_
                refine x_move (.pointer _) rfl ?_
                refine x_call Try.f15 Try.func15 rfl rfl _ rfl ?_
                refine ((all_is hs rfl)).mono ?_
                clear hs; rintro e w ⟨rfl, hs⟩
                refine ⟨_, rfl, fun h => (by first | (cases h; done) | (first | exact hs.cells2 rfl rfl | exact (hs.pull 1).cells2 rfl rfl | exact (hs.pull 2).cells2 rfl rfl | exact (hs.pull 3).cells2 rfl rfl | exact (hs.pull 4).cells2 rfl rfl | exact (hs.pull 5).cells2 rfl rfl | exact (hs.pull 6).cells2 rfl rfl | exact (hs.pull 7).cells2 rfl rfl | exact (hs.pull 8).cells2 rfl rfl | exact hs.cell rfl | exact (hs.pull 1).cell rfl | exact (hs.pull 2).cell rfl | exact (hs.pull 3).cell rfl | exact (hs.pull 4).cell rfl | exact (hs.pull 5).cell rfl | exact (hs.pull 6).cell rfl | exact (hs.pull 7).cell rfl | exact (hs.pull 8).cell rfl | assumption | exact hs.cellsOf | exact (hs.pull 1).cellsOf | exact (hs.pull 2).cellsOf | exact (hs.pull 3).cellsOf | exact (hs.pull 4).cellsOf | exact (hs.pull 5).cellsOf | exact (hs.pull 6).cellsOf | exact (hs.pull 7).cellsOf | exact (hs.pull 8).cellsOf) | (and_intros <;> first | exact hs.cells2 rfl rfl | exact (hs.pull 1).cells2 rfl rfl | exact (hs.pull 2).cells2 rfl rfl | exact (hs.pull 3).cells2 rfl rfl | exact (hs.pull 4).cells2 rfl rfl | exact (hs.pull 5).cells2 rfl rfl | exact (hs.pull 6).cells2 rfl rfl | exact (hs.pull 7).cells2 rfl rfl | exact (hs.pull 8).cells2 rfl rfl | exact hs.cell rfl | exact (hs.pull 1).cell rfl | exact (hs.pull 2).cell rfl | exact (hs.pull 3).cell rfl | exact (hs.pull 4).cell rfl | exact (hs.pull 5).cell rfl | exact (hs.pull 6).cell rfl | exact (hs.pull 7).cell rfl | exact (hs.pull 8).cell rfl | assumption | exact hs.cellsOf | exact (hs.pull 1).cellsOf | exact (hs.pull 2).cellsOf | exact (hs.pull 3).cellsOf | exact (hs.pull 4).cellsOf | exact (hs.pull 5).cellsOf | exact (hs.pull 6).cellsOf | exact (hs.pull 7).cellsOf | exact (hs.pull 8).cellsOf)), ?_⟩
                refine x_move (.int _ _) rfl ?_
                refine x_gtrF _ _ rfl rfl (by omega) ?_
                refine x_move (.bool _) rfl ?_
                refine x_want' rfl ?_
                refine x_move (.pointer _) rfl ?_
                refine x_want' rfl ?_
                refine x_call Try.f15 Try.func15 rfl rfl _ rfl ?_
                refine ((all_is hs rfl)).mono ?_
                clear hs; rintro e w ⟨rfl, hs⟩
                refine ⟨_, rfl, fun h => (by first | (cases h; done) | (first | exact hs.cells2 rfl rfl | exact (hs.pull 1).cells2 rfl rfl | exact (hs.pull 2).cells2 rfl rfl | exact (hs.pull 3).cells2 rfl rfl | exact (hs.pull 4).cells2 rfl rfl | exact (hs.pull 5).cells2 rfl rfl | exact (hs.pull 6).cells2 rfl rfl | exact (hs.pull 7).cells2 rfl rfl | exact (hs.pull 8).cells2 rfl rfl | exact hs.cell rfl | exact (hs.pull 1).cell rfl | exact (hs.pull 2).cell rfl | exact (hs.pull 3).cell rfl | exact (hs.pull 4).cell rfl | exact (hs.pull 5).cell rfl | exact (hs.pull 6).cell rfl | exact (hs.pull 7).cell rfl | exact (hs.pull 8).cell rfl | assumption | exact hs.cellsOf | exact (hs.pull 1).cellsOf | exact (hs.pull 2).cellsOf | exact (hs.pull 3).cellsOf | exact (hs.pull 4).cellsOf | exact (hs.pull 5).cellsOf | exact (hs.pull 6).cellsOf | exact (hs.pull 7).cellsOf | exact (hs.pull 8).cellsOf) | (and_intros <;> first | exact hs.cells2 rfl rfl | exact (hs.pull 1).cells2 rfl rfl | exact (hs.pull 2).cells2 rfl rfl | exact (hs.pull 3).cells2 rfl rfl | exact (hs.pull 4).cells2 rfl rfl | exact (hs.pull 5).cells2 rfl rfl | exact (hs.pull 6).cells2 rfl rfl | exact (hs.pull 7).cells2 rfl rfl | exact (hs.pull 8).cells2 rfl rfl | exact hs.cell rfl | exact (hs.pull 1).cell rfl | exact (hs.pull 2).cell rfl | exact (hs.pull 3).cell rfl | exact (hs.pull 4).cell rfl | exact (hs.pull 5).cell rfl | exact (hs.pull 6).cell rfl | exact (hs.pull 7).cell rfl | exact (hs.pull 8).cell rfl | assumption | exact hs.cellsOf | exact (hs.pull 1).cellsOf | exact (hs.pull 2).cellsOf | exact (hs.pull 3).cellsOf | exact (hs.pull 4).cellsOf | exact (hs.pull 5).cellsOf | exact (hs.pull 6).cellsOf | exact (hs.pull 7).cellsOf | exact (hs.pull 8).cellsOf)), ?_⟩
                refine x_want' rfl ?_
                refine x_move (.int _ _) rfl ?_
                refine x_want' rfl ?_
                refine x_lssF _ _ rfl rfl (by omega) ?_
                refine x_pickF (.bool _) rfl rfl ?_
                refine x_nil ?_
                refine then_n ?_
                refine c_false rfl ?_
                refine c_skip ?_
                refine then_n ?_
                -- region 30
                refine c_region ?_
                refine x_move (.pointer _) rfl ?_
                refine x_call Try.f15 Try.func15 rfl rfl _ rfl ?_
                refine ((all_is hs rfl)).mono ?_
                clear hs; rintro e w ⟨rfl, hs⟩
                refine ⟨_, rfl, fun h => (by first | (cases h; done) | (first | exact hs.cells2 rfl rfl | exact (hs.pull 1).cells2 rfl rfl | exact (hs.pull 2).cells2 rfl rfl | exact (hs.pull 3).cells2 rfl rfl | exact (hs.pull 4).cells2 rfl rfl | exact (hs.pull 5).cells2 rfl rfl | exact (hs.pull 6).cells2 rfl rfl | exact (hs.pull 7).cells2 rfl rfl | exact (hs.pull 8).cells2 rfl rfl | exact hs.cell rfl | exact (hs.pull 1).cell rfl | exact (hs.pull 2).cell rfl | exact (hs.pull 3).cell rfl | exact (hs.pull 4).cell rfl | exact (hs.pull 5).cell rfl | exact (hs.pull 6).cell rfl | exact (hs.pull 7).cell rfl | exact (hs.pull 8).cell rfl | assumption | exact hs.cellsOf | exact (hs.pull 1).cellsOf | exact (hs.pull 2).cellsOf | exact (hs.pull 3).cellsOf | exact (hs.pull 4).cellsOf | exact (hs.pull 5).cellsOf | exact (hs.pull 6).cellsOf | exact (hs.pull 7).cellsOf | exact (hs.pull 8).cellsOf) | (and_intros <;> first | exact hs.cells2 rfl rfl | exact (hs.pull 1).cells2 rfl rfl | exact (hs.pull 2).cells2 rfl rfl | exact (hs.pull 3).cells2 rfl rfl | exact (hs.pull 4).cells2 rfl rfl | exact (hs.pull 5).cells2 rfl rfl | exact (hs.pull 6).cells2 rfl rfl | exact (hs.pull 7).cells2 rfl rfl | exact (hs.pull 8).cells2 rfl rfl | exact hs.cell rfl | exact (hs.pull 1).cell rfl | exact (hs.pull 2).cell rfl | exact (hs.pull 3).cell rfl | exact (hs.pull 4).cell rfl | exact (hs.pull 5).cell rfl | exact (hs.pull 6).cell rfl | exact (hs.pull 7).cell rfl | exact (hs.pull 8).cell rfl | assumption | exact hs.cellsOf | exact (hs.pull 1).cellsOf | exact (hs.pull 2).cellsOf | exact (hs.pull 3).cellsOf | exact (hs.pull 4).cellsOf | exact (hs.pull 5).cellsOf | exact (hs.pull 6).cellsOf | exact (hs.pull 7).cellsOf | exact (hs.pull 8).cellsOf)), ?_⟩
                refine x_assign (.int _ _) rfl ?_
                refine x_nil ?_
                refine inb_n ?_
                refine then_n ?_
                -- region 17
                refine c_region ?_
                refine x_move (.int _ _) rfl ?_
                refine x_add _ _ rfl rfl (by simp only [X.lo]; omega) (by simp only [X.hi]; omega) ?_
                refine x_assign (.int _ _) rfl ?_
                refine x_nil ?_
                refine then_n ?_
                refine ⟨(i + 1, _, _), ⟨rfl, rfl, rfl, rfl, rfl, rfl, rfl, trivial⟩, ⟨by omega, by assumption, rfl, hs⟩, by first | omega | (dsimp only; omega)⟩
              · skip
                refine c_true rfl ?_
                refine c_skip ?_
                refine then_n ?_
                refine c_seq ?_
                refine c_block ?_
                refine c_seq ?_
                -- region 18 DRAWS
                refine c_draw (fun w => (∀ (j : Nat) (u : Value), [Value.int .u16 (P.Id : Nat), Value.int .u32 (P.Inc : Nat)][j]? = some u → w.cell? ((⟨g, o + i * 5, none⟩ : Addr).add j) = some u) ∧ w.cell? ⟨b3, 1, none⟩ = some (.slice (some ⟨gm, om, none⟩) D.mem.length D.cm)) (fun i => !(Nat.beq i 7)) [(0, 2), (1, 1), (2, 2), (3, 2), (4, 2), (5, 2), (6, 1), (7, 0), (8, 2)] (by kernel_rfl) (by kernel_rfl) (by kernel_rfl) (by kernel_rfl) (⟨hcp (hs.drew.pull 3), (hs.drew.pull 2).cell rfl⟩) ?_
                replace hs := hs.drew
                first | refine x_field0 fa_26_1 _ rfl ?_ | refine x_field fa_26_1 _ _ rfl ?_
                refine h_load one_23 _ (.slice _ _ _) rfl (fun w hS => by first | exact hS.cell rfl | exact (hS.pull 1).cell rfl | exact (hS.pull 2).cell rfl | exact (hS.pull 3).cell rfl | exact (hS.pull 4).cell rfl | exact (hS.pull 5).cell rfl | exact (hS.pull 6).cell rfl | exact hS | exact hS.1 | exact hS.2 | exact hS.2.1 | exact hS.2.2 | exact hS.2.2.1 | exact hS.2.2.2 | exact hS.2.2.2.1 | exact hS.2.2.2.2) ?_
                refine x_move (.slice _ _ _) rfl ?_
                refine x_move (.int _ _) rfl ?_
                refine x_indexAddr Try.underlying28 sz_40 _ _ _ _ _ rfl rfl (by omega) ?_
                first | refine x_field0 fa_40_0 _ rfl ?_ | refine x_field fa_40_0 _ _ rfl ?_
                refine h_loadN [_, _] agg_38 _ rfl (fun w hS => by first | exact hS | exact hS.1 | exact hS.2 | exact hS.2.1 | exact hS.2.2 | exact hS.2.2.1 | exact hS.2.2.2 | exact hS.2.2.2.1 | exact hS.2.2.2.2 | exact hS.cellsOf | exact (hS.pull 1).cellsOf | exact (hS.pull 2).cellsOf | exact (hS.pull 3).cellsOf | exact (hS.pull 4).cellsOf | exact (hS.pull 5).cellsOf | exact (hS.pull 6).cellsOf | exact hS.cells2 rfl rfl | exact (hS.pull 1).cells2 rfl rfl | exact (hS.pull 2).cells2 rfl rfl | exact (hS.pull 3).cells2 rfl rfl | exact (hS.pull 4).cells2 rfl rfl | exact (hS.pull 5).cells2 rfl rfl | exact (hS.pull 6).cells2 rfl rfl) ?_
                refine x_call Try.f12 Try.func12 rfl rfl _ rfl ?_
                refine (at08_calls P (hs.pull 3) hr (by omega)).mono ?_
                clear hs; rintro e w ⟨rfl, hs⟩
                replace hs := hs.push 3
                try dsimp only [back] at hs
                refine ⟨_, rfl, fun h => (by first | (cases h; done) | (first | exact hs.cells2 rfl rfl | exact (hs.pull 1).cells2 rfl rfl | exact (hs.pull 2).cells2 rfl rfl | exact (hs.pull 3).cells2 rfl rfl | exact (hs.pull 4).cells2 rfl rfl | exact (hs.pull 5).cells2 rfl rfl | exact (hs.pull 6).cells2 rfl rfl | exact (hs.pull 7).cells2 rfl rfl | exact (hs.pull 8).cells2 rfl rfl | exact hs.cell rfl | exact (hs.pull 1).cell rfl | exact (hs.pull 2).cell rfl | exact (hs.pull 3).cell rfl | exact (hs.pull 4).cell rfl | exact (hs.pull 5).cell rfl | exact (hs.pull 6).cell rfl | exact (hs.pull 7).cell rfl | exact (hs.pull 8).cell rfl | assumption | exact hs.cellsOf | exact (hs.pull 1).cellsOf | exact (hs.pull 2).cellsOf | exact (hs.pull 3).cellsOf | exact (hs.pull 4).cellsOf | exact (hs.pull 5).cellsOf | exact (hs.pull 6).cellsOf | exact (hs.pull 7).cellsOf | exact (hs.pull 8).cellsOf) | (and_intros <;> first | exact hs.cells2 rfl rfl | exact (hs.pull 1).cells2 rfl rfl | exact (hs.pull 2).cells2 rfl rfl | exact (hs.pull 3).cells2 rfl rfl | exact (hs.pull 4).cells2 rfl rfl | exact (hs.pull 5).cells2 rfl rfl | exact (hs.pull 6).cells2 rfl rfl | exact (hs.pull 7).cells2 rfl rfl | exact (hs.pull 8).cells2 rfl rfl | exact hs.cell rfl | exact (hs.pull 1).cell rfl | exact (hs.pull 2).cell rfl | exact (hs.pull 3).cell rfl | exact (hs.pull 4).cell rfl | exact (hs.pull 5).cell rfl | exact (hs.pull 6).cell rfl | exact (hs.pull 7).cell rfl | exact (hs.pull 8).cell rfl | assumption | exact hs.cellsOf | exact (hs.pull 1).cellsOf | exact (hs.pull 2).cellsOf | exact (hs.pull 3).cellsOf | exact (hs.pull 4).cellsOf | exact (hs.pull 5).cellsOf | exact (hs.pull 6).cellsOf | exact (hs.pull 7).cellsOf | exact (hs.pull 8).cellsOf)), ?_⟩
                refine x_assign (.int _ _) rfl ?_
                refine x_nil ?_
                refine then_n ?_
                refine c_seq ?_
                refine c_seq ?_
                -- region 19
                have hco1 := hco (hs.pull 3)
                refine c_region ?_
                refine x_move (.slice _ _ _) rfl ?_
                refine x_move (.int _ _) rfl ?_
                refine x_indexAddr Try.underlying28 sz_40 _ _ _ _ _ rfl rfl (by omega) ?_
                first | refine x_field0 fa_40_1 _ rfl ?_ | refine x_field fa_40_1 _ _ rfl ?_
                refine x_load one_4 _ (.bool _) rfl (by first | exact hs.cell rfl | exact (hs.pull 1).cell rfl | exact (hs.pull 2).cell rfl | exact (hs.pull 3).cell rfl | assumption | exact (hs.pull 4).cell rfl | exact (hs.pull 5).cell rfl | exact (hs.pull 6).cell rfl | exact (hs.pull 7).cell rfl) ?_
                refine x_not _ rfl ?_
                refine x_move (.bool _) rfl ?_
                refine x_skip rfl rfl ?_
                refine x_skip rfl rfl ?_
                refine x_pickF (.bool _) rfl rfl ?_
                refine x_nil ?_
                refine then_n ?_
                refine c_false rfl ?_
                refine c_skip ?_
                refine then_n ?_
                refine c_seq ?_
                refine c_seq ?_
                -- region 21 DRAWS
                refine c_draw (fun w => w.cell? ⟨g, o + i * 5 + 2, none⟩ = some (.bool true) ∧ w.cell? ⟨g, o + i * 5 + 3, none⟩ = some (.int .i64 Leaf) ∧ w.cell? ⟨b3, 2, none⟩ = some (.slice (some ⟨gl, ol, none⟩) D.lvs.length D.cl)) (fun i => !(false)) [(0, 2), (1, 2), (2, 2), (3, 2), (4, 1), (5, 2), (6, 2), (7, 2), (8, 2), (9, 2), (10, 1), (11, 2), (12, 2), (13, 2), (14, 2), (15, 2), (16, 2), (17, 2), (18, 1), (19, 2), (20, 1), (21, 2), (22, 2), (23, 2)] (by kernel_rfl) (by kernel_rfl) (by kernel_rfl) (by kernel_rfl) (⟨hco (hs.drew.pull 3), hcl (hs.drew.pull 3), (hs.drew.pull 2).cell rfl⟩) ?_
                replace hs := hs.drew
                refine x_move (.slice _ _ _) rfl ?_
                refine x_move (.int _ _) rfl ?_
                refine x_indexAddr Try.underlying28 sz_40 _ _ _ _ _ rfl rfl (by omega) ?_
                first | refine x_field0 fa_40_1 _ rfl ?_ | refine x_field fa_40_1 _ _ rfl ?_
                refine h_load one_4 _ (.bool _) rfl (fun w hS => by first | exact hS.cell rfl | exact (hS.pull 1).cell rfl | exact (hS.pull 2).cell rfl | exact (hS.pull 3).cell rfl | exact (hS.pull 4).cell rfl | exact (hS.pull 5).cell rfl | exact (hS.pull 6).cell rfl | exact hS | exact hS.1 | exact hS.2 | exact hS.2.1 | exact hS.2.2 | exact hS.2.2.1 | exact hS.2.2.2 | exact hS.2.2.2.1 | exact hS.2.2.2.2) ?_
                refine x_move (.bool _) rfl ?_
                refine x_want' rfl ?_
                refine x_move (.slice _ _ _) rfl ?_
                refine x_want' rfl ?_
                refine x_move (.int _ _) rfl ?_
                refine x_want' rfl ?_
                refine x_indexAddr Try.underlying28 sz_40 _ _ _ _ _ rfl rfl (by omega) ?_
                refine x_want' rfl ?_
                first | refine x_field0 fa_40_2 _ rfl ?_ | refine x_field fa_40_2 _ _ rfl ?_
                refine x_want' rfl ?_
                refine h_load one_3 _ (.int _ _) rfl (fun w hS => by first | exact hS.cell rfl | exact (hS.pull 1).cell rfl | exact (hS.pull 2).cell rfl | exact (hS.pull 3).cell rfl | exact (hS.pull 4).cell rfl | exact (hS.pull 5).cell rfl | exact (hS.pull 6).cell rfl | exact hS | exact hS.1 | exact hS.2 | exact hS.2.1 | exact hS.2.2 | exact hS.2.2.1 | exact hS.2.2.2 | exact hS.2.2.2.1 | exact hS.2.2.2.2) ?_
                refine x_want' rfl ?_
                refine x_geqF _ _ rfl rfl (by omega) ?_
                refine x_pickT (.bool _) rfl rfl ?_
                refine x_move (.bool _) rfl ?_
                refine x_skip rfl rfl ?_
                refine x_skip rfl rfl ?_
                refine x_skip rfl rfl ?_
                refine x_skip rfl rfl ?_
                refine x_skip rfl rfl ?_
                refine x_skip rfl rfl ?_
                refine x_skip rfl rfl ?_
                refine x_skip rfl rfl ?_
                refine x_skip rfl rfl ?_
                refine x_pickF (.bool _) rfl rfl ?_
                refine x_nil ?_
                refine then_n ?_
                refine c_false rfl ?_
                refine c_skip ?_
                refine then_n ?_
                refine c_seq ?_
                refine c_seq ?_
                -- region 28
                refine c_region ?_
                refine x_move (.pointer _) rfl ?_
                refine x_call Try.f15 Try.func15 rfl rfl _ rfl ?_
                refine ((all_is hs rfl)).mono ?_
                clear hs; rintro e w ⟨rfl, hs⟩
                refine ⟨_, rfl, fun h => (by first | (cases h; done) | (first | exact hs.cells2 rfl rfl | exact (hs.pull 1).cells2 rfl rfl | exact (hs.pull 2).cells2 rfl rfl | exact (hs.pull 3).cells2 rfl rfl | exact (hs.pull 4).cells2 rfl rfl | exact (hs.pull 5).cells2 rfl rfl | exact (hs.pull 6).cells2 rfl rfl | exact (hs.pull 7).cells2 rfl rfl | exact (hs.pull 8).cells2 rfl rfl | exact hs.cell rfl | exact (hs.pull 1).cell rfl | exact (hs.pull 2).cell rfl | exact (hs.pull 3).cell rfl | exact (hs.pull 4).cell rfl | exact (hs.pull 5).cell rfl | exact (hs.pull 6).cell rfl | exact (hs.pull 7).cell rfl | exact (hs.pull 8).cell rfl | assumption | exact hs.cellsOf | exact (hs.pull 1).cellsOf | exact (hs.pull 2).cellsOf | exact (hs.pull 3).cellsOf | exact (hs.pull 4).cellsOf | exact (hs.pull 5).cellsOf | exact (hs.pull 6).cellsOf | exact (hs.pull 7).cellsOf | exact (hs.pull 8).cellsOf) | (and_intros <;> first | exact hs.cells2 rfl rfl | exact (hs.pull 1).cells2 rfl rfl | exact (hs.pull 2).cells2 rfl rfl | exact (hs.pull 3).cells2 rfl rfl | exact (hs.pull 4).cells2 rfl rfl | exact (hs.pull 5).cells2 rfl rfl | exact (hs.pull 6).cells2 rfl rfl | exact (hs.pull 7).cells2 rfl rfl | exact (hs.pull 8).cells2 rfl rfl | exact hs.cell rfl | exact (hs.pull 1).cell rfl | exact (hs.pull 2).cell rfl | exact (hs.pull 3).cell rfl | exact (hs.pull 4).cell rfl | exact (hs.pull 5).cell rfl | exact (hs.pull 6).cell rfl | exact (hs.pull 7).cell rfl | exact (hs.pull 8).cell rfl | assumption | exact hs.cellsOf | exact (hs.pull 1).cellsOf | exact (hs.pull 2).cellsOf | exact (hs.pull 3).cellsOf | exact (hs.pull 4).cellsOf | exact (hs.pull 5).cellsOf | exact (hs.pull 6).cellsOf | exact (hs.pull 7).cellsOf | exact (hs.pull 8).cellsOf)), ?_⟩
                refine x_move (.int _ _) rfl ?_
                refine x_gtrF _ _ rfl rfl (by omega) ?_
                refine x_move (.bool _) rfl ?_
                refine x_want' rfl ?_
                refine x_move (.pointer _) rfl ?_
                refine x_want' rfl ?_
                refine x_call Try.f15 Try.func15 rfl rfl _ rfl ?_
                refine ((all_is hs rfl)).mono ?_
                clear hs; rintro e w ⟨rfl, hs⟩
                refine ⟨_, rfl, fun h => (by first | (cases h; done) | (first | exact hs.cells2 rfl rfl | exact (hs.pull 1).cells2 rfl rfl | exact (hs.pull 2).cells2 rfl rfl | exact (hs.pull 3).cells2 rfl rfl | exact (hs.pull 4).cells2 rfl rfl | exact (hs.pull 5).cells2 rfl rfl | exact (hs.pull 6).cells2 rfl rfl | exact (hs.pull 7).cells2 rfl rfl | exact (hs.pull 8).cells2 rfl rfl | exact hs.cell rfl | exact (hs.pull 1).cell rfl | exact (hs.pull 2).cell rfl | exact (hs.pull 3).cell rfl | exact (hs.pull 4).cell rfl | exact (hs.pull 5).cell rfl | exact (hs.pull 6).cell rfl | exact (hs.pull 7).cell rfl | exact (hs.pull 8).cell rfl | assumption | exact hs.cellsOf | exact (hs.pull 1).cellsOf | exact (hs.pull 2).cellsOf | exact (hs.pull 3).cellsOf | exact (hs.pull 4).cellsOf | exact (hs.pull 5).cellsOf | exact (hs.pull 6).cellsOf | exact (hs.pull 7).cellsOf | exact (hs.pull 8).cellsOf) | (and_intros <;> first | exact hs.cells2 rfl rfl | exact (hs.pull 1).cells2 rfl rfl | exact (hs.pull 2).cells2 rfl rfl | exact (hs.pull 3).cells2 rfl rfl | exact (hs.pull 4).cells2 rfl rfl | exact (hs.pull 5).cells2 rfl rfl | exact (hs.pull 6).cells2 rfl rfl | exact (hs.pull 7).cells2 rfl rfl | exact (hs.pull 8).cells2 rfl rfl | exact hs.cell rfl | exact (hs.pull 1).cell rfl | exact (hs.pull 2).cell rfl | exact (hs.pull 3).cell rfl | exact (hs.pull 4).cell rfl | exact (hs.pull 5).cell rfl | exact (hs.pull 6).cell rfl | exact (hs.pull 7).cell rfl | exact (hs.pull 8).cell rfl | assumption | exact hs.cellsOf | exact (hs.pull 1).cellsOf | exact (hs.pull 2).cellsOf | exact (hs.pull 3).cellsOf | exact (hs.pull 4).cellsOf | exact (hs.pull 5).cellsOf | exact (hs.pull 6).cellsOf | exact (hs.pull 7).cellsOf | exact (hs.pull 8).cellsOf)), ?_⟩
                refine x_want' rfl ?_
                refine x_move (.int _ _) rfl ?_
                refine x_want' rfl ?_
                refine x_lssF _ _ rfl rfl (by omega) ?_
                refine x_pickF (.bool _) rfl rfl ?_
                refine x_nil ?_
                refine then_n ?_
                refine c_false rfl ?_
                refine c_skip ?_
                refine then_n ?_
                -- region 30
                refine c_region ?_
                refine x_move (.pointer _) rfl ?_
                refine x_call Try.f15 Try.func15 rfl rfl _ rfl ?_
                refine ((all_is hs rfl)).mono ?_
                clear hs; rintro e w ⟨rfl, hs⟩
                refine ⟨_, rfl, fun h => (by first | (cases h; done) | (first | exact hs.cells2 rfl rfl | exact (hs.pull 1).cells2 rfl rfl | exact (hs.pull 2).cells2 rfl rfl | exact (hs.pull 3).cells2 rfl rfl | exact (hs.pull 4).cells2 rfl rfl | exact (hs.pull 5).cells2 rfl rfl | exact (hs.pull 6).cells2 rfl rfl | exact (hs.pull 7).cells2 rfl rfl | exact (hs.pull 8).cells2 rfl rfl | exact hs.cell rfl | exact (hs.pull 1).cell rfl | exact (hs.pull 2).cell rfl | exact (hs.pull 3).cell rfl | exact (hs.pull 4).cell rfl | exact (hs.pull 5).cell rfl | exact (hs.pull 6).cell rfl | exact (hs.pull 7).cell rfl | exact (hs.pull 8).cell rfl | assumption | exact hs.cellsOf | exact (hs.pull 1).cellsOf | exact (hs.pull 2).cellsOf | exact (hs.pull 3).cellsOf | exact (hs.pull 4).cellsOf | exact (hs.pull 5).cellsOf | exact (hs.pull 6).cellsOf | exact (hs.pull 7).cellsOf | exact (hs.pull 8).cellsOf) | (and_intros <;> first | exact hs.cells2 rfl rfl | exact (hs.pull 1).cells2 rfl rfl | exact (hs.pull 2).cells2 rfl rfl | exact (hs.pull 3).cells2 rfl rfl | exact (hs.pull 4).cells2 rfl rfl | exact (hs.pull 5).cells2 rfl rfl | exact (hs.pull 6).cells2 rfl rfl | exact (hs.pull 7).cells2 rfl rfl | exact (hs.pull 8).cells2 rfl rfl | exact hs.cell rfl | exact (hs.pull 1).cell rfl | exact (hs.pull 2).cell rfl | exact (hs.pull 3).cell rfl | exact (hs.pull 4).cell rfl | exact (hs.pull 5).cell rfl | exact (hs.pull 6).cell rfl | exact (hs.pull 7).cell rfl | exact (hs.pull 8).cell rfl | assumption | exact hs.cellsOf | exact (hs.pull 1).cellsOf | exact (hs.pull 2).cellsOf | exact (hs.pull 3).cellsOf | exact (hs.pull 4).cellsOf | exact (hs.pull 5).cellsOf | exact (hs.pull 6).cellsOf | exact (hs.pull 7).cellsOf | exact (hs.pull 8).cellsOf)), ?_⟩
                refine x_assign (.int _ _) rfl ?_
                refine x_nil ?_
                refine inb_n ?_
                refine then_n ?_
                -- region 17
                refine c_region ?_
                refine x_move (.int _ _) rfl ?_
                refine x_add _ _ rfl rfl (by simp only [X.lo]; omega) (by simp only [X.hi]; omega) ?_
                refine x_assign (.int _ _) rfl ?_
                refine x_nil ?_
                refine then_n ?_
                refine ⟨(i + 1, _, _), ⟨rfl, rfl, rfl, rfl, rfl, rfl, rfl, trivial⟩, ⟨by omega, by assumption, rfl, hs⟩, by first | omega | (dsimp only; omega)⟩
              · skip
                refine c_true rfl ?_
                refine c_skip ?_
                refine then_n ?_
                refine c_seq ?_
                refine c_block ?_
                refine c_seq ?_
                -- region 18 DRAWS
                refine c_draw (fun w => (∀ (j : Nat) (u : Value), [Value.int .u16 (P.Id : Nat), Value.int .u32 (P.Inc : Nat)][j]? = some u → w.cell? ((⟨g, o + i * 5, none⟩ : Addr).add j) = some u) ∧ w.cell? ⟨b3, 1, none⟩ = some (.slice (some ⟨gm, om, none⟩) D.mem.length D.cm)) (fun i => !(Nat.beq i 7)) [(0, 2), (1, 1), (2, 2), (3, 2), (4, 2), (5, 2), (6, 1), (7, 0), (8, 2)] (by kernel_rfl) (by kernel_rfl) (by kernel_rfl) (by kernel_rfl) (⟨hcp (hs.drew.pull 3), (hs.drew.pull 2).cell rfl⟩) ?_
                replace hs := hs.drew
                first | refine x_field0 fa_26_1 _ rfl ?_ | refine x_field fa_26_1 _ _ rfl ?_
                refine h_load one_23 _ (.slice _ _ _) rfl (fun w hS => by first | exact hS.cell rfl | exact (hS.pull 1).cell rfl | exact (hS.pull 2).cell rfl | exact (hS.pull 3).cell rfl | exact (hS.pull 4).cell rfl | exact (hS.pull 5).cell rfl | exact (hS.pull 6).cell rfl | exact hS | exact hS.1 | exact hS.2 | exact hS.2.1 | exact hS.2.2 | exact hS.2.2.1 | exact hS.2.2.2 | exact hS.2.2.2.1 | exact hS.2.2.2.2) ?_
                refine x_move (.slice _ _ _) rfl ?_
                refine x_move (.int _ _) rfl ?_
                refine x_indexAddr Try.underlying28 sz_40 _ _ _ _ _ rfl rfl (by omega) ?_
                first | refine x_field0 fa_40_0 _ rfl ?_ | refine x_field fa_40_0 _ _ rfl ?_
                refine h_loadN [_, _] agg_38 _ rfl (fun w hS => by first | exact hS | exact hS.1 | exact hS.2 | exact hS.2.1 | exact hS.2.2 | exact hS.2.2.1 | exact hS.2.2.2 | exact hS.2.2.2.1 | exact hS.2.2.2.2 | exact hS.cellsOf | exact (hS.pull 1).cellsOf | exact (hS.pull 2).cellsOf | exact (hS.pull 3).cellsOf | exact (hS.pull 4).cellsOf | exact (hS.pull 5).cellsOf | exact (hS.pull 6).cellsOf | exact hS.cells2 rfl rfl | exact (hS.pull 1).cells2 rfl rfl | exact (hS.pull 2).cells2 rfl rfl | exact (hS.pull 3).cells2 rfl rfl | exact (hS.pull 4).cells2 rfl rfl | exact (hS.pull 5).cells2 rfl rfl | exact (hS.pull 6).cells2 rfl rfl) ?_
                refine x_call Try.f12 Try.func12 rfl rfl _ rfl ?_
                refine (at08_calls P (hs.pull 3) hr (by omega)).mono ?_
                clear hs; rintro e w ⟨rfl, hs⟩
                replace hs := hs.push 3
                try dsimp only [back] at hs
                refine ⟨_, rfl, fun h => (by first | (cases h; done) | (first | exact hs.cells2 rfl rfl | exact (hs.pull 1).cells2 rfl rfl | exact (hs.pull 2).cells2 rfl rfl | exact (hs.pull 3).cells2 rfl rfl | exact (hs.pull 4).cells2 rfl rfl | exact (hs.pull 5).cells2 rfl rfl | exact (hs.pull 6).cells2 rfl rfl | exact (hs.pull 7).cells2 rfl rfl | exact (hs.pull 8).cells2 rfl rfl | exact hs.cell rfl | exact (hs.pull 1).cell rfl | exact (hs.pull 2).cell rfl | exact (hs.pull 3).cell rfl | exact (hs.pull 4).cell rfl | exact (hs.pull 5).cell rfl | exact (hs.pull 6).cell rfl | exact (hs.pull 7).cell rfl | exact (hs.pull 8).cell rfl | assumption | exact hs.cellsOf | exact (hs.pull 1).cellsOf | exact (hs.pull 2).cellsOf | exact (hs.pull 3).cellsOf | exact (hs.pull 4).cellsOf | exact (hs.pull 5).cellsOf | exact (hs.pull 6).cellsOf | exact (hs.pull 7).cellsOf | exact (hs.pull 8).cellsOf) | (and_intros <;> first | exact hs.cells2 rfl rfl | exact (hs.pull 1).cells2 rfl rfl | exact (hs.pull 2).cells2 rfl rfl | exact (hs.pull 3).cells2 rfl rfl | exact (hs.pull 4).cells2 rfl rfl | exact (hs.pull 5).cells2 rfl rfl | exact (hs.pull 6).cells2 rfl rfl | exact (hs.pull 7).cells2 rfl rfl | exact (hs.pull 8).cells2 rfl rfl | exact hs.cell rfl | exact (hs.pull 1).cell rfl | exact (hs.pull 2).cell rfl | exact (hs.pull 3).cell rfl | exact (hs.pull 4).cell rfl | exact (hs.pull 5).cell rfl | exact (hs.pull 6).cell rfl | exact (hs.pull 7).cell rfl | exact (hs.pull 8).cell rfl | assumption | exact hs.cellsOf | exact (hs.pull 1).cellsOf | exact (hs.pull 2).cellsOf | exact (hs.pull 3).cellsOf | exact (hs.pull 4).cellsOf | exact (hs.pull 5).cellsOf | exact (hs.pull 6).cellsOf | exact (hs.pull 7).cellsOf | exact (hs.pull 8).cellsOf)), ?_⟩
                rw [show pix D.mem P = ((D.mem.idxOf P : Nat) : Int) from by unfold pix; rw [if_pos hp]]
                have hlt := pix_lt hp
                refine x_assign (.int _ _) rfl ?_
                refine x_nil ?_
                refine then_n ?_
                refine c_seq ?_
                refine c_seq ?_
                -- region 19
                have hco1 := hco (hs.pull 3)
                refine c_region ?_
                refine x_move (.slice _ _ _) rfl ?_
                refine x_move (.int _ _) rfl ?_
                refine x_indexAddr Try.underlying28 sz_40 _ _ _ _ _ rfl rfl (by omega) ?_
                first | refine x_field0 fa_40_1 _ rfl ?_ | refine x_field fa_40_1 _ _ rfl ?_
                refine x_load one_4 _ (.bool _) rfl (by first | exact hs.cell rfl | exact (hs.pull 1).cell rfl | exact (hs.pull 2).cell rfl | exact (hs.pull 3).cell rfl | assumption | exact (hs.pull 4).cell rfl | exact (hs.pull 5).cell rfl | exact (hs.pull 6).cell rfl | exact (hs.pull 7).cell rfl) ?_
                refine x_not _ rfl ?_
                refine x_move (.bool _) rfl ?_
                refine x_want' rfl ?_
                refine x_move (.int _ _) rfl ?_
                refine x_want' rfl ?_
                refine x_geqT _ _ rfl rfl (by omega) ?_
                refine x_pickT (.bool _) rfl rfl ?_
                refine x_nil ?_
                refine then_n ?_
                refine c_true rfl ?_
                -- region 20 DRAWS
                refine c_draw (fun w => (∀ (j : Nat) (u : Value), [Value.int .u16 (P.Id : Nat), Value.int .u32 (P.Inc : Nat)][j]? = some u → w.cell? ((⟨g, o + i * 5, none⟩ : Addr).add j) = some u) ∧ w.cell? ⟨g, o + i * 5 + 4, none⟩ = some (.int .u64 (N : Nat)) ∧ w.cell? ⟨bw, 0 + D.mem.idxOf P * 1, none⟩ = some (.int .u64 (W.getD (D.mem.idxOf P) 0 : Nat))) (fun i => !(Nat.beq i 16)) [(0, 2), (1, 2), (2, 2), (3, 2), (4, 2), (5, 1), (6, 2), (7, 2), (8, 2), (9, 2), (10, 1), (11, 2), (12, 2), (13, 2), (14, 1), (15, 2), (16, 0)] (by kernel_rfl) (by kernel_rfl) (by kernel_rfl) (by kernel_rfl) (⟨hcp (hs.drew.pull 3), hcn (hs.drew.pull 3), hrow (hs.drew.pull 1) P hp⟩) ?_
                replace hs := hs.drew
                refine x_move (.pointer _) rfl ?_
                refine x_move (.slice _ _ _) rfl ?_
                refine x_move (.int _ _) rfl ?_
                refine x_indexAddr Try.underlying28 sz_40 _ _ _ _ _ rfl rfl (by omega) ?_
                first | refine x_field0 fa_40_0 _ rfl ?_ | refine x_field fa_40_0 _ _ rfl ?_
                refine h_loadN [_, _] agg_38 _ rfl (fun w hS => by first | exact hS | exact hS.1 | exact hS.2 | exact hS.2.1 | exact hS.2.2 | exact hS.2.2.1 | exact hS.2.2.2 | exact hS.2.2.2.1 | exact hS.2.2.2.2 | exact hS.cellsOf | exact (hS.pull 1).cellsOf | exact (hS.pull 2).cellsOf | exact (hS.pull 3).cellsOf | exact (hS.pull 4).cellsOf | exact (hS.pull 5).cellsOf | exact (hS.pull 6).cellsOf | exact hS.cells2 rfl rfl | exact (hS.pull 1).cells2 rfl rfl | exact (hS.pull 2).cells2 rfl rfl | exact (hS.pull 3).cells2 rfl rfl | exact (hS.pull 4).cells2 rfl rfl | exact (hS.pull 5).cells2 rfl rfl | exact (hS.pull 6).cells2 rfl rfl) ?_
                refine x_move (.slice _ _ _) rfl ?_
                refine x_move (.int _ _) rfl ?_
                refine x_indexAddr Try.underlying28 sz_40 _ _ _ _ _ rfl rfl (by omega) ?_
                first | refine x_field0 fa_40_3 _ rfl ?_ | refine x_field fa_40_3 _ _ rfl ?_
                refine h_load one_22 _ (.int _ _) rfl (fun w hS => by first | exact hS.cell rfl | exact (hS.pull 1).cell rfl | exact (hS.pull 2).cell rfl | exact (hS.pull 3).cell rfl | exact (hS.pull 4).cell rfl | exact (hS.pull 5).cell rfl | exact (hS.pull 6).cell rfl | exact hS | exact hS.1 | exact hS.2 | exact hS.2.1 | exact hS.2.2 | exact hS.2.2.1 | exact hS.2.2.2 | exact hS.2.2.2.1 | exact hS.2.2.2.2) ?_
                refine x_move (.slice _ _ _) rfl ?_
                refine x_move (.int _ _) rfl ?_
                refine x_indexAddr Try.underlying31 sz_22 _ _ _ _ _ rfl rfl (by omega) ?_
                refine h_load one_22 _ (.int _ _) rfl (fun w hS => by first | exact hS.cell rfl | exact (hS.pull 1).cell rfl | exact (hS.pull 2).cell rfl | exact (hS.pull 3).cell rfl | exact (hS.pull 4).cell rfl | exact (hS.pull 5).cell rfl | exact (hS.pull 6).cell rfl | exact hS | exact hS.1 | exact hS.2 | exact hS.2.1 | exact hS.2.2 | exact hS.2.2.1 | exact hS.2.2.2 | exact hS.2.2.2.1 | exact hS.2.2.2.2) ?_
                refine x_min _ _ ((min N (W.getD (D.mem.idxOf P) 0) : Nat) : Int) rfl rfl (by split <;> omega) ?_
                refine x_call Try.f13 Try.func13 rfl rfl _ rfl ?_
                refine ((srep_ex P _ hs)).mono ?_
                clear hs; rintro e w ⟨r, rfl, hs⟩
                refine ⟨_, rfl, fun h => (by first | (cases h; done) | (first | exact hs.cells2 rfl rfl | exact (hs.pull 1).cells2 rfl rfl | exact (hs.pull 2).cells2 rfl rfl | exact (hs.pull 3).cells2 rfl rfl | exact (hs.pull 4).cells2 rfl rfl | exact (hs.pull 5).cells2 rfl rfl | exact (hs.pull 6).cells2 rfl rfl | exact (hs.pull 7).cells2 rfl rfl | exact (hs.pull 8).cells2 rfl rfl | exact hs.cell rfl | exact (hs.pull 1).cell rfl | exact (hs.pull 2).cell rfl | exact (hs.pull 3).cell rfl | exact (hs.pull 4).cell rfl | exact (hs.pull 5).cell rfl | exact (hs.pull 6).cell rfl | exact (hs.pull 7).cell rfl | exact (hs.pull 8).cell rfl | assumption | exact hs.cellsOf | exact (hs.pull 1).cellsOf | exact (hs.pull 2).cellsOf | exact (hs.pull 3).cellsOf | exact (hs.pull 4).cellsOf | exact (hs.pull 5).cellsOf | exact (hs.pull 6).cellsOf | exact (hs.pull 7).cellsOf | exact (hs.pull 8).cellsOf) | (and_intros <;> first | exact hs.cells2 rfl rfl | exact (hs.pull 1).cells2 rfl rfl | exact (hs.pull 2).cells2 rfl rfl | exact (hs.pull 3).cells2 rfl rfl | exact (hs.pull 4).cells2 rfl rfl | exact (hs.pull 5).cells2 rfl rfl | exact (hs.pull 6).cells2 rfl rfl | exact (hs.pull 7).cells2 rfl rfl | exact (hs.pull 8).cells2 rfl rfl | exact hs.cell rfl | exact (hs.pull 1).cell rfl | exact (hs.pull 2).cell rfl | exact (hs.pull 3).cell rfl | exact (hs.pull 4).cell rfl | exact (hs.pull 5).cell rfl | exact (hs.pull 6).cell rfl | exact (hs.pull 7).cell rfl | exact (hs.pull 8).cell rfl | assumption | exact hs.cellsOf | exact (hs.pull 1).cellsOf | exact (hs.pull 2).cellsOf | exact (hs.pull 3).cellsOf | exact (hs.pull 4).cellsOf | exact (hs.pull 5).cellsOf | exact (hs.pull 6).cellsOf | exact (hs.pull 7).cellsOf | exact (hs.pull 8).cellsOf)), ?_⟩
                obtain ⟨hinv2, hmo⟩ := hinv.rep hV (p := P) (n := min N (W.getD (D.mem.idxOf P) 0)) (by omega)
                have hle2 := hleast hinv2
                refine x_nil ?_
                refine then_n ?_
                refine c_seq ?_
                refine c_seq ?_
                -- region 21 DRAWS
                refine c_draw (fun w => w.cell? ⟨g, o + i * 5 + 2, none⟩ = some (.bool false)) (fun i => !(false)) [(0, 2), (1, 2), (2, 2), (3, 2), (4, 1), (5, 2), (6, 2), (7, 2), (8, 2), (9, 2), (10, 1), (11, 2), (12, 2), (13, 2), (14, 2), (15, 2), (16, 2), (17, 2), (18, 1), (19, 2), (20, 1), (21, 2), (22, 2), (23, 2)] (by kernel_rfl) (by kernel_rfl) (by kernel_rfl) (by kernel_rfl) (hco (hs.drew.pull 3)) ?_
                replace hs := hs.drew
                refine x_move (.slice _ _ _) rfl ?_
                refine x_move (.int _ _) rfl ?_
                refine x_indexAddr Try.underlying28 sz_40 _ _ _ _ _ rfl rfl (by omega) ?_
                first | refine x_field0 fa_40_1 _ rfl ?_ | refine x_field fa_40_1 _ _ rfl ?_
                refine h_load one_4 _ (.bool _) rfl (fun w hS => by first | exact hS.cell rfl | exact (hS.pull 1).cell rfl | exact (hS.pull 2).cell rfl | exact (hS.pull 3).cell rfl | exact (hS.pull 4).cell rfl | exact (hS.pull 5).cell rfl | exact (hS.pull 6).cell rfl | exact hS | exact hS.1 | exact hS.2 | exact hS.2.1 | exact hS.2.2 | exact hS.2.2.1 | exact hS.2.2.2 | exact hS.2.2.2.1 | exact hS.2.2.2.2) ?_
                refine x_move (.bool _) rfl ?_
                refine x_skip rfl rfl ?_
                refine x_skip rfl rfl ?_
                refine x_skip rfl rfl ?_
                refine x_skip rfl rfl ?_
                refine x_skip rfl rfl ?_
                refine x_skip rfl rfl ?_
                refine x_pickF (.bool _) rfl rfl ?_
                refine x_move (.bool _) rfl ?_
                refine x_skip rfl rfl ?_
                refine x_skip rfl rfl ?_
                refine x_skip rfl rfl ?_
                refine x_skip rfl rfl ?_
                refine x_skip rfl rfl ?_
                refine x_skip rfl rfl ?_
                refine x_skip rfl rfl ?_
                refine x_skip rfl rfl ?_
                refine x_skip rfl rfl ?_
                refine x_pickF (.bool _) rfl rfl ?_
                refine x_nil ?_
                refine then_n ?_
                refine c_false rfl ?_
                refine c_skip ?_
                refine then_n ?_
                refine c_seq ?_
                refine c_seq ?_
                -- region 28
                refine c_region ?_
                refine x_move (.pointer _) rfl ?_
                refine x_call Try.f15 Try.func15 rfl rfl _ rfl ?_
                refine ((all_is hs rfl)).mono ?_
                clear hs; rintro e w ⟨rfl, hs⟩
                refine ⟨_, rfl, fun h => (by first | (cases h; done) | (first | exact hs.cells2 rfl rfl | exact (hs.pull 1).cells2 rfl rfl | exact (hs.pull 2).cells2 rfl rfl | exact (hs.pull 3).cells2 rfl rfl | exact (hs.pull 4).cells2 rfl rfl | exact (hs.pull 5).cells2 rfl rfl | exact (hs.pull 6).cells2 rfl rfl | exact (hs.pull 7).cells2 rfl rfl | exact (hs.pull 8).cells2 rfl rfl | exact hs.cell rfl | exact (hs.pull 1).cell rfl | exact (hs.pull 2).cell rfl | exact (hs.pull 3).cell rfl | exact (hs.pull 4).cell rfl | exact (hs.pull 5).cell rfl | exact (hs.pull 6).cell rfl | exact (hs.pull 7).cell rfl | exact (hs.pull 8).cell rfl | assumption | exact hs.cellsOf | exact (hs.pull 1).cellsOf | exact (hs.pull 2).cellsOf | exact (hs.pull 3).cellsOf | exact (hs.pull 4).cellsOf | exact (hs.pull 5).cellsOf | exact (hs.pull 6).cellsOf | exact (hs.pull 7).cellsOf | exact (hs.pull 8).cellsOf) | (and_intros <;> first | exact hs.cells2 rfl rfl | exact (hs.pull 1).cells2 rfl rfl | exact (hs.pull 2).cells2 rfl rfl | exact (hs.pull 3).cells2 rfl rfl | exact (hs.pull 4).cells2 rfl rfl | exact (hs.pull 5).cells2 rfl rfl | exact (hs.pull 6).cells2 rfl rfl | exact (hs.pull 7).cells2 rfl rfl | exact (hs.pull 8).cells2 rfl rfl | exact hs.cell rfl | exact (hs.pull 1).cell rfl | exact (hs.pull 2).cell rfl | exact (hs.pull 3).cell rfl | exact (hs.pull 4).cell rfl | exact (hs.pull 5).cell rfl | exact (hs.pull 6).cell rfl | exact (hs.pull 7).cell rfl | exact (hs.pull 8).cell rfl | assumption | exact hs.cellsOf | exact (hs.pull 1).cellsOf | exact (hs.pull 2).cellsOf | exact (hs.pull 3).cellsOf | exact (hs.pull 4).cellsOf | exact (hs.pull 5).cellsOf | exact (hs.pull 6).cellsOf | exact (hs.pull 7).cellsOf | exact (hs.pull 8).cellsOf)), ?_⟩
                refine x_move (.int _ _) rfl ?_
                refine x_gtrF _ _ rfl rfl (by omega) ?_
                refine x_move (.bool _) rfl ?_
                refine x_want' rfl ?_
                refine x_move (.pointer _) rfl ?_
                refine x_want' rfl ?_
                refine x_call Try.f15 Try.func15 rfl rfl _ rfl ?_
                refine ((all_is hs rfl)).mono ?_
                clear hs; rintro e w ⟨rfl, hs⟩
                refine ⟨_, rfl, fun h => (by first | (cases h; done) | (first | exact hs.cells2 rfl rfl | exact (hs.pull 1).cells2 rfl rfl | exact (hs.pull 2).cells2 rfl rfl | exact (hs.pull 3).cells2 rfl rfl | exact (hs.pull 4).cells2 rfl rfl | exact (hs.pull 5).cells2 rfl rfl | exact (hs.pull 6).cells2 rfl rfl | exact (hs.pull 7).cells2 rfl rfl | exact (hs.pull 8).cells2 rfl rfl | exact hs.cell rfl | exact (hs.pull 1).cell rfl | exact (hs.pull 2).cell rfl | exact (hs.pull 3).cell rfl | exact (hs.pull 4).cell rfl | exact (hs.pull 5).cell rfl | exact (hs.pull 6).cell rfl | exact (hs.pull 7).cell rfl | exact (hs.pull 8).cell rfl | assumption | exact hs.cellsOf | exact (hs.pull 1).cellsOf | exact (hs.pull 2).cellsOf | exact (hs.pull 3).cellsOf | exact (hs.pull 4).cellsOf | exact (hs.pull 5).cellsOf | exact (hs.pull 6).cellsOf | exact (hs.pull 7).cellsOf | exact (hs.pull 8).cellsOf) | (and_intros <;> first | exact hs.cells2 rfl rfl | exact (hs.pull 1).cells2 rfl rfl | exact (hs.pull 2).cells2 rfl rfl | exact (hs.pull 3).cells2 rfl rfl | exact (hs.pull 4).cells2 rfl rfl | exact (hs.pull 5).cells2 rfl rfl | exact (hs.pull 6).cells2 rfl rfl | exact (hs.pull 7).cells2 rfl rfl | exact (hs.pull 8).cells2 rfl rfl | exact hs.cell rfl | exact (hs.pull 1).cell rfl | exact (hs.pull 2).cell rfl | exact (hs.pull 3).cell rfl | exact (hs.pull 4).cell rfl | exact (hs.pull 5).cell rfl | exact (hs.pull 6).cell rfl | exact (hs.pull 7).cell rfl | exact (hs.pull 8).cell rfl | assumption | exact hs.cellsOf | exact (hs.pull 1).cellsOf | exact (hs.pull 2).cellsOf | exact (hs.pull 3).cellsOf | exact (hs.pull 4).cellsOf | exact (hs.pull 5).cellsOf | exact (hs.pull 6).cellsOf | exact (hs.pull 7).cellsOf | exact (hs.pull 8).cellsOf)), ?_⟩
                refine x_want' rfl ?_
                refine x_move (.int _ _) rfl ?_
                refine x_want' rfl ?_
                refine x_lssF _ _ rfl rfl (by omega) ?_
                refine x_pickF (.bool _) rfl rfl ?_
                refine x_nil ?_
                refine then_n ?_
                refine c_false rfl ?_
                refine c_skip ?_
                refine then_n ?_
                -- region 30
                refine c_region ?_
                refine x_move (.pointer _) rfl ?_
                refine x_call Try.f15 Try.func15 rfl rfl _ rfl ?_
                refine ((all_is hs rfl)).mono ?_
                clear hs; rintro e w ⟨rfl, hs⟩
                refine ⟨_, rfl, fun h => (by first | (cases h; done) | (first | exact hs.cells2 rfl rfl | exact (hs.pull 1).cells2 rfl rfl | exact (hs.pull 2).cells2 rfl rfl | exact (hs.pull 3).cells2 rfl rfl | exact (hs.pull 4).cells2 rfl rfl | exact (hs.pull 5).cells2 rfl rfl | exact (hs.pull 6).cells2 rfl rfl | exact (hs.pull 7).cells2 rfl rfl | exact (hs.pull 8).cells2 rfl rfl | exact hs.cell rfl | exact (hs.pull 1).cell rfl | exact (hs.pull 2).cell rfl | exact (hs.pull 3).cell rfl | exact (hs.pull 4).cell rfl | exact (hs.pull 5).cell rfl | exact (hs.pull 6).cell rfl | exact (hs.pull 7).cell rfl | exact (hs.pull 8).cell rfl | assumption | exact hs.cellsOf | exact (hs.pull 1).cellsOf | exact (hs.pull 2).cellsOf | exact (hs.pull 3).cellsOf | exact (hs.pull 4).cellsOf | exact (hs.pull 5).cellsOf | exact (hs.pull 6).cellsOf | exact (hs.pull 7).cellsOf | exact (hs.pull 8).cellsOf) | (and_intros <;> first | exact hs.cells2 rfl rfl | exact (hs.pull 1).cells2 rfl rfl | exact (hs.pull 2).cells2 rfl rfl | exact (hs.pull 3).cells2 rfl rfl | exact (hs.pull 4).cells2 rfl rfl | exact (hs.pull 5).cells2 rfl rfl | exact (hs.pull 6).cells2 rfl rfl | exact (hs.pull 7).cells2 rfl rfl | exact (hs.pull 8).cells2 rfl rfl | exact hs.cell rfl | exact (hs.pull 1).cell rfl | exact (hs.pull 2).cell rfl | exact (hs.pull 3).cell rfl | exact (hs.pull 4).cell rfl | exact (hs.pull 5).cell rfl | exact (hs.pull 6).cell rfl | exact (hs.pull 7).cell rfl | exact (hs.pull 8).cell rfl | assumption | exact hs.cellsOf | exact (hs.pull 1).cellsOf | exact (hs.pull 2).cellsOf | exact (hs.pull 3).cellsOf | exact (hs.pull 4).cellsOf | exact (hs.pull 5).cellsOf | exact (hs.pull 6).cellsOf | exact (hs.pull 7).cellsOf | exact (hs.pull 8).cellsOf)), ?_⟩
                refine x_assign (.int _ _) rfl ?_
                refine x_nil ?_
                refine inb_n ?_
                refine then_n ?_
                -- region 17
                refine c_region ?_
                refine x_move (.int _ _) rfl ?_
                refine x_add _ _ rfl rfl (by simp only [X.lo]; omega) (by simp only [X.hi]; omega) ?_
                refine x_assign (.int _ _) rfl ?_
                refine x_nil ?_
                refine then_n ?_
                refine ⟨(i + 1, _, _), ⟨rfl, rfl, rfl, rfl, rfl, rfl, rfl, trivial⟩, ⟨by omega, by assumption, rfl, hs⟩, by first | omega | (dsimp only; omega)⟩
              · skip
                refine c_true rfl ?_
                refine c_skip ?_
                refine then_n ?_
                refine c_seq ?_
                refine c_block ?_
                refine c_seq ?_
                -- region 18 DRAWS
                refine c_draw (fun w => (∀ (j : Nat) (u : Value), [Value.int .u16 (P.Id : Nat), Value.int .u32 (P.Inc : Nat)][j]? = some u → w.cell? ((⟨g, o + i * 5, none⟩ : Addr).add j) = some u) ∧ w.cell? ⟨b3, 1, none⟩ = some (.slice (some ⟨gm, om, none⟩) D.mem.length D.cm)) (fun i => !(Nat.beq i 7)) [(0, 2), (1, 1), (2, 2), (3, 2), (4, 2), (5, 2), (6, 1), (7, 0), (8, 2)] (by kernel_rfl) (by kernel_rfl) (by kernel_rfl) (by kernel_rfl) (⟨hcp (hs.drew.pull 3), (hs.drew.pull 2).cell rfl⟩) ?_
                replace hs := hs.drew
                first | refine x_field0 fa_26_1 _ rfl ?_ | refine x_field fa_26_1 _ _ rfl ?_
                refine h_load one_23 _ (.slice _ _ _) rfl (fun w hS => by first | exact hS.cell rfl | exact (hS.pull 1).cell rfl | exact (hS.pull 2).cell rfl | exact (hS.pull 3).cell rfl | exact (hS.pull 4).cell rfl | exact (hS.pull 5).cell rfl | exact (hS.pull 6).cell rfl | exact hS | exact hS.1 | exact hS.2 | exact hS.2.1 | exact hS.2.2 | exact hS.2.2.1 | exact hS.2.2.2 | exact hS.2.2.2.1 | exact hS.2.2.2.2) ?_
                refine x_move (.slice _ _ _) rfl ?_
                refine x_move (.int _ _) rfl ?_
                refine x_indexAddr Try.underlying28 sz_40 _ _ _ _ _ rfl rfl (by omega) ?_
                first | refine x_field0 fa_40_0 _ rfl ?_ | refine x_field fa_40_0 _ _ rfl ?_
                refine h_loadN [_, _] agg_38 _ rfl (fun w hS => by first | exact hS | exact hS.1 | exact hS.2 | exact hS.2.1 | exact hS.2.2 | exact hS.2.2.1 | exact hS.2.2.2 | exact hS.2.2.2.1 | exact hS.2.2.2.2 | exact hS.cellsOf | exact (hS.pull 1).cellsOf | exact (hS.pull 2).cellsOf | exact (hS.pull 3).cellsOf | exact (hS.pull 4).cellsOf | exact (hS.pull 5).cellsOf | exact (hS.pull 6).cellsOf | exact hS.cells2 rfl rfl | exact (hS.pull 1).cells2 rfl rfl | exact (hS.pull 2).cells2 rfl rfl | exact (hS.pull 3).cells2 rfl rfl | exact (hS.pull 4).cells2 rfl rfl | exact (hS.pull 5).cells2 rfl rfl | exact (hS.pull 6).cells2 rfl rfl) ?_
                refine x_call Try.f12 Try.func12 rfl rfl _ rfl ?_
                refine (at08_calls P (hs.pull 3) hr (by omega)).mono ?_
                clear hs; rintro e w ⟨rfl, hs⟩
                replace hs := hs.push 3
                try dsimp only [back] at hs
                refine ⟨_, rfl, fun h => (by first | (cases h; done) | (first | exact hs.cells2 rfl rfl | exact (hs.pull 1).cells2 rfl rfl | exact (hs.pull 2).cells2 rfl rfl | exact (hs.pull 3).cells2 rfl rfl | exact (hs.pull 4).cells2 rfl rfl | exact (hs.pull 5).cells2 rfl rfl | exact (hs.pull 6).cells2 rfl rfl | exact (hs.pull 7).cells2 rfl rfl | exact (hs.pull 8).cells2 rfl rfl | exact hs.cell rfl | exact (hs.pull 1).cell rfl | exact (hs.pull 2).cell rfl | exact (hs.pull 3).cell rfl | exact (hs.pull 4).cell rfl | exact (hs.pull 5).cell rfl | exact (hs.pull 6).cell rfl | exact (hs.pull 7).cell rfl | exact (hs.pull 8).cell rfl | assumption | exact hs.cellsOf | exact (hs.pull 1).cellsOf | exact (hs.pull 2).cellsOf | exact (hs.pull 3).cellsOf | exact (hs.pull 4).cellsOf | exact (hs.pull 5).cellsOf | exact (hs.pull 6).cellsOf | exact (hs.pull 7).cellsOf | exact (hs.pull 8).cellsOf) | (and_intros <;> first | exact hs.cells2 rfl rfl | exact (hs.pull 1).cells2 rfl rfl | exact (hs.pull 2).cells2 rfl rfl | exact (hs.pull 3).cells2 rfl rfl | exact (hs.pull 4).cells2 rfl rfl | exact (hs.pull 5).cells2 rfl rfl | exact (hs.pull 6).cells2 rfl rfl | exact (hs.pull 7).cells2 rfl rfl | exact (hs.pull 8).cells2 rfl rfl | exact hs.cell rfl | exact (hs.pull 1).cell rfl | exact (hs.pull 2).cell rfl | exact (hs.pull 3).cell rfl | exact (hs.pull 4).cell rfl | exact (hs.pull 5).cell rfl | exact (hs.pull 6).cell rfl | exact (hs.pull 7).cell rfl | exact (hs.pull 8).cell rfl | assumption | exact hs.cellsOf | exact (hs.pull 1).cellsOf | exact (hs.pull 2).cellsOf | exact (hs.pull 3).cellsOf | exact (hs.pull 4).cellsOf | exact (hs.pull 5).cellsOf | exact (hs.pull 6).cellsOf | exact (hs.pull 7).cellsOf | exact (hs.pull 8).cellsOf)), ?_⟩
                rw [pix_none hp]
                refine x_assign (.int _ _) rfl ?_
                refine x_nil ?_
                refine then_n ?_
                refine c_seq ?_
                refine c_seq ?_
                -- region 19
                have hco1 := hco (hs.pull 3)
                refine c_region ?_
                refine x_move (.slice _ _ _) rfl ?_
                refine x_move (.int _ _) rfl ?_
                refine x_indexAddr Try.underlying28 sz_40 _ _ _ _ _ rfl rfl (by omega) ?_
                first | refine x_field0 fa_40_1 _ rfl ?_ | refine x_field fa_40_1 _ _ rfl ?_
                refine x_load one_4 _ (.bool _) rfl (by first | exact hs.cell rfl | exact (hs.pull 1).cell rfl | exact (hs.pull 2).cell rfl | exact (hs.pull 3).cell rfl | assumption | exact (hs.pull 4).cell rfl | exact (hs.pull 5).cell rfl | exact (hs.pull 6).cell rfl | exact (hs.pull 7).cell rfl) ?_
                refine x_not _ rfl ?_
                refine x_move (.bool _) rfl ?_
                refine x_want' rfl ?_
                refine x_move (.int _ _) rfl ?_
                refine x_want' rfl ?_
                refine x_geqF _ _ rfl rfl (by omega) ?_
                refine x_pickT (.bool _) rfl rfl ?_
                refine x_nil ?_
                refine then_n ?_
                refine c_false rfl ?_
                refine c_skip ?_
                refine then_n ?_
                refine c_seq ?_
                refine c_seq ?_
                -- region 21 DRAWS
                refine c_draw (fun w => w.cell? ⟨g, o + i * 5 + 2, none⟩ = some (.bool false)) (fun i => !(false)) [(0, 2), (1, 2), (2, 2), (3, 2), (4, 1), (5, 2), (6, 2), (7, 2), (8, 2), (9, 2), (10, 1), (11, 2), (12, 2), (13, 2), (14, 2), (15, 2), (16, 2), (17, 2), (18, 1), (19, 2), (20, 1), (21, 2), (22, 2), (23, 2)] (by kernel_rfl) (by kernel_rfl) (by kernel_rfl) (by kernel_rfl) (hco (hs.drew.pull 3)) ?_
                replace hs := hs.drew
                refine x_move (.slice _ _ _) rfl ?_
                refine x_move (.int _ _) rfl ?_
                refine x_indexAddr Try.underlying28 sz_40 _ _ _ _ _ rfl rfl (by omega) ?_
                first | refine x_field0 fa_40_1 _ rfl ?_ | refine x_field fa_40_1 _ _ rfl ?_
                refine h_load one_4 _ (.bool _) rfl (fun w hS => by first | exact hS.cell rfl | exact (hS.pull 1).cell rfl | exact (hS.pull 2).cell rfl | exact (hS.pull 3).cell rfl | exact (hS.pull 4).cell rfl | exact (hS.pull 5).cell rfl | exact (hS.pull 6).cell rfl | exact hS | exact hS.1 | exact hS.2 | exact hS.2.1 | exact hS.2.2 | exact hS.2.2.1 | exact hS.2.2.2 | exact hS.2.2.2.1 | exact hS.2.2.2.2) ?_
                refine x_move (.bool _) rfl ?_
                refine x_skip rfl rfl ?_
                refine x_skip rfl rfl ?_
                refine x_skip rfl rfl ?_
                refine x_skip rfl rfl ?_
                refine x_skip rfl rfl ?_
                refine x_skip rfl rfl ?_
                refine x_pickF (.bool _) rfl rfl ?_
                refine x_move (.bool _) rfl ?_
                refine x_skip rfl rfl ?_
                refine x_skip rfl rfl ?_
                refine x_skip rfl rfl ?_
                refine x_skip rfl rfl ?_
                refine x_skip rfl rfl ?_
                refine x_skip rfl rfl ?_
                refine x_skip rfl rfl ?_
                refine x_skip rfl rfl ?_
                refine x_skip rfl rfl ?_
                refine x_pickF (.bool _) rfl rfl ?_
                refine x_nil ?_
                refine then_n ?_
                refine c_false rfl ?_
                refine c_skip ?_
                refine then_n ?_
                refine c_seq ?_
                refine c_seq ?_
                -- region 28
                refine c_region ?_
                refine x_move (.pointer _) rfl ?_
                refine x_call Try.f15 Try.func15 rfl rfl _ rfl ?_
                refine ((all_is hs rfl)).mono ?_
                clear hs; rintro e w ⟨rfl, hs⟩
                refine ⟨_, rfl, fun h => (by first | (cases h; done) | (first | exact hs.cells2 rfl rfl | exact (hs.pull 1).cells2 rfl rfl | exact (hs.pull 2).cells2 rfl rfl | exact (hs.pull 3).cells2 rfl rfl | exact (hs.pull 4).cells2 rfl rfl | exact (hs.pull 5).cells2 rfl rfl | exact (hs.pull 6).cells2 rfl rfl | exact (hs.pull 7).cells2 rfl rfl | exact (hs.pull 8).cells2 rfl rfl | exact hs.cell rfl | exact (hs.pull 1).cell rfl | exact (hs.pull 2).cell rfl | exact (hs.pull 3).cell rfl | exact (hs.pull 4).cell rfl | exact (hs.pull 5).cell rfl | exact (hs.pull 6).cell rfl | exact (hs.pull 7).cell rfl | exact (hs.pull 8).cell rfl | assumption | exact hs.cellsOf | exact (hs.pull 1).cellsOf | exact (hs.pull 2).cellsOf | exact (hs.pull 3).cellsOf | exact (hs.pull 4).cellsOf | exact (hs.pull 5).cellsOf | exact (hs.pull 6).cellsOf | exact (hs.pull 7).cellsOf | exact (hs.pull 8).cellsOf) | (and_intros <;> first | exact hs.cells2 rfl rfl | exact (hs.pull 1).cells2 rfl rfl | exact (hs.pull 2).cells2 rfl rfl | exact (hs.pull 3).cells2 rfl rfl | exact (hs.pull 4).cells2 rfl rfl | exact (hs.pull 5).cells2 rfl rfl | exact (hs.pull 6).cells2 rfl rfl | exact (hs.pull 7).cells2 rfl rfl | exact (hs.pull 8).cells2 rfl rfl | exact hs.cell rfl | exact (hs.pull 1).cell rfl | exact (hs.pull 2).cell rfl | exact (hs.pull 3).cell rfl | exact (hs.pull 4).cell rfl | exact (hs.pull 5).cell rfl | exact (hs.pull 6).cell rfl | exact (hs.pull 7).cell rfl | exact (hs.pull 8).cell rfl | assumption | exact hs.cellsOf | exact (hs.pull 1).cellsOf | exact (hs.pull 2).cellsOf | exact (hs.pull 3).cellsOf | exact (hs.pull 4).cellsOf | exact (hs.pull 5).cellsOf | exact (hs.pull 6).cellsOf | exact (hs.pull 7).cellsOf | exact (hs.pull 8).cellsOf)), ?_⟩
                refine x_move (.int _ _) rfl ?_
                refine x_gtrF _ _ rfl rfl (by omega) ?_
                refine x_move (.bool _) rfl ?_
                refine x_want' rfl ?_
                refine x_move (.pointer _) rfl ?_
                refine x_want' rfl ?_
                refine x_call Try.f15 Try.func15 rfl rfl _ rfl ?_
                refine ((all_is hs rfl)).mono ?_
                clear hs; rintro e w ⟨rfl, hs⟩
                refine ⟨_, rfl, fun h => (by first | (cases h; done) | (first | exact hs.cells2 rfl rfl | exact (hs.pull 1).cells2 rfl rfl | exact (hs.pull 2).cells2 rfl rfl | exact (hs.pull 3).cells2 rfl rfl | exact (hs.pull 4).cells2 rfl rfl | exact (hs.pull 5).cells2 rfl rfl | exact (hs.pull 6).cells2 rfl rfl | exact (hs.pull 7).cells2 rfl rfl | exact (hs.pull 8).cells2 rfl rfl | exact hs.cell rfl | exact (hs.pull 1).cell rfl | exact (hs.pull 2).cell rfl | exact (hs.pull 3).cell rfl | exact (hs.pull 4).cell rfl | exact (hs.pull 5).cell rfl | exact (hs.pull 6).cell rfl | exact (hs.pull 7).cell rfl | exact (hs.pull 8).cell rfl | assumption | exact hs.cellsOf | exact (hs.pull 1).cellsOf | exact (hs.pull 2).cellsOf | exact (hs.pull 3).cellsOf | exact (hs.pull 4).cellsOf | exact (hs.pull 5).cellsOf | exact (hs.pull 6).cellsOf | exact (hs.pull 7).cellsOf | exact (hs.pull 8).cellsOf) | (and_intros <;> first | exact hs.cells2 rfl rfl | exact (hs.pull 1).cells2 rfl rfl | exact (hs.pull 2).cells2 rfl rfl | exact (hs.pull 3).cells2 rfl rfl | exact (hs.pull 4).cells2 rfl rfl | exact (hs.pull 5).cells2 rfl rfl | exact (hs.pull 6).cells2 rfl rfl | exact (hs.pull 7).cells2 rfl rfl | exact (hs.pull 8).cells2 rfl rfl | exact hs.cell rfl | exact (hs.pull 1).cell rfl | exact (hs.pull 2).cell rfl | exact (hs.pull 3).cell rfl | exact (hs.pull 4).cell rfl | exact (hs.pull 5).cell rfl | exact (hs.pull 6).cell rfl | exact (hs.pull 7).cell rfl | exact (hs.pull 8).cell rfl | assumption | exact hs.cellsOf | exact (hs.pull 1).cellsOf | exact (hs.pull 2).cellsOf | exact (hs.pull 3).cellsOf | exact (hs.pull 4).cellsOf | exact (hs.pull 5).cellsOf | exact (hs.pull 6).cellsOf | exact (hs.pull 7).cellsOf | exact (hs.pull 8).cellsOf)), ?_⟩
                refine x_want' rfl ?_
                refine x_move (.int _ _) rfl ?_
                refine x_want' rfl ?_
                refine x_lssF _ _ rfl rfl (by omega) ?_
                refine x_pickF (.bool _) rfl rfl ?_
                refine x_nil ?_
                refine then_n ?_
                refine c_false rfl ?_
                refine c_skip ?_
                refine then_n ?_
                -- region 30
                refine c_region ?_
                refine x_move (.pointer _) rfl ?_
                refine x_call Try.f15 Try.func15 rfl rfl _ rfl ?_
                refine ((all_is hs rfl)).mono ?_
                clear hs; rintro e w ⟨rfl, hs⟩
                refine ⟨_, rfl, fun h => (by first | (cases h; done) | (first | exact hs.cells2 rfl rfl | exact (hs.pull 1).cells2 rfl rfl | exact (hs.pull 2).cells2 rfl rfl | exact (hs.pull 3).cells2 rfl rfl | exact (hs.pull 4).cells2 rfl rfl | exact (hs.pull 5).cells2 rfl rfl | exact (hs.pull 6).cells2 rfl rfl | exact (hs.pull 7).cells2 rfl rfl | exact (hs.pull 8).cells2 rfl rfl | exact hs.cell rfl | exact (hs.pull 1).cell rfl | exact (hs.pull 2).cell rfl | exact (hs.pull 3).cell rfl | exact (hs.pull 4).cell rfl | exact (hs.pull 5).cell rfl | exact (hs.pull 6).cell rfl | exact (hs.pull 7).cell rfl | exact (hs.pull 8).cell rfl | assumption | exact hs.cellsOf | exact (hs.pull 1).cellsOf | exact (hs.pull 2).cellsOf | exact (hs.pull 3).cellsOf | exact (hs.pull 4).cellsOf | exact (hs.pull 5).cellsOf | exact (hs.pull 6).cellsOf | exact (hs.pull 7).cellsOf | exact (hs.pull 8).cellsOf) | (and_intros <;> first | exact hs.cells2 rfl rfl | exact (hs.pull 1).cells2 rfl rfl | exact (hs.pull 2).cells2 rfl rfl | exact (hs.pull 3).cells2 rfl rfl | exact (hs.pull 4).cells2 rfl rfl | exact (hs.pull 5).cells2 rfl rfl | exact (hs.pull 6).cells2 rfl rfl | exact (hs.pull 7).cells2 rfl rfl | exact (hs.pull 8).cells2 rfl rfl | exact hs.cell rfl | exact (hs.pull 1).cell rfl | exact (hs.pull 2).cell rfl | exact (hs.pull 3).cell rfl | exact (hs.pull 4).cell rfl | exact (hs.pull 5).cell rfl | exact (hs.pull 6).cell rfl | exact (hs.pull 7).cell rfl | exact (hs.pull 8).cell rfl | assumption | exact hs.cellsOf | exact (hs.pull 1).cellsOf | exact (hs.pull 2).cellsOf | exact (hs.pull 3).cellsOf | exact (hs.pull 4).cellsOf | exact (hs.pull 5).cellsOf | exact (hs.pull 6).cellsOf | exact (hs.pull 7).cellsOf | exact (hs.pull 8).cellsOf)), ?_⟩
                refine x_assign (.int _ _) rfl ?_
                refine x_nil ?_
                refine inb_n ?_
                refine then_n ?_
                -- region 17
                refine c_region ?_
                refine x_move (.int _ _) rfl ?_
                refine x_add _ _ rfl rfl (by simp only [X.lo]; omega) (by simp only [X.hi]; omega) ?_
                refine x_assign (.int _ _) rfl ?_
                refine x_nil ?_
                refine then_n ?_
                refine ⟨(i + 1, _, _), ⟨rfl, rfl, rfl, rfl, rfl, rfl, rfl, trivial⟩, ⟨by omega, by assumption, rfl, hs⟩, by first | omega | (dsimp only; omega)⟩
              · skip
                refine c_true rfl ?_
                refine c_skip ?_
                refine then_n ?_
                refine c_seq ?_
                refine c_block ?_
                refine c_seq ?_
                -- region 18 DRAWS
                refine c_draw (fun w => (∀ (j : Nat) (u : Value), [Value.int .u16 (P.Id : Nat), Value.int .u32 (P.Inc : Nat)][j]? = some u → w.cell? ((⟨g, o + i * 5, none⟩ : Addr).add j) = some u) ∧ w.cell? ⟨b3, 1, none⟩ = some (.slice (some ⟨gm, om, none⟩) D.mem.length D.cm)) (fun i => !(Nat.beq i 7)) [(0, 2), (1, 1), (2, 2), (3, 2), (4, 2), (5, 2), (6, 1), (7, 0), (8, 2)] (by kernel_rfl) (by kernel_rfl) (by kernel_rfl) (by kernel_rfl) (⟨hcp (hs.drew.pull 3), (hs.drew.pull 2).cell rfl⟩) ?_
                replace hs := hs.drew
                first | refine x_field0 fa_26_1 _ rfl ?_ | refine x_field fa_26_1 _ _ rfl ?_
                refine h_load one_23 _ (.slice _ _ _) rfl (fun w hS => by first | exact hS.cell rfl | exact (hS.pull 1).cell rfl | exact (hS.pull 2).cell rfl | exact (hS.pull 3).cell rfl | exact (hS.pull 4).cell rfl | exact (hS.pull 5).cell rfl | exact (hS.pull 6).cell rfl | exact hS | exact hS.1 | exact hS.2 | exact hS.2.1 | exact hS.2.2 | exact hS.2.2.1 | exact hS.2.2.2 | exact hS.2.2.2.1 | exact hS.2.2.2.2) ?_
                refine x_move (.slice _ _ _) rfl ?_
                refine x_move (.int _ _) rfl ?_
                refine x_indexAddr Try.underlying28 sz_40 _ _ _ _ _ rfl rfl (by omega) ?_
                first | refine x_field0 fa_40_0 _ rfl ?_ | refine x_field fa_40_0 _ _ rfl ?_
                refine h_loadN [_, _] agg_38 _ rfl (fun w hS => by first | exact hS | exact hS.1 | exact hS.2 | exact hS.2.1 | exact hS.2.2 | exact hS.2.2.1 | exact hS.2.2.2 | exact hS.2.2.2.1 | exact hS.2.2.2.2 | exact hS.cellsOf | exact (hS.pull 1).cellsOf | exact (hS.pull 2).cellsOf | exact (hS.pull 3).cellsOf | exact (hS.pull 4).cellsOf | exact (hS.pull 5).cellsOf | exact (hS.pull 6).cellsOf | exact hS.cells2 rfl rfl | exact (hS.pull 1).cells2 rfl rfl | exact (hS.pull 2).cells2 rfl rfl | exact (hS.pull 3).cells2 rfl rfl | exact (hS.pull 4).cells2 rfl rfl | exact (hS.pull 5).cells2 rfl rfl | exact (hS.pull 6).cells2 rfl rfl) ?_
                refine x_call Try.f12 Try.func12 rfl rfl _ rfl ?_
                refine (at08_calls P (hs.pull 3) hr (by omega)).mono ?_
                clear hs; rintro e w ⟨rfl, hs⟩
                replace hs := hs.push 3
                try dsimp only [back] at hs
                refine ⟨_, rfl, fun h => (by first | (cases h; done) | (first | exact hs.cells2 rfl rfl | exact (hs.pull 1).cells2 rfl rfl | exact (hs.pull 2).cells2 rfl rfl | exact (hs.pull 3).cells2 rfl rfl | exact (hs.pull 4).cells2 rfl rfl | exact (hs.pull 5).cells2 rfl rfl | exact (hs.pull 6).cells2 rfl rfl | exact (hs.pull 7).cells2 rfl rfl | exact (hs.pull 8).cells2 rfl rfl | exact hs.cell rfl | exact (hs.pull 1).cell rfl | exact (hs.pull 2).cell rfl | exact (hs.pull 3).cell rfl | exact (hs.pull 4).cell rfl | exact (hs.pull 5).cell rfl | exact (hs.pull 6).cell rfl | exact (hs.pull 7).cell rfl | exact (hs.pull 8).cell rfl | assumption | exact hs.cellsOf | exact (hs.pull 1).cellsOf | exact (hs.pull 2).cellsOf | exact (hs.pull 3).cellsOf | exact (hs.pull 4).cellsOf | exact (hs.pull 5).cellsOf | exact (hs.pull 6).cellsOf | exact (hs.pull 7).cellsOf | exact (hs.pull 8).cellsOf) | (and_intros <;> first | exact hs.cells2 rfl rfl | exact (hs.pull 1).cells2 rfl rfl | exact (hs.pull 2).cells2 rfl rfl | exact (hs.pull 3).cells2 rfl rfl | exact (hs.pull 4).cells2 rfl rfl | exact (hs.pull 5).cells2 rfl rfl | exact (hs.pull 6).cells2 rfl rfl | exact (hs.pull 7).cells2 rfl rfl | exact (hs.pull 8).cells2 rfl rfl | exact hs.cell rfl | exact (hs.pull 1).cell rfl | exact (hs.pull 2).cell rfl | exact (hs.pull 3).cell rfl | exact (hs.pull 4).cell rfl | exact (hs.pull 5).cell rfl | exact (hs.pull 6).cell rfl | exact (hs.pull 7).cell rfl | exact (hs.pull 8).cell rfl | assumption | exact hs.cellsOf | exact (hs.pull 1).cellsOf | exact (hs.pull 2).cellsOf | exact (hs.pull 3).cellsOf | exact (hs.pull 4).cellsOf | exact (hs.pull 5).cellsOf | exact (hs.pull 6).cellsOf | exact (hs.pull 7).cellsOf | exact (hs.pull 8).cellsOf)), ?_⟩
                obtain ⟨k, rfl⟩ := Int.eq_ofNat_of_zero_le hlf.1
                obtain ⟨⟨vx, lx⟩, hx⟩ : ∃ y, D.lvs[k]? = some y := ⟨D.lvs[k]'(by omega), List.getElem?_eq_getElem _⟩
                have hL := hrl _ _ (hs.pull 3)
                obtain ⟨ax, cx, e, -⟩ := hL.at hx
                dsimp only at e
                subst e
                have hcx : ∀ {w' L'}, Sat w0 w' (Init w0 :: L') → w'.cell? ⟨gl, ol + k * 1, none⟩ = some (.slice ax lx.length cx) := fun h => (hrl _ _ h).cell hx
                have hrx : ∀ w' L', Sat w0 w' (Init w0 :: L') → RS w' 2 Pid.cells (.slice ax lx.length cx) lx := fun w' L' h => (hrl _ _ h).2 _ (List.mem_of_getElem? hx)
                have hlx := hls40 _ (List.mem_of_getElem? hx)
                dsimp only at hlx
                have hgd : V.lls.getD k [] = lx := by rw [hlls, List.getD_eq_getElem?_getD, List.getElem?_map, hx]; rfl
                clear hL
                refine x_assign (.int _ _) rfl ?_
                refine x_nil ?_
                refine then_n ?_
                refine c_seq ?_
                refine c_seq ?_
                -- region 19
                have hco1 := hco (hs.pull 3)
                refine c_region ?_
                refine x_move (.slice _ _ _) rfl ?_
                refine x_move (.int _ _) rfl ?_
                refine x_indexAddr Try.underlying28 sz_40 _ _ _ _ _ rfl rfl (by omega) ?_
                first | refine x_field0 fa_40_1 _ rfl ?_ | refine x_field fa_40_1 _ _ rfl ?_
                refine x_load one_4 _ (.bool _) rfl (by first | exact hs.cell rfl | exact (hs.pull 1).cell rfl | exact (hs.pull 2).cell rfl | exact (hs.pull 3).cell rfl | assumption | exact (hs.pull 4).cell rfl | exact (hs.pull 5).cell rfl | exact (hs.pull 6).cell rfl | exact (hs.pull 7).cell rfl) ?_
                refine x_not _ rfl ?_
                refine x_move (.bool _) rfl ?_
                refine x_skip rfl rfl ?_
                refine x_skip rfl rfl ?_
                refine x_pickF (.bool _) rfl rfl ?_
                refine x_nil ?_
                refine then_n ?_
                refine c_false rfl ?_
                refine c_skip ?_
                refine then_n ?_
                refine c_seq ?_
                refine c_seq ?_
                -- region 21 DRAWS
                refine c_draw (fun w => w.cell? ⟨g, o + i * 5 + 2, none⟩ = some (.bool true) ∧ w.cell? ⟨g, o + i * 5 + 3, none⟩ = some (.int .i64 (k : Nat)) ∧ w.cell? ⟨b3, 2, none⟩ = some (.slice (some ⟨gl, ol, none⟩) D.lvs.length D.cl)) (fun i => !(false)) [(0, 2), (1, 2), (2, 2), (3, 2), (4, 1), (5, 2), (6, 2), (7, 2), (8, 2), (9, 2), (10, 1), (11, 2), (12, 2), (13, 2), (14, 2), (15, 2), (16, 2), (17, 2), (18, 1), (19, 2), (20, 1), (21, 2), (22, 2), (23, 2)] (by kernel_rfl) (by kernel_rfl) (by kernel_rfl) (by kernel_rfl) (⟨hco (hs.drew.pull 3), hcl (hs.drew.pull 3), (hs.drew.pull 2).cell rfl⟩) ?_
                replace hs := hs.drew
                refine x_move (.slice _ _ _) rfl ?_
                refine x_move (.int _ _) rfl ?_
                refine x_indexAddr Try.underlying28 sz_40 _ _ _ _ _ rfl rfl (by omega) ?_
                first | refine x_field0 fa_40_1 _ rfl ?_ | refine x_field fa_40_1 _ _ rfl ?_
                refine h_load one_4 _ (.bool _) rfl (fun w hS => by first | exact hS.cell rfl | exact (hS.pull 1).cell rfl | exact (hS.pull 2).cell rfl | exact (hS.pull 3).cell rfl | exact (hS.pull 4).cell rfl | exact (hS.pull 5).cell rfl | exact (hS.pull 6).cell rfl | exact hS | exact hS.1 | exact hS.2 | exact hS.2.1 | exact hS.2.2 | exact hS.2.2.1 | exact hS.2.2.2 | exact hS.2.2.2.1 | exact hS.2.2.2.2) ?_
                refine x_move (.bool _) rfl ?_
                refine x_want' rfl ?_
                refine x_move (.slice _ _ _) rfl ?_
                refine x_want' rfl ?_
                refine x_move (.int _ _) rfl ?_
                refine x_want' rfl ?_
                refine x_indexAddr Try.underlying28 sz_40 _ _ _ _ _ rfl rfl (by omega) ?_
                refine x_want' rfl ?_
                first | refine x_field0 fa_40_2 _ rfl ?_ | refine x_field fa_40_2 _ _ rfl ?_
                refine x_want' rfl ?_
                refine h_load one_3 _ (.int _ _) rfl (fun w hS => by first | exact hS.cell rfl | exact (hS.pull 1).cell rfl | exact (hS.pull 2).cell rfl | exact (hS.pull 3).cell rfl | exact (hS.pull 4).cell rfl | exact (hS.pull 5).cell rfl | exact (hS.pull 6).cell rfl | exact hS | exact hS.1 | exact hS.2 | exact hS.2.1 | exact hS.2.2 | exact hS.2.2.1 | exact hS.2.2.2 | exact hS.2.2.2.1 | exact hS.2.2.2.2) ?_
                refine x_want' rfl ?_
                refine x_geqT _ _ rfl rfl (by omega) ?_
                refine x_pickT (.bool _) rfl rfl ?_
                refine x_move (.bool _) rfl ?_
                refine x_want' rfl ?_
                refine x_move (.slice _ _ _) rfl ?_
                refine x_want' rfl ?_
                refine x_move (.int _ _) rfl ?_
                refine x_want' rfl ?_
                refine x_indexAddr Try.underlying28 sz_40 _ _ _ _ _ rfl rfl (by omega) ?_
                refine x_want' rfl ?_
                first | refine x_field0 fa_40_2 _ rfl ?_ | refine x_field fa_40_2 _ _ rfl ?_
                refine x_want' rfl ?_
                refine h_load one_3 _ (.int _ _) rfl (fun w hS => by first | exact hS.cell rfl | exact (hS.pull 1).cell rfl | exact (hS.pull 2).cell rfl | exact (hS.pull 3).cell rfl | exact (hS.pull 4).cell rfl | exact (hS.pull 5).cell rfl | exact (hS.pull 6).cell rfl | exact hS | exact hS.1 | exact hS.2 | exact hS.2.1 | exact hS.2.2 | exact hS.2.2.1 | exact hS.2.2.2 | exact hS.2.2.2.1 | exact hS.2.2.2.2) ?_
                refine x_want' rfl ?_
                first | refine x_field0 fa_26_2 _ rfl ?_ | refine x_field fa_26_2 _ _ rfl ?_
                refine x_want' rfl ?_
                refine h_load one_24 _ (.slice _ _ _) rfl (fun w hS => by first | exact hS.cell rfl | exact (hS.pull 1).cell rfl | exact (hS.pull 2).cell rfl | exact (hS.pull 3).cell rfl | exact (hS.pull 4).cell rfl | exact (hS.pull 5).cell rfl | exact (hS.pull 6).cell rfl | exact hS | exact hS.1 | exact hS.2 | exact hS.2.1 | exact hS.2.2 | exact hS.2.2.1 | exact hS.2.2.2 | exact hS.2.2.2.1 | exact hS.2.2.2.2) ?_
                refine x_want' rfl ?_
                refine x_lenSl Try.underlying24 _ _ _ rfl ?_
                refine x_want' rfl ?_
                refine x_lssT _ _ rfl rfl (by omega) ?_
                refine x_pickT (.bool _) rfl rfl ?_
                refine x_nil ?_
                refine then_n ?_
                refine c_true rfl ?_
                refine c_seq ?_
                -- region 22
                have hcn1 := hcn (hs.pull 3)
                refine c_region ?_
                refine x_move (.slice _ _ _) rfl ?_
                refine x_move (.int _ _) rfl ?_
                refine x_indexAddr Try.underlying28 sz_40 _ _ _ _ _ rfl rfl (by omega) ?_
                first | refine x_field0 fa_40_3 _ rfl ?_ | refine x_field fa_40_3 _ _ rfl ?_
                refine x_load one_22 _ (.int _ _) rfl (by first | exact hs.cell rfl | exact (hs.pull 1).cell rfl | exact (hs.pull 2).cell rfl | exact (hs.pull 3).cell rfl | assumption | exact (hs.pull 4).cell rfl | exact (hs.pull 5).cell rfl | exact (hs.pull 6).cell rfl | exact (hs.pull 7).cell rfl) ?_
                refine x_assign (.int _ _) rfl ?_
                refine x_nil ?_
                refine then_n ?_
                refine c_seq ?_
                refine c_seq ?_
                -- region 23
                refine c_region ?_
                refine x_assign (.int _ _) rfl ?_
                refine x_nil ?_
                refine then_n ?_
                refine c_block ?_
                refine c_loop (γ := Nat × Nat) (fun (⟨j, n⟩ : Nat × Nat) => [(2, .slice (some ⟨g, o, none⟩) ts.length c2), (3, .pointer (some ⟨b3, 0, none⟩)), (7, .slice (some ⟨bw, 0, none⟩) D.mem.length D.mem.length), (9, .int .u64 (minW W : Nat)), (11, .pointer (some ⟨f, 0, none⟩)), (12, .int .u64 (last : Nat)), (13, .int .i64 (i : Nat)), (15, .int .u64 (n : Nat)), (16, .int .i64 (j : Nat))]) (fun (⟨j, n⟩ : Nat × Nat) w => j ≤ lx.length ∧ (∀ p ∈ lx.take j, n ≤ W.getD (D.mem.idxOf p) 0) ∧ Sat w0 w (SO f V s :: Row 22 1 (.slice (some ⟨bw, 0, none⟩) D.mem.length D.mem.length) D.mem.length (wc W) :: Blk b3 (.cells #[.int .u64 (D.Id : Nat), .slice (some ⟨gm, om, none⟩) D.mem.length D.cm, .slice (some ⟨gl, ol, none⟩) D.lvs.length D.cl, .slice D.ad D.lds.length D.cd] 26 (0, 0)) :: [Init w0])) (fun (⟨j, n⟩ : Nat × Nat) => lx.length - j) (0, N) ⟨rfl, rfl, rfl, rfl, rfl, rfl, rfl, rfl, rfl, trivial⟩ ⟨by omega, (fun p h => by simp at h), hs⟩ ?_
                clear hs
                rintro ⟨j, n⟩ ρ w ⟨hj, hnA, hs⟩
                change CW Try.prog 192 _ _ (sets 192 [(2, .slice (some ⟨g, o, none⟩) ts.length c2), (3, .pointer (some ⟨b3, 0, none⟩)), (7, .slice (some ⟨bw, 0, none⟩) D.mem.length D.mem.length), (9, .int .u64 (minW W : Nat)), (11, .pointer (some ⟨f, 0, none⟩)), (12, .int .u64 (last : Nat)), (13, .int .i64 (i : Nat)), (15, .int .u64 (n : Nat)), (16, .int .i64 (j : Nat))] ρ) w
                refine c_seq ?_
                refine c_seq ?_
                -- region 24 DRAWS
                refine c_draw (fun w => w.cell? ⟨g, o + i * 5 + 3, none⟩ = some (.int .i64 (k : Nat)) ∧ w.cell? ⟨b3, 2, none⟩ = some (.slice (some ⟨gl, ol, none⟩) D.lvs.length D.cl) ∧ w.cell? ⟨gl, ol + k * 1, none⟩ = some (.slice ax lx.length cx)) (fun i => !(false)) [(0, 2), (1, 2), (2, 1), (3, 2), (4, 2), (5, 2), (6, 2), (7, 1), (8, 2), (9, 1), (10, 2), (11, 2)] (by kernel_rfl) (by kernel_rfl) (by kernel_rfl) (by kernel_rfl) (⟨hcl (hs.drew.pull 3), (hs.drew.pull 2).cell rfl, hcx (hs.drew.pull 3)⟩) ?_
                replace hs := hs.drew
                refine x_move (.int _ _) rfl ?_
                first | refine x_field0 fa_26_2 _ rfl ?_ | refine x_field fa_26_2 _ _ rfl ?_
                refine h_load one_24 _ (.slice _ _ _) rfl (fun w hS => by first | exact hS.cell rfl | exact (hS.pull 1).cell rfl | exact (hS.pull 2).cell rfl | exact (hS.pull 3).cell rfl | exact (hS.pull 4).cell rfl | exact (hS.pull 5).cell rfl | exact (hS.pull 6).cell rfl | exact hS | exact hS.1 | exact hS.2 | exact hS.2.1 | exact hS.2.2 | exact hS.2.2.1 | exact hS.2.2.2 | exact hS.2.2.2.1 | exact hS.2.2.2.2) ?_
                refine x_move (.slice _ _ _) rfl ?_
                refine x_move (.int _ _) rfl ?_
                refine x_indexAddr Try.underlying28 sz_40 _ _ _ _ _ rfl rfl (by omega) ?_
                first | refine x_field0 fa_40_2 _ rfl ?_ | refine x_field fa_40_2 _ _ rfl ?_
                refine h_load one_3 _ (.int _ _) rfl (fun w hS => by first | exact hS.cell rfl | exact (hS.pull 1).cell rfl | exact (hS.pull 2).cell rfl | exact (hS.pull 3).cell rfl | exact (hS.pull 4).cell rfl | exact (hS.pull 5).cell rfl | exact (hS.pull 6).cell rfl | exact hS | exact hS.1 | exact hS.2 | exact hS.2.1 | exact hS.2.2 | exact hS.2.2.1 | exact hS.2.2.2 | exact hS.2.2.2.1 | exact hS.2.2.2.2) ?_
                refine x_indexAddr Try.underlying24 sz_23 _ _ _ _ _ rfl rfl (by omega) ?_
                refine h_load one_23 _ (.slice _ _ _) rfl (fun w hS => by first | exact hS.cell rfl | exact (hS.pull 1).cell rfl | exact (hS.pull 2).cell rfl | exact (hS.pull 3).cell rfl | exact (hS.pull 4).cell rfl | exact (hS.pull 5).cell rfl | exact (hS.pull 6).cell rfl | exact hS | exact hS.1 | exact hS.2 | exact hS.2.1 | exact hS.2.2 | exact hS.2.2.1 | exact hS.2.2.2 | exact hS.2.2.2.1 | exact hS.2.2.2.2) ?_
                refine x_lenSl Try.underlying23 _ _ _ rfl ?_
                refine x_lss _ _ rfl rfl ?_
                refine x_nil ?_
                refine then_n ?_
                refine c_test _ rfl (fun hb => ?_) (fun hb => ?_)   -- cond t148
                · skip
                  refine c_skip ?_
                  refine then_n ?_
                  refine c_seq ?_
                  refine c_block ?_
                  -- region 26 DRAWS
                  obtain ⟨q, hq⟩ : ∃ y, lx[j]? = some y := ⟨lx[j]'(by omega), List.getElem?_eq_getElem _⟩
                  obtain ⟨g2, o2, rfl⟩ := (hrx _ _ (hs.pull 3)).addr (by omega)
                  have hqm : q ∈ D.mem := by
                    rw [← hmem]
                    exact hV.sub k (by omega) q (by rw [hgd]; exact List.mem_of_getElem? hq)
                  have hqlt := pix_lt hqm
                  refine c_draw (fun w => w.cell? ⟨b3, 1, none⟩ = some (.slice (some ⟨gm, om, none⟩) D.mem.length D.cm) ∧ w.cell? ⟨b3, 2, none⟩ = some (.slice (some ⟨gl, ol, none⟩) D.lvs.length D.cl) ∧ w.cell? ⟨g, o + i * 5 + 3, none⟩ = some (.int .i64 (k : Nat)) ∧ w.cell? ⟨gl, ol + k * 1, none⟩ = some (.slice (some ⟨g2, o2, none⟩) lx.length cx) ∧ (∀ (j_1 : Nat) (u : Value), [Value.int .u16 (q.Id : Nat), Value.int .u32 (q.Inc : Nat)][j_1]? = some u → w.cell? ((⟨g2, o2 + j * 2, none⟩ : Addr).add j_1) = some u)) (fun i => !(Nat.beq i 16 || Nat.beq i 18)) [(0, 2), (1, 2), (2, 2), (3, 1), (4, 2), (5, 1), (6, 2), (7, 2), (8, 2), (9, 2), (10, 1), (11, 2), (12, 1), (13, 2), (14, 2), (15, 1), (16, 0), (17, 2), (18, 0), (19, 2), (20, 2)] (by kernel_rfl) (by kernel_rfl) (by kernel_rfl) (by kernel_rfl) (⟨(hs.drew.pull 2).cell rfl, (hs.drew.pull 2).cell rfl, hcl (hs.drew.pull 3), hcx (hs.drew.pull 3), (hrx _ _ (hs.drew.pull 3)).all (fun a => a.cells_len) hq⟩) ?_
                  replace hs := hs.drew
                  refine x_move (.int _ _) rfl ?_
                  refine x_move (.slice _ _ _) rfl ?_
                  first | refine x_field0 fa_26_1 _ rfl ?_ | refine x_field fa_26_1 _ _ rfl ?_
                  refine h_load one_23 _ (.slice _ _ _) rfl (fun w hS => by first | exact hS.cell rfl | exact (hS.pull 1).cell rfl | exact (hS.pull 2).cell rfl | exact (hS.pull 3).cell rfl | exact (hS.pull 4).cell rfl | exact (hS.pull 5).cell rfl | exact (hS.pull 6).cell rfl | exact hS | exact hS.1 | exact hS.2 | exact hS.2.1 | exact hS.2.2 | exact hS.2.2.1 | exact hS.2.2.2 | exact hS.2.2.2.1 | exact hS.2.2.2.2) ?_
                  first | refine x_field0 fa_26_2 _ rfl ?_ | refine x_field fa_26_2 _ _ rfl ?_
                  refine h_load one_24 _ (.slice _ _ _) rfl (fun w hS => by first | exact hS.cell rfl | exact (hS.pull 1).cell rfl | exact (hS.pull 2).cell rfl | exact (hS.pull 3).cell rfl | exact (hS.pull 4).cell rfl | exact (hS.pull 5).cell rfl | exact (hS.pull 6).cell rfl | exact hS | exact hS.1 | exact hS.2 | exact hS.2.1 | exact hS.2.2 | exact hS.2.2.1 | exact hS.2.2.2 | exact hS.2.2.2.1 | exact hS.2.2.2.2) ?_
                  refine x_move (.slice _ _ _) rfl ?_
                  refine x_move (.int _ _) rfl ?_
                  refine x_indexAddr Try.underlying28 sz_40 _ _ _ _ _ rfl rfl (by omega) ?_
                  first | refine x_field0 fa_40_2 _ rfl ?_ | refine x_field fa_40_2 _ _ rfl ?_
                  refine h_load one_3 _ (.int _ _) rfl (fun w hS => by first | exact hS.cell rfl | exact (hS.pull 1).cell rfl | exact (hS.pull 2).cell rfl | exact (hS.pull 3).cell rfl | exact (hS.pull 4).cell rfl | exact (hS.pull 5).cell rfl | exact (hS.pull 6).cell rfl | exact hS | exact hS.1 | exact hS.2 | exact hS.2.1 | exact hS.2.2 | exact hS.2.2.1 | exact hS.2.2.2 | exact hS.2.2.2.1 | exact hS.2.2.2.2) ?_
                  refine x_indexAddr Try.underlying24 sz_23 _ _ _ _ _ rfl rfl (by omega) ?_
                  refine h_load one_23 _ (.slice _ _ _) rfl (fun w hS => by first | exact hS.cell rfl | exact (hS.pull 1).cell rfl | exact (hS.pull 2).cell rfl | exact (hS.pull 3).cell rfl | exact (hS.pull 4).cell rfl | exact (hS.pull 5).cell rfl | exact (hS.pull 6).cell rfl | exact hS | exact hS.1 | exact hS.2 | exact hS.2.1 | exact hS.2.2 | exact hS.2.2.1 | exact hS.2.2.2 | exact hS.2.2.2.1 | exact hS.2.2.2.2) ?_
                  refine x_move (.int _ _) rfl ?_
                  refine x_indexAddr Try.underlying23 sz_38 _ _ _ _ _ rfl rfl (by omega) ?_
                  refine h_loadN [_, _] agg_38 _ rfl (fun w hS => by first | exact hS | exact hS.1 | exact hS.2 | exact hS.2.1 | exact hS.2.2 | exact hS.2.2.1 | exact hS.2.2.2 | exact hS.2.2.2.1 | exact hS.2.2.2.2 | exact hS.cellsOf | exact (hS.pull 1).cellsOf | exact (hS.pull 2).cellsOf | exact (hS.pull 3).cellsOf | exact (hS.pull 4).cellsOf | exact (hS.pull 5).cellsOf | exact (hS.pull 6).cellsOf | exact hS.cells2 rfl rfl | exact (hS.pull 1).cells2 rfl rfl | exact (hS.pull 2).cells2 rfl rfl | exact (hS.pull 3).cells2 rfl rfl | exact (hS.pull 4).cells2 rfl rfl | exact (hS.pull 5).cells2 rfl rfl | exact (hS.pull 6).cells2 rfl rfl) ?_
                  refine x_call Try.f12 Try.func12 rfl rfl _ rfl ?_
                  refine (at08_calls q (hs.pull 3) hr (by omega)).mono ?_
                  clear hs; rintro e w ⟨rfl, hs⟩
                  replace hs := hs.push 3
                  try dsimp only [back] at hs
                  refine ⟨_, rfl, fun h => (by first | (cases h; done) | (first | exact hs.cells2 rfl rfl | exact (hs.pull 1).cells2 rfl rfl | exact (hs.pull 2).cells2 rfl rfl | exact (hs.pull 3).cells2 rfl rfl | exact (hs.pull 4).cells2 rfl rfl | exact (hs.pull 5).cells2 rfl rfl | exact (hs.pull 6).cells2 rfl rfl | exact (hs.pull 7).cells2 rfl rfl | exact (hs.pull 8).cells2 rfl rfl | exact hs.cell rfl | exact (hs.pull 1).cell rfl | exact (hs.pull 2).cell rfl | exact (hs.pull 3).cell rfl | exact (hs.pull 4).cell rfl | exact (hs.pull 5).cell rfl | exact (hs.pull 6).cell rfl | exact (hs.pull 7).cell rfl | exact (hs.pull 8).cell rfl | assumption | exact hs.cellsOf | exact (hs.pull 1).cellsOf | exact (hs.pull 2).cellsOf | exact (hs.pull 3).cellsOf | exact (hs.pull 4).cellsOf | exact (hs.pull 5).cellsOf | exact (hs.pull 6).cellsOf | exact (hs.pull 7).cellsOf | exact (hs.pull 8).cellsOf) | (and_intros <;> first | exact hs.cells2 rfl rfl | exact (hs.pull 1).cells2 rfl rfl | exact (hs.pull 2).cells2 rfl rfl | exact (hs.pull 3).cells2 rfl rfl | exact (hs.pull 4).cells2 rfl rfl | exact (hs.pull 5).cells2 rfl rfl | exact (hs.pull 6).cells2 rfl rfl | exact (hs.pull 7).cells2 rfl rfl | exact (hs.pull 8).cells2 rfl rfl | exact hs.cell rfl | exact (hs.pull 1).cell rfl | exact (hs.pull 2).cell rfl | exact (hs.pull 3).cell rfl | exact (hs.pull 4).cell rfl | exact (hs.pull 5).cell rfl | exact (hs.pull 6).cell rfl | exact (hs.pull 7).cell rfl | exact (hs.pull 8).cell rfl | assumption | exact hs.cellsOf | exact (hs.pull 1).cellsOf | exact (hs.pull 2).cellsOf | exact (hs.pull 3).cellsOf | exact (hs.pull 4).cellsOf | exact (hs.pull 5).cellsOf | exact (hs.pull 6).cellsOf | exact (hs.pull 7).cellsOf | exact (hs.pull 8).cellsOf)), ?_⟩
                  rw [show pix D.mem q = ((D.mem.idxOf q : Nat) : Int) from by unfold pix; rw [if_pos hqm]]
                  have hcw := hrow (hs.pull 1) q hqm
                  refine x_indexAddr Try.underlying31 sz_22 _ _ _ _ _ rfl rfl (by omega) ?_
                  refine x_load one_22 _ (.int _ _) rfl (by first | exact hs.cell rfl | exact (hs.pull 1).cell rfl | exact (hs.pull 2).cell rfl | exact (hs.pull 3).cell rfl | assumption | exact (hs.pull 4).cell rfl | exact (hs.pull 5).cell rfl | exact (hs.pull 6).cell rfl | exact (hs.pull 7).cell rfl) ?_
                  refine x_min _ _ ((min n (W.getD (D.mem.idxOf q) 0) : Nat) : Int) rfl rfl (by split <;> omega) ?_
                  refine x_assign (.int _ _) rfl ?_
                  refine x_nil ?_
                  refine inb_n ?_
                  refine then_n ?_
                  -- region 25
                  refine c_region ?_
                  refine x_move (.int _ _) rfl ?_
                  refine x_add _ _ rfl rfl (by simp only [X.lo]; omega) (by simp only [X.hi]; omega) ?_
                  refine x_assign (.int _ _) rfl ?_
                  refine x_nil ?_
                  refine then_n ?_
                  have hnA' : ∀ p ∈ lx.take (j + 1), min n (W.getD (D.mem.idxOf q) 0) ≤ W.getD (D.mem.idxOf p) 0 := fun p hp => by
                    rw [List.take_add_one, hq] at hp
                    simp only [Option.toList_some, List.mem_append, List.mem_singleton] at hp
                    rcases hp with hp | rfl
                    · have := hnA p hp; omega
                    · omega
                  refine ⟨(j + 1, min n (W.getD (D.mem.idxOf q) 0)), ⟨rfl, rfl, rfl, rfl, rfl, rfl, rfl, rfl, rfl, trivial⟩, ⟨by omega, hnA', hs⟩, by first | omega | (dsimp only; omega)⟩
                · skip
                  refine c_exit ?_
                  refine then_x ?_
                  refine then_x ?_
                  refine inb_e ?_
                  refine then_n ?_
                  -- region 27
                  have hcl1 := hcl (hs.pull 3)
                  refine c_region ?_
                  refine x_move (.pointer _) rfl ?_
                  refine x_move (.slice _ _ _) rfl ?_
                  refine x_move (.int _ _) rfl ?_
                  refine x_indexAddr Try.underlying28 sz_40 _ _ _ _ _ rfl rfl (by omega) ?_
                  first | refine x_field0 fa_40_2 _ rfl ?_ | refine x_field fa_40_2 _ _ rfl ?_
                  refine x_load one_3 _ (.int _ _) rfl (by first | exact hs.cell rfl | exact (hs.pull 1).cell rfl | exact (hs.pull 2).cell rfl | exact (hs.pull 3).cell rfl | assumption | exact (hs.pull 4).cell rfl | exact (hs.pull 5).cell rfl | exact (hs.pull 6).cell rfl | exact (hs.pull 7).cell rfl) ?_
                  refine x_move (.int _ _) rfl ?_
                  refine x_call Try.f14 Try.func14 rfl rfl _ rfl ?_
                  refine ((srepL_ex (k : Int) n hs)).mono ?_
                  clear hs; rintro e w ⟨r, rfl, hs⟩
                  refine ⟨_, rfl, fun h => (by first | (cases h; done) | (first | exact hs.cells2 rfl rfl | exact (hs.pull 1).cells2 rfl rfl | exact (hs.pull 2).cells2 rfl rfl | exact (hs.pull 3).cells2 rfl rfl | exact (hs.pull 4).cells2 rfl rfl | exact (hs.pull 5).cells2 rfl rfl | exact (hs.pull 6).cells2 rfl rfl | exact (hs.pull 7).cells2 rfl rfl | exact (hs.pull 8).cells2 rfl rfl | exact hs.cell rfl | exact (hs.pull 1).cell rfl | exact (hs.pull 2).cell rfl | exact (hs.pull 3).cell rfl | exact (hs.pull 4).cell rfl | exact (hs.pull 5).cell rfl | exact (hs.pull 6).cell rfl | exact (hs.pull 7).cell rfl | exact (hs.pull 8).cell rfl | assumption | exact hs.cellsOf | exact (hs.pull 1).cellsOf | exact (hs.pull 2).cellsOf | exact (hs.pull 3).cellsOf | exact (hs.pull 4).cellsOf | exact (hs.pull 5).cellsOf | exact (hs.pull 6).cellsOf | exact (hs.pull 7).cellsOf | exact (hs.pull 8).cellsOf) | (and_intros <;> first | exact hs.cells2 rfl rfl | exact (hs.pull 1).cells2 rfl rfl | exact (hs.pull 2).cells2 rfl rfl | exact (hs.pull 3).cells2 rfl rfl | exact (hs.pull 4).cells2 rfl rfl | exact (hs.pull 5).cells2 rfl rfl | exact (hs.pull 6).cells2 rfl rfl | exact (hs.pull 7).cells2 rfl rfl | exact (hs.pull 8).cells2 rfl rfl | exact hs.cell rfl | exact (hs.pull 1).cell rfl | exact (hs.pull 2).cell rfl | exact (hs.pull 3).cell rfl | exact (hs.pull 4).cell rfl | exact (hs.pull 5).cell rfl | exact (hs.pull 6).cell rfl | exact (hs.pull 7).cell rfl | exact (hs.pull 8).cell rfl | assumption | exact hs.cellsOf | exact (hs.pull 1).cellsOf | exact (hs.pull 2).cellsOf | exact (hs.pull 3).cellsOf | exact (hs.pull 4).cellsOf | exact (hs.pull 5).cellsOf | exact (hs.pull 6).cellsOf | exact (hs.pull 7).cellsOf | exact (hs.pull 8).cellsOf)), ?_⟩
                  rw [List.take_of_length_le (by omega)] at hnA
                  obtain ⟨hinv2, hmo⟩ := hinv.repL hV (j := k) (n := n) (fun p hp => hnA p (by rw [← hgd]; exact hp))
                  have hle2 := hleast hinv2
                  refine x_nil ?_
                  refine then_n ?_
                  refine c_seq ?_
                  refine c_seq ?_
                  -- region 28
                  refine c_region ?_
                  refine x_move (.pointer _) rfl ?_
                  refine x_call Try.f15 Try.func15 rfl rfl _ rfl ?_
                  refine ((all_is hs rfl)).mono ?_
                  clear hs; rintro e w ⟨rfl, hs⟩
                  refine ⟨_, rfl, fun h => (by first | (cases h; done) | (first | exact hs.cells2 rfl rfl | exact (hs.pull 1).cells2 rfl rfl | exact (hs.pull 2).cells2 rfl rfl | exact (hs.pull 3).cells2 rfl rfl | exact (hs.pull 4).cells2 rfl rfl | exact (hs.pull 5).cells2 rfl rfl | exact (hs.pull 6).cells2 rfl rfl | exact (hs.pull 7).cells2 rfl rfl | exact (hs.pull 8).cells2 rfl rfl | exact hs.cell rfl | exact (hs.pull 1).cell rfl | exact (hs.pull 2).cell rfl | exact (hs.pull 3).cell rfl | exact (hs.pull 4).cell rfl | exact (hs.pull 5).cell rfl | exact (hs.pull 6).cell rfl | exact (hs.pull 7).cell rfl | exact (hs.pull 8).cell rfl | assumption | exact hs.cellsOf | exact (hs.pull 1).cellsOf | exact (hs.pull 2).cellsOf | exact (hs.pull 3).cellsOf | exact (hs.pull 4).cellsOf | exact (hs.pull 5).cellsOf | exact (hs.pull 6).cellsOf | exact (hs.pull 7).cellsOf | exact (hs.pull 8).cellsOf) | (and_intros <;> first | exact hs.cells2 rfl rfl | exact (hs.pull 1).cells2 rfl rfl | exact (hs.pull 2).cells2 rfl rfl | exact (hs.pull 3).cells2 rfl rfl | exact (hs.pull 4).cells2 rfl rfl | exact (hs.pull 5).cells2 rfl rfl | exact (hs.pull 6).cells2 rfl rfl | exact (hs.pull 7).cells2 rfl rfl | exact (hs.pull 8).cells2 rfl rfl | exact hs.cell rfl | exact (hs.pull 1).cell rfl | exact (hs.pull 2).cell rfl | exact (hs.pull 3).cell rfl | exact (hs.pull 4).cell rfl | exact (hs.pull 5).cell rfl | exact (hs.pull 6).cell rfl | exact (hs.pull 7).cell rfl | exact (hs.pull 8).cell rfl | assumption | exact hs.cellsOf | exact (hs.pull 1).cellsOf | exact (hs.pull 2).cellsOf | exact (hs.pull 3).cellsOf | exact (hs.pull 4).cellsOf | exact (hs.pull 5).cellsOf | exact (hs.pull 6).cellsOf | exact (hs.pull 7).cellsOf | exact (hs.pull 8).cellsOf)), ?_⟩
                  refine x_move (.int _ _) rfl ?_
                  refine x_gtrF _ _ rfl rfl (by omega) ?_
                  refine x_move (.bool _) rfl ?_
                  refine x_want' rfl ?_
                  refine x_move (.pointer _) rfl ?_
                  refine x_want' rfl ?_
                  refine x_call Try.f15 Try.func15 rfl rfl _ rfl ?_
                  refine ((all_is hs rfl)).mono ?_
                  clear hs; rintro e w ⟨rfl, hs⟩
                  refine ⟨_, rfl, fun h => (by first | (cases h; done) | (first | exact hs.cells2 rfl rfl | exact (hs.pull 1).cells2 rfl rfl | exact (hs.pull 2).cells2 rfl rfl | exact (hs.pull 3).cells2 rfl rfl | exact (hs.pull 4).cells2 rfl rfl | exact (hs.pull 5).cells2 rfl rfl | exact (hs.pull 6).cells2 rfl rfl | exact (hs.pull 7).cells2 rfl rfl | exact (hs.pull 8).cells2 rfl rfl | exact hs.cell rfl | exact (hs.pull 1).cell rfl | exact (hs.pull 2).cell rfl | exact (hs.pull 3).cell rfl | exact (hs.pull 4).cell rfl | exact (hs.pull 5).cell rfl | exact (hs.pull 6).cell rfl | exact (hs.pull 7).cell rfl | exact (hs.pull 8).cell rfl | assumption | exact hs.cellsOf | exact (hs.pull 1).cellsOf | exact (hs.pull 2).cellsOf | exact (hs.pull 3).cellsOf | exact (hs.pull 4).cellsOf | exact (hs.pull 5).cellsOf | exact (hs.pull 6).cellsOf | exact (hs.pull 7).cellsOf | exact (hs.pull 8).cellsOf) | (and_intros <;> first | exact hs.cells2 rfl rfl | exact (hs.pull 1).cells2 rfl rfl | exact (hs.pull 2).cells2 rfl rfl | exact (hs.pull 3).cells2 rfl rfl | exact (hs.pull 4).cells2 rfl rfl | exact (hs.pull 5).cells2 rfl rfl | exact (hs.pull 6).cells2 rfl rfl | exact (hs.pull 7).cells2 rfl rfl | exact (hs.pull 8).cells2 rfl rfl | exact hs.cell rfl | exact (hs.pull 1).cell rfl | exact (hs.pull 2).cell rfl | exact (hs.pull 3).cell rfl | exact (hs.pull 4).cell rfl | exact (hs.pull 5).cell rfl | exact (hs.pull 6).cell rfl | exact (hs.pull 7).cell rfl | exact (hs.pull 8).cell rfl | assumption | exact hs.cellsOf | exact (hs.pull 1).cellsOf | exact (hs.pull 2).cellsOf | exact (hs.pull 3).cellsOf | exact (hs.pull 4).cellsOf | exact (hs.pull 5).cellsOf | exact (hs.pull 6).cellsOf | exact (hs.pull 7).cellsOf | exact (hs.pull 8).cellsOf)), ?_⟩
                  refine x_want' rfl ?_
                  refine x_move (.int _ _) rfl ?_
                  refine x_want' rfl ?_
                  refine x_lssF _ _ rfl rfl (by omega) ?_
                  refine x_pickF (.bool _) rfl rfl ?_
                  refine x_nil ?_
                  refine then_n ?_
                  refine c_false rfl ?_
                  refine c_skip ?_
                  refine then_n ?_
                  -- region 30
                  refine c_region ?_
                  refine x_move (.pointer _) rfl ?_
                  refine x_call Try.f15 Try.func15 rfl rfl _ rfl ?_
                  refine ((all_is hs rfl)).mono ?_
                  clear hs; rintro e w ⟨rfl, hs⟩
                  refine ⟨_, rfl, fun h => (by first | (cases h; done) | (first | exact hs.cells2 rfl rfl | exact (hs.pull 1).cells2 rfl rfl | exact (hs.pull 2).cells2 rfl rfl | exact (hs.pull 3).cells2 rfl rfl | exact (hs.pull 4).cells2 rfl rfl | exact (hs.pull 5).cells2 rfl rfl | exact (hs.pull 6).cells2 rfl rfl | exact (hs.pull 7).cells2 rfl rfl | exact (hs.pull 8).cells2 rfl rfl | exact hs.cell rfl | exact (hs.pull 1).cell rfl | exact (hs.pull 2).cell rfl | exact (hs.pull 3).cell rfl | exact (hs.pull 4).cell rfl | exact (hs.pull 5).cell rfl | exact (hs.pull 6).cell rfl | exact (hs.pull 7).cell rfl | exact (hs.pull 8).cell rfl | assumption | exact hs.cellsOf | exact (hs.pull 1).cellsOf | exact (hs.pull 2).cellsOf | exact (hs.pull 3).cellsOf | exact (hs.pull 4).cellsOf | exact (hs.pull 5).cellsOf | exact (hs.pull 6).cellsOf | exact (hs.pull 7).cellsOf | exact (hs.pull 8).cellsOf) | (and_intros <;> first | exact hs.cells2 rfl rfl | exact (hs.pull 1).cells2 rfl rfl | exact (hs.pull 2).cells2 rfl rfl | exact (hs.pull 3).cells2 rfl rfl | exact (hs.pull 4).cells2 rfl rfl | exact (hs.pull 5).cells2 rfl rfl | exact (hs.pull 6).cells2 rfl rfl | exact (hs.pull 7).cells2 rfl rfl | exact (hs.pull 8).cells2 rfl rfl | exact hs.cell rfl | exact (hs.pull 1).cell rfl | exact (hs.pull 2).cell rfl | exact (hs.pull 3).cell rfl | exact (hs.pull 4).cell rfl | exact (hs.pull 5).cell rfl | exact (hs.pull 6).cell rfl | exact (hs.pull 7).cell rfl | exact (hs.pull 8).cell rfl | assumption | exact hs.cellsOf | exact (hs.pull 1).cellsOf | exact (hs.pull 2).cellsOf | exact (hs.pull 3).cellsOf | exact (hs.pull 4).cellsOf | exact (hs.pull 5).cellsOf | exact (hs.pull 6).cellsOf | exact (hs.pull 7).cellsOf | exact (hs.pull 8).cellsOf)), ?_⟩
                  refine x_assign (.int _ _) rfl ?_
                  refine x_nil ?_
                  refine inb_n ?_
                  refine then_n ?_
                  -- region 17
                  refine c_region ?_
                  refine x_move (.int _ _) rfl ?_
                  refine x_add _ _ rfl rfl (by simp only [X.lo]; omega) (by simp only [X.hi]; omega) ?_
                  refine x_assign (.int _ _) rfl ?_
                  refine x_nil ?_
                  refine then_n ?_
                  refine ⟨(i + 1, _, _), ⟨rfl, rfl, rfl, rfl, rfl, rfl, rfl, trivial⟩, ⟨by omega, by assumption, rfl, hs⟩, by first | omega | (dsimp only; omega)⟩
            · skip
              refine c_seq ?_
              refine c_seq ?_
              -- region 16
              refine c_region ?_
              refine x_move (.int _ _) rfl ?_
              refine x_move (.slice _ _ _) rfl ?_
              refine x_lenSl Try.underlying28 _ _ _ rfl ?_
              refine x_lssT _ _ rfl rfl (by omega) ?_
              refine x_move (.bool _) rfl ?_
              refine x_want' rfl ?_
              refine x_move (.int _ _) rfl ?_
              refine x_want' rfl ?_
              refine x_lssF _ _ rfl rfl (by omega) ?_
              refine x_pickT (.bool _) rfl rfl ?_
              refine x_nil ?_
              refine then_n ?_
              refine c_false rfl ?_
              refine c_exit ?_
              refine then_x ?_
              refine then_x ?_
              refine inb_e ?_
              refine then_n ?_
              exact ⟨(), ⟨rfl, trivial⟩, hs.sel [3] 4⟩
            · skip
              refine c_seq ?_
              refine c_seq ?_
              -- region 16
              refine c_region ?_
              refine x_move (.int _ _) rfl ?_
              refine x_move (.slice _ _ _) rfl ?_
              refine x_lenSl Try.underlying28 _ _ _ rfl ?_
              refine x_lssF _ _ rfl rfl (by omega) ?_
              refine x_move (.bool _) rfl ?_
              refine x_skip rfl rfl ?_
              refine x_skip rfl rfl ?_
              refine x_pickF (.bool _) rfl rfl ?_
              refine x_nil ?_
              refine then_n ?_
              refine c_false rfl ?_
              refine c_exit ?_
              refine then_x ?_
              refine then_x ?_
              refine inb_e ?_
              refine then_n ?_
              exact ⟨(), ⟨rfl, trivial⟩, hs.sel [3] 4⟩
          · skip
            clear hs
            rintro _u ρ w hs
            change CW Try.prog 192 _ _ (sets 192 [(11, .pointer (some ⟨f, 0, none⟩))] ρ) w
            refine c_seq ?_
            -- region 31
            refine c_region ?_
            refine x_call Try.f10 Try.func10 rfl rfl _ rfl ?_
            refine (awake26_calls hs).mono ?_
            clear hs; rintro e w ⟨rfl, hs⟩
            refine ⟨_, rfl, fun h => (by first | (cases h; done) | (first | exact hs.cells2 rfl rfl | exact (hs.pull 1).cells2 rfl rfl | exact (hs.pull 2).cells2 rfl rfl | exact (hs.pull 3).cells2 rfl rfl | exact (hs.pull 4).cells2 rfl rfl | exact (hs.pull 5).cells2 rfl rfl | exact (hs.pull 6).cells2 rfl rfl | exact (hs.pull 7).cells2 rfl rfl | exact (hs.pull 8).cells2 rfl rfl | exact hs.cell rfl | exact (hs.pull 1).cell rfl | exact (hs.pull 2).cell rfl | exact (hs.pull 3).cell rfl | exact (hs.pull 4).cell rfl | exact (hs.pull 5).cell rfl | exact (hs.pull 6).cell rfl | exact (hs.pull 7).cell rfl | exact (hs.pull 8).cell rfl | assumption | exact hs.cellsOf | exact (hs.pull 1).cellsOf | exact (hs.pull 2).cellsOf | exact (hs.pull 3).cellsOf | exact (hs.pull 4).cellsOf | exact (hs.pull 5).cellsOf | exact (hs.pull 6).cellsOf | exact (hs.pull 7).cellsOf | exact (hs.pull 8).cellsOf) | (and_intros <;> first | exact hs.cells2 rfl rfl | exact (hs.pull 1).cells2 rfl rfl | exact (hs.pull 2).cells2 rfl rfl | exact (hs.pull 3).cells2 rfl rfl | exact (hs.pull 4).cells2 rfl rfl | exact (hs.pull 5).cells2 rfl rfl | exact (hs.pull 6).cells2 rfl rfl | exact (hs.pull 7).cells2 rfl rfl | exact (hs.pull 8).cells2 rfl rfl | exact hs.cell rfl | exact (hs.pull 1).cell rfl | exact (hs.pull 2).cell rfl | exact (hs.pull 3).cell rfl | exact (hs.pull 4).cell rfl | exact (hs.pull 5).cell rfl | exact (hs.pull 6).cell rfl | exact (hs.pull 7).cell rfl | exact (hs.pull 8).cell rfl | assumption | exact hs.cellsOf | exact (hs.pull 1).cellsOf | exact (hs.pull 2).cellsOf | exact (hs.pull 3).cellsOf | exact (hs.pull 4).cellsOf | exact (hs.pull 5).cellsOf | exact (hs.pull 6).cellsOf | exact (hs.pull 7).cellsOf | exact (hs.pull 8).cellsOf)), ?_⟩
            refine x_assign (.bool _) rfl ?_
            refine x_nil ?_
            refine then_n ?_
            refine c_ret ?_
            refine ⟨.inr rfl, ?_⟩
            exact ⟨rfl, hs⟩
  · skip
    refine x_move (.bool _) rfl ?_
    refine x_skip rfl rfl ?_
    refine x_skip rfl rfl ?_
    refine x_skip rfl rfl ?_
    refine x_pickT (.bool _) rfl rfl ?_
    refine x_nil ?_
    refine then_n ?_
    refine c_true rfl ?_
    refine c_seq ?_
    -- region 2
    refine c_region ?_
    refine x_call Try.f10 Try.func10 rfl rfl _ rfl ?_
    refine (awake26_calls hs).mono ?_
    clear hs; rintro e w ⟨rfl, hs⟩
    refine ⟨_, rfl, fun h => (by first | (cases h; done) | (first | exact hs.cells2 rfl rfl | exact (hs.pull 1).cells2 rfl rfl | exact (hs.pull 2).cells2 rfl rfl | exact (hs.pull 3).cells2 rfl rfl | exact (hs.pull 4).cells2 rfl rfl | exact (hs.pull 5).cells2 rfl rfl | exact (hs.pull 6).cells2 rfl rfl | exact (hs.pull 7).cells2 rfl rfl | exact (hs.pull 8).cells2 rfl rfl | exact hs.cell rfl | exact (hs.pull 1).cell rfl | exact (hs.pull 2).cell rfl | exact (hs.pull 3).cell rfl | exact (hs.pull 4).cell rfl | exact (hs.pull 5).cell rfl | exact (hs.pull 6).cell rfl | exact (hs.pull 7).cell rfl | exact (hs.pull 8).cell rfl | assumption | exact hs.cellsOf | exact (hs.pull 1).cellsOf | exact (hs.pull 2).cellsOf | exact (hs.pull 3).cellsOf | exact (hs.pull 4).cellsOf | exact (hs.pull 5).cellsOf | exact (hs.pull 6).cellsOf | exact (hs.pull 7).cellsOf | exact (hs.pull 8).cellsOf) | (and_intros <;> first | exact hs.cells2 rfl rfl | exact (hs.pull 1).cells2 rfl rfl | exact (hs.pull 2).cells2 rfl rfl | exact (hs.pull 3).cells2 rfl rfl | exact (hs.pull 4).cells2 rfl rfl | exact (hs.pull 5).cells2 rfl rfl | exact (hs.pull 6).cells2 rfl rfl | exact (hs.pull 7).cells2 rfl rfl | exact (hs.pull 8).cells2 rfl rfl | exact hs.cell rfl | exact (hs.pull 1).cell rfl | exact (hs.pull 2).cell rfl | exact (hs.pull 3).cell rfl | exact (hs.pull 4).cell rfl | exact (hs.pull 5).cell rfl | exact (hs.pull 6).cell rfl | exact (hs.pull 7).cell rfl | exact (hs.pull 8).cell rfl | assumption | exact hs.cellsOf | exact (hs.pull 1).cellsOf | exact (hs.pull 2).cellsOf | exact (hs.pull 3).cellsOf | exact (hs.pull 4).cellsOf | exact (hs.pull 5).cellsOf | exact (hs.pull 6).cellsOf | exact (hs.pull 7).cellsOf | exact (hs.pull 8).cellsOf)), ?_⟩
    refine x_assign (.bool _) rfl ?_
    refine x_nil ?_
    refine then_n ?_
    refine c_ret ?_
    refine then_r ?_
    refine ⟨.inr rfl, ?_⟩
    exact ⟨rfl, hs.tail⟩
end Go.Proofs.Ytcehbdmpjebmbaa.X
