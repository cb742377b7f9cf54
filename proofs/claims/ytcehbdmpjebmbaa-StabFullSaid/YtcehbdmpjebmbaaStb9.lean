/-
  LAYER 26: how far all are; the law StabFull.
-/
import Derived.Test.YtcehbdmpjebmbaaStb7
import Derived.Test.YtcehbdmpjebmbaaVw3
import Derived.Test.YtcehbdmpjebmbaaFoc
namespace Go.Proofs.Ytcehbdmpjebmbaa.X
open Go Go.RowKit
set_option linter.unusedVariables false
set_option maxRecDepth 20000
/-- what is asked of a view's members and leaves -/
structure SVG (V : SV) : Prop where
  nodup : V.mem.Nodup
  cov : ∀ p ∈ V.mem, ∃ k, k < V.lls.length ∧ p ∈ V.lls.getD k []
  sub : ∀ k, k < V.lls.length → ∀ p ∈ V.lls.getD k [], p ∈ V.mem
  ne : ∀ k, k < V.lls.length → V.lls.getD k [] ≠ []
  pos : 0 < V.mem.length
theorem VGood.svg {x : View} (h : VGood x) : SVG x.sv := by
  have hg : ∀ k, k < x.sv.lls.length → ∃ a ∈ x.Leaves.2, x.sv.lls.getD k [] = a.2 := fun k hk => by
    have hk' : k < x.Leaves.2.length := by unfold View.sv at hk; simpa using hk
    refine ⟨x.Leaves.2[k], List.getElem_mem hk', ?_⟩
    unfold View.sv
    rw [List.getD_eq_getElem?_getD, List.getElem?_map, List.getElem?_eq_getElem hk']
    rfl
  refine ⟨h.nodup, fun p hp => ?_, fun k hk p hp => ?_, fun k hk => ?_, h.pos⟩
  · obtain ⟨a, ha, hpa⟩ := h.cov p hp
    obtain ⟨k, hk, rfl⟩ := List.mem_iff_getElem.1 ha
    refine ⟨k, by unfold View.sv; simpa using hk, ?_⟩
    unfold View.sv
    rw [List.getD_eq_getElem?_getD, List.getElem?_map, List.getElem?_eq_getElem hk]
    exact hpa
  · obtain ⟨a, ha, e⟩ := hg k hk
    rw [e] at hp
    exact h.sub a ha p hp
  · obtain ⟨a, ha, e⟩ := hg k hk
    rw [e]
    exact h.ne a ha
theorem le_minL (A : Pid → Nat) (c : Nat) (l : List Pid) : c ≤ minL A l ↔ c ≤ U64 ∧ ∀ p ∈ l, c ≤ A p := by
  have key : ∀ (l : List Pid) (m : Nat), c ≤ l.foldl (fun m p => min m (A p)) m ↔ c ≤ m ∧ ∀ p ∈ l, c ≤ A p := by
    intro l
    induction l with
    | nil => intro m; simp
    | cons a l ih =>
      intro m
      simp only [List.foldl_cons, ih, Nat.le_min, List.forall_mem_cons, and_assoc]
  exact key l _
theorem le_allF (V : SV) (s : SSt) (c i : Nat) : c ≤ allF V s i ↔ c ≤ leafV V s 0 ∧ ∀ k, k < i → c ≤ leafV V s k := by
  induction i with
  | zero => simp [allF]
  | succ i ih =>
    rw [allF_succ, Nat.le_min, ih]
    constructor
    · rintro ⟨⟨h1, h2⟩, h3⟩
      refine ⟨h1, fun k hk => ?_⟩
      by_cases hki : k = i
      · subst hki; exact h3
      · exact h2 k (by omega)
    · rintro ⟨h1, h2⟩
      exact ⟨⟨h1, fun k hk => h2 k (by omega)⟩, h2 i (by omega)⟩
theorem SVG.le_allV {V : SV} (h : SVG V) (s : SSt) (c : Nat) : c ≤ allV V s ↔ ∀ k, k < V.lls.length → c ≤ leafV V s k := by
  obtain ⟨k0, hk0, -⟩ := h.cov _ (List.getElem_mem h.pos)
  unfold allV
  rw [if_neg (by omega), le_allF]
  exact ⟨fun h => h.2, fun h => ⟨h 0 (by omega), h⟩⟩
theorem SVG.leafV {V : SV} (h : SVG V) (s : SSt) {k : Nat} (hk : k < V.lls.length) : X.leafV V s k = max (minL (getN s.ps) (V.lls.getD k [])) (getN s.lv k) := by
  unfold X.leafV
  rw [if_neg (h.ne k hk)]
/-- all are at most as far as each -/
theorem SVG.all_le {V : SV} (h : SVG V) (s : SSt) {p : Pid} {c : Nat} (hp : p ∈ V.mem) (h1 : getN s.ps p ≤ c) (h2 : ∀ k, k < V.lls.length → p ∈ V.lls.getD k [] → getN s.lv k ≤ c) : allV V s ≤ c := by
  obtain ⟨k, hk, hpk⟩ := h.cov p hp
  have h3 := (h.le_allV s _).1 (Nat.le_refl _) k hk
  rw [h.leafV s hk] at h3
  have h4 := ((le_minL (getN s.ps) _ (V.lls.getD k [])).1 (Nat.le_refl _)).2 p hpk
  have h5 := h2 k hk hpk
  omega
theorem SVG.le_all {V : SV} (h : SVG V) (s : SSt) {c : Nat} (hc : c ≤ U64) (h1 : ∀ p ∈ V.mem, c ≤ getN s.ps p) : c ≤ allV V s := by
  rw [h.le_allV]
  intro k hk
  rw [h.leafV s hk]
  have := (le_minL (getN s.ps) c (V.lls.getD k [])).2 ⟨hc, fun p hp => h1 p (h.sub k hk p hp)⟩
  omega
theorem rep_one {V : SV} {s : SSt} {p : Pid} {n : Nat} (hp : p ∈ V.mem) (h0 : getN s.ps p = 0) (hn : 1 ≤ n) : s.rep V p n = (true, { s with ps := mset p n s.ps }) := by
  unfold SSt.rep
  rw [if_pos ⟨hp, by omega⟩]
theorem rep_two {V : SV} {s : SSt} {p : Pid} {n : Nat} : ({ s with ps := mset p n s.ps } : SSt).rep V p n = (false, { s with ps := mset p n s.ps }) := by
  unfold SSt.rep
  rw [if_neg (fun h => by have := h.2; dsimp only at this; rw [getN_set, if_pos rfl] at this; omega)]
theorem frep_T {w0 w : World} {L : List HP} {f : Nat} {V : SV} {s : SSt} {p : Pid} {n : Nat} (hs : Sat w0 w (SO f V s :: L)) (hp : p ∈ V.mem) (h0 : getN s.ps p = 0) (hn : 1 ≤ n) :
    Calls Try.prog 13 #[.pointer (some ⟨f, 0, none⟩), .agg #[.int .u16 (p.Id : Nat), .int .u32 (p.Inc : Nat)], .int .u64 (n : Nat)] w fun e w' => e = .returned (.bool true) ∧ Sat w0 w' (SO f V { s with ps := mset p n s.ps } :: L) := by
  have := sreport_calls (V := V) p n hs
  rw [rep_one hp h0 hn] at this
  exact this
theorem frep_F {w0 w : World} {L : List HP} {f : Nat} {V : SV} {s : SSt} {p : Pid} {n : Nat} (hs : Sat w0 w (SO f V { s with ps := mset p n s.ps } :: L)) :
    Calls Try.prog 13 #[.pointer (some ⟨f, 0, none⟩), .agg #[.int .u16 (p.Id : Nat), .int .u32 (p.Inc : Nat)], .int .u64 (n : Nat)] w fun e w' => e = .returned (.bool false) ∧ Sat w0 w' (SO f V { s with ps := mset p n s.ps } :: L) := by
  have := sreport_calls (V := V) p n hs
  rw [rep_two] at this
  exact this
theorem all_is {w0 w : World} {L : List HP} {f n : Nat} {V : SV} {s : SSt} (hs : Sat w0 w (SO f V s :: L)) (h : allV V s = n) :
    Calls Try.prog 15 #[.pointer (some ⟨f, 0, none⟩)] w fun e w' => e = .returned (.int .u64 (n : Nat)) ∧ Sat w0 w' (SO f V s :: L) := h ▸ sall_calls hs
theorem check_d {w0 w : World} {A : HP} {L : List HP} {D : VD} (hs : Sat w0 w (A :: L)) (hr : DR w0 A D) (hx : VSmall D.v) (hid : D.Id ≤ U64) :
    Calls Try.prog 9 #[.agg #[.int .u64 (D.Id : Nat), .slice D.am D.mem.length D.cm, .slice D.al D.lvs.length D.cl, .slice D.ad D.lds.length D.cd]] w fun e w' => ∃ r, e = .returned (.bool r) ∧ Sat w0 w' (A :: L) ∧ (r = true → VGood D.v) := vcheck_calls hs hr hx hid
theorem bv_get {l : List UInt8} {i : Nat} {x : UInt8} (h : l[i]? = some x) : (bv l)[i]? = some (.int .u8 (x.toNat : Nat)) := by
  unfold bv
  rw [List.getElem?_map, h]
  rfl
/-- as far as number i: what each has told -/
structure FFull (V : SV) (s : SSt) (i lst : Nat) : Prop where
  done : ∀ j p, V.mem[j]? = some p → j < i → 1 ≤ getN s.ps p ∧ lst ≤ getN s.ps p ∧ getN s.ps p ≤ 256
  rest : ∀ j p, V.mem[j]? = some p → i ≤ j → getN s.ps p = 0
  lv : ∀ k, getN s.lv k = 0
  top : lst ≤ U64
  hit : (i = 0 ∧ lst = U64) ∨ ∃ j p, j < i ∧ V.mem[j]? = some p ∧ getN s.ps p = lst
theorem FFull.start (V : SV) : FFull V ⟨[], []⟩ 0 U64 := ⟨fun j p h hj => by omega, fun j p h hj => rfl, fun k => rfl, Nat.le_refl _, .inl ⟨rfl, rfl⟩⟩
theorem FFull.zero {V : SV} {s : SSt} {i lst : Nat} (h : FFull V s i lst) (hV : SVG V) (hi : i < V.mem.length) : allV V s = 0 := by
  have h0 := h.rest i _ (List.getElem?_eq_getElem hi) (Nat.le_refl _)
  have := hV.all_le s (p := V.mem[i]) (c := 0) (List.getElem_mem hi) (by omega) (fun k _ _ => by rw [h.lv k]; omega)
  omega
theorem FFull.next {V : SV} {s : SSt} {i lst n : Nat} {p : Pid} (h : FFull V s i lst) (hV : SVG V) (hp : V.mem[i]? = some p) (h1 : 1 ≤ n) (h2 : n ≤ 256) : FFull V { s with ps := mset p n s.ps } (i + 1) (min lst n) := by
  have hne : ∀ j q, V.mem[j]? = some q → j ≠ i → q ≠ p := fun j q hq hji e => by
    subst e
    obtain ⟨hj, e1⟩ := List.getElem?_eq_some_iff.1 hq
    obtain ⟨hi, e2⟩ := List.getElem?_eq_some_iff.1 hp
    have hnd := hV.nodup
    rw [List.nodup_iff_pairwise_ne, List.pairwise_iff_getElem] at hnd
    rcases Nat.lt_or_gt_of_ne hji with hlt | hlt
    · exact hnd j i hj hi hlt (e1.trans e2.symm)
    · exact hnd i j hi hj hlt (e2.trans e1.symm)
  refine ⟨fun j q hq hj => ?_, fun j q hq hj => ?_, h.lv, by have := h.top; omega, .inr ?_⟩
  · show 1 ≤ getN (mset p n s.ps) q ∧ _ ≤ getN (mset p n s.ps) q ∧ getN (mset p n s.ps) q ≤ 256
    rw [getN_set]
    by_cases hji : j = i
    · subst hji
      rw [hp] at hq
      cases hq
      rw [if_pos rfl]
      omega
    · rw [if_neg (hne j q hq hji)]
      have := h.done j q hq (by omega)
      omega
  · show getN (mset p n s.ps) q = 0
    rw [getN_set, if_neg (hne j q hq (by omega))]
    exact h.rest j q hq (by omega)
  · by_cases hn : n ≤ lst
    · exact ⟨i, p, by omega, hp, by show getN (mset p n s.ps) p = _; rw [getN_set, if_pos rfl]; omega⟩
    · rcases h.hit with ⟨_, h0⟩ | ⟨j, q, hj, hq, he⟩
      · unfold U64 at h0; omega
      · exact ⟨j, q, by omega, hq, by show getN (mset p n s.ps) q = _; rw [getN_set, if_neg (hne j q hq (by omega))]; omega⟩
theorem FFull.all {V : SV} {s : SSt} {lst : Nat} (h : FFull V s V.mem.length lst) (hV : SVG V) : allV V s = lst := by
  refine Nat.le_antisymm ?_ (hV.le_all s h.top fun p hp => ?_)
  · rcases h.hit with ⟨h0, _⟩ | ⟨j, q, hj, hq, he⟩
    · have := hV.pos; omega
    · exact hV.all_le s (List.mem_of_getElem? hq) (by omega) (fun k _ _ => by rw [h.lv k]; omega)
  · obtain ⟨j, hj, rfl⟩ := List.mem_iff_getElem.1 hp
    exact (h.done j _ (List.getElem?_eq_getElem hj) hj).2.1
set_option maxHeartbeats 1000000 in
theorem walk_StabFull {H : Type} {enc : TypeId × Value → H} {w0 : World} {cs0 : Array Value} {a1 : Option Addr} {l1 c1 : Nat} (h0 : TR enc Try.prog w0 26 cs0.toList) (h1 : TR enc Try.prog w0 27 [.slice a1 l1 c1]) :
    Calls Try.prog 4 #[.agg cs0, .slice a1 l1 c1] w0 fun e w' => e = .returned (.bool true) ∧ Below w0.heap.size w0 w' := by
  have hid0 := TR.View h0
  obtain ⟨D, rfl, hdl, hin⟩ := TR.viewD h0
  have hid : D.Id ≤ U64 := by
    obtain ⟨x, hx, hf⟩ := hid0
    have h2 := hf.Id
    simp [View.cells] at hx
    have : x.Id = D.Id := by omega
    rw [← this]
    exact h2
  clear hid0
  obtain ⟨cs, rfl, hrb, hclen⟩ := TR.argB Try.underlying27 Try.underlying5 (by kernel_rfl) h1
  refine law_of fun w hs => ?_
  have hinb : ∀ w' L', Sat w0 w' (Init w0 :: L') → RB w' (.slice a1 cs.length c1) cs := fun w' L' h => RD.below hrb h.init
  clear h0 h1 hrb
  refine enter Try.func4 rfl Try.ntmps4 4 rfl (Nat.le_of_ble_eq_true rfl) ?_
  refine c_seq ?_
  -- region 0
  refine c_region ?_
  refine x_box hs (.agg #[_, _, _, _]) rfl ?_; clear hs; intro b2 w hs; refine ⟨fun h => (by first | (cases h; done) | (first | exact hs.cells2 rfl rfl | exact (hs.pull 1).cells2 rfl rfl | exact (hs.pull 2).cells2 rfl rfl | exact (hs.pull 3).cells2 rfl rfl | exact (hs.pull 4).cells2 rfl rfl | exact (hs.pull 5).cells2 rfl rfl | exact (hs.pull 6).cells2 rfl rfl | exact (hs.pull 7).cells2 rfl rfl | exact (hs.pull 8).cells2 rfl rfl | exact hs.cell rfl | exact (hs.pull 1).cell rfl | exact (hs.pull 2).cell rfl | exact (hs.pull 3).cell rfl | exact (hs.pull 4).cell rfl | exact (hs.pull 5).cell rfl | exact (hs.pull 6).cell rfl | exact (hs.pull 7).cell rfl | exact (hs.pull 8).cell rfl | assumption | exact hs.cellsOf | exact (hs.pull 1).cellsOf | exact (hs.pull 2).cellsOf | exact (hs.pull 3).cellsOf | exact (hs.pull 4).cellsOf | exact (hs.pull 5).cellsOf | exact (hs.pull 6).cellsOf | exact (hs.pull 7).cellsOf | exact (hs.pull 8).cellsOf) | (and_intros <;> first | exact hs.cells2 rfl rfl | exact (hs.pull 1).cells2 rfl rfl | exact (hs.pull 2).cells2 rfl rfl | exact (hs.pull 3).cells2 rfl rfl | exact (hs.pull 4).cells2 rfl rfl | exact (hs.pull 5).cells2 rfl rfl | exact (hs.pull 6).cells2 rfl rfl | exact (hs.pull 7).cells2 rfl rfl | exact (hs.pull 8).cells2 rfl rfl | exact hs.cell rfl | exact (hs.pull 1).cell rfl | exact (hs.pull 2).cell rfl | exact (hs.pull 3).cell rfl | exact (hs.pull 4).cell rfl | exact (hs.pull 5).cell rfl | exact (hs.pull 6).cell rfl | exact (hs.pull 7).cell rfl | exact (hs.pull 8).cell rfl | assumption | exact hs.cellsOf | exact (hs.pull 1).cellsOf | exact (hs.pull 2).cellsOf | exact (hs.pull 3).cellsOf | exact (hs.pull 4).cellsOf | exact (hs.pull 5).cellsOf | exact (hs.pull 6).cellsOf | exact (hs.pull 7).cellsOf | exact (hs.pull 8).cellsOf)), ?_⟩
  refine x_assign (.bool _) rfl ?_
  refine x_nil ?_
  refine then_n ?_
  refine c_seq ?_
  refine c_seq ?_
  -- region 1
  refine c_region ?_
  refine x_loadN [_, _, _, _] agg_26 _ rfl (by first | assumption | exact hs.cellsOf | exact (hs.pull 1).cellsOf | exact (hs.pull 2).cellsOf | exact (hs.pull 3).cellsOf | exact (hs.pull 4).cellsOf | exact (hs.pull 5).cellsOf | exact (hs.pull 6).cellsOf | exact (hs.pull 7).cellsOf | exact (hs.pull 8).cellsOf | exact hs.cells2 rfl rfl | exact (hs.pull 1).cells2 rfl rfl | exact (hs.pull 2).cells2 rfl rfl | exact (hs.pull 3).cells2 rfl rfl | exact (hs.pull 4).cells2 rfl rfl | exact (hs.pull 5).cells2 rfl rfl | exact (hs.pull 6).cells2 rfl rfl | exact (hs.pull 7).cells2 rfl rfl | exact (hs.pull 8).cells2 rfl rfl) ?_
  refine x_call Try.f8 Try.func8 rfl rfl _ rfl ?_
  refine (great_d (hs.pull 1) hin hdl).mono ?_
  clear hs; rintro e w ⟨r, rfl, hs, hsm⟩
  replace hs := hs.push 1
  try dsimp only [back] at hs
  refine ⟨_, rfl, fun h => (by first | (cases h; done) | (first | exact hs.cells2 rfl rfl | exact (hs.pull 1).cells2 rfl rfl | exact (hs.pull 2).cells2 rfl rfl | exact (hs.pull 3).cells2 rfl rfl | exact (hs.pull 4).cells2 rfl rfl | exact (hs.pull 5).cells2 rfl rfl | exact (hs.pull 6).cells2 rfl rfl | exact (hs.pull 7).cells2 rfl rfl | exact (hs.pull 8).cells2 rfl rfl | exact hs.cell rfl | exact (hs.pull 1).cell rfl | exact (hs.pull 2).cell rfl | exact (hs.pull 3).cell rfl | exact (hs.pull 4).cell rfl | exact (hs.pull 5).cell rfl | exact (hs.pull 6).cell rfl | exact (hs.pull 7).cell rfl | exact (hs.pull 8).cell rfl | assumption | exact hs.cellsOf | exact (hs.pull 1).cellsOf | exact (hs.pull 2).cellsOf | exact (hs.pull 3).cellsOf | exact (hs.pull 4).cellsOf | exact (hs.pull 5).cellsOf | exact (hs.pull 6).cellsOf | exact (hs.pull 7).cellsOf | exact (hs.pull 8).cellsOf) | (and_intros <;> first | exact hs.cells2 rfl rfl | exact (hs.pull 1).cells2 rfl rfl | exact (hs.pull 2).cells2 rfl rfl | exact (hs.pull 3).cells2 rfl rfl | exact (hs.pull 4).cells2 rfl rfl | exact (hs.pull 5).cells2 rfl rfl | exact (hs.pull 6).cells2 rfl rfl | exact (hs.pull 7).cells2 rfl rfl | exact (hs.pull 8).cells2 rfl rfl | exact hs.cell rfl | exact (hs.pull 1).cell rfl | exact (hs.pull 2).cell rfl | exact (hs.pull 3).cell rfl | exact (hs.pull 4).cell rfl | exact (hs.pull 5).cell rfl | exact (hs.pull 6).cell rfl | exact (hs.pull 7).cell rfl | exact (hs.pull 8).cell rfl | assumption | exact hs.cellsOf | exact (hs.pull 1).cellsOf | exact (hs.pull 2).cellsOf | exact (hs.pull 3).cellsOf | exact (hs.pull 4).cellsOf | exact (hs.pull 5).cellsOf | exact (hs.pull 6).cellsOf | exact (hs.pull 7).cellsOf | exact (hs.pull 8).cellsOf)), ?_⟩
  replace hsm := fun h => hsm h
  rcases r with _ | _
  · skip
    refine x_move (.bool _) rfl ?_
    refine x_want' rfl ?_
    refine x_loadN [_, _, _, _] agg_26 _ rfl (by first | assumption | exact hs.cellsOf | exact (hs.pull 1).cellsOf | exact (hs.pull 2).cellsOf | exact (hs.pull 3).cellsOf | exact (hs.pull 4).cellsOf | exact (hs.pull 5).cellsOf | exact (hs.pull 6).cellsOf | exact (hs.pull 7).cellsOf | exact (hs.pull 8).cellsOf | exact hs.cells2 rfl rfl | exact (hs.pull 1).cells2 rfl rfl | exact (hs.pull 2).cells2 rfl rfl | exact (hs.pull 3).cells2 rfl rfl | exact (hs.pull 4).cells2 rfl rfl | exact (hs.pull 5).cells2 rfl rfl | exact (hs.pull 6).cells2 rfl rfl | exact (hs.pull 7).cells2 rfl rfl | exact (hs.pull 8).cells2 rfl rfl) ?_
    refine x_want' rfl ?_
    refine x_call Try.f9 Try.func9 rfl rfl _ rfl ?_
    refine (check_d (hs.pull 1) hin (hsm rfl) hid).mono ?_
    clear hs; rintro e w ⟨r, rfl, hs, hck⟩
    replace hs := hs.push 1
    try dsimp only [back] at hs
    refine ⟨_, rfl, fun h => (by first | (cases h; done) | (first | exact hs.cells2 rfl rfl | exact (hs.pull 1).cells2 rfl rfl | exact (hs.pull 2).cells2 rfl rfl | exact (hs.pull 3).cells2 rfl rfl | exact (hs.pull 4).cells2 rfl rfl | exact (hs.pull 5).cells2 rfl rfl | exact (hs.pull 6).cells2 rfl rfl | exact (hs.pull 7).cells2 rfl rfl | exact (hs.pull 8).cells2 rfl rfl | exact hs.cell rfl | exact (hs.pull 1).cell rfl | exact (hs.pull 2).cell rfl | exact (hs.pull 3).cell rfl | exact (hs.pull 4).cell rfl | exact (hs.pull 5).cell rfl | exact (hs.pull 6).cell rfl | exact (hs.pull 7).cell rfl | exact (hs.pull 8).cell rfl | assumption | exact hs.cellsOf | exact (hs.pull 1).cellsOf | exact (hs.pull 2).cellsOf | exact (hs.pull 3).cellsOf | exact (hs.pull 4).cellsOf | exact (hs.pull 5).cellsOf | exact (hs.pull 6).cellsOf | exact (hs.pull 7).cellsOf | exact (hs.pull 8).cellsOf) | (and_intros <;> first | exact hs.cells2 rfl rfl | exact (hs.pull 1).cells2 rfl rfl | exact (hs.pull 2).cells2 rfl rfl | exact (hs.pull 3).cells2 rfl rfl | exact (hs.pull 4).cells2 rfl rfl | exact (hs.pull 5).cells2 rfl rfl | exact (hs.pull 6).cells2 rfl rfl | exact (hs.pull 7).cells2 rfl rfl | exact (hs.pull 8).cells2 rfl rfl | exact hs.cell rfl | exact (hs.pull 1).cell rfl | exact (hs.pull 2).cell rfl | exact (hs.pull 3).cell rfl | exact (hs.pull 4).cell rfl | exact (hs.pull 5).cell rfl | exact (hs.pull 6).cell rfl | exact (hs.pull 7).cell rfl | exact (hs.pull 8).cell rfl | assumption | exact hs.cellsOf | exact (hs.pull 1).cellsOf | exact (hs.pull 2).cellsOf | exact (hs.pull 3).cellsOf | exact (hs.pull 4).cellsOf | exact (hs.pull 5).cellsOf | exact (hs.pull 6).cellsOf | exact (hs.pull 7).cellsOf | exact (hs.pull 8).cellsOf)), ?_⟩
    refine x_want' rfl ?_
    refine x_not _ rfl ?_
    refine x_pickF (.bool _) rfl rfl ?_
    refine x_nil ?_
    refine then_n ?_
    refine c_cond rfl (fun hb => ?_) (fun hb => ?_)   -- cond t15
    · skip
      refine c_seq ?_
      -- region 2
      refine c_region ?_
      refine x_call Try.f10 Try.func10 rfl rfl _ rfl ?_
      refine (awake26_calls hs).mono ?_
      clear hs; rintro e w ⟨rfl, hs⟩
      refine ⟨_, rfl, fun h => (by first | (cases h; done) | (first | exact hs.cells2 rfl rfl | exact (hs.pull 1).cells2 rfl rfl | exact (hs.pull 2).cells2 rfl rfl | exact (hs.pull 3).cells2 rfl rfl | exact (hs.pull 4).cells2 rfl rfl | exact (hs.pull 5).cells2 rfl rfl | exact (hs.pull 6).cells2 rfl rfl | exact (hs.pull 7).cells2 rfl rfl | exact (hs.pull 8).cells2 rfl rfl | exact hs.cell rfl | exact (hs.pull 1).cell rfl | exact (hs.pull 2).cell rfl | exact (hs.pull 3).cell rfl | exact (hs.pull 4).cell rfl | exact (hs.pull 5).cell rfl | exact (hs.pull 6).cell rfl | exact (hs.pull 7).cell rfl | exact (hs.pull 8).cell rfl | assumption | exact hs.cellsOf | exact (hs.pull 1).cellsOf | exact (hs.pull 2).cellsOf | exact (hs.pull 3).cellsOf | exact (hs.pull 4).cellsOf | exact (hs.pull 5).cellsOf | exact (hs.pull 6).cellsOf | exact (hs.pull 7).cellsOf | exact (hs.pull 8).cellsOf) | (and_intros <;> first | exact hs.cells2 rfl rfl | exact (hs.pull 1).cells2 rfl rfl | exact (hs.pull 2).cells2 rfl rfl | exact (hs.pull 3).cells2 rfl rfl | exact (hs.pull 4).cells2 rfl rfl | exact (hs.pull 5).cells2 rfl rfl | exact (hs.pull 6).cells2 rfl rfl | exact (hs.pull 7).cells2 rfl rfl | exact (hs.pull 8).cells2 rfl rfl | exact hs.cell rfl | exact (hs.pull 1).cell rfl | exact (hs.pull 2).cell rfl | exact (hs.pull 3).cell rfl | exact (hs.pull 4).cell rfl | exact (hs.pull 5).cell rfl | exact (hs.pull 6).cell rfl | exact (hs.pull 7).cell rfl | exact (hs.pull 8).cell rfl | assumption | exact hs.cellsOf | exact (hs.pull 1).cellsOf | exact (hs.pull 2).cellsOf | exact (hs.pull 3).cellsOf | exact (hs.pull 4).cellsOf | exact (hs.pull 5).cellsOf | exact (hs.pull 6).cellsOf | exact (hs.pull 7).cellsOf | exact (hs.pull 8).cellsOf)), ?_⟩
      refine x_assign (.bool _) rfl ?_
      refine x_nil ?_
      refine then_n ?_
      refine c_ret ?_
      refine then_r ?_
      refine ⟨.inr rfl, ?_⟩
      exact ⟨rfl, hs.tail⟩
    · skip
      refine c_skip ?_
      refine then_n ?_
      refine c_seq ?_
      -- region 3
      have hsm' := hsm rfl
      have hV := (hck (by simpa using hb)).svg
      have hm40 : D.mem.length ≤ 40 := hsm'.m
      have hmem : D.v.sv.mem = D.mem := rfl
      refine c_region ?_
      refine x_loadN [_, _, _, _] agg_26 _ rfl (by first | assumption | exact hs.cellsOf | exact (hs.pull 1).cellsOf | exact (hs.pull 2).cellsOf | exact (hs.pull 3).cellsOf | exact (hs.pull 4).cellsOf | exact (hs.pull 5).cellsOf | exact (hs.pull 6).cellsOf | exact (hs.pull 7).cellsOf | exact (hs.pull 8).cellsOf | exact hs.cells2 rfl rfl | exact (hs.pull 1).cells2 rfl rfl | exact (hs.pull 2).cells2 rfl rfl | exact (hs.pull 3).cells2 rfl rfl | exact (hs.pull 4).cells2 rfl rfl | exact (hs.pull 5).cells2 rfl rfl | exact (hs.pull 6).cells2 rfl rfl | exact (hs.pull 7).cells2 rfl rfl | exact (hs.pull 8).cells2 rfl rfl) ?_
      refine x_call Try.f11 Try.func11 rfl rfl _ rfl ?_
      refine ((new_d (hs.pull 1) hin hsm')).mono ?_
      clear hs; rintro e w ⟨f, rfl, hs⟩
      refine ⟨_, rfl, fun h => (by first | (cases h; done) | (first | exact hs.cells2 rfl rfl | exact (hs.pull 1).cells2 rfl rfl | exact (hs.pull 2).cells2 rfl rfl | exact (hs.pull 3).cells2 rfl rfl | exact (hs.pull 4).cells2 rfl rfl | exact (hs.pull 5).cells2 rfl rfl | exact (hs.pull 6).cells2 rfl rfl | exact (hs.pull 7).cells2 rfl rfl | exact (hs.pull 8).cells2 rfl rfl | exact hs.cell rfl | exact (hs.pull 1).cell rfl | exact (hs.pull 2).cell rfl | exact (hs.pull 3).cell rfl | exact (hs.pull 4).cell rfl | exact (hs.pull 5).cell rfl | exact (hs.pull 6).cell rfl | exact (hs.pull 7).cell rfl | exact (hs.pull 8).cell rfl | assumption | exact hs.cellsOf | exact (hs.pull 1).cellsOf | exact (hs.pull 2).cellsOf | exact (hs.pull 3).cellsOf | exact (hs.pull 4).cellsOf | exact (hs.pull 5).cellsOf | exact (hs.pull 6).cellsOf | exact (hs.pull 7).cellsOf | exact (hs.pull 8).cellsOf) | (and_intros <;> first | exact hs.cells2 rfl rfl | exact (hs.pull 1).cells2 rfl rfl | exact (hs.pull 2).cells2 rfl rfl | exact (hs.pull 3).cells2 rfl rfl | exact (hs.pull 4).cells2 rfl rfl | exact (hs.pull 5).cells2 rfl rfl | exact (hs.pull 6).cells2 rfl rfl | exact (hs.pull 7).cells2 rfl rfl | exact (hs.pull 8).cells2 rfl rfl | exact hs.cell rfl | exact (hs.pull 1).cell rfl | exact (hs.pull 2).cell rfl | exact (hs.pull 3).cell rfl | exact (hs.pull 4).cell rfl | exact (hs.pull 5).cell rfl | exact (hs.pull 6).cell rfl | exact (hs.pull 7).cell rfl | exact (hs.pull 8).cell rfl | assumption | exact hs.cellsOf | exact (hs.pull 1).cellsOf | exact (hs.pull 2).cellsOf | exact (hs.pull 3).cellsOf | exact (hs.pull 4).cellsOf | exact (hs.pull 5).cellsOf | exact (hs.pull 6).cellsOf | exact (hs.pull 7).cellsOf | exact (hs.pull 8).cellsOf)), ?_⟩
      refine x_assign (.pointer _) rfl ?_
      refine x_nil ?_
      refine then_n ?_
      refine c_seq ?_
      -- region 4
      have hr : ∀ w' L', Sat w0 w' (Init w0 :: L') → RS w' 2 Pid.cells (.slice D.am D.mem.length D.cm) D.mem := fun w' L' h => (hin w' L' h).m
      obtain ⟨gm, om, ham⟩ := (hr _ _ (hs.pull 1)).addr hV.pos
      rw [ham] at hr hs
      generalize D.v.sv = V at *
      refine c_region ?_
      refine x_assign (.int _ _) rfl ?_
      refine x_nil ?_
      refine then_n ?_
      refine c_seq ?_
      refine c_seq ?_
      -- region 5
      refine c_region ?_
      refine x_assign (.int _ _) rfl ?_
      refine x_nil ?_
      refine then_n ?_
      refine c_block ?_
      refine c_loop (γ := Nat × SSt × Nat) (fun (⟨i, s, lst⟩ : Nat × SSt × Nat) => [(1, .slice a1 cs.length c1), (2, .pointer (some ⟨b2, 0, none⟩)), (5, .pointer (some ⟨f, 0, none⟩)), (6, .int .u64 (lst : Nat)), (7, .int .i64 (i : Nat))]) (fun (⟨i, s, lst⟩ : Nat × SSt × Nat) w => i ≤ D.mem.length ∧ FFull V s i lst ∧ Sat w0 w (SO f V s :: Blk b2 (.cells #[.int .u64 (D.Id : Nat), .slice (some ⟨gm, om, none⟩) D.mem.length D.cm, .slice D.al D.lvs.length D.cl, .slice D.ad D.lds.length D.cd] 26 (0, 0)) :: [Init w0])) (fun (⟨i, s, lst⟩ : Nat × SSt × Nat) => D.mem.length - i) (0, ⟨[], []⟩, U64) ⟨rfl, rfl, rfl, rfl, rfl, trivial⟩ ⟨by omega, FFull.start V, hs.perm [0, 2, 1]⟩ ?_
      clear hs
      rintro ⟨i, s, lst⟩ ρ w ⟨hi, hff, hs⟩
      change CW Try.prog 71 _ _ (sets 71 [(1, .slice a1 cs.length c1), (2, .pointer (some ⟨b2, 0, none⟩)), (5, .pointer (some ⟨f, 0, none⟩)), (6, .int .u64 (lst : Nat)), (7, .int .i64 (i : Nat))] ρ) w
      refine c_seq ?_
      refine c_seq ?_
      -- region 6
      refine c_region ?_
      refine x_move (.int _ _) rfl ?_
      first | refine x_field0 fa_26_1 _ rfl ?_ | refine x_field fa_26_1 _ _ rfl ?_
      refine x_load one_23 _ (.slice _ _ _) rfl (by first | exact hs.cell rfl | exact (hs.pull 1).cell rfl | exact (hs.pull 2).cell rfl | exact (hs.pull 3).cell rfl | assumption | exact (hs.pull 4).cell rfl | exact (hs.pull 5).cell rfl | exact (hs.pull 6).cell rfl | exact (hs.pull 7).cell rfl) ?_
      refine x_lenSl Try.underlying23 _ _ _ rfl ?_
      refine x_lss _ _ rfl rfl ?_
      refine x_nil ?_
      refine then_n ?_
      refine c_test _ rfl (fun hb => ?_) (fun hb => ?_)   -- cond t23
      · skip
        refine c_skip ?_
        refine then_n ?_
        refine c_seq ?_
        refine c_block ?_
        refine c_seq ?_
        -- region 8
        refine c_region ?_
        refine x_assign (.int _ _) rfl ?_
        refine x_nil ?_
        refine then_n ?_
        refine c_seqI (γ := Nat) (fun (n : Nat) => [(1, .slice a1 cs.length c1), (2, .pointer (some ⟨b2, 0, none⟩)), (5, .pointer (some ⟨f, 0, none⟩)), (6, .int .u64 (lst : Nat)), (7, .int .i64 (i : Nat)), (8, .int .u64 (n : Nat))]) (fun (n : Nat) w => (1 ≤ n ∧ n ≤ 256) ∧ Sat w0 w (SO f V s :: Blk b2 (.cells #[.int .u64 (D.Id : Nat), .slice (some ⟨gm, om, none⟩) D.mem.length D.cm, .slice D.al D.lvs.length D.cl, .slice D.ad D.lds.length D.cd] 26 (0, 0)) :: [Init w0])) ?_ ?_
        · skip
          refine c_seq ?_
          -- region 9
          refine c_region ?_
          refine x_move (.int _ _) rfl ?_
          refine x_move (.slice _ _ _) rfl ?_
          refine x_lenSl Try.underlying27 _ _ _ rfl ?_
          refine x_lss _ _ rfl rfl ?_
          refine x_nil ?_
          refine then_n ?_
          refine c_test _ rfl (fun hb => ?_) (fun hb => ?_)   -- cond t29
          · skip
            -- region 10
            obtain ⟨bt, hbt⟩ : ∃ b, cs[i]? = some b := ⟨cs[i]'(by omega), List.getElem?_eq_getElem _⟩
            obtain ⟨g1, o1, rfl⟩ := (hinb _ _ (hs.pull 2)).addr (by omega)
            have hc1 : w.cell? ⟨g1, o1 + i * 1, none⟩ = some (.int .u8 (bt.toNat : Nat)) := by rw [Nat.mul_one]; exact (hinb _ _ (hs.pull 2)).cell (bv_get hbt)
            have hbl := UInt8.toNat_lt bt
            refine c_region ?_
            refine x_move (.int _ _) rfl ?_
            refine x_move (.slice _ _ _) rfl ?_
            refine x_move (.int _ _) rfl ?_
            refine x_indexAddr Try.underlying27 sz_5 _ _ _ _ _ rfl rfl (by omega) ?_
            refine x_load one_5 _ (.int _ _) rfl (by first | exact hs.cell rfl | exact (hs.pull 1).cell rfl | exact (hs.pull 2).cell rfl | exact (hs.pull 3).cell rfl | assumption | exact (hs.pull 4).cell rfl | exact (hs.pull 5).cell rfl | exact (hs.pull 6).cell rfl | exact (hs.pull 7).cell rfl) ?_
            refine x_conv cv_5_22 _ rfl (by simp only [X.lo]; omega) (by simp only [X.hi]; omega) ?_
            refine x_add _ _ rfl rfl (by simp only [X.lo]; omega) (by simp only [X.hi]; omega) ?_
            refine x_assign (.int _ _) rfl ?_
            refine x_nil ?_
            refine then_n ?_
            exact ⟨(1 + bt.toNat), ⟨rfl, rfl, rfl, rfl, rfl, rfl, trivial⟩, ⟨by omega, hs⟩⟩
          · skip
            refine c_skip ?_
            refine then_n ?_
            exact ⟨1, ⟨rfl, rfl, rfl, rfl, rfl, rfl, trivial⟩, ⟨by omega, hs⟩⟩
        · skip
          clear hs
          rintro n ρ w ⟨hn, hs⟩
          change CW Try.prog 71 _ _ (sets 71 [(1, .slice a1 cs.length c1), (2, .pointer (some ⟨b2, 0, none⟩)), (5, .pointer (some ⟨f, 0, none⟩)), (6, .int .u64 (lst : Nat)), (7, .int .i64 (i : Nat)), (8, .int .u64 (n : Nat))] ρ) w
          refine c_seq ?_
          refine c_seq ?_
          -- region 11
          obtain ⟨p, hp⟩ : ∃ y, D.mem[i]? = some y := ⟨D.mem[i]'(by omega), List.getElem?_eq_getElem _⟩
          rw [← hmem] at hp
          have hi0 := hff.rest i p hp (Nat.le_refl _)
          have hpm : p ∈ V.mem := List.mem_of_getElem? hp
          have hz := hff.zero hV (by rw [hmem]; omega)
          have hcells : ∀ {w' L'}, Sat w0 w' (Init w0 :: L') → (∀ (j : Nat) (y : Value), [Value.int .u16 (p.Id : Nat), Value.int .u32 (p.Inc : Nat)][j]? = some y → w'.cell? ((⟨gm, om + i * 2, none⟩ : Addr).add j) = some y) := fun h => (hr _ _ h).all (fun a => a.cells_len) (by rw [← hmem]; exact hp)
          have hff2 := hff.next hV hp hn.1 hn.2
          refine c_region ?_
          refine x_move (.pointer _) rfl ?_
          refine x_call Try.f15 Try.func15 rfl rfl _ rfl ?_
          refine ((all_is hs hz)).mono ?_
          clear hs; rintro e w ⟨rfl, hs⟩
          refine ⟨_, rfl, fun h => (by first | (cases h; done) | (first | exact hs.cells2 rfl rfl | exact (hs.pull 1).cells2 rfl rfl | exact (hs.pull 2).cells2 rfl rfl | exact (hs.pull 3).cells2 rfl rfl | exact (hs.pull 4).cells2 rfl rfl | exact (hs.pull 5).cells2 rfl rfl | exact (hs.pull 6).cells2 rfl rfl | exact (hs.pull 7).cells2 rfl rfl | exact (hs.pull 8).cells2 rfl rfl | exact hs.cell rfl | exact (hs.pull 1).cell rfl | exact (hs.pull 2).cell rfl | exact (hs.pull 3).cell rfl | exact (hs.pull 4).cell rfl | exact (hs.pull 5).cell rfl | exact (hs.pull 6).cell rfl | exact (hs.pull 7).cell rfl | exact (hs.pull 8).cell rfl | assumption | exact hs.cellsOf | exact (hs.pull 1).cellsOf | exact (hs.pull 2).cellsOf | exact (hs.pull 3).cellsOf | exact (hs.pull 4).cellsOf | exact (hs.pull 5).cellsOf | exact (hs.pull 6).cellsOf | exact (hs.pull 7).cellsOf | exact (hs.pull 8).cellsOf) | (and_intros <;> first | exact hs.cells2 rfl rfl | exact (hs.pull 1).cells2 rfl rfl | exact (hs.pull 2).cells2 rfl rfl | exact (hs.pull 3).cells2 rfl rfl | exact (hs.pull 4).cells2 rfl rfl | exact (hs.pull 5).cells2 rfl rfl | exact (hs.pull 6).cells2 rfl rfl | exact (hs.pull 7).cells2 rfl rfl | exact (hs.pull 8).cells2 rfl rfl | exact hs.cell rfl | exact (hs.pull 1).cell rfl | exact (hs.pull 2).cell rfl | exact (hs.pull 3).cell rfl | exact (hs.pull 4).cell rfl | exact (hs.pull 5).cell rfl | exact (hs.pull 6).cell rfl | exact (hs.pull 7).cell rfl | exact (hs.pull 8).cell rfl | assumption | exact hs.cellsOf | exact (hs.pull 1).cellsOf | exact (hs.pull 2).cellsOf | exact (hs.pull 3).cellsOf | exact (hs.pull 4).cellsOf | exact (hs.pull 5).cellsOf | exact (hs.pull 6).cellsOf | exact (hs.pull 7).cellsOf | exact (hs.pull 8).cellsOf)), ?_⟩
          have hcl1 := hcells (hs.pull 2)
          refine x_neqF _ _ rfl rfl (by omega) ?_
          refine x_move (.bool _) rfl ?_
          refine x_want' rfl ?_
          refine x_move (.pointer _) rfl ?_
          refine x_want' rfl ?_
          first | refine x_field0 fa_26_1 _ rfl ?_ | refine x_field fa_26_1 _ _ rfl ?_
          refine x_want' rfl ?_
          refine x_load one_23 _ (.slice _ _ _) rfl (by first | exact hs.cell rfl | exact (hs.pull 1).cell rfl | exact (hs.pull 2).cell rfl | exact (hs.pull 3).cell rfl | assumption | exact (hs.pull 4).cell rfl | exact (hs.pull 5).cell rfl | exact (hs.pull 6).cell rfl | exact (hs.pull 7).cell rfl) ?_
          refine x_want' rfl ?_
          refine x_move (.int _ _) rfl ?_
          refine x_want' rfl ?_
          refine x_indexAddr Try.underlying23 sz_38 _ _ _ _ _ rfl rfl (by omega) ?_
          refine x_want' rfl ?_
          refine x_loadN [_, _] agg_38 _ rfl (by first | assumption | exact hs.cellsOf | exact (hs.pull 1).cellsOf | exact (hs.pull 2).cellsOf | exact (hs.pull 3).cellsOf | exact (hs.pull 4).cellsOf | exact (hs.pull 5).cellsOf | exact (hs.pull 6).cellsOf | exact (hs.pull 7).cellsOf | exact (hs.pull 8).cellsOf | exact hs.cells2 rfl rfl | exact (hs.pull 1).cells2 rfl rfl | exact (hs.pull 2).cells2 rfl rfl | exact (hs.pull 3).cells2 rfl rfl | exact (hs.pull 4).cells2 rfl rfl | exact (hs.pull 5).cells2 rfl rfl | exact (hs.pull 6).cells2 rfl rfl | exact (hs.pull 7).cells2 rfl rfl | exact (hs.pull 8).cells2 rfl rfl) ?_
          refine x_want' rfl ?_
          refine x_move (.int _ _) rfl ?_
          refine x_want' rfl ?_
          refine x_call Try.f13 Try.func13 rfl rfl _ rfl ?_
          refine ((frep_T hs hpm hi0 hn.1)).mono ?_
          clear hs; rintro e w ⟨rfl, hs⟩
          refine ⟨_, rfl, fun h => (by first | (cases h; done) | (first | exact hs.cells2 rfl rfl | exact (hs.pull 1).cells2 rfl rfl | exact (hs.pull 2).cells2 rfl rfl | exact (hs.pull 3).cells2 rfl rfl | exact (hs.pull 4).cells2 rfl rfl | exact (hs.pull 5).cells2 rfl rfl | exact (hs.pull 6).cells2 rfl rfl | exact (hs.pull 7).cells2 rfl rfl | exact (hs.pull 8).cells2 rfl rfl | exact hs.cell rfl | exact (hs.pull 1).cell rfl | exact (hs.pull 2).cell rfl | exact (hs.pull 3).cell rfl | exact (hs.pull 4).cell rfl | exact (hs.pull 5).cell rfl | exact (hs.pull 6).cell rfl | exact (hs.pull 7).cell rfl | exact (hs.pull 8).cell rfl | assumption | exact hs.cellsOf | exact (hs.pull 1).cellsOf | exact (hs.pull 2).cellsOf | exact (hs.pull 3).cellsOf | exact (hs.pull 4).cellsOf | exact (hs.pull 5).cellsOf | exact (hs.pull 6).cellsOf | exact (hs.pull 7).cellsOf | exact (hs.pull 8).cellsOf) | (and_intros <;> first | exact hs.cells2 rfl rfl | exact (hs.pull 1).cells2 rfl rfl | exact (hs.pull 2).cells2 rfl rfl | exact (hs.pull 3).cells2 rfl rfl | exact (hs.pull 4).cells2 rfl rfl | exact (hs.pull 5).cells2 rfl rfl | exact (hs.pull 6).cells2 rfl rfl | exact (hs.pull 7).cells2 rfl rfl | exact (hs.pull 8).cells2 rfl rfl | exact hs.cell rfl | exact (hs.pull 1).cell rfl | exact (hs.pull 2).cell rfl | exact (hs.pull 3).cell rfl | exact (hs.pull 4).cell rfl | exact (hs.pull 5).cell rfl | exact (hs.pull 6).cell rfl | exact (hs.pull 7).cell rfl | exact (hs.pull 8).cell rfl | assumption | exact hs.cellsOf | exact (hs.pull 1).cellsOf | exact (hs.pull 2).cellsOf | exact (hs.pull 3).cellsOf | exact (hs.pull 4).cellsOf | exact (hs.pull 5).cellsOf | exact (hs.pull 6).cellsOf | exact (hs.pull 7).cellsOf | exact (hs.pull 8).cellsOf)), ?_⟩
          have hcl2 := hcells (hs.pull 2)
          refine x_want' rfl ?_
          refine x_not _ rfl ?_
          refine x_pickF (.bool _) rfl rfl ?_
          refine x_move (.bool _) rfl ?_
          refine x_want' rfl ?_
          refine x_move (.pointer _) rfl ?_
          refine x_want' rfl ?_
          first | refine x_field0 fa_26_1 _ rfl ?_ | refine x_field fa_26_1 _ _ rfl ?_
          refine x_want' rfl ?_
          refine x_load one_23 _ (.slice _ _ _) rfl (by first | exact hs.cell rfl | exact (hs.pull 1).cell rfl | exact (hs.pull 2).cell rfl | exact (hs.pull 3).cell rfl | assumption | exact (hs.pull 4).cell rfl | exact (hs.pull 5).cell rfl | exact (hs.pull 6).cell rfl | exact (hs.pull 7).cell rfl) ?_
          refine x_want' rfl ?_
          refine x_move (.int _ _) rfl ?_
          refine x_want' rfl ?_
          refine x_indexAddr Try.underlying23 sz_38 _ _ _ _ _ rfl rfl (by omega) ?_
          refine x_want' rfl ?_
          refine x_loadN [_, _] agg_38 _ rfl (by first | assumption | exact hs.cellsOf | exact (hs.pull 1).cellsOf | exact (hs.pull 2).cellsOf | exact (hs.pull 3).cellsOf | exact (hs.pull 4).cellsOf | exact (hs.pull 5).cellsOf | exact (hs.pull 6).cellsOf | exact (hs.pull 7).cellsOf | exact (hs.pull 8).cellsOf | exact hs.cells2 rfl rfl | exact (hs.pull 1).cells2 rfl rfl | exact (hs.pull 2).cells2 rfl rfl | exact (hs.pull 3).cells2 rfl rfl | exact (hs.pull 4).cells2 rfl rfl | exact (hs.pull 5).cells2 rfl rfl | exact (hs.pull 6).cells2 rfl rfl | exact (hs.pull 7).cells2 rfl rfl | exact (hs.pull 8).cells2 rfl rfl) ?_
          refine x_want' rfl ?_
          refine x_move (.int _ _) rfl ?_
          refine x_want' rfl ?_
          refine x_call Try.f13 Try.func13 rfl rfl _ rfl ?_
          refine ((frep_F hs)).mono ?_
          clear hs; rintro e w ⟨rfl, hs⟩
          refine ⟨_, rfl, fun h => (by first | (cases h; done) | (first | exact hs.cells2 rfl rfl | exact (hs.pull 1).cells2 rfl rfl | exact (hs.pull 2).cells2 rfl rfl | exact (hs.pull 3).cells2 rfl rfl | exact (hs.pull 4).cells2 rfl rfl | exact (hs.pull 5).cells2 rfl rfl | exact (hs.pull 6).cells2 rfl rfl | exact (hs.pull 7).cells2 rfl rfl | exact (hs.pull 8).cells2 rfl rfl | exact hs.cell rfl | exact (hs.pull 1).cell rfl | exact (hs.pull 2).cell rfl | exact (hs.pull 3).cell rfl | exact (hs.pull 4).cell rfl | exact (hs.pull 5).cell rfl | exact (hs.pull 6).cell rfl | exact (hs.pull 7).cell rfl | exact (hs.pull 8).cell rfl | assumption | exact hs.cellsOf | exact (hs.pull 1).cellsOf | exact (hs.pull 2).cellsOf | exact (hs.pull 3).cellsOf | exact (hs.pull 4).cellsOf | exact (hs.pull 5).cellsOf | exact (hs.pull 6).cellsOf | exact (hs.pull 7).cellsOf | exact (hs.pull 8).cellsOf) | (and_intros <;> first | exact hs.cells2 rfl rfl | exact (hs.pull 1).cells2 rfl rfl | exact (hs.pull 2).cells2 rfl rfl | exact (hs.pull 3).cells2 rfl rfl | exact (hs.pull 4).cells2 rfl rfl | exact (hs.pull 5).cells2 rfl rfl | exact (hs.pull 6).cells2 rfl rfl | exact (hs.pull 7).cells2 rfl rfl | exact (hs.pull 8).cells2 rfl rfl | exact hs.cell rfl | exact (hs.pull 1).cell rfl | exact (hs.pull 2).cell rfl | exact (hs.pull 3).cell rfl | exact (hs.pull 4).cell rfl | exact (hs.pull 5).cell rfl | exact (hs.pull 6).cell rfl | exact (hs.pull 7).cell rfl | exact (hs.pull 8).cell rfl | assumption | exact hs.cellsOf | exact (hs.pull 1).cellsOf | exact (hs.pull 2).cellsOf | exact (hs.pull 3).cellsOf | exact (hs.pull 4).cellsOf | exact (hs.pull 5).cellsOf | exact (hs.pull 6).cellsOf | exact (hs.pull 7).cellsOf | exact (hs.pull 8).cellsOf)), ?_⟩
          refine x_pickF (.bool _) rfl rfl ?_
          refine x_nil ?_
          refine then_n ?_
          refine c_false rfl ?_
          refine c_skip ?_
          refine then_n ?_
          -- region 13
          refine c_region ?_
          refine x_move (.int _ _) rfl ?_
          refine x_move (.int _ _) rfl ?_
          refine x_min _ _ ((min lst n : Nat) : Int) rfl rfl (by split <;> omega) ?_
          refine x_assign (.int _ _) rfl ?_
          refine x_nil ?_
          refine inb_n ?_
          refine then_n ?_
          -- region 7
          refine c_region ?_
          refine x_move (.int _ _) rfl ?_
          refine x_add _ _ rfl rfl (by simp only [X.lo]; omega) (by simp only [X.hi]; omega) ?_
          refine x_assign (.int _ _) rfl ?_
          refine x_nil ?_
          refine then_n ?_
          refine ⟨(i + 1, { s with ps := mset p n s.ps }, min lst n), ⟨rfl, rfl, rfl, rfl, rfl, trivial⟩, ⟨by omega, hff2, hs⟩, by first | omega | (dsimp only; omega)⟩
      · skip
        refine c_exit ?_
        refine then_x ?_
        refine then_x ?_
        refine inb_e ?_
        refine then_n ?_
        refine c_seq ?_
        -- region 14
        obtain rfl : i = D.mem.length := by omega
        rw [← hmem] at hff
        refine c_region ?_
        refine x_move (.pointer _) rfl ?_
        refine x_call Try.f15 Try.func15 rfl rfl _ rfl ?_
        refine ((all_is hs (hff.all hV))).mono ?_
        clear hs; rintro e w ⟨rfl, hs⟩
        refine ⟨_, rfl, fun h => (by first | (cases h; done) | (first | exact hs.cells2 rfl rfl | exact (hs.pull 1).cells2 rfl rfl | exact (hs.pull 2).cells2 rfl rfl | exact (hs.pull 3).cells2 rfl rfl | exact (hs.pull 4).cells2 rfl rfl | exact (hs.pull 5).cells2 rfl rfl | exact (hs.pull 6).cells2 rfl rfl | exact (hs.pull 7).cells2 rfl rfl | exact (hs.pull 8).cells2 rfl rfl | exact hs.cell rfl | exact (hs.pull 1).cell rfl | exact (hs.pull 2).cell rfl | exact (hs.pull 3).cell rfl | exact (hs.pull 4).cell rfl | exact (hs.pull 5).cell rfl | exact (hs.pull 6).cell rfl | exact (hs.pull 7).cell rfl | exact (hs.pull 8).cell rfl | assumption | exact hs.cellsOf | exact (hs.pull 1).cellsOf | exact (hs.pull 2).cellsOf | exact (hs.pull 3).cellsOf | exact (hs.pull 4).cellsOf | exact (hs.pull 5).cellsOf | exact (hs.pull 6).cellsOf | exact (hs.pull 7).cellsOf | exact (hs.pull 8).cellsOf) | (and_intros <;> first | exact hs.cells2 rfl rfl | exact (hs.pull 1).cells2 rfl rfl | exact (hs.pull 2).cells2 rfl rfl | exact (hs.pull 3).cells2 rfl rfl | exact (hs.pull 4).cells2 rfl rfl | exact (hs.pull 5).cells2 rfl rfl | exact (hs.pull 6).cells2 rfl rfl | exact (hs.pull 7).cells2 rfl rfl | exact (hs.pull 8).cells2 rfl rfl | exact hs.cell rfl | exact (hs.pull 1).cell rfl | exact (hs.pull 2).cell rfl | exact (hs.pull 3).cell rfl | exact (hs.pull 4).cell rfl | exact (hs.pull 5).cell rfl | exact (hs.pull 6).cell rfl | exact (hs.pull 7).cell rfl | exact (hs.pull 8).cell rfl | assumption | exact hs.cellsOf | exact (hs.pull 1).cellsOf | exact (hs.pull 2).cellsOf | exact (hs.pull 3).cellsOf | exact (hs.pull 4).cellsOf | exact (hs.pull 5).cellsOf | exact (hs.pull 6).cellsOf | exact (hs.pull 7).cellsOf | exact (hs.pull 8).cellsOf)), ?_⟩
        refine x_move (.int _ _) rfl ?_
        refine x_eqlT _ _ rfl rfl (by omega) ?_
        refine x_move (.bool _) rfl ?_
        refine x_want' rfl ?_
        refine x_call Try.f10 Try.func10 rfl rfl _ rfl ?_
        refine (awake26_calls hs).mono ?_
        clear hs; rintro e w ⟨rfl, hs⟩
        refine ⟨_, rfl, fun h => (by first | (cases h; done) | (first | exact hs.cells2 rfl rfl | exact (hs.pull 1).cells2 rfl rfl | exact (hs.pull 2).cells2 rfl rfl | exact (hs.pull 3).cells2 rfl rfl | exact (hs.pull 4).cells2 rfl rfl | exact (hs.pull 5).cells2 rfl rfl | exact (hs.pull 6).cells2 rfl rfl | exact (hs.pull 7).cells2 rfl rfl | exact (hs.pull 8).cells2 rfl rfl | exact hs.cell rfl | exact (hs.pull 1).cell rfl | exact (hs.pull 2).cell rfl | exact (hs.pull 3).cell rfl | exact (hs.pull 4).cell rfl | exact (hs.pull 5).cell rfl | exact (hs.pull 6).cell rfl | exact (hs.pull 7).cell rfl | exact (hs.pull 8).cell rfl | assumption | exact hs.cellsOf | exact (hs.pull 1).cellsOf | exact (hs.pull 2).cellsOf | exact (hs.pull 3).cellsOf | exact (hs.pull 4).cellsOf | exact (hs.pull 5).cellsOf | exact (hs.pull 6).cellsOf | exact (hs.pull 7).cellsOf | exact (hs.pull 8).cellsOf) | (and_intros <;> first | exact hs.cells2 rfl rfl | exact (hs.pull 1).cells2 rfl rfl | exact (hs.pull 2).cells2 rfl rfl | exact (hs.pull 3).cells2 rfl rfl | exact (hs.pull 4).cells2 rfl rfl | exact (hs.pull 5).cells2 rfl rfl | exact (hs.pull 6).cells2 rfl rfl | exact (hs.pull 7).cells2 rfl rfl | exact (hs.pull 8).cells2 rfl rfl | exact hs.cell rfl | exact (hs.pull 1).cell rfl | exact (hs.pull 2).cell rfl | exact (hs.pull 3).cell rfl | exact (hs.pull 4).cell rfl | exact (hs.pull 5).cell rfl | exact (hs.pull 6).cell rfl | exact (hs.pull 7).cell rfl | exact (hs.pull 8).cell rfl | assumption | exact hs.cellsOf | exact (hs.pull 1).cellsOf | exact (hs.pull 2).cellsOf | exact (hs.pull 3).cellsOf | exact (hs.pull 4).cellsOf | exact (hs.pull 5).cellsOf | exact (hs.pull 6).cellsOf | exact (hs.pull 7).cellsOf | exact (hs.pull 8).cellsOf)), ?_⟩
        refine x_pickT (.bool _) rfl rfl ?_
        refine x_assign (.bool _) rfl ?_
        refine x_nil ?_
        refine then_n ?_
        refine c_ret ?_
        refine ⟨.inr rfl, ?_⟩
        exact ⟨rfl, hs.tail.tail⟩
  · skip
    refine x_move (.bool _) rfl ?_
    refine x_skip rfl rfl ?_
    refine x_skip rfl rfl ?_
    refine x_skip rfl rfl ?_
    refine x_pickT (.bool _) rfl rfl ?_
    refine x_nil ?_
    refine then_n ?_
    refine c_true rfl ?_
    refine c_seq ?_
    -- region 2
    refine c_region ?_
    refine x_call Try.f10 Try.func10 rfl rfl _ rfl ?_
    refine (awake26_calls hs).mono ?_
    clear hs; rintro e w ⟨rfl, hs⟩
    refine ⟨_, rfl, fun h => (by first | (cases h; done) | (first | exact hs.cells2 rfl rfl | exact (hs.pull 1).cells2 rfl rfl | exact (hs.pull 2).cells2 rfl rfl | exact (hs.pull 3).cells2 rfl rfl | exact (hs.pull 4).cells2 rfl rfl | exact (hs.pull 5).cells2 rfl rfl | exact (hs.pull 6).cells2 rfl rfl | exact (hs.pull 7).cells2 rfl rfl | exact (hs.pull 8).cells2 rfl rfl | exact hs.cell rfl | exact (hs.pull 1).cell rfl | exact (hs.pull 2).cell rfl | exact (hs.pull 3).cell rfl | exact (hs.pull 4).cell rfl | exact (hs.pull 5).cell rfl | exact (hs.pull 6).cell rfl | exact (hs.pull 7).cell rfl | exact (hs.pull 8).cell rfl | assumption | exact hs.cellsOf | exact (hs.pull 1).cellsOf | exact (hs.pull 2).cellsOf | exact (hs.pull 3).cellsOf | exact (hs.pull 4).cellsOf | exact (hs.pull 5).cellsOf | exact (hs.pull 6).cellsOf | exact (hs.pull 7).cellsOf | exact (hs.pull 8).cellsOf) | (and_intros <;> first | exact hs.cells2 rfl rfl | exact (hs.pull 1).cells2 rfl rfl | exact (hs.pull 2).cells2 rfl rfl | exact (hs.pull 3).cells2 rfl rfl | exact (hs.pull 4).cells2 rfl rfl | exact (hs.pull 5).cells2 rfl rfl | exact (hs.pull 6).cells2 rfl rfl | exact (hs.pull 7).cells2 rfl rfl | exact (hs.pull 8).cells2 rfl rfl | exact hs.cell rfl | exact (hs.pull 1).cell rfl | exact (hs.pull 2).cell rfl | exact (hs.pull 3).cell rfl | exact (hs.pull 4).cell rfl | exact (hs.pull 5).cell rfl | exact (hs.pull 6).cell rfl | exact (hs.pull 7).cell rfl | exact (hs.pull 8).cell rfl | assumption | exact hs.cellsOf | exact (hs.pull 1).cellsOf | exact (hs.pull 2).cellsOf | exact (hs.pull 3).cellsOf | exact (hs.pull 4).cellsOf | exact (hs.pull 5).cellsOf | exact (hs.pull 6).cellsOf | exact (hs.pull 7).cellsOf | exact (hs.pull 8).cellsOf)), ?_⟩
    refine x_assign (.bool _) rfl ?_
    refine x_nil ?_
    refine then_n ?_
    refine c_ret ?_
    refine then_r ?_
    refine ⟨.inr rfl, ?_⟩
    exact ⟨rfl, hs.tail⟩
end Go.Proofs.Ytcehbdmpjebmbaa.X
