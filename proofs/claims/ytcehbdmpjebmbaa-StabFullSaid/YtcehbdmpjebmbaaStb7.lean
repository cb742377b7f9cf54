/-
  LAYER 26: what the stab and the document's answer keep alike; the law StabPlays.
-/
import Derived.Test.YtcehbdmpjebmbaaStb6
import Derived.Test.YtcehbdmpjebmbaaStb4
namespace Go.Proofs.Ytcehbdmpjebmbaa.X
open Go Go.RowKit
set_option linter.unusedVariables false
set_option maxRecDepth 20000
structure Told26 where
  P : Pid
  Of : Bool
  Leaf : Int
  N : Nat
def Told26.cells (x : Told26) : List Value := x.P.cells ++ [.bool x.Of] ++ [.int .i64 x.Leaf] ++ [.int .u64 (x.N : Nat)]
structure Told26.fine (x : Told26) (w : World) : Prop where
  P : x.P.fine w
  Leaf : -9223372036854775808 ≤ x.Leaf ∧ x.Leaf ≤ 9223372036854775807
  N : x.N ≤ 18446744073709551615
theorem Told26.cells_len (x : Told26) : x.cells.length = 5 := by first | rfl | (simp [Told26.cells, Pid.cells_len])
theorem Told26.fine.below {x : Told26} {w w' : World} (h : x.fine w) (hb : Below w.heap.size w w') : x.fine w' := ⟨h.P.below hb, h.Leaf, h.N⟩
set_option maxRecDepth 20000 in
theorem TR.Told26 {H : Type} {enc : TypeId × Value → H} {w : World} {cs : List Value} (h : TR enc Try.prog w 40 cs) : ∃ x : Told26, cs = x.cells ∧ x.fine w := by
  obtain ⟨h1, h2⟩ := h.struct Try.underlying40
  rw [show Try.prog.cellsOf 40 = 5 from by kernel_rfl] at h1
  match cs, h1 with
  | [y0, y1, y2, y3, y4], _ =>
    have g0 := h2 0 _ rfl
    change TR enc Try.prog w 38 (([y0, y1, y2, y3, y4].drop 0).take (Try.prog.cellsOf 38)) at g0
    rw [show Try.prog.cellsOf 38 = 2 from by kernel_rfl] at g0
    change TR enc Try.prog w 38 [y0, y1] at g0
    obtain ⟨x0, e0, hx0⟩ := TR.Pid g0
    have g1 := h2 1 _ rfl
    change TR enc Try.prog w 4 (([y0, y1, y2, y3, y4].drop 2).take (Try.prog.cellsOf 4)) at g1
    rw [show Try.prog.cellsOf 4 = 1 from by kernel_rfl] at g1
    change TR enc Try.prog w 4 [y2] at g1
    obtain ⟨x1, e1, hx1⟩ := TR.bool1 Try.underlying4 g1
    have g2 := h2 2 _ rfl
    change TR enc Try.prog w 3 (([y0, y1, y2, y3, y4].drop 3).take (Try.prog.cellsOf 3)) at g2
    rw [show Try.prog.cellsOf 3 = 1 from by kernel_rfl] at g2
    change TR enc Try.prog w 3 [y3] at g2
    obtain ⟨x2, e2, hx2⟩ := TR.int1 Try.underlying3 rfl g2
    have g3 := h2 3 _ rfl
    change TR enc Try.prog w 22 (([y0, y1, y2, y3, y4].drop 4).take (Try.prog.cellsOf 22)) at g3
    rw [show Try.prog.cellsOf 22 = 1 from by kernel_rfl] at g3
    change TR enc Try.prog w 22 [y4] at g3
    obtain ⟨x3, e3, hx3⟩ := TR.nat1 Try.underlying22 rfl g3
    refine ⟨⟨x0, x1, x2, x3⟩, ?_, ⟨hx0, hx2, hx3⟩⟩
    show [y0, y1, y2, y3, y4] = _
    rw [show [y0, y1, y2, y3, y4] = [y0, y1] ++ [y2] ++ [y3] ++ [y4] from rfl, e0, e1, e2, e3]
    rfl
abbrev U64 : Nat := 18446744073709551615
structure SRel (s : SSt) (l : List O26) : Prop where
  ps : ∀ p, getN s.ps p = rOf l p
  lv : ∀ k : Nat, getN s.lv k = rTold l k
  bd : ∀ p, getN s.ps p ≤ U64
theorem SRel.start : SRel ⟨[], []⟩ [] := ⟨fun p => rfl, fun k => rfl, fun p => Nat.zero_le _⟩
theorem SRel.rep {s : SSt} {l : List O26} {D : VD} (h : SRel s l) (p : Pid) {n : Nat} (hn : n ≤ U64) : (s.rep D.v.sv p n).1 = (rRep D l p n).1 ∧ SRel (s.rep D.v.sv p n).2 (rRep D l p n).2 := by
  unfold SSt.rep rRep
  rw [show D.v.sv.mem = D.mem from rfl, h.ps]
  by_cases hc : p ∈ D.mem ∧ rOf l p < n
  · rw [if_pos hc, if_pos hc]
    refine ⟨rfl, fun q => ?_, fun k => ?_, fun q => ?_⟩
    · show getN (mset p n s.ps) q = _
      rw [getN_set, rOf_snoc]
      by_cases hq : q = p
      · subst hq
        rw [if_pos rfl, if_pos ⟨by show (-1 : Int) < 0; omega, rfl⟩]
        have := hc.2
        show n = max (rOf l q) n
        omega
      · rw [if_neg hq, if_neg (fun h => hq h.2.symm)]
        exact h.ps q
    · show getN s.lv k = _
      rw [rTold_snoc, if_neg (by show ¬ ((-1 : Int) = (k : Int)); omega)]
      exact h.lv k
    · show getN (mset p n s.ps) q ≤ _
      rw [getN_set]
      split
      · exact hn
      · exact h.bd q
  · rw [if_neg hc, if_neg hc]
    exact ⟨rfl, h⟩
theorem SRel.repL {s : SSt} {l : List O26} {D : VD} (h : SRel s l) (k : Int) {n : Nat} (hn : n ≤ U64) : (s.repL D.v.sv k n).1 = (rRepL D l k n).1 ∧ SRel (s.repL D.v.sv k n).2 (rRepL D l k n).2 := by
  unfold SSt.repL rRepL
  rw [show (D.v.sv.lls.length : Int) = D.lvs.length from by show ((D.lvs.map (·.2)).length : Int) = _; rw [List.length_map], h.lv]
  by_cases hk : 0 ≤ k ∧ k < D.lvs.length
  · rw [show ((k.toNat : Nat) : Int) = k from by omega]
    by_cases hc : rTold l k < n
    · rw [if_pos ⟨hk, hc⟩, if_pos ⟨hk, hc⟩]
      refine ⟨rfl, fun q => ?_, fun j => ?_, h.bd⟩
      · show getN s.ps q = _
        rw [rOf_snoc, if_neg (fun h => by have := h.1; dsimp only at this; omega)]
        exact h.ps q
      · show getN (mset k.toNat n s.lv) j = _
        rw [getN_set, rTold_snoc]
        by_cases hj : j = k.toNat
        · subst hj
          rw [if_pos rfl, if_pos (by dsimp only; omega), show ((k.toNat : Nat) : Int) = k from by omega]
          show n = max (rTold l k) n
          omega
        · rw [if_neg hj, if_neg (by dsimp only; omega)]
          exact h.lv j
    · rw [if_neg (fun h => hc h.2), if_neg (fun h => hc h.2)]
      exact ⟨rfl, h⟩
  · rw [if_neg (fun h => hk h.1), if_neg (fun h => hk h.1)]
    exact ⟨rfl, h⟩
theorem minL_rmin {A : Pid → Nat} (hA : ∀ p, A p ≤ U64) (l : List Pid) : (if l = [] then 0 else minL A l) = rmin A l := by
  cases l with
  | nil => rfl
  | cons a l =>
    rw [if_neg (by simp)]
    unfold minL
    rw [List.foldl_cons, show min 18446744073709551615 (A a) = A a from Nat.min_eq_right (hA a)]
    rfl
theorem SRel.leafV {s : SSt} {l : List O26} {D : VD} (h : SRel s l) (k : Nat) : X.leafV D.v.sv s k = rLeafV D l k := by
  unfold X.leafV rLeafV
  rw [minL_rmin h.bd, h.lv, show getN s.ps = rOf l from funext h.ps]
  rfl
theorem SRel.leafI {s : SSt} {l : List O26} {D : VD} (h : SRel s l) (k : Int) : X.leafI D.v.sv s k = rLeafI D l k := by
  unfold X.leafI rLeafI
  rw [show (D.v.sv.lls.length : Int) = D.lvs.length from by show ((D.lvs.map (·.2)).length : Int) = _; rw [List.length_map], h.leafV]
theorem SRel.all {s : SSt} {l : List O26} {D : VD} (h : SRel s l) : allV D.v.sv s = rAllF D l D.lvs.length := by
  unfold allV
  rw [show D.v.sv.lls.length = D.lvs.length from by show (D.lvs.map (·.2)).length = _; rw [List.length_map]]
  have key : ∀ i, allF D.v.sv s (i + 1) = rAllF D l (i + 1) := by
    intro i
    induction i with
    | zero =>
      rw [allF_succ]
      show min (X.leafV D.v.sv s 0) (X.leafV D.v.sv s 0) = rLeafV D l 0
      rw [h.leafV]
      omega
    | succ i ih =>
      rw [allF_succ, ih, h.leafV]
      show _ = if i + 1 = 0 then rLeafV D l 0 else min (rAllF D l (i + 1)) (rLeafV D l (i + 1))
      rw [if_neg (by omega)]
  cases D.lvs.length with
  | zero => rfl
  | succ i => rw [if_neg (by omega)]; exact key i
/-! ### the law -/
theorem rep_same {w0 w : World} {L : List HP} {f : Nat} {D : VD} {s : SSt} {l : List O26} (p : Pid) (n : Nat) (hs : Sat w0 w (SO f D.v.sv s :: L)) (h : SRel s l) (hn : n ≤ U64) :
    Calls Try.prog 13 #[.pointer (some ⟨f, 0, none⟩), .agg #[.int .u16 (p.Id : Nat), .int .u32 (p.Inc : Nat)], .int .u64 (n : Nat)] w fun e w' => e = .returned (.bool (rRep D l p n).1) ∧ Sat w0 w' (SO f D.v.sv (s.rep D.v.sv p n).2 :: L) := by
  rw [← (h.rep p hn).1]
  exact sreport_calls p n hs
theorem repL_same {w0 w : World} {L : List HP} {f : Nat} {D : VD} {s : SSt} {l : List O26} (k : Int) (n : Nat) (hs : Sat w0 w (SO f D.v.sv s :: L)) (h : SRel s l) (hn : n ≤ U64) :
    Calls Try.prog 14 #[.pointer (some ⟨f, 0, none⟩), .int .i64 k, .int .u64 (n : Nat)] w fun e w' => e = .returned (.bool (rRepL D l k n).1) ∧ Sat w0 w' (SO f D.v.sv (s.repL D.v.sv k n).2 :: L) := by
  rw [← (h.repL k hn).1]
  exact sreportL_calls k n hs
theorem of_same {w0 w : World} {L : List HP} {f : Nat} {D : VD} {s : SSt} {l : List O26} (p : Pid) (hs : Sat w0 w (SO f D.v.sv s :: L)) (h : SRel s l) :
    Calls Try.prog 18 #[.pointer (some ⟨f, 0, none⟩), .agg #[.int .u16 (p.Id : Nat), .int .u32 (p.Inc : Nat)]] w fun e w' => e = .returned (.int .u64 (rOf l p : Nat)) ∧ Sat w0 w' (SO f D.v.sv s :: L) := by
  rw [← h.ps]
  exact sof_calls p hs
theorem leaf_same {w0 w : World} {L : List HP} {f : Nat} {D : VD} {s : SSt} {l : List O26} (k : Int) (hs : Sat w0 w (SO f D.v.sv s :: L)) (h : SRel s l) :
    Calls Try.prog 20 #[.pointer (some ⟨f, 0, none⟩), .int .i64 k] w fun e w' => e = .returned (.int .u64 (rLeafI D l k : Nat)) ∧ Sat w0 w' (SO f D.v.sv s :: L) := by
  rw [← h.leafI]
  exact sleaf_calls k hs
theorem all_same {w0 w : World} {L : List HP} {f : Nat} {D : VD} {s : SSt} {l : List O26} (hs : Sat w0 w (SO f D.v.sv s :: L)) (h : SRel s l) :
    Calls Try.prog 15 #[.pointer (some ⟨f, 0, none⟩)] w fun e w' => e = .returned (.int .u64 (rAllF D l D.lvs.length : Nat)) ∧ Sat w0 w' (SO f D.v.sv s :: L) := by
  rw [← h.all]
  exact sall_calls hs
/-- a view that came in -/
theorem TR.viewD {H : Type} {enc : TypeId × Value → H} {w0 : World} {cs0 : Array Value} (h0 : TR enc Try.prog w0 26 cs0.toList) :
    ∃ D : VD, cs0 = #[.int .u64 (D.Id : Nat), .slice D.am D.mem.length D.cm, .slice D.al D.lvs.length D.cl, .slice D.ad D.lds.length D.cd] ∧ VLen D.v ∧ DR w0 (Init w0) D := by
  obtain ⟨⟨Id, ⟨vm, mem⟩, ⟨vl, lvs⟩, ⟨vd, lds⟩⟩, hc, hf⟩ := TR.View h0
  obtain ⟨am, cm, e1⟩ := hf.vf.m.val
  obtain ⟨al, cl, e2⟩ := hf.vf.l.val
  obtain ⟨ad, cd, e3⟩ := hf.vf.d.val
  dsimp only at e1 e2 e3
  subst e1 e2 e3
  refine ⟨⟨Id, am, cm, mem, al, cl, lvs, ad, cd, lds⟩, ?_, hf.len, fun w' L' h => (hf.below h.init).vf⟩
  cases cs0
  simp only at hc
  rw [hc]
  rfl
theorem great_d {w0 w : World} {A : HP} {L : List HP} {D : VD} (hs : Sat w0 w (A :: L)) (hr : DR w0 A D) (hx : VLen D.v) :
    Calls Try.prog 8 #[.agg #[.int .u64 (D.Id : Nat), .slice D.am D.mem.length D.cm, .slice D.al D.lvs.length D.cl, .slice D.ad D.lds.length D.cd]] w fun e w' => ∃ r, e = .returned (.bool r) ∧ Sat w0 w' (A :: L) ∧ (r = false → VSmall D.v) := vgreat_calls hs hr hx
theorem new_d {w0 w : World} {A : HP} {L : List HP} {D : VD} (hs : Sat w0 w (A :: L)) (hr : DR w0 A D) (hx : VSmall D.v) :
    Calls Try.prog 11 #[.agg #[.int .u64 (D.Id : Nat), .slice D.am D.mem.length D.cm, .slice D.al D.lvs.length D.cl, .slice D.ad D.lds.length D.cd]] w fun e w' => ∃ f, e = .returned (.pointer (some ⟨f, 0, none⟩)) ∧ Sat w0 w' (SO f D.v.sv ⟨[], []⟩ :: A :: L) := snew_calls hs hr hx
set_option maxHeartbeats 1000000 in
theorem walk_StabPlays {H : Type} {enc : TypeId × Value → H} {w0 : World} {cs0 : Array Value} {a1 : Option Addr} {l1 c1 : Nat} (h0 : TR enc Try.prog w0 26 cs0.toList) (h1 : TR enc Try.prog w0 28 [.slice a1 l1 c1]) :
    Calls Try.prog 5 #[.agg cs0, .slice a1 l1 c1] w0 fun e w' => e = .returned (.bool true) ∧ Below w0.heap.size w0 w' := by
  obtain ⟨D, rfl, hdl, hin⟩ := TR.viewD h0
  obtain ⟨ts, rfl, hrd, hlen, hfa⟩ := TR.arg (k := 5) Try.underlying28 (by kernel_rfl) (by decide) (fun r hr => TR.Told26 hr) h1
  refine law_of fun w hs => ?_
  have hina : ∀ w' L', Sat w0 w' (Init w0 :: L') → RS w' 5 Told26.cells (.slice a1 ts.length c1) ts := fun w' L' h => hrd.below h.init
  have hfN : ∀ t ∈ ts, t.N ≤ U64 := fun t ht => (hfa t ht).N
  clear h0 h1 hrd hfa
  refine enter Try.func5 rfl Try.ntmps5 4 rfl (Nat.le_of_ble_eq_true rfl) ?_
  refine c_seq ?_
  -- region 0
  refine c_region ?_
  refine x_box hs (.agg #[_, _, _, _]) rfl ?_; clear hs; intro b2 w hs; refine ⟨fun h => (by first | (cases h; done) | (first | exact hs.cells2 rfl rfl | exact (hs.pull 1).cells2 rfl rfl | exact (hs.pull 2).cells2 rfl rfl | exact (hs.pull 3).cells2 rfl rfl | exact (hs.pull 4).cells2 rfl rfl | exact (hs.pull 5).cells2 rfl rfl | exact (hs.pull 6).cells2 rfl rfl | exact (hs.pull 7).cells2 rfl rfl | exact (hs.pull 8).cells2 rfl rfl | exact hs.cell rfl | exact (hs.pull 1).cell rfl | exact (hs.pull 2).cell rfl | exact (hs.pull 3).cell rfl | exact (hs.pull 4).cell rfl | exact (hs.pull 5).cell rfl | exact (hs.pull 6).cell rfl | exact (hs.pull 7).cell rfl | exact (hs.pull 8).cell rfl | assumption | exact hs.cellsOf | exact (hs.pull 1).cellsOf | exact (hs.pull 2).cellsOf | exact (hs.pull 3).cellsOf | exact (hs.pull 4).cellsOf | exact (hs.pull 5).cellsOf | exact (hs.pull 6).cellsOf | exact (hs.pull 7).cellsOf | exact (hs.pull 8).cellsOf) | (and_intros <;> first | exact hs.cells2 rfl rfl | exact (hs.pull 1).cells2 rfl rfl | exact (hs.pull 2).cells2 rfl rfl | exact (hs.pull 3).cells2 rfl rfl | exact (hs.pull 4).cells2 rfl rfl | exact (hs.pull 5).cells2 rfl rfl | exact (hs.pull 6).cells2 rfl rfl | exact (hs.pull 7).cells2 rfl rfl | exact (hs.pull 8).cells2 rfl rfl | exact hs.cell rfl | exact (hs.pull 1).cell rfl | exact (hs.pull 2).cell rfl | exact (hs.pull 3).cell rfl | exact (hs.pull 4).cell rfl | exact (hs.pull 5).cell rfl | exact (hs.pull 6).cell rfl | exact (hs.pull 7).cell rfl | exact (hs.pull 8).cell rfl | assumption | exact hs.cellsOf | exact (hs.pull 1).cellsOf | exact (hs.pull 2).cellsOf | exact (hs.pull 3).cellsOf | exact (hs.pull 4).cellsOf | exact (hs.pull 5).cellsOf | exact (hs.pull 6).cellsOf | exact (hs.pull 7).cellsOf | exact (hs.pull 8).cellsOf)), ?_⟩
  refine x_assign (.bool _) rfl ?_
  refine x_nil ?_
  refine then_n ?_
  refine c_seq ?_
  refine c_seq ?_
  -- region 1
  refine c_region ?_
  refine x_loadN [_, _, _, _] agg_26 _ rfl (by first | assumption | exact hs.cellsOf | exact (hs.pull 1).cellsOf | exact (hs.pull 2).cellsOf | exact (hs.pull 3).cellsOf | exact (hs.pull 4).cellsOf | exact (hs.pull 5).cellsOf | exact (hs.pull 6).cellsOf | exact (hs.pull 7).cellsOf | exact (hs.pull 8).cellsOf | exact hs.cells2 rfl rfl | exact (hs.pull 1).cells2 rfl rfl | exact (hs.pull 2).cells2 rfl rfl | exact (hs.pull 3).cells2 rfl rfl | exact (hs.pull 4).cells2 rfl rfl | exact (hs.pull 5).cells2 rfl rfl | exact (hs.pull 6).cells2 rfl rfl | exact (hs.pull 7).cells2 rfl rfl | exact (hs.pull 8).cells2 rfl rfl) ?_
  refine x_call Try.f8 Try.func8 rfl rfl _ rfl ?_
  refine (great_d (hs.pull 1) hin hdl).mono ?_
  clear hs; rintro e w ⟨r, rfl, hs, hsm⟩
  replace hs := hs.push 1
  try dsimp only [back] at hs
  refine ⟨_, rfl, fun h => (by first | (cases h; done) | (first | exact hs.cells2 rfl rfl | exact (hs.pull 1).cells2 rfl rfl | exact (hs.pull 2).cells2 rfl rfl | exact (hs.pull 3).cells2 rfl rfl | exact (hs.pull 4).cells2 rfl rfl | exact (hs.pull 5).cells2 rfl rfl | exact (hs.pull 6).cells2 rfl rfl | exact (hs.pull 7).cells2 rfl rfl | exact (hs.pull 8).cells2 rfl rfl | exact hs.cell rfl | exact (hs.pull 1).cell rfl | exact (hs.pull 2).cell rfl | exact (hs.pull 3).cell rfl | exact (hs.pull 4).cell rfl | exact (hs.pull 5).cell rfl | exact (hs.pull 6).cell rfl | exact (hs.pull 7).cell rfl | exact (hs.pull 8).cell rfl | assumption | exact hs.cellsOf | exact (hs.pull 1).cellsOf | exact (hs.pull 2).cellsOf | exact (hs.pull 3).cellsOf | exact (hs.pull 4).cellsOf | exact (hs.pull 5).cellsOf | exact (hs.pull 6).cellsOf | exact (hs.pull 7).cellsOf | exact (hs.pull 8).cellsOf) | (and_intros <;> first | exact hs.cells2 rfl rfl | exact (hs.pull 1).cells2 rfl rfl | exact (hs.pull 2).cells2 rfl rfl | exact (hs.pull 3).cells2 rfl rfl | exact (hs.pull 4).cells2 rfl rfl | exact (hs.pull 5).cells2 rfl rfl | exact (hs.pull 6).cells2 rfl rfl | exact (hs.pull 7).cells2 rfl rfl | exact (hs.pull 8).cells2 rfl rfl | exact hs.cell rfl | exact (hs.pull 1).cell rfl | exact (hs.pull 2).cell rfl | exact (hs.pull 3).cell rfl | exact (hs.pull 4).cell rfl | exact (hs.pull 5).cell rfl | exact (hs.pull 6).cell rfl | exact (hs.pull 7).cell rfl | exact (hs.pull 8).cell rfl | assumption | exact hs.cellsOf | exact (hs.pull 1).cellsOf | exact (hs.pull 2).cellsOf | exact (hs.pull 3).cellsOf | exact (hs.pull 4).cellsOf | exact (hs.pull 5).cellsOf | exact (hs.pull 6).cellsOf | exact (hs.pull 7).cellsOf | exact (hs.pull 8).cellsOf)), ?_⟩
  refine x_nil ?_
  refine then_n ?_
  refine c_cond rfl (fun hb => ?_) (fun hb => ?_)   -- cond t10
  · skip
    refine c_seq ?_
    -- region 2
    refine c_region ?_
    refine x_call Try.f10 Try.func10 rfl rfl _ rfl ?_
    refine (awake26_calls hs).mono ?_
    clear hs; rintro e w ⟨rfl, hs⟩
    refine ⟨_, rfl, fun h => (by first | (cases h; done) | (first | exact hs.cells2 rfl rfl | exact (hs.pull 1).cells2 rfl rfl | exact (hs.pull 2).cells2 rfl rfl | exact (hs.pull 3).cells2 rfl rfl | exact (hs.pull 4).cells2 rfl rfl | exact (hs.pull 5).cells2 rfl rfl | exact (hs.pull 6).cells2 rfl rfl | exact (hs.pull 7).cells2 rfl rfl | exact (hs.pull 8).cells2 rfl rfl | exact hs.cell rfl | exact (hs.pull 1).cell rfl | exact (hs.pull 2).cell rfl | exact (hs.pull 3).cell rfl | exact (hs.pull 4).cell rfl | exact (hs.pull 5).cell rfl | exact (hs.pull 6).cell rfl | exact (hs.pull 7).cell rfl | exact (hs.pull 8).cell rfl | assumption | exact hs.cellsOf | exact (hs.pull 1).cellsOf | exact (hs.pull 2).cellsOf | exact (hs.pull 3).cellsOf | exact (hs.pull 4).cellsOf | exact (hs.pull 5).cellsOf | exact (hs.pull 6).cellsOf | exact (hs.pull 7).cellsOf | exact (hs.pull 8).cellsOf) | (and_intros <;> first | exact hs.cells2 rfl rfl | exact (hs.pull 1).cells2 rfl rfl | exact (hs.pull 2).cells2 rfl rfl | exact (hs.pull 3).cells2 rfl rfl | exact (hs.pull 4).cells2 rfl rfl | exact (hs.pull 5).cells2 rfl rfl | exact (hs.pull 6).cells2 rfl rfl | exact (hs.pull 7).cells2 rfl rfl | exact (hs.pull 8).cells2 rfl rfl | exact hs.cell rfl | exact (hs.pull 1).cell rfl | exact (hs.pull 2).cell rfl | exact (hs.pull 3).cell rfl | exact (hs.pull 4).cell rfl | exact (hs.pull 5).cell rfl | exact (hs.pull 6).cell rfl | exact (hs.pull 7).cell rfl | exact (hs.pull 8).cell rfl | assumption | exact hs.cellsOf | exact (hs.pull 1).cellsOf | exact (hs.pull 2).cellsOf | exact (hs.pull 3).cellsOf | exact (hs.pull 4).cellsOf | exact (hs.pull 5).cellsOf | exact (hs.pull 6).cellsOf | exact (hs.pull 7).cellsOf | exact (hs.pull 8).cellsOf)), ?_⟩
    refine x_assign (.bool _) rfl ?_
    refine x_nil ?_
    refine then_n ?_
    refine c_ret ?_
    refine then_r ?_
    refine ⟨.inr rfl, ?_⟩
    exact ⟨rfl, hs.tail⟩
  · skip
    refine c_skip ?_
    refine then_n ?_
    refine c_seqI (γ := Nat × Nat) (fun (⟨f, x⟩ : Nat × Nat) => [(1, .slice a1 ts.length c1), (5, .pointer (some ⟨f, 0, none⟩)), (6, .pointer (some ⟨x, 0, none⟩))]) (fun (⟨f, x⟩ : Nat × Nat) w => Sat w0 w (SO f D.v.sv ⟨[], []⟩ :: RO x D [] :: [Init w0])) ?_ ?_
    · skip
      -- region 3 DRAWS
      replace hsm := hsm (by simpa using hb)
      refine c_fork (fun w => (∀ (j : Nat) (u : Value), [Value.int .u64 (D.Id : Nat), .slice D.am D.mem.length D.cm, .slice D.al D.lvs.length D.cl, .slice D.ad D.lds.length D.cd][j]? = some u → w.cell? ((⟨b2, 0, none⟩ : Addr).add j) = some u)) (fun i => !(false)) [(0, 1), (2, 1), (3, 2)] [(1, [(5, 2), (4, 0), (6, 2)]), (4, [(1, 0), (5, 2), (6, 2)])] 3 (by kernel_rfl) (by kernel_rfl) (by kernel_rfl) (by kernel_rfl) ((by first | (first | exact hs.cells2 rfl rfl | exact (hs.pull 1).cells2 rfl rfl | exact (hs.pull 2).cells2 rfl rfl | exact (hs.pull 3).cells2 rfl rfl | exact (hs.pull 4).cells2 rfl rfl | exact (hs.pull 5).cells2 rfl rfl | exact (hs.pull 6).cells2 rfl rfl | exact (hs.pull 7).cells2 rfl rfl | exact (hs.pull 8).cells2 rfl rfl | exact hs.cell rfl | exact (hs.pull 1).cell rfl | exact (hs.pull 2).cell rfl | exact (hs.pull 3).cell rfl | exact (hs.pull 4).cell rfl | exact (hs.pull 5).cell rfl | exact (hs.pull 6).cell rfl | exact (hs.pull 7).cell rfl | exact (hs.pull 8).cell rfl | assumption | exact hs.cellsOf | exact (hs.pull 1).cellsOf | exact (hs.pull 2).cellsOf | exact (hs.pull 3).cellsOf | exact (hs.pull 4).cellsOf | exact (hs.pull 5).cellsOf | exact (hs.pull 6).cellsOf | exact (hs.pull 7).cellsOf | exact (hs.pull 8).cellsOf) | (and_intros <;> first | exact hs.cells2 rfl rfl | exact (hs.pull 1).cells2 rfl rfl | exact (hs.pull 2).cells2 rfl rfl | exact (hs.pull 3).cells2 rfl rfl | exact (hs.pull 4).cells2 rfl rfl | exact (hs.pull 5).cells2 rfl rfl | exact (hs.pull 6).cells2 rfl rfl | exact (hs.pull 7).cells2 rfl rfl | exact (hs.pull 8).cells2 rfl rfl | exact hs.cell rfl | exact (hs.pull 1).cell rfl | exact (hs.pull 2).cell rfl | exact (hs.pull 3).cell rfl | exact (hs.pull 4).cell rfl | exact (hs.pull 5).cell rfl | exact (hs.pull 6).cell rfl | exact (hs.pull 7).cell rfl | exact (hs.pull 8).cell rfl | assumption | exact hs.cellsOf | exact (hs.pull 1).cellsOf | exact (hs.pull 2).cellsOf | exact (hs.pull 3).cellsOf | exact (hs.pull 4).cellsOf | exact (hs.pull 5).cellsOf | exact (hs.pull 6).cellsOf | exact (hs.pull 7).cellsOf | exact (hs.pull 8).cellsOf))) ?_
      replace hs := hs.drew
      refine h_loadN [_, _, _, _] agg_26 _ rfl (fun w hS => by first | exact hS | exact hS.1 | exact hS.2 | exact hS.2.1 | exact hS.2.2 | exact hS.2.2.1 | exact hS.2.2.2 | exact hS.2.2.2.1 | exact hS.2.2.2.2 | exact hS.cellsOf | exact (hS.pull 1).cellsOf | exact (hS.pull 2).cellsOf | exact (hS.pull 3).cellsOf | exact (hS.pull 4).cellsOf | exact (hS.pull 5).cellsOf | exact (hS.pull 6).cellsOf | exact hS.cells2 rfl rfl | exact (hS.pull 1).cells2 rfl rfl | exact (hS.pull 2).cells2 rfl rfl | exact (hS.pull 3).cells2 rfl rfl | exact (hS.pull 4).cells2 rfl rfl | exact (hS.pull 5).cells2 rfl rfl | exact (hS.pull 6).cells2 rfl rfl) ?_
      refine h_loadN [_, _, _, _] agg_26 _ rfl (fun w hS => by first | exact hS | exact hS.1 | exact hS.2 | exact hS.2.1 | exact hS.2.2 | exact hS.2.2.1 | exact hS.2.2.2 | exact hS.2.2.2.1 | exact hS.2.2.2.2 | exact hS.cellsOf | exact (hS.pull 1).cellsOf | exact (hS.pull 2).cellsOf | exact (hS.pull 3).cellsOf | exact (hS.pull 4).cellsOf | exact (hS.pull 5).cellsOf | exact (hS.pull 6).cellsOf | exact hS.cells2 rfl rfl | exact (hS.pull 1).cells2 rfl rfl | exact (hS.pull 2).cells2 rfl rfl | exact (hS.pull 3).cells2 rfl rfl | exact (hS.pull 4).cells2 rfl rfl | exact (hS.pull 5).cells2 rfl rfl | exact (hS.pull 6).cells2 rfl rfl) ?_
      refine x_build _ [(0, (.agg #[(.int .u64 _), (.slice _ _ _), (.slice _ _ _), (.slice _ _ _)]))] rfl (fun w => bd_49_0 _ _ _ _ _ _ _ _ _ _ w) ?_
      refine x_nil ?_
      refine (List.forall_mem_cons.2 ⟨?_, (List.forall_mem_cons.2 ⟨?_, (fun _ h => by cases h)⟩)⟩)
      · skip
        refine x_call Try.f11 Try.func11 rfl rfl _ rfl ?_
        refine ((new_d (hs.pull 1) hin hsm)).mono ?_
        clear hs; rintro e w ⟨f, rfl, hs⟩
        refine ⟨_, rfl, fun h => (by first | (cases h; done) | (first | exact hs.cells2 rfl rfl | exact (hs.pull 1).cells2 rfl rfl | exact (hs.pull 2).cells2 rfl rfl | exact (hs.pull 3).cells2 rfl rfl | exact (hs.pull 4).cells2 rfl rfl | exact (hs.pull 5).cells2 rfl rfl | exact (hs.pull 6).cells2 rfl rfl | exact (hs.pull 7).cells2 rfl rfl | exact (hs.pull 8).cells2 rfl rfl | exact hs.cell rfl | exact (hs.pull 1).cell rfl | exact (hs.pull 2).cell rfl | exact (hs.pull 3).cell rfl | exact (hs.pull 4).cell rfl | exact (hs.pull 5).cell rfl | exact (hs.pull 6).cell rfl | exact (hs.pull 7).cell rfl | exact (hs.pull 8).cell rfl | assumption | exact hs.cellsOf | exact (hs.pull 1).cellsOf | exact (hs.pull 2).cellsOf | exact (hs.pull 3).cellsOf | exact (hs.pull 4).cellsOf | exact (hs.pull 5).cellsOf | exact (hs.pull 6).cellsOf | exact (hs.pull 7).cellsOf | exact (hs.pull 8).cellsOf) | (and_intros <;> first | exact hs.cells2 rfl rfl | exact (hs.pull 1).cells2 rfl rfl | exact (hs.pull 2).cells2 rfl rfl | exact (hs.pull 3).cells2 rfl rfl | exact (hs.pull 4).cells2 rfl rfl | exact (hs.pull 5).cells2 rfl rfl | exact (hs.pull 6).cells2 rfl rfl | exact (hs.pull 7).cells2 rfl rfl | exact (hs.pull 8).cells2 rfl rfl | exact hs.cell rfl | exact (hs.pull 1).cell rfl | exact (hs.pull 2).cell rfl | exact (hs.pull 3).cell rfl | exact (hs.pull 4).cell rfl | exact (hs.pull 5).cell rfl | exact (hs.pull 6).cell rfl | exact (hs.pull 7).cell rfl | exact (hs.pull 8).cell rfl | assumption | exact hs.cellsOf | exact (hs.pull 1).cellsOf | exact (hs.pull 2).cellsOf | exact (hs.pull 3).cellsOf | exact (hs.pull 4).cellsOf | exact (hs.pull 5).cellsOf | exact (hs.pull 6).cellsOf | exact (hs.pull 7).cellsOf | exact (hs.pull 8).cellsOf)), ?_⟩
        refine x_assign (.pointer _) rfl ?_
        refine x_box hs (.agg #[_, _, _, _, _]) rfl ?_; clear hs; intro b16 w hs; refine ⟨fun h => (by first | (cases h; done) | (first | exact hs.cells2 rfl rfl | exact (hs.pull 1).cells2 rfl rfl | exact (hs.pull 2).cells2 rfl rfl | exact (hs.pull 3).cells2 rfl rfl | exact (hs.pull 4).cells2 rfl rfl | exact (hs.pull 5).cells2 rfl rfl | exact (hs.pull 6).cells2 rfl rfl | exact (hs.pull 7).cells2 rfl rfl | exact (hs.pull 8).cells2 rfl rfl | exact hs.cell rfl | exact (hs.pull 1).cell rfl | exact (hs.pull 2).cell rfl | exact (hs.pull 3).cell rfl | exact (hs.pull 4).cell rfl | exact (hs.pull 5).cell rfl | exact (hs.pull 6).cell rfl | exact (hs.pull 7).cell rfl | exact (hs.pull 8).cell rfl | assumption | exact hs.cellsOf | exact (hs.pull 1).cellsOf | exact (hs.pull 2).cellsOf | exact (hs.pull 3).cellsOf | exact (hs.pull 4).cellsOf | exact (hs.pull 5).cellsOf | exact (hs.pull 6).cellsOf | exact (hs.pull 7).cellsOf | exact (hs.pull 8).cellsOf) | (and_intros <;> first | exact hs.cells2 rfl rfl | exact (hs.pull 1).cells2 rfl rfl | exact (hs.pull 2).cells2 rfl rfl | exact (hs.pull 3).cells2 rfl rfl | exact (hs.pull 4).cells2 rfl rfl | exact (hs.pull 5).cells2 rfl rfl | exact (hs.pull 6).cells2 rfl rfl | exact (hs.pull 7).cells2 rfl rfl | exact (hs.pull 8).cells2 rfl rfl | exact hs.cell rfl | exact (hs.pull 1).cell rfl | exact (hs.pull 2).cell rfl | exact (hs.pull 3).cell rfl | exact (hs.pull 4).cell rfl | exact (hs.pull 5).cell rfl | exact (hs.pull 6).cell rfl | exact (hs.pull 7).cell rfl | exact (hs.pull 8).cell rfl | assumption | exact hs.cellsOf | exact (hs.pull 1).cellsOf | exact (hs.pull 2).cellsOf | exact (hs.pull 3).cellsOf | exact (hs.pull 4).cellsOf | exact (hs.pull 5).cellsOf | exact (hs.pull 6).cellsOf | exact (hs.pull 7).cellsOf | exact (hs.pull 8).cellsOf)), ?_⟩
        refine x_assign (.pointer _) rfl ?_
        refine x_nil ?_
        refine then_n ?_
        exact ⟨(f, b16), ⟨rfl, rfl, rfl, trivial⟩, (Sat.ro' (D := D) (l := []) ((hs.rowNil (e := 64) (size := 4)).sel [1, 0, 2, 3] 5)).perm [1, 0, 2]⟩
      · skip
        refine x_box hs (.agg #[_, _, _, _, _]) rfl ?_; clear hs; intro b16 w hs; refine ⟨fun h => (by first | (cases h; done) | (first | exact hs.cells2 rfl rfl | exact (hs.pull 1).cells2 rfl rfl | exact (hs.pull 2).cells2 rfl rfl | exact (hs.pull 3).cells2 rfl rfl | exact (hs.pull 4).cells2 rfl rfl | exact (hs.pull 5).cells2 rfl rfl | exact (hs.pull 6).cells2 rfl rfl | exact (hs.pull 7).cells2 rfl rfl | exact (hs.pull 8).cells2 rfl rfl | exact hs.cell rfl | exact (hs.pull 1).cell rfl | exact (hs.pull 2).cell rfl | exact (hs.pull 3).cell rfl | exact (hs.pull 4).cell rfl | exact (hs.pull 5).cell rfl | exact (hs.pull 6).cell rfl | exact (hs.pull 7).cell rfl | exact (hs.pull 8).cell rfl | assumption | exact hs.cellsOf | exact (hs.pull 1).cellsOf | exact (hs.pull 2).cellsOf | exact (hs.pull 3).cellsOf | exact (hs.pull 4).cellsOf | exact (hs.pull 5).cellsOf | exact (hs.pull 6).cellsOf | exact (hs.pull 7).cellsOf | exact (hs.pull 8).cellsOf) | (and_intros <;> first | exact hs.cells2 rfl rfl | exact (hs.pull 1).cells2 rfl rfl | exact (hs.pull 2).cells2 rfl rfl | exact (hs.pull 3).cells2 rfl rfl | exact (hs.pull 4).cells2 rfl rfl | exact (hs.pull 5).cells2 rfl rfl | exact (hs.pull 6).cells2 rfl rfl | exact (hs.pull 7).cells2 rfl rfl | exact (hs.pull 8).cells2 rfl rfl | exact hs.cell rfl | exact (hs.pull 1).cell rfl | exact (hs.pull 2).cell rfl | exact (hs.pull 3).cell rfl | exact (hs.pull 4).cell rfl | exact (hs.pull 5).cell rfl | exact (hs.pull 6).cell rfl | exact (hs.pull 7).cell rfl | exact (hs.pull 8).cell rfl | assumption | exact hs.cellsOf | exact (hs.pull 1).cellsOf | exact (hs.pull 2).cellsOf | exact (hs.pull 3).cellsOf | exact (hs.pull 4).cellsOf | exact (hs.pull 5).cellsOf | exact (hs.pull 6).cellsOf | exact (hs.pull 7).cellsOf | exact (hs.pull 8).cellsOf)), ?_⟩
        refine x_call Try.f11 Try.func11 rfl rfl _ rfl ?_
        refine ((new_d (hs.pull 2) hin hsm)).mono ?_
        clear hs; rintro e w ⟨f, rfl, hs⟩
        refine ⟨_, rfl, fun h => (by first | (cases h; done) | (first | exact hs.cells2 rfl rfl | exact (hs.pull 1).cells2 rfl rfl | exact (hs.pull 2).cells2 rfl rfl | exact (hs.pull 3).cells2 rfl rfl | exact (hs.pull 4).cells2 rfl rfl | exact (hs.pull 5).cells2 rfl rfl | exact (hs.pull 6).cells2 rfl rfl | exact (hs.pull 7).cells2 rfl rfl | exact (hs.pull 8).cells2 rfl rfl | exact hs.cell rfl | exact (hs.pull 1).cell rfl | exact (hs.pull 2).cell rfl | exact (hs.pull 3).cell rfl | exact (hs.pull 4).cell rfl | exact (hs.pull 5).cell rfl | exact (hs.pull 6).cell rfl | exact (hs.pull 7).cell rfl | exact (hs.pull 8).cell rfl | assumption | exact hs.cellsOf | exact (hs.pull 1).cellsOf | exact (hs.pull 2).cellsOf | exact (hs.pull 3).cellsOf | exact (hs.pull 4).cellsOf | exact (hs.pull 5).cellsOf | exact (hs.pull 6).cellsOf | exact (hs.pull 7).cellsOf | exact (hs.pull 8).cellsOf) | (and_intros <;> first | exact hs.cells2 rfl rfl | exact (hs.pull 1).cells2 rfl rfl | exact (hs.pull 2).cells2 rfl rfl | exact (hs.pull 3).cells2 rfl rfl | exact (hs.pull 4).cells2 rfl rfl | exact (hs.pull 5).cells2 rfl rfl | exact (hs.pull 6).cells2 rfl rfl | exact (hs.pull 7).cells2 rfl rfl | exact (hs.pull 8).cells2 rfl rfl | exact hs.cell rfl | exact (hs.pull 1).cell rfl | exact (hs.pull 2).cell rfl | exact (hs.pull 3).cell rfl | exact (hs.pull 4).cell rfl | exact (hs.pull 5).cell rfl | exact (hs.pull 6).cell rfl | exact (hs.pull 7).cell rfl | exact (hs.pull 8).cell rfl | assumption | exact hs.cellsOf | exact (hs.pull 1).cellsOf | exact (hs.pull 2).cellsOf | exact (hs.pull 3).cellsOf | exact (hs.pull 4).cellsOf | exact (hs.pull 5).cellsOf | exact (hs.pull 6).cellsOf | exact (hs.pull 7).cellsOf | exact (hs.pull 8).cellsOf)), ?_⟩
        refine x_assign (.pointer _) rfl ?_
        refine x_assign (.pointer _) rfl ?_
        refine x_nil ?_
        refine then_n ?_
        exact ⟨(f, b16), ⟨rfl, rfl, rfl, trivial⟩, (Sat.ro' (D := D) (l := []) ((hs.rowNil (e := 64) (size := 4)).sel [3, 0, 1, 2] 5)).perm [1, 0, 2]⟩
    · skip
      clear hs
      rintro ⟨f, x⟩ ρ w hs
      change CW Try.prog 126 _ _ (sets 126 [(1, .slice a1 ts.length c1), (5, .pointer (some ⟨f, 0, none⟩)), (6, .pointer (some ⟨x, 0, none⟩))] ρ) w
      replace hsm := hsm (by simpa using hb)
      refine c_seqI (γ := Unit) (fun (_u : Unit) => [(5, .pointer (some ⟨f, 0, none⟩))]) (fun (_u : Unit) w => Sat w0 w [Init w0]) ?_ ?_
      · skip
        refine c_seq ?_
        -- region 4
        refine c_region ?_
        refine x_assign (.int _ _) rfl ?_
        refine x_nil ?_
        refine then_n ?_
        refine c_block ?_
        refine c_loop (γ := Nat × SSt × List O26) (fun (⟨i, s, l⟩ : Nat × SSt × List O26) => [(1, .slice a1 ts.length c1), (5, .pointer (some ⟨f, 0, none⟩)), (6, .pointer (some ⟨x, 0, none⟩)), (7, .int .i64 (i : Nat))]) (fun (⟨i, s, l⟩ : Nat × SSt × List O26) w => i ≤ 100 ∧ SRel s l ∧ l.length ≤ i ∧ Sat w0 w (SO f D.v.sv s :: RO x D l :: [Init w0])) (fun (⟨i, s, l⟩ : Nat × SSt × List O26) => 100 - i) (0, ⟨[], []⟩, []) ⟨rfl, rfl, rfl, rfl, trivial⟩ ⟨Nat.zero_le _, SRel.start, Nat.le_refl _, hs⟩ ?_
        clear hs
        rintro ⟨i, s, l⟩ ρ w ⟨hi, hrel, hli, hs⟩
        change CW Try.prog 126 _ _ (sets 126 [(1, .slice a1 ts.length c1), (5, .pointer (some ⟨f, 0, none⟩)), (6, .pointer (some ⟨x, 0, none⟩)), (7, .int .i64 (i : Nat))] ρ) w
        by_cases h1 : i < ts.length
        by_cases h2 : i < 100
        · skip
          refine c_seq ?_
          refine c_seq ?_
          -- region 5
          refine c_region ?_
          refine x_move (.int _ _) rfl ?_
          refine x_move (.slice _ _ _) rfl ?_
          refine x_lenSl Try.underlying28 _ _ _ rfl ?_
          refine x_lssT _ _ rfl rfl (by omega) ?_
          refine x_move (.bool _) rfl ?_
          refine x_want' rfl ?_
          refine x_move (.int _ _) rfl ?_
          refine x_want' rfl ?_
          refine x_lssT _ _ rfl rfl (by omega) ?_
          refine x_pickT (.bool _) rfl rfl ?_
          refine x_nil ?_
          refine then_n ?_
          refine c_true rfl ?_
          refine c_skip ?_
          refine then_n ?_
          refine c_seq ?_
          refine c_block ?_
          refine c_seq ?_
          -- region 7
          obtain ⟨t, ht⟩ : ∃ x, ts[i]? = some x := ⟨ts[i]'h1, List.getElem?_eq_getElem _⟩
          have hN := hfN t (List.mem_of_getElem? ht)
          obtain ⟨g, o, rfl⟩ := (hina _ _ (hs.pull 2)).addr (by omega)
          obtain ⟨P, Of, Leaf, N⟩ := t
          have hcp : ∀ {w' L'}, Sat w0 w' (Init w0 :: L') → (∀ (j : Nat) (u : Value), [Value.int .u16 (P.Id : Nat), Value.int .u32 (P.Inc : Nat)][j]? = some u → w'.cell? ((⟨g, o + i * 5, none⟩ : Addr).add j) = some u) := fun h =>
            cells2 ((hina _ _ h).cell (fun a => a.cells_len) ht (q := 0) rfl) ((hina _ _ h).cell (fun a => a.cells_len) ht (q := 1) rfl)
          have hco : ∀ {w' L'}, Sat w0 w' (Init w0 :: L') → w'.cell? ⟨g, o + i * 5 + 2, none⟩ = some (.bool Of) := fun h => (hina _ _ h).cell (fun a => a.cells_len) ht (q := 2) rfl
          have hcl : ∀ {w' L'}, Sat w0 w' (Init w0 :: L') → w'.cell? ⟨g, o + i * 5 + 3, none⟩ = some (.int .i64 Leaf) := fun h => (hina _ _ h).cell (fun a => a.cells_len) ht (q := 3) rfl
          have hcn : ∀ {w' L'}, Sat w0 w' (Init w0 :: L') → w'.cell? ⟨g, o + i * 5 + 4, none⟩ = some (.int .u64 (N : Nat)) := fun h => (hina _ _ h).cell (fun a => a.cells_len) ht (q := 4) rfl
          dsimp only at hN
          have hco1 := hco (hs.pull 2)
          refine c_region ?_
          refine x_assign (.bool _) rfl ?_
          refine x_nil ?_
          refine then_n ?_
          refine c_seqI (γ := SSt × List O26) (fun (⟨s', l'⟩ : SSt × List O26) => [(1, .slice (some ⟨g, o, none⟩) ts.length c1), (5, .pointer (some ⟨f, 0, none⟩)), (6, .pointer (some ⟨x, 0, none⟩)), (7, .int .i64 (i : Nat)), (8, .bool true)]) (fun (⟨s', l'⟩ : SSt × List O26) w => SRel s' l' ∧ l'.length ≤ i + 1 ∧ Sat w0 w (SO f D.v.sv s' :: RO x D l' :: [Init w0])) ?_ ?_
          · skip
            refine c_seq ?_
            -- region 8
            refine c_region ?_
            refine x_move (.slice _ _ _) rfl ?_
            refine x_move (.int _ _) rfl ?_
            refine x_indexAddr Try.underlying28 sz_40 _ _ _ _ _ rfl rfl (by omega) ?_
            first | refine x_field0 fa_40_1 _ rfl ?_ | refine x_field fa_40_1 _ _ rfl ?_
            refine x_load one_4 _ (.bool _) rfl (by first | exact hs.cell rfl | exact (hs.pull 1).cell rfl | exact (hs.pull 2).cell rfl | exact (hs.pull 3).cell rfl | assumption | exact (hs.pull 4).cell rfl | exact (hs.pull 5).cell rfl | exact (hs.pull 6).cell rfl | exact (hs.pull 7).cell rfl) ?_
            refine x_nil ?_
            refine then_n ?_
            refine c_cond rfl (fun hb => ?_) (fun hb => ?_)   -- cond t31
            · skip
              -- region 9 DRAWS
              refine c_draw (fun w => w.cell? ⟨g, o + i * 5 + 3, none⟩ = some (.int .i64 Leaf) ∧ w.cell? ⟨g, o + i * 5 + 4, none⟩ = some (.int .u64 (N : Nat))) (fun i => !(Nat.beq i 23)) [(0, 2), (1, 2), (2, 2), (3, 2), (4, 2), (5, 1), (6, 2), (7, 2), (8, 2), (9, 2), (10, 1), (12, 2), (13, 2), (14, 2), (15, 2), (16, 2), (17, 1), (18, 2), (19, 2), (20, 2), (21, 2), (22, 1), (11, 0), (23, 0), (24, 2), (25, 2)] (by kernel_rfl) (by kernel_rfl) (by kernel_rfl) (by kernel_rfl) (⟨hcl (hs.drew.pull 2), hcn (hs.drew.pull 2)⟩) ?_
              replace hs := hs.drew
              refine x_move (.pointer _) rfl ?_
              refine x_move (.slice _ _ _) rfl ?_
              refine x_move (.int _ _) rfl ?_
              refine x_indexAddr Try.underlying28 sz_40 _ _ _ _ _ rfl rfl (by omega) ?_
              first | refine x_field0 fa_40_2 _ rfl ?_ | refine x_field fa_40_2 _ _ rfl ?_
              refine h_load one_3 _ (.int _ _) rfl (fun w hS => by first | exact hS.cell rfl | exact (hS.pull 1).cell rfl | exact (hS.pull 2).cell rfl | exact (hS.pull 3).cell rfl | exact (hS.pull 4).cell rfl | exact (hS.pull 5).cell rfl | exact (hS.pull 6).cell rfl | exact hS | exact hS.1 | exact hS.2 | exact hS.2.1 | exact hS.2.2 | exact hS.2.2.1 | exact hS.2.2.2 | exact hS.2.2.2.1 | exact hS.2.2.2.2) ?_
              refine x_move (.slice _ _ _) rfl ?_
              refine x_move (.int _ _) rfl ?_
              refine x_indexAddr Try.underlying28 sz_40 _ _ _ _ _ rfl rfl (by omega) ?_
              first | refine x_field0 fa_40_3 _ rfl ?_ | refine x_field fa_40_3 _ _ rfl ?_
              refine h_load one_22 _ (.int _ _) rfl (fun w hS => by first | exact hS.cell rfl | exact (hS.pull 1).cell rfl | exact (hS.pull 2).cell rfl | exact (hS.pull 3).cell rfl | exact (hS.pull 4).cell rfl | exact (hS.pull 5).cell rfl | exact (hS.pull 6).cell rfl | exact hS | exact hS.1 | exact hS.2 | exact hS.2.1 | exact hS.2.2 | exact hS.2.2.1 | exact hS.2.2.2 | exact hS.2.2.2.1 | exact hS.2.2.2.2) ?_
              refine x_move (.pointer _) rfl ?_
              refine x_move (.slice _ _ _) rfl ?_
              refine x_move (.int _ _) rfl ?_
              refine x_indexAddr Try.underlying28 sz_40 _ _ _ _ _ rfl rfl (by omega) ?_
              first | refine x_field0 fa_40_2 _ rfl ?_ | refine x_field fa_40_2 _ _ rfl ?_
              refine h_load one_3 _ (.int _ _) rfl (fun w hS => by first | exact hS.cell rfl | exact (hS.pull 1).cell rfl | exact (hS.pull 2).cell rfl | exact (hS.pull 3).cell rfl | exact (hS.pull 4).cell rfl | exact (hS.pull 5).cell rfl | exact (hS.pull 6).cell rfl | exact hS | exact hS.1 | exact hS.2 | exact hS.2.1 | exact hS.2.2 | exact hS.2.2.1 | exact hS.2.2.2 | exact hS.2.2.2.1 | exact hS.2.2.2.2) ?_
              refine x_move (.slice _ _ _) rfl ?_
              refine x_move (.int _ _) rfl ?_
              refine x_indexAddr Try.underlying28 sz_40 _ _ _ _ _ rfl rfl (by omega) ?_
              first | refine x_field0 fa_40_3 _ rfl ?_ | refine x_field fa_40_3 _ _ rfl ?_
              refine h_load one_22 _ (.int _ _) rfl (fun w hS => by first | exact hS.cell rfl | exact (hS.pull 1).cell rfl | exact (hS.pull 2).cell rfl | exact (hS.pull 3).cell rfl | exact (hS.pull 4).cell rfl | exact (hS.pull 5).cell rfl | exact (hS.pull 6).cell rfl | exact hS | exact hS.1 | exact hS.2 | exact hS.2.1 | exact hS.2.2 | exact hS.2.2.1 | exact hS.2.2.2 | exact hS.2.2.2.1 | exact hS.2.2.2.2) ?_
              refine x_call Try.f14 Try.func14 rfl rfl _ rfl ?_
              refine (repL_same (l := l) Leaf N hs hrel hN).mono ?_
              clear hs; rintro e w ⟨rfl, hs⟩
              refine ⟨_, rfl, fun h => ⟨hcl (hs.pull 2), hcn (hs.pull 2)⟩, ?_⟩
              refine x_call Try.f16 Try.func16 rfl rfl _ rfl ?_
              refine ((rrepL_calls Leaf N (hs.perm [1, 2, 0]) hsm (by omega))).mono ?_
              clear hs; rintro e w ⟨rfl, hs⟩
              refine ⟨_, rfl, fun h => (by cases h), ?_⟩
              replace hs := hs.perm [2, 0, 1]
              refine x_eqlBT _ _ Try.underlying4 rfl rfl (by first | rfl | assumption | (simp; done) | (simp_all; done)) ?_
              refine x_assign (.bool _) rfl ?_
              refine x_nil ?_
              refine then_n ?_
              exact ⟨((s.repL D.v.sv Leaf N).2, (rRepL D l Leaf N).2), ⟨rfl, rfl, rfl, rfl, rfl, trivial⟩, ⟨(hrel.repL Leaf hN).2, by unfold rRepL; split <;> simp <;> omega, hs⟩⟩
            · skip
              -- region 10 DRAWS
              refine c_draw (fun w => w.cell? ⟨g, o + i * 5 + 4, none⟩ = some (.int .u64 (N : Nat)) ∧ (∀ (j : Nat) (u : Value), [Value.int .u16 (P.Id : Nat), Value.int .u32 (P.Inc : Nat)][j]? = some u → w.cell? ((⟨g, o + i * 5, none⟩ : Addr).add j) = some u)) (fun i => !(Nat.beq i 23)) [(0, 2), (1, 2), (2, 2), (3, 2), (4, 2), (5, 1), (6, 2), (7, 2), (8, 2), (9, 2), (10, 1), (12, 2), (13, 2), (14, 2), (15, 2), (16, 2), (17, 1), (18, 2), (19, 2), (20, 2), (21, 2), (22, 1), (11, 0), (23, 0), (24, 2), (25, 2)] (by kernel_rfl) (by kernel_rfl) (by kernel_rfl) (by kernel_rfl) (⟨hcn (hs.drew.pull 2), hcp (hs.drew.pull 2)⟩) ?_
              replace hs := hs.drew
              refine x_move (.pointer _) rfl ?_
              refine x_move (.slice _ _ _) rfl ?_
              refine x_move (.int _ _) rfl ?_
              refine x_indexAddr Try.underlying28 sz_40 _ _ _ _ _ rfl rfl (by omega) ?_
              first | refine x_field0 fa_40_0 _ rfl ?_ | refine x_field fa_40_0 _ _ rfl ?_
              refine h_loadN [_, _] agg_38 _ rfl (fun w hS => by first | exact hS | exact hS.1 | exact hS.2 | exact hS.2.1 | exact hS.2.2 | exact hS.2.2.1 | exact hS.2.2.2 | exact hS.2.2.2.1 | exact hS.2.2.2.2 | exact hS.cellsOf | exact (hS.pull 1).cellsOf | exact (hS.pull 2).cellsOf | exact (hS.pull 3).cellsOf | exact (hS.pull 4).cellsOf | exact (hS.pull 5).cellsOf | exact (hS.pull 6).cellsOf | exact hS.cells2 rfl rfl | exact (hS.pull 1).cells2 rfl rfl | exact (hS.pull 2).cells2 rfl rfl | exact (hS.pull 3).cells2 rfl rfl | exact (hS.pull 4).cells2 rfl rfl | exact (hS.pull 5).cells2 rfl rfl | exact (hS.pull 6).cells2 rfl rfl) ?_
              refine x_move (.slice _ _ _) rfl ?_
              refine x_move (.int _ _) rfl ?_
              refine x_indexAddr Try.underlying28 sz_40 _ _ _ _ _ rfl rfl (by omega) ?_
              first | refine x_field0 fa_40_3 _ rfl ?_ | refine x_field fa_40_3 _ _ rfl ?_
              refine h_load one_22 _ (.int _ _) rfl (fun w hS => by first | exact hS.cell rfl | exact (hS.pull 1).cell rfl | exact (hS.pull 2).cell rfl | exact (hS.pull 3).cell rfl | exact (hS.pull 4).cell rfl | exact (hS.pull 5).cell rfl | exact (hS.pull 6).cell rfl | exact hS | exact hS.1 | exact hS.2 | exact hS.2.1 | exact hS.2.2 | exact hS.2.2.1 | exact hS.2.2.2 | exact hS.2.2.2.1 | exact hS.2.2.2.2) ?_
              refine x_move (.pointer _) rfl ?_
              refine x_move (.slice _ _ _) rfl ?_
              refine x_move (.int _ _) rfl ?_
              refine x_indexAddr Try.underlying28 sz_40 _ _ _ _ _ rfl rfl (by omega) ?_
              first | refine x_field0 fa_40_0 _ rfl ?_ | refine x_field fa_40_0 _ _ rfl ?_
              refine h_loadN [_, _] agg_38 _ rfl (fun w hS => by first | exact hS | exact hS.1 | exact hS.2 | exact hS.2.1 | exact hS.2.2 | exact hS.2.2.1 | exact hS.2.2.2 | exact hS.2.2.2.1 | exact hS.2.2.2.2 | exact hS.cellsOf | exact (hS.pull 1).cellsOf | exact (hS.pull 2).cellsOf | exact (hS.pull 3).cellsOf | exact (hS.pull 4).cellsOf | exact (hS.pull 5).cellsOf | exact (hS.pull 6).cellsOf | exact hS.cells2 rfl rfl | exact (hS.pull 1).cells2 rfl rfl | exact (hS.pull 2).cells2 rfl rfl | exact (hS.pull 3).cells2 rfl rfl | exact (hS.pull 4).cells2 rfl rfl | exact (hS.pull 5).cells2 rfl rfl | exact (hS.pull 6).cells2 rfl rfl) ?_
              refine x_move (.slice _ _ _) rfl ?_
              refine x_move (.int _ _) rfl ?_
              refine x_indexAddr Try.underlying28 sz_40 _ _ _ _ _ rfl rfl (by omega) ?_
              first | refine x_field0 fa_40_3 _ rfl ?_ | refine x_field fa_40_3 _ _ rfl ?_
              refine h_load one_22 _ (.int _ _) rfl (fun w hS => by first | exact hS.cell rfl | exact (hS.pull 1).cell rfl | exact (hS.pull 2).cell rfl | exact (hS.pull 3).cell rfl | exact (hS.pull 4).cell rfl | exact (hS.pull 5).cell rfl | exact (hS.pull 6).cell rfl | exact hS | exact hS.1 | exact hS.2 | exact hS.2.1 | exact hS.2.2 | exact hS.2.2.1 | exact hS.2.2.2 | exact hS.2.2.2.1 | exact hS.2.2.2.2) ?_
              refine x_call Try.f13 Try.func13 rfl rfl _ rfl ?_
              refine (rep_same (l := l) P N hs hrel hN).mono ?_
              clear hs; rintro e w ⟨rfl, hs⟩
              refine ⟨_, rfl, fun h => ⟨hcn (hs.pull 2), hcp (hs.pull 2)⟩, ?_⟩
              refine x_call Try.f17 Try.func17 rfl rfl _ rfl ?_
              refine ((rrep_calls P N (hs.perm [1, 2, 0]) hin hsm (by omega))).mono ?_
              clear hs; rintro e w ⟨rfl, hs⟩
              refine ⟨_, rfl, fun h => (by cases h), ?_⟩
              replace hs := hs.perm [2, 0, 1]
              refine x_eqlBT _ _ Try.underlying4 rfl rfl (by first | rfl | assumption | (simp; done) | (simp_all; done)) ?_
              refine x_assign (.bool _) rfl ?_
              refine x_nil ?_
              refine then_n ?_
              exact ⟨((s.rep D.v.sv P N).2, (rRep D l P N).2), ⟨rfl, rfl, rfl, rfl, rfl, trivial⟩, ⟨(hrel.rep P hN).2, by unfold rRep; split <;> simp <;> omega, hs⟩⟩
          · skip
            clear hs
            rintro ⟨s', l'⟩ ρ w ⟨hrel', hli', hs⟩
            change CW Try.prog 126 _ _ (sets 126 [(1, .slice (some ⟨g, o, none⟩) ts.length c1), (5, .pointer (some ⟨f, 0, none⟩)), (6, .pointer (some ⟨x, 0, none⟩)), (7, .int .i64 (i : Nat)), (8, .bool true)] ρ) w
            refine c_seq ?_
            -- region 11 DRAWS
            refine c_draw (fun w => w.cell? ⟨g, o + i * 5 + 3, none⟩ = some (.int .i64 Leaf) ∧ (∀ (j : Nat) (u : Value), [Value.int .u16 (P.Id : Nat), Value.int .u32 (P.Inc : Nat)][j]? = some u → w.cell? ((⟨g, o + i * 5, none⟩ : Addr).add j) = some u)) (fun i => !(Nat.beq i 16 || Nat.beq i 33 || Nat.beq i 38 || Nat.beq i 40)) [(0, 2), (1, 2), (2, 2), (3, 2), (4, 2), (5, 2), (6, 2), (7, 2), (8, 1), (10, 2), (11, 2), (12, 2), (13, 2), (14, 2), (15, 1), (9, 0), (16, 0), (17, 2), (18, 2), (19, 2), (20, 2), (21, 2), (22, 2), (23, 2), (24, 2), (0, 3), (25, 1), (27, 2), (28, 2), (29, 2), (30, 2), (31, 2), (32, 1), (26, 0), (33, 0), (34, 2), (35, 2), (36, 2), (37, 2), (39, 2), (38, 0), (40, 0), (41, 2), (42, 2)] (by kernel_rfl) (by kernel_rfl) (by kernel_rfl) (by kernel_rfl) (⟨hcl (hs.drew.pull 2), hcp (hs.drew.pull 2)⟩) ?_
            replace hs := hs.drew
            refine x_move (.bool _) rfl ?_
            refine x_not _ rfl ?_
            refine x_move (.bool _) rfl ?_
            refine x_want' rfl ?_
            refine x_move (.pointer _) rfl ?_
            refine x_want' rfl ?_
            refine x_move (.slice _ _ _) rfl ?_
            refine x_want' rfl ?_
            refine x_move (.int _ _) rfl ?_
            refine x_want' rfl ?_
            refine x_indexAddr Try.underlying28 sz_40 _ _ _ _ _ rfl rfl (by omega) ?_
            refine x_want' rfl ?_
            first | refine x_field0 fa_40_0 _ rfl ?_ | refine x_field fa_40_0 _ _ rfl ?_
            refine x_want' rfl ?_
            refine h_loadN [_, _] agg_38 _ rfl (fun w hS => by first | exact hS | exact hS.1 | exact hS.2 | exact hS.2.1 | exact hS.2.2 | exact hS.2.2.1 | exact hS.2.2.2 | exact hS.2.2.2.1 | exact hS.2.2.2.2 | exact hS.cellsOf | exact (hS.pull 1).cellsOf | exact (hS.pull 2).cellsOf | exact (hS.pull 3).cellsOf | exact (hS.pull 4).cellsOf | exact (hS.pull 5).cellsOf | exact (hS.pull 6).cellsOf | exact hS.cells2 rfl rfl | exact (hS.pull 1).cells2 rfl rfl | exact (hS.pull 2).cells2 rfl rfl | exact (hS.pull 3).cells2 rfl rfl | exact (hS.pull 4).cells2 rfl rfl | exact (hS.pull 5).cells2 rfl rfl | exact (hS.pull 6).cells2 rfl rfl) ?_
            refine x_want' rfl ?_
            refine x_move (.pointer _) rfl ?_
            refine x_want' rfl ?_
            refine x_move (.slice _ _ _) rfl ?_
            refine x_want' rfl ?_
            refine x_move (.int _ _) rfl ?_
            refine x_want' rfl ?_
            refine x_indexAddr Try.underlying28 sz_40 _ _ _ _ _ rfl rfl (by omega) ?_
            refine x_want' rfl ?_
            first | refine x_field0 fa_40_0 _ rfl ?_ | refine x_field fa_40_0 _ _ rfl ?_
            refine x_want' rfl ?_
            refine h_loadN [_, _] agg_38 _ rfl (fun w hS => by first | exact hS | exact hS.1 | exact hS.2 | exact hS.2.1 | exact hS.2.2 | exact hS.2.2.1 | exact hS.2.2.2 | exact hS.2.2.2.1 | exact hS.2.2.2.2 | exact hS.cellsOf | exact (hS.pull 1).cellsOf | exact (hS.pull 2).cellsOf | exact (hS.pull 3).cellsOf | exact (hS.pull 4).cellsOf | exact (hS.pull 5).cellsOf | exact (hS.pull 6).cellsOf | exact hS.cells2 rfl rfl | exact (hS.pull 1).cells2 rfl rfl | exact (hS.pull 2).cells2 rfl rfl | exact (hS.pull 3).cells2 rfl rfl | exact (hS.pull 4).cells2 rfl rfl | exact (hS.pull 5).cells2 rfl rfl | exact (hS.pull 6).cells2 rfl rfl) ?_
            refine x_want' rfl ?_
            refine x_call Try.f18 Try.func18 rfl rfl _ rfl ?_
            refine (of_same P hs hrel').mono ?_
            clear hs; rintro e w ⟨rfl, hs⟩
            refine ⟨_, rfl, fun h => ⟨hcl (hs.pull 2), hcp (hs.pull 2)⟩, ?_⟩
            refine x_want' rfl ?_
            refine x_call Try.f19 Try.func19 rfl rfl _ rfl ?_
            refine (rof26_calls P (hs.pull 1) (by omega)).mono ?_
            clear hs; rintro e w ⟨rfl, hs⟩
            replace hs := hs.push 1
            try dsimp only [back] at hs
            refine ⟨_, rfl, fun h => ⟨hcl (hs.pull 2), hcp (hs.pull 2)⟩, ?_⟩
            refine x_want' rfl ?_
            refine x_neqF _ _ rfl rfl (by omega) ?_
            refine x_pickF (.bool _) rfl rfl ?_
            refine x_move (.bool _) rfl ?_
            refine x_want' rfl ?_
            refine x_move (.pointer _) rfl ?_
            refine x_want' rfl ?_
            refine x_move (.slice _ _ _) rfl ?_
            refine x_want' rfl ?_
            refine x_move (.int _ _) rfl ?_
            refine x_want' rfl ?_
            refine x_indexAddr Try.underlying28 sz_40 _ _ _ _ _ rfl rfl (by omega) ?_
            refine x_want' rfl ?_
            first | refine x_field0 fa_40_2 _ rfl ?_ | refine x_field fa_40_2 _ _ rfl ?_
            refine x_reset (fun w => w.cell? ⟨g, o + i * 5 + 3, none⟩ = some (.int .i64 Leaf)) (hcl (hs.pull 2)) ?_
            refine x_want' rfl ?_
            refine h_load one_3 _ (.int _ _) rfl (fun w hS => by first | exact hS.cell rfl | exact (hS.pull 1).cell rfl | exact (hS.pull 2).cell rfl | exact (hS.pull 3).cell rfl | exact (hS.pull 4).cell rfl | exact (hS.pull 5).cell rfl | exact (hS.pull 6).cell rfl | exact hS | exact hS.1 | exact hS.2 | exact hS.2.1 | exact hS.2.2 | exact hS.2.2.1 | exact hS.2.2.2 | exact hS.2.2.2.1 | exact hS.2.2.2.2) ?_
            refine x_want' rfl ?_
            refine x_move (.pointer _) rfl ?_
            refine x_want' rfl ?_
            refine x_move (.slice _ _ _) rfl ?_
            refine x_want' rfl ?_
            refine x_move (.int _ _) rfl ?_
            refine x_want' rfl ?_
            refine x_indexAddr Try.underlying28 sz_40 _ _ _ _ _ rfl rfl (by omega) ?_
            refine x_want' rfl ?_
            first | refine x_field0 fa_40_2 _ rfl ?_ | refine x_field fa_40_2 _ _ rfl ?_
            refine x_want' rfl ?_
            refine h_load one_3 _ (.int _ _) rfl (fun w hS => by first | exact hS.cell rfl | exact (hS.pull 1).cell rfl | exact (hS.pull 2).cell rfl | exact (hS.pull 3).cell rfl | exact (hS.pull 4).cell rfl | exact (hS.pull 5).cell rfl | exact (hS.pull 6).cell rfl | exact hS | exact hS.1 | exact hS.2 | exact hS.2.1 | exact hS.2.2 | exact hS.2.2.1 | exact hS.2.2.2 | exact hS.2.2.2.1 | exact hS.2.2.2.2) ?_
            refine x_want' rfl ?_
            refine x_call Try.f20 Try.func20 rfl rfl _ rfl ?_
            refine (leaf_same Leaf hs hrel').mono ?_
            clear hs; rintro e w ⟨rfl, hs⟩
            refine ⟨_, rfl, fun h => hcl (hs.pull 2), ?_⟩
            refine x_want' rfl ?_
            refine x_call Try.f21 Try.func21 rfl rfl _ rfl ?_
            refine ((rleaf_calls Leaf (hs.perm [1, 2, 0]) hin hsm (by omega))).mono ?_
            clear hs; rintro e w ⟨rfl, hs⟩
            refine ⟨_, rfl, fun h => (by cases h), ?_⟩
            replace hs := hs.perm [2, 0, 1]
            refine x_want' rfl ?_
            refine x_neqF _ _ rfl rfl (by omega) ?_
            refine x_pickF (.bool _) rfl rfl ?_
            refine x_move (.bool _) rfl ?_
            refine x_want' rfl ?_
            refine x_move (.pointer _) rfl ?_
            refine x_want' rfl ?_
            refine x_move (.pointer _) rfl ?_
            refine x_want' rfl ?_
            refine x_call Try.f15 Try.func15 rfl rfl _ rfl ?_
            refine (all_same hs hrel').mono ?_
            clear hs; rintro e w ⟨rfl, hs⟩
            refine ⟨_, rfl, fun h => hcl (hs.pull 2), ?_⟩
            refine x_want' rfl ?_
            refine x_call Try.f22 Try.func22 rfl rfl _ rfl ?_
            refine ((rall_calls (hs.perm [1, 2, 0]) hin hsm (by omega))).mono ?_
            clear hs; rintro e w ⟨rfl, hs⟩
            refine ⟨_, rfl, fun h => (by cases h), ?_⟩
            replace hs := hs.perm [2, 0, 1]
            refine x_want' rfl ?_
            refine x_neqF _ _ rfl rfl (by omega) ?_
            refine x_pickF (.bool _) rfl rfl ?_
            refine x_nil ?_
            refine then_n ?_
            refine c_false rfl ?_
            refine c_skip ?_
            refine inb_n ?_
            refine then_n ?_
            -- region 6
            refine c_region ?_
            refine x_move (.int _ _) rfl ?_
            refine x_add _ _ rfl rfl (by simp only [X.lo]; omega) (by simp only [X.hi]; omega) ?_
            refine x_assign (.int _ _) rfl ?_
            refine x_nil ?_
            refine then_n ?_
            refine ⟨(i + 1, s', l'), ⟨rfl, rfl, rfl, rfl, trivial⟩, ⟨by omega, hrel', hli', hs⟩, by first | omega | (dsimp only; omega)⟩
        · skip
          refine c_seq ?_
          refine c_seq ?_
          -- region 5
          refine c_region ?_
          refine x_move (.int _ _) rfl ?_
          refine x_move (.slice _ _ _) rfl ?_
          refine x_lenSl Try.underlying28 _ _ _ rfl ?_
          refine x_lssT _ _ rfl rfl (by omega) ?_
          refine x_move (.bool _) rfl ?_
          refine x_want' rfl ?_
          refine x_move (.int _ _) rfl ?_
          refine x_want' rfl ?_
          refine x_lssF _ _ rfl rfl (by omega) ?_
          refine x_pickT (.bool _) rfl rfl ?_
          refine x_nil ?_
          refine then_n ?_
          refine c_false rfl ?_
          refine c_exit ?_
          refine then_x ?_
          refine then_x ?_
          refine inb_e ?_
          refine then_n ?_
          exact ⟨(), ⟨rfl, trivial⟩, hs.tail.tail⟩
        · skip
          refine c_seq ?_
          refine c_seq ?_
          -- region 5
          refine c_region ?_
          refine x_move (.int _ _) rfl ?_
          refine x_move (.slice _ _ _) rfl ?_
          refine x_lenSl Try.underlying28 _ _ _ rfl ?_
          refine x_lssF _ _ rfl rfl (by omega) ?_
          refine x_move (.bool _) rfl ?_
          refine x_skip rfl rfl ?_
          refine x_skip rfl rfl ?_
          refine x_pickF (.bool _) rfl rfl ?_
          refine x_nil ?_
          refine then_n ?_
          refine c_false rfl ?_
          refine c_exit ?_
          refine then_x ?_
          refine then_x ?_
          refine inb_e ?_
          refine then_n ?_
          exact ⟨(), ⟨rfl, trivial⟩, hs.tail.tail⟩
      · skip
        clear hs
        rintro _u ρ w hs
        change CW Try.prog 126 _ _ (sets 126 [(5, .pointer (some ⟨f, 0, none⟩))] ρ) w
        refine c_seq ?_
        -- region 13
        refine c_region ?_
        refine x_call Try.f10 Try.func10 rfl rfl _ rfl ?_
        refine (awake26_calls hs).mono ?_
        clear hs; rintro e w ⟨rfl, hs⟩
        refine ⟨_, rfl, fun h => (by first | (cases h; done) | (first | exact hs.cells2 rfl rfl | exact (hs.pull 1).cells2 rfl rfl | exact (hs.pull 2).cells2 rfl rfl | exact (hs.pull 3).cells2 rfl rfl | exact (hs.pull 4).cells2 rfl rfl | exact (hs.pull 5).cells2 rfl rfl | exact (hs.pull 6).cells2 rfl rfl | exact (hs.pull 7).cells2 rfl rfl | exact (hs.pull 8).cells2 rfl rfl | exact hs.cell rfl | exact (hs.pull 1).cell rfl | exact (hs.pull 2).cell rfl | exact (hs.pull 3).cell rfl | exact (hs.pull 4).cell rfl | exact (hs.pull 5).cell rfl | exact (hs.pull 6).cell rfl | exact (hs.pull 7).cell rfl | exact (hs.pull 8).cell rfl | assumption | exact hs.cellsOf | exact (hs.pull 1).cellsOf | exact (hs.pull 2).cellsOf | exact (hs.pull 3).cellsOf | exact (hs.pull 4).cellsOf | exact (hs.pull 5).cellsOf | exact (hs.pull 6).cellsOf | exact (hs.pull 7).cellsOf | exact (hs.pull 8).cellsOf) | (and_intros <;> first | exact hs.cells2 rfl rfl | exact (hs.pull 1).cells2 rfl rfl | exact (hs.pull 2).cells2 rfl rfl | exact (hs.pull 3).cells2 rfl rfl | exact (hs.pull 4).cells2 rfl rfl | exact (hs.pull 5).cells2 rfl rfl | exact (hs.pull 6).cells2 rfl rfl | exact (hs.pull 7).cells2 rfl rfl | exact (hs.pull 8).cells2 rfl rfl | exact hs.cell rfl | exact (hs.pull 1).cell rfl | exact (hs.pull 2).cell rfl | exact (hs.pull 3).cell rfl | exact (hs.pull 4).cell rfl | exact (hs.pull 5).cell rfl | exact (hs.pull 6).cell rfl | exact (hs.pull 7).cell rfl | exact (hs.pull 8).cell rfl | assumption | exact hs.cellsOf | exact (hs.pull 1).cellsOf | exact (hs.pull 2).cellsOf | exact (hs.pull 3).cellsOf | exact (hs.pull 4).cellsOf | exact (hs.pull 5).cellsOf | exact (hs.pull 6).cellsOf | exact (hs.pull 7).cellsOf | exact (hs.pull 8).cellsOf)), ?_⟩
        refine x_assign (.bool _) rfl ?_
        refine x_nil ?_
        refine then_n ?_
        refine c_ret ?_
        refine ⟨.inr rfl, ?_⟩
        exact ⟨rfl, hs⟩
end Go.Proofs.Ytcehbdmpjebmbaa.X
