/-
  LAYER 26: the stab's object; New, there, Report, ReportLeaf, Of, Leaf, All.
-/
import Derived.Test.YtcehbdmpjebmbaaStb1
namespace Go.Proofs.Ytcehbdmpjebmbaa.X
open Go Go.RowKit
set_option linter.unusedVariables false
set_option maxRecDepth 20000
def getN {κ : Type} [DecidableEq κ] (m : List (κ × Nat)) (k : κ) : Nat := (mget k m).getD 0
def fmk {κ : Type} (t : List (κ × Nat)) : List (κ × Value) := t.map fun p => (p.1, .int .u64 (p.2 : Nat))
theorem fmk_get {κ : Type} [DecidableEq κ] (m : List (κ × Nat)) (k : κ) : (mget k (fmk m)).getD (.int .u64 0) = .int .u64 (getN m k : Nat) := by
  unfold getN
  rw [show mget k (fmk m) = (mget k m).map fun n : Nat => Value.int .u64 (n : Nat) from mget_map (fun n : Nat => Value.int .u64 (n : Nat)) k m]
  cases mget k m <;> rfl
theorem fmk_set {κ : Type} [DecidableEq κ] (m : List (κ × Nat)) (k : κ) (n : Nat) : mset k (.int .u64 (n : Nat)) (fmk m) = fmk (mset k n m) := mset_map (fun n : Nat => Value.int .u64 (n : Nat)) k n m
theorem getN_set {κ : Type} [DecidableEq κ] (p q : κ) (n : Nat) : ∀ t : List (κ × Nat), getN (mset q n t) p = if p = q then n else getN t p := by
  have key : ∀ t : List (κ × Nat), mget p (mset q n t) = if p = q then some n else mget p t := by
    intro t
    induction t with
    | nil => simp only [mset, mget]
    | cons x t ih =>
      obtain ⟨a, x⟩ := x
      simp only [mset]
      by_cases h : q = a
      · subst h
        rw [if_pos rfl]
        simp only [mget]
        split <;> rfl
      · rw [if_neg h]
        simp only [mget, ih]
        by_cases h2 : p = a
        · subst h2
          rw [if_pos rfl, if_pos rfl, if_neg (fun e => h e.symm)]
        · rw [if_neg h2, if_neg h2]
  intro t
  unfold getN
  rw [key]
  split <;> rfl
structure SV where
  mem : List Pid
  lls : List (List Pid)
structure SVS (V : SV) : Prop where
  m : V.mem.length ≤ 40
  l : V.lls.length ≤ 40
  ls : ∀ a ∈ V.lls, a.length ≤ 40
structure SSt where
  ps : List (Pid × Nat)
  lv : List (Nat × Nat)
def View.sv (x : View) : SV := ⟨x.Members.2, x.Leaves.2.map (·.2)⟩
theorem VSmall.svs {x : View} (h : VSmall x) : SVS x.sv := ⟨h.m, by unfold View.sv; rw [List.length_map]; exact h.l, fun a ha => by obtain ⟨b, hb, rfl⟩ := List.mem_map.1 ha; exact h.ls b hb⟩
def SO (f : Nat) (V : SV) (s : SSt) : HP := fun h => ∃ x : View × Nat × Nat, (x.1.sv = V ∧ VSmall x.1) ∧ SatH [Blk f (.cells #[.int .u64 (x.1.Id : Nat), x.1.Members.1, x.1.Leaves.1, x.1.Leaders.1, .map (some x.2.1), .map (some x.2.2)] 60 (0, 0)), VO x.1, MapR penc x.2.1 (fmk s.ps), MapR (ik .i64) x.2.2 (fmk s.lv)] h
structure SView where
  Id : Nat
  am : Option Addr
  cm : Nat
  mem : List Pid
  al : Option Addr
  cl : Nat
  lvs : List (Value × List Pid)
  ad : Option Addr
  cd : Nat
  lds : List Pid
abbrev SView.v (x : SView) : View := ⟨x.Id, (.slice x.am x.mem.length x.cm, x.mem), (.slice x.al x.lvs.length x.cl, x.lvs), (.slice x.ad x.lds.length x.cd, x.lds)⟩
theorem Sat.so {w0 w : World} {f : Nat} {V : SV} {s : SSt} {L : List HP} (hs : Sat w0 w (SO f V s :: L)) :
    ∃ Id am cm al cl lvs ad cd lds M1 M2, (lvs.map (fun x : Value × List Pid => x.2) = V.lls ∧ (V.mem.length ≤ 40 ∧ lvs.length ≤ 40 ∧ lds.length ≤ 40) ∧ ∀ a ∈ lvs, a.2.length ≤ 40) ∧ Sat w0 w (Blk f (.cells #[.int .u64 (Id : Nat), .slice am V.mem.length cm, .slice al lvs.length cl, .slice ad (List.length lds) cd, .map (some M1), .map (some M2)] 60 (0, 0)) :: VO ⟨Id, (.slice am V.mem.length cm, V.mem), (.slice al lvs.length cl, lvs), (.slice ad lds.length cd, lds)⟩ :: MapR penc M1 (fmk s.ps) :: MapR (ik .i64) M2 (fmk s.lv) :: L) := by
  obtain ⟨⟨⟨Id, ⟨vm, mem⟩, ⟨vl, lvs⟩, ⟨vd, lds⟩⟩, M1, M2⟩, h⟩ := Sat.ex (F := fun x : View × Nat × Nat => fun h => (x.1.sv = V ∧ VSmall x.1) ∧ SatH [Blk f (.cells #[.int .u64 (x.1.Id : Nat), x.1.Members.1, x.1.Leaves.1, x.1.Leaders.1, .map (some x.2.1), .map (some x.2.2)] 60 (0, 0)), VO x.1, MapR penc x.2.1 (fmk s.ps), MapR (ik .i64) x.2.2 (fmk s.lv)] h) hs
  obtain ⟨⟨h1, h2⟩, hq⟩ := h.and
  clear h
  have h := hq
  clear hq
  replace h := h.opn
  obtain ⟨am, cm, e1⟩ := (h.pull 1).vf.m.val
  obtain ⟨al, cl, e2⟩ := (h.pull 1).vf.l.val
  obtain ⟨ad, cd, e3⟩ := (h.pull 1).vf.d.val
  dsimp only at e1 e2 e3
  subst e1 e2 e3 h1
  exact ⟨Id, am, cm, al, cl, lvs, ad, cd, lds, M1, M2, ⟨rfl, ⟨h2.m, h2.l, h2.d⟩, h2.ls⟩, h⟩
theorem Sat.so' {w0 w : World} {f : Nat} {V : SV} {s : SSt} {L : List HP} {Id : Nat} {vm vl vd : Value} {lvs : List (Value × List Pid)} {lds : List Pid} {M1 M2 : Nat} (e : lvs.map (fun x : Value × List Pid => x.2) = V.lls) (h1 : V.mem.length ≤ 40 ∧ lvs.length ≤ 40 ∧ lds.length ≤ 40) (h2 : ∀ a ∈ lvs, a.2.length ≤ 40)
    (hs : Sat w0 w (Blk f (.cells #[.int .u64 (Id : Nat), vm, vl, vd, .map (some M1), .map (some M2)] 60 (0, 0)) :: VO ⟨Id, (vm, V.mem), (vl, lvs), (vd, lds)⟩ :: MapR penc M1 (fmk s.ps) :: MapR (ik .i64) M2 (fmk s.lv) :: L)) : Sat w0 w (SO f V s :: L) :=
  (Sat.shut (Ls := [Blk f (.cells #[.int .u64 (Id : Nat), vm, vl, vd, .map (some M1), .map (some M2)] 60 (0, 0)), VO ⟨Id, (vm, V.mem), (vl, lvs), (vd, lds)⟩, MapR penc M1 (fmk s.ps), MapR (ik .i64) M2 (fmk s.lv)]) hs).head fun h hh => ⟨(⟨Id, (vm, V.mem), (vl, lvs), (vd, lds)⟩, M1, M2), ⟨by unfold View.sv; cases V; dsimp only at *; rw [e], ⟨h1.1, h1.2.1, h1.2.2, h2⟩⟩, hh⟩
theorem Sat.cells4 {w0 w : World} {b : Nat} {u0 u1 u2 u3 : Value} {rest : List Value} {T : TypeId} {z : Nat × Nat} {L : List HP} (hs : Sat w0 w (Blk b (.cells (u0 :: u1 :: u2 :: u3 :: rest).toArray T z) :: L)) : ∀ (j : Nat) (u : Value), [u0, u1, u2, u3][j]? = some u → w.cell? ((⟨b, 0, none⟩ : Addr).add j) = some u := fun j u hj => by
  refine hs.cellsOf j u ?_
  match j, hj with
  | 0, hj => exact hj
  | 1, hj => exact hj
  | 2, hj => exact hj
  | 3, hj => exact hj
  | j + 4, hj => simp at hj
theorem mt_ps : MT Try.prog 57 38 22 (.int .u64 0) := ⟨Try.underlying57, by kernel_rfl⟩
theorem mt_lv : MT Try.prog 58 3 22 (.int .u64 0) := ⟨Try.underlying58, by kernel_rfl⟩
theorem ko_i64 : KO Try.prog 3 (ik .i64) := ko_int Try.underlying3
/-! ### New -/
theorem snew_calls {w0 w : World} {A : HP} {L : List HP} {x : View} (hs : Sat w0 w (A :: L)) (hr : ∀ w' L', Sat w0 w' (A :: L') → VF w' x) (hx : VSmall x) :
    Calls Try.prog 11 #[.agg x.cells.toArray] w fun e w' => ∃ f, e = .returned (.pointer (some ⟨f, 0, none⟩)) ∧ Sat w0 w' (SO f x.sv ⟨[], []⟩ :: A :: L) := by
  have hcopy : ∀ {w : World} {L : List HP}, Sat w0 w (A :: L) → Calls Try.prog 25 #[.agg x.cells.toArray] w fun e w' => ∃ y : View, e = .returned (.agg y.cells.toArray) ∧ VSame y x ∧ Sat w0 w' (VO y :: A :: L) := fun hs => vcopy_calls hs hr hx
  have hsm : ∀ {y : View}, VSame y x → VSmall y := fun h => hx.same h
  have hsv : ∀ {y : View}, VSame y x → y.sv = x.sv := fun h => by unfold View.sv; rw [h.m, h.l]
  generalize x.sv = V at *
  obtain ⟨am, cm, e1⟩ := (hr _ _ hs).m.val
  obtain ⟨al, cl, e2⟩ := (hr _ _ hs).l.val
  obtain ⟨ad, cd, e3⟩ := (hr _ _ hs).d.val
  obtain ⟨Id, ⟨vm, mem⟩, ⟨vl, lvs⟩, ⟨vd, lds⟩⟩ := x
  dsimp only at e1 e2 e3
  subst e1 e2 e3
  change Calls Try.prog 11 #[.agg #[.int .u64 (Id : Nat), .slice am mem.length cm, .slice al lvs.length cl, .slice ad lds.length cd]] w _
  refine enter Try.func11 rfl Try.ntmps11 2 rfl (Nat.le_of_ble_eq_true rfl) ?_
  refine c_seq ?_
  -- region 0
  refine c_region ?_
  refine x_box hs (.agg #[_, _, _, _]) rfl ?_; clear hs; intro b1 w hs; refine ⟨fun h => (by first | (cases h; done) | (first | exact hs.cells2 rfl rfl | exact (hs.pull 1).cells2 rfl rfl | exact (hs.pull 2).cells2 rfl rfl | exact (hs.pull 3).cells2 rfl rfl | exact (hs.pull 4).cells2 rfl rfl | exact (hs.pull 5).cells2 rfl rfl | exact (hs.pull 6).cells2 rfl rfl | exact (hs.pull 7).cells2 rfl rfl | exact (hs.pull 8).cells2 rfl rfl | exact hs.cell rfl | exact (hs.pull 1).cell rfl | exact (hs.pull 2).cell rfl | exact (hs.pull 3).cell rfl | exact (hs.pull 4).cell rfl | exact (hs.pull 5).cell rfl | exact (hs.pull 6).cell rfl | exact (hs.pull 7).cell rfl | exact (hs.pull 8).cell rfl | assumption | exact hs.cellsOf | exact (hs.pull 1).cellsOf | exact (hs.pull 2).cellsOf | exact (hs.pull 3).cellsOf | exact (hs.pull 4).cellsOf | exact (hs.pull 5).cellsOf | exact (hs.pull 6).cellsOf | exact (hs.pull 7).cellsOf | exact (hs.pull 8).cellsOf) | (and_intros <;> first | exact hs.cells2 rfl rfl | exact (hs.pull 1).cells2 rfl rfl | exact (hs.pull 2).cells2 rfl rfl | exact (hs.pull 3).cells2 rfl rfl | exact (hs.pull 4).cells2 rfl rfl | exact (hs.pull 5).cells2 rfl rfl | exact (hs.pull 6).cells2 rfl rfl | exact (hs.pull 7).cells2 rfl rfl | exact (hs.pull 8).cells2 rfl rfl | exact hs.cell rfl | exact (hs.pull 1).cell rfl | exact (hs.pull 2).cell rfl | exact (hs.pull 3).cell rfl | exact (hs.pull 4).cell rfl | exact (hs.pull 5).cell rfl | exact (hs.pull 6).cell rfl | exact (hs.pull 7).cell rfl | exact (hs.pull 8).cell rfl | assumption | exact hs.cellsOf | exact (hs.pull 1).cellsOf | exact (hs.pull 2).cellsOf | exact (hs.pull 3).cellsOf | exact (hs.pull 4).cellsOf | exact (hs.pull 5).cellsOf | exact (hs.pull 6).cellsOf | exact (hs.pull 7).cellsOf | exact (hs.pull 8).cellsOf)), ?_⟩
  refine x_assign (.pointer _) rfl ?_
  refine x_nil ?_
  refine then_n ?_
  refine c_seq ?_
  -- region 1
  refine c_region ?_
  refine x_loadN [_, _, _, _] agg_26 _ rfl (by first | assumption | exact hs.cellsOf | exact (hs.pull 1).cellsOf | exact (hs.pull 2).cellsOf | exact (hs.pull 3).cellsOf | exact (hs.pull 4).cellsOf | exact (hs.pull 5).cellsOf | exact (hs.pull 6).cellsOf | exact (hs.pull 7).cellsOf | exact (hs.pull 8).cellsOf | exact hs.cells2 rfl rfl | exact (hs.pull 1).cells2 rfl rfl | exact (hs.pull 2).cells2 rfl rfl | exact (hs.pull 3).cells2 rfl rfl | exact (hs.pull 4).cells2 rfl rfl | exact (hs.pull 5).cells2 rfl rfl | exact (hs.pull 6).cells2 rfl rfl | exact (hs.pull 7).cells2 rfl rfl | exact (hs.pull 8).cells2 rfl rfl) ?_
  refine x_call Try.f25 Try.func25 rfl rfl _ rfl ?_
  refine ((hcopy (hs.pull 1))).mono ?_
  clear hs; rintro e w ⟨y, rfl, hy, hs⟩
  refine ⟨_, rfl, fun h => (by first | (cases h; done) | (first | exact hs.cells2 rfl rfl | exact (hs.pull 1).cells2 rfl rfl | exact (hs.pull 2).cells2 rfl rfl | exact (hs.pull 3).cells2 rfl rfl | exact (hs.pull 4).cells2 rfl rfl | exact (hs.pull 5).cells2 rfl rfl | exact (hs.pull 6).cells2 rfl rfl | exact (hs.pull 7).cells2 rfl rfl | exact (hs.pull 8).cells2 rfl rfl | exact hs.cell rfl | exact (hs.pull 1).cell rfl | exact (hs.pull 2).cell rfl | exact (hs.pull 3).cell rfl | exact (hs.pull 4).cell rfl | exact (hs.pull 5).cell rfl | exact (hs.pull 6).cell rfl | exact (hs.pull 7).cell rfl | exact (hs.pull 8).cell rfl | assumption | exact hs.cellsOf | exact (hs.pull 1).cellsOf | exact (hs.pull 2).cellsOf | exact (hs.pull 3).cellsOf | exact (hs.pull 4).cellsOf | exact (hs.pull 5).cellsOf | exact (hs.pull 6).cellsOf | exact (hs.pull 7).cellsOf | exact (hs.pull 8).cellsOf) | (and_intros <;> first | exact hs.cells2 rfl rfl | exact (hs.pull 1).cells2 rfl rfl | exact (hs.pull 2).cells2 rfl rfl | exact (hs.pull 3).cells2 rfl rfl | exact (hs.pull 4).cells2 rfl rfl | exact (hs.pull 5).cells2 rfl rfl | exact (hs.pull 6).cells2 rfl rfl | exact (hs.pull 7).cells2 rfl rfl | exact (hs.pull 8).cells2 rfl rfl | exact hs.cell rfl | exact (hs.pull 1).cell rfl | exact (hs.pull 2).cell rfl | exact (hs.pull 3).cell rfl | exact (hs.pull 4).cell rfl | exact (hs.pull 5).cell rfl | exact (hs.pull 6).cell rfl | exact (hs.pull 7).cell rfl | exact (hs.pull 8).cell rfl | assumption | exact hs.cellsOf | exact (hs.pull 1).cellsOf | exact (hs.pull 2).cellsOf | exact (hs.pull 3).cellsOf | exact (hs.pull 4).cellsOf | exact (hs.pull 5).cellsOf | exact (hs.pull 6).cellsOf | exact (hs.pull 7).cellsOf | exact (hs.pull 8).cellsOf)), ?_⟩
  have hy1 := hsm hy
  have hy2 := hsv hy
  clear hy
  obtain ⟨am', cm', e1⟩ := hs.vf.m.val
  obtain ⟨al', cl', e2⟩ := hs.vf.l.val
  obtain ⟨ad', cd', e3⟩ := hs.vf.d.val
  obtain ⟨Id', ⟨vm', mem'⟩, ⟨vl', lvs'⟩, ⟨vd', lds'⟩⟩ := y
  dsimp only at e1 e2 e3
  subst e1 e2 e3
  change RX _ _ _ _ _ _ (upd _ _ _ (.agg #[.int .u64 (Id' : Nat), .slice am' mem'.length cm', .slice al' lvs'.length cl', .slice ad' lds'.length cd'])) _
  refine x_makeMap (κ := Pid) (enc := penc) hs ?_
  clear hs; intro M1 w hs; refine ⟨fun h => (by cases h), ?_⟩
  refine x_makeMap (κ := Nat) (enc := ik .i64) hs ?_
  clear hs; intro M2 w hs; refine ⟨fun h => (by cases h), ?_⟩
  refine x_build _ [(0, (.agg #[(.int .u64 _), (.slice _ _ _), (.slice _ _ _), (.slice _ _ _)])), (1, (.map _)), (2, (.map _))] rfl (fun w => bd_60_0_1_2 _ _ _ _ _ _ _ _ _ _ _ _ w) ?_
  refine x_box hs (.agg #[_, _, _, _, _, _]) rfl ?_; clear hs; intro b8 w hs; refine ⟨fun h => (by first | (cases h; done) | (first | exact hs.cells2 rfl rfl | exact (hs.pull 1).cells2 rfl rfl | exact (hs.pull 2).cells2 rfl rfl | exact (hs.pull 3).cells2 rfl rfl | exact (hs.pull 4).cells2 rfl rfl | exact (hs.pull 5).cells2 rfl rfl | exact (hs.pull 6).cells2 rfl rfl | exact (hs.pull 7).cells2 rfl rfl | exact (hs.pull 8).cells2 rfl rfl | exact hs.cell rfl | exact (hs.pull 1).cell rfl | exact (hs.pull 2).cell rfl | exact (hs.pull 3).cell rfl | exact (hs.pull 4).cell rfl | exact (hs.pull 5).cell rfl | exact (hs.pull 6).cell rfl | exact (hs.pull 7).cell rfl | exact (hs.pull 8).cell rfl | assumption | exact hs.cellsOf | exact (hs.pull 1).cellsOf | exact (hs.pull 2).cellsOf | exact (hs.pull 3).cellsOf | exact (hs.pull 4).cellsOf | exact (hs.pull 5).cellsOf | exact (hs.pull 6).cellsOf | exact (hs.pull 7).cellsOf | exact (hs.pull 8).cellsOf) | (and_intros <;> first | exact hs.cells2 rfl rfl | exact (hs.pull 1).cells2 rfl rfl | exact (hs.pull 2).cells2 rfl rfl | exact (hs.pull 3).cells2 rfl rfl | exact (hs.pull 4).cells2 rfl rfl | exact (hs.pull 5).cells2 rfl rfl | exact (hs.pull 6).cells2 rfl rfl | exact (hs.pull 7).cells2 rfl rfl | exact (hs.pull 8).cells2 rfl rfl | exact hs.cell rfl | exact (hs.pull 1).cell rfl | exact (hs.pull 2).cell rfl | exact (hs.pull 3).cell rfl | exact (hs.pull 4).cell rfl | exact (hs.pull 5).cell rfl | exact (hs.pull 6).cell rfl | exact (hs.pull 7).cell rfl | exact (hs.pull 8).cell rfl | assumption | exact hs.cellsOf | exact (hs.pull 1).cellsOf | exact (hs.pull 2).cellsOf | exact (hs.pull 3).cellsOf | exact (hs.pull 4).cellsOf | exact (hs.pull 5).cellsOf | exact (hs.pull 6).cellsOf | exact (hs.pull 7).cellsOf | exact (hs.pull 8).cellsOf)), ?_⟩
  refine x_assign (.pointer _) rfl ?_
  refine x_nil ?_
  refine then_n ?_
  refine c_ret ?_
  refine ⟨.inr rfl, ?_⟩
  refine ⟨b8, rfl, ?_⟩
  subst hy2
  have hs := hs.sel [0, 3, 2, 1, 4] 6
  exact Sat.so' (V := View.sv ⟨Id', (.slice am' mem'.length cm', mem'), (.slice al' lvs'.length cl', lvs'), (.slice ad' lds'.length cd', lds')⟩) (s := ⟨[], []⟩) rfl ⟨hy1.m, hy1.l, hy1.d⟩ hy1.ls hs
end Go.Proofs.Ytcehbdmpjebmbaa.X
