/-
  THE ENGINE, OPERATION BY OPERATION: of each operation of Go's text what it yields, as a step of a region. It speaks of no program.
-/
import Derived.Test.YtiffpkbkmpianaaSep
import Derived.WalkSpells
namespace Go.Proofs.Ytiffpkbkmpianaa.X
open Go Go.RowKit
set_option linter.unusedVariables false

section
variable {P : Program} {n : Nat} {ops : Array Oper} {S : World → Prop} {K : Env → World → Prop} {rest : List (Oper × Nat × Bool)} {ρ : Env} {w : World}
variable {d : Nat} {ty : TypeId} {pos : String} {af : Array Edge} {held : Nat} {need : Bool}

theorem x_nil (h : K ρ w) : RX P n ops S K [] ρ w := h
/-- an operation that yields v, whatever the world -/
theorem x_pure {o : Oper} {v : Value} (hg : o.guard = none) (hn : (Nat.blt held 3 && (Nat.blt 0 held || !need)) = true) (hy : ∀ w, (execOp (ev ρ) o).run P w = .ok (.value v) w) (h : RX P n ops S K rest (updO n ρ o.dst v) w) :
    RX P n ops S K ((o, held, need) :: rest) ρ w := by
  simp only [Bool.and_eq_true] at hn
  obtain ⟨hn3, hn⟩ := hn
  have hn3' : held < 3 := Nat.le_of_ble_eq_true hn3
  rw [RX_cons, if_neg (by omega), if_pos (by simp [Region.wanted, hg])]
  split
  · rename_i h0
    subst h0
    have hn' : need = false := by simpa using hn
    subst hn'
    simp only [wpE, hy w]
    exact ⟨fun e => (by cases e), h⟩
  · exact ⟨v, fun w _ => hy w, h⟩
/-- an operation that reads the world at hand -/
theorem x_read {o : Oper} {v : Value} (hg : o.guard = none) (hy : (execOp (ev ρ) o).run P w = .ok (.value v) w) (h : RX P n ops S K rest (updO n ρ o.dst v) w) :
    RX P n ops S K ((o, 0, false) :: rest) ρ w := by
  rw [RX_cons, if_neg (by decide), if_pos (by simp [Region.wanted, hg]), if_pos rfl]
  simp only [wpE, hy]
  exact ⟨fun e => (by cases e), h⟩
theorem x_heldr {o : Oper} {v : Value} (hg : o.guard = none) (hy : ∀ w, S w → (execOp (ev ρ) o).run P w = .ok (.value v) w) (h : RX P n ops S K rest (updO n ρ o.dst v) w) :
    RX P n ops S K ((o, 1, need) :: rest) ρ w := by
  rw [RX_cons, if_neg (by decide), if_pos (by simp [Region.wanted, hg]), if_neg (by decide)]
  exact ⟨v, fun w hS => hy w (hS rfl), h⟩
/-- an operation that turns the world -/
theorem x_turn {o : Oper} {v : Value} {w' : World} (hg : o.guard = none) (hy : (execOp (ev ρ) o).run P w = .ok (.value v) w') (hS : need = true → S w') (h : RX P n ops S K rest (updO n ρ o.dst v) w') :
    RX P n ops S K ((o, 0, need) :: rest) ρ w := by
  rw [RX_cons, if_neg (by decide), if_pos (by simp [Region.wanted, hg]), if_pos rfl]
  simp only [wpE, hy]
  exact ⟨hS, h⟩
theorem x_act {o : Oper} {w' : World} (hg : o.guard = none) (hy : (execOp (ev ρ) o).run P w = .ok .skip w') (hS : need = true → S w') (h : RX P n ops S K rest (updO n ρ o.dst undef) w') :
    RX P n ops S K ((o, 0, need) :: rest) ρ w := by
  rw [RX_cons, if_neg (by decide), if_pos (by simp [Region.wanted, hg]), if_pos rfl]
  simp only [wpE, hy]
  exact ⟨hS, h⟩
/-- guards -/
theorem x_want {o : Oper} {j : Nat} {b : Bool} (hb : yE ops ρ n j = some b) (h : RX P n ops S K (({ o with guard := none }, held, need) :: rest) ρ w) : RX P n ops S K (({ o with guard := some (j, b) }, held, need) :: rest) ρ w := by
  rw [RX_cons] at h ⊢
  split at h
  · rename_i h3
    rw [if_pos h3]
    exact h
  · rename_i h3
    rw [if_neg h3]
    rw [if_pos (by simp [Region.wanted])] at h
    rw [if_pos (by simp [Region.wanted, hb])]
    exact h
theorem x_want' {op : Op} {dst : Option Tmp} {j : Nat} {b : Bool} (hb : yE ops ρ n j = some b) (h : RX P n ops S K ((⟨dst, op, ty, pos, af, none⟩, held, need) :: rest) ρ w) : RX P n ops S K ((⟨dst, op, ty, pos, af, some (j, b)⟩, held, need) :: rest) ρ w :=
  x_want (o := ⟨dst, op, ty, pos, af, none⟩) hb h
theorem x_skip {op : Op} {dst : Option Tmp} {j : Nat} {b b' : Bool} (hb : yE ops ρ n j = some b') (hne : (b' == b) = false) (h : RX P n ops S K rest (updO n ρ dst undef) w) (h3 : Nat.blt held 3 = true := by rfl) : RX P n ops S K ((⟨dst, op, ty, pos, af, some (j, b)⟩, held, need) :: rest) ρ w := by
  have h3' : held < 3 := Nat.le_of_ble_eq_true h3
  rw [RX_cons, if_neg (by omega), if_neg (by simp only [Region.wanted, hb]; simpa using hne)]
  exact h
/-- S is chosen anew -/
theorem x_reset {o : Oper} {need' : Bool} (S' : World → Prop) (hS : S' w) (h : RX P n ops S' K rest ρ w) : RX P n ops S K ((o, 3, need') :: rest) ρ w := by
  rw [RX_cons, if_pos rfl]
  exact ⟨S', hS, h⟩

theorem x_move {x : Operand} (v : Value) (hx : ev ρ x = v) (h : RX P n ops S K rest (upd n ρ d v) w) (hn : (Nat.blt held 3 && (Nat.blt 0 held || !need)) = true := by rfl) : RX P n ops S K ((⟨some d, .move x, ty, pos, af, none⟩, held, need) :: rest) ρ w :=
  x_pure rfl hn (fun w => by subst hx; rfl) h
theorem x_assign {x : Operand} (v : Value) (hx : ev ρ x = v) (h : RX P n ops S K rest (upd n ρ d v) w) (hn : (Nat.blt held 3 && (Nat.blt 0 held || !need)) = true := by rfl) : RX P n ops S K ((⟨some d, .assign x, ty, pos, af, none⟩, held, need) :: rest) ρ w :=
  x_pure rfl hn (fun w => by subst hx; rfl) h
theorem x_pick {c x y : Operand} (b : Bool) (vx vy : Value) (hc : ev ρ c = .bool b) (hx : ev ρ x = vx) (hy : ev ρ y = vy) (h : RX P n ops S K rest (upd n ρ d (if b then vx else vy)) w) (hn : (Nat.blt held 3 && (Nat.blt 0 held || !need)) = true := by rfl) :
    RX P n ops S K ((⟨some d, .pick c x y, ty, pos, af, none⟩, held, need) :: rest) ρ w :=
  x_pure rfl hn (fun w => by subst hx hy; simp only [execOp, hc, asBool]; rfl) h
theorem x_pickT {c x y : Operand} (vx : Value) (hc : ev ρ c = .bool true) (hx : ev ρ x = vx) (h : RX P n ops S K rest (upd n ρ d vx) w) (hn : (Nat.blt held 3 && (Nat.blt 0 held || !need)) = true := by rfl) :
    RX P n ops S K ((⟨some d, .pick c x y, ty, pos, af, none⟩, held, need) :: rest) ρ w :=
  x_pick true vx (ev ρ y) hc hx rfl h hn
theorem x_pickF {c x y : Operand} (vy : Value) (hc : ev ρ c = .bool false) (hy : ev ρ y = vy) (h : RX P n ops S K rest (upd n ρ d vy) w) (hn : (Nat.blt held 3 && (Nat.blt 0 held || !need)) = true := by rfl) :
    RX P n ops S K ((⟨some d, .pick c x y, ty, pos, af, none⟩, held, need) :: rest) ρ w :=
  x_pick false (ev ρ x) vy hc rfl hy h hn
theorem x_nilCheck {x : Operand} (a : Addr) (hx : ev ρ x = .pointer (some a)) (h : RX P n ops S K rest (upd n ρ d (.pointer (some a))) w) (hn : (Nat.blt held 3 && (Nat.blt 0 held || !need)) = true := by rfl) :
    RX P n ops S K ((⟨some d, .nilCheck x, ty, pos, af, none⟩, held, need) :: rest) ρ w :=
  x_pure rfl hn (fun w => by simp only [execOp, hx]; rfl) h
theorem x_extract {x : Operand} {i : Nat} (vs : Array Value) (v : Value) (hx : ev ρ x = .tuple vs) (hv : vs[i]? = some v) (h : RX P n ops S K rest (upd n ρ d v) w) (hn : (Nat.blt held 3 && (Nat.blt 0 held || !need)) = true := by rfl) :
    RX P n ops S K ((⟨some d, .extract x i, ty, pos, af, none⟩, held, need) :: rest) ρ w :=
  x_pure rfl hn (fun w => by simp [execOp, hx, Instr.extract, hv]) h
theorem x_not {x : Operand} {xt : TypeId} (b : Bool) (hx : ev ρ x = .bool b) (h : RX P n ops S K rest (upd n ρ d (.bool (!b))) w) (hn : (Nat.blt held 3 && (Nat.blt 0 held || !need)) = true := by rfl) :
    RX P n ops S K ((⟨some d, .unOp .not xt x, ty, pos, af, none⟩, held, need) :: rest) ρ w :=
  x_pure rfl hn (fun w => by simp [execOp, hx, Op.unary]) h

/-- a field's place -/
def FA (P : Program) (T : TypeId) (i off : Nat) : Prop := ∀ (w : World) (a : Addr), (Instr.fieldAt T (.pointer (some a)) i).run P w = .ok (.pointer (some (a.add off))) w
theorem fa_of {T : TypeId} {i off ft s : Nat} {fs : Array Field} (h1 : P.underlying T = some (.struct fs)) (h2 : (fs[i]?).map (fun f => (f.type, f.offset)) = some (ft, off)) (h3 : (P.info? ft).map (·.size) = some (s + 1)) : FA P T i off := by
  intro w a
  obtain ⟨f, hf, e⟩ := Option.map_eq_some_iff.1 h2
  obtain ⟨t, ht, e2⟩ := Option.map_eq_some_iff.1 h3
  simp only [Prod.mk.injEq] at e
  obtain ⟨rfl, rfl⟩ := e
  have e3 : ¬ (t.size = 0) := by omega
  simp [Instr.fieldAt, run_underlying h1, hf, Instr.sureAddr, fieldPlace, sizeOf, typeInfo, ht, e3]
theorem x_field0 {x : Operand} {T i off : Nat} (hf : FA P T i off) (b : Nat) (hx : ev ρ x = .pointer (some ⟨b, 0, none⟩)) (h : RX P n ops S K rest (upd n ρ d (.pointer (some ⟨b, off, none⟩))) w) (hn : (Nat.blt held 3 && (Nat.blt 0 held || !need)) = true := by rfl) :
    RX P n ops S K ((⟨some d, .fieldAddr T x i, ty, pos, af, none⟩, held, need) :: rest) ρ w :=
  x_pure rfl hn (fun w => by
    have hr := hf w ⟨b, 0, none⟩
    rw [Addr.add_lit, Nat.zero_add] at hr
    simp [execOp, hx, hr]) h
theorem x_field {x : Operand} {T i off : Nat} (hf : FA P T i off) (b o : Nat) (hx : ev ρ x = .pointer (some ⟨b, o, none⟩)) (h : RX P n ops S K rest (upd n ρ d (.pointer (some ⟨b, o + off, none⟩))) w) (hn : (Nat.blt held 3 && (Nat.blt 0 held || !need)) = true := by rfl) :
    RX P n ops S K ((⟨some d, .fieldAddr T x i, ty, pos, af, none⟩, held, need) :: rest) ρ w :=
  x_pure rfl hn (fun w => by
    have hr := hf w ⟨b, o, none⟩
    rw [Addr.add_lit] at hr
    simp [execOp, hx, hr]) h

/-- a type of one cell, by its description -/
def One (P : Program) (t : TypeId) : Prop := (∀ w, (isAgg t).run P w = .ok false w) ∧ ∀ w, (sizeOf t).run P w = .ok 1 w
def isAggD : TypeDesc → Bool
  | .struct _ | .array _ _ => true
  | _ => false
theorem one_of {t : TypeId} {D : TypeDesc} (h1 : P.underlying t = some D) (h2 : isAggD D = false) (h3 : (P.info? t).map (·.size) = some 1) : One P t := by
  obtain ⟨i, hi, e⟩ := Option.map_eq_some_iff.1 h3
  refine ⟨fun w => ?_, fun w => by simp [sizeOf, typeInfo, hi, e]⟩
  cases D <;> first | (simp [isAggD] at h2; done) | simp [isAgg, run_underlying h1]
def Agg (P : Program) (t : TypeId) (k : Nat) : Prop := (∀ w, (isAgg t).run P w = .ok true w) ∧ ∀ w, (sizeOf t).run P w = .ok k w
theorem agg_of {t k : TypeId} {D : TypeDesc} (h1 : P.underlying t = some D) (h2 : isAggD D = true) (h3 : (P.info? t).map (·.size) = some k) : Agg P t k := by
  obtain ⟨i, hi, e⟩ := Option.map_eq_some_iff.1 h3
  refine ⟨fun w => ?_, fun w => by simp [sizeOf, typeInfo, hi, e]⟩
  cases D <;> first | (simp [isAggD] at h2; done) | simp [isAgg, run_underlying h1]
theorem run_load1 {t : TypeId} (h1 : One P t) {a : Addr} {v : Value} (hc : w.cell? a = some v) : (Instr.loadAt t (.pointer (some a))).run P w = .ok v w := by
  simp [Instr.loadAt, Instr.sureAddr, loadVar, h1.1, hc]
theorem run_loadN {t : TypeId} {cs : List Value} (h1 : Agg P t cs.length) {a : Addr} (hc : ∀ j u, cs[j]? = some u → w.cell? (a.add j) = some u) : (Instr.loadAt t (.pointer (some a))).run P w = .ok (.agg cs.toArray) w := by
  have := run_loadCells_list (P := P) w a cs hc
  simp [Instr.loadAt, Instr.sureAddr, loadVar, h1.1, h1.2, this]
theorem x_load {t : TypeId} {x : Operand} (h1 : One P t) (a : Addr) (v : Value) (hx : ev ρ x = .pointer (some a)) (hc : w.cell? a = some v) (h : RX P n ops S K rest (upd n ρ d v) w) :
    RX P n ops S K ((⟨some d, .load t x, ty, pos, af, none⟩, 0, false) :: rest) ρ w :=
  x_read rfl (by simp [execOp, hx, run_load1 h1 hc]) h
theorem h_load {t : TypeId} {x : Operand} (h1 : One P t) (a : Addr) (v : Value) (hx : ev ρ x = .pointer (some a)) (hc : ∀ w, S w → w.cell? a = some v) (h : RX P n ops S K rest (upd n ρ d v) w) :
    RX P n ops S K ((⟨some d, .load t x, ty, pos, af, none⟩, 1, need) :: rest) ρ w :=
  x_heldr rfl (fun w hS => by simp [execOp, hx, run_load1 h1 (hc w hS)]) h
theorem x_loadN {t : TypeId} {x : Operand} (cs : List Value) (h1 : Agg P t cs.length) (a : Addr) (hx : ev ρ x = .pointer (some a)) (hc : ∀ j u, cs[j]? = some u → w.cell? (a.add j) = some u) (h : RX P n ops S K rest (upd n ρ d (.agg cs.toArray)) w) :
    RX P n ops S K ((⟨some d, .load t x, ty, pos, af, none⟩, 0, false) :: rest) ρ w :=
  x_read rfl (by simp [execOp, hx, run_loadN h1 hc]) h
theorem h_loadN {t : TypeId} {x : Operand} (cs : List Value) (h1 : Agg P t cs.length) (a : Addr) (hx : ev ρ x = .pointer (some a)) (hc : ∀ w, S w → ∀ j u, cs[j]? = some u → w.cell? (a.add j) = some u) (h : RX P n ops S K rest (upd n ρ d (.agg cs.toArray)) w) :
    RX P n ops S K ((⟨some d, .load t x, ty, pos, af, none⟩, 1, need) :: rest) ρ w :=
  x_heldr rfl (fun w hS => by simp [execOp, hx, run_loadN h1 (hc w hS)]) h

/-- a store of one cell into a block that is owned -/
theorem run_store1 {t : TypeId} (h1 : One P t) {a : Addr} {u v : Value} (hv : v.oneCell' = true) (hc : w.cell? a = some u) (hf : w.frozen? a = false) : (Instr.storeAt t (.pointer (some a)) v).run P w = .ok () (w.setCell a v) := by
  have hcells : v.cells = #[v] := by cases v <;> first | rfl | (simp [Value.oneCell'] at hv)
  have hadd : a.add 0 = a := by simp [Addr.add]
  simp [Instr.storeAt, Instr.sureAddr, storeVar, h1.2, hcells, storeCells, hadd, run_store P w a v _ hv, hc, hf]
theorem x_store {t : TypeId} {x y : Operand} {w0 : World} {L : List HP} {b i : Nat} {cs : Array Value} {T : TypeId} (hs : Sat w0 w (Blk b (.cells cs T (0, 0)) :: L)) (h1 : One P t) (v : Value)
    (hx : ev ρ x = .pointer (some ⟨b, i, none⟩)) (hy : ev ρ y = v) (hv : v.oneCell' = true) (hi' : Nat.blt i cs.size = true)
    (h : ∀ w', Sat w0 w' (Blk b (.cells (cs.setIfInBounds i v) T (0, 0)) :: L) → (need = true → S w') ∧ RX P n ops S K rest ρ w') :
    RX P n ops S K ((⟨none, .store t x y, ty, pos, af, none⟩, 0, need) :: rest) ρ w := by
  have hi : i < cs.size := Nat.le_of_ble_eq_true hi'
  have hc : w.cell? ⟨b, i, none⟩ = some cs[i] := hs.cell (Array.getElem?_eq_getElem hi)
  have hf : w.frozen? ⟨b, i, none⟩ = false := frozen_of_row w b i cs T hs.blk
  obtain ⟨h2, h3⟩ := h _ (hs.setCell (i := i) v)
  exact x_act rfl (by simp [execOp, hx, hy, run_store1 h1 hv hc hf]) h2 h3

/-- a call of a function of the text -/
theorem x_call {f : FuncId} {as : List Operand} {ats : Array TypeId} (fn : Func) (hfn : P.funcs[f]? = some fn) (hnm : (fn.name == "runtime.NumGoroutine") = false) (hb : fn.body.isNone = false)
    (vs : List Value) (hvs : as.map (ev ρ) = vs) (h : Calls P f vs.toArray w fun e w' => ∃ v, e = .returned v ∧ (need = true → S w') ∧ RX P n ops S K rest (upd n ρ d v) w') :
    RX P n ops S K ((⟨some d, .call { callee := .value (.func f), args := as.toArray, argTypes := ats }, ty, pos, af, none⟩, 0, need) :: rest) ρ w := by
  rw [RX_cons, if_neg (by decide), if_pos (by simp [Region.wanted]), if_pos rfl]
  have hr : (execOp (ev ρ) ⟨some d, .call { callee := .value (.func f), args := as.toArray, argTypes := ats }, ty, pos, af, none⟩).run P w = .ok (.enter f vs.toArray) w := by
    show (callFunc f (#[] ++ as.toArray.map (ev ρ) ++ #[])).run P w = _
    rw [List.map_toArray, hvs]
    have hnm' : ¬ (fn.name = "runtime.NumGoroutine") := by simpa using hnm
    have hb' : ¬ (fn.body = none) := fun e => by rw [e] at hb; cases hb
    simp [callFunc, hfn, hnm', hb']
  simp only [wpE, hr]
  exact h
theorem x_call0 {f : FuncId} {as : List Operand} {ats : Array TypeId} (fn : Func) (hfn : P.funcs[f]? = some fn) (hnm : (fn.name == "runtime.NumGoroutine") = false) (hb : fn.body.isNone = false)
    (vs : List Value) (hvs : as.map (ev ρ) = vs) (h : Calls P f vs.toArray w fun e w' => ∃ v, e = .returned v ∧ (need = true → S w') ∧ RX P n ops S K rest ρ w') :
    RX P n ops S K ((⟨none, .call { callee := .value (.func f), args := as.toArray, argTypes := ats }, ty, pos, af, none⟩, 0, need) :: rest) ρ w := by
  rw [RX_cons, if_neg (by decide), if_pos (by simp [Region.wanted]), if_pos rfl]
  have hr : (execOp (ev ρ) ⟨none, .call { callee := .value (.func f), args := as.toArray, argTypes := ats }, ty, pos, af, none⟩).run P w = .ok (.enter f vs.toArray) w := by
    show (callFunc f (#[] ++ as.toArray.map (ev ρ) ++ #[])).run P w = _
    rw [List.map_toArray, hvs]
    have hnm' : ¬ (fn.name = "runtime.NumGoroutine") := by simpa using hnm
    have hb' : ¬ (fn.body = none) := fun e => by rw [e] at hb; cases hb
    simp [callFunc, hfn, hnm', hb']
  simp only [wpE, hr]
  exact h
end

/-! ### whole numbers -/
def lo : IntKind → Int
  | .i8 => -128 | .i16 => -32768 | .i32 => -2147483648 | .i64 => -9223372036854775808 | _ => 0
def hi : IntKind → Int
  | .i8 => 127 | .i16 => 32767 | .i32 => 2147483647 | .i64 => 9223372036854775807
  | .u8 => 255 | .u16 => 65535 | .u32 => 4294967295 | .u64 => 18446744073709551615
theorem wrap_fits {k : IntKind} {x : Int} (h1 : lo k ≤ x) (h2 : x ≤ hi k) : k.wrap x = x := by
  cases k <;> simp only [lo, hi] at h1 h2 <;> simp only [IntKind.wrap, IntKind.bits, IntKind.signed] <;> simp <;> omega

section
variable {P : Program} {n : Nat} {ops : Array Oper} {S : World → Prop} {K : Env → World → Prop} {rest : List (Oper × Nat × Bool)} {ρ : Env} {w : World}
variable {d : Nat} {ty : TypeId} {pos : String} {af : Array Edge} {held : Nat} {need : Bool} {xt yt : TypeId} {x y : Operand} {k k' : IntKind}

theorem run_arith (op : BinOp) (a b r : Int) (hx : ev ρ x = .int k a) (hy : ev ρ y = .int k b) (ho : ∀ w, (Op.intArith op k a b).run P w = .ok (.int k r) w) (hop : op = .add ∨ op = .sub ∨ op = .mul) (w : World) :
    (execOp (ev ρ) ⟨some d, .binOp op xt x y yt, ty, pos, af, none⟩).run P w = .ok (.value (.int k r)) w := by
  rcases hop with rfl | rfl | rfl <;> simp [execOp, hx, hy, eqGuard, binOp, ho]
theorem x_add (a b : Int) (hx : ev ρ x = .int k a) (hy : ev ρ y = .int k b) (h1 : lo k ≤ a + b) (h2 : a + b ≤ hi k) (h : RX P n ops S K rest (upd n ρ d (.int k (a + b))) w) (hn : (Nat.blt held 3 && (Nat.blt 0 held || !need)) = true := by rfl) :
    RX P n ops S K ((⟨some d, .binOp .add xt x y yt, ty, pos, af, none⟩, held, need) :: rest) ρ w :=
  x_pure rfl hn (run_arith .add a b _ hx hy (fun w => by simp [Op.intArith, wrap_fits h1 h2]) (.inl rfl)) h
theorem x_sub (a b : Int) (hx : ev ρ x = .int k a) (hy : ev ρ y = .int k b) (h1 : lo k ≤ a - b) (h2 : a - b ≤ hi k) (h : RX P n ops S K rest (upd n ρ d (.int k (a - b))) w) (hn : (Nat.blt held 3 && (Nat.blt 0 held || !need)) = true := by rfl) :
    RX P n ops S K ((⟨some d, .binOp .sub xt x y yt, ty, pos, af, none⟩, held, need) :: rest) ρ w :=
  x_pure rfl hn (run_arith .sub a b _ hx hy (fun w => by simp [Op.intArith, wrap_fits h1 h2]) (.inr (.inl rfl))) h
theorem x_mul (a b : Int) (hx : ev ρ x = .int k a) (hy : ev ρ y = .int k b) (h1 : lo k ≤ a * b) (h2 : a * b ≤ hi k) (h : RX P n ops S K rest (upd n ρ d (.int k (a * b))) w) (hn : (Nat.blt held 3 && (Nat.blt 0 held || !need)) = true := by rfl) :
    RX P n ops S K ((⟨some d, .binOp .mul xt x y yt, ty, pos, af, none⟩, held, need) :: rest) ρ w :=
  x_pure rfl hn (run_arith .mul a b _ hx hy (fun w => by simp [Op.intArith, wrap_fits h1 h2]) (.inr (.inr rfl))) h
/-- sums that may wrap -/
theorem x_addW (a b : Int) (hx : ev ρ x = .int k a) (hy : ev ρ y = .int k b) (h : RX P n ops S K rest (upd n ρ d (.int k (k.wrap (a + b)))) w) (hn : (Nat.blt held 3 && (Nat.blt 0 held || !need)) = true := by rfl) :
    RX P n ops S K ((⟨some d, .binOp .add xt x y yt, ty, pos, af, none⟩, held, need) :: rest) ρ w :=
  x_pure rfl hn (run_arith .add a b _ hx hy (fun w => by simp [Op.intArith]) (.inl rfl)) h
theorem x_subW (a b : Int) (hx : ev ρ x = .int k a) (hy : ev ρ y = .int k b) (h : RX P n ops S K rest (upd n ρ d (.int k (k.wrap (a - b)))) w) (hn : (Nat.blt held 3 && (Nat.blt 0 held || !need)) = true := by rfl) :
    RX P n ops S K ((⟨some d, .binOp .sub xt x y yt, ty, pos, af, none⟩, held, need) :: rest) ρ w :=
  x_pure rfl hn (run_arith .sub a b _ hx hy (fun w => by simp [Op.intArith]) (.inr (.inl rfl))) h

theorem run_cmp (op : BinOp) (a b : Int) (r : Bool) (hx : ev ρ x = .int k a) (hy : ev ρ y = .int k b) (ho : ∀ w, (Op.intCmp op a b).run P w = .ok (.bool r) w) (hop : op = .eql ∨ op = .neq ∨ op = .lss ∨ op = .leq ∨ op = .gtr ∨ op = .geq) (w : World) :
    (execOp (ev ρ) ⟨some d, .binOp op xt x y yt, ty, pos, af, none⟩).run P w = .ok (.value (.bool r)) w := by
  rcases hop with rfl | rfl | rfl | rfl | rfl | rfl <;> simp [execOp, hx, hy, eqGuard, binOp, ho]
theorem x_eql (a b : Int) (hx : ev ρ x = .int k a) (hy : ev ρ y = .int k b) (h : RX P n ops S K rest (upd n ρ d (.bool (decide (a = b)))) w) (hn : (Nat.blt held 3 && (Nat.blt 0 held || !need)) = true := by rfl) :
    RX P n ops S K ((⟨some d, .binOp .eql xt x y yt, ty, pos, af, none⟩, held, need) :: rest) ρ w :=
  x_pure rfl hn (run_cmp .eql a b _ hx hy (fun w => rfl) (by simp)) h
theorem x_neq (a b : Int) (hx : ev ρ x = .int k a) (hy : ev ρ y = .int k b) (h : RX P n ops S K rest (upd n ρ d (.bool (decide (a ≠ b)))) w) (hn : (Nat.blt held 3 && (Nat.blt 0 held || !need)) = true := by rfl) :
    RX P n ops S K ((⟨some d, .binOp .neq xt x y yt, ty, pos, af, none⟩, held, need) :: rest) ρ w :=
  x_pure rfl hn (run_cmp .neq a b _ hx hy (fun w => by
    have e : (a != b) = decide (a ≠ b) := by by_cases hab : a = b <;> simp [hab]
    simp [Op.intCmp, e]) (by simp)) h
theorem x_lss (a b : Int) (hx : ev ρ x = .int k a) (hy : ev ρ y = .int k b) (h : RX P n ops S K rest (upd n ρ d (.bool (decide (a < b)))) w) (hn : (Nat.blt held 3 && (Nat.blt 0 held || !need)) = true := by rfl) :
    RX P n ops S K ((⟨some d, .binOp .lss xt x y yt, ty, pos, af, none⟩, held, need) :: rest) ρ w :=
  x_pure rfl hn (run_cmp .lss a b _ hx hy (fun w => rfl) (by simp)) h
theorem x_leq (a b : Int) (hx : ev ρ x = .int k a) (hy : ev ρ y = .int k b) (h : RX P n ops S K rest (upd n ρ d (.bool (decide (a ≤ b)))) w) (hn : (Nat.blt held 3 && (Nat.blt 0 held || !need)) = true := by rfl) :
    RX P n ops S K ((⟨some d, .binOp .leq xt x y yt, ty, pos, af, none⟩, held, need) :: rest) ρ w :=
  x_pure rfl hn (run_cmp .leq a b _ hx hy (fun w => rfl) (by simp)) h
theorem x_gtr (a b : Int) (hx : ev ρ x = .int k a) (hy : ev ρ y = .int k b) (h : RX P n ops S K rest (upd n ρ d (.bool (decide (b < a)))) w) (hn : (Nat.blt held 3 && (Nat.blt 0 held || !need)) = true := by rfl) :
    RX P n ops S K ((⟨some d, .binOp .gtr xt x y yt, ty, pos, af, none⟩, held, need) :: rest) ρ w :=
  x_pure rfl hn (run_cmp .gtr a b _ hx hy (fun w => rfl) (by simp)) h
theorem x_geq (a b : Int) (hx : ev ρ x = .int k a) (hy : ev ρ y = .int k b) (h : RX P n ops S K rest (upd n ρ d (.bool (decide (b ≤ a)))) w) (hn : (Nat.blt held 3 && (Nat.blt 0 held || !need)) = true := by rfl) :
    RX P n ops S K ((⟨some d, .binOp .geq xt x y yt, ty, pos, af, none⟩, held, need) :: rest) ρ w :=
  x_pure rfl hn (run_cmp .geq a b _ hx hy (fun w => rfl) (by simp)) h

/-- between kinds of whole numbers -/
def Cv (P : Program) (s t : TypeId) (k' : IntKind) : Prop := ∀ w k a, (convert s t (.int k a)).run P w = .ok (.int k' (k'.wrap a)) w
theorem cv_of {s t : TypeId} {k k' : IntKind} (h1 : P.underlying s = some (.int k)) (h2 : P.underlying t = some (.int k')) : Cv P s t k' := by
  intro w j a
  simp [convert, run_underlying h1, run_underlying h2, Conv.intToInt]
theorem x_conv {s t : TypeId} (hc : Cv P s t k') (a : Int) (hx : ev ρ x = .int k a) (h1 : lo k' ≤ a) (h2 : a ≤ hi k') (h : RX P n ops S K rest (upd n ρ d (.int k' a)) w) (hn : (Nat.blt held 3 && (Nat.blt 0 held || !need)) = true := by rfl) :
    RX P n ops S K ((⟨some d, .convert s t x, ty, pos, af, none⟩, held, need) :: rest) ρ w :=
  x_pure rfl hn (fun w => by
    have hr := hc w k a
    rw [wrap_fits h1 h2] at hr
    simp [execOp, hx, hr]) h
theorem x_convW {s t : TypeId} (hc : Cv P s t k') (a : Int) (hx : ev ρ x = .int k a) (h : RX P n ops S K rest (upd n ρ d (.int k' (k'.wrap a))) w) (hn : (Nat.blt held 3 && (Nat.blt 0 held || !need)) = true := by rfl) :
    RX P n ops S K ((⟨some d, .convert s t x, ty, pos, af, none⟩, held, need) :: rest) ρ w :=
  x_pure rfl hn (fun w => by
    have hr := hc w k a
    simp [execOp, hx, hr]) h

/-- pointers against nil -/
theorem pointee_of {P : Program} {t e : TypeId} (hu : P.underlying t = some (.pointer e)) : P.underlying t = some (.pointer (P.pointee t)) := by
  simp [Program.pointee, hu]
theorem x_eqlNil {e : TypeId} (hu : P.underlying xt = some (.pointer e)) (p : Option Addr) (hx : ev ρ x = .pointer p) (hy : ev ρ y = .pointer none) (h : RX P n ops S K rest (upd n ρ d (.bool p.isNone)) w) (hn : (Nat.blt held 3 && (Nat.blt 0 held || !need)) = true := by rfl) :
    RX P n ops S K ((⟨some d, .binOp .eql xt x y yt, ty, pos, af, none⟩, held, need) :: rest) ρ w :=
  x_pure rfl hn (fun w => by
    have hr := run_eql_pointer_nil (P := P) w xt p (pointee_of hu)
    simp only [execOp, hx, hy, eqGuard]
    simp [hr]) h
theorem x_neqNil {e : TypeId} (hu : P.underlying xt = some (.pointer e)) (p : Option Addr) (hx : ev ρ x = .pointer p) (hy : ev ρ y = .pointer none) (h : RX P n ops S K rest (upd n ρ d (.bool (!p.isNone))) w) (hn : (Nat.blt held 3 && (Nat.blt 0 held || !need)) = true := by rfl) :
    RX P n ops S K ((⟨some d, .binOp .neq xt x y yt, ty, pos, af, none⟩, held, need) :: rest) ρ w :=
  x_pure rfl hn (fun w => by
    have hr := run_neq_pointer_nil (P := P) w xt p (pointee_of hu)
    simp only [execOp, hx, hy, eqGuard]
    simp [hr]) h
theorem x_eqlSlNil {e : TypeId} (hu : P.underlying xt = some (.slice e)) (p : Option Addr) (l c l' c' : Nat) (hx : ev ρ x = .slice p l c) (hy : ev ρ y = .slice none l' c') (h : RX P n ops S K rest (upd n ρ d (.bool p.isNone)) w) (hn : (Nat.blt held 3 && (Nat.blt 0 held || !need)) = true := by rfl) :
    RX P n ops S K ((⟨some d, .binOp .eql xt x y yt, ty, pos, af, none⟩, held, need) :: rest) ρ w :=
  x_pure rfl hn (fun w => by
    have hr := Lib.run_eql_slice_nil (P := P) w xt e p l c l' c' hu
    simp only [execOp, hx, hy, eqGuard]
    simp [hr]) h
/-- the length of a slice -/
theorem x_lenSl {t e : TypeId} (hu : P.underlying t = some (.slice e)) (p : Option Addr) (l c : Nat) (hx : ev ρ x = .slice p l c) (h : RX P n ops S K rest (upd n ρ d (.int .i64 l)) w) (hn : (Nat.blt held 3 && (Nat.blt 0 held || !need)) = true := by rfl) :
    RX P n ops S K ((⟨some d, .call { callee := .builtin .len, args := #[x], argTypes := #[t] }, ty, pos, af, none⟩, held, need) :: rest) ρ w :=
  x_pure rfl hn (fun w => by simp [execOp, resolve, invoke, builtin, hx, Builtin.len_, run_underlying hu, goInt]) h
/-- a place in a slice -/
def Sz (P : Program) (t k : Nat) : Prop := ∀ w, (sizeOf t).run P w = .ok k w
theorem sz_of {t k : TypeId} (h3 : (P.info? t).map (·.size) = some k) : Sz P t k := by
  obtain ⟨i, hi, e⟩ := Option.map_eq_some_iff.1 h3
  intro w
  simp [sizeOf, typeInfo, hi, e]
theorem x_indexAddr {t e size : TypeId} (hu : P.underlying t = some (.slice e)) (hz : Sz P e size) (b o l c i : Nat) (hx : ev ρ x = .slice (some ⟨b, o, none⟩) l c) (hy : ev ρ y = .int k i) (hi : i < l) (h : RX P n ops S K rest (upd n ρ d (.pointer (some ⟨b, o + i * size, none⟩))) w) (hn : (Nat.blt held 3 && (Nat.blt 0 held || !need)) = true := by rfl) :
    RX P n ops S K ((⟨some d, .indexAddr t x y, ty, pos, af, none⟩, held, need) :: rest) ρ w :=
  x_pure rfl hn (fun w => by
    have hr := hz w
    simp [execOp, hx, hy, Instr.indexAt, asIntOf, run_underlying hu, hi, hr, Addr.add_lit]) h
end
end Go.Proofs.Ytiffpkbkmpianaa.X
