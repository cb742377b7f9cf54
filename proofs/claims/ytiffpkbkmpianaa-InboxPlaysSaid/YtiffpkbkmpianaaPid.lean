/-
  STRUCTS OF TWO WHOLE NUMBERS: '==' and '!=' of them; such structs as keys of maps.
-/
import Derived.Test.YtiffpkbkmpianaaMap
import Derived.Laws.StructEq
namespace Go.Proofs.Ytiffpkbkmpianaa.X
open Go Go.RowKit
set_option linter.unusedVariables false
/-- what '==' says of a type that is told by enc -/
structure EQ {κ : Type} [DecidableEq κ] (P : Program) (t : TypeId) (enc : κ → Value) : Prop where
  agg : ∀ a, ∃ cs, enc a = .agg cs
  eq : ∀ (w : World) (a b : κ), (Op.equalIn 10000 t (enc a) (enc b)).run P w = .ok (decide (a = b)) w
  guard : P.eqGuardType P.depth t = false
section
variable {P : Program} {n : Nat} {ops : Array Oper} {S : World → Prop} {K : Env → World → Prop} {rest : List (Oper × Nat × Bool)} {ρ : Env} {w : World}
variable {d : Nat} {ty : TypeId} {pos : String} {af : Array Edge} {held : Nat} {need : Bool} {xt yt : TypeId} {x y : Operand} {κ : Type} [DecidableEq κ] {enc : κ → Value}
theorem x_eqlE (h0 : EQ P xt enc) (a b : κ) (hx : ev ρ x = enc a) (hy : ev ρ y = enc b) (h : RX P n ops S K rest (upd n ρ d (.bool (decide (a = b)))) w) (hn : (Nat.blt held 3 && (Nat.blt 0 held || !need)) = true := by rfl) :
    RX P n ops S K ((⟨some d, .binOp .eql xt x y yt, ty, pos, af, none⟩, held, need) :: rest) ρ w :=
  x_pure rfl hn (fun w => by
    obtain ⟨cs, e1⟩ := h0.agg a
    obtain ⟨ds, e2⟩ := h0.agg b
    have hr := h0.eq w a b
    rw [e1, e2] at hr
    have hg := run_eqGuard_agg (P := P) w .eql xt x y cs ds h0.guard
    have hb := run_eql_struct (P := P) w xt cs ds
    rw [hr] at hb
    simp [execOp, hx, hy, e1, e2, hg, hb]) h
theorem x_neqE (h0 : EQ P xt enc) (a b : κ) (hx : ev ρ x = enc a) (hy : ev ρ y = enc b) (h : RX P n ops S K rest (upd n ρ d (.bool (decide (a ≠ b)))) w) (hn : (Nat.blt held 3 && (Nat.blt 0 held || !need)) = true := by rfl) :
    RX P n ops S K ((⟨some d, .binOp .neq xt x y yt, ty, pos, af, none⟩, held, need) :: rest) ρ w :=
  x_pure rfl hn (fun w => by
    obtain ⟨cs, e1⟩ := h0.agg a
    obtain ⟨ds, e2⟩ := h0.agg b
    have hr := h0.eq w a b
    rw [e1, e2] at hr
    have hg := run_eqGuard_agg (P := P) w .neq xt x y cs ds h0.guard
    have hb := run_neq_struct (P := P) w xt cs ds
    rw [hr] at hb
    simp [execOp, hx, hy, e1, e2, hg, hb]) h
theorem x_eqlET (h0 : EQ P xt enc) (a b : κ) (hx : ev ρ x = enc a) (hy : ev ρ y = enc b) (hab : a = b) (h : RX P n ops S K rest (upd n ρ d (.bool true)) w) (hn : (Nat.blt held 3 && (Nat.blt 0 held || !need)) = true := by rfl) :
    RX P n ops S K ((⟨some d, .binOp .eql xt x y yt, ty, pos, af, none⟩, held, need) :: rest) ρ w := x_eqlE h0 a b hx hy (by rw [decide_eq_true hab]; exact h) hn
theorem x_eqlEF (h0 : EQ P xt enc) (a b : κ) (hx : ev ρ x = enc a) (hy : ev ρ y = enc b) (hab : a ≠ b) (h : RX P n ops S K rest (upd n ρ d (.bool false)) w) (hn : (Nat.blt held 3 && (Nat.blt 0 held || !need)) = true := by rfl) :
    RX P n ops S K ((⟨some d, .binOp .eql xt x y yt, ty, pos, af, none⟩, held, need) :: rest) ρ w := x_eqlE h0 a b hx hy (by rw [decide_eq_false hab]; exact h) hn
theorem x_neqET (h0 : EQ P xt enc) (a b : κ) (hx : ev ρ x = enc a) (hy : ev ρ y = enc b) (hab : a ≠ b) (h : RX P n ops S K rest (upd n ρ d (.bool true)) w) (hn : (Nat.blt held 3 && (Nat.blt 0 held || !need)) = true := by rfl) :
    RX P n ops S K ((⟨some d, .binOp .neq xt x y yt, ty, pos, af, none⟩, held, need) :: rest) ρ w := x_neqE h0 a b hx hy (by rw [decide_eq_true hab]; exact h) hn
theorem x_neqEF (h0 : EQ P xt enc) (a b : κ) (hx : ev ρ x = enc a) (hy : ev ρ y = enc b) (hab : a = b) (h : RX P n ops S K rest (upd n ρ d (.bool false)) w) (hn : (Nat.blt held 3 && (Nat.blt 0 held || !need)) = true := by rfl) :
    RX P n ops S K ((⟨some d, .binOp .neq xt x y yt, ty, pos, af, none⟩, held, need) :: rest) ρ w := x_neqE h0 a b hx hy (by rw [decide_eq_false (by simpa using hab)]; exact h) hn
end
theorem part_one {P : Program} {w : World} {t o : Nat} {cs : Array Value} {v : Value} (h : One P t) (hv : cs[o]? = some v) : (part t cs o).run P w = .ok v w := by
  simp [part, h.1, hv]
/-- a struct of two fields that are whole numbers -/
theorem eq2_of {κ : Type} [DecidableEq κ] {P : Program} {t : TypeId} {f1 f2 : Field} {k1 k2 : IntKind} (f g : κ → Nat) (hu : P.underlying t = some (.struct #[f1, f2])) (n1 : (f1.name == "_") = false) (n2 : (f2.name == "_") = false) (o1 : f1.offset = 0) (o2 : f2.offset = 1)
    (u1 : P.underlying f1.type = some (.int k1)) (u2 : P.underlying f2.type = some (.int k2)) (a1 : One P f1.type) (a2 : One P f2.type) (hp : P.stoodInHeld t = false) (hg : P.eqGuardType P.depth t = false) (inj : ∀ a b, f a = f b → g a = g b → a = b) :
    EQ P t fun a => .agg #[.int k1 (f a : Nat), .int k2 (g a : Nat)] where
  agg a := ⟨_, rfl⟩
  guard := hg
  eq w a b := by
    have hf : P.fieldsOf t = #[f1, f2] := by simp [Program.fieldsOf, hu]
    have hm1 : f1.name ≠ "_" := by simpa using n1
    have hm2 : f2.name ≠ "_" := by simpa using n2
    rw [show (10000 : Nat) = 9999 + 1 from rfl, run_equalIn_struct w 9999 t _ _ (by rw [hf]; exact hu) hp, hf]
    have p1 : ∀ (x y : Value), (part f1.type #[x, y] f1.offset).run P w = .ok x w := fun x y => part_one a1 (by rw [o1]; rfl)
    have p2 : ∀ (x y : Value), (part f2.type #[x, y] f2.offset).run P w = .ok y w := fun x y => part_one a2 (by rw [o2]; rfl)
    have e1 := run_equalIn_int (P := P) w 9998 f1.type k1 k1 (f a : Nat) (f b : Nat) u1
    have e2 := run_equalIn_int (P := P) w 9998 f2.type k2 k2 (g a : Nat) (g b : Nat) u2
    have q1 : ((f a : Int) == (f b : Int)) = decide (f a = f b) := by by_cases h : f a = f b <;> simp [h] <;> omega
    have q2 : ((g a : Int) == (g b : Int)) = decide (g a = g b) := by by_cases h : g a = g b <;> simp [h] <;> omega
    rw [q1] at e1
    rw [q2] at e2
    have hd : decide (a = b) = (decide (f a = f b) && decide (g a = g b)) := by
      by_cases h : a = b
      · subst h; simp
      · rw [decide_eq_false h]
        by_cases h1 : f a = f b
        · have h2 : g a ≠ g b := fun h2 => h (inj a b h1 h2)
          simp [h2]
        · simp [h1]
    rw [hd]
    generalize decide (f a = f b) = r1 at *
    generalize decide (g a = g b) = r2 at *
    clear hd q1 q2
    cases r1 <;> cases r2 <;> simp [Op.eqFields, hm1, hm2, p1, p2, e1, e2]
/-- structs as keys -/
theorem findAsking_eq {κ : Type} [DecidableEq κ] {P : Program} {K : TypeId} {enc : κ → Value} (h : EQ P K enc) (w : World) (k : κ) : ∀ (es : List MapEntry) (m : List (κ × Value)) (i : Nat), Ents enc es m → (Instr.findAsking K (enc k) es i).run P w = .ok (fpos k m i) w
  | [], [], i, _ => rfl
  | [], _ :: _, _, h => by simp [Ents] at h
  | _ :: _, [], _, h => by simp [Ents] at h
  | e :: es, (b, v) :: m, i, hE => by
    simp only [Ents, List.map_cons, List.cons.injEq, Prod.mk.injEq] at hE
    obtain ⟨⟨h1, h2⟩, h3⟩ := hE
    have hq : (Op.equal K (enc k) (enc b)).run P w = .ok (decide (k = b)) w := h.eq w k b
    by_cases hkb : k = b
    · subst hkb
      rw [decide_eq_true rfl] at hq
      simp [Instr.findAsking, h1, hq, fpos, h2]
    · simp [Instr.findAsking, h1, hq, hkb, fpos, findAsking_eq h w k es m (i + 1) h3]
theorem ko_of {κ : Type} [DecidableEq κ] {P : Program} {K : TypeId} {enc : κ → Value} {fs : Array Field} (h : EQ P K enc) (hu : P.underlying K = some (.struct fs)) (hc : ∀ (w : World) (b : Bool) (k : κ), (Instr.checkKey b 10000 K (enc k)).run P w = .ok () w) (hs : ∀ k, Instr.sameBits 10000 (enc k) (enc k) = true) : KO P K enc where
  chk := hc
  same := hs
  find w k es m hE := by
    cases es with
    | nil =>
      cases m with
      | nil => simp [Instr.findKey, run_underlying hu, Instr.findNow, fpos]
      | cons p m => simp [Ents] at hE
    | cons e es =>
      have hn : Instr.findNow (.struct fs) (enc k) (e :: es) 0 = none := by
        simp [Instr.findNow, Instr.sameNow]
      have := findAsking_eq h w k (e :: es) m 0 hE
      simp [Instr.findKey, run_underlying hu, hn, this]
theorem chk_int {P : Program} {t : TypeId} {k : IntKind} (hu : P.underlying t = some (.int k)) (w : World) (b : Bool) (d : Nat) (n : Int) : (Instr.checkKey b (d + 1) t (.int k n)).run P w = .ok () w := by simp [Instr.checkKey, run_underlying hu]
theorem ko2_of {κ : Type} [DecidableEq κ] {P : Program} {t : TypeId} {f1 f2 : Field} {k1 k2 : IntKind} (f g : κ → Nat) (hu : P.underlying t = some (.struct #[f1, f2])) (n1 : (f1.name == "_") = false) (n2 : (f2.name == "_") = false) (o1 : f1.offset = 0) (o2 : f2.offset = 1)
    (u1 : P.underlying f1.type = some (.int k1)) (u2 : P.underlying f2.type = some (.int k2)) (a1 : One P f1.type) (a2 : One P f2.type) (h : EQ P t fun a => .agg #[.int k1 (f a : Nat), .int k2 (g a : Nat)]) :
    KO P t fun a : κ => .agg #[.int k1 (f a : Nat), .int k2 (g a : Nat)] :=
  ko_of h hu (fun w b k => by
    have hm1 : f1.name ≠ "_" := by simpa using n1
    have hm2 : f2.name ≠ "_" := by simpa using n2
    have p1 : ∀ (x y : Value), (part f1.type #[x, y] f1.offset).run P w = .ok x w := fun x y => part_one a1 (by rw [o1]; rfl)
    have p2 : ∀ (x y : Value), (part f2.type #[x, y] f2.offset).run P w = .ok y w := fun x y => part_one a2 (by rw [o2]; rfl)
    have c1 := chk_int u1 w b 9998 (f k)
    have c2 := chk_int u2 w b 9998 (g k)
    rw [show (10000 : Nat) = 9999 + 1 from rfl, Instr.checkKey]
    simp [run_underlying hu, hm1, hm2, p1, p2, c1, c2]) fun k => by
    have key : ∀ d, Instr.sameBits (d + 2) (.agg #[.int k1 (f k : Nat), .int k2 (g k : Nat)]) (.agg #[.int k1 (f k : Nat), .int k2 (g k : Nat)]) = true := fun d => by simp [Instr.sameBits]
    exact key 9998
end Go.Proofs.Ytiffpkbkmpianaa.X
