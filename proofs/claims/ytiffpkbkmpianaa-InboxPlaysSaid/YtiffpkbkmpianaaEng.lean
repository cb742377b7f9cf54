/-
  THE ENGINE: a Hoare logic over environments of slots for the kit's 'Code.wp': values of slots as a function, regions run operation by operation, regions that draw their order run in one order that a checked list gives. It speaks of no program: the program P is a variable.
-/
import Derived.WalkKit
import Derived.Orders
import Derived.KernelRfl
namespace Go.Proofs.Ytiffpkbkmpianaa.X
open Go
set_option linter.unusedVariables false

abbrev Env := Nat → Value
/-- the environment with slot d turned to v (if d is a slot: d < n) -/
def upd (n : Nat) (ρ : Env) (d : Nat) (v : Value) : Env := fun t => bif (Nat.beq t d).and (Nat.blt d n) then v else ρ t
def updO (n : Nat) (ρ : Env) : Option Nat → Value → Env
  | some d, v => upd n ρ d v
  | none, _ => ρ
def ev (ρ : Env) : Operand → Value
  | .tmp t => ρ t
  | .const v => v
  | .global g => .pointer (some ⟨g, 0, none⟩)
  | .func f => .func (.func f) #[] #[]
structure Rep (n : Nat) (a : Act) (ρ : Env) : Prop where
  defers : a.defers = []
  size : a.tmps.size = n
  get : ∀ t, a.tmps.getD t undef = ρ t

theorem upd_self {n : Nat} {ρ : Env} {d : Nat} {v : Value} (h : ρ d = v) : upd n ρ d v = ρ := by
  funext t
  unfold upd
  cases hb : (Nat.beq t d).and (Nat.blt d n) with
  | false => rfl
  | true =>
    simp only [Bool.and_eq_true] at hb
    have := Nat.eq_of_beq_eq_true hb.1
    subst this
    exact h.symm

theorem Rep.eval {n : Nat} {a : Act} {ρ : Env} (h : Rep n a ρ) : a.eval = ev ρ := by
  funext x
  cases x with
  | tmp t => exact h.get t
  | _ => rfl
theorem Rep.put {n : Nat} {a : Act} {ρ : Env} (h : Rep n a ρ) (dst : Option Nat) (v : Value) : Rep n (a.put dst v) (updO n ρ dst v) := by
  cases dst with
  | none => exact h
  | some d =>
    refine ⟨h.defers, by simp [Act.put, h.size], fun t => ?_⟩
    simp only [Act.put, updO, upd]
    rw [← h.get t, ← h.size]
    by_cases hd : d < a.tmps.size
    · by_cases ht : t = d
      · subst ht
        have hb : Nat.blt t a.tmps.size = true := Nat.ble_eq_true_of_le hd
        simp [hd, hb, Array.getD_eq_getD_getElem?]
      · have : Nat.beq t d = false := by
          cases hb : Nat.beq t d with
          | false => rfl
          | true => exact absurd (Nat.eq_of_beq_eq_true hb) ht
        simp [this, Array.getD_eq_getD_getElem?, Array.getElem?_setIfInBounds_ne (Ne.symm ht)]
    · have h1 : Nat.blt d a.tmps.size = false := by
        cases hb : Nat.blt d a.tmps.size with
        | false => rfl
        | true => exact absurd (Nat.le_of_ble_eq_true hb) hd
      rw [h1, Bool.and_false]
      simp [Array.setIfInBounds, hd]

/-- what a guarding operation has yielded -/
def yE (ops : Array Oper) (ρ : Env) (n : Nat) (j : Nat) : Option Bool :=
  match (ops[j]?).bind (·.dst) with
  | some t => if t < n then (match ρ t with | .bool b => some b | _ => none) else none
  | none => none
theorem Rep.yielded {n : Nat} {a : Act} {ρ : Env} (h : Rep n a ρ) (ops : Array Oper) (j : Nat) : yielded ops a.tmps j = yE ops ρ n j := by
  unfold Go.yielded yE
  cases (ops[j]?).bind (·.dst) with
  | none => rfl
  | some t =>
    simp only [Option.bind_some]
    rw [← h.get t, ← h.size]
    by_cases ht : t < a.tmps.size
    · rw [if_pos ht]
      simp [ht]
      generalize a.tmps[t] = v
      cases v <;> rfl
    · rw [if_neg ht]
      simp [ht]

/-- one operation, not a draw, a defer, a row: it yields, passes, or calls a function that returns -/
def wpE (P : Program) (n : Nat) (o : Oper) (ρ : Env) (w : World) (K : Env → World → Prop) : Prop :=
  match (execOp (ev ρ) o).run P w with
  | .ok (.value v) w' => K (updO n ρ o.dst v) w'
  | .ok .skip w' => K (updO n ρ o.dst undef) w'
  | .ok (.enter f args) w' => Calls P f args w' fun e w'' => ∃ v, e = .returned v ∧ K (updO n ρ o.dst v) w''
  | _ => False
theorem wpE_sound {P : Program} {n : Nat} {o : Oper} {ρ : Env} {a : Act} {w : World} {K : Env → World → Prop} {K' : Act → World → Prop} {Q : Exit → Act → World → Prop}
    (h : Rep n a ρ) (hk : ∀ a' ρ' w', Rep n a' ρ' → K ρ' w' → K' a' w') (hw : wpE P n o ρ w K) : o.wp P a w K' Q := by
  unfold Oper.wp
  unfold wpE at hw
  rw [h.eval]
  generalize (execOp (ev ρ) o).run P w = r at *
  cases r with
  | halt x w' => exact hw.elim
  | ok nx w' =>
    cases nx <;> simp only [Oper.upon] at hw ⊢
    case value v => exact hk _ _ _ (h.put _ _) hw
    case skip => exact hk _ _ _ (h.put _ _) hw
    case enter f args =>
      refine Calls.mono hw fun e w'' he => ?_
      obtain ⟨v, rfl, hK⟩ := he
      exact hk _ _ _ (h.put _ _) hK
theorem wpE_mono {P : Program} {n : Nat} {o : Oper} {ρ : Env} {w : World} {K K' : Env → World → Prop} (hk : ∀ ρ w, K ρ w → K' ρ w) (hw : wpE P n o ρ w K) : wpE P n o ρ w K' := by
  unfold wpE at *
  generalize (execOp (ev ρ) o).run P w = r at *
  cases r with
  | halt x w' => exact hw.elim
  | ok nx w' =>
    cases nx <;> simp only at hw ⊢
    case value v => exact hk _ _ hw
    case skip => exact hk _ _ hw
    case enter f args =>
      refine Calls.mono hw fun e w'' he => ?_
      obtain ⟨v, rfl, hK⟩ := he
      exact ⟨v, rfl, hk _ _ hK⟩

/-- THE STEPS OF A REGION, in a given order. Of each: the operation; its kind (0: it is carried out where it stands; 1: HELD: it yields one value in every world that meets S, and leaves the world alone; 2: the same in every world at all); is S to be shown behind it. -/
def RXL (P : Program) (n : Nat) (ops : Array Oper) (K : Env → World → Prop) : List (Oper × Nat × Bool) → (World → Prop) → Env → World → Prop
  | [], _, ρ, w => K ρ w
  | (o, kind, need) :: rest, S, ρ, w =>
    if kind = 3 then ∃ S' : World → Prop, S' w ∧ RXL P n ops K rest S' ρ w
    else if Region.wanted o (yE ops ρ n) then
      if kind = 0 then wpE P n o ρ w fun ρ' w' => (need = true → S w') ∧ RXL P n ops K rest S ρ' w'
      else ∃ v, (∀ w, (kind = 1 → S w) → (execOp (ev ρ) o).run P w = .ok (.value v) w) ∧ RXL P n ops K rest S (updO n ρ o.dst v) w
    else RXL P n ops K rest S (updO n ρ o.dst undef) w
/-- the same, S ahead (kind 3: no operation, S is chosen anew) -/
def RX (P : Program) (n : Nat) (ops : Array Oper) (S : World → Prop) (K : Env → World → Prop) (l : List (Oper × Nat × Bool)) (ρ : Env) (w : World) : Prop := RXL P n ops K l S ρ w
theorem RX_nil {P : Program} {n : Nat} {ops : Array Oper} {S : World → Prop} {K : Env → World → Prop} {ρ : Env} {w : World} : RX P n ops S K [] ρ w = K ρ w := rfl
theorem RX_cons {P : Program} {n : Nat} {ops : Array Oper} {S : World → Prop} {K : Env → World → Prop} {o : Oper} {kind : Nat} {need : Bool} {rest : List (Oper × Nat × Bool)} {ρ : Env} {w : World} :
    RX P n ops S K ((o, kind, need) :: rest) ρ w = if kind = 3 then ∃ S' : World → Prop, S' w ∧ RX P n ops S' K rest ρ w else
    if Region.wanted o (yE ops ρ n) then
      if kind = 0 then wpE P n o ρ w fun ρ' w' => (need = true → S w') ∧ RX P n ops S K rest ρ' w'
      else ∃ v, (∀ w, (kind = 1 → S w) → (execOp (ev ρ) o).run P w = .ok (.value v) w) ∧ RX P n ops S K rest (updO n ρ o.dst v) w
    else RX P n ops S K rest (updO n ρ o.dst undef) w := by
  unfold RX
  rw [RXL]

/-- The code, from an environment. Nothing panics. -/
def CW (P : Program) (n : Nat) (c : Code) (Q : Exit → Env → World → Prop) (ρ : Env) (w : World) : Prop :=
  ∀ a, Rep n a ρ → c.wp P (fun e a' w' => ∃ ρ', Rep n a' ρ' ∧ Q e ρ' w') a w

def Then (next : Env → World → Prop) (Q : Exit → Env → World → Prop) : Exit → Env → World → Prop
  | .normal, ρ, w => next ρ w
  | e, ρ, w => Q e ρ w
def InB (id : Nat) (Q : Exit → Env → World → Prop) : Exit → Env → World → Prop
  | .exit id', ρ, w => if id' = id then Q .normal ρ w else Q (.exit id') ρ w
  | e, ρ, w => Q e ρ w

section
variable {P : Program} {n : Nat} {Q : Exit → Env → World → Prop} {ρ : Env} {w : World}

theorem CW.mono {c : Code} {Q' : Exit → Env → World → Prop} (h : CW P n c Q ρ w) (hq : ∀ e ρ w, Q e ρ w → Q' e ρ w) : CW P n c Q' ρ w :=
  fun a ha => Go.wp_mono (h a ha) fun e a' w' ⟨ρ', h1, h2⟩ => ⟨ρ', h1, hq _ _ _ h2⟩

theorem c_seq {x y : Code} (h : CW P n x (Then (fun ρ w => CW P n y Q ρ w) Q) ρ w) : CW P n (.seq x y) Q ρ w := by
  intro a ha
  refine wp_seq (Go.wp_mono (h a ha) ?_)
  intro e a' w' ⟨ρ', h1, h2⟩
  cases e with
  | normal => exact h2 a' h1
  | _ => exact ⟨ρ', h1, h2⟩
theorem c_cond {c : Operand} {x y : Code} {b : Bool} (hc : ev ρ c = .bool b) (ht : b = true → CW P n x Q ρ w) (hf : b = false → CW P n y Q ρ w) : CW P n (.cond c x y) Q ρ w := by
  intro a ha
  cases b with
  | true => exact wp_cond_true (by rw [ha.eval]; exact hc) (ht rfl a ha)
  | false => exact wp_cond_false (by rw [ha.eval]; exact hc) (hf rfl a ha)
theorem c_true {c : Operand} {x y : Code} (hc : ev ρ c = .bool true) (ht : CW P n x Q ρ w) : CW P n (.cond c x y) Q ρ w :=
  c_cond hc (fun _ => ht) (fun h => by cases h)
theorem c_false {c : Operand} {x y : Code} (hc : ev ρ c = .bool false) (hf : CW P n y Q ρ w) : CW P n (.cond c x y) Q ρ w :=
  c_cond hc (fun h => by cases h) (fun _ => hf)
/-- a test, as a proposition -/
theorem c_test {c : Operand} {x y : Code} (p : Prop) [Decidable p] (hc : ev ρ c = .bool (decide p)) (ht : p → CW P n x Q ρ w) (hf : ¬ p → CW P n y Q ρ w) : CW P n (.cond c x y) Q ρ w :=
  c_cond hc (fun h => ht (of_decide_eq_true h)) (fun h => hf (of_decide_eq_false h))
theorem c_block {id : Nat} {c : Code} (h : CW P n c (InB id Q) ρ w) : CW P n (.block id c) Q ρ w := by
  intro a ha
  refine wp_block (Go.wp_mono (h a ha) ?_)
  intro e a' w' ⟨ρ', h1, h2⟩
  cases e with
  | exit id' =>
    simp only [Exit.inBlock, InB] at h2 ⊢
    split
    · rename_i hid; rw [if_pos hid] at h2; exact ⟨ρ', h1, h2⟩
    · rename_i hid; rw [if_neg hid] at h2; exact ⟨ρ', h1, h2⟩
  | _ => exact ⟨ρ', h1, h2⟩
theorem c_skip (h : Q .normal ρ w) : CW P n .skip Q ρ w := fun a ha => wp_skip ⟨ρ, ha, h⟩
theorem c_label {l : Nat} (h : Q .normal ρ w) : CW P n (.label l) Q ρ w := fun a ha => wp_label ⟨ρ, ha, h⟩
theorem c_exit {id : Nat} (h : Q (.exit id) ρ w) : CW P n (.exit id) Q ρ w := fun a ha => wp_exit ⟨ρ, ha, h⟩
theorem c_ret (h : Q .ret ρ w) : CW P n .ret Q ρ w := fun a ha => wp_ret ⟨ρ, ha, h⟩

/-- A LOOP. γ: what a round begins with; E: the slots that it is read off; the others are whatever they are. -/
def sets (n : Nat) : List (Nat × Value) → Env → Env
  | [], ρ => ρ
  | (t, v) :: l, ρ => upd n (sets n l ρ) t v
def Has (ρ : Env) : List (Nat × Value) → Prop
  | [] => True
  | (t, v) :: l => ρ t = v ∧ Has ρ l
theorem sets_of_has {n : Nat} {ρ : Env} : ∀ {l : List (Nat × Value)}, Has ρ l → sets n l ρ = ρ
  | [], _ => rfl
  | (t, v) :: l, h => by
    simp only [sets]
    rw [sets_of_has (n := n) h.2]
    exact upd_self h.1
theorem c_loop {c : Code} {γ : Type} (E : γ → List (Nat × Value)) (I : γ → World → Prop) (μ : γ → Nat) (g : γ) (h0 : Has ρ (E g)) (hI : I g w)
    (round : ∀ g ρ w, I g w → CW P n c (Then (fun ρ' w' => ∃ g', Has ρ' (E g') ∧ I g' w' ∧ μ g' < μ g) Q) (sets n (E g) ρ) w) : CW P n (.loop c) Q ρ w := by
  intro a ha
  have key := wp_loop (P := P) (c := c) (a := a) (w := w) (Q := fun e a' w' => ∃ ρ', Rep n a' ρ' ∧ Q e ρ' w')
    (I := fun a' w' => ∃ g, (∃ ρ', Rep n a' ρ' ∧ Has ρ' (E g)) ∧ I g w')
    (μ := fun a' w' => Classical.epsilon (α := Nat) fun m => (∃ g, (∃ ρ', Rep n a' ρ' ∧ Has ρ' (E g)) ∧ I g w' ∧ μ g = m) ∧ ∀ g, (∃ ρ', Rep n a' ρ' ∧ Has ρ' (E g)) → I g w' → m ≤ μ g)
  refine key ⟨g, ⟨ρ, ha, h0⟩, hI⟩ ?_
  intro a1 w1 hI1
  -- the least measure among the ghosts that fit
  have hmin : ∃ m, (∃ g, (∃ ρ', Rep n a1 ρ' ∧ Has ρ' (E g)) ∧ I g w1 ∧ μ g = m) ∧ ∀ g, (∃ ρ', Rep n a1 ρ' ∧ Has ρ' (E g)) → I g w1 → m ≤ μ g := by
    obtain ⟨g1, hr1, hi1⟩ := hI1
    have : ∀ k, ∀ g, (∃ ρ', Rep n a1 ρ' ∧ Has ρ' (E g)) → I g w1 → μ g = k →
        ∃ m, (∃ g, (∃ ρ', Rep n a1 ρ' ∧ Has ρ' (E g)) ∧ I g w1 ∧ μ g = m) ∧ ∀ g, (∃ ρ', Rep n a1 ρ' ∧ Has ρ' (E g)) → I g w1 → m ≤ μ g := by
      intro k
      induction k using Nat.strongRecOn with
      | _ k ih =>
        intro g hr hi hk
        by_cases hlt : ∃ g', (∃ ρ', Rep n a1 ρ' ∧ Has ρ' (E g')) ∧ I g' w1 ∧ μ g' < k
        · obtain ⟨g', hr', hi', hlt'⟩ := hlt
          exact ih _ hlt' g' hr' hi' rfl
        · refine ⟨k, ⟨g, hr, hi, hk⟩, fun g' hr' hi' => ?_⟩
          exact Nat.le_of_not_lt fun h => hlt ⟨g', hr', hi', h⟩
    exact this _ g1 hr1 hi1 rfl
  have hsp := Classical.epsilon_spec hmin
  generalize Classical.epsilon (α := Nat) (fun m => (∃ g, (∃ ρ', Rep n a1 ρ' ∧ Has ρ' (E g)) ∧ I g w1 ∧ μ g = m) ∧ ∀ g, (∃ ρ', Rep n a1 ρ' ∧ Has ρ' (E g)) → I g w1 → m ≤ μ g) = m at hsp ⊢
  obtain ⟨⟨g1, ⟨ρ1, hr1, hh1⟩, hi1, hm⟩, _⟩ := hsp
  have hround := round g1 ρ1 w1 hi1 a1 (by rw [sets_of_has hh1]; exact hr1)
  refine Go.wp_mono hround ?_
  intro e a2 w2 ⟨ρ2, h1, h2⟩
  cases e with
  | normal =>
    obtain ⟨g2, hh2, hi2, hlt⟩ := h2
    refine ⟨⟨g2, ⟨ρ2, h1, hh2⟩, hi2⟩, ?_⟩
    have hmin2 : ∃ m, (∃ g, (∃ ρ', Rep n a2 ρ' ∧ Has ρ' (E g)) ∧ I g w2 ∧ μ g = m) ∧ ∀ g, (∃ ρ', Rep n a2 ρ' ∧ Has ρ' (E g)) → I g w2 → m ≤ μ g := by
      have : ∀ k, ∀ g, (∃ ρ', Rep n a2 ρ' ∧ Has ρ' (E g)) → I g w2 → μ g = k →
          ∃ m, (∃ g, (∃ ρ', Rep n a2 ρ' ∧ Has ρ' (E g)) ∧ I g w2 ∧ μ g = m) ∧ ∀ g, (∃ ρ', Rep n a2 ρ' ∧ Has ρ' (E g)) → I g w2 → m ≤ μ g := by
        intro k
        induction k using Nat.strongRecOn with
        | _ k ih =>
          intro g hr hi hk
          by_cases hlt : ∃ g', (∃ ρ', Rep n a2 ρ' ∧ Has ρ' (E g')) ∧ I g' w2 ∧ μ g' < k
          · obtain ⟨g', hr', hi', hlt'⟩ := hlt
            exact ih _ hlt' g' hr' hi' rfl
          · refine ⟨k, ⟨g, hr, hi, hk⟩, fun g' hr' hi' => ?_⟩
            exact Nat.le_of_not_lt fun h => hlt ⟨g', hr', hi', h⟩
      exact this _ g2 ⟨ρ2, h1, hh2⟩ hi2 rfl
    have hsp2 := (Classical.epsilon_spec hmin2).2 g2 ⟨ρ2, h1, hh2⟩ hi2
    omega
  | _ => exact ⟨ρ2, h1, h2⟩

/-- A region in the text's order. -/
theorem RX_list {ops : Array Oper} {S : World → Prop} {K : Env → World → Prop} {Q' : Exit → Act → World → Prop} (hQ : ∀ a' ρ' w', Rep n a' ρ' → K ρ' w' → Q' .normal a' w') :
    ∀ (l : List Oper) (a : Act) (ρ : Env) (w : World), Rep n a ρ → RX P n ops S K (l.map fun o => (o, 0, false)) ρ w → wpList P ops Q' l a w
  | [], a, ρ, w, ha, h => hQ _ _ _ ha h
  | o :: rest, a, ρ, w, ha, h => by
    have hy : yielded ops a.tmps = yE ops ρ n := funext fun j => ha.yielded ops j
    unfold wpList
    rw [hy]
    rw [List.map_cons, RX_cons, if_neg (by decide)] at h
    split at h
    · rename_i hw
      rw [if_pos hw]
      rw [if_pos rfl] at h
      exact .inl (wpE_sound ha (fun a' ρ' w' ha' hk => RX_list hQ rest a' ρ' w' ha' hk.2) h)
    · rename_i hw
      rw [if_neg hw]
      exact RX_list hQ rest _ _ w (ha.put _ _) h
def plain (l : List Oper) : List (Oper × Nat × Bool) := l.map fun o => (o, 0, false)
theorem c_region {id : Nat} {l : List Oper} (h : RX P n l.toArray (fun _ => True) (fun ρ w => Q .normal ρ w) (plain l) ρ w) : CW P n (.region id l.toArray false) Q ρ w := by
  intro a ha
  exact wp_region_lit (RX_list (fun a' ρ' w' h1 h2 => ⟨ρ', h1, h2⟩) l a ρ w ha h)

/-- The end: one result in a slot, two, none. -/
theorem calls_of_CW {f : FuncId} {fn : Func} {c : Code} {args : Array Value} {w : World} {R : Ending → World → Prop} (hf : P.funcs[f]? = some fn) (hb : fn.body = some c) (hn : fn.ntmps = n)
    (ρ : Env) (hsz : args.size ≤ n) (hρ : ∀ t, (args ++ Array.replicate (n - args.size) undef).getD t undef = ρ t) (res : Env → Value) (hres : ∀ (a : Act) (ρ : Env) (w : World), Rep n a ρ → (results fn a.tmps).run P w = .ok (res ρ) w)
    (h : CW P n c (fun e ρ w => (e = .normal ∨ e = .ret) ∧ R (.returned (res ρ)) w) ρ w) : Calls P f args w R := by
  refine calls_of_wp hf hb ?_
  rw [hn]
  refine Go.wp_mono (h _ ⟨rfl, by simp; omega, hρ⟩) ?_
  intro e a w ⟨ρ', h1, h2, h3⟩
  rcases h2 with rfl | rfl
  · exact ⟨h1.defers, _, hres a ρ' w h1, h3⟩
  · exact ⟨h1.defers, _, hres a ρ' w h1, h3⟩
end

/-- the environment in which a function is entered -/
def args0 : List Value → Env
  | [], _ => undef
  | v :: _, 0 => v
  | _ :: l, t + 1 => args0 l t
theorem args0_getD : ∀ (l : List Value) (t k : Nat), (l ++ List.replicate k undef)[t]?.getD undef = args0 l t
  | [], t, k => by
    simp only [List.nil_append, args0, List.getElem?_replicate]
    split <;> rfl
  | v :: l, 0, k => rfl
  | v :: l, t + 1, k => by simpa [args0] using args0_getD l t k
theorem enter_get (l : List Value) (n : Nat) (t : Nat) : (l.toArray ++ Array.replicate (n - l.toArray.size) undef).getD t undef = args0 l t := by
  rw [Array.getD_eq_getD_getElem?]
  have := args0_getD l t (n - l.toArray.size)
  rw [← this]
  congr 1
  rw [← Array.getElem?_toList]
  simp
theorem enter {P : Program} {n : Nat} {f : FuncId} {fn : Func} {c : Code} {l : List Value} {w : World} {R : Ending → World → Prop} (hf : P.funcs[f]? = some fn) (hb : fn.body = some c) (hn : fn.ntmps = n) (t : Tmp) (hr : fn.results = #[.tmp t]) (hsz : l.length ≤ n)
    (h : CW P n c (fun e ρ w => (e = .normal ∨ e = .ret) ∧ R (.returned (ρ t)) w) (args0 l) w) : Calls P f l.toArray w R :=
  calls_of_CW hf hb hn (args0 l) (by simpa using hsz) (enter_get l n) (fun ρ => ρ t) (fun a ρ w ha => by rw [results_tmp hr, ha.get]) h
theorem enter2 {P : Program} {n : Nat} {f : FuncId} {fn : Func} {c : Code} {l : List Value} {w : World} {R : Ending → World → Prop} (hf : P.funcs[f]? = some fn) (hb : fn.body = some c) (hn : fn.ntmps = n) (t u : Tmp) (hr : fn.results = #[.tmp t, .tmp u]) (hsz : l.length ≤ n)
    (h : CW P n c (fun e ρ w => (e = .normal ∨ e = .ret) ∧ R (.returned (.tuple #[ρ t, ρ u])) w) (args0 l) w) : Calls P f l.toArray w R :=
  calls_of_CW hf hb hn (args0 l) (by simpa using hsz) (enter_get l n) (fun ρ => .tuple #[ρ t, ρ u]) (fun a ρ w ha => by rw [results_tmp2 hr, ha.get, ha.get]) h
theorem enter0 {P : Program} {n : Nat} {f : FuncId} {fn : Func} {c : Code} {l : List Value} {w : World} {R : Ending → World → Prop} (hf : P.funcs[f]? = some fn) (hb : fn.body = some c) (hn : fn.ntmps = n) (hr : fn.results = #[]) (hsz : l.length ≤ n)
    (h : CW P n c (fun e _ w => (e = .normal ∨ e = .ret) ∧ R (.returned (.tuple #[])) w) (args0 l) w) : Calls P f l.toArray w R :=
  calls_of_CW hf hb hn (args0 l) (by simpa using hsz) (enter_get l n) (fun _ => .tuple #[]) (fun a ρ w _ => by rw [results_none hr]) h
end Go.Proofs.Ytiffpkbkmpianaa.X
