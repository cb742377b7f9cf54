/-
  STRUCTS OF A STRUCT OF TWO WHOLE NUMBERS AND ONE MORE, as keys of maps; deleting while a map is ranged over; sums that may wrap.
-/
import Derived.Test.YtiffpkbkmpianaaPid
import Derived.Test.YtiffpkbkmpianaaRange
namespace Go.Proofs.Ytiffpkbkmpianaa.X
open Go Go.RowKit
set_option linter.unusedVariables false
set_option linter.unusedSectionVars false
theorem eq2_d {κ : Type} [DecidableEq κ] {P : Program} {t : TypeId} {f1 f2 : Field} {k1 k2 : IntKind} (f g : κ → Nat) (hu : P.underlying t = some (.struct #[f1, f2])) (n1 : (f1.name == "_") = false) (n2 : (f2.name == "_") = false) (o1 : f1.offset = 0) (o2 : f2.offset = 1)
    (u1 : P.underlying f1.type = some (.int k1)) (u2 : P.underlying f2.type = some (.int k2)) (a1 : One P f1.type) (a2 : One P f2.type) (hp : P.stoodInHeld t = false) (d : Nat) (w : World) (a b : κ) :
    (Op.equalIn (d + 2) t (.agg #[.int k1 (f a : Nat), .int k2 (g a : Nat)]) (.agg #[.int k1 (f b : Nat), .int k2 (g b : Nat)])).run P w = .ok (decide (f a = f b) && decide (g a = g b)) w := by
  have hf : P.fieldsOf t = #[f1, f2] := by simp [Program.fieldsOf, hu]
  have hm1 : f1.name ≠ "_" := by simpa using n1
  have hm2 : f2.name ≠ "_" := by simpa using n2
  rw [show d + 2 = (d + 1) + 1 from rfl, run_equalIn_struct w (d + 1) t _ _ (by rw [hf]; exact hu) hp, hf]
  have p1 : ∀ (x y : Value), (part f1.type #[x, y] f1.offset).run P w = .ok x w := fun x y => part_one a1 (by rw [o1]; rfl)
  have p2 : ∀ (x y : Value), (part f2.type #[x, y] f2.offset).run P w = .ok y w := fun x y => part_one a2 (by rw [o2]; rfl)
  have e1 := run_equalIn_int (P := P) w d f1.type k1 k1 (f a : Nat) (f b : Nat) u1
  have e2 := run_equalIn_int (P := P) w d f2.type k2 k2 (g a : Nat) (g b : Nat) u2
  have q1 : ((f a : Int) == (f b : Int)) = decide (f a = f b) := by by_cases h : f a = f b <;> simp [h] <;> omega
  have q2 : ((g a : Int) == (g b : Int)) = decide (g a = g b) := by by_cases h : g a = g b <;> simp [h] <;> omega
  rw [q1] at e1
  rw [q2] at e2
  generalize decide (f a = f b) = r1 at *
  generalize decide (g a = g b) = r2 at *
  clear q1 q2
  cases r1 <;> cases r2 <;> simp [Op.eqFields, hm1, hm2, p1, p2, e1, e2]
theorem part_agg {P : Program} {w : World} {t k o : Nat} {cs : Array Value} (h : Agg P t k) : (part t cs o).run P w = .ok (.agg (cs.extract o (o + k))) w := by
  simp [part, h.1, h.2]
/-- a struct of such a struct and a whole number -/
theorem eq3_of {κ : Type} [DecidableEq κ] {P : Program} {t : TypeId} {fp fn f1 f2 : Field} {k1 k2 k3 : IntKind} (f g h : κ → Nat) (hu : P.underlying t = some (.struct #[fp, fn])) (np : (fp.name == "_") = false) (nn : (fn.name == "_") = false) (op : fp.offset = 0) (on : fn.offset = 2)
    (hup : P.underlying fp.type = some (.struct #[f1, f2])) (n1 : (f1.name == "_") = false) (n2 : (f2.name == "_") = false) (o1 : f1.offset = 0) (o2 : f2.offset = 1)
    (u1 : P.underlying f1.type = some (.int k1)) (u2 : P.underlying f2.type = some (.int k2)) (u3 : P.underlying fn.type = some (.int k3)) (a1 : One P f1.type) (a2 : One P f2.type) (a3 : One P fn.type) (ap : Agg P fp.type 2) (hp : P.stoodInHeld fp.type = false) (hpt : P.stoodInHeld t = false) (hg : P.eqGuardType P.depth t = false) (inj : ∀ a b, f a = f b → g a = g b → h a = h b → a = b) :
    EQ P t fun a => .agg #[.int k1 (f a : Nat), .int k2 (g a : Nat), .int k3 (h a : Nat)] where
  agg a := ⟨_, rfl⟩
  guard := hg
  eq w a b := by
    have hf : P.fieldsOf t = #[fp, fn] := by simp [Program.fieldsOf, hu]
    have hm1 : fp.name ≠ "_" := by simpa using np
    have hm2 : fn.name ≠ "_" := by simpa using nn
    rw [show (10000 : Nat) = 9999 + 1 from rfl, run_equalIn_struct w 9999 t _ _ (by rw [hf]; exact hu) hpt, hf]
    have p1 : ∀ (x y z : Value), (part fp.type #[x, y, z] fp.offset).run P w = .ok (.agg #[x, y]) w := fun x y z => by rw [part_agg ap, op]; rfl
    have p2 : ∀ (x y z : Value), (part fn.type #[x, y, z] fn.offset).run P w = .ok z w := fun x y z => part_one a3 (by rw [on]; rfl)
    have e1 := eq2_d f g hup n1 n2 o1 o2 u1 u2 a1 a2 hp 9997 w a b
    have e2 := run_equalIn_int (P := P) w 9998 fn.type k3 k3 (h a : Nat) (h b : Nat) u3
    have q2 : ((h a : Int) == (h b : Int)) = decide (h a = h b) := by by_cases hh : h a = h b <;> simp [hh] <;> omega
    rw [q2] at e2
    have hd : decide (a = b) = ((decide (f a = f b) && decide (g a = g b)) && decide (h a = h b)) := by
      by_cases hh : a = b
      · subst hh; simp
      · rw [decide_eq_false hh]
        by_cases h1 : f a = f b
        · by_cases h2 : g a = g b
          · have h3 : h a ≠ h b := fun h3 => hh (inj a b h1 h2 h3)
            simp [h3]
          · simp [h2]
        · simp [h1]
    rw [hd]
    generalize (decide (f a = f b) && decide (g a = g b)) = r1 at *
    generalize decide (h a = h b) = r2 at *
    clear hd q2
    cases r1 <;> cases r2 <;> simp [Op.eqFields, hm1, hm2, p1, p2, e1, e2]
theorem chk2_d {P : Program} {t : TypeId} {f1 f2 : Field} {k1 k2 : IntKind} (hu : P.underlying t = some (.struct #[f1, f2])) (o1 : f1.offset = 0) (o2 : f2.offset = 1) (n1 : (f1.name == "_") = false) (n2 : (f2.name == "_") = false)
    (u1 : P.underlying f1.type = some (.int k1)) (u2 : P.underlying f2.type = some (.int k2)) (a1 : One P f1.type) (a2 : One P f2.type) (w : World) (b : Bool) (d : Nat) (x y : Int) : (Instr.checkKey b (d + 2) t (.agg #[.int k1 x, .int k2 y])).run P w = .ok () w := by
  have hm1 : f1.name ≠ "_" := by simpa using n1
  have hm2 : f2.name ≠ "_" := by simpa using n2
  have p1 : ∀ (x y : Value), (part f1.type #[x, y] f1.offset).run P w = .ok x w := fun x y => part_one a1 (by rw [o1]; rfl)
  have p2 : ∀ (x y : Value), (part f2.type #[x, y] f2.offset).run P w = .ok y w := fun x y => part_one a2 (by rw [o2]; rfl)
  have c1 := chk_int u1 w b d x
  have c2 := chk_int u2 w b d y
  rw [show d + 2 = (d + 1) + 1 from rfl, Instr.checkKey]
  simp [run_underlying hu, hm1, hm2, p1, p2, c1, c2]
theorem ko3_of {κ : Type} [DecidableEq κ] {P : Program} {t : TypeId} {fp fn f1 f2 : Field} {k1 k2 k3 : IntKind} (f g h : κ → Nat) (hu : P.underlying t = some (.struct #[fp, fn])) (np : (fp.name == "_") = false) (nn : (fn.name == "_") = false) (op : fp.offset = 0) (on : fn.offset = 2)
    (hup : P.underlying fp.type = some (.struct #[f1, f2])) (n1 : (f1.name == "_") = false) (n2 : (f2.name == "_") = false) (o1 : f1.offset = 0) (o2 : f2.offset = 1)
    (u1 : P.underlying f1.type = some (.int k1)) (u2 : P.underlying f2.type = some (.int k2)) (u3 : P.underlying fn.type = some (.int k3)) (a1 : One P f1.type) (a2 : One P f2.type) (a3 : One P fn.type) (ap : Agg P fp.type 2)
    (he : EQ P t fun a => .agg #[.int k1 (f a : Nat), .int k2 (g a : Nat), .int k3 (h a : Nat)]) : KO P t fun a : κ => .agg #[.int k1 (f a : Nat), .int k2 (g a : Nat), .int k3 (h a : Nat)] :=
  ko_of he hu (fun w b k => by
    have hm1 : fp.name ≠ "_" := by simpa using np
    have hm2 : fn.name ≠ "_" := by simpa using nn
    have p1 : ∀ (x y z : Value), (part fp.type #[x, y, z] fp.offset).run P w = .ok (.agg #[x, y]) w := fun x y z => by rw [part_agg ap, op]; rfl
    have p2 : ∀ (x y z : Value), (part fn.type #[x, y, z] fn.offset).run P w = .ok z w := fun x y z => part_one a3 (by rw [on]; rfl)
    have c1 := chk2_d hup o1 o2 n1 n2 u1 u2 a1 a2 w b 9997 (f k : Nat) (g k : Nat)
    have c2 := chk_int u3 w b 9998 (h k)
    rw [show (10000 : Nat) = 9999 + 1 from rfl, Instr.checkKey]
    simp [run_underlying hu, hm1, hm2, p1, p2, c1, c2]) fun k => by
    have key : ∀ d, Instr.sameBits (d + 2) (.agg #[.int k1 (f k : Nat), .int k2 (g k : Nat), .int k3 (h k : Nat)]) (.agg #[.int k1 (f k : Nat), .int k2 (g k : Nat), .int k3 (h k : Nat)]) = true := fun d => by simp [Instr.sameBits]
    exact key 9998
/-! ### deleting while ranging -/
section
variable {κ : Type} [DecidableEq κ] {enc : κ → Value} {P : Program} {KT E T : TypeId} {z : Value}
variable {w0 w : World} {b r : Nat} {m left : List (κ × Value)} {cur : Option (κ × Value)} {L : List HP}
theorem filter_erase {α : Type} (f : α → Bool) : ∀ (l : List α) (i : Nat) (a : α), l[i]? = some a → f a = false → (l.eraseIdx i).filter f = l.filter f
  | [], i, a, h, _ => by simp at h
  | x :: l, 0, a, h, hf => by simp at h; subst h; simp [hf]
  | x :: l, i + 1, a, h, hf => by
    have := filter_erase f l i a (by simpa using h) hf
    rw [List.eraseIdx_cons_succ, List.filter_cons, List.filter_cons, this]
theorem sat_deleteI (hT : MT P T KT E z) (hK : KO P KT enc) (hinj : ∀ a b, enc a = enc b → a = b) (hs : Sat w0 w (MapI enc b r m left cur :: L)) (k : κ) (hk : ∀ p ∈ left, p.1 ≠ k) (kt ty : TypeId) :
    ∃ w', (Builtin.delete_ #[T, kt] ty #[.map (some b), enc k]).run P w = .ok (.tuple #[]) w' ∧ Sat w0 w' (MapI enc b r (mdel k m) left none :: L) := by
  obtain ⟨es, clock, since, seen, c0, ⟨h1, h2, h3, h4, h5, h6, h7, h8, h9⟩, hb⟩ := hs.mapi
  have hf := hK.find w k es.toList m h1
  have hc := hK.chk w es.isEmpty k
  have hg : (getObj b).run P w = .ok (.map es clock) w := by simp [getObj, Sem.run, hb.blk]
  have hset : ∀ o, (setObj b o).run P w = .ok () { w with heap := w.heap.setIfInBounds b o } := fun o => by simp [setObj, Sem.run, hb.blk]
  have hlen : es.toList.length = m.length := by simpa using congrArg List.length h1
  cases hp : fpos k m 0 with
  | none =>
    rw [hp] at hf
    obtain ⟨_, _, e⟩ := fpos_none hp
    refine ⟨_, by simp [Builtin.delete_, run_underlying hT.map, hg, hc, hf, hset]; rfl, ?_⟩
    rw [e]
    exact Sat.mapi' ⟨h1, h2, h3, h4, h5, h6, h7, h8, fun k v h => by cases h⟩ (hb.setObj _)
  | some x =>
    obtain ⟨i, v0⟩ := x
    rw [hp] at hf
    obtain ⟨_, hi, _, _, e⟩ := fpos_some hp
    rw [Nat.sub_zero] at hi e
    have hil : i < es.size := by
      have := (List.getElem?_eq_some_iff.1 hi).1
      rw [← hlen] at this
      simpa using this
    have htl : (es.eraseIdxIfInBounds i).toList = es.toList.eraseIdx i := by simp [Array.eraseIdxIfInBounds, hil]
    have hkey : (es[i]'hil).key = enc k := by
      have := congrArg (fun l => l[i]?) h1
      simp only [List.getElem?_map, hi, Option.map_some, Array.getElem?_toList, Array.getElem?_eq_getElem hil, Option.some.injEq, Prod.mk.injEq] at this
      exact this.1
    have hseen : (fun e : MapEntry => !seen.contains e.born) es[i] = false := by
      cases hsn : seen.contains es[i].born with
      | true => show (!seen.contains es[i].born) = false; rw [hsn]; rfl
      | false =>
        have hm : es[i] ∈ (leftOf es seen).toList := by
          unfold leftOf
          simp only [Array.toList_filter, List.mem_filter]
          exact ⟨Array.getElem_mem_toList hil, by simp only [hsn]; rfl⟩
        have hm2 : (es[i].key, es[i].val) ∈ (leftOf es seen).toList.map fun e => (e.key, e.val) := List.mem_map_of_mem (f := fun e : MapEntry => (e.key, e.val)) hm
        unfold Ents at h8
        rw [h8] at hm2
        obtain ⟨q, hq, he⟩ := List.mem_map.1 hm2
        simp only [Prod.mk.injEq] at he
        exact absurd (hinj _ _ (he.1.trans hkey)) (hk q hq)
    have hleft : (leftOf (es.eraseIdxIfInBounds i) seen).toList = (leftOf es seen).toList := by
      unfold leftOf
      rw [Array.toList_filter, Array.toList_filter, htl]
      exact filter_erase _ _ _ _ (by simp [hil]) hseen
    refine ⟨_, by simp [Builtin.delete_, run_underlying hT.map, hg, hc, hf, hset]; rfl, ?_⟩
    refine Sat.mapi' ⟨?_, (mdel_keys h2).1, ?_, ?_, ?_, h6, h7, ?_, fun k v h => by cases h⟩ (hb.setObj _)
    · rw [e, htl]
      simp only [Ents]
      rw [map_erase, map_erase]
      rw [h1]
    · rw [htl, map_erase]
      exact h3.sublist (List.eraseIdx_sublist _ _)
    · intro x hx
      rw [htl] at hx
      exact h4 x (List.mem_of_mem_eraseIdx hx)
    · intro x hx
      rw [htl] at hx
      exact h5 x (List.mem_of_mem_eraseIdx hx)
    · rw [hleft]
      exact h8
end
section
variable {κ : Type} [DecidableEq κ] {enc : κ → Value} {P : Program} {KT E T : TypeId} {z : Value}
variable {n : Nat} {ops : Array Oper} {S : World → Prop} {K : Env → World → Prop} {rest : List (Oper × Nat × Bool)} {ρ : Env} {w w0 : World} {L : List HP}
variable {d : Nat} {ty : TypeId} {pos : String} {af : Array Edge} {held : Nat} {need : Bool} {x y u : Operand} {b r : Nat} {m left : List (κ × Value)} {cur : Option (κ × Value)}
theorem x_deleteI {kt : TypeId} (hT : MT P T KT E z) (hK : KO P KT enc) (hinj : ∀ a b, enc a = enc b → a = b) (hs : Sat w0 w (MapI enc b r m left cur :: L)) (k : κ) (hk : ∀ p ∈ left, p.1 ≠ k) (hx : ev ρ x = .map (some b)) (hy : ev ρ y = enc k)
    (h : ∀ w', Sat w0 w' (MapI enc b r (mdel k m) left none :: L) → (need = true → S w') ∧ RX P n ops S K rest ρ w') :
    RX P n ops S K ((⟨none, .call { callee := .builtin .delete, args := #[x, y], argTypes := #[T, kt] }, ty, pos, af, none⟩, 0, need) :: rest) ρ w := by
  obtain ⟨w', hrun, hs'⟩ := sat_deleteI hT hK hinj hs k hk kt ty
  obtain ⟨h2, h3⟩ := h w' hs'
  exact x_turn (o := ⟨none, .call { callee := .builtin .delete, args := #[x, y], argTypes := #[T, kt] }, ty, pos, af, none⟩) (v := .tuple #[]) rfl (by simp [execOp, resolve, invoke, builtin, hx, hy, hrun]) h2 h3
/-- a sum of numbers of 64 bits that may wrap -/
theorem wrap64 (a : Nat) : IntKind.u64.wrap (a : Int) = ((a % 18446744073709551616 : Nat) : Int) := by
  simp only [IntKind.wrap, IntKind.bits, IntKind.signed]
  simp
theorem x_add64 {xt yt : TypeId} (a c : Nat) (hx : ev ρ x = .int .u64 (a : Nat)) (hy : ev ρ y = .int .u64 (c : Nat)) (h : RX P n ops S K rest (upd n ρ d (.int .u64 (((a + c) % 18446744073709551616 : Nat) : Int))) w) (hn : (Nat.blt held 3 && (Nat.blt 0 held || !need)) = true := by rfl) :
    RX P n ops S K ((⟨some d, .binOp .add xt x y yt, ty, pos, af, none⟩, held, need) :: rest) ρ w :=
  x_addW a c hx hy (by rw [show (a : Int) + (c : Int) = ((a + c : Nat) : Int) from by omega, wrap64]; exact h) hn
/-- the remainder of numbers that aren't below 0 -/
theorem x_remN {xt yt : TypeId} {k : IntKind} (a c : Nat) {a' : Int} (ha : a' = (a : Int)) (hx : ev ρ x = .int k a') (hy : ev ρ y = .int k (c : Nat)) (hc : 0 < c) (h : RX P n ops S K rest (upd n ρ d (.int k ((a % c : Nat) : Int))) w) (hn : (Nat.blt held 3 && (Nat.blt 0 held || !need)) = true := by rfl) :
    RX P n ops S K ((⟨some d, .binOp .rem xt x y yt, ty, pos, af, none⟩, held, need) :: rest) ρ w :=
  x_pure rfl hn (run_binInt .rem k k a' c _ hx hy (fun w => by
    have e : (a' : Int).tmod (c : Int) = ((a % c : Nat) : Int) := by
      rw [ha, Int.tmod_eq_emod_of_nonneg (by omega)]
      rfl
    have hne : ¬ c = 0 := by omega
    simp [binOp, Op.intDiv, hne, e])) h
end
end Go.Proofs.Ytiffpkbkmpianaa.X
