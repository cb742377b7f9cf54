/-
  RANGES OVER MAPS: 'range', 'next', 'entry' of a map that no round changes. It speaks of no program.
-/
import Derived.Test.YtiffpkbkmpianaaMap
import Derived.Maps.RangeRun
namespace Go.Proofs.Ytiffpkbkmpianaa.X
open Go Go.RowKit
set_option linter.unusedVariables false
set_option linter.unusedSectionVars false
section
variable {κ : Type} [DecidableEq κ] {enc : κ → Value} {P : Program} {KT E T : TypeId} {z : Value}
/-- map b and its iterator r: what is left, and, behind a step, what came out -/
def MapI (enc : κ → Value) (b r : Nat) (m left : List (κ × Value)) (cur : Option (κ × Value)) : HP := fun h =>
  ∃ (x : (Array MapEntry × Nat) × (Nat × Array Nat × Nat)),
    (Ents enc x.1.1.toList m ∧ (m.map (·.1)).Nodup ∧ (x.1.1.toList.map (·.born)).Nodup ∧ (∀ e ∈ x.1.1.toList, e.born < x.1.2) ∧ (∀ e ∈ x.1.1.toList, e.born < x.2.1) ∧ x.2.1 ≤ x.2.2.2 ∧ x.2.2.2 = x.1.2 ∧
      Ents enc (leftOf x.1.1 x.2.2.1).toList left ∧ ∀ k v, cur = some (k, v) → ∃ e ∈ x.1.1.toList, e.key = enc k ∧ e.val = v ∧ ∃ s : Array Nat, x.2.2.1 = s.push e.born) ∧
    SatH [Blk b (.map x.1.1 x.1.2), Blk r (.mapIter (some b) x.2.1 x.2.2.1 x.2.2.2)] h
variable {w0 w : World} {b r : Nat} {m left : List (κ × Value)} {cur : Option (κ × Value)} {L : List HP}
theorem Sat.mapi (hs : Sat w0 w (MapI enc b r m left cur :: L)) : ∃ es clock since seen c0,
    (Ents enc es.toList m ∧ (m.map (·.1)).Nodup ∧ (es.toList.map (·.born)).Nodup ∧ (∀ e ∈ es.toList, e.born < clock) ∧ (∀ e ∈ es.toList, e.born < since) ∧ since ≤ c0 ∧ c0 = clock ∧
      Ents enc (leftOf es seen).toList left ∧ ∀ k v, cur = some (k, v) → ∃ e ∈ es.toList, e.key = enc k ∧ e.val = v ∧ ∃ s : Array Nat, seen = s.push e.born) ∧
    Sat w0 w (Blk b (.map es clock) :: Blk r (.mapIter (some b) since seen c0) :: L) := by
  obtain ⟨⟨⟨es, clock⟩, since, seen, c0⟩, h⟩ := Sat.ex (F := fun (x : (Array MapEntry × Nat) × (Nat × Array Nat × Nat)) => fun h =>
    (Ents enc x.1.1.toList m ∧ (m.map (·.1)).Nodup ∧ (x.1.1.toList.map (·.born)).Nodup ∧ (∀ e ∈ x.1.1.toList, e.born < x.1.2) ∧ (∀ e ∈ x.1.1.toList, e.born < x.2.1) ∧ x.2.1 ≤ x.2.2.2 ∧ x.2.2.2 = x.1.2 ∧
      Ents enc (leftOf x.1.1 x.2.2.1).toList left ∧ ∀ k v, cur = some (k, v) → ∃ e ∈ x.1.1.toList, e.key = enc k ∧ e.val = v ∧ ∃ s : Array Nat, x.2.2.1 = s.push e.born) ∧
    SatH [Blk b (.map x.1.1 x.1.2), Blk r (.mapIter (some b) x.2.1 x.2.2.1 x.2.2.2)] h) hs
  obtain ⟨h1, h2⟩ := h.and
  exact ⟨es, clock, since, seen, c0, h1, h2.opn⟩
theorem Sat.mapi' {es : Array MapEntry} {clock since : Nat} {seen : Array Nat} {c0 : Nat}
    (h : Ents enc es.toList m ∧ (m.map (·.1)).Nodup ∧ (es.toList.map (·.born)).Nodup ∧ (∀ e ∈ es.toList, e.born < clock) ∧ (∀ e ∈ es.toList, e.born < since) ∧ since ≤ c0 ∧ c0 = clock ∧
      Ents enc (leftOf es seen).toList left ∧ ∀ k v, cur = some (k, v) → ∃ e ∈ es.toList, e.key = enc k ∧ e.val = v ∧ ∃ s : Array Nat, seen = s.push e.born)
    (hs : Sat w0 w (Blk b (.map es clock) :: Blk r (.mapIter (some b) since seen c0) :: L)) : Sat w0 w (MapI enc b r m left cur :: L) :=
  (Sat.shut (Ls := [Blk b (.map es clock), Blk r (.mapIter (some b) since seen c0)]) hs).head fun hh hx => ⟨((es, clock), since, seen, c0), h, hx⟩
theorem Sat.mapiEnd (hs : Sat w0 w (MapI enc b r m left cur :: L)) : Sat w0 w (MapR enc b m :: L) := by
  obtain ⟨es, clock, since, seen, c0, ⟨h1, h2, h3, h4, _⟩, h⟩ := hs.mapi
  exact (Sat.mapr' h1 h2 h3 h4 (h.pull 1).tail)
theorem run_range (hT : MT P T KT E z) (hs : Sat w0 w (MapR enc b m :: L)) :
    ∃ r w', (Instr.range T (.map (some b))).run P w = .ok (.pointer (some ⟨r, 0, none⟩)) w' ∧ Sat w0 w' (MapI enc b r m m none :: L) := by
  obtain ⟨es, clock, h1, h2, h3, h4, hb⟩ := hs.mapr
  refine ⟨_, _, run_range_map w T KT E b es clock hT.map hb.blk, ?_⟩
  refine Sat.mapi' (clock := clock) (c0 := clock) ⟨h1, h2, h3, h4, h4, Nat.le_refl _, rfl, ?_, fun k v h => by cases h⟩ ((hb.alloc (.mapIter (some b) clock #[] clock)).pull 1)
  have e : leftOf es #[] = es := by unfold leftOf; simp
  rw [e]
  exact h1
theorem run_next (hs : Sat w0 w (MapI enc b r m left cur :: L)) (ty : TypeId) :
    (left = [] ∧ (Instr.next (.pointer (some ⟨r, 0, none⟩)) false ty).run P w = .ok (.tuple #[.bool false]) w) ∨
    ∃ (i : Nat) (k : κ) (v : Value) (w' : World), left[i]? = some (k, v) ∧ (Instr.next (.pointer (some ⟨r, 0, none⟩)) false ty).run P w = .ok (.tuple #[.bool true, enc k, v]) w' ∧ Sat w0 w' (MapI enc b r m (left.eraseIdx i) (some (k, v)) :: L) := by
  obtain ⟨es, clock, since, seen, c0, ⟨h1, h2, h3, h4, h5, h6, h7, h8, h9⟩, h⟩ := hs.mapi
  rcases run_next_at (P := P) w ty r b since c0 seen es clock (h.pull 1).blk h.blk h5 h6 with ⟨hz, hr⟩ | ⟨e, he, w1, hw, hr⟩
  · left
    refine ⟨?_, hr⟩
    have : (leftOf es seen).toList = [] := by rw [← List.length_eq_zero_iff]; simpa using hz
    rw [this] at h8
    cases left with
    | nil => rfl
    | cons x xs => simp [Ents] at h8
  · right
    have hes : e ∈ es.toList := by
      unfold leftOf at he
      simp at he ⊢
      exact he.1
    obtain ⟨i, hi⟩ := List.mem_iff_getElem?.1 he
    have hL : (left.map fun p => (enc p.1, p.2))[i]? = some (e.key, e.val) := by
      rw [← h8, List.getElem?_map, hi]; rfl
    rw [List.getElem?_map] at hL
    obtain ⟨⟨k, v⟩, hkv, hp⟩ := Option.map_eq_some_iff.1 hL
    simp only [Prod.mk.injEq] at hp
    obtain ⟨hk, hv⟩ := hp
    subst hv
    have hborn : ∀ {l : List MapEntry}, (l.map (·.born)).Nodup → ∀ {j : Nat}, l[j]? = some e → (l.filter fun x => !(x.born == e.born)) = l.eraseIdx j := by
      intro l
      induction l with
      | nil => intro _ j hj; simp at hj
      | cons x l ih =>
        intro hn j hj
        simp only [List.map_cons, List.nodup_cons] at hn
        cases j with
        | zero =>
          simp at hj
          subst hj
          simp only [beq_self_eq_true, Bool.not_true, Bool.false_eq_true, not_false_eq_true, List.filter_cons_of_neg, List.eraseIdx_cons_zero]
          rw [List.filter_eq_self]
          intro y hy
          have : y.born ≠ x.born := fun e => hn.1 (e ▸ List.mem_map_of_mem hy)
          simpa using this
        | succ j =>
          have hj' : l[j]? = some e := by simpa using hj
          have hx : x.born ≠ e.born := fun he => hn.1 (he ▸ List.mem_map_of_mem (List.mem_of_getElem? hj'))
          rw [List.filter_cons_of_pos (by simpa using hx), ih hn.2 hj']
          rfl
    have hleft : (leftOf es (seen.push e.born)).toList = (leftOf es seen).toList.eraseIdx i := by
      have hnd : ((leftOf es seen).toList.map (·.born)).Nodup := by
        unfold leftOf
        rw [Array.toList_filter]
        exact List.Nodup.sublist (List.Sublist.map _ List.filter_sublist) h3
      rw [← hborn hnd hi]
      unfold leftOf
      rw [Array.toList_filter, Array.toList_filter, List.filter_filter]
      congr 1
      funext x
      simp only [Array.contains_push]
      cases seen.contains x.born <;> cases h : (x.born == e.born) <;> simp_all
    refine ⟨i, k, e.val, _, hkv, by rw [hk]; exact hr, ?_⟩
    · have hw1 : Sat w0 w1 (Blk b (.map es clock) :: Blk r (.mapIter (some b) since seen c0) :: L) := by
        rcases hw with rfl | rfl
        · exact h
        · exact h.drew
      have h' := ((hw1.pull 1).setObj (.mapIter (some b) since (seen.push e.born) clock)).pull 1
      refine Sat.mapi' (c0 := clock) ⟨h1, h2, h3, h4, h5, by omega, rfl, ?_, fun k' v' hkv' => ?_⟩ h'
      · rw [hleft]
        unfold Ents at h8 ⊢
        rw [map_erase, map_erase, h8]
      · cases hkv'
        exact ⟨e, hes, hk.symm, rfl, seen, rfl⟩
theorem run_entry {k : κ} {v : Value} (hs : Sat w0 w (MapI enc b r m left (some (k, v)) :: L)) : (Instr.entry (.pointer (some ⟨r, 0, none⟩))).run P w = .ok (.tuple #[enc k, v]) w := by
  obtain ⟨es, clock, since, seen, c0, ⟨h1, h2, h3, h4, h5, h6, h7, h8, h9⟩, h⟩ := hs.mapi
  obtain ⟨e, he, hk, hv, s, rfl⟩ := h9 k v rfl
  subst h7
  rw [← hk, ← hv]
  exact run_entry_at w r b since s es _ e (h.pull 1).blk h.blk he h3
end
section
variable {P : Program} {n : Nat} {ops : Array Oper} {S : World → Prop} {K : Env → World → Prop} {rest : List (Oper × Nat × Bool)} {ρ : Env} {w w0 : World} {L : List HP}
variable {d : Nat} {ty : TypeId} {pos : String} {af : Array Edge} {need : Bool} {x : Operand} {κ : Type} [DecidableEq κ] {enc : κ → Value} {KT E T : TypeId} {z : Value} {b r : Nat} {m left : List (κ × Value)} {cur : Option (κ × Value)}
theorem x_range (hT : MT P T KT E z) (hs : Sat w0 w (MapR enc b m :: L)) (hx : ev ρ x = .map (some b))
    (h : ∀ r w', Sat w0 w' (MapI enc b r m m none :: L) → (need = true → S w') ∧ RX P n ops S K rest (upd n ρ d (.pointer (some ⟨r, 0, none⟩))) w') :
    RX P n ops S K ((⟨some d, .range T x, ty, pos, af, none⟩, 0, need) :: rest) ρ w := by
  obtain ⟨r, w', hrun, hs'⟩ := run_range (P := P) hT hs
  obtain ⟨h2, h3⟩ := h r w' hs'
  exact x_turn rfl (by simp [execOp, hx, hrun]) h2 h3
theorem x_next (hs : Sat w0 w (MapI enc b r m left cur :: L)) (hx : ev ρ x = .pointer (some ⟨r, 0, none⟩))
    (h0 : left = [] → (need = true → S w) ∧ RX P n ops S K rest (upd n ρ d (.tuple #[.bool false])) w)
    (h1 : ∀ (i : Nat) (k : κ) (v : Value) w', left[i]? = some (k, v) → Sat w0 w' (MapI enc b r m (left.eraseIdx i) (some (k, v)) :: L) → (need = true → S w') ∧ RX P n ops S K rest (upd n ρ d (.tuple #[.bool true, enc k, v])) w') :
    RX P n ops S K ((⟨some d, .next x false, ty, pos, af, none⟩, 0, need) :: rest) ρ w := by
  rcases run_next (P := P) hs ty with ⟨he, hr⟩ | ⟨i, k, v, w', hi, hr, hs'⟩
  · obtain ⟨h2, h3⟩ := h0 he
    exact x_turn rfl (by simp [execOp, hx, hr]) h2 h3
  · obtain ⟨h2, h3⟩ := h1 i k v w' hi hs'
    exact x_turn rfl (by simp [execOp, hx, hr]) h2 h3
theorem x_entry {k : κ} {v : Value} (hs : Sat w0 w (MapI enc b r m left (some (k, v)) :: L)) (hx : ev ρ x = .pointer (some ⟨r, 0, none⟩))
    (hS : need = true → S w) (h : RX P n ops S K rest (upd n ρ d (.tuple #[enc k, v])) w) :
    RX P n ops S K ((⟨some d, .entry x, ty, pos, af, none⟩, 0, need) :: rest) ρ w :=
  x_turn rfl (by simp [execOp, hx, run_entry hs]) hS h
variable {y u : Operand}
theorem x_insert (hT : MT P T KT E z) (hK : KO P KT enc) (hs : Sat w0 w (MapR enc b m :: L)) (k : κ) (v : Value) (hx : ev ρ x = .map (some b)) (hy : ev ρ y = enc k) (hu : ev ρ u = v)
    (h : ∀ w', Sat w0 w' (MapR enc b (mset k v m) :: L) → (need = true → S w') ∧ RX P n ops S K rest ρ w') :
    RX P n ops S K ((⟨none, .insert T x y u, ty, pos, af, none⟩, 0, need) :: rest) ρ w := by
  obtain ⟨w', hrun, hs'⟩ := sat_update (P := P) hT hK hs k v
  obtain ⟨h2, h3⟩ := h w' hs'
  exact x_act rfl (by simp [execOp, hx, hy, hu, hrun]) h2 h3
end
end Go.Proofs.Ytiffpkbkmpianaa.X
