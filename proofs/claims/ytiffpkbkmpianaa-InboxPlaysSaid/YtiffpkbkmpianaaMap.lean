/-
  MAPS AS RESOURCES: a map's block told by a list of keys and values; look-up, store, delete, len, make. It speaks of no program.
-/
import Derived.Test.YtiffpkbkmpianaaMore
namespace Go.Proofs.Ytiffpkbkmpianaa.X
open Go Go.RowKit
set_option linter.unusedVariables false
set_option linter.unusedSectionVars false
section
variable {κ β : Type} [DecidableEq κ]
def fpos (k : κ) : List (κ × Value) → Nat → Option (Nat × Value)
  | [], _ => none
  | (a, v) :: m, i => if k = a then some (i, v) else fpos k m (i + 1)
def mget (k : κ) : List (κ × β) → Option β
  | [] => none
  | (a, v) :: m => if k = a then some v else mget k m
def mset (k : κ) (v : β) : List (κ × β) → List (κ × β)
  | [] => [(k, v)]
  | (a, x) :: m => if k = a then (a, v) :: m else (a, x) :: mset k v m
def mdel (k : κ) : List (κ × β) → List (κ × β)
  | [] => []
  | (a, x) :: m => if k = a then m else (a, x) :: mdel k m
theorem fpos_none {k : κ} : ∀ {m : List (κ × Value)} {i : Nat}, fpos k m i = none → mget k m = none ∧ (∀ v, mset k v m = m ++ [(k, v)]) ∧ mdel k m = m
  | [], _, _ => ⟨rfl, fun _ => rfl, rfl⟩
  | (a, x) :: m, i, h => by
    simp only [fpos] at h
    split at h
    · cases h
    · rename_i hne
      obtain ⟨h1, h2, h3⟩ := fpos_none h
      simp [mget, mset, mdel, hne, h1, h2, h3]
theorem fpos_some {k : κ} : ∀ {m : List (κ × Value)} {i j : Nat} {x : Value}, fpos k m i = some (j, x) → i ≤ j ∧ m[j - i]? = some (k, x) ∧ mget k m = some x ∧ (∀ v, mset k v m = m.set (j - i) (k, v)) ∧ mdel k m = m.eraseIdx (j - i)
  | [], _, _, _, h => by cases h
  | (a, y) :: m, i, j, x, h => by
    simp only [fpos] at h
    split at h
    · rename_i he
      subst he
      simp only [Option.some.injEq, Prod.mk.injEq] at h
      obtain ⟨rfl, rfl⟩ := h
      simp [mget, mset, mdel]
    · rename_i hne
      obtain ⟨h1, h2, h3, h4, h5⟩ := fpos_some h
      have e : j - i = (j - (i + 1)) + 1 := by omega
      refine ⟨by omega, ?_, ?_, fun v => ?_, ?_⟩
      · rw [e]; simpa using h2
      · simp [mget, hne, h3]
      · rw [e]; simp [mset, hne, h4]
      · rw [e]; simp [mdel, hne, h5]
theorem mget_mem {k : κ} : ∀ {m : List (κ × β)} {v : β}, mget k m = some v → (k, v) ∈ m
  | [], _, h => by cases h
  | (a, x) :: m, v, h => by
    simp only [mget] at h
    split at h
    · rename_i he; subst he; cases h; exact List.mem_cons_self
    · exact List.mem_cons_of_mem _ (mget_mem h)
theorem mget_none {k : κ} : ∀ {m : List (κ × β)}, mget k m = none ↔ k ∉ m.map (·.1)
  | [] => by simp [mget]
  | (a, x) :: m => by
    simp only [mget]
    split
    · rename_i he; subst he; simp
    · rename_i hne
      rw [mget_none]
      simp [hne]
theorem modify_set {α : Type} (f : α → α) : ∀ (l : List α) (i : Nat) (a : α), l[i]? = some a → l.modify i f = l.set i (f a)
  | [], i, a, h => by simp at h
  | x :: l, 0, a, h => by simp at h; subst h; rfl
  | x :: l, i + 1, a, h => by
    have := modify_set f l i a (by simpa using h)
    simp [this]
theorem map_set_same {α β : Type} (f : α → β) : ∀ (l : List α) (i : Nat) (a b : α), l[i]? = some a → f b = f a → (l.set i b).map f = l.map f
  | [], i, a, b, h, _ => by simp at h
  | x :: l, 0, a, b, h, e => by simp at h; subst h; simp [e]
  | x :: l, i + 1, a, b, h, e => by simp [map_set_same f l i a b (by simpa using h) e]
theorem map_erase {α β : Type} (f : α → β) : ∀ (l : List α) (i : Nat), (l.eraseIdx i).map f = (l.map f).eraseIdx i
  | [], _ => rfl
  | _ :: _, 0 => rfl
  | x :: l, i + 1 => by simp [map_erase f l i]
theorem mget_map {γ : Type} (f : β → γ) (k : κ) : ∀ m : List (κ × β), mget k (m.map fun p => (p.1, f p.2)) = (mget k m).map f
  | [] => rfl
  | (a, x) :: m => by
    simp only [List.map_cons, mget]
    split
    · rfl
    · exact mget_map f k m
theorem mdel_map {γ : Type} (f : β → γ) (k : κ) : ∀ m : List (κ × β), mdel k (m.map fun p => (p.1, f p.2)) = (mdel k m).map fun p => (p.1, f p.2)
  | [] => rfl
  | (a, x) :: m => by
    simp only [List.map_cons, mdel]
    split
    · rfl
    · simp [mdel_map f k m]
theorem mset_map {γ : Type} (f : β → γ) (k : κ) (v : β) : ∀ m : List (κ × β), mset k (f v) (m.map fun p => (p.1, f p.2)) = (mset k v m).map fun p => (p.1, f p.2)
  | [] => rfl
  | (a, x) :: m => by
    simp only [List.map_cons, mset]
    split
    · rfl
    · simp [mset_map f k v m]
theorem mset_new {k : κ} {v : β} : ∀ {m : List (κ × β)}, mget k m = none → mset k v m = m ++ [(k, v)]
  | [], _ => rfl
  | (a, x) :: m, h => by
    simp only [mget] at h
    split at h
    · cases h
    · rename_i hne
      simp [mset, hne, mset_new h]
theorem mdel_len {k : κ} : ∀ {m : List (κ × β)} {v : β}, mget k m = some v → (mdel k m).length + 1 = m.length
  | [], _, h => by cases h
  | (a, x) :: m, v, h => by
    simp only [mget] at h
    simp only [mdel]
    split
    · simp
    · rename_i hne
      rw [if_neg hne] at h
      simp [mdel_len h]
/-- the entries of a map, told -/
def Ents (enc : κ → Value) (es : List MapEntry) (m : List (κ × Value)) : Prop := es.map (fun e => (e.key, e.val)) = m.map fun p => (enc p.1, p.2)
/-- a type of keys that is told by κ -/
structure KO (P : Program) (K : TypeId) (enc : κ → Value) : Prop where
  chk : ∀ (w : World) (b : Bool) (k : κ), (Instr.checkKey b 10000 K (enc k)).run P w = .ok () w
  find : ∀ (w : World) (k : κ) (es : List MapEntry) (m : List (κ × Value)), Ents enc es m → (Instr.findKey K (enc k) es).run P w = .ok (fpos k m 0) w
  same : ∀ k, Instr.sameBits 10000 (enc k) (enc k) = true
end

/-- numbers as keys -/
def ik (k : IntKind) (n : Nat) : Value := .int k (n : Int)
theorem findNow_int {k : IntKind} (a : Nat) : ∀ (es : List MapEntry) (m : List (Nat × Value)) (i : Nat), Ents (ik k) es m → Instr.findNow (.int k) (ik k a) es i = some (fpos a m i)
  | [], [], _, _ => rfl
  | [], _ :: _, _, h => by simp [Ents] at h
  | _ :: _, [], _, h => by simp [Ents] at h
  | e :: es, (b, v) :: m, i, h => by
    simp only [Ents, List.map_cons, List.cons.injEq, Prod.mk.injEq] at h
    obtain ⟨⟨h1, h2⟩, h3⟩ := h
    simp only [Instr.findNow, h1, ik, Instr.sameNow, if_true, fpos]
    by_cases hab : a = b
    · subst hab
      simp [h2]
    · have : ((a : Int) == (b : Int)) = false := by
        rw [beq_eq_false_iff_ne]; omega
      simp only [this, if_neg hab]
      exact findNow_int a es m (i + 1) h3
theorem ko_int {P : Program} {K : TypeId} {k : IntKind} (hu : P.underlying K = some (.int k)) : KO P K (ik k) where
  chk w b n := by
    have key : ∀ d, (Instr.checkKey b (d + 1) K (ik k n)).run P w = .ok () w := fun d => by simp [Instr.checkKey, run_underlying hu, ik]
    exact key 9999
  find w a es m h := by
    have := findNow_int a es m 0 h
    simp [Instr.findKey, run_underlying hu, this]
  same n := by
    have key : ∀ d, Instr.sameBits (d + 1) (ik k n) (ik k n) = true := fun d => by simp [ik, Instr.sameBits]
    exact key 9999

section
variable {κ β : Type} [DecidableEq κ] {enc : κ → Value} {P : Program} {K E T : TypeId}
/-- block b is a map -/
def MapR (enc : κ → Value) (b : Nat) (m : List (κ × Value)) : HP := fun h =>
  ∃ es clock, (Ents enc es.toList m ∧ (m.map (·.1)).Nodup ∧ (es.toList.map (·.born)).Nodup ∧ ∀ e ∈ es.toList, e.born < clock) ∧ Blk b (.map es clock) h
theorem Sat.mapr {w0 w : World} {b : Nat} {m : List (κ × Value)} {L : List HP} (hs : Sat w0 w (MapR enc b m :: L)) :
    ∃ es clock, Ents enc es.toList m ∧ (m.map (·.1)).Nodup ∧ (es.toList.map (·.born)).Nodup ∧ (∀ e ∈ es.toList, e.born < clock) ∧ Sat w0 w (Blk b (.map es clock) :: L) := by
  obtain ⟨a, b', c, d, p, q, hd, ⟨es, clock, ⟨h1, h2, h3, h4⟩, hb⟩, hL⟩ := hs
  exact ⟨es, clock, h1, h2, h3, h4, a, b', c, d, p, q, hd, hb, hL⟩
theorem Sat.mapr' {w0 w : World} {b : Nat} {m : List (κ × Value)} {L : List HP} {es : Array MapEntry} {clock : Nat} (h1 : Ents enc es.toList m) (h2 : (m.map (·.1)).Nodup) (h3 : (es.toList.map (·.born)).Nodup) (h4 : ∀ e ∈ es.toList, e.born < clock)
    (hs : Sat w0 w (Blk b (.map es clock) :: L)) : Sat w0 w (MapR enc b m :: L) := hs.head fun h hb => ⟨es, clock, ⟨h1, h2, h3, h4⟩, hb⟩
theorem mset_keys {k : κ} {v : β} : ∀ {m : List (κ × β)}, (m.map (·.1)).Nodup → ((mset k v m).map (·.1)).Nodup ∧ ∀ a, a ∈ (mset k v m).map (·.1) ↔ a = k ∨ a ∈ m.map (·.1)
  | [], _ => ⟨by simp [mset], fun a => by simp [mset]⟩
  | (a, x) :: m, h => by
    simp only [List.map_cons, List.nodup_cons] at h
    obtain ⟨h1, h2⟩ := h
    obtain ⟨h3, h4⟩ := mset_keys (k := k) (v := v) h2
    simp only [mset]
    split
    · rename_i he; subst he
      exact ⟨by simp only [List.map_cons, List.nodup_cons]; exact ⟨h1, h2⟩, fun b => by simp⟩
    · rename_i hne
      refine ⟨?_, fun b => ?_⟩
      · simp only [List.map_cons, List.nodup_cons]
        exact ⟨fun hm => by rcases (h4 a).1 hm with e | e; exact hne e.symm; exact h1 e, h3⟩
      · simp only [List.map_cons, List.mem_cons, h4]
        constructor
        · rintro (e | e | e)
          · exact .inr (.inl e)
          · exact .inl e
          · exact .inr (.inr e)
        · rintro (e | e | e)
          · exact .inr (.inl e)
          · exact .inl e
          · exact .inr (.inr e)
theorem mdel_keys {k : κ} : ∀ {m : List (κ × β)}, (m.map (·.1)).Nodup → ((mdel k m).map (·.1)).Nodup ∧ ∀ a, a ∈ (mdel k m).map (·.1) ↔ a ≠ k ∧ a ∈ m.map (·.1)
  | [], _ => ⟨by simp [mdel], fun a => by simp [mdel]⟩
  | (a, x) :: m, h => by
    simp only [List.map_cons, List.nodup_cons] at h
    obtain ⟨h1, h2⟩ := h
    obtain ⟨h3, h4⟩ := mdel_keys (k := k) h2
    simp only [mdel]
    split
    · rename_i he; subst he
      exact ⟨h2, fun b => ⟨fun hb => ⟨fun e => h1 (e ▸ hb), List.mem_cons_of_mem _ hb⟩, fun ⟨h5, h6⟩ => by
        rcases List.mem_cons.1 h6 with e | e
        · exact absurd e h5
        · exact e⟩⟩
    · rename_i hne
      refine ⟨?_, fun b => ?_⟩
      · simp only [List.map_cons, List.nodup_cons]
        exact ⟨fun hm => h1 ((h4 a).1 hm).2, h3⟩
      · simp only [List.map_cons, List.mem_cons, h4]
        constructor
        · rintro (e | ⟨e1, e2⟩)
          · exact ⟨fun e2 => hne (e2.symm.trans e), .inl e⟩
          · exact ⟨e1, .inr e2⟩
        · rintro ⟨e1, e | e⟩
          · exact .inl e
          · exact .inr ⟨e1, e⟩

/-- a map's type, with its element's zero -/
structure MT (P : Program) (T K E : TypeId) (z : Value) : Prop where
  map : P.underlying T = some (.map K E)
  zero : (P.info? E).map (·.zero) = some (some z)
theorem MT.run_zero {z : Value} (h : MT P T K E z) (w : World) : (zeroValue E).run P w = .ok z w := by
  obtain ⟨i, hi, e⟩ := Option.map_eq_some_iff.1 h.zero
  simp [zeroValue, typeInfo, hi, e]
theorem run_lookup {z : Value} (hT : MT P T K E z) (hK : KO P K enc) {w0 w : World} {b : Nat} {m : List (κ × Value)} {L : List HP} (hs : Sat w0 w (MapR enc b m :: L)) (k : κ) (ok : Bool) :
    (Instr.lookup T (.map (some b)) (enc k) ok).run P w = .ok (if ok then .tuple #[(mget k m).getD z, .bool (mget k m).isSome] else (mget k m).getD z) w := by
  obtain ⟨es, clock, h1, h2, h3, h4, hb⟩ := hs.mapr
  have hf := hK.find w k es.toList m h1
  have hc := hK.chk w es.isEmpty k
  have hz := hT.run_zero w
  have hg : (getObj b).run P w = .ok (.map es clock) w := by simp [getObj, Sem.run, hb.blk]
  cases hp : fpos k m 0 with
  | none =>
    rw [hp] at hf
    obtain ⟨e, _, _⟩ := fpos_none hp
    cases ok <;> simp [Instr.lookup, run_underlying hT.map, hg, hc, hf, hz, e]
  | some x =>
    obtain ⟨i, v⟩ := x
    rw [hp] at hf
    obtain ⟨_, _, e, _, _⟩ := fpos_some hp
    cases ok <;> simp [Instr.lookup, run_underlying hT.map, hg, hc, hf, e]
theorem run_mapLen {z : Value} (hT : MT P T K E z) {w0 w : World} {b : Nat} {m : List (κ × Value)} {L : List HP} (hs : Sat w0 w (MapR enc b m :: L)) (ty : TypeId) :
    (Builtin.len_ #[T] ty #[.map (some b)]).run P w = .ok (.int .i64 m.length) w := by
  obtain ⟨es, clock, h1, h2, h3, h4, hb⟩ := hs.mapr
  have hg : (getObj b).run P w = .ok (.map es clock) w := by simp [getObj, Sem.run, hb.blk]
  have hl : es.size = m.length := by
    have := congrArg List.length h1
    simpa using this
  simp [Builtin.len_, run_underlying hT.map, hg, goInt, hl]
theorem sat_update {z : Value} (hT : MT P T K E z) (hK : KO P K enc) {w0 w : World} {b : Nat} {m : List (κ × Value)} {L : List HP} (hs : Sat w0 w (MapR enc b m :: L)) (k : κ) (v : Value) :
    ∃ w', (Instr.mapUpdate T (.map (some b)) (enc k) v).run P w = .ok () w' ∧ Sat w0 w' (MapR enc b (mset k v m) :: L) := by
  obtain ⟨es, clock, h1, h2, h3, h4, hb⟩ := hs.mapr
  have hf := hK.find w k es.toList m h1
  have hc := hK.chk w false k
  have hg : (getObj b).run P w = .ok (.map es clock) w := by simp [getObj, Sem.run, hb.blk]
  have hset : ∀ o, (setObj b o).run P w = .ok () { w with heap := w.heap.setIfInBounds b o } := fun o => by simp [setObj, Sem.run, hb.blk]
  have hlen : es.toList.length = m.length := by simpa using congrArg List.length h1
  cases hp : fpos k m 0 with
  | none =>
    rw [hp] at hf
    obtain ⟨_, e, _⟩ := fpos_none hp
    refine ⟨_, by simp [Instr.mapUpdate, run_underlying hT.map, hg, hc, hf, hset]; rfl, ?_⟩
    refine (hb.setObj _).mapr' ?_ (mset_keys h2).1 ?_ ?_
    · rw [e v]
      simp only [Ents, Array.toList_push, List.map_append, List.map_cons, List.map_nil]
      rw [h1]
    · rw [Array.toList_push, List.map_append, List.nodup_append]
      refine ⟨h3, by simp, fun a ha c hc => ?_⟩
      obtain ⟨x, hx, rfl⟩ := List.mem_map.1 ha
      have := h4 x hx
      simp at hc
      omega
    · intro x hx
      rw [Array.toList_push, List.mem_append] at hx
      rcases hx with hx | hx
      · have := h4 x hx; omega
      · simp at hx; subst hx; simp
  | some x =>
    obtain ⟨i, v0⟩ := x
    rw [hp] at hf
    obtain ⟨_, hi, _, e, _⟩ := fpos_some hp
    rw [Nat.sub_zero] at hi
    have hil : i < es.size := by
      have := (List.getElem?_eq_some_iff.1 hi).1
      rw [← hlen] at this
      simpa using this
    have hkey : (es[i]'hil).key = enc k := by
      have := congrArg (fun l => l[i]?) h1
      simp only [List.getElem?_map, hi, Option.map_some, Array.getElem?_toList, Array.getElem?_eq_getElem hil, Option.some.injEq, Prod.mk.injEq] at this
      exact this.1
    have hsame := hK.same k
    refine ⟨_, by simp [Instr.mapUpdate, run_underlying hT.map, hg, hc, hf, hset, Instr.keyThatStays, hil, hkey, hsame]; rfl, ?_⟩
    have hget : es.toList[i]? = some es[i] := by simp [hil]
    have htl : (es.modify i fun e => { e with key := enc k, val := v }).toList = es.toList.set i { es[i] with key := enc k, val := v } := by
      rw [Array.toList_modify]; exact modify_set _ _ _ _ hget
    refine (hb.setObj _).mapr' ?_ (mset_keys h2).1 ?_ ?_
    · rw [e v]
      simp only [Ents, htl, List.map_set, Nat.sub_zero]
      rw [h1]
    · rw [htl]
      have hm := map_set_same (·.born) es.toList i es[i] { key := enc k, val := v, born := es[i].born } hget rfl
      exact hm ▸ h3
    · intro x hx
      rw [htl] at hx
      rcases List.mem_or_eq_of_mem_set hx with hx | hx
      · exact h4 x hx
      · subst hx
        exact h4 es[i] (Array.getElem_mem_toList hil)
theorem sat_delete {z : Value} (hT : MT P T K E z) (hK : KO P K enc) {w0 w : World} {b : Nat} {m : List (κ × Value)} {L : List HP} (hs : Sat w0 w (MapR enc b m :: L)) (k : κ) (kt ty : TypeId) :
    ∃ w', (Builtin.delete_ #[T, kt] ty #[.map (some b), enc k]).run P w = .ok (.tuple #[]) w' ∧ Sat w0 w' (MapR enc b (mdel k m) :: L) := by
  obtain ⟨es, clock, h1, h2, h3, h4, hb⟩ := hs.mapr
  have hf := hK.find w k es.toList m h1
  have hc := hK.chk w es.isEmpty k
  have hg : (getObj b).run P w = .ok (.map es clock) w := by simp [getObj, Sem.run, hb.blk]
  have hset : ∀ o, (setObj b o).run P w = .ok () { w with heap := w.heap.setIfInBounds b o } := fun o => by simp [setObj, Sem.run, hb.blk]
  have hlen : es.toList.length = m.length := by simpa using congrArg List.length h1
  cases hp : fpos k m 0 with
  | none =>
    rw [hp] at hf
    obtain ⟨_, _, e⟩ := fpos_none hp
    refine ⟨_, by simp [Builtin.delete_, run_underlying hT.map, hg, hc, hf, hset]; rfl, ?_⟩
    rw [e]
    exact (hb.setObj _).mapr' h1 h2 h3 h4
  | some x =>
    obtain ⟨i, v0⟩ := x
    rw [hp] at hf
    obtain ⟨_, hi, _, _, e⟩ := fpos_some hp
    rw [Nat.sub_zero] at hi e
    have hil : i < es.size := by
      have := (List.getElem?_eq_some_iff.1 hi).1
      rw [← hlen] at this
      simpa using this
    have htl : (es.eraseIdxIfInBounds i).toList = es.toList.eraseIdx i := by simp [Array.eraseIdxIfInBounds, hil]
    refine ⟨_, by simp [Builtin.delete_, run_underlying hT.map, hg, hc, hf, hset]; rfl, ?_⟩
    refine (hb.setObj _).mapr' ?_ (mdel_keys h2).1 ?_ ?_
    · rw [e, htl]
      simp only [Ents]
      rw [map_erase, map_erase]
      rw [h1]
    · rw [htl, map_erase]
      exact h3.sublist (List.eraseIdx_sublist _ _)
    · intro x hx
      rw [htl] at hx
      exact h4 x (List.mem_of_mem_eraseIdx hx)
theorem Sat.mapNew {w0 w : World} {b : Nat} {L : List HP} (hs : Sat w0 w (Blk b (.map #[] 0) :: L)) : Sat w0 w (MapR enc b ([] : List (κ × Value)) :: L) :=
  hs.mapr' (by simp [Ents]) (by simp) (by simp) (by simp)
end

section
variable {κ : Type} [DecidableEq κ] {enc : κ → Value} {P : Program} {KT E T : TypeId} {z : Value}
variable {n : Nat} {ops : Array Oper} {S : World → Prop} {K : Env → World → Prop} {rest : List (Oper × Nat × Bool)} {ρ : Env} {w w0 : World} {L : List HP}
variable {d : Nat} {ty : TypeId} {pos : String} {af : Array Edge} {held : Nat} {need : Bool} {x y u : Operand} {b : Nat} {m : List (κ × Value)}
theorem x_makeMap (hs : Sat w0 w L) (h : ∀ b w', Sat w0 w' (MapR enc b ([] : List (κ × Value)) :: L) → (need = true → S w') ∧ RX P n ops S K rest (upd n ρ d (.map (some b))) w') :
    RX P n ops S K ((⟨some d, .makeMap T none, ty, pos, af, none⟩, 0, need) :: rest) ρ w := by
  obtain ⟨h2, h3⟩ := h _ _ (Sat.mapNew (hs.alloc (.map #[] 0)))
  exact x_turn rfl (by simp [execOp, Instr.makeMap]) h2 h3
theorem x_lookup2 (hT : MT P T KT E z) (hK : KO P KT enc) (hs : Sat w0 w (MapR enc b m :: L)) (k : κ) (hx : ev ρ x = .map (some b)) (hy : ev ρ y = enc k)
    (h : RX P n ops S K rest (upd n ρ d (.tuple #[(mget k m).getD z, .bool (mget k m).isSome])) w) :
    RX P n ops S K ((⟨some d, .lookup T x y true, ty, pos, af, none⟩, 0, false) :: rest) ρ w :=
  x_read rfl (by
    have hr := run_lookup hT hK hs k true
    simp [execOp, hx, hy, hr]) h
theorem h_lookup2 (hT : MT P T KT E z) (hK : KO P KT enc) (k : κ) (hS : ∀ w, S w → ∃ w0 L, Sat w0 w (MapR enc b m :: L)) (hx : ev ρ x = .map (some b)) (hy : ev ρ y = enc k)
    (h : RX P n ops S K rest (upd n ρ d (.tuple #[(mget k m).getD z, .bool (mget k m).isSome])) w) :
    RX P n ops S K ((⟨some d, .lookup T x y true, ty, pos, af, none⟩, 1, need) :: rest) ρ w :=
  x_heldr rfl (fun w hSw => by
    obtain ⟨w0, L, hs⟩ := hS w hSw
    have hr := run_lookup hT hK hs k true
    simp [execOp, hx, hy, hr]) h
theorem x_lookup2T (hT : MT P T KT E z) (hK : KO P KT enc) (hs : Sat w0 w (MapR enc b m :: L)) (k : κ) (v : Value) (hx : ev ρ x = .map (some b)) (hy : ev ρ y = enc k) (hv : mget k m = some v)
    (h : RX P n ops S K rest (upd n ρ d (.tuple #[v, .bool true])) w) :
    RX P n ops S K ((⟨some d, .lookup T x y true, ty, pos, af, none⟩, 0, false) :: rest) ρ w :=
  x_lookup2 hT hK hs k hx hy (by rw [hv]; exact h)
theorem x_lookup2F (hT : MT P T KT E z) (hK : KO P KT enc) (hs : Sat w0 w (MapR enc b m :: L)) (k : κ) (hx : ev ρ x = .map (some b)) (hy : ev ρ y = enc k) (hv : mget k m = none)
    (h : RX P n ops S K rest (upd n ρ d (.tuple #[z, .bool false])) w) :
    RX P n ops S K ((⟨some d, .lookup T x y true, ty, pos, af, none⟩, 0, false) :: rest) ρ w :=
  x_lookup2 hT hK hs k hx hy (by rw [hv]; exact h)
theorem h_lookup2T (hT : MT P T KT E z) (hK : KO P KT enc) (k : κ) (v : Value) (hS : ∀ w, S w → ∃ w0 L, Sat w0 w (MapR enc b m :: L)) (hx : ev ρ x = .map (some b)) (hy : ev ρ y = enc k) (hv : mget k m = some v)
    (h : RX P n ops S K rest (upd n ρ d (.tuple #[v, .bool true])) w) :
    RX P n ops S K ((⟨some d, .lookup T x y true, ty, pos, af, none⟩, 1, need) :: rest) ρ w :=
  h_lookup2 hT hK k hS hx hy (by rw [hv]; exact h)
theorem h_lookup2F (hT : MT P T KT E z) (hK : KO P KT enc) (k : κ) (hS : ∀ w, S w → ∃ w0 L, Sat w0 w (MapR enc b m :: L)) (hx : ev ρ x = .map (some b)) (hy : ev ρ y = enc k) (hv : mget k m = none)
    (h : RX P n ops S K rest (upd n ρ d (.tuple #[z, .bool false])) w) :
    RX P n ops S K ((⟨some d, .lookup T x y true, ty, pos, af, none⟩, 1, need) :: rest) ρ w :=
  h_lookup2 hT hK k hS hx hy (by rw [hv]; exact h)
theorem x_lookup1 (hT : MT P T KT E z) (hK : KO P KT enc) (hs : Sat w0 w (MapR enc b m :: L)) (k : κ) (v : Value) (hx : ev ρ x = .map (some b)) (hy : ev ρ y = enc k) (hv : (mget k m).getD z = v)
    (h : RX P n ops S K rest (upd n ρ d v) w) :
    RX P n ops S K ((⟨some d, .lookup T x y false, ty, pos, af, none⟩, 0, false) :: rest) ρ w :=
  x_read rfl (by
    have hr := run_lookup hT hK hs k false
    simp only [Bool.false_eq_true, if_false, hv] at hr
    simp [execOp, hx, hy, hr]) h
theorem h_lookup1 (hT : MT P T KT E z) (hK : KO P KT enc) (k : κ) (v : Value) (hS : ∀ w, S w → ∃ w0 L, Sat w0 w (MapR enc b m :: L)) (hx : ev ρ x = .map (some b)) (hy : ev ρ y = enc k) (hv : (mget k m).getD z = v)
    (h : RX P n ops S K rest (upd n ρ d v) w) :
    RX P n ops S K ((⟨some d, .lookup T x y false, ty, pos, af, none⟩, 1, need) :: rest) ρ w :=
  x_heldr rfl (fun w hSw => by
    obtain ⟨w0, L, hs⟩ := hS w hSw
    have hr := run_lookup hT hK hs k false
    simp only [Bool.false_eq_true, if_false, hv] at hr
    simp [execOp, hx, hy, hr]) h
theorem x_update (hT : MT P T KT E z) (hK : KO P KT enc) (hs : Sat w0 w (MapR enc b m :: L)) (k : κ) (v : Value) (hx : ev ρ x = .map (some b)) (hy : ev ρ y = enc k) (hu : ev ρ u = v)
    (h : ∀ w', Sat w0 w' (MapR enc b (mset k v m) :: L) → (need = true → S w') ∧ RX P n ops S K rest ρ w') :
    RX P n ops S K ((⟨none, .mapUpdate T x y u, ty, pos, af, none⟩, 0, need) :: rest) ρ w := by
  obtain ⟨w', hrun, hs'⟩ := sat_update hT hK hs k v
  obtain ⟨h2, h3⟩ := h w' hs'
  exact x_act rfl (by simp [execOp, hx, hy, hu, hrun]) h2 h3
theorem x_delete {kt : TypeId} (hT : MT P T KT E z) (hK : KO P KT enc) (hs : Sat w0 w (MapR enc b m :: L)) (k : κ) (hx : ev ρ x = .map (some b)) (hy : ev ρ y = enc k)
    (h : ∀ w', Sat w0 w' (MapR enc b (mdel k m) :: L) → (need = true → S w') ∧ RX P n ops S K rest ρ w') :
    RX P n ops S K ((⟨none, .call { callee := .builtin .delete, args := #[x, y], argTypes := #[T, kt] }, ty, pos, af, none⟩, 0, need) :: rest) ρ w := by
  obtain ⟨w', hrun, hs'⟩ := sat_delete hT hK hs k kt ty
  obtain ⟨h2, h3⟩ := h w' hs'
  exact x_turn (o := ⟨none, .call { callee := .builtin .delete, args := #[x, y], argTypes := #[T, kt] }, ty, pos, af, none⟩) (v := .tuple #[]) rfl (by simp [execOp, resolve, invoke, builtin, hx, hy, hrun]) h2 h3
theorem x_lenMap (hT : MT P T KT E z) (hs : Sat w0 w (MapR enc b m :: L)) (hx : ev ρ x = .map (some b))
    (h : RX P n ops S K rest (upd n ρ d (.int .i64 m.length)) w) :
    RX P n ops S K ((⟨some d, .call { callee := .builtin .len, args := #[x], argTypes := #[T] }, ty, pos, af, none⟩, 0, false) :: rest) ρ w :=
  x_read rfl (by
    have hr := run_mapLen hT hs ty
    simp [execOp, resolve, invoke, builtin, hx, hr]) h
end
end Go.Proofs.Ytiffpkbkmpianaa.X
