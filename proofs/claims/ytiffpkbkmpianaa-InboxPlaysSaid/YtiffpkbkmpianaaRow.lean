/-
  SLICES AS RESOURCES: a slice that is nil or lies somewhere in a block of its own, its spare places too; append, reslice, reading.
-/
import Derived.Test.YtiffpkbkmpianaaOps
namespace Go.Proofs.Ytiffpkbkmpianaa.X
open Go Go.RowKit
set_option linter.unusedVariables false

/-- slice value v, n elements of 'size' cells, whose cells are xs; the whole block is owned -/
def Row (e size : Nat) (v : Value) (n : Nat) (xs : List Value) : HP := fun h =>
  (v = .slice none 0 0 ∧ n = 0 ∧ xs = []) ∨
  ∃ b off cap cur, (v = .slice (some ⟨b, off, none⟩) n cap ∧ n ≤ cap ∧ cap ≤ maxLen ∧ off + cap * size ≤ cur.size ∧ (cur.toList.drop off).take (n * size) = xs) ∧ Blk b (.cells cur e (0, 0)) h
/-- what can be read of a slice -/
def RD (w : World) (size : Nat) (x : Value) (m : Nat) (news : List Value) : Prop :=
  news.length = m * size ∧ ∃ ao c, x = .slice ao m c ∧ m ≤ c ∧ (ao = none → c = 0) ∧ ∀ ad, ao = some ad → (0 < m → ad.spot = none) ∧ ∀ j u, news[j]? = some u → w.cell? (ad.add j) = some u

section
variable {w0 w : World} {e size n : Nat} {v : Value} {xs : List Value} {L : List HP}
theorem Sat.row (hs : Sat w0 w (Row e size v n xs :: L)) : (v = .slice none 0 0 ∧ n = 0 ∧ xs = [] ∧ Sat w0 w L) ∨
    ∃ b off cap cur, v = .slice (some ⟨b, off, none⟩) n cap ∧ n ≤ cap ∧ cap ≤ maxLen ∧ off + cap * size ≤ cur.size ∧ (cur.toList.drop off).take (n * size) = xs ∧ Sat w0 w (Blk b (.cells cur e (0, 0)) :: L) := by
  obtain ⟨a, b, c, d, p, q, hd, hA, hL⟩ := hs
  rcases hA with ⟨h1, h2, h3⟩ | ⟨b', off, cap, cur, ⟨h1, h2, h3, h4, h5⟩, hb⟩
  · exact .inl ⟨h1, h2, h3, a, b, c, d, hL.of_on⟩
  · exact .inr ⟨b', off, cap, cur, h1, h2, h3, h4, h5, a, b, c, d, p, q, hd, hb, hL⟩
theorem Sat.add {A : HP} (hA : A (fun _ => none)) (hs : Sat w0 w L) : Sat w0 w (A :: L) := by
  refine ⟨hs.os, hs.tape, hs.output, hs.size, fun _ => false, fun _ => true, fun _ => rfl, ?_, hs.sat⟩
  exact hA
theorem Sat.rowNil (hs : Sat w0 w L) : Sat w0 w (Row e size (.slice none 0 0) 0 [] :: L) := hs.add (.inl ⟨rfl, rfl, rfl⟩)
theorem Sat.rowOf {b off cap : Nat} {cur : Array Value} (hs : Sat w0 w (Blk b (.cells cur e (0, 0)) :: L)) (h1 : n ≤ cap) (h2 : cap ≤ maxLen) (h3 : off + cap * size ≤ cur.size) (h4 : (cur.toList.drop off).take (n * size) = xs) :
    Sat w0 w (Row e size (.slice (some ⟨b, off, none⟩) n cap) n xs :: L) :=
  hs.head fun h hb => .inr ⟨b, off, cap, cur, ⟨rfl, h1, h2, h3, h4⟩, hb⟩
theorem Sat.rd (hs : Sat w0 w (Row e size v n xs :: L)) : RD w size v n xs := by
  rcases hs.row with ⟨rfl, rfl, rfl, _⟩ | ⟨b, off, cap, cur, rfl, h1, h2, h3, rfl, hb⟩
  · exact ⟨by simp, none, 0, rfl, Nat.le_refl _, fun _ => rfl, fun ad h => by cases h⟩
  · refine ⟨?_, some ⟨b, off, none⟩, cap, rfl, h1, (fun h => nomatch h), fun ad h => ?_⟩
    · have : n * size ≤ cap * size := Nat.mul_le_mul_right _ h1
      simp only [List.length_take, List.length_drop, Array.length_toList]
      omega
    · obtain rfl : (⟨b, off, none⟩ : Addr) = ad := by simpa using h
      refine ⟨fun _ => rfl, fun j u hu => ?_⟩
      rw [Addr.add_lit, cell_of_row w b (off + j) cur e (0, 0) hb.blk]
      rw [List.getElem?_take] at hu
      split at hu
      · rw [List.getElem?_drop] at hu
        simpa using hu
      · cases hu
theorem Sat.row_len (hs : Sat w0 w (Row e size v n xs :: L)) : xs.length = n * size := hs.rd.1
theorem Sat.rowAddr {ao : Option Addr} {c : Nat} (hs : Sat w0 w (Row e size (.slice ao n c) n xs :: L)) (hn : 0 < n) : ∃ b off, ao = some ⟨b, off, none⟩ := by
  rcases hs.row with ⟨h1, rfl, _⟩ | ⟨b, off, cap, cur, h1, _⟩
  · exact absurd hn (by omega)
  · cases h1; exact ⟨b, off, rfl⟩
theorem Sat.rowCell {b off c j : Nat} {u : Value} (hs : Sat w0 w (Row e size (.slice (some ⟨b, off, none⟩) n c) n xs :: L)) (hj : xs[j]? = some u) : w.cell? ⟨b, off + j, none⟩ = some u := by
  obtain ⟨_, ao', c', h2, _, _, h5⟩ := hs.rd
  cases h2
  have := (h5 _ rfl).2 j u hj
  rwa [Addr.add_lit] at this
theorem RD.below {w' : World} {m : Nat} {x : Value} {news : List Value} (h : RD w size x m news) (hb : Below w.heap.size w w') : RD w' size x m news := by
  obtain ⟨h1, ao, c, h2, h3, h4, h5⟩ := h
  refine ⟨h1, ao, c, h2, h3, h4, fun ad ha => ⟨(h5 ad ha).1, fun j u hu => ?_⟩⟩
  have hc := (h5 ad ha).2 j u hu
  rw [hb.cell (block_lt_of_cell hc)]
  exact hc
theorem RD.val {m : Nat} {x : Value} {news : List Value} (h : RD w size x m news) : ∃ ao c, x = .slice ao m c := let ⟨_, ao, c, e, _⟩ := h; ⟨ao, c, e⟩
end

/-- an element type's row of the table -/
def EI (P : Program) (e : TypeId) (z : Value) (size bytes : Nat) : Prop := ∃ i, P.info? e = some i ∧ i.zero = some z ∧ i.size = size ∧ i.bytes = bytes ∧ z.cells.size = size ∧ 0 < size
theorem ei_of {P : Program} {e : TypeId} {z : Value} {size bytes : Nat} (h : (P.info? e).map (fun i => (i.zero, i.size, i.bytes)) = some (some z, size, bytes)) (h1 : z.cells.size = size) (h2 : 0 < size) : EI P e z size bytes := by
  obtain ⟨i, a, b, c, d⟩ := info_parts h
  exact ⟨i, a, b, c, d, h1, h2⟩

section
variable {P : Program} {w0 w : World} {t ty e size bytes : Nat} {z : Value} {L : List HP}
theorem run_append_zero (ht : P.underlying t = some (.slice e)) (he : EI P e z size bytes) {ao bo : Option Addr} {n cap c : Nat} (hc : n ≤ cap) :
    (Builtin.append_ #[t, t] ty #[.slice ao n cap, .slice bo 0 c]).run P w = .ok (.slice ao n cap) w := by
  obtain ⟨i, hi, hz, hsz, hby, hzs, hpos⟩ := he
  cases bo <;> cases ao <;> simp [Builtin.append_, run_underlying ht, sizeOf, typeInfo, hi, Builtin.lenOf, hc, Builtin.firstCells, loadCells, loadCellsFrom, storeCells]
theorem run_append_off (ht : P.underlying t = some (.slice e)) {i : TypeInfo} (hi : P.info? e = some i)
    (g off sLen sCap : Nat) (cur : Array Value) (hg : w.heap[g]? = some (.cells cur e (0, 0)))
    (a : Addr) (m c : Nat) (news : List Value) (hl : news.length = m * i.size) (hnews : ∀ j u, news[j]? = some u → w.cell? (a.add j) = some u) (h1 : ∀ u ∈ news, u.oneCell' = true)
    (hroom : sLen + m ≤ sCap) (hfit : off + sLen * i.size + news.length ≤ cur.size) :
    (Builtin.append_ #[t, t] ty #[.slice (some ⟨g, off, none⟩) sLen sCap, .slice (some a) m c]).run P w =
      .ok (.slice (some ⟨g, off, none⟩) (sLen + m) sCap) (w.setRow g (cur.toList.take (off + sLen * i.size) ++ news ++ cur.toList.drop (off + sLen * i.size + news.length)).toArray) := by
  have hf := run_firstCells_some (P := P) w i.size m a m c news hl hnews
  have hst := run_storeCells_at P g (off + sLen * i.size) e news 0 cur w hg (by simpa using hfit) h1
  simp only [Nat.add_zero] at hst
  simp [Builtin.append_, run_underlying ht, sizeOf, typeInfo, hi, Builtin.lenOf, hroom, hf, Addr.add_lit, hst]

theorem sat_append (ht : P.underlying t = some (.slice e)) (he : EI P e z size bytes) {v : Value} {n : Nat} {xs : List Value} (hs : Sat w0 w (Row e size v n xs :: L))
    {x : Value} {m : Nat} {news : List Value} (hr : RD w size x m news) (h1 : ∀ u ∈ news, u.oneCell' = true) (b1 : n + m ≤ maxLen) (b2 : (n + m) * bytes ≤ 140737488355328) :
    ∃ v' w', (Builtin.append_ #[t, t] ty #[v, x]).run P w = .ok v' w' ∧ Sat w0 w' (Row e size v' (n + m) (xs ++ news) :: L) := by
  obtain ⟨hl, ao, c, rfl, hmc, hnc, hrd⟩ := hr
  rcases Nat.eq_zero_or_pos m with rfl | hm
  · obtain rfl : news = [] := List.eq_nil_of_length_eq_zero (by simpa using hl)
    rcases hs.row with ⟨rfl, rfl, rfl, _⟩ | ⟨b, off, cap, cur, rfl, h2, h3, h4, h5, hb⟩
    · exact ⟨_, _, run_append_zero ht he (Nat.le_refl 0), by simpa using hs⟩
    · exact ⟨_, _, run_append_zero ht he h2, by simpa using hs⟩
  · cases ao with
    | none => exact absurd (hnc rfl) (by omega)
    | some ad =>
      obtain ⟨_, hnews⟩ := hrd ad rfl
      obtain ⟨i, hi, hz, hsz, hby, hzs, hpos⟩ := id he
      subst hsz hby
      have h63 : n + m ≤ 9223372036854775807 := by simp only [maxLen] at b1; omega
      rcases hs.row with ⟨rfl, rfl, rfl, hL⟩ | ⟨b, off, cap, cur, rfl, h2, h3, h4, h5, hb⟩
      · have hr := run_append_nil (P := P) w t ty e i z ht hi hz ad m c news hl hnews hm (by omega) (by have hb := b2; simp only [Nat.zero_add] at hb; omega)
        refine ⟨_, _, hr, ?_⟩
        have hge := grownCap_ge w m 0 e
        have hcm : grownCap w m 0 e ≤ maxLen := grownCap_le_maxLen w m 0 e (by omega)
        have hnew := hL.drew.alloc (.cells (news.toArray ++ Builtin.zeroCells z.cells (grownCap w m 0 e - m)) e)
        have := Sat.rowOf (size := i.size) (n := 0 + m) (off := 0) (cap := grownCap w m 0 e) (xs := [] ++ news) hnew (by omega) hcm ?_ ?_
        · simp only [Nat.zero_add] at this ⊢; exact this
        · simp only [Array.size_append, List.size_toArray, size_zeroCells, hzs, hl, Nat.zero_add, ← Nat.add_mul]
          refine Nat.mul_le_mul_right _ ?_
          omega
        · simp [← hl]
      · by_cases hroom : n + m ≤ cap
        · have hmul : n * i.size + m * i.size ≤ cap * i.size := by rw [← Nat.add_mul]; exact Nat.mul_le_mul_right _ hroom
          have hr := run_append_off (P := P) (ty := ty) ht hi b off n cap cur hb.blk ad m c news hl hnews h1 hroom (by omega)
          refine ⟨_, _, hr, ?_⟩
          have hw := hb.write (w' := w.setRow b (cur.toList.take (off + n * i.size) ++ news ++ cur.toList.drop (off + n * i.size + news.length)).toArray) (o' := .cells (cur.toList.take (off + n * i.size) ++ news ++ cur.toList.drop (off + n * i.size + news.length)).toArray e (0, 0)) rfl rfl rfl (setRow_size w b _) (fun k hk => setRow_other w b k _ hk) (setRow_heap w b cur _ e _ hb.blk)
          refine Sat.rowOf hw hroom h3 ?_ ?_
          · simp only [List.size_toArray, List.length_append, List.length_take, List.length_drop, Array.length_toList]
            omega
          · have e1 : (cur.toList.take (off + n * i.size)).drop off = xs := by
              rw [List.drop_take, Nat.add_sub_cancel_left]; exact h5
            have hlen : off ≤ (cur.toList.take (off + n * i.size)).length := by simp only [List.length_take, Array.length_toList]; omega
            have hxl : xs.length = n * i.size := by rw [← h5]; simp only [List.length_take, List.length_drop, Array.length_toList]; omega
            simp only [List.append_assoc]
            rw [List.drop_append_of_le_length hlen, e1, ← List.append_assoc]
            rw [List.take_append_of_le_length (by simp [hxl, hl, Nat.add_mul])]
            rw [List.take_of_length_le (by simp [hxl, hl, Nat.add_mul])]
        · have hxl : xs.length = n * i.size := hs.row_len
          have holds : ∀ j u, xs[j]? = some u → w.cell? ((⟨b, off, none⟩ : Addr).add j) = some u := by
            obtain ⟨_, ao', c', e', _, _, hh⟩ := hs.rd
            cases e'
            exact (hh _ rfl).2
          have hr := run_append_grow (P := P) w t ty e i z ht hi hz ⟨b, off, none⟩ n cap xs hxl holds ad m c news hl hnews (by omega) (by omega) (growslice_fits (by omega) b2)
          refine ⟨_, _, hr, ?_⟩
          have hge := grownCap_ge w (n + m) cap e
          have hcm : grownCap w (n + m) cap e ≤ maxLen := grownCap_le_maxLen w (n + m) cap e b1
          have hnew := hb.tail.drew.alloc (.cells (xs.toArray ++ news.toArray ++ Builtin.zeroCells z.cells (grownCap w (n + m) cap e - (n + m))) e)
          refine Sat.rowOf (off := 0) hnew hge hcm ?_ ?_
          · simp only [Array.size_append, List.size_toArray, size_zeroCells, hzs, hxl, hl, ← Nat.add_mul, Nat.zero_add]
            refine Nat.mul_le_mul_right _ ?_
            omega
          · have : (n + m) * i.size = (xs ++ news).length := by rw [List.length_append, hxl, hl, Nat.add_mul]
            simp only [List.drop_zero, Array.toList_append]
            rw [this, List.take_append_of_le_length (by simp)]
            exact List.take_of_length_le (by simp)
end

section
variable {P : Program} {n : Nat} {ops : Array Oper} {S : World → Prop} {K : Env → World → Prop} {rest : List (Oper × Nat × Bool)} {ρ : Env} {w w0 : World} {L : List HP}
variable {d : Nat} {ty : TypeId} {pos : String} {af : Array Edge} {held : Nat} {need : Bool} {x y : Operand}
/-- append -/
theorem x_append {t e size bytes : Nat} {z : Value} {v : Value} {k : Nat} {xs : List Value} (hs : Sat w0 w (Row e size v k xs :: L)) (ht : P.underlying t = some (.slice e)) (he : EI P e z size bytes) {u : Value} {m : Nat} {news : List Value} (hr : RD w size u m news) (h1 : ∀ u ∈ news, u.oneCell' = true) (b1 : k + m ≤ maxLen) (b2 : (k + m) * bytes ≤ 140737488355328)
    (hx : ev ρ x = v) (hy : ev ρ y = u)
    (h : ∀ v' w', Sat w0 w' (Row e size v' (k + m) (xs ++ news) :: L) → (need = true → S w') ∧ RX P n ops S K rest (upd n ρ d v') w') :
    RX P n ops S K ((⟨some d, .call { callee := .builtin .append, args := #[x, y], argTypes := #[t, t] }, ty, pos, af, none⟩, 0, need) :: rest) ρ w := by
  obtain ⟨v', w', hrun, hs'⟩ := sat_append (ty := ty) ht he hs hr h1 b1 b2
  obtain ⟨h2, h3⟩ := h v' w' hs'
  exact x_turn rfl (by simp [execOp, resolve, invoke, builtin, hx, hy, hrun]) h2 h3
/-- a new variable, with what it holds -/
theorem x_box {t : TypeId} (hs : Sat w0 w L) (v : Value) (hx : ev ρ x = v)
    (h : ∀ b w', Sat w0 w' (Blk b (.cells v.cells t (0, 0)) :: L) → (need = true → S w') ∧ RX P n ops S K rest (upd n ρ d (.pointer (some ⟨b, 0, none⟩))) w') :
    RX P n ops S K ((⟨some d, .box t x, ty, pos, af, none⟩, 0, need) :: rest) ρ w := by
  obtain ⟨h2, h3⟩ := h _ _ (hs.alloc (.cells v.cells t))
  exact x_turn rfl (by simp [execOp, hx, Instr.box, newVar, newRow]) h2 h3
theorem x_alloc {t : TypeId} {z : Value} (hz : (P.info? t).map (·.zero) = some (some z)) (hs : Sat w0 w L)
    (h : ∀ b w', Sat w0 w' (Blk b (.cells z.cells t (0, 0)) :: L) → (need = true → S w') ∧ RX P n ops S K rest (upd n ρ d (.pointer (some ⟨b, 0, none⟩))) w') :
    RX P n ops S K ((⟨some d, .alloc t, ty, pos, af, none⟩, 0, need) :: rest) ρ w := by
  obtain ⟨i, hi, e⟩ := Option.map_eq_some_iff.1 hz
  obtain ⟨h2, h3⟩ := h _ _ (hs.alloc (.cells z.cells t))
  exact x_turn rfl (by simp [execOp, Instr.alloc, zeroValue, typeInfo, hi, e, newVar, newRow]) h2 h3
/-- a struct's value, an array's -/
theorem x_build {t : TypeId} {ps : List (Nat × Operand)} (v : Value) (vals : List (Nat × Value)) (hv : ps.map (fun x => (x.1, ev ρ x.2)) = vals) (hy : ∀ w, (Instr.build t vals.toArray).run P w = .ok v w) (h : RX P n ops S K rest (upd n ρ d v) w) (hn : (Nat.blt held 3 && (Nat.blt 0 held || !need)) = true := by rfl) :
    RX P n ops S K ((⟨some d, .build t ps.toArray, ty, pos, af, none⟩, held, need) :: rest) ρ w :=
  x_pure rfl hn (fun w => by
    have hr := hy w
    show ((Next.value <$> (Instr.build t (ps.toArray.map fun (i, x) => (i, ev ρ x)))).run P w) = _
    rw [List.map_toArray, show (ps.map fun (i, x) => (i, ev ρ x)) = vals from hv]
    simp [hr]) h
/-- a slice that is written out -/
theorem x_buildSliceB {t e : TypeId} {len : Nat} {ps : List (Nat × Operand)} (cells : Array Value) (vals : List (Nat × Value)) (hs : Sat w0 w L) (hv : ps.map (fun x => (x.1, ev ρ x.2)) = vals) (hy : ∀ w, (Instr.buildSlice t len vals.toArray).run P w = .ok (.slice (some ⟨w.heap.size, 0, none⟩) len len) (w.alloc (.cells cells e)))
    (h : ∀ b w', Below w.heap.size w w' → Sat w0 w' (Blk b (.cells cells e (0, 0)) :: L) → (need = true → S w') ∧ RX P n ops S K rest (upd n ρ d (.slice (some ⟨b, 0, none⟩) len len)) w') :
    RX P n ops S K ((⟨some d, .buildSlice t len ps.toArray, ty, pos, af, none⟩, 0, need) :: rest) ρ w := by
  obtain ⟨h2, h3⟩ := h _ _ ((Below.refl _ _).alloc (Nat.le_refl _) _) (hs.alloc (.cells cells e))
  have hr := hy w
  refine x_turn rfl ?_ h2 h3
  show ((Next.value <$> (Instr.buildSlice t len (ps.toArray.map fun (i, x) => (i, ev ρ x)))).run P w) = _
  rw [List.map_toArray, show (ps.map fun (i, x) => (i, ev ρ x)) = vals from hv]
  simp [hr]
theorem x_buildSlice {t e : TypeId} {len : Nat} {ps : List (Nat × Operand)} (cells : Array Value) (vals : List (Nat × Value)) (hs : Sat w0 w L) (hv : ps.map (fun x => (x.1, ev ρ x.2)) = vals) (hy : ∀ w, (Instr.buildSlice t len vals.toArray).run P w = .ok (.slice (some ⟨w.heap.size, 0, none⟩) len len) (w.alloc (.cells cells e)))
    (h : ∀ b w', Sat w0 w' (Blk b (.cells cells e (0, 0)) :: L) → (need = true → S w') ∧ RX P n ops S K rest (upd n ρ d (.slice (some ⟨b, 0, none⟩) len len)) w') :
    RX P n ops S K ((⟨some d, .buildSlice t len ps.toArray, ty, pos, af, none⟩, 0, need) :: rest) ρ w :=
  x_buildSliceB cells vals hs hv hy fun b w' _ => h b w'
/-- what such a slice reads as -/
theorem rd_blk {b e len size : Nat} {cells : Array Value} (hs : Sat w0 w (Blk b (.cells cells e (0, 0)) :: L)) (hl : cells.size = len * size) : RD w size (.slice (some ⟨b, 0, none⟩) len len) len cells.toList := by
  refine ⟨by simpa using hl, _, _, rfl, Nat.le_refl _, (fun h => nomatch h), fun ad h => ?_⟩
  obtain rfl : (⟨b, 0, none⟩ : Addr) = ad := by simpa using h
  refine ⟨fun _ => rfl, fun j u hu => ?_⟩
  rw [Addr.add_lit, Nat.zero_add]
  exact hs.cell (by simpa using hu)
theorem row_blk {b e len size : Nat} {cells : Array Value} (hs : Sat w0 w (Blk b (.cells cells e (0, 0)) :: L)) (hl : cells.size = len * size) (hm : len ≤ maxLen) : Sat w0 w (Row e size (.slice (some ⟨b, 0, none⟩) len len) len cells.toList :: L) :=
  hs.rowOf (Nat.le_refl _) hm (by omega) (by rw [List.drop_zero, List.take_of_length_le (by simp [hl])])

/-- slices of slices: as values -/
def slVal (ao : Option Addr) (l c i j size : Nat) : Value := .slice (if c = i then ao else ao.map (·.add (i * size))) (j - i) (c - i)
theorem run_sliceAt {t e size : TypeId} (hu : P.underlying t = some (.slice e)) (hz : Sz P e size) (ao : Option Addr) (l c i j : Nat) (hij : i ≤ j) (hj : j ≤ c) (lo hi : Option Value) (hlo : lo = none ∧ i = 0 ∨ ∃ k, lo = some (.int k i)) (hhi : hi = none ∧ j = l ∨ ∃ k, hi = some (.int k j)) :
    (Instr.sliceAt t (.slice ao l c) lo hi none).run P w = .ok (slVal ao l c i j size) w := by
  have hr := hz w
  rcases hlo with ⟨rfl, rfl⟩ | ⟨k1, rfl⟩ <;> rcases hhi with ⟨rfl, rfl⟩ | ⟨k2, rfl⟩ <;>
    simp [Instr.sliceAt, Instr.slice, run_underlying hu, Instr.sliceBounds, Instr.sliceBound, asIntOf, hr, hij, hj, slVal]
theorem x_slice {t e size : TypeId} (hu : P.underlying t = some (.slice e)) (hz : Sz P e size) {lo hi : Option Operand} (ao : Option Addr) (l c i j : Nat) (hx : ev ρ x = .slice ao l c) (hlo : lo.map (ev ρ) = none ∧ i = 0 ∨ ∃ k, lo.map (ev ρ) = some (.int k i)) (hhi : hi.map (ev ρ) = none ∧ j = l ∨ ∃ k, hi.map (ev ρ) = some (.int k j)) (hij : i ≤ j) (hj : j ≤ c)
    (h : RX P n ops S K rest (upd n ρ d (slVal ao l c i j size)) w) (hn : (Nat.blt held 3 && (Nat.blt 0 held || !need)) = true := by rfl) :
    RX P n ops S K ((⟨some d, .slice t x lo hi none, ty, pos, af, none⟩, held, need) :: rest) ρ w :=
  x_pure rfl hn (fun w => by
    have hr := run_sliceAt (w := w) hu hz ao l c i j hij hj _ _ hlo hhi
    simp [execOp, hx, hr]) h
theorem row_slice {e size k i j : Nat} {ao : Option Addr} {c : Nat} {xs : List Value} (hs : Sat w0 w (Row e size (.slice ao k c) k xs :: L)) (hij : i ≤ j) (hj : j ≤ k) : Sat w0 w (Row e size (slVal ao k c i j size) (j - i) ((xs.drop (i * size)).take ((j - i) * size)) :: L) := by
  rcases hs.row with ⟨h1, rfl, rfl, hL⟩ | ⟨b, off, cap, cur, h1, h2, h3, h4, h5, hb⟩
  · cases h1
    obtain rfl : j = 0 := by omega
    obtain rfl : i = 0 := by omega
    simpa [slVal] using hL.rowNil
  · cases h1
    have hmul : i * size ≤ c * size := Nat.mul_le_mul_right _ (by omega)
    have hmul2 : (c - i) * size = c * size - i * size := Nat.sub_mul ..
    have hmul3 : j * size ≤ k * size := Nat.mul_le_mul_right _ hj
    have hmul4 : (j - i) * size = j * size - i * size := Nat.sub_mul ..
    by_cases hci : c = i
    · subst hci
      obtain rfl : j = c := by omega
      unfold slVal
      rw [if_pos rfl]
      refine hb.rowOf (by omega) (by omega) (by omega) ?_
      simp
    · unfold slVal
      rw [if_neg hci]
      simp only [Option.map_some, Addr.add_lit]
      refine hb.rowOf (by omega) (by omega) (by omega) ?_
      rw [← h5, List.drop_take, List.take_take, List.drop_drop, Nat.min_eq_left (by omega)]
theorem rd_slice {size k i j : Nat} {ao : Option Addr} {c : Nat} {xs : List Value} (hs : RD w size (.slice ao k c) k xs) (hij : i ≤ j) (hj : j ≤ k) : RD w size (slVal ao k c i j size) (j - i) ((xs.drop (i * size)).take ((j - i) * size)) := by
  obtain ⟨h1, ao', c', h2, h3, h4, h5⟩ := hs
  cases h2
  have hmul3 : j * size ≤ k * size := Nat.mul_le_mul_right _ hj
  have hmul4 : (j - i) * size = j * size - i * size := Nat.sub_mul ..
  refine ⟨by simp only [List.length_take, List.length_drop]; omega, _, _, rfl, by omega, fun h => ?_, fun ad h => ?_⟩
  · by_cases hci : c = i
    · omega
    · rw [if_neg hci] at h
      have := h4 (by simpa using h)
      omega
  · by_cases hci : c = i
    · refine ⟨fun hp => by omega, fun q u hu => ?_⟩
      have : j - i = 0 := by omega
      rw [this] at hu
      simp at hu
    · rw [if_neg hci] at h
      cases ao with
      | none => cases h
      | some a0 =>
        obtain rfl : a0.add (i * size) = ad := by simpa using h
        obtain ⟨hsp, hc⟩ := h5 a0 rfl
        by_cases hji : j - i = 0
        · refine ⟨fun hp => by omega, fun q u hu => ?_⟩
          rw [hji] at hu
          simp at hu
        · have hsp' := hsp (by omega)
          obtain ⟨b, off, sp⟩ := a0
          subst hsp'
          rw [Addr.add_lit]
          refine ⟨fun _ => rfl, fun q u hu => ?_⟩
          rw [Addr.add_lit]
          rw [List.getElem?_take] at hu
          split at hu
          · rw [List.getElem?_drop] at hu
            have := hc _ _ hu
            rw [Addr.add_lit] at this
            rw [Nat.add_assoc]
            exact this
          · cases hu
theorem RD.addr {size m : Nat} {ao : Option Addr} {c : Nat} {news : List Value} (h : RD w size (.slice ao m c) m news) (hm : 0 < m) : ∃ b o, ao = some ⟨b, o, none⟩ := by
  obtain ⟨_, ao', c', h2, h3, h4, h5⟩ := h
  cases h2
  cases ao with
  | none => have := h4 rfl; omega
  | some ad =>
    obtain ⟨b, o, sp⟩ := ad
    have := (h5 _ rfl).1 hm
    subst this
    exact ⟨b, o, rfl⟩
theorem RD.cell {size m b o : Nat} {c j : Nat} {u : Value} {news : List Value} (h : RD w size (.slice (some ⟨b, o, none⟩) m c) m news) (hj : news[j]? = some u) : w.cell? ⟨b, o + j, none⟩ = some u := by
  obtain ⟨_, ao', c', h2, _, _, h5⟩ := h
  cases h2
  have := (h5 _ rfl).2 j u hj
  rwa [Addr.add_lit] at this
theorem RD.heapEq {w' : World} {size m : Nat} {x : Value} {news : List Value} (h : RD w size x m news) (hh : w'.heap = w.heap) : RD w' size x m news := by
  have hc : ∀ a, w'.cell? a = w.cell? a := fun a => by simp [World.cell?, hh]
  unfold RD at *
  simpa only [hc] using h
end
end Go.Proofs.Ytiffpkbkmpianaa.X
