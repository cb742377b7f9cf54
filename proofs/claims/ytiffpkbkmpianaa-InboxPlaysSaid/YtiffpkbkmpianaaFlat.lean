/-
  ROWS OF THINGS OF ONE SIZE: take, drop, store, delete, clear; functions with a result in a variable; bytes among others.
-/
import Derived.Test.YtiffpkbkmpianaaNum
import Derived.Test.YtiffpkbkmpianaaFork
namespace Go.Proofs.Ytiffpkbkmpianaa.X
open Go Go.RowKit
set_option linter.unusedVariables false
theorem Sat.cellsOf {w0 w : World} {b : Nat} {cs : Array Value} {T : TypeId} {z : Nat × Nat} {L : List HP} (hs : Sat w0 w (Blk b (.cells cs T z) :: L)) : ∀ (j : Nat) (u : Value), cs.toList[j]? = some u → w.cell? ((⟨b, 0, none⟩ : Addr).add j) = some u := fun j u hj => by
  rw [Addr.add_lit, Nat.zero_add]
  exact hs.cell (by simpa using hj)
section
variable {k : Nat}
theorem flat_take : ∀ (i : Nat) (rows : List (List Value)), (∀ r ∈ rows, r.length = k) → rows.flatten.take (i * k) = (rows.take i).flatten
  | 0, _, _ => by simp
  | _ + 1, [], _ => by simp
  | i + 1, r :: rows, h => by
    have h0 := h r (by simp)
    rw [List.flatten_cons, List.take_append, List.take_succ_cons, List.flatten_cons, List.take_of_length_le (by rw [h0, Nat.add_mul]; omega), h0, show (i + 1) * k - k = i * k from by rw [Nat.add_mul]; omega, flat_take i rows fun r hr => h r (by simp [hr])]
theorem flat_drop : ∀ (i : Nat) (rows : List (List Value)), (∀ r ∈ rows, r.length = k) → rows.flatten.drop (i * k) = (rows.drop i).flatten
  | 0, _, _ => by simp
  | _ + 1, [], _ => by simp
  | i + 1, r :: rows, h => by
    have h0 := h r (by simp)
    rw [List.flatten_cons, List.drop_append, List.drop_succ_cons, List.drop_of_length_le (by rw [h0, Nat.add_mul]; omega), h0, show (i + 1) * k - k = i * k from by rw [Nat.add_mul]; omega, flat_drop i rows fun r hr => h r (by simp [hr])]
    rfl
theorem flat_set : ∀ (i q : Nat) (rows : List (List Value)) (r : List Value) (v : Value), (∀ r ∈ rows, r.length = k) → rows[i]? = some r → q < k → rows.flatten.set (i * k + q) v = (rows.set i (r.set q v)).flatten
  | _, _, [], _, _, _, h, _ => by simp at h
  | 0, q, r0 :: rows, r, v, hl, h, hq => by
    have h0 := hl r0 (by simp)
    simp at h
    subst h
    rw [List.flatten_cons, List.set_append_left _ _ (by omega), Nat.zero_mul, Nat.zero_add]
    rfl
  | i + 1, q, r0 :: rows, r, v, hl, h, hq => by
    have h0 := hl r0 (by simp)
    rw [List.flatten_cons, List.set_append_right _ _ (by rw [h0, Nat.add_mul]; omega), h0, show (i + 1) * k + q - k = i * k + q from by rw [Nat.add_mul]; omega, flat_set i q rows r v (fun r hr => hl r (by simp [hr])) (by simpa using h) hq]
    rfl
theorem flat_setRows {rows : List (List Value)} {i : Nat} {new : List Value} (h : ∀ r ∈ rows, r.length = k) (hn : new.length = k) (hi : i < rows.length) : setRows rows.flatten (i * k) new = (rows.set i new).flatten := by
  unfold setRows
  rw [hn, show i * k + k = (i + 1) * k from by rw [Nat.add_mul]; omega, flat_take _ _ h, flat_drop _ _ h, List.set_eq_take_append_cons_drop, if_pos hi]
  simp
theorem flat_erase {rows : List (List Value)} {i : Nat} (h : ∀ r ∈ rows, r.length = k) : rows.flatten.take (i * k) ++ rows.flatten.drop ((i + 1) * k) = (rows.eraseIdx i).flatten := by
  rw [flat_take _ _ h, flat_drop _ _ h, List.eraseIdx_eq_take_drop_succ, List.flatten_append]
theorem flat_len' {rows : List (List Value)} (h : ∀ r ∈ rows, r.length = k) : rows.flatten.length = rows.length * k := flat_rows rows h
end
section
variable {P : Program} {n : Nat} {ops : Array Oper} {S : World → Prop} {K : Env → World → Prop} {rest : List (Oper × Nat × Bool)} {ρ : Env} {w w0 : World} {L : List HP}
variable {d : Nat} {ty : TypeId} {pos : String} {af : Array Edge} {held : Nat} {need : Bool} {x y : Operand}
/-- the three-index slice -/
theorem x_slice3 {t e size : TypeId} (hu : P.underlying t = some (.slice e)) (hz : Sz P e size) {lo hi mx : Operand} {k1 k2 k3 : IntKind} (ao : Option Addr) (l c i j m : Nat) (hx : ev ρ x = .slice ao l c) (hlo : ev ρ lo = .int k1 i) (hhi : ev ρ hi = .int k2 j) (hmx : ev ρ mx = .int k3 m) (hij : i ≤ j) (hj : j ≤ m) (hm : m ≤ c)
    (h : RX P n ops S K rest (upd n ρ d (.slice (if m = i then ao else ao.map (·.add (i * size))) (j - i) (m - i))) w) (hn : (Nat.blt held 3 && (Nat.blt 0 held || !need)) = true := by rfl) :
    RX P n ops S K ((⟨some d, .slice t x (some lo) (some hi) (some mx), ty, pos, af, none⟩, held, need) :: rest) ρ w :=
  x_pure rfl hn (fun w => by
    have hr := hz w
    have e1 : ev ρ hi = .int k2 (j : Int) := hhi
    simp [execOp, hx, hlo, hhi, hmx, Instr.sliceAt, Instr.slice, run_underlying hu, Instr.sliceBounds, Instr.sliceBound, asIntOf, hr, hij, hj, hm]) h
/-- 'append(s[:i], s[i+1:]...)': all behind i go one place ahead -/
theorem run_appendDel {t e size bytes : TypeId} {z : Value} (ht : P.underlying t = some (.slice e)) (he : EI P e z size bytes) {b off c m i : Nat} {xs : List Value} (hs : Sat w0 w (Row e size (.slice (some ⟨b, off, none⟩) m c) m xs :: L)) (hi : i < m) (h1 : ∀ u ∈ xs, u.oneCell' = true) :
    ∃ w', (Builtin.append_ #[t, t] ty #[slVal (some ⟨b, off, none⟩) m c 0 i size, slVal (some ⟨b, off, none⟩) m c (i + 1) m size]).run P w = .ok (.slice (some ⟨b, off, none⟩) (m - 1) c) w' ∧
      Sat w0 w' (Row e size (.slice (some ⟨b, off, none⟩) m c) m (xs.take (i * size) ++ xs.drop ((i + 1) * size) ++ xs.drop ((m - 1) * size)) :: L) := by
  have hrd := hs.rd
  rcases hs.row with ⟨h0, _⟩ | ⟨b', off', cap, cur, e1, g1, g2, g3, g4, hb⟩
  · cases h0
  · cases e1
    obtain ⟨ti, hti, hz, hsz, hby, hzs, hpos⟩ := id he
    have hm : m * size ≤ c * size := Nat.mul_le_mul_right _ g1
    have hxl : xs.length = m * size := hrd.1
    have him : (i + 1) * size ≤ m * size := Nat.mul_le_mul_right _ hi
    have hi1 : (i + 1) * size = i * size + size := by rw [Nat.add_mul, Nat.one_mul]
    have hm1 : (m - 1) * size = m * size - size := by rw [Nat.sub_mul, Nat.one_mul]
    have hd : (m - (i + 1)) * size = m * size - (i + 1) * size := Nat.sub_mul ..
    have ex : slVal (some ⟨b, off, none⟩) m c 0 i size = .slice (some ⟨b, off, none⟩) i c := by
      unfold slVal
      rw [if_neg (by omega)]
      simp [Addr.add_lit]
    have hread : ∀ j u, (xs.drop ((i + 1) * size))[j]? = some u → w.cell? ⟨b, off + (i + 1) * size + j, none⟩ = some u := fun j u hj => by
      rw [List.getElem?_drop] at hj
      rw [Nat.add_assoc]
      exact hs.rowCell hj
    have hcur : ∀ j, j < m * size → cur.toList[off + j]? = xs[j]? := fun j hj => by
      rw [← g4, List.getElem?_take_of_lt hj, List.getElem?_drop]
    by_cases hlast : i + 1 = m
    · have ey : ∃ a, slVal (some ⟨b, off, none⟩) m c (i + 1) m size = .slice (some a) 0 (c - (i + 1)) := by
        unfold slVal
        rw [show m - (i + 1) = 0 from by omega]
        split
        · exact ⟨_, rfl⟩
        · exact ⟨_, rfl⟩
      obtain ⟨a, ey⟩ := ey
      refine ⟨w, ?_, ?_⟩
      · rw [ex, ey, run_append_zero ht he (show i ≤ c by omega), show m - 1 = i from by omega]
      · have e2 : xs.take (i * size) ++ xs.drop ((i + 1) * size) ++ xs.drop ((m - 1) * size) = xs := by
          rw [List.drop_of_length_le (i := (i + 1) * size) (by rw [hxl, hlast]; omega), List.append_nil, show m - 1 = i from by omega, List.take_append_drop]
        rw [e2]
        exact hs
    · have ey : slVal (some ⟨b, off, none⟩) m c (i + 1) m size = .slice (some ⟨b, off + (i + 1) * size, none⟩) (m - (i + 1)) (c - (i + 1)) := by
        unfold slVal
        rw [if_neg (by omega)]
        simp [Addr.add_lit]
      subst hsz
      have hr := run_append_off (P := P) (ty := ty) ht hti b off i c cur hb.blk ⟨b, off + (i + 1) * ti.size, none⟩ (m - (i + 1)) (c - (i + 1)) (xs.drop ((i + 1) * ti.size)) (by simp only [List.length_drop]; omega) (fun j u hj => by rw [Addr.add_lit]; exact hread j u hj)
        (fun u hu => h1 u (List.mem_of_mem_drop hu)) (by omega) (by simp only [List.length_drop]; omega)
      refine ⟨w.setRow b (cur.toList.take (off + i * ti.size) ++ xs.drop ((i + 1) * ti.size) ++ cur.toList.drop (off + i * ti.size + (xs.drop ((i + 1) * ti.size)).length)).toArray, ?_, ?_⟩
      · rw [ex, ey, hr, show i + (m - (i + 1)) = m - 1 from by omega]
      · refine Sat.rowOf (hb.write (w' := w.setRow b (cur.toList.take (off + i * ti.size) ++ xs.drop ((i + 1) * ti.size) ++ cur.toList.drop (off + i * ti.size + (xs.drop ((i + 1) * ti.size)).length)).toArray) (o' := .cells (cur.toList.take (off + i * ti.size) ++ xs.drop ((i + 1) * ti.size) ++ cur.toList.drop (off + i * ti.size + (xs.drop ((i + 1) * ti.size)).length)).toArray e (0, 0)) rfl rfl rfl (setRow_size w b _) (fun k hk => setRow_other w b k _ hk) (setRow_heap w b cur _ e _ hb.blk)) g1 g2 ?_ ?_
        · simp only [List.size_toArray, List.length_append, List.length_take, List.length_drop, Array.length_toList]
          omega
        · simp only [List.length_drop, hxl]
          apply List.ext_getElem?
          intro j
          by_cases hj : j < m * ti.size
          · have l1 : (cur.toList.take (off + i * ti.size)).length = off + i * ti.size := by simp; omega
            have l2 : (xs.take (i * ti.size)).length = i * ti.size := by simp; omega
            have l3 : (xs.drop ((i + 1) * ti.size)).length = m * ti.size - (i + 1) * ti.size := by simp; omega
            rw [List.getElem?_take_of_lt hj, List.getElem?_drop, List.append_assoc, List.append_assoc]
            by_cases c1 : j < i * ti.size
            · rw [List.getElem?_append_left (by omega), List.getElem?_append_left (by omega), List.getElem?_take_of_lt (by omega), List.getElem?_take_of_lt c1]
              exact hcur j hj
            · rw [List.getElem?_append_right (by omega : (cur.toList.take (off + i * ti.size)).length ≤ off + j), l1, show off + j - (off + i * ti.size) = j - i * ti.size from by omega, List.getElem?_append_right (by omega : (xs.take (i * ti.size)).length ≤ j), l2]
              by_cases c2 : j - i * ti.size < m * ti.size - (i + 1) * ti.size
              · rw [List.getElem?_append_left (by omega), List.getElem?_append_left (by omega)]
              · have c3 : (xs.drop ((i + 1) * ti.size)).length ≤ j - i * ti.size := by omega
                rw [List.getElem?_append_right c3, List.getElem?_append_right c3, l3, List.getElem?_drop, List.getElem?_drop]
                rw [show off + i * ti.size + (m * ti.size - (i + 1) * ti.size) + (j - i * ti.size - (m * ti.size - (i + 1) * ti.size)) = off + j from by omega, show (m - 1) * ti.size + (j - i * ti.size - (m * ti.size - (i + 1) * ti.size)) = j from by omega]
                exact hcur j hj
          · rw [List.getElem?_eq_none (by simp; omega), List.getElem?_eq_none (by simp; omega)]
theorem x_appendDel {t e size bytes : TypeId} {z : Value} (ht : P.underlying t = some (.slice e)) (he : EI P e z size bytes) {b off c m i : Nat} {xs : List Value} (hs : Sat w0 w (Row e size (.slice (some ⟨b, off, none⟩) m c) m xs :: L)) (hi : i < m) (h1 : ∀ u ∈ xs, u.oneCell' = true)
    (hx : ev ρ x = slVal (some ⟨b, off, none⟩) m c 0 i size) (hy : ev ρ y = slVal (some ⟨b, off, none⟩) m c (i + 1) m size)
    (h : ∀ w', Sat w0 w' (Row e size (.slice (some ⟨b, off, none⟩) m c) m (xs.take (i * size) ++ xs.drop ((i + 1) * size) ++ xs.drop ((m - 1) * size)) :: L) → (need = true → S w') ∧ RX P n ops S K rest (upd n ρ d (.slice (some ⟨b, off, none⟩) (m - 1) c)) w') :
    RX P n ops S K ((⟨some d, .call { callee := .builtin .append, args := #[x, y], argTypes := #[t, t] }, ty, pos, af, none⟩, 0, need) :: rest) ρ w := by
  obtain ⟨w', hrun, hs'⟩ := run_appendDel (ty := ty) ht he hs hi h1
  obtain ⟨h2, h3⟩ := h w' hs'
  exact x_turn rfl (by simp [execOp, resolve, invoke, builtin, hx, hy, hrun]) h2 h3
/-- 'clear(s[p:p+1])' of a row -/
theorem x_clear1 {t e size bytes : TypeId} {z : Value} (ht : P.underlying t = some (.slice e)) (he : EI P e z size bytes) (hz1 : z.cells.toList.all (fun u => u.oneCell') = true) {b off c m p cc : Nat} {xs : List Value} (hs : Sat w0 w (Row e size (.slice (some ⟨b, off, none⟩) m c) m xs :: L)) (hp : p < m)
    (hx : ev ρ x = .slice (some ⟨b, off + p * size, none⟩) 1 cc)
    (h : ∀ w' ys, ys.take (p * size) = xs.take (p * size) → Sat w0 w' (Row e size (.slice (some ⟨b, off, none⟩) m c) m ys :: L) → (need = true → S w') ∧ RX P n ops S K rest ρ w') :
    RX P n ops S K ((⟨none, .call { callee := .builtin .clear, args := #[x], argTypes := #[t] }, ty, pos, af, none⟩, 0, need) :: rest) ρ w := by
  rcases hs.row with ⟨h0, _⟩ | ⟨b', off', cap, cur, e1, g1, g2, g3, g4, hb⟩
  · cases h0
  · cases e1
    obtain ⟨ti, hti, hz, hsz, hby, hzs, hpos⟩ := id he
    have hm : m * size ≤ c * size := Nat.mul_le_mul_right _ g1
    have hpm : (p + 1) * size ≤ m * size := Nat.mul_le_mul_right _ hp
    have hp1 : (p + 1) * size = p * size + size := by rw [Nat.add_mul, Nat.one_mul]
    have hzc : (Builtin.zeroCells z.cells 1).toList.length = size := by simp [size_zeroCells, hzs]
    have hone : ∀ v ∈ (Builtin.zeroCells z.cells 1).toList, v.oneCell' = true := fun v hv => by
      simp only [Builtin.zeroCells, Array.toList_map, List.mem_map] at hv
      obtain ⟨j, hj, rfl⟩ := hv
      have hlt : j % z.cells.size < z.cells.size := Nat.mod_lt _ (by omega)
      have : z.cells[j % z.cells.size]! = z.cells[j % z.cells.size] := by simp [hlt]
      rw [this]
      exact List.all_eq_true.1 hz1 _ (Array.getElem_mem_toList hlt)
    have hst := run_storeCells_at P b (off + p * size) e (Builtin.zeroCells z.cells 1).toList 0 cur w hb.blk (by rw [hzc]; omega) hone
    simp only [Nat.add_zero, hzc] at hst
    have hrow := Sat.rowOf (size := size) (off := off) (cap := c) (n := m) (hb.write (w' := w.setRow b (cur.toList.take (off + p * size) ++ (Builtin.zeroCells z.cells 1).toList ++ cur.toList.drop (off + p * size + size)).toArray) (o' := .cells (cur.toList.take (off + p * size) ++ (Builtin.zeroCells z.cells 1).toList ++ cur.toList.drop (off + p * size + size)).toArray e (0, 0)) rfl rfl rfl (setRow_size w b _) (fun k hk => setRow_other w b k _ hk) (setRow_heap w b cur _ e _ hb.blk)) g1 g2 (by
        simp only [List.size_toArray, List.length_append, List.length_take, List.length_drop, Array.length_toList, hzc]
        omega) rfl
    obtain ⟨h2, h3⟩ := h _ _ (by
      rw [List.take_take, Nat.min_eq_left (by omega), List.append_assoc, List.drop_append_of_le_length (by simp; omega), List.drop_take, Nat.add_sub_cancel_left, List.take_append_of_le_length (by simp; omega), List.take_of_length_le (by simp; omega), ← g4, List.take_take, Nat.min_eq_left (by omega)]) hrow
    rw [RX_cons, if_neg (by decide), if_pos (by simp [Region.wanted]), if_pos rfl]
    have hr : (execOp (ev ρ) ⟨none, .call { callee := .builtin .clear, args := #[x], argTypes := #[t] }, ty, pos, af, none⟩).run P w = .ok (.value (.tuple #[])) (w.setRow b (cur.toList.take (off + p * size) ++ (Builtin.zeroCells z.cells 1).toList ++ cur.toList.drop (off + p * size + size)).toArray) := by
      simp [execOp, resolve, invoke, builtin, hx, Builtin.clear_, run_underlying ht, zeroValue, typeInfo, hti, hz, hst]
    simp only [wpE, hr]
    exact ⟨h2, h3⟩
/-- the first ones of a row -/
theorem Sat.rowShrink {e size m m' c : Nat} {a : Option Addr} {xs : List Value} (hs : Sat w0 w (Row e size (.slice a m c) m xs :: L)) (h : m' ≤ m) (hp : 0 < m) : Sat w0 w (Row e size (.slice a m' c) m' (xs.take (m' * size)) :: L) := by
  rcases hs.row with ⟨h0, h1, _⟩ | ⟨b', off', cap, cur, e1, g1, g2, g3, g4, hb⟩
  · omega
  · cases e1
    have hm : m' * size ≤ m * size := Nat.mul_le_mul_right _ h
    refine hb.rowOf (by omega) g2 g3 ?_
    rw [← g4, List.take_take, Nat.min_eq_left hm]
end
/-- functions whose first result is a variable of an aggregate's type -/
theorem enterC3 {P : Program} {n : Nat} {f : FuncId} {fn : Func} {c : Code} {l : List Value} {w : World} {R : Ending → World → Prop} {T k : TypeId} (hf : P.funcs[f]? = some fn) (hb : fn.body = some c) (hn : fn.ntmps = n) (hT : Agg P T k) (t u v : Tmp) (hr : fn.results = #[.cell t T, .tmp u, .tmp v]) (hsz : l.length ≤ n)
    (h : CW P n c (fun e ρ w => (e = .normal ∨ e = .ret) ∧ ∃ (b : Nat) (cs : List Value), ρ t = .pointer (some ⟨b, 0, none⟩) ∧ cs.length = k ∧ (∀ (j : Nat) (x : Value), cs[j]? = some x → w.cell? ⟨b, j, none⟩ = some x) ∧ R (.returned (.tuple #[.agg cs.toArray, ρ u, ρ v])) w) (args0 l) w) : Calls P f l.toArray w R := by
  refine calls_of_wp hf hb ?_
  rw [hn]
  refine Go.wp_mono (h _ ⟨rfl, by simp; omega, enter_get l n⟩) ?_
  intro e a w ⟨ρ', h1, h2, b, cs, hp, hl, hc, h3⟩
  have key : (results fn a.tmps).run P w = .ok (.tuple #[.agg cs.toArray, ρ' u, ρ' v]) w := by
    subst hl
    have hload := run_loadCells_list (P := P) w ⟨b, 0, none⟩ cs fun j x hj => by rw [Addr.add_lit, Nat.zero_add]; exact hc j x hj
    simp only [results, hr]
    have e1 := h1.get t
    have e2 := h1.get u
    have e3 := h1.get v
    rw [Array.getD_eq_getD_getElem?] at e1 e2 e3
    simp [e1, e2, e3, hp, asAddr, loadVar, hT.1, hT.2, hload]
  rcases h2 with rfl | rfl
  · exact ⟨h1.defers, _, key, h3⟩
  · exact ⟨h1.defers, _, key, h3⟩
theorem enterC1 {P : Program} {n : Nat} {f : FuncId} {fn : Func} {c : Code} {l : List Value} {w : World} {R : Ending → World → Prop} {T k : TypeId} (hf : P.funcs[f]? = some fn) (hb : fn.body = some c) (hn : fn.ntmps = n) (hT : Agg P T k) (t : Tmp) (hr : fn.results = #[.cell t T]) (hsz : l.length ≤ n)
    (h : CW P n c (fun e ρ w => (e = .normal ∨ e = .ret) ∧ ∃ (b : Nat) (cs : List Value), ρ t = .pointer (some ⟨b, 0, none⟩) ∧ cs.length = k ∧ (∀ (j : Nat) (x : Value), cs[j]? = some x → w.cell? ⟨b, j, none⟩ = some x) ∧ R (.returned (.agg cs.toArray)) w) (args0 l) w) : Calls P f l.toArray w R := by
  refine calls_of_wp hf hb ?_
  rw [hn]
  refine Go.wp_mono (h _ ⟨rfl, by simp; omega, enter_get l n⟩) ?_
  intro e a w ⟨ρ', h1, h2, b, cs, hp, hl, hc, h3⟩
  have key : (results fn a.tmps).run P w = .ok (.agg cs.toArray) w := by
    subst hl
    have hload := run_loadCells_list (P := P) w ⟨b, 0, none⟩ cs fun j x hj => by rw [Addr.add_lit, Nat.zero_add]; exact hc j x hj
    simp only [results, hr]
    have e1 := h1.get t
    rw [Array.getD_eq_getD_getElem?] at e1
    simp [e1, hp, asAddr, loadVar, hT.1, hT.2, hload]
  rcases h2 with rfl | rfl
  · exact ⟨h1.defers, _, key, h3⟩
  · exact ⟨h1.defers, _, key, h3⟩
theorem enterC2 {P : Program} {n : Nat} {f : FuncId} {fn : Func} {c : Code} {l : List Value} {w : World} {R : Ending → World → Prop} {T k : TypeId} (hf : P.funcs[f]? = some fn) (hb : fn.body = some c) (hn : fn.ntmps = n) (hT : Agg P T k) (t u : Tmp) (hr : fn.results = #[.cell t T, .tmp u]) (hsz : l.length ≤ n)
    (h : CW P n c (fun e ρ w => (e = .normal ∨ e = .ret) ∧ ∃ (b : Nat) (cs : List Value), ρ t = .pointer (some ⟨b, 0, none⟩) ∧ cs.length = k ∧ (∀ (j : Nat) (x : Value), cs[j]? = some x → w.cell? ⟨b, j, none⟩ = some x) ∧ R (.returned (.tuple #[.agg cs.toArray, ρ u])) w) (args0 l) w) : Calls P f l.toArray w R := by
  refine calls_of_wp hf hb ?_
  rw [hn]
  refine Go.wp_mono (h _ ⟨rfl, by simp; omega, enter_get l n⟩) ?_
  intro e a w ⟨ρ', h1, h2, b, cs, hp, hl, hc, h3⟩
  have key : (results fn a.tmps).run P w = .ok (.tuple #[.agg cs.toArray, ρ' u]) w := by
    subst hl
    have hload := run_loadCells_list (P := P) w ⟨b, 0, none⟩ cs fun j x hj => by rw [Addr.add_lit, Nat.zero_add]; exact hc j x hj
    simp only [results, hr]
    have e1 := h1.get t
    have e2 := h1.get u
    rw [Array.getD_eq_getD_getElem?] at e1 e2
    simp [e1, e2, hp, asAddr, loadVar, hT.1, hT.2, hload]
  rcases h2 with rfl | rfl
  · exact ⟨h1.defers, _, key, h3⟩
  · exact ⟨h1.defers, _, key, h3⟩
theorem enterC4 {P : Program} {n : Nat} {f : FuncId} {fn : Func} {c : Code} {l : List Value} {w : World} {R : Ending → World → Prop} {T k : TypeId} (hf : P.funcs[f]? = some fn) (hb : fn.body = some c) (hn : fn.ntmps = n) (hT : Agg P T k) (t u v x : Tmp) (hr : fn.results = #[.cell t T, .tmp u, .tmp v, .tmp x]) (hsz : l.length ≤ n)
    (h : CW P n c (fun e ρ w => (e = .normal ∨ e = .ret) ∧ ∃ (b : Nat) (cs : List Value), ρ t = .pointer (some ⟨b, 0, none⟩) ∧ cs.length = k ∧ (∀ (j : Nat) (x : Value), cs[j]? = some x → w.cell? ⟨b, j, none⟩ = some x) ∧ R (.returned (.tuple #[.agg cs.toArray, ρ u, ρ v, ρ x])) w) (args0 l) w) : Calls P f l.toArray w R := by
  refine calls_of_wp hf hb ?_
  rw [hn]
  refine Go.wp_mono (h _ ⟨rfl, by simp; omega, enter_get l n⟩) ?_
  intro e a w ⟨ρ', h1, h2, b, cs, hp, hl, hc, h3⟩
  have key : (results fn a.tmps).run P w = .ok (.tuple #[.agg cs.toArray, ρ' u, ρ' v, ρ' x]) w := by
    subst hl
    have hload := run_loadCells_list (P := P) w ⟨b, 0, none⟩ cs fun j x hj => by rw [Addr.add_lit, Nat.zero_add]; exact hc j x hj
    simp only [results, hr]
    have e1 := h1.get t
    have e2 := h1.get u
    have e3 := h1.get v
    have e4 := h1.get x
    rw [Array.getD_eq_getD_getElem?] at e1 e2 e3 e4
    simp [e1, e2, e3, e4, hp, asAddr, loadVar, hT.1, hT.2, hload]
  rcases h2 with rfl | rfl
  · exact ⟨h1.defers, _, key, h3⟩
  · exact ⟨h1.defers, _, key, h3⟩
end Go.Proofs.Ytiffpkbkmpianaa.X
