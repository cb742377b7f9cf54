/-
  MORE OPERATIONS: bits and shifts of unsigned numbers told as natural numbers, bools, bytes as strings; the ways out of sequences and blocks.
-/
import Derived.Test.YtiffpkbkmpianaaRow
namespace Go.Proofs.Ytiffpkbkmpianaa.X
open Go Go.RowKit
set_option linter.unusedVariables false

section
variable {next : Env → World → Prop} {Q : Exit → Env → World → Prop} {ρ : Env} {w : World} {id i : Nat}
theorem then_n (h : next ρ w) : Then next Q .normal ρ w := h
theorem then_r (h : Q .ret ρ w) : Then next Q .ret ρ w := h
theorem then_x (h : Q (.exit i) ρ w) : Then next Q (.exit i) ρ w := h
theorem inb_n (h : Q .normal ρ w) : InB id Q .normal ρ w := h
theorem inb_r (h : Q .ret ρ w) : InB id Q .ret ρ w := h
theorem inb_e (h : Q .normal ρ w) : InB id Q (.exit id) ρ w := by show (if id = id then Q .normal ρ w else Q (.exit id) ρ w); rw [if_pos rfl]; exact h
theorem inb_x (hne : i ≠ id) (h : Q (.exit i) ρ w) : InB id Q (.exit i) ρ w := by show (if i = id then Q .normal ρ w else Q (.exit i) ρ w); rw [if_neg hne]; exact h
/-- a cut: what holds between two pieces -/
theorem c_cut {P : Program} {n : Nat} {x y : Code} (M : Env → World → Prop) (hx : CW P n x (Then M Q) ρ w) (hy : ∀ ρ w, M ρ w → CW P n y Q ρ w) : CW P n (.seq x y) Q ρ w :=
  c_seq (hx.mono fun e ρ w h => by
    cases e with
    | normal => exact hy ρ w h
    | _ => exact h)
end

section
variable {P : Program} {n : Nat} {ops : Array Oper} {S : World → Prop} {K : Env → World → Prop} {rest : List (Oper × Nat × Bool)} {ρ : Env} {w : World}
variable {d : Nat} {ty : TypeId} {pos : String} {af : Array Edge} {held : Nat} {need : Bool} {xt yt : TypeId} {x y : Operand} {k k' : IntKind}
theorem run_binInt (op : BinOp) (k k' : IntKind) (a b : Int) (r : Value) (hx : ev ρ x = .int k a) (hy : ev ρ y = .int k' b) (hr : ∀ w, (binOp op xt (.int k a) (.int k' b)).run P w = .ok r w) (w : World) :
    (execOp (ev ρ) ⟨some d, .binOp op xt x y yt, ty, pos, af, none⟩).run P w = .ok (.value r) w := by
  have h := hr w
  have hg : (eqGuard op xt x y (.int k a) (.int k' b)).run P w = .ok () w := by
    unfold eqGuard
    split <;> rfl
  show (do let v ← (do eqGuard op xt x y (ev ρ x) (ev ρ y); binOp op xt (ev ρ x) (ev ρ y)); pure (.value v) : Sem Next).run P w = _
  rw [hx, hy]
  simp [hg, h]
/-- shift to the right, of a number not below 0 -/
theorem run_shr0 (a s : Nat) (hs : s ≤ k.bits) (w : World) : (binOp .shr xt (.int k a) (.int k' s)).run P w = .ok (.int k ((a >>> s : Nat) : Int)) w := by
  have h1 : ¬ ((s : Int) < 0) := by omega
  have e : ((a : Int).fdiv (2 ^ s)) = ((a >>> s : Nat) : Int) := by
    rw [Nat.shiftRight_eq_div_pow, Int.fdiv_eq_ediv_of_nonneg _ (by exact Int.pow_nonneg (by decide))]
    simp
  have e2 : min s k.bits = s := Nat.min_eq_left hs
  simp [binOp, Op.shift, h1, e2, e]
theorem run_shr (a s : Nat) (ha : a < 2 ^ k.bits) (w : World) : (binOp .shr xt (.int k a) (.int k' s)).run P w = .ok (.int k ((a >>> s : Nat) : Int)) w := by
  rcases Nat.le_total s k.bits with hs | hs
  · exact run_shr0 a s hs w
  · have h0 := run_shr0 (P := P) (k := k) (k' := k') (xt := xt) a k.bits (Nat.le_refl _) w
    have e1 : a >>> k.bits = 0 := by rw [Nat.shiftRight_eq_div_pow]; exact Nat.div_eq_of_lt ha
    have e2 : a >>> s = 0 := by rw [Nat.shiftRight_eq_div_pow]; exact Nat.div_eq_of_lt (Nat.lt_of_lt_of_le ha (Nat.pow_le_pow_right (by decide) hs))
    have h1 : ¬ ((s : Int) < 0) := by omega
    have h2 : ¬ ((k.bits : Int) < 0) := by omega
    rw [e2]
    rw [e1] at h0
    simp [binOp, Op.shift, h2] at h0
    have e3 : min s k.bits = k.bits := Nat.min_eq_right hs
    simp [binOp, Op.shift, h1, e3, h0]
theorem x_shr (a s : Nat) (hx : ev ρ x = .int k (a : Nat)) (hy : ev ρ y = .int k' (s : Nat)) (ha : a < 2 ^ k.bits) (h : RX P n ops S K rest (upd n ρ d (.int k ((a >>> s : Nat) : Int))) w) (hn : (Nat.blt held 3 && (Nat.blt 0 held || !need)) = true := by rfl) :
    RX P n ops S K ((⟨some d, .binOp .shr xt x y yt, ty, pos, af, none⟩, held, need) :: rest) ρ w :=
  x_pure rfl hn (run_binInt .shr k k' a s _ hx hy (run_shr a s ha)) h
def uns : IntKind → Bool
  | .u8 | .u16 | .u32 | .u64 => true
  | _ => false
theorem wrap_nat (hu : uns k = true) {a : Nat} (ha : a < 2 ^ k.bits) : k.wrap (a : Int) = a := by
  refine wrap_fits ?_ ?_
  · cases k <;> simp [uns] at hu <;> simp [lo]
  · cases k <;> simp [uns] at hu <;> simp only [IntKind.bits] at ha <;> simp only [hi] <;> omega
theorem x_shl (a s : Nat) (hx : ev ρ x = .int k (a : Nat)) (hy : ev ρ y = .int k' (s : Nat)) (hu : uns k = true) (hs : s ≤ k.bits) (hlt : a <<< s < 2 ^ k.bits) (h : RX P n ops S K rest (upd n ρ d (.int k ((a <<< s : Nat) : Int))) w) (hn : (Nat.blt held 3 && (Nat.blt 0 held || !need)) = true := by rfl) :
    RX P n ops S K ((⟨some d, .binOp .shl xt x y yt, ty, pos, af, none⟩, held, need) :: rest) ρ w :=
  x_pure rfl hn (run_binInt .shl k k' a s _ hx hy (fun w => by
    have h1 : ¬ ((s : Int) < 0) := by omega
    have e2 : min s k.bits = s := Nat.min_eq_left hs
    have e : ((a : Int) * 2 ^ s) = ((a <<< s : Nat) : Int) := by rw [Nat.shiftLeft_eq]; simp
    have e3 := wrap_nat hu hlt
    rw [← e] at e3 ⊢
    simp [binOp, Op.shift, h1, e2, e3])) h
theorem x_and (a b : Nat) (hx : ev ρ x = .int k (a : Nat)) (hy : ev ρ y = .int k (b : Nat)) (hu : uns k = true) (ha : a < 2 ^ k.bits) (hb : b < 2 ^ k.bits) (h : RX P n ops S K rest (upd n ρ d (.int k ((a &&& b : Nat) : Int))) w) (hn : (Nat.blt held 3 && (Nat.blt 0 held || !need)) = true := by rfl) :
    RX P n ops S K ((⟨some d, .binOp .and xt x y yt, ty, pos, af, none⟩, held, need) :: rest) ρ w :=
  x_pure rfl hn (run_binInt .and k k a b _ hx hy (fun w => by
    have h1 : (BitVec.ofNat k.bits a &&& BitVec.ofNat k.bits b).toNat = a &&& b := by
      rw [BitVec.toNat_and, BitVec.toNat_ofNat, BitVec.toNat_ofNat, Nat.mod_eq_of_lt ha, Nat.mod_eq_of_lt hb]
    have h2 : a &&& b < 2 ^ k.bits := Nat.and_lt_two_pow _ hb
    simp [binOp, Op.intBits, BitVec.ofInt_natCast, h1, wrap_nat hu h2])) h
/-- the last bit -/
theorem x_and1 (a : Nat) (hx : ev ρ x = .int k (a : Nat)) (hy : ev ρ y = .int k 1) (hu : uns k = true) (h : RX P n ops S K rest (upd n ρ d (.int k ((a % 2 : Nat) : Int))) w) (hn : (Nat.blt held 3 && (Nat.blt 0 held || !need)) = true := by rfl) :
    RX P n ops S K ((⟨some d, .binOp .and xt x y yt, ty, pos, af, none⟩, held, need) :: rest) ρ w :=
  x_pure rfl hn (run_binInt .and k k a 1 _ hx hy (fun w => by
    have hb : 1 ≤ k.bits := by cases k <;> decide
    have h1 : (BitVec.ofNat k.bits a &&& BitVec.ofInt k.bits 1).toNat = a % 2 := by
      rw [show BitVec.ofInt k.bits 1 = BitVec.ofNat k.bits 1 from rfl, BitVec.toNat_and, BitVec.toNat_ofNat, BitVec.toNat_ofNat, Nat.mod_eq_of_lt (a := 1) (Nat.one_lt_two_pow (by omega)), Nat.and_one_is_mod]
      exact Nat.mod_mod_of_dvd a (Nat.pow_dvd_pow 2 hb)
    have h2 : a % 2 < 2 ^ k.bits := Nat.lt_of_lt_of_le (Nat.mod_lt _ (by decide)) (Nat.pow_le_pow_right (n := 2) (by decide) hb)
    have h3 := wrap_nat hu h2
    simp only [binOp, Op.intBits, BitVec.ofInt_natCast, ne_eq, not_true_eq_false, if_false, h1, h3]
    rfl)) h
theorem x_or (a b : Nat) (hx : ev ρ x = .int k (a : Nat)) (hy : ev ρ y = .int k (b : Nat)) (hu : uns k = true) (ha : a < 2 ^ k.bits) (hb : b < 2 ^ k.bits) (h : RX P n ops S K rest (upd n ρ d (.int k ((a ||| b : Nat) : Int))) w) (hn : (Nat.blt held 3 && (Nat.blt 0 held || !need)) = true := by rfl) :
    RX P n ops S K ((⟨some d, .binOp .or xt x y yt, ty, pos, af, none⟩, held, need) :: rest) ρ w :=
  x_pure rfl hn (run_binInt .or k k a b _ hx hy (fun w => by
    have h1 : (BitVec.ofNat k.bits a ||| BitVec.ofNat k.bits b).toNat = a ||| b := by
      rw [BitVec.toNat_or, BitVec.toNat_ofNat, BitVec.toNat_ofNat, Nat.mod_eq_of_lt ha, Nat.mod_eq_of_lt hb]
    have h2 : a ||| b < 2 ^ k.bits := Nat.or_lt_two_pow ha hb
    simp [binOp, Op.intBits, BitVec.ofInt_natCast, h1, wrap_nat hu h2])) h
theorem x_xor (a b : Nat) (hx : ev ρ x = .int k (a : Nat)) (hy : ev ρ y = .int k (b : Nat)) (hu : uns k = true) (ha : a < 2 ^ k.bits) (hb : b < 2 ^ k.bits) (h : RX P n ops S K rest (upd n ρ d (.int k ((a ^^^ b : Nat) : Int))) w) (hn : (Nat.blt held 3 && (Nat.blt 0 held || !need)) = true := by rfl) :
    RX P n ops S K ((⟨some d, .binOp .xor xt x y yt, ty, pos, af, none⟩, held, need) :: rest) ρ w :=
  x_pure rfl hn (run_binInt .xor k k a b _ hx hy (fun w => by
    have h1 : (BitVec.ofNat k.bits a ^^^ BitVec.ofNat k.bits b).toNat = a ^^^ b := by
      rw [BitVec.toNat_xor, BitVec.toNat_ofNat, BitVec.toNat_ofNat, Nat.mod_eq_of_lt ha, Nat.mod_eq_of_lt hb]
    have h2 : a ^^^ b < 2 ^ k.bits := Nat.xor_lt_two_pow ha hb
    simp [binOp, Op.intBits, BitVec.ofInt_natCast, h1, wrap_nat hu h2])) h

/-- comparisons whose outcome is known -/
theorem x_lssT (a b : Int) (hx : ev ρ x = .int k a) (hy : ev ρ y = .int k b) (hp : a < b) (h : RX P n ops S K rest (upd n ρ d (.bool true)) w) (hn : (Nat.blt held 3 && (Nat.blt 0 held || !need)) = true := by rfl) :
    RX P n ops S K ((⟨some d, .binOp .lss xt x y yt, ty, pos, af, none⟩, held, need) :: rest) ρ w :=
  x_lss a b hx hy (by rw [decide_eq_true hp]; exact h) hn
theorem x_lssF (a b : Int) (hx : ev ρ x = .int k a) (hy : ev ρ y = .int k b) (hp : ¬ (a < b)) (h : RX P n ops S K rest (upd n ρ d (.bool false)) w) (hn : (Nat.blt held 3 && (Nat.blt 0 held || !need)) = true := by rfl) :
    RX P n ops S K ((⟨some d, .binOp .lss xt x y yt, ty, pos, af, none⟩, held, need) :: rest) ρ w :=
  x_lss a b hx hy (by rw [decide_eq_false hp]; exact h) hn
theorem x_leqT (a b : Int) (hx : ev ρ x = .int k a) (hy : ev ρ y = .int k b) (hp : a ≤ b) (h : RX P n ops S K rest (upd n ρ d (.bool true)) w) (hn : (Nat.blt held 3 && (Nat.blt 0 held || !need)) = true := by rfl) :
    RX P n ops S K ((⟨some d, .binOp .leq xt x y yt, ty, pos, af, none⟩, held, need) :: rest) ρ w :=
  x_leq a b hx hy (by rw [decide_eq_true hp]; exact h) hn
theorem x_leqF (a b : Int) (hx : ev ρ x = .int k a) (hy : ev ρ y = .int k b) (hp : ¬ (a ≤ b)) (h : RX P n ops S K rest (upd n ρ d (.bool false)) w) (hn : (Nat.blt held 3 && (Nat.blt 0 held || !need)) = true := by rfl) :
    RX P n ops S K ((⟨some d, .binOp .leq xt x y yt, ty, pos, af, none⟩, held, need) :: rest) ρ w :=
  x_leq a b hx hy (by rw [decide_eq_false hp]; exact h) hn
theorem x_gtrT (a b : Int) (hx : ev ρ x = .int k a) (hy : ev ρ y = .int k b) (hp : b < a) (h : RX P n ops S K rest (upd n ρ d (.bool true)) w) (hn : (Nat.blt held 3 && (Nat.blt 0 held || !need)) = true := by rfl) :
    RX P n ops S K ((⟨some d, .binOp .gtr xt x y yt, ty, pos, af, none⟩, held, need) :: rest) ρ w :=
  x_gtr a b hx hy (by rw [decide_eq_true hp]; exact h) hn
theorem x_gtrF (a b : Int) (hx : ev ρ x = .int k a) (hy : ev ρ y = .int k b) (hp : ¬ (b < a)) (h : RX P n ops S K rest (upd n ρ d (.bool false)) w) (hn : (Nat.blt held 3 && (Nat.blt 0 held || !need)) = true := by rfl) :
    RX P n ops S K ((⟨some d, .binOp .gtr xt x y yt, ty, pos, af, none⟩, held, need) :: rest) ρ w :=
  x_gtr a b hx hy (by rw [decide_eq_false hp]; exact h) hn
theorem x_geqT (a b : Int) (hx : ev ρ x = .int k a) (hy : ev ρ y = .int k b) (hp : b ≤ a) (h : RX P n ops S K rest (upd n ρ d (.bool true)) w) (hn : (Nat.blt held 3 && (Nat.blt 0 held || !need)) = true := by rfl) :
    RX P n ops S K ((⟨some d, .binOp .geq xt x y yt, ty, pos, af, none⟩, held, need) :: rest) ρ w :=
  x_geq a b hx hy (by rw [decide_eq_true hp]; exact h) hn
theorem x_geqF (a b : Int) (hx : ev ρ x = .int k a) (hy : ev ρ y = .int k b) (hp : ¬ (b ≤ a)) (h : RX P n ops S K rest (upd n ρ d (.bool false)) w) (hn : (Nat.blt held 3 && (Nat.blt 0 held || !need)) = true := by rfl) :
    RX P n ops S K ((⟨some d, .binOp .geq xt x y yt, ty, pos, af, none⟩, held, need) :: rest) ρ w :=
  x_geq a b hx hy (by rw [decide_eq_false hp]; exact h) hn
theorem x_eqlT (a b : Int) (hx : ev ρ x = .int k a) (hy : ev ρ y = .int k b) (hp : a = b) (h : RX P n ops S K rest (upd n ρ d (.bool true)) w) (hn : (Nat.blt held 3 && (Nat.blt 0 held || !need)) = true := by rfl) :
    RX P n ops S K ((⟨some d, .binOp .eql xt x y yt, ty, pos, af, none⟩, held, need) :: rest) ρ w :=
  x_eql a b hx hy (by rw [decide_eq_true hp]; exact h) hn
theorem x_eqlF (a b : Int) (hx : ev ρ x = .int k a) (hy : ev ρ y = .int k b) (hp : ¬ (a = b)) (h : RX P n ops S K rest (upd n ρ d (.bool false)) w) (hn : (Nat.blt held 3 && (Nat.blt 0 held || !need)) = true := by rfl) :
    RX P n ops S K ((⟨some d, .binOp .eql xt x y yt, ty, pos, af, none⟩, held, need) :: rest) ρ w :=
  x_eql a b hx hy (by rw [decide_eq_false hp]; exact h) hn
theorem x_neqT (a b : Int) (hx : ev ρ x = .int k a) (hy : ev ρ y = .int k b) (hp : a ≠ b) (h : RX P n ops S K rest (upd n ρ d (.bool true)) w) (hn : (Nat.blt held 3 && (Nat.blt 0 held || !need)) = true := by rfl) :
    RX P n ops S K ((⟨some d, .binOp .neq xt x y yt, ty, pos, af, none⟩, held, need) :: rest) ρ w :=
  x_neq a b hx hy (by rw [decide_eq_true hp]; exact h) hn
theorem x_neqF (a b : Int) (hx : ev ρ x = .int k a) (hy : ev ρ y = .int k b) (hp : ¬ (a ≠ b)) (h : RX P n ops S K rest (upd n ρ d (.bool false)) w) (hn : (Nat.blt held 3 && (Nat.blt 0 held || !need)) = true := by rfl) :
    RX P n ops S K ((⟨some d, .binOp .neq xt x y yt, ty, pos, af, none⟩, held, need) :: rest) ρ w :=
  x_neq a b hx hy (by rw [decide_eq_false hp]; exact h) hn
/-- bools -/
theorem run_eqlB (a b : Bool) (hu : P.underlying xt = some .bool) (w : World) : (Op.equal xt (.bool a) (.bool b)).run P w = .ok (a == b) w := by
  have key : ∀ d, (Op.equalIn (d + 1) xt (.bool a) (.bool b)).run P w = .ok (a == b) w := fun d => by simp [Op.equalIn, run_underlying hu]
  exact key 9999
theorem x_neqB (a b : Bool) (hu : P.underlying xt = some .bool) (hx : ev ρ x = .bool a) (hy : ev ρ y = .bool b) (h : RX P n ops S K rest (upd n ρ d (.bool (!(a == b)))) w) (hn : (Nat.blt held 3 && (Nat.blt 0 held || !need)) = true := by rfl) :
    RX P n ops S K ((⟨some d, .binOp .neq xt x y yt, ty, pos, af, none⟩, held, need) :: rest) ρ w :=
  x_pure rfl hn (fun w => by
    have hr := run_eqlB (P := P) a b hu w
    simp only [execOp, hx, hy, eqGuard, binOp]
    simp [hr]) h
theorem x_eqlB (a b : Bool) (hu : P.underlying xt = some .bool) (hx : ev ρ x = .bool a) (hy : ev ρ y = .bool b) (h : RX P n ops S K rest (upd n ρ d (.bool (a == b))) w) (hn : (Nat.blt held 3 && (Nat.blt 0 held || !need)) = true := by rfl) :
    RX P n ops S K ((⟨some d, .binOp .eql xt x y yt, ty, pos, af, none⟩, held, need) :: rest) ρ w :=
  x_pure rfl hn (fun w => by
    have hr := run_eqlB (P := P) a b hu w
    simp only [execOp, hx, hy, eqGuard, binOp]
    simp [hr]) h

/-- bytes -/
def bv (l : List UInt8) : List Value := l.map fun x => .int .u8 x.toNat
theorem bv_len (l : List UInt8) : (bv l).length = l.length := by simp [bv]
theorem bv_one {l : List UInt8} : ∀ u ∈ bv l, u.oneCell' = true := by
  intro u hu
  obtain ⟨x, _, rfl⟩ := List.mem_map.1 hu
  rfl
theorem fold_bytes : ∀ (l : List UInt8) (r : ByteArray), (l.map fun x => ((x.toNat : Nat) : Int)).foldl (fun r n => r.push (UInt8.ofNat n.toNat)) r = ⟨r.data ++ l.toArray⟩
  | [], r => by cases r; simp
  | x :: l, r => by
    rw [List.map_cons, List.foldl_cons, fold_bytes l]
    cases r with
    | mk d => simp [ByteArray.push]
/-- what reads as bytes -/
def RB (w : World) (v : Value) (l : List UInt8) : Prop := RD w 1 v l.length (bv l)
theorem run_toString {src dst e : TypeId} (hs : P.underlying src = some (.slice e)) (he : P.underlying e = some (.int .u8)) (hd : P.underlying dst = some .string) {v : Value} {l : List UInt8} (hr : RB w v l) :
    (convert src dst v).run P w = .ok (.string ⟨l.toArray⟩) w := by
  obtain ⟨h1, ao, c, rfl, h2, h3, h4⟩ := hr
  rw [run_convert_bytes_string w src dst e ao l.length c hs he hd]
  cases ao with
  | none =>
    have hl : l.length = 0 := by have := h3 rfl; omega
    obtain rfl : l = [] := List.eq_nil_of_length_eq_zero hl
    rfl
  | some ad =>
    have hload : (loadCells ad l.length).run P w = .ok ((l.map fun x => ((x.toNat : Nat) : Int)).map (Value.int .u8)).toArray w := by
      have := run_loadCells_list (P := P) w ad (bv l) (h4 ad rfl).2
      rw [bv_len] at this
      rw [this]
      simp [bv]
    rw [run_bytesToString w ad l.length c _ hload, fold_bytes]
    simp
theorem x_str {s t e : TypeId} (hs : P.underlying s = some (.slice e)) (he : P.underlying e = some (.int .u8)) (hd : P.underlying t = some .string) {v : Value} (l : List UInt8) (hr : RB w v l) (hx : ev ρ x = v)
    (h : RX P n ops S K rest (upd n ρ d (.string ⟨l.toArray⟩)) w) : RX P n ops S K ((⟨some d, .convert s t x, ty, pos, af, none⟩, 0, false) :: rest) ρ w :=
  x_read rfl (by
    have hr := run_toString hs he hd hr
    simp [execOp, hx, hr]) h
theorem h_str {s t e : TypeId} (hs : P.underlying s = some (.slice e)) (he : P.underlying e = some (.int .u8)) (hd : P.underlying t = some .string) {v : Value} (l : List UInt8) (hr : ∀ w, S w → RB w v l) (hx : ev ρ x = v)
    (h : RX P n ops S K rest (upd n ρ d (.string ⟨l.toArray⟩)) w) : RX P n ops S K ((⟨some d, .convert s t x, ty, pos, af, none⟩, 1, need) :: rest) ρ w :=
  x_heldr rfl (fun w hS => by
    have hr := run_toString hs he hd (hr w hS)
    simp [execOp, hx, hr]) h
theorem toList_mk (l : List UInt8) : ByteArray.toList ⟨l.toArray⟩ = l := ByteArray.toList_mk l
theorem x_neqS (a b : List UInt8) (hx : ev ρ x = .string ⟨a.toArray⟩) (hy : ev ρ y = .string ⟨b.toArray⟩) (h : RX P n ops S K rest (upd n ρ d (.bool (decide (a ≠ b)))) w) (hn : (Nat.blt held 3 && (Nat.blt 0 held || !need)) = true := by rfl) :
    RX P n ops S K ((⟨some d, .binOp .neq xt x y yt, ty, pos, af, none⟩, held, need) :: rest) ρ w :=
  x_pure rfl hn (fun w => by
    have e : (!(a == b)) = decide (a ≠ b) := by by_cases hab : a = b <;> simp [hab]
    simp only [execOp, hx, hy, eqGuard, binOp, Op.stringOp, toList_mk, e]
    simp) h
theorem x_eqlS (a b : List UInt8) (hx : ev ρ x = .string ⟨a.toArray⟩) (hy : ev ρ y = .string ⟨b.toArray⟩) (h : RX P n ops S K rest (upd n ρ d (.bool (decide (a = b)))) w) (hn : (Nat.blt held 3 && (Nat.blt 0 held || !need)) = true := by rfl) :
    RX P n ops S K ((⟨some d, .binOp .eql xt x y yt, ty, pos, af, none⟩, held, need) :: rest) ρ w :=
  x_pure rfl hn (fun w => by
    have e : (a == b) = decide (a = b) := by by_cases hab : a = b <;> simp [hab]
    simp only [execOp, hx, hy, eqGuard, binOp, Op.stringOp, toList_mk, e]
    simp) h
end
end Go.Proofs.Ytiffpkbkmpianaa.X
