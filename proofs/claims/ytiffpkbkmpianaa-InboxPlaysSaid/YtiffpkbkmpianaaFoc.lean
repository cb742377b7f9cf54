/-
  ONE AMONG BYTES: out of a list of owned slices of bytes and back, turned.
-/
import Derived.Test.YtiffpkbkmpianaaFlat
namespace Go.Proofs.Ytiffpkbkmpianaa.X
open Go Go.RowKit
set_option linter.unusedVariables false
theorem EachB.out : ∀ {k : Nat} {vs : List Value} {ls : List (List UInt8)} {v : Value} {l : List UInt8} {L : List HP} {h : PH}, vs[k]? = some v → ls[k]? = some l → SatH (EachB vs ls :: L) h → SatH (BR v l :: EachB (vs.eraseIdx k) (ls.eraseIdx k) :: L) h
  | _, [], _, _, _, _, _, h, _, _ => by simp at h
  | _, _ :: _, [], _, _, _, _, _, h, _ => by simp at h
  | 0, v :: vs, l :: ls, _, _, L, h, h1, h2, hs => by
    simp at h1 h2
    subst h1; subst h2
    exact SatH.flat (Ls := [BR v l, EachB vs ls]) hs
  | k + 1, v1 :: vs, l1 :: ls, v, l, L, h, h1, h2, hs => by
    have h3 : SatH (BR v1 l1 :: EachB vs ls :: L) h := SatH.flat (Ls := [BR v1 l1, EachB vs ls]) hs
    have h4 : SatH (BR v1 l1 :: BR v l :: EachB (vs.eraseIdx k) (ls.eraseIdx k) :: L) h := SatH.cons_mono (fun h hh => EachB.out (by simpa using h1) (by simpa using h2) hh) h3
    have h5 : SatH (BR v l :: BR v1 l1 :: EachB (vs.eraseIdx k) (ls.eraseIdx k) :: L) h := h4.swap
    exact SatH.cons_mono (fun h hh => SatH.unflat (Ls := [BR v1 l1, EachB (vs.eraseIdx k) (ls.eraseIdx k)]) hh) h5
theorem EachB.into : ∀ {k : Nat} {vs : List Value} {ls : List (List UInt8)} {v : Value} {l : List UInt8} {L : List HP} {h : PH}, k < vs.length → k < ls.length → SatH (BR v l :: EachB (vs.eraseIdx k) (ls.eraseIdx k) :: L) h → SatH (EachB (vs.set k v) (ls.set k l) :: L) h
  | _, [], _, _, _, _, _, h, _, _ => by simp at h
  | _, _ :: _, [], _, _, _, _, _, h, _ => by simp at h
  | 0, v :: vs, l :: ls, v', l', L, h, _, _, hs => SatH.unflat (Ls := [BR v' l', EachB vs ls]) hs
  | k + 1, v1 :: vs, l1 :: ls, v, l, L, h, h1, h2, hs => by
    have h3 : SatH (BR v l :: BR v1 l1 :: EachB (vs.eraseIdx k) (ls.eraseIdx k) :: L) h := SatH.cons_mono (fun h hh => SatH.flat (Ls := [BR v1 l1, EachB (vs.eraseIdx k) (ls.eraseIdx k)]) hh) hs
    have h4 : SatH (BR v1 l1 :: EachB (vs.set k v) (ls.set k l) :: L) h := SatH.cons_mono (fun h hh => EachB.into (by simpa using h1) (by simpa using h2) hh) h3.swap
    exact SatH.unflat (Ls := [BR v1 l1, EachB (vs.set k v) (ls.set k l)]) h4
section
variable {w0 w : World} {k : Nat} {vs : List Value} {ls : List (List UInt8)} {v : Value} {l : List UInt8} {L : List HP}
theorem Sat.eachOut (hs : Sat w0 w (EachB vs ls :: L)) (h1 : vs[k]? = some v) (h2 : ls[k]? = some l) : Sat w0 w (BR v l :: EachB (vs.eraseIdx k) (ls.eraseIdx k) :: L) := hs.map fun _ h => EachB.out h1 h2 h
theorem Sat.eachInto (hs : Sat w0 w (BR v l :: EachB (vs.eraseIdx k) (ls.eraseIdx k) :: L)) (h1 : k < vs.length) (h2 : k < ls.length) : Sat w0 w (EachB (vs.set k v) (ls.set k l) :: L) := hs.map fun _ h => EachB.into h1 h2 h
theorem Sat.eachOnes (hs : Sat w0 w (EachB vs ls :: L)) : ∀ u ∈ vs, u.oneCell' = true := fun u hu => by
  obtain ⟨j, hj, rfl⟩ := List.mem_iff_getElem.1 hu
  have hl := hs.eachLen
  obtain ⟨a, c, e⟩ := (hs.eachRB (List.getElem?_eq_getElem hj) (List.getElem?_eq_getElem (show j < ls.length by omega))).val
  rw [e]; rfl
end
/-- the last byte of a number -/
def byt (x : Int) : UInt8 := UInt8.ofNat (x.emod 256).toNat
theorem byt_toNat (x : Int) : ((byt x).toNat : Int) = x.emod 256 := by
  have h1 := Int.emod_nonneg x (b := 256) (by decide)
  have h2 := Int.emod_lt_of_pos x (b := 256) (by decide)
  have h3 : (x.emod 256).toNat < 256 := by
    have : ((x.emod 256).toNat : Int) = x.emod 256 := Int.toNat_of_nonneg h1
    have h4 : x.emod 256 < 256 := h2
    omega
  have h4 : (byt x).toNat = (x.emod 256).toNat := by
    unfold byt
    simp [Nat.mod_eq_of_lt h3]
  rw [h4]
  exact Int.toNat_of_nonneg h1
theorem wrap_byt (x : Int) : IntKind.u8.wrap x = ((byt x).toNat : Nat) := by
  rw [byt_toNat]
  simp only [IntKind.wrap, IntKind.bits, IntKind.signed]
  simp
  rfl
theorem x_convB {P : Program} {n : Nat} {ops : Array Oper} {S : World → Prop} {K : Env → World → Prop} {rest : List (Oper × Nat × Bool)} {ρ : Env} {w : World} {d : Nat} {ty : TypeId} {pos : String} {af : Array Edge} {held : Nat} {need : Bool} {x : Operand} {k : IntKind}
    {s t : TypeId} (hc : Cv P s t .u8) (a : Int) (hx : ev ρ x = .int k a) (h : RX P n ops S K rest (upd n ρ d (.int .u8 ((byt a).toNat : Nat))) w) (hn : (Nat.blt held 3 && (Nat.blt 0 held || !need)) = true := by rfl) :
    RX P n ops S K ((⟨some d, .convert s t x, ty, pos, af, none⟩, held, need) :: rest) ρ w :=
  x_convW hc a hx (by rw [wrap_byt]; exact h) hn
theorem bv_set {l : List UInt8} {i : Nat} {y : UInt8} : (bv l).set i (.int .u8 (y.toNat : Nat)) = bv (l.set i y) := by
  unfold bv
  rw [List.map_set]
theorem bv_take (l : List UInt8) (i : Nat) : (bv l).take i = bv (l.take i) := by
  unfold bv
  rw [List.map_take]
/-- a law's argument: bytes -/
theorem TR.argB {H : Type} {enc : TypeId × Value → H} {P : Program} {w : World} {t e : TypeId} {a : Option Addr} {n c : Nat} (hu : P.underlying t = some (.slice e)) (he : P.underlying e = some (.int .u8)) (hz : P.cellsOf e = 1) (h : TR enc P w t [.slice a n c]) :
    ∃ l : List UInt8, n = l.length ∧ RB w (.slice a l.length c) l ∧ l.length ≤ 9223372036854775807 := by
  obtain ⟨v, l, hv, h1, h2⟩ := h.bytes hu he hz
  obtain rfl : v = .slice a n c := by simpa using hv.symm
  obtain ⟨a', c', e⟩ := h1.val
  cases e
  exact ⟨l, rfl, h1, h2⟩
/-- two cells in a row -/
theorem cells2 {w : World} {b o : Nat} {u v : Value} (h0 : w.cell? ⟨b, o, none⟩ = some u) (h1 : w.cell? ⟨b, o + 1, none⟩ = some v) : ∀ (j : Nat) (x : Value), [u, v][j]? = some x → w.cell? ((⟨b, o, none⟩ : Addr).add j) = some x := fun j x hj => by
  rw [Addr.add_lit]
  match j, hj with
  | 0, hj => cases hj; exact h0
  | 1, hj => cases hj; exact h1
  | j + 2, hj => simp at hj
theorem Sat.cells2 {w0 w : World} {b o : Nat} {cs : Array Value} {T : TypeId} {z : Nat × Nat} {u v : Value} {L : List HP} (hs : Sat w0 w (Blk b (.cells cs T z) :: L)) (h0 : cs[o]? = some u) (h1 : cs[o + 1]? = some v) : ∀ (j : Nat) (x : Value), [u, v][j]? = some x → w.cell? ((⟨b, o, none⟩ : Addr).add j) = some x :=
  X.cells2 (hs.cell h0) (hs.cell h1)
theorem Sat.cellsAt {w0 w : World} {b : Nat} {cs : Array Value} {T : TypeId} {z : Nat × Nat} {L : List HP} (hs : Sat w0 w (Blk b (.cells cs T z) :: L)) : ∀ (j : Nat) (u : Value), cs.toList[j]? = some u → w.cell? ⟨b, j, none⟩ = some u := fun j u hj => hs.cell (by simpa using hj)
section
variable {P : Program} {n : Nat} {ops : Array Oper} {S : World → Prop} {K : Env → World → Prop} {rest : List (Oper × Nat × Bool)} {ρ : Env} {w w0 : World} {L : List HP}
variable {d : Nat} {ty : TypeId} {pos : String} {af : Array Edge} {held : Nat} {need : Bool} {x y : Operand}
theorem x_storeAllI {t T b k : Nat} {cur : Array Value} (hs : Sat w0 w L) (i : Nat) (hx : ev ρ x = .pointer (some ⟨b, 0, none⟩)) (hb : L[i]? = some (Blk b (.cells cur T (0, 0)))) (h1 : Agg P t k) (news : List Value) (hy : ev ρ y = .agg news.toArray) (hk : news.length = k) (hone : news.all (fun u => u.oneCell') = true) (hfit : cur.size = k)
    (h : ∀ w', Sat w0 w' (L.set i (Blk b (.cells news.toArray T (0, 0)))) → (need = true → S w') ∧ RX P n ops S K rest ρ w') :
    RX P n ops S K ((⟨none, .store t x y, ty, pos, af, none⟩, 0, need) :: rest) ρ w :=
  x_storeAll (hs.at i hb) h1 news hx hy hk hone hfit fun w' hs' => h w' (hs'.putAt (List.getElem?_eq_some_iff.1 hb).1)
end
end Go.Proofs.Ytiffpkbkmpianaa.X
