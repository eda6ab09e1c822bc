/- Which one is nearest: the plain law. -/
import Derived.Test.YtpchomihojidpaaTy
import Derived.Test.YtpchomihojidpaaSlC
import Derived.Test.YtpchomihojidpaaDi
import Derived.KernelRfl
namespace Go.Proofs.Ytpchomihojidpaa
open Go.SL
set_option linter.unusedVariables false
set_option linter.unusedSimpArgs false
attribute [local irreducible] wpList WD WP Region.wanted Code.wp
/-- of the cells ahead of i the first of the nearest to q -/
def Best (W : Nat) (vs : List Int) (t : Int) (q i : Nat) : Option Nat → Prop
  | none => ∀ j, j < i → ¬ srcB vs t j
  | some k => k < i ∧ srcB vs t k ∧ ∀ j, j < i → srcB vs t j → man W q k ≤ man W q j ∧ (j < k → man W q k < man W q j)
theorem Best.zero (W : Nat) (vs : List Int) (t : Int) (q : Nat) : Best W vs t q 0 none := fun _ h => absurd h (Nat.not_lt_zero _)
theorem Best.skip {W : Nat} {vs : List Int} {t : Int} {q i : Nat} {o : Option Nat} (b : Best W vs t q i o) (h : ¬ srcB vs t i) : Best W vs t q (i + 1) o := by
  cases o with
  | none => intro j hj; rcases Nat.lt_succ_iff_lt_or_eq.1 hj with h1 | rfl; exact b j h1; exact h
  | some k =>
    obtain ⟨b1, b2, b3⟩ := b
    refine ⟨by omega, b2, fun j hj sj => ?_⟩
    rcases Nat.lt_succ_iff_lt_or_eq.1 hj with h1 | rfl
    · exact b3 j h1 sj
    · exact absurd sj h
theorem Best.first {W : Nat} {vs : List Int} {t : Int} {q i : Nat} (b : Best W vs t q i none) (h : srcB vs t i) : Best W vs t q (i + 1) (some i) := by
  refine ⟨by omega, h, fun j hj sj => ?_⟩
  rcases Nat.lt_succ_iff_lt_or_eq.1 hj with h1 | rfl
  · exact absurd sj (b j h1)
  · exact ⟨Int.le_refl _, fun h => absurd h (Nat.lt_irrefl _)⟩
theorem Best.less {W : Nat} {vs : List Int} {t : Int} {q i k : Nat} (b : Best W vs t q i (some k)) (h : srcB vs t i) (hm : man W q i < man W q k) : Best W vs t q (i + 1) (some i) := by
  obtain ⟨b1, b2, b3⟩ := b
  refine ⟨by omega, h, fun j hj sj => ?_⟩
  rcases Nat.lt_succ_iff_lt_or_eq.1 hj with h1 | rfl
  · have := (b3 j h1 sj).1
    exact ⟨by omega, fun _ => by omega⟩
  · exact ⟨Int.le_refl _, fun h => absurd h (Nat.lt_irrefl _)⟩
theorem Best.keep {W : Nat} {vs : List Int} {t : Int} {q i k : Nat} (b : Best W vs t q i (some k)) (hm : ¬ man W q i < man W q k) : Best W vs t q (i + 1) (some k) := by
  obtain ⟨b1, b2, b3⟩ := b
  refine ⟨by omega, b2, fun j hj sj => ?_⟩
  rcases Nat.lt_succ_iff_lt_or_eq.1 hj with h1 | rfl
  · exact b3 j h1 sj
  · exact ⟨by omega, fun h => by omega⟩
theorem Best.uniq {W : Nat} {vs : List Int} {t : Int} {q : Nat} {o o' : Option Nat} (a : Best W vs t q vs.length o) (b : Best W vs t q vs.length o') : o = o' := by
  cases o with
  | none => cases o' with
    | none => rfl
    | some k => exact absurd b.2.1 (a k b.1)
  | some k => cases o' with
    | none => exact absurd a.2.1 (b k a.1)
    | some k' =>
      have h1 := a.2.2 k' b.1 b.2.1
      have h2 := b.2.2 k a.1 a.2.1
      rcases Nat.lt_trichotomy k k' with h | h | h
      · have := h2.2 h; omega
      · rw [h]
      · have := h1.2 h; omega
/-- what is told of the nearest -/
def oX (W : Nat) : Option Nat → Int | none => 0 | some k => (k % W : Nat)
def oY (W : Nat) : Option Nat → Int | none => 0 | some k => (k / W : Nat)
def oM (W q : Nat) : Option Nat → Int | none => 0 | some k => man W q k
def oF : Option Nat → Bool | none => false | some _ => true
/-- of all cells: what the document tells -/
def oT (W q : Nat) : Option Nat → Int | none => -1 | some k => man W q k
theorem ToV.best {W : Nat} {vs : List Int} {t : Int} {a : List Int} (A : ToV W vs t a) {q : Nat} (hq : q < vs.length) {o : Option Nat} (b : Best W vs t q vs.length o) : a.getD q 0 = oT W q o := by
  cases o with
  | none => exact A.none (fun c hc => b c hc.1 hc) q hq
  | some k =>
    have h := A.some k b.2.1 q hq
    obtain ⟨d, hd, hm⟩ := h.2.2
    have h2 := (b.2.2 d hd.1 hd).1
    simp only [oT]; omega
theorem Dist.zero {W : Nat} {vs : List Int} {t : Int} {ls : List Int} (d : Dist W vs t ls) {k : Nat} (hk : k < vs.length) : ls.getD k 0 = 0 ↔ srcB vs t k := by
  have l := d.s.len
  constructor
  · intro h
    obtain ⟨c, hc, hm⟩ := d.s.near k (by omega) (by omega)
    have : k = c := man_zero (W := W) (by omega)
    rw [this]; exact hc
  · intro h
    have h1 := d.all k k (by omega) h
    rw [man_self] at h1
    have h2 := (d.s.lo k (by omega)).1
    omega
/-- no cell that counts is as near, in the rows ahead of y -/
def RowsNo (W : Nat) (vs : List Int) (t : Int) (q : Nat) (far y : Int) : Prop := ∀ j, srcB vs t j → man W q j = far → y ≤ ((j / W : Nat) : Int)
theorem man_q {W cx cy j : Nat} (h : cx < W) : man W (cy * W + cx) j = ((cx : Int) - ((j % W : Nat) : Int)).natAbs + ((cy : Int) - ((j / W : Nat) : Int)).natAbs := by
  simp only [man, dmX h, dmY h]; omega
theorem best_found {W cx cy x y : Nat} {vs : List Int} {t far : Int} (hcx : cx < W) (hx : x < W) (hmin : ∀ j, srcB vs t j → far ≤ man W (cy * W + cx) j) (hr : RowsNo W vs t (cy * W + cx) far y) (hs : srcB vs t (y * W + x))
    (hm : man W (cy * W + cx) (y * W + x) = far) (hl : ∀ x', x' < x → srcB vs t (y * W + x') → man W (cy * W + cx) (y * W + x') ≠ far) : Best W vs t (cy * W + cx) vs.length (some (y * W + x)) := by
  refine ⟨hs.1, hs, fun j hj sj => ⟨by rw [hm]; exact hmin j sj, fun hlt => ?_⟩⟩
  rw [hm]
  have h1 := hmin j sj
  rcases Int.lt_or_eq_of_le h1 with h2 | h2
  · exact h2
  · exfalso
    have h3 := hr j sj h2.symm
    obtain ⟨a, b, ha, rfl⟩ := dm_at (k := j) (W := W) (by omega)
    rw [dmY ha] at h3
    have h4 : b = y := by
      rcases Nat.lt_or_ge y b with h5 | h5
      · have := Nat.mul_le_mul_right W (show y + 1 ≤ b from h5)
        rw [Nat.add_mul, Nat.one_mul] at this; omega
      · omega
    subst h4
    exact hl a (by omega) sj h2.symm
end Go.Proofs.Ytpchomihojidpaa
