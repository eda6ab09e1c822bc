/- Regions: labels and parts, the plain law. -/
import Derived.Test.YtpchomihojidpaaTy
import Derived.Test.YtpchomihojidpaaSlC
import Derived.Test.YtpchomihojidpaaRf
import Derived.Test.YtpchomihojidpaaSlD
import Derived.KernelRfl
namespace Go.Proofs.Ytpchomihojidpaa
open Go.SL
set_option linter.unusedVariables false
set_option linter.unusedSimpArgs false
attribute [local irreducible] wpList WD WP Region.wanted Code.wp
structure Part where
  l : Int
  a : Int
  fx : Int
  fy : Int
  x0 : Int
  y0 : Int
  x1 : Int
  y1 : Int
def PartT : Ty Part := { sz := 8, enc := fun p => [.int .i64 p.l, .int .i64 p.a, .int .i64 p.fx, .int .i64 p.fy, .int .i64 p.x0, .int .i64 p.y0, .int .i64 p.x1, .int .i64 p.y1], len := fun _ => rfl, pos := by decide, one := fun x u h => by simp at h; rcases h with rfl | rfl | rfl | rfl | rfl | rfl | rfl | rfl <;> rfl, d := ⟨0, 0, 0, 0, 0, 0, 0, 0⟩ }
def isRoot (vs : List Int) (t : Int) (R : Nat → Nat) (k : Nat) : Bool := decide (t ≤ vs.getD k 0 ∧ R k = k)
def cntR (vs : List Int) (t : Int) (R : Nat → Nat) : Nat → Nat
  | 0 => 0
  | i + 1 => cntR vs t R i + (if isRoot vs t R i = true then 1 else 0)
def areaR (vs : List Int) (t : Int) (R : Nat → Nat) (r : Nat) : Nat → Nat
  | 0 => 0
  | i + 1 => areaR vs t R r i + (if t ≤ vs.getD i 0 ∧ R i = r then 1 else 0)
def lab (vs : List Int) (t : Int) (R : Nat → Nat) (k : Nat) : Nat := if t ≤ vs.getD k 0 then cntR vs t R (R k) + 1 else 0
def labV (vs : List Int) (t : Int) (R : Nat → Nat) (i : Nat) : List Int := (List.range vs.length).map fun k => if k < i then ((lab vs t R k : Nat) : Int) else 0
section
variable {vs : List Int} {t : Int} {R : Nat → Nat}
theorem cntR_mono {i : Nat} : ∀ {j : Nat}, i ≤ j → cntR vs t R i ≤ cntR vs t R j
  | 0, h => by have : i = 0 := (by omega); rw [this]; exact Nat.le_refl _
  | j + 1, h => by
    rcases Nat.lt_or_eq_of_le h with h1 | h1
    · have := cntR_mono (i := i) (j := j) (by omega)
      simp only [cntR]; omega
    · rw [h1]; exact Nat.le_refl _
theorem cntR_lt {r i : Nat} (hr : isRoot vs t R r = true) (h : r < i) : cntR vs t R r < cntR vs t R i := by
  have h1 : cntR vs t R (r + 1) = cntR vs t R r + 1 := by simp only [cntR, hr, if_true]
  have h2 := cntR_mono (vs := vs) (t := t) (R := R) (i := r + 1) (j := i) h
  omega
theorem cntR_le : ∀ i, cntR vs t R i ≤ i
  | 0 => Nat.le_refl _
  | i + 1 => by have := cntR_le i; simp only [cntR]; split <;> omega
theorem areaR_le (r : Nat) : ∀ i, areaR vs t R r i ≤ i
  | 0 => Nat.le_refl _
  | i + 1 => by have := areaR_le r i; simp only [areaR]; split <;> omega
theorem cntR_inj {a b : Nat} (ha : isRoot vs t R a = true) (hb : isRoot vs t R b = true) (h : cntR vs t R a = cntR vs t R b) : a = b := by
  rcases Nat.lt_trichotomy a b with h1 | h1 | h1
  · have := cntR_lt ha h1; omega
  · exact h1
  · have := cntR_lt hb h1; omega
theorem labV_length (i : Nat) : (labV vs t R i).length = vs.length := by simp [labV]
theorem labV_getD {i k : Nat} (hk : k < vs.length) : (labV vs t R i).getD k 0 = if k < i then ((lab vs t R k : Nat) : Int) else 0 := by
  simp only [labV, List.getD_eq_getElem?_getD, List.getElem?_map, List.getElem?_range hk, Option.map_some, Option.getD_some]
theorem labV_zero : labV vs t R 0 = List.replicate vs.length 0 := by
  simp only [labV, Nat.not_lt_zero, if_false]
  apply List.ext_getElem?
  intro i
  by_cases h : i < vs.length <;> simp [h, List.getElem?_replicate]
theorem labV_step {i : Nat} (h : i < vs.length) {x : Int} (hx : x = ((lab vs t R i : Nat) : Int)) : (labV vs t R i).set i x = labV vs t R (i + 1) := by
  apply List.ext_getElem?
  intro k
  rw [List.getElem?_set]
  by_cases hk : k < vs.length
  · simp only [labV, List.getElem?_map, List.getElem?_range hk, Option.map_some, List.length_map, List.length_range]
    by_cases e : i = k
    · subst e; rw [if_pos rfl, if_pos h, hx, if_pos (Nat.lt_succ_self _)]
    · rw [if_neg e]
      by_cases h1 : k < i
      · simp only [h1, show k < i + 1 by omega, if_true]
      · simp only [h1, show ¬ k < i + 1 by omega, if_false]
  · simp only [labV, List.getElem?_map, List.length_map, List.length_range]
    have : (List.range vs.length)[k]? = none := by simp; omega
    rw [this, if_neg (by omega)]
    rfl
theorem labV_skip {i : Nat} (h : ¬ t ≤ vs.getD i 0) : labV vs t R i = labV vs t R (i + 1) := by
  unfold labV
  apply List.map_congr_left
  intro k _
  by_cases e : k = i
  · subst e; rw [if_neg (Nat.lt_irrefl _), if_pos (Nat.lt_succ_self _), lab, if_neg h]; rfl
  · by_cases h1 : k < i
    · simp only [h1, show k < i + 1 by omega, if_true]
    · simp only [h1, show ¬ k < i + 1 by omega, if_false]
/-- the parts of the cells ahead of i, areas up to j -/
structure Pts (W : Nat) (vs : List Int) (t : Int) (R : Nat → Nat) (ps : List Part) (i j : Nat) : Prop where
  len : ps.length = cntR vs t R i
  at' : ∀ r, r < i → isRoot vs t R r = true → (ps.getD (cntR vs t R r) PartT.d).fx = ((r % W : Nat) : Int) ∧ (ps.getD (cntR vs t R r) PartT.d).fy = ((r / W : Nat) : Int) ∧ (ps.getD (cntR vs t R r) PartT.d).a = ((areaR vs t R r j : Nat) : Int)
theorem Pts.skip {W : Nat} {ps : List Part} {i : Nat} (p : Pts W vs t R ps i i) (h : ¬ t ≤ vs.getD i 0) : Pts W vs t R ps (i + 1) (i + 1) := by
  have h1 : ¬ isRoot vs t R i = true := fun h2 => h (of_decide_eq_true h2).1
  refine ⟨by simp only [cntR, h1, if_false]; rw [p.len]; rfl, fun r hr hs => ?_⟩
  have hne : r ≠ i := fun e => by rw [e] at hs; exact h1 hs
  have := p.at' r (by omega) hs
  refine ⟨this.1, this.2.1, ?_⟩
  rw [this.2.2]; simp only [areaR, h, false_and, if_false]; rfl
theorem Pts.mid {W : Nat} {ps : List Part} {i : Nat} (p : Pts W vs t R ps i i) (h : R i ≠ i) : Pts W vs t R ps (i + 1) i := by
  have h1 : ¬ isRoot vs t R i = true := fun h2 => h (of_decide_eq_true h2).2
  refine ⟨by simp only [cntR, h1, if_false]; rw [p.len]; rfl, fun r hr hs => ?_⟩
  have hne : r ≠ i := fun e => by rw [e] at hs; exact h1 hs
  exact p.at' r (by omega) hs
theorem areaR_zero {r n : Nat} (h : ∀ k, k < n → R k ≤ k) : ∀ i, i ≤ r → i ≤ n → areaR vs t R r i = 0
  | 0, _, _ => rfl
  | i + 1, hi, hn => by
    simp only [areaR, areaR_zero (r := r) h i (by omega) (by omega)]
    have : ¬ (t ≤ vs.getD i 0 ∧ R i = r) := fun h2 => by have := h i (by omega); omega
    rw [if_neg this]
theorem Pts.new {W : Nat} {ps : List Part} {i : Nat} {q : Part} (p : Pts W vs t R ps i i) (h : isRoot vs t R i = true) (ha : areaR vs t R i i = 0) (hq : q.fx = ((i % W : Nat) : Int) ∧ q.fy = ((i / W : Nat) : Int) ∧ q.a = 0) : Pts W vs t R (ps ++ [q]) (i + 1) i := by
  refine ⟨by simp only [cntR, h, if_true]; rw [List.length_append, p.len]; rfl, fun r hr hs => ?_⟩
  by_cases e : r = i
  · subst e
    have : (ps ++ [q]).getD (cntR vs t R r) PartT.d = q := by simp [List.getD_eq_getElem?_getD, List.getElem?_append, p.len]
    rw [this, ha]; exact hq
  · have h1 := cntR_lt hs (show r < i by omega)
    have : (ps ++ [q]).getD (cntR vs t R r) PartT.d = ps.getD (cntR vs t R r) PartT.d := by simp [List.getD_eq_getElem?_getD, List.getElem?_append, p.len, h1]
    rw [this]; exact p.at' r (by omega) hs
theorem Pts.bump {W : Nat} {ps : List Part} {i : Nat} {y : Part} (p : Pts W vs t R ps (i + 1) i) (h : t ≤ vs.getD i 0) (hr : isRoot vs t R (R i) = true) (hle : R i ≤ i)
    (hy : y.fx = (ps.getD (cntR vs t R (R i)) PartT.d).fx ∧ y.fy = (ps.getD (cntR vs t R (R i)) PartT.d).fy ∧ y.a = (ps.getD (cntR vs t R (R i)) PartT.d).a + 1) : Pts W vs t R (ps.set (cntR vs t R (R i)) y) (i + 1) (i + 1) := by
  have hlt := cntR_lt hr (show R i < i + 1 by omega)
  refine ⟨by rw [List.length_set, p.len], fun r hr2 hs => ?_⟩
  have h1 := p.at' r hr2 hs
  by_cases e : R i = r
  · subst e
    have : (ps.set (cntR vs t R (R i)) y).getD (cntR vs t R (R i)) PartT.d = y := by simp [List.getD_eq_getElem?_getD, List.getElem?_set, p.len, hlt]
    rw [this, hy.1, hy.2.1, hy.2.2, h1.1, h1.2.1, h1.2.2]
    refine ⟨rfl, rfl, ?_⟩
    simp only [areaR, h, true_and, if_true]; push_cast; rfl
  · have hne : cntR vs t R (R i) ≠ cntR vs t R r := fun e2 => e (cntR_inj hr hs e2)
    have : (ps.set (cntR vs t R (R i)) y).getD (cntR vs t R r) PartT.d = ps.getD (cntR vs t R r) PartT.d := by simp [List.getD_eq_getElem?_getD, List.getElem?_set, hne]
    rw [this]
    refine ⟨h1.1, h1.2.1, ?_⟩
    rw [h1.2.2]
    have : ¬ (t ≤ vs.getD i 0 ∧ R i = r) := fun h2 => e h2.2
    simp only [areaR, if_neg this]; rfl
end
end Go.Proofs.Ytpchomihojidpaa
