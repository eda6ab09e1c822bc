/- Forests of cells: the plain law of roots and of joining. -/
import Derived.Test.YtpchomihojidpaaTy
import Derived.Test.YtpchomihojidpaaSlC
import Derived.Test.YtpchomihojidpaaDi
import Derived.KernelRfl
namespace Go.Proofs.Ytpchomihojidpaa
open Go.SL
set_option linter.unusedVariables false
set_option linter.unusedSimpArgs false
attribute [local irreducible] wpList WD WP Region.wanted Code.wp
/-- a forest whose cell k hangs at last on R k -/
def Fo (ls : List Int) (R : Nat → Nat) : Prop := ∀ k, k < ls.length → ∃ p : Nat, ls.getD k 0 = p ∧ p ≤ k ∧ R k = (if p = k then k else R p)
theorem Fo.root {ls : List Int} {R : Nat → Nat} (f : Fo ls R) : ∀ k, k < ls.length → R k ≤ k ∧ R (R k) = R k ∧ ls.getD (R k) 0 = R k := by
  intro k
  induction k using Nat.strongRecOn with
  | ind k ih =>
    intro hk
    obtain ⟨p, h1, h2, h3⟩ := f k hk
    by_cases e : p = k
    · rw [if_pos e] at h3
      rw [h3, h3, h1, e]; exact ⟨Nat.le_refl _, rfl, rfl⟩
    · rw [if_neg e] at h3
      have := ih p (by omega) (by omega)
      rw [h3]; exact ⟨by omega, this.2.1, this.2.2⟩
/-- what is gone over hangs on its grandparent -/
theorem Fo.half {ls : List Int} {R : Nat → Nat} (f : Fo ls R) {i p : Nat} (hi : i < ls.length) (h : ls.getD i 0 = p) (hne : p ≠ i) {g : Nat} (hg : ls.getD p 0 = g) : Fo (ls.set i (g : Int)) R ∧ g < i ∧ p < i ∧ R g = R i := by
  obtain ⟨p', a1, a2, a3⟩ := f i hi
  have ep : p' = p := by omega
  subst ep
  rw [if_neg hne] at a3
  obtain ⟨g', b1, b2, b3⟩ := f p' (by omega)
  have eg : g' = g := by omega
  subst eg
  have hR : R g' = R i := by
    rw [a3, b3]
    split
    · rename_i e; rw [e] at b3 ⊢; rw [if_pos rfl] at b3; exact b3
    · rfl
  refine ⟨fun k hk => ?_, by omega, by omega, hR⟩
  rw [List.length_set] at hk
  rw [set_getD _ _ _ _ hk]
  by_cases e : i = k
  · subst e; rw [if_pos rfl]; exact ⟨g', rfl, by omega, by rw [if_neg (by omega), hR]⟩
  · rw [if_neg e]; exact f k hk
/-- two roots joined -/
def joinR (R : Nat → Nat) (a b : Nat) : Nat → Nat := fun k => if R k = max a b then min a b else R k
theorem Fo.join {ls : List Int} {R : Nat → Nat} (f : Fo ls R) {a b : Nat} (ha : a < ls.length) (hb : b < ls.length) (ra : R a = a) (rb : R b = b) : Fo (ls.set (max a b) ((min a b : Nat) : Int)) (joinR R a b) := by
  intro k hk
  rw [List.length_set] at hk
  rw [set_getD _ _ _ _ hk]
  have rM : R (max a b) = max a b := (Nat.le_total a b).elim (fun h => by rw [Nat.max_eq_right h]; exact rb) (fun h => by rw [Nat.max_eq_left h]; exact ra)
  have rm : R (min a b) = min a b := (Nat.le_total a b).elim (fun h => by rw [Nat.min_eq_left h]; exact ra) (fun h => by rw [Nat.min_eq_right h]; exact rb)
  by_cases e : max a b = k
  · rw [if_pos e]
    refine ⟨min a b, rfl, by omega, ?_⟩
    unfold joinR
    rw [← e, rM, if_pos rfl, rm]
    split
    · assumption
    · rfl
  · rw [if_neg e]
    obtain ⟨p, h1, h2, h3⟩ := f k hk
    refine ⟨p, h1, h2, ?_⟩
    unfold joinR
    rw [h3]
    by_cases ep : p = k
    · rw [if_pos ep, if_pos ep, if_neg (fun h => e h.symm)]
    · rw [if_neg ep, if_neg ep]
theorem joinR_same {R : Nat → Nat} {i j : Nat} : joinR R (R i) (R j) i = joinR R (R i) (R j) j := by
  unfold joinR
  by_cases h1 : R i = max (R i) (R j) <;> by_cases h2 : R j = max (R i) (R j)
  · rw [if_pos h1, if_pos h2]
  · rw [if_pos h1, if_neg h2]; omega
  · rw [if_neg h1, if_pos h2]; omega
  · omega
theorem joinR_keep {R : Nat → Nat} {a b i j : Nat} (h : R i = R j) : joinR R a b i = joinR R a b j := by unfold joinR; rw [h]
theorem Fo.trees (n : Nat) : Fo ((List.range n).map fun k : Nat => (k : Int)) id := by
  intro k hk
  simp only [List.length_map, List.length_range] at hk
  exact ⟨k, by simp [List.getD_eq_getElem?_getD, hk], Nat.le_refl _, by simp⟩
/-- two cells that are neighbours, j ahead of i, both at least t -/
def Adj (W : Nat) (vs : List Int) (t : Int) (i j : Nat) : Prop := (0 < i % W ∧ j = i - 1 ∨ W ≤ i ∧ j = i - W) ∧ i < vs.length ∧ t ≤ vs.getD i 0 ∧ t ≤ vs.getD j 0
/-- the sets of the cells ahead of i (and of what `E` tells) -/
structure Sets (W : Nat) (vs : List Int) (t : Int) (E : Nat → Nat → Prop) (ls : List Int) (R : Nat → Nat) : Prop where
  len : ls.length = vs.length
  fo : Fo ls R
  sound : ∀ g : Nat → Nat, (∀ i j, Adj W vs t i j → g i = g j) → ∀ k, k < vs.length → g (R k) = g k
  all : ∀ i j, E i j → R i = R j
theorem Sets.join {W : Nat} {vs : List Int} {t : Int} {E E' : Nat → Nat → Prop} {ls l2 : List Int} {R : Nat → Nat} (s : Sets W vs t E ls R) {i j : Nat} (hi : i < vs.length) (hj : j < vs.length) (ha : Adj W vs t i j) (hE : ∀ a b, E' a b → E a b ∨ (a = i ∧ b = j))
    (hl : l2.length = ls.length) (hf : Fo l2 (joinR R (R i) (R j))) : Sets W vs t E' l2 (joinR R (R i) (R j)) := by
  have l := s.len
  refine ⟨by rw [hl]; exact l, hf, fun g hg k hk => ?_, fun a b h => ?_⟩
  · have h1 := s.sound g hg
    have h2 := hg i j ha
    have h3 : g (R i) = g (R j) := by rw [h1 i hi, h1 j hj, h2]
    unfold joinR
    split
    · rename_i e
      have h4 := h1 k hk
      rw [e] at h4
      rw [← h4]
      rcases Nat.le_total (R i) (R j) with h | h
      · rw [Nat.min_eq_left h, Nat.max_eq_right h, h3]
      · rw [Nat.min_eq_right h, Nat.max_eq_left h, h3]
    · exact h1 k hk
  · rcases hE a b h with h | ⟨rfl, rfl⟩
    · exact joinR_keep (s.all a b h)
    · exact joinR_same
theorem Sets.mono {W : Nat} {vs : List Int} {t : Int} {E E' : Nat → Nat → Prop} {ls : List Int} {R : Nat → Nat} (s : Sets W vs t E ls R) (h : ∀ a b, E' a b → E a b) : Sets W vs t E' ls R := ⟨s.len, s.fo, s.sound, fun a b e => s.all a b (h a b e)⟩
theorem Sets.over {W : Nat} {vs : List Int} {t : Int} {E : Nat → Nat → Prop} {ls : List Int} {R : Nat → Nat} (s : Sets W vs t E ls R) {k : Nat} (hk : k < vs.length) (hj : ∀ i j, Adj W vs t i j → i < vs.length ∧ j < vs.length) : (t ≤ vs.getD (R k) 0 ↔ t ≤ vs.getD k 0) := by
  have := s.sound (fun k => if t ≤ vs.getD k 0 then 1 else 0) (fun i j a => by simp only [if_pos a.2.2.1, if_pos a.2.2.2]) k hk
  by_cases h1 : t ≤ vs.getD (R k) 0 <;> by_cases h2 : t ≤ vs.getD k 0
  · exact ⟨fun _ => h2, fun _ => h1⟩
  · rw [if_pos h1, if_neg h2] at this; omega
  · rw [if_neg h1, if_pos h2] at this; omega
  · exact ⟨fun h => absurd h h1, fun h => absurd h h2⟩
end Go.Proofs.Ytpchomihojidpaa
