/- Distances: the walk. -/
import Derived.Test.YtpchomihojidpaaTy
import Derived.Test.YtpchomihojidpaaSlC
import Derived.Test.YtpchomihojidpaaDg
import Derived.KernelRfl
namespace Go.Proofs.Ytpchomihojidpaa
open Go.SL
set_option linter.unusedVariables false
set_option linter.unusedSimpArgs false
attribute [local irreducible] wpList WD WP Region.wanted Code.wp
theorem fstep_length (W : Nat) (ls : List Int) (i : Nat) : (fstep W ls i).length = ls.length := by unfold fstep; (repeat' split) <;> simp [lowV_length]
theorem bstep_length (W : Nat) (ls : List Int) (i : Nat) : (bstep W ls i).length = ls.length := by unfold bstep; (repeat' split) <;> simp [lowV_length]
theorem fwV_length (W : Nat) (ls : List Int) : ∀ i, (fwV W ls i).length = ls.length
  | 0 => rfl
  | i + 1 => by rw [fwV_succ, fstep_length, fwV_length W ls i]
theorem bwV_length (W : Nat) (ls : List Int) : ∀ i, (bwV W ls i).length = ls.length
  | 0 => rfl
  | i + 1 => by rw [bwV_succ, bstep_length, bwV_length W ls i]
theorem initV_length (vs : List Int) (t : Int) (i : Nat) : (initV vs t i).length = vs.length := by simp [initV]
/-- 0..4096 everywhere -/
def Cap (ls : List Int) : Prop := ∀ k, k < ls.length → 0 ≤ ls.getD k 0 ∧ ls.getD k 0 ≤ 4096
theorem set_getD (ls : List Int) (i k : Nat) (x : Int) (hk : k < ls.length) : (ls.set i x).getD k 0 = if i = k then x else ls.getD k 0 := by
  simp only [List.getD_eq_getElem?_getD, List.getElem?_set]
  by_cases h : i = k
  · subst h; simp [hk]
  · simp [h]
theorem Cap.low {ls : List Int} (h : Cap ls) {i j : Nat} (hi : i < ls.length) (hj : j < ls.length) : Cap (lowV ls i j) := by
  intro k hk
  rw [lowV_length] at hk
  have h1 := h i hi; have h2 := h j hj; have h3 := h k hk
  rw [lowV, set_getD _ _ _ _ hk]
  split <;> omega
theorem Cap.f {W : Nat} {ls : List Int} (h : Cap ls) {i : Nat} (hi : i < ls.length) : Cap (fstep W ls i) := by
  unfold fstep
  have h1 : Cap (if W ≤ i then lowV ls i (i - W) else ls) := by split; exact h.low hi (by omega); exact h
  have h2 : (if W ≤ i then lowV ls i (i - W) else ls).length = ls.length := by split; exact lowV_length _ _ _; rfl
  simp only
  split
  · exact h1.low (by omega) (by omega)
  · exact h1
theorem Cap.b {W : Nat} {ls : List Int} (h : Cap ls) {i : Nat} (hi : i < ls.length) (hd : i % W < W - 1 → i + 1 < ls.length) : Cap (bstep W ls i) := by
  unfold bstep
  have h1 : Cap (if i + W < ls.length then lowV ls i (i + W) else ls) := by split; exact h.low hi (by omega); exact h
  have h2 : (if i + W < ls.length then lowV ls i (i + W) else ls).length = ls.length := by split; exact lowV_length _ _ _; rfl
  simp only
  split
  · exact h1.low (by omega) (by rw [h2]; exact hd (by assumption))
  · exact h1
end Go.Proofs.Ytpchomihojidpaa
