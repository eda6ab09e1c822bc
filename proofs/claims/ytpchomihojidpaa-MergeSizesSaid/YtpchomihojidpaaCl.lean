/- Cells that a law picks, row by row. -/
import Derived.Test.YtpchomihojidpaaTy
import Derived.Test.YtpchomihojidpaaSlC
import Derived.Test.YtpchomihojidpaaRb
import Derived.KernelRfl
namespace Go.Proofs.Ytpchomihojidpaa
open Go.SL
set_option linter.unusedVariables false
set_option linter.unusedSimpArgs false
attribute [local irreducible] wpList WD WP Region.wanted Code.wp
def cellOf (W k : Nat) : Cell := ⟨((k % W : Nat) : Int), ((k / W : Nat) : Int)⟩
/-- of the cells ahead of i those that p takes -/
def selC (W : Nat) (p : Nat → Bool) (i : Nat) : List Cell := ((List.range i).filter p).map (cellOf W)
theorem selC_succ (W : Nat) (p : Nat → Bool) (i : Nat) : selC W p (i + 1) = if p i = true then selC W p i ++ [cellOf W i] else selC W p i := by
  unfold selC
  rw [List.range_succ, List.filter_append, List.map_append]
  by_cases h : p i = true
  · rw [if_pos h]; simp only [List.filter_cons, h, if_true, List.filter_nil, List.map_cons, List.map_nil]
  · rw [if_neg h]; simp [List.filter_cons, h]
theorem selC_le (W : Nat) (p : Nat → Bool) (i : Nat) : (selC W p i).length ≤ i := by
  unfold selC; rw [List.length_map]; exact Nat.le_trans (List.length_filter_le _ _) (by simp)
theorem selC_congr {W : Nat} {p q : Nat → Bool} {i : Nat} (h : ∀ k, k < i → p k = q k) : selC W p i = selC W q i := by
  unfold selC
  rw [List.filter_congr fun k hk => h k (List.mem_range.1 hk)]
end Go.Proofs.Ytpchomihojidpaa
