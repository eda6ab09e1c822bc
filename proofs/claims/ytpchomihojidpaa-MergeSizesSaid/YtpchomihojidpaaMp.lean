/- The merge of three grids: the plain law. -/
import Derived.Test.YtpchomihojidpaaTy
import Derived.Test.YtpchomihojidpaaSlC
import Derived.Test.YtpchomihojidpaaGd
import Derived.Test.YtpchomihojidpaaCl
import Derived.KernelRfl
namespace Go.Proofs.Ytpchomihojidpaa
open Go.SL
set_option linter.unusedVariables false
set_option linter.unusedSimpArgs false
attribute [local irreducible] wpList WD WP Region.wanted Code.wp
/-- is a cell at odds? -/
def oddB (b x y : Int) : Bool := decide (x ≠ y ∧ x ≠ b ∧ y ≠ b)
/-- by which: of a cell at odds -/
def whV (which x y : Int) : Int := if which = 0 then x else if which = 1 then y else if which = 2 then min x y else max x y
def mgV (which b x y : Int) : Int := if oddB b x y = true then whV which x y else if x = b then y else x
/-- merged so far: in the base's own row -/
def mgP (which : Int) (bs xs ys : List Int) (i : Nat) : List Int := (List.range bs.length).map fun k => if k < i then mgV which (bs.getD k 0) (xs.getD k 0) (ys.getD k 0) else bs.getD k 0
def mgR (which : Int) (bs xs ys : List Int) (i : Nat) : List Int := (List.range i).map fun k => mgV which (bs.getD k 0) (xs.getD k 0) (ys.getD k 0)
/-- who is at odds -/
def oddP (bs xs ys : List Int) (k : Nat) : Bool := oddB (bs.getD k 0) (xs.getD k 0) (ys.getD k 0)
theorem mgR_succ (which : Int) (bs xs ys : List Int) (i : Nat) : mgR which bs xs ys (i + 1) = mgR which bs xs ys i ++ [mgV which (bs.getD i 0) (xs.getD i 0) (ys.getD i 0)] := by simp [mgR, List.range_succ]
theorem mgR_length (which : Int) (bs xs ys : List Int) (i : Nat) : (mgR which bs xs ys i).length = i := by simp [mgR]
theorem mgP_length (which : Int) (bs xs ys : List Int) (i : Nat) : (mgP which bs xs ys i).length = bs.length := by simp [mgP]
theorem mgP_zero (which : Int) (bs xs ys : List Int) : mgP which bs xs ys 0 = bs := by
  simp only [mgP, Nat.not_lt_zero, if_false]; exact list_getD _
theorem mgP_full (which : Int) (bs xs ys : List Int) : mgP which bs xs ys bs.length = mgR which bs xs ys bs.length := by
  unfold mgP mgR
  apply List.map_congr_left
  intro k hk
  rw [if_pos (List.mem_range.1 hk)]
theorem mgP_getD {which : Int} {bs xs ys : List Int} {i k : Nat} (hk : k < bs.length) : (mgP which bs xs ys i).getD k 0 = if k < i then mgV which (bs.getD k 0) (xs.getD k 0) (ys.getD k 0) else bs.getD k 0 := by
  simp only [mgP, List.getD_eq_getElem?_getD, List.getElem?_map, List.getElem?_range hk, Option.map_some, Option.getD_some]
theorem mgP_step {which : Int} {bs xs ys : List Int} {i : Nat} (h : i < bs.length) {x : Int} (hx : x = mgV which (bs.getD i 0) (xs.getD i 0) (ys.getD i 0)) : (mgP which bs xs ys i).set i x = mgP which bs xs ys (i + 1) := by
  apply List.ext_getElem?
  intro k
  rw [List.getElem?_set]
  by_cases hk : k < bs.length
  · simp only [mgP, List.getElem?_map, List.getElem?_range hk, Option.map_some, List.length_map, List.length_range]
    by_cases e : i = k
    · subst e; rw [if_pos rfl, if_pos h, hx, if_pos (Nat.lt_succ_self _)]
    · rw [if_neg e]
      by_cases h1 : k < i
      · simp only [h1, show k < i + 1 by omega, if_true]
      · simp only [h1, show ¬ k < i + 1 by omega, if_false]
  · simp only [mgP, List.getElem?_map, List.length_map, List.length_range]
    have : (List.range bs.length)[k]? = none := by simp; omega
    rw [this, if_neg (by omega)]
    rfl
theorem mgR_getD {which : Int} {bs xs ys : List Int} {n k : Nat} (hk : k < n) : (mgR which bs xs ys n).getD k 0 = mgV which (bs.getD k 0) (xs.getD k 0) (ys.getD k 0) := by
  simp only [mgR, List.getD_eq_getElem?_getD, List.getElem?_map, List.getElem?_range hk, Option.map_some, Option.getD_some]
theorem mgR_eq {which w2 : Int} {bs xs ys b2 x2 y2 : List Int} {n : Nat} (h : ∀ k, k < n → mgV which (bs.getD k 0) (xs.getD k 0) (ys.getD k 0) = mgV w2 (b2.getD k 0) (x2.getD k 0) (y2.getD k 0)) : mgR which bs xs ys n = mgR w2 b2 x2 y2 n := by
  unfold mgR
  exact List.map_congr_left fun k hk => h k (List.mem_range.1 hk)
theorem mgR_is {which : Int} {bs xs ys zs : List Int} {n : Nat} (hn : zs.length = n) (h : ∀ k, k < n → mgV which (bs.getD k 0) (xs.getD k 0) (ys.getD k 0) = zs.getD k 0) : mgR which bs xs ys n = zs := by
  rw [← list_getD zs, hn]
  unfold mgR
  exact List.map_congr_left fun k hk => h k (List.mem_range.1 hk)
theorem oddB_comm (b x y : Int) : oddB b x y = oddB b y x := by unfold oddB; exact decide_eq_decide.2 ⟨fun h => ⟨fun e => h.1 e.symm, h.2.2, h.2.1⟩, fun h => ⟨fun e => h.1 e.symm, h.2.2, h.2.1⟩⟩
theorem mgV_comm2 (b x y : Int) : mgV 2 b x y = mgV 2 b y x := by
  unfold mgV whV; rw [oddB_comm b y x]
  by_cases h : oddB b x y = true
  · rw [if_pos h, if_pos h]; simp only [show ¬ (2 : Int) = 0 by decide, show ¬ (2 : Int) = 1 by decide, if_false, if_true]; omega
  · rw [if_neg h, if_neg h]; simp only [oddB, decide_eq_true_eq] at h; split <;> split <;> omega
theorem mgV_comm3 (b x y : Int) : mgV 3 b x y = mgV 3 b y x := by
  unfold mgV whV; rw [oddB_comm b y x]
  by_cases h : oddB b x y = true
  · rw [if_pos h, if_pos h]; simp only [show ¬ (3 : Int) = 0 by decide, show ¬ (3 : Int) = 1 by decide, show ¬ (3 : Int) = 2 by decide, if_false]; omega
  · rw [if_neg h, if_neg h]; simp only [oddB, decide_eq_true_eq] at h; split <;> split <;> omega
theorem mgV_even {w : Int} {b x y : Int} (h : oddB b x y = false) : mgV w b x y = mgV w b y x := by
  unfold mgV; rw [oddB_comm b y x, h]; simp only [oddB, decide_eq_false_iff_not] at h
  simp only [Bool.false_eq_true, if_false]; split <;> split <;> omega
theorem mgV_base2 (w b x : Int) : mgV w b x b = x := by unfold mgV oddB; simp; intro h; exact h.symm
theorem mgV_base1 (w b y : Int) : mgV w b b y = y := by unfold mgV oddB; simp
theorem mgV_same (w b x : Int) : mgV w b x x = x := by unfold mgV oddB; simp
theorem oddB_base2 (b x : Int) : oddB b x b = false := by simp [oddB]
theorem oddB_base1 (b y : Int) : oddB b b y = false := by simp [oddB]
theorem oddB_same (b x : Int) : oddB b x x = false := by simp [oddB]
theorem sel_none {W : Nat} {p : Nat → Bool} {n : Nat} (h : ∀ k, k < n → p k = false) : selC W p n = [] := by
  rw [selC_congr (q := fun _ => false) h]; simp [selC]
theorem sel_nil {W : Nat} {p : Nat → Bool} {n : Nat} (h : (selC W p n).length = 0) {k : Nat} (hk : k < n) : p k = false := by
  unfold selC at h
  rw [List.length_map] at h
  have h2 := List.eq_nil_of_length_eq_zero h
  rw [List.filter_eq_nil_iff] at h2
  have := h2 k (List.mem_range.2 hk)
  cases hp : p k with
  | false => rfl
  | true => exact absurd hp this
theorem mgR_ok {which : Int} {bs xs ys : List Int} (hb : OkV bs) (hx : OkV xs) (hy : OkV ys) (h1 : xs.length = bs.length) (h2 : ys.length = bs.length) : OkV (mgR which bs xs ys bs.length) := by
  intro v hv
  simp only [mgR, List.mem_map, List.mem_range] at hv
  obtain ⟨k, hk, rfl⟩ := hv
  have b1 := hb (bs.getD k 0) (getD_mem hk); have b2 := hx (xs.getD k 0) (getD_mem (by omega)); have b3 := hy (ys.getD k 0) (getD_mem (by omega))
  unfold mgV whV
  generalize bs.getD k 0 = p at *; generalize xs.getD k 0 = q at *; generalize ys.getD k 0 = r at *
  (repeat' split) <;> omega
end Go.Proofs.Ytpchomihojidpaa
