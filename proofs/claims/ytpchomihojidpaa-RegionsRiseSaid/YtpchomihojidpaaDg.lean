/- Distances: the plain law. -/
import Derived.Test.YtpchomihojidpaaTy
import Derived.Test.YtpchomihojidpaaSlC
import Derived.Test.YtpchomihojidpaaDf
import Derived.KernelRfl
namespace Go.Proofs.Ytpchomihojidpaa
open Go.SL
set_option linter.unusedVariables false
set_option linter.unusedSimpArgs false
attribute [local irreducible] wpList WD WP Region.wanted Code.wp
/-- steps from cell a to cell b -/
def man (W a b : Nat) : Int := ((((a % W : Nat) : Int) - ((b % W : Nat) : Int)).natAbs + (((a / W : Nat) : Int) - ((b / W : Nat) : Int)).natAbs : Nat)
/-- a cell that counts -/
def srcB (vs : List Int) (t : Int) (c : Nat) : Prop := c < vs.length ∧ t ≤ vs.getD c 0
/-- nothing is too near -/
structure Sound (W : Nat) (vs : List Int) (t : Int) (ls : List Int) : Prop where
  len : ls.length = vs.length
  lo : ∀ k, k < ls.length → 0 ≤ ls.getD k 0 ∧ ls.getD k 0 ≤ 4096
  near : ∀ k, k < ls.length → ls.getD k 0 < 4096 → ∃ c, srcB vs t c ∧ man W k c ≤ ls.getD k 0
/-- the distances -/
structure Dist (W : Nat) (vs : List Int) (t : Int) (ls : List Int) : Prop where
  s : Sound W vs t ls
  all : ∀ k c, k < ls.length → srcB vs t c → ls.getD k 0 ≤ man W k c
/-- a step to the left or up costs one: then so does a way -/
theorem walkL {g : Nat → Int} (h : ∀ x, g (x + 1) ≤ g x + 1) : ∀ d x, g (x + d) ≤ g x + d
  | 0, x => by simp
  | d + 1, x => by
    have h1 := walkL h d x
    have h2 := h (x + d)
    rw [← Nat.add_assoc]; omega
theorem walkLn {g : Nat → Int} {n : Nat} (h : ∀ x, x + 1 < n → g (x + 1) ≤ g x + 1) : ∀ d x, x + d < n → g (x + d) ≤ g x + d
  | 0, x, _ => by simp
  | d + 1, x, hd => by
    have h1 := walkLn h d x (by omega)
    have h2 := h (x + d) (by omega)
    rw [← Nat.add_assoc]; omega
theorem walkRn {g : Nat → Int} {n : Nat} (h : ∀ x, x + 1 < n → g x ≤ g (x + 1) + 1) : ∀ d x, x + d < n → g x ≤ g (x + d) + d
  | 0, x, _ => by simp
  | d + 1, x, hd => by
    have h1 := walkRn h d x (by omega)
    have h2 := h (x + d) (by omega)
    rw [← Nat.add_assoc]; omega
theorem corners {F B : Nat → Nat → Int} {W H : Nat} (f1 : ∀ x y, x + 1 < W → y < H → F (x + 1) y ≤ F x y + 1) (f2 : ∀ x y, x < W → y + 1 < H → F x (y + 1) ≤ F x y + 1)
    (b0 : ∀ x y, x < W → y < H → B x y ≤ F x y) (b1 : ∀ x y, x + 1 < W → y < H → B x y ≤ B (x + 1) y + 1) (b2 : ∀ x y, x < W → y + 1 < H → B x y ≤ B x (y + 1) + 1)
    {x y sx sy : Nat} (hx : x < W) (hy : y < H) (hsx : sx < W) (hsy : sy < H) (h0 : F sx sy ≤ 0) : B x y ≤ (((x : Int) - sx).natAbs + ((y : Int) - sy).natAbs : Nat) := by
  have e1 := walkRn (g := fun a => B a y) (n := W) (fun a ha => b1 a y ha hy) (max x sx - x) x (by omega)
  have e2 := walkRn (g := fun a => B (max x sx) a) (n := H) (fun a ha => b2 (max x sx) a (by omega) ha) (max y sy - y) y (by omega)
  have e3 := b0 (max x sx) (max y sy) (by omega) (by omega)
  have e4 := walkLn (g := fun a => F a (max y sy)) (n := W) (fun a ha => f1 a (max y sy) ha (by omega)) (max x sx - sx) sx (by omega)
  have e5 := walkLn (g := fun a => F sx a) (n := H) (fun a ha => f2 sx a hsx ha) (max y sy - sy) sy (by omega)
  simp only [show x + (max x sx - x) = max x sx by omega, show y + (max y sy - y) = max y sy by omega, show sx + (max x sx - sx) = max x sx by omega, show sy + (max y sy - sy) = max y sy by omega] at e1 e2 e4 e5
  omega
/-- one cell lowered by another -/
def lowV (ls : List Int) (i j : Nat) : List Int := ls.set i (min (ls.getD i 0) (ls.getD j 0 + 1))
def fstep (W : Nat) (ls : List Int) (i : Nat) : List Int :=
  let a := if W ≤ i then lowV ls i (i - W) else ls
  if 0 < i % W then lowV a i (i - 1) else a
def bstep (W : Nat) (ls : List Int) (i : Nat) : List Int :=
  let a := if i + W < ls.length then lowV ls i (i + W) else ls
  if i % W < W - 1 then lowV a i (i + 1) else a
def fwV (W : Nat) (ls : List Int) (i : Nat) : List Int := (List.range i).foldl (fstep W) ls
def bwV (W : Nat) (ls : List Int) (m : Nat) : List Int := (List.range m).foldl (fun a r => bstep W a (ls.length - 1 - r)) ls
def initV (vs : List Int) (t : Int) (i : Nat) : List Int := (List.range vs.length).map fun k => if k < i then (if t ≤ vs.getD k 0 then 0 else 4096) else 0
theorem fwV_succ (W : Nat) (ls : List Int) (i : Nat) : fwV W ls (i + 1) = fstep W (fwV W ls i) i := by simp [fwV, List.range_succ]
theorem bwV_succ (W : Nat) (ls : List Int) (m : Nat) : bwV W ls (m + 1) = bstep W (bwV W ls m) (ls.length - 1 - m) := by simp [bwV, List.range_succ]
theorem lowV_length (ls : List Int) (i j : Nat) : (lowV ls i j).length = ls.length := by simp [lowV]
end Go.Proofs.Ytpchomihojidpaa
