/- Grids that are turned, cropped, put together: the plain law. -/
import Derived.Test.YtpchomihojidpaaTy
import Derived.Test.YtpchomihojidpaaSlC
import Derived.Test.YtpchomihojidpaaGh
import Derived.Test.YtpchomihojidpaaDd
import Derived.KernelRfl
namespace Go.Proofs.Ytpchomihojidpaa
open Go.SL
set_option linter.unusedVariables false
set_option linter.unusedSimpArgs false
attribute [local irreducible] wpList WD WP Region.wanted Code.wp
/-- a grid's cells out of a function of column and row; the first n of them -/
def genP (w n : Nat) (f : Nat → Nat → Int) : List Int := (List.range n).map fun k => f (k % w) (k / w)
def gen (w h : Nat) (f : Nat → Nat → Int) : List Int := genP w (h * w) f
def at2 (W : Nat) (vs : List Int) (x y : Nat) : Int := vs.getD (y * W + x) 0
theorem genP_length (w n : Nat) (f : Nat → Nat → Int) : (genP w n f).length = n := by simp [genP]
theorem gen_length (w h : Nat) (f : Nat → Nat → Int) : (gen w h f).length = w * h := by rw [gen, genP_length, Nat.mul_comm]
theorem genP_zero (w : Nat) (f : Nat → Nat → Int) : genP w 0 f = [] := rfl
theorem genP_step {w j i : Nat} {f : Nat → Nat → Int} (hi : i < w) : genP w (j * w + i) f ++ [f i j] = genP w (j * w + (i + 1)) f := by
  obtain ⟨h1, h2⟩ := (idx_iff (y := j) hi).1 rfl
  unfold genP
  rw [← Nat.add_assoc, List.range_succ, List.map_append, List.map_singleton, h1, h2]
theorem genP_row {w j : Nat} {f : Nat → Nat → Int} : genP w (j * w + w) f = genP w ((j + 1) * w) f := by rw [Nat.succ_mul]
theorem gen_getD {w h x y : Nat} {f : Nat → Nat → Int} (hx : x < w) (hy : y < h) : (gen w h f).getD (y * w + x) 0 = f x y := by
  obtain ⟨h1, h2⟩ := (idx_iff (y := y) hx).1 rfl
  have h3 : y * w + x < h * w := by have := cell_lt hx hy; rwa [Nat.mul_comm w h] at this
  unfold gen genP
  rw [List.getD_eq_getElem?_getD, List.getElem?_map, List.getElem?_range h3, Option.map_some, Option.getD_some, h1, h2]
theorem gen_congr {w h : Nat} {f g : Nat → Nat → Int} (e : ∀ x y, x < w → y < h → f x y = g x y) : gen w h f = gen w h g := by
  unfold gen genP
  apply List.map_congr_left
  intro k hk
  have hk := List.mem_range.1 hk
  have hw : 0 < w := by rcases Nat.eq_zero_or_pos w with h | h
                        · rw [h, Nat.mul_zero] at hk; omega
                        · exact h
  exact e _ _ (Nat.mod_lt _ hw) (Nat.div_lt_of_lt_mul (by rw [Nat.mul_comm]; exact hk))
theorem gen_self {w h : Nat} {vs : List Int} (hl : vs.length = w * h) : gen w h (at2 w vs) = vs := by
  have : gen w h (at2 w vs) = (List.range vs.length).map fun k => vs.getD k 0 := by
    unfold gen genP at2
    rw [hl, Nat.mul_comm]
    apply List.map_congr_left
    intro k _
    rw [Nat.mul_comm (k / w), Nat.div_add_mod]
  rw [this, list_getD]
theorem gen_ok {w h : Nat} {f : Nat → Nat → Int} (e : ∀ x y, x < w → y < h → -2147483648 ≤ f x y ∧ f x y ≤ 2147483647) : OkV (gen w h f) := by
  intro v hv
  unfold gen genP at hv
  obtain ⟨k, hk, rfl⟩ := List.mem_map.1 hv
  have hk := List.mem_range.1 hk
  have hw : 0 < w := by rcases Nat.eq_zero_or_pos w with h | h
                        · rw [h, Nat.mul_zero] at hk; omega
                        · exact h
  exact e _ _ (Nat.mod_lt _ hw) (Nat.div_lt_of_lt_mul (by rw [Nat.mul_comm]; exact hk))
theorem at2_ok {W H x y : Nat} {vs : List Int} (hk : OkV vs) (hl : vs.length = W * H) (hx : x < W) (hy : y < H) : -2147483648 ≤ at2 W vs x y ∧ at2 W vs x y ≤ 2147483647 :=
  hk _ (getD_mem (by rw [hl]; exact cell_lt hx hy))
theorem gen_eta {w h : Nat} {vs : List Int} {f : Nat → Nat → Int} (hl : vs.length = w * h) (e : ∀ x y, x < w → y < h → f x y = at2 w vs x y) : gen w h f = vs := by
  rw [gen_congr e, gen_self hl]
theorem at2_gen {w h x y : Nat} {f : Nat → Nat → Int} (hx : x < w) (hy : y < h) : at2 w (gen w h f) x y = f x y := gen_getD hx hy
/-! swapped, mirrored, turned -/
def swapV (W H : Nat) (vs : List Int) : List Int := gen H W fun x y => at2 W vs y x
def mirV (W H : Nat) (vs : List Int) : List Int := gen W H fun x y => at2 W vs (W - 1 - x) y
def q1V (W H : Nat) (vs : List Int) : List Int := gen H W fun x y => at2 W vs y (H - 1 - x)
def q2V (W H : Nat) (vs : List Int) : List Int := gen W H fun x y => at2 W vs (W - 1 - x) (H - 1 - y)
def q3V (W H : Nat) (vs : List Int) : List Int := gen H W fun x y => at2 W vs (W - 1 - y) x
def qW (k W H : Nat) : Nat := if k = 1 ∨ k = 3 then H else W
def qH (k W H : Nat) : Nat := if k = 1 ∨ k = 3 then W else H
def qV (k W H : Nat) (vs : List Int) : List Int := if k = 1 then q1V W H vs else if k = 2 then q2V W H vs else if k = 3 then q3V W H vs else vs
theorem q11 {W H : Nat} {vs : List Int} : q1V H W (q1V W H vs) = q2V W H vs :=
  gen_congr fun x y hx hy => by rw [q1V, at2_gen hy (by omega)]
theorem q12 {W H : Nat} {vs : List Int} : q1V W H (q2V W H vs) = q3V W H vs :=
  gen_congr fun x y hx hy => by
    rw [q2V, at2_gen hy (by omega)]
    congr 1; omega
theorem qV_succ {W H k : Nat} {vs : List Int} (hk : k < 3) : q1V (qW k W H) (qH k W H) (qV k W H vs) = qV (k + 1) W H vs ∧ qW (k + 1) W H = qH k W H ∧ qH (k + 1) W H = qW k W H := by
  rcases (by omega : k = 0 ∨ k = 1 ∨ k = 2) with rfl | rfl | rfl
  · exact ⟨rfl, rfl, rfl⟩
  · exact ⟨q11, rfl, rfl⟩
  · exact ⟨q12, rfl, rfl⟩
theorem qV_length {W H k : Nat} {vs : List Int} (hl : vs.length = W * H) : (qV k W H vs).length = qW k W H * qH k W H := by
  unfold qV qW qH
  by_cases h1 : k = 1
  · simp [h1, q1V, gen_length]
  · by_cases h2 : k = 2
    · simp [h2, q2V, gen_length]
    · by_cases h3 : k = 3
      · simp [h3, q3V, gen_length]
      · simp [h1, h2, h3, hl]
theorem qV_back {W H k : Nat} {vs : List Int} (hl : vs.length = W * H) (hk : k < 4) : qV ((4 - k) % 4) (qW k W H) (qH k W H) (qV k W H vs) = vs ∧ qW ((4 - k) % 4) (qW k W H) (qH k W H) = W ∧ qH ((4 - k) % 4) (qW k W H) (qH k W H) = H := by
  rcases (by omega : k = 0 ∨ k = 1 ∨ k = 2 ∨ k = 3) with rfl | rfl | rfl | rfl
  · exact ⟨rfl, rfl, rfl⟩
  · refine ⟨?_, rfl, rfl⟩
    show q3V H W (q1V W H vs) = vs
    refine gen_eta hl fun x y hx hy => ?_
    rw [q1V, at2_gen (by omega) hx]
    congr 1; omega
  · refine ⟨?_, rfl, rfl⟩
    show q2V W H (q2V W H vs) = vs
    refine gen_eta hl fun x y hx hy => ?_
    rw [q2V, at2_gen (by omega) (by omega)]
    congr 1 <;> omega
  · refine ⟨?_, rfl, rfl⟩
    show q1V H W (q3V W H vs) = vs
    refine gen_eta hl fun x y hx hy => ?_
    rw [q3V, at2_gen hy (by omega)]
    congr 1; omega
theorem mir_mir {W H : Nat} {vs : List Int} (hl : vs.length = W * H) : mirV W H (mirV W H vs) = vs :=
  gen_eta hl fun x y hx hy => by
    rw [mirV, at2_gen (by omega) hy]
    congr 1; omega
theorem swap_swap {W H : Nat} {vs : List Int} (hl : vs.length = W * H) : swapV H W (swapV W H vs) = vs :=
  gen_eta hl fun x y hx hy => by rw [swapV, at2_gen hy hx]
theorem mir_swap {W H : Nat} {vs : List Int} : mirV H W (swapV W H vs) = q1V W H vs :=
  gen_congr fun x y hx hy => by rw [swapV, at2_gen (by omega) hy]
theorem swapV_ok {W H : Nat} {vs : List Int} (hk : OkV vs) (hl : vs.length = W * H) : OkV (swapV W H vs) := gen_ok fun x y hx hy => at2_ok hk hl hy hx
theorem mirV_ok {W H : Nat} {vs : List Int} (hk : OkV vs) (hl : vs.length = W * H) : OkV (mirV W H vs) := gen_ok fun x y hx hy => at2_ok hk hl (by omega) hy
theorem q1V_ok {W H : Nat} {vs : List Int} (hk : OkV vs) (hl : vs.length = W * H) : OkV (q1V W H vs) := gen_ok fun x y hx hy => at2_ok hk hl hy (by omega)
theorem q2V_ok {W H : Nat} {vs : List Int} (hk : OkV vs) (hl : vs.length = W * H) : OkV (q2V W H vs) := gen_ok fun x y hx hy => at2_ok hk hl (by omega) (by omega)
theorem q3V_ok {W H : Nat} {vs : List Int} (hk : OkV vs) (hl : vs.length = W * H) : OkV (q3V W H vs) := gen_ok fun x y hx hy => at2_ok hk hl (by omega) hx
/-! greater, cut out -/
def scV (W H k : Nat) (vs : List Int) : List Int := gen (W * k) (H * k) fun x y => at2 W vs (x / k) (y / k)
theorem scV_ok {W H k : Nat} {vs : List Int} (hk : OkV vs) (hl : vs.length = W * H) : OkV (scV W H k vs) :=
  gen_ok fun x y hx hy => at2_ok hk hl (Nat.div_lt_of_lt_mul (by rw [Nat.mul_comm]; exact hx)) (Nat.div_lt_of_lt_mul (by rw [Nat.mul_comm]; exact hy))
theorem rectV_gen {W : Nat} {vs : List Int} {x y nx : Nat} : ∀ ny, rectV W vs x y nx ny = gen nx ny fun i j => at2 W vs (x + i) (y + j)
  | 0 => by simp [rectV, gen, genP]
  | n + 1 => by
    rw [rectV_succ, rectV_gen n]
    unfold gen rowV
    have : ∀ i, i ≤ nx → genP nx (n * nx) (fun i j => at2 W vs (x + i) (y + j)) ++ (List.range i).map (fun i => vs.getD ((y + n) * W + (x + i)) 0) = genP nx (n * nx + i) (fun i j => at2 W vs (x + i) (y + j)) := by
      intro i
      induction i with
      | zero => intro _; simp
      | succ i ih =>
        intro hi
        rw [List.range_succ, List.map_append, ← List.append_assoc, ih (by omega), List.map_singleton]
        exact genP_step (f := fun i j => at2 W vs (x + i) (y + j)) (by omega)
    rw [this nx (Nat.le_refl _), genP_row]
theorem rectV_ok {W H x y nx ny : Nat} {vs : List Int} (hk : OkV vs) (hl : vs.length = W * H) (hx : x + nx ≤ W) (hy : y + ny ≤ H) : OkV (rectV W vs x y nx ny) := by
  rw [rectV_gen]; exact gen_ok fun i j hi hj => at2_ok hk hl (by omega) (by omega)
/-! put together -/
theorem layV_gen {W H x0 y0 x1 y1 : Nat} {l vs : List Int} (hl : vs.length = W * H) (hx : x0 ≤ x1) (hy : y0 ≤ y1) (hll : l.length = (x1 + 1 - x0) * (y1 + 1 - y0)) :
    layV W x0 y0 x1 y1 l vs l.length = gen W H fun x y => if x0 ≤ x ∧ x ≤ x1 ∧ y0 ≤ y ∧ y ≤ y1 then at2 (x1 + 1 - x0) l (x - x0) (y - y0) else at2 W vs x y := by
  unfold layV gen genP
  rw [hl, Nat.mul_comm]
  apply List.map_congr_left
  intro c hc
  show (if _ then _ else _) = (if x0 ≤ c % W ∧ c % W ≤ x1 ∧ y0 ≤ c / W ∧ c / W ≤ y1 then at2 (x1 + 1 - x0) l (c % W - x0) (c / W - y0) else at2 W vs (c % W) (c / W))
  by_cases h : x0 ≤ c % W ∧ c % W ≤ x1 ∧ y0 ≤ c / W ∧ c / W ≤ y1
  · have h5 : ridx W x0 y0 (x1 + 1 - x0) c < l.length := by
      rw [hll, Nat.mul_comm]
      unfold ridx
      have h6 : (c / W - y0 + 1) * (x1 + 1 - x0) ≤ (y1 + 1 - y0) * (x1 + 1 - x0) := Nat.mul_le_mul_right _ (by omega)
      rw [Nat.succ_mul] at h6; omega
    rw [if_pos ⟨h.1, h.2.1, h.2.2.1, h.2.2.2, h5⟩, if_pos h]; rfl
  · rw [if_neg (fun q => h ⟨q.1, q.2.1, q.2.2.1, q.2.2.2.1⟩), if_neg h, at2, Nat.mul_comm, Nat.div_add_mod]
def besV (W X H : Nat) (vs us : List Int) : List Int := gen (W + X) H fun x y => if x < W then at2 W vs x y else at2 X us (x - W) y
def belV (W H Y : Nat) (vs us : List Int) : List Int := gen W (H + Y) fun x y => if y < H then at2 W vs x y else at2 W us x (y - H)
theorem belV_append {W H Y : Nat} {vs us : List Int} (hl : vs.length = W * H) (hu : us.length = W * Y) : belV W H Y vs us = vs ++ us := by
  refine gen_eta (by rw [List.length_append, hl, hu, Nat.mul_add]) fun x y hx hy => ?_
  unfold at2
  by_cases h : y < H
  · rw [if_pos h, List.getD_eq_getElem?_getD, List.getD_eq_getElem?_getD, List.getElem?_append_left (by rw [hl]; exact cell_lt hx h)]
  · have h1 : H * W + (y - H) * W = y * W := by rw [← Nat.add_mul]; congr 1; omega
    have h2 : W * H = H * W := Nat.mul_comm _ _
    rw [if_neg h, List.getD_eq_getElem?_getD, List.getD_eq_getElem?_getD, List.getElem?_append_right (by rw [hl]; omega), hl]
    congr 2; omega
theorem bes_swap {W X H : Nat} {vs us : List Int} : swapV H (W + X) (belV H W X (swapV W H vs) (swapV X H us)) = besV W X H vs us :=
  gen_congr fun x y hx hy => by
    rw [belV, at2_gen hy hx]
    by_cases h : x < W
    · rw [if_pos h, if_pos h, swapV, at2_gen hy h]
    · rw [if_neg h, if_neg h, swapV, at2_gen hy (by omega)]
/-- two pastes into a grid of zeros -/
theorem lay_bes {W X H : Nat} {vs us zs : List Int} (hW : 1 ≤ W) (hX : 1 ≤ X) (hH : 1 ≤ H) (hl : vs.length = W * H) (hu : us.length = X * H) (hz : zs.length = (W + X) * H) :
    layV (W + X) W 0 (W + X - 1) (H - 1) us (layV (W + X) 0 0 (W - 1) (H - 1) vs zs vs.length) us.length = besV W X H vs us := by
  rw [layV_gen (H := H) (by rw [layV_length]; exact hz) (by omega) (by omega) (by rw [hu]; congr 1 <;> omega), layV_gen (H := H) hz (by omega) (by omega) (by rw [hl]; congr 1 <;> omega)]
  refine gen_congr fun x y hx hy => ?_
  by_cases h : x < W
  · rw [if_neg (by omega), at2_gen hx hy, if_pos ⟨by omega, by omega, by omega, by omega⟩, if_pos h]
    congr 1; omega
  · rw [if_pos ⟨by omega, by omega, by omega, by omega⟩, if_neg h]
    congr 1; omega
theorem lay_bel {W H Y : Nat} {vs us zs : List Int} (hW : 1 ≤ W) (hY : 1 ≤ Y) (hH : 1 ≤ H) (hl : vs.length = W * H) (hu : us.length = W * Y) (hz : zs.length = W * (H + Y)) :
    layV W 0 H (W - 1) (H + Y - 1) us (layV W 0 0 (W - 1) (H - 1) vs zs vs.length) us.length = belV W H Y vs us := by
  rw [layV_gen (H := H + Y) (by rw [layV_length]; exact hz) (by omega) (by omega) (by rw [hu]; congr 1 <;> omega), layV_gen (H := H + Y) hz (by omega) (by omega) (by rw [hl]; congr 1 <;> omega)]
  refine gen_congr fun x y hx hy => ?_
  by_cases h : y < H
  · rw [if_neg (by omega), at2_gen hx hy, if_pos ⟨by omega, by omega, by omega, by omega⟩, if_pos h]
    congr 1; omega
  · rw [if_pos ⟨by omega, by omega, by omega, by omega⟩, if_neg h]
    congr 1; omega
theorem bes_crop {W X H : Nat} {vs us : List Int} (hX : 1 ≤ X) (hu : us.length = X * H) : rectV (W + X) (besV W X H vs us) W 0 X H = us := by
  rw [rectV_gen]
  refine gen_eta hu fun x y hx hy => ?_
  rw [besV, at2_gen (by omega) (by omega), if_neg (by omega)]
  congr 1 <;> omega
theorem bel_crop {W H Y : Nat} {vs us : List Int} (hl : vs.length = W * H) : rectV W (belV W H Y vs us) 0 0 W H = vs := by
  rw [rectV_gen]
  refine gen_eta hl fun x y hx hy => ?_
  rw [belV, at2_gen (by omega) (by omega), if_pos (by omega)]
  congr 1 <;> omega
theorem besV_ok {W X H : Nat} {vs us : List Int} (hk : OkV vs) (hk2 : OkV us) (hl : vs.length = W * H) (hu : us.length = X * H) : OkV (besV W X H vs us) :=
  gen_ok fun x y hx hy => by by_cases h : x < W
                             · rw [if_pos h]; exact at2_ok hk hl h hy
                             · rw [if_neg h]; exact at2_ok hk2 hu (by omega) hy
end Go.Proofs.Ytpchomihojidpaa
