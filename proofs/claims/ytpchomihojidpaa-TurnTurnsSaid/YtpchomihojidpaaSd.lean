/- A grid is filled. -/
import Derived.Test.YtpchomihojidpaaTy
import Derived.Test.YtpchomihojidpaaSlC
import Derived.Test.YtpchomihojidpaaSc
import Derived.KernelRfl
namespace Go.Proofs.Ytpchomihojidpaa
open Go.SL
set_option linter.unusedVariables false
set_option linter.unusedSimpArgs false
attribute [local irreducible] wpList WD WP Region.wanted Code.wp
theorem sfill_c {e : Env} {L L' : List Asn} {w : World} {n : Int} {b W H x0 y0 x1 y1 : Nat} {vs : List Int} (s : SL e w L) (t : Take L (SlabA b W H vs) L') (hn : -2147483648 ≤ n ∧ n ≤ 2147483647) (hx : x0 ≤ x1) (hxw : x1 < W) (hy : y0 ≤ y1) (hyh : y1 < H) :
    Calls Try.prog 259 #[ptr b 0, .agg #[.int .i64 (x0 : Int), .int .i64 (y0 : Int), .int .i64 (x1 : Int), .int .i64 (y1 : Int)], .int .i64 n] w (Rets fun v w' => v = .int .i64 0 ∧ SL e w' (SlabA b W H (fillP (rectB W x0 y0 x1 y1) n vs) :: L')) := by
  obtain ⟨hok, ⟨m, hm, s1⟩ | ⟨u, s1⟩⟩ := slab_open (s.take t)
  · by_cases h : m = n
    · exact fillFe_c s1 hm h hok hn hx hxw hy hyh
    · exact fillFn_c s1 hm h hok hn hx hxw hy hyh
  · exact fillG_c s1 hok hn hx hxw hy hyh
/-- a cell's piece -/
def pidx (W x0 y0 x1 c : Nat) : Nat := (c / W / 16 - y0 / 16) * pnX x0 x1 + (c % W / 16 - x0 / 16)
def upto (W x0 y0 x1 y1 k c : Nat) : Bool := decide (x0 ≤ c % W ∧ c % W ≤ x1 ∧ y0 ≤ c / W ∧ c / W ≤ y1 ∧ pidx W x0 y0 x1 c < k)
theorem upto_zero {W x0 y0 x1 y1 : Nat} {n : Int} {vs : List Int} : fillP (upto W x0 y0 x1 y1 0) n vs = vs :=
  fillP_none fun k _ => by simp [upto]
theorem pidx_lt {W x0 y0 x1 y1 c : Nat} (h : x0 ≤ c % W ∧ c % W ≤ x1 ∧ y0 ≤ c / W ∧ c / W ≤ y1) : pidx W x0 y0 x1 c < pnX y0 y1 * pnX x0 x1 := by
  have h1 : c % W / 16 - x0 / 16 < pnX x0 x1 := by unfold pnX; omega
  have h2 : c / W / 16 - y0 / 16 < pnX y0 y1 := by unfold pnX; omega
  have h3 : (c / W / 16 - y0 / 16 + 1) * pnX x0 x1 ≤ pnX y0 y1 * pnX x0 x1 := Nat.mul_le_mul_right _ h2
  rw [Nat.succ_mul] at h3
  unfold pidx; omega
theorem upto_all {W x0 y0 x1 y1 : Nat} {n : Int} {vs : List Int} : fillP (upto W x0 y0 x1 y1 (pnX y0 y1 * pnX x0 x1)) n vs = fillP (rectB W x0 y0 x1 y1) n vs := by
  refine fillP_congr fun k _ => ?_
  rw [Bool.eq_iff_iff]
  simp only [upto, rectB, decide_eq_true_eq]
  exact ⟨fun h => ⟨h.1, h.2.1, h.2.2.1, h.2.2.2.1⟩, fun h => ⟨h.1, h.2.1, h.2.2.1, h.2.2.2, pidx_lt h⟩⟩
/-- the tile of a piece -/
def ptile (W x0 y0 x1 k : Nat) : Nat := (y0 / 16 + k / pnX x0 x1) * nT W + (x0 / 16 + k % pnX x0 x1)
theorem piece_q {W H x0 y0 x1 y1 k : Nat} (hx : x0 ≤ x1) (hxw : x1 < W) (hyh : y1 < H) (hk : k < pnX y0 y1 * pnX x0 x1) :
    ptile W x0 y0 x1 k % nT W = x0 / 16 + k % pnX x0 x1 ∧ ptile W x0 y0 x1 k / nT W = y0 / 16 + k / pnX x0 x1 ∧ ptile W x0 y0 x1 k < nT W * nT H ∧ x0 / 16 + k % pnX x0 x1 ≤ x1 / 16 ∧ y0 / 16 + k / pnX x0 x1 ≤ y1 / 16 := by
  have hnx : 0 < pnX x0 x1 := by unfold pnX; omega
  have h1 : k % pnX x0 x1 < pnX x0 x1 := Nat.mod_lt _ hnx
  have h2 : k / pnX x0 x1 < pnX y0 y1 := Nat.div_lt_of_lt_mul (by rw [Nat.mul_comm]; exact hk)
  have h3 : x0 / 16 + k % pnX x0 x1 ≤ x1 / 16 := by unfold pnX at h1 ⊢; omega
  have h4 : y0 / 16 + k / pnX x0 x1 ≤ y1 / 16 := by
    generalize k / pnX x0 x1 = p at *
    unfold pnX at h2; omega
  have h5 : x0 / 16 + k % pnX x0 x1 < nT W := by
    generalize k % pnX x0 x1 = p at *
    unfold nT; omega
  have h6 : y0 / 16 + k / pnX x0 x1 < nT H := by
    generalize k / pnX x0 x1 = p at *
    unfold nT; omega
  obtain ⟨e1, e2⟩ := (idx_iff (y := y0 / 16 + k / pnX x0 x1) h5).1 rfl
  have h7 : (y0 / 16 + k / pnX x0 x1 + 1) * nT W ≤ nT H * nT W := Nat.mul_le_mul_right _ h6
  rw [Nat.succ_mul, Nat.mul_comm (nT H)] at h7
  exact ⟨e2, e1, by unfold ptile; omega, h3, h4⟩
/-- a tile's cell in the grid -/
theorem tcell {W H t i : Nat} (ht : t < nT W * nT H) (hi : i < tileW W (t % nT W) * tileW H (t / nT W)) :
    ∃ c a b, c = (16 * (t / nT W) + i / tileW W (t % nT W)) * W + (16 * (t % nT W) + i % tileW W (t % nT W)) ∧ a = i % tileW W (t % nT W) ∧ b = i / tileW W (t % nT W) ∧ c % W = 16 * (t % nT W) + a ∧ c / W = 16 * (t / nT W) + b ∧ c < W * H ∧ a < 16 ∧ b < 16 := by
  obtain ⟨h1, h2, h3, h4⟩ := tile_cell ht hi
  obtain ⟨e1, e2⟩ := (idx_iff (y := 16 * (t / nT W) + i / tileW W (t % nT W)) h1).1 rfl
  refine ⟨_, _, _, rfl, rfl, rfl, e2, e1, cell_lt h1 h2, ?_, ?_⟩
  · have : tileW W (t % nT W) ≤ 16 := by unfold tileW; omega
    omega
  · have : tileW H (t / nT W) ≤ 16 := by unfold tileW; omega
    omega
theorem ptile_of {W x0 y0 x1 y1 t a b k c : Nat} (ec : c % W = 16 * (t % nT W) + a) (er : c / W = 16 * (t / nT W) + b) (ha : a < 16) (hb : b < 16) (hr : x0 ≤ c % W ∧ c % W ≤ x1 ∧ y0 ≤ c / W ∧ c / W ≤ y1) (hk : pidx W x0 y0 x1 c = k) : t = ptile W x0 y0 x1 k := by
  have hnx : c % W / 16 - x0 / 16 < pnX x0 x1 := by unfold pnX; omega
  obtain ⟨e1, e2⟩ := (idx_iff (y := c / W / 16 - y0 / 16) hnx).1 (show k = _ from hk.symm)
  unfold ptile
  rw [e1, e2, ec, er, show y0 / 16 + ((16 * (t / nT W) + b) / 16 - y0 / 16) = t / nT W by omega, show x0 / 16 + ((16 * (t % nT W) + a) / 16 - x0 / 16) = t % nT W by omega, Nat.mul_comm]
  exact (Nat.div_add_mod t (nT W)).symm
theorem tile_other {W H x0 y0 x1 y1 t k : Nat} {n : Int} {vs : List Int} (hl : vs.length = W * H) (ht : t < nT W * nT H) (hne : t ≠ ptile W x0 y0 x1 k) : tileV W H (fillP (upto W x0 y0 x1 y1 (k + 1)) n vs) t = tileV W H (fillP (upto W x0 y0 x1 y1 k) n vs) t := by
  unfold tileV
  apply List.map_congr_left
  intro i hi
  obtain ⟨c, a, b, ec, ea, eb, h1, h2, h3, h4, h5⟩ := tcell ht (List.mem_range.1 hi)
  rw [← ec, fillP_getD _ _ _ (by omega), fillP_getD _ _ _ (by omega)]
  have : upto W x0 y0 x1 y1 (k + 1) c = upto W x0 y0 x1 y1 k c := by
    rw [Bool.eq_iff_iff]
    simp only [upto, decide_eq_true_eq]
    constructor
    · rintro ⟨r1, r2, r3, r4, r5⟩
      refine ⟨r1, r2, r3, r4, ?_⟩
      rcases Nat.lt_or_ge (pidx W x0 y0 x1 c) k with h | h
      · exact h
      · exact absurd (ptile_of h1 h2 h4 h5 ⟨r1, r2, r3, r4⟩ (by omega)) hne
    · rintro ⟨r1, r2, r3, r4, r5⟩
      exact ⟨r1, r2, r3, r4, by omega⟩
  rw [this]
theorem tile_this {W H x0 y0 x1 y1 k : Nat} {n : Int} {vs : List Int} (hl : vs.length = W * H) (hx : x0 ≤ x1) (hxw : x1 < W) (hyh : y1 < H) (hk : k < pnX y0 y1 * pnX x0 x1) :
    tileV W H (fillP (upto W x0 y0 x1 y1 (k + 1)) n vs) (ptile W x0 y0 x1 k) = fillP (rectB (tileW W (ptile W x0 y0 x1 k % nT W)) (max (16 * (x0 / 16 + k % pnX x0 x1)) x0 % 16) (max (16 * (y0 / 16 + k / pnX x0 x1)) y0 % 16) (min (16 * (x0 / 16 + k % pnX x0 x1) + 15) x1 % 16) (min (16 * (y0 / 16 + k / pnX x0 x1) + 15) y1 % 16)) n (tileV W H (fillP (upto W x0 y0 x1 y1 k) n vs) (ptile W x0 y0 x1 k)) := by
  obtain ⟨q1, q2, q3, q4, q5⟩ := piece_q (y0 := y0) hx hxw hyh hk
  generalize ht : ptile W x0 y0 x1 k = t at *
  unfold fillP
  rw [show (tileV W H ((List.range vs.length).map fun c => if upto W x0 y0 x1 y1 k c = true then n else vs.getD c 0) t).length = tileW W (t % nT W) * tileW H (t / nT W) by simp [tileV]]
  rw [tileV]
  apply List.map_congr_left
  intro i hi
  have hi := List.mem_range.1 hi
  obtain ⟨c, a, b, ec, ea, eb, h1, h2, h3, h4, h5⟩ := tcell q3 hi
  have hg : ∀ us : List Int, (tileV W H us t).getD i 0 = us.getD c 0 := fun us => by
    rw [tileV, List.getD_eq_getElem?_getD, List.getElem?_map, List.getElem?_range hi, ec]; rfl
  have hf := fun p => fillP_getD p n vs (k := c) (by omega)
  unfold fillP at hf
  rw [hg, ← ec, hf, hf]
  have hp : (x0 ≤ c % W ∧ c % W ≤ x1 ∧ y0 ≤ c / W ∧ c / W ≤ y1) → pidx W x0 y0 x1 c = k := by
    intro hr
    have hnx : c % W / 16 - x0 / 16 < pnX x0 x1 := by unfold pnX; omega
    have hk2 : k = (c / W / 16 - y0 / 16) * pnX x0 x1 + (c % W / 16 - x0 / 16) := by
      refine (idx_iff hnx).2 ⟨?_, ?_⟩
      · generalize k / pnX x0 x1 = u at *; omega
      · generalize k % pnX x0 x1 = u at *; omega
    exact hk2.symm
  have e2 : upto W x0 y0 x1 y1 k c = false := by
    simp only [upto, decide_eq_false_iff_not]
    rintro ⟨r1, r2, r3, r4, r5⟩
    have := hp ⟨r1, r2, r3, r4⟩
    omega
  rw [e2]
  have e1 : upto W x0 y0 x1 y1 (k + 1) c = rectB (tileW W (t % nT W)) (max (16 * (x0 / 16 + k % pnX x0 x1)) x0 % 16) (max (16 * (y0 / 16 + k / pnX x0 x1)) y0 % 16) (min (16 * (x0 / 16 + k % pnX x0 x1) + 15) x1 % 16) (min (16 * (y0 / 16 + k / pnX x0 x1) + 15) y1 % 16) i := by
    rw [Bool.eq_iff_iff]
    simp only [upto, rectB, decide_eq_true_eq]
    rw [← ea, ← eb]
    constructor
    · rintro ⟨r1, r2, r3, r4, r5⟩
      generalize k % pnX x0 x1 = u at *
      generalize k / pnX x0 x1 = v at *
      omega
    · intro hr
      have hr2 : x0 ≤ c % W ∧ c % W ≤ x1 ∧ y0 ≤ c / W ∧ c / W ≤ y1 := by
        generalize k % pnX x0 x1 = u at *
        generalize k / pnX x0 x1 = v at *
        omega
      exact ⟨hr2.1, hr2.2.1, hr2.2.2.1, hr2.2.2.2, by rw [hp hr2]; omega⟩
  rw [e1]
  simp
end Go.Proofs.Ytpchomihojidpaa
