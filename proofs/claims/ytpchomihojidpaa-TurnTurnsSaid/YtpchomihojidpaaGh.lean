/- All values of a grid. -/
import Derived.Test.YtpchomihojidpaaTy
import Derived.Test.YtpchomihojidpaaSlC
import Derived.Test.YtpchomihojidpaaGg
import Derived.KernelRfl
namespace Go.Proofs.Ytpchomihojidpaa
open Go.SL
set_option linter.unusedVariables false
set_option linter.unusedSimpArgs false
attribute [local irreducible] wpList WD WP Region.wanted Code.wp
theorem rowV_full {W y : Nat} {vs : List Int} (h : y * W + W ≤ vs.length) : rowV W vs y 0 W = (vs.drop (y * W)).take W := by
  apply List.ext_getElem?
  intro i
  by_cases hi : i < W
  · have h1 : y * W + i < vs.length := by omega
    simp [rowV, hi, List.getElem?_take, List.getElem?_drop, List.getD_eq_getElem?_getD, h1]
  · simp [rowV, hi, List.getElem?_take]
theorem rectV_fulls {W : Nat} {vs : List Int} : ∀ n, n * W ≤ vs.length → rectV W vs 0 0 W n = vs.take (n * W)
  | 0, _ => by simp [rectV]
  | n + 1, h => by
    rw [Nat.add_mul, Nat.one_mul] at h
    rw [rectV_succ, rectV_fulls n (by omega), Nat.zero_add, rowV_full (by omega), Nat.add_mul, Nat.one_mul, List.take_add]
theorem rectV_all {W H : Nat} {vs : List Int} (hW : 1 ≤ W) (hH : 1 ≤ H) (h : vs.length = W * H) : rectV W vs 0 0 (W - 1 + 1 - 0) (H - 1 + 1 - 0) = vs := by
  rw [show W - 1 + 1 - 0 = W by omega, show H - 1 + 1 - 0 = H by omega, rectV_fulls H (by rw [h, Nat.mul_comm]; exact Nat.le_refl _), List.take_of_length_le (by rw [h, Nat.mul_comm]; exact Nat.le_refl _)]
theorem gridOk {e : Env} {L : List Asn} {w : World} {b W H : Nat} {vs : List Int} (s : SL e w L) (hg : Has L (GridA b W H vs)) : GridOk W H vs := by
  obtain ⟨_, t⟩ := hg; exact (grid_open (s.take t)).1
theorem gvals_c {e : Env} {L : List Asn} {w : World} {b W H : Nat} {vs : List Int} (s : SL e w L) (hg : Has L (GridA b W H vs)) : Calls Try.prog 84 #[ptr b 0, .agg #[.int .i64 0, .int .i64 0, .int .i64 (W - 1), .int .i64 (H - 1)]] w (Rets fun v w' => ∃ u, v = .tuple #[u, .int .i64 0] ∧ SL e w' (Arr I64 2 u vs :: L)) := by
  have hok := gridOk s hg
  have h1 := hok.w0; have h2 := hok.h0
  have := gvalues_c (x0 := 0) (y0 := 0) (x1 := W - 1) (y1 := H - 1) s hg (by omega) (by omega) (by omega) (by omega)
  rw [rectV_all h1 h2 hok.len, show ((W - 1 : Nat) : Int) = (W : Int) - 1 by omega, show ((H - 1 : Nat) : Int) = (H : Int) - 1 by omega] at this
  exact this
end Go.Proofs.Ytpchomihojidpaa
