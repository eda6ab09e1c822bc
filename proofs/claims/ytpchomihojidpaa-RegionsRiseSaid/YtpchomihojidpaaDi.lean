/- Distances: the plain law, that the two passes give the distances. -/
import Derived.Test.YtpchomihojidpaaTy
import Derived.Test.YtpchomihojidpaaSlC
import Derived.Test.YtpchomihojidpaaDh
import Derived.KernelRfl
namespace Go.Proofs.Ytpchomihojidpaa
open Go.SL
set_option linter.unusedVariables false
set_option linter.unusedSimpArgs false
attribute [local irreducible] wpList WD WP Region.wanted Code.wp
theorem dmX {W x y : Nat} (h : x < W) : (y * W + x) % W = x := by rw [Nat.mul_comm, Nat.mul_add_mod, Nat.mod_eq_of_lt h]
theorem dmY {W x y : Nat} (h : x < W) : (y * W + x) / W = y := by rw [Nat.mul_comm, Nat.mul_add_div (by omega), Nat.div_eq_of_lt h, Nat.add_zero]
theorem dm_eq (W k : Nat) : k / W * W + k % W = k := Nat.div_add_mod' k W
theorem dm_at {W k : Nat} (h0 : 0 < W) : ∃ x y, x < W ∧ k = y * W + x := ⟨k % W, k / W, Nat.mod_lt _ h0, (dm_eq W k).symm⟩
theorem cellLt {x y W H : Nat} (hx : x < W) (hy : y < H) : y * W + x < W * H := by
  have := Nat.mul_le_mul_right W (show y + 1 ≤ H from hy)
  rw [Nat.add_mul, Nat.one_mul] at this
  rw [Nat.mul_comm W H]; omega
theorem man_at {W x y x' y' : Nat} (h : x < W) (h' : x' < W) : man W (y * W + x) (y' * W + x') = (((x : Int) - x').natAbs + ((y : Int) - y').natAbs : Nat) := by
  simp only [man, dmX h, dmY h, dmX h', dmY h']
theorem man_tri (W a b c : Nat) : man W a c ≤ man W a b + man W b c := by
  unfold man
  generalize ((a % W : Nat) : Int) = a1; generalize ((b % W : Nat) : Int) = b1; generalize ((c % W : Nat) : Int) = c1
  generalize ((a / W : Nat) : Int) = a2; generalize ((b / W : Nat) : Int) = b2; generalize ((c / W : Nat) : Int) = c2
  omega
theorem man_self (W a : Nat) : man W a a = 0 := by simp [man]
theorem man_nn (W a b : Nat) : 0 ≤ man W a b := by unfold man; omega
theorem man_comm (W a b : Nat) : man W a b = man W b a := by
  unfold man
  generalize ((a % W : Nat) : Int) = a1; generalize ((b % W : Nat) : Int) = b1
  generalize ((a / W : Nat) : Int) = a2; generalize ((b / W : Nat) : Int) = b2
  omega
theorem man_zero {W a b : Nat} (h : man W a b ≤ 0) : a = b := by
  unfold man at h
  have h1 : a % W = b % W := by
    generalize a / W = a2 at h; generalize b / W = b2 at h; generalize a % W = a1 at *; generalize b % W = b1 at *; omega
  have h2 : a / W = b / W := by
    generalize a / W = a2 at *; generalize b / W = b2 at *; generalize a % W = a1 at *; generalize b % W = b1 at *; omega
  calc a = a / W * W + a % W := (dm_eq W a).symm
    _ = b / W * W + b % W := by rw [h1, h2]
    _ = b := dm_eq W b
theorem man_up {W k : Nat} (h0 : 0 < W) (h : W ≤ k) : man W k (k - W) = 1 := by
  obtain ⟨x, y, hx, rfl⟩ := dm_at (k := k) h0
  have hy : 0 < y := Nat.pos_of_ne_zero fun e => by subst e; omega
  obtain ⟨z, rfl⟩ : ∃ z, y = z + 1 := ⟨y - 1, by omega⟩
  have e : (z + 1) * W + x - W = z * W + x := by rw [Nat.add_mul, Nat.one_mul]; omega
  rw [e, man_at hx hx]; omega
theorem man_down {W k : Nat} (h0 : 0 < W) : man W k (k + W) = 1 := by
  have := man_up (k := k + W) h0 (by omega)
  rw [Nat.add_sub_cancel] at this
  rw [man_comm]; exact this
theorem man_left {W k : Nat} (h0 : 0 < W) (h : 0 < k % W) : man W k (k - 1) = 1 := by
  obtain ⟨x, y, hx, rfl⟩ := dm_at (k := k) h0
  rw [dmX hx] at h
  have e : y * W + x - 1 = y * W + (x - 1) := by omega
  rw [e, man_at hx (by omega)]; omega
theorem man_right {W k : Nat} (h0 : 0 < W) (h : k % W < W - 1) : man W k (k + 1) = 1 := by
  obtain ⟨x, y, hx, rfl⟩ := dm_at (k := k) h0
  rw [dmX hx] at h
  rw [Nat.add_assoc, man_at hx (by omega)]; omega
theorem man_lt {W H k c : Nat} (h0 : 0 < W) (hk : k < W * H) (hc : c < W * H) : man W k c < W + H := by
  unfold man
  have a1 := Nat.mod_lt k h0; have a2 := Nat.mod_lt c h0
  have a3 : k / W < H := Nat.div_lt_of_lt_mul hk
  have a4 : c / W < H := Nat.div_lt_of_lt_mul hc
  generalize k / W = k2 at *; generalize c / W = c2 at *; generalize k % W = k1 at *; generalize c % W = c1 at *
  omega
theorem initV_getD {vs : List Int} {t : Int} {k : Nat} (h : k < vs.length) (i : Nat) : (initV vs t i).getD k 0 = if k < i then (if t ≤ vs.getD k 0 then 0 else 4096) else 0 := by
  simp only [initV, List.getD_eq_getElem?_getD, List.getElem?_map, List.getElem?_range h, Option.map_some, Option.getD_some]
theorem Sound.init (W : Nat) (vs : List Int) (t : Int) : Sound W vs t (initV vs t vs.length) where
  len := initV_length _ _ _
  lo := by intro k hk; rw [initV_length] at hk; rw [initV_getD hk, if_pos hk]; split <;> omega
  near := by
    intro k hk h
    rw [initV_length] at hk
    rw [initV_getD hk, if_pos hk] at h ⊢
    by_cases ht : t ≤ vs.getD k 0
    · rw [if_pos ht]; exact ⟨k, ⟨hk, ht⟩, by rw [man_self]; exact Int.le_refl _⟩
    · rw [if_neg ht] at h; omega
theorem Sound.low {W : Nat} {vs : List Int} {t : Int} {ls : List Int} {i j : Nat} (s : Sound W vs t ls) (hi : i < ls.length) (hj : j < ls.length) (hm : man W i j = 1) : Sound W vs t (lowV ls i j) where
  len := by rw [lowV_length, s.len]
  lo := Cap.low s.lo hi hj
  near := by
    intro k hk h
    rw [lowV_length] at hk
    rw [lowV, set_getD _ _ _ _ hk] at h ⊢
    by_cases e : i = k
    · subst e
      rw [if_pos rfl] at h ⊢
      by_cases hc : ls.getD i 0 ≤ ls.getD j 0 + 1
      · obtain ⟨c, c1, c2⟩ := s.near i hk (by omega); exact ⟨c, c1, by omega⟩
      · obtain ⟨c, c1, c2⟩ := s.near j hj (by omega); exact ⟨c, c1, by have := man_tri W i j c; omega⟩
    · rw [if_neg e] at h ⊢; exact s.near k hk h
theorem low_ne {ls : List Int} {i j k : Nat} (h : k ≠ i) : (lowV ls i j).getD k 0 = ls.getD k 0 := by
  simp [lowV, List.getD_eq_getElem?_getD, List.getElem?_set, Ne.symm h]
theorem low_eq {ls : List Int} {i j : Nat} (h : i < ls.length) : (lowV ls i j).getD i 0 = min (ls.getD i 0) (ls.getD j 0 + 1) := by rw [lowV, set_getD _ _ _ _ h, if_pos rfl]
theorem fstep_ne {W : Nat} {ls : List Int} {i k : Nat} (h : k ≠ i) : (fstep W ls i).getD k 0 = ls.getD k 0 := by
  unfold fstep; simp only; (repeat' split) <;> simp only [low_ne h]
theorem bstep_ne {W : Nat} {ls : List Int} {i k : Nat} (h : k ≠ i) : (bstep W ls i).getD k 0 = ls.getD k 0 := by
  unfold bstep; simp only; (repeat' split) <;> simp only [low_ne h]
theorem fstep_i {W : Nat} {ls : List Int} {i : Nat} (h0 : 0 < W) (h : i < ls.length) : (fstep W ls i).getD i 0 ≤ ls.getD i 0 ∧ (0 < i % W → (fstep W ls i).getD i 0 ≤ ls.getD (i - 1) 0 + 1) ∧ (W ≤ i → (fstep W ls i).getD i 0 ≤ ls.getD (i - W) 0 + 1) := by
  by_cases a : W ≤ i
  · by_cases b : 0 < i % W
    · have hi : i ≠ 0 := by rintro rfl; rw [Nat.zero_mod] at b; omega
      have e : fstep W ls i = lowV (lowV ls i (i - W)) i (i - 1) := by simp only [fstep, if_pos a, if_pos b]
      rw [e, low_eq (by rw [lowV_length]; exact h), low_eq h, low_ne (by omega)]
      exact ⟨by omega, fun _ => by omega, fun _ => by omega⟩
    · have e : fstep W ls i = lowV ls i (i - W) := by simp only [fstep, if_pos a, if_neg b]
      rw [e, low_eq h]
      exact ⟨by omega, fun hb => absurd hb b, fun _ => by omega⟩
  · by_cases b : 0 < i % W
    · have e : fstep W ls i = lowV ls i (i - 1) := by simp only [fstep, if_neg a, if_pos b]
      rw [e, low_eq h]
      exact ⟨by omega, fun _ => by omega, fun hb => absurd hb a⟩
    · have e : fstep W ls i = ls := by simp only [fstep, if_neg a, if_neg b]
      rw [e]
      exact ⟨Int.le_refl _, fun hb => absurd hb b, fun hb => absurd hb a⟩
theorem bstep_i {W : Nat} {ls : List Int} {i : Nat} (h0 : 0 < W) (h : i < ls.length) : (bstep W ls i).getD i 0 ≤ ls.getD i 0 ∧ (i % W < W - 1 → (bstep W ls i).getD i 0 ≤ ls.getD (i + 1) 0 + 1) ∧ (i + W < ls.length → (bstep W ls i).getD i 0 ≤ ls.getD (i + W) 0 + 1) := by
  by_cases a : i + W < ls.length
  · by_cases b : i % W < W - 1
    · have e : bstep W ls i = lowV (lowV ls i (i + W)) i (i + 1) := by simp only [bstep, if_pos a, if_pos b]
      rw [e, low_eq (by rw [lowV_length]; exact h), low_eq h, low_ne (by omega)]
      exact ⟨by omega, fun _ => by omega, fun _ => by omega⟩
    · have e : bstep W ls i = lowV ls i (i + W) := by simp only [bstep, if_pos a, if_neg b]
      rw [e, low_eq h]
      exact ⟨by omega, fun hb => absurd hb b, fun _ => by omega⟩
  · by_cases b : i % W < W - 1
    · have e : bstep W ls i = lowV ls i (i + 1) := by simp only [bstep, if_neg a, if_pos b]
      rw [e, low_eq h]
      exact ⟨by omega, fun _ => by omega, fun hb => absurd hb a⟩
    · have e : bstep W ls i = ls := by simp only [bstep, if_neg a, if_neg b]
      rw [e]
      exact ⟨Int.le_refl _, fun hb => absurd hb b, fun hb => absurd hb a⟩
theorem Sound.f {W : Nat} {vs : List Int} {t : Int} {ls : List Int} {i : Nat} (s : Sound W vs t ls) (h0 : 0 < W) (hi : i < ls.length) : Sound W vs t (fstep W ls i) := by
  unfold fstep
  have h1 : Sound W vs t (if W ≤ i then lowV ls i (i - W) else ls) := by
    by_cases a : W ≤ i
    · rw [if_pos a]; exact s.low hi (by omega) (man_up h0 a)
    · rw [if_neg a]; exact s
  have h2 : (if W ≤ i then lowV ls i (i - W) else ls).length = ls.length := by split; exact lowV_length _ _ _; rfl
  simp only
  by_cases b : 0 < i % W
  · rw [if_pos b]; exact h1.low (by omega) (by omega) (man_left h0 b)
  · rw [if_neg b]; exact h1
theorem Sound.b {W : Nat} {vs : List Int} {t : Int} {ls : List Int} {i : Nat} (s : Sound W vs t ls) (h0 : 0 < W) (hi : i < ls.length) (hd : i % W < W - 1 → i + 1 < ls.length) : Sound W vs t (bstep W ls i) := by
  unfold bstep
  have h1 : Sound W vs t (if i + W < ls.length then lowV ls i (i + W) else ls) := by
    by_cases a : i + W < ls.length
    · rw [if_pos a]; exact s.low hi a (man_down h0)
    · rw [if_neg a]; exact s
  have h2 : (if i + W < ls.length then lowV ls i (i + W) else ls).length = ls.length := by split; exact lowV_length _ _ _; rfl
  simp only
  by_cases b : i % W < W - 1
  · rw [if_pos b]; exact h1.low (by omega) (by rw [h2]; exact hd b) (man_right h0 b)
  · rw [if_neg b]; exact h1
/-- the forward pass, up to i -/
structure Fw (W : Nat) (vs : List Int) (t : Int) (l0 ls : List Int) (i : Nat) : Prop where
  s : Sound W vs t ls
  le : ∀ k, ls.getD k 0 ≤ l0.getD k 0
  left : ∀ k, k < i → 0 < k % W → ls.getD k 0 ≤ ls.getD (k - 1) 0 + 1
  up : ∀ k, k < i → W ≤ k → ls.getD k 0 ≤ ls.getD (k - W) 0 + 1
theorem Fw.step {W : Nat} {vs : List Int} {t : Int} {l0 ls : List Int} {i : Nat} (f : Fw W vs t l0 ls i) (h0 : 0 < W) (hi : i < ls.length) : Fw W vs t l0 (fstep W ls i) (i + 1) := by
  have a := fstep_i h0 hi
  refine ⟨f.s.f h0 hi, fun k => ?_, fun k hk hm => ?_, fun k hk hm => ?_⟩
  · by_cases e : k = i
    · subst e; exact Int.le_trans a.1 (f.le _)
    · rw [fstep_ne e]; exact f.le k
  · have k0 : k ≠ 0 := by rintro rfl; rw [Nat.zero_mod] at hm; omega
    rw [fstep_ne (k := k - 1) (by omega)]
    by_cases e : k = i
    · subst e; exact a.2.1 hm
    · rw [fstep_ne e]; exact f.left k (by omega) hm
  · rw [fstep_ne (k := k - W) (by omega)]
    by_cases e : k = i
    · subst e; exact a.2.2 hm
    · rw [fstep_ne e]; exact f.up k (by omega) hm
theorem Fw.all {W : Nat} {vs : List Int} {t : Int} {l0 : List Int} (s : Sound W vs t l0) (h0 : 0 < W) : ∀ i, i ≤ l0.length → Fw W vs t l0 (fwV W l0 i) i
  | 0, _ => ⟨s, fun _ => Int.le_refl _, fun _ h => by omega, fun _ h => by omega⟩
  | i + 1, h => by
    rw [fwV_succ]
    exact (Fw.all s h0 i (by omega)).step h0 (by rw [fwV_length]; omega)
/-- the backward pass, down to i -/
structure Bw (W : Nat) (vs : List Int) (t : Int) (l0 ls : List Int) (i : Nat) : Prop where
  s : Sound W vs t ls
  le : ∀ k, ls.getD k 0 ≤ l0.getD k 0
  right : ∀ k, i ≤ k → k < ls.length → k % W < W - 1 → ls.getD k 0 ≤ ls.getD (k + 1) 0 + 1
  down : ∀ k, i ≤ k → k + W < ls.length → ls.getD k 0 ≤ ls.getD (k + W) 0 + 1
theorem Bw.step {W : Nat} {vs : List Int} {t : Int} {l0 ls : List Int} {i : Nat} (f : Bw W vs t l0 ls (i + 1)) (h0 : 0 < W) (hi : i < ls.length) (hd : i % W < W - 1 → i + 1 < ls.length) : Bw W vs t l0 (bstep W ls i) i := by
  have a := bstep_i h0 hi
  refine ⟨f.s.b h0 hi hd, fun k => ?_, fun k hk hl hm => ?_, fun k hk hl => ?_⟩
  · by_cases e : k = i
    · subst e; exact Int.le_trans a.1 (f.le _)
    · rw [bstep_ne e]; exact f.le k
  · rw [bstep_length] at hl
    rw [bstep_ne (k := k + 1) (by omega)]
    by_cases e : k = i
    · subst e; exact a.2.1 hm
    · rw [bstep_ne e]; exact f.right k (by omega) hl hm
  · rw [bstep_length] at hl
    rw [bstep_ne (k := k + W) (by omega)]
    by_cases e : k = i
    · subst e; exact a.2.2 hl
    · rw [bstep_ne e]; exact f.down k (by omega) hl
theorem row_in {W H i : Nat} (h0 : 0 < W) (hi : i < W * H) (h : i % W < W - 1) : i + 1 < W * H := by
  obtain ⟨x, y, hx, rfl⟩ := dm_at (k := i) h0
  rw [dmX hx] at h
  have hy : y < H := by have := Nat.div_lt_of_lt_mul hi; rwa [dmY hx] at this
  rw [Nat.add_assoc]; exact cellLt (by omega) hy
theorem Bw.all {W H : Nat} {vs : List Int} {t : Int} {l0 : List Int} (s : Sound W vs t l0) (h0 : 0 < W) (hl : l0.length = W * H) : ∀ m, m ≤ l0.length → Bw W vs t l0 (bwV W l0 m) (l0.length - m)
  | 0, _ => ⟨s, fun _ => Int.le_refl _, fun k h h' => by simp only [bwV, List.range_zero, List.foldl_nil] at h'; omega, fun k h h' => by simp only [bwV, List.range_zero, List.foldl_nil] at h'; omega⟩
  | m + 1, h => by
    rw [bwV_succ]
    have := Bw.all s h0 hl m (by omega)
    rw [show l0.length - m = l0.length - 1 - m + 1 by omega] at this
    rw [show l0.length - (m + 1) = l0.length - 1 - m by omega]
    exact this.step h0 (by rw [bwV_length]; omega) fun hm => by rw [bwV_length]; have := row_in (H := H) h0 (by omega) hm; omega
theorem dist_law {W H : Nat} {vs : List Int} {t : Int} (h0 : 0 < W) (hl : vs.length = W * H) : Dist W vs t (bwV W (fwV W (initV vs t vs.length) vs.length) vs.length) := by
  have hi := initV_length vs t vs.length
  have f := Fw.all (Sound.init W vs t) h0 vs.length (by rw [hi]; exact Nat.le_refl _)
  have fl := fwV_length W (initV vs t vs.length) vs.length
  have b := Bw.all f.s h0 (by rw [fl, hi, hl]) vs.length (by rw [fl, hi]; exact Nat.le_refl _)
  have bl := bwV_length W (fwV W (initV vs t vs.length) vs.length) vs.length
  generalize hB : bwV W (fwV W (initV vs t vs.length) vs.length) vs.length = B at *
  generalize hF : fwV W (initV vs t vs.length) vs.length = F at *
  rw [fl, hi, Nat.sub_self] at b
  have lF : F.length = W * H := by rw [fl, hi, hl]
  have lB : B.length = W * H := by rw [bl, lF]
  refine ⟨b.s, fun k c hk hc => ?_⟩
  obtain ⟨x, y, hx, rfl⟩ := dm_at (k := k) h0
  obtain ⟨sx, sy, hsx, rfl⟩ := dm_at (k := c) h0
  rw [lB] at hk
  have hcl := hc.1
  rw [hl] at hcl
  have hy : y < H := by have := Nat.div_lt_of_lt_mul hk; rwa [dmY hx] at this
  have hsy : sy < H := by have := Nat.div_lt_of_lt_mul hcl; rwa [dmY hsx] at this
  rw [man_at hx hsx]
  refine corners (F := fun x y => F.getD (y * W + x) 0) (B := fun x y => B.getD (y * W + x) 0) (W := W) (H := H) ?_ ?_ ?_ ?_ ?_ hx hy hsx hsy ?_
  · intro a d ha hd
    have := f.left (d * W + (a + 1)) (by rw [hl]; exact cellLt ha hd) (by rw [dmX ha]; omega)
    rw [show d * W + (a + 1) - 1 = d * W + a by omega] at this
    exact this
  · intro a d ha hd
    have e : (d + 1) * W + a = d * W + a + W := by rw [Nat.add_mul, Nat.one_mul]; omega
    have := f.up ((d + 1) * W + a) (by rw [hl]; exact cellLt ha hd) (by rw [e]; omega)
    rw [show (d + 1) * W + a - W = d * W + a by omega] at this
    exact this
  · intro a d _ _; exact b.le _
  · intro a d ha hd
    exact b.right (d * W + a) (Nat.zero_le _) (by rw [lB]; exact cellLt (by omega) hd) (by rw [dmX (by omega)]; omega)
  · intro a d ha hd
    have e : (d + 1) * W + a = d * W + a + W := by rw [Nat.add_mul, Nat.one_mul]; omega
    have := b.down (d * W + a) (Nat.zero_le _) (by rw [lB, ← e]; exact cellLt ha hd)
    show B.getD (d * W + a) 0 ≤ B.getD ((d + 1) * W + a) 0 + 1
    rw [e]; exact this
  · have h1 := f.le (sy * W + sx)
    rw [initV_getD hc.1, if_pos hc.1, if_pos hc.2] at h1
    exact h1
/-- what is told of all cells: -1 where nothing counts, else the distance -/
structure ToV (W : Nat) (vs : List Int) (t : Int) (a : List Int) : Prop where
  len : a.length = vs.length
  none : (∀ c, ¬ srcB vs t c) → ∀ k, k < vs.length → a.getD k 0 = -1
  some : ∀ c, srcB vs t c → ∀ k, k < vs.length → 0 ≤ a.getD k 0 ∧ a.getD k 0 ≤ man W k c ∧ ∃ d, srcB vs t d ∧ man W k d = a.getD k 0
theorem Dist.none_iff {W H : Nat} {vs : List Int} {t : Int} {ls : List Int} (d : Dist W vs t ls) (h0 : 0 < W) (hl : vs.length = W * H) (hb : W + H ≤ 4096) (hn : 0 < vs.length) : (4096 ≤ ls.getD 0 0 ↔ ∀ c, ¬ srcB vs t c) := by
  have l := d.s.len
  constructor
  · intro h c hc
    have h1 := d.all 0 c (by omega) hc
    have h2 := man_lt (H := H) h0 (k := 0) (c := c) (by omega) (by rw [← hl]; exact hc.1)
    omega
  · intro h
    rcases Int.lt_or_le (ls.getD 0 0) 4096 with h1 | h1
    · obtain ⟨c, hc, _⟩ := d.s.near 0 (by omega) h1
      exact absurd hc (h c)
    · exact h1
theorem Dist.exact {W H : Nat} {vs : List Int} {t : Int} {ls : List Int} (d : Dist W vs t ls) (h0 : 0 < W) (hl : vs.length = W * H) (hb : W + H ≤ 4096) {c : Nat} (hc : srcB vs t c) {k : Nat} (hk : k < vs.length) :
    0 ≤ ls.getD k 0 ∧ ls.getD k 0 < 4096 ∧ ls.getD k 0 ≤ man W k c ∧ ∃ d, srcB vs t d ∧ man W k d = ls.getD k 0 := by
  have l := d.s.len
  have h1 := d.all k c (by omega) hc
  have h2 := man_lt (H := H) h0 (k := k) (c := c) (by omega) (by rw [← hl]; exact hc.1)
  have h3 := d.s.lo k (by omega)
  obtain ⟨c', hc', hm⟩ := d.s.near k (by omega) (by omega)
  have h4 := d.all k c' (by omega) hc'
  exact ⟨h3.1, by omega, h1, c', hc', by omega⟩
theorem Dist.to {W H : Nat} {vs : List Int} {t : Int} {ls : List Int} (d : Dist W vs t ls) (h0 : 0 < W) (hl : vs.length = W * H) (hb : W + H ≤ 4096) (hn : 0 < vs.length) : ToV W vs t (if 4096 ≤ ls.getD 0 0 then List.replicate vs.length (-1) else ls) := by
  have hi := d.none_iff h0 hl hb hn
  by_cases h : 4096 ≤ ls.getD 0 0
  · rw [if_pos h]
    refine ⟨List.length_replicate, fun _ k hk => ?_, fun c hc => absurd hc (hi.1 h c)⟩
    simp [List.getD_eq_getElem?_getD, List.getElem?_replicate, hk]
  · rw [if_neg h]
    refine ⟨d.s.len, fun hc => absurd (hi.2 hc) h, fun c hc k hk => ?_⟩
    have := d.exact h0 hl hb hc hk
    exact ⟨this.1, this.2.2.1, this.2.2.2⟩
theorem ToV.neg {W : Nat} {vs : List Int} {t : Int} {a : List Int} (A : ToV W vs t a) {k : Nat} (hk : k < vs.length) : a.getD k 0 < 0 ↔ ∀ c, ¬ srcB vs t c := by
  constructor
  · intro h c hc; have := (A.some c hc k hk).1; omega
  · intro h; have := A.none h k hk; omega
theorem ToV.ge {W : Nat} {vs : List Int} {t : Int} {a : List Int} (A : ToV W vs t a) {k : Nat} (hk : k < vs.length) : -1 ≤ a.getD k 0 ∧ (0 ≤ a.getD k 0 → ∃ c, srcB vs t c ∧ man W k c = a.getD k 0) := by
  by_cases h : ∃ c, srcB vs t c
  · obtain ⟨c, hc⟩ := h
    have := A.some c hc k hk
    exact ⟨by omega, fun _ => this.2.2⟩
  · have := A.none (fun c hc => h ⟨c, hc⟩) k hk
    exact ⟨by omega, fun _ => by omega⟩
theorem ToV.zero {W : Nat} {vs : List Int} {t : Int} {a : List Int} (A : ToV W vs t a) {k : Nat} (hk : k < vs.length) : a.getD k 0 = 0 ↔ t ≤ vs.getD k 0 := by
  constructor
  · intro h
    obtain ⟨c, hc, hm⟩ := (A.ge hk).2 (by omega)
    have : k = c := man_zero (W := W) (by omega)
    subst this; exact hc.2
  · intro h
    have := A.some k ⟨hk, h⟩ k hk
    rw [man_self] at this
    omega
theorem srcB.mono {vs : List Int} {t u : Int} {c : Nat} (h : t ≤ u) (s : srcB vs u c) : srcB vs t c := ⟨s.1, by have := s.2; omega⟩
theorem ToV.mono {W : Nat} {vs : List Int} {t u : Int} {a b : List Int} (A : ToV W vs t a) (B : ToV W vs u b) (h : t ≤ u) {k : Nat} (hk : k < vs.length) (hb : 0 ≤ b.getD k 0) : 0 ≤ a.getD k 0 ∧ a.getD k 0 ≤ b.getD k 0 := by
  obtain ⟨c, hc, hm⟩ := (B.ge hk).2 hb
  have := A.some c (hc.mono h) k hk
  omega
theorem ToV.near {W : Nat} {vs : List Int} {t : Int} {a : List Int} (A : ToV W vs t a) {k j : Nat} (hk : k < vs.length) (hj : j < vs.length) (hm : man W k j = 1) : a.getD k 0 - a.getD j 0 ≤ 1 := by
  by_cases h : ∃ c, srcB vs t c
  · obtain ⟨c, hc⟩ := h
    obtain ⟨c', hc', hm'⟩ := (A.some c hc j hj).2.2
    have h1 := (A.some c' hc' k hk).2.1
    have h2 := man_tri W k j c'
    omega
  · have h1 := A.none (fun c hc => h ⟨c, hc⟩) k hk
    have h2 := A.none (fun c hc => h ⟨c, hc⟩) j hj
    omega
end Go.Proofs.Ytpchomihojidpaa
