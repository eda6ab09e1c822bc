/- What a grid answers: a cell, a rectangle of cells. -/
import Derived.Test.YtpchomihojidpaaTy
import Derived.Test.YtpchomihojidpaaSlC
import Derived.Test.YtpchomihojidpaaGe
import Derived.KernelRfl
namespace Go.Proofs.Ytpchomihojidpaa
open Go.SL
set_option linter.unusedVariables false
set_option linter.unusedSimpArgs false
attribute [local irreducible] wpList WD WP Region.wanted Code.wp
/-- the cells of a rectangle, row by row -/
def rowV (W : Nat) (vs : List Int) (y x n : Nat) : List Int := (List.range n).map fun i => vs.getD (y * W + (x + i)) 0
def rectV (W : Nat) (vs : List Int) (x y nx ny : Nat) : List Int := (List.range ny).flatMap fun j => rowV W vs (y + j) x nx
theorem rowV_succ (W : Nat) (vs : List Int) (y x n : Nat) : rowV W vs y x (n + 1) = rowV W vs y x n ++ [vs.getD (y * W + (x + n)) 0] := by
  simp [rowV, List.range_succ]
theorem rectV_succ (W : Nat) (vs : List Int) (x y nx ny : Nat) : rectV W vs x y nx (ny + 1) = rectV W vs x y nx ny ++ rowV W vs (y + ny) x nx := by
  simp [rectV, List.range_succ]
theorem rowV_length (W : Nat) (vs : List Int) (y x n : Nat) : (rowV W vs y x n).length = n := by simp [rowV]
theorem rectV_length (W : Nat) (vs : List Int) (x y nx ny : Nat) : (rectV W vs x y nx ny).length = ny * nx := by
  induction ny with
  | zero => simp [rectV]
  | succ n ih => rw [rectV_succ, List.length_append, ih, rowV_length, Nat.add_mul, Nat.one_mul]
/-- what every tile's place in a list tells -/
def SlabsIn (L : List Asn) (W H : Nat) (vs : List Int) (bs : List Nat) : Prop := ∀ k, k < nT W * nT H → Has L (tileA W H vs bs k)
theorem tile_at {x y W H : Nat} {vs : List Int} (hx : x < W) (hy : y < H) : (tileV W H vs (tix W x y)).getD (((y : Int) % 16) * ((tileW W (tix W x y % nT W) : Nat) : Int) + (x : Int) % 16).toNat 0 = vs.getD (y * W + x) 0 := by
  rw [tix_mod hx]
  have : (((y : Int) % 16) * ((tileW W (x / 16) : Nat) : Int) + (x : Int) % 16).toNat = y % 16 * tileW W (x / 16) + x % 16 := by
    have e : ((y : Int) % 16) * ((tileW W (x / 16) : Nat) : Int) + (x : Int) % 16 = ((y % 16 * tileW W (x / 16) + x % 16 : Nat) : Int) := by
      rw [Int.natCast_add, Int.natCast_mul]; rfl
    rw [e, Int.toNat_natCast]
  rw [this]; exact tileV_get hx hy
set_option maxHeartbeats 4000000 in
set_option maxRecDepth 100000 in
/-- (*hachure/grid.Grid).At -/
theorem gat0_c {e : Env} {L : List Asn} {w : World} {b W H x y : Nat} {sv : Value} {bs : List Nat} {vs : List Int} (s : SL e w L) (hb : Ent L (fun h => Blk b (gridB W H sv) 196 h)) (hv : Ent L (SlR PtrT sv (ptrs bs))) (hs : SlabsIn L W H vs bs) (hl : bs.length = nT W * nT H) (hok : GridOk W H vs) (hx : x < W) (hy : y < H) :
    Calls Try.prog 127 #[ptr b 0, .agg #[.int .i64 (x : Int), .int .i64 (y : Int)]] w (Rets fun v w' => v = .tuple #[.int .i64 (vs.getD (y * W + x) 0), .int .i64 0] ∧ SL e w' L) := by
  have hw1 := hok.w1; have hh1 := hok.h1
  have hA : nT W ≤ 64 := by unfold nT; omega
  have hkl := tix_lt hx hy
  have tk := hs _ hkl
  have hk : (y : Int) / 16 * ((nT W : Nat) : Int) + (x : Int) / 16 = ((tix W x y : Nat) : Int) := by unfold tix; rw [Int.natCast_add, Int.natCast_mul]; rfl
  obtain ⟨a1, a2, a3⟩ := tileW_of hx
  obtain ⟨c1, c2, c3⟩ := tileW_of hy
  have hg := tile_at (vs := vs) hx hy
  have em := tix_mod (y := y) hx
  have ed := tix_div (y := y) hx
  refine enter Try.func127 rfl (l := [ptr b 0, .agg #[.int .i64 (x : Int), .int .i64 (y : Int)], undef, undef, undef, undef, undef, undef, undef, undef, undef, undef, undef, undef, undef, undef, undef, undef, undef, undef, undef, undef, undef, undef, undef, undef, undef, undef]) rfl ?_
  refine c_seq ?_
  refine c_region ?_
  refine l_box s rfl rfl rfl (ev_of rfl) (fun b3 w2 s1 => ?_)
  change SL _ _ (Blk _ #[_, _] _ :: _) at s1
  clear s
  refine nlL (l' := [_,_,_,_,_,_,_,_,_,_,_,_,_,_,_,_,_,_,_,_,_,_,_,_,_,_,_,_]) rfl ?_
  refine l_val s1 (y_as rfl (ev_of rfl)) rfl rfl (l' := [_,_,_,_,_,_,_,_,_,_,_,_,_,_,_,_,_,_,_,_,_,_,_,_,_,_,_,_]) rfl ?_
  refine l_val s1 (y_as rfl (ev_of rfl)) rfl rfl (l' := [_,_,_,_,_,_,_,_,_,_,_,_,_,_,_,_,_,_,_,_,_,_,_,_,_,_,_,_]) rfl ?_
  refine l_end ?_
  refine x_thenN ?_
  refine c_seq ?_
  refine c_seq ?_
  refine c_region ?_
  refine l_val s1 (y_mv rfl (ev_of rfl)) rfl rfl (l' := [_,_,_,_,_,_,_,_,_,_,_,_,_,_,_,_,_,_,_,_,_,_,_,_,_,_,_,_]) rfl ?_
  refine l_val s1 (y_load_blk rfl Ty.some46 Ty.agg46 Ty.size46 (ev_of rfl) (by repeat first | exact ent_blk | refine Ent.there ?_) rfl) rfl rfl (l' := [_,_,_,_,_,_,_,_,_,_,_,_,_,_,_,_,_,_,_,_,_,_,_,_,_,_,_,_]) rfl ?_
  refine l_callL rfl rfl rfl Fn.call203 (vs := [_]) rfl (gspot_c s1) ?_
  rintro _ w5 ⟨rfl, s4⟩
  clear s1
  refine nlL (l' := [_,_,_,_,_,_,_,_,_,_,_,_,_,_,_,_,_,_,_,_,_,_,_,_,_,_,_,_]) rfl ?_
  refine l_callL rfl rfl rfl Fn.call161 (vs := [_, _]) rfl (gcheck0_c s4 (by repeat first | assumption | with_reducible exact ent_blk | exact Ent.here arr_reads | exact Ent.here one_I64 | exact Ent.here one_Cell | exact Ent.here one_Bool | exact Ent.here one_Rect | refine Ent.there ?_) (by omega) (by omega)) ?_
  rintro _ w7 ⟨rfl, s6⟩
  clear s4
  refine nlL (l' := [_,_,_,_,_,_,_,_,_,_,_,_,_,_,_,_,_,_,_,_,_,_,_,_,_,_,_,_]) rfl ?_
  refine l_val s6 (y_as rfl (ev_of rfl)) rfl rfl (l' := [_,_,_,_,_,_,_,_,_,_,_,_,_,_,_,_,_,_,_,_,_,_,_,_,_,_,_,_]) rfl ?_
  refine l_end ?_
  refine x_thenN ?_
  refine c_seq ?_
  refine c_region ?_
  refine l_val s6 (y_mv rfl (ev_of rfl)) rfl rfl (l' := [_,_,_,_,_,_,_,_,_,_,_,_,_,_,_,_,_,_,_,_,_,_,_,_,_,_,_,_]) rfl ?_
  refine l_val s6 (y_neq rfl (ev_of rfl) (ev_of rfl)) rfl rfl (l' := [_,_,_,_,_,_,_,_,_,_,_,_,_,_,_,_,_,_,_,_,_,_,_,_,_,_,_,_]) rfl ?_
  refine l_end ?_
  refine x_thenN ?_
  refine c_if rfl (fun hc0 => ?_) (fun hc0 => ?_)
  · (try simp only [decide_eq_true_eq, decide_eq_false_iff_not, Bool.not_eq_true', Bool.not_eq_false'] at hc0)
    exact absurd (within0.2 (by omega)) hc0
  · (try simp only [decide_eq_true_eq, decide_eq_false_iff_not, Bool.not_eq_true', Bool.not_eq_false'] at hc0)
    refine c_skip ?_
    refine x_thenN ?_
    refine c_seq ?_
    apply c_drawn [] [0, 1, 2, 3, 4, 5, 6, 7, 8, 9, 10, 11, 12, 13, 14, 15] [] [] [] [(_, vq _), (_, vq _), (_, vq _), (_, vq _), (_, vq _), (_, vq _), (_, vq _), (_, vq _), (_, vq _), (_, vq _), (_, vq _), (_, vq _), (_, vq _), (_, vq _), (_, vq _), (_, vq _)] s6 Ty.follows (by kernel_rfl) (fun _ _ _ h => h.2) rfl rfl rfl (by decide) ?_
    show WP _ _ _ _ _
    refine p_end ?_
    refine d_val (y_mv rfl (ev_of rfl)) rfl rfl (l' := [_,_,_,_,_,_,_,_,_,_,_,_,_,_,_,_,_,_,_,_,_,_,_,_,_,_,_,_]) rfl ?_
    refine d_val (y_fieldAddrB rfl Ty.fld46_0 Ty.size2 (ev_of rfl)) rfl rfl (l' := [_,_,_,_,_,_,_,_,_,_,_,_,_,_,_,_,_,_,_,_,_,_,_,_,_,_,_,_]) rfl ?_
    refine d_val (y_load rfl Ty.some2 Ty.agg2 (ev_of rfl) (by repeat first | exact ent_cell rfl | exact ent_cell_of hb rfl | assumption | refine Ent.there ?_)) rfl rfl (l' := [_,_,_,_,_,_,_,_,_,_,_,_,_,_,_,_,_,_,_,_,_,_,_,_,_,_,_,_]) rfl ?_
    refine d_val (y_fieldAddrB rfl Ty.fld46_1 Ty.size2 (ev_of rfl)) rfl rfl (l' := [_,_,_,_,_,_,_,_,_,_,_,_,_,_,_,_,_,_,_,_,_,_,_,_,_,_,_,_]) rfl ?_
    refine d_val (y_load rfl Ty.some2 Ty.agg2 (ev_of rfl) (by repeat first | exact ent_cell rfl | exact ent_cell_of hb rfl | assumption | refine Ent.there ?_)) rfl rfl (l' := [_,_,_,_,_,_,_,_,_,_,_,_,_,_,_,_,_,_,_,_,_,_,_,_,_,_,_,_]) rfl ?_
    refine d_callL rfl rfl rfl Fn.call163 (vs := [_, _, _]) rfl (fun w M s => gslab0_c (k := tix W x y) s (Ent.app (by repeat first | assumption | with_reducible exact ent_blk | exact Ent.here arr_reads | exact Ent.here one_I64 | exact Ent.here one_Cell | exact Ent.here one_Bool | exact Ent.here one_Rect | refine Ent.there ?_) _) (Ent.app (by repeat first | assumption | with_reducible exact ent_blk | exact Ent.here arr_reads | exact Ent.here one_I64 | exact Ent.here one_Cell | exact Ent.here one_Bool | exact Ent.here one_Rect | refine Ent.there ?_) _) (by omega) (by omega) hA hk (by omega)) (l' := [_,_,_,_,_,_,_,_,_,_,_,_,_,_,_,_,_,_,_,_,_,_,_,_,_,_,_,_]) rfl ?_
    refine d_val (y_fieldAddrB rfl Ty.fld46_0 Ty.size2 (ev_of rfl)) rfl rfl (l' := [_,_,_,_,_,_,_,_,_,_,_,_,_,_,_,_,_,_,_,_,_,_,_,_,_,_,_,_]) rfl ?_
    refine d_val (y_load rfl Ty.some2 Ty.agg2 (ev_of rfl) (by repeat first | exact ent_cell rfl | exact ent_cell_of hb rfl | assumption | refine Ent.there ?_)) rfl rfl (l' := [_,_,_,_,_,_,_,_,_,_,_,_,_,_,_,_,_,_,_,_,_,_,_,_,_,_,_,_]) rfl ?_
    refine d_val (y_fieldAddrB rfl Ty.fld46_1 Ty.size2 (ev_of rfl)) rfl rfl (l' := [_,_,_,_,_,_,_,_,_,_,_,_,_,_,_,_,_,_,_,_,_,_,_,_,_,_,_,_]) rfl ?_
    refine d_val (y_load rfl Ty.some2 Ty.agg2 (ev_of rfl) (by repeat first | exact ent_cell rfl | exact ent_cell_of hb rfl | assumption | refine Ent.there ?_)) rfl rfl (l' := [_,_,_,_,_,_,_,_,_,_,_,_,_,_,_,_,_,_,_,_,_,_,_,_,_,_,_,_]) rfl ?_
    refine d_callL rfl rfl rfl Fn.call165 (vs := [_, _]) rfl (fun w M s => inner_c s (by omega) (by omega)) (l' := [_,_,_,_,_,_,_,_,_,_,_,_,_,_,_,_,_,_,_,_,_,_,_,_,_,_,_,_]) rfl ?_
    refine d_callL rfl rfl rfl Fn.call164 (vs := [_, _]) rfl (fun w M s => slabAt_c (W := tileW W (tix W x y % nT W)) (H := tileW H (tix W x y / nT W)) (vs := tileV W H vs (tix W x y)) s (Has.app (by repeat first | exact tk | refine Has.there _ ?_) _) (by rw [em]; omega) (by rw [ed]; omega)) (l' := [_,_,_,_,_,_,_,_,_,_,_,_,_,_,_,_,_,_,_,_,_,_,_,_,_,_,_,_]) rfl ?_
    refine d_val (y_extract rfl (ev_of rfl) rfl) rfl rfl (l' := [_,_,_,_,_,_,_,_,_,_,_,_,_,_,_,_,_,_,_,_,_,_,_,_,_,_,_,_]) rfl ?_
    refine d_val (y_extract rfl (ev_of rfl) rfl) rfl rfl (l' := [_,_,_,_,_,_,_,_,_,_,_,_,_,_,_,_,_,_,_,_,_,_,_,_,_,_,_,_]) rfl ?_
    refine d_val (y_as rfl (ev_of rfl)) rfl rfl (l' := [_,_,_,_,_,_,_,_,_,_,_,_,_,_,_,_,_,_,_,_,_,_,_,_,_,_,_,_]) rfl ?_
    refine d_val (y_as rfl (ev_of rfl)) rfl rfl (l' := [_,_,_,_,_,_,_,_,_,_,_,_,_,_,_,_,_,_,_,_,_,_,_,_,_,_,_,_]) rfl ?_
    refine d_end (fun w9 s8 => ?_)
    clear s6
    simp only [List.append_nil, List.cons_append, List.nil_append] at s8
    refine l_end ?_
    refine x_thenN ?_
    refine c_ret ?_
    refine r2 rfl rfl rfl ?_
    exact ⟨by rw [hg]; rfl, s8.sub (by repeat first | with_reducible exact Sub.refl _ | exact Sub.nil _ | refine Sub.take (by repeat first | with_reducible exact Take.here _ _ | apply Take.there) ?_ | refine Sub.skip _ ?_)⟩
set_option maxHeartbeats 4000000 in
set_option maxRecDepth 100000 in
/-- (*hachure/grid.Grid).At -/
theorem gatOut0_c {e : Env} {L : List Asn} {w : World} {b W H : Nat} {x y : Int} {sv : Value} (s : SL e w L) (hb : Ent L (fun h => Blk b (gridB W H sv) 196 h)) (h0 : 1 ≤ W ∧ W ≤ 1024) (h1 : 1 ≤ H ∧ H ≤ 1024) (hout : x < 0 ∨ (W : Int) ≤ x ∨ y < 0 ∨ (H : Int) ≤ y) :
    Calls Try.prog 127 #[ptr b 0, .agg #[.int .i64 x, .int .i64 y]] w (Rets fun v w' => v = .tuple #[.int .i64 0, .int .i64 4] ∧ SL e w' L) := by
  have hwi : withinF x y x y W H = 4 := by rw [withinF, if_neg (by omega), if_pos (by omega)]
  refine enter Try.func127 rfl (l := [ptr b 0, .agg #[.int .i64 x, .int .i64 y], undef, undef, undef, undef, undef, undef, undef, undef, undef, undef, undef, undef, undef, undef, undef, undef, undef, undef, undef, undef, undef, undef, undef, undef, undef, undef]) rfl ?_
  refine c_seq ?_
  refine c_region ?_
  refine l_box s rfl rfl rfl (ev_of rfl) (fun b3 w2 s1 => ?_)
  change SL _ _ (Blk _ #[_, _] _ :: _) at s1
  clear s
  refine nlL (l' := [_,_,_,_,_,_,_,_,_,_,_,_,_,_,_,_,_,_,_,_,_,_,_,_,_,_,_,_]) rfl ?_
  refine l_val s1 (y_as rfl (ev_of rfl)) rfl rfl (l' := [_,_,_,_,_,_,_,_,_,_,_,_,_,_,_,_,_,_,_,_,_,_,_,_,_,_,_,_]) rfl ?_
  refine l_val s1 (y_as rfl (ev_of rfl)) rfl rfl (l' := [_,_,_,_,_,_,_,_,_,_,_,_,_,_,_,_,_,_,_,_,_,_,_,_,_,_,_,_]) rfl ?_
  refine l_end ?_
  refine x_thenN ?_
  refine c_seq ?_
  refine c_seq ?_
  refine c_region ?_
  refine l_val s1 (y_mv rfl (ev_of rfl)) rfl rfl (l' := [_,_,_,_,_,_,_,_,_,_,_,_,_,_,_,_,_,_,_,_,_,_,_,_,_,_,_,_]) rfl ?_
  refine l_val s1 (y_load_blk rfl Ty.some46 Ty.agg46 Ty.size46 (ev_of rfl) (by repeat first | exact ent_blk | refine Ent.there ?_) rfl) rfl rfl (l' := [_,_,_,_,_,_,_,_,_,_,_,_,_,_,_,_,_,_,_,_,_,_,_,_,_,_,_,_]) rfl ?_
  refine l_callL rfl rfl rfl Fn.call203 (vs := [_]) rfl (gspot_c s1) ?_
  rintro _ w5 ⟨rfl, s4⟩
  clear s1
  refine nlL (l' := [_,_,_,_,_,_,_,_,_,_,_,_,_,_,_,_,_,_,_,_,_,_,_,_,_,_,_,_]) rfl ?_
  refine l_callL rfl rfl rfl Fn.call161 (vs := [_, _]) rfl (gcheck0_c s4 (by repeat first | assumption | with_reducible exact ent_blk | exact Ent.here arr_reads | exact Ent.here one_I64 | exact Ent.here one_Cell | exact Ent.here one_Bool | exact Ent.here one_Rect | refine Ent.there ?_) (by omega) (by omega)) ?_
  rintro _ w7 ⟨rfl, s6⟩
  clear s4
  refine nlL (l' := [_,_,_,_,_,_,_,_,_,_,_,_,_,_,_,_,_,_,_,_,_,_,_,_,_,_,_,_]) rfl ?_
  refine l_val s6 (y_as rfl (ev_of rfl)) rfl rfl (l' := [_,_,_,_,_,_,_,_,_,_,_,_,_,_,_,_,_,_,_,_,_,_,_,_,_,_,_,_]) rfl ?_
  refine l_end ?_
  refine x_thenN ?_
  refine c_seq ?_
  refine c_region ?_
  refine l_val s6 (y_mv rfl (ev_of rfl)) rfl rfl (l' := [_,_,_,_,_,_,_,_,_,_,_,_,_,_,_,_,_,_,_,_,_,_,_,_,_,_,_,_]) rfl ?_
  refine l_val s6 (y_neq rfl (ev_of rfl) (ev_of rfl)) rfl rfl (l' := [_,_,_,_,_,_,_,_,_,_,_,_,_,_,_,_,_,_,_,_,_,_,_,_,_,_,_,_]) rfl ?_
  refine l_end ?_
  refine x_thenN ?_
  refine c_if rfl (fun hc0 => ?_) (fun hc0 => ?_)
  · (try simp only [decide_eq_true_eq, decide_eq_false_iff_not, Bool.not_eq_true', Bool.not_eq_false'] at hc0)
    refine c_seq ?_
    refine c_region ?_
    refine l_val s6 (y_mv rfl (ev_of rfl)) rfl rfl (l' := [_,_,_,_,_,_,_,_,_,_,_,_,_,_,_,_,_,_,_,_,_,_,_,_,_,_,_,_]) rfl ?_
    refine l_val s6 (y_as rfl (ev_of rfl)) rfl rfl (l' := [_,_,_,_,_,_,_,_,_,_,_,_,_,_,_,_,_,_,_,_,_,_,_,_,_,_,_,_]) rfl ?_
    refine l_val s6 (y_as rfl (ev_of rfl)) rfl rfl (l' := [_,_,_,_,_,_,_,_,_,_,_,_,_,_,_,_,_,_,_,_,_,_,_,_,_,_,_,_]) rfl ?_
    refine l_end ?_
    refine x_thenN ?_
    refine c_ret ?_
    refine x_thenR ?_
    refine r2 rfl rfl rfl ?_
    exact ⟨by rw [hwi], s6.sub (by repeat first | with_reducible exact Sub.refl _ | exact Sub.nil _ | refine Sub.take (by repeat first | with_reducible exact Take.here _ _ | apply Take.there) ?_ | refine Sub.skip _ ?_)⟩
  · (try simp only [decide_eq_true_eq, decide_eq_false_iff_not, Bool.not_eq_true', Bool.not_eq_false'] at hc0)
    exact absurd (by rw [hwi]; decide) hc0
end Go.Proofs.Ytpchomihojidpaa
