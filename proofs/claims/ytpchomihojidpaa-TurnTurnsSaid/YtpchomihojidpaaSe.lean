/- A grid is filled: the walk; one cell is set. -/
import Derived.Test.YtpchomihojidpaaTy
import Derived.Test.YtpchomihojidpaaSlC
import Derived.Test.YtpchomihojidpaaSd
import Derived.KernelRfl
namespace Go.Proofs.Ytpchomihojidpaa
open Go.SL
set_option linter.unusedVariables false
set_option linter.unusedSimpArgs false
attribute [local irreducible] wpList WD WP Region.wanted Code.wp
theorem GridOk.fill {W H : Nat} {p : Nat → Bool} {n : Int} {vs : List Int} (h : GridOk W H vs) (hn : -2147483648 ≤ n ∧ n ≤ 2147483647) : GridOk W H (fillP p n vs) :=
  ⟨h.w0, h.w1, h.h0, h.h1, by rw [fillP_length]; exact h.len, h.ok.fill hn⟩
theorem piece_nat (x0 y0 x1 y1 k : Nat) : (piece x0 y0 x1 y1 k).x0 = ((max (16 * (x0 / 16 + k % pnX x0 x1)) x0 : Nat) : Int) ∧ (piece x0 y0 x1 y1 k).y0 = ((max (16 * (y0 / 16 + k / pnX x0 x1)) y0 : Nat) : Int) ∧
    (piece x0 y0 x1 y1 k).x1 = ((min (16 * (x0 / 16 + k % pnX x0 x1) + 15) x1 : Nat) : Int) ∧ (piece x0 y0 x1 y1 k).y1 = ((min (16 * (y0 / 16 + k / pnX x0 x1) + 15) y1 : Nat) : Int) := by
  simp only [piece, pieceR]
  generalize k % pnX x0 x1 = u
  generalize k / pnX x0 x1 = v
  refine ⟨by omega, by omega, by omega, by omega⟩
theorem piece_loc {W q x0 x1 : Nat} (hx : x0 ≤ x1) (hxw : x1 < W) (h0 : x0 / 16 ≤ q) (h1 : q ≤ x1 / 16) : max (16 * q) x0 % 16 ≤ min (16 * q + 15) x1 % 16 ∧ min (16 * q + 15) x1 % 16 < tileW W q ∧ max (16 * q) x0 / 16 = q ∧ max (16 * q) x0 ≤ x1 ∧ min (16 * q + 15) x1 ≤ x1 := by
  unfold tileW; omega
theorem ptile_eq {W x0 y0 x1 k : Nat} {a b : Nat} (ha : a / 16 = x0 / 16 + k % pnX x0 x1) (hb : b / 16 = y0 / 16 + k / pnX x0 x1) : (b : Int) / 16 * ((nT W : Nat) : Int) + (a : Int) / 16 = ((ptile W x0 y0 x1 k : Nat) : Int) := by
  show ((b / 16 : Nat) : Int) * ((nT W : Nat) : Int) + ((a / 16 : Nat) : Int) = _
  rw [ha, hb]; rfl
theorem boxPutT {e : Env} {w : World} {Ls L1 L2 : List Asn} {A B : Asn} {k : Nat} (hk : Ls[k]? = some A) (s : SL e w (B :: L1)) (t : Take L1 (Box (Ls.eraseIdx k)) L2) : SL e w (Box (Ls.set k B) :: L2) :=
  SL.boxPut hk ⟨s.env, Sat.tail (fun _ h => t.sat h) s.sat⟩
theorem tiles_step {W H x0 y0 x1 y1 k : Nat} {n : Int} {vs : List Int} {bs : List Nat} (hl : vs.length = W * H) (hx : x0 ≤ x1) (hxw : x1 < W) (hyh : y1 < H) (hk : k < pnX y0 y1 * pnX x0 x1) :
    ((List.range (nT W * nT H)).map (tileA W H (fillP (upto W x0 y0 x1 y1 k) n vs) bs)).set (ptile W x0 y0 x1 k) (SlabA (bs.getD (ptile W x0 y0 x1 k) 0) (tileW W (ptile W x0 y0 x1 k % nT W)) (tileW H (ptile W x0 y0 x1 k / nT W))
      (fillP (rectB (tileW W (ptile W x0 y0 x1 k % nT W)) (max (16 * (x0 / 16 + k % pnX x0 x1)) x0 % 16) (max (16 * (y0 / 16 + k / pnX x0 x1)) y0 % 16) (min (16 * (x0 / 16 + k % pnX x0 x1) + 15) x1 % 16) (min (16 * (y0 / 16 + k / pnX x0 x1) + 15) y1 % 16)) n (tileV W H (fillP (upto W x0 y0 x1 y1 k) n vs) (ptile W x0 y0 x1 k)))) =
    (List.range (nT W * nT H)).map (tileA W H (fillP (upto W x0 y0 x1 y1 (k + 1)) n vs) bs) := by
  obtain ⟨q1, q2, q3, q4, q5⟩ := piece_q (y0 := y0) hx hxw hyh hk
  apply List.ext_getElem?
  intro i
  rw [List.getElem?_set, List.getElem?_map, List.getElem?_map]
  by_cases hi : i < nT W * nT H
  · rw [List.getElem?_range hi]
    by_cases he : ptile W x0 y0 x1 k = i
    · rw [if_pos he, if_pos (by simpa using q3)]
      subst he
      simp only [Option.map_some, tileA, tile_this hl hx hxw hyh hk]
    · rw [if_neg he]
      simp only [Option.map_some, tileA, tile_other hl hi (fun h => he h.symm)]
  · rw [List.getElem?_eq_none (by simpa using Nat.not_lt.1 hi)]
    rw [if_neg (fun h : ptile W x0 y0 x1 k = i => hi (h ▸ q3))]; rfl
theorem fillP_one {W H x y : Nat} {n : Int} {vs : List Int} (hl : vs.length = W * H) (hx : x < W) : fillP (rectB W x y x y) n vs = vs.set (y * W + x) n := by
  rw [show vs.set (y * W + x) n = (fillP (fun _ => false) n vs).set (y * W + x) n from by rw [fillP_none (fun _ _ => rfl)], fillP_set]
  refine fillP_congr fun k _ => ?_
  rw [Bool.eq_iff_iff]
  simp only [rectB, decide_eq_true_eq, Bool.false_or, beq_iff_eq, idx_iff hx]
  omega
set_option maxHeartbeats 4000000 in
set_option maxRecDepth 100000 in
/-- (*hachure/grid.Grid).Fill -/
theorem gfill0_c {e : Env} {L : List Asn} {w : World} {n : Int} {b W H x0 y0 x1 y1 : Nat} {vs : List Int} {sv : Value} {bs : List Nat} (s : SL e w (Blk b (gridB W H sv) 196 :: Arr PtrT 198 sv (ptrs bs) :: Box ((List.range (nT W * nT H)).map (tileA W H vs bs)) :: L)) (hok : GridOk W H vs) (hl : bs.length = nT W * nT H) (hn : -2147483648 ≤ n ∧ n ≤ 2147483647) (hx : x0 ≤ x1) (hxw : x1 < W) (hy : y0 ≤ y1) (hyh : y1 < H) :
    Calls Try.prog 202 #[ptr b 0, .agg #[.int .i64 (x0 : Int), .int .i64 (y0 : Int), .int .i64 (x1 : Int), .int .i64 (y1 : Int)], .int .i64 n] w (Rets fun v w' => v = .int .i64 0 ∧ SL e w' (GridA b W H (fillP (rectB W x0 y0 x1 y1) n vs) :: L)) := by
  have hw0 := hok.w0; have hw1 := hok.w1; have hh0 := hok.h0; have hh1 := hok.h1
  have hA : nT W ≤ 64 := by unfold nT; omega
  have hnn : pnX y0 y1 * pnX x0 x1 ≤ 64 * 64 := Nat.mul_le_mul (by unfold pnX; omega) (by unfold pnX; omega)
  have hpl := pieces_length x0 y0 x1 y1
  refine enter Try.func202 rfl (l := [ptr b 0, .agg #[.int .i64 (x0 : Int), .int .i64 (y0 : Int), .int .i64 (x1 : Int), .int .i64 (y1 : Int)], .int .i64 n, undef, undef, undef, undef, undef, undef, undef, undef, undef, undef, undef, undef, undef, undef, undef, undef, undef, undef, undef, undef, undef, undef, undef, undef, undef, undef, undef, undef, undef, undef, undef, undef, undef, undef, undef, undef, undef, undef, undef, undef, undef, undef, undef, undef, undef, undef, undef, undef, undef, undef, undef, undef, undef, undef]) rfl ?_
  refine c_seq ?_
  refine c_region ?_
  refine l_box s rfl rfl rfl (ev_of rfl) (fun b3 w2 s1 => ?_)
  change SL _ _ (Blk _ #[_, _, _, _] _ :: _) at s1
  clear s
  refine nlL (l' := [_,_,_,_,_,_,_,_,_,_,_,_,_,_,_,_,_,_,_,_,_,_,_,_,_,_,_,_,_,_,_,_,_,_,_,_,_,_,_,_,_,_,_,_,_,_,_,_,_,_,_,_,_,_,_,_,_]) rfl ?_
  refine l_val s1 (y_as rfl (ev_of rfl)) rfl rfl (l' := [_,_,_,_,_,_,_,_,_,_,_,_,_,_,_,_,_,_,_,_,_,_,_,_,_,_,_,_,_,_,_,_,_,_,_,_,_,_,_,_,_,_,_,_,_,_,_,_,_,_,_,_,_,_,_,_,_]) rfl ?_
  refine l_end ?_
  refine x_thenN ?_
  refine c_seq ?_
  refine c_seq ?_
  refine c_region ?_
  refine l_val s1 (y_mv rfl (ev_of rfl)) rfl rfl (l' := [_,_,_,_,_,_,_,_,_,_,_,_,_,_,_,_,_,_,_,_,_,_,_,_,_,_,_,_,_,_,_,_,_,_,_,_,_,_,_,_,_,_,_,_,_,_,_,_,_,_,_,_,_,_,_,_,_]) rfl ?_
  refine l_val s1 (y_load_blk rfl Ty.some58 Ty.agg58 Ty.size58 (ev_of rfl) (by repeat first | exact ent_blk | refine Ent.there ?_) rfl) rfl rfl (l' := [_,_,_,_,_,_,_,_,_,_,_,_,_,_,_,_,_,_,_,_,_,_,_,_,_,_,_,_,_,_,_,_,_,_,_,_,_,_,_,_,_,_,_,_,_,_,_,_,_,_,_,_,_,_,_,_,_]) rfl ?_
  refine l_callL rfl rfl rfl Fn.call161 (vs := [_, _]) rfl (gcheck0_c s1 (by repeat first | assumption | with_reducible exact ent_blk | exact Ent.here arr_reads | exact Ent.here one_I64 | exact Ent.here one_Cell | exact Ent.here one_Bool | exact Ent.here one_Rect | refine Ent.there ?_) (by omega) (by omega)) ?_
  rintro _ w5 ⟨rfl, s4⟩
  clear s1
  refine nlL (l' := [_,_,_,_,_,_,_,_,_,_,_,_,_,_,_,_,_,_,_,_,_,_,_,_,_,_,_,_,_,_,_,_,_,_,_,_,_,_,_,_,_,_,_,_,_,_,_,_,_,_,_,_,_,_,_,_,_]) rfl ?_
  refine l_val s4 (y_as rfl (ev_of rfl)) rfl rfl (l' := [_,_,_,_,_,_,_,_,_,_,_,_,_,_,_,_,_,_,_,_,_,_,_,_,_,_,_,_,_,_,_,_,_,_,_,_,_,_,_,_,_,_,_,_,_,_,_,_,_,_,_,_,_,_,_,_,_]) rfl ?_
  refine l_end ?_
  refine x_thenN ?_
  refine c_seq ?_
  refine c_region ?_
  refine l_val s4 (y_mv rfl (ev_of rfl)) rfl rfl (l' := [_,_,_,_,_,_,_,_,_,_,_,_,_,_,_,_,_,_,_,_,_,_,_,_,_,_,_,_,_,_,_,_,_,_,_,_,_,_,_,_,_,_,_,_,_,_,_,_,_,_,_,_,_,_,_,_,_]) rfl ?_
  refine l_val s4 (y_neq rfl (ev_of rfl) (ev_of rfl)) rfl rfl (l' := [_,_,_,_,_,_,_,_,_,_,_,_,_,_,_,_,_,_,_,_,_,_,_,_,_,_,_,_,_,_,_,_,_,_,_,_,_,_,_,_,_,_,_,_,_,_,_,_,_,_,_,_,_,_,_,_,_]) rfl ?_
  refine l_end ?_
  refine x_thenN ?_
  refine c_if rfl (fun hc0 => ?_) (fun hc0 => ?_)
  · (try simp only [decide_eq_true_eq, decide_eq_false_iff_not, Bool.not_eq_true', Bool.not_eq_false'] at hc0)
    exact absurd (within0.2 (by omega)) hc0
  · (try simp only [decide_eq_true_eq, decide_eq_false_iff_not, Bool.not_eq_true', Bool.not_eq_false'] at hc0)
    refine c_skip ?_
    refine x_thenN ?_
    refine c_seq ?_
    refine c_seq ?_
    refine c_region ?_
    refine l_val s4 (y_load_blk rfl Ty.some58 Ty.agg58 Ty.size58 (ev_of rfl) (by repeat first | exact ent_blk | refine Ent.there ?_) rfl) rfl rfl (l' := [_,_,_,_,_,_,_,_,_,_,_,_,_,_,_,_,_,_,_,_,_,_,_,_,_,_,_,_,_,_,_,_,_,_,_,_,_,_,_,_,_,_,_,_,_,_,_,_,_,_,_,_,_,_,_,_,_]) rfl ?_
    refine l_callL rfl rfl rfl Fn.call200 (vs := [_]) rfl (pieces_c s4 hx (by omega) hy (by omega)) ?_
    rintro pv w7 s6
    clear s4
    refine nlL (l' := [_,_,_,_,_,_,_,_,_,_,_,_,_,_,_,_,_,_,_,_,_,_,_,_,_,_,_,_,_,_,_,_,_,_,_,_,_,_,_,_,_,_,_,_,_,_,_,_,_,_,_,_,_,_,_,_,_]) rfl ?_
    refine l_val s6 (y_len rfl rfl Ty.elem277 (ev_of rfl) (by repeat first | assumption | with_reducible exact ent_blk | exact Ent.here arr_reads | exact Ent.here one_I64 | exact Ent.here one_Cell | exact Ent.here one_Bool | exact Ent.here one_Rect | refine Ent.there ?_)) rfl rfl (l' := [_,_,_,_,_,_,_,_,_,_,_,_,_,_,_,_,_,_,_,_,_,_,_,_,_,_,_,_,_,_,_,_,_,_,_,_,_,_,_,_,_,_,_,_,_,_,_,_,_,_,_,_,_,_,_,_,_]) rfl ?_
    refine l_val s6 (y_mv rfl (ev_of rfl)) rfl rfl (l' := [_,_,_,_,_,_,_,_,_,_,_,_,_,_,_,_,_,_,_,_,_,_,_,_,_,_,_,_,_,_,_,_,_,_,_,_,_,_,_,_,_,_,_,_,_,_,_,_,_,_,_,_,_,_,_,_,_]) rfl ?_
    refine l_end ?_
    refine x_thenN ?_
    refine c_block ?_
    rw [show tileA W H vs bs = tileA W H (fillP (upto W x0 y0 x1 y1 0) n vs) bs from by rw [upto_zero]] at s6
    refine c_loop [false, false, false, false, false, false, true, false, false, true, true, true, true, false, false, false, false, false, false, false, false, false, true, true, true, true, true, true, true, true, true, true, true, true, true, true, true, true, true, true, true, true, true, true, true, true, true, true, true, true, true, true, true, true, true, true, true] (fun mu ds w => ∃ (k : Nat) (d6 d9 d10 d11 d12 d23 d24 d25 d26 d27 d28 d29 d30 d31 d32 d33 d34 d35 d36 d37 d38 d39 d40 d41 d42 d43 d44 d45 d46 d47 d48 d49 d50 d51 d52 d53 d54 d55 d56 : Value), ds = [d6, d9, d10, d11, d12, (.int .i64 (k : Int)), d23, d24, d25, d26, d27, d28, d29, d30, d31, d32, d33, d34, d35, d36, d37, d38, d39, d40, d41, d42, d43, d44, d45, d46, d47, d48, d49, d50, d51, d52, d53, d54, d55, d56] ∧ mu = pnX y0 y1 * pnX x0 x1 - k ∧ SL e w (Box ((List.range (nT W * nT H)).map (tileA W H (fillP (upto W x0 y0 x1 y1 k) n vs) bs)) :: Arr RectT 58 pv (pieces x0 y0 x1 y1) :: Blk b3 #[.int .i64 (x0 : Int), .int .i64 (y0 : Int), .int .i64 (x1 : Int), .int .i64 (y1 : Int)] 58 :: Blk b (gridB W H sv) 196 :: Arr PtrT 198 sv (ptrs bs) :: L) ∧ (k ≤ pnX y0 y1 * pnX x0 x1)) (ds := [_, _, _, _, _, _, _, _, _, _, _, _, _, _, _, _, _, _, _, _, _, _, _, _, _, _, _, _, _, _, _, _, _, _, _, _, _, _, _, _]) rfl ⟨0, _, _, _, _, _, _, _, _, _, _, _, _, _, _, _, _, _, _, _, _, _, _, _, _, _, _, _, _, _, _, _, _, _, _, _, _, _, _, _, rfl, rfl, ?_, ?_⟩ ?_
    · first | exact s6 | exact s6.sub (by repeat first | with_reducible exact Sub.refl _ | exact Sub.nil _ | refine Sub.take (by repeat first | with_reducible exact Take.here _ _ | apply Take.there) ?_ | refine Sub.skip _ ?_)
    · omega
    · clear s6
      rintro n10 ds11 w9 ⟨k, d6, d9, d10, d11, d12, d23, d24, d25, d26, d27, d28, d29, d30, d31, d32, d33, d34, d35, d36, d37, d38, d39, d40, d41, d42, d43, d44, d45, d46, d47, d48, d49, d50, d51, d52, d53, d54, d55, d56, rfl, rfl, s8, hK⟩
      refine nlC (l' := [_,_,_,_,_,_,_,_,_,_,_,_,_,_,_,_,_,_,_,_,_,_,_,_,_,_,_,_,_,_,_,_,_,_,_,_,_,_,_,_,_,_,_,_,_,_,_,_,_,_,_,_,_,_,_,_,_]) rfl ?_
      refine c_seq ?_
      refine c_region ?_
      refine l_val s8 (y_lss rfl (ev_of rfl) (ev_of rfl)) rfl rfl (l' := [_,_,_,_,_,_,_,_,_,_,_,_,_,_,_,_,_,_,_,_,_,_,_,_,_,_,_,_,_,_,_,_,_,_,_,_,_,_,_,_,_,_,_,_,_,_,_,_,_,_,_,_,_,_,_,_,_]) rfl ?_
      refine l_end ?_
      refine x_thenN ?_
      refine c_seq ?_
      refine c_if rfl (fun hc1 => ?_) (fun hc1 => ?_)
      · (try simp only [decide_eq_true_eq, decide_eq_false_iff_not, Bool.not_eq_true', Bool.not_eq_false'] at hc1)
        refine c_skip ?_
        refine x_thenN ?_
        refine c_seq ?_
        refine c_block ?_
        refine c_seq ?_
        refine c_region ?_
        refine l_val s8 (y_idx rfl Ty.elem277 Ty.size58 (ev_of rfl) (ev_of rfl) (by repeat first | assumption | with_reducible exact ent_blk | exact Ent.here arr_reads | exact Ent.here one_I64 | exact Ent.here one_Cell | exact Ent.here one_Bool | exact Ent.here one_Rect | refine Ent.there ?_) (by first | rfl | exact (Int.toNat_of_nonneg (by omega)).symm) (by omega)) rfl rfl (l' := [_,_,_,_,_,_,_,_,_,_,_,_,_,_,_,_,_,_,_,_,_,_,_,_,_,_,_,_,_,_,_,_,_,_,_,_,_,_,_,_,_,_,_,_,_,_,_,_,_,_,_,_,_,_,_,_,_]) rfl ?_
        refine l_val s8 (y_ldA rfl Ty.some58 Ty.agg58 Ty.size58 (ev_of rfl) (by repeat first | assumption | with_reducible exact ent_blk | exact Ent.here arr_reads | exact Ent.here one_I64 | exact Ent.here one_Cell | exact Ent.here one_Bool | exact Ent.here one_Rect | refine Ent.there ?_) (by omega) (vs := [_, _, _, _]) rfl) rfl rfl (l' := [_,_,_,_,_,_,_,_,_,_,_,_,_,_,_,_,_,_,_,_,_,_,_,_,_,_,_,_,_,_,_,_,_,_,_,_,_,_,_,_,_,_,_,_,_,_,_,_,_,_,_,_,_,_,_,_,_]) rfl ?_
        refine l_alloc s8 rfl rfl rfl Ty.zero58 (fun b14 w13 s12 => ?_)
        change SL _ _ (Blk _ #[_, _, _, _] _ :: _) at s12
        clear s8
        refine nlL (l' := [_,_,_,_,_,_,_,_,_,_,_,_,_,_,_,_,_,_,_,_,_,_,_,_,_,_,_,_,_,_,_,_,_,_,_,_,_,_,_,_,_,_,_,_,_,_,_,_,_,_,_,_,_,_,_,_,_]) rfl ?_
        refine l_stA s12 (by repeat first | with_reducible exact Take.here _ _ | apply Take.there) rfl rfl rfl Ty.size58 (ev_of rfl) (ev_of rfl) rfl rfl (by first | (simp [Value.oneCell']; done) | (intro x hx; simp only [List.mem_toArray, List.mem_cons, List.not_mem_nil, or_false] at hx; rcases hx with rfl | rfl | rfl | rfl <;> first | rfl | assumption | exact arr_one (by repeat first | assumption | with_reducible exact ent_blk | exact Ent.here arr_reads | exact Ent.here one_I64 | exact Ent.here one_Cell | exact Ent.here one_Bool | exact Ent.here one_Rect | refine Ent.there ?_) s12)) (fun w16 s15 => ?_)
        clear s12
        refine l_end ?_
        refine x_thenN ?_
        refine c_seq ?_
        have hk : k < pnX y0 y1 * pnX x0 x1 := by omega
        obtain ⟨p1, p2, p3, p4⟩ := piece_nat x0 y0 x1 y1 k
        obtain ⟨q1, q2, q3, q4, q5⟩ := piece_q (y0 := y0) hx hxw hyh hk
        obtain ⟨l1, l2, l3, l4, l5⟩ := piece_loc hx hxw (Nat.le_add_right _ _) q4
        obtain ⟨m1, m2, m3, m4, m5⟩ := piece_loc hy hyh (Nat.le_add_right _ _) q5
        have hkk := ptile_eq (W := W) l3 m3
        rw [pieces_getD hk, p1, p2, p3, p4] at s15
        apply c_drawn [] [0, 1, 2, 3, 4, 5, 6, 7, 8, 9, 10, 11] [12, 13] [] [_, _] [(_, vq _), (_, vq _), (_, vq _), (_, vq _), (_, vq _), (_, vq _), (_, vq _), (_, vq _), (_, vq _), (_, vq _), (_, vb _ _), (_, vb _ _)] s15 Ty.follows (by kernel_rfl) (fun _ _ _ h => h.2) rfl rfl rfl (by decide) ?_
        show WP _ _ _ _ _
        refine p_end ?_
        refine d_val (y_fieldAddrB rfl Ty.fld58_0 Ty.size2 (ev_of rfl)) rfl rfl (l' := [_,_,_,_,_,_,_,_,_,_,_,_,_,_,_,_,_,_,_,_,_,_,_,_,_,_,_,_,_,_,_,_,_,_,_,_,_,_,_,_,_,_,_,_,_,_,_,_,_,_,_,_,_,_,_,_,_]) rfl ?_
        refine d_val (y_load rfl Ty.some2 Ty.agg2 (ev_of rfl) (by repeat first | exact ent_cell rfl | assumption | refine Ent.there ?_)) rfl rfl (l' := [_,_,_,_,_,_,_,_,_,_,_,_,_,_,_,_,_,_,_,_,_,_,_,_,_,_,_,_,_,_,_,_,_,_,_,_,_,_,_,_,_,_,_,_,_,_,_,_,_,_,_,_,_,_,_,_,_]) rfl ?_
        refine d_val (y_fieldAddrB rfl Ty.fld58_1 Ty.size2 (ev_of rfl)) rfl rfl (l' := [_,_,_,_,_,_,_,_,_,_,_,_,_,_,_,_,_,_,_,_,_,_,_,_,_,_,_,_,_,_,_,_,_,_,_,_,_,_,_,_,_,_,_,_,_,_,_,_,_,_,_,_,_,_,_,_,_]) rfl ?_
        refine d_val (y_load rfl Ty.some2 Ty.agg2 (ev_of rfl) (by repeat first | exact ent_cell rfl | assumption | refine Ent.there ?_)) rfl rfl (l' := [_,_,_,_,_,_,_,_,_,_,_,_,_,_,_,_,_,_,_,_,_,_,_,_,_,_,_,_,_,_,_,_,_,_,_,_,_,_,_,_,_,_,_,_,_,_,_,_,_,_,_,_,_,_,_,_,_]) rfl ?_
        refine d_callL rfl rfl rfl Fn.call165 (vs := [_, _]) rfl (fun w M s => inner_c s (by omega) (by omega)) (l' := [_,_,_,_,_,_,_,_,_,_,_,_,_,_,_,_,_,_,_,_,_,_,_,_,_,_,_,_,_,_,_,_,_,_,_,_,_,_,_,_,_,_,_,_,_,_,_,_,_,_,_,_,_,_,_,_,_]) rfl ?_
        refine d_val (y_fieldAddrB rfl Ty.fld58_2 Ty.size2 (ev_of rfl)) rfl rfl (l' := [_,_,_,_,_,_,_,_,_,_,_,_,_,_,_,_,_,_,_,_,_,_,_,_,_,_,_,_,_,_,_,_,_,_,_,_,_,_,_,_,_,_,_,_,_,_,_,_,_,_,_,_,_,_,_,_,_]) rfl ?_
        refine d_val (y_load rfl Ty.some2 Ty.agg2 (ev_of rfl) (by repeat first | exact ent_cell rfl | assumption | refine Ent.there ?_)) rfl rfl (l' := [_,_,_,_,_,_,_,_,_,_,_,_,_,_,_,_,_,_,_,_,_,_,_,_,_,_,_,_,_,_,_,_,_,_,_,_,_,_,_,_,_,_,_,_,_,_,_,_,_,_,_,_,_,_,_,_,_]) rfl ?_
        refine d_val (y_fieldAddrB rfl Ty.fld58_3 Ty.size2 (ev_of rfl)) rfl rfl (l' := [_,_,_,_,_,_,_,_,_,_,_,_,_,_,_,_,_,_,_,_,_,_,_,_,_,_,_,_,_,_,_,_,_,_,_,_,_,_,_,_,_,_,_,_,_,_,_,_,_,_,_,_,_,_,_,_,_]) rfl ?_
        refine d_val (y_load rfl Ty.some2 Ty.agg2 (ev_of rfl) (by repeat first | exact ent_cell rfl | assumption | refine Ent.there ?_)) rfl rfl (l' := [_,_,_,_,_,_,_,_,_,_,_,_,_,_,_,_,_,_,_,_,_,_,_,_,_,_,_,_,_,_,_,_,_,_,_,_,_,_,_,_,_,_,_,_,_,_,_,_,_,_,_,_,_,_,_,_,_]) rfl ?_
        refine d_callL rfl rfl rfl Fn.call165 (vs := [_, _]) rfl (fun w M s => inner_c s (by omega) (by omega)) (l' := [_,_,_,_,_,_,_,_,_,_,_,_,_,_,_,_,_,_,_,_,_,_,_,_,_,_,_,_,_,_,_,_,_,_,_,_,_,_,_,_,_,_,_,_,_,_,_,_,_,_,_,_,_,_,_,_,_]) rfl ?_
        refine d_alloc rfl rfl rfl Ty.zero46 (fun b17 => ?_)
        refine nlD (l' := [_,_,_,_,_,_,_,_,_,_,_,_,_,_,_,_,_,_,_,_,_,_,_,_,_,_,_,_,_,_,_,_,_,_,_,_,_,_,_,_,_,_,_,_,_,_,_,_,_,_,_,_,_,_,_,_,_]) rfl ?_
        refine d_alloc rfl rfl rfl Ty.zero46 (fun b18 => ?_)
        refine nlD (l' := [_,_,_,_,_,_,_,_,_,_,_,_,_,_,_,_,_,_,_,_,_,_,_,_,_,_,_,_,_,_,_,_,_,_,_,_,_,_,_,_,_,_,_,_,_,_,_,_,_,_,_,_,_,_,_,_,_]) rfl ?_
        refine d_end (fun w20 s19 => ?_)
        clear s15
        simp only [List.append_nil, List.cons_append, List.nil_append] at s19
        refine l_stA s19 (by repeat first | with_reducible exact Take.here _ _ | apply Take.there) rfl rfl rfl Ty.size46 (ev_of rfl) (ev_of rfl) rfl rfl (by first | (simp [Value.oneCell']; done) | (intro x hx; simp only [List.mem_toArray, List.mem_cons, List.not_mem_nil, or_false] at hx; rcases hx with rfl | rfl <;> first | rfl | assumption | exact arr_one (by repeat first | assumption | with_reducible exact ent_blk | exact Ent.here arr_reads | exact Ent.here one_I64 | exact Ent.here one_Cell | exact Ent.here one_Bool | exact Ent.here one_Rect | refine Ent.there ?_) s19)) (fun w22 s21 => ?_)
        clear s19
        refine l_stA s21 (by repeat first | with_reducible exact Take.here _ _ | apply Take.there) rfl rfl rfl Ty.size46 (ev_of rfl) (ev_of rfl) rfl rfl (by first | (simp [Value.oneCell']; done) | (intro x hx; simp only [List.mem_toArray, List.mem_cons, List.not_mem_nil, or_false] at hx; rcases hx with rfl | rfl <;> first | rfl | assumption | exact arr_one (by repeat first | assumption | with_reducible exact ent_blk | exact Ent.here arr_reads | exact Ent.here one_I64 | exact Ent.here one_Cell | exact Ent.here one_Bool | exact Ent.here one_Rect | refine Ent.there ?_) s21)) (fun w24 s23 => ?_)
        clear s21
        refine l_end ?_
        refine x_thenN ?_
        refine c_seq ?_
        have htk : ((List.range (nT W * nT H)).map (tileA W H (fillP (upto W x0 y0 x1 y1 k) n vs) bs))[ptile W x0 y0 x1 k]? = some (tileA W H (fillP (upto W x0 y0 x1 y1 k) n vs) bs (ptile W x0 y0 x1 k)) := by simp [q3]
        replace s23 := SL.boxTake htk (s23.take (by repeat first | with_reducible exact Take.here _ _ | apply Take.there))
        change SL _ _ (SlabA _ _ _ _ :: _) at s23
        apply c_drawn [] [0, 1, 2, 3, 4, 5, 6, 7, 8, 9, 10, 11, 12, 13, 14, 15] [16, 17] [] [_, _] [(_, vq _), (_, vq _), (_, vq _), (_, vq _), (_, vq _), (_, vq _), (_, vq _), (_, vq _), (_, vq _), (_, vq _), (_, vq _), (_, vq _), (_, vq _), (_, vq _), (_, vq _), (_, vq _)] s23 Ty.follows (by kernel_rfl) (fun _ _ _ h => h.2) rfl rfl rfl (by decide) ?_
        show WP _ _ _ _ _
        refine p_end ?_
        refine d_val (y_mv rfl (ev_of rfl)) rfl rfl (l' := [_,_,_,_,_,_,_,_,_,_,_,_,_,_,_,_,_,_,_,_,_,_,_,_,_,_,_,_,_,_,_,_,_,_,_,_,_,_,_,_,_,_,_,_,_,_,_,_,_,_,_,_,_,_,_,_,_]) rfl ?_
        refine d_val (y_fieldAddrB rfl Ty.fld58_0 Ty.size2 (ev_of rfl)) rfl rfl (l' := [_,_,_,_,_,_,_,_,_,_,_,_,_,_,_,_,_,_,_,_,_,_,_,_,_,_,_,_,_,_,_,_,_,_,_,_,_,_,_,_,_,_,_,_,_,_,_,_,_,_,_,_,_,_,_,_,_]) rfl ?_
        refine d_val (y_load rfl Ty.some2 Ty.agg2 (ev_of rfl) (by repeat first | exact ent_cell rfl | assumption | refine Ent.there ?_)) rfl rfl (l' := [_,_,_,_,_,_,_,_,_,_,_,_,_,_,_,_,_,_,_,_,_,_,_,_,_,_,_,_,_,_,_,_,_,_,_,_,_,_,_,_,_,_,_,_,_,_,_,_,_,_,_,_,_,_,_,_,_]) rfl ?_
        refine d_val (y_fieldAddrB rfl Ty.fld58_1 Ty.size2 (ev_of rfl)) rfl rfl (l' := [_,_,_,_,_,_,_,_,_,_,_,_,_,_,_,_,_,_,_,_,_,_,_,_,_,_,_,_,_,_,_,_,_,_,_,_,_,_,_,_,_,_,_,_,_,_,_,_,_,_,_,_,_,_,_,_,_]) rfl ?_
        refine d_val (y_load rfl Ty.some2 Ty.agg2 (ev_of rfl) (by repeat first | exact ent_cell rfl | assumption | refine Ent.there ?_)) rfl rfl (l' := [_,_,_,_,_,_,_,_,_,_,_,_,_,_,_,_,_,_,_,_,_,_,_,_,_,_,_,_,_,_,_,_,_,_,_,_,_,_,_,_,_,_,_,_,_,_,_,_,_,_,_,_,_,_,_,_,_]) rfl ?_
        refine d_callL rfl rfl rfl Fn.call163 (vs := [_, _, _]) rfl (fun w M s => gslab0_c (k := ptile W x0 y0 x1 k) s (Ent.app (by repeat first | assumption | with_reducible exact ent_blk | exact Ent.here arr_reads | exact Ent.here one_I64 | exact Ent.here one_Cell | exact Ent.here one_Bool | exact Ent.here one_Rect | refine Ent.there ?_) _) (Ent.app (by repeat first | assumption | with_reducible exact ent_blk | exact Ent.here arr_reads | exact Ent.here one_I64 | exact Ent.here one_Cell | exact Ent.here one_Bool | exact Ent.here one_Rect | refine Ent.there ?_) _) (by omega) (by omega) hA hkk (by omega)) (l' := [_,_,_,_,_,_,_,_,_,_,_,_,_,_,_,_,_,_,_,_,_,_,_,_,_,_,_,_,_,_,_,_,_,_,_,_,_,_,_,_,_,_,_,_,_,_,_,_,_,_,_,_,_,_,_,_,_]) rfl ?_
        refine d_val (y_fieldAddrB rfl Ty.fld46_0 Ty.size2 (ev_of rfl)) rfl rfl (l' := [_,_,_,_,_,_,_,_,_,_,_,_,_,_,_,_,_,_,_,_,_,_,_,_,_,_,_,_,_,_,_,_,_,_,_,_,_,_,_,_,_,_,_,_,_,_,_,_,_,_,_,_,_,_,_,_,_]) rfl ?_
        refine d_val (y_load rfl Ty.some2 Ty.agg2 (ev_of rfl) (by repeat first | exact ent_cell rfl | assumption | refine Ent.there ?_)) rfl rfl (l' := [_,_,_,_,_,_,_,_,_,_,_,_,_,_,_,_,_,_,_,_,_,_,_,_,_,_,_,_,_,_,_,_,_,_,_,_,_,_,_,_,_,_,_,_,_,_,_,_,_,_,_,_,_,_,_,_,_]) rfl ?_
        refine d_val (y_fieldAddrB rfl Ty.fld46_1 Ty.size2 (ev_of rfl)) rfl rfl (l' := [_,_,_,_,_,_,_,_,_,_,_,_,_,_,_,_,_,_,_,_,_,_,_,_,_,_,_,_,_,_,_,_,_,_,_,_,_,_,_,_,_,_,_,_,_,_,_,_,_,_,_,_,_,_,_,_,_]) rfl ?_
        refine d_val (y_load rfl Ty.some2 Ty.agg2 (ev_of rfl) (by repeat first | exact ent_cell rfl | assumption | refine Ent.there ?_)) rfl rfl (l' := [_,_,_,_,_,_,_,_,_,_,_,_,_,_,_,_,_,_,_,_,_,_,_,_,_,_,_,_,_,_,_,_,_,_,_,_,_,_,_,_,_,_,_,_,_,_,_,_,_,_,_,_,_,_,_,_,_]) rfl ?_
        refine d_val (y_fieldAddrB rfl Ty.fld46_0 Ty.size2 (ev_of rfl)) rfl rfl (l' := [_,_,_,_,_,_,_,_,_,_,_,_,_,_,_,_,_,_,_,_,_,_,_,_,_,_,_,_,_,_,_,_,_,_,_,_,_,_,_,_,_,_,_,_,_,_,_,_,_,_,_,_,_,_,_,_,_]) rfl ?_
        refine d_val (y_load rfl Ty.some2 Ty.agg2 (ev_of rfl) (by repeat first | exact ent_cell rfl | assumption | refine Ent.there ?_)) rfl rfl (l' := [_,_,_,_,_,_,_,_,_,_,_,_,_,_,_,_,_,_,_,_,_,_,_,_,_,_,_,_,_,_,_,_,_,_,_,_,_,_,_,_,_,_,_,_,_,_,_,_,_,_,_,_,_,_,_,_,_]) rfl ?_
        refine d_val (y_fieldAddrB rfl Ty.fld46_1 Ty.size2 (ev_of rfl)) rfl rfl (l' := [_,_,_,_,_,_,_,_,_,_,_,_,_,_,_,_,_,_,_,_,_,_,_,_,_,_,_,_,_,_,_,_,_,_,_,_,_,_,_,_,_,_,_,_,_,_,_,_,_,_,_,_,_,_,_,_,_]) rfl ?_
        refine d_val (y_load rfl Ty.some2 Ty.agg2 (ev_of rfl) (by repeat first | exact ent_cell rfl | assumption | refine Ent.there ?_)) rfl rfl (l' := [_,_,_,_,_,_,_,_,_,_,_,_,_,_,_,_,_,_,_,_,_,_,_,_,_,_,_,_,_,_,_,_,_,_,_,_,_,_,_,_,_,_,_,_,_,_,_,_,_,_,_,_,_,_,_,_,_]) rfl ?_
        refine d_val (y_bld (zs := [_, _, _, _]) (vs := [(0, _), (1, _), (2, _), (3, _)]) (ps := [(0, [_]), (1, [_]), (2, [_]), (3, [_])]) (v := .agg #[_, _, _, _]) rfl Ty.zero58 rfl (fs_of Ty.fs58) rfl rfl (by intro q hq; simp only [List.zip_cons_cons, List.zip_nil_right, List.zip_nil_left, List.mem_cons, List.not_mem_nil, or_false] at hq; rcases hq with rfl | rfl | rfl | rfl <;> exact ⟨by kernel_rfl, by first | rfl | (simp only [cells_one (arr_one (by repeat first | assumption | with_reducible exact ent_blk | exact Ent.here arr_reads | exact Ent.here one_I64 | exact Ent.here one_Cell | exact Ent.here one_Bool | exact Ent.here one_Rect | refine Ent.there ?_) s23)]; first | done | rfl), by simp⟩) rfl ⟨_, rfl⟩) rfl rfl (l' := [_,_,_,_,_,_,_,_,_,_,_,_,_,_,_,_,_,_,_,_,_,_,_,_,_,_,_,_,_,_,_,_,_,_,_,_,_,_,_,_,_,_,_,_,_,_,_,_,_,_,_,_,_,_,_,_,_]) rfl ?_
        refine d_val (y_mv rfl (ev_of rfl)) rfl rfl (l' := [_,_,_,_,_,_,_,_,_,_,_,_,_,_,_,_,_,_,_,_,_,_,_,_,_,_,_,_,_,_,_,_,_,_,_,_,_,_,_,_,_,_,_,_,_,_,_,_,_,_,_,_,_,_,_,_,_]) rfl ?_
        refine d_end (fun w26 s25 => ?_)
        clear s23
        simp only [List.append_nil, List.cons_append, List.nil_append] at s25
        refine l_callL rfl rfl rfl Fn.call259 (vs := [_, _, _]) rfl (sfill_c (b := (bs.getD (ptile W x0 y0 x1 k) 0)) (W := tileW W (ptile W x0 y0 x1 k % nT W)) (H := tileW H (ptile W x0 y0 x1 k / nT W)) (vs := tileV W H (fillP (upto W x0 y0 x1 y1 k) n vs) (ptile W x0 y0 x1 k)) (x0 := max (16 * (x0 / 16 + k % pnX x0 x1)) x0 % 16) (y0 := max (16 * (y0 / 16 + k / pnX x0 x1)) y0 % 16) (x1 := min ((16 * (x0 / 16 + k % pnX x0 x1)) + 15) x1 % 16) (y1 := min ((16 * (y0 / 16 + k / pnX x0 x1)) + 15) y1 % 16) s25 (by repeat first | with_reducible exact Take.here _ _ | apply Take.there) hn l1 (by rw [q1]; exact l2) m1 (by rw [q2]; exact m2)) ?_
        rintro _ w28 ⟨rfl, s27⟩
        clear s25
        refine nlL (l' := [_,_,_,_,_,_,_,_,_,_,_,_,_,_,_,_,_,_,_,_,_,_,_,_,_,_,_,_,_,_,_,_,_,_,_,_,_,_,_,_,_,_,_,_,_,_,_,_,_,_,_,_,_,_,_,_,_]) rfl ?_
        replace s27 := boxPutT htk s27 (by repeat first | with_reducible exact Take.here _ _ | apply Take.there)
        rw [tiles_step hok.len hx hxw hyh hk] at s27
        refine l_val s27 (y_as rfl (ev_of rfl)) rfl rfl (l' := [_,_,_,_,_,_,_,_,_,_,_,_,_,_,_,_,_,_,_,_,_,_,_,_,_,_,_,_,_,_,_,_,_,_,_,_,_,_,_,_,_,_,_,_,_,_,_,_,_,_,_,_,_,_,_,_,_]) rfl ?_
        refine l_end ?_
        refine x_thenN ?_
        refine c_seq ?_
        refine c_region ?_
        refine l_val s27 (y_mv rfl (ev_of rfl)) rfl rfl (l' := [_,_,_,_,_,_,_,_,_,_,_,_,_,_,_,_,_,_,_,_,_,_,_,_,_,_,_,_,_,_,_,_,_,_,_,_,_,_,_,_,_,_,_,_,_,_,_,_,_,_,_,_,_,_,_,_,_]) rfl ?_
        refine l_val s27 (y_neq rfl (ev_of rfl) (ev_of rfl)) rfl rfl (l' := [_,_,_,_,_,_,_,_,_,_,_,_,_,_,_,_,_,_,_,_,_,_,_,_,_,_,_,_,_,_,_,_,_,_,_,_,_,_,_,_,_,_,_,_,_,_,_,_,_,_,_,_,_,_,_,_,_]) rfl ?_
        refine l_end ?_
        refine x_thenN ?_
        refine c_if rfl (fun hc2 => ?_) (fun hc2 => ?_)
        · (try simp only [decide_eq_true_eq, decide_eq_false_iff_not, Bool.not_eq_true', Bool.not_eq_false'] at hc2)
          exfalso; omega
        · (try simp only [decide_eq_true_eq, decide_eq_false_iff_not, Bool.not_eq_true', Bool.not_eq_false'] at hc2)
          refine c_skip ?_
          refine x_blockN ?_
          refine x_thenN ?_
          refine c_region ?_
          refine l_val s27 (y_add rfl (ev_of rfl) (ev_of rfl) (by omega) (by omega)) rfl rfl (l' := [_,_,_,_,_,_,_,_,_,_,_,_,_,_,_,_,_,_,_,_,_,_,_,_,_,_,_,_,_,_,_,_,_,_,_,_,_,_,_,_,_,_,_,_,_,_,_,_,_,_,_,_,_,_,_,_,_]) rfl ?_
          refine l_val s27 (y_mv rfl (ev_of rfl)) rfl rfl (l' := [_,_,_,_,_,_,_,_,_,_,_,_,_,_,_,_,_,_,_,_,_,_,_,_,_,_,_,_,_,_,_,_,_,_,_,_,_,_,_,_,_,_,_,_,_,_,_,_,_,_,_,_,_,_,_,_,_]) rfl ?_
          refine l_end ?_
          refine x_thenN ?_
          refine ⟨_, [_, _, _, _, _, _, _, _, _, _, _, _, _, _, _, _, _, _, _, _, _, _, _, _, _, _, _, _, _, _, _, _, _, _, _, _, _, _, _, _], ?_, rfl, k + 1, _, _, _, _, _, _, _, _, _, _, _, _, _, _, _, _, _, _, _, _, _, _, _, _, _, _, _, _, _, _, _, _, _, _, _, _, _, _, _, rfl, rfl, ?_, ?_⟩
          · omega
          · first | exact s27 | exact s27.sub (by repeat first | with_reducible exact Sub.refl _ | exact Sub.nil _ | refine Sub.take (by repeat first | with_reducible exact Take.here _ _ | apply Take.there) ?_ | refine Sub.skip _ ?_)
          · omega
      · (try simp only [decide_eq_true_eq, decide_eq_false_iff_not, Bool.not_eq_true', Bool.not_eq_false'] at hc1)
        refine c_exit ?_
        refine x_thenE ?_
        refine x_thenE ?_
        refine x_hit ?_
        refine x_thenN ?_
        refine c_seq ?_
        refine c_region ?_
        refine l_val s8 (y_as rfl (ev_of rfl)) rfl rfl (l' := [_,_,_,_,_,_,_,_,_,_,_,_,_,_,_,_,_,_,_,_,_,_,_,_,_,_,_,_,_,_,_,_,_,_,_,_,_,_,_,_,_,_,_,_,_,_,_,_,_,_,_,_,_,_,_,_,_]) rfl ?_
        refine l_end ?_
        refine x_thenN ?_
        refine c_ret ?_
        refine r1 rfl rfl ?_
        obtain rfl : k = pnX y0 y1 * pnX x0 x1 := by omega
        rw [upto_all] at s8
        exact ⟨rfl, grid_shutB (hok.fill hn) hl (s8.sub (by repeat first | with_reducible exact Sub.refl _ | exact Sub.nil _ | refine Sub.take (by repeat first | with_reducible exact Take.here _ _ | apply Take.there) ?_ | refine Sub.skip _ ?_))⟩
theorem grid_openB {e : Env} {w : World} {L : List Asn} {b W H : Nat} {vs : List Int} (s : SL e w (GridA b W H vs :: L)) : GridOk W H vs ∧ ∃ sv bs, bs.length = nT W * nT H ∧ SL e w (Blk b (gridB W H sv) 196 :: Arr PtrT 198 sv (ptrs bs) :: Box ((List.range (nT W * nT H)).map (tileA W H vs bs)) :: L) := by
  obtain ⟨hok, sv, bs, hl, s1⟩ := grid_open s
  exact ⟨hok, sv, bs, hl, s1.env, Sat.tail (fun _ h => Sat.tail (fun _ h => Sat.app h) h) s1.sat⟩
theorem gfill_c {e : Env} {L L' : List Asn} {w : World} {n : Int} {b W H x0 y0 x1 y1 : Nat} {vs : List Int} (s : SL e w L) (t : Take L (GridA b W H vs) L') (hn : -2147483648 ≤ n ∧ n ≤ 2147483647) (hx : x0 ≤ x1) (hxw : x1 < W) (hy : y0 ≤ y1) (hyh : y1 < H) :
    Calls Try.prog 202 #[ptr b 0, .agg #[.int .i64 (x0 : Int), .int .i64 (y0 : Int), .int .i64 (x1 : Int), .int .i64 (y1 : Int)], .int .i64 n] w (Rets fun v w' => v = .int .i64 0 ∧ SL e w' (GridA b W H (fillP (rectB W x0 y0 x1 y1) n vs) :: L')) := by
  obtain ⟨hok, sv, bs, hl, s1⟩ := grid_openB (s.take t)
  exact gfill0_c s1 hok hl hn hx hxw hy hyh
end Go.Proofs.Ytpchomihojidpaa
