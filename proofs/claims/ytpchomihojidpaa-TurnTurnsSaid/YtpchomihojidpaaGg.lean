/- What a grid answers: the cells of a rectangle; and all of it as a whole. -/
import Derived.Test.YtpchomihojidpaaTy
import Derived.Test.YtpchomihojidpaaSlC
import Derived.Test.YtpchomihojidpaaGf
import Derived.KernelRfl
namespace Go.Proofs.Ytpchomihojidpaa
open Go.SL
set_option linter.unusedVariables false
set_option linter.unusedSimpArgs false
attribute [local irreducible] wpList WD WP Region.wanted Code.wp
theorem grid_sat {b W H : Nat} {vs : List Int} {sv : Value} {bs : List Nat} {L : List Asn} {h : Hp} (hok : GridOk W H vs) (hl : bs.length = nT W * nT H) (hs : Sat (Blk b (gridB W H sv) 196 :: Arr PtrT 198 sv (ptrs bs) :: (Slabs W H vs bs ++ L)) h) : Sat (GridA b W H vs :: L) h :=
  let ⟨h1, h2, d, l1, l2, hb, hs⟩ := Sat.app (L1 := _ :: _ :: Slabs W H vs bs) hs
  ⟨h1, h2, d, l1, l2, ⟨hok, (sv, bs), hl, hb⟩, hs⟩
theorem grid_in {b W H : Nat} {vs : List Int} {sv : Value} {bs : List Nat} {L : List Asn} : SlabsIn (Blk b (gridB W H sv) 196 :: Arr PtrT 198 sv (ptrs bs) :: (Slabs W H vs bs ++ L)) W H vs bs :=
  fun k hk => Has.there _ (Has.there _ ⟨_, slabs_take hk L⟩)
/-- the list with the grid whole again -/
theorem grid_back {e : Env} {w : World} {b W H : Nat} {vs : List Int} {sv : Value} {bs : List Nat} {L L' : List Asn} (hok : GridOk W H vs) (hl : bs.length = nT W * nT H) (t : Take L (GridA b W H vs) L') (s : SL e w (Blk b (gridB W H sv) 196 :: Arr PtrT 198 sv (ptrs bs) :: (Slabs W H vs bs ++ L'))) : SL e w L :=
  ⟨s.env, t.putSat (grid_sat hok hl s.sat)⟩
theorem grid_back1 {e : Env} {w : World} {b W H : Nat} {vs : List Int} {sv : Value} {bs : List Nat} {L L' : List Asn} {A : Asn} (hok : GridOk W H vs) (hl : bs.length = nT W * nT H) (t : Take L (GridA b W H vs) L') (s : SL e w (A :: Blk b (gridB W H sv) 196 :: Arr PtrT 198 sv (ptrs bs) :: (Slabs W H vs bs ++ L'))) : SL e w (A :: L) :=
  ⟨s.env, Sat.tail (fun _ h => t.putSat (grid_sat hok hl h)) s.sat⟩
theorem areaF_of {vs : List Int} {W H x0 y0 x1 y1 : Nat} (h : GridOk W H vs) (hx : x0 ≤ x1) (hxw : x1 < W) (hy : y0 ≤ y1) (hyh : y1 < H) : 0 ≤ areaF x0 y0 x1 y1 ∧ areaF x0 y0 x1 y1 ≤ 1048576 := by
  have h1 := h.w1; have h2 := h.h1
  unfold areaF; rw [if_pos (within0.2 (by omega))]
  have hm : ((x1 : Int) - x0 + 1) * ((y1 : Int) - y0 + 1) ≤ 1024 * 1024 := Int.mul_le_mul (by omega) (by omega) (by omega) (by omega)
  exact ⟨Int.mul_nonneg (by omega) (by omega), hm⟩
set_option maxHeartbeats 4000000 in
set_option maxRecDepth 100000 in
/-- (*hachure/grid.Grid).Values -/
theorem gvalues0_c {e : Env} {L : List Asn} {w : World} {b W H x0 y0 x1 y1 : Nat} {sv : Value} {bs : List Nat} {vs : List Int} (s : SL e w L) (hb : Ent L (fun h => Blk b (gridB W H sv) 196 h)) (hv : Ent L (SlR PtrT sv (ptrs bs))) (hs : SlabsIn L W H vs bs) (hl : bs.length = nT W * nT H) (hok : GridOk W H vs) (hx : x0 ≤ x1) (hxw : x1 < W) (hy : y0 ≤ y1) (hyh : y1 < H) :
    Calls Try.prog 84 #[ptr b 0, .agg #[.int .i64 (x0 : Int), .int .i64 (y0 : Int), .int .i64 (x1 : Int), .int .i64 (y1 : Int)]] w (Rets fun v w' => ∃ u, v = .tuple #[u, .int .i64 0] ∧ SL e w' (Arr I64 2 u (rectV W vs x0 y0 (x1 + 1 - x0) (y1 + 1 - y0)) :: L)) := by
  have hw1 := hok.w1; have hh1 := hok.h1
  have hA : nT W ≤ 64 := by unfold nT; omega
  obtain ⟨hr0, hr1⟩ := areaF_of hok hx hxw hy hyh
  refine enter Try.func84 rfl (l := [ptr b 0, .agg #[.int .i64 (x0 : Int), .int .i64 (y0 : Int), .int .i64 (x1 : Int), .int .i64 (y1 : Int)], undef, undef, undef, undef, undef, undef, undef, undef, undef, undef, undef, undef, undef, undef, undef, undef, undef, undef, undef, undef, undef, undef, undef, undef, undef, undef, undef, undef, undef, undef, undef, undef, undef, undef, undef, undef, undef, undef, undef, undef, undef, undef, undef, undef, undef, undef, undef, undef, undef, undef, undef]) rfl ?_
  refine c_seq ?_
  refine c_region ?_
  refine l_box s rfl rfl rfl (ev_of rfl) (fun b3 w2 s1 => ?_)
  change SL _ _ (Blk _ #[_, _, _, _] _ :: _) at s1
  clear s
  refine nlL (l' := [_,_,_,_,_,_,_,_,_,_,_,_,_,_,_,_,_,_,_,_,_,_,_,_,_,_,_,_,_,_,_,_,_,_,_,_,_,_,_,_,_,_,_,_,_,_,_,_,_,_,_,_,_]) rfl ?_
  refine l_val s1 (y_as rfl (ev_of rfl)) rfl rfl (l' := [_,_,_,_,_,_,_,_,_,_,_,_,_,_,_,_,_,_,_,_,_,_,_,_,_,_,_,_,_,_,_,_,_,_,_,_,_,_,_,_,_,_,_,_,_,_,_,_,_,_,_,_,_]) rfl ?_
  refine l_val s1 (y_as rfl (ev_of rfl)) rfl rfl (l' := [_,_,_,_,_,_,_,_,_,_,_,_,_,_,_,_,_,_,_,_,_,_,_,_,_,_,_,_,_,_,_,_,_,_,_,_,_,_,_,_,_,_,_,_,_,_,_,_,_,_,_,_,_]) rfl ?_
  refine l_end ?_
  refine x_thenN ?_
  refine c_seq ?_
  refine c_seq ?_
  refine c_region ?_
  refine l_val s1 (y_mv rfl (ev_of rfl)) rfl rfl (l' := [_,_,_,_,_,_,_,_,_,_,_,_,_,_,_,_,_,_,_,_,_,_,_,_,_,_,_,_,_,_,_,_,_,_,_,_,_,_,_,_,_,_,_,_,_,_,_,_,_,_,_,_,_]) rfl ?_
  refine l_val s1 (y_load_blk rfl Ty.some58 Ty.agg58 Ty.size58 (ev_of rfl) (by repeat first | exact ent_blk | refine Ent.there ?_) rfl) rfl rfl (l' := [_,_,_,_,_,_,_,_,_,_,_,_,_,_,_,_,_,_,_,_,_,_,_,_,_,_,_,_,_,_,_,_,_,_,_,_,_,_,_,_,_,_,_,_,_,_,_,_,_,_,_,_,_]) rfl ?_
  refine l_callL rfl rfl rfl Fn.call161 (vs := [_, _]) rfl (gcheck0_c s1 (by repeat first | assumption | with_reducible exact ent_blk | exact Ent.here arr_reads | exact Ent.here one_I64 | exact Ent.here one_Cell | exact Ent.here one_Bool | exact Ent.here one_Rect | refine Ent.there ?_) (by omega) (by omega)) ?_
  rintro _ w5 ⟨rfl, s4⟩
  clear s1
  refine nlL (l' := [_,_,_,_,_,_,_,_,_,_,_,_,_,_,_,_,_,_,_,_,_,_,_,_,_,_,_,_,_,_,_,_,_,_,_,_,_,_,_,_,_,_,_,_,_,_,_,_,_,_,_,_,_]) rfl ?_
  refine l_val s4 (y_as rfl (ev_of rfl)) rfl rfl (l' := [_,_,_,_,_,_,_,_,_,_,_,_,_,_,_,_,_,_,_,_,_,_,_,_,_,_,_,_,_,_,_,_,_,_,_,_,_,_,_,_,_,_,_,_,_,_,_,_,_,_,_,_,_]) rfl ?_
  refine l_end ?_
  refine x_thenN ?_
  refine c_seq ?_
  refine c_region ?_
  refine l_val s4 (y_mv rfl (ev_of rfl)) rfl rfl (l' := [_,_,_,_,_,_,_,_,_,_,_,_,_,_,_,_,_,_,_,_,_,_,_,_,_,_,_,_,_,_,_,_,_,_,_,_,_,_,_,_,_,_,_,_,_,_,_,_,_,_,_,_,_]) rfl ?_
  refine l_val s4 (y_neq rfl (ev_of rfl) (ev_of rfl)) rfl rfl (l' := [_,_,_,_,_,_,_,_,_,_,_,_,_,_,_,_,_,_,_,_,_,_,_,_,_,_,_,_,_,_,_,_,_,_,_,_,_,_,_,_,_,_,_,_,_,_,_,_,_,_,_,_,_]) rfl ?_
  refine l_end ?_
  refine x_thenN ?_
  refine c_if rfl (fun hc0 => ?_) (fun hc0 => ?_)
  · (try simp only [decide_eq_true_eq, decide_eq_false_iff_not, Bool.not_eq_true', Bool.not_eq_false'] at hc0)
    exact absurd (within0.2 (by omega)) hc0
  · (try simp only [decide_eq_true_eq, decide_eq_false_iff_not, Bool.not_eq_true', Bool.not_eq_false'] at hc0)
    refine c_skip ?_
    refine x_thenN ?_
    refine c_seq ?_
    refine c_region ?_
    refine l_val s4 (y_load_blk rfl Ty.some58 Ty.agg58 Ty.size58 (ev_of rfl) (by repeat first | exact ent_blk | refine Ent.there ?_) rfl) rfl rfl (l' := [_,_,_,_,_,_,_,_,_,_,_,_,_,_,_,_,_,_,_,_,_,_,_,_,_,_,_,_,_,_,_,_,_,_,_,_,_,_,_,_,_,_,_,_,_,_,_,_,_,_,_,_,_]) rfl ?_
    refine l_callL rfl rfl rfl Fn.call162 (vs := [_]) rfl (area_c s4) ?_
    rintro _ w7 ⟨rfl, s6⟩
    clear s4
    refine nlL (l' := [_,_,_,_,_,_,_,_,_,_,_,_,_,_,_,_,_,_,_,_,_,_,_,_,_,_,_,_,_,_,_,_,_,_,_,_,_,_,_,_,_,_,_,_,_,_,_,_,_,_,_,_,_]) rfl ?_
    refine l_make (c := I64) (zx := I64.d) s6 rfl rfl rfl Ty.elem22 Ty.size2 Ty.bytes2 Ty.zero2 (ev_of rfl) (ev_of rfl) (by omega) (by omega) (by omega) (by decide) rfl (fun v10 w9 s8 => ?_)
    clear s6
    refine nlL (l' := [_,_,_,_,_,_,_,_,_,_,_,_,_,_,_,_,_,_,_,_,_,_,_,_,_,_,_,_,_,_,_,_,_,_,_,_,_,_,_,_,_,_,_,_,_,_,_,_,_,_,_,_,_]) rfl ?_
    refine l_val s8 (y_as rfl (ev_of rfl)) rfl rfl (l' := [_,_,_,_,_,_,_,_,_,_,_,_,_,_,_,_,_,_,_,_,_,_,_,_,_,_,_,_,_,_,_,_,_,_,_,_,_,_,_,_,_,_,_,_,_,_,_,_,_,_,_,_,_]) rfl ?_
    refine l_end ?_
    refine x_thenN ?_
    refine c_seq ?_
    refine c_seq ?_
    refine c_region ?_
    refine l_val s8 (y_fieldAddrB rfl Ty.fld58_1 Ty.size2 (ev_of rfl)) rfl rfl (l' := [_,_,_,_,_,_,_,_,_,_,_,_,_,_,_,_,_,_,_,_,_,_,_,_,_,_,_,_,_,_,_,_,_,_,_,_,_,_,_,_,_,_,_,_,_,_,_,_,_,_,_,_,_]) rfl ?_
    refine l_val s8 (y_load rfl Ty.some2 Ty.agg2 (ev_of rfl) (by repeat first | exact ent_cell rfl | exact ent_cell_of hb rfl | assumption | refine Ent.there ?_)) rfl rfl (l' := [_,_,_,_,_,_,_,_,_,_,_,_,_,_,_,_,_,_,_,_,_,_,_,_,_,_,_,_,_,_,_,_,_,_,_,_,_,_,_,_,_,_,_,_,_,_,_,_,_,_,_,_,_]) rfl ?_
    refine l_val s8 (y_as rfl (ev_of rfl)) rfl rfl (l' := [_,_,_,_,_,_,_,_,_,_,_,_,_,_,_,_,_,_,_,_,_,_,_,_,_,_,_,_,_,_,_,_,_,_,_,_,_,_,_,_,_,_,_,_,_,_,_,_,_,_,_,_,_]) rfl ?_
    refine l_end ?_
    refine x_thenN ?_
    refine c_block ?_
    refine c_loop [false, false, false, false, false, false, false, true, true, true, true, true, false, false, false, false, false, false, false, false, false, false, false, true, true, true, true, true, true, true, true, true, true, true, true, true, true, true, true, true, true, true, true, true, true, true, true, true, true, true, true, true, false] (fun mu ds w => ∃ (j : Nat) (u : Value) (d9 d10 d11 d23 d24 d25 d26 d27 d28 d29 d30 d31 d32 d33 d34 d35 d36 d37 d38 d39 d40 d41 d42 d43 d44 d45 d46 d47 d48 d49 d50 d51 : Value), ds = [(u), (.int .i64 ((y0 + j : Nat) : Int)), d9, d10, d11, d23, d24, d25, d26, d27, d28, d29, d30, d31, d32, d33, d34, d35, d36, d37, d38, d39, d40, d41, d42, d43, d44, d45, d46, d47, d48, d49, d50, d51] ∧ mu = y1 + 1 - y0 - j ∧ SL e w (Arr I64 2 u (rectV W vs x0 y0 (x1 + 1 - x0) j) :: Blk b3 #[.int .i64 (x0 : Int), .int .i64 (y0 : Int), .int .i64 (x1 : Int), .int .i64 (y1 : Int)] 58 :: L) ∧ (j ≤ y1 + 1 - y0)) (ds := [_, _, _, _, _, _, _, _, _, _, _, _, _, _, _, _, _, _, _, _, _, _, _, _, _, _, _, _, _, _, _, _, _, _]) rfl ⟨0, _, _, _, _, _, _, _, _, _, _, _, _, _, _, _, _, _, _, _, _, _, _, _, _, _, _, _, _, _, _, _, _, _, rfl, rfl, ?_, ?_⟩ ?_
    · first | exact s8 | exact s8.sub (by repeat first | with_reducible exact Sub.refl _ | exact Sub.nil _ | refine Sub.take (by repeat first | with_reducible exact Take.here _ _ | apply Take.there) ?_ | refine Sub.skip _ ?_)
    · omega
    · clear s8
      rintro n13 ds14 w12 ⟨j, u, d9, d10, d11, d23, d24, d25, d26, d27, d28, d29, d30, d31, d32, d33, d34, d35, d36, d37, d38, d39, d40, d41, d42, d43, d44, d45, d46, d47, d48, d49, d50, d51, rfl, rfl, s11, hJ⟩
      refine nlC (l' := [_,_,_,_,_,_,_,_,_,_,_,_,_,_,_,_,_,_,_,_,_,_,_,_,_,_,_,_,_,_,_,_,_,_,_,_,_,_,_,_,_,_,_,_,_,_,_,_,_,_,_,_,_]) rfl ?_
      refine c_seq ?_
      refine c_seq ?_
      refine c_region ?_
      refine l_val s11 (y_mv rfl (ev_of rfl)) rfl rfl (l' := [_,_,_,_,_,_,_,_,_,_,_,_,_,_,_,_,_,_,_,_,_,_,_,_,_,_,_,_,_,_,_,_,_,_,_,_,_,_,_,_,_,_,_,_,_,_,_,_,_,_,_,_,_]) rfl ?_
      refine l_val s11 (y_fieldAddrB rfl Ty.fld58_3 Ty.size2 (ev_of rfl)) rfl rfl (l' := [_,_,_,_,_,_,_,_,_,_,_,_,_,_,_,_,_,_,_,_,_,_,_,_,_,_,_,_,_,_,_,_,_,_,_,_,_,_,_,_,_,_,_,_,_,_,_,_,_,_,_,_,_]) rfl ?_
      refine l_val s11 (y_load rfl Ty.some2 Ty.agg2 (ev_of rfl) (by repeat first | exact ent_cell rfl | exact ent_cell_of hb rfl | assumption | refine Ent.there ?_)) rfl rfl (l' := [_,_,_,_,_,_,_,_,_,_,_,_,_,_,_,_,_,_,_,_,_,_,_,_,_,_,_,_,_,_,_,_,_,_,_,_,_,_,_,_,_,_,_,_,_,_,_,_,_,_,_,_,_]) rfl ?_
      refine l_val s11 (y_leq rfl (ev_of rfl) (ev_of rfl)) rfl rfl (l' := [_,_,_,_,_,_,_,_,_,_,_,_,_,_,_,_,_,_,_,_,_,_,_,_,_,_,_,_,_,_,_,_,_,_,_,_,_,_,_,_,_,_,_,_,_,_,_,_,_,_,_,_,_]) rfl ?_
      refine l_end ?_
      refine x_thenN ?_
      refine c_if rfl (fun hc1 => ?_) (fun hc1 => ?_)
      · (try simp only [decide_eq_true_eq, decide_eq_false_iff_not, Bool.not_eq_true', Bool.not_eq_false'] at hc1)
        refine c_skip ?_
        refine x_thenN ?_
        refine c_seq ?_
        refine c_block ?_
        refine c_seq ?_
        refine c_region ?_
        refine l_val s11 (y_fieldAddrB rfl Ty.fld58_0 Ty.size2 (ev_of rfl)) rfl rfl (l' := [_,_,_,_,_,_,_,_,_,_,_,_,_,_,_,_,_,_,_,_,_,_,_,_,_,_,_,_,_,_,_,_,_,_,_,_,_,_,_,_,_,_,_,_,_,_,_,_,_,_,_,_,_]) rfl ?_
        refine l_val s11 (y_load rfl Ty.some2 Ty.agg2 (ev_of rfl) (by repeat first | exact ent_cell rfl | exact ent_cell_of hb rfl | assumption | refine Ent.there ?_)) rfl rfl (l' := [_,_,_,_,_,_,_,_,_,_,_,_,_,_,_,_,_,_,_,_,_,_,_,_,_,_,_,_,_,_,_,_,_,_,_,_,_,_,_,_,_,_,_,_,_,_,_,_,_,_,_,_,_]) rfl ?_
        refine l_val s11 (y_as rfl (ev_of rfl)) rfl rfl (l' := [_,_,_,_,_,_,_,_,_,_,_,_,_,_,_,_,_,_,_,_,_,_,_,_,_,_,_,_,_,_,_,_,_,_,_,_,_,_,_,_,_,_,_,_,_,_,_,_,_,_,_,_,_]) rfl ?_
        refine l_end ?_
        refine x_thenN ?_
        refine c_block ?_
        rw [show rectV W vs x0 y0 (x1 + 1 - x0) j = rectV W vs x0 y0 (x1 + 1 - x0) j ++ rowV W vs (y0 + j) x0 0 from (List.append_nil _).symm] at s11
        refine c_loop [false, false, false, false, false, false, false, true, false, true, true, true, false, false, false, false, false, false, false, false, false, false, false, false, false, false, false, false, false, false, false, true, true, true, true, true, true, true, true, true, true, true, true, true, true, true, true, true, true, true, true, true, false] (fun mu ds w => ∃ (i : Nat) (u : Value) (d10 d11 d31 d32 d33 d34 d35 d36 d37 d38 d39 d40 d41 d42 d43 d44 d45 d46 d47 d48 d49 d50 d51 : Value), ds = [(u), (.int .i64 ((x0 + i : Nat) : Int)), d10, d11, d31, d32, d33, d34, d35, d36, d37, d38, d39, d40, d41, d42, d43, d44, d45, d46, d47, d48, d49, d50, d51] ∧ mu = x1 + 1 - x0 - i ∧ SL e w (Arr I64 2 u (rectV W vs x0 y0 (x1 + 1 - x0) j ++ rowV W vs (y0 + j) x0 i) :: Blk b3 #[.int .i64 (x0 : Int), .int .i64 (y0 : Int), .int .i64 (x1 : Int), .int .i64 (y1 : Int)] 58 :: L) ∧ (i ≤ x1 + 1 - x0)) (ds := [_, _, _, _, _, _, _, _, _, _, _, _, _, _, _, _, _, _, _, _, _, _, _, _, _]) rfl ⟨0, _, _, _, _, _, _, _, _, _, _, _, _, _, _, _, _, _, _, _, _, _, _, _, _, rfl, rfl, ?_, ?_⟩ ?_
        · first | exact s11 | exact s11.sub (by repeat first | with_reducible exact Sub.refl _ | exact Sub.nil _ | refine Sub.take (by repeat first | with_reducible exact Take.here _ _ | apply Take.there) ?_ | refine Sub.skip _ ?_)
        · omega
        · clear s11
          rintro n17 ds18 w16 ⟨i, u, d10, d11, d31, d32, d33, d34, d35, d36, d37, d38, d39, d40, d41, d42, d43, d44, d45, d46, d47, d48, d49, d50, d51, rfl, rfl, s15, hI⟩
          refine nlC (l' := [_,_,_,_,_,_,_,_,_,_,_,_,_,_,_,_,_,_,_,_,_,_,_,_,_,_,_,_,_,_,_,_,_,_,_,_,_,_,_,_,_,_,_,_,_,_,_,_,_,_,_,_,_]) rfl ?_
          refine c_seq ?_
          refine c_seq ?_
          refine c_region ?_
          refine l_val s15 (y_mv rfl (ev_of rfl)) rfl rfl (l' := [_,_,_,_,_,_,_,_,_,_,_,_,_,_,_,_,_,_,_,_,_,_,_,_,_,_,_,_,_,_,_,_,_,_,_,_,_,_,_,_,_,_,_,_,_,_,_,_,_,_,_,_,_]) rfl ?_
          refine l_val s15 (y_fieldAddrB rfl Ty.fld58_2 Ty.size2 (ev_of rfl)) rfl rfl (l' := [_,_,_,_,_,_,_,_,_,_,_,_,_,_,_,_,_,_,_,_,_,_,_,_,_,_,_,_,_,_,_,_,_,_,_,_,_,_,_,_,_,_,_,_,_,_,_,_,_,_,_,_,_]) rfl ?_
          refine l_val s15 (y_load rfl Ty.some2 Ty.agg2 (ev_of rfl) (by repeat first | exact ent_cell rfl | exact ent_cell_of hb rfl | assumption | refine Ent.there ?_)) rfl rfl (l' := [_,_,_,_,_,_,_,_,_,_,_,_,_,_,_,_,_,_,_,_,_,_,_,_,_,_,_,_,_,_,_,_,_,_,_,_,_,_,_,_,_,_,_,_,_,_,_,_,_,_,_,_,_]) rfl ?_
          refine l_val s15 (y_leq rfl (ev_of rfl) (ev_of rfl)) rfl rfl (l' := [_,_,_,_,_,_,_,_,_,_,_,_,_,_,_,_,_,_,_,_,_,_,_,_,_,_,_,_,_,_,_,_,_,_,_,_,_,_,_,_,_,_,_,_,_,_,_,_,_,_,_,_,_]) rfl ?_
          refine l_end ?_
          refine x_thenN ?_
          refine c_if rfl (fun hc2 => ?_) (fun hc2 => ?_)
          · (try simp only [decide_eq_true_eq, decide_eq_false_iff_not, Bool.not_eq_true', Bool.not_eq_false'] at hc2)
            refine c_skip ?_
            refine x_thenN ?_
            refine c_seq ?_
            refine c_block ?_
            refine c_seq ?_
            refine c_region ?_
            have hxx : x0 + i < W := by omega
            have hyy : y0 + j < H := by omega
            have hkl := tix_lt hxx hyy
            have tk := hs _ hkl
            have hk : ((y0 + j : Nat) : Int) / 16 * ((nT W : Nat) : Int) + ((x0 + i : Nat) : Int) / 16 = ((tix W (x0 + i) (y0 + j) : Nat) : Int) := by unfold tix; rw [Int.natCast_add ((y0 + j) / 16 * nT W) _, Int.natCast_mul]; rfl
            obtain ⟨a1, a2, a3⟩ := tileW_of hxx
            obtain ⟨c1, c2, c3⟩ := tileW_of hyy
            have hg := tile_at (vs := vs) hxx hyy
            have em := tix_mod (y := y0 + j) hxx
            have ed := tix_div (y := y0 + j) hxx
            have hm : j * (x1 + 1 - x0) ≤ 1024 * 1024 := Nat.mul_le_mul (by omega) (by omega)
            refine l_val s15 (y_mv rfl (ev_of rfl)) rfl rfl (l' := [_,_,_,_,_,_,_,_,_,_,_,_,_,_,_,_,_,_,_,_,_,_,_,_,_,_,_,_,_,_,_,_,_,_,_,_,_,_,_,_,_,_,_,_,_,_,_,_,_,_,_,_,_]) rfl ?_
            refine l_val s15 (y_mv rfl (ev_of rfl)) rfl rfl (l' := [_,_,_,_,_,_,_,_,_,_,_,_,_,_,_,_,_,_,_,_,_,_,_,_,_,_,_,_,_,_,_,_,_,_,_,_,_,_,_,_,_,_,_,_,_,_,_,_,_,_,_,_,_]) rfl ?_
            refine l_val s15 (y_mv rfl (ev_of rfl)) rfl rfl (l' := [_,_,_,_,_,_,_,_,_,_,_,_,_,_,_,_,_,_,_,_,_,_,_,_,_,_,_,_,_,_,_,_,_,_,_,_,_,_,_,_,_,_,_,_,_,_,_,_,_,_,_,_,_]) rfl ?_
            refine l_callL rfl rfl rfl Fn.call163 (vs := [_, _, _]) rfl (gslab0_c (k := tix W (x0 + i) (y0 + j)) s15 (by repeat first | assumption | with_reducible exact ent_blk | exact Ent.here arr_reads | exact Ent.here one_I64 | exact Ent.here one_Cell | exact Ent.here one_Bool | exact Ent.here one_Rect | refine Ent.there ?_) (by repeat first | assumption | with_reducible exact ent_blk | exact Ent.here arr_reads | exact Ent.here one_I64 | exact Ent.here one_Cell | exact Ent.here one_Bool | exact Ent.here one_Rect | refine Ent.there ?_) (by omega) (by omega) hA hk (by omega)) ?_
            rintro _ w20 ⟨rfl, s19⟩
            clear s15
            refine nlL (l' := [_,_,_,_,_,_,_,_,_,_,_,_,_,_,_,_,_,_,_,_,_,_,_,_,_,_,_,_,_,_,_,_,_,_,_,_,_,_,_,_,_,_,_,_,_,_,_,_,_,_,_,_,_]) rfl ?_
            refine l_val s19 (y_mv rfl (ev_of rfl)) rfl rfl (l' := [_,_,_,_,_,_,_,_,_,_,_,_,_,_,_,_,_,_,_,_,_,_,_,_,_,_,_,_,_,_,_,_,_,_,_,_,_,_,_,_,_,_,_,_,_,_,_,_,_,_,_,_,_]) rfl ?_
            refine l_val s19 (y_mv rfl (ev_of rfl)) rfl rfl (l' := [_,_,_,_,_,_,_,_,_,_,_,_,_,_,_,_,_,_,_,_,_,_,_,_,_,_,_,_,_,_,_,_,_,_,_,_,_,_,_,_,_,_,_,_,_,_,_,_,_,_,_,_,_]) rfl ?_
            refine l_callL rfl rfl rfl Fn.call165 (vs := [_, _]) rfl (inner_c s19 (by omega) (by omega)) ?_
            rintro _ w22 ⟨rfl, s21⟩
            clear s19
            refine nlL (l' := [_,_,_,_,_,_,_,_,_,_,_,_,_,_,_,_,_,_,_,_,_,_,_,_,_,_,_,_,_,_,_,_,_,_,_,_,_,_,_,_,_,_,_,_,_,_,_,_,_,_,_,_,_]) rfl ?_
            refine l_callL rfl rfl rfl Fn.call164 (vs := [_, _]) rfl (slabAt_c (W := tileW W (tix W (x0 + i) (y0 + j) % nT W)) (H := tileW H (tix W (x0 + i) (y0 + j) / nT W)) (vs := tileV W H vs (tix W (x0 + i) (y0 + j))) s21 (by repeat first | exact tk | refine Has.there _ ?_) (by rw [em]; omega) (by rw [ed]; omega)) ?_
            rintro _ w24 ⟨rfl, s23⟩
            clear s21
            refine nlL (l' := [_,_,_,_,_,_,_,_,_,_,_,_,_,_,_,_,_,_,_,_,_,_,_,_,_,_,_,_,_,_,_,_,_,_,_,_,_,_,_,_,_,_,_,_,_,_,_,_,_,_,_,_,_]) rfl ?_
            refine l_val s23 (y_mv rfl (ev_of rfl)) rfl rfl (l' := [_,_,_,_,_,_,_,_,_,_,_,_,_,_,_,_,_,_,_,_,_,_,_,_,_,_,_,_,_,_,_,_,_,_,_,_,_,_,_,_,_,_,_,_,_,_,_,_,_,_,_,_,_]) rfl ?_
            refine l_val s23 (y_extract rfl (ev_of rfl) rfl) rfl rfl (l' := [_,_,_,_,_,_,_,_,_,_,_,_,_,_,_,_,_,_,_,_,_,_,_,_,_,_,_,_,_,_,_,_,_,_,_,_,_,_,_,_,_,_,_,_,_,_,_,_,_,_,_,_,_]) rfl ?_
            refine l_val s23 (y_extract rfl (ev_of rfl) rfl) rfl rfl (l' := [_,_,_,_,_,_,_,_,_,_,_,_,_,_,_,_,_,_,_,_,_,_,_,_,_,_,_,_,_,_,_,_,_,_,_,_,_,_,_,_,_,_,_,_,_,_,_,_,_,_,_,_,_]) rfl ?_
            refine l_val s23 (y_as rfl (ev_of rfl)) rfl rfl (l' := [_,_,_,_,_,_,_,_,_,_,_,_,_,_,_,_,_,_,_,_,_,_,_,_,_,_,_,_,_,_,_,_,_,_,_,_,_,_,_,_,_,_,_,_,_,_,_,_,_,_,_,_,_]) rfl ?_
            refine l_val s23 (y_as rfl (ev_of rfl)) rfl rfl (l' := [_,_,_,_,_,_,_,_,_,_,_,_,_,_,_,_,_,_,_,_,_,_,_,_,_,_,_,_,_,_,_,_,_,_,_,_,_,_,_,_,_,_,_,_,_,_,_,_,_,_,_,_,_]) rfl ?_
            refine l_end ?_
            refine x_thenN ?_
            refine c_region ?_
            refine l_val s23 (y_mv rfl (ev_of rfl)) rfl rfl (l' := [_,_,_,_,_,_,_,_,_,_,_,_,_,_,_,_,_,_,_,_,_,_,_,_,_,_,_,_,_,_,_,_,_,_,_,_,_,_,_,_,_,_,_,_,_,_,_,_,_,_,_,_,_]) rfl ?_
            refine l_val s23 (y_mv rfl (ev_of rfl)) rfl rfl (l' := [_,_,_,_,_,_,_,_,_,_,_,_,_,_,_,_,_,_,_,_,_,_,_,_,_,_,_,_,_,_,_,_,_,_,_,_,_,_,_,_,_,_,_,_,_,_,_,_,_,_,_,_,_]) rfl ?_
            refine l_bs s23 rfl rfl rfl Ty.elem22 Ty.size2 Ty.zero2 (zs := [_]) rfl (vs := [(0, _)]) rfl (ps := [(0, [_])]) rfl (by intro q hq; simp only [List.zip_cons_cons, List.zip_nil_right, List.zip_nil_left, List.mem_cons, List.not_mem_nil, or_false] at hq; rcases hq with rfl <;> exact ⟨rfl, rfl, by first | rfl | (simp only [cells_one (arr_one (by repeat first | assumption | with_reducible exact ent_blk | exact Ent.here arr_reads | exact Ent.here one_I64 | exact Ent.here one_Cell | exact Ent.here one_Bool | exact Ent.here one_Rect | refine Ent.there ?_) s23)]; first | done | rfl), by simp⟩) (cells := [_]) rfl (by decide) (fun b27 w26 s25 => ?_)
            clear s23
            refine nlL (l' := [_,_,_,_,_,_,_,_,_,_,_,_,_,_,_,_,_,_,_,_,_,_,_,_,_,_,_,_,_,_,_,_,_,_,_,_,_,_,_,_,_,_,_,_,_,_,_,_,_,_,_,_,_]) rfl ?_
            refine l_append1 s25 (by repeat first | exact Take.here (Blk _ _ _) _ | apply Take.there) (by repeat first | with_reducible exact Take.here _ _ | apply Take.there) rfl rfl rfl Ty.elem22 Ty.size2 Ty.bytes2 Ty.zero2 rfl (ev_of rfl) (ev_of rfl) one_I64 (by simp only [List.length_append, rectV_length, rowV_length, List.length_cons, List.length_nil]; omega) (by decide) (fun v30 w29 s28 => ?_)
            clear s25
            refine nlL (l' := [_,_,_,_,_,_,_,_,_,_,_,_,_,_,_,_,_,_,_,_,_,_,_,_,_,_,_,_,_,_,_,_,_,_,_,_,_,_,_,_,_,_,_,_,_,_,_,_,_,_,_,_,_]) rfl ?_
            refine l_val s28 (y_as rfl (ev_of rfl)) rfl rfl (l' := [_,_,_,_,_,_,_,_,_,_,_,_,_,_,_,_,_,_,_,_,_,_,_,_,_,_,_,_,_,_,_,_,_,_,_,_,_,_,_,_,_,_,_,_,_,_,_,_,_,_,_,_,_]) rfl ?_
            refine l_end ?_
            refine x_blockN ?_
            refine x_thenN ?_
            refine c_region ?_
            refine l_val s28 (y_mv rfl (ev_of rfl)) rfl rfl (l' := [_,_,_,_,_,_,_,_,_,_,_,_,_,_,_,_,_,_,_,_,_,_,_,_,_,_,_,_,_,_,_,_,_,_,_,_,_,_,_,_,_,_,_,_,_,_,_,_,_,_,_,_,_]) rfl ?_
            refine l_val s28 (y_add rfl (ev_of rfl) (ev_of rfl) (by omega) (by omega)) rfl rfl (l' := [_,_,_,_,_,_,_,_,_,_,_,_,_,_,_,_,_,_,_,_,_,_,_,_,_,_,_,_,_,_,_,_,_,_,_,_,_,_,_,_,_,_,_,_,_,_,_,_,_,_,_,_,_]) rfl ?_
            refine l_val s28 (y_as rfl (ev_of rfl)) rfl rfl (l' := [_,_,_,_,_,_,_,_,_,_,_,_,_,_,_,_,_,_,_,_,_,_,_,_,_,_,_,_,_,_,_,_,_,_,_,_,_,_,_,_,_,_,_,_,_,_,_,_,_,_,_,_,_]) rfl ?_
            refine l_end ?_
            refine x_thenN ?_
            rw [List.append_assoc] at s28
            change SL _ _ (Arr I64 2 _ (_ ++ (_ ++ [List.getD (tileV W H vs _) _ _])) :: _) at s28
            rw [hg, ← rowV_succ] at s28
            refine ⟨_, [_, _, _, _, _, _, _, _, _, _, _, _, _, _, _, _, _, _, _, _, _, _, _, _, _], ?_, rfl, i + 1, _, _, _, _, _, _, _, _, _, _, _, _, _, _, _, _, _, _, _, _, _, _, _, _, rfl, rfl, ?_, ?_⟩
            · omega
            · first | exact s28 | exact s28.sub (by repeat first | with_reducible exact Sub.refl _ | exact Sub.nil _ | refine Sub.take (by repeat first | with_reducible exact Take.here _ _ | apply Take.there) ?_ | refine Sub.skip _ ?_)
            · omega
          · (try simp only [decide_eq_true_eq, decide_eq_false_iff_not, Bool.not_eq_true', Bool.not_eq_false'] at hc2)
            refine c_exit ?_
            refine x_thenE ?_
            refine x_thenE ?_
            refine x_hit ?_
            refine x_blockN ?_
            refine x_thenN ?_
            refine c_region ?_
            refine l_val s15 (y_mv rfl (ev_of rfl)) rfl rfl (l' := [_,_,_,_,_,_,_,_,_,_,_,_,_,_,_,_,_,_,_,_,_,_,_,_,_,_,_,_,_,_,_,_,_,_,_,_,_,_,_,_,_,_,_,_,_,_,_,_,_,_,_,_,_]) rfl ?_
            refine l_val s15 (y_add rfl (ev_of rfl) (ev_of rfl) (by omega) (by omega)) rfl rfl (l' := [_,_,_,_,_,_,_,_,_,_,_,_,_,_,_,_,_,_,_,_,_,_,_,_,_,_,_,_,_,_,_,_,_,_,_,_,_,_,_,_,_,_,_,_,_,_,_,_,_,_,_,_,_]) rfl ?_
            refine l_val s15 (y_as rfl (ev_of rfl)) rfl rfl (l' := [_,_,_,_,_,_,_,_,_,_,_,_,_,_,_,_,_,_,_,_,_,_,_,_,_,_,_,_,_,_,_,_,_,_,_,_,_,_,_,_,_,_,_,_,_,_,_,_,_,_,_,_,_]) rfl ?_
            refine l_end ?_
            refine x_thenN ?_
            obtain rfl : i = x1 + 1 - x0 := by omega
            rw [← rectV_succ] at s15
            refine ⟨_, [_, _, _, _, _, _, _, _, _, _, _, _, _, _, _, _, _, _, _, _, _, _, _, _, _, _, _, _, _, _, _, _, _, _], ?_, rfl, j + 1, _, _, _, _, _, _, _, _, _, _, _, _, _, _, _, _, _, _, _, _, _, _, _, _, _, _, _, _, _, _, _, _, _, rfl, rfl, ?_, ?_⟩
            · omega
            · first | exact s15 | exact s15.sub (by repeat first | with_reducible exact Sub.refl _ | exact Sub.nil _ | refine Sub.take (by repeat first | with_reducible exact Take.here _ _ | apply Take.there) ?_ | refine Sub.skip _ ?_)
            · omega
      · (try simp only [decide_eq_true_eq, decide_eq_false_iff_not, Bool.not_eq_true', Bool.not_eq_false'] at hc1)
        refine c_exit ?_
        refine x_thenE ?_
        refine x_thenE ?_
        refine x_hit ?_
        refine x_thenN ?_
        refine c_seq ?_
        refine c_region ?_
        refine l_val s11 (y_mv rfl (ev_of rfl)) rfl rfl (l' := [_,_,_,_,_,_,_,_,_,_,_,_,_,_,_,_,_,_,_,_,_,_,_,_,_,_,_,_,_,_,_,_,_,_,_,_,_,_,_,_,_,_,_,_,_,_,_,_,_,_,_,_,_]) rfl ?_
        refine l_val s11 (y_as rfl (ev_of rfl)) rfl rfl (l' := [_,_,_,_,_,_,_,_,_,_,_,_,_,_,_,_,_,_,_,_,_,_,_,_,_,_,_,_,_,_,_,_,_,_,_,_,_,_,_,_,_,_,_,_,_,_,_,_,_,_,_,_,_]) rfl ?_
        refine l_val s11 (y_as rfl (ev_of rfl)) rfl rfl (l' := [_,_,_,_,_,_,_,_,_,_,_,_,_,_,_,_,_,_,_,_,_,_,_,_,_,_,_,_,_,_,_,_,_,_,_,_,_,_,_,_,_,_,_,_,_,_,_,_,_,_,_,_,_]) rfl ?_
        refine l_end ?_
        refine x_thenN ?_
        refine c_ret ?_
        refine r2 rfl rfl rfl ?_
        obtain rfl : j = y1 + 1 - y0 := by omega
        exact ⟨_, rfl, s11.sub (by repeat first | with_reducible exact Sub.refl _ | exact Sub.nil _ | refine Sub.take (by repeat first | with_reducible exact Take.here _ _ | apply Take.there) ?_ | refine Sub.skip _ ?_)⟩
theorem gsize_c {e : Env} {L : List Asn} {w : World} {b W H : Nat} {vs : List Int} (s : SL e w L) (hg : Has L (GridA b W H vs)) : Calls Try.prog 125 #[ptr b 0] w (Rets fun v w' => v = .tuple #[.int .i64 W, .int .i64 H] ∧ SL e w' L) := by
  obtain ⟨L', t⟩ := hg
  obtain ⟨hok, sv, bs, hl, s1⟩ := grid_open (s.take t)
  exact Rets.mono (gsize0_c s1 ent_blk) fun v w' h => ⟨h.1, grid_back hok hl t h.2⟩
theorem gall_c {e : Env} {L : List Asn} {w : World} {b W H : Nat} {vs : List Int} (s : SL e w L) (hg : Has L (GridA b W H vs)) : Calls Try.prog 85 #[ptr b 0] w (Rets fun v w' => v = .agg #[.int .i64 0, .int .i64 0, .int .i64 (W - 1), .int .i64 (H - 1)] ∧ SL e w' L) := by
  obtain ⟨L', t⟩ := hg
  obtain ⟨hok, sv, bs, hl, s1⟩ := grid_open (s.take t)
  have h1 := hok.w1; have h2 := hok.h1
  exact Rets.mono (gall0_c s1 ent_blk (by omega) (by omega)) fun v w' h => ⟨h.1, grid_back hok hl t h.2⟩
theorem gcheck_c {e : Env} {L : List Asn} {w : World} {b W H : Nat} {vs : List Int} {x0 y0 x1 y1 : Int} (s : SL e w L) (hg : Has L (GridA b W H vs)) : Calls Try.prog 161 #[ptr b 0, .agg #[.int .i64 x0, .int .i64 y0, .int .i64 x1, .int .i64 y1]] w (Rets fun v w' => v = .int .i64 (withinF x0 y0 x1 y1 W H) ∧ SL e w' L) := by
  obtain ⟨L', t⟩ := hg
  obtain ⟨hok, sv, bs, hl, s1⟩ := grid_open (s.take t)
  have h1 := hok.w1; have h2 := hok.h1
  exact Rets.mono (gcheck0_c s1 ent_blk (by omega) (by omega)) fun v w' h => ⟨h.1, grid_back hok hl t h.2⟩
theorem gat_c {e : Env} {L : List Asn} {w : World} {b W H x y : Nat} {vs : List Int} (s : SL e w L) (hg : Has L (GridA b W H vs)) (hx : x < W) (hy : y < H) : Calls Try.prog 127 #[ptr b 0, .agg #[.int .i64 (x : Int), .int .i64 (y : Int)]] w (Rets fun v w' => v = .tuple #[.int .i64 (vs.getD (y * W + x) 0), .int .i64 0] ∧ SL e w' L) := by
  obtain ⟨L', t⟩ := hg
  obtain ⟨hok, sv, bs, hl, s1⟩ := grid_open (s.take t)
  exact Rets.mono (gat0_c s1 ent_blk (Ent.there (Ent.here arr_reads)) grid_in hl hok hx hy) fun v w' h => ⟨h.1, grid_back hok hl t h.2⟩
theorem gatOut_c {e : Env} {L : List Asn} {w : World} {b W H : Nat} {x y : Int} {vs : List Int} (s : SL e w L) (hg : Has L (GridA b W H vs)) (hout : x < 0 ∨ (W : Int) ≤ x ∨ y < 0 ∨ (H : Int) ≤ y) : Calls Try.prog 127 #[ptr b 0, .agg #[.int .i64 x, .int .i64 y]] w (Rets fun v w' => v = .tuple #[.int .i64 0, .int .i64 4] ∧ SL e w' L) := by
  obtain ⟨L', t⟩ := hg
  obtain ⟨hok, sv, bs, hl, s1⟩ := grid_open (s.take t)
  exact Rets.mono (gatOut0_c s1 ent_blk ⟨hok.w0, hok.w1⟩ ⟨hok.h0, hok.h1⟩ hout) fun v w' h => ⟨h.1, grid_back hok hl t h.2⟩
theorem gvalues_c {e : Env} {L : List Asn} {w : World} {b W H x0 y0 x1 y1 : Nat} {vs : List Int} (s : SL e w L) (hg : Has L (GridA b W H vs)) (hx : x0 ≤ x1) (hxw : x1 < W) (hy : y0 ≤ y1) (hyh : y1 < H) : Calls Try.prog 84 #[ptr b 0, .agg #[.int .i64 (x0 : Int), .int .i64 (y0 : Int), .int .i64 (x1 : Int), .int .i64 (y1 : Int)]] w (Rets fun v w' => ∃ u, v = .tuple #[u, .int .i64 0] ∧ SL e w' (Arr I64 2 u (rectV W vs x0 y0 (x1 + 1 - x0) (y1 + 1 - y0)) :: L)) := by
  obtain ⟨L', t⟩ := hg
  obtain ⟨hok, sv, bs, hl, s1⟩ := grid_open (s.take t)
  exact Rets.mono (gvalues0_c s1 ent_blk (Ent.there (Ent.here arr_reads)) grid_in hl hok hx hxw hy hyh) fun v w' ⟨u, h, s2⟩ => ⟨u, h, grid_back1 hok hl t s2⟩
end Go.Proofs.Ytpchomihojidpaa
