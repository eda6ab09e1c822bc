/- What the document says of turning. -/
import Derived.Test.YtpchomihojidpaaTy
import Derived.Test.YtpchomihojidpaaSlC
import Derived.Test.YtpchomihojidpaaTa
import Derived.Test.YtpchomihojidpaaSlD
import Derived.KernelRfl
namespace Go.Proofs.Ytpchomihojidpaa
open Go.SL
set_option linter.unusedVariables false
set_option linter.unusedSimpArgs false
attribute [local irreducible] wpList WD WP Region.wanted Code.wp
theorem gen_z (w : Nat) (f : Nat → Nat → Int) (n : Nat) : genP w 0 f = genP w (0 * n) f := by rw [Nat.zero_mul]
set_option maxHeartbeats 4000000 in
set_option maxRecDepth 100000 in
/-- hachure/hachureref42.Swap -/
theorem refSwap_c {e : Env} {L : List Asn} {w : World} {W H : Nat} {u : Value} {v : List Int} (s : SL e w L) (hv : Ent L (SlR I64 u v)) (hw : 1 ≤ W ∧ W ≤ 1024) (hh : 1 ≤ H ∧ H ≤ 1024) (hl : v.length = W * H) :
    Calls Try.prog 63 #[.agg #[.int .i64 (W : Int), .int .i64 (H : Int), u]] w (Rets fun r w' => ∃ z, r = .agg #[.int .i64 (H : Int), .int .i64 (W : Int), z] ∧ SL e w' (Arr I64 2 z (swapV W H v) :: L)) := by
  have hbW : W * H ≤ 1024 * 1024 := Nat.mul_le_mul hw.2 hh.2
  refine enter Try.func63 rfl (l := [.agg #[.int .i64 (W : Int), .int .i64 (H : Int), u], undef, undef, undef, undef, undef, undef, undef, undef, undef, undef, undef, undef, undef, undef, undef, undef, undef, undef, undef, undef, undef, undef, undef, undef, undef, undef, undef, undef, undef, undef, undef, undef, undef, undef, undef, undef, undef, undef]) rfl ?_
  refine c_seq ?_
  refine c_region ?_
  refine l_box s rfl rfl rfl (ev_of rfl) (fun b3 w2 s1 => ?_)
  change SL _ _ (Blk _ #[_, _, _] _ :: _) at s1
  clear s
  refine nlL (l' := _) rfl ?_
  refine l_alloc s1 rfl rfl rfl Ty.zero25 (fun b6 w5 s4 => ?_)
  change SL _ _ (Blk _ #[_, _, _] _ :: _) at s4
  clear s1
  refine nlL (l' := [_,_,_,_,_,_,_,_,_,_,_,_,_,_,_,_,_,_,_,_,_,_,_,_,_,_,_,_,_,_,_,_,_,_,_,_,_,_,_]) rfl ?_
  refine l_end ?_
  refine x_thenN ?_
  refine c_seq ?_
  refine c_region ?_
  refine l_val s4 (y_fieldAddrB rfl Ty.fld25_1 Ty.size2 (ev_of rfl)) rfl rfl (l' := _) rfl ?_
  refine l_val s4 (y_load rfl Ty.some2 Ty.agg2 (ev_of rfl) (by repeat first | exact ent_cell rfl | assumption | refine Ent.there ?_)) rfl rfl (l' := [_,_,_,_,_,_,_,_,_,_,_,_,_,_,_,_,_,_,_,_,_,_,_,_,_,_,_,_,_,_,_,_,_,_,_,_,_,_,_]) rfl ?_
  refine l_val s4 (y_fieldAddrB rfl Ty.fld25_0 Ty.size2 (ev_of rfl)) rfl rfl (l' := _) rfl ?_
  refine l_val s4 (y_load rfl Ty.some2 Ty.agg2 (ev_of rfl) (by repeat first | exact ent_cell rfl | assumption | refine Ent.there ?_)) rfl rfl (l' := [_,_,_,_,_,_,_,_,_,_,_,_,_,_,_,_,_,_,_,_,_,_,_,_,_,_,_,_,_,_,_,_,_,_,_,_,_,_,_]) rfl ?_
  refine l_val s4 (y_bld (zs := [_, _, _]) (vs := [(0, _), (1, _)]) (ps := [(0, [_]), (1, [_])]) (v := .agg #[_, _, _]) rfl Ty.zero25 rfl (fs_of Ty.fs25) rfl rfl (by intro q hq; simp only [List.zip_cons_cons, List.zip_nil_right, List.zip_nil_left, List.mem_cons, List.not_mem_nil, or_false] at hq; rcases hq with rfl | rfl <;> exact ⟨by kernel_rfl, by first | rfl | (simp only [cells_one (arr_one (by first | (repeat first | assumption | with_reducible exact ent_blk | with_reducible exact Ent.here arr_reads | with_reducible exact Ent.here one_I64 | with_reducible exact Ent.here one_Cell | refine Ent.there ?_); done | (repeat first | assumption | with_reducible exact ent_blk | exact Ent.here arr_reads | exact Ent.here one_I64 | exact Ent.here one_Cell | exact Ent.here one_Bool | exact Ent.here one_Rect | refine Ent.there ?_)) s4)]; first | done | rfl), by simp⟩) rfl ⟨_, rfl⟩) rfl rfl (l' := _) rfl ?_
  refine l_alloc s4 rfl rfl rfl Ty.zero25 (fun b9 w8 s7 => ?_)
  change SL _ _ (Blk _ #[_, _, _] _ :: _) at s7
  clear s4
  refine nlL (l' := [_,_,_,_,_,_,_,_,_,_,_,_,_,_,_,_,_,_,_,_,_,_,_,_,_,_,_,_,_,_,_,_,_,_,_,_,_,_,_]) rfl ?_
  refine l_stA s7 (by repeat first | with_reducible exact Take.here _ _ | apply Take.there) rfl rfl rfl Ty.size25 (ev_of rfl) (ev_of rfl) rfl rfl (by first | (simp [Value.oneCell']; done) | (intro x hx; simp only [List.mem_toArray, List.mem_cons, List.not_mem_nil, or_false] at hx; rcases hx with rfl | rfl | rfl <;> first | rfl | assumption | exact arr_one (by first | (repeat first | assumption | with_reducible exact ent_blk | with_reducible exact Ent.here arr_reads | with_reducible exact Ent.here one_I64 | with_reducible exact Ent.here one_Cell | refine Ent.there ?_); done | (repeat first | assumption | with_reducible exact ent_blk | exact Ent.here arr_reads | exact Ent.here one_I64 | exact Ent.here one_Cell | exact Ent.here one_Bool | exact Ent.here one_Rect | refine Ent.there ?_)) s7)) (fun w11 s10 => ?_)
  clear s7
  refine l_end ?_
  refine x_thenN ?_
  refine c_seq ?_
  refine c_seq ?_
  refine c_region ?_
  refine l_val s10 (y_as rfl (ev_of rfl)) rfl rfl (l' := _) rfl ?_
  refine l_end ?_
  refine x_thenN ?_
  refine c_block ?_
  replace s10 := s10.nilArr I64 2
  change SL _ _ (Arr I64 2 _ (genP H 0 (fun x y => at2 W v y x)) :: _) at s10
  rw [gen_z H (fun x y => at2 W v y x) H] at s10
  refine c_loop [false, false, false, false, true, true, false, false, false, false, false, true, true, true, true, true, true, true, true, true, true, true, true, true, true, true, true, true, true, true, true, true, true, true, true, true, true, true, false] (fun mu ds w => ∃ (j : Nat) (z : Value) (dd1 : List Value), ds = [(.int .i64 (j : Int)), nthD dd1 0, nthD dd1 1, nthD dd1 2, nthD dd1 3, nthD dd1 4, nthD dd1 5, nthD dd1 6, nthD dd1 7, nthD dd1 8, nthD dd1 9, nthD dd1 10, nthD dd1 11, nthD dd1 12, nthD dd1 13, nthD dd1 14, nthD dd1 15, nthD dd1 16, nthD dd1 17, nthD dd1 18, nthD dd1 19, nthD dd1 20, nthD dd1 21, nthD dd1 22, nthD dd1 23, nthD dd1 24, nthD dd1 25, nthD dd1 26, nthD dd1 27] ∧ mu = W - j ∧ SL e w (Blk b9 #[.int .i64 (H : Int), .int .i64 (W : Int), z] 25 :: Arr I64 2 z (genP H (j * H) (fun x y => at2 W v y x)) :: Blk b6 #[.int .i64 0, .int .i64 0, .slice none 0 0] 25 :: Blk b3 #[.int .i64 (W : Int), .int .i64 (H : Int), u] 25 :: L) ∧ (j ≤ W)) (ds := [_, _, _, _, _, _, _, _, _, _, _, _, _, _, _, _, _, _, _, _, _, _, _, _, _, _, _, _, _]) rfl ⟨0, (.slice none 0 0), [_, _, _, _, _, _, _, _, _, _, _, _, _, _, _, _, _, _, _, _, _, _, _, _, _, _, _, _], rfl, rfl, ?_, ?_⟩ ?_
  · first | exact s10 | exact s10.sub (by first | (repeat first | with_reducible exact Sub.refl _ | refine Sub.skip _ ?_); done | (repeat first | with_reducible exact Sub.refl _ | exact Sub.nil _ | refine Sub.take (by repeat first | with_reducible exact Take.here _ _ | apply Take.there) ?_ | refine Sub.skip _ ?_))
  · omega
  · clear s10
    rintro n14 ds15 w13 ⟨j, z, dd1, rfl, rfl, s12, hJ⟩
    refine nlC (l' := [_,_,_,_,_,_,_,_,_,_,_,_,_,_,_,_,_,_,_,_,_,_,_,_,_,_,_,_,_,_,_,_,_,_,_,_,_,_,_]) rfl ?_
    refine c_seq ?_
    refine c_seq ?_
    refine c_region ?_
    refine l_val s12 (y_mv rfl (ev_of rfl)) rfl rfl (l' := _) rfl ?_
    refine l_val s12 (y_fieldAddrB rfl Ty.fld25_0 Ty.size2 (ev_of rfl)) rfl rfl (l' := [_,_,_,_,_,_,_,_,_,_,_,_,_,_,_,_,_,_,_,_,_,_,_,_,_,_,_,_,_,_,_,_,_,_,_,_,_,_,_]) rfl ?_
    refine l_val s12 (y_load rfl Ty.some2 Ty.agg2 (ev_of rfl) (by repeat first | exact ent_cell rfl | assumption | refine Ent.there ?_)) rfl rfl (l' := _) rfl ?_
    refine l_val s12 (y_lss rfl (ev_of rfl) (ev_of rfl)) rfl rfl (l' := [_,_,_,_,_,_,_,_,_,_,_,_,_,_,_,_,_,_,_,_,_,_,_,_,_,_,_,_,_,_,_,_,_,_,_,_,_,_,_]) rfl ?_
    refine l_end ?_
    refine x_thenN ?_
    refine c_if rfl (fun hc0 => ?_) (fun hc0 => ?_)
    · (try simp only [decide_eq_true_eq, decide_eq_false_iff_not, Bool.not_eq_true', Bool.not_eq_false'] at hc0)
      refine c_skip ?_
      refine x_thenN ?_
      refine c_seq ?_
      refine c_block ?_
      refine c_seq ?_
      refine c_region ?_
      refine l_val s12 (y_as rfl (ev_of rfl)) rfl rfl (l' := _) rfl ?_
      refine l_end ?_
      refine x_thenN ?_
      refine c_block ?_
      have hm : (j + 1) * H ≤ W * H := Nat.mul_le_mul_right _ (by omega)
      rw [Nat.succ_mul] at hm
      refine c_loop [false, false, false, false, false, true, false, false, false, false, false, false, false, false, false, false, false, true, true, true, true, true, true, true, true, true, true, true, true, true, true, true, true, true, true, true, true, true, false] (fun mu ds w => ∃ (i : Nat) (z : Value) (dd2 : List Value), ds = [(.int .i64 (i : Int)), nthD dd2 0, nthD dd2 1, nthD dd2 2, nthD dd2 3, nthD dd2 4, nthD dd2 5, nthD dd2 6, nthD dd2 7, nthD dd2 8, nthD dd2 9, nthD dd2 10, nthD dd2 11, nthD dd2 12, nthD dd2 13, nthD dd2 14, nthD dd2 15, nthD dd2 16, nthD dd2 17, nthD dd2 18, nthD dd2 19, nthD dd2 20] ∧ mu = H - i ∧ SL e w (Blk b9 #[.int .i64 (H : Int), .int .i64 (W : Int), z] 25 :: Arr I64 2 z (genP H (j * H + i) (fun x y => at2 W v y x)) :: Blk b6 #[.int .i64 0, .int .i64 0, .slice none 0 0] 25 :: Blk b3 #[.int .i64 (W : Int), .int .i64 (H : Int), u] 25 :: L) ∧ (i ≤ H)) (ds := [_, _, _, _, _, _, _, _, _, _, _, _, _, _, _, _, _, _, _, _, _, _]) rfl ⟨0, z, [_, _, _, _, _, _, _, _, _, _, _, _, _, _, _, _, _, _, _, _, _], rfl, rfl, ?_, ?_⟩ ?_
      · first | exact s12 | exact s12.sub (by first | (repeat first | with_reducible exact Sub.refl _ | refine Sub.skip _ ?_); done | (repeat first | with_reducible exact Sub.refl _ | exact Sub.nil _ | refine Sub.take (by repeat first | with_reducible exact Take.here _ _ | apply Take.there) ?_ | refine Sub.skip _ ?_))
      · omega
      · clear s12
        rintro n18 ds19 w17 ⟨i, z, dd2, rfl, rfl, s16, hI⟩
        refine nlC (l' := [_,_,_,_,_,_,_,_,_,_,_,_,_,_,_,_,_,_,_,_,_,_,_,_,_,_,_,_,_,_,_,_,_,_,_,_,_,_,_]) rfl ?_
        refine c_seq ?_
        refine c_seq ?_
        refine c_region ?_
        refine l_val s16 (y_mv rfl (ev_of rfl)) rfl rfl (l' := _) rfl ?_
        refine l_val s16 (y_fieldAddrB rfl Ty.fld25_1 Ty.size2 (ev_of rfl)) rfl rfl (l' := [_,_,_,_,_,_,_,_,_,_,_,_,_,_,_,_,_,_,_,_,_,_,_,_,_,_,_,_,_,_,_,_,_,_,_,_,_,_,_]) rfl ?_
        refine l_val s16 (y_load rfl Ty.some2 Ty.agg2 (ev_of rfl) (by repeat first | exact ent_cell rfl | assumption | refine Ent.there ?_)) rfl rfl (l' := _) rfl ?_
        refine l_val s16 (y_lss rfl (ev_of rfl) (ev_of rfl)) rfl rfl (l' := [_,_,_,_,_,_,_,_,_,_,_,_,_,_,_,_,_,_,_,_,_,_,_,_,_,_,_,_,_,_,_,_,_,_,_,_,_,_,_]) rfl ?_
        refine l_end ?_
        refine x_thenN ?_
        refine c_if rfl (fun hc1 => ?_) (fun hc1 => ?_)
        · (try simp only [decide_eq_true_eq, decide_eq_false_iff_not, Bool.not_eq_true', Bool.not_eq_false'] at hc1)
          refine c_skip ?_
          refine x_thenN ?_
          refine c_seq ?_
          refine c_block ?_
          have hcl := cell_lt (W := W) (H := H) (x := j) (y := i) (by omega) (by omega)
          have hmi : (i : Int) * (W : Int) = ((i * W : Nat) : Int) := (Int.natCast_mul _ _).symm
          apply c_drawn [] [0, 1, 2, 3, 4, 5, 6, 7, 8, 9, 10, 11, 12] [13, 14, 15] [] [_, _, _] [(_, vq _), (_, vq _), (_, vq _), (_, vq _), (_, vq _), (_, vq _), (_, vq _), (_, vq _), (_, vq _), (_, vq _), (_, vq _), (_, vq _), (_, vb _ _)] s16 Ty.follows (by kernel_rfl) (fun _ _ _ h => h.2) rfl rfl rfl (by decide) ?_
          show WP _ _ _ _ _
          refine p_end ?_
          refine d_val (y_fieldAddrB rfl Ty.fld25_2 Ty.size22 (ev_of rfl)) rfl rfl (l' := _) rfl ?_
          refine d_val (y_load rfl Ty.some22 Ty.agg22 (ev_of rfl) (by repeat first | exact ent_cell rfl | assumption | refine Ent.there ?_)) rfl rfl (l' := [_,_,_,_,_,_,_,_,_,_,_,_,_,_,_,_,_,_,_,_,_,_,_,_,_,_,_,_,_,_,_,_,_,_,_,_,_,_,_]) rfl ?_
          refine d_val (y_fieldAddrB rfl Ty.fld25_2 Ty.size22 (ev_of rfl)) rfl rfl (l' := _) rfl ?_
          refine d_val (y_load rfl Ty.some22 Ty.agg22 (ev_of rfl) (by repeat first | exact ent_cell rfl | assumption | refine Ent.there ?_)) rfl rfl (l' := [_,_,_,_,_,_,_,_,_,_,_,_,_,_,_,_,_,_,_,_,_,_,_,_,_,_,_,_,_,_,_,_,_,_,_,_,_,_,_]) rfl ?_
          refine d_val (y_mv rfl (ev_of rfl)) rfl rfl (l' := _) rfl ?_
          refine d_val (y_fieldAddrB rfl Ty.fld25_0 Ty.size2 (ev_of rfl)) rfl rfl (l' := [_,_,_,_,_,_,_,_,_,_,_,_,_,_,_,_,_,_,_,_,_,_,_,_,_,_,_,_,_,_,_,_,_,_,_,_,_,_,_]) rfl ?_
          refine d_val (y_load rfl Ty.some2 Ty.agg2 (ev_of rfl) (by repeat first | exact ent_cell rfl | assumption | refine Ent.there ?_)) rfl rfl (l' := _) rfl ?_
          refine d_val (y_mul rfl (ev_of rfl) (ev_of rfl) (by omega) (by omega)) rfl rfl (l' := [_,_,_,_,_,_,_,_,_,_,_,_,_,_,_,_,_,_,_,_,_,_,_,_,_,_,_,_,_,_,_,_,_,_,_,_,_,_,_]) rfl ?_
          refine d_val (y_mv rfl (ev_of rfl)) rfl rfl (l' := _) rfl ?_
          refine d_val (y_add rfl (ev_of rfl) (ev_of rfl) (by omega) (by omega)) rfl rfl (l' := [_,_,_,_,_,_,_,_,_,_,_,_,_,_,_,_,_,_,_,_,_,_,_,_,_,_,_,_,_,_,_,_,_,_,_,_,_,_,_]) rfl ?_
          refine d_val (y_idx (c := I64) (n := i * W + j) rfl Ty.elem22 Ty.size2 (ev_of rfl) (ev_of rfl) (by first | (repeat first | assumption | with_reducible exact ent_blk | with_reducible exact Ent.here arr_reads | with_reducible exact Ent.here one_I64 | with_reducible exact Ent.here one_Cell | refine Ent.there ?_); done | (repeat first | assumption | with_reducible exact ent_blk | exact Ent.here arr_reads | exact Ent.here one_I64 | exact Ent.here one_Cell | exact Ent.here one_Bool | exact Ent.here one_Rect | refine Ent.there ?_)) (by first | rfl | omega) (by omega)) rfl rfl (l' := _) rfl ?_
          refine d_val (y_ldI (n := i * W + j) rfl Ty.some2 Ty.agg2 (ev_of rfl) (by first | (repeat first | assumption | with_reducible exact ent_blk | with_reducible exact Ent.here arr_reads | with_reducible exact Ent.here one_I64 | with_reducible exact Ent.here one_Cell | refine Ent.there ?_); done | (repeat first | assumption | with_reducible exact ent_blk | exact Ent.here arr_reads | exact Ent.here one_I64 | exact Ent.here one_Cell | exact Ent.here one_Bool | exact Ent.here one_Rect | refine Ent.there ?_)) (by omega)) rfl rfl (l' := [_,_,_,_,_,_,_,_,_,_,_,_,_,_,_,_,_,_,_,_,_,_,_,_,_,_,_,_,_,_,_,_,_,_,_,_,_,_,_]) rfl ?_
          refine d_bs rfl rfl rfl Ty.elem22 Ty.size2 Ty.zero2 (zs := [_]) rfl (vs := [(0, _)]) rfl (ps := [(0, [_])]) rfl (by intro q hq; simp only [List.zip_cons_cons, List.zip_nil_right, List.zip_nil_left, List.mem_cons, List.not_mem_nil, or_false] at hq; rcases hq with rfl <;> exact ⟨rfl, rfl, by first | rfl | (simp only [cells_one (arr_one (by first | (repeat first | assumption | with_reducible exact ent_blk | with_reducible exact Ent.here arr_reads | with_reducible exact Ent.here one_I64 | with_reducible exact Ent.here one_Cell | refine Ent.there ?_); done | (repeat first | assumption | with_reducible exact ent_blk | exact Ent.here arr_reads | exact Ent.here one_I64 | exact Ent.here one_Cell | exact Ent.here one_Bool | exact Ent.here one_Rect | refine Ent.there ?_)) s16)]; first | done | rfl), by simp⟩) (cells := [_]) rfl (by decide) (fun b20 => ?_)
          refine nlD (l' := _) rfl ?_
          refine d_end (fun w22 s21 => ?_)
          clear s16
          simp only [List.append_nil, List.cons_append, List.nil_append] at s21
          refine l_append1 s21 (by repeat first | exact Take.here (Blk _ _ _) _ | apply Take.there) (by repeat first | with_reducible exact Take.here _ _ | apply Take.there) rfl rfl rfl Ty.elem22 Ty.size2 Ty.bytes2 Ty.zero2 rfl (ev_of rfl) (ev_of rfl) one_I64 (by rw [genP_length]; simp only [List.length_cons, List.length_nil]; omega) (by decide) (fun v25 w24 s23 => ?_)
          clear s21
          refine nlL (l' := [_,_,_,_,_,_,_,_,_,_,_,_,_,_,_,_,_,_,_,_,_,_,_,_,_,_,_,_,_,_,_,_,_,_,_,_,_,_,_]) rfl ?_
          refine l_val s23 (y_fieldAddrB rfl Ty.fld25_2 Ty.size22 (ev_of rfl)) rfl rfl (l' := _) rfl ?_
          refine l_store s23 rfl rfl rfl Ty.size22 (ev_of rfl) (ev_of rfl) (by first | rfl | exact arr_one (by first | (repeat first | assumption | with_reducible exact ent_blk | with_reducible exact Ent.here arr_reads | with_reducible exact Ent.here one_I64 | with_reducible exact Ent.here one_Cell | refine Ent.there ?_); done | (repeat first | assumption | with_reducible exact ent_blk | exact Ent.here arr_reads | exact Ent.here one_I64 | exact Ent.here one_Cell | exact Ent.here one_Bool | exact Ent.here one_Rect | refine Ent.there ?_)) s23) (by repeat first | exact Wr.blk (cells' := #[_, _, _]) (Nat.le_of_ble_eq_true rfl) rfl | apply Wr.there) (fun w27 s26 => ?_)
          clear s23
          refine l_end ?_
          refine x_blockN ?_
          refine x_thenN ?_
          refine c_region ?_
          refine l_val s26 (y_mv rfl (ev_of rfl)) rfl rfl (l' := [_,_,_,_,_,_,_,_,_,_,_,_,_,_,_,_,_,_,_,_,_,_,_,_,_,_,_,_,_,_,_,_,_,_,_,_,_,_,_]) rfl ?_
          refine l_val s26 (y_add rfl (ev_of rfl) (ev_of rfl) (by omega) (by omega)) rfl rfl (l' := _) rfl ?_
          refine l_val s26 (y_as rfl (ev_of rfl)) rfl rfl (l' := [_,_,_,_,_,_,_,_,_,_,_,_,_,_,_,_,_,_,_,_,_,_,_,_,_,_,_,_,_,_,_,_,_,_,_,_,_,_,_]) rfl ?_
          refine l_end ?_
          refine x_thenN ?_
          change SL _ _ (Arr I64 2 _ (genP H (j * H + i) (fun x y => at2 W v y x) ++ [(fun x y => at2 W v y x) i j]) :: _) at s26
          rw [genP_step (f := (fun x y => at2 W v y x)) (by omega)] at s26
          refine ⟨_, [_, _, _, _, _, _, _, _, _, _, _, _, _, _, _, _, _, _, _, _, _, _], ?_, rfl, i + 1, v25, [_, _, _, _, _, _, _, _, _, _, _, _, _, _, _, _, _, _, _, _, _], rfl, rfl, ?_, ?_⟩
          · omega
          · first | exact s26 | exact s26.sub (by first | (repeat first | with_reducible exact Sub.refl _ | refine Sub.skip _ ?_); done | (repeat first | with_reducible exact Sub.refl _ | exact Sub.nil _ | refine Sub.take (by repeat first | with_reducible exact Take.here _ _ | apply Take.there) ?_ | refine Sub.skip _ ?_))
          · omega
        · (try simp only [decide_eq_true_eq, decide_eq_false_iff_not, Bool.not_eq_true', Bool.not_eq_false'] at hc1)
          refine c_exit ?_
          refine x_thenE ?_
          refine x_thenE ?_
          refine x_hit ?_
          refine x_blockN ?_
          refine x_thenN ?_
          refine c_region ?_
          refine l_val s16 (y_mv rfl (ev_of rfl)) rfl rfl (l' := _) rfl ?_
          refine l_val s16 (y_add rfl (ev_of rfl) (ev_of rfl) (by omega) (by omega)) rfl rfl (l' := [_,_,_,_,_,_,_,_,_,_,_,_,_,_,_,_,_,_,_,_,_,_,_,_,_,_,_,_,_,_,_,_,_,_,_,_,_,_,_]) rfl ?_
          refine l_val s16 (y_as rfl (ev_of rfl)) rfl rfl (l' := _) rfl ?_
          refine l_end ?_
          refine x_thenN ?_
          obtain rfl : i = H := by omega
          rw [genP_row] at s16
          refine ⟨_, [_, _, _, _, _, _, _, _, _, _, _, _, _, _, _, _, _, _, _, _, _, _, _, _, _, _, _, _, _], ?_, rfl, j + 1, z, [_, _, _, _, _, _, _, _, _, _, _, _, _, _, _, _, _, _, _, _, _, _, _, _, _, _, _, _], rfl, rfl, ?_, ?_⟩
          · omega
          · first | exact s16 | exact s16.sub (by first | (repeat first | with_reducible exact Sub.refl _ | refine Sub.skip _ ?_); done | (repeat first | with_reducible exact Sub.refl _ | exact Sub.nil _ | refine Sub.take (by repeat first | with_reducible exact Take.here _ _ | apply Take.there) ?_ | refine Sub.skip _ ?_))
          · omega
    · (try simp only [decide_eq_true_eq, decide_eq_false_iff_not, Bool.not_eq_true', Bool.not_eq_false'] at hc0)
      refine c_exit ?_
      refine x_thenE ?_
      refine x_thenE ?_
      refine x_hit ?_
      refine x_thenN ?_
      refine c_seq ?_
      refine c_region ?_
      refine l_val s12 (y_load_blk rfl Ty.some25 Ty.agg25 Ty.size25 (ev_of rfl) (by repeat first | exact ent_blk | refine Ent.there ?_) rfl) rfl rfl (l' := [_,_,_,_,_,_,_,_,_,_,_,_,_,_,_,_,_,_,_,_,_,_,_,_,_,_,_,_,_,_,_,_,_,_,_,_,_,_,_]) rfl ?_
      refine l_stA s12 (by repeat first | with_reducible exact Take.here _ _ | apply Take.there) rfl rfl rfl Ty.size25 (ev_of rfl) (ev_of rfl) rfl rfl (by first | (simp [Value.oneCell']; done) | (intro x hx; simp only [List.mem_toArray, List.mem_cons, List.not_mem_nil, or_false] at hx; rcases hx with rfl | rfl | rfl <;> first | rfl | assumption | exact arr_one (by first | (repeat first | assumption | with_reducible exact ent_blk | with_reducible exact Ent.here arr_reads | with_reducible exact Ent.here one_I64 | with_reducible exact Ent.here one_Cell | refine Ent.there ?_); done | (repeat first | assumption | with_reducible exact ent_blk | exact Ent.here arr_reads | exact Ent.here one_I64 | exact Ent.here one_Cell | exact Ent.here one_Bool | exact Ent.here one_Rect | refine Ent.there ?_)) s12)) (fun w29 s28 => ?_)
      clear s12
      refine l_end ?_
      refine x_thenN ?_
      refine c_ret ?_
      refine rc1 s28 rfl rfl Ty.some25 Ty.agg25 Ty.size25 (by repeat first | exact ent_blk | refine Ent.there ?_) rfl ?_
      have hjj : j = W := by omega
      rw [hjj] at s28
      exact ⟨z, rfl, (s28.sub (by first | (repeat first | with_reducible exact Sub.refl _ | refine Sub.skip _ ?_); done | (repeat first | with_reducible exact Sub.refl _ | exact Sub.nil _ | refine Sub.take (by repeat first | with_reducible exact Take.here _ _ | apply Take.there) ?_ | refine Sub.skip _ ?_)) : SL e w29 (Arr I64 2 z (genP H (W * H) (fun x y => at2 W v y x)) :: L))⟩
set_option maxHeartbeats 4000000 in
set_option maxRecDepth 100000 in
/-- hachure/hachureref42.Mirror -/
theorem refMirror_c {e : Env} {L : List Asn} {w : World} {W H : Nat} {u : Value} {v : List Int} (s : SL e w L) (hv : Ent L (SlR I64 u v)) (hw : 1 ≤ W ∧ W ≤ 1024) (hh : 1 ≤ H ∧ H ≤ 1024) (hl : v.length = W * H) :
    Calls Try.prog 62 #[.agg #[.int .i64 (W : Int), .int .i64 (H : Int), u]] w (Rets fun r w' => ∃ z, r = .agg #[.int .i64 (W : Int), .int .i64 (H : Int), z] ∧ SL e w' (Arr I64 2 z (mirV W H v) :: L)) := by
  have hbW : W * H ≤ 1024 * 1024 := Nat.mul_le_mul hw.2 hh.2
  refine enter Try.func62 rfl (l := [.agg #[.int .i64 (W : Int), .int .i64 (H : Int), u], undef, undef, undef, undef, undef, undef, undef, undef, undef, undef, undef, undef, undef, undef, undef, undef, undef, undef, undef, undef, undef, undef, undef, undef, undef, undef, undef, undef, undef, undef, undef, undef, undef, undef, undef, undef, undef, undef, undef]) rfl ?_
  refine c_seq ?_
  refine c_region ?_
  refine l_box s rfl rfl rfl (ev_of rfl) (fun b3 w2 s1 => ?_)
  change SL _ _ (Blk _ #[_, _, _] _ :: _) at s1
  clear s
  refine nlL (l' := _) rfl ?_
  refine l_alloc s1 rfl rfl rfl Ty.zero25 (fun b6 w5 s4 => ?_)
  change SL _ _ (Blk _ #[_, _, _] _ :: _) at s4
  clear s1
  refine nlL (l' := [_,_,_,_,_,_,_,_,_,_,_,_,_,_,_,_,_,_,_,_,_,_,_,_,_,_,_,_,_,_,_,_,_,_,_,_,_,_,_,_]) rfl ?_
  refine l_end ?_
  refine x_thenN ?_
  refine c_seq ?_
  refine c_region ?_
  refine l_val s4 (y_fieldAddrB rfl Ty.fld25_0 Ty.size2 (ev_of rfl)) rfl rfl (l' := _) rfl ?_
  refine l_val s4 (y_load rfl Ty.some2 Ty.agg2 (ev_of rfl) (by repeat first | exact ent_cell rfl | assumption | refine Ent.there ?_)) rfl rfl (l' := [_,_,_,_,_,_,_,_,_,_,_,_,_,_,_,_,_,_,_,_,_,_,_,_,_,_,_,_,_,_,_,_,_,_,_,_,_,_,_,_]) rfl ?_
  refine l_val s4 (y_fieldAddrB rfl Ty.fld25_1 Ty.size2 (ev_of rfl)) rfl rfl (l' := _) rfl ?_
  refine l_val s4 (y_load rfl Ty.some2 Ty.agg2 (ev_of rfl) (by repeat first | exact ent_cell rfl | assumption | refine Ent.there ?_)) rfl rfl (l' := [_,_,_,_,_,_,_,_,_,_,_,_,_,_,_,_,_,_,_,_,_,_,_,_,_,_,_,_,_,_,_,_,_,_,_,_,_,_,_,_]) rfl ?_
  refine l_val s4 (y_bld (zs := [_, _, _]) (vs := [(0, _), (1, _)]) (ps := [(0, [_]), (1, [_])]) (v := .agg #[_, _, _]) rfl Ty.zero25 rfl (fs_of Ty.fs25) rfl rfl (by intro q hq; simp only [List.zip_cons_cons, List.zip_nil_right, List.zip_nil_left, List.mem_cons, List.not_mem_nil, or_false] at hq; rcases hq with rfl | rfl <;> exact ⟨by kernel_rfl, by first | rfl | (simp only [cells_one (arr_one (by first | (repeat first | assumption | with_reducible exact ent_blk | with_reducible exact Ent.here arr_reads | with_reducible exact Ent.here one_I64 | with_reducible exact Ent.here one_Cell | refine Ent.there ?_); done | (repeat first | assumption | with_reducible exact ent_blk | exact Ent.here arr_reads | exact Ent.here one_I64 | exact Ent.here one_Cell | exact Ent.here one_Bool | exact Ent.here one_Rect | refine Ent.there ?_)) s4)]; first | done | rfl), by simp⟩) rfl ⟨_, rfl⟩) rfl rfl (l' := _) rfl ?_
  refine l_alloc s4 rfl rfl rfl Ty.zero25 (fun b9 w8 s7 => ?_)
  change SL _ _ (Blk _ #[_, _, _] _ :: _) at s7
  clear s4
  refine nlL (l' := [_,_,_,_,_,_,_,_,_,_,_,_,_,_,_,_,_,_,_,_,_,_,_,_,_,_,_,_,_,_,_,_,_,_,_,_,_,_,_,_]) rfl ?_
  refine l_stA s7 (by repeat first | with_reducible exact Take.here _ _ | apply Take.there) rfl rfl rfl Ty.size25 (ev_of rfl) (ev_of rfl) rfl rfl (by first | (simp [Value.oneCell']; done) | (intro x hx; simp only [List.mem_toArray, List.mem_cons, List.not_mem_nil, or_false] at hx; rcases hx with rfl | rfl | rfl <;> first | rfl | assumption | exact arr_one (by first | (repeat first | assumption | with_reducible exact ent_blk | with_reducible exact Ent.here arr_reads | with_reducible exact Ent.here one_I64 | with_reducible exact Ent.here one_Cell | refine Ent.there ?_); done | (repeat first | assumption | with_reducible exact ent_blk | exact Ent.here arr_reads | exact Ent.here one_I64 | exact Ent.here one_Cell | exact Ent.here one_Bool | exact Ent.here one_Rect | refine Ent.there ?_)) s7)) (fun w11 s10 => ?_)
  clear s7
  refine l_end ?_
  refine x_thenN ?_
  refine c_seq ?_
  refine c_seq ?_
  refine c_region ?_
  refine l_val s10 (y_as rfl (ev_of rfl)) rfl rfl (l' := _) rfl ?_
  refine l_end ?_
  refine x_thenN ?_
  refine c_block ?_
  replace s10 := s10.nilArr I64 2
  change SL _ _ (Arr I64 2 _ (genP W 0 (fun x y => at2 W v (W - 1 - x) y)) :: _) at s10
  rw [gen_z W (fun x y => at2 W v (W - 1 - x) y) W] at s10
  refine c_loop [false, false, false, false, true, true, false, false, false, false, false, true, true, true, true, true, true, true, true, true, true, true, true, true, true, true, true, true, true, true, true, true, true, true, true, true, true, true, true, false] (fun mu ds w => ∃ (j : Nat) (z : Value) (dd3 : List Value), ds = [(.int .i64 (j : Int)), nthD dd3 0, nthD dd3 1, nthD dd3 2, nthD dd3 3, nthD dd3 4, nthD dd3 5, nthD dd3 6, nthD dd3 7, nthD dd3 8, nthD dd3 9, nthD dd3 10, nthD dd3 11, nthD dd3 12, nthD dd3 13, nthD dd3 14, nthD dd3 15, nthD dd3 16, nthD dd3 17, nthD dd3 18, nthD dd3 19, nthD dd3 20, nthD dd3 21, nthD dd3 22, nthD dd3 23, nthD dd3 24, nthD dd3 25, nthD dd3 26, nthD dd3 27, nthD dd3 28] ∧ mu = H - j ∧ SL e w (Blk b9 #[.int .i64 (W : Int), .int .i64 (H : Int), z] 25 :: Arr I64 2 z (genP W (j * W) (fun x y => at2 W v (W - 1 - x) y)) :: Blk b6 #[.int .i64 0, .int .i64 0, .slice none 0 0] 25 :: Blk b3 #[.int .i64 (W : Int), .int .i64 (H : Int), u] 25 :: L) ∧ (j ≤ H)) (ds := [_, _, _, _, _, _, _, _, _, _, _, _, _, _, _, _, _, _, _, _, _, _, _, _, _, _, _, _, _, _]) rfl ⟨0, (.slice none 0 0), [_, _, _, _, _, _, _, _, _, _, _, _, _, _, _, _, _, _, _, _, _, _, _, _, _, _, _, _, _], rfl, rfl, ?_, ?_⟩ ?_
  · first | exact s10 | exact s10.sub (by first | (repeat first | with_reducible exact Sub.refl _ | refine Sub.skip _ ?_); done | (repeat first | with_reducible exact Sub.refl _ | exact Sub.nil _ | refine Sub.take (by repeat first | with_reducible exact Take.here _ _ | apply Take.there) ?_ | refine Sub.skip _ ?_))
  · omega
  · clear s10
    rintro n14 ds15 w13 ⟨j, z, dd3, rfl, rfl, s12, hJ⟩
    refine nlC (l' := [_,_,_,_,_,_,_,_,_,_,_,_,_,_,_,_,_,_,_,_,_,_,_,_,_,_,_,_,_,_,_,_,_,_,_,_,_,_,_,_]) rfl ?_
    refine c_seq ?_
    refine c_seq ?_
    refine c_region ?_
    refine l_val s12 (y_mv rfl (ev_of rfl)) rfl rfl (l' := _) rfl ?_
    refine l_val s12 (y_fieldAddrB rfl Ty.fld25_1 Ty.size2 (ev_of rfl)) rfl rfl (l' := [_,_,_,_,_,_,_,_,_,_,_,_,_,_,_,_,_,_,_,_,_,_,_,_,_,_,_,_,_,_,_,_,_,_,_,_,_,_,_,_]) rfl ?_
    refine l_val s12 (y_load rfl Ty.some2 Ty.agg2 (ev_of rfl) (by repeat first | exact ent_cell rfl | assumption | refine Ent.there ?_)) rfl rfl (l' := _) rfl ?_
    refine l_val s12 (y_lss rfl (ev_of rfl) (ev_of rfl)) rfl rfl (l' := [_,_,_,_,_,_,_,_,_,_,_,_,_,_,_,_,_,_,_,_,_,_,_,_,_,_,_,_,_,_,_,_,_,_,_,_,_,_,_,_]) rfl ?_
    refine l_end ?_
    refine x_thenN ?_
    refine c_if rfl (fun hc0 => ?_) (fun hc0 => ?_)
    · (try simp only [decide_eq_true_eq, decide_eq_false_iff_not, Bool.not_eq_true', Bool.not_eq_false'] at hc0)
      refine c_skip ?_
      refine x_thenN ?_
      refine c_seq ?_
      refine c_block ?_
      refine c_seq ?_
      refine c_region ?_
      refine l_val s12 (y_fieldAddrB rfl Ty.fld25_0 Ty.size2 (ev_of rfl)) rfl rfl (l' := _) rfl ?_
      refine l_val s12 (y_load rfl Ty.some2 Ty.agg2 (ev_of rfl) (by repeat first | exact ent_cell rfl | assumption | refine Ent.there ?_)) rfl rfl (l' := [_,_,_,_,_,_,_,_,_,_,_,_,_,_,_,_,_,_,_,_,_,_,_,_,_,_,_,_,_,_,_,_,_,_,_,_,_,_,_,_]) rfl ?_
      refine l_val s12 (y_sub rfl (ev_of rfl) (ev_of rfl) (by omega) (by omega)) rfl rfl (l' := _) rfl ?_
      refine l_val s12 (y_as rfl (ev_of rfl)) rfl rfl (l' := [_,_,_,_,_,_,_,_,_,_,_,_,_,_,_,_,_,_,_,_,_,_,_,_,_,_,_,_,_,_,_,_,_,_,_,_,_,_,_,_]) rfl ?_
      refine l_end ?_
      refine x_thenN ?_
      refine c_block ?_
      have hm : (j + 1) * W ≤ H * W := Nat.mul_le_mul_right _ (by omega)
      rw [Nat.succ_mul, Nat.mul_comm H] at hm
      refine c_loop [false, false, false, false, false, true, false, false, false, false, false, false, false, false, false, false, false, false, false, false, true, true, true, true, true, true, true, true, true, true, true, true, true, true, true, true, true, true, true, false] (fun mu ds w => ∃ (i : Nat) (x : Int) (z : Value) (dd4 : List Value), ds = [(.int .i64 x), nthD dd4 0, nthD dd4 1, nthD dd4 2, nthD dd4 3, nthD dd4 4, nthD dd4 5, nthD dd4 6, nthD dd4 7, nthD dd4 8, nthD dd4 9, nthD dd4 10, nthD dd4 11, nthD dd4 12, nthD dd4 13, nthD dd4 14, nthD dd4 15, nthD dd4 16, nthD dd4 17, nthD dd4 18] ∧ mu = W - i ∧ SL e w (Blk b9 #[.int .i64 (W : Int), .int .i64 (H : Int), z] 25 :: Arr I64 2 z (genP W (j * W + i) (fun x y => at2 W v (W - 1 - x) y)) :: Blk b6 #[.int .i64 0, .int .i64 0, .slice none 0 0] 25 :: Blk b3 #[.int .i64 (W : Int), .int .i64 (H : Int), u] 25 :: L) ∧ (x = (W : Int) - 1 - i ∧ i ≤ W)) (ds := [_, _, _, _, _, _, _, _, _, _, _, _, _, _, _, _, _, _, _, _]) rfl ⟨0, _, z, [_, _, _, _, _, _, _, _, _, _, _, _, _, _, _, _, _, _, _], rfl, rfl, ?_, ?_⟩ ?_
      · first | exact s12 | exact s12.sub (by first | (repeat first | with_reducible exact Sub.refl _ | refine Sub.skip _ ?_); done | (repeat first | with_reducible exact Sub.refl _ | exact Sub.nil _ | refine Sub.take (by repeat first | with_reducible exact Take.here _ _ | apply Take.there) ?_ | refine Sub.skip _ ?_))
      · omega
      · clear s12
        rintro n18 ds19 w17 ⟨i, x, z, dd4, rfl, rfl, s16, hI⟩
        refine nlC (l' := [_,_,_,_,_,_,_,_,_,_,_,_,_,_,_,_,_,_,_,_,_,_,_,_,_,_,_,_,_,_,_,_,_,_,_,_,_,_,_,_]) rfl ?_
        refine c_seq ?_
        refine c_seq ?_
        refine c_region ?_
        refine l_val s16 (y_mv rfl (ev_of rfl)) rfl rfl (l' := [_,_,_,_,_,_,_,_,_,_,_,_,_,_,_,_,_,_,_,_,_,_,_,_,_,_,_,_,_,_,_,_,_,_,_,_,_,_,_,_]) rfl ?_
        refine l_val s16 (y_geq rfl (ev_of rfl) (ev_of rfl)) rfl rfl (l' := _) rfl ?_
        refine l_end ?_
        refine x_thenN ?_
        refine c_if rfl (fun hc1 => ?_) (fun hc1 => ?_)
        · (try simp only [decide_eq_true_eq, decide_eq_false_iff_not, Bool.not_eq_true', Bool.not_eq_false'] at hc1)
          refine c_skip ?_
          refine x_thenN ?_
          refine c_seq ?_
          refine c_block ?_
          have hcl := cell_lt (W := W) (H := H) (x := W - 1 - i) (y := j) (by omega) (by omega)
          have hmi : (j : Int) * (W : Int) = ((j * W : Nat) : Int) := (Int.natCast_mul _ _).symm
          apply c_drawn [] [0, 1, 2, 3, 4, 5, 6, 7, 8, 9, 10, 11, 12] [13, 14, 15] [] [_, _, _] [(_, vq _), (_, vq _), (_, vq _), (_, vq _), (_, vq _), (_, vq _), (_, vq _), (_, vq _), (_, vq _), (_, vq _), (_, vq _), (_, vq _), (_, vb _ _)] s16 Ty.follows (by kernel_rfl) (fun _ _ _ h => h.2) rfl rfl rfl (by decide) ?_
          show WP _ _ _ _ _
          refine p_end ?_
          refine d_val (y_fieldAddrB rfl Ty.fld25_2 Ty.size22 (ev_of rfl)) rfl rfl (l' := [_,_,_,_,_,_,_,_,_,_,_,_,_,_,_,_,_,_,_,_,_,_,_,_,_,_,_,_,_,_,_,_,_,_,_,_,_,_,_,_]) rfl ?_
          refine d_val (y_load rfl Ty.some22 Ty.agg22 (ev_of rfl) (by repeat first | exact ent_cell rfl | assumption | refine Ent.there ?_)) rfl rfl (l' := _) rfl ?_
          refine d_val (y_fieldAddrB rfl Ty.fld25_2 Ty.size22 (ev_of rfl)) rfl rfl (l' := [_,_,_,_,_,_,_,_,_,_,_,_,_,_,_,_,_,_,_,_,_,_,_,_,_,_,_,_,_,_,_,_,_,_,_,_,_,_,_,_]) rfl ?_
          refine d_val (y_load rfl Ty.some22 Ty.agg22 (ev_of rfl) (by repeat first | exact ent_cell rfl | assumption | refine Ent.there ?_)) rfl rfl (l' := _) rfl ?_
          refine d_val (y_mv rfl (ev_of rfl)) rfl rfl (l' := [_,_,_,_,_,_,_,_,_,_,_,_,_,_,_,_,_,_,_,_,_,_,_,_,_,_,_,_,_,_,_,_,_,_,_,_,_,_,_,_]) rfl ?_
          refine d_val (y_fieldAddrB rfl Ty.fld25_0 Ty.size2 (ev_of rfl)) rfl rfl (l' := _) rfl ?_
          refine d_val (y_load rfl Ty.some2 Ty.agg2 (ev_of rfl) (by repeat first | exact ent_cell rfl | assumption | refine Ent.there ?_)) rfl rfl (l' := [_,_,_,_,_,_,_,_,_,_,_,_,_,_,_,_,_,_,_,_,_,_,_,_,_,_,_,_,_,_,_,_,_,_,_,_,_,_,_,_]) rfl ?_
          refine d_val (y_mul rfl (ev_of rfl) (ev_of rfl) (by omega) (by omega)) rfl rfl (l' := _) rfl ?_
          refine d_val (y_mv rfl (ev_of rfl)) rfl rfl (l' := [_,_,_,_,_,_,_,_,_,_,_,_,_,_,_,_,_,_,_,_,_,_,_,_,_,_,_,_,_,_,_,_,_,_,_,_,_,_,_,_]) rfl ?_
          refine d_val (y_add rfl (ev_of rfl) (ev_of rfl) (by omega) (by omega)) rfl rfl (l' := _) rfl ?_
          refine d_val (y_idx (c := I64) (n := j * W + (W - 1 - i)) rfl Ty.elem22 Ty.size2 (ev_of rfl) (ev_of rfl) (by first | (repeat first | assumption | with_reducible exact ent_blk | with_reducible exact Ent.here arr_reads | with_reducible exact Ent.here one_I64 | with_reducible exact Ent.here one_Cell | refine Ent.there ?_); done | (repeat first | assumption | with_reducible exact ent_blk | exact Ent.here arr_reads | exact Ent.here one_I64 | exact Ent.here one_Cell | exact Ent.here one_Bool | exact Ent.here one_Rect | refine Ent.there ?_)) (by first | rfl | omega) (by omega)) rfl rfl (l' := [_,_,_,_,_,_,_,_,_,_,_,_,_,_,_,_,_,_,_,_,_,_,_,_,_,_,_,_,_,_,_,_,_,_,_,_,_,_,_,_]) rfl ?_
          refine d_val (y_ldI (n := j * W + (W - 1 - i)) rfl Ty.some2 Ty.agg2 (ev_of rfl) (by first | (repeat first | assumption | with_reducible exact ent_blk | with_reducible exact Ent.here arr_reads | with_reducible exact Ent.here one_I64 | with_reducible exact Ent.here one_Cell | refine Ent.there ?_); done | (repeat first | assumption | with_reducible exact ent_blk | exact Ent.here arr_reads | exact Ent.here one_I64 | exact Ent.here one_Cell | exact Ent.here one_Bool | exact Ent.here one_Rect | refine Ent.there ?_)) (by omega)) rfl rfl (l' := _) rfl ?_
          refine d_bs rfl rfl rfl Ty.elem22 Ty.size2 Ty.zero2 (zs := [_]) rfl (vs := [(0, _)]) rfl (ps := [(0, [_])]) rfl (by intro q hq; simp only [List.zip_cons_cons, List.zip_nil_right, List.zip_nil_left, List.mem_cons, List.not_mem_nil, or_false] at hq; rcases hq with rfl <;> exact ⟨rfl, rfl, by first | rfl | (simp only [cells_one (arr_one (by first | (repeat first | assumption | with_reducible exact ent_blk | with_reducible exact Ent.here arr_reads | with_reducible exact Ent.here one_I64 | with_reducible exact Ent.here one_Cell | refine Ent.there ?_); done | (repeat first | assumption | with_reducible exact ent_blk | exact Ent.here arr_reads | exact Ent.here one_I64 | exact Ent.here one_Cell | exact Ent.here one_Bool | exact Ent.here one_Rect | refine Ent.there ?_)) s16)]; first | done | rfl), by simp⟩) (cells := [_]) rfl (by decide) (fun b20 => ?_)
          refine nlD (l' := [_,_,_,_,_,_,_,_,_,_,_,_,_,_,_,_,_,_,_,_,_,_,_,_,_,_,_,_,_,_,_,_,_,_,_,_,_,_,_,_]) rfl ?_
          refine d_end (fun w22 s21 => ?_)
          clear s16
          simp only [List.append_nil, List.cons_append, List.nil_append] at s21
          refine l_append1 s21 (by repeat first | exact Take.here (Blk _ _ _) _ | apply Take.there) (by repeat first | with_reducible exact Take.here _ _ | apply Take.there) rfl rfl rfl Ty.elem22 Ty.size2 Ty.bytes2 Ty.zero2 rfl (ev_of rfl) (ev_of rfl) one_I64 (by rw [genP_length]; simp only [List.length_cons, List.length_nil]; omega) (by decide) (fun v25 w24 s23 => ?_)
          clear s21
          refine nlL (l' := _) rfl ?_
          refine l_val s23 (y_fieldAddrB rfl Ty.fld25_2 Ty.size22 (ev_of rfl)) rfl rfl (l' := [_,_,_,_,_,_,_,_,_,_,_,_,_,_,_,_,_,_,_,_,_,_,_,_,_,_,_,_,_,_,_,_,_,_,_,_,_,_,_,_]) rfl ?_
          refine l_store s23 rfl rfl rfl Ty.size22 (ev_of rfl) (ev_of rfl) (by first | rfl | exact arr_one (by first | (repeat first | assumption | with_reducible exact ent_blk | with_reducible exact Ent.here arr_reads | with_reducible exact Ent.here one_I64 | with_reducible exact Ent.here one_Cell | refine Ent.there ?_); done | (repeat first | assumption | with_reducible exact ent_blk | exact Ent.here arr_reads | exact Ent.here one_I64 | exact Ent.here one_Cell | exact Ent.here one_Bool | exact Ent.here one_Rect | refine Ent.there ?_)) s23) (by repeat first | exact Wr.blk (cells' := #[_, _, _]) (Nat.le_of_ble_eq_true rfl) rfl | apply Wr.there) (fun w27 s26 => ?_)
          clear s23
          refine l_end ?_
          refine x_blockN ?_
          refine x_thenN ?_
          refine c_region ?_
          refine l_val s26 (y_mv rfl (ev_of rfl)) rfl rfl (l' := _) rfl ?_
          refine l_val s26 (y_sub rfl (ev_of rfl) (ev_of rfl) (by omega) (by omega)) rfl rfl (l' := [_,_,_,_,_,_,_,_,_,_,_,_,_,_,_,_,_,_,_,_,_,_,_,_,_,_,_,_,_,_,_,_,_,_,_,_,_,_,_,_]) rfl ?_
          refine l_val s26 (y_as rfl (ev_of rfl)) rfl rfl (l' := _) rfl ?_
          refine l_end ?_
          refine x_thenN ?_
          change SL _ _ (Arr I64 2 _ (genP W (j * W + i) (fun x y => at2 W v (W - 1 - x) y) ++ [(fun x y => at2 W v (W - 1 - x) y) i j]) :: _) at s26
          rw [genP_step (f := (fun x y => at2 W v (W - 1 - x) y)) (by omega)] at s26
          refine ⟨_, [_, _, _, _, _, _, _, _, _, _, _, _, _, _, _, _, _, _, _, _], ?_, rfl, i + 1, _, v25, [_, _, _, _, _, _, _, _, _, _, _, _, _, _, _, _, _, _, _], rfl, rfl, ?_, ?_⟩
          · omega
          · first | exact s26 | exact s26.sub (by first | (repeat first | with_reducible exact Sub.refl _ | refine Sub.skip _ ?_); done | (repeat first | with_reducible exact Sub.refl _ | exact Sub.nil _ | refine Sub.take (by repeat first | with_reducible exact Take.here _ _ | apply Take.there) ?_ | refine Sub.skip _ ?_))
          · omega
        · (try simp only [decide_eq_true_eq, decide_eq_false_iff_not, Bool.not_eq_true', Bool.not_eq_false'] at hc1)
          refine c_exit ?_
          refine x_thenE ?_
          refine x_thenE ?_
          refine x_hit ?_
          refine x_blockN ?_
          refine x_thenN ?_
          refine c_region ?_
          refine l_val s16 (y_mv rfl (ev_of rfl)) rfl rfl (l' := [_,_,_,_,_,_,_,_,_,_,_,_,_,_,_,_,_,_,_,_,_,_,_,_,_,_,_,_,_,_,_,_,_,_,_,_,_,_,_,_]) rfl ?_
          refine l_val s16 (y_add rfl (ev_of rfl) (ev_of rfl) (by omega) (by omega)) rfl rfl (l' := _) rfl ?_
          refine l_val s16 (y_as rfl (ev_of rfl)) rfl rfl (l' := [_,_,_,_,_,_,_,_,_,_,_,_,_,_,_,_,_,_,_,_,_,_,_,_,_,_,_,_,_,_,_,_,_,_,_,_,_,_,_,_]) rfl ?_
          refine l_end ?_
          refine x_thenN ?_
          obtain rfl : i = W := by omega
          rw [genP_row] at s16
          refine ⟨_, [_, _, _, _, _, _, _, _, _, _, _, _, _, _, _, _, _, _, _, _, _, _, _, _, _, _, _, _, _, _], ?_, rfl, j + 1, z, [_, _, _, _, _, _, _, _, _, _, _, _, _, _, _, _, _, _, _, _, _, _, _, _, _, _, _, _, _], rfl, rfl, ?_, ?_⟩
          · omega
          · first | exact s16 | exact s16.sub (by first | (repeat first | with_reducible exact Sub.refl _ | refine Sub.skip _ ?_); done | (repeat first | with_reducible exact Sub.refl _ | exact Sub.nil _ | refine Sub.take (by repeat first | with_reducible exact Take.here _ _ | apply Take.there) ?_ | refine Sub.skip _ ?_))
          · omega
    · (try simp only [decide_eq_true_eq, decide_eq_false_iff_not, Bool.not_eq_true', Bool.not_eq_false'] at hc0)
      refine c_exit ?_
      refine x_thenE ?_
      refine x_thenE ?_
      refine x_hit ?_
      refine x_thenN ?_
      refine c_seq ?_
      refine c_region ?_
      refine l_val s12 (y_load_blk rfl Ty.some25 Ty.agg25 Ty.size25 (ev_of rfl) (by repeat first | exact ent_blk | refine Ent.there ?_) rfl) rfl rfl (l' := _) rfl ?_
      refine l_stA s12 (by repeat first | with_reducible exact Take.here _ _ | apply Take.there) rfl rfl rfl Ty.size25 (ev_of rfl) (ev_of rfl) rfl rfl (by first | (simp [Value.oneCell']; done) | (intro x hx; simp only [List.mem_toArray, List.mem_cons, List.not_mem_nil, or_false] at hx; rcases hx with rfl | rfl | rfl <;> first | rfl | assumption | exact arr_one (by first | (repeat first | assumption | with_reducible exact ent_blk | with_reducible exact Ent.here arr_reads | with_reducible exact Ent.here one_I64 | with_reducible exact Ent.here one_Cell | refine Ent.there ?_); done | (repeat first | assumption | with_reducible exact ent_blk | exact Ent.here arr_reads | exact Ent.here one_I64 | exact Ent.here one_Cell | exact Ent.here one_Bool | exact Ent.here one_Rect | refine Ent.there ?_)) s12)) (fun w29 s28 => ?_)
      clear s12
      refine l_end ?_
      refine x_thenN ?_
      refine c_ret ?_
      refine rc1 s28 rfl rfl Ty.some25 Ty.agg25 Ty.size25 (by repeat first | exact ent_blk | refine Ent.there ?_) rfl ?_
      have hjj : j = H := by omega
      rw [hjj] at s28
      exact ⟨z, rfl, (s28.sub (by first | (repeat first | with_reducible exact Sub.refl _ | refine Sub.skip _ ?_); done | (repeat first | with_reducible exact Sub.refl _ | exact Sub.nil _ | refine Sub.take (by repeat first | with_reducible exact Take.here _ _ | apply Take.there) ?_ | refine Sub.skip _ ?_)) : SL e w29 (Arr I64 2 z (genP W (H * W) (fun x y => at2 W v (W - 1 - x) y)) :: L))⟩
set_option maxHeartbeats 4000000 in
set_option maxRecDepth 100000 in
/-- hachure/hachureref42.Quarter -/
theorem refQuarter_c {e : Env} {L : List Asn} {w : World} {n : Nat} {W H : Nat} {u : Value} {v : List Int} (s : SL e w L) (hv : Ent L (SlR I64 u v)) (hw : 1 ≤ W ∧ W ≤ 1024) (hh : 1 ≤ H ∧ H ≤ 1024) (hl : v.length = W * H) (hn : n ≤ 3) :
    Calls Try.prog 61 #[.agg #[.int .i64 (W : Int), .int .i64 (H : Int), u], .int .i64 (n : Int)] w (Rets fun r w' => ∃ z, r = .agg #[.int .i64 (qW n W H : Int), .int .i64 (qH n W H : Int), z] ∧ ∃ a xs, Ent (Arr I64 2 a xs :: L) (SlR I64 z (qV n W H v)) ∧ SL e w' (Arr I64 2 a xs :: L)) := by
  have hbW : W * H ≤ 1024 * 1024 := Nat.mul_le_mul hw.2 hh.2
  refine enter Try.func61 rfl (l := [.agg #[.int .i64 (W : Int), .int .i64 (H : Int), u], .int .i64 (n : Int), undef, undef, undef, undef, undef, undef, undef, undef, undef, undef, undef, undef, undef, undef, undef, undef, undef, undef, undef, undef, undef, undef, undef, undef, undef, undef, undef, undef, undef, undef, undef, undef, undef, undef, undef, undef, undef, undef, undef, undef, undef, undef, undef, undef, undef, undef, undef]) rfl ?_
  refine c_seq ?_
  refine c_region ?_
  refine l_box s rfl rfl rfl (ev_of rfl) (fun b3 w2 s1 => ?_)
  change SL _ _ (Blk _ #[_, _, _] _ :: _) at s1
  clear s
  refine nlL (l' := [_,_,_,_,_,_,_,_,_,_,_,_,_,_,_,_,_,_,_,_,_,_,_,_,_,_,_,_,_,_,_,_,_,_,_,_,_,_,_,_,_,_,_,_,_,_,_,_,_]) rfl ?_
  refine l_alloc s1 rfl rfl rfl Ty.zero25 (fun b6 w5 s4 => ?_)
  change SL _ _ (Blk _ #[_, _, _] _ :: _) at s4
  clear s1
  refine nlL (l' := _) rfl ?_
  refine l_end ?_
  refine x_thenN ?_
  refine c_seq ?_
  refine c_seq ?_
  refine c_region ?_
  refine l_val s4 (y_as rfl (ev_of rfl)) rfl rfl (l' := [_,_,_,_,_,_,_,_,_,_,_,_,_,_,_,_,_,_,_,_,_,_,_,_,_,_,_,_,_,_,_,_,_,_,_,_,_,_,_,_,_,_,_,_,_,_,_,_,_]) rfl ?_
  refine l_end ?_
  refine x_thenN ?_
  refine c_block ?_
  replace s4 := s4.nilArr I64 2
  change SL _ _ (Arr I64 2 _ [] :: _ :: Blk b3 #[.int .i64 (qW 0 W H : Int), .int .i64 (qH 0 W H : Int), u] 25 :: _) at s4
  refine c_loop [false, false, false, false, false, true, true, true, true, true, true, true, true, true, true, true, true, true, true, true, true, true, true, true, true, true, true, true, true, true, true, true, true, true, true, true, true, true, true, true, true, true, true, true, true, true, true, true, false] (fun mu ds w => ∃ (k : Nat) (y a : Value) (xs : List Int) (dd5 : List Value), ds = [(.int .i64 (k : Int)), nthD dd5 0, nthD dd5 1, nthD dd5 2, nthD dd5 3, nthD dd5 4, nthD dd5 5, nthD dd5 6, nthD dd5 7, nthD dd5 8, nthD dd5 9, nthD dd5 10, nthD dd5 11, nthD dd5 12, nthD dd5 13, nthD dd5 14, nthD dd5 15, nthD dd5 16, nthD dd5 17, nthD dd5 18, nthD dd5 19, nthD dd5 20, nthD dd5 21, nthD dd5 22, nthD dd5 23, nthD dd5 24, nthD dd5 25, nthD dd5 26, nthD dd5 27, nthD dd5 28, nthD dd5 29, nthD dd5 30, nthD dd5 31, nthD dd5 32, nthD dd5 33, nthD dd5 34, nthD dd5 35, nthD dd5 36, nthD dd5 37, nthD dd5 38, nthD dd5 39, nthD dd5 40, nthD dd5 41] ∧ mu = n - k ∧ SL e w (Blk b3 #[.int .i64 (qW k W H : Int), .int .i64 (qH k W H : Int), y] 25 :: Blk b6 #[.int .i64 0, .int .i64 0, .slice none 0 0] 25 :: Arr I64 2 a xs :: L) ∧ (k ≤ n ∧ Ent (Arr I64 2 a xs :: L) (SlR I64 y (qV k W H v)))) (ds := [_, _, _, _, _, _, _, _, _, _, _, _, _, _, _, _, _, _, _, _, _, _, _, _, _, _, _, _, _, _, _, _, _, _, _, _, _, _, _, _, _, _, _]) rfl ⟨0, u, (.slice none 0 0), [], [_, _, _, _, _, _, _, _, _, _, _, _, _, _, _, _, _, _, _, _, _, _, _, _, _, _, _, _, _, _, _, _, _, _, _, _, _, _, _, _, _, _], rfl, rfl, ?_, ?_⟩ ?_
  · first | exact s4 | exact s4.sub (by first | (repeat first | with_reducible exact Sub.refl _ | refine Sub.skip _ ?_); done | (repeat first | with_reducible exact Sub.refl _ | exact Sub.nil _ | refine Sub.take (by repeat first | with_reducible exact Take.here _ _ | apply Take.there) ?_ | refine Sub.skip _ ?_))
  · exact ⟨by omega, Ent.there hv⟩
  · clear s4
    rintro n9 ds10 w8 ⟨k, y, a, xs, dd5, rfl, rfl, s7, hK⟩
    refine nlC (l' := [_,_,_,_,_,_,_,_,_,_,_,_,_,_,_,_,_,_,_,_,_,_,_,_,_,_,_,_,_,_,_,_,_,_,_,_,_,_,_,_,_,_,_,_,_,_,_,_,_]) rfl ?_
    refine c_seq ?_
    refine c_seq ?_
    refine c_region ?_
    refine l_val s7 (y_mv rfl (ev_of rfl)) rfl rfl (l' := [_,_,_,_,_,_,_,_,_,_,_,_,_,_,_,_,_,_,_,_,_,_,_,_,_,_,_,_,_,_,_,_,_,_,_,_,_,_,_,_,_,_,_,_,_,_,_,_,_]) rfl ?_
    refine l_val s7 (y_mv rfl (ev_of rfl)) rfl rfl (l' := _) rfl ?_
    refine l_val s7 (y_lss rfl (ev_of rfl) (ev_of rfl)) rfl rfl (l' := [_,_,_,_,_,_,_,_,_,_,_,_,_,_,_,_,_,_,_,_,_,_,_,_,_,_,_,_,_,_,_,_,_,_,_,_,_,_,_,_,_,_,_,_,_,_,_,_,_]) rfl ?_
    refine l_end ?_
    refine x_thenN ?_
    refine c_if rfl (fun hc0 => ?_) (fun hc0 => ?_)
    · (try simp only [decide_eq_true_eq, decide_eq_false_iff_not, Bool.not_eq_true', Bool.not_eq_false'] at hc0)
      refine c_skip ?_
      refine x_thenN ?_
      refine c_seq ?_
      refine c_block ?_
      refine c_seq ?_
      refine c_region ?_
      have hk3 : k < 3 := by omega
      obtain ⟨e1, e2, e3⟩ := qV_succ (W := W) (H := H) (vs := v) hk3
      have hql := qV_length (k := k) hl
      have hqb : 1 ≤ qW k W H ∧ qW k W H ≤ 1024 ∧ 1 ≤ qH k W H ∧ qH k W H ≤ 1024 := by unfold qW qH; split <;> omega
      have hqm : qW k W H * qH k W H ≤ 1024 * 1024 := Nat.mul_le_mul hqb.2.1 hqb.2.2.2
      have hA := hK.2
      refine l_val s7 (y_fieldAddrB rfl Ty.fld25_1 Ty.size2 (ev_of rfl)) rfl rfl (l' := _) rfl ?_
      refine l_val s7 (y_load rfl Ty.some2 Ty.agg2 (ev_of rfl) (by repeat first | exact ent_cell rfl | assumption | refine Ent.there ?_)) rfl rfl (l' := [_,_,_,_,_,_,_,_,_,_,_,_,_,_,_,_,_,_,_,_,_,_,_,_,_,_,_,_,_,_,_,_,_,_,_,_,_,_,_,_,_,_,_,_,_,_,_,_,_]) rfl ?_
      refine l_val s7 (y_fieldAddrB rfl Ty.fld25_0 Ty.size2 (ev_of rfl)) rfl rfl (l' := _) rfl ?_
      refine l_val s7 (y_load rfl Ty.some2 Ty.agg2 (ev_of rfl) (by repeat first | exact ent_cell rfl | assumption | refine Ent.there ?_)) rfl rfl (l' := [_,_,_,_,_,_,_,_,_,_,_,_,_,_,_,_,_,_,_,_,_,_,_,_,_,_,_,_,_,_,_,_,_,_,_,_,_,_,_,_,_,_,_,_,_,_,_,_,_]) rfl ?_
      refine l_val s7 (y_bld (zs := [_, _, _]) (vs := [(0, _), (1, _)]) (ps := [(0, [_]), (1, [_])]) (v := .agg #[_, _, _]) rfl Ty.zero25 rfl (fs_of Ty.fs25) rfl rfl (by intro q hq; simp only [List.zip_cons_cons, List.zip_nil_right, List.zip_nil_left, List.mem_cons, List.not_mem_nil, or_false] at hq; rcases hq with rfl | rfl <;> exact ⟨by kernel_rfl, by first | rfl | (simp only [cells_one (arr_one (by first | (repeat first | assumption | with_reducible exact ent_blk | with_reducible exact Ent.here arr_reads | with_reducible exact Ent.here one_I64 | with_reducible exact Ent.here one_Cell | refine Ent.there ?_); done | (repeat first | assumption | with_reducible exact ent_blk | exact Ent.here arr_reads | exact Ent.here one_I64 | exact Ent.here one_Cell | exact Ent.here one_Bool | exact Ent.here one_Rect | refine Ent.there ?_)) s7)]; first | done | rfl), by simp⟩) rfl ⟨_, rfl⟩) rfl rfl (l' := _) rfl ?_
      refine l_alloc s7 rfl rfl rfl Ty.zero25 (fun b13 w12 s11 => ?_)
      change SL _ _ (Blk _ #[_, _, _] _ :: _) at s11
      clear s7
      refine nlL (l' := [_,_,_,_,_,_,_,_,_,_,_,_,_,_,_,_,_,_,_,_,_,_,_,_,_,_,_,_,_,_,_,_,_,_,_,_,_,_,_,_,_,_,_,_,_,_,_,_,_]) rfl ?_
      refine l_stA s11 (by repeat first | with_reducible exact Take.here _ _ | apply Take.there) rfl rfl rfl Ty.size25 (ev_of rfl) (ev_of rfl) rfl rfl (by first | (simp [Value.oneCell']; done) | (intro x hx; simp only [List.mem_toArray, List.mem_cons, List.not_mem_nil, or_false] at hx; rcases hx with rfl | rfl | rfl <;> first | rfl | assumption | exact arr_one (by first | (repeat first | assumption | with_reducible exact ent_blk | with_reducible exact Ent.here arr_reads | with_reducible exact Ent.here one_I64 | with_reducible exact Ent.here one_Cell | refine Ent.there ?_); done | (repeat first | assumption | with_reducible exact ent_blk | exact Ent.here arr_reads | exact Ent.here one_I64 | exact Ent.here one_Cell | exact Ent.here one_Bool | exact Ent.here one_Rect | refine Ent.there ?_)) s11)) (fun w15 s14 => ?_)
      clear s11
      refine l_end ?_
      refine x_thenN ?_
      refine c_seq ?_
      refine c_seq ?_
      refine c_region ?_
      refine l_val s14 (y_as rfl (ev_of rfl)) rfl rfl (l' := _) rfl ?_
      refine l_end ?_
      refine x_thenN ?_
      refine c_block ?_
      replace s14 := s14.nilArr I64 2
      change SL _ _ (Arr I64 2 _ (genP (qH k W H) 0 (fun x y => at2 (qW k W H) (qV k W H v) y (qH k W H - 1 - x))) :: _) at s14
      rw [gen_z (qH k W H) (fun x y => at2 (qW k W H) (qV k W H v) y (qH k W H - 1 - x)) (qH k W H)] at s14
      refine c_loop [false, false, false, false, false, false, false, true, true, false, false, false, false, false, false, false, false, false, false, true, true, true, true, true, true, true, true, true, true, true, true, true, true, true, true, true, true, true, true, true, true, true, true, true, true, true, true, false, false] (fun mu ds w => ∃ (j : Nat) (z : Value) (dd6 : List Value), ds = [(.int .i64 (j : Int)), nthD dd6 0, nthD dd6 1, nthD dd6 2, nthD dd6 3, nthD dd6 4, nthD dd6 5, nthD dd6 6, nthD dd6 7, nthD dd6 8, nthD dd6 9, nthD dd6 10, nthD dd6 11, nthD dd6 12, nthD dd6 13, nthD dd6 14, nthD dd6 15, nthD dd6 16, nthD dd6 17, nthD dd6 18, nthD dd6 19, nthD dd6 20, nthD dd6 21, nthD dd6 22, nthD dd6 23, nthD dd6 24, nthD dd6 25, nthD dd6 26, nthD dd6 27, nthD dd6 28] ∧ mu = qW k W H - j ∧ SL e w (Blk b13 #[.int .i64 (qH k W H : Int), .int .i64 (qW k W H : Int), z] 25 :: Arr I64 2 z (genP (qH k W H) (j * qH k W H) (fun x y => at2 (qW k W H) (qV k W H v) y (qH k W H - 1 - x))) :: Blk b3 #[.int .i64 (qW k W H : Int), .int .i64 (qH k W H : Int), y] 25 :: Blk b6 #[.int .i64 0, .int .i64 0, .slice none 0 0] 25 :: Arr I64 2 a xs :: L) ∧ (j ≤ qW k W H)) (ds := [_, _, _, _, _, _, _, _, _, _, _, _, _, _, _, _, _, _, _, _, _, _, _, _, _, _, _, _, _, _]) rfl ⟨0, (.slice none 0 0), [_, _, _, _, _, _, _, _, _, _, _, _, _, _, _, _, _, _, _, _, _, _, _, _, _, _, _, _, _], rfl, rfl, ?_, ?_⟩ ?_
      · first | exact s14 | exact s14.sub (by first | (repeat first | with_reducible exact Sub.refl _ | refine Sub.skip _ ?_); done | (repeat first | with_reducible exact Sub.refl _ | exact Sub.nil _ | refine Sub.take (by repeat first | with_reducible exact Take.here _ _ | apply Take.there) ?_ | refine Sub.skip _ ?_))
      · omega
      · clear s14
        rintro n18 ds19 w17 ⟨j, z, dd6, rfl, rfl, s16, hJ⟩
        refine nlC (l' := [_,_,_,_,_,_,_,_,_,_,_,_,_,_,_,_,_,_,_,_,_,_,_,_,_,_,_,_,_,_,_,_,_,_,_,_,_,_,_,_,_,_,_,_,_,_,_,_,_]) rfl ?_
        refine c_seq ?_
        refine c_seq ?_
        refine c_region ?_
        refine l_val s16 (y_mv rfl (ev_of rfl)) rfl rfl (l' := _) rfl ?_
        refine l_val s16 (y_fieldAddrB rfl Ty.fld25_0 Ty.size2 (ev_of rfl)) rfl rfl (l' := [_,_,_,_,_,_,_,_,_,_,_,_,_,_,_,_,_,_,_,_,_,_,_,_,_,_,_,_,_,_,_,_,_,_,_,_,_,_,_,_,_,_,_,_,_,_,_,_,_]) rfl ?_
        refine l_val s16 (y_load rfl Ty.some2 Ty.agg2 (ev_of rfl) (by repeat first | exact ent_cell rfl | assumption | refine Ent.there ?_)) rfl rfl (l' := _) rfl ?_
        refine l_val s16 (y_lss rfl (ev_of rfl) (ev_of rfl)) rfl rfl (l' := [_,_,_,_,_,_,_,_,_,_,_,_,_,_,_,_,_,_,_,_,_,_,_,_,_,_,_,_,_,_,_,_,_,_,_,_,_,_,_,_,_,_,_,_,_,_,_,_,_]) rfl ?_
        refine l_end ?_
        refine x_thenN ?_
        refine c_if rfl (fun hc1 => ?_) (fun hc1 => ?_)
        · (try simp only [decide_eq_true_eq, decide_eq_false_iff_not, Bool.not_eq_true', Bool.not_eq_false'] at hc1)
          refine c_skip ?_
          refine x_thenN ?_
          refine c_seq ?_
          refine c_block ?_
          refine c_seq ?_
          refine c_region ?_
          refine l_val s16 (y_fieldAddrB rfl Ty.fld25_1 Ty.size2 (ev_of rfl)) rfl rfl (l' := _) rfl ?_
          refine l_val s16 (y_load rfl Ty.some2 Ty.agg2 (ev_of rfl) (by repeat first | exact ent_cell rfl | assumption | refine Ent.there ?_)) rfl rfl (l' := [_,_,_,_,_,_,_,_,_,_,_,_,_,_,_,_,_,_,_,_,_,_,_,_,_,_,_,_,_,_,_,_,_,_,_,_,_,_,_,_,_,_,_,_,_,_,_,_,_]) rfl ?_
          refine l_val s16 (y_sub rfl (ev_of rfl) (ev_of rfl) (by omega) (by omega)) rfl rfl (l' := _) rfl ?_
          refine l_val s16 (y_as rfl (ev_of rfl)) rfl rfl (l' := [_,_,_,_,_,_,_,_,_,_,_,_,_,_,_,_,_,_,_,_,_,_,_,_,_,_,_,_,_,_,_,_,_,_,_,_,_,_,_,_,_,_,_,_,_,_,_,_,_]) rfl ?_
          refine l_end ?_
          refine x_thenN ?_
          refine c_block ?_
          have hm : (j + 1) * qH k W H ≤ qW k W H * qH k W H := Nat.mul_le_mul_right _ (by omega)
          rw [Nat.succ_mul] at hm
          refine c_loop [false, false, false, false, false, false, false, false, true, false, false, false, false, false, false, false, false, false, false, false, false, false, false, false, false, false, false, false, true, true, true, true, true, true, true, true, true, true, true, true, true, true, true, true, true, true, true, false, false] (fun mu ds w => ∃ (i : Nat) (x : Int) (z : Value) (dd7 : List Value), ds = [(.int .i64 x), nthD dd7 0, nthD dd7 1, nthD dd7 2, nthD dd7 3, nthD dd7 4, nthD dd7 5, nthD dd7 6, nthD dd7 7, nthD dd7 8, nthD dd7 9, nthD dd7 10, nthD dd7 11, nthD dd7 12, nthD dd7 13, nthD dd7 14, nthD dd7 15, nthD dd7 16, nthD dd7 17, nthD dd7 18] ∧ mu = qH k W H - i ∧ SL e w (Blk b13 #[.int .i64 (qH k W H : Int), .int .i64 (qW k W H : Int), z] 25 :: Arr I64 2 z (genP (qH k W H) (j * qH k W H + i) (fun x y => at2 (qW k W H) (qV k W H v) y (qH k W H - 1 - x))) :: Blk b3 #[.int .i64 (qW k W H : Int), .int .i64 (qH k W H : Int), y] 25 :: Blk b6 #[.int .i64 0, .int .i64 0, .slice none 0 0] 25 :: Arr I64 2 a xs :: L) ∧ (x = (qH k W H : Int) - 1 - i ∧ i ≤ qH k W H)) (ds := [_, _, _, _, _, _, _, _, _, _, _, _, _, _, _, _, _, _, _, _]) rfl ⟨0, _, z, [_, _, _, _, _, _, _, _, _, _, _, _, _, _, _, _, _, _, _], rfl, rfl, ?_, ?_⟩ ?_
          · first | exact s16 | exact s16.sub (by first | (repeat first | with_reducible exact Sub.refl _ | refine Sub.skip _ ?_); done | (repeat first | with_reducible exact Sub.refl _ | exact Sub.nil _ | refine Sub.take (by repeat first | with_reducible exact Take.here _ _ | apply Take.there) ?_ | refine Sub.skip _ ?_))
          · omega
          · clear s16
            rintro n22 ds23 w21 ⟨i, x, z, dd7, rfl, rfl, s20, hI⟩
            refine nlC (l' := [_,_,_,_,_,_,_,_,_,_,_,_,_,_,_,_,_,_,_,_,_,_,_,_,_,_,_,_,_,_,_,_,_,_,_,_,_,_,_,_,_,_,_,_,_,_,_,_,_]) rfl ?_
            refine c_seq ?_
            refine c_seq ?_
            refine c_region ?_
            refine l_val s20 (y_mv rfl (ev_of rfl)) rfl rfl (l' := [_,_,_,_,_,_,_,_,_,_,_,_,_,_,_,_,_,_,_,_,_,_,_,_,_,_,_,_,_,_,_,_,_,_,_,_,_,_,_,_,_,_,_,_,_,_,_,_,_]) rfl ?_
            refine l_val s20 (y_geq rfl (ev_of rfl) (ev_of rfl)) rfl rfl (l' := _) rfl ?_
            refine l_end ?_
            refine x_thenN ?_
            refine c_if rfl (fun hc2 => ?_) (fun hc2 => ?_)
            · (try simp only [decide_eq_true_eq, decide_eq_false_iff_not, Bool.not_eq_true', Bool.not_eq_false'] at hc2)
              refine c_skip ?_
              refine x_thenN ?_
              refine c_seq ?_
              refine c_block ?_
              have hcl := cell_lt (W := qW k W H) (H := qH k W H) (x := j) (y := qH k W H - 1 - i) (by omega) (by omega)
              have hmi : ((qH k W H - 1 - i : Nat) : Int) * (qW k W H : Int) = (((qH k W H - 1 - i) * qW k W H : Nat) : Int) := (Int.natCast_mul _ _).symm
              obtain rfl : x = ((qH k W H - 1 - i : Nat) : Int) := by omega
              apply c_drawn [] [0, 1, 2, 3, 4, 5, 6, 7, 8, 9, 10, 11, 12] [13, 14, 15] [] [_, _, _] [(_, vq _), (_, vq _), (_, vq _), (_, vq _), (_, vq _), (_, vq _), (_, vq _), (_, vq _), (_, vq _), (_, vq _), (_, vq _), (_, vq _), (_, vb _ _)] s20 Ty.follows (by kernel_rfl) (fun _ _ _ h => h.2) rfl rfl rfl (by decide) ?_
              show WP _ _ _ _ _
              refine p_end ?_
              refine d_val (y_fieldAddrB rfl Ty.fld25_2 Ty.size22 (ev_of rfl)) rfl rfl (l' := [_,_,_,_,_,_,_,_,_,_,_,_,_,_,_,_,_,_,_,_,_,_,_,_,_,_,_,_,_,_,_,_,_,_,_,_,_,_,_,_,_,_,_,_,_,_,_,_,_]) rfl ?_
              refine d_val (y_load rfl Ty.some22 Ty.agg22 (ev_of rfl) (by repeat first | exact ent_cell rfl | assumption | refine Ent.there ?_)) rfl rfl (l' := _) rfl ?_
              refine d_val (y_fieldAddrB rfl Ty.fld25_2 Ty.size22 (ev_of rfl)) rfl rfl (l' := [_,_,_,_,_,_,_,_,_,_,_,_,_,_,_,_,_,_,_,_,_,_,_,_,_,_,_,_,_,_,_,_,_,_,_,_,_,_,_,_,_,_,_,_,_,_,_,_,_]) rfl ?_
              refine d_val (y_load rfl Ty.some22 Ty.agg22 (ev_of rfl) (by repeat first | exact ent_cell rfl | assumption | refine Ent.there ?_)) rfl rfl (l' := _) rfl ?_
              refine d_val (y_mv rfl (ev_of rfl)) rfl rfl (l' := [_,_,_,_,_,_,_,_,_,_,_,_,_,_,_,_,_,_,_,_,_,_,_,_,_,_,_,_,_,_,_,_,_,_,_,_,_,_,_,_,_,_,_,_,_,_,_,_,_]) rfl ?_
              refine d_val (y_fieldAddrB rfl Ty.fld25_0 Ty.size2 (ev_of rfl)) rfl rfl (l' := _) rfl ?_
              refine d_val (y_load rfl Ty.some2 Ty.agg2 (ev_of rfl) (by repeat first | exact ent_cell rfl | assumption | refine Ent.there ?_)) rfl rfl (l' := [_,_,_,_,_,_,_,_,_,_,_,_,_,_,_,_,_,_,_,_,_,_,_,_,_,_,_,_,_,_,_,_,_,_,_,_,_,_,_,_,_,_,_,_,_,_,_,_,_]) rfl ?_
              refine d_val (y_mul rfl (ev_of rfl) (ev_of rfl) (by omega) (by omega)) rfl rfl (l' := _) rfl ?_
              refine d_val (y_mv rfl (ev_of rfl)) rfl rfl (l' := [_,_,_,_,_,_,_,_,_,_,_,_,_,_,_,_,_,_,_,_,_,_,_,_,_,_,_,_,_,_,_,_,_,_,_,_,_,_,_,_,_,_,_,_,_,_,_,_,_]) rfl ?_
              refine d_val (y_add rfl (ev_of rfl) (ev_of rfl) (by omega) (by omega)) rfl rfl (l' := _) rfl ?_
              refine d_val (y_idx (c := I64) (n := (qH k W H - 1 - i) * qW k W H + j) rfl Ty.elem22 Ty.size2 (ev_of rfl) (ev_of rfl) (by first | (repeat first | assumption | with_reducible exact ent_blk | with_reducible exact Ent.here arr_reads | with_reducible exact Ent.here one_I64 | with_reducible exact Ent.here one_Cell | refine Ent.there ?_); done | (repeat first | assumption | with_reducible exact ent_blk | exact Ent.here arr_reads | exact Ent.here one_I64 | exact Ent.here one_Cell | exact Ent.here one_Bool | exact Ent.here one_Rect | refine Ent.there ?_)) (by first | rfl | omega) (by omega)) rfl rfl (l' := [_,_,_,_,_,_,_,_,_,_,_,_,_,_,_,_,_,_,_,_,_,_,_,_,_,_,_,_,_,_,_,_,_,_,_,_,_,_,_,_,_,_,_,_,_,_,_,_,_]) rfl ?_
              refine d_val (y_ldI (n := (qH k W H - 1 - i) * qW k W H + j) rfl Ty.some2 Ty.agg2 (ev_of rfl) (by first | (repeat first | assumption | with_reducible exact ent_blk | with_reducible exact Ent.here arr_reads | with_reducible exact Ent.here one_I64 | with_reducible exact Ent.here one_Cell | refine Ent.there ?_); done | (repeat first | assumption | with_reducible exact ent_blk | exact Ent.here arr_reads | exact Ent.here one_I64 | exact Ent.here one_Cell | exact Ent.here one_Bool | exact Ent.here one_Rect | refine Ent.there ?_)) (by omega)) rfl rfl (l' := _) rfl ?_
              refine d_bs rfl rfl rfl Ty.elem22 Ty.size2 Ty.zero2 (zs := [_]) rfl (vs := [(0, _)]) rfl (ps := [(0, [_])]) rfl (by intro q hq; simp only [List.zip_cons_cons, List.zip_nil_right, List.zip_nil_left, List.mem_cons, List.not_mem_nil, or_false] at hq; rcases hq with rfl <;> exact ⟨rfl, rfl, by first | rfl | (simp only [cells_one (arr_one (by first | (repeat first | assumption | with_reducible exact ent_blk | with_reducible exact Ent.here arr_reads | with_reducible exact Ent.here one_I64 | with_reducible exact Ent.here one_Cell | refine Ent.there ?_); done | (repeat first | assumption | with_reducible exact ent_blk | exact Ent.here arr_reads | exact Ent.here one_I64 | exact Ent.here one_Cell | exact Ent.here one_Bool | exact Ent.here one_Rect | refine Ent.there ?_)) s20)]; first | done | rfl), by simp⟩) (cells := [_]) rfl (by decide) (fun b24 => ?_)
              refine nlD (l' := [_,_,_,_,_,_,_,_,_,_,_,_,_,_,_,_,_,_,_,_,_,_,_,_,_,_,_,_,_,_,_,_,_,_,_,_,_,_,_,_,_,_,_,_,_,_,_,_,_]) rfl ?_
              refine d_end (fun w26 s25 => ?_)
              clear s20
              simp only [List.append_nil, List.cons_append, List.nil_append] at s25
              refine l_append1 s25 (by repeat first | exact Take.here (Blk _ _ _) _ | apply Take.there) (by repeat first | with_reducible exact Take.here _ _ | apply Take.there) rfl rfl rfl Ty.elem22 Ty.size2 Ty.bytes2 Ty.zero2 rfl (ev_of rfl) (ev_of rfl) one_I64 (by rw [genP_length]; simp only [List.length_cons, List.length_nil]; omega) (by decide) (fun v29 w28 s27 => ?_)
              clear s25
              refine nlL (l' := _) rfl ?_
              refine l_val s27 (y_fieldAddrB rfl Ty.fld25_2 Ty.size22 (ev_of rfl)) rfl rfl (l' := [_,_,_,_,_,_,_,_,_,_,_,_,_,_,_,_,_,_,_,_,_,_,_,_,_,_,_,_,_,_,_,_,_,_,_,_,_,_,_,_,_,_,_,_,_,_,_,_,_]) rfl ?_
              refine l_store s27 rfl rfl rfl Ty.size22 (ev_of rfl) (ev_of rfl) (by first | rfl | exact arr_one (by first | (repeat first | assumption | with_reducible exact ent_blk | with_reducible exact Ent.here arr_reads | with_reducible exact Ent.here one_I64 | with_reducible exact Ent.here one_Cell | refine Ent.there ?_); done | (repeat first | assumption | with_reducible exact ent_blk | exact Ent.here arr_reads | exact Ent.here one_I64 | exact Ent.here one_Cell | exact Ent.here one_Bool | exact Ent.here one_Rect | refine Ent.there ?_)) s27) (by repeat first | exact Wr.blk (cells' := #[_, _, _]) (Nat.le_of_ble_eq_true rfl) rfl | apply Wr.there) (fun w31 s30 => ?_)
              clear s27
              refine l_end ?_
              refine x_blockN ?_
              refine x_thenN ?_
              refine c_region ?_
              refine l_val s30 (y_mv rfl (ev_of rfl)) rfl rfl (l' := _) rfl ?_
              refine l_val s30 (y_sub rfl (ev_of rfl) (ev_of rfl) (by omega) (by omega)) rfl rfl (l' := [_,_,_,_,_,_,_,_,_,_,_,_,_,_,_,_,_,_,_,_,_,_,_,_,_,_,_,_,_,_,_,_,_,_,_,_,_,_,_,_,_,_,_,_,_,_,_,_,_]) rfl ?_
              refine l_val s30 (y_as rfl (ev_of rfl)) rfl rfl (l' := _) rfl ?_
              refine l_end ?_
              refine x_thenN ?_
              change SL _ _ (Arr I64 2 _ (genP (qH k W H) (j * qH k W H + i) (fun x y => at2 (qW k W H) (qV k W H v) y (qH k W H - 1 - x)) ++ [(fun x y => at2 (qW k W H) (qV k W H v) y (qH k W H - 1 - x)) i j]) :: _) at s30
              rw [genP_step (f := (fun x y => at2 (qW k W H) (qV k W H v) y (qH k W H - 1 - x))) (by omega)] at s30
              refine ⟨_, [_, _, _, _, _, _, _, _, _, _, _, _, _, _, _, _, _, _, _, _], ?_, rfl, i + 1, _, v29, [_, _, _, _, _, _, _, _, _, _, _, _, _, _, _, _, _, _, _], rfl, rfl, ?_, ?_⟩
              · omega
              · first | exact s30 | exact s30.sub (by first | (repeat first | with_reducible exact Sub.refl _ | refine Sub.skip _ ?_); done | (repeat first | with_reducible exact Sub.refl _ | exact Sub.nil _ | refine Sub.take (by repeat first | with_reducible exact Take.here _ _ | apply Take.there) ?_ | refine Sub.skip _ ?_))
              · omega
            · (try simp only [decide_eq_true_eq, decide_eq_false_iff_not, Bool.not_eq_true', Bool.not_eq_false'] at hc2)
              refine c_exit ?_
              refine x_thenE ?_
              refine x_thenE ?_
              refine x_hit ?_
              refine x_blockN ?_
              refine x_thenN ?_
              refine c_region ?_
              refine l_val s20 (y_mv rfl (ev_of rfl)) rfl rfl (l' := [_,_,_,_,_,_,_,_,_,_,_,_,_,_,_,_,_,_,_,_,_,_,_,_,_,_,_,_,_,_,_,_,_,_,_,_,_,_,_,_,_,_,_,_,_,_,_,_,_]) rfl ?_
              refine l_val s20 (y_add rfl (ev_of rfl) (ev_of rfl) (by omega) (by omega)) rfl rfl (l' := _) rfl ?_
              refine l_val s20 (y_as rfl (ev_of rfl)) rfl rfl (l' := [_,_,_,_,_,_,_,_,_,_,_,_,_,_,_,_,_,_,_,_,_,_,_,_,_,_,_,_,_,_,_,_,_,_,_,_,_,_,_,_,_,_,_,_,_,_,_,_,_]) rfl ?_
              refine l_end ?_
              refine x_thenN ?_
              have hii : i = qH k W H := by omega
              rw [hii, genP_row] at s20
              refine ⟨_, [_, _, _, _, _, _, _, _, _, _, _, _, _, _, _, _, _, _, _, _, _, _, _, _, _, _, _, _, _, _], ?_, rfl, j + 1, z, [_, _, _, _, _, _, _, _, _, _, _, _, _, _, _, _, _, _, _, _, _, _, _, _, _, _, _, _, _], rfl, rfl, ?_, ?_⟩
              · omega
              · first | exact s20 | exact s20.sub (by first | (repeat first | with_reducible exact Sub.refl _ | refine Sub.skip _ ?_); done | (repeat first | with_reducible exact Sub.refl _ | exact Sub.nil _ | refine Sub.take (by repeat first | with_reducible exact Take.here _ _ | apply Take.there) ?_ | refine Sub.skip _ ?_))
              · omega
        · (try simp only [decide_eq_true_eq, decide_eq_false_iff_not, Bool.not_eq_true', Bool.not_eq_false'] at hc1)
          refine c_exit ?_
          refine x_thenE ?_
          refine x_thenE ?_
          refine x_hit ?_
          refine x_thenN ?_
          refine c_region ?_
          refine l_val s16 (y_load_blk rfl Ty.some25 Ty.agg25 Ty.size25 (ev_of rfl) (by repeat first | exact ent_blk | refine Ent.there ?_) rfl) rfl rfl (l' := _) rfl ?_
          refine l_stA s16 (by repeat first | with_reducible exact Take.here _ _ | apply Take.there) rfl rfl rfl Ty.size25 (ev_of rfl) (ev_of rfl) rfl rfl (by first | (simp [Value.oneCell']; done) | (intro x hx; simp only [List.mem_toArray, List.mem_cons, List.not_mem_nil, or_false] at hx; rcases hx with rfl | rfl | rfl <;> first | rfl | assumption | exact arr_one (by first | (repeat first | assumption | with_reducible exact ent_blk | with_reducible exact Ent.here arr_reads | with_reducible exact Ent.here one_I64 | with_reducible exact Ent.here one_Cell | refine Ent.there ?_); done | (repeat first | assumption | with_reducible exact ent_blk | exact Ent.here arr_reads | exact Ent.here one_I64 | exact Ent.here one_Cell | exact Ent.here one_Bool | exact Ent.here one_Rect | refine Ent.there ?_)) s16)) (fun w33 s32 => ?_)
          clear s16
          refine l_end ?_
          refine x_blockN ?_
          refine x_thenN ?_
          refine c_region ?_
          refine l_val s32 (y_mv rfl (ev_of rfl)) rfl rfl (l' := [_,_,_,_,_,_,_,_,_,_,_,_,_,_,_,_,_,_,_,_,_,_,_,_,_,_,_,_,_,_,_,_,_,_,_,_,_,_,_,_,_,_,_,_,_,_,_,_,_]) rfl ?_
          refine l_val s32 (y_add rfl (ev_of rfl) (ev_of rfl) (by omega) (by omega)) rfl rfl (l' := _) rfl ?_
          refine l_val s32 (y_as rfl (ev_of rfl)) rfl rfl (l' := [_,_,_,_,_,_,_,_,_,_,_,_,_,_,_,_,_,_,_,_,_,_,_,_,_,_,_,_,_,_,_,_,_,_,_,_,_,_,_,_,_,_,_,_,_,_,_,_,_]) rfl ?_
          refine l_end ?_
          refine x_thenN ?_
          have hjj : j = qW k W H := by omega
          rw [hjj] at s32
          change SL _ _ (_ :: _ :: Arr I64 2 z (q1V (qW k W H) (qH k W H) (qV k W H v)) :: _) at s32
          rw [e1, ← e2, ← e3] at s32
          refine ⟨_, [_, _, _, _, _, _, _, _, _, _, _, _, _, _, _, _, _, _, _, _, _, _, _, _, _, _, _, _, _, _, _, _, _, _, _, _, _, _, _, _, _, _, _], ?_, rfl, k + 1, z, z, (qV (k + 1) W H v), [_, _, _, _, _, _, _, _, _, _, _, _, _, _, _, _, _, _, _, _, _, _, _, _, _, _, _, _, _, _, _, _, _, _, _, _, _, _, _, _, _, _], rfl, rfl, ?_, ?_⟩
          · omega
          · first | exact s32 | exact s32.sub (by first | (repeat first | with_reducible exact Sub.refl _ | refine Sub.skip _ ?_); done | (repeat first | with_reducible exact Sub.refl _ | exact Sub.nil _ | refine Sub.take (by repeat first | with_reducible exact Take.here _ _ | apply Take.there) ?_ | refine Sub.skip _ ?_))
          · exact ⟨by omega, Ent.here arr_reads⟩
    · (try simp only [decide_eq_true_eq, decide_eq_false_iff_not, Bool.not_eq_true', Bool.not_eq_false'] at hc0)
      refine c_exit ?_
      refine x_thenE ?_
      refine x_thenE ?_
      refine x_hit ?_
      refine x_thenN ?_
      refine c_seq ?_
      refine c_region ?_
      have hA2 := hK.2
      refine l_val s7 (y_load_blk rfl Ty.some25 Ty.agg25 Ty.size25 (ev_of rfl) (by repeat first | exact ent_blk | refine Ent.there ?_) rfl) rfl rfl (l' := _) rfl ?_
      refine l_stA s7 (by repeat first | with_reducible exact Take.here _ _ | apply Take.there) rfl rfl rfl Ty.size25 (ev_of rfl) (ev_of rfl) rfl rfl (by first | (simp [Value.oneCell']; done) | (intro x hx; simp only [List.mem_toArray, List.mem_cons, List.not_mem_nil, or_false] at hx; rcases hx with rfl | rfl | rfl <;> first | rfl | assumption | exact arr_one (by first | (repeat first | assumption | with_reducible exact ent_blk | with_reducible exact Ent.here arr_reads | with_reducible exact Ent.here one_I64 | with_reducible exact Ent.here one_Cell | refine Ent.there ?_); done | (repeat first | assumption | with_reducible exact ent_blk | exact Ent.here arr_reads | exact Ent.here one_I64 | exact Ent.here one_Cell | exact Ent.here one_Bool | exact Ent.here one_Rect | refine Ent.there ?_)) s7)) (fun w35 s34 => ?_)
      clear s7
      refine l_end ?_
      refine x_thenN ?_
      refine c_ret ?_
      refine rc1 s34 rfl rfl Ty.some25 Ty.agg25 Ty.size25 (by repeat first | exact ent_blk | refine Ent.there ?_) rfl ?_
      obtain rfl : k = n := by omega
      exact ⟨y, rfl, a, xs, hK.2, s34.sub (by first | (repeat first | with_reducible exact Sub.refl _ | refine Sub.skip _ ?_); done | (repeat first | with_reducible exact Sub.refl _ | exact Sub.nil _ | refine Sub.take (by repeat first | with_reducible exact Take.here _ _ | apply Take.there) ?_ | refine Sub.skip _ ?_))⟩
end Go.Proofs.Ytpchomihojidpaa
