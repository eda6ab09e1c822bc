/- Cut out, and greater: the code and the document. -/
import Derived.Test.YtpchomihojidpaaTy
import Derived.Test.YtpchomihojidpaaSlC
import Derived.Test.YtpchomihojidpaaTa
import Derived.Test.YtpchomihojidpaaMb
import Derived.Test.YtpchomihojidpaaSlD
import Derived.KernelRfl
namespace Go.Proofs.Ytpchomihojidpaa
open Go.SL
theorem FnTb.call134 : callB Try.prog 134 = true := by kernel_rfl
theorem FnTb.call135 : callB Try.prog 135 = true := by kernel_rfl
theorem FnTb.call136 : callB Try.prog 136 = true := by kernel_rfl
theorem FnTb.call213 : callB Try.prog 213 = true := by kernel_rfl
set_option linter.unusedVariables false
set_option linter.unusedSimpArgs false
attribute [local irreducible] wpList WD WP Region.wanted Code.wp
def scK (W H : Nat) (k : Int) : Int := if k < 1 then 11 else if 1024 < k ∨ 1024 < (W : Int) * k ∨ 1024 < (H : Int) * k then 3 else 0
theorem sc_max {W H : Nat} {k : Int} (hW : 1 ≤ W) (hH : 1 ≤ H) (hk : 1 ≤ k) : 1024 / max (W : Int) (H : Int) < k ↔ (1024 < k ∨ 1024 < (W : Int) * k ∨ 1024 < (H : Int) * k) := by
  have h1 : k ≤ (W : Int) * k := by have := Int.mul_le_mul_of_nonneg_right (show (1 : Int) ≤ W by omega) (show 0 ≤ k by omega); omega
  rcases Int.le_total (W : Int) (H : Int) with h | h
  · rw [Int.max_eq_right h, Int.ediv_lt_iff_lt_mul (by omega), Int.mul_comm k]
    have := Int.mul_le_mul_of_nonneg_right h (show 0 ≤ k by omega)
    omega
  · rw [Int.max_eq_left h, Int.ediv_lt_iff_lt_mul (by omega), Int.mul_comm k]
    have := Int.mul_le_mul_of_nonneg_right h (show 0 ≤ k by omega)
    omega
theorem scK0 {W H : Nat} {k : Int} (h : scK W H k = 0) : 1 ≤ k ∧ k ≤ 1024 ∧ (W : Int) * k ≤ 1024 ∧ (H : Int) * k ≤ 1024 := by
  unfold scK at h; (repeat' split at h) <;> omega
theorem scK3 {W H : Nat} {k : Int} (h1 : 1 ≤ k) (h : 1024 < k ∨ 1024 < (W : Int) * k ∨ 1024 < (H : Int) * k) : scK W H k = 3 := by rw [scK, if_neg (by omega), if_pos h]
theorem scK11 {W H : Nat} {k : Int} (h : k < 1) : scK W H k = 11 := if_pos h
theorem scKok {W H : Nat} {k : Int} (h1 : 1 ≤ k) (h : ¬ (1024 < k ∨ 1024 < (W : Int) * k ∨ 1024 < (H : Int) * k)) : scK W H k = 0 := by rw [scK, if_neg (by omega), if_neg h]
def scL (W H : Nat) (k : Int) (vs : List Int) : List Int := if scK W H k = 0 then scV W H k.toNat vs else []
set_option maxHeartbeats 4000000 in
set_option maxRecDepth 100000 in
/-- hachure/turn.Crop -/
theorem crop_c {e : Env} {L : List Asn} {w : World} {b W H : Nat} {vs : List Int} {x0 y0 x1 y1 : Int} (s : SL e w L) (hg : Has L (GridA b W H vs)) :
    Calls Try.prog 49 #[ptr b 0, .agg #[.int .i64 x0, .int .i64 y0, .int .i64 x1, .int .i64 y1]] w (Rets fun v w' => ∃ p, v = .tuple #[.pointer p, .int .i64 (withinF x0 y0 x1 y1 W H)] ∧ ((withinF x0 y0 x1 y1 W H = 0 ∧ ∃ b', p = some ⟨b', 0, none⟩) ∨ (withinF x0 y0 x1 y1 W H ≠ 0 ∧ p = none)) ∧ SL e w' (GrO p (x1.toNat + 1 - x0.toNat) (y1.toNat + 1 - y0.toNat) (cropL W H vs x0 y0 x1 y1) :: L)) := by
  have hok := gridOk s hg
  have hw1 := hok.w1; have hh1 := hok.h1
  refine enter Try.func49 rfl (l := [ptr b 0, .agg #[.int .i64 x0, .int .i64 y0, .int .i64 x1, .int .i64 y1], undef, undef, undef, undef, undef, undef, undef, undef, undef, undef, undef, undef, undef, undef, undef, undef, undef, undef, undef, undef, undef, undef, undef, undef, undef, undef, undef, undef, undef, undef, undef]) rfl ?_
  refine c_seq ?_
  refine c_region ?_
  refine l_box s rfl rfl rfl (ev_of rfl) (fun b3 w2 s1 => ?_)
  change SL _ _ (Blk _ #[_, _, _, _] _ :: _) at s1
  clear s
  refine nlL (l' := [_,_,_,_,_,_,_,_,_,_,_,_,_,_,_,_,_,_,_,_,_,_,_,_,_,_,_,_,_,_,_,_,_]) rfl ?_
  refine l_val s1 (y_as rfl (ev_of rfl)) rfl rfl (l' := [_,_,_,_,_,_,_,_,_,_,_,_,_,_,_,_,_,_,_,_,_,_,_,_,_,_,_,_,_,_,_,_,_]) rfl ?_
  refine l_val s1 (y_as rfl (ev_of rfl)) rfl rfl (l' := [_,_,_,_,_,_,_,_,_,_,_,_,_,_,_,_,_,_,_,_,_,_,_,_,_,_,_,_,_,_,_,_,_]) rfl ?_
  refine l_end ?_
  refine x_thenN ?_
  refine c_seq ?_
  refine c_region ?_
  refine l_val s1 (y_mv rfl (ev_of rfl)) rfl rfl (l' := [_,_,_,_,_,_,_,_,_,_,_,_,_,_,_,_,_,_,_,_,_,_,_,_,_,_,_,_,_,_,_,_,_]) rfl ?_
  refine l_val s1 (y_load_blk rfl Ty.some58 Ty.agg58 Ty.size58 (ev_of rfl) (by repeat first | exact ent_blk | refine Ent.there ?_) rfl) rfl rfl (l' := [_,_,_,_,_,_,_,_,_,_,_,_,_,_,_,_,_,_,_,_,_,_,_,_,_,_,_,_,_,_,_,_,_]) rfl ?_
  refine l_callL rfl rfl rfl Fn.call84 (vs := [_, _]) rfl (gvaluesR_c s1 (by repeat first | exact hg | apply Has.there)) ?_
  rintro _ w5 ⟨u, rfl, s4⟩
  clear s1
  refine nlL (l' := [_,_,_,_,_,_,_,_,_,_,_,_,_,_,_,_,_,_,_,_,_,_,_,_,_,_,_,_,_,_,_,_,_]) rfl ?_
  refine l_val s4 (y_mv rfl (ev_of rfl)) rfl rfl (l' := [_,_,_,_,_,_,_,_,_,_,_,_,_,_,_,_,_,_,_,_,_,_,_,_,_,_,_,_,_,_,_,_,_]) rfl ?_
  refine l_val s4 (y_extract rfl (ev_of rfl) rfl) rfl rfl (l' := [_,_,_,_,_,_,_,_,_,_,_,_,_,_,_,_,_,_,_,_,_,_,_,_,_,_,_,_,_,_,_,_,_]) rfl ?_
  refine l_val s4 (y_extract rfl (ev_of rfl) rfl) rfl rfl (l' := [_,_,_,_,_,_,_,_,_,_,_,_,_,_,_,_,_,_,_,_,_,_,_,_,_,_,_,_,_,_,_,_,_]) rfl ?_
  refine l_val s4 (y_as rfl (ev_of rfl)) rfl rfl (l' := [_,_,_,_,_,_,_,_,_,_,_,_,_,_,_,_,_,_,_,_,_,_,_,_,_,_,_,_,_,_,_,_,_]) rfl ?_
  refine l_val s4 (y_as rfl (ev_of rfl)) rfl rfl (l' := [_,_,_,_,_,_,_,_,_,_,_,_,_,_,_,_,_,_,_,_,_,_,_,_,_,_,_,_,_,_,_,_,_]) rfl ?_
  refine l_end ?_
  refine x_thenN ?_
  refine c_seq ?_
  refine c_seq ?_
  refine c_region ?_
  refine l_val s4 (y_mv rfl (ev_of rfl)) rfl rfl (l' := [_,_,_,_,_,_,_,_,_,_,_,_,_,_,_,_,_,_,_,_,_,_,_,_,_,_,_,_,_,_,_,_,_]) rfl ?_
  refine l_val s4 (y_neq rfl (ev_of rfl) (ev_of rfl)) rfl rfl (l' := [_,_,_,_,_,_,_,_,_,_,_,_,_,_,_,_,_,_,_,_,_,_,_,_,_,_,_,_,_,_,_,_,_]) rfl ?_
  refine l_end ?_
  refine x_thenN ?_
  refine c_if rfl (fun hc0 => ?_) (fun hc0 => ?_)
  · (try simp only [decide_eq_true_eq, decide_eq_false_iff_not, Bool.not_eq_true', Bool.not_eq_false'] at hc0)
    refine c_seq ?_
    refine c_region ?_
    refine l_val s4 (y_mv rfl (ev_of rfl)) rfl rfl (l' := [_,_,_,_,_,_,_,_,_,_,_,_,_,_,_,_,_,_,_,_,_,_,_,_,_,_,_,_,_,_,_,_,_]) rfl ?_
    refine l_val s4 (y_as rfl (ev_of rfl)) rfl rfl (l' := [_,_,_,_,_,_,_,_,_,_,_,_,_,_,_,_,_,_,_,_,_,_,_,_,_,_,_,_,_,_,_,_,_]) rfl ?_
    refine l_val s4 (y_as rfl (ev_of rfl)) rfl rfl (l' := [_,_,_,_,_,_,_,_,_,_,_,_,_,_,_,_,_,_,_,_,_,_,_,_,_,_,_,_,_,_,_,_,_]) rfl ?_
    refine l_end ?_
    refine x_thenN ?_
    refine c_ret ?_
    refine x_thenR ?_
    refine r2 rfl rfl rfl ?_
    exact ⟨none, rfl, .inr ⟨by simpa using hc0, rfl⟩, gro_none (s4.sub (by first | (repeat first | with_reducible exact Sub.refl _ | refine Sub.skip _ ?_); done | (repeat first | with_reducible exact Sub.refl _ | exact Sub.nil _ | refine Sub.take (by repeat first | with_reducible exact Take.here _ _ | apply Take.there) ?_ | refine Sub.skip _ ?_)))⟩
  · (try simp only [decide_eq_true_eq, decide_eq_false_iff_not, Bool.not_eq_true', Bool.not_eq_false'] at hc0)
    have hr : withinF x0 y0 x1 y1 W H = 0 := by simpa using hc0
    obtain ⟨a1, a2, a3, a4, a5, a6, a7, a8, a9, a10⟩ := within0.1 hr
    obtain ⟨X0, rfl⟩ : ∃ n : Nat, x0 = n := ⟨x0.toNat, by omega⟩
    obtain ⟨X1, rfl⟩ : ∃ n : Nat, x1 = n := ⟨x1.toNat, by omega⟩
    obtain ⟨Y0, rfl⟩ : ∃ n : Nat, y0 = n := ⟨y0.toNat, by omega⟩
    obtain ⟨Y1, rfl⟩ : ∃ n : Nat, y1 = n := ⟨y1.toNat, by omega⟩
    refine c_skip ?_
    refine x_thenN ?_
    refine c_seq ?_
    refine c_region ?_
    rw [cropL_nat hr] at s4
    refine l_val s4 (y_fieldAddrB rfl Ty.fld58_2 Ty.size2 (ev_of rfl)) rfl rfl (l' := [_,_,_,_,_,_,_,_,_,_,_,_,_,_,_,_,_,_,_,_,_,_,_,_,_,_,_,_,_,_,_,_,_]) rfl ?_
    refine l_val s4 (y_load rfl Ty.some2 Ty.agg2 (ev_of rfl) (by repeat first | exact ent_cell rfl | assumption | refine Ent.there ?_)) rfl rfl (l' := [_,_,_,_,_,_,_,_,_,_,_,_,_,_,_,_,_,_,_,_,_,_,_,_,_,_,_,_,_,_,_,_,_]) rfl ?_
    refine l_val s4 (y_fieldAddrB rfl Ty.fld58_0 Ty.size2 (ev_of rfl)) rfl rfl (l' := [_,_,_,_,_,_,_,_,_,_,_,_,_,_,_,_,_,_,_,_,_,_,_,_,_,_,_,_,_,_,_,_,_]) rfl ?_
    refine l_val s4 (y_load rfl Ty.some2 Ty.agg2 (ev_of rfl) (by repeat first | exact ent_cell rfl | assumption | refine Ent.there ?_)) rfl rfl (l' := [_,_,_,_,_,_,_,_,_,_,_,_,_,_,_,_,_,_,_,_,_,_,_,_,_,_,_,_,_,_,_,_,_]) rfl ?_
    refine l_val s4 (y_sub rfl (ev_of rfl) (ev_of rfl) (by omega) (by omega)) rfl rfl (l' := [_,_,_,_,_,_,_,_,_,_,_,_,_,_,_,_,_,_,_,_,_,_,_,_,_,_,_,_,_,_,_,_,_]) rfl ?_
    refine l_val s4 (y_add rfl (ev_of rfl) (ev_of rfl) (by omega) (by omega)) rfl rfl (l' := [_,_,_,_,_,_,_,_,_,_,_,_,_,_,_,_,_,_,_,_,_,_,_,_,_,_,_,_,_,_,_,_,_]) rfl ?_
    refine l_val s4 (y_fieldAddrB rfl Ty.fld58_3 Ty.size2 (ev_of rfl)) rfl rfl (l' := [_,_,_,_,_,_,_,_,_,_,_,_,_,_,_,_,_,_,_,_,_,_,_,_,_,_,_,_,_,_,_,_,_]) rfl ?_
    refine l_val s4 (y_load rfl Ty.some2 Ty.agg2 (ev_of rfl) (by repeat first | exact ent_cell rfl | assumption | refine Ent.there ?_)) rfl rfl (l' := [_,_,_,_,_,_,_,_,_,_,_,_,_,_,_,_,_,_,_,_,_,_,_,_,_,_,_,_,_,_,_,_,_]) rfl ?_
    refine l_val s4 (y_fieldAddrB rfl Ty.fld58_1 Ty.size2 (ev_of rfl)) rfl rfl (l' := [_,_,_,_,_,_,_,_,_,_,_,_,_,_,_,_,_,_,_,_,_,_,_,_,_,_,_,_,_,_,_,_,_]) rfl ?_
    refine l_val s4 (y_load rfl Ty.some2 Ty.agg2 (ev_of rfl) (by repeat first | exact ent_cell rfl | assumption | refine Ent.there ?_)) rfl rfl (l' := [_,_,_,_,_,_,_,_,_,_,_,_,_,_,_,_,_,_,_,_,_,_,_,_,_,_,_,_,_,_,_,_,_]) rfl ?_
    refine l_val s4 (y_sub rfl (ev_of rfl) (ev_of rfl) (by omega) (by omega)) rfl rfl (l' := [_,_,_,_,_,_,_,_,_,_,_,_,_,_,_,_,_,_,_,_,_,_,_,_,_,_,_,_,_,_,_,_,_]) rfl ?_
    refine l_val s4 (y_add rfl (ev_of rfl) (ev_of rfl) (by omega) (by omega)) rfl rfl (l' := [_,_,_,_,_,_,_,_,_,_,_,_,_,_,_,_,_,_,_,_,_,_,_,_,_,_,_,_,_,_,_,_,_]) rfl ?_
    refine l_val s4 (y_mv rfl (ev_of rfl)) rfl rfl (l' := [_,_,_,_,_,_,_,_,_,_,_,_,_,_,_,_,_,_,_,_,_,_,_,_,_,_,_,_,_,_,_,_,_]) rfl ?_
    rw [show (X1 : Int) - X0 + 1 = ((X1 + 1 - X0 : Nat) : Int) from by omega, show (Y1 : Int) - Y0 + 1 = ((Y1 + 1 - Y0 : Nat) : Int) from by omega]
    refine l_callL rfl rfl rfl Fn.call117 (vs := [_, _, _]) rfl (from_c (W := (X1 + 1 - X0)) (H := (Y1 + 1 - Y0)) s4 (by first | (repeat first | assumption | with_reducible exact ent_blk | with_reducible exact Ent.here arr_reads | with_reducible exact Ent.here one_I64 | with_reducible exact Ent.here one_Cell | refine Ent.there ?_); done | (repeat first | assumption | with_reducible exact ent_blk | exact Ent.here arr_reads | exact Ent.here one_I64 | exact Ent.here one_Cell | exact Ent.here one_Bool | exact Ent.here one_Rect | refine Ent.there ?_)) (by omega) (by omega) (by rw [rectV_length, Nat.mul_comm]) (rectV_ok hok.ok hok.len (by omega) (by omega))) ?_
    rintro _ w7 ⟨b', rfl, s6⟩
    clear s4
    refine nlL (l' := [_,_,_,_,_,_,_,_,_,_,_,_,_,_,_,_,_,_,_,_,_,_,_,_,_,_,_,_,_,_,_,_,_]) rfl ?_
    refine l_val s6 (y_extract rfl (ev_of rfl) rfl) rfl rfl (l' := [_,_,_,_,_,_,_,_,_,_,_,_,_,_,_,_,_,_,_,_,_,_,_,_,_,_,_,_,_,_,_,_,_]) rfl ?_
    refine l_val s6 (y_extract rfl (ev_of rfl) rfl) rfl rfl (l' := [_,_,_,_,_,_,_,_,_,_,_,_,_,_,_,_,_,_,_,_,_,_,_,_,_,_,_,_,_,_,_,_,_]) rfl ?_
    refine l_val s6 (y_as rfl (ev_of rfl)) rfl rfl (l' := [_,_,_,_,_,_,_,_,_,_,_,_,_,_,_,_,_,_,_,_,_,_,_,_,_,_,_,_,_,_,_,_,_]) rfl ?_
    refine l_val s6 (y_as rfl (ev_of rfl)) rfl rfl (l' := [_,_,_,_,_,_,_,_,_,_,_,_,_,_,_,_,_,_,_,_,_,_,_,_,_,_,_,_,_,_,_,_,_]) rfl ?_
    refine l_end ?_
    refine x_thenN ?_
    refine c_ret ?_
    refine r2 rfl rfl rfl ?_
    refine ⟨some ⟨b', 0, none⟩, by rw [hr]; rfl, .inl ⟨hr, b', rfl⟩, ?_⟩
    rw [cropL_nat hr]
    show SL e w7 (GrO (some ⟨b', 0, none⟩) (X1 + 1 - X0) (Y1 + 1 - Y0) _ :: L)
    exact gro_shut (s6.sub (by first | (repeat first | with_reducible exact Sub.refl _ | refine Sub.skip _ ?_); done | (repeat first | with_reducible exact Sub.refl _ | exact Sub.nil _ | refine Sub.take (by repeat first | with_reducible exact Take.here _ _ | apply Take.there) ?_ | refine Sub.skip _ ?_)))
set_option maxHeartbeats 4000000 in
set_option maxRecDepth 100000 in
/-- hachure/turn.Scale -/
theorem scale_c {e : Env} {L : List Asn} {w : World} {b W H : Nat} {vs : List Int} {k : Int} (s : SL e w L) (hg : Has L (GridA b W H vs)) :
    Calls Try.prog 51 #[ptr b 0, .int .i64 k] w (Rets fun v w' => ∃ p, v = .tuple #[.pointer p, .int .i64 (scK W H k)] ∧ ((scK W H k = 0 ∧ ∃ b', p = some ⟨b', 0, none⟩) ∨ (scK W H k ≠ 0 ∧ p = none)) ∧ SL e w' (GrO p (W * k.toNat) (H * k.toNat) (scL W H k vs) :: L)) := by
  have hok := gridOk s hg
  have hw0 := hok.w0; have hh0 := hok.h0; have hw1 := hok.w1; have hh1 := hok.h1
  have hmx := fun hk => sc_max (W := W) (H := H) (k := k) hw0 hh0 hk
  refine enter Try.func51 rfl (l := [ptr b 0, .int .i64 k, undef, undef, undef, undef, undef, undef, undef, undef, undef, undef, undef, undef, undef, undef, undef, undef, undef, undef, undef, undef, undef, undef, undef, undef, undef, undef, undef, undef, undef, undef, undef, undef, undef, undef, undef]) rfl ?_
  refine c_seq ?_
  refine c_region ?_
  refine l_box s rfl rfl rfl (ev_of rfl) (fun b3 w2 s1 => ?_)
  change SL _ _ (Blk _ #[_] _ :: _) at s1
  clear s
  refine nlL (l' := [_,_,_,_,_,_,_,_,_,_,_,_,_,_,_,_,_,_,_,_,_,_,_,_,_,_,_,_,_,_,_,_,_,_,_,_,_]) rfl ?_
  refine l_val s1 (y_as rfl (ev_of rfl)) rfl rfl (l' := [_,_,_,_,_,_,_,_,_,_,_,_,_,_,_,_,_,_,_,_,_,_,_,_,_,_,_,_,_,_,_,_,_,_,_,_,_]) rfl ?_
  refine l_val s1 (y_as rfl (ev_of rfl)) rfl rfl (l' := [_,_,_,_,_,_,_,_,_,_,_,_,_,_,_,_,_,_,_,_,_,_,_,_,_,_,_,_,_,_,_,_,_,_,_,_,_]) rfl ?_
  refine l_end ?_
  refine x_thenN ?_
  refine c_seq ?_
  refine c_region ?_
  refine l_val s1 (y_mv rfl (ev_of rfl)) rfl rfl (l' := [_,_,_,_,_,_,_,_,_,_,_,_,_,_,_,_,_,_,_,_,_,_,_,_,_,_,_,_,_,_,_,_,_,_,_,_,_]) rfl ?_
  refine l_callL rfl rfl rfl Fn.call125 (vs := [_]) rfl (gsize_c s1 (by repeat first | exact hg | apply Has.there)) ?_
  rintro _ w5 ⟨rfl, s4⟩
  clear s1
  refine nlL (l' := [_,_,_,_,_,_,_,_,_,_,_,_,_,_,_,_,_,_,_,_,_,_,_,_,_,_,_,_,_,_,_,_,_,_,_,_,_]) rfl ?_
  refine l_val s4 (y_mv rfl (ev_of rfl)) rfl rfl (l' := [_,_,_,_,_,_,_,_,_,_,_,_,_,_,_,_,_,_,_,_,_,_,_,_,_,_,_,_,_,_,_,_,_,_,_,_,_]) rfl ?_
  refine l_val s4 (y_extract rfl (ev_of rfl) rfl) rfl rfl (l' := [_,_,_,_,_,_,_,_,_,_,_,_,_,_,_,_,_,_,_,_,_,_,_,_,_,_,_,_,_,_,_,_,_,_,_,_,_]) rfl ?_
  refine l_val s4 (y_extract rfl (ev_of rfl) rfl) rfl rfl (l' := [_,_,_,_,_,_,_,_,_,_,_,_,_,_,_,_,_,_,_,_,_,_,_,_,_,_,_,_,_,_,_,_,_,_,_,_,_]) rfl ?_
  refine l_val s4 (y_as rfl (ev_of rfl)) rfl rfl (l' := [_,_,_,_,_,_,_,_,_,_,_,_,_,_,_,_,_,_,_,_,_,_,_,_,_,_,_,_,_,_,_,_,_,_,_,_,_]) rfl ?_
  refine l_val s4 (y_as rfl (ev_of rfl)) rfl rfl (l' := [_,_,_,_,_,_,_,_,_,_,_,_,_,_,_,_,_,_,_,_,_,_,_,_,_,_,_,_,_,_,_,_,_,_,_,_,_]) rfl ?_
  refine l_end ?_
  refine x_thenN ?_
  refine c_seq ?_
  refine c_block ?_
  refine c_seq ?_
  refine c_region ?_
  refine l_val s4 (y_mv rfl (ev_of rfl)) rfl rfl (l' := [_,_,_,_,_,_,_,_,_,_,_,_,_,_,_,_,_,_,_,_,_,_,_,_,_,_,_,_,_,_,_,_,_,_,_,_,_]) rfl ?_
  refine l_val s4 (y_peqnil rfl Ty.ptr28 (ev_of rfl) (ev_of rfl)) rfl rfl (l' := [_,_,_,_,_,_,_,_,_,_,_,_,_,_,_,_,_,_,_,_,_,_,_,_,_,_,_,_,_,_,_,_,_,_,_,_,_]) rfl ?_
  refine l_val s4 (y_as rfl (ev_of rfl)) rfl rfl (l' := [_,_,_,_,_,_,_,_,_,_,_,_,_,_,_,_,_,_,_,_,_,_,_,_,_,_,_,_,_,_,_,_,_,_,_,_,_]) rfl ?_
  refine l_end ?_
  refine x_thenN ?_
  refine c_if rfl (fun hc0 => ?_) (fun hc0 => ?_)
  · (try simp only [decide_eq_true_eq, decide_eq_false_iff_not, Bool.not_eq_true', Bool.not_eq_false'] at hc0)
    first | done | (exfalso; omega) | contradiction | (exfalso; simp_all; done)
  · (try simp only [decide_eq_true_eq, decide_eq_false_iff_not, Bool.not_eq_true', Bool.not_eq_false'] at hc0)
    refine c_seq ?_
    refine c_region ?_
    refine l_val s4 (y_load rfl Ty.some2 Ty.agg2 (ev_of rfl) (by repeat first | exact ent_cell rfl | assumption | refine Ent.there ?_)) rfl rfl (l' := [_,_,_,_,_,_,_,_,_,_,_,_,_,_,_,_,_,_,_,_,_,_,_,_,_,_,_,_,_,_,_,_,_,_,_,_,_]) rfl ?_
    refine l_val s4 (y_lss rfl (ev_of rfl) (ev_of rfl)) rfl rfl (l' := [_,_,_,_,_,_,_,_,_,_,_,_,_,_,_,_,_,_,_,_,_,_,_,_,_,_,_,_,_,_,_,_,_,_,_,_,_]) rfl ?_
    refine l_val s4 (y_as rfl (ev_of rfl)) rfl rfl (l' := [_,_,_,_,_,_,_,_,_,_,_,_,_,_,_,_,_,_,_,_,_,_,_,_,_,_,_,_,_,_,_,_,_,_,_,_,_]) rfl ?_
    refine l_end ?_
    refine x_thenN ?_
    refine c_if rfl (fun hc1 => ?_) (fun hc1 => ?_)
    · (try simp only [decide_eq_true_eq, decide_eq_false_iff_not, Bool.not_eq_true', Bool.not_eq_false'] at hc1)
      refine c_seq ?_
      refine c_region ?_
      refine l_val s4 (y_as rfl (ev_of rfl)) rfl rfl (l' := [_,_,_,_,_,_,_,_,_,_,_,_,_,_,_,_,_,_,_,_,_,_,_,_,_,_,_,_,_,_,_,_,_,_,_,_,_]) rfl ?_
      refine l_val s4 (y_as rfl (ev_of rfl)) rfl rfl (l' := [_,_,_,_,_,_,_,_,_,_,_,_,_,_,_,_,_,_,_,_,_,_,_,_,_,_,_,_,_,_,_,_,_,_,_,_,_]) rfl ?_
      refine l_end ?_
      refine x_thenN ?_
      refine c_ret ?_
      refine x_blockR ?_
      refine x_thenR ?_
      refine r2 rfl rfl rfl ?_
      exact ⟨none, by rw [scK11 (by omega)], .inr ⟨by rw [scK11 (by omega)]; decide, rfl⟩, gro_none (s4.sub (by first | (repeat first | with_reducible exact Sub.refl _ | refine Sub.skip _ ?_); done | (repeat first | with_reducible exact Sub.refl _ | exact Sub.nil _ | refine Sub.take (by repeat first | with_reducible exact Take.here _ _ | apply Take.there) ?_ | refine Sub.skip _ ?_)))⟩
    · (try simp only [decide_eq_true_eq, decide_eq_false_iff_not, Bool.not_eq_true', Bool.not_eq_false'] at hc1)
      have hmx := hmx (by omega)
      refine c_seq ?_
      apply c_drawn [] [0, 1, 2, 3, 4, 5, 6] [] [] [] [(_, vq _), (_, vq _), (_, vq _), (_, vq _), (_, vq _), (_, vq _), (_, vq _)] s4 Ty.follows (by kernel_rfl) (fun _ _ _ h => h.2) rfl rfl rfl (by decide) ?_
      show WP _ _ _ _ _
      refine p_end ?_
      refine d_val (y_load rfl Ty.some2 Ty.agg2 (ev_of rfl) (by repeat first | exact ent_cell rfl | assumption | refine Ent.there ?_)) rfl rfl (l' := [_,_,_,_,_,_,_,_,_,_,_,_,_,_,_,_,_,_,_,_,_,_,_,_,_,_,_,_,_,_,_,_,_,_,_,_,_]) rfl ?_
      refine d_val (y_mv rfl (ev_of rfl)) rfl rfl (l' := [_,_,_,_,_,_,_,_,_,_,_,_,_,_,_,_,_,_,_,_,_,_,_,_,_,_,_,_,_,_,_,_,_,_,_,_,_]) rfl ?_
      refine d_val (y_mv rfl (ev_of rfl)) rfl rfl (l' := [_,_,_,_,_,_,_,_,_,_,_,_,_,_,_,_,_,_,_,_,_,_,_,_,_,_,_,_,_,_,_,_,_,_,_,_,_]) rfl ?_
      refine d_val (y_max rfl (ev_of rfl) (ev_of rfl)) rfl rfl (l' := [_,_,_,_,_,_,_,_,_,_,_,_,_,_,_,_,_,_,_,_,_,_,_,_,_,_,_,_,_,_,_,_,_,_,_,_,_]) rfl ?_
      refine d_val (y_quo rfl (ev_of rfl) (ev_of rfl) (by omega) (by omega) (by omega)) rfl rfl (l' := [_,_,_,_,_,_,_,_,_,_,_,_,_,_,_,_,_,_,_,_,_,_,_,_,_,_,_,_,_,_,_,_,_,_,_,_,_]) rfl ?_
      refine d_val (y_gtr rfl (ev_of rfl) (ev_of rfl)) rfl rfl (l' := [_,_,_,_,_,_,_,_,_,_,_,_,_,_,_,_,_,_,_,_,_,_,_,_,_,_,_,_,_,_,_,_,_,_,_,_,_]) rfl ?_
      refine d_val (y_as rfl (ev_of rfl)) rfl rfl (l' := [_,_,_,_,_,_,_,_,_,_,_,_,_,_,_,_,_,_,_,_,_,_,_,_,_,_,_,_,_,_,_,_,_,_,_,_,_]) rfl ?_
      refine d_end (fun w7 s6 => ?_)
      clear s4
      simp only [List.append_nil, List.cons_append, List.nil_append] at s6
      refine l_end ?_
      refine x_thenN ?_
      refine c_if rfl (fun hc2 => ?_) (fun hc2 => ?_)
      · (try simp only [decide_eq_true_eq, decide_eq_false_iff_not, Bool.not_eq_true', Bool.not_eq_false'] at hc2)
        have h3 := hmx.1 (by omega)
        refine c_seq ?_
        refine c_region ?_
        refine l_val s6 (y_as rfl (ev_of rfl)) rfl rfl (l' := [_,_,_,_,_,_,_,_,_,_,_,_,_,_,_,_,_,_,_,_,_,_,_,_,_,_,_,_,_,_,_,_,_,_,_,_,_]) rfl ?_
        refine l_val s6 (y_as rfl (ev_of rfl)) rfl rfl (l' := [_,_,_,_,_,_,_,_,_,_,_,_,_,_,_,_,_,_,_,_,_,_,_,_,_,_,_,_,_,_,_,_,_,_,_,_,_]) rfl ?_
        refine l_end ?_
        refine x_thenN ?_
        refine c_ret ?_
        refine x_blockR ?_
        refine x_thenR ?_
        refine r2 rfl rfl rfl ?_
        exact ⟨none, by rw [scK3 (by omega) h3], .inr ⟨by rw [scK3 (by omega) h3]; decide, rfl⟩, gro_none (s6.sub (by first | (repeat first | with_reducible exact Sub.refl _ | refine Sub.skip _ ?_); done | (repeat first | with_reducible exact Sub.refl _ | exact Sub.nil _ | refine Sub.take (by repeat first | with_reducible exact Take.here _ _ | apply Take.there) ?_ | refine Sub.skip _ ?_)))⟩
      · (try simp only [decide_eq_true_eq, decide_eq_false_iff_not, Bool.not_eq_true', Bool.not_eq_false'] at hc2)
        have h3 := fun h => (Int.not_lt.2 (by omega)) (hmx.2 h)
        refine c_skip ?_
        refine x_blockN ?_
        refine x_thenN ?_
        refine c_seq ?_
        refine c_region ?_
        have hno : ¬ (1024 < k ∨ 1024 < (W : Int) * k ∨ 1024 < (H : Int) * k) := h3
        obtain ⟨K, rfl⟩ : ∃ n : Nat, k = n := ⟨k.toNat, by omega⟩
        have hk0 := scKok (by omega) hno
        have hWK : (W : Int) * (K : Int) = ((W * K : Nat) : Int) := (Int.natCast_mul W K).symm
        have hHK : (H : Int) * (K : Int) = ((H * K : Nat) : Int) := (Int.natCast_mul H K).symm
        have hWp : 1 * 1 ≤ W * K := Nat.mul_le_mul (by omega) (by omega)
        have hHp : 1 * 1 ≤ H * K := Nat.mul_le_mul (by omega) (by omega)
        refine l_val s6 (y_mv rfl (ev_of rfl)) rfl rfl (l' := [_,_,_,_,_,_,_,_,_,_,_,_,_,_,_,_,_,_,_,_,_,_,_,_,_,_,_,_,_,_,_,_,_,_,_,_,_]) rfl ?_
        refine l_val s6 (y_mv rfl (ev_of rfl)) rfl rfl (l' := [_,_,_,_,_,_,_,_,_,_,_,_,_,_,_,_,_,_,_,_,_,_,_,_,_,_,_,_,_,_,_,_,_,_,_,_,_]) rfl ?_
        refine l_val s6 (y_load rfl Ty.some2 Ty.agg2 (ev_of rfl) (by repeat first | exact ent_cell rfl | assumption | refine Ent.there ?_)) rfl rfl (l' := [_,_,_,_,_,_,_,_,_,_,_,_,_,_,_,_,_,_,_,_,_,_,_,_,_,_,_,_,_,_,_,_,_,_,_,_,_]) rfl ?_
        refine l_val s6 (y_mul rfl (ev_of rfl) (ev_of rfl) (by omega) (by omega)) rfl rfl (l' := [_,_,_,_,_,_,_,_,_,_,_,_,_,_,_,_,_,_,_,_,_,_,_,_,_,_,_,_,_,_,_,_,_,_,_,_,_]) rfl ?_
        refine l_val s6 (y_mv rfl (ev_of rfl)) rfl rfl (l' := [_,_,_,_,_,_,_,_,_,_,_,_,_,_,_,_,_,_,_,_,_,_,_,_,_,_,_,_,_,_,_,_,_,_,_,_,_]) rfl ?_
        refine l_val s6 (y_load rfl Ty.some2 Ty.agg2 (ev_of rfl) (by repeat first | exact ent_cell rfl | assumption | refine Ent.there ?_)) rfl rfl (l' := [_,_,_,_,_,_,_,_,_,_,_,_,_,_,_,_,_,_,_,_,_,_,_,_,_,_,_,_,_,_,_,_,_,_,_,_,_]) rfl ?_
        refine l_val s6 (y_mul rfl (ev_of rfl) (ev_of rfl) (by omega) (by omega)) rfl rfl (l' := [_,_,_,_,_,_,_,_,_,_,_,_,_,_,_,_,_,_,_,_,_,_,_,_,_,_,_,_,_,_,_,_,_,_,_,_,_]) rfl ?_
        refine l_val s6 (y_mkF (vs := [_]) rfl rfl) rfl rfl (l' := [_,_,_,_,_,_,_,_,_,_,_,_,_,_,_,_,_,_,_,_,_,_,_,_,_,_,_,_,_,_,_,_,_,_,_,_,_]) rfl ?_
        rw [hWK, hHK]
        refine l_callL rfl rfl rfl FnTb.call135 (vs := [_, _, _, _]) rfl (made_t (wn := W * K) (hn := H * K) (at_ := fun x y => (x / K, y / K)) (caps := [ptr b3 0]) s6 (by repeat first | exact hg | apply Has.there) (by omega) (by omega) FnTb.call136 (fun x y w M hx hy s => sc1_c s (Ent.app (by first | (repeat first | assumption | with_reducible exact ent_blk | with_reducible exact Ent.here arr_reads | with_reducible exact Ent.here one_I64 | with_reducible exact Ent.here one_Cell | refine Ent.there ?_); done | (repeat first | assumption | with_reducible exact ent_blk | exact Ent.here arr_reads | exact Ent.here one_I64 | exact Ent.here one_Cell | exact Ent.here one_Bool | exact Ent.here one_Rect | refine Ent.there ?_)) M) (by omega) (by omega) (by omega)) (fun x y hx hy => ⟨Nat.div_lt_of_lt_mul (by rw [Nat.mul_comm]; exact hx), Nat.div_lt_of_lt_mul (by rw [Nat.mul_comm]; exact hy)⟩)) ?_
        rintro _ w9 ⟨b', rfl, s8⟩
        clear s6
        refine nlL (l' := [_,_,_,_,_,_,_,_,_,_,_,_,_,_,_,_,_,_,_,_,_,_,_,_,_,_,_,_,_,_,_,_,_,_,_,_,_]) rfl ?_
        refine l_val s8 (y_extract rfl (ev_of rfl) rfl) rfl rfl (l' := [_,_,_,_,_,_,_,_,_,_,_,_,_,_,_,_,_,_,_,_,_,_,_,_,_,_,_,_,_,_,_,_,_,_,_,_,_]) rfl ?_
        refine l_val s8 (y_extract rfl (ev_of rfl) rfl) rfl rfl (l' := [_,_,_,_,_,_,_,_,_,_,_,_,_,_,_,_,_,_,_,_,_,_,_,_,_,_,_,_,_,_,_,_,_,_,_,_,_]) rfl ?_
        refine l_val s8 (y_as rfl (ev_of rfl)) rfl rfl (l' := [_,_,_,_,_,_,_,_,_,_,_,_,_,_,_,_,_,_,_,_,_,_,_,_,_,_,_,_,_,_,_,_,_,_,_,_,_]) rfl ?_
        refine l_val s8 (y_as rfl (ev_of rfl)) rfl rfl (l' := [_,_,_,_,_,_,_,_,_,_,_,_,_,_,_,_,_,_,_,_,_,_,_,_,_,_,_,_,_,_,_,_,_,_,_,_,_]) rfl ?_
        refine l_end ?_
        refine x_thenN ?_
        refine c_ret ?_
        refine r2 rfl rfl rfl ?_
        refine ⟨some ⟨b', 0, none⟩, by rw [hk0]; rfl, .inl ⟨hk0, b', rfl⟩, ?_⟩
        rw [scL, if_pos hk0]
        show SL e w9 (GrO (some ⟨b', 0, none⟩) (W * K) (H * K) (gen (W * K) (H * K) fun x y => at2 W vs (x / K) (y / K)) :: L)
        exact gro_shut (s8.sub (by first | (repeat first | with_reducible exact Sub.refl _ | refine Sub.skip _ ?_); done | (repeat first | with_reducible exact Sub.refl _ | exact Sub.nil _ | refine Sub.take (by repeat first | with_reducible exact Take.here _ _ | apply Take.there) ?_ | refine Sub.skip _ ?_)))
set_option maxHeartbeats 4000000 in
set_option maxRecDepth 100000 in
/-- hachure/hachureref07.Within -/
theorem refWithin_c {e : Env} {L : List Asn} {w : World} {x0 y0 x1 y1 wd ht : Int} (s : SL e w L) :
    Calls Try.prog 213 #[.agg #[.int .i64 x0, .int .i64 y0, .int .i64 x1, .int .i64 y1], .int .i64 wd, .int .i64 ht] w (Rets fun v w' => v = .int .i64 (withinF x0 y0 x1 y1 wd ht) ∧ SL e w' L) := by
  refine enter Try.func213 rfl (l := [.agg #[.int .i64 x0, .int .i64 y0, .int .i64 x1, .int .i64 y1], .int .i64 wd, .int .i64 ht, undef, undef, undef, undef, undef, undef, undef, undef, undef, undef, undef, undef, undef, undef, undef, undef, undef, undef, undef, undef, undef, undef, undef, undef, undef, undef, undef, undef, undef, undef, undef, undef, undef, undef, undef, undef, undef, undef, undef, undef, undef, undef, undef, undef, undef, undef, undef, undef, undef, undef, undef, undef, undef, undef, undef, undef, undef, undef, undef, undef, undef, undef, undef, undef, undef, undef, undef, undef, undef, undef, undef, undef]) rfl ?_
  refine c_seq ?_
  refine c_region ?_
  refine l_box s rfl rfl rfl (ev_of rfl) (fun b3 w2 s1 => ?_)
  change SL _ _ (Blk _ #[_, _, _, _] _ :: _) at s1
  clear s
  refine nlL (l' := _) rfl ?_
  refine l_val s1 (y_as rfl (ev_of rfl)) rfl rfl (l' := [_,_,_,_,_,_,_,_,_,_,_,_,_,_,_,_,_,_,_,_,_,_,_,_,_,_,_,_,_,_,_,_,_,_,_,_,_,_,_,_,_,_,_,_,_,_,_,_,_,_,_,_,_,_,_,_,_,_,_,_,_,_,_,_,_,_,_,_,_,_,_,_,_,_,_]) rfl ?_
  refine l_end ?_
  refine x_thenN ?_
  refine c_seq ?_
  refine c_seq ?_
  refine c_region ?_
  refine l_val s1 (y_mv rfl (ev_of rfl)) rfl rfl (l' := _) rfl ?_
  refine l_val s1 (y_lss rfl (ev_of rfl) (ev_of rfl)) rfl rfl (l' := [_,_,_,_,_,_,_,_,_,_,_,_,_,_,_,_,_,_,_,_,_,_,_,_,_,_,_,_,_,_,_,_,_,_,_,_,_,_,_,_,_,_,_,_,_,_,_,_,_,_,_,_,_,_,_,_,_,_,_,_,_,_,_,_,_,_,_,_,_,_,_,_,_,_,_]) rfl ?_
  refine l_val s1 (y_mv rfl (ev_of rfl)) rfl rfl (l' := _) rfl ?_
  refine l_split (t := 9) rfl (fun hg4 => ?_) (fun hg4 => ?_)
  · (try simp only [decide_eq_true_eq, decide_eq_false_iff_not, Bool.not_eq_true', Bool.not_eq_false'] at hg4)
    refine nlL (l' := [_,_,_,_,_,_,_,_,_,_,_,_,_,_,_,_,_,_,_,_,_,_,_,_,_,_,_,_,_,_,_,_,_,_,_,_,_,_,_,_,_,_,_,_,_,_,_,_,_,_,_,_,_,_,_,_,_,_,_,_,_,_,_,_,_,_,_,_,_,_,_,_,_,_,_]) rfl ?_
    refine l_skip (wanted_of rfl rfl rfl rfl rfl) rfl (l' := _) rfl ?_
    refine l_skip (wanted_of rfl rfl rfl rfl rfl) rfl (l' := [_,_,_,_,_,_,_,_,_,_,_,_,_,_,_,_,_,_,_,_,_,_,_,_,_,_,_,_,_,_,_,_,_,_,_,_,_,_,_,_,_,_,_,_,_,_,_,_,_,_,_,_,_,_,_,_,_,_,_,_,_,_,_,_,_,_,_,_,_,_,_,_,_,_,_]) rfl ?_
    refine l_val s1 (y_pick1 rfl (ev_of rfl) (ev_of rfl)) rfl rfl (l' := _) rfl ?_
    refine l_val s1 (y_mv rfl (ev_of rfl)) rfl rfl (l' := [_,_,_,_,_,_,_,_,_,_,_,_,_,_,_,_,_,_,_,_,_,_,_,_,_,_,_,_,_,_,_,_,_,_,_,_,_,_,_,_,_,_,_,_,_,_,_,_,_,_,_,_,_,_,_,_,_,_,_,_,_,_,_,_,_,_,_,_,_,_,_,_,_,_,_]) rfl ?_
    refine l_skip (wanted_of rfl rfl rfl rfl rfl) rfl (l' := _) rfl ?_
    refine l_skip (wanted_of rfl rfl rfl rfl rfl) rfl (l' := [_,_,_,_,_,_,_,_,_,_,_,_,_,_,_,_,_,_,_,_,_,_,_,_,_,_,_,_,_,_,_,_,_,_,_,_,_,_,_,_,_,_,_,_,_,_,_,_,_,_,_,_,_,_,_,_,_,_,_,_,_,_,_,_,_,_,_,_,_,_,_,_,_,_,_]) rfl ?_
    refine l_val s1 (y_pick1 rfl (ev_of rfl) (ev_of rfl)) rfl rfl (l' := _) rfl ?_
    refine l_val s1 (y_mv rfl (ev_of rfl)) rfl rfl (l' := [_,_,_,_,_,_,_,_,_,_,_,_,_,_,_,_,_,_,_,_,_,_,_,_,_,_,_,_,_,_,_,_,_,_,_,_,_,_,_,_,_,_,_,_,_,_,_,_,_,_,_,_,_,_,_,_,_,_,_,_,_,_,_,_,_,_,_,_,_,_,_,_,_,_,_]) rfl ?_
    refine l_skip (wanted_of rfl rfl rfl rfl rfl) rfl (l' := _) rfl ?_
    refine l_skip (wanted_of rfl rfl rfl rfl rfl) rfl (l' := [_,_,_,_,_,_,_,_,_,_,_,_,_,_,_,_,_,_,_,_,_,_,_,_,_,_,_,_,_,_,_,_,_,_,_,_,_,_,_,_,_,_,_,_,_,_,_,_,_,_,_,_,_,_,_,_,_,_,_,_,_,_,_,_,_,_,_,_,_,_,_,_,_,_,_]) rfl ?_
    refine l_val s1 (y_pick1 rfl (ev_of rfl) (ev_of rfl)) rfl rfl (l' := _) rfl ?_
    refine l_end ?_
    refine x_thenN ?_
    refine c_condT rfl ?_
    refine c_seq ?_
    refine c_region ?_
    refine l_val s1 (y_as rfl (ev_of rfl)) rfl rfl (l' := [_,_,_,_,_,_,_,_,_,_,_,_,_,_,_,_,_,_,_,_,_,_,_,_,_,_,_,_,_,_,_,_,_,_,_,_,_,_,_,_,_,_,_,_,_,_,_,_,_,_,_,_,_,_,_,_,_,_,_,_,_,_,_,_,_,_,_,_,_,_,_,_,_,_,_]) rfl ?_
    refine l_end ?_
    refine x_thenN ?_
    refine c_ret ?_
    refine x_thenR ?_
    refine r1 rfl rfl ?_
    exact ⟨by rw [withinF, if_pos (by omega)], s1.sub (by first | (repeat first | with_reducible exact Sub.refl _ | refine Sub.skip _ ?_); done | (repeat first | with_reducible exact Sub.refl _ | exact Sub.nil _ | refine Sub.take (by repeat first | with_reducible exact Take.here _ _ | apply Take.there) ?_ | refine Sub.skip _ ?_))⟩
  · (try simp only [decide_eq_true_eq, decide_eq_false_iff_not, Bool.not_eq_true', Bool.not_eq_false'] at hg4)
    refine nlL (l' := _) rfl ?_
    refine l_gval s1 (y_mv rfl (ev_of rfl)) (wanted_of rfl rfl rfl rfl rfl) rfl (l' := [_,_,_,_,_,_,_,_,_,_,_,_,_,_,_,_,_,_,_,_,_,_,_,_,_,_,_,_,_,_,_,_,_,_,_,_,_,_,_,_,_,_,_,_,_,_,_,_,_,_,_,_,_,_,_,_,_,_,_,_,_,_,_,_,_,_,_,_,_,_,_,_,_,_,_]) rfl ?_
    refine l_gval s1 (y_gtr rfl (ev_of rfl) (ev_of rfl)) (wanted_of rfl rfl rfl rfl rfl) rfl (l' := _) rfl ?_
    refine l_val s1 (y_pick0 rfl (ev_of rfl) (ev_of rfl)) rfl rfl (l' := [_,_,_,_,_,_,_,_,_,_,_,_,_,_,_,_,_,_,_,_,_,_,_,_,_,_,_,_,_,_,_,_,_,_,_,_,_,_,_,_,_,_,_,_,_,_,_,_,_,_,_,_,_,_,_,_,_,_,_,_,_,_,_,_,_,_,_,_,_,_,_,_,_,_,_]) rfl ?_
    refine l_val s1 (y_mv rfl (ev_of rfl)) rfl rfl (l' := _) rfl ?_
    refine l_split (t := 13) rfl (fun hg5 => ?_) (fun hg5 => ?_)
    · (try simp only [decide_eq_true_eq, decide_eq_false_iff_not, Bool.not_eq_true', Bool.not_eq_false'] at hg5)
      refine nlL (l' := [_,_,_,_,_,_,_,_,_,_,_,_,_,_,_,_,_,_,_,_,_,_,_,_,_,_,_,_,_,_,_,_,_,_,_,_,_,_,_,_,_,_,_,_,_,_,_,_,_,_,_,_,_,_,_,_,_,_,_,_,_,_,_,_,_,_,_,_,_,_,_,_,_,_,_]) rfl ?_
      refine l_skip (wanted_of rfl rfl rfl rfl rfl) rfl (l' := _) rfl ?_
      refine l_skip (wanted_of rfl rfl rfl rfl rfl) rfl (l' := [_,_,_,_,_,_,_,_,_,_,_,_,_,_,_,_,_,_,_,_,_,_,_,_,_,_,_,_,_,_,_,_,_,_,_,_,_,_,_,_,_,_,_,_,_,_,_,_,_,_,_,_,_,_,_,_,_,_,_,_,_,_,_,_,_,_,_,_,_,_,_,_,_,_,_]) rfl ?_
      refine l_val s1 (y_pick1 rfl (ev_of rfl) (ev_of rfl)) rfl rfl (l' := _) rfl ?_
      refine l_val s1 (y_mv rfl (ev_of rfl)) rfl rfl (l' := [_,_,_,_,_,_,_,_,_,_,_,_,_,_,_,_,_,_,_,_,_,_,_,_,_,_,_,_,_,_,_,_,_,_,_,_,_,_,_,_,_,_,_,_,_,_,_,_,_,_,_,_,_,_,_,_,_,_,_,_,_,_,_,_,_,_,_,_,_,_,_,_,_,_,_]) rfl ?_
      refine l_skip (wanted_of rfl rfl rfl rfl rfl) rfl (l' := _) rfl ?_
      refine l_skip (wanted_of rfl rfl rfl rfl rfl) rfl (l' := [_,_,_,_,_,_,_,_,_,_,_,_,_,_,_,_,_,_,_,_,_,_,_,_,_,_,_,_,_,_,_,_,_,_,_,_,_,_,_,_,_,_,_,_,_,_,_,_,_,_,_,_,_,_,_,_,_,_,_,_,_,_,_,_,_,_,_,_,_,_,_,_,_,_,_]) rfl ?_
      refine l_val s1 (y_pick1 rfl (ev_of rfl) (ev_of rfl)) rfl rfl (l' := _) rfl ?_
      refine l_end ?_
      refine x_thenN ?_
      refine c_condT rfl ?_
      refine c_seq ?_
      refine c_region ?_
      refine l_val s1 (y_as rfl (ev_of rfl)) rfl rfl (l' := [_,_,_,_,_,_,_,_,_,_,_,_,_,_,_,_,_,_,_,_,_,_,_,_,_,_,_,_,_,_,_,_,_,_,_,_,_,_,_,_,_,_,_,_,_,_,_,_,_,_,_,_,_,_,_,_,_,_,_,_,_,_,_,_,_,_,_,_,_,_,_,_,_,_,_]) rfl ?_
      refine l_end ?_
      refine x_thenN ?_
      refine c_ret ?_
      refine x_thenR ?_
      refine r1 rfl rfl ?_
      exact ⟨by rw [withinF, if_pos (by omega)], s1.sub (by first | (repeat first | with_reducible exact Sub.refl _ | refine Sub.skip _ ?_); done | (repeat first | with_reducible exact Sub.refl _ | exact Sub.nil _ | refine Sub.take (by repeat first | with_reducible exact Take.here _ _ | apply Take.there) ?_ | refine Sub.skip _ ?_))⟩
    · (try simp only [decide_eq_true_eq, decide_eq_false_iff_not, Bool.not_eq_true', Bool.not_eq_false'] at hg5)
      refine nlL (l' := _) rfl ?_
      refine l_gval s1 (y_mv rfl (ev_of rfl)) (wanted_of rfl rfl rfl rfl rfl) rfl (l' := [_,_,_,_,_,_,_,_,_,_,_,_,_,_,_,_,_,_,_,_,_,_,_,_,_,_,_,_,_,_,_,_,_,_,_,_,_,_,_,_,_,_,_,_,_,_,_,_,_,_,_,_,_,_,_,_,_,_,_,_,_,_,_,_,_,_,_,_,_,_,_,_,_,_,_]) rfl ?_
      refine l_gval s1 (y_lss rfl (ev_of rfl) (ev_of rfl)) (wanted_of rfl rfl rfl rfl rfl) rfl (l' := _) rfl ?_
      refine l_val s1 (y_pick0 rfl (ev_of rfl) (ev_of rfl)) rfl rfl (l' := [_,_,_,_,_,_,_,_,_,_,_,_,_,_,_,_,_,_,_,_,_,_,_,_,_,_,_,_,_,_,_,_,_,_,_,_,_,_,_,_,_,_,_,_,_,_,_,_,_,_,_,_,_,_,_,_,_,_,_,_,_,_,_,_,_,_,_,_,_,_,_,_,_,_,_]) rfl ?_
      refine l_val s1 (y_mv rfl (ev_of rfl)) rfl rfl (l' := _) rfl ?_
      refine l_split (t := 17) rfl (fun hg6 => ?_) (fun hg6 => ?_)
      · (try simp only [decide_eq_true_eq, decide_eq_false_iff_not, Bool.not_eq_true', Bool.not_eq_false'] at hg6)
        refine nlL (l' := [_,_,_,_,_,_,_,_,_,_,_,_,_,_,_,_,_,_,_,_,_,_,_,_,_,_,_,_,_,_,_,_,_,_,_,_,_,_,_,_,_,_,_,_,_,_,_,_,_,_,_,_,_,_,_,_,_,_,_,_,_,_,_,_,_,_,_,_,_,_,_,_,_,_,_]) rfl ?_
        refine l_skip (wanted_of rfl rfl rfl rfl rfl) rfl (l' := _) rfl ?_
        refine l_skip (wanted_of rfl rfl rfl rfl rfl) rfl (l' := [_,_,_,_,_,_,_,_,_,_,_,_,_,_,_,_,_,_,_,_,_,_,_,_,_,_,_,_,_,_,_,_,_,_,_,_,_,_,_,_,_,_,_,_,_,_,_,_,_,_,_,_,_,_,_,_,_,_,_,_,_,_,_,_,_,_,_,_,_,_,_,_,_,_,_]) rfl ?_
        refine l_val s1 (y_pick1 rfl (ev_of rfl) (ev_of rfl)) rfl rfl (l' := _) rfl ?_
        refine l_end ?_
        refine x_thenN ?_
        refine c_condT rfl ?_
        refine c_seq ?_
        refine c_region ?_
        refine l_val s1 (y_as rfl (ev_of rfl)) rfl rfl (l' := [_,_,_,_,_,_,_,_,_,_,_,_,_,_,_,_,_,_,_,_,_,_,_,_,_,_,_,_,_,_,_,_,_,_,_,_,_,_,_,_,_,_,_,_,_,_,_,_,_,_,_,_,_,_,_,_,_,_,_,_,_,_,_,_,_,_,_,_,_,_,_,_,_,_,_]) rfl ?_
        refine l_end ?_
        refine x_thenN ?_
        refine c_ret ?_
        refine x_thenR ?_
        refine r1 rfl rfl ?_
        exact ⟨by rw [withinF, if_pos (by omega)], s1.sub (by first | (repeat first | with_reducible exact Sub.refl _ | refine Sub.skip _ ?_); done | (repeat first | with_reducible exact Sub.refl _ | exact Sub.nil _ | refine Sub.take (by repeat first | with_reducible exact Take.here _ _ | apply Take.there) ?_ | refine Sub.skip _ ?_))⟩
      · (try simp only [decide_eq_true_eq, decide_eq_false_iff_not, Bool.not_eq_true', Bool.not_eq_false'] at hg6)
        refine nlL (l' := _) rfl ?_
        refine l_gval s1 (y_mv rfl (ev_of rfl)) (wanted_of rfl rfl rfl rfl rfl) rfl (l' := [_,_,_,_,_,_,_,_,_,_,_,_,_,_,_,_,_,_,_,_,_,_,_,_,_,_,_,_,_,_,_,_,_,_,_,_,_,_,_,_,_,_,_,_,_,_,_,_,_,_,_,_,_,_,_,_,_,_,_,_,_,_,_,_,_,_,_,_,_,_,_,_,_,_,_]) rfl ?_
        refine l_gval s1 (y_gtr rfl (ev_of rfl) (ev_of rfl)) (wanted_of rfl rfl rfl rfl rfl) rfl (l' := _) rfl ?_
        refine l_val s1 (y_pick0 rfl (ev_of rfl) (ev_of rfl)) rfl rfl (l' := [_,_,_,_,_,_,_,_,_,_,_,_,_,_,_,_,_,_,_,_,_,_,_,_,_,_,_,_,_,_,_,_,_,_,_,_,_,_,_,_,_,_,_,_,_,_,_,_,_,_,_,_,_,_,_,_,_,_,_,_,_,_,_,_,_,_,_,_,_,_,_,_,_,_,_]) rfl ?_
        refine l_end ?_
        refine x_thenN ?_
        refine c_if rfl (fun hc0 => ?_) (fun hc0 => ?_)
        · (try simp only [decide_eq_true_eq, decide_eq_false_iff_not, Bool.not_eq_true', Bool.not_eq_false'] at hc0)
          refine c_seq ?_
          refine c_region ?_
          refine l_val s1 (y_as rfl (ev_of rfl)) rfl rfl (l' := _) rfl ?_
          refine l_end ?_
          refine x_thenN ?_
          refine c_ret ?_
          refine x_thenR ?_
          refine r1 rfl rfl ?_
          exact ⟨by rw [withinF, if_pos (by omega)], s1.sub (by first | (repeat first | with_reducible exact Sub.refl _ | refine Sub.skip _ ?_); done | (repeat first | with_reducible exact Sub.refl _ | exact Sub.nil _ | refine Sub.take (by repeat first | with_reducible exact Take.here _ _ | apply Take.there) ?_ | refine Sub.skip _ ?_))⟩
        · (try simp only [decide_eq_true_eq, decide_eq_false_iff_not, Bool.not_eq_true', Bool.not_eq_false'] at hc0)
          refine c_skip ?_
          refine x_thenN ?_
          refine c_seq ?_
          refine c_seq ?_
          refine c_region ?_
          refine l_val s1 (y_fieldAddrB rfl Ty.fld58_0 Ty.size2 (ev_of rfl)) rfl rfl (l' := [_,_,_,_,_,_,_,_,_,_,_,_,_,_,_,_,_,_,_,_,_,_,_,_,_,_,_,_,_,_,_,_,_,_,_,_,_,_,_,_,_,_,_,_,_,_,_,_,_,_,_,_,_,_,_,_,_,_,_,_,_,_,_,_,_,_,_,_,_,_,_,_,_,_,_]) rfl ?_
          refine l_val s1 (y_load rfl Ty.some2 Ty.agg2 (ev_of rfl) (by repeat first | exact ent_cell rfl | assumption | refine Ent.there ?_)) rfl rfl (l' := _) rfl ?_
          refine l_val s1 (y_lss rfl (ev_of rfl) (ev_of rfl)) rfl rfl (l' := [_,_,_,_,_,_,_,_,_,_,_,_,_,_,_,_,_,_,_,_,_,_,_,_,_,_,_,_,_,_,_,_,_,_,_,_,_,_,_,_,_,_,_,_,_,_,_,_,_,_,_,_,_,_,_,_,_,_,_,_,_,_,_,_,_,_,_,_,_,_,_,_,_,_,_]) rfl ?_
          refine l_val s1 (y_mv rfl (ev_of rfl)) rfl rfl (l' := _) rfl ?_
          refine l_split (t := 24) rfl (fun hg7 => ?_) (fun hg7 => ?_)
          · (try simp only [decide_eq_true_eq, decide_eq_false_iff_not, Bool.not_eq_true', Bool.not_eq_false'] at hg7)
            refine nlL (l' := [_,_,_,_,_,_,_,_,_,_,_,_,_,_,_,_,_,_,_,_,_,_,_,_,_,_,_,_,_,_,_,_,_,_,_,_,_,_,_,_,_,_,_,_,_,_,_,_,_,_,_,_,_,_,_,_,_,_,_,_,_,_,_,_,_,_,_,_,_,_,_,_,_,_,_]) rfl ?_
            refine l_skip (wanted_of rfl rfl rfl rfl rfl) rfl (l' := _) rfl ?_
            refine l_skip (wanted_of rfl rfl rfl rfl rfl) rfl (l' := [_,_,_,_,_,_,_,_,_,_,_,_,_,_,_,_,_,_,_,_,_,_,_,_,_,_,_,_,_,_,_,_,_,_,_,_,_,_,_,_,_,_,_,_,_,_,_,_,_,_,_,_,_,_,_,_,_,_,_,_,_,_,_,_,_,_,_,_,_,_,_,_,_,_,_]) rfl ?_
            refine l_skip (wanted_of rfl rfl rfl rfl rfl) rfl (l' := _) rfl ?_
            refine l_skip (wanted_of rfl rfl rfl rfl rfl) rfl (l' := [_,_,_,_,_,_,_,_,_,_,_,_,_,_,_,_,_,_,_,_,_,_,_,_,_,_,_,_,_,_,_,_,_,_,_,_,_,_,_,_,_,_,_,_,_,_,_,_,_,_,_,_,_,_,_,_,_,_,_,_,_,_,_,_,_,_,_,_,_,_,_,_,_,_,_]) rfl ?_
            refine l_val s1 (y_pick1 rfl (ev_of rfl) (ev_of rfl)) rfl rfl (l' := _) rfl ?_
            refine l_val s1 (y_mv rfl (ev_of rfl)) rfl rfl (l' := [_,_,_,_,_,_,_,_,_,_,_,_,_,_,_,_,_,_,_,_,_,_,_,_,_,_,_,_,_,_,_,_,_,_,_,_,_,_,_,_,_,_,_,_,_,_,_,_,_,_,_,_,_,_,_,_,_,_,_,_,_,_,_,_,_,_,_,_,_,_,_,_,_,_,_]) rfl ?_
            refine l_skip (wanted_of rfl rfl rfl rfl rfl) rfl (l' := _) rfl ?_
            refine l_skip (wanted_of rfl rfl rfl rfl rfl) rfl (l' := [_,_,_,_,_,_,_,_,_,_,_,_,_,_,_,_,_,_,_,_,_,_,_,_,_,_,_,_,_,_,_,_,_,_,_,_,_,_,_,_,_,_,_,_,_,_,_,_,_,_,_,_,_,_,_,_,_,_,_,_,_,_,_,_,_,_,_,_,_,_,_,_,_,_,_]) rfl ?_
            refine l_skip (wanted_of rfl rfl rfl rfl rfl) rfl (l' := _) rfl ?_
            refine l_val s1 (y_pick1 rfl (ev_of rfl) (ev_of rfl)) rfl rfl (l' := [_,_,_,_,_,_,_,_,_,_,_,_,_,_,_,_,_,_,_,_,_,_,_,_,_,_,_,_,_,_,_,_,_,_,_,_,_,_,_,_,_,_,_,_,_,_,_,_,_,_,_,_,_,_,_,_,_,_,_,_,_,_,_,_,_,_,_,_,_,_,_,_,_,_,_]) rfl ?_
            refine l_val s1 (y_mv rfl (ev_of rfl)) rfl rfl (l' := _) rfl ?_
            refine l_skip (wanted_of rfl rfl rfl rfl rfl) rfl (l' := [_,_,_,_,_,_,_,_,_,_,_,_,_,_,_,_,_,_,_,_,_,_,_,_,_,_,_,_,_,_,_,_,_,_,_,_,_,_,_,_,_,_,_,_,_,_,_,_,_,_,_,_,_,_,_,_,_,_,_,_,_,_,_,_,_,_,_,_,_,_,_,_,_,_,_]) rfl ?_
            refine l_skip (wanted_of rfl rfl rfl rfl rfl) rfl (l' := _) rfl ?_
            refine l_skip (wanted_of rfl rfl rfl rfl rfl) rfl (l' := [_,_,_,_,_,_,_,_,_,_,_,_,_,_,_,_,_,_,_,_,_,_,_,_,_,_,_,_,_,_,_,_,_,_,_,_,_,_,_,_,_,_,_,_,_,_,_,_,_,_,_,_,_,_,_,_,_,_,_,_,_,_,_,_,_,_,_,_,_,_,_,_,_,_,_]) rfl ?_
            refine l_skip (wanted_of rfl rfl rfl rfl rfl) rfl (l' := _) rfl ?_
            refine l_val s1 (y_pick1 rfl (ev_of rfl) (ev_of rfl)) rfl rfl (l' := [_,_,_,_,_,_,_,_,_,_,_,_,_,_,_,_,_,_,_,_,_,_,_,_,_,_,_,_,_,_,_,_,_,_,_,_,_,_,_,_,_,_,_,_,_,_,_,_,_,_,_,_,_,_,_,_,_,_,_,_,_,_,_,_,_,_,_,_,_,_,_,_,_,_,_]) rfl ?_
            refine l_val s1 (y_mv rfl (ev_of rfl)) rfl rfl (l' := _) rfl ?_
            refine l_skip (wanted_of rfl rfl rfl rfl rfl) rfl (l' := [_,_,_,_,_,_,_,_,_,_,_,_,_,_,_,_,_,_,_,_,_,_,_,_,_,_,_,_,_,_,_,_,_,_,_,_,_,_,_,_,_,_,_,_,_,_,_,_,_,_,_,_,_,_,_,_,_,_,_,_,_,_,_,_,_,_,_,_,_,_,_,_,_,_,_]) rfl ?_
            refine l_skip (wanted_of rfl rfl rfl rfl rfl) rfl (l' := _) rfl ?_
            refine l_skip (wanted_of rfl rfl rfl rfl rfl) rfl (l' := [_,_,_,_,_,_,_,_,_,_,_,_,_,_,_,_,_,_,_,_,_,_,_,_,_,_,_,_,_,_,_,_,_,_,_,_,_,_,_,_,_,_,_,_,_,_,_,_,_,_,_,_,_,_,_,_,_,_,_,_,_,_,_,_,_,_,_,_,_,_,_,_,_,_,_]) rfl ?_
            refine l_val s1 (y_pick1 rfl (ev_of rfl) (ev_of rfl)) rfl rfl (l' := _) rfl ?_
            refine l_val s1 (y_mv rfl (ev_of rfl)) rfl rfl (l' := [_,_,_,_,_,_,_,_,_,_,_,_,_,_,_,_,_,_,_,_,_,_,_,_,_,_,_,_,_,_,_,_,_,_,_,_,_,_,_,_,_,_,_,_,_,_,_,_,_,_,_,_,_,_,_,_,_,_,_,_,_,_,_,_,_,_,_,_,_,_,_,_,_,_,_]) rfl ?_
            refine l_skip (wanted_of rfl rfl rfl rfl rfl) rfl (l' := _) rfl ?_
            refine l_skip (wanted_of rfl rfl rfl rfl rfl) rfl (l' := [_,_,_,_,_,_,_,_,_,_,_,_,_,_,_,_,_,_,_,_,_,_,_,_,_,_,_,_,_,_,_,_,_,_,_,_,_,_,_,_,_,_,_,_,_,_,_,_,_,_,_,_,_,_,_,_,_,_,_,_,_,_,_,_,_,_,_,_,_,_,_,_,_,_,_]) rfl ?_
            refine l_skip (wanted_of rfl rfl rfl rfl rfl) rfl (l' := _) rfl ?_
            refine l_skip (wanted_of rfl rfl rfl rfl rfl) rfl (l' := [_,_,_,_,_,_,_,_,_,_,_,_,_,_,_,_,_,_,_,_,_,_,_,_,_,_,_,_,_,_,_,_,_,_,_,_,_,_,_,_,_,_,_,_,_,_,_,_,_,_,_,_,_,_,_,_,_,_,_,_,_,_,_,_,_,_,_,_,_,_,_,_,_,_,_]) rfl ?_
            refine l_val s1 (y_pick1 rfl (ev_of rfl) (ev_of rfl)) rfl rfl (l' := _) rfl ?_
            refine l_val s1 (y_mv rfl (ev_of rfl)) rfl rfl (l' := [_,_,_,_,_,_,_,_,_,_,_,_,_,_,_,_,_,_,_,_,_,_,_,_,_,_,_,_,_,_,_,_,_,_,_,_,_,_,_,_,_,_,_,_,_,_,_,_,_,_,_,_,_,_,_,_,_,_,_,_,_,_,_,_,_,_,_,_,_,_,_,_,_,_,_]) rfl ?_
            refine l_skip (wanted_of rfl rfl rfl rfl rfl) rfl (l' := _) rfl ?_
            refine l_skip (wanted_of rfl rfl rfl rfl rfl) rfl (l' := [_,_,_,_,_,_,_,_,_,_,_,_,_,_,_,_,_,_,_,_,_,_,_,_,_,_,_,_,_,_,_,_,_,_,_,_,_,_,_,_,_,_,_,_,_,_,_,_,_,_,_,_,_,_,_,_,_,_,_,_,_,_,_,_,_,_,_,_,_,_,_,_,_,_,_]) rfl ?_
            refine l_skip (wanted_of rfl rfl rfl rfl rfl) rfl (l' := _) rfl ?_
            refine l_val s1 (y_pick1 rfl (ev_of rfl) (ev_of rfl)) rfl rfl (l' := [_,_,_,_,_,_,_,_,_,_,_,_,_,_,_,_,_,_,_,_,_,_,_,_,_,_,_,_,_,_,_,_,_,_,_,_,_,_,_,_,_,_,_,_,_,_,_,_,_,_,_,_,_,_,_,_,_,_,_,_,_,_,_,_,_,_,_,_,_,_,_,_,_,_,_]) rfl ?_
            refine l_val s1 (y_mv rfl (ev_of rfl)) rfl rfl (l' := _) rfl ?_
            refine l_skip (wanted_of rfl rfl rfl rfl rfl) rfl (l' := [_,_,_,_,_,_,_,_,_,_,_,_,_,_,_,_,_,_,_,_,_,_,_,_,_,_,_,_,_,_,_,_,_,_,_,_,_,_,_,_,_,_,_,_,_,_,_,_,_,_,_,_,_,_,_,_,_,_,_,_,_,_,_,_,_,_,_,_,_,_,_,_,_,_,_]) rfl ?_
            refine l_skip (wanted_of rfl rfl rfl rfl rfl) rfl (l' := _) rfl ?_
            refine l_skip (wanted_of rfl rfl rfl rfl rfl) rfl (l' := [_,_,_,_,_,_,_,_,_,_,_,_,_,_,_,_,_,_,_,_,_,_,_,_,_,_,_,_,_,_,_,_,_,_,_,_,_,_,_,_,_,_,_,_,_,_,_,_,_,_,_,_,_,_,_,_,_,_,_,_,_,_,_,_,_,_,_,_,_,_,_,_,_,_,_]) rfl ?_
            refine l_skip (wanted_of rfl rfl rfl rfl rfl) rfl (l' := _) rfl ?_
            refine l_val s1 (y_pick1 rfl (ev_of rfl) (ev_of rfl)) rfl rfl (l' := [_,_,_,_,_,_,_,_,_,_,_,_,_,_,_,_,_,_,_,_,_,_,_,_,_,_,_,_,_,_,_,_,_,_,_,_,_,_,_,_,_,_,_,_,_,_,_,_,_,_,_,_,_,_,_,_,_,_,_,_,_,_,_,_,_,_,_,_,_,_,_,_,_,_,_]) rfl ?_
            refine l_end ?_
            refine x_thenN ?_
            refine c_condT rfl ?_
            refine c_seq ?_
            refine c_region ?_
            refine l_val s1 (y_as rfl (ev_of rfl)) rfl rfl (l' := _) rfl ?_
            refine l_end ?_
            refine x_thenN ?_
            refine c_ret ?_
            refine x_thenR ?_
            refine r1 rfl rfl ?_
            exact ⟨by rw [withinF, if_neg (by omega), if_pos (by omega)], s1.sub (by first | (repeat first | with_reducible exact Sub.refl _ | refine Sub.skip _ ?_); done | (repeat first | with_reducible exact Sub.refl _ | exact Sub.nil _ | refine Sub.take (by repeat first | with_reducible exact Take.here _ _ | apply Take.there) ?_ | refine Sub.skip _ ?_))⟩
          · (try simp only [decide_eq_true_eq, decide_eq_false_iff_not, Bool.not_eq_true', Bool.not_eq_false'] at hg7)
            refine nlL (l' := [_,_,_,_,_,_,_,_,_,_,_,_,_,_,_,_,_,_,_,_,_,_,_,_,_,_,_,_,_,_,_,_,_,_,_,_,_,_,_,_,_,_,_,_,_,_,_,_,_,_,_,_,_,_,_,_,_,_,_,_,_,_,_,_,_,_,_,_,_,_,_,_,_,_,_]) rfl ?_
            refine l_gval s1 (y_fieldAddrB rfl Ty.fld58_0 Ty.size2 (ev_of rfl)) (wanted_of rfl rfl rfl rfl rfl) rfl (l' := _) rfl ?_
            refine l_gval s1 (y_load rfl Ty.some2 Ty.agg2 (ev_of rfl) (by repeat first | exact ent_cell rfl | assumption | refine Ent.there ?_)) (wanted_of rfl rfl rfl rfl rfl) rfl (l' := [_,_,_,_,_,_,_,_,_,_,_,_,_,_,_,_,_,_,_,_,_,_,_,_,_,_,_,_,_,_,_,_,_,_,_,_,_,_,_,_,_,_,_,_,_,_,_,_,_,_,_,_,_,_,_,_,_,_,_,_,_,_,_,_,_,_,_,_,_,_,_,_,_,_,_]) rfl ?_
            refine l_gval s1 (y_mv rfl (ev_of rfl)) (wanted_of rfl rfl rfl rfl rfl) rfl (l' := _) rfl ?_
            refine l_gval s1 (y_geq rfl (ev_of rfl) (ev_of rfl)) (wanted_of rfl rfl rfl rfl rfl) rfl (l' := [_,_,_,_,_,_,_,_,_,_,_,_,_,_,_,_,_,_,_,_,_,_,_,_,_,_,_,_,_,_,_,_,_,_,_,_,_,_,_,_,_,_,_,_,_,_,_,_,_,_,_,_,_,_,_,_,_,_,_,_,_,_,_,_,_,_,_,_,_,_,_,_,_,_,_]) rfl ?_
            refine l_val s1 (y_pick0 rfl (ev_of rfl) (ev_of rfl)) rfl rfl (l' := _) rfl ?_
            refine l_val s1 (y_mv rfl (ev_of rfl)) rfl rfl (l' := [_,_,_,_,_,_,_,_,_,_,_,_,_,_,_,_,_,_,_,_,_,_,_,_,_,_,_,_,_,_,_,_,_,_,_,_,_,_,_,_,_,_,_,_,_,_,_,_,_,_,_,_,_,_,_,_,_,_,_,_,_,_,_,_,_,_,_,_,_,_,_,_,_,_,_]) rfl ?_
            refine l_split (t := 30) rfl (fun hg8 => ?_) (fun hg8 => ?_)
            · (try simp only [decide_eq_true_eq, decide_eq_false_iff_not, Bool.not_eq_true', Bool.not_eq_false'] at hg8)
              refine nlL (l' := _) rfl ?_
              refine l_skip (wanted_of rfl rfl rfl rfl rfl) rfl (l' := [_,_,_,_,_,_,_,_,_,_,_,_,_,_,_,_,_,_,_,_,_,_,_,_,_,_,_,_,_,_,_,_,_,_,_,_,_,_,_,_,_,_,_,_,_,_,_,_,_,_,_,_,_,_,_,_,_,_,_,_,_,_,_,_,_,_,_,_,_,_,_,_,_,_,_]) rfl ?_
              refine l_skip (wanted_of rfl rfl rfl rfl rfl) rfl (l' := _) rfl ?_
              refine l_skip (wanted_of rfl rfl rfl rfl rfl) rfl (l' := [_,_,_,_,_,_,_,_,_,_,_,_,_,_,_,_,_,_,_,_,_,_,_,_,_,_,_,_,_,_,_,_,_,_,_,_,_,_,_,_,_,_,_,_,_,_,_,_,_,_,_,_,_,_,_,_,_,_,_,_,_,_,_,_,_,_,_,_,_,_,_,_,_,_,_]) rfl ?_
              refine l_val s1 (y_pick1 rfl (ev_of rfl) (ev_of rfl)) rfl rfl (l' := _) rfl ?_
              refine l_val s1 (y_mv rfl (ev_of rfl)) rfl rfl (l' := [_,_,_,_,_,_,_,_,_,_,_,_,_,_,_,_,_,_,_,_,_,_,_,_,_,_,_,_,_,_,_,_,_,_,_,_,_,_,_,_,_,_,_,_,_,_,_,_,_,_,_,_,_,_,_,_,_,_,_,_,_,_,_,_,_,_,_,_,_,_,_,_,_,_,_]) rfl ?_
              refine l_skip (wanted_of rfl rfl rfl rfl rfl) rfl (l' := _) rfl ?_
              refine l_skip (wanted_of rfl rfl rfl rfl rfl) rfl (l' := [_,_,_,_,_,_,_,_,_,_,_,_,_,_,_,_,_,_,_,_,_,_,_,_,_,_,_,_,_,_,_,_,_,_,_,_,_,_,_,_,_,_,_,_,_,_,_,_,_,_,_,_,_,_,_,_,_,_,_,_,_,_,_,_,_,_,_,_,_,_,_,_,_,_,_]) rfl ?_
              refine l_skip (wanted_of rfl rfl rfl rfl rfl) rfl (l' := _) rfl ?_
              refine l_skip (wanted_of rfl rfl rfl rfl rfl) rfl (l' := [_,_,_,_,_,_,_,_,_,_,_,_,_,_,_,_,_,_,_,_,_,_,_,_,_,_,_,_,_,_,_,_,_,_,_,_,_,_,_,_,_,_,_,_,_,_,_,_,_,_,_,_,_,_,_,_,_,_,_,_,_,_,_,_,_,_,_,_,_,_,_,_,_,_,_]) rfl ?_
              refine l_val s1 (y_pick1 rfl (ev_of rfl) (ev_of rfl)) rfl rfl (l' := _) rfl ?_
              refine l_val s1 (y_mv rfl (ev_of rfl)) rfl rfl (l' := [_,_,_,_,_,_,_,_,_,_,_,_,_,_,_,_,_,_,_,_,_,_,_,_,_,_,_,_,_,_,_,_,_,_,_,_,_,_,_,_,_,_,_,_,_,_,_,_,_,_,_,_,_,_,_,_,_,_,_,_,_,_,_,_,_,_,_,_,_,_,_,_,_,_,_]) rfl ?_
              refine l_skip (wanted_of rfl rfl rfl rfl rfl) rfl (l' := _) rfl ?_
              refine l_skip (wanted_of rfl rfl rfl rfl rfl) rfl (l' := [_,_,_,_,_,_,_,_,_,_,_,_,_,_,_,_,_,_,_,_,_,_,_,_,_,_,_,_,_,_,_,_,_,_,_,_,_,_,_,_,_,_,_,_,_,_,_,_,_,_,_,_,_,_,_,_,_,_,_,_,_,_,_,_,_,_,_,_,_,_,_,_,_,_,_]) rfl ?_
              refine l_skip (wanted_of rfl rfl rfl rfl rfl) rfl (l' := _) rfl ?_
              refine l_val s1 (y_pick1 rfl (ev_of rfl) (ev_of rfl)) rfl rfl (l' := [_,_,_,_,_,_,_,_,_,_,_,_,_,_,_,_,_,_,_,_,_,_,_,_,_,_,_,_,_,_,_,_,_,_,_,_,_,_,_,_,_,_,_,_,_,_,_,_,_,_,_,_,_,_,_,_,_,_,_,_,_,_,_,_,_,_,_,_,_,_,_,_,_,_,_]) rfl ?_
              refine l_val s1 (y_mv rfl (ev_of rfl)) rfl rfl (l' := _) rfl ?_
              refine l_skip (wanted_of rfl rfl rfl rfl rfl) rfl (l' := [_,_,_,_,_,_,_,_,_,_,_,_,_,_,_,_,_,_,_,_,_,_,_,_,_,_,_,_,_,_,_,_,_,_,_,_,_,_,_,_,_,_,_,_,_,_,_,_,_,_,_,_,_,_,_,_,_,_,_,_,_,_,_,_,_,_,_,_,_,_,_,_,_,_,_]) rfl ?_
              refine l_skip (wanted_of rfl rfl rfl rfl rfl) rfl (l' := _) rfl ?_
              refine l_skip (wanted_of rfl rfl rfl rfl rfl) rfl (l' := [_,_,_,_,_,_,_,_,_,_,_,_,_,_,_,_,_,_,_,_,_,_,_,_,_,_,_,_,_,_,_,_,_,_,_,_,_,_,_,_,_,_,_,_,_,_,_,_,_,_,_,_,_,_,_,_,_,_,_,_,_,_,_,_,_,_,_,_,_,_,_,_,_,_,_]) rfl ?_
              refine l_skip (wanted_of rfl rfl rfl rfl rfl) rfl (l' := _) rfl ?_
              refine l_val s1 (y_pick1 rfl (ev_of rfl) (ev_of rfl)) rfl rfl (l' := [_,_,_,_,_,_,_,_,_,_,_,_,_,_,_,_,_,_,_,_,_,_,_,_,_,_,_,_,_,_,_,_,_,_,_,_,_,_,_,_,_,_,_,_,_,_,_,_,_,_,_,_,_,_,_,_,_,_,_,_,_,_,_,_,_,_,_,_,_,_,_,_,_,_,_]) rfl ?_
              refine l_val s1 (y_mv rfl (ev_of rfl)) rfl rfl (l' := _) rfl ?_
              refine l_skip (wanted_of rfl rfl rfl rfl rfl) rfl (l' := [_,_,_,_,_,_,_,_,_,_,_,_,_,_,_,_,_,_,_,_,_,_,_,_,_,_,_,_,_,_,_,_,_,_,_,_,_,_,_,_,_,_,_,_,_,_,_,_,_,_,_,_,_,_,_,_,_,_,_,_,_,_,_,_,_,_,_,_,_,_,_,_,_,_,_]) rfl ?_
              refine l_skip (wanted_of rfl rfl rfl rfl rfl) rfl (l' := _) rfl ?_
              refine l_skip (wanted_of rfl rfl rfl rfl rfl) rfl (l' := [_,_,_,_,_,_,_,_,_,_,_,_,_,_,_,_,_,_,_,_,_,_,_,_,_,_,_,_,_,_,_,_,_,_,_,_,_,_,_,_,_,_,_,_,_,_,_,_,_,_,_,_,_,_,_,_,_,_,_,_,_,_,_,_,_,_,_,_,_,_,_,_,_,_,_]) rfl ?_
              refine l_val s1 (y_pick1 rfl (ev_of rfl) (ev_of rfl)) rfl rfl (l' := _) rfl ?_
              refine l_val s1 (y_mv rfl (ev_of rfl)) rfl rfl (l' := [_,_,_,_,_,_,_,_,_,_,_,_,_,_,_,_,_,_,_,_,_,_,_,_,_,_,_,_,_,_,_,_,_,_,_,_,_,_,_,_,_,_,_,_,_,_,_,_,_,_,_,_,_,_,_,_,_,_,_,_,_,_,_,_,_,_,_,_,_,_,_,_,_,_,_]) rfl ?_
              refine l_skip (wanted_of rfl rfl rfl rfl rfl) rfl (l' := _) rfl ?_
              refine l_skip (wanted_of rfl rfl rfl rfl rfl) rfl (l' := [_,_,_,_,_,_,_,_,_,_,_,_,_,_,_,_,_,_,_,_,_,_,_,_,_,_,_,_,_,_,_,_,_,_,_,_,_,_,_,_,_,_,_,_,_,_,_,_,_,_,_,_,_,_,_,_,_,_,_,_,_,_,_,_,_,_,_,_,_,_,_,_,_,_,_]) rfl ?_
              refine l_skip (wanted_of rfl rfl rfl rfl rfl) rfl (l' := _) rfl ?_
              refine l_skip (wanted_of rfl rfl rfl rfl rfl) rfl (l' := [_,_,_,_,_,_,_,_,_,_,_,_,_,_,_,_,_,_,_,_,_,_,_,_,_,_,_,_,_,_,_,_,_,_,_,_,_,_,_,_,_,_,_,_,_,_,_,_,_,_,_,_,_,_,_,_,_,_,_,_,_,_,_,_,_,_,_,_,_,_,_,_,_,_,_]) rfl ?_
              refine l_val s1 (y_pick1 rfl (ev_of rfl) (ev_of rfl)) rfl rfl (l' := _) rfl ?_
              refine l_end ?_
              refine x_thenN ?_
              refine c_condT rfl ?_
              refine c_seq ?_
              refine c_region ?_
              refine l_val s1 (y_as rfl (ev_of rfl)) rfl rfl (l' := [_,_,_,_,_,_,_,_,_,_,_,_,_,_,_,_,_,_,_,_,_,_,_,_,_,_,_,_,_,_,_,_,_,_,_,_,_,_,_,_,_,_,_,_,_,_,_,_,_,_,_,_,_,_,_,_,_,_,_,_,_,_,_,_,_,_,_,_,_,_,_,_,_,_,_]) rfl ?_
              refine l_end ?_
              refine x_thenN ?_
              refine c_ret ?_
              refine x_thenR ?_
              refine r1 rfl rfl ?_
              exact ⟨by rw [withinF, if_neg (by omega), if_pos (by omega)], s1.sub (by first | (repeat first | with_reducible exact Sub.refl _ | refine Sub.skip _ ?_); done | (repeat first | with_reducible exact Sub.refl _ | exact Sub.nil _ | refine Sub.take (by repeat first | with_reducible exact Take.here _ _ | apply Take.there) ?_ | refine Sub.skip _ ?_))⟩
            · (try simp only [decide_eq_true_eq, decide_eq_false_iff_not, Bool.not_eq_true', Bool.not_eq_false'] at hg8)
              refine nlL (l' := _) rfl ?_
              refine l_gval s1 (y_fieldAddrB rfl Ty.fld58_2 Ty.size2 (ev_of rfl)) (wanted_of rfl rfl rfl rfl rfl) rfl (l' := [_,_,_,_,_,_,_,_,_,_,_,_,_,_,_,_,_,_,_,_,_,_,_,_,_,_,_,_,_,_,_,_,_,_,_,_,_,_,_,_,_,_,_,_,_,_,_,_,_,_,_,_,_,_,_,_,_,_,_,_,_,_,_,_,_,_,_,_,_,_,_,_,_,_,_]) rfl ?_
              refine l_gval s1 (y_load rfl Ty.some2 Ty.agg2 (ev_of rfl) (by repeat first | exact ent_cell rfl | assumption | refine Ent.there ?_)) (wanted_of rfl rfl rfl rfl rfl) rfl (l' := _) rfl ?_
              refine l_gval s1 (y_lss rfl (ev_of rfl) (ev_of rfl)) (wanted_of rfl rfl rfl rfl rfl) rfl (l' := [_,_,_,_,_,_,_,_,_,_,_,_,_,_,_,_,_,_,_,_,_,_,_,_,_,_,_,_,_,_,_,_,_,_,_,_,_,_,_,_,_,_,_,_,_,_,_,_,_,_,_,_,_,_,_,_,_,_,_,_,_,_,_,_,_,_,_,_,_,_,_,_,_,_,_]) rfl ?_
              refine l_val s1 (y_pick0 rfl (ev_of rfl) (ev_of rfl)) rfl rfl (l' := _) rfl ?_
              refine l_val s1 (y_mv rfl (ev_of rfl)) rfl rfl (l' := [_,_,_,_,_,_,_,_,_,_,_,_,_,_,_,_,_,_,_,_,_,_,_,_,_,_,_,_,_,_,_,_,_,_,_,_,_,_,_,_,_,_,_,_,_,_,_,_,_,_,_,_,_,_,_,_,_,_,_,_,_,_,_,_,_,_,_,_,_,_,_,_,_,_,_]) rfl ?_
              refine l_split (t := 35) rfl (fun hg9 => ?_) (fun hg9 => ?_)
              · (try simp only [decide_eq_true_eq, decide_eq_false_iff_not, Bool.not_eq_true', Bool.not_eq_false'] at hg9)
                refine nlL (l' := _) rfl ?_
                refine l_skip (wanted_of rfl rfl rfl rfl rfl) rfl (l' := [_,_,_,_,_,_,_,_,_,_,_,_,_,_,_,_,_,_,_,_,_,_,_,_,_,_,_,_,_,_,_,_,_,_,_,_,_,_,_,_,_,_,_,_,_,_,_,_,_,_,_,_,_,_,_,_,_,_,_,_,_,_,_,_,_,_,_,_,_,_,_,_,_,_,_]) rfl ?_
                refine l_skip (wanted_of rfl rfl rfl rfl rfl) rfl (l' := _) rfl ?_
                refine l_skip (wanted_of rfl rfl rfl rfl rfl) rfl (l' := [_,_,_,_,_,_,_,_,_,_,_,_,_,_,_,_,_,_,_,_,_,_,_,_,_,_,_,_,_,_,_,_,_,_,_,_,_,_,_,_,_,_,_,_,_,_,_,_,_,_,_,_,_,_,_,_,_,_,_,_,_,_,_,_,_,_,_,_,_,_,_,_,_,_,_]) rfl ?_
                refine l_skip (wanted_of rfl rfl rfl rfl rfl) rfl (l' := _) rfl ?_
                refine l_val s1 (y_pick1 rfl (ev_of rfl) (ev_of rfl)) rfl rfl (l' := [_,_,_,_,_,_,_,_,_,_,_,_,_,_,_,_,_,_,_,_,_,_,_,_,_,_,_,_,_,_,_,_,_,_,_,_,_,_,_,_,_,_,_,_,_,_,_,_,_,_,_,_,_,_,_,_,_,_,_,_,_,_,_,_,_,_,_,_,_,_,_,_,_,_,_]) rfl ?_
                refine l_val s1 (y_mv rfl (ev_of rfl)) rfl rfl (l' := _) rfl ?_
                refine l_skip (wanted_of rfl rfl rfl rfl rfl) rfl (l' := [_,_,_,_,_,_,_,_,_,_,_,_,_,_,_,_,_,_,_,_,_,_,_,_,_,_,_,_,_,_,_,_,_,_,_,_,_,_,_,_,_,_,_,_,_,_,_,_,_,_,_,_,_,_,_,_,_,_,_,_,_,_,_,_,_,_,_,_,_,_,_,_,_,_,_]) rfl ?_
                refine l_skip (wanted_of rfl rfl rfl rfl rfl) rfl (l' := _) rfl ?_
                refine l_skip (wanted_of rfl rfl rfl rfl rfl) rfl (l' := [_,_,_,_,_,_,_,_,_,_,_,_,_,_,_,_,_,_,_,_,_,_,_,_,_,_,_,_,_,_,_,_,_,_,_,_,_,_,_,_,_,_,_,_,_,_,_,_,_,_,_,_,_,_,_,_,_,_,_,_,_,_,_,_,_,_,_,_,_,_,_,_,_,_,_]) rfl ?_
                refine l_val s1 (y_pick1 rfl (ev_of rfl) (ev_of rfl)) rfl rfl (l' := _) rfl ?_
                refine l_val s1 (y_mv rfl (ev_of rfl)) rfl rfl (l' := [_,_,_,_,_,_,_,_,_,_,_,_,_,_,_,_,_,_,_,_,_,_,_,_,_,_,_,_,_,_,_,_,_,_,_,_,_,_,_,_,_,_,_,_,_,_,_,_,_,_,_,_,_,_,_,_,_,_,_,_,_,_,_,_,_,_,_,_,_,_,_,_,_,_,_]) rfl ?_
                refine l_skip (wanted_of rfl rfl rfl rfl rfl) rfl (l' := _) rfl ?_
                refine l_skip (wanted_of rfl rfl rfl rfl rfl) rfl (l' := [_,_,_,_,_,_,_,_,_,_,_,_,_,_,_,_,_,_,_,_,_,_,_,_,_,_,_,_,_,_,_,_,_,_,_,_,_,_,_,_,_,_,_,_,_,_,_,_,_,_,_,_,_,_,_,_,_,_,_,_,_,_,_,_,_,_,_,_,_,_,_,_,_,_,_]) rfl ?_
                refine l_skip (wanted_of rfl rfl rfl rfl rfl) rfl (l' := _) rfl ?_
                refine l_skip (wanted_of rfl rfl rfl rfl rfl) rfl (l' := [_,_,_,_,_,_,_,_,_,_,_,_,_,_,_,_,_,_,_,_,_,_,_,_,_,_,_,_,_,_,_,_,_,_,_,_,_,_,_,_,_,_,_,_,_,_,_,_,_,_,_,_,_,_,_,_,_,_,_,_,_,_,_,_,_,_,_,_,_,_,_,_,_,_,_]) rfl ?_
                refine l_val s1 (y_pick1 rfl (ev_of rfl) (ev_of rfl)) rfl rfl (l' := _) rfl ?_
                refine l_val s1 (y_mv rfl (ev_of rfl)) rfl rfl (l' := [_,_,_,_,_,_,_,_,_,_,_,_,_,_,_,_,_,_,_,_,_,_,_,_,_,_,_,_,_,_,_,_,_,_,_,_,_,_,_,_,_,_,_,_,_,_,_,_,_,_,_,_,_,_,_,_,_,_,_,_,_,_,_,_,_,_,_,_,_,_,_,_,_,_,_]) rfl ?_
                refine l_skip (wanted_of rfl rfl rfl rfl rfl) rfl (l' := _) rfl ?_
                refine l_skip (wanted_of rfl rfl rfl rfl rfl) rfl (l' := [_,_,_,_,_,_,_,_,_,_,_,_,_,_,_,_,_,_,_,_,_,_,_,_,_,_,_,_,_,_,_,_,_,_,_,_,_,_,_,_,_,_,_,_,_,_,_,_,_,_,_,_,_,_,_,_,_,_,_,_,_,_,_,_,_,_,_,_,_,_,_,_,_,_,_]) rfl ?_
                refine l_skip (wanted_of rfl rfl rfl rfl rfl) rfl (l' := _) rfl ?_
                refine l_val s1 (y_pick1 rfl (ev_of rfl) (ev_of rfl)) rfl rfl (l' := [_,_,_,_,_,_,_,_,_,_,_,_,_,_,_,_,_,_,_,_,_,_,_,_,_,_,_,_,_,_,_,_,_,_,_,_,_,_,_,_,_,_,_,_,_,_,_,_,_,_,_,_,_,_,_,_,_,_,_,_,_,_,_,_,_,_,_,_,_,_,_,_,_,_,_]) rfl ?_
                refine l_val s1 (y_mv rfl (ev_of rfl)) rfl rfl (l' := _) rfl ?_
                refine l_skip (wanted_of rfl rfl rfl rfl rfl) rfl (l' := [_,_,_,_,_,_,_,_,_,_,_,_,_,_,_,_,_,_,_,_,_,_,_,_,_,_,_,_,_,_,_,_,_,_,_,_,_,_,_,_,_,_,_,_,_,_,_,_,_,_,_,_,_,_,_,_,_,_,_,_,_,_,_,_,_,_,_,_,_,_,_,_,_,_,_]) rfl ?_
                refine l_skip (wanted_of rfl rfl rfl rfl rfl) rfl (l' := _) rfl ?_
                refine l_skip (wanted_of rfl rfl rfl rfl rfl) rfl (l' := [_,_,_,_,_,_,_,_,_,_,_,_,_,_,_,_,_,_,_,_,_,_,_,_,_,_,_,_,_,_,_,_,_,_,_,_,_,_,_,_,_,_,_,_,_,_,_,_,_,_,_,_,_,_,_,_,_,_,_,_,_,_,_,_,_,_,_,_,_,_,_,_,_,_,_]) rfl ?_
                refine l_skip (wanted_of rfl rfl rfl rfl rfl) rfl (l' := _) rfl ?_
                refine l_val s1 (y_pick1 rfl (ev_of rfl) (ev_of rfl)) rfl rfl (l' := [_,_,_,_,_,_,_,_,_,_,_,_,_,_,_,_,_,_,_,_,_,_,_,_,_,_,_,_,_,_,_,_,_,_,_,_,_,_,_,_,_,_,_,_,_,_,_,_,_,_,_,_,_,_,_,_,_,_,_,_,_,_,_,_,_,_,_,_,_,_,_,_,_,_,_]) rfl ?_
                refine l_end ?_
                refine x_thenN ?_
                refine c_condT rfl ?_
                refine c_seq ?_
                refine c_region ?_
                refine l_val s1 (y_as rfl (ev_of rfl)) rfl rfl (l' := _) rfl ?_
                refine l_end ?_
                refine x_thenN ?_
                refine c_ret ?_
                refine x_thenR ?_
                refine r1 rfl rfl ?_
                exact ⟨by rw [withinF, if_neg (by omega), if_pos (by omega)], s1.sub (by first | (repeat first | with_reducible exact Sub.refl _ | refine Sub.skip _ ?_); done | (repeat first | with_reducible exact Sub.refl _ | exact Sub.nil _ | refine Sub.take (by repeat first | with_reducible exact Take.here _ _ | apply Take.there) ?_ | refine Sub.skip _ ?_))⟩
              · (try simp only [decide_eq_true_eq, decide_eq_false_iff_not, Bool.not_eq_true', Bool.not_eq_false'] at hg9)
                refine nlL (l' := [_,_,_,_,_,_,_,_,_,_,_,_,_,_,_,_,_,_,_,_,_,_,_,_,_,_,_,_,_,_,_,_,_,_,_,_,_,_,_,_,_,_,_,_,_,_,_,_,_,_,_,_,_,_,_,_,_,_,_,_,_,_,_,_,_,_,_,_,_,_,_,_,_,_,_]) rfl ?_
                refine l_gval s1 (y_fieldAddrB rfl Ty.fld58_2 Ty.size2 (ev_of rfl)) (wanted_of rfl rfl rfl rfl rfl) rfl (l' := _) rfl ?_
                refine l_gval s1 (y_load rfl Ty.some2 Ty.agg2 (ev_of rfl) (by repeat first | exact ent_cell rfl | assumption | refine Ent.there ?_)) (wanted_of rfl rfl rfl rfl rfl) rfl (l' := [_,_,_,_,_,_,_,_,_,_,_,_,_,_,_,_,_,_,_,_,_,_,_,_,_,_,_,_,_,_,_,_,_,_,_,_,_,_,_,_,_,_,_,_,_,_,_,_,_,_,_,_,_,_,_,_,_,_,_,_,_,_,_,_,_,_,_,_,_,_,_,_,_,_,_]) rfl ?_
                refine l_gval s1 (y_mv rfl (ev_of rfl)) (wanted_of rfl rfl rfl rfl rfl) rfl (l' := _) rfl ?_
                refine l_gval s1 (y_geq rfl (ev_of rfl) (ev_of rfl)) (wanted_of rfl rfl rfl rfl rfl) rfl (l' := [_,_,_,_,_,_,_,_,_,_,_,_,_,_,_,_,_,_,_,_,_,_,_,_,_,_,_,_,_,_,_,_,_,_,_,_,_,_,_,_,_,_,_,_,_,_,_,_,_,_,_,_,_,_,_,_,_,_,_,_,_,_,_,_,_,_,_,_,_,_,_,_,_,_,_]) rfl ?_
                refine l_val s1 (y_pick0 rfl (ev_of rfl) (ev_of rfl)) rfl rfl (l' := _) rfl ?_
                refine l_val s1 (y_mv rfl (ev_of rfl)) rfl rfl (l' := [_,_,_,_,_,_,_,_,_,_,_,_,_,_,_,_,_,_,_,_,_,_,_,_,_,_,_,_,_,_,_,_,_,_,_,_,_,_,_,_,_,_,_,_,_,_,_,_,_,_,_,_,_,_,_,_,_,_,_,_,_,_,_,_,_,_,_,_,_,_,_,_,_,_,_]) rfl ?_
                refine l_split (t := 41) rfl (fun hg10 => ?_) (fun hg10 => ?_)
                · (try simp only [decide_eq_true_eq, decide_eq_false_iff_not, Bool.not_eq_true', Bool.not_eq_false'] at hg10)
                  refine nlL (l' := _) rfl ?_
                  refine l_skip (wanted_of rfl rfl rfl rfl rfl) rfl (l' := [_,_,_,_,_,_,_,_,_,_,_,_,_,_,_,_,_,_,_,_,_,_,_,_,_,_,_,_,_,_,_,_,_,_,_,_,_,_,_,_,_,_,_,_,_,_,_,_,_,_,_,_,_,_,_,_,_,_,_,_,_,_,_,_,_,_,_,_,_,_,_,_,_,_,_]) rfl ?_
                  refine l_skip (wanted_of rfl rfl rfl rfl rfl) rfl (l' := _) rfl ?_
                  refine l_skip (wanted_of rfl rfl rfl rfl rfl) rfl (l' := [_,_,_,_,_,_,_,_,_,_,_,_,_,_,_,_,_,_,_,_,_,_,_,_,_,_,_,_,_,_,_,_,_,_,_,_,_,_,_,_,_,_,_,_,_,_,_,_,_,_,_,_,_,_,_,_,_,_,_,_,_,_,_,_,_,_,_,_,_,_,_,_,_,_,_]) rfl ?_
                  refine l_val s1 (y_pick1 rfl (ev_of rfl) (ev_of rfl)) rfl rfl (l' := _) rfl ?_
                  refine l_val s1 (y_mv rfl (ev_of rfl)) rfl rfl (l' := [_,_,_,_,_,_,_,_,_,_,_,_,_,_,_,_,_,_,_,_,_,_,_,_,_,_,_,_,_,_,_,_,_,_,_,_,_,_,_,_,_,_,_,_,_,_,_,_,_,_,_,_,_,_,_,_,_,_,_,_,_,_,_,_,_,_,_,_,_,_,_,_,_,_,_]) rfl ?_
                  refine l_skip (wanted_of rfl rfl rfl rfl rfl) rfl (l' := _) rfl ?_
                  refine l_skip (wanted_of rfl rfl rfl rfl rfl) rfl (l' := [_,_,_,_,_,_,_,_,_,_,_,_,_,_,_,_,_,_,_,_,_,_,_,_,_,_,_,_,_,_,_,_,_,_,_,_,_,_,_,_,_,_,_,_,_,_,_,_,_,_,_,_,_,_,_,_,_,_,_,_,_,_,_,_,_,_,_,_,_,_,_,_,_,_,_]) rfl ?_
                  refine l_skip (wanted_of rfl rfl rfl rfl rfl) rfl (l' := _) rfl ?_
                  refine l_skip (wanted_of rfl rfl rfl rfl rfl) rfl (l' := [_,_,_,_,_,_,_,_,_,_,_,_,_,_,_,_,_,_,_,_,_,_,_,_,_,_,_,_,_,_,_,_,_,_,_,_,_,_,_,_,_,_,_,_,_,_,_,_,_,_,_,_,_,_,_,_,_,_,_,_,_,_,_,_,_,_,_,_,_,_,_,_,_,_,_]) rfl ?_
                  refine l_val s1 (y_pick1 rfl (ev_of rfl) (ev_of rfl)) rfl rfl (l' := _) rfl ?_
                  refine l_val s1 (y_mv rfl (ev_of rfl)) rfl rfl (l' := [_,_,_,_,_,_,_,_,_,_,_,_,_,_,_,_,_,_,_,_,_,_,_,_,_,_,_,_,_,_,_,_,_,_,_,_,_,_,_,_,_,_,_,_,_,_,_,_,_,_,_,_,_,_,_,_,_,_,_,_,_,_,_,_,_,_,_,_,_,_,_,_,_,_,_]) rfl ?_
                  refine l_skip (wanted_of rfl rfl rfl rfl rfl) rfl (l' := _) rfl ?_
                  refine l_skip (wanted_of rfl rfl rfl rfl rfl) rfl (l' := [_,_,_,_,_,_,_,_,_,_,_,_,_,_,_,_,_,_,_,_,_,_,_,_,_,_,_,_,_,_,_,_,_,_,_,_,_,_,_,_,_,_,_,_,_,_,_,_,_,_,_,_,_,_,_,_,_,_,_,_,_,_,_,_,_,_,_,_,_,_,_,_,_,_,_]) rfl ?_
                  refine l_skip (wanted_of rfl rfl rfl rfl rfl) rfl (l' := _) rfl ?_
                  refine l_val s1 (y_pick1 rfl (ev_of rfl) (ev_of rfl)) rfl rfl (l' := [_,_,_,_,_,_,_,_,_,_,_,_,_,_,_,_,_,_,_,_,_,_,_,_,_,_,_,_,_,_,_,_,_,_,_,_,_,_,_,_,_,_,_,_,_,_,_,_,_,_,_,_,_,_,_,_,_,_,_,_,_,_,_,_,_,_,_,_,_,_,_,_,_,_,_]) rfl ?_
                  refine l_val s1 (y_mv rfl (ev_of rfl)) rfl rfl (l' := _) rfl ?_
                  refine l_skip (wanted_of rfl rfl rfl rfl rfl) rfl (l' := [_,_,_,_,_,_,_,_,_,_,_,_,_,_,_,_,_,_,_,_,_,_,_,_,_,_,_,_,_,_,_,_,_,_,_,_,_,_,_,_,_,_,_,_,_,_,_,_,_,_,_,_,_,_,_,_,_,_,_,_,_,_,_,_,_,_,_,_,_,_,_,_,_,_,_]) rfl ?_
                  refine l_skip (wanted_of rfl rfl rfl rfl rfl) rfl (l' := _) rfl ?_
                  refine l_skip (wanted_of rfl rfl rfl rfl rfl) rfl (l' := [_,_,_,_,_,_,_,_,_,_,_,_,_,_,_,_,_,_,_,_,_,_,_,_,_,_,_,_,_,_,_,_,_,_,_,_,_,_,_,_,_,_,_,_,_,_,_,_,_,_,_,_,_,_,_,_,_,_,_,_,_,_,_,_,_,_,_,_,_,_,_,_,_,_,_]) rfl ?_
                  refine l_skip (wanted_of rfl rfl rfl rfl rfl) rfl (l' := _) rfl ?_
                  refine l_val s1 (y_pick1 rfl (ev_of rfl) (ev_of rfl)) rfl rfl (l' := [_,_,_,_,_,_,_,_,_,_,_,_,_,_,_,_,_,_,_,_,_,_,_,_,_,_,_,_,_,_,_,_,_,_,_,_,_,_,_,_,_,_,_,_,_,_,_,_,_,_,_,_,_,_,_,_,_,_,_,_,_,_,_,_,_,_,_,_,_,_,_,_,_,_,_]) rfl ?_
                  refine l_end ?_
                  refine x_thenN ?_
                  refine c_condT rfl ?_
                  refine c_seq ?_
                  refine c_region ?_
                  refine l_val s1 (y_as rfl (ev_of rfl)) rfl rfl (l' := _) rfl ?_
                  refine l_end ?_
                  refine x_thenN ?_
                  refine c_ret ?_
                  refine x_thenR ?_
                  refine r1 rfl rfl ?_
                  exact ⟨by rw [withinF, if_neg (by omega), if_pos (by omega)], s1.sub (by first | (repeat first | with_reducible exact Sub.refl _ | refine Sub.skip _ ?_); done | (repeat first | with_reducible exact Sub.refl _ | exact Sub.nil _ | refine Sub.take (by repeat first | with_reducible exact Take.here _ _ | apply Take.there) ?_ | refine Sub.skip _ ?_))⟩
                · (try simp only [decide_eq_true_eq, decide_eq_false_iff_not, Bool.not_eq_true', Bool.not_eq_false'] at hg10)
                  refine nlL (l' := [_,_,_,_,_,_,_,_,_,_,_,_,_,_,_,_,_,_,_,_,_,_,_,_,_,_,_,_,_,_,_,_,_,_,_,_,_,_,_,_,_,_,_,_,_,_,_,_,_,_,_,_,_,_,_,_,_,_,_,_,_,_,_,_,_,_,_,_,_,_,_,_,_,_,_]) rfl ?_
                  refine l_gval s1 (y_fieldAddrB rfl Ty.fld58_1 Ty.size2 (ev_of rfl)) (wanted_of rfl rfl rfl rfl rfl) rfl (l' := _) rfl ?_
                  refine l_gval s1 (y_load rfl Ty.some2 Ty.agg2 (ev_of rfl) (by repeat first | exact ent_cell rfl | assumption | refine Ent.there ?_)) (wanted_of rfl rfl rfl rfl rfl) rfl (l' := [_,_,_,_,_,_,_,_,_,_,_,_,_,_,_,_,_,_,_,_,_,_,_,_,_,_,_,_,_,_,_,_,_,_,_,_,_,_,_,_,_,_,_,_,_,_,_,_,_,_,_,_,_,_,_,_,_,_,_,_,_,_,_,_,_,_,_,_,_,_,_,_,_,_,_]) rfl ?_
                  refine l_gval s1 (y_lss rfl (ev_of rfl) (ev_of rfl)) (wanted_of rfl rfl rfl rfl rfl) rfl (l' := _) rfl ?_
                  refine l_val s1 (y_pick0 rfl (ev_of rfl) (ev_of rfl)) rfl rfl (l' := [_,_,_,_,_,_,_,_,_,_,_,_,_,_,_,_,_,_,_,_,_,_,_,_,_,_,_,_,_,_,_,_,_,_,_,_,_,_,_,_,_,_,_,_,_,_,_,_,_,_,_,_,_,_,_,_,_,_,_,_,_,_,_,_,_,_,_,_,_,_,_,_,_,_,_]) rfl ?_
                  refine l_val s1 (y_mv rfl (ev_of rfl)) rfl rfl (l' := _) rfl ?_
                  refine l_split (t := 46) rfl (fun hg11 => ?_) (fun hg11 => ?_)
                  · (try simp only [decide_eq_true_eq, decide_eq_false_iff_not, Bool.not_eq_true', Bool.not_eq_false'] at hg11)
                    refine nlL (l' := [_,_,_,_,_,_,_,_,_,_,_,_,_,_,_,_,_,_,_,_,_,_,_,_,_,_,_,_,_,_,_,_,_,_,_,_,_,_,_,_,_,_,_,_,_,_,_,_,_,_,_,_,_,_,_,_,_,_,_,_,_,_,_,_,_,_,_,_,_,_,_,_,_,_,_]) rfl ?_
                    refine l_skip (wanted_of rfl rfl rfl rfl rfl) rfl (l' := _) rfl ?_
                    refine l_skip (wanted_of rfl rfl rfl rfl rfl) rfl (l' := [_,_,_,_,_,_,_,_,_,_,_,_,_,_,_,_,_,_,_,_,_,_,_,_,_,_,_,_,_,_,_,_,_,_,_,_,_,_,_,_,_,_,_,_,_,_,_,_,_,_,_,_,_,_,_,_,_,_,_,_,_,_,_,_,_,_,_,_,_,_,_,_,_,_,_]) rfl ?_
                    refine l_skip (wanted_of rfl rfl rfl rfl rfl) rfl (l' := _) rfl ?_
                    refine l_skip (wanted_of rfl rfl rfl rfl rfl) rfl (l' := [_,_,_,_,_,_,_,_,_,_,_,_,_,_,_,_,_,_,_,_,_,_,_,_,_,_,_,_,_,_,_,_,_,_,_,_,_,_,_,_,_,_,_,_,_,_,_,_,_,_,_,_,_,_,_,_,_,_,_,_,_,_,_,_,_,_,_,_,_,_,_,_,_,_,_]) rfl ?_
                    refine l_val s1 (y_pick1 rfl (ev_of rfl) (ev_of rfl)) rfl rfl (l' := _) rfl ?_
                    refine l_val s1 (y_mv rfl (ev_of rfl)) rfl rfl (l' := [_,_,_,_,_,_,_,_,_,_,_,_,_,_,_,_,_,_,_,_,_,_,_,_,_,_,_,_,_,_,_,_,_,_,_,_,_,_,_,_,_,_,_,_,_,_,_,_,_,_,_,_,_,_,_,_,_,_,_,_,_,_,_,_,_,_,_,_,_,_,_,_,_,_,_]) rfl ?_
                    refine l_skip (wanted_of rfl rfl rfl rfl rfl) rfl (l' := _) rfl ?_
                    refine l_skip (wanted_of rfl rfl rfl rfl rfl) rfl (l' := [_,_,_,_,_,_,_,_,_,_,_,_,_,_,_,_,_,_,_,_,_,_,_,_,_,_,_,_,_,_,_,_,_,_,_,_,_,_,_,_,_,_,_,_,_,_,_,_,_,_,_,_,_,_,_,_,_,_,_,_,_,_,_,_,_,_,_,_,_,_,_,_,_,_,_]) rfl ?_
                    refine l_skip (wanted_of rfl rfl rfl rfl rfl) rfl (l' := _) rfl ?_
                    refine l_val s1 (y_pick1 rfl (ev_of rfl) (ev_of rfl)) rfl rfl (l' := [_,_,_,_,_,_,_,_,_,_,_,_,_,_,_,_,_,_,_,_,_,_,_,_,_,_,_,_,_,_,_,_,_,_,_,_,_,_,_,_,_,_,_,_,_,_,_,_,_,_,_,_,_,_,_,_,_,_,_,_,_,_,_,_,_,_,_,_,_,_,_,_,_,_,_]) rfl ?_
                    refine l_val s1 (y_mv rfl (ev_of rfl)) rfl rfl (l' := _) rfl ?_
                    refine l_skip (wanted_of rfl rfl rfl rfl rfl) rfl (l' := [_,_,_,_,_,_,_,_,_,_,_,_,_,_,_,_,_,_,_,_,_,_,_,_,_,_,_,_,_,_,_,_,_,_,_,_,_,_,_,_,_,_,_,_,_,_,_,_,_,_,_,_,_,_,_,_,_,_,_,_,_,_,_,_,_,_,_,_,_,_,_,_,_,_,_]) rfl ?_
                    refine l_skip (wanted_of rfl rfl rfl rfl rfl) rfl (l' := _) rfl ?_
                    refine l_skip (wanted_of rfl rfl rfl rfl rfl) rfl (l' := [_,_,_,_,_,_,_,_,_,_,_,_,_,_,_,_,_,_,_,_,_,_,_,_,_,_,_,_,_,_,_,_,_,_,_,_,_,_,_,_,_,_,_,_,_,_,_,_,_,_,_,_,_,_,_,_,_,_,_,_,_,_,_,_,_,_,_,_,_,_,_,_,_,_,_]) rfl ?_
                    refine l_skip (wanted_of rfl rfl rfl rfl rfl) rfl (l' := _) rfl ?_
                    refine l_val s1 (y_pick1 rfl (ev_of rfl) (ev_of rfl)) rfl rfl (l' := [_,_,_,_,_,_,_,_,_,_,_,_,_,_,_,_,_,_,_,_,_,_,_,_,_,_,_,_,_,_,_,_,_,_,_,_,_,_,_,_,_,_,_,_,_,_,_,_,_,_,_,_,_,_,_,_,_,_,_,_,_,_,_,_,_,_,_,_,_,_,_,_,_,_,_]) rfl ?_
                    refine l_end ?_
                    refine x_thenN ?_
                    refine c_condT rfl ?_
                    refine c_seq ?_
                    refine c_region ?_
                    refine l_val s1 (y_as rfl (ev_of rfl)) rfl rfl (l' := _) rfl ?_
                    refine l_end ?_
                    refine x_thenN ?_
                    refine c_ret ?_
                    refine x_thenR ?_
                    refine r1 rfl rfl ?_
                    exact ⟨by rw [withinF, if_neg (by omega), if_pos (by omega)], s1.sub (by first | (repeat first | with_reducible exact Sub.refl _ | refine Sub.skip _ ?_); done | (repeat first | with_reducible exact Sub.refl _ | exact Sub.nil _ | refine Sub.take (by repeat first | with_reducible exact Take.here _ _ | apply Take.there) ?_ | refine Sub.skip _ ?_))⟩
                  · (try simp only [decide_eq_true_eq, decide_eq_false_iff_not, Bool.not_eq_true', Bool.not_eq_false'] at hg11)
                    refine nlL (l' := [_,_,_,_,_,_,_,_,_,_,_,_,_,_,_,_,_,_,_,_,_,_,_,_,_,_,_,_,_,_,_,_,_,_,_,_,_,_,_,_,_,_,_,_,_,_,_,_,_,_,_,_,_,_,_,_,_,_,_,_,_,_,_,_,_,_,_,_,_,_,_,_,_,_,_]) rfl ?_
                    refine l_gval s1 (y_fieldAddrB rfl Ty.fld58_1 Ty.size2 (ev_of rfl)) (wanted_of rfl rfl rfl rfl rfl) rfl (l' := _) rfl ?_
                    refine l_gval s1 (y_load rfl Ty.some2 Ty.agg2 (ev_of rfl) (by repeat first | exact ent_cell rfl | assumption | refine Ent.there ?_)) (wanted_of rfl rfl rfl rfl rfl) rfl (l' := [_,_,_,_,_,_,_,_,_,_,_,_,_,_,_,_,_,_,_,_,_,_,_,_,_,_,_,_,_,_,_,_,_,_,_,_,_,_,_,_,_,_,_,_,_,_,_,_,_,_,_,_,_,_,_,_,_,_,_,_,_,_,_,_,_,_,_,_,_,_,_,_,_,_,_]) rfl ?_
                    refine l_gval s1 (y_mv rfl (ev_of rfl)) (wanted_of rfl rfl rfl rfl rfl) rfl (l' := _) rfl ?_
                    refine l_gval s1 (y_geq rfl (ev_of rfl) (ev_of rfl)) (wanted_of rfl rfl rfl rfl rfl) rfl (l' := [_,_,_,_,_,_,_,_,_,_,_,_,_,_,_,_,_,_,_,_,_,_,_,_,_,_,_,_,_,_,_,_,_,_,_,_,_,_,_,_,_,_,_,_,_,_,_,_,_,_,_,_,_,_,_,_,_,_,_,_,_,_,_,_,_,_,_,_,_,_,_,_,_,_,_]) rfl ?_
                    refine l_val s1 (y_pick0 rfl (ev_of rfl) (ev_of rfl)) rfl rfl (l' := _) rfl ?_
                    refine l_val s1 (y_mv rfl (ev_of rfl)) rfl rfl (l' := [_,_,_,_,_,_,_,_,_,_,_,_,_,_,_,_,_,_,_,_,_,_,_,_,_,_,_,_,_,_,_,_,_,_,_,_,_,_,_,_,_,_,_,_,_,_,_,_,_,_,_,_,_,_,_,_,_,_,_,_,_,_,_,_,_,_,_,_,_,_,_,_,_,_,_]) rfl ?_
                    refine l_split (t := 52) rfl (fun hg12 => ?_) (fun hg12 => ?_)
                    · (try simp only [decide_eq_true_eq, decide_eq_false_iff_not, Bool.not_eq_true', Bool.not_eq_false'] at hg12)
                      refine nlL (l' := _) rfl ?_
                      refine l_skip (wanted_of rfl rfl rfl rfl rfl) rfl (l' := [_,_,_,_,_,_,_,_,_,_,_,_,_,_,_,_,_,_,_,_,_,_,_,_,_,_,_,_,_,_,_,_,_,_,_,_,_,_,_,_,_,_,_,_,_,_,_,_,_,_,_,_,_,_,_,_,_,_,_,_,_,_,_,_,_,_,_,_,_,_,_,_,_,_,_]) rfl ?_
                      refine l_skip (wanted_of rfl rfl rfl rfl rfl) rfl (l' := _) rfl ?_
                      refine l_skip (wanted_of rfl rfl rfl rfl rfl) rfl (l' := [_,_,_,_,_,_,_,_,_,_,_,_,_,_,_,_,_,_,_,_,_,_,_,_,_,_,_,_,_,_,_,_,_,_,_,_,_,_,_,_,_,_,_,_,_,_,_,_,_,_,_,_,_,_,_,_,_,_,_,_,_,_,_,_,_,_,_,_,_,_,_,_,_,_,_]) rfl ?_
                      refine l_val s1 (y_pick1 rfl (ev_of rfl) (ev_of rfl)) rfl rfl (l' := _) rfl ?_
                      refine l_val s1 (y_mv rfl (ev_of rfl)) rfl rfl (l' := [_,_,_,_,_,_,_,_,_,_,_,_,_,_,_,_,_,_,_,_,_,_,_,_,_,_,_,_,_,_,_,_,_,_,_,_,_,_,_,_,_,_,_,_,_,_,_,_,_,_,_,_,_,_,_,_,_,_,_,_,_,_,_,_,_,_,_,_,_,_,_,_,_,_,_]) rfl ?_
                      refine l_skip (wanted_of rfl rfl rfl rfl rfl) rfl (l' := _) rfl ?_
                      refine l_skip (wanted_of rfl rfl rfl rfl rfl) rfl (l' := [_,_,_,_,_,_,_,_,_,_,_,_,_,_,_,_,_,_,_,_,_,_,_,_,_,_,_,_,_,_,_,_,_,_,_,_,_,_,_,_,_,_,_,_,_,_,_,_,_,_,_,_,_,_,_,_,_,_,_,_,_,_,_,_,_,_,_,_,_,_,_,_,_,_,_]) rfl ?_
                      refine l_skip (wanted_of rfl rfl rfl rfl rfl) rfl (l' := _) rfl ?_
                      refine l_skip (wanted_of rfl rfl rfl rfl rfl) rfl (l' := [_,_,_,_,_,_,_,_,_,_,_,_,_,_,_,_,_,_,_,_,_,_,_,_,_,_,_,_,_,_,_,_,_,_,_,_,_,_,_,_,_,_,_,_,_,_,_,_,_,_,_,_,_,_,_,_,_,_,_,_,_,_,_,_,_,_,_,_,_,_,_,_,_,_,_]) rfl ?_
                      refine l_val s1 (y_pick1 rfl (ev_of rfl) (ev_of rfl)) rfl rfl (l' := _) rfl ?_
                      refine l_end ?_
                      refine x_thenN ?_
                      refine c_condT rfl ?_
                      refine c_seq ?_
                      refine c_region ?_
                      refine l_val s1 (y_as rfl (ev_of rfl)) rfl rfl (l' := [_,_,_,_,_,_,_,_,_,_,_,_,_,_,_,_,_,_,_,_,_,_,_,_,_,_,_,_,_,_,_,_,_,_,_,_,_,_,_,_,_,_,_,_,_,_,_,_,_,_,_,_,_,_,_,_,_,_,_,_,_,_,_,_,_,_,_,_,_,_,_,_,_,_,_]) rfl ?_
                      refine l_end ?_
                      refine x_thenN ?_
                      refine c_ret ?_
                      refine x_thenR ?_
                      refine r1 rfl rfl ?_
                      exact ⟨by rw [withinF, if_neg (by omega), if_pos (by omega)], s1.sub (by first | (repeat first | with_reducible exact Sub.refl _ | refine Sub.skip _ ?_); done | (repeat first | with_reducible exact Sub.refl _ | exact Sub.nil _ | refine Sub.take (by repeat first | with_reducible exact Take.here _ _ | apply Take.there) ?_ | refine Sub.skip _ ?_))⟩
                    · (try simp only [decide_eq_true_eq, decide_eq_false_iff_not, Bool.not_eq_true', Bool.not_eq_false'] at hg12)
                      refine nlL (l' := _) rfl ?_
                      refine l_gval s1 (y_fieldAddrB rfl Ty.fld58_3 Ty.size2 (ev_of rfl)) (wanted_of rfl rfl rfl rfl rfl) rfl (l' := [_,_,_,_,_,_,_,_,_,_,_,_,_,_,_,_,_,_,_,_,_,_,_,_,_,_,_,_,_,_,_,_,_,_,_,_,_,_,_,_,_,_,_,_,_,_,_,_,_,_,_,_,_,_,_,_,_,_,_,_,_,_,_,_,_,_,_,_,_,_,_,_,_,_,_]) rfl ?_
                      refine l_gval s1 (y_load rfl Ty.some2 Ty.agg2 (ev_of rfl) (by repeat first | exact ent_cell rfl | assumption | refine Ent.there ?_)) (wanted_of rfl rfl rfl rfl rfl) rfl (l' := _) rfl ?_
                      refine l_gval s1 (y_lss rfl (ev_of rfl) (ev_of rfl)) (wanted_of rfl rfl rfl rfl rfl) rfl (l' := [_,_,_,_,_,_,_,_,_,_,_,_,_,_,_,_,_,_,_,_,_,_,_,_,_,_,_,_,_,_,_,_,_,_,_,_,_,_,_,_,_,_,_,_,_,_,_,_,_,_,_,_,_,_,_,_,_,_,_,_,_,_,_,_,_,_,_,_,_,_,_,_,_,_,_]) rfl ?_
                      refine l_val s1 (y_pick0 rfl (ev_of rfl) (ev_of rfl)) rfl rfl (l' := _) rfl ?_
                      refine l_val s1 (y_mv rfl (ev_of rfl)) rfl rfl (l' := [_,_,_,_,_,_,_,_,_,_,_,_,_,_,_,_,_,_,_,_,_,_,_,_,_,_,_,_,_,_,_,_,_,_,_,_,_,_,_,_,_,_,_,_,_,_,_,_,_,_,_,_,_,_,_,_,_,_,_,_,_,_,_,_,_,_,_,_,_,_,_,_,_,_,_]) rfl ?_
                      refine l_split (t := 57) rfl (fun hg13 => ?_) (fun hg13 => ?_)
                      · (try simp only [decide_eq_true_eq, decide_eq_false_iff_not, Bool.not_eq_true', Bool.not_eq_false'] at hg13)
                        refine nlL (l' := _) rfl ?_
                        refine l_skip (wanted_of rfl rfl rfl rfl rfl) rfl (l' := [_,_,_,_,_,_,_,_,_,_,_,_,_,_,_,_,_,_,_,_,_,_,_,_,_,_,_,_,_,_,_,_,_,_,_,_,_,_,_,_,_,_,_,_,_,_,_,_,_,_,_,_,_,_,_,_,_,_,_,_,_,_,_,_,_,_,_,_,_,_,_,_,_,_,_]) rfl ?_
                        refine l_skip (wanted_of rfl rfl rfl rfl rfl) rfl (l' := _) rfl ?_
                        refine l_skip (wanted_of rfl rfl rfl rfl rfl) rfl (l' := [_,_,_,_,_,_,_,_,_,_,_,_,_,_,_,_,_,_,_,_,_,_,_,_,_,_,_,_,_,_,_,_,_,_,_,_,_,_,_,_,_,_,_,_,_,_,_,_,_,_,_,_,_,_,_,_,_,_,_,_,_,_,_,_,_,_,_,_,_,_,_,_,_,_,_]) rfl ?_
                        refine l_skip (wanted_of rfl rfl rfl rfl rfl) rfl (l' := _) rfl ?_
                        refine l_val s1 (y_pick1 rfl (ev_of rfl) (ev_of rfl)) rfl rfl (l' := [_,_,_,_,_,_,_,_,_,_,_,_,_,_,_,_,_,_,_,_,_,_,_,_,_,_,_,_,_,_,_,_,_,_,_,_,_,_,_,_,_,_,_,_,_,_,_,_,_,_,_,_,_,_,_,_,_,_,_,_,_,_,_,_,_,_,_,_,_,_,_,_,_,_,_]) rfl ?_
                        refine l_end ?_
                        refine x_thenN ?_
                        refine c_condT rfl ?_
                        refine c_seq ?_
                        refine c_region ?_
                        refine l_val s1 (y_as rfl (ev_of rfl)) rfl rfl (l' := _) rfl ?_
                        refine l_end ?_
                        refine x_thenN ?_
                        refine c_ret ?_
                        refine x_thenR ?_
                        refine r1 rfl rfl ?_
                        exact ⟨by rw [withinF, if_neg (by omega), if_pos (by omega)], s1.sub (by first | (repeat first | with_reducible exact Sub.refl _ | refine Sub.skip _ ?_); done | (repeat first | with_reducible exact Sub.refl _ | exact Sub.nil _ | refine Sub.take (by repeat first | with_reducible exact Take.here _ _ | apply Take.there) ?_ | refine Sub.skip _ ?_))⟩
                      · (try simp only [decide_eq_true_eq, decide_eq_false_iff_not, Bool.not_eq_true', Bool.not_eq_false'] at hg13)
                        refine nlL (l' := [_,_,_,_,_,_,_,_,_,_,_,_,_,_,_,_,_,_,_,_,_,_,_,_,_,_,_,_,_,_,_,_,_,_,_,_,_,_,_,_,_,_,_,_,_,_,_,_,_,_,_,_,_,_,_,_,_,_,_,_,_,_,_,_,_,_,_,_,_,_,_,_,_,_,_]) rfl ?_
                        refine l_gval s1 (y_fieldAddrB rfl Ty.fld58_3 Ty.size2 (ev_of rfl)) (wanted_of rfl rfl rfl rfl rfl) rfl (l' := _) rfl ?_
                        refine l_gval s1 (y_load rfl Ty.some2 Ty.agg2 (ev_of rfl) (by repeat first | exact ent_cell rfl | assumption | refine Ent.there ?_)) (wanted_of rfl rfl rfl rfl rfl) rfl (l' := [_,_,_,_,_,_,_,_,_,_,_,_,_,_,_,_,_,_,_,_,_,_,_,_,_,_,_,_,_,_,_,_,_,_,_,_,_,_,_,_,_,_,_,_,_,_,_,_,_,_,_,_,_,_,_,_,_,_,_,_,_,_,_,_,_,_,_,_,_,_,_,_,_,_,_]) rfl ?_
                        refine l_gval s1 (y_mv rfl (ev_of rfl)) (wanted_of rfl rfl rfl rfl rfl) rfl (l' := _) rfl ?_
                        refine l_gval s1 (y_geq rfl (ev_of rfl) (ev_of rfl)) (wanted_of rfl rfl rfl rfl rfl) rfl (l' := [_,_,_,_,_,_,_,_,_,_,_,_,_,_,_,_,_,_,_,_,_,_,_,_,_,_,_,_,_,_,_,_,_,_,_,_,_,_,_,_,_,_,_,_,_,_,_,_,_,_,_,_,_,_,_,_,_,_,_,_,_,_,_,_,_,_,_,_,_,_,_,_,_,_,_]) rfl ?_
                        refine l_val s1 (y_pick0 rfl (ev_of rfl) (ev_of rfl)) rfl rfl (l' := _) rfl ?_
                        refine l_end ?_
                        refine x_thenN ?_
                        refine c_if rfl (fun hc1 => ?_) (fun hc1 => ?_)
                        · (try simp only [decide_eq_true_eq, decide_eq_false_iff_not, Bool.not_eq_true', Bool.not_eq_false'] at hc1)
                          refine c_seq ?_
                          refine c_region ?_
                          refine l_val s1 (y_as rfl (ev_of rfl)) rfl rfl (l' := [_,_,_,_,_,_,_,_,_,_,_,_,_,_,_,_,_,_,_,_,_,_,_,_,_,_,_,_,_,_,_,_,_,_,_,_,_,_,_,_,_,_,_,_,_,_,_,_,_,_,_,_,_,_,_,_,_,_,_,_,_,_,_,_,_,_,_,_,_,_,_,_,_,_,_]) rfl ?_
                          refine l_end ?_
                          refine x_thenN ?_
                          refine c_ret ?_
                          refine x_thenR ?_
                          refine r1 rfl rfl ?_
                          exact ⟨by rw [withinF, if_neg (by omega), if_pos (by omega)], s1.sub (by first | (repeat first | with_reducible exact Sub.refl _ | refine Sub.skip _ ?_); done | (repeat first | with_reducible exact Sub.refl _ | exact Sub.nil _ | refine Sub.take (by repeat first | with_reducible exact Take.here _ _ | apply Take.there) ?_ | refine Sub.skip _ ?_))⟩
                        · (try simp only [decide_eq_true_eq, decide_eq_false_iff_not, Bool.not_eq_true', Bool.not_eq_false'] at hc1)
                          refine c_skip ?_
                          refine x_thenN ?_
                          refine c_seq ?_
                          refine c_seq ?_
                          refine c_region ?_
                          refine l_val s1 (y_fieldAddrB rfl Ty.fld58_0 Ty.size2 (ev_of rfl)) rfl rfl (l' := _) rfl ?_
                          refine l_val s1 (y_load rfl Ty.some2 Ty.agg2 (ev_of rfl) (by repeat first | exact ent_cell rfl | assumption | refine Ent.there ?_)) rfl rfl (l' := [_,_,_,_,_,_,_,_,_,_,_,_,_,_,_,_,_,_,_,_,_,_,_,_,_,_,_,_,_,_,_,_,_,_,_,_,_,_,_,_,_,_,_,_,_,_,_,_,_,_,_,_,_,_,_,_,_,_,_,_,_,_,_,_,_,_,_,_,_,_,_,_,_,_,_]) rfl ?_
                          refine l_val s1 (y_fieldAddrB rfl Ty.fld58_2 Ty.size2 (ev_of rfl)) rfl rfl (l' := _) rfl ?_
                          refine l_val s1 (y_load rfl Ty.some2 Ty.agg2 (ev_of rfl) (by repeat first | exact ent_cell rfl | assumption | refine Ent.there ?_)) rfl rfl (l' := [_,_,_,_,_,_,_,_,_,_,_,_,_,_,_,_,_,_,_,_,_,_,_,_,_,_,_,_,_,_,_,_,_,_,_,_,_,_,_,_,_,_,_,_,_,_,_,_,_,_,_,_,_,_,_,_,_,_,_,_,_,_,_,_,_,_,_,_,_,_,_,_,_,_,_]) rfl ?_
                          refine l_val s1 (y_gtr rfl (ev_of rfl) (ev_of rfl)) rfl rfl (l' := _) rfl ?_
                          refine l_val s1 (y_mv rfl (ev_of rfl)) rfl rfl (l' := [_,_,_,_,_,_,_,_,_,_,_,_,_,_,_,_,_,_,_,_,_,_,_,_,_,_,_,_,_,_,_,_,_,_,_,_,_,_,_,_,_,_,_,_,_,_,_,_,_,_,_,_,_,_,_,_,_,_,_,_,_,_,_,_,_,_,_,_,_,_,_,_,_,_,_]) rfl ?_
                          refine l_split (t := 68) rfl (fun hg14 => ?_) (fun hg14 => ?_)
                          · (try simp only [decide_eq_true_eq, decide_eq_false_iff_not, Bool.not_eq_true', Bool.not_eq_false'] at hg14)
                            refine nlL (l' := _) rfl ?_
                            refine l_skip (wanted_of rfl rfl rfl rfl rfl) rfl (l' := [_,_,_,_,_,_,_,_,_,_,_,_,_,_,_,_,_,_,_,_,_,_,_,_,_,_,_,_,_,_,_,_,_,_,_,_,_,_,_,_,_,_,_,_,_,_,_,_,_,_,_,_,_,_,_,_,_,_,_,_,_,_,_,_,_,_,_,_,_,_,_,_,_,_,_]) rfl ?_
                            refine l_skip (wanted_of rfl rfl rfl rfl rfl) rfl (l' := _) rfl ?_
                            refine l_skip (wanted_of rfl rfl rfl rfl rfl) rfl (l' := [_,_,_,_,_,_,_,_,_,_,_,_,_,_,_,_,_,_,_,_,_,_,_,_,_,_,_,_,_,_,_,_,_,_,_,_,_,_,_,_,_,_,_,_,_,_,_,_,_,_,_,_,_,_,_,_,_,_,_,_,_,_,_,_,_,_,_,_,_,_,_,_,_,_,_]) rfl ?_
                            refine l_skip (wanted_of rfl rfl rfl rfl rfl) rfl (l' := _) rfl ?_
                            refine l_skip (wanted_of rfl rfl rfl rfl rfl) rfl (l' := [_,_,_,_,_,_,_,_,_,_,_,_,_,_,_,_,_,_,_,_,_,_,_,_,_,_,_,_,_,_,_,_,_,_,_,_,_,_,_,_,_,_,_,_,_,_,_,_,_,_,_,_,_,_,_,_,_,_,_,_,_,_,_,_,_,_,_,_,_,_,_,_,_,_,_]) rfl ?_
                            refine l_val s1 (y_pick1 rfl (ev_of rfl) (ev_of rfl)) rfl rfl (l' := _) rfl ?_
                            refine l_end ?_
                            refine x_thenN ?_
                            refine c_condT rfl ?_
                            refine c_seq ?_
                            refine c_region ?_
                            refine l_val s1 (y_as rfl (ev_of rfl)) rfl rfl (l' := [_,_,_,_,_,_,_,_,_,_,_,_,_,_,_,_,_,_,_,_,_,_,_,_,_,_,_,_,_,_,_,_,_,_,_,_,_,_,_,_,_,_,_,_,_,_,_,_,_,_,_,_,_,_,_,_,_,_,_,_,_,_,_,_,_,_,_,_,_,_,_,_,_,_,_]) rfl ?_
                            refine l_end ?_
                            refine x_thenN ?_
                            refine c_ret ?_
                            refine x_thenR ?_
                            refine r1 rfl rfl ?_
                            exact ⟨by rw [withinF, if_neg (by omega), if_neg (by omega), if_pos (by omega)], s1.sub (by first | (repeat first | with_reducible exact Sub.refl _ | refine Sub.skip _ ?_); done | (repeat first | with_reducible exact Sub.refl _ | exact Sub.nil _ | refine Sub.take (by repeat first | with_reducible exact Take.here _ _ | apply Take.there) ?_ | refine Sub.skip _ ?_))⟩
                          · (try simp only [decide_eq_true_eq, decide_eq_false_iff_not, Bool.not_eq_true', Bool.not_eq_false'] at hg14)
                            refine nlL (l' := _) rfl ?_
                            refine l_gval s1 (y_fieldAddrB rfl Ty.fld58_1 Ty.size2 (ev_of rfl)) (wanted_of rfl rfl rfl rfl rfl) rfl (l' := [_,_,_,_,_,_,_,_,_,_,_,_,_,_,_,_,_,_,_,_,_,_,_,_,_,_,_,_,_,_,_,_,_,_,_,_,_,_,_,_,_,_,_,_,_,_,_,_,_,_,_,_,_,_,_,_,_,_,_,_,_,_,_,_,_,_,_,_,_,_,_,_,_,_,_]) rfl ?_
                            refine l_gval s1 (y_load rfl Ty.some2 Ty.agg2 (ev_of rfl) (by repeat first | exact ent_cell rfl | assumption | refine Ent.there ?_)) (wanted_of rfl rfl rfl rfl rfl) rfl (l' := _) rfl ?_
                            refine l_gval s1 (y_fieldAddrB rfl Ty.fld58_3 Ty.size2 (ev_of rfl)) (wanted_of rfl rfl rfl rfl rfl) rfl (l' := [_,_,_,_,_,_,_,_,_,_,_,_,_,_,_,_,_,_,_,_,_,_,_,_,_,_,_,_,_,_,_,_,_,_,_,_,_,_,_,_,_,_,_,_,_,_,_,_,_,_,_,_,_,_,_,_,_,_,_,_,_,_,_,_,_,_,_,_,_,_,_,_,_,_,_]) rfl ?_
                            refine l_gval s1 (y_load rfl Ty.some2 Ty.agg2 (ev_of rfl) (by repeat first | exact ent_cell rfl | assumption | refine Ent.there ?_)) (wanted_of rfl rfl rfl rfl rfl) rfl (l' := _) rfl ?_
                            refine l_gval s1 (y_gtr rfl (ev_of rfl) (ev_of rfl)) (wanted_of rfl rfl rfl rfl rfl) rfl (l' := [_,_,_,_,_,_,_,_,_,_,_,_,_,_,_,_,_,_,_,_,_,_,_,_,_,_,_,_,_,_,_,_,_,_,_,_,_,_,_,_,_,_,_,_,_,_,_,_,_,_,_,_,_,_,_,_,_,_,_,_,_,_,_,_,_,_,_,_,_,_,_,_,_,_,_]) rfl ?_
                            refine l_val s1 (y_pick0 rfl (ev_of rfl) (ev_of rfl)) rfl rfl (l' := _) rfl ?_
                            refine l_end ?_
                            refine x_thenN ?_
                            refine c_if rfl (fun hc2 => ?_) (fun hc2 => ?_)
                            · (try simp only [decide_eq_true_eq, decide_eq_false_iff_not, Bool.not_eq_true', Bool.not_eq_false'] at hc2)
                              refine c_seq ?_
                              refine c_region ?_
                              refine l_val s1 (y_as rfl (ev_of rfl)) rfl rfl (l' := [_,_,_,_,_,_,_,_,_,_,_,_,_,_,_,_,_,_,_,_,_,_,_,_,_,_,_,_,_,_,_,_,_,_,_,_,_,_,_,_,_,_,_,_,_,_,_,_,_,_,_,_,_,_,_,_,_,_,_,_,_,_,_,_,_,_,_,_,_,_,_,_,_,_,_]) rfl ?_
                              refine l_end ?_
                              refine x_thenN ?_
                              refine c_ret ?_
                              refine x_thenR ?_
                              refine r1 rfl rfl ?_
                              exact ⟨by rw [withinF, if_neg (by omega), if_neg (by omega), if_pos (by omega)], s1.sub (by first | (repeat first | with_reducible exact Sub.refl _ | refine Sub.skip _ ?_); done | (repeat first | with_reducible exact Sub.refl _ | exact Sub.nil _ | refine Sub.take (by repeat first | with_reducible exact Take.here _ _ | apply Take.there) ?_ | refine Sub.skip _ ?_))⟩
                            · (try simp only [decide_eq_true_eq, decide_eq_false_iff_not, Bool.not_eq_true', Bool.not_eq_false'] at hc2)
                              refine c_skip ?_
                              refine x_thenN ?_
                              refine c_seq ?_
                              refine c_region ?_
                              refine l_val s1 (y_as rfl (ev_of rfl)) rfl rfl (l' := _) rfl ?_
                              refine l_end ?_
                              refine x_thenN ?_
                              refine c_ret ?_
                              refine r1 rfl rfl ?_
                              exact ⟨by rw [withinF, if_neg (by omega), if_neg (by omega), if_neg (by omega)], s1.sub (by first | (repeat first | with_reducible exact Sub.refl _ | refine Sub.skip _ ?_); done | (repeat first | with_reducible exact Sub.refl _ | exact Sub.nil _ | refine Sub.take (by repeat first | with_reducible exact Take.here _ _ | apply Take.there) ?_ | refine Sub.skip _ ?_))⟩
set_option maxHeartbeats 4000000 in
set_option maxRecDepth 100000 in
/-- hachure/hachureref09.Values -/
theorem refValues_c {e : Env} {L : List Asn} {w : World} {x0 y0 x1 y1 : Int} {W H : Nat} {u : Value} {v : List Int} (s : SL e w L) (hv : Ent L (SlR I64 u v)) (hw : 1 ≤ W ∧ W ≤ 1024) (hh : 1 ≤ H ∧ H ≤ 1024) (hl : v.length = W * H)  :
    Calls Try.prog 134 #[.agg #[.int .i64 (W : Int), .int .i64 (H : Int), u], .agg #[.int .i64 x0, .int .i64 y0, .int .i64 x1, .int .i64 y1]] w (Rets fun r w' => ∃ z, r = .tuple #[z, .int .i64 (withinF x0 y0 x1 y1 W H)] ∧ SL e w' (Arr I64 2 z (cropL W H v x0 y0 x1 y1) :: L)) := by
  refine enter Try.func134 rfl (l := [.agg #[.int .i64 (W : Int), .int .i64 (H : Int), u], .agg #[.int .i64 x0, .int .i64 y0, .int .i64 x1, .int .i64 y1], undef, undef, undef, undef, undef, undef, undef, undef, undef, undef, undef, undef, undef, undef, undef, undef, undef, undef, undef, undef, undef, undef, undef, undef, undef, undef, undef, undef, undef, undef, undef, undef, undef, undef, undef, undef, undef, undef, undef, undef, undef, undef, undef, undef, undef, undef, undef, undef]) rfl ?_
  refine c_seq ?_
  refine c_region ?_
  refine l_box s rfl rfl rfl (ev_of rfl) (fun b3 w2 s1 => ?_)
  change SL _ _ (Blk _ #[_, _, _] _ :: _) at s1
  clear s
  refine nlL (l' := [_,_,_,_,_,_,_,_,_,_,_,_,_,_,_,_,_,_,_,_,_,_,_,_,_,_,_,_,_,_,_,_,_,_,_,_,_,_,_,_,_,_,_,_,_,_,_,_,_,_]) rfl ?_
  refine l_box s1 rfl rfl rfl (ev_of rfl) (fun b6 w5 s4 => ?_)
  change SL _ _ (Blk _ #[_, _, _, _] _ :: _) at s4
  clear s1
  refine nlL (l' := _) rfl ?_
  refine l_val s4 (y_as rfl (ev_of rfl)) rfl rfl (l' := [_,_,_,_,_,_,_,_,_,_,_,_,_,_,_,_,_,_,_,_,_,_,_,_,_,_,_,_,_,_,_,_,_,_,_,_,_,_,_,_,_,_,_,_,_,_,_,_,_,_]) rfl ?_
  refine l_val s4 (y_as rfl (ev_of rfl)) rfl rfl (l' := _) rfl ?_
  refine l_end ?_
  refine x_thenN ?_
  refine c_seq ?_
  refine c_region ?_
  refine l_val s4 (y_load_blk rfl Ty.some58 Ty.agg58 Ty.size58 (ev_of rfl) (by repeat first | exact ent_blk | refine Ent.there ?_) rfl) rfl rfl (l' := [_,_,_,_,_,_,_,_,_,_,_,_,_,_,_,_,_,_,_,_,_,_,_,_,_,_,_,_,_,_,_,_,_,_,_,_,_,_,_,_,_,_,_,_,_,_,_,_,_,_]) rfl ?_
  refine l_val s4 (y_fieldAddrB rfl Ty.fld25_0 Ty.size2 (ev_of rfl)) rfl rfl (l' := _) rfl ?_
  refine l_val s4 (y_load rfl Ty.some2 Ty.agg2 (ev_of rfl) (by repeat first | exact ent_cell rfl | assumption | refine Ent.there ?_)) rfl rfl (l' := [_,_,_,_,_,_,_,_,_,_,_,_,_,_,_,_,_,_,_,_,_,_,_,_,_,_,_,_,_,_,_,_,_,_,_,_,_,_,_,_,_,_,_,_,_,_,_,_,_,_]) rfl ?_
  refine l_val s4 (y_fieldAddrB rfl Ty.fld25_1 Ty.size2 (ev_of rfl)) rfl rfl (l' := _) rfl ?_
  refine l_val s4 (y_load rfl Ty.some2 Ty.agg2 (ev_of rfl) (by repeat first | exact ent_cell rfl | assumption | refine Ent.there ?_)) rfl rfl (l' := [_,_,_,_,_,_,_,_,_,_,_,_,_,_,_,_,_,_,_,_,_,_,_,_,_,_,_,_,_,_,_,_,_,_,_,_,_,_,_,_,_,_,_,_,_,_,_,_,_,_]) rfl ?_
  refine l_callL rfl rfl rfl FnTb.call213 (vs := [_, _, _]) rfl (refWithin_c s4) ?_
  rintro _ w8 ⟨rfl, s7⟩
  clear s4
  refine nlL (l' := _) rfl ?_
  refine l_val s7 (y_as rfl (ev_of rfl)) rfl rfl (l' := [_,_,_,_,_,_,_,_,_,_,_,_,_,_,_,_,_,_,_,_,_,_,_,_,_,_,_,_,_,_,_,_,_,_,_,_,_,_,_,_,_,_,_,_,_,_,_,_,_,_]) rfl ?_
  refine l_end ?_
  refine x_thenN ?_
  refine c_seq ?_
  refine c_seq ?_
  refine c_region ?_
  refine l_val s7 (y_mv rfl (ev_of rfl)) rfl rfl (l' := _) rfl ?_
  refine l_val s7 (y_neq rfl (ev_of rfl) (ev_of rfl)) rfl rfl (l' := [_,_,_,_,_,_,_,_,_,_,_,_,_,_,_,_,_,_,_,_,_,_,_,_,_,_,_,_,_,_,_,_,_,_,_,_,_,_,_,_,_,_,_,_,_,_,_,_,_,_]) rfl ?_
  refine l_end ?_
  refine x_thenN ?_
  refine c_if rfl (fun hc0 => ?_) (fun hc0 => ?_)
  · (try simp only [decide_eq_true_eq, decide_eq_false_iff_not, Bool.not_eq_true', Bool.not_eq_false'] at hc0)
    refine c_seq ?_
    refine c_region ?_
    refine l_val s7 (y_mv rfl (ev_of rfl)) rfl rfl (l' := _) rfl ?_
    refine l_val s7 (y_as rfl (ev_of rfl)) rfl rfl (l' := [_,_,_,_,_,_,_,_,_,_,_,_,_,_,_,_,_,_,_,_,_,_,_,_,_,_,_,_,_,_,_,_,_,_,_,_,_,_,_,_,_,_,_,_,_,_,_,_,_,_]) rfl ?_
    refine l_val s7 (y_as rfl (ev_of rfl)) rfl rfl (l' := _) rfl ?_
    refine l_end ?_
    refine x_thenN ?_
    refine c_ret ?_
    refine x_thenR ?_
    refine r2 rfl rfl rfl ?_
    rw [cropL_no (by simpa using hc0)]
    exact ⟨_, rfl, ((s7.sub (by first | (repeat first | with_reducible exact Sub.refl _ | refine Sub.skip _ ?_); done | (repeat first | with_reducible exact Sub.refl _ | exact Sub.nil _ | refine Sub.take (by repeat first | with_reducible exact Take.here _ _ | apply Take.there) ?_ | refine Sub.skip _ ?_)) : SL e w8 L)).nilArr I64 2⟩
  · (try simp only [decide_eq_true_eq, decide_eq_false_iff_not, Bool.not_eq_true', Bool.not_eq_false'] at hc0)
    have hr : withinF x0 y0 x1 y1 W H = 0 := by simpa using hc0
    obtain ⟨a1, a2, a3, a4, a5, a6, a7, a8, a9, a10⟩ := within0.1 hr
    obtain ⟨X0, rfl⟩ : ∃ n : Nat, x0 = n := ⟨x0.toNat, by omega⟩
    obtain ⟨X1, rfl⟩ : ∃ n : Nat, x1 = n := ⟨x1.toNat, by omega⟩
    obtain ⟨Y0, rfl⟩ : ∃ n : Nat, y0 = n := ⟨y0.toNat, by omega⟩
    obtain ⟨Y1, rfl⟩ : ∃ n : Nat, y1 = n := ⟨y1.toNat, by omega⟩
    refine c_skip ?_
    refine x_thenN ?_
    refine c_seq ?_
    refine c_region ?_
    refine l_bs s7 rfl rfl rfl Ty.elem22 Ty.size2 Ty.zero2 (zs := []) rfl (vs := []) rfl (ps := []) rfl (by intro q hq; simp only [List.zip_cons_cons, List.zip_nil_right, List.zip_nil_left, List.mem_cons, List.not_mem_nil, or_false] at hq <;> cases hq) (cells := []) rfl (by decide) (fun b11 w10 s9 => ?_)
    clear s7
    refine nlL (l' := [_,_,_,_,_,_,_,_,_,_,_,_,_,_,_,_,_,_,_,_,_,_,_,_,_,_,_,_,_,_,_,_,_,_,_,_,_,_,_,_,_,_,_,_,_,_,_,_,_,_]) rfl ?_
    refine l_val s9 (y_as rfl (ev_of rfl)) rfl rfl (l' := _) rfl ?_
    refine l_end ?_
    refine x_thenN ?_
    refine c_seq ?_
    refine c_seq ?_
    refine c_region ?_
    refine l_val s9 (y_fieldAddrB rfl Ty.fld58_1 Ty.size2 (ev_of rfl)) rfl rfl (l' := [_,_,_,_,_,_,_,_,_,_,_,_,_,_,_,_,_,_,_,_,_,_,_,_,_,_,_,_,_,_,_,_,_,_,_,_,_,_,_,_,_,_,_,_,_,_,_,_,_,_]) rfl ?_
    refine l_val s9 (y_load rfl Ty.some2 Ty.agg2 (ev_of rfl) (by repeat first | exact ent_cell rfl | assumption | refine Ent.there ?_)) rfl rfl (l' := _) rfl ?_
    refine l_val s9 (y_as rfl (ev_of rfl)) rfl rfl (l' := [_,_,_,_,_,_,_,_,_,_,_,_,_,_,_,_,_,_,_,_,_,_,_,_,_,_,_,_,_,_,_,_,_,_,_,_,_,_,_,_,_,_,_,_,_,_,_,_,_,_]) rfl ?_
    refine l_end ?_
    refine x_thenN ?_
    refine c_block ?_
    replace s9 := s9.imp (blk_arr (c := I64) (n := 0) (xs := []) rfl rfl)
    change SL _ _ (Arr I64 2 _ (rectV W v X0 Y0 (X1 + 1 - X0) 0) :: _) at s9
    refine c_loop [false, false, false, false, false, false, false, true, true, true, false, false, false, false, false, false, false, false, false, false, false, false, true, true, true, true, true, true, true, true, true, true, true, true, true, true, true, true, true, true, true, true, true, true, true, true, true, true, true, false] (fun mu ds w => ∃ (j : Nat) (z : Value) (dd1 : List Value), ds = [(z), (.int .i64 ((Y0 + j : Nat) : Int)), nthD dd1 0, nthD dd1 1, nthD dd1 2, nthD dd1 3, nthD dd1 4, nthD dd1 5, nthD dd1 6, nthD dd1 7, nthD dd1 8, nthD dd1 9, nthD dd1 10, nthD dd1 11, nthD dd1 12, nthD dd1 13, nthD dd1 14, nthD dd1 15, nthD dd1 16, nthD dd1 17, nthD dd1 18, nthD dd1 19, nthD dd1 20, nthD dd1 21, nthD dd1 22, nthD dd1 23, nthD dd1 24, nthD dd1 25, nthD dd1 26, nthD dd1 27] ∧ mu = (Y1 + 1 - Y0) - j ∧ SL e w (Arr I64 2 z (rectV W v X0 Y0 (X1 + 1 - X0) j) :: Blk b6 #[.int .i64 (X0 : Int), .int .i64 (Y0 : Int), .int .i64 (X1 : Int), .int .i64 (Y1 : Int)] 58 :: Blk b3 #[.int .i64 (W : Int), .int .i64 (H : Int), u] 25 :: L) ∧ (j ≤ (Y1 + 1 - Y0))) (ds := [_, _, _, _, _, _, _, _, _, _, _, _, _, _, _, _, _, _, _, _, _, _, _, _, _, _, _, _, _, _]) rfl ⟨0, _, [_, _, _, _, _, _, _, _, _, _, _, _, _, _, _, _, _, _, _, _, _, _, _, _, _, _, _, _], rfl, rfl, ?_, ?_⟩ ?_
    · first | exact s9 | exact s9.sub (by first | (repeat first | with_reducible exact Sub.refl _ | refine Sub.skip _ ?_); done | (repeat first | with_reducible exact Sub.refl _ | exact Sub.nil _ | refine Sub.take (by repeat first | with_reducible exact Take.here _ _ | apply Take.there) ?_ | refine Sub.skip _ ?_))
    · omega
    · clear s9
      rintro n14 ds15 w13 ⟨j, z, dd1, rfl, rfl, s12, hJ⟩
      refine nlC (l' := [_,_,_,_,_,_,_,_,_,_,_,_,_,_,_,_,_,_,_,_,_,_,_,_,_,_,_,_,_,_,_,_,_,_,_,_,_,_,_,_,_,_,_,_,_,_,_,_,_,_]) rfl ?_
      refine c_seq ?_
      refine c_seq ?_
      refine c_region ?_
      refine l_val s12 (y_mv rfl (ev_of rfl)) rfl rfl (l' := [_,_,_,_,_,_,_,_,_,_,_,_,_,_,_,_,_,_,_,_,_,_,_,_,_,_,_,_,_,_,_,_,_,_,_,_,_,_,_,_,_,_,_,_,_,_,_,_,_,_]) rfl ?_
      refine l_val s12 (y_fieldAddrB rfl Ty.fld58_3 Ty.size2 (ev_of rfl)) rfl rfl (l' := _) rfl ?_
      refine l_val s12 (y_load rfl Ty.some2 Ty.agg2 (ev_of rfl) (by repeat first | exact ent_cell rfl | assumption | refine Ent.there ?_)) rfl rfl (l' := [_,_,_,_,_,_,_,_,_,_,_,_,_,_,_,_,_,_,_,_,_,_,_,_,_,_,_,_,_,_,_,_,_,_,_,_,_,_,_,_,_,_,_,_,_,_,_,_,_,_]) rfl ?_
      refine l_val s12 (y_leq rfl (ev_of rfl) (ev_of rfl)) rfl rfl (l' := _) rfl ?_
      refine l_end ?_
      refine x_thenN ?_
      refine c_if rfl (fun hc1 => ?_) (fun hc1 => ?_)
      · (try simp only [decide_eq_true_eq, decide_eq_false_iff_not, Bool.not_eq_true', Bool.not_eq_false'] at hc1)
        refine c_skip ?_
        refine x_thenN ?_
        refine c_seq ?_
        refine c_block ?_
        refine c_seq ?_
        refine c_region ?_
        refine l_val s12 (y_fieldAddrB rfl Ty.fld58_0 Ty.size2 (ev_of rfl)) rfl rfl (l' := [_,_,_,_,_,_,_,_,_,_,_,_,_,_,_,_,_,_,_,_,_,_,_,_,_,_,_,_,_,_,_,_,_,_,_,_,_,_,_,_,_,_,_,_,_,_,_,_,_,_]) rfl ?_
        refine l_val s12 (y_load rfl Ty.some2 Ty.agg2 (ev_of rfl) (by repeat first | exact ent_cell rfl | assumption | refine Ent.there ?_)) rfl rfl (l' := _) rfl ?_
        refine l_val s12 (y_as rfl (ev_of rfl)) rfl rfl (l' := [_,_,_,_,_,_,_,_,_,_,_,_,_,_,_,_,_,_,_,_,_,_,_,_,_,_,_,_,_,_,_,_,_,_,_,_,_,_,_,_,_,_,_,_,_,_,_,_,_,_]) rfl ?_
        refine l_end ?_
        refine x_thenN ?_
        refine c_block ?_
        rw [show rectV W v X0 Y0 (X1 + 1 - X0) j = rectV W v X0 Y0 (X1 + 1 - X0) j ++ rowV W v (Y0 + j) X0 0 from (List.append_nil _).symm] at s12
        refine c_loop [false, false, false, false, false, false, false, true, false, true, false, false, false, false, false, false, false, false, false, false, false, false, false, false, false, false, false, false, false, false, true, true, true, true, true, true, true, true, true, true, true, true, true, true, true, true, true, true, true, false] (fun mu ds w => ∃ (i : Nat) (z : Value) (dd2 : List Value), ds = [(z), (.int .i64 ((X0 + i : Nat) : Int)), nthD dd2 0, nthD dd2 1, nthD dd2 2, nthD dd2 3, nthD dd2 4, nthD dd2 5, nthD dd2 6, nthD dd2 7, nthD dd2 8, nthD dd2 9, nthD dd2 10, nthD dd2 11, nthD dd2 12, nthD dd2 13, nthD dd2 14, nthD dd2 15, nthD dd2 16, nthD dd2 17, nthD dd2 18] ∧ mu = (X1 + 1 - X0) - i ∧ SL e w (Arr I64 2 z (rectV W v X0 Y0 (X1 + 1 - X0) j ++ rowV W v (Y0 + j) X0 i) :: Blk b6 #[.int .i64 (X0 : Int), .int .i64 (Y0 : Int), .int .i64 (X1 : Int), .int .i64 (Y1 : Int)] 58 :: Blk b3 #[.int .i64 (W : Int), .int .i64 (H : Int), u] 25 :: L) ∧ (i ≤ (X1 + 1 - X0))) (ds := [_, _, _, _, _, _, _, _, _, _, _, _, _, _, _, _, _, _, _, _, _]) rfl ⟨0, _, [_, _, _, _, _, _, _, _, _, _, _, _, _, _, _, _, _, _, _], rfl, rfl, ?_, ?_⟩ ?_
        · first | exact s12 | exact s12.sub (by first | (repeat first | with_reducible exact Sub.refl _ | refine Sub.skip _ ?_); done | (repeat first | with_reducible exact Sub.refl _ | exact Sub.nil _ | refine Sub.take (by repeat first | with_reducible exact Take.here _ _ | apply Take.there) ?_ | refine Sub.skip _ ?_))
        · omega
        · clear s12
          rintro n18 ds19 w17 ⟨i, z, dd2, rfl, rfl, s16, hI⟩
          refine nlC (l' := [_,_,_,_,_,_,_,_,_,_,_,_,_,_,_,_,_,_,_,_,_,_,_,_,_,_,_,_,_,_,_,_,_,_,_,_,_,_,_,_,_,_,_,_,_,_,_,_,_,_]) rfl ?_
          refine c_seq ?_
          refine c_seq ?_
          refine c_region ?_
          refine l_val s16 (y_mv rfl (ev_of rfl)) rfl rfl (l' := [_,_,_,_,_,_,_,_,_,_,_,_,_,_,_,_,_,_,_,_,_,_,_,_,_,_,_,_,_,_,_,_,_,_,_,_,_,_,_,_,_,_,_,_,_,_,_,_,_,_]) rfl ?_
          refine l_val s16 (y_fieldAddrB rfl Ty.fld58_2 Ty.size2 (ev_of rfl)) rfl rfl (l' := _) rfl ?_
          refine l_val s16 (y_load rfl Ty.some2 Ty.agg2 (ev_of rfl) (by repeat first | exact ent_cell rfl | assumption | refine Ent.there ?_)) rfl rfl (l' := [_,_,_,_,_,_,_,_,_,_,_,_,_,_,_,_,_,_,_,_,_,_,_,_,_,_,_,_,_,_,_,_,_,_,_,_,_,_,_,_,_,_,_,_,_,_,_,_,_,_]) rfl ?_
          refine l_val s16 (y_leq rfl (ev_of rfl) (ev_of rfl)) rfl rfl (l' := _) rfl ?_
          refine l_end ?_
          refine x_thenN ?_
          refine c_if rfl (fun hc2 => ?_) (fun hc2 => ?_)
          · (try simp only [decide_eq_true_eq, decide_eq_false_iff_not, Bool.not_eq_true', Bool.not_eq_false'] at hc2)
            refine c_skip ?_
            refine x_thenN ?_
            refine c_seq ?_
            refine c_block ?_
            refine c_region ?_
            have hcl := cell_lt (W := W) (H := H) (x := X0 + i) (y := Y0 + j) (by omega) (by omega)
            have hmi : ((Y0 + j : Nat) : Int) * (W : Int) = (((Y0 + j) * W : Nat) : Int) := (Int.natCast_mul _ _).symm
            have hbW : W * H ≤ 1024 * 1024 := Nat.mul_le_mul hw.2 hh.2
            have hmj : j * (X1 + 1 - X0) ≤ 1024 * 1024 := Nat.mul_le_mul (by omega) (by omega)
            refine l_val s16 (y_mv rfl (ev_of rfl)) rfl rfl (l' := [_,_,_,_,_,_,_,_,_,_,_,_,_,_,_,_,_,_,_,_,_,_,_,_,_,_,_,_,_,_,_,_,_,_,_,_,_,_,_,_,_,_,_,_,_,_,_,_,_,_]) rfl ?_
            refine l_val s16 (y_fieldAddrB rfl Ty.fld25_2 Ty.size22 (ev_of rfl)) rfl rfl (l' := _) rfl ?_
            refine l_val s16 (y_load rfl Ty.some22 Ty.agg22 (ev_of rfl) (by repeat first | exact ent_cell rfl | assumption | refine Ent.there ?_)) rfl rfl (l' := [_,_,_,_,_,_,_,_,_,_,_,_,_,_,_,_,_,_,_,_,_,_,_,_,_,_,_,_,_,_,_,_,_,_,_,_,_,_,_,_,_,_,_,_,_,_,_,_,_,_]) rfl ?_
            refine l_val s16 (y_mv rfl (ev_of rfl)) rfl rfl (l' := _) rfl ?_
            refine l_val s16 (y_fieldAddrB rfl Ty.fld25_0 Ty.size2 (ev_of rfl)) rfl rfl (l' := [_,_,_,_,_,_,_,_,_,_,_,_,_,_,_,_,_,_,_,_,_,_,_,_,_,_,_,_,_,_,_,_,_,_,_,_,_,_,_,_,_,_,_,_,_,_,_,_,_,_]) rfl ?_
            refine l_val s16 (y_load rfl Ty.some2 Ty.agg2 (ev_of rfl) (by repeat first | exact ent_cell rfl | assumption | refine Ent.there ?_)) rfl rfl (l' := _) rfl ?_
            refine l_val s16 (y_mul rfl (ev_of rfl) (ev_of rfl) (by omega) (by omega)) rfl rfl (l' := [_,_,_,_,_,_,_,_,_,_,_,_,_,_,_,_,_,_,_,_,_,_,_,_,_,_,_,_,_,_,_,_,_,_,_,_,_,_,_,_,_,_,_,_,_,_,_,_,_,_]) rfl ?_
            refine l_val s16 (y_mv rfl (ev_of rfl)) rfl rfl (l' := _) rfl ?_
            refine l_val s16 (y_add rfl (ev_of rfl) (ev_of rfl) (by omega) (by omega)) rfl rfl (l' := [_,_,_,_,_,_,_,_,_,_,_,_,_,_,_,_,_,_,_,_,_,_,_,_,_,_,_,_,_,_,_,_,_,_,_,_,_,_,_,_,_,_,_,_,_,_,_,_,_,_]) rfl ?_
            refine l_val s16 (y_idx (c := I64) (n := (Y0 + j) * W + (X0 + i)) rfl Ty.elem22 Ty.size2 (ev_of rfl) (ev_of rfl) (by first | (repeat first | assumption | with_reducible exact ent_blk | with_reducible exact Ent.here arr_reads | with_reducible exact Ent.here one_I64 | with_reducible exact Ent.here one_Cell | refine Ent.there ?_); done | (repeat first | assumption | with_reducible exact ent_blk | exact Ent.here arr_reads | exact Ent.here one_I64 | exact Ent.here one_Cell | exact Ent.here one_Bool | exact Ent.here one_Rect | refine Ent.there ?_)) rfl (by omega)) rfl rfl (l' := _) rfl ?_
            refine l_val s16 (y_ldI (n := (Y0 + j) * W + (X0 + i)) rfl Ty.some2 Ty.agg2 (ev_of rfl) (by first | (repeat first | assumption | with_reducible exact ent_blk | with_reducible exact Ent.here arr_reads | with_reducible exact Ent.here one_I64 | with_reducible exact Ent.here one_Cell | refine Ent.there ?_); done | (repeat first | assumption | with_reducible exact ent_blk | exact Ent.here arr_reads | exact Ent.here one_I64 | exact Ent.here one_Cell | exact Ent.here one_Bool | exact Ent.here one_Rect | refine Ent.there ?_)) (by omega)) rfl rfl (l' := [_,_,_,_,_,_,_,_,_,_,_,_,_,_,_,_,_,_,_,_,_,_,_,_,_,_,_,_,_,_,_,_,_,_,_,_,_,_,_,_,_,_,_,_,_,_,_,_,_,_]) rfl ?_
            refine l_bs s16 rfl rfl rfl Ty.elem22 Ty.size2 Ty.zero2 (zs := [_]) rfl (vs := [(0, _)]) rfl (ps := [(0, [_])]) rfl (by intro q hq; simp only [List.zip_cons_cons, List.zip_nil_right, List.zip_nil_left, List.mem_cons, List.not_mem_nil, or_false] at hq; rcases hq with rfl <;> exact ⟨rfl, rfl, by first | rfl | (simp only [cells_one (arr_one (by first | (repeat first | assumption | with_reducible exact ent_blk | with_reducible exact Ent.here arr_reads | with_reducible exact Ent.here one_I64 | with_reducible exact Ent.here one_Cell | refine Ent.there ?_); done | (repeat first | assumption | with_reducible exact ent_blk | exact Ent.here arr_reads | exact Ent.here one_I64 | exact Ent.here one_Cell | exact Ent.here one_Bool | exact Ent.here one_Rect | refine Ent.there ?_)) s16)]; first | done | rfl), by simp⟩) (cells := [_]) rfl (by decide) (fun b22 w21 s20 => ?_)
            clear s16
            refine nlL (l' := _) rfl ?_
            refine l_append1 s20 (by repeat first | exact Take.here (Blk _ _ _) _ | apply Take.there) (by repeat first | with_reducible exact Take.here _ _ | apply Take.there) rfl rfl rfl Ty.elem22 Ty.size2 Ty.bytes2 Ty.zero2 rfl (ev_of rfl) (ev_of rfl) one_I64 (by simp only [List.length_append, rectV_length, rowV_length, List.length_cons, List.length_nil]; omega) (by decide) (fun v25 w24 s23 => ?_)
            clear s20
            refine nlL (l' := [_,_,_,_,_,_,_,_,_,_,_,_,_,_,_,_,_,_,_,_,_,_,_,_,_,_,_,_,_,_,_,_,_,_,_,_,_,_,_,_,_,_,_,_,_,_,_,_,_,_]) rfl ?_
            refine l_val s23 (y_as rfl (ev_of rfl)) rfl rfl (l' := _) rfl ?_
            refine l_end ?_
            refine x_blockN ?_
            refine x_thenN ?_
            refine c_region ?_
            refine l_val s23 (y_mv rfl (ev_of rfl)) rfl rfl (l' := [_,_,_,_,_,_,_,_,_,_,_,_,_,_,_,_,_,_,_,_,_,_,_,_,_,_,_,_,_,_,_,_,_,_,_,_,_,_,_,_,_,_,_,_,_,_,_,_,_,_]) rfl ?_
            refine l_val s23 (y_add rfl (ev_of rfl) (ev_of rfl) (by omega) (by omega)) rfl rfl (l' := _) rfl ?_
            refine l_val s23 (y_as rfl (ev_of rfl)) rfl rfl (l' := [_,_,_,_,_,_,_,_,_,_,_,_,_,_,_,_,_,_,_,_,_,_,_,_,_,_,_,_,_,_,_,_,_,_,_,_,_,_,_,_,_,_,_,_,_,_,_,_,_,_]) rfl ?_
            refine l_end ?_
            refine x_thenN ?_
            rw [List.append_assoc] at s23
            change SL _ _ (Arr I64 2 _ (_ ++ (rowV W v (Y0 + j) X0 i ++ [v.getD ((Y0 + j) * W + (X0 + i)) 0])) :: _) at s23
            rw [← rowV_succ] at s23
            refine ⟨_, [_, _, _, _, _, _, _, _, _, _, _, _, _, _, _, _, _, _, _, _, _], ?_, rfl, i + 1, _, [_, _, _, _, _, _, _, _, _, _, _, _, _, _, _, _, _, _, _], rfl, rfl, ?_, ?_⟩
            · omega
            · first | exact s23 | exact s23.sub (by first | (repeat first | with_reducible exact Sub.refl _ | refine Sub.skip _ ?_); done | (repeat first | with_reducible exact Sub.refl _ | exact Sub.nil _ | refine Sub.take (by repeat first | with_reducible exact Take.here _ _ | apply Take.there) ?_ | refine Sub.skip _ ?_))
            · omega
          · (try simp only [decide_eq_true_eq, decide_eq_false_iff_not, Bool.not_eq_true', Bool.not_eq_false'] at hc2)
            refine c_exit ?_
            refine x_thenE ?_
            refine x_thenE ?_
            refine x_hit ?_
            refine x_blockN ?_
            refine x_thenN ?_
            refine c_region ?_
            refine l_val s16 (y_mv rfl (ev_of rfl)) rfl rfl (l' := _) rfl ?_
            refine l_val s16 (y_add rfl (ev_of rfl) (ev_of rfl) (by omega) (by omega)) rfl rfl (l' := [_,_,_,_,_,_,_,_,_,_,_,_,_,_,_,_,_,_,_,_,_,_,_,_,_,_,_,_,_,_,_,_,_,_,_,_,_,_,_,_,_,_,_,_,_,_,_,_,_,_]) rfl ?_
            refine l_val s16 (y_as rfl (ev_of rfl)) rfl rfl (l' := _) rfl ?_
            refine l_end ?_
            refine x_thenN ?_
            obtain rfl : i = (X1 + 1 - X0) := by omega
            rw [← rectV_succ] at s16
            refine ⟨_, [_, _, _, _, _, _, _, _, _, _, _, _, _, _, _, _, _, _, _, _, _, _, _, _, _, _, _, _, _, _], ?_, rfl, j + 1, _, [_, _, _, _, _, _, _, _, _, _, _, _, _, _, _, _, _, _, _, _, _, _, _, _, _, _, _, _], rfl, rfl, ?_, ?_⟩
            · omega
            · first | exact s16 | exact s16.sub (by first | (repeat first | with_reducible exact Sub.refl _ | refine Sub.skip _ ?_); done | (repeat first | with_reducible exact Sub.refl _ | exact Sub.nil _ | refine Sub.take (by repeat first | with_reducible exact Take.here _ _ | apply Take.there) ?_ | refine Sub.skip _ ?_))
            · omega
      · (try simp only [decide_eq_true_eq, decide_eq_false_iff_not, Bool.not_eq_true', Bool.not_eq_false'] at hc1)
        refine c_exit ?_
        refine x_thenE ?_
        refine x_thenE ?_
        refine x_hit ?_
        refine x_thenN ?_
        refine c_seq ?_
        refine c_region ?_
        refine l_val s12 (y_mv rfl (ev_of rfl)) rfl rfl (l' := [_,_,_,_,_,_,_,_,_,_,_,_,_,_,_,_,_,_,_,_,_,_,_,_,_,_,_,_,_,_,_,_,_,_,_,_,_,_,_,_,_,_,_,_,_,_,_,_,_,_]) rfl ?_
        refine l_val s12 (y_as rfl (ev_of rfl)) rfl rfl (l' := _) rfl ?_
        refine l_val s12 (y_as rfl (ev_of rfl)) rfl rfl (l' := [_,_,_,_,_,_,_,_,_,_,_,_,_,_,_,_,_,_,_,_,_,_,_,_,_,_,_,_,_,_,_,_,_,_,_,_,_,_,_,_,_,_,_,_,_,_,_,_,_,_]) rfl ?_
        refine l_end ?_
        refine x_thenN ?_
        refine c_ret ?_
        refine r2 rfl rfl rfl ?_
        obtain rfl : j = (Y1 + 1 - Y0) := by omega
        rw [cropL_nat hr, hr]
        exact ⟨_, rfl, s12.sub (by first | (repeat first | with_reducible exact Sub.refl _ | refine Sub.skip _ ?_); done | (repeat first | with_reducible exact Sub.refl _ | exact Sub.nil _ | refine Sub.take (by repeat first | with_reducible exact Take.here _ _ | apply Take.there) ?_ | refine Sub.skip _ ?_))⟩
set_option maxHeartbeats 4000000 in
set_option maxRecDepth 100000 in
/-- hachure/hachureref42.Crop -/
theorem refCrop_c {e : Env} {L : List Asn} {w : World} {x0 y0 x1 y1 : Int} {W H : Nat} {u : Value} {v : List Int} (s : SL e w L) (hv : Ent L (SlR I64 u v)) (hw : 1 ≤ W ∧ W ≤ 1024) (hh : 1 ≤ H ∧ H ≤ 1024) (hl : v.length = W * H)  :
    Calls Try.prog 50 #[.agg #[.int .i64 (W : Int), .int .i64 (H : Int), u], .agg #[.int .i64 x0, .int .i64 y0, .int .i64 x1, .int .i64 y1]] w (Rets fun r w' => ∃ a b z, r = .tuple #[.agg #[.int .i64 a, .int .i64 b, z], .int .i64 (withinF x0 y0 x1 y1 W H)] ∧ (withinF x0 y0 x1 y1 W H = 0 → a = ((x1.toNat + 1 - x0.toNat : Nat) : Int) ∧ b = ((y1.toNat + 1 - y0.toNat : Nat) : Int)) ∧ SL e w' (Arr I64 2 z (cropL W H v x0 y0 x1 y1) :: L)) := by
  refine enter Try.func50 rfl (l := [.agg #[.int .i64 (W : Int), .int .i64 (H : Int), u], .agg #[.int .i64 x0, .int .i64 y0, .int .i64 x1, .int .i64 y1], undef, undef, undef, undef, undef, undef, undef, undef, undef, undef, undef, undef, undef, undef, undef, undef, undef, undef, undef, undef, undef, undef, undef, undef, undef, undef, undef, undef, undef, undef]) rfl ?_
  refine c_seq ?_
  refine c_region ?_
  refine l_box s rfl rfl rfl (ev_of rfl) (fun b3 w2 s1 => ?_)
  change SL _ _ (Blk _ #[_, _, _] _ :: _) at s1
  clear s
  refine nlL (l' := _) rfl ?_
  refine l_box s1 rfl rfl rfl (ev_of rfl) (fun b6 w5 s4 => ?_)
  change SL _ _ (Blk _ #[_, _, _, _] _ :: _) at s4
  clear s1
  refine nlL (l' := [_,_,_,_,_,_,_,_,_,_,_,_,_,_,_,_,_,_,_,_,_,_,_,_,_,_,_,_,_,_,_,_]) rfl ?_
  refine l_alloc s4 rfl rfl rfl Ty.zero25 (fun b9 w8 s7 => ?_)
  change SL _ _ (Blk _ #[_, _, _] _ :: _) at s7
  clear s4
  refine nlL (l' := _) rfl ?_
  refine l_val s7 (y_as rfl (ev_of rfl)) rfl rfl (l' := [_,_,_,_,_,_,_,_,_,_,_,_,_,_,_,_,_,_,_,_,_,_,_,_,_,_,_,_,_,_,_,_]) rfl ?_
  refine l_end ?_
  refine x_thenN ?_
  refine c_seq ?_
  refine c_region ?_
  refine l_val s7 (y_load_blk rfl Ty.some25 Ty.agg25 Ty.size25 (ev_of rfl) (by repeat first | exact ent_blk | refine Ent.there ?_) rfl) rfl rfl (l' := _) rfl ?_
  refine l_val s7 (y_load_blk rfl Ty.some58 Ty.agg58 Ty.size58 (ev_of rfl) (by repeat first | exact ent_blk | refine Ent.there ?_) rfl) rfl rfl (l' := [_,_,_,_,_,_,_,_,_,_,_,_,_,_,_,_,_,_,_,_,_,_,_,_,_,_,_,_,_,_,_,_]) rfl ?_
  refine l_callL rfl rfl rfl FnTb.call134 (vs := [_, _]) rfl (refValues_c s7 (by first | (repeat first | assumption | with_reducible exact ent_blk | with_reducible exact Ent.here arr_reads | with_reducible exact Ent.here one_I64 | with_reducible exact Ent.here one_Cell | refine Ent.there ?_); done | (repeat first | assumption | with_reducible exact ent_blk | exact Ent.here arr_reads | exact Ent.here one_I64 | exact Ent.here one_Cell | exact Ent.here one_Bool | exact Ent.here one_Rect | refine Ent.there ?_)) hw hh hl) ?_
  rintro _ w11 ⟨z, rfl, s10⟩
  clear s7
  refine nlL (l' := _) rfl ?_
  refine l_val s10 (y_mv rfl (ev_of rfl)) rfl rfl (l' := [_,_,_,_,_,_,_,_,_,_,_,_,_,_,_,_,_,_,_,_,_,_,_,_,_,_,_,_,_,_,_,_]) rfl ?_
  refine l_val s10 (y_extract rfl (ev_of rfl) rfl) rfl rfl (l' := _) rfl ?_
  refine l_val s10 (y_extract rfl (ev_of rfl) rfl) rfl rfl (l' := [_,_,_,_,_,_,_,_,_,_,_,_,_,_,_,_,_,_,_,_,_,_,_,_,_,_,_,_,_,_,_,_]) rfl ?_
  refine l_val s10 (y_as rfl (ev_of rfl)) rfl rfl (l' := _) rfl ?_
  refine l_val s10 (y_as rfl (ev_of rfl)) rfl rfl (l' := [_,_,_,_,_,_,_,_,_,_,_,_,_,_,_,_,_,_,_,_,_,_,_,_,_,_,_,_,_,_,_,_]) rfl ?_
  refine l_end ?_
  refine x_thenN ?_
  refine c_seq ?_
  refine c_seq ?_
  refine c_region ?_
  refine l_val s10 (y_mv rfl (ev_of rfl)) rfl rfl (l' := _) rfl ?_
  refine l_val s10 (y_neq rfl (ev_of rfl) (ev_of rfl)) rfl rfl (l' := [_,_,_,_,_,_,_,_,_,_,_,_,_,_,_,_,_,_,_,_,_,_,_,_,_,_,_,_,_,_,_,_]) rfl ?_
  refine l_end ?_
  refine x_thenN ?_
  refine c_if rfl (fun hc0 => ?_) (fun hc0 => ?_)
  · (try simp only [decide_eq_true_eq, decide_eq_false_iff_not, Bool.not_eq_true', Bool.not_eq_false'] at hc0)
    refine c_seq ?_
    refine c_region ?_
    refine l_val s10 (y_bld (zs := [_, _, _]) (vs := []) (ps := []) (v := .agg #[_, _, _]) rfl Ty.zero25 rfl (fs_of Ty.fs25) rfl rfl (by intro q hq; simp only [List.zip_cons_cons, List.zip_nil_right, List.zip_nil_left, List.mem_cons, List.not_mem_nil, or_false] at hq <;> cases hq) rfl ⟨_, rfl⟩) rfl rfl (l' := _) rfl ?_
    refine l_val s10 (y_mv rfl (ev_of rfl)) rfl rfl (l' := [_,_,_,_,_,_,_,_,_,_,_,_,_,_,_,_,_,_,_,_,_,_,_,_,_,_,_,_,_,_,_,_]) rfl ?_
    refine l_stA s10 (by repeat first | with_reducible exact Take.here _ _ | apply Take.there) rfl rfl rfl Ty.size25 (ev_of rfl) (ev_of rfl) rfl rfl (by first | (simp [Value.oneCell']; done) | (intro x hx; simp only [List.mem_toArray, List.mem_cons, List.not_mem_nil, or_false] at hx; rcases hx with rfl | rfl | rfl <;> first | rfl | assumption | exact arr_one (by first | (repeat first | assumption | with_reducible exact ent_blk | with_reducible exact Ent.here arr_reads | with_reducible exact Ent.here one_I64 | with_reducible exact Ent.here one_Cell | refine Ent.there ?_); done | (repeat first | assumption | with_reducible exact ent_blk | exact Ent.here arr_reads | exact Ent.here one_I64 | exact Ent.here one_Cell | exact Ent.here one_Bool | exact Ent.here one_Rect | refine Ent.there ?_)) s10)) (fun w13 s12 => ?_)
    clear s10
    refine l_val s12 (y_as rfl (ev_of rfl)) rfl rfl (l' := _) rfl ?_
    refine l_end ?_
    refine x_thenN ?_
    refine c_ret ?_
    refine x_thenR ?_
    refine rc2 s12 rfl rfl Ty.some25 Ty.agg25 Ty.size25 (by repeat first | exact ent_blk | refine Ent.there ?_) rfl rfl ?_
    exact ⟨_, _, _, rfl, fun h => absurd h (by simpa using hc0), by rw [cropL_no (by simpa using hc0)]; exact ((s12.sub (by first | (repeat first | with_reducible exact Sub.refl _ | refine Sub.skip _ ?_); done | (repeat first | with_reducible exact Sub.refl _ | exact Sub.nil _ | refine Sub.take (by repeat first | with_reducible exact Take.here _ _ | apply Take.there) ?_ | refine Sub.skip _ ?_)) : SL e w13 L)).nilArr I64 2⟩
  · (try simp only [decide_eq_true_eq, decide_eq_false_iff_not, Bool.not_eq_true', Bool.not_eq_false'] at hc0)
    have hr : withinF x0 y0 x1 y1 W H = 0 := by simpa using hc0
    obtain ⟨a1, a2, a3, a4, a5, a6, a7, a8, a9, a10⟩ := within0.1 hr
    obtain ⟨X0, rfl⟩ : ∃ n : Nat, x0 = n := ⟨x0.toNat, by omega⟩
    obtain ⟨X1, rfl⟩ : ∃ n : Nat, x1 = n := ⟨x1.toNat, by omega⟩
    obtain ⟨Y0, rfl⟩ : ∃ n : Nat, y0 = n := ⟨y0.toNat, by omega⟩
    obtain ⟨Y1, rfl⟩ : ∃ n : Nat, y1 = n := ⟨y1.toNat, by omega⟩
    refine c_skip ?_
    refine x_thenN ?_
    refine c_seq ?_
    refine c_region ?_
    refine l_val s10 (y_fieldAddrB rfl Ty.fld58_2 Ty.size2 (ev_of rfl)) rfl rfl (l' := [_,_,_,_,_,_,_,_,_,_,_,_,_,_,_,_,_,_,_,_,_,_,_,_,_,_,_,_,_,_,_,_]) rfl ?_
    refine l_val s10 (y_load rfl Ty.some2 Ty.agg2 (ev_of rfl) (by repeat first | exact ent_cell rfl | assumption | refine Ent.there ?_)) rfl rfl (l' := _) rfl ?_
    refine l_val s10 (y_fieldAddrB rfl Ty.fld58_0 Ty.size2 (ev_of rfl)) rfl rfl (l' := [_,_,_,_,_,_,_,_,_,_,_,_,_,_,_,_,_,_,_,_,_,_,_,_,_,_,_,_,_,_,_,_]) rfl ?_
    refine l_val s10 (y_load rfl Ty.some2 Ty.agg2 (ev_of rfl) (by repeat first | exact ent_cell rfl | assumption | refine Ent.there ?_)) rfl rfl (l' := _) rfl ?_
    refine l_val s10 (y_sub rfl (ev_of rfl) (ev_of rfl) (by omega) (by omega)) rfl rfl (l' := [_,_,_,_,_,_,_,_,_,_,_,_,_,_,_,_,_,_,_,_,_,_,_,_,_,_,_,_,_,_,_,_]) rfl ?_
    refine l_val s10 (y_add rfl (ev_of rfl) (ev_of rfl) (by omega) (by omega)) rfl rfl (l' := _) rfl ?_
    refine l_val s10 (y_fieldAddrB rfl Ty.fld58_3 Ty.size2 (ev_of rfl)) rfl rfl (l' := [_,_,_,_,_,_,_,_,_,_,_,_,_,_,_,_,_,_,_,_,_,_,_,_,_,_,_,_,_,_,_,_]) rfl ?_
    refine l_val s10 (y_load rfl Ty.some2 Ty.agg2 (ev_of rfl) (by repeat first | exact ent_cell rfl | assumption | refine Ent.there ?_)) rfl rfl (l' := _) rfl ?_
    refine l_val s10 (y_fieldAddrB rfl Ty.fld58_1 Ty.size2 (ev_of rfl)) rfl rfl (l' := [_,_,_,_,_,_,_,_,_,_,_,_,_,_,_,_,_,_,_,_,_,_,_,_,_,_,_,_,_,_,_,_]) rfl ?_
    refine l_val s10 (y_load rfl Ty.some2 Ty.agg2 (ev_of rfl) (by repeat first | exact ent_cell rfl | assumption | refine Ent.there ?_)) rfl rfl (l' := _) rfl ?_
    refine l_val s10 (y_sub rfl (ev_of rfl) (ev_of rfl) (by omega) (by omega)) rfl rfl (l' := [_,_,_,_,_,_,_,_,_,_,_,_,_,_,_,_,_,_,_,_,_,_,_,_,_,_,_,_,_,_,_,_]) rfl ?_
    refine l_val s10 (y_add rfl (ev_of rfl) (ev_of rfl) (by omega) (by omega)) rfl rfl (l' := _) rfl ?_
    refine l_val s10 (y_mv rfl (ev_of rfl)) rfl rfl (l' := [_,_,_,_,_,_,_,_,_,_,_,_,_,_,_,_,_,_,_,_,_,_,_,_,_,_,_,_,_,_,_,_]) rfl ?_
    refine nlL (l' := [_, _, _, _, _, _, _, _, _, _, _, _, _, _, _, _, _, _, _, _, _, _, _, _, _, _, _, _, _, _, z, _]) rfl ?_
    refine l_val s10 (y_bld (zs := [_, _, _]) (vs := [(0, _), (1, _), (2, _)]) (ps := [(0, [_]), (1, [_]), (2, [_])]) (v := .agg #[_, _, _]) rfl Ty.zero25 rfl (fs_of Ty.fs25) rfl rfl (by intro q hq; simp only [List.zip_cons_cons, List.zip_nil_right, List.zip_nil_left, List.mem_cons, List.not_mem_nil, or_false] at hq; rcases hq with rfl | rfl | rfl <;> exact ⟨by kernel_rfl, by first | rfl | (simp only [cells_one (arr_one (by first | (repeat first | assumption | with_reducible exact ent_blk | with_reducible exact Ent.here arr_reads | with_reducible exact Ent.here one_I64 | with_reducible exact Ent.here one_Cell | refine Ent.there ?_); done | (repeat first | assumption | with_reducible exact ent_blk | exact Ent.here arr_reads | exact Ent.here one_I64 | exact Ent.here one_Cell | exact Ent.here one_Bool | exact Ent.here one_Rect | refine Ent.there ?_)) s10)]; first | done | rfl), by simp⟩) rfl ⟨_, rfl⟩) rfl rfl (l' := _) rfl ?_
    refine l_stA s10 (by repeat first | with_reducible exact Take.here _ _ | apply Take.there) rfl rfl rfl Ty.size25 (ev_of rfl) (ev_of rfl) rfl rfl (by first | (simp [Value.oneCell']; done) | (intro x hx; simp only [List.mem_toArray, List.mem_cons, List.not_mem_nil, or_false] at hx; rcases hx with rfl | rfl | rfl <;> first | rfl | assumption | exact arr_one (by first | (repeat first | assumption | with_reducible exact ent_blk | with_reducible exact Ent.here arr_reads | with_reducible exact Ent.here one_I64 | with_reducible exact Ent.here one_Cell | refine Ent.there ?_); done | (repeat first | assumption | with_reducible exact ent_blk | exact Ent.here arr_reads | exact Ent.here one_I64 | exact Ent.here one_Cell | exact Ent.here one_Bool | exact Ent.here one_Rect | refine Ent.there ?_)) s10)) (fun w15 s14 => ?_)
    clear s10
    refine l_val s14 (y_as rfl (ev_of rfl)) rfl rfl (l' := [_,_,_,_,_,_,_,_,_,_,_,_,_,_,_,_,_,_,_,_,_,_,_,_,_,_,_,_,_,_,_,_]) rfl ?_
    refine l_end ?_
    refine x_thenN ?_
    refine c_ret ?_
    refine rc2 s14 rfl rfl Ty.some25 Ty.agg25 Ty.size25 (by repeat first | exact ent_blk | refine Ent.there ?_) rfl rfl ?_
    exact ⟨_, _, _, by rw [hr], fun _ => ⟨show (X1 : Int) - X0 + 1 = ((X1 + 1 - X0 : Nat) : Int) by omega, show (Y1 : Int) - Y0 + 1 = ((Y1 + 1 - Y0 : Nat) : Int) by omega⟩, s14.sub (by first | (repeat first | with_reducible exact Sub.refl _ | refine Sub.skip _ ?_); done | (repeat first | with_reducible exact Sub.refl _ | exact Sub.nil _ | refine Sub.take (by repeat first | with_reducible exact Take.here _ _ | apply Take.there) ?_ | refine Sub.skip _ ?_))⟩
set_option maxHeartbeats 4000000 in
set_option maxRecDepth 100000 in
/-- hachure/hachureref42.Scale -/
theorem refScale_c {e : Env} {L : List Asn} {w : World} {k : Int} {W H : Nat} {u : Value} {v : List Int} (s : SL e w L) (hv : Ent L (SlR I64 u v)) (hw : 1 ≤ W ∧ W ≤ 1024) (hh : 1 ≤ H ∧ H ≤ 1024) (hl : v.length = W * H)  :
    Calls Try.prog 52 #[.agg #[.int .i64 (W : Int), .int .i64 (H : Int), u], .int .i64 k] w (Rets fun r w' => ∃ a b z, r = .tuple #[.agg #[.int .i64 a, .int .i64 b, z], .int .i64 (scK W H k)] ∧ (scK W H k = 0 → a = ((W * k.toNat : Nat) : Int) ∧ b = ((H * k.toNat : Nat) : Int)) ∧ SL e w' (Arr I64 2 z (scL W H k v) :: L)) := by
  refine enter Try.func52 rfl (l := [.agg #[.int .i64 (W : Int), .int .i64 (H : Int), u], .int .i64 k, undef, undef, undef, undef, undef, undef, undef, undef, undef, undef, undef, undef, undef, undef, undef, undef, undef, undef, undef, undef, undef, undef, undef, undef, undef, undef, undef, undef, undef, undef, undef, undef, undef, undef, undef, undef, undef, undef, undef, undef, undef, undef, undef, undef, undef, undef, undef, undef, undef, undef, undef, undef, undef, undef, undef, undef, undef, undef, undef, undef, undef, undef, undef, undef, undef, undef, undef, undef]) rfl ?_
  refine c_seq ?_
  refine c_region ?_
  refine l_box s rfl rfl rfl (ev_of rfl) (fun b3 w2 s1 => ?_)
  change SL _ _ (Blk _ #[_, _, _] _ :: _) at s1
  clear s
  refine nlL (l' := _) rfl ?_
  refine l_alloc s1 rfl rfl rfl Ty.zero25 (fun b6 w5 s4 => ?_)
  change SL _ _ (Blk _ #[_, _, _] _ :: _) at s4
  clear s1
  refine nlL (l' := [_,_,_,_,_,_,_,_,_,_,_,_,_,_,_,_,_,_,_,_,_,_,_,_,_,_,_,_,_,_,_,_,_,_,_,_,_,_,_,_,_,_,_,_,_,_,_,_,_,_,_,_,_,_,_,_,_,_,_,_,_,_,_,_,_,_,_,_,_,_]) rfl ?_
  refine l_val s4 (y_as rfl (ev_of rfl)) rfl rfl (l' := _) rfl ?_
  refine l_end ?_
  refine x_thenN ?_
  refine c_seq ?_
  refine c_seq ?_
  refine c_region ?_
  refine l_val s4 (y_mv rfl (ev_of rfl)) rfl rfl (l' := [_,_,_,_,_,_,_,_,_,_,_,_,_,_,_,_,_,_,_,_,_,_,_,_,_,_,_,_,_,_,_,_,_,_,_,_,_,_,_,_,_,_,_,_,_,_,_,_,_,_,_,_,_,_,_,_,_,_,_,_,_,_,_,_,_,_,_,_,_,_]) rfl ?_
  refine l_val s4 (y_lss rfl (ev_of rfl) (ev_of rfl)) rfl rfl (l' := _) rfl ?_
  refine l_end ?_
  refine x_thenN ?_
  refine c_if rfl (fun hc0 => ?_) (fun hc0 => ?_)
  · (try simp only [decide_eq_true_eq, decide_eq_false_iff_not, Bool.not_eq_true', Bool.not_eq_false'] at hc0)
    refine c_seq ?_
    refine c_region ?_
    refine l_val s4 (y_bld (zs := [_, _, _]) (vs := []) (ps := []) (v := .agg #[_, _, _]) rfl Ty.zero25 rfl (fs_of Ty.fs25) rfl rfl (by intro q hq; simp only [List.zip_cons_cons, List.zip_nil_right, List.zip_nil_left, List.mem_cons, List.not_mem_nil, or_false] at hq <;> cases hq) rfl ⟨_, rfl⟩) rfl rfl (l' := [_,_,_,_,_,_,_,_,_,_,_,_,_,_,_,_,_,_,_,_,_,_,_,_,_,_,_,_,_,_,_,_,_,_,_,_,_,_,_,_,_,_,_,_,_,_,_,_,_,_,_,_,_,_,_,_,_,_,_,_,_,_,_,_,_,_,_,_,_,_]) rfl ?_
    refine l_stA s4 (by repeat first | with_reducible exact Take.here _ _ | apply Take.there) rfl rfl rfl Ty.size25 (ev_of rfl) (ev_of rfl) rfl rfl (by first | (simp [Value.oneCell']; done) | (intro x hx; simp only [List.mem_toArray, List.mem_cons, List.not_mem_nil, or_false] at hx; rcases hx with rfl | rfl | rfl <;> first | rfl | assumption | exact arr_one (by first | (repeat first | assumption | with_reducible exact ent_blk | with_reducible exact Ent.here arr_reads | with_reducible exact Ent.here one_I64 | with_reducible exact Ent.here one_Cell | refine Ent.there ?_); done | (repeat first | assumption | with_reducible exact ent_blk | exact Ent.here arr_reads | exact Ent.here one_I64 | exact Ent.here one_Cell | exact Ent.here one_Bool | exact Ent.here one_Rect | refine Ent.there ?_)) s4)) (fun w8 s7 => ?_)
    clear s4
    refine l_val s7 (y_as rfl (ev_of rfl)) rfl rfl (l' := _) rfl ?_
    refine l_end ?_
    refine x_thenN ?_
    refine c_ret ?_
    refine x_thenR ?_
    refine rc2 s7 rfl rfl Ty.some25 Ty.agg25 Ty.size25 (by repeat first | exact ent_blk | refine Ent.there ?_) rfl rfl ?_
    exact ⟨_, _, _, by rw [scK11 (by omega)], fun h => absurd h (by rw [scK11 (by omega)]; decide), by rw [scL, if_neg (by rw [scK11 (by omega)]; decide)]; exact ((s7.sub (by first | (repeat first | with_reducible exact Sub.refl _ | refine Sub.skip _ ?_); done | (repeat first | with_reducible exact Sub.refl _ | exact Sub.nil _ | refine Sub.take (by repeat first | with_reducible exact Take.here _ _ | apply Take.there) ?_ | refine Sub.skip _ ?_)) : SL e w8 L)).nilArr I64 2⟩
  · (try simp only [decide_eq_true_eq, decide_eq_false_iff_not, Bool.not_eq_true', Bool.not_eq_false'] at hc0)
    refine c_skip ?_
    refine x_thenN ?_
    refine c_seq ?_
    refine c_seq ?_
    refine c_region ?_
    refine l_val s4 (y_mv rfl (ev_of rfl)) rfl rfl (l' := [_,_,_,_,_,_,_,_,_,_,_,_,_,_,_,_,_,_,_,_,_,_,_,_,_,_,_,_,_,_,_,_,_,_,_,_,_,_,_,_,_,_,_,_,_,_,_,_,_,_,_,_,_,_,_,_,_,_,_,_,_,_,_,_,_,_,_,_,_,_]) rfl ?_
    refine l_val s4 (y_gtr rfl (ev_of rfl) (ev_of rfl)) rfl rfl (l' := _) rfl ?_
    refine l_val s4 (y_mv rfl (ev_of rfl)) rfl rfl (l' := [_,_,_,_,_,_,_,_,_,_,_,_,_,_,_,_,_,_,_,_,_,_,_,_,_,_,_,_,_,_,_,_,_,_,_,_,_,_,_,_,_,_,_,_,_,_,_,_,_,_,_,_,_,_,_,_,_,_,_,_,_,_,_,_,_,_,_,_,_,_]) rfl ?_
    refine l_split (t := 14) rfl (fun hg9 => ?_) (fun hg9 => ?_)
    · (try simp only [decide_eq_true_eq, decide_eq_false_iff_not, Bool.not_eq_true', Bool.not_eq_false'] at hg9)
      refine nlL (l' := _) rfl ?_
      refine l_skip (wanted_of rfl rfl rfl rfl rfl) rfl (l' := [_,_,_,_,_,_,_,_,_,_,_,_,_,_,_,_,_,_,_,_,_,_,_,_,_,_,_,_,_,_,_,_,_,_,_,_,_,_,_,_,_,_,_,_,_,_,_,_,_,_,_,_,_,_,_,_,_,_,_,_,_,_,_,_,_,_,_,_,_,_]) rfl ?_
      refine l_skip (wanted_of rfl rfl rfl rfl rfl) rfl (l' := _) rfl ?_
      refine l_skip (wanted_of rfl rfl rfl rfl rfl) rfl (l' := [_,_,_,_,_,_,_,_,_,_,_,_,_,_,_,_,_,_,_,_,_,_,_,_,_,_,_,_,_,_,_,_,_,_,_,_,_,_,_,_,_,_,_,_,_,_,_,_,_,_,_,_,_,_,_,_,_,_,_,_,_,_,_,_,_,_,_,_,_,_]) rfl ?_
      refine l_skip (wanted_of rfl rfl rfl rfl rfl) rfl (l' := _) rfl ?_
      refine l_skip (wanted_of rfl rfl rfl rfl rfl) rfl (l' := [_,_,_,_,_,_,_,_,_,_,_,_,_,_,_,_,_,_,_,_,_,_,_,_,_,_,_,_,_,_,_,_,_,_,_,_,_,_,_,_,_,_,_,_,_,_,_,_,_,_,_,_,_,_,_,_,_,_,_,_,_,_,_,_,_,_,_,_,_,_]) rfl ?_
      refine l_val s4 (y_pick1 rfl (ev_of rfl) (ev_of rfl)) rfl rfl (l' := _) rfl ?_
      refine l_val s4 (y_mv rfl (ev_of rfl)) rfl rfl (l' := [_,_,_,_,_,_,_,_,_,_,_,_,_,_,_,_,_,_,_,_,_,_,_,_,_,_,_,_,_,_,_,_,_,_,_,_,_,_,_,_,_,_,_,_,_,_,_,_,_,_,_,_,_,_,_,_,_,_,_,_,_,_,_,_,_,_,_,_,_,_]) rfl ?_
      refine l_skip (wanted_of rfl rfl rfl rfl rfl) rfl (l' := _) rfl ?_
      refine l_skip (wanted_of rfl rfl rfl rfl rfl) rfl (l' := [_,_,_,_,_,_,_,_,_,_,_,_,_,_,_,_,_,_,_,_,_,_,_,_,_,_,_,_,_,_,_,_,_,_,_,_,_,_,_,_,_,_,_,_,_,_,_,_,_,_,_,_,_,_,_,_,_,_,_,_,_,_,_,_,_,_,_,_,_,_]) rfl ?_
      refine l_skip (wanted_of rfl rfl rfl rfl rfl) rfl (l' := _) rfl ?_
      refine l_skip (wanted_of rfl rfl rfl rfl rfl) rfl (l' := [_,_,_,_,_,_,_,_,_,_,_,_,_,_,_,_,_,_,_,_,_,_,_,_,_,_,_,_,_,_,_,_,_,_,_,_,_,_,_,_,_,_,_,_,_,_,_,_,_,_,_,_,_,_,_,_,_,_,_,_,_,_,_,_,_,_,_,_,_,_]) rfl ?_
      refine l_skip (wanted_of rfl rfl rfl rfl rfl) rfl (l' := _) rfl ?_
      refine l_val s4 (y_pick1 rfl (ev_of rfl) (ev_of rfl)) rfl rfl (l' := [_,_,_,_,_,_,_,_,_,_,_,_,_,_,_,_,_,_,_,_,_,_,_,_,_,_,_,_,_,_,_,_,_,_,_,_,_,_,_,_,_,_,_,_,_,_,_,_,_,_,_,_,_,_,_,_,_,_,_,_,_,_,_,_,_,_,_,_,_,_]) rfl ?_
      refine l_end ?_
      refine x_thenN ?_
      refine c_condT rfl ?_
      refine c_seq ?_
      refine c_region ?_
      refine l_val s4 (y_bld (zs := [_, _, _]) (vs := []) (ps := []) (v := .agg #[_, _, _]) rfl Ty.zero25 rfl (fs_of Ty.fs25) rfl rfl (by intro q hq; simp only [List.zip_cons_cons, List.zip_nil_right, List.zip_nil_left, List.mem_cons, List.not_mem_nil, or_false] at hq <;> cases hq) rfl ⟨_, rfl⟩) rfl rfl (l' := _) rfl ?_
      refine l_stA s4 (by repeat first | with_reducible exact Take.here _ _ | apply Take.there) rfl rfl rfl Ty.size25 (ev_of rfl) (ev_of rfl) rfl rfl (by first | (simp [Value.oneCell']; done) | (intro x hx; simp only [List.mem_toArray, List.mem_cons, List.not_mem_nil, or_false] at hx; rcases hx with rfl | rfl | rfl <;> first | rfl | assumption | exact arr_one (by first | (repeat first | assumption | with_reducible exact ent_blk | with_reducible exact Ent.here arr_reads | with_reducible exact Ent.here one_I64 | with_reducible exact Ent.here one_Cell | refine Ent.there ?_); done | (repeat first | assumption | with_reducible exact ent_blk | exact Ent.here arr_reads | exact Ent.here one_I64 | exact Ent.here one_Cell | exact Ent.here one_Bool | exact Ent.here one_Rect | refine Ent.there ?_)) s4)) (fun w11 s10 => ?_)
      clear s4
      refine l_val s10 (y_as rfl (ev_of rfl)) rfl rfl (l' := [_,_,_,_,_,_,_,_,_,_,_,_,_,_,_,_,_,_,_,_,_,_,_,_,_,_,_,_,_,_,_,_,_,_,_,_,_,_,_,_,_,_,_,_,_,_,_,_,_,_,_,_,_,_,_,_,_,_,_,_,_,_,_,_,_,_,_,_,_,_]) rfl ?_
      refine l_end ?_
      refine x_thenN ?_
      refine c_ret ?_
      refine x_thenR ?_
      refine rc2 s10 rfl rfl Ty.some25 Ty.agg25 Ty.size25 (by repeat first | exact ent_blk | refine Ent.there ?_) rfl rfl ?_
      exact ⟨_, _, _, by rw [scK3 (by omega) (by omega)], fun h => absurd h (by rw [scK3 (by omega) (by omega)]; decide), by rw [scL, if_neg (by rw [scK3 (by omega) (by omega)]; decide)]; exact ((s10.sub (by first | (repeat first | with_reducible exact Sub.refl _ | refine Sub.skip _ ?_); done | (repeat first | with_reducible exact Sub.refl _ | exact Sub.nil _ | refine Sub.take (by repeat first | with_reducible exact Take.here _ _ | apply Take.there) ?_ | refine Sub.skip _ ?_)) : SL e w11 L)).nilArr I64 2⟩
    · (try simp only [decide_eq_true_eq, decide_eq_false_iff_not, Bool.not_eq_true', Bool.not_eq_false'] at hg9)
      have hmb1 : (W : Int) * k ≤ 1024 * 1024 := Int.mul_le_mul (by omega) (by omega) (by omega) (by omega)
      have hmb2 : 0 ≤ (W : Int) * k := Int.mul_nonneg (by omega) (by omega)
      have hmb3 : (H : Int) * k ≤ 1024 * 1024 := Int.mul_le_mul (by omega) (by omega) (by omega) (by omega)
      have hmb4 : 0 ≤ (H : Int) * k := Int.mul_nonneg (by omega) (by omega)
      refine nlL (l' := _) rfl ?_
      refine l_gval s4 (y_fieldAddrB rfl Ty.fld25_0 Ty.size2 (ev_of rfl)) (wanted_of rfl rfl rfl rfl rfl) rfl (l' := [_,_,_,_,_,_,_,_,_,_,_,_,_,_,_,_,_,_,_,_,_,_,_,_,_,_,_,_,_,_,_,_,_,_,_,_,_,_,_,_,_,_,_,_,_,_,_,_,_,_,_,_,_,_,_,_,_,_,_,_,_,_,_,_,_,_,_,_,_,_]) rfl ?_
      refine l_gval s4 (y_load rfl Ty.some2 Ty.agg2 (ev_of rfl) (by repeat first | exact ent_cell rfl | assumption | refine Ent.there ?_)) (wanted_of rfl rfl rfl rfl rfl) rfl (l' := _) rfl ?_
      refine l_gval s4 (y_mv rfl (ev_of rfl)) (wanted_of rfl rfl rfl rfl rfl) rfl (l' := [_,_,_,_,_,_,_,_,_,_,_,_,_,_,_,_,_,_,_,_,_,_,_,_,_,_,_,_,_,_,_,_,_,_,_,_,_,_,_,_,_,_,_,_,_,_,_,_,_,_,_,_,_,_,_,_,_,_,_,_,_,_,_,_,_,_,_,_,_,_]) rfl ?_
      refine l_gval s4 (y_mul rfl (ev_of rfl) (ev_of rfl) (by omega) (by omega)) (wanted_of rfl rfl rfl rfl rfl) rfl (l' := _) rfl ?_
      refine l_gval s4 (y_gtr rfl (ev_of rfl) (ev_of rfl)) (wanted_of rfl rfl rfl rfl rfl) rfl (l' := [_,_,_,_,_,_,_,_,_,_,_,_,_,_,_,_,_,_,_,_,_,_,_,_,_,_,_,_,_,_,_,_,_,_,_,_,_,_,_,_,_,_,_,_,_,_,_,_,_,_,_,_,_,_,_,_,_,_,_,_,_,_,_,_,_,_,_,_,_,_]) rfl ?_
      refine l_val s4 (y_pick0 rfl (ev_of rfl) (ev_of rfl)) rfl rfl (l' := _) rfl ?_
      refine l_val s4 (y_mv rfl (ev_of rfl)) rfl rfl (l' := [_,_,_,_,_,_,_,_,_,_,_,_,_,_,_,_,_,_,_,_,_,_,_,_,_,_,_,_,_,_,_,_,_,_,_,_,_,_,_,_,_,_,_,_,_,_,_,_,_,_,_,_,_,_,_,_,_,_,_,_,_,_,_,_,_,_,_,_,_,_]) rfl ?_
      refine l_split (t := 21) rfl (fun hg12 => ?_) (fun hg12 => ?_)
      · (try simp only [decide_eq_true_eq, decide_eq_false_iff_not, Bool.not_eq_true', Bool.not_eq_false'] at hg12)
        refine nlL (l' := _) rfl ?_
        refine l_skip (wanted_of rfl rfl rfl rfl rfl) rfl (l' := [_,_,_,_,_,_,_,_,_,_,_,_,_,_,_,_,_,_,_,_,_,_,_,_,_,_,_,_,_,_,_,_,_,_,_,_,_,_,_,_,_,_,_,_,_,_,_,_,_,_,_,_,_,_,_,_,_,_,_,_,_,_,_,_,_,_,_,_,_,_]) rfl ?_
        refine l_skip (wanted_of rfl rfl rfl rfl rfl) rfl (l' := _) rfl ?_
        refine l_skip (wanted_of rfl rfl rfl rfl rfl) rfl (l' := [_,_,_,_,_,_,_,_,_,_,_,_,_,_,_,_,_,_,_,_,_,_,_,_,_,_,_,_,_,_,_,_,_,_,_,_,_,_,_,_,_,_,_,_,_,_,_,_,_,_,_,_,_,_,_,_,_,_,_,_,_,_,_,_,_,_,_,_,_,_]) rfl ?_
        refine l_skip (wanted_of rfl rfl rfl rfl rfl) rfl (l' := _) rfl ?_
        refine l_skip (wanted_of rfl rfl rfl rfl rfl) rfl (l' := [_,_,_,_,_,_,_,_,_,_,_,_,_,_,_,_,_,_,_,_,_,_,_,_,_,_,_,_,_,_,_,_,_,_,_,_,_,_,_,_,_,_,_,_,_,_,_,_,_,_,_,_,_,_,_,_,_,_,_,_,_,_,_,_,_,_,_,_,_,_]) rfl ?_
        refine l_val s4 (y_pick1 rfl (ev_of rfl) (ev_of rfl)) rfl rfl (l' := _) rfl ?_
        refine l_end ?_
        refine x_thenN ?_
        refine c_condT rfl ?_
        refine c_seq ?_
        refine c_region ?_
        refine l_val s4 (y_bld (zs := [_, _, _]) (vs := []) (ps := []) (v := .agg #[_, _, _]) rfl Ty.zero25 rfl (fs_of Ty.fs25) rfl rfl (by intro q hq; simp only [List.zip_cons_cons, List.zip_nil_right, List.zip_nil_left, List.mem_cons, List.not_mem_nil, or_false] at hq <;> cases hq) rfl ⟨_, rfl⟩) rfl rfl (l' := [_,_,_,_,_,_,_,_,_,_,_,_,_,_,_,_,_,_,_,_,_,_,_,_,_,_,_,_,_,_,_,_,_,_,_,_,_,_,_,_,_,_,_,_,_,_,_,_,_,_,_,_,_,_,_,_,_,_,_,_,_,_,_,_,_,_,_,_,_,_]) rfl ?_
        refine l_stA s4 (by repeat first | with_reducible exact Take.here _ _ | apply Take.there) rfl rfl rfl Ty.size25 (ev_of rfl) (ev_of rfl) rfl rfl (by first | (simp [Value.oneCell']; done) | (intro x hx; simp only [List.mem_toArray, List.mem_cons, List.not_mem_nil, or_false] at hx; rcases hx with rfl | rfl | rfl <;> first | rfl | assumption | exact arr_one (by first | (repeat first | assumption | with_reducible exact ent_blk | with_reducible exact Ent.here arr_reads | with_reducible exact Ent.here one_I64 | with_reducible exact Ent.here one_Cell | refine Ent.there ?_); done | (repeat first | assumption | with_reducible exact ent_blk | exact Ent.here arr_reads | exact Ent.here one_I64 | exact Ent.here one_Cell | exact Ent.here one_Bool | exact Ent.here one_Rect | refine Ent.there ?_)) s4)) (fun w14 s13 => ?_)
        clear s4
        refine l_val s13 (y_as rfl (ev_of rfl)) rfl rfl (l' := _) rfl ?_
        refine l_end ?_
        refine x_thenN ?_
        refine c_ret ?_
        refine x_thenR ?_
        refine rc2 s13 rfl rfl Ty.some25 Ty.agg25 Ty.size25 (by repeat first | exact ent_blk | refine Ent.there ?_) rfl rfl ?_
        exact ⟨_, _, _, by rw [scK3 (by omega) (by omega)], fun h => absurd h (by rw [scK3 (by omega) (by omega)]; decide), by rw [scL, if_neg (by rw [scK3 (by omega) (by omega)]; decide)]; exact ((s13.sub (by first | (repeat first | with_reducible exact Sub.refl _ | refine Sub.skip _ ?_); done | (repeat first | with_reducible exact Sub.refl _ | exact Sub.nil _ | refine Sub.take (by repeat first | with_reducible exact Take.here _ _ | apply Take.there) ?_ | refine Sub.skip _ ?_)) : SL e w14 L)).nilArr I64 2⟩
      · (try simp only [decide_eq_true_eq, decide_eq_false_iff_not, Bool.not_eq_true', Bool.not_eq_false'] at hg12)
        refine nlL (l' := [_,_,_,_,_,_,_,_,_,_,_,_,_,_,_,_,_,_,_,_,_,_,_,_,_,_,_,_,_,_,_,_,_,_,_,_,_,_,_,_,_,_,_,_,_,_,_,_,_,_,_,_,_,_,_,_,_,_,_,_,_,_,_,_,_,_,_,_,_,_]) rfl ?_
        refine l_gval s4 (y_fieldAddrB rfl Ty.fld25_1 Ty.size2 (ev_of rfl)) (wanted_of rfl rfl rfl rfl rfl) rfl (l' := _) rfl ?_
        refine l_gval s4 (y_load rfl Ty.some2 Ty.agg2 (ev_of rfl) (by repeat first | exact ent_cell rfl | assumption | refine Ent.there ?_)) (wanted_of rfl rfl rfl rfl rfl) rfl (l' := [_,_,_,_,_,_,_,_,_,_,_,_,_,_,_,_,_,_,_,_,_,_,_,_,_,_,_,_,_,_,_,_,_,_,_,_,_,_,_,_,_,_,_,_,_,_,_,_,_,_,_,_,_,_,_,_,_,_,_,_,_,_,_,_,_,_,_,_,_,_]) rfl ?_
        refine l_gval s4 (y_mv rfl (ev_of rfl)) (wanted_of rfl rfl rfl rfl rfl) rfl (l' := _) rfl ?_
        refine l_gval s4 (y_mul rfl (ev_of rfl) (ev_of rfl) (by omega) (by omega)) (wanted_of rfl rfl rfl rfl rfl) rfl (l' := [_,_,_,_,_,_,_,_,_,_,_,_,_,_,_,_,_,_,_,_,_,_,_,_,_,_,_,_,_,_,_,_,_,_,_,_,_,_,_,_,_,_,_,_,_,_,_,_,_,_,_,_,_,_,_,_,_,_,_,_,_,_,_,_,_,_,_,_,_,_]) rfl ?_
        refine l_gval s4 (y_gtr rfl (ev_of rfl) (ev_of rfl)) (wanted_of rfl rfl rfl rfl rfl) rfl (l' := _) rfl ?_
        refine l_val s4 (y_pick0 rfl (ev_of rfl) (ev_of rfl)) rfl rfl (l' := [_,_,_,_,_,_,_,_,_,_,_,_,_,_,_,_,_,_,_,_,_,_,_,_,_,_,_,_,_,_,_,_,_,_,_,_,_,_,_,_,_,_,_,_,_,_,_,_,_,_,_,_,_,_,_,_,_,_,_,_,_,_,_,_,_,_,_,_,_,_]) rfl ?_
        refine l_end ?_
        refine x_thenN ?_
        refine c_if rfl (fun hc1 => ?_) (fun hc1 => ?_)
        · (try simp only [decide_eq_true_eq, decide_eq_false_iff_not, Bool.not_eq_true', Bool.not_eq_false'] at hc1)
          refine c_seq ?_
          refine c_region ?_
          refine l_val s4 (y_bld (zs := [_, _, _]) (vs := []) (ps := []) (v := .agg #[_, _, _]) rfl Ty.zero25 rfl (fs_of Ty.fs25) rfl rfl (by intro q hq; simp only [List.zip_cons_cons, List.zip_nil_right, List.zip_nil_left, List.mem_cons, List.not_mem_nil, or_false] at hq <;> cases hq) rfl ⟨_, rfl⟩) rfl rfl (l' := _) rfl ?_
          refine l_stA s4 (by repeat first | with_reducible exact Take.here _ _ | apply Take.there) rfl rfl rfl Ty.size25 (ev_of rfl) (ev_of rfl) rfl rfl (by first | (simp [Value.oneCell']; done) | (intro x hx; simp only [List.mem_toArray, List.mem_cons, List.not_mem_nil, or_false] at hx; rcases hx with rfl | rfl | rfl <;> first | rfl | assumption | exact arr_one (by first | (repeat first | assumption | with_reducible exact ent_blk | with_reducible exact Ent.here arr_reads | with_reducible exact Ent.here one_I64 | with_reducible exact Ent.here one_Cell | refine Ent.there ?_); done | (repeat first | assumption | with_reducible exact ent_blk | exact Ent.here arr_reads | exact Ent.here one_I64 | exact Ent.here one_Cell | exact Ent.here one_Bool | exact Ent.here one_Rect | refine Ent.there ?_)) s4)) (fun w16 s15 => ?_)
          clear s4
          refine l_val s15 (y_as rfl (ev_of rfl)) rfl rfl (l' := [_,_,_,_,_,_,_,_,_,_,_,_,_,_,_,_,_,_,_,_,_,_,_,_,_,_,_,_,_,_,_,_,_,_,_,_,_,_,_,_,_,_,_,_,_,_,_,_,_,_,_,_,_,_,_,_,_,_,_,_,_,_,_,_,_,_,_,_,_,_]) rfl ?_
          refine l_end ?_
          refine x_thenN ?_
          refine c_ret ?_
          refine x_thenR ?_
          refine rc2 s15 rfl rfl Ty.some25 Ty.agg25 Ty.size25 (by repeat first | exact ent_blk | refine Ent.there ?_) rfl rfl ?_
          exact ⟨_, _, _, by rw [scK3 (by omega) (by omega)], fun h => absurd h (by rw [scK3 (by omega) (by omega)]; decide), by rw [scL, if_neg (by rw [scK3 (by omega) (by omega)]; decide)]; exact ((s15.sub (by first | (repeat first | with_reducible exact Sub.refl _ | refine Sub.skip _ ?_); done | (repeat first | with_reducible exact Sub.refl _ | exact Sub.nil _ | refine Sub.take (by repeat first | with_reducible exact Take.here _ _ | apply Take.there) ?_ | refine Sub.skip _ ?_)) : SL e w16 L)).nilArr I64 2⟩
        · (try simp only [decide_eq_true_eq, decide_eq_false_iff_not, Bool.not_eq_true', Bool.not_eq_false'] at hc1)
          refine c_skip ?_
          refine x_thenN ?_
          refine c_seq ?_
          refine c_region ?_
          have hno : ¬ (1024 < k ∨ 1024 < (W : Int) * k ∨ 1024 < (H : Int) * k) := by omega
          obtain ⟨K, rfl⟩ : ∃ n : Nat, k = n := ⟨k.toNat, by omega⟩
          have hk0 := scKok (by omega) hno
          have hWK : (W : Int) * (K : Int) = ((W * K : Nat) : Int) := (Int.natCast_mul W K).symm
          have hHK : (H : Int) * (K : Int) = ((H * K : Nat) : Int) := (Int.natCast_mul H K).symm
          have hWp : 1 * 1 ≤ W * K := Nat.mul_le_mul (by omega) (by omega)
          have hHp : 1 * 1 ≤ H * K := Nat.mul_le_mul (by omega) (by omega)
          refine l_val s4 (y_fieldAddrB rfl Ty.fld25_0 Ty.size2 (ev_of rfl)) rfl rfl (l' := _) rfl ?_
          refine l_val s4 (y_load rfl Ty.some2 Ty.agg2 (ev_of rfl) (by repeat first | exact ent_cell rfl | assumption | refine Ent.there ?_)) rfl rfl (l' := [_,_,_,_,_,_,_,_,_,_,_,_,_,_,_,_,_,_,_,_,_,_,_,_,_,_,_,_,_,_,_,_,_,_,_,_,_,_,_,_,_,_,_,_,_,_,_,_,_,_,_,_,_,_,_,_,_,_,_,_,_,_,_,_,_,_,_,_,_,_]) rfl ?_
          refine l_val s4 (y_mv rfl (ev_of rfl)) rfl rfl (l' := _) rfl ?_
          refine l_val s4 (y_mul rfl (ev_of rfl) (ev_of rfl) (by omega) (by omega)) rfl rfl (l' := [_,_,_,_,_,_,_,_,_,_,_,_,_,_,_,_,_,_,_,_,_,_,_,_,_,_,_,_,_,_,_,_,_,_,_,_,_,_,_,_,_,_,_,_,_,_,_,_,_,_,_,_,_,_,_,_,_,_,_,_,_,_,_,_,_,_,_,_,_,_]) rfl ?_
          refine l_val s4 (y_fieldAddrB rfl Ty.fld25_1 Ty.size2 (ev_of rfl)) rfl rfl (l' := _) rfl ?_
          refine l_val s4 (y_load rfl Ty.some2 Ty.agg2 (ev_of rfl) (by repeat first | exact ent_cell rfl | assumption | refine Ent.there ?_)) rfl rfl (l' := [_,_,_,_,_,_,_,_,_,_,_,_,_,_,_,_,_,_,_,_,_,_,_,_,_,_,_,_,_,_,_,_,_,_,_,_,_,_,_,_,_,_,_,_,_,_,_,_,_,_,_,_,_,_,_,_,_,_,_,_,_,_,_,_,_,_,_,_,_,_]) rfl ?_
          refine l_val s4 (y_mv rfl (ev_of rfl)) rfl rfl (l' := _) rfl ?_
          refine l_val s4 (y_mul rfl (ev_of rfl) (ev_of rfl) (by omega) (by omega)) rfl rfl (l' := [_,_,_,_,_,_,_,_,_,_,_,_,_,_,_,_,_,_,_,_,_,_,_,_,_,_,_,_,_,_,_,_,_,_,_,_,_,_,_,_,_,_,_,_,_,_,_,_,_,_,_,_,_,_,_,_,_,_,_,_,_,_,_,_,_,_,_,_,_,_]) rfl ?_
          refine l_val s4 (y_bld (zs := [_, _, _]) (vs := [(0, _), (1, _)]) (ps := [(0, [_]), (1, [_])]) (v := .agg #[_, _, _]) rfl Ty.zero25 rfl (fs_of Ty.fs25) rfl rfl (by intro q hq; simp only [List.zip_cons_cons, List.zip_nil_right, List.zip_nil_left, List.mem_cons, List.not_mem_nil, or_false] at hq; rcases hq with rfl | rfl <;> exact ⟨by kernel_rfl, by first | rfl | (simp only [cells_one (arr_one (by first | (repeat first | assumption | with_reducible exact ent_blk | with_reducible exact Ent.here arr_reads | with_reducible exact Ent.here one_I64 | with_reducible exact Ent.here one_Cell | refine Ent.there ?_); done | (repeat first | assumption | with_reducible exact ent_blk | exact Ent.here arr_reads | exact Ent.here one_I64 | exact Ent.here one_Cell | exact Ent.here one_Bool | exact Ent.here one_Rect | refine Ent.there ?_)) s4)]; first | done | rfl), by simp⟩) rfl ⟨_, rfl⟩) rfl rfl (l' := _) rfl ?_
          refine l_alloc s4 rfl rfl rfl Ty.zero25 (fun b19 w18 s17 => ?_)
          change SL _ _ (Blk _ #[_, _, _] _ :: _) at s17
          clear s4
          refine nlL (l' := [_,_,_,_,_,_,_,_,_,_,_,_,_,_,_,_,_,_,_,_,_,_,_,_,_,_,_,_,_,_,_,_,_,_,_,_,_,_,_,_,_,_,_,_,_,_,_,_,_,_,_,_,_,_,_,_,_,_,_,_,_,_,_,_,_,_,_,_,_,_]) rfl ?_
          refine l_stA s17 (by repeat first | with_reducible exact Take.here _ _ | apply Take.there) rfl rfl rfl Ty.size25 (ev_of rfl) (ev_of rfl) rfl rfl (by first | (simp [Value.oneCell']; done) | (intro x hx; simp only [List.mem_toArray, List.mem_cons, List.not_mem_nil, or_false] at hx; rcases hx with rfl | rfl | rfl <;> first | rfl | assumption | exact arr_one (by first | (repeat first | assumption | with_reducible exact ent_blk | with_reducible exact Ent.here arr_reads | with_reducible exact Ent.here one_I64 | with_reducible exact Ent.here one_Cell | refine Ent.there ?_); done | (repeat first | assumption | with_reducible exact ent_blk | exact Ent.here arr_reads | exact Ent.here one_I64 | exact Ent.here one_Cell | exact Ent.here one_Bool | exact Ent.here one_Rect | refine Ent.there ?_)) s17)) (fun w21 s20 => ?_)
          clear s17
          refine l_end ?_
          refine x_thenN ?_
          refine c_seq ?_
          refine c_seq ?_
          refine c_region ?_
          refine l_val s20 (y_as rfl (ev_of rfl)) rfl rfl (l' := _) rfl ?_
          refine l_end ?_
          refine x_thenN ?_
          refine c_block ?_
          replace s20 := s20.nilArr I64 2
          change SL _ _ (Arr I64 2 _ (genP (W * K) 0 (fun x y => at2 W v (x / K) (y / K))) :: _) at s20
          rw [show genP (W * K) 0 (fun x y => at2 W v (x / K) (y / K)) = genP (W * K) (0 * (W * K)) (fun x y => at2 W v (x / K) (y / K)) from by rw [Nat.zero_mul]] at s20
          refine c_loop [false, false, false, false, false, false, false, true, true, false, false, false, false, false, false, false, false, false, false, false, false, false, false, false, false, false, false, false, false, false, false, false, false, false, false, false, false, false, true, true, true, true, true, true, true, true, true, true, true, true, true, true, true, true, true, true, true, true, true, true, true, true, true, true, true, true, true, true, true, false] (fun mu ds w => ∃ (j : Nat) (z : Value) (dd3 : List Value), ds = [(.int .i64 (j : Int)), nthD dd3 0, nthD dd3 1, nthD dd3 2, nthD dd3 3, nthD dd3 4, nthD dd3 5, nthD dd3 6, nthD dd3 7, nthD dd3 8, nthD dd3 9, nthD dd3 10, nthD dd3 11, nthD dd3 12, nthD dd3 13, nthD dd3 14, nthD dd3 15, nthD dd3 16, nthD dd3 17, nthD dd3 18, nthD dd3 19, nthD dd3 20, nthD dd3 21, nthD dd3 22, nthD dd3 23, nthD dd3 24, nthD dd3 25, nthD dd3 26, nthD dd3 27, nthD dd3 28, nthD dd3 29, nthD dd3 30, nthD dd3 31] ∧ mu = H * K - j ∧ SL e w (Blk b19 #[.int .i64 ((W : Int) * (K : Int)), .int .i64 ((H : Int) * (K : Int)), z] 25 :: Arr I64 2 z (genP (W * K) (j * (W * K)) (fun x y => at2 W v (x / K) (y / K))) :: Blk b6 #[.int .i64 0, .int .i64 0, .slice none 0 0] 25 :: Blk b3 #[.int .i64 (W : Int), .int .i64 (H : Int), u] 25 :: L) ∧ (j ≤ H * K)) (ds := [_, _, _, _, _, _, _, _, _, _, _, _, _, _, _, _, _, _, _, _, _, _, _, _, _, _, _, _, _, _, _, _, _]) rfl ⟨0, (.slice none 0 0), [_, _, _, _, _, _, _, _, _, _, _, _, _, _, _, _, _, _, _, _, _, _, _, _, _, _, _, _, _, _, _, _], rfl, rfl, ?_, ?_⟩ ?_
          · first | exact s20 | exact s20.sub (by first | (repeat first | with_reducible exact Sub.refl _ | refine Sub.skip _ ?_); done | (repeat first | with_reducible exact Sub.refl _ | exact Sub.nil _ | refine Sub.take (by repeat first | with_reducible exact Take.here _ _ | apply Take.there) ?_ | refine Sub.skip _ ?_))
          · omega
          · clear s20
            rintro n24 ds25 w23 ⟨j, z, dd3, rfl, rfl, s22, hJ⟩
            refine nlC (l' := [_,_,_,_,_,_,_,_,_,_,_,_,_,_,_,_,_,_,_,_,_,_,_,_,_,_,_,_,_,_,_,_,_,_,_,_,_,_,_,_,_,_,_,_,_,_,_,_,_,_,_,_,_,_,_,_,_,_,_,_,_,_,_,_,_,_,_,_,_,_]) rfl ?_
            refine c_seq ?_
            refine c_seq ?_
            refine c_region ?_
            refine l_val s22 (y_mv rfl (ev_of rfl)) rfl rfl (l' := _) rfl ?_
            refine l_val s22 (y_fieldAddrB rfl Ty.fld25_1 Ty.size2 (ev_of rfl)) rfl rfl (l' := [_,_,_,_,_,_,_,_,_,_,_,_,_,_,_,_,_,_,_,_,_,_,_,_,_,_,_,_,_,_,_,_,_,_,_,_,_,_,_,_,_,_,_,_,_,_,_,_,_,_,_,_,_,_,_,_,_,_,_,_,_,_,_,_,_,_,_,_,_,_]) rfl ?_
            refine l_val s22 (y_load rfl Ty.some2 Ty.agg2 (ev_of rfl) (by repeat first | exact ent_cell rfl | assumption | refine Ent.there ?_)) rfl rfl (l' := _) rfl ?_
            refine l_val s22 (y_lss rfl (ev_of rfl) (ev_of rfl)) rfl rfl (l' := [_,_,_,_,_,_,_,_,_,_,_,_,_,_,_,_,_,_,_,_,_,_,_,_,_,_,_,_,_,_,_,_,_,_,_,_,_,_,_,_,_,_,_,_,_,_,_,_,_,_,_,_,_,_,_,_,_,_,_,_,_,_,_,_,_,_,_,_,_,_]) rfl ?_
            refine l_end ?_
            refine x_thenN ?_
            refine c_if rfl (fun hc2 => ?_) (fun hc2 => ?_)
            · (try simp only [decide_eq_true_eq, decide_eq_false_iff_not, Bool.not_eq_true', Bool.not_eq_false'] at hc2)
              refine c_skip ?_
              refine x_thenN ?_
              refine c_seq ?_
              refine c_block ?_
              refine c_seq ?_
              refine c_region ?_
              refine l_val s22 (y_as rfl (ev_of rfl)) rfl rfl (l' := _) rfl ?_
              refine l_end ?_
              refine x_thenN ?_
              refine c_block ?_
              have hm : (j + 1) * (W * K) ≤ (H * K) * (W * K) := Nat.mul_le_mul_right _ (by omega)
              rw [Nat.succ_mul] at hm
              have hm2 : (H * K) * (W * K) ≤ 1024 * 1024 := Nat.mul_le_mul (by omega) (by omega)
              refine c_loop [false, false, false, false, false, false, false, false, true, false, false, false, false, false, false, false, false, false, false, false, false, false, false, false, false, false, false, false, false, false, false, false, false, false, false, false, false, false, false, false, false, false, false, false, true, true, true, true, true, true, true, true, true, true, true, true, true, true, true, true, true, true, true, true, true, true, true, true, true, false] (fun mu ds w => ∃ (i : Nat) (z : Value) (dd4 : List Value), ds = [(.int .i64 (i : Int)), nthD dd4 0, nthD dd4 1, nthD dd4 2, nthD dd4 3, nthD dd4 4, nthD dd4 5, nthD dd4 6, nthD dd4 7, nthD dd4 8, nthD dd4 9, nthD dd4 10, nthD dd4 11, nthD dd4 12, nthD dd4 13, nthD dd4 14, nthD dd4 15, nthD dd4 16, nthD dd4 17, nthD dd4 18, nthD dd4 19, nthD dd4 20, nthD dd4 21, nthD dd4 22, nthD dd4 23, nthD dd4 24] ∧ mu = W * K - i ∧ SL e w (Blk b19 #[.int .i64 ((W : Int) * (K : Int)), .int .i64 ((H : Int) * (K : Int)), z] 25 :: Arr I64 2 z (genP (W * K) (j * (W * K) + i) (fun x y => at2 W v (x / K) (y / K))) :: Blk b6 #[.int .i64 0, .int .i64 0, .slice none 0 0] 25 :: Blk b3 #[.int .i64 (W : Int), .int .i64 (H : Int), u] 25 :: L) ∧ (i ≤ W * K)) (ds := [_, _, _, _, _, _, _, _, _, _, _, _, _, _, _, _, _, _, _, _, _, _, _, _, _, _]) rfl ⟨0, z, [_, _, _, _, _, _, _, _, _, _, _, _, _, _, _, _, _, _, _, _, _, _, _, _, _], rfl, rfl, ?_, ?_⟩ ?_
              · first | exact s22 | exact s22.sub (by first | (repeat first | with_reducible exact Sub.refl _ | refine Sub.skip _ ?_); done | (repeat first | with_reducible exact Sub.refl _ | exact Sub.nil _ | refine Sub.take (by repeat first | with_reducible exact Take.here _ _ | apply Take.there) ?_ | refine Sub.skip _ ?_))
              · omega
              · clear s22
                rintro n28 ds29 w27 ⟨i, z, dd4, rfl, rfl, s26, hI⟩
                refine nlC (l' := [_,_,_,_,_,_,_,_,_,_,_,_,_,_,_,_,_,_,_,_,_,_,_,_,_,_,_,_,_,_,_,_,_,_,_,_,_,_,_,_,_,_,_,_,_,_,_,_,_,_,_,_,_,_,_,_,_,_,_,_,_,_,_,_,_,_,_,_,_,_]) rfl ?_
                refine c_seq ?_
                refine c_seq ?_
                refine c_region ?_
                refine l_val s26 (y_mv rfl (ev_of rfl)) rfl rfl (l' := _) rfl ?_
                refine l_val s26 (y_fieldAddrB rfl Ty.fld25_0 Ty.size2 (ev_of rfl)) rfl rfl (l' := [_,_,_,_,_,_,_,_,_,_,_,_,_,_,_,_,_,_,_,_,_,_,_,_,_,_,_,_,_,_,_,_,_,_,_,_,_,_,_,_,_,_,_,_,_,_,_,_,_,_,_,_,_,_,_,_,_,_,_,_,_,_,_,_,_,_,_,_,_,_]) rfl ?_
                refine l_val s26 (y_load rfl Ty.some2 Ty.agg2 (ev_of rfl) (by repeat first | exact ent_cell rfl | assumption | refine Ent.there ?_)) rfl rfl (l' := _) rfl ?_
                refine l_val s26 (y_lss rfl (ev_of rfl) (ev_of rfl)) rfl rfl (l' := [_,_,_,_,_,_,_,_,_,_,_,_,_,_,_,_,_,_,_,_,_,_,_,_,_,_,_,_,_,_,_,_,_,_,_,_,_,_,_,_,_,_,_,_,_,_,_,_,_,_,_,_,_,_,_,_,_,_,_,_,_,_,_,_,_,_,_,_,_,_]) rfl ?_
                refine l_end ?_
                refine x_thenN ?_
                refine c_if rfl (fun hc3 => ?_) (fun hc3 => ?_)
                · (try simp only [decide_eq_true_eq, decide_eq_false_iff_not, Bool.not_eq_true', Bool.not_eq_false'] at hc3)
                  refine c_skip ?_
                  refine x_thenN ?_
                  refine c_seq ?_
                  refine c_block ?_
                  have hjk : j / K < H := Nat.div_lt_of_lt_mul (by rw [Nat.mul_comm]; omega)
                  have hik : i / K < W := Nat.div_lt_of_lt_mul (by rw [Nat.mul_comm]; omega)
                  have hcl := cell_lt hik hjk
                  have hmi : ((j : Int) / (K : Int)) * (W : Int) = ((j / K * W : Nat) : Int) := rfl
                  have hbW : W * H ≤ 1024 * 1024 := Nat.mul_le_mul hw.2 hh.2
                  have hdi : (i : Int) / (K : Int) = ((i / K : Nat) : Int) := rfl
                  have hdj : (j : Int) / (K : Int) = ((j / K : Nat) : Int) := rfl
                  have hp0 : 0 ≤ (j : Int) / (K : Int) * (W : Int) := by rw [hmi]; exact Int.natCast_nonneg _
                  have hi0 : 0 ≤ (i : Int) / (K : Int) := by rw [hdi]; exact Int.natCast_nonneg _
                  apply c_drawn [] [0, 1, 2, 3, 4, 5, 6, 7, 8, 9, 10, 11, 12, 13, 14, 15, 16] [17, 18, 19] [] [_, _, _] [(_, vq _), (_, vq _), (_, vq _), (_, vq _), (_, vq _), (_, vq _), (_, vq _), (_, vq _), (_, vq _), (_, vq _), (_, vq _), (_, vq _), (_, vq _), (_, vq _), (_, vq _), (_, vq _), (_, vb _ _)] s26 Ty.follows (by kernel_rfl) (fun _ _ _ h => h.2) rfl rfl rfl (by decide) ?_
                  show WP _ _ _ _ _
                  refine p_end ?_
                  refine d_val (y_fieldAddrB rfl Ty.fld25_2 Ty.size22 (ev_of rfl)) rfl rfl (l' := _) rfl ?_
                  refine d_val (y_load rfl Ty.some22 Ty.agg22 (ev_of rfl) (by repeat first | exact ent_cell rfl | assumption | refine Ent.there ?_)) rfl rfl (l' := [_,_,_,_,_,_,_,_,_,_,_,_,_,_,_,_,_,_,_,_,_,_,_,_,_,_,_,_,_,_,_,_,_,_,_,_,_,_,_,_,_,_,_,_,_,_,_,_,_,_,_,_,_,_,_,_,_,_,_,_,_,_,_,_,_,_,_,_,_,_]) rfl ?_
                  refine d_val (y_fieldAddrB rfl Ty.fld25_2 Ty.size22 (ev_of rfl)) rfl rfl (l' := _) rfl ?_
                  refine d_val (y_load rfl Ty.some22 Ty.agg22 (ev_of rfl) (by repeat first | exact ent_cell rfl | assumption | refine Ent.there ?_)) rfl rfl (l' := [_,_,_,_,_,_,_,_,_,_,_,_,_,_,_,_,_,_,_,_,_,_,_,_,_,_,_,_,_,_,_,_,_,_,_,_,_,_,_,_,_,_,_,_,_,_,_,_,_,_,_,_,_,_,_,_,_,_,_,_,_,_,_,_,_,_,_,_,_,_]) rfl ?_
                  refine d_val (y_mv rfl (ev_of rfl)) rfl rfl (l' := _) rfl ?_
                  refine d_val (y_mv rfl (ev_of rfl)) rfl rfl (l' := [_,_,_,_,_,_,_,_,_,_,_,_,_,_,_,_,_,_,_,_,_,_,_,_,_,_,_,_,_,_,_,_,_,_,_,_,_,_,_,_,_,_,_,_,_,_,_,_,_,_,_,_,_,_,_,_,_,_,_,_,_,_,_,_,_,_,_,_,_,_]) rfl ?_
                  refine d_val (y_quo rfl (ev_of rfl) (ev_of rfl) (by omega) (by omega) (by omega)) rfl rfl (l' := _) rfl ?_
                  refine d_val (y_fieldAddrB rfl Ty.fld25_0 Ty.size2 (ev_of rfl)) rfl rfl (l' := [_,_,_,_,_,_,_,_,_,_,_,_,_,_,_,_,_,_,_,_,_,_,_,_,_,_,_,_,_,_,_,_,_,_,_,_,_,_,_,_,_,_,_,_,_,_,_,_,_,_,_,_,_,_,_,_,_,_,_,_,_,_,_,_,_,_,_,_,_,_]) rfl ?_
                  refine d_val (y_load rfl Ty.some2 Ty.agg2 (ev_of rfl) (by repeat first | exact ent_cell rfl | assumption | refine Ent.there ?_)) rfl rfl (l' := _) rfl ?_
                  refine d_val (y_mul rfl (ev_of rfl) (ev_of rfl) (by omega) (by omega)) rfl rfl (l' := [_,_,_,_,_,_,_,_,_,_,_,_,_,_,_,_,_,_,_,_,_,_,_,_,_,_,_,_,_,_,_,_,_,_,_,_,_,_,_,_,_,_,_,_,_,_,_,_,_,_,_,_,_,_,_,_,_,_,_,_,_,_,_,_,_,_,_,_,_,_]) rfl ?_
                  refine d_val (y_mv rfl (ev_of rfl)) rfl rfl (l' := _) rfl ?_
                  refine d_val (y_mv rfl (ev_of rfl)) rfl rfl (l' := [_,_,_,_,_,_,_,_,_,_,_,_,_,_,_,_,_,_,_,_,_,_,_,_,_,_,_,_,_,_,_,_,_,_,_,_,_,_,_,_,_,_,_,_,_,_,_,_,_,_,_,_,_,_,_,_,_,_,_,_,_,_,_,_,_,_,_,_,_,_]) rfl ?_
                  refine d_val (y_quo rfl (ev_of rfl) (ev_of rfl) (by omega) (by omega) (by omega)) rfl rfl (l' := _) rfl ?_
                  refine d_val (y_add rfl (ev_of rfl) (ev_of rfl) (by omega) (by omega)) rfl rfl (l' := [_,_,_,_,_,_,_,_,_,_,_,_,_,_,_,_,_,_,_,_,_,_,_,_,_,_,_,_,_,_,_,_,_,_,_,_,_,_,_,_,_,_,_,_,_,_,_,_,_,_,_,_,_,_,_,_,_,_,_,_,_,_,_,_,_,_,_,_,_,_]) rfl ?_
                  refine d_val (y_idx (c := I64) (n := j / K * W + i / K) rfl Ty.elem22 Ty.size2 (ev_of rfl) (ev_of rfl) (by first | (repeat first | assumption | with_reducible exact ent_blk | with_reducible exact Ent.here arr_reads | with_reducible exact Ent.here one_I64 | with_reducible exact Ent.here one_Cell | refine Ent.there ?_); done | (repeat first | assumption | with_reducible exact ent_blk | exact Ent.here arr_reads | exact Ent.here one_I64 | exact Ent.here one_Cell | exact Ent.here one_Bool | exact Ent.here one_Rect | refine Ent.there ?_)) rfl (by omega)) rfl rfl (l' := _) rfl ?_
                  refine d_val (y_ldI (n := j / K * W + i / K) rfl Ty.some2 Ty.agg2 (ev_of rfl) (by first | (repeat first | assumption | with_reducible exact ent_blk | with_reducible exact Ent.here arr_reads | with_reducible exact Ent.here one_I64 | with_reducible exact Ent.here one_Cell | refine Ent.there ?_); done | (repeat first | assumption | with_reducible exact ent_blk | exact Ent.here arr_reads | exact Ent.here one_I64 | exact Ent.here one_Cell | exact Ent.here one_Bool | exact Ent.here one_Rect | refine Ent.there ?_)) (by omega)) rfl rfl (l' := [_,_,_,_,_,_,_,_,_,_,_,_,_,_,_,_,_,_,_,_,_,_,_,_,_,_,_,_,_,_,_,_,_,_,_,_,_,_,_,_,_,_,_,_,_,_,_,_,_,_,_,_,_,_,_,_,_,_,_,_,_,_,_,_,_,_,_,_,_,_]) rfl ?_
                  refine d_bs rfl rfl rfl Ty.elem22 Ty.size2 Ty.zero2 (zs := [_]) rfl (vs := [(0, _)]) rfl (ps := [(0, [_])]) rfl (by intro q hq; simp only [List.zip_cons_cons, List.zip_nil_right, List.zip_nil_left, List.mem_cons, List.not_mem_nil, or_false] at hq; rcases hq with rfl <;> exact ⟨rfl, rfl, by first | rfl | (simp only [cells_one (arr_one (by first | (repeat first | assumption | with_reducible exact ent_blk | with_reducible exact Ent.here arr_reads | with_reducible exact Ent.here one_I64 | with_reducible exact Ent.here one_Cell | refine Ent.there ?_); done | (repeat first | assumption | with_reducible exact ent_blk | exact Ent.here arr_reads | exact Ent.here one_I64 | exact Ent.here one_Cell | exact Ent.here one_Bool | exact Ent.here one_Rect | refine Ent.there ?_)) s26)]; first | done | rfl), by simp⟩) (cells := [_]) rfl (by decide) (fun b30 => ?_)
                  refine nlD (l' := _) rfl ?_
                  refine d_end (fun w32 s31 => ?_)
                  clear s26
                  simp only [List.append_nil, List.cons_append, List.nil_append] at s31
                  refine l_append1 s31 (by repeat first | exact Take.here (Blk _ _ _) _ | apply Take.there) (by repeat first | with_reducible exact Take.here _ _ | apply Take.there) rfl rfl rfl Ty.elem22 Ty.size2 Ty.bytes2 Ty.zero2 rfl (ev_of rfl) (ev_of rfl) one_I64 (by rw [genP_length]; simp only [List.length_cons, List.length_nil]; omega) (by decide) (fun v35 w34 s33 => ?_)
                  clear s31
                  refine nlL (l' := [_,_,_,_,_,_,_,_,_,_,_,_,_,_,_,_,_,_,_,_,_,_,_,_,_,_,_,_,_,_,_,_,_,_,_,_,_,_,_,_,_,_,_,_,_,_,_,_,_,_,_,_,_,_,_,_,_,_,_,_,_,_,_,_,_,_,_,_,_,_]) rfl ?_
                  refine l_val s33 (y_fieldAddrB rfl Ty.fld25_2 Ty.size22 (ev_of rfl)) rfl rfl (l' := _) rfl ?_
                  refine l_store s33 rfl rfl rfl Ty.size22 (ev_of rfl) (ev_of rfl) (by first | rfl | exact arr_one (by first | (repeat first | assumption | with_reducible exact ent_blk | with_reducible exact Ent.here arr_reads | with_reducible exact Ent.here one_I64 | with_reducible exact Ent.here one_Cell | refine Ent.there ?_); done | (repeat first | assumption | with_reducible exact ent_blk | exact Ent.here arr_reads | exact Ent.here one_I64 | exact Ent.here one_Cell | exact Ent.here one_Bool | exact Ent.here one_Rect | refine Ent.there ?_)) s33) (by repeat first | exact Wr.blk (cells' := #[_, _, _]) (Nat.le_of_ble_eq_true rfl) rfl | apply Wr.there) (fun w37 s36 => ?_)
                  clear s33
                  refine l_end ?_
                  refine x_blockN ?_
                  refine x_thenN ?_
                  refine c_region ?_
                  refine l_val s36 (y_mv rfl (ev_of rfl)) rfl rfl (l' := [_,_,_,_,_,_,_,_,_,_,_,_,_,_,_,_,_,_,_,_,_,_,_,_,_,_,_,_,_,_,_,_,_,_,_,_,_,_,_,_,_,_,_,_,_,_,_,_,_,_,_,_,_,_,_,_,_,_,_,_,_,_,_,_,_,_,_,_,_,_]) rfl ?_
                  refine l_val s36 (y_add rfl (ev_of rfl) (ev_of rfl) (by omega) (by omega)) rfl rfl (l' := _) rfl ?_
                  refine l_val s36 (y_as rfl (ev_of rfl)) rfl rfl (l' := [_,_,_,_,_,_,_,_,_,_,_,_,_,_,_,_,_,_,_,_,_,_,_,_,_,_,_,_,_,_,_,_,_,_,_,_,_,_,_,_,_,_,_,_,_,_,_,_,_,_,_,_,_,_,_,_,_,_,_,_,_,_,_,_,_,_,_,_,_,_]) rfl ?_
                  refine l_end ?_
                  refine x_thenN ?_
                  change SL _ _ (Arr I64 2 _ (genP (W * K) (j * (W * K) + i) (fun x y => at2 W v (x / K) (y / K)) ++ [(fun x y => at2 W v (x / K) (y / K)) i j]) :: _) at s36
                  rw [genP_step (f := (fun x y => at2 W v (x / K) (y / K))) (by omega)] at s36
                  refine ⟨_, [_, _, _, _, _, _, _, _, _, _, _, _, _, _, _, _, _, _, _, _, _, _, _, _, _, _], ?_, rfl, i + 1, v35, [_, _, _, _, _, _, _, _, _, _, _, _, _, _, _, _, _, _, _, _, _, _, _, _, _], rfl, rfl, ?_, ?_⟩
                  · omega
                  · first | exact s36 | exact s36.sub (by first | (repeat first | with_reducible exact Sub.refl _ | refine Sub.skip _ ?_); done | (repeat first | with_reducible exact Sub.refl _ | exact Sub.nil _ | refine Sub.take (by repeat first | with_reducible exact Take.here _ _ | apply Take.there) ?_ | refine Sub.skip _ ?_))
                  · omega
                · (try simp only [decide_eq_true_eq, decide_eq_false_iff_not, Bool.not_eq_true', Bool.not_eq_false'] at hc3)
                  refine c_exit ?_
                  refine x_thenE ?_
                  refine x_thenE ?_
                  refine x_hit ?_
                  refine x_blockN ?_
                  refine x_thenN ?_
                  refine c_region ?_
                  refine l_val s26 (y_mv rfl (ev_of rfl)) rfl rfl (l' := _) rfl ?_
                  refine l_val s26 (y_add rfl (ev_of rfl) (ev_of rfl) (by omega) (by omega)) rfl rfl (l' := [_,_,_,_,_,_,_,_,_,_,_,_,_,_,_,_,_,_,_,_,_,_,_,_,_,_,_,_,_,_,_,_,_,_,_,_,_,_,_,_,_,_,_,_,_,_,_,_,_,_,_,_,_,_,_,_,_,_,_,_,_,_,_,_,_,_,_,_,_,_]) rfl ?_
                  refine l_val s26 (y_as rfl (ev_of rfl)) rfl rfl (l' := _) rfl ?_
                  refine l_end ?_
                  refine x_thenN ?_
                  obtain rfl : i = W * K := by omega
                  rw [genP_row] at s26
                  refine ⟨_, [_, _, _, _, _, _, _, _, _, _, _, _, _, _, _, _, _, _, _, _, _, _, _, _, _, _, _, _, _, _, _, _, _], ?_, rfl, j + 1, z, [_, _, _, _, _, _, _, _, _, _, _, _, _, _, _, _, _, _, _, _, _, _, _, _, _, _, _, _, _, _, _, _], rfl, rfl, ?_, ?_⟩
                  · omega
                  · first | exact s26 | exact s26.sub (by first | (repeat first | with_reducible exact Sub.refl _ | refine Sub.skip _ ?_); done | (repeat first | with_reducible exact Sub.refl _ | exact Sub.nil _ | refine Sub.take (by repeat first | with_reducible exact Take.here _ _ | apply Take.there) ?_ | refine Sub.skip _ ?_))
                  · omega
            · (try simp only [decide_eq_true_eq, decide_eq_false_iff_not, Bool.not_eq_true', Bool.not_eq_false'] at hc2)
              refine c_exit ?_
              refine x_thenE ?_
              refine x_thenE ?_
              refine x_hit ?_
              refine x_thenN ?_
              refine c_seq ?_
              refine c_region ?_
              refine l_val s22 (y_load_blk rfl Ty.some25 Ty.agg25 Ty.size25 (ev_of rfl) (by repeat first | exact ent_blk | refine Ent.there ?_) rfl) rfl rfl (l' := [_,_,_,_,_,_,_,_,_,_,_,_,_,_,_,_,_,_,_,_,_,_,_,_,_,_,_,_,_,_,_,_,_,_,_,_,_,_,_,_,_,_,_,_,_,_,_,_,_,_,_,_,_,_,_,_,_,_,_,_,_,_,_,_,_,_,_,_,_,_]) rfl ?_
              refine l_stA s22 (by repeat first | with_reducible exact Take.here _ _ | apply Take.there) rfl rfl rfl Ty.size25 (ev_of rfl) (ev_of rfl) rfl rfl (by first | (simp [Value.oneCell']; done) | (intro x hx; simp only [List.mem_toArray, List.mem_cons, List.not_mem_nil, or_false] at hx; rcases hx with rfl | rfl | rfl <;> first | rfl | assumption | exact arr_one (by first | (repeat first | assumption | with_reducible exact ent_blk | with_reducible exact Ent.here arr_reads | with_reducible exact Ent.here one_I64 | with_reducible exact Ent.here one_Cell | refine Ent.there ?_); done | (repeat first | assumption | with_reducible exact ent_blk | exact Ent.here arr_reads | exact Ent.here one_I64 | exact Ent.here one_Cell | exact Ent.here one_Bool | exact Ent.here one_Rect | refine Ent.there ?_)) s22)) (fun w39 s38 => ?_)
              clear s22
              refine l_val s38 (y_as rfl (ev_of rfl)) rfl rfl (l' := _) rfl ?_
              refine l_end ?_
              refine x_thenN ?_
              refine c_ret ?_
              refine rc2 s38 rfl rfl Ty.some25 Ty.agg25 Ty.size25 (by repeat first | exact ent_blk | refine Ent.there ?_) rfl rfl ?_
              obtain rfl : j = H * K := by omega
              exact ⟨_, _, _, by rw [hk0], fun _ => ⟨hWK, hHK⟩, by rw [scL, if_pos hk0]; exact (s38.sub (by first | (repeat first | with_reducible exact Sub.refl _ | refine Sub.skip _ ?_); done | (repeat first | with_reducible exact Sub.refl _ | exact Sub.nil _ | refine Sub.take (by repeat first | with_reducible exact Take.here _ _ | apply Take.there) ?_ | refine Sub.skip _ ?_)) : SL e w39 (Arr I64 2 z (genP (W * K) (H * K * (W * K)) (fun x y => at2 W v (x / K) (y / K))) :: L))⟩
end Go.Proofs.Ytpchomihojidpaa
