/- Step by step. -/
import Derived.Test.YtpchomihojidpaaTy
import Derived.Test.YtpchomihojidpaaSl17
import Derived.Test.YtpchomihojidpaaDk
import Derived.Test.YtpchomihojidpaaSl19
import Derived.KernelRfl
namespace Go.Proofs.Ytpchomihojidpaa
open Go.SL
set_option linter.unusedVariables false
set_option linter.unusedSimpArgs false
attribute [local irreducible] wpList WD WP Region.wanted Code.wp
set_option maxHeartbeats 4000000 in
set_option maxRecDepth 100000 in
/-- hachure/hachurelaw43.DistSteps -/
theorem distSteps_c {e : Env} {L : List Asn} {w : World} {wd ht t t2 : Int} {u : Value} {v : List Int} (s : SL e w L) (hv : Ent L (SlR I64 u v)) (hvl : v.length ≤ 20000000000000) :
    Calls Try.prog 3 #[.int .i64 wd, .int .i64 ht, u, .int .i64 t, .int .i64 t2] w (Rets fun r w' => r = .bool true ∧ SL e w' L) := by
  refine enter Try.func3 rfl (l := [.int .i64 wd, .int .i64 ht, u, .int .i64 t, .int .i64 t2, undef, undef, undef, undef, undef, undef, undef, undef, undef, undef, undef, undef, undef, undef, undef, undef, undef, undef, undef, undef, undef, undef, undef, undef, undef, undef, undef, undef, undef, undef, undef, undef, undef, undef, undef, undef, undef, undef, undef, undef, undef, undef, undef, undef, undef, undef, undef, undef, undef, undef, undef, undef, undef, undef, undef, undef, undef, undef, undef, undef, undef, undef, undef, undef, undef, undef, undef, undef, undef, undef, undef, undef, undef, undef, undef, undef, undef, undef, undef, undef, undef, undef, undef, undef, undef, undef, undef, undef, undef, undef, undef, undef, undef, undef, undef, undef, undef, undef, undef, undef, undef, undef, undef, undef, undef, undef, undef, undef, undef, undef, undef, undef, undef, undef, undef, undef, undef, undef, undef, undef, undef, undef, undef, undef, undef, undef, undef, undef, undef, undef, undef, undef, undef, undef, undef, undef, undef, undef, undef, undef, undef, undef, undef, undef, undef, undef, undef, undef, undef, undef, undef, undef, undef, undef, undef, undef, undef, undef, undef, undef, undef, undef, undef, undef, undef, undef, undef, undef, undef, undef, undef, undef, undef, undef, undef, undef, undef, undef, undef, undef, undef, undef, undef, undef, undef]) rfl ?_
  refine c_seq ?_
  refine c_region ?_
  refine l_val s (y_as rfl (ev_of rfl)) rfl rfl (l' := _) rfl ?_
  refine l_end ?_
  refine x_thenN ?_
  refine c_seq ?_
  refine c_seq ?_
  refine c_region ?_
  refine l_callL rfl rfl rfl Fn.call31 (vs := []) rfl (awake43_c s) ?_
  rintro _ w2 ⟨rfl, s1⟩
  clear s
  refine nlL (l' := _) rfl ?_
  refine l_val s1 (y_not rfl (ev_of rfl)) rfl rfl (l' := _) rfl ?_
  refine l_end ?_
  refine x_thenN ?_
  refine c_if rfl (fun hc0 => ?_) (fun hc0 => ?_)
  · (try simp only [decide_eq_true_eq, decide_eq_false_iff_not, Bool.not_eq_true', Bool.not_eq_false'] at hc0)
    first | done | (exfalso; omega) | contradiction | (exfalso; simp_all; done)
  · (try simp only [decide_eq_true_eq, decide_eq_false_iff_not, Bool.not_eq_true', Bool.not_eq_false'] at hc0)
    refine c_skip ?_
    refine x_thenN ?_
    refine c_seq ?_
    refine c_region ?_
    refine l_val s1 (y_mv rfl (ev_of rfl)) rfl rfl (l' := [_,_,_,_,_,_,_,_,_,_,_,_,_,_,_,_,_,_,_,_,_,_,_,_,_,_,_,_,_,_,_,_,_,_,_,_,_,_,_,_,_,_,_,_,_,_,_,_,_,_,_,_,_,_,_,_,_,_,_,_,_,_,_,_,_,_,_,_,_,_,_,_,_,_,_,_,_,_,_,_,_,_,_,_,_,_,_,_,_,_,_,_,_,_,_,_,_,_,_,_,_,_,_,_,_,_,_,_,_,_,_,_,_,_,_,_,_,_,_,_,_,_,_,_,_,_,_,_,_,_,_,_,_,_,_,_,_,_,_,_,_,_,_,_,_,_,_,_,_,_,_,_,_,_,_,_,_,_,_,_,_,_,_,_,_,_,_,_,_,_,_,_,_,_,_,_,_,_,_,_,_,_,_,_,_,_,_,_,_,_]) rfl ?_
    refine l_val s1 (y_mv rfl (ev_of rfl)) rfl rfl (l' := _) rfl ?_
    refine l_val s1 (y_mv rfl (ev_of rfl)) rfl rfl (l' := _) rfl ?_
    refine l_callL rfl rfl rfl Fn.call32 (vs := [_, _, _, _]) rfl (land_c s1 (by repeat first | assumption | with_reducible exact ent_blk | exact Ent.here arr_reads | exact Ent.here one_I64 | exact Ent.here one_Cell | exact Ent.here one_Bool | exact Ent.here one_Rect | refine Ent.there ?_) (by omega)) ?_
    rintro _ w4 ⟨mx, my, mz, ok, rfl, hz, hok, s3⟩
    clear s1
    refine nlL (l' := _) rfl ?_
    refine l_val s3 (y_mv rfl (ev_of rfl)) rfl rfl (l' := [_,_,_,_,_,_,_,_,_,_,_,_,_,_,_,_,_,_,_,_,_,_,_,_,_,_,_,_,_,_,_,_,_,_,_,_,_,_,_,_,_,_,_,_,_,_,_,_,_,_,_,_,_,_,_,_,_,_,_,_,_,_,_,_,_,_,_,_,_,_,_,_,_,_,_,_,_,_,_,_,_,_,_,_,_,_,_,_,_,_,_,_,_,_,_,_,_,_,_,_,_,_,_,_,_,_,_,_,_,_,_,_,_,_,_,_,_,_,_,_,_,_,_,_,_,_,_,_,_,_,_,_,_,_,_,_,_,_,_,_,_,_,_,_,_,_,_,_,_,_,_,_,_,_,_,_,_,_,_,_,_,_,_,_,_,_,_,_,_,_,_,_,_,_,_,_,_,_,_,_,_,_,_,_,_,_,_,_,_,_]) rfl ?_
    refine l_val s3 (y_extract rfl (ev_of rfl) rfl) rfl rfl (l' := _) rfl ?_
    refine l_val s3 (y_extract rfl (ev_of rfl) rfl) rfl rfl (l' := _) rfl ?_
    refine l_alloc s3 rfl rfl rfl Ty.zero25 (fun b7 w6 s5 => ?_)
    change SL _ _ (Blk _ #[_, _, _] _ :: _) at s5
    clear s3
    refine nlL (l' := _) rfl ?_
    refine l_stA s5 (by repeat first | with_reducible exact Take.here _ _ | apply Take.there) rfl rfl rfl Ty.size25 (ev_of rfl) (ev_of rfl) rfl rfl (by first | (simp [Value.oneCell']; done) | (intro x hx; simp only [List.mem_toArray, List.mem_cons, List.not_mem_nil, or_false] at hx; rcases hx with rfl | rfl | rfl <;> first | rfl | assumption | exact arr_one (by repeat first | assumption | with_reducible exact ent_blk | exact Ent.here arr_reads | exact Ent.here one_I64 | exact Ent.here one_Cell | exact Ent.here one_Bool | exact Ent.here one_Rect | refine Ent.there ?_) s5)) (fun w9 s8 => ?_)
    clear s5
    refine l_val s8 (y_as rfl (ev_of rfl)) rfl rfl (l' := [_,_,_,_,_,_,_,_,_,_,_,_,_,_,_,_,_,_,_,_,_,_,_,_,_,_,_,_,_,_,_,_,_,_,_,_,_,_,_,_,_,_,_,_,_,_,_,_,_,_,_,_,_,_,_,_,_,_,_,_,_,_,_,_,_,_,_,_,_,_,_,_,_,_,_,_,_,_,_,_,_,_,_,_,_,_,_,_,_,_,_,_,_,_,_,_,_,_,_,_,_,_,_,_,_,_,_,_,_,_,_,_,_,_,_,_,_,_,_,_,_,_,_,_,_,_,_,_,_,_,_,_,_,_,_,_,_,_,_,_,_,_,_,_,_,_,_,_,_,_,_,_,_,_,_,_,_,_,_,_,_,_,_,_,_,_,_,_,_,_,_,_,_,_,_,_,_,_,_,_,_,_,_,_,_,_,_,_,_,_]) rfl ?_
    refine l_end ?_
    refine x_thenN ?_
    refine c_seq ?_
    refine c_seq ?_
    refine c_region ?_
    refine l_val s8 (y_mv rfl (ev_of rfl)) rfl rfl (l' := _) rfl ?_
    refine l_val s8 (y_not rfl (ev_of rfl)) rfl rfl (l' := _) rfl ?_
    refine l_val s8 (y_mv rfl (ev_of rfl)) rfl rfl (l' := _) rfl ?_
    refine l_split (t := 30) rfl (fun hg10 => ?_) (fun hg10 => ?_)
    · (try simp only [decide_eq_true_eq, decide_eq_false_iff_not, Bool.not_eq_true', Bool.not_eq_false'] at hg10)
      refine nlL (l' := [_,_,_,_,_,_,_,_,_,_,_,_,_,_,_,_,_,_,_,_,_,_,_,_,_,_,_,_,_,_,_,_,_,_,_,_,_,_,_,_,_,_,_,_,_,_,_,_,_,_,_,_,_,_,_,_,_,_,_,_,_,_,_,_,_,_,_,_,_,_,_,_,_,_,_,_,_,_,_,_,_,_,_,_,_,_,_,_,_,_,_,_,_,_,_,_,_,_,_,_,_,_,_,_,_,_,_,_,_,_,_,_,_,_,_,_,_,_,_,_,_,_,_,_,_,_,_,_,_,_,_,_,_,_,_,_,_,_,_,_,_,_,_,_,_,_,_,_,_,_,_,_,_,_,_,_,_,_,_,_,_,_,_,_,_,_,_,_,_,_,_,_,_,_,_,_,_,_,_,_,_,_,_,_,_,_,_,_,_,_]) rfl ?_
      refine l_skip (wanted_of rfl rfl rfl rfl rfl) rfl (l' := _) rfl ?_
      refine l_skip (wanted_of rfl rfl rfl rfl rfl) rfl (l' := _) rfl ?_
      refine l_skip (wanted_of rfl rfl rfl rfl rfl) rfl (l' := _) rfl ?_
      refine l_val s8 (y_pick1 rfl (ev_of rfl) (ev_of rfl)) rfl rfl (l' := [_,_,_,_,_,_,_,_,_,_,_,_,_,_,_,_,_,_,_,_,_,_,_,_,_,_,_,_,_,_,_,_,_,_,_,_,_,_,_,_,_,_,_,_,_,_,_,_,_,_,_,_,_,_,_,_,_,_,_,_,_,_,_,_,_,_,_,_,_,_,_,_,_,_,_,_,_,_,_,_,_,_,_,_,_,_,_,_,_,_,_,_,_,_,_,_,_,_,_,_,_,_,_,_,_,_,_,_,_,_,_,_,_,_,_,_,_,_,_,_,_,_,_,_,_,_,_,_,_,_,_,_,_,_,_,_,_,_,_,_,_,_,_,_,_,_,_,_,_,_,_,_,_,_,_,_,_,_,_,_,_,_,_,_,_,_,_,_,_,_,_,_,_,_,_,_,_,_,_,_,_,_,_,_,_,_,_,_,_,_]) rfl ?_
      refine l_end ?_
      refine x_thenN ?_
      refine c_condT rfl ?_
      refine c_seq ?_
      refine c_region ?_
      refine l_val s8 (y_as rfl (ev_of rfl)) rfl rfl (l' := _) rfl ?_
      refine l_end ?_
      refine x_thenN ?_
      refine c_ret ?_
      refine x_thenR ?_
      refine r1 rfl rfl ?_
      exact ⟨rfl, s8.sub (by repeat first | with_reducible exact Sub.refl _ | exact Sub.nil _ | refine Sub.take (by repeat first | with_reducible exact Take.here _ _ | apply Take.there) ?_ | refine Sub.skip _ ?_)⟩
    · (try simp only [decide_eq_true_eq, decide_eq_false_iff_not, Bool.not_eq_true', Bool.not_eq_false'] at hg10)
      refine nlL (l' := _) rfl ?_
      refine l_gval s8 (y_mv rfl (ev_of rfl)) (wanted_of rfl rfl rfl rfl rfl) rfl (l' := _) rfl ?_
      refine l_gval s8 (y_mv rfl (ev_of rfl)) (wanted_of rfl rfl rfl rfl rfl) rfl (l' := [_,_,_,_,_,_,_,_,_,_,_,_,_,_,_,_,_,_,_,_,_,_,_,_,_,_,_,_,_,_,_,_,_,_,_,_,_,_,_,_,_,_,_,_,_,_,_,_,_,_,_,_,_,_,_,_,_,_,_,_,_,_,_,_,_,_,_,_,_,_,_,_,_,_,_,_,_,_,_,_,_,_,_,_,_,_,_,_,_,_,_,_,_,_,_,_,_,_,_,_,_,_,_,_,_,_,_,_,_,_,_,_,_,_,_,_,_,_,_,_,_,_,_,_,_,_,_,_,_,_,_,_,_,_,_,_,_,_,_,_,_,_,_,_,_,_,_,_,_,_,_,_,_,_,_,_,_,_,_,_,_,_,_,_,_,_,_,_,_,_,_,_,_,_,_,_,_,_,_,_,_,_,_,_,_,_,_,_,_,_]) rfl ?_
      refine l_gval s8 (y_gtr rfl (ev_of rfl) (ev_of rfl)) (wanted_of rfl rfl rfl rfl rfl) rfl (l' := _) rfl ?_
      refine l_val s8 (y_pick0 rfl (ev_of rfl) (ev_of rfl)) rfl rfl (l' := _) rfl ?_
      refine l_end ?_
      refine x_thenN ?_
      refine c_if rfl (fun hc1 => ?_) (fun hc1 => ?_)
      · (try simp only [decide_eq_true_eq, decide_eq_false_iff_not, Bool.not_eq_true', Bool.not_eq_false'] at hc1)
        refine c_seq ?_
        refine c_region ?_
        refine l_val s8 (y_as rfl (ev_of rfl)) rfl rfl (l' := _) rfl ?_
        refine l_end ?_
        refine x_thenN ?_
        refine c_ret ?_
        refine x_thenR ?_
        refine r1 rfl rfl ?_
        exact ⟨rfl, s8.sub (by repeat first | with_reducible exact Sub.refl _ | exact Sub.nil _ | refine Sub.take (by repeat first | with_reducible exact Take.here _ _ | apply Take.there) ?_ | refine Sub.skip _ ?_)⟩
      · (try simp only [decide_eq_true_eq, decide_eq_false_iff_not, Bool.not_eq_true', Bool.not_eq_false'] at hc1)
        obtain ⟨rfl, rfl, rfl, hL⟩ := hok (by assumption)
        have w0 := hL.w0; have w1 := hL.w1; have h0 := hL.h0; have h1 := hL.h1; have hm := hL.m
        obtain ⟨W, rfl⟩ : ∃ W : Nat, mx = W := ⟨mx.toNat, by omega⟩
        obtain ⟨H, rfl⟩ : ∃ H : Nat, my = H := ⟨my.toNat, by omega⟩
        have hlz := hL.len
        have hl : v.length = W * H := by exact_mod_cast hlz
        refine c_skip ?_
        refine x_thenN ?_
        refine c_seq ?_
        refine c_region ?_
        refine l_val s8 (y_mv rfl (ev_of rfl)) rfl rfl (l' := [_,_,_,_,_,_,_,_,_,_,_,_,_,_,_,_,_,_,_,_,_,_,_,_,_,_,_,_,_,_,_,_,_,_,_,_,_,_,_,_,_,_,_,_,_,_,_,_,_,_,_,_,_,_,_,_,_,_,_,_,_,_,_,_,_,_,_,_,_,_,_,_,_,_,_,_,_,_,_,_,_,_,_,_,_,_,_,_,_,_,_,_,_,_,_,_,_,_,_,_,_,_,_,_,_,_,_,_,_,_,_,_,_,_,_,_,_,_,_,_,_,_,_,_,_,_,_,_,_,_,_,_,_,_,_,_,_,_,_,_,_,_,_,_,_,_,_,_,_,_,_,_,_,_,_,_,_,_,_,_,_,_,_,_,_,_,_,_,_,_,_,_,_,_,_,_,_,_,_,_,_,_,_,_,_,_,_,_,_,_]) rfl ?_
        refine l_val s8 (y_mv rfl (ev_of rfl)) rfl rfl (l' := _) rfl ?_
        refine l_val s8 (y_mv rfl (ev_of rfl)) rfl rfl (l' := _) rfl ?_
        refine l_callL rfl rfl rfl Fn.call33 (vs := [_, _, _]) rfl (made_c (W := W) (H := H) s8 (by repeat first | assumption | with_reducible exact ent_blk | exact Ent.here arr_reads | exact Ent.here one_I64 | exact Ent.here one_Cell | exact Ent.here one_Bool | exact Ent.here one_Rect | refine Ent.there ?_) (by omega) (by omega) hl hL.ok) ?_
        rintro _ w12 ⟨b, rfl, s11⟩
        clear s8
        refine nlL (l' := _) rfl ?_
        refine l_val s11 (y_mv rfl (ev_of rfl)) rfl rfl (l' := [_,_,_,_,_,_,_,_,_,_,_,_,_,_,_,_,_,_,_,_,_,_,_,_,_,_,_,_,_,_,_,_,_,_,_,_,_,_,_,_,_,_,_,_,_,_,_,_,_,_,_,_,_,_,_,_,_,_,_,_,_,_,_,_,_,_,_,_,_,_,_,_,_,_,_,_,_,_,_,_,_,_,_,_,_,_,_,_,_,_,_,_,_,_,_,_,_,_,_,_,_,_,_,_,_,_,_,_,_,_,_,_,_,_,_,_,_,_,_,_,_,_,_,_,_,_,_,_,_,_,_,_,_,_,_,_,_,_,_,_,_,_,_,_,_,_,_,_,_,_,_,_,_,_,_,_,_,_,_,_,_,_,_,_,_,_,_,_,_,_,_,_,_,_,_,_,_,_,_,_,_,_,_,_,_,_,_,_,_,_]) rfl ?_
        refine l_val s11 (y_extract rfl (ev_of rfl) rfl) rfl rfl (l' := _) rfl ?_
        refine l_val s11 (y_extract rfl (ev_of rfl) rfl) rfl rfl (l' := _) rfl ?_
        refine l_val s11 (y_as rfl (ev_of rfl)) rfl rfl (l' := _) rfl ?_
        refine l_val s11 (y_as rfl (ev_of rfl)) rfl rfl (l' := [_,_,_,_,_,_,_,_,_,_,_,_,_,_,_,_,_,_,_,_,_,_,_,_,_,_,_,_,_,_,_,_,_,_,_,_,_,_,_,_,_,_,_,_,_,_,_,_,_,_,_,_,_,_,_,_,_,_,_,_,_,_,_,_,_,_,_,_,_,_,_,_,_,_,_,_,_,_,_,_,_,_,_,_,_,_,_,_,_,_,_,_,_,_,_,_,_,_,_,_,_,_,_,_,_,_,_,_,_,_,_,_,_,_,_,_,_,_,_,_,_,_,_,_,_,_,_,_,_,_,_,_,_,_,_,_,_,_,_,_,_,_,_,_,_,_,_,_,_,_,_,_,_,_,_,_,_,_,_,_,_,_,_,_,_,_,_,_,_,_,_,_,_,_,_,_,_,_,_,_,_,_,_,_,_,_,_,_,_,_]) rfl ?_
        refine l_end ?_
        refine x_thenN ?_
        refine c_seq ?_
        refine c_seq ?_
        refine c_region ?_
        refine l_val s11 (y_mv rfl (ev_of rfl)) rfl rfl (l' := _) rfl ?_
        refine l_val s11 (y_not rfl (ev_of rfl)) rfl rfl (l' := _) rfl ?_
        refine l_end ?_
        refine x_thenN ?_
        refine c_if rfl (fun hc2 => ?_) (fun hc2 => ?_)
        · (try simp only [decide_eq_true_eq, decide_eq_false_iff_not, Bool.not_eq_true', Bool.not_eq_false'] at hc2)
          first | done | (exfalso; omega) | contradiction | (exfalso; simp_all; done)
        · (try simp only [decide_eq_true_eq, decide_eq_false_iff_not, Bool.not_eq_true', Bool.not_eq_false'] at hc2)
          refine c_skip ?_
          refine x_thenN ?_
          refine c_seq ?_
          refine c_region ?_
          refine l_val s11 (y_mv rfl (ev_of rfl)) rfl rfl (l' := _) rfl ?_
          refine l_val s11 (y_mv rfl (ev_of rfl)) rfl rfl (l' := [_,_,_,_,_,_,_,_,_,_,_,_,_,_,_,_,_,_,_,_,_,_,_,_,_,_,_,_,_,_,_,_,_,_,_,_,_,_,_,_,_,_,_,_,_,_,_,_,_,_,_,_,_,_,_,_,_,_,_,_,_,_,_,_,_,_,_,_,_,_,_,_,_,_,_,_,_,_,_,_,_,_,_,_,_,_,_,_,_,_,_,_,_,_,_,_,_,_,_,_,_,_,_,_,_,_,_,_,_,_,_,_,_,_,_,_,_,_,_,_,_,_,_,_,_,_,_,_,_,_,_,_,_,_,_,_,_,_,_,_,_,_,_,_,_,_,_,_,_,_,_,_,_,_,_,_,_,_,_,_,_,_,_,_,_,_,_,_,_,_,_,_,_,_,_,_,_,_,_,_,_,_,_,_,_,_,_,_,_,_]) rfl ?_
          refine l_callL rfl rfl rfl Fn.call34 (vs := [_, _]) rfl (to_c s11 (by repeat first | exact Has.here _ _ | apply Has.there)) ?_
          rintro _ w14 ⟨u1, a1, rfl, hA, s13⟩
          clear s11
          refine nlL (l' := _) rfl ?_
          have hal := hA.len
          refine l_val s13 (y_mv rfl (ev_of rfl)) rfl rfl (l' := _) rfl ?_
          refine l_val s13 (y_extract rfl (ev_of rfl) rfl) rfl rfl (l' := _) rfl ?_
          refine l_val s13 (y_extract rfl (ev_of rfl) rfl) rfl rfl (l' := [_,_,_,_,_,_,_,_,_,_,_,_,_,_,_,_,_,_,_,_,_,_,_,_,_,_,_,_,_,_,_,_,_,_,_,_,_,_,_,_,_,_,_,_,_,_,_,_,_,_,_,_,_,_,_,_,_,_,_,_,_,_,_,_,_,_,_,_,_,_,_,_,_,_,_,_,_,_,_,_,_,_,_,_,_,_,_,_,_,_,_,_,_,_,_,_,_,_,_,_,_,_,_,_,_,_,_,_,_,_,_,_,_,_,_,_,_,_,_,_,_,_,_,_,_,_,_,_,_,_,_,_,_,_,_,_,_,_,_,_,_,_,_,_,_,_,_,_,_,_,_,_,_,_,_,_,_,_,_,_,_,_,_,_,_,_,_,_,_,_,_,_,_,_,_,_,_,_,_,_,_,_,_,_,_,_,_,_,_,_]) rfl ?_
          refine l_val s13 (y_as rfl (ev_of rfl)) rfl rfl (l' := _) rfl ?_
          refine l_val s13 (y_as rfl (ev_of rfl)) rfl rfl (l' := _) rfl ?_
          refine l_end ?_
          refine x_thenN ?_
          refine c_seq ?_
          refine c_region ?_
          refine l_val s13 (y_mv rfl (ev_of rfl)) rfl rfl (l' := _) rfl ?_
          refine l_val s13 (y_mv rfl (ev_of rfl)) rfl rfl (l' := [_,_,_,_,_,_,_,_,_,_,_,_,_,_,_,_,_,_,_,_,_,_,_,_,_,_,_,_,_,_,_,_,_,_,_,_,_,_,_,_,_,_,_,_,_,_,_,_,_,_,_,_,_,_,_,_,_,_,_,_,_,_,_,_,_,_,_,_,_,_,_,_,_,_,_,_,_,_,_,_,_,_,_,_,_,_,_,_,_,_,_,_,_,_,_,_,_,_,_,_,_,_,_,_,_,_,_,_,_,_,_,_,_,_,_,_,_,_,_,_,_,_,_,_,_,_,_,_,_,_,_,_,_,_,_,_,_,_,_,_,_,_,_,_,_,_,_,_,_,_,_,_,_,_,_,_,_,_,_,_,_,_,_,_,_,_,_,_,_,_,_,_,_,_,_,_,_,_,_,_,_,_,_,_,_,_,_,_,_,_]) rfl ?_
          refine l_callL rfl rfl rfl Fn.call34 (vs := [_, _]) rfl (to_c s13 (by repeat first | exact Has.here _ _ | apply Has.there)) ?_
          rintro _ w16 ⟨u2, a2, rfl, hB, s15⟩
          clear s13
          refine nlL (l' := _) rfl ?_
          have hbl := hB.len
          refine l_val s15 (y_mv rfl (ev_of rfl)) rfl rfl (l' := _) rfl ?_
          refine l_val s15 (y_extract rfl (ev_of rfl) rfl) rfl rfl (l' := _) rfl ?_
          refine l_val s15 (y_extract rfl (ev_of rfl) rfl) rfl rfl (l' := [_,_,_,_,_,_,_,_,_,_,_,_,_,_,_,_,_,_,_,_,_,_,_,_,_,_,_,_,_,_,_,_,_,_,_,_,_,_,_,_,_,_,_,_,_,_,_,_,_,_,_,_,_,_,_,_,_,_,_,_,_,_,_,_,_,_,_,_,_,_,_,_,_,_,_,_,_,_,_,_,_,_,_,_,_,_,_,_,_,_,_,_,_,_,_,_,_,_,_,_,_,_,_,_,_,_,_,_,_,_,_,_,_,_,_,_,_,_,_,_,_,_,_,_,_,_,_,_,_,_,_,_,_,_,_,_,_,_,_,_,_,_,_,_,_,_,_,_,_,_,_,_,_,_,_,_,_,_,_,_,_,_,_,_,_,_,_,_,_,_,_,_,_,_,_,_,_,_,_,_,_,_,_,_,_,_,_,_,_,_]) rfl ?_
          refine l_val s15 (y_as rfl (ev_of rfl)) rfl rfl (l' := _) rfl ?_
          refine l_val s15 (y_as rfl (ev_of rfl)) rfl rfl (l' := _) rfl ?_
          refine l_end ?_
          refine x_thenN ?_
          refine c_seq ?_
          refine c_seq ?_
          refine c_region ?_
          refine l_val s15 (y_mv rfl (ev_of rfl)) rfl rfl (l' := _) rfl ?_
          refine l_val s15 (y_neq rfl (ev_of rfl) (ev_of rfl)) rfl rfl (l' := [_,_,_,_,_,_,_,_,_,_,_,_,_,_,_,_,_,_,_,_,_,_,_,_,_,_,_,_,_,_,_,_,_,_,_,_,_,_,_,_,_,_,_,_,_,_,_,_,_,_,_,_,_,_,_,_,_,_,_,_,_,_,_,_,_,_,_,_,_,_,_,_,_,_,_,_,_,_,_,_,_,_,_,_,_,_,_,_,_,_,_,_,_,_,_,_,_,_,_,_,_,_,_,_,_,_,_,_,_,_,_,_,_,_,_,_,_,_,_,_,_,_,_,_,_,_,_,_,_,_,_,_,_,_,_,_,_,_,_,_,_,_,_,_,_,_,_,_,_,_,_,_,_,_,_,_,_,_,_,_,_,_,_,_,_,_,_,_,_,_,_,_,_,_,_,_,_,_,_,_,_,_,_,_,_,_,_,_,_,_]) rfl ?_
          refine l_val s15 (y_mv rfl (ev_of rfl)) rfl rfl (l' := _) rfl ?_
          refine l_split (t := 58) rfl (fun hg17 => ?_) (fun hg17 => ?_)
          · (try simp only [decide_eq_true_eq, decide_eq_false_iff_not, Bool.not_eq_true', Bool.not_eq_false'] at hg17)
            first | done | (exfalso; omega) | contradiction | (exfalso; simp_all; done)
          · (try simp only [decide_eq_true_eq, decide_eq_false_iff_not, Bool.not_eq_true', Bool.not_eq_false'] at hg17)
            refine nlL (l' := _) rfl ?_
            refine l_gval s15 (y_mv rfl (ev_of rfl)) (wanted_of rfl rfl rfl rfl rfl) rfl (l' := _) rfl ?_
            refine l_gval s15 (y_neq rfl (ev_of rfl) (ev_of rfl)) (wanted_of rfl rfl rfl rfl rfl) rfl (l' := [_,_,_,_,_,_,_,_,_,_,_,_,_,_,_,_,_,_,_,_,_,_,_,_,_,_,_,_,_,_,_,_,_,_,_,_,_,_,_,_,_,_,_,_,_,_,_,_,_,_,_,_,_,_,_,_,_,_,_,_,_,_,_,_,_,_,_,_,_,_,_,_,_,_,_,_,_,_,_,_,_,_,_,_,_,_,_,_,_,_,_,_,_,_,_,_,_,_,_,_,_,_,_,_,_,_,_,_,_,_,_,_,_,_,_,_,_,_,_,_,_,_,_,_,_,_,_,_,_,_,_,_,_,_,_,_,_,_,_,_,_,_,_,_,_,_,_,_,_,_,_,_,_,_,_,_,_,_,_,_,_,_,_,_,_,_,_,_,_,_,_,_,_,_,_,_,_,_,_,_,_,_,_,_,_,_,_,_,_,_]) rfl ?_
            refine l_val s15 (y_pick0 rfl (ev_of rfl) (ev_of rfl)) rfl rfl (l' := _) rfl ?_
            refine l_val s15 (y_mv rfl (ev_of rfl)) rfl rfl (l' := _) rfl ?_
            refine l_split (t := 62) rfl (fun hg18 => ?_) (fun hg18 => ?_)
            · (try simp only [decide_eq_true_eq, decide_eq_false_iff_not, Bool.not_eq_true', Bool.not_eq_false'] at hg18)
              first | done | (exfalso; omega) | contradiction | (exfalso; simp_all; done)
            · (try simp only [decide_eq_true_eq, decide_eq_false_iff_not, Bool.not_eq_true', Bool.not_eq_false'] at hg18)
              refine nlL (l' := _) rfl ?_
              refine l_gval s15 (y_mv rfl (ev_of rfl)) (wanted_of rfl rfl rfl rfl rfl) rfl (l' := [_,_,_,_,_,_,_,_,_,_,_,_,_,_,_,_,_,_,_,_,_,_,_,_,_,_,_,_,_,_,_,_,_,_,_,_,_,_,_,_,_,_,_,_,_,_,_,_,_,_,_,_,_,_,_,_,_,_,_,_,_,_,_,_,_,_,_,_,_,_,_,_,_,_,_,_,_,_,_,_,_,_,_,_,_,_,_,_,_,_,_,_,_,_,_,_,_,_,_,_,_,_,_,_,_,_,_,_,_,_,_,_,_,_,_,_,_,_,_,_,_,_,_,_,_,_,_,_,_,_,_,_,_,_,_,_,_,_,_,_,_,_,_,_,_,_,_,_,_,_,_,_,_,_,_,_,_,_,_,_,_,_,_,_,_,_,_,_,_,_,_,_,_,_,_,_,_,_,_,_,_,_,_,_,_,_,_,_,_,_]) rfl ?_
              refine l_gval s15 (y_len rfl rfl Ty.elem22 (ev_of rfl) (by repeat first | assumption | with_reducible exact ent_blk | exact Ent.here arr_reads | exact Ent.here one_I64 | exact Ent.here one_Cell | exact Ent.here one_Bool | exact Ent.here one_Rect | refine Ent.there ?_)) (wanted_of rfl rfl rfl rfl rfl) rfl (l' := _) rfl ?_
              refine l_gval s15 (y_mv rfl (ev_of rfl)) (wanted_of rfl rfl rfl rfl rfl) rfl (l' := _) rfl ?_
              refine l_gval s15 (y_len rfl rfl Ty.elem22 (ev_of rfl) (by repeat first | assumption | with_reducible exact ent_blk | exact Ent.here arr_reads | exact Ent.here one_I64 | exact Ent.here one_Cell | exact Ent.here one_Bool | exact Ent.here one_Rect | refine Ent.there ?_)) (wanted_of rfl rfl rfl rfl rfl) rfl (l' := _) rfl ?_
              refine l_gval s15 (y_neq rfl (ev_of rfl) (ev_of rfl)) (wanted_of rfl rfl rfl rfl rfl) rfl (l' := [_,_,_,_,_,_,_,_,_,_,_,_,_,_,_,_,_,_,_,_,_,_,_,_,_,_,_,_,_,_,_,_,_,_,_,_,_,_,_,_,_,_,_,_,_,_,_,_,_,_,_,_,_,_,_,_,_,_,_,_,_,_,_,_,_,_,_,_,_,_,_,_,_,_,_,_,_,_,_,_,_,_,_,_,_,_,_,_,_,_,_,_,_,_,_,_,_,_,_,_,_,_,_,_,_,_,_,_,_,_,_,_,_,_,_,_,_,_,_,_,_,_,_,_,_,_,_,_,_,_,_,_,_,_,_,_,_,_,_,_,_,_,_,_,_,_,_,_,_,_,_,_,_,_,_,_,_,_,_,_,_,_,_,_,_,_,_,_,_,_,_,_,_,_,_,_,_,_,_,_,_,_,_,_,_,_,_,_,_,_]) rfl ?_
              refine l_val s15 (y_pick0 rfl (ev_of rfl) (ev_of rfl)) rfl rfl (l' := _) rfl ?_
              refine l_val s15 (y_mv rfl (ev_of rfl)) rfl rfl (l' := _) rfl ?_
              refine l_split (t := 69) rfl (fun hg19 => ?_) (fun hg19 => ?_)
              · (try simp only [decide_eq_true_eq, decide_eq_false_iff_not, Bool.not_eq_true', Bool.not_eq_false'] at hg19)
                first | done | (exfalso; omega) | contradiction | (exfalso; simp_all; done)
              · (try simp only [decide_eq_true_eq, decide_eq_false_iff_not, Bool.not_eq_true', Bool.not_eq_false'] at hg19)
                refine nlL (l' := _) rfl ?_
                refine l_gval s15 (y_mv rfl (ev_of rfl)) (wanted_of rfl rfl rfl rfl rfl) rfl (l' := [_,_,_,_,_,_,_,_,_,_,_,_,_,_,_,_,_,_,_,_,_,_,_,_,_,_,_,_,_,_,_,_,_,_,_,_,_,_,_,_,_,_,_,_,_,_,_,_,_,_,_,_,_,_,_,_,_,_,_,_,_,_,_,_,_,_,_,_,_,_,_,_,_,_,_,_,_,_,_,_,_,_,_,_,_,_,_,_,_,_,_,_,_,_,_,_,_,_,_,_,_,_,_,_,_,_,_,_,_,_,_,_,_,_,_,_,_,_,_,_,_,_,_,_,_,_,_,_,_,_,_,_,_,_,_,_,_,_,_,_,_,_,_,_,_,_,_,_,_,_,_,_,_,_,_,_,_,_,_,_,_,_,_,_,_,_,_,_,_,_,_,_,_,_,_,_,_,_,_,_,_,_,_,_,_,_,_,_,_,_]) rfl ?_
                refine l_gval s15 (y_len rfl rfl Ty.elem22 (ev_of rfl) (by repeat first | assumption | with_reducible exact ent_blk | exact Ent.here arr_reads | exact Ent.here one_I64 | exact Ent.here one_Cell | exact Ent.here one_Bool | exact Ent.here one_Rect | refine Ent.there ?_)) (wanted_of rfl rfl rfl rfl rfl) rfl (l' := _) rfl ?_
                refine l_gval s15 (y_mv rfl (ev_of rfl)) (wanted_of rfl rfl rfl rfl rfl) rfl (l' := _) rfl ?_
                refine l_gval s15 (y_len rfl rfl Ty.elem22 (ev_of rfl) (by repeat first | assumption | with_reducible exact ent_blk | exact Ent.here arr_reads | exact Ent.here one_I64 | exact Ent.here one_Cell | exact Ent.here one_Bool | exact Ent.here one_Rect | refine Ent.there ?_)) (wanted_of rfl rfl rfl rfl rfl) rfl (l' := _) rfl ?_
                refine l_gval s15 (y_neq rfl (ev_of rfl) (ev_of rfl)) (wanted_of rfl rfl rfl rfl rfl) rfl (l' := [_,_,_,_,_,_,_,_,_,_,_,_,_,_,_,_,_,_,_,_,_,_,_,_,_,_,_,_,_,_,_,_,_,_,_,_,_,_,_,_,_,_,_,_,_,_,_,_,_,_,_,_,_,_,_,_,_,_,_,_,_,_,_,_,_,_,_,_,_,_,_,_,_,_,_,_,_,_,_,_,_,_,_,_,_,_,_,_,_,_,_,_,_,_,_,_,_,_,_,_,_,_,_,_,_,_,_,_,_,_,_,_,_,_,_,_,_,_,_,_,_,_,_,_,_,_,_,_,_,_,_,_,_,_,_,_,_,_,_,_,_,_,_,_,_,_,_,_,_,_,_,_,_,_,_,_,_,_,_,_,_,_,_,_,_,_,_,_,_,_,_,_,_,_,_,_,_,_,_,_,_,_,_,_,_,_,_,_,_,_]) rfl ?_
                refine l_val s15 (y_pick0 rfl (ev_of rfl) (ev_of rfl)) rfl rfl (l' := _) rfl ?_
                refine l_end ?_
                refine x_thenN ?_
                refine c_if rfl (fun hc3 => ?_) (fun hc3 => ?_)
                · (try simp only [decide_eq_true_eq, decide_eq_false_iff_not, Bool.not_eq_true', Bool.not_eq_false'] at hc3)
                  first | done | (exfalso; omega) | contradiction | (exfalso; simp_all; done)
                · (try simp only [decide_eq_true_eq, decide_eq_false_iff_not, Bool.not_eq_true', Bool.not_eq_false'] at hc3)
                  refine c_skip ?_
                  refine x_thenN ?_
                  refine c_seq ?_
                  refine c_seq ?_
                  refine c_region ?_
                  refine l_val s15 (y_as rfl (ev_of rfl)) rfl rfl (l' := _) rfl ?_
                  refine l_end ?_
                  refine x_thenN ?_
                  refine c_block ?_
                  refine c_loop [false, false, false, false, false, false, false, false, false, false, true, false, false, false, false, false, false, false, true, false, false, false, false, false, false, false, false, false, false, false, false, false, false, false, false, false, false, false, false, false, false, false, false, false, false, false, false, false, false, false, false, false, false, false, false, false, false, false, false, false, false, false, false, false, false, false, false, false, false, false, false, false, false, false, false, false, true, true, true, true, true, true, true, true, true, true, true, true, true, true, true, true, true, true, true, true, true, true, true, true, true, true, true, true, true, true, true, true, true, true, true, true, true, true, true, true, true, true, true, true, true, true, true, true, true, true, true, true, true, true, true, true, true, true, true, true, true, true, true, true, true, true, true, true, true, true, true, true, true, true, true, true, true, true, true, true, true, true, true, true, true, true, true, true, true, true, true, true, true, true, true, true, true, true, true, true, true, true, true, true, true, true, true, true, true, true, true, true, true, true] (fun mu ds w => ∃ (i : Nat) (dd1 : List Value), ds = [nthD dd1 0, (.int .i64 (i : Int)), nthD dd1 1, nthD dd1 2, nthD dd1 3, nthD dd1 4, nthD dd1 5, nthD dd1 6, nthD dd1 7, nthD dd1 8, nthD dd1 9, nthD dd1 10, nthD dd1 11, nthD dd1 12, nthD dd1 13, nthD dd1 14, nthD dd1 15, nthD dd1 16, nthD dd1 17, nthD dd1 18, nthD dd1 19, nthD dd1 20, nthD dd1 21, nthD dd1 22, nthD dd1 23, nthD dd1 24, nthD dd1 25, nthD dd1 26, nthD dd1 27, nthD dd1 28, nthD dd1 29, nthD dd1 30, nthD dd1 31, nthD dd1 32, nthD dd1 33, nthD dd1 34, nthD dd1 35, nthD dd1 36, nthD dd1 37, nthD dd1 38, nthD dd1 39, nthD dd1 40, nthD dd1 41, nthD dd1 42, nthD dd1 43, nthD dd1 44, nthD dd1 45, nthD dd1 46, nthD dd1 47, nthD dd1 48, nthD dd1 49, nthD dd1 50, nthD dd1 51, nthD dd1 52, nthD dd1 53, nthD dd1 54, nthD dd1 55, nthD dd1 56, nthD dd1 57, nthD dd1 58, nthD dd1 59, nthD dd1 60, nthD dd1 61, nthD dd1 62, nthD dd1 63, nthD dd1 64, nthD dd1 65, nthD dd1 66, nthD dd1 67, nthD dd1 68, nthD dd1 69, nthD dd1 70, nthD dd1 71, nthD dd1 72, nthD dd1 73, nthD dd1 74, nthD dd1 75, nthD dd1 76, nthD dd1 77, nthD dd1 78, nthD dd1 79, nthD dd1 80, nthD dd1 81, nthD dd1 82, nthD dd1 83, nthD dd1 84, nthD dd1 85, nthD dd1 86, nthD dd1 87, nthD dd1 88, nthD dd1 89, nthD dd1 90, nthD dd1 91, nthD dd1 92, nthD dd1 93, nthD dd1 94, nthD dd1 95, nthD dd1 96, nthD dd1 97, nthD dd1 98, nthD dd1 99, nthD dd1 100, nthD dd1 101, nthD dd1 102, nthD dd1 103, nthD dd1 104, nthD dd1 105, nthD dd1 106, nthD dd1 107, nthD dd1 108, nthD dd1 109, nthD dd1 110, nthD dd1 111, nthD dd1 112, nthD dd1 113, nthD dd1 114] ∧ mu = v.length - i ∧ SL e w (Arr I64 2 u2 a2 :: Arr I64 2 u1 a1 :: L) ∧ (True)) (ds := [_, _, _, _, _, _, _, _, _, _, _, _, _, _, _, _, _, _, _, _, _, _, _, _, _, _, _, _, _, _, _, _, _, _, _, _, _, _, _, _, _, _, _, _, _, _, _, _, _, _, _, _, _, _, _, _, _, _, _, _, _, _, _, _, _, _, _, _, _, _, _, _, _, _, _, _, _, _, _, _, _, _, _, _, _, _, _, _, _, _, _, _, _, _, _, _, _, _, _, _, _, _, _, _, _, _, _, _, _, _, _, _, _, _, _, _]) rfl ⟨0, [_, _, _, _, _, _, _, _, _, _, _, _, _, _, _, _, _, _, _, _, _, _, _, _, _, _, _, _, _, _, _, _, _, _, _, _, _, _, _, _, _, _, _, _, _, _, _, _, _, _, _, _, _, _, _, _, _, _, _, _, _, _, _, _, _, _, _, _, _, _, _, _, _, _, _, _, _, _, _, _, _, _, _, _, _, _, _, _, _, _, _, _, _, _, _, _, _, _, _, _, _, _, _, _, _, _, _, _, _, _, _, _, _, _, _], rfl, rfl, ?_, ?_⟩ ?_
                  · first | exact s15 | exact s15.sub (by repeat first | with_reducible exact Sub.refl _ | exact Sub.nil _ | refine Sub.take (by repeat first | with_reducible exact Take.here _ _ | apply Take.there) ?_ | refine Sub.skip _ ?_)
                  · trivial
                  · clear s15
                    rintro n22 ds23 w21 ⟨i, dd1, rfl, rfl, s20, hI⟩
                    refine nlC (l' := [_,_,_,_,_,_,_,_,_,_,_,_,_,_,_,_,_,_,_,_,_,_,_,_,_,_,_,_,_,_,_,_,_,_,_,_,_,_,_,_,_,_,_,_,_,_,_,_,_,_,_,_,_,_,_,_,_,_,_,_,_,_,_,_,_,_,_,_,_,_,_,_,_,_,_,_,_,_,_,_,_,_,_,_,_,_,_,_,_,_,_,_,_,_,_,_,_,_,_,_,_,_,_,_,_,_,_,_,_,_,_,_,_,_,_,_,_,_,_,_,_,_,_,_,_,_,_,_,_,_,_,_,_,_,_,_,_,_,_,_,_,_,_,_,_,_,_,_,_,_,_,_,_,_,_,_,_,_,_,_,_,_,_,_,_,_,_,_,_,_,_,_,_,_,_,_,_,_,_,_,_,_,_,_,_,_,_,_,_,_]) rfl ?_
                    refine c_seq ?_
                    refine c_seq ?_
                    refine c_region ?_
                    refine l_val s20 (y_mv rfl (ev_of rfl)) rfl rfl (l' := [_,_,_,_,_,_,_,_,_,_,_,_,_,_,_,_,_,_,_,_,_,_,_,_,_,_,_,_,_,_,_,_,_,_,_,_,_,_,_,_,_,_,_,_,_,_,_,_,_,_,_,_,_,_,_,_,_,_,_,_,_,_,_,_,_,_,_,_,_,_,_,_,_,_,_,_,_,_,_,_,_,_,_,_,_,_,_,_,_,_,_,_,_,_,_,_,_,_,_,_,_,_,_,_,_,_,_,_,_,_,_,_,_,_,_,_,_,_,_,_,_,_,_,_,_,_,_,_,_,_,_,_,_,_,_,_,_,_,_,_,_,_,_,_,_,_,_,_,_,_,_,_,_,_,_,_,_,_,_,_,_,_,_,_,_,_,_,_,_,_,_,_,_,_,_,_,_,_,_,_,_,_,_,_,_,_,_,_,_,_]) rfl ?_
                    refine l_val s20 (y_mv rfl (ev_of rfl)) rfl rfl (l' := _) rfl ?_
                    refine l_val s20 (y_mv rfl (ev_of rfl)) rfl rfl (l' := _) rfl ?_
                    refine l_val s20 (y_mul rfl (ev_of rfl) (ev_of rfl) (by omega) (by omega)) rfl rfl (l' := _) rfl ?_
                    refine l_val s20 (y_lss rfl (ev_of rfl) (ev_of rfl)) rfl rfl (l' := [_,_,_,_,_,_,_,_,_,_,_,_,_,_,_,_,_,_,_,_,_,_,_,_,_,_,_,_,_,_,_,_,_,_,_,_,_,_,_,_,_,_,_,_,_,_,_,_,_,_,_,_,_,_,_,_,_,_,_,_,_,_,_,_,_,_,_,_,_,_,_,_,_,_,_,_,_,_,_,_,_,_,_,_,_,_,_,_,_,_,_,_,_,_,_,_,_,_,_,_,_,_,_,_,_,_,_,_,_,_,_,_,_,_,_,_,_,_,_,_,_,_,_,_,_,_,_,_,_,_,_,_,_,_,_,_,_,_,_,_,_,_,_,_,_,_,_,_,_,_,_,_,_,_,_,_,_,_,_,_,_,_,_,_,_,_,_,_,_,_,_,_,_,_,_,_,_,_,_,_,_,_,_,_,_,_,_,_,_,_]) rfl ?_
                    refine l_end ?_
                    refine x_thenN ?_
                    refine c_if rfl (fun hc4 => ?_) (fun hc4 => ?_)
                    · (try simp only [decide_eq_true_eq, decide_eq_false_iff_not, Bool.not_eq_true', Bool.not_eq_false'] at hc4)
                      have hi : i < v.length := by omega
                      have hmod : (i : Int) % (W : Int) = ((i % W : Nat) : Int) := (Int.natCast_emod i W).symm
                      have A0 : Go.RowKit.Hid (a1.getD i 0 = 0 ↔ t ≤ v.getD i 0) := hA.zero hi
                      have bA := hA.bound (H := H) (by omega) hl hi
                      have bB := hB.bound (H := H) (by omega) hl hi
                      refine c_skip ?_
                      refine x_thenN ?_
                      refine c_seq ?_
                      refine c_block ?_
                      refine c_cut [false, false, false, false, false, false, false, false, false, false, true, false, false, false, false, false, false, false, false, false, false, false, false, false, false, false, false, false, false, false, false, false, false, false, false, false, false, false, false, false, false, false, false, false, false, false, false, false, false, false, false, false, false, false, false, false, false, false, false, false, false, false, false, false, false, false, false, false, false, false, false, false, false, false, false, false, false, false, false, false, false, false, false, true, true, true, true, true, true, true, true, true, true, true, true, true, true, true, true, true, true, true, true, true, true, true, true, true, true, true, true, true, true, true, true, true, true, true, true, true, true, true, true, true, true, true, true, false, false, false, false, false, false, false, false, false, false, false, false, false, false, false, false, false, false, false, false, false, false, false, false, false, false, false, false, false, false, false, false, false, false, false, false, false, false, false, false, false, false, false, false, false, false, false, false, false, false, false, false, false, false, false, false, false, false, false, false, false, false, false] (fun ds w => ∃ (dd2 : List Value), ds = [nthD dd2 0, nthD dd2 1, nthD dd2 2, nthD dd2 3, nthD dd2 4, nthD dd2 5, nthD dd2 6, nthD dd2 7, nthD dd2 8, nthD dd2 9, nthD dd2 10, nthD dd2 11, nthD dd2 12, nthD dd2 13, nthD dd2 14, nthD dd2 15, nthD dd2 16, nthD dd2 17, nthD dd2 18, nthD dd2 19, nthD dd2 20, nthD dd2 21, nthD dd2 22, nthD dd2 23, nthD dd2 24, nthD dd2 25, nthD dd2 26, nthD dd2 27, nthD dd2 28, nthD dd2 29, nthD dd2 30, nthD dd2 31, nthD dd2 32, nthD dd2 33, nthD dd2 34, nthD dd2 35, nthD dd2 36, nthD dd2 37, nthD dd2 38, nthD dd2 39, nthD dd2 40, nthD dd2 41, nthD dd2 42, nthD dd2 43, nthD dd2 44] ∧ SL e w (Arr I64 2 u2 a2 :: Arr I64 2 u1 a1 :: L) ∧ (True)) ?_ ?_
                      · skip
                        refine c_seq ?_
                        by_cases hA0 : a1.getD i 0 < 0
                        · skip
                          by_cases hB0 : 0 ≤ a2.getD i 0
                          · skip
                            have hmo := hA.mono hB (by omega) hi hB0
                            exfalso; omega
                          · skip
                            apply c_drawn [] [0, 1, 2, 3, 4, 5, 6, 7, 8, 9, 10, 11, 12, 13, 14, 15, 16, 17, 18, 19, 20, 21, 22, 23, 24, 25, 26, 27, 28, 29, 30, 31, 32, 33, 34, 35, 36, 37, 38, 39, 40, 41, 42, 43] [] [] [] [(_, vq _), (_, vq _), (_, vq _), (_, vq _), (_, vq _), (_, vq _), (_, vq _), (_, vq _), (_, vq _), (_, vq _), (_, vq _), (_, vq _), (_, vq _), (_, vq _), (_, vq _), (_, vq _), (_, vq _), (_, vq _), (_, vq _), (_, vq _), (_, vq _), (_, vq _), (_, vq _), (_, vq _), (_, vq _), (_, vq _), (_, vq _), (_, vq _), (_, vq _), (_, vq _), (_, vq _), (_, vq _), (_, vq _), (_, vq _), (_, vq _), (_, vq _), (_, vq _), (_, vq _), (_, vq _), (_, vq _), (_, vq _), (_, vq _), (_, vq _), (_, vq _)] s20 Ty.follows (by kernel_rfl) (fun _ _ _ h => h.2) rfl rfl rfl (by decide) ?_
                            show WP _ _ _ _ _
                            refine p_end ?_
                            refine d_val (y_mv rfl (ev_of rfl)) rfl rfl (l' := _) rfl ?_
                            refine d_val (y_mv rfl (ev_of rfl)) rfl rfl (l' := _) rfl ?_
                            refine d_val (y_idx rfl Ty.elem22 Ty.size2 (ev_of rfl) (ev_of rfl) (by repeat first | assumption | with_reducible exact ent_blk | exact Ent.here arr_reads | exact Ent.here one_I64 | exact Ent.here one_Cell | exact Ent.here one_Bool | exact Ent.here one_Rect | refine Ent.there ?_) (by first | rfl | exact (Int.toNat_of_nonneg (by omega)).symm) (by omega)) rfl rfl (l' := _) rfl ?_
                            refine d_val (y_ldI rfl Ty.some2 Ty.agg2 (ev_of rfl) (by repeat first | assumption | with_reducible exact ent_blk | exact Ent.here arr_reads | exact Ent.here one_I64 | exact Ent.here one_Cell | exact Ent.here one_Bool | exact Ent.here one_Rect | refine Ent.there ?_) (by omega)) rfl rfl (l' := [_,_,_,_,_,_,_,_,_,_,_,_,_,_,_,_,_,_,_,_,_,_,_,_,_,_,_,_,_,_,_,_,_,_,_,_,_,_,_,_,_,_,_,_,_,_,_,_,_,_,_,_,_,_,_,_,_,_,_,_,_,_,_,_,_,_,_,_,_,_,_,_,_,_,_,_,_,_,_,_,_,_,_,_,_,_,_,_,_,_,_,_,_,_,_,_,_,_,_,_,_,_,_,_,_,_,_,_,_,_,_,_,_,_,_,_,_,_,_,_,_,_,_,_,_,_,_,_,_,_,_,_,_,_,_,_,_,_,_,_,_,_,_,_,_,_,_,_,_,_,_,_,_,_,_,_,_,_,_,_,_,_,_,_,_,_,_,_,_,_,_,_,_,_,_,_,_,_,_,_,_,_,_,_,_,_,_,_,_,_]) rfl ?_
                            refine d_val (y_lss rfl (ev_of rfl) (ev_of rfl)) rfl rfl (l' := _) rfl ?_
                            refine d_val (y_mv rfl (ev_of rfl)) rfl rfl (l' := _) rfl ?_
                            refine d_known (t := 88) (b := true) rfl (decide_eq_true (by omega)) ?_
                            refine nlD (l' := _) rfl ?_
                            refine d_gval (y_mv rfl (ev_of rfl)) (wanted_of rfl rfl rfl rfl rfl) rfl (l' := [_,_,_,_,_,_,_,_,_,_,_,_,_,_,_,_,_,_,_,_,_,_,_,_,_,_,_,_,_,_,_,_,_,_,_,_,_,_,_,_,_,_,_,_,_,_,_,_,_,_,_,_,_,_,_,_,_,_,_,_,_,_,_,_,_,_,_,_,_,_,_,_,_,_,_,_,_,_,_,_,_,_,_,_,_,_,_,_,_,_,_,_,_,_,_,_,_,_,_,_,_,_,_,_,_,_,_,_,_,_,_,_,_,_,_,_,_,_,_,_,_,_,_,_,_,_,_,_,_,_,_,_,_,_,_,_,_,_,_,_,_,_,_,_,_,_,_,_,_,_,_,_,_,_,_,_,_,_,_,_,_,_,_,_,_,_,_,_,_,_,_,_,_,_,_,_,_,_,_,_,_,_,_,_,_,_,_,_,_,_]) rfl ?_
                            refine d_gval (y_mv rfl (ev_of rfl)) (wanted_of rfl rfl rfl rfl rfl) rfl (l' := _) rfl ?_
                            refine d_gval (y_idx rfl Ty.elem22 Ty.size2 (ev_of rfl) (ev_of rfl) (by repeat first | assumption | with_reducible exact ent_blk | exact Ent.here arr_reads | exact Ent.here one_I64 | exact Ent.here one_Cell | exact Ent.here one_Bool | exact Ent.here one_Rect | refine Ent.there ?_) (by first | rfl | exact (Int.toNat_of_nonneg (by omega)).symm) (by omega)) (wanted_of rfl rfl rfl rfl rfl) rfl (l' := _) rfl ?_
                            refine d_gval (y_ldI rfl Ty.some2 Ty.agg2 (ev_of rfl) (by repeat first | assumption | with_reducible exact ent_blk | exact Ent.here arr_reads | exact Ent.here one_I64 | exact Ent.here one_Cell | exact Ent.here one_Bool | exact Ent.here one_Rect | refine Ent.there ?_) (by omega)) (wanted_of rfl rfl rfl rfl rfl) rfl (l' := _) rfl ?_
                            refine d_gval (y_geq rfl (ev_of rfl) (ev_of rfl)) (wanted_of rfl rfl rfl rfl rfl) rfl (l' := [_,_,_,_,_,_,_,_,_,_,_,_,_,_,_,_,_,_,_,_,_,_,_,_,_,_,_,_,_,_,_,_,_,_,_,_,_,_,_,_,_,_,_,_,_,_,_,_,_,_,_,_,_,_,_,_,_,_,_,_,_,_,_,_,_,_,_,_,_,_,_,_,_,_,_,_,_,_,_,_,_,_,_,_,_,_,_,_,_,_,_,_,_,_,_,_,_,_,_,_,_,_,_,_,_,_,_,_,_,_,_,_,_,_,_,_,_,_,_,_,_,_,_,_,_,_,_,_,_,_,_,_,_,_,_,_,_,_,_,_,_,_,_,_,_,_,_,_,_,_,_,_,_,_,_,_,_,_,_,_,_,_,_,_,_,_,_,_,_,_,_,_,_,_,_,_,_,_,_,_,_,_,_,_,_,_,_,_,_,_]) rfl ?_
                            refine d_val (y_pick1 rfl (ev_of rfl) (ev_of rfl)) rfl rfl (l' := _) rfl ?_
                            refine d_val (y_mv rfl (ev_of rfl)) rfl rfl (l' := _) rfl ?_
                            refine d_known (t := 95) (b := false) rfl (decide_eq_false (by omega)) ?_
                            refine nlD (l' := _) rfl ?_
                            refine d_gval (y_mv rfl (ev_of rfl)) (wanted_of rfl rfl rfl rfl rfl) rfl (l' := [_,_,_,_,_,_,_,_,_,_,_,_,_,_,_,_,_,_,_,_,_,_,_,_,_,_,_,_,_,_,_,_,_,_,_,_,_,_,_,_,_,_,_,_,_,_,_,_,_,_,_,_,_,_,_,_,_,_,_,_,_,_,_,_,_,_,_,_,_,_,_,_,_,_,_,_,_,_,_,_,_,_,_,_,_,_,_,_,_,_,_,_,_,_,_,_,_,_,_,_,_,_,_,_,_,_,_,_,_,_,_,_,_,_,_,_,_,_,_,_,_,_,_,_,_,_,_,_,_,_,_,_,_,_,_,_,_,_,_,_,_,_,_,_,_,_,_,_,_,_,_,_,_,_,_,_,_,_,_,_,_,_,_,_,_,_,_,_,_,_,_,_,_,_,_,_,_,_,_,_,_,_,_,_,_,_,_,_,_,_]) rfl ?_
                            refine d_gval (y_mv rfl (ev_of rfl)) (wanted_of rfl rfl rfl rfl rfl) rfl (l' := _) rfl ?_
                            refine d_gval (y_idx rfl Ty.elem22 Ty.size2 (ev_of rfl) (ev_of rfl) (by repeat first | assumption | with_reducible exact ent_blk | exact Ent.here arr_reads | exact Ent.here one_I64 | exact Ent.here one_Cell | exact Ent.here one_Bool | exact Ent.here one_Rect | refine Ent.there ?_) (by first | rfl | exact (Int.toNat_of_nonneg (by omega)).symm) (by omega)) (wanted_of rfl rfl rfl rfl rfl) rfl (l' := _) rfl ?_
                            refine d_gval (y_ldI rfl Ty.some2 Ty.agg2 (ev_of rfl) (by repeat first | assumption | with_reducible exact ent_blk | exact Ent.here arr_reads | exact Ent.here one_I64 | exact Ent.here one_Cell | exact Ent.here one_Bool | exact Ent.here one_Rect | refine Ent.there ?_) (by omega)) (wanted_of rfl rfl rfl rfl rfl) rfl (l' := _) rfl ?_
                            refine d_gval (y_geq rfl (ev_of rfl) (ev_of rfl)) (wanted_of rfl rfl rfl rfl rfl) rfl (l' := [_,_,_,_,_,_,_,_,_,_,_,_,_,_,_,_,_,_,_,_,_,_,_,_,_,_,_,_,_,_,_,_,_,_,_,_,_,_,_,_,_,_,_,_,_,_,_,_,_,_,_,_,_,_,_,_,_,_,_,_,_,_,_,_,_,_,_,_,_,_,_,_,_,_,_,_,_,_,_,_,_,_,_,_,_,_,_,_,_,_,_,_,_,_,_,_,_,_,_,_,_,_,_,_,_,_,_,_,_,_,_,_,_,_,_,_,_,_,_,_,_,_,_,_,_,_,_,_,_,_,_,_,_,_,_,_,_,_,_,_,_,_,_,_,_,_,_,_,_,_,_,_,_,_,_,_,_,_,_,_,_,_,_,_,_,_,_,_,_,_,_,_,_,_,_,_,_,_,_,_,_,_,_,_,_,_,_,_,_,_]) rfl ?_
                            refine d_gval (y_mv rfl (ev_of rfl)) (wanted_of rfl rfl rfl rfl rfl) rfl (l' := _) rfl ?_
                            refine d_known (t := 101) (b := false) rfl (decide_eq_false (by omega)) ?_
                            refine nlD (l' := _) rfl ?_
                            refine d_skip (wanted_of rfl rfl rfl rfl rfl) rfl (l' := _) rfl ?_
                            refine d_skip (wanted_of rfl rfl rfl rfl rfl) rfl (l' := [_,_,_,_,_,_,_,_,_,_,_,_,_,_,_,_,_,_,_,_,_,_,_,_,_,_,_,_,_,_,_,_,_,_,_,_,_,_,_,_,_,_,_,_,_,_,_,_,_,_,_,_,_,_,_,_,_,_,_,_,_,_,_,_,_,_,_,_,_,_,_,_,_,_,_,_,_,_,_,_,_,_,_,_,_,_,_,_,_,_,_,_,_,_,_,_,_,_,_,_,_,_,_,_,_,_,_,_,_,_,_,_,_,_,_,_,_,_,_,_,_,_,_,_,_,_,_,_,_,_,_,_,_,_,_,_,_,_,_,_,_,_,_,_,_,_,_,_,_,_,_,_,_,_,_,_,_,_,_,_,_,_,_,_,_,_,_,_,_,_,_,_,_,_,_,_,_,_,_,_,_,_,_,_,_,_,_,_,_,_]) rfl ?_
                            refine d_skip (wanted_of rfl rfl rfl rfl rfl) rfl (l' := _) rfl ?_
                            refine d_skip (wanted_of rfl rfl rfl rfl rfl) rfl (l' := _) rfl ?_
                            refine d_skip (wanted_of rfl rfl rfl rfl rfl) rfl (l' := _) rfl ?_
                            refine d_skip (wanted_of rfl rfl rfl rfl rfl) rfl (l' := [_,_,_,_,_,_,_,_,_,_,_,_,_,_,_,_,_,_,_,_,_,_,_,_,_,_,_,_,_,_,_,_,_,_,_,_,_,_,_,_,_,_,_,_,_,_,_,_,_,_,_,_,_,_,_,_,_,_,_,_,_,_,_,_,_,_,_,_,_,_,_,_,_,_,_,_,_,_,_,_,_,_,_,_,_,_,_,_,_,_,_,_,_,_,_,_,_,_,_,_,_,_,_,_,_,_,_,_,_,_,_,_,_,_,_,_,_,_,_,_,_,_,_,_,_,_,_,_,_,_,_,_,_,_,_,_,_,_,_,_,_,_,_,_,_,_,_,_,_,_,_,_,_,_,_,_,_,_,_,_,_,_,_,_,_,_,_,_,_,_,_,_,_,_,_,_,_,_,_,_,_,_,_,_,_,_,_,_,_,_]) rfl ?_
                            refine d_skip (wanted_of rfl rfl rfl rfl rfl) rfl (l' := _) rfl ?_
                            refine d_skip (wanted_of rfl rfl rfl rfl rfl) rfl (l' := _) rfl ?_
                            refine d_skip (wanted_of rfl rfl rfl rfl rfl) rfl (l' := _) rfl ?_
                            refine d_gval (y_pick0 rfl (ev_of rfl) (ev_of rfl)) (wanted_of rfl rfl rfl rfl rfl) rfl (l' := [_,_,_,_,_,_,_,_,_,_,_,_,_,_,_,_,_,_,_,_,_,_,_,_,_,_,_,_,_,_,_,_,_,_,_,_,_,_,_,_,_,_,_,_,_,_,_,_,_,_,_,_,_,_,_,_,_,_,_,_,_,_,_,_,_,_,_,_,_,_,_,_,_,_,_,_,_,_,_,_,_,_,_,_,_,_,_,_,_,_,_,_,_,_,_,_,_,_,_,_,_,_,_,_,_,_,_,_,_,_,_,_,_,_,_,_,_,_,_,_,_,_,_,_,_,_,_,_,_,_,_,_,_,_,_,_,_,_,_,_,_,_,_,_,_,_,_,_,_,_,_,_,_,_,_,_,_,_,_,_,_,_,_,_,_,_,_,_,_,_,_,_,_,_,_,_,_,_,_,_,_,_,_,_,_,_,_,_,_,_]) rfl ?_
                            refine d_val (y_pick0 rfl (ev_of rfl) (ev_of rfl)) rfl rfl (l' := _) rfl ?_
                            refine d_val (y_mv rfl (ev_of rfl)) rfl rfl (l' := _) rfl ?_
                            refine d_gval (y_mv rfl (ev_of rfl)) (wanted_of rfl rfl rfl rfl rfl) rfl (l' := _) rfl ?_
                            refine d_gval (y_mv rfl (ev_of rfl)) (wanted_of rfl rfl rfl rfl rfl) rfl (l' := [_,_,_,_,_,_,_,_,_,_,_,_,_,_,_,_,_,_,_,_,_,_,_,_,_,_,_,_,_,_,_,_,_,_,_,_,_,_,_,_,_,_,_,_,_,_,_,_,_,_,_,_,_,_,_,_,_,_,_,_,_,_,_,_,_,_,_,_,_,_,_,_,_,_,_,_,_,_,_,_,_,_,_,_,_,_,_,_,_,_,_,_,_,_,_,_,_,_,_,_,_,_,_,_,_,_,_,_,_,_,_,_,_,_,_,_,_,_,_,_,_,_,_,_,_,_,_,_,_,_,_,_,_,_,_,_,_,_,_,_,_,_,_,_,_,_,_,_,_,_,_,_,_,_,_,_,_,_,_,_,_,_,_,_,_,_,_,_,_,_,_,_,_,_,_,_,_,_,_,_,_,_,_,_,_,_,_,_,_,_]) rfl ?_
                            refine d_gval (y_idx rfl Ty.elem22 Ty.size2 (ev_of rfl) (ev_of rfl) (by repeat first | assumption | with_reducible exact ent_blk | exact Ent.here arr_reads | exact Ent.here one_I64 | exact Ent.here one_Cell | exact Ent.here one_Bool | exact Ent.here one_Rect | refine Ent.there ?_) (by first | rfl | exact (Int.toNat_of_nonneg (by omega)).symm) (by omega)) (wanted_of rfl rfl rfl rfl rfl) rfl (l' := _) rfl ?_
                            refine d_gval (y_ldI rfl Ty.some2 Ty.agg2 (ev_of rfl) (by repeat first | assumption | with_reducible exact ent_blk | exact Ent.here arr_reads | exact Ent.here one_I64 | exact Ent.here one_Cell | exact Ent.here one_Bool | exact Ent.here one_Rect | refine Ent.there ?_) (by omega)) (wanted_of rfl rfl rfl rfl rfl) rfl (l' := _) rfl ?_
                            refine d_gval (y_eql rfl (ev_of rfl) (ev_of rfl)) (wanted_of rfl rfl rfl rfl rfl) rfl (l' := _) rfl ?_
                            refine d_gval (y_mv rfl (ev_of rfl)) (wanted_of rfl rfl rfl rfl rfl) rfl (l' := [_,_,_,_,_,_,_,_,_,_,_,_,_,_,_,_,_,_,_,_,_,_,_,_,_,_,_,_,_,_,_,_,_,_,_,_,_,_,_,_,_,_,_,_,_,_,_,_,_,_,_,_,_,_,_,_,_,_,_,_,_,_,_,_,_,_,_,_,_,_,_,_,_,_,_,_,_,_,_,_,_,_,_,_,_,_,_,_,_,_,_,_,_,_,_,_,_,_,_,_,_,_,_,_,_,_,_,_,_,_,_,_,_,_,_,_,_,_,_,_,_,_,_,_,_,_,_,_,_,_,_,_,_,_,_,_,_,_,_,_,_,_,_,_,_,_,_,_,_,_,_,_,_,_,_,_,_,_,_,_,_,_,_,_,_,_,_,_,_,_,_,_,_,_,_,_,_,_,_,_,_,_,_,_,_,_,_,_,_,_]) rfl ?_
                            refine d_gval (y_mv rfl (ev_of rfl)) (wanted_of rfl rfl rfl rfl rfl) rfl (l' := _) rfl ?_
                            refine d_gval (y_idx rfl Ty.elem22 Ty.size2 (ev_of rfl) (ev_of rfl) (by repeat first | assumption | with_reducible exact ent_blk | exact Ent.here arr_reads | exact Ent.here one_I64 | exact Ent.here one_Cell | exact Ent.here one_Bool | exact Ent.here one_Rect | refine Ent.there ?_) (by first | rfl | exact (Int.toNat_of_nonneg (by omega)).symm) (by omega)) (wanted_of rfl rfl rfl rfl rfl) rfl (l' := _) rfl ?_
                            refine d_gval (y_ldI rfl Ty.some2 Ty.agg2 (ev_of rfl) (by repeat first | assumption | with_reducible exact ent_blk | exact Ent.here arr_reads | exact Ent.here one_I64 | exact Ent.here one_Cell | exact Ent.here one_Bool | exact Ent.here one_Rect | refine Ent.there ?_) (by omega)) (wanted_of rfl rfl rfl rfl rfl) rfl (l' := _) rfl ?_
                            refine d_gval (y_mv rfl (ev_of rfl)) (wanted_of rfl rfl rfl rfl rfl) rfl (l' := [_,_,_,_,_,_,_,_,_,_,_,_,_,_,_,_,_,_,_,_,_,_,_,_,_,_,_,_,_,_,_,_,_,_,_,_,_,_,_,_,_,_,_,_,_,_,_,_,_,_,_,_,_,_,_,_,_,_,_,_,_,_,_,_,_,_,_,_,_,_,_,_,_,_,_,_,_,_,_,_,_,_,_,_,_,_,_,_,_,_,_,_,_,_,_,_,_,_,_,_,_,_,_,_,_,_,_,_,_,_,_,_,_,_,_,_,_,_,_,_,_,_,_,_,_,_,_,_,_,_,_,_,_,_,_,_,_,_,_,_,_,_,_,_,_,_,_,_,_,_,_,_,_,_,_,_,_,_,_,_,_,_,_,_,_,_,_,_,_,_,_,_,_,_,_,_,_,_,_,_,_,_,_,_,_,_,_,_,_,_]) rfl ?_
                            refine d_gval (y_geq rfl (ev_of rfl) (ev_of rfl)) (wanted_of rfl rfl rfl rfl rfl) rfl (l' := _) rfl ?_
                            refine d_gval (y_bneq rfl (ev_of rfl) (ev_of rfl) Ty.isbool4) (wanted_of rfl rfl rfl rfl rfl) rfl (l' := _) rfl ?_
                            refine d_val (y_pick0 rfl (ev_of rfl) (ev_of rfl)) rfl rfl (l' := _) rfl ?_
                            refine d_end (fun w25 s24 => ?_)
                            clear s20
                            simp only [List.append_nil, List.cons_append, List.nil_append] at s24
                            refine l_end ?_
                            refine x_thenN ?_
                            refine c_if rfl (fun hc5 => ?_) (fun hc5 => ?_)
                            · (try simp only [decide_eq_true_eq, decide_eq_false_iff_not, Bool.not_eq_true', Bool.not_eq_false'] at hc5)
                              exfalso; have e5 : decide (a1.getD i 0 = 0) = decide (v.getD i 0 ≥ t) := decide_eq_decide.2 A0.out; rw [e5] at hc5; simp at hc5
                            · (try simp only [decide_eq_true_eq, decide_eq_false_iff_not, Bool.not_eq_true', Bool.not_eq_false'] at hc5)
                              refine c_skip ?_
                              refine x_thenN ?_
                              refine ⟨[_, _, _, _, _, _, _, _, _, _, _, _, _, _, _, _, _, _, _, _, _, _, _, _, _, _, _, _, _, _, _, _, _, _, _, _, _, _, _, _, _, _, _, _, _], rfl, [_, _, _, _, _, _, _, _, _, _, _, _, _, _, _, _, _, _, _, _, _, _, _, _, _, _, _, _, _, _, _, _, _, _, _, _, _, _, _, _, _, _, _, _, _], rfl, ?_, ?_⟩
                              · first | exact s24 | exact s24.sub (by repeat first | with_reducible exact Sub.refl _ | exact Sub.nil _ | refine Sub.take (by repeat first | with_reducible exact Take.here _ _ | apply Take.there) ?_ | refine Sub.skip _ ?_)
                              · trivial
                        · skip
                          by_cases hB0 : 0 ≤ a2.getD i 0
                          · skip
                            have hmo := hA.mono hB (by omega) hi hB0
                            apply c_drawn [] [0, 1, 2, 3, 4, 5, 6, 7, 8, 9, 10, 11, 12, 13, 14, 15, 16, 17, 18, 19, 20, 21, 22, 23, 24, 25, 26, 27, 28, 29, 30, 31, 32, 33, 34, 35, 36, 37, 38, 39, 40, 41, 42, 43] [] [] [] [(_, vq _), (_, vq _), (_, vq _), (_, vq _), (_, vq _), (_, vq _), (_, vq _), (_, vq _), (_, vq _), (_, vq _), (_, vq _), (_, vq _), (_, vq _), (_, vq _), (_, vq _), (_, vq _), (_, vq _), (_, vq _), (_, vq _), (_, vq _), (_, vq _), (_, vq _), (_, vq _), (_, vq _), (_, vq _), (_, vq _), (_, vq _), (_, vq _), (_, vq _), (_, vq _), (_, vq _), (_, vq _), (_, vq _), (_, vq _), (_, vq _), (_, vq _), (_, vq _), (_, vq _), (_, vq _), (_, vq _), (_, vq _), (_, vq _), (_, vq _), (_, vq _)] s20 Ty.follows (by kernel_rfl) (fun _ _ _ h => h.2) rfl rfl rfl (by decide) ?_
                            show WP _ _ _ _ _
                            refine p_end ?_
                            refine d_val (y_mv rfl (ev_of rfl)) rfl rfl (l' := [_,_,_,_,_,_,_,_,_,_,_,_,_,_,_,_,_,_,_,_,_,_,_,_,_,_,_,_,_,_,_,_,_,_,_,_,_,_,_,_,_,_,_,_,_,_,_,_,_,_,_,_,_,_,_,_,_,_,_,_,_,_,_,_,_,_,_,_,_,_,_,_,_,_,_,_,_,_,_,_,_,_,_,_,_,_,_,_,_,_,_,_,_,_,_,_,_,_,_,_,_,_,_,_,_,_,_,_,_,_,_,_,_,_,_,_,_,_,_,_,_,_,_,_,_,_,_,_,_,_,_,_,_,_,_,_,_,_,_,_,_,_,_,_,_,_,_,_,_,_,_,_,_,_,_,_,_,_,_,_,_,_,_,_,_,_,_,_,_,_,_,_,_,_,_,_,_,_,_,_,_,_,_,_,_,_,_,_,_,_]) rfl ?_
                            refine d_val (y_mv rfl (ev_of rfl)) rfl rfl (l' := _) rfl ?_
                            refine d_val (y_idx rfl Ty.elem22 Ty.size2 (ev_of rfl) (ev_of rfl) (by repeat first | assumption | with_reducible exact ent_blk | exact Ent.here arr_reads | exact Ent.here one_I64 | exact Ent.here one_Cell | exact Ent.here one_Bool | exact Ent.here one_Rect | refine Ent.there ?_) (by first | rfl | exact (Int.toNat_of_nonneg (by omega)).symm) (by omega)) rfl rfl (l' := _) rfl ?_
                            refine d_val (y_ldI rfl Ty.some2 Ty.agg2 (ev_of rfl) (by repeat first | assumption | with_reducible exact ent_blk | exact Ent.here arr_reads | exact Ent.here one_I64 | exact Ent.here one_Cell | exact Ent.here one_Bool | exact Ent.here one_Rect | refine Ent.there ?_) (by omega)) rfl rfl (l' := _) rfl ?_
                            refine d_val (y_lss rfl (ev_of rfl) (ev_of rfl)) rfl rfl (l' := [_,_,_,_,_,_,_,_,_,_,_,_,_,_,_,_,_,_,_,_,_,_,_,_,_,_,_,_,_,_,_,_,_,_,_,_,_,_,_,_,_,_,_,_,_,_,_,_,_,_,_,_,_,_,_,_,_,_,_,_,_,_,_,_,_,_,_,_,_,_,_,_,_,_,_,_,_,_,_,_,_,_,_,_,_,_,_,_,_,_,_,_,_,_,_,_,_,_,_,_,_,_,_,_,_,_,_,_,_,_,_,_,_,_,_,_,_,_,_,_,_,_,_,_,_,_,_,_,_,_,_,_,_,_,_,_,_,_,_,_,_,_,_,_,_,_,_,_,_,_,_,_,_,_,_,_,_,_,_,_,_,_,_,_,_,_,_,_,_,_,_,_,_,_,_,_,_,_,_,_,_,_,_,_,_,_,_,_,_,_]) rfl ?_
                            refine d_val (y_mv rfl (ev_of rfl)) rfl rfl (l' := _) rfl ?_
                            refine d_known (t := 88) (b := false) rfl (decide_eq_false (by omega)) ?_
                            refine nlD (l' := _) rfl ?_
                            refine d_skip (wanted_of rfl rfl rfl rfl rfl) rfl (l' := _) rfl ?_
                            refine d_skip (wanted_of rfl rfl rfl rfl rfl) rfl (l' := [_,_,_,_,_,_,_,_,_,_,_,_,_,_,_,_,_,_,_,_,_,_,_,_,_,_,_,_,_,_,_,_,_,_,_,_,_,_,_,_,_,_,_,_,_,_,_,_,_,_,_,_,_,_,_,_,_,_,_,_,_,_,_,_,_,_,_,_,_,_,_,_,_,_,_,_,_,_,_,_,_,_,_,_,_,_,_,_,_,_,_,_,_,_,_,_,_,_,_,_,_,_,_,_,_,_,_,_,_,_,_,_,_,_,_,_,_,_,_,_,_,_,_,_,_,_,_,_,_,_,_,_,_,_,_,_,_,_,_,_,_,_,_,_,_,_,_,_,_,_,_,_,_,_,_,_,_,_,_,_,_,_,_,_,_,_,_,_,_,_,_,_,_,_,_,_,_,_,_,_,_,_,_,_,_,_,_,_,_,_]) rfl ?_
                            refine d_skip (wanted_of rfl rfl rfl rfl rfl) rfl (l' := _) rfl ?_
                            refine d_skip (wanted_of rfl rfl rfl rfl rfl) rfl (l' := _) rfl ?_
                            refine d_skip (wanted_of rfl rfl rfl rfl rfl) rfl (l' := _) rfl ?_
                            refine d_val (y_pick0 rfl (ev_of rfl) (ev_of rfl)) rfl rfl (l' := [_,_,_,_,_,_,_,_,_,_,_,_,_,_,_,_,_,_,_,_,_,_,_,_,_,_,_,_,_,_,_,_,_,_,_,_,_,_,_,_,_,_,_,_,_,_,_,_,_,_,_,_,_,_,_,_,_,_,_,_,_,_,_,_,_,_,_,_,_,_,_,_,_,_,_,_,_,_,_,_,_,_,_,_,_,_,_,_,_,_,_,_,_,_,_,_,_,_,_,_,_,_,_,_,_,_,_,_,_,_,_,_,_,_,_,_,_,_,_,_,_,_,_,_,_,_,_,_,_,_,_,_,_,_,_,_,_,_,_,_,_,_,_,_,_,_,_,_,_,_,_,_,_,_,_,_,_,_,_,_,_,_,_,_,_,_,_,_,_,_,_,_,_,_,_,_,_,_,_,_,_,_,_,_,_,_,_,_,_,_]) rfl ?_
                            refine d_val (y_mv rfl (ev_of rfl)) rfl rfl (l' := _) rfl ?_
                            refine d_gval (y_mv rfl (ev_of rfl)) (wanted_of rfl rfl rfl rfl rfl) rfl (l' := _) rfl ?_
                            refine d_gval (y_mv rfl (ev_of rfl)) (wanted_of rfl rfl rfl rfl rfl) rfl (l' := _) rfl ?_
                            refine d_gval (y_idx rfl Ty.elem22 Ty.size2 (ev_of rfl) (ev_of rfl) (by repeat first | assumption | with_reducible exact ent_blk | exact Ent.here arr_reads | exact Ent.here one_I64 | exact Ent.here one_Cell | exact Ent.here one_Bool | exact Ent.here one_Rect | refine Ent.there ?_) (by first | rfl | exact (Int.toNat_of_nonneg (by omega)).symm) (by omega)) (wanted_of rfl rfl rfl rfl rfl) rfl (l' := [_,_,_,_,_,_,_,_,_,_,_,_,_,_,_,_,_,_,_,_,_,_,_,_,_,_,_,_,_,_,_,_,_,_,_,_,_,_,_,_,_,_,_,_,_,_,_,_,_,_,_,_,_,_,_,_,_,_,_,_,_,_,_,_,_,_,_,_,_,_,_,_,_,_,_,_,_,_,_,_,_,_,_,_,_,_,_,_,_,_,_,_,_,_,_,_,_,_,_,_,_,_,_,_,_,_,_,_,_,_,_,_,_,_,_,_,_,_,_,_,_,_,_,_,_,_,_,_,_,_,_,_,_,_,_,_,_,_,_,_,_,_,_,_,_,_,_,_,_,_,_,_,_,_,_,_,_,_,_,_,_,_,_,_,_,_,_,_,_,_,_,_,_,_,_,_,_,_,_,_,_,_,_,_,_,_,_,_,_,_]) rfl ?_
                            refine d_gval (y_ldI rfl Ty.some2 Ty.agg2 (ev_of rfl) (by repeat first | assumption | with_reducible exact ent_blk | exact Ent.here arr_reads | exact Ent.here one_I64 | exact Ent.here one_Cell | exact Ent.here one_Bool | exact Ent.here one_Rect | refine Ent.there ?_) (by omega)) (wanted_of rfl rfl rfl rfl rfl) rfl (l' := _) rfl ?_
                            refine d_gval (y_geq rfl (ev_of rfl) (ev_of rfl)) (wanted_of rfl rfl rfl rfl rfl) rfl (l' := _) rfl ?_
                            refine d_gval (y_mv rfl (ev_of rfl)) (wanted_of rfl rfl rfl rfl rfl) rfl (l' := _) rfl ?_
                            refine d_known (t := 101) (b := true) rfl (decide_eq_true (by omega)) ?_
                            refine nlD (l' := [_,_,_,_,_,_,_,_,_,_,_,_,_,_,_,_,_,_,_,_,_,_,_,_,_,_,_,_,_,_,_,_,_,_,_,_,_,_,_,_,_,_,_,_,_,_,_,_,_,_,_,_,_,_,_,_,_,_,_,_,_,_,_,_,_,_,_,_,_,_,_,_,_,_,_,_,_,_,_,_,_,_,_,_,_,_,_,_,_,_,_,_,_,_,_,_,_,_,_,_,_,_,_,_,_,_,_,_,_,_,_,_,_,_,_,_,_,_,_,_,_,_,_,_,_,_,_,_,_,_,_,_,_,_,_,_,_,_,_,_,_,_,_,_,_,_,_,_,_,_,_,_,_,_,_,_,_,_,_,_,_,_,_,_,_,_,_,_,_,_,_,_,_,_,_,_,_,_,_,_,_,_,_,_,_,_,_,_,_,_]) rfl ?_
                            refine d_gval (y_mv rfl (ev_of rfl)) (wanted_of rfl rfl rfl rfl rfl) rfl (l' := _) rfl ?_
                            refine d_gval (y_mv rfl (ev_of rfl)) (wanted_of rfl rfl rfl rfl rfl) rfl (l' := _) rfl ?_
                            refine d_gval (y_idx rfl Ty.elem22 Ty.size2 (ev_of rfl) (ev_of rfl) (by repeat first | assumption | with_reducible exact ent_blk | exact Ent.here arr_reads | exact Ent.here one_I64 | exact Ent.here one_Cell | exact Ent.here one_Bool | exact Ent.here one_Rect | refine Ent.there ?_) (by first | rfl | exact (Int.toNat_of_nonneg (by omega)).symm) (by omega)) (wanted_of rfl rfl rfl rfl rfl) rfl (l' := _) rfl ?_
                            refine d_gval (y_ldI rfl Ty.some2 Ty.agg2 (ev_of rfl) (by repeat first | assumption | with_reducible exact ent_blk | exact Ent.here arr_reads | exact Ent.here one_I64 | exact Ent.here one_Cell | exact Ent.here one_Bool | exact Ent.here one_Rect | refine Ent.there ?_) (by omega)) (wanted_of rfl rfl rfl rfl rfl) rfl (l' := [_,_,_,_,_,_,_,_,_,_,_,_,_,_,_,_,_,_,_,_,_,_,_,_,_,_,_,_,_,_,_,_,_,_,_,_,_,_,_,_,_,_,_,_,_,_,_,_,_,_,_,_,_,_,_,_,_,_,_,_,_,_,_,_,_,_,_,_,_,_,_,_,_,_,_,_,_,_,_,_,_,_,_,_,_,_,_,_,_,_,_,_,_,_,_,_,_,_,_,_,_,_,_,_,_,_,_,_,_,_,_,_,_,_,_,_,_,_,_,_,_,_,_,_,_,_,_,_,_,_,_,_,_,_,_,_,_,_,_,_,_,_,_,_,_,_,_,_,_,_,_,_,_,_,_,_,_,_,_,_,_,_,_,_,_,_,_,_,_,_,_,_,_,_,_,_,_,_,_,_,_,_,_,_,_,_,_,_,_,_]) rfl ?_
                            refine d_gval (y_mv rfl (ev_of rfl)) (wanted_of rfl rfl rfl rfl rfl) rfl (l' := _) rfl ?_
                            refine d_gval (y_mv rfl (ev_of rfl)) (wanted_of rfl rfl rfl rfl rfl) rfl (l' := _) rfl ?_
                            refine d_gval (y_idx rfl Ty.elem22 Ty.size2 (ev_of rfl) (ev_of rfl) (by repeat first | assumption | with_reducible exact ent_blk | exact Ent.here arr_reads | exact Ent.here one_I64 | exact Ent.here one_Cell | exact Ent.here one_Bool | exact Ent.here one_Rect | refine Ent.there ?_) (by first | rfl | exact (Int.toNat_of_nonneg (by omega)).symm) (by omega)) (wanted_of rfl rfl rfl rfl rfl) rfl (l' := _) rfl ?_
                            refine d_gval (y_ldI rfl Ty.some2 Ty.agg2 (ev_of rfl) (by repeat first | assumption | with_reducible exact ent_blk | exact Ent.here arr_reads | exact Ent.here one_I64 | exact Ent.here one_Cell | exact Ent.here one_Bool | exact Ent.here one_Rect | refine Ent.there ?_) (by omega)) (wanted_of rfl rfl rfl rfl rfl) rfl (l' := [_,_,_,_,_,_,_,_,_,_,_,_,_,_,_,_,_,_,_,_,_,_,_,_,_,_,_,_,_,_,_,_,_,_,_,_,_,_,_,_,_,_,_,_,_,_,_,_,_,_,_,_,_,_,_,_,_,_,_,_,_,_,_,_,_,_,_,_,_,_,_,_,_,_,_,_,_,_,_,_,_,_,_,_,_,_,_,_,_,_,_,_,_,_,_,_,_,_,_,_,_,_,_,_,_,_,_,_,_,_,_,_,_,_,_,_,_,_,_,_,_,_,_,_,_,_,_,_,_,_,_,_,_,_,_,_,_,_,_,_,_,_,_,_,_,_,_,_,_,_,_,_,_,_,_,_,_,_,_,_,_,_,_,_,_,_,_,_,_,_,_,_,_,_,_,_,_,_,_,_,_,_,_,_,_,_,_,_,_,_]) rfl ?_
                            refine d_gval (y_lss rfl (ev_of rfl) (ev_of rfl)) (wanted_of rfl rfl rfl rfl rfl) rfl (l' := _) rfl ?_
                            refine d_gval (y_pick1 rfl (ev_of rfl) (ev_of rfl)) (wanted_of rfl rfl rfl rfl rfl) rfl (l' := _) rfl ?_
                            refine d_val (y_pick0 rfl (ev_of rfl) (ev_of rfl)) rfl rfl (l' := _) rfl ?_
                            refine d_val (y_mv rfl (ev_of rfl)) rfl rfl (l' := [_,_,_,_,_,_,_,_,_,_,_,_,_,_,_,_,_,_,_,_,_,_,_,_,_,_,_,_,_,_,_,_,_,_,_,_,_,_,_,_,_,_,_,_,_,_,_,_,_,_,_,_,_,_,_,_,_,_,_,_,_,_,_,_,_,_,_,_,_,_,_,_,_,_,_,_,_,_,_,_,_,_,_,_,_,_,_,_,_,_,_,_,_,_,_,_,_,_,_,_,_,_,_,_,_,_,_,_,_,_,_,_,_,_,_,_,_,_,_,_,_,_,_,_,_,_,_,_,_,_,_,_,_,_,_,_,_,_,_,_,_,_,_,_,_,_,_,_,_,_,_,_,_,_,_,_,_,_,_,_,_,_,_,_,_,_,_,_,_,_,_,_,_,_,_,_,_,_,_,_,_,_,_,_,_,_,_,_,_,_]) rfl ?_
                            refine d_known (t := 113) (b := false) rfl (decide_eq_false (by omega)) ?_
                            refine nlD (l' := _) rfl ?_
                            refine d_gval (y_mv rfl (ev_of rfl)) (wanted_of rfl rfl rfl rfl rfl) rfl (l' := _) rfl ?_
                            refine d_gval (y_mv rfl (ev_of rfl)) (wanted_of rfl rfl rfl rfl rfl) rfl (l' := _) rfl ?_
                            refine d_gval (y_idx rfl Ty.elem22 Ty.size2 (ev_of rfl) (ev_of rfl) (by repeat first | assumption | with_reducible exact ent_blk | exact Ent.here arr_reads | exact Ent.here one_I64 | exact Ent.here one_Cell | exact Ent.here one_Bool | exact Ent.here one_Rect | refine Ent.there ?_) (by first | rfl | exact (Int.toNat_of_nonneg (by omega)).symm) (by omega)) (wanted_of rfl rfl rfl rfl rfl) rfl (l' := [_,_,_,_,_,_,_,_,_,_,_,_,_,_,_,_,_,_,_,_,_,_,_,_,_,_,_,_,_,_,_,_,_,_,_,_,_,_,_,_,_,_,_,_,_,_,_,_,_,_,_,_,_,_,_,_,_,_,_,_,_,_,_,_,_,_,_,_,_,_,_,_,_,_,_,_,_,_,_,_,_,_,_,_,_,_,_,_,_,_,_,_,_,_,_,_,_,_,_,_,_,_,_,_,_,_,_,_,_,_,_,_,_,_,_,_,_,_,_,_,_,_,_,_,_,_,_,_,_,_,_,_,_,_,_,_,_,_,_,_,_,_,_,_,_,_,_,_,_,_,_,_,_,_,_,_,_,_,_,_,_,_,_,_,_,_,_,_,_,_,_,_,_,_,_,_,_,_,_,_,_,_,_,_,_,_,_,_,_,_]) rfl ?_
                            refine d_gval (y_ldI rfl Ty.some2 Ty.agg2 (ev_of rfl) (by repeat first | assumption | with_reducible exact ent_blk | exact Ent.here arr_reads | exact Ent.here one_I64 | exact Ent.here one_Cell | exact Ent.here one_Bool | exact Ent.here one_Rect | refine Ent.there ?_) (by omega)) (wanted_of rfl rfl rfl rfl rfl) rfl (l' := _) rfl ?_
                            refine d_gval (y_eql rfl (ev_of rfl) (ev_of rfl)) (wanted_of rfl rfl rfl rfl rfl) rfl (l' := _) rfl ?_
                            refine d_gval (y_mv rfl (ev_of rfl)) (wanted_of rfl rfl rfl rfl rfl) rfl (l' := _) rfl ?_
                            refine d_gval (y_mv rfl (ev_of rfl)) (wanted_of rfl rfl rfl rfl rfl) rfl (l' := [_,_,_,_,_,_,_,_,_,_,_,_,_,_,_,_,_,_,_,_,_,_,_,_,_,_,_,_,_,_,_,_,_,_,_,_,_,_,_,_,_,_,_,_,_,_,_,_,_,_,_,_,_,_,_,_,_,_,_,_,_,_,_,_,_,_,_,_,_,_,_,_,_,_,_,_,_,_,_,_,_,_,_,_,_,_,_,_,_,_,_,_,_,_,_,_,_,_,_,_,_,_,_,_,_,_,_,_,_,_,_,_,_,_,_,_,_,_,_,_,_,_,_,_,_,_,_,_,_,_,_,_,_,_,_,_,_,_,_,_,_,_,_,_,_,_,_,_,_,_,_,_,_,_,_,_,_,_,_,_,_,_,_,_,_,_,_,_,_,_,_,_,_,_,_,_,_,_,_,_,_,_,_,_,_,_,_,_,_,_]) rfl ?_
                            refine d_gval (y_idx rfl Ty.elem22 Ty.size2 (ev_of rfl) (ev_of rfl) (by repeat first | assumption | with_reducible exact ent_blk | exact Ent.here arr_reads | exact Ent.here one_I64 | exact Ent.here one_Cell | exact Ent.here one_Bool | exact Ent.here one_Rect | refine Ent.there ?_) (by first | rfl | exact (Int.toNat_of_nonneg (by omega)).symm) (by omega)) (wanted_of rfl rfl rfl rfl rfl) rfl (l' := _) rfl ?_
                            refine d_gval (y_ldI rfl Ty.some2 Ty.agg2 (ev_of rfl) (by repeat first | assumption | with_reducible exact ent_blk | exact Ent.here arr_reads | exact Ent.here one_I64 | exact Ent.here one_Cell | exact Ent.here one_Bool | exact Ent.here one_Rect | refine Ent.there ?_) (by omega)) (wanted_of rfl rfl rfl rfl rfl) rfl (l' := _) rfl ?_
                            refine d_gval (y_mv rfl (ev_of rfl)) (wanted_of rfl rfl rfl rfl rfl) rfl (l' := _) rfl ?_
                            refine d_gval (y_geq rfl (ev_of rfl) (ev_of rfl)) (wanted_of rfl rfl rfl rfl rfl) rfl (l' := [_,_,_,_,_,_,_,_,_,_,_,_,_,_,_,_,_,_,_,_,_,_,_,_,_,_,_,_,_,_,_,_,_,_,_,_,_,_,_,_,_,_,_,_,_,_,_,_,_,_,_,_,_,_,_,_,_,_,_,_,_,_,_,_,_,_,_,_,_,_,_,_,_,_,_,_,_,_,_,_,_,_,_,_,_,_,_,_,_,_,_,_,_,_,_,_,_,_,_,_,_,_,_,_,_,_,_,_,_,_,_,_,_,_,_,_,_,_,_,_,_,_,_,_,_,_,_,_,_,_,_,_,_,_,_,_,_,_,_,_,_,_,_,_,_,_,_,_,_,_,_,_,_,_,_,_,_,_,_,_,_,_,_,_,_,_,_,_,_,_,_,_,_,_,_,_,_,_,_,_,_,_,_,_,_,_,_,_,_,_]) rfl ?_
                            refine d_gval (y_bneq rfl (ev_of rfl) (ev_of rfl) Ty.isbool4) (wanted_of rfl rfl rfl rfl rfl) rfl (l' := _) rfl ?_
                            refine d_val (y_pick0 rfl (ev_of rfl) (ev_of rfl)) rfl rfl (l' := _) rfl ?_
                            refine d_end (fun w27 s26 => ?_)
                            clear s20
                            simp only [List.append_nil, List.cons_append, List.nil_append] at s26
                            refine l_end ?_
                            refine x_thenN ?_
                            refine c_if rfl (fun hc5 => ?_) (fun hc5 => ?_)
                            · (try simp only [decide_eq_true_eq, decide_eq_false_iff_not, Bool.not_eq_true', Bool.not_eq_false'] at hc5)
                              exfalso; have e5 : decide (a1.getD i 0 = 0) = decide (v.getD i 0 ≥ t) := decide_eq_decide.2 A0.out; rw [e5] at hc5; simp at hc5
                            · (try simp only [decide_eq_true_eq, decide_eq_false_iff_not, Bool.not_eq_true', Bool.not_eq_false'] at hc5)
                              refine c_skip ?_
                              refine x_thenN ?_
                              refine ⟨[_, _, _, _, _, _, _, _, _, _, _, _, _, _, _, _, _, _, _, _, _, _, _, _, _, _, _, _, _, _, _, _, _, _, _, _, _, _, _, _, _, _, _, _, _], rfl, [_, _, _, _, _, _, _, _, _, _, _, _, _, _, _, _, _, _, _, _, _, _, _, _, _, _, _, _, _, _, _, _, _, _, _, _, _, _, _, _, _, _, _, _, _], rfl, ?_, ?_⟩
                              · first | exact s26 | exact s26.sub (by repeat first | with_reducible exact Sub.refl _ | exact Sub.nil _ | refine Sub.take (by repeat first | with_reducible exact Take.here _ _ | apply Take.there) ?_ | refine Sub.skip _ ?_)
                              · trivial
                          · skip
                            apply c_drawn [] [0, 1, 2, 3, 4, 5, 6, 7, 8, 9, 10, 11, 12, 13, 14, 15, 16, 17, 18, 19, 20, 21, 22, 23, 24, 25, 26, 27, 28, 29, 30, 31, 32, 33, 34, 35, 36, 37, 38, 39, 40, 41, 42, 43] [] [] [] [(_, vq _), (_, vq _), (_, vq _), (_, vq _), (_, vq _), (_, vq _), (_, vq _), (_, vq _), (_, vq _), (_, vq _), (_, vq _), (_, vq _), (_, vq _), (_, vq _), (_, vq _), (_, vq _), (_, vq _), (_, vq _), (_, vq _), (_, vq _), (_, vq _), (_, vq _), (_, vq _), (_, vq _), (_, vq _), (_, vq _), (_, vq _), (_, vq _), (_, vq _), (_, vq _), (_, vq _), (_, vq _), (_, vq _), (_, vq _), (_, vq _), (_, vq _), (_, vq _), (_, vq _), (_, vq _), (_, vq _), (_, vq _), (_, vq _), (_, vq _), (_, vq _)] s20 Ty.follows (by kernel_rfl) (fun _ _ _ h => h.2) rfl rfl rfl (by decide) ?_
                            show WP _ _ _ _ _
                            refine p_end ?_
                            refine d_val (y_mv rfl (ev_of rfl)) rfl rfl (l' := _) rfl ?_
                            refine d_val (y_mv rfl (ev_of rfl)) rfl rfl (l' := [_,_,_,_,_,_,_,_,_,_,_,_,_,_,_,_,_,_,_,_,_,_,_,_,_,_,_,_,_,_,_,_,_,_,_,_,_,_,_,_,_,_,_,_,_,_,_,_,_,_,_,_,_,_,_,_,_,_,_,_,_,_,_,_,_,_,_,_,_,_,_,_,_,_,_,_,_,_,_,_,_,_,_,_,_,_,_,_,_,_,_,_,_,_,_,_,_,_,_,_,_,_,_,_,_,_,_,_,_,_,_,_,_,_,_,_,_,_,_,_,_,_,_,_,_,_,_,_,_,_,_,_,_,_,_,_,_,_,_,_,_,_,_,_,_,_,_,_,_,_,_,_,_,_,_,_,_,_,_,_,_,_,_,_,_,_,_,_,_,_,_,_,_,_,_,_,_,_,_,_,_,_,_,_,_,_,_,_,_,_]) rfl ?_
                            refine d_val (y_idx rfl Ty.elem22 Ty.size2 (ev_of rfl) (ev_of rfl) (by repeat first | assumption | with_reducible exact ent_blk | exact Ent.here arr_reads | exact Ent.here one_I64 | exact Ent.here one_Cell | exact Ent.here one_Bool | exact Ent.here one_Rect | refine Ent.there ?_) (by first | rfl | exact (Int.toNat_of_nonneg (by omega)).symm) (by omega)) rfl rfl (l' := _) rfl ?_
                            refine d_val (y_ldI rfl Ty.some2 Ty.agg2 (ev_of rfl) (by repeat first | assumption | with_reducible exact ent_blk | exact Ent.here arr_reads | exact Ent.here one_I64 | exact Ent.here one_Cell | exact Ent.here one_Bool | exact Ent.here one_Rect | refine Ent.there ?_) (by omega)) rfl rfl (l' := _) rfl ?_
                            refine d_val (y_lss rfl (ev_of rfl) (ev_of rfl)) rfl rfl (l' := _) rfl ?_
                            refine d_val (y_mv rfl (ev_of rfl)) rfl rfl (l' := [_,_,_,_,_,_,_,_,_,_,_,_,_,_,_,_,_,_,_,_,_,_,_,_,_,_,_,_,_,_,_,_,_,_,_,_,_,_,_,_,_,_,_,_,_,_,_,_,_,_,_,_,_,_,_,_,_,_,_,_,_,_,_,_,_,_,_,_,_,_,_,_,_,_,_,_,_,_,_,_,_,_,_,_,_,_,_,_,_,_,_,_,_,_,_,_,_,_,_,_,_,_,_,_,_,_,_,_,_,_,_,_,_,_,_,_,_,_,_,_,_,_,_,_,_,_,_,_,_,_,_,_,_,_,_,_,_,_,_,_,_,_,_,_,_,_,_,_,_,_,_,_,_,_,_,_,_,_,_,_,_,_,_,_,_,_,_,_,_,_,_,_,_,_,_,_,_,_,_,_,_,_,_,_,_,_,_,_,_,_]) rfl ?_
                            refine d_known (t := 88) (b := false) rfl (decide_eq_false (by omega)) ?_
                            refine nlD (l' := _) rfl ?_
                            refine d_skip (wanted_of rfl rfl rfl rfl rfl) rfl (l' := _) rfl ?_
                            refine d_skip (wanted_of rfl rfl rfl rfl rfl) rfl (l' := _) rfl ?_
                            refine d_skip (wanted_of rfl rfl rfl rfl rfl) rfl (l' := [_,_,_,_,_,_,_,_,_,_,_,_,_,_,_,_,_,_,_,_,_,_,_,_,_,_,_,_,_,_,_,_,_,_,_,_,_,_,_,_,_,_,_,_,_,_,_,_,_,_,_,_,_,_,_,_,_,_,_,_,_,_,_,_,_,_,_,_,_,_,_,_,_,_,_,_,_,_,_,_,_,_,_,_,_,_,_,_,_,_,_,_,_,_,_,_,_,_,_,_,_,_,_,_,_,_,_,_,_,_,_,_,_,_,_,_,_,_,_,_,_,_,_,_,_,_,_,_,_,_,_,_,_,_,_,_,_,_,_,_,_,_,_,_,_,_,_,_,_,_,_,_,_,_,_,_,_,_,_,_,_,_,_,_,_,_,_,_,_,_,_,_,_,_,_,_,_,_,_,_,_,_,_,_,_,_,_,_,_,_]) rfl ?_
                            refine d_skip (wanted_of rfl rfl rfl rfl rfl) rfl (l' := _) rfl ?_
                            refine d_skip (wanted_of rfl rfl rfl rfl rfl) rfl (l' := _) rfl ?_
                            refine d_val (y_pick0 rfl (ev_of rfl) (ev_of rfl)) rfl rfl (l' := _) rfl ?_
                            refine d_val (y_mv rfl (ev_of rfl)) rfl rfl (l' := [_,_,_,_,_,_,_,_,_,_,_,_,_,_,_,_,_,_,_,_,_,_,_,_,_,_,_,_,_,_,_,_,_,_,_,_,_,_,_,_,_,_,_,_,_,_,_,_,_,_,_,_,_,_,_,_,_,_,_,_,_,_,_,_,_,_,_,_,_,_,_,_,_,_,_,_,_,_,_,_,_,_,_,_,_,_,_,_,_,_,_,_,_,_,_,_,_,_,_,_,_,_,_,_,_,_,_,_,_,_,_,_,_,_,_,_,_,_,_,_,_,_,_,_,_,_,_,_,_,_,_,_,_,_,_,_,_,_,_,_,_,_,_,_,_,_,_,_,_,_,_,_,_,_,_,_,_,_,_,_,_,_,_,_,_,_,_,_,_,_,_,_,_,_,_,_,_,_,_,_,_,_,_,_,_,_,_,_,_,_]) rfl ?_
                            refine d_gval (y_mv rfl (ev_of rfl)) (wanted_of rfl rfl rfl rfl rfl) rfl (l' := _) rfl ?_
                            refine d_gval (y_mv rfl (ev_of rfl)) (wanted_of rfl rfl rfl rfl rfl) rfl (l' := _) rfl ?_
                            refine d_gval (y_idx rfl Ty.elem22 Ty.size2 (ev_of rfl) (ev_of rfl) (by repeat first | assumption | with_reducible exact ent_blk | exact Ent.here arr_reads | exact Ent.here one_I64 | exact Ent.here one_Cell | exact Ent.here one_Bool | exact Ent.here one_Rect | refine Ent.there ?_) (by first | rfl | exact (Int.toNat_of_nonneg (by omega)).symm) (by omega)) (wanted_of rfl rfl rfl rfl rfl) rfl (l' := _) rfl ?_
                            refine d_gval (y_ldI rfl Ty.some2 Ty.agg2 (ev_of rfl) (by repeat first | assumption | with_reducible exact ent_blk | exact Ent.here arr_reads | exact Ent.here one_I64 | exact Ent.here one_Cell | exact Ent.here one_Bool | exact Ent.here one_Rect | refine Ent.there ?_) (by omega)) (wanted_of rfl rfl rfl rfl rfl) rfl (l' := [_,_,_,_,_,_,_,_,_,_,_,_,_,_,_,_,_,_,_,_,_,_,_,_,_,_,_,_,_,_,_,_,_,_,_,_,_,_,_,_,_,_,_,_,_,_,_,_,_,_,_,_,_,_,_,_,_,_,_,_,_,_,_,_,_,_,_,_,_,_,_,_,_,_,_,_,_,_,_,_,_,_,_,_,_,_,_,_,_,_,_,_,_,_,_,_,_,_,_,_,_,_,_,_,_,_,_,_,_,_,_,_,_,_,_,_,_,_,_,_,_,_,_,_,_,_,_,_,_,_,_,_,_,_,_,_,_,_,_,_,_,_,_,_,_,_,_,_,_,_,_,_,_,_,_,_,_,_,_,_,_,_,_,_,_,_,_,_,_,_,_,_,_,_,_,_,_,_,_,_,_,_,_,_,_,_,_,_,_,_]) rfl ?_
                            refine d_gval (y_geq rfl (ev_of rfl) (ev_of rfl)) (wanted_of rfl rfl rfl rfl rfl) rfl (l' := _) rfl ?_
                            refine d_gval (y_mv rfl (ev_of rfl)) (wanted_of rfl rfl rfl rfl rfl) rfl (l' := _) rfl ?_
                            refine d_known (t := 101) (b := false) rfl (decide_eq_false (by omega)) ?_
                            refine nlD (l' := _) rfl ?_
                            refine d_skip (wanted_of rfl rfl rfl rfl rfl) rfl (l' := [_,_,_,_,_,_,_,_,_,_,_,_,_,_,_,_,_,_,_,_,_,_,_,_,_,_,_,_,_,_,_,_,_,_,_,_,_,_,_,_,_,_,_,_,_,_,_,_,_,_,_,_,_,_,_,_,_,_,_,_,_,_,_,_,_,_,_,_,_,_,_,_,_,_,_,_,_,_,_,_,_,_,_,_,_,_,_,_,_,_,_,_,_,_,_,_,_,_,_,_,_,_,_,_,_,_,_,_,_,_,_,_,_,_,_,_,_,_,_,_,_,_,_,_,_,_,_,_,_,_,_,_,_,_,_,_,_,_,_,_,_,_,_,_,_,_,_,_,_,_,_,_,_,_,_,_,_,_,_,_,_,_,_,_,_,_,_,_,_,_,_,_,_,_,_,_,_,_,_,_,_,_,_,_,_,_,_,_,_,_]) rfl ?_
                            refine d_skip (wanted_of rfl rfl rfl rfl rfl) rfl (l' := _) rfl ?_
                            refine d_skip (wanted_of rfl rfl rfl rfl rfl) rfl (l' := _) rfl ?_
                            refine d_skip (wanted_of rfl rfl rfl rfl rfl) rfl (l' := _) rfl ?_
                            refine d_skip (wanted_of rfl rfl rfl rfl rfl) rfl (l' := [_,_,_,_,_,_,_,_,_,_,_,_,_,_,_,_,_,_,_,_,_,_,_,_,_,_,_,_,_,_,_,_,_,_,_,_,_,_,_,_,_,_,_,_,_,_,_,_,_,_,_,_,_,_,_,_,_,_,_,_,_,_,_,_,_,_,_,_,_,_,_,_,_,_,_,_,_,_,_,_,_,_,_,_,_,_,_,_,_,_,_,_,_,_,_,_,_,_,_,_,_,_,_,_,_,_,_,_,_,_,_,_,_,_,_,_,_,_,_,_,_,_,_,_,_,_,_,_,_,_,_,_,_,_,_,_,_,_,_,_,_,_,_,_,_,_,_,_,_,_,_,_,_,_,_,_,_,_,_,_,_,_,_,_,_,_,_,_,_,_,_,_,_,_,_,_,_,_,_,_,_,_,_,_,_,_,_,_,_,_]) rfl ?_
                            refine d_skip (wanted_of rfl rfl rfl rfl rfl) rfl (l' := _) rfl ?_
                            refine d_skip (wanted_of rfl rfl rfl rfl rfl) rfl (l' := _) rfl ?_
                            refine d_skip (wanted_of rfl rfl rfl rfl rfl) rfl (l' := _) rfl ?_
                            refine d_skip (wanted_of rfl rfl rfl rfl rfl) rfl (l' := [_,_,_,_,_,_,_,_,_,_,_,_,_,_,_,_,_,_,_,_,_,_,_,_,_,_,_,_,_,_,_,_,_,_,_,_,_,_,_,_,_,_,_,_,_,_,_,_,_,_,_,_,_,_,_,_,_,_,_,_,_,_,_,_,_,_,_,_,_,_,_,_,_,_,_,_,_,_,_,_,_,_,_,_,_,_,_,_,_,_,_,_,_,_,_,_,_,_,_,_,_,_,_,_,_,_,_,_,_,_,_,_,_,_,_,_,_,_,_,_,_,_,_,_,_,_,_,_,_,_,_,_,_,_,_,_,_,_,_,_,_,_,_,_,_,_,_,_,_,_,_,_,_,_,_,_,_,_,_,_,_,_,_,_,_,_,_,_,_,_,_,_,_,_,_,_,_,_,_,_,_,_,_,_,_,_,_,_,_,_]) rfl ?_
                            refine d_gval (y_pick0 rfl (ev_of rfl) (ev_of rfl)) (wanted_of rfl rfl rfl rfl rfl) rfl (l' := _) rfl ?_
                            refine d_val (y_pick0 rfl (ev_of rfl) (ev_of rfl)) rfl rfl (l' := _) rfl ?_
                            refine d_val (y_mv rfl (ev_of rfl)) rfl rfl (l' := _) rfl ?_
                            refine d_gval (y_mv rfl (ev_of rfl)) (wanted_of rfl rfl rfl rfl rfl) rfl (l' := [_,_,_,_,_,_,_,_,_,_,_,_,_,_,_,_,_,_,_,_,_,_,_,_,_,_,_,_,_,_,_,_,_,_,_,_,_,_,_,_,_,_,_,_,_,_,_,_,_,_,_,_,_,_,_,_,_,_,_,_,_,_,_,_,_,_,_,_,_,_,_,_,_,_,_,_,_,_,_,_,_,_,_,_,_,_,_,_,_,_,_,_,_,_,_,_,_,_,_,_,_,_,_,_,_,_,_,_,_,_,_,_,_,_,_,_,_,_,_,_,_,_,_,_,_,_,_,_,_,_,_,_,_,_,_,_,_,_,_,_,_,_,_,_,_,_,_,_,_,_,_,_,_,_,_,_,_,_,_,_,_,_,_,_,_,_,_,_,_,_,_,_,_,_,_,_,_,_,_,_,_,_,_,_,_,_,_,_,_,_]) rfl ?_
                            refine d_gval (y_mv rfl (ev_of rfl)) (wanted_of rfl rfl rfl rfl rfl) rfl (l' := _) rfl ?_
                            refine d_gval (y_idx rfl Ty.elem22 Ty.size2 (ev_of rfl) (ev_of rfl) (by repeat first | assumption | with_reducible exact ent_blk | exact Ent.here arr_reads | exact Ent.here one_I64 | exact Ent.here one_Cell | exact Ent.here one_Bool | exact Ent.here one_Rect | refine Ent.there ?_) (by first | rfl | exact (Int.toNat_of_nonneg (by omega)).symm) (by omega)) (wanted_of rfl rfl rfl rfl rfl) rfl (l' := _) rfl ?_
                            refine d_gval (y_ldI rfl Ty.some2 Ty.agg2 (ev_of rfl) (by repeat first | assumption | with_reducible exact ent_blk | exact Ent.here arr_reads | exact Ent.here one_I64 | exact Ent.here one_Cell | exact Ent.here one_Bool | exact Ent.here one_Rect | refine Ent.there ?_) (by omega)) (wanted_of rfl rfl rfl rfl rfl) rfl (l' := _) rfl ?_
                            refine d_gval (y_eql rfl (ev_of rfl) (ev_of rfl)) (wanted_of rfl rfl rfl rfl rfl) rfl (l' := [_,_,_,_,_,_,_,_,_,_,_,_,_,_,_,_,_,_,_,_,_,_,_,_,_,_,_,_,_,_,_,_,_,_,_,_,_,_,_,_,_,_,_,_,_,_,_,_,_,_,_,_,_,_,_,_,_,_,_,_,_,_,_,_,_,_,_,_,_,_,_,_,_,_,_,_,_,_,_,_,_,_,_,_,_,_,_,_,_,_,_,_,_,_,_,_,_,_,_,_,_,_,_,_,_,_,_,_,_,_,_,_,_,_,_,_,_,_,_,_,_,_,_,_,_,_,_,_,_,_,_,_,_,_,_,_,_,_,_,_,_,_,_,_,_,_,_,_,_,_,_,_,_,_,_,_,_,_,_,_,_,_,_,_,_,_,_,_,_,_,_,_,_,_,_,_,_,_,_,_,_,_,_,_,_,_,_,_,_,_]) rfl ?_
                            refine d_gval (y_mv rfl (ev_of rfl)) (wanted_of rfl rfl rfl rfl rfl) rfl (l' := _) rfl ?_
                            refine d_gval (y_mv rfl (ev_of rfl)) (wanted_of rfl rfl rfl rfl rfl) rfl (l' := _) rfl ?_
                            refine d_gval (y_idx rfl Ty.elem22 Ty.size2 (ev_of rfl) (ev_of rfl) (by repeat first | assumption | with_reducible exact ent_blk | exact Ent.here arr_reads | exact Ent.here one_I64 | exact Ent.here one_Cell | exact Ent.here one_Bool | exact Ent.here one_Rect | refine Ent.there ?_) (by first | rfl | exact (Int.toNat_of_nonneg (by omega)).symm) (by omega)) (wanted_of rfl rfl rfl rfl rfl) rfl (l' := _) rfl ?_
                            refine d_gval (y_ldI rfl Ty.some2 Ty.agg2 (ev_of rfl) (by repeat first | assumption | with_reducible exact ent_blk | exact Ent.here arr_reads | exact Ent.here one_I64 | exact Ent.here one_Cell | exact Ent.here one_Bool | exact Ent.here one_Rect | refine Ent.there ?_) (by omega)) (wanted_of rfl rfl rfl rfl rfl) rfl (l' := [_,_,_,_,_,_,_,_,_,_,_,_,_,_,_,_,_,_,_,_,_,_,_,_,_,_,_,_,_,_,_,_,_,_,_,_,_,_,_,_,_,_,_,_,_,_,_,_,_,_,_,_,_,_,_,_,_,_,_,_,_,_,_,_,_,_,_,_,_,_,_,_,_,_,_,_,_,_,_,_,_,_,_,_,_,_,_,_,_,_,_,_,_,_,_,_,_,_,_,_,_,_,_,_,_,_,_,_,_,_,_,_,_,_,_,_,_,_,_,_,_,_,_,_,_,_,_,_,_,_,_,_,_,_,_,_,_,_,_,_,_,_,_,_,_,_,_,_,_,_,_,_,_,_,_,_,_,_,_,_,_,_,_,_,_,_,_,_,_,_,_,_,_,_,_,_,_,_,_,_,_,_,_,_,_,_,_,_,_,_]) rfl ?_
                            refine d_gval (y_mv rfl (ev_of rfl)) (wanted_of rfl rfl rfl rfl rfl) rfl (l' := _) rfl ?_
                            refine d_gval (y_geq rfl (ev_of rfl) (ev_of rfl)) (wanted_of rfl rfl rfl rfl rfl) rfl (l' := _) rfl ?_
                            refine d_gval (y_bneq rfl (ev_of rfl) (ev_of rfl) Ty.isbool4) (wanted_of rfl rfl rfl rfl rfl) rfl (l' := _) rfl ?_
                            refine d_val (y_pick0 rfl (ev_of rfl) (ev_of rfl)) rfl rfl (l' := [_,_,_,_,_,_,_,_,_,_,_,_,_,_,_,_,_,_,_,_,_,_,_,_,_,_,_,_,_,_,_,_,_,_,_,_,_,_,_,_,_,_,_,_,_,_,_,_,_,_,_,_,_,_,_,_,_,_,_,_,_,_,_,_,_,_,_,_,_,_,_,_,_,_,_,_,_,_,_,_,_,_,_,_,_,_,_,_,_,_,_,_,_,_,_,_,_,_,_,_,_,_,_,_,_,_,_,_,_,_,_,_,_,_,_,_,_,_,_,_,_,_,_,_,_,_,_,_,_,_,_,_,_,_,_,_,_,_,_,_,_,_,_,_,_,_,_,_,_,_,_,_,_,_,_,_,_,_,_,_,_,_,_,_,_,_,_,_,_,_,_,_,_,_,_,_,_,_,_,_,_,_,_,_,_,_,_,_,_,_]) rfl ?_
                            refine d_end (fun w29 s28 => ?_)
                            clear s20
                            simp only [List.append_nil, List.cons_append, List.nil_append] at s28
                            refine l_end ?_
                            refine x_thenN ?_
                            refine c_if rfl (fun hc5 => ?_) (fun hc5 => ?_)
                            · (try simp only [decide_eq_true_eq, decide_eq_false_iff_not, Bool.not_eq_true', Bool.not_eq_false'] at hc5)
                              exfalso; have e5 : decide (a1.getD i 0 = 0) = decide (v.getD i 0 ≥ t) := decide_eq_decide.2 A0.out; rw [e5] at hc5; simp at hc5
                            · (try simp only [decide_eq_true_eq, decide_eq_false_iff_not, Bool.not_eq_true', Bool.not_eq_false'] at hc5)
                              refine c_skip ?_
                              refine x_thenN ?_
                              refine ⟨[_, _, _, _, _, _, _, _, _, _, _, _, _, _, _, _, _, _, _, _, _, _, _, _, _, _, _, _, _, _, _, _, _, _, _, _, _, _, _, _, _, _, _, _, _], rfl, [_, _, _, _, _, _, _, _, _, _, _, _, _, _, _, _, _, _, _, _, _, _, _, _, _, _, _, _, _, _, _, _, _, _, _, _, _, _, _, _, _, _, _, _, _], rfl, ?_, ?_⟩
                              · first | exact s28 | exact s28.sub (by repeat first | with_reducible exact Sub.refl _ | exact Sub.nil _ | refine Sub.take (by repeat first | with_reducible exact Take.here _ _ | apply Take.there) ?_ | refine Sub.skip _ ?_)
                              · trivial
                      · rintro ds32 w31 ⟨dd2, rfl, s30, hcut⟩
                        refine nlC (l' := [_,_,_,_,_,_,_,_,_,_,_,_,_,_,_,_,_,_,_,_,_,_,_,_,_,_,_,_,_,_,_,_,_,_,_,_,_,_,_,_,_,_,_,_,_,_,_,_,_,_,_,_,_,_,_,_,_,_,_,_,_,_,_,_,_,_,_,_,_,_,_,_,_,_,_,_,_,_,_,_,_,_,_,_,_,_,_,_,_,_,_,_,_,_,_,_,_,_,_,_,_,_,_,_,_,_,_,_,_,_,_,_,_,_,_,_,_,_,_,_,_,_,_,_,_,_,_,_,_,_,_,_,_,_,_,_,_,_,_,_,_,_,_,_,_,_,_,_,_,_,_,_,_,_,_,_,_,_,_,_,_,_,_,_,_,_,_,_,_,_,_,_,_,_,_,_,_,_,_,_,_,_,_,_,_,_,_,_,_,_]) rfl ?_
                        refine c_seq ?_
                        by_cases hx : 0 < i % W
                        · skip
                          have hi1 : 1 ≤ i := Nat.pos_of_ne_zero (by rintro rfl; rw [Nat.zero_mod] at hx; omega)
                          have l1 := hA.near hi (show i - 1 < v.length by omega) (man_left (by omega) hx)
                          have l2 := hA.near (show i - 1 < v.length by omega) hi (by rw [man_comm]; exact man_left (by omega) hx)
                          by_cases hy : W ≤ i
                          · skip
                            have l3 := hA.near hi (show i - W < v.length by omega) (man_up (by omega) hy)
                            have l4 := hA.near (show i - W < v.length by omega) hi (by rw [man_comm]; exact man_up (by omega) hy)
                            apply c_drawn [] [0, 1, 2, 3, 4, 5, 6, 7, 8, 9, 10, 11, 12, 13, 14, 15, 16, 17, 18, 19, 20, 21, 22, 23, 24, 25, 26, 27, 28, 29, 30, 31, 32, 33, 34, 35, 36, 37, 38, 39, 40, 41, 42, 43, 44, 45, 46, 47, 48, 49, 50, 51, 52, 53, 54, 55, 56, 57, 58, 59, 60, 61, 62] [] [] [] [(_, vq _), (_, vq _), (_, vq _), (_, vq _), (_, vq _), (_, vq _), (_, vq _), (_, vq _), (_, vq _), (_, vq _), (_, vq _), (_, vq _), (_, vq _), (_, vq _), (_, vq _), (_, vq _), (_, vq _), (_, vq _), (_, vq _), (_, vq _), (_, vq _), (_, vq _), (_, vq _), (_, vq _), (_, vq _), (_, vq _), (_, vq _), (_, vq _), (_, vq _), (_, vq _), (_, vq _), (_, vq _), (_, vq _), (_, vq _), (_, vq _), (_, vq _), (_, vq _), (_, vq _), (_, vq _), (_, vq _), (_, vq _), (_, vq _), (_, vq _), (_, vq _), (_, vq _), (_, vq _), (_, vq _), (_, vq _), (_, vq _), (_, vq _), (_, vq _), (_, vq _), (_, vq _), (_, vq _), (_, vq _), (_, vq _), (_, vq _), (_, vq _), (_, vq _), (_, vq _), (_, vq _), (_, vq _), (_, vq _)] s30 Ty.follows (by kernel_rfl) (fun _ _ _ h => h.2) rfl rfl rfl (by decide) ?_
                            show WP _ _ _ _ _
                            refine p_end ?_
                            refine d_val (y_mv rfl (ev_of rfl)) rfl rfl (l' := _) rfl ?_
                            refine d_val (y_mv rfl (ev_of rfl)) rfl rfl (l' := _) rfl ?_
                            refine d_val (y_rem rfl (ev_of rfl) (ev_of rfl) (by omega) (by omega)) rfl rfl (l' := [_,_,_,_,_,_,_,_,_,_,_,_,_,_,_,_,_,_,_,_,_,_,_,_,_,_,_,_,_,_,_,_,_,_,_,_,_,_,_,_,_,_,_,_,_,_,_,_,_,_,_,_,_,_,_,_,_,_,_,_,_,_,_,_,_,_,_,_,_,_,_,_,_,_,_,_,_,_,_,_,_,_,_,_,_,_,_,_,_,_,_,_,_,_,_,_,_,_,_,_,_,_,_,_,_,_,_,_,_,_,_,_,_,_,_,_,_,_,_,_,_,_,_,_,_,_,_,_,_,_,_,_,_,_,_,_,_,_,_,_,_,_,_,_,_,_,_,_,_,_,_,_,_,_,_,_,_,_,_,_,_,_,_,_,_,_,_,_,_,_,_,_,_,_,_,_,_,_,_,_,_,_,_,_,_,_,_,_,_,_]) rfl ?_
                            refine d_val (y_gtr rfl (ev_of rfl) (ev_of rfl)) rfl rfl (l' := _) rfl ?_
                            refine d_val (y_mv rfl (ev_of rfl)) rfl rfl (l' := _) rfl ?_
                            refine d_known (t := 131) (b := true) rfl (decide_eq_true (by omega)) ?_
                            refine nlD (l' := _) rfl ?_
                            refine d_gval (y_mv rfl (ev_of rfl)) (wanted_of rfl rfl rfl rfl rfl) rfl (l' := [_,_,_,_,_,_,_,_,_,_,_,_,_,_,_,_,_,_,_,_,_,_,_,_,_,_,_,_,_,_,_,_,_,_,_,_,_,_,_,_,_,_,_,_,_,_,_,_,_,_,_,_,_,_,_,_,_,_,_,_,_,_,_,_,_,_,_,_,_,_,_,_,_,_,_,_,_,_,_,_,_,_,_,_,_,_,_,_,_,_,_,_,_,_,_,_,_,_,_,_,_,_,_,_,_,_,_,_,_,_,_,_,_,_,_,_,_,_,_,_,_,_,_,_,_,_,_,_,_,_,_,_,_,_,_,_,_,_,_,_,_,_,_,_,_,_,_,_,_,_,_,_,_,_,_,_,_,_,_,_,_,_,_,_,_,_,_,_,_,_,_,_,_,_,_,_,_,_,_,_,_,_,_,_,_,_,_,_,_,_]) rfl ?_
                            refine d_gval (y_mv rfl (ev_of rfl)) (wanted_of rfl rfl rfl rfl rfl) rfl (l' := _) rfl ?_
                            refine d_gval (y_idx rfl Ty.elem22 Ty.size2 (ev_of rfl) (ev_of rfl) (by repeat first | assumption | with_reducible exact ent_blk | exact Ent.here arr_reads | exact Ent.here one_I64 | exact Ent.here one_Cell | exact Ent.here one_Bool | exact Ent.here one_Rect | refine Ent.there ?_) (by first | rfl | exact (Int.toNat_of_nonneg (by omega)).symm) (by omega)) (wanted_of rfl rfl rfl rfl rfl) rfl (l' := _) rfl ?_
                            refine d_gval (y_ldI rfl Ty.some2 Ty.agg2 (ev_of rfl) (by repeat first | assumption | with_reducible exact ent_blk | exact Ent.here arr_reads | exact Ent.here one_I64 | exact Ent.here one_Cell | exact Ent.here one_Bool | exact Ent.here one_Rect | refine Ent.there ?_) (by omega)) (wanted_of rfl rfl rfl rfl rfl) rfl (l' := _) rfl ?_
                            refine d_gval (y_mv rfl (ev_of rfl)) (wanted_of rfl rfl rfl rfl rfl) rfl (l' := [_,_,_,_,_,_,_,_,_,_,_,_,_,_,_,_,_,_,_,_,_,_,_,_,_,_,_,_,_,_,_,_,_,_,_,_,_,_,_,_,_,_,_,_,_,_,_,_,_,_,_,_,_,_,_,_,_,_,_,_,_,_,_,_,_,_,_,_,_,_,_,_,_,_,_,_,_,_,_,_,_,_,_,_,_,_,_,_,_,_,_,_,_,_,_,_,_,_,_,_,_,_,_,_,_,_,_,_,_,_,_,_,_,_,_,_,_,_,_,_,_,_,_,_,_,_,_,_,_,_,_,_,_,_,_,_,_,_,_,_,_,_,_,_,_,_,_,_,_,_,_,_,_,_,_,_,_,_,_,_,_,_,_,_,_,_,_,_,_,_,_,_,_,_,_,_,_,_,_,_,_,_,_,_,_,_,_,_,_,_]) rfl ?_
                            refine d_gval (y_mv rfl (ev_of rfl)) (wanted_of rfl rfl rfl rfl rfl) rfl (l' := _) rfl ?_
                            refine d_gval (y_sub rfl (ev_of rfl) (ev_of rfl) (by omega) (by omega)) (wanted_of rfl rfl rfl rfl rfl) rfl (l' := _) rfl ?_
                            refine d_gval (y_idx (n := i - 1) rfl Ty.elem22 Ty.size2 (ev_of rfl) (ev_of rfl) (by repeat first | assumption | with_reducible exact ent_blk | exact Ent.here arr_reads | exact Ent.here one_I64 | exact Ent.here one_Cell | exact Ent.here one_Bool | exact Ent.here one_Rect | refine Ent.there ?_) (by omega) (by omega)) (wanted_of rfl rfl rfl rfl rfl) rfl (l' := _) rfl ?_
                            refine d_gval (y_ldI rfl Ty.some2 Ty.agg2 (ev_of rfl) (by repeat first | assumption | with_reducible exact ent_blk | exact Ent.here arr_reads | exact Ent.here one_I64 | exact Ent.here one_Cell | exact Ent.here one_Bool | exact Ent.here one_Rect | refine Ent.there ?_) (by omega)) (wanted_of rfl rfl rfl rfl rfl) rfl (l' := [_,_,_,_,_,_,_,_,_,_,_,_,_,_,_,_,_,_,_,_,_,_,_,_,_,_,_,_,_,_,_,_,_,_,_,_,_,_,_,_,_,_,_,_,_,_,_,_,_,_,_,_,_,_,_,_,_,_,_,_,_,_,_,_,_,_,_,_,_,_,_,_,_,_,_,_,_,_,_,_,_,_,_,_,_,_,_,_,_,_,_,_,_,_,_,_,_,_,_,_,_,_,_,_,_,_,_,_,_,_,_,_,_,_,_,_,_,_,_,_,_,_,_,_,_,_,_,_,_,_,_,_,_,_,_,_,_,_,_,_,_,_,_,_,_,_,_,_,_,_,_,_,_,_,_,_,_,_,_,_,_,_,_,_,_,_,_,_,_,_,_,_,_,_,_,_,_,_,_,_,_,_,_,_,_,_,_,_,_,_]) rfl ?_
                            refine d_gval (y_sub rfl (ev_of rfl) (ev_of rfl) (by omega) (by omega)) (wanted_of rfl rfl rfl rfl rfl) rfl (l' := _) rfl ?_
                            refine d_gval (y_gtr rfl (ev_of rfl) (ev_of rfl)) (wanted_of rfl rfl rfl rfl rfl) rfl (l' := _) rfl ?_
                            refine d_gval (y_mv rfl (ev_of rfl)) (wanted_of rfl rfl rfl rfl rfl) rfl (l' := _) rfl ?_
                            refine d_known (t := 143) (b := false) rfl (decide_eq_false (by omega)) ?_
                            refine nlD (l' := [_,_,_,_,_,_,_,_,_,_,_,_,_,_,_,_,_,_,_,_,_,_,_,_,_,_,_,_,_,_,_,_,_,_,_,_,_,_,_,_,_,_,_,_,_,_,_,_,_,_,_,_,_,_,_,_,_,_,_,_,_,_,_,_,_,_,_,_,_,_,_,_,_,_,_,_,_,_,_,_,_,_,_,_,_,_,_,_,_,_,_,_,_,_,_,_,_,_,_,_,_,_,_,_,_,_,_,_,_,_,_,_,_,_,_,_,_,_,_,_,_,_,_,_,_,_,_,_,_,_,_,_,_,_,_,_,_,_,_,_,_,_,_,_,_,_,_,_,_,_,_,_,_,_,_,_,_,_,_,_,_,_,_,_,_,_,_,_,_,_,_,_,_,_,_,_,_,_,_,_,_,_,_,_,_,_,_,_,_,_]) rfl ?_
                            refine d_gval (y_mv rfl (ev_of rfl)) (wanted_of rfl rfl rfl rfl rfl) rfl (l' := _) rfl ?_
                            refine d_gval (y_mv rfl (ev_of rfl)) (wanted_of rfl rfl rfl rfl rfl) rfl (l' := _) rfl ?_
                            refine d_gval (y_sub rfl (ev_of rfl) (ev_of rfl) (by omega) (by omega)) (wanted_of rfl rfl rfl rfl rfl) rfl (l' := _) rfl ?_
                            refine d_gval (y_idx (n := i - 1) rfl Ty.elem22 Ty.size2 (ev_of rfl) (ev_of rfl) (by repeat first | assumption | with_reducible exact ent_blk | exact Ent.here arr_reads | exact Ent.here one_I64 | exact Ent.here one_Cell | exact Ent.here one_Bool | exact Ent.here one_Rect | refine Ent.there ?_) (by omega) (by omega)) (wanted_of rfl rfl rfl rfl rfl) rfl (l' := [_,_,_,_,_,_,_,_,_,_,_,_,_,_,_,_,_,_,_,_,_,_,_,_,_,_,_,_,_,_,_,_,_,_,_,_,_,_,_,_,_,_,_,_,_,_,_,_,_,_,_,_,_,_,_,_,_,_,_,_,_,_,_,_,_,_,_,_,_,_,_,_,_,_,_,_,_,_,_,_,_,_,_,_,_,_,_,_,_,_,_,_,_,_,_,_,_,_,_,_,_,_,_,_,_,_,_,_,_,_,_,_,_,_,_,_,_,_,_,_,_,_,_,_,_,_,_,_,_,_,_,_,_,_,_,_,_,_,_,_,_,_,_,_,_,_,_,_,_,_,_,_,_,_,_,_,_,_,_,_,_,_,_,_,_,_,_,_,_,_,_,_,_,_,_,_,_,_,_,_,_,_,_,_,_,_,_,_,_,_]) rfl ?_
                            refine d_gval (y_ldI rfl Ty.some2 Ty.agg2 (ev_of rfl) (by repeat first | assumption | with_reducible exact ent_blk | exact Ent.here arr_reads | exact Ent.here one_I64 | exact Ent.here one_Cell | exact Ent.here one_Bool | exact Ent.here one_Rect | refine Ent.there ?_) (by omega)) (wanted_of rfl rfl rfl rfl rfl) rfl (l' := _) rfl ?_
                            refine d_gval (y_mv rfl (ev_of rfl)) (wanted_of rfl rfl rfl rfl rfl) rfl (l' := _) rfl ?_
                            refine d_gval (y_mv rfl (ev_of rfl)) (wanted_of rfl rfl rfl rfl rfl) rfl (l' := _) rfl ?_
                            refine d_gval (y_idx rfl Ty.elem22 Ty.size2 (ev_of rfl) (ev_of rfl) (by repeat first | assumption | with_reducible exact ent_blk | exact Ent.here arr_reads | exact Ent.here one_I64 | exact Ent.here one_Cell | exact Ent.here one_Bool | exact Ent.here one_Rect | refine Ent.there ?_) (by first | rfl | exact (Int.toNat_of_nonneg (by omega)).symm) (by omega)) (wanted_of rfl rfl rfl rfl rfl) rfl (l' := [_,_,_,_,_,_,_,_,_,_,_,_,_,_,_,_,_,_,_,_,_,_,_,_,_,_,_,_,_,_,_,_,_,_,_,_,_,_,_,_,_,_,_,_,_,_,_,_,_,_,_,_,_,_,_,_,_,_,_,_,_,_,_,_,_,_,_,_,_,_,_,_,_,_,_,_,_,_,_,_,_,_,_,_,_,_,_,_,_,_,_,_,_,_,_,_,_,_,_,_,_,_,_,_,_,_,_,_,_,_,_,_,_,_,_,_,_,_,_,_,_,_,_,_,_,_,_,_,_,_,_,_,_,_,_,_,_,_,_,_,_,_,_,_,_,_,_,_,_,_,_,_,_,_,_,_,_,_,_,_,_,_,_,_,_,_,_,_,_,_,_,_,_,_,_,_,_,_,_,_,_,_,_,_,_,_,_,_,_,_]) rfl ?_
                            refine d_gval (y_ldI rfl Ty.some2 Ty.agg2 (ev_of rfl) (by repeat first | assumption | with_reducible exact ent_blk | exact Ent.here arr_reads | exact Ent.here one_I64 | exact Ent.here one_Cell | exact Ent.here one_Bool | exact Ent.here one_Rect | refine Ent.there ?_) (by omega)) (wanted_of rfl rfl rfl rfl rfl) rfl (l' := _) rfl ?_
                            refine d_gval (y_sub rfl (ev_of rfl) (ev_of rfl) (by omega) (by omega)) (wanted_of rfl rfl rfl rfl rfl) rfl (l' := _) rfl ?_
                            refine d_gval (y_gtr rfl (ev_of rfl) (ev_of rfl)) (wanted_of rfl rfl rfl rfl rfl) rfl (l' := _) rfl ?_
                            refine d_gval (y_pick0 rfl (ev_of rfl) (ev_of rfl)) (wanted_of rfl rfl rfl rfl rfl) rfl (l' := [_,_,_,_,_,_,_,_,_,_,_,_,_,_,_,_,_,_,_,_,_,_,_,_,_,_,_,_,_,_,_,_,_,_,_,_,_,_,_,_,_,_,_,_,_,_,_,_,_,_,_,_,_,_,_,_,_,_,_,_,_,_,_,_,_,_,_,_,_,_,_,_,_,_,_,_,_,_,_,_,_,_,_,_,_,_,_,_,_,_,_,_,_,_,_,_,_,_,_,_,_,_,_,_,_,_,_,_,_,_,_,_,_,_,_,_,_,_,_,_,_,_,_,_,_,_,_,_,_,_,_,_,_,_,_,_,_,_,_,_,_,_,_,_,_,_,_,_,_,_,_,_,_,_,_,_,_,_,_,_,_,_,_,_,_,_,_,_,_,_,_,_,_,_,_,_,_,_,_,_,_,_,_,_,_,_,_,_,_,_]) rfl ?_
                            refine d_val (y_pick1 rfl (ev_of rfl) (ev_of rfl)) rfl rfl (l' := _) rfl ?_
                            refine d_val (y_mv rfl (ev_of rfl)) rfl rfl (l' := _) rfl ?_
                            refine d_known (t := 157) (b := false) rfl (decide_eq_false (by omega)) ?_
                            refine nlD (l' := _) rfl ?_
                            refine d_gval (y_mv rfl (ev_of rfl)) (wanted_of rfl rfl rfl rfl rfl) rfl (l' := [_,_,_,_,_,_,_,_,_,_,_,_,_,_,_,_,_,_,_,_,_,_,_,_,_,_,_,_,_,_,_,_,_,_,_,_,_,_,_,_,_,_,_,_,_,_,_,_,_,_,_,_,_,_,_,_,_,_,_,_,_,_,_,_,_,_,_,_,_,_,_,_,_,_,_,_,_,_,_,_,_,_,_,_,_,_,_,_,_,_,_,_,_,_,_,_,_,_,_,_,_,_,_,_,_,_,_,_,_,_,_,_,_,_,_,_,_,_,_,_,_,_,_,_,_,_,_,_,_,_,_,_,_,_,_,_,_,_,_,_,_,_,_,_,_,_,_,_,_,_,_,_,_,_,_,_,_,_,_,_,_,_,_,_,_,_,_,_,_,_,_,_,_,_,_,_,_,_,_,_,_,_,_,_,_,_,_,_,_,_]) rfl ?_
                            refine d_gval (y_mv rfl (ev_of rfl)) (wanted_of rfl rfl rfl rfl rfl) rfl (l' := _) rfl ?_
                            refine d_gval (y_geq rfl (ev_of rfl) (ev_of rfl)) (wanted_of rfl rfl rfl rfl rfl) rfl (l' := _) rfl ?_
                            refine d_gval (y_mv rfl (ev_of rfl)) (wanted_of rfl rfl rfl rfl rfl) rfl (l' := _) rfl ?_
                            refine d_known (t := 161) (b := true) rfl (decide_eq_true (by omega)) ?_
                            refine nlD (l' := [_,_,_,_,_,_,_,_,_,_,_,_,_,_,_,_,_,_,_,_,_,_,_,_,_,_,_,_,_,_,_,_,_,_,_,_,_,_,_,_,_,_,_,_,_,_,_,_,_,_,_,_,_,_,_,_,_,_,_,_,_,_,_,_,_,_,_,_,_,_,_,_,_,_,_,_,_,_,_,_,_,_,_,_,_,_,_,_,_,_,_,_,_,_,_,_,_,_,_,_,_,_,_,_,_,_,_,_,_,_,_,_,_,_,_,_,_,_,_,_,_,_,_,_,_,_,_,_,_,_,_,_,_,_,_,_,_,_,_,_,_,_,_,_,_,_,_,_,_,_,_,_,_,_,_,_,_,_,_,_,_,_,_,_,_,_,_,_,_,_,_,_,_,_,_,_,_,_,_,_,_,_,_,_,_,_,_,_,_,_]) rfl ?_
                            refine d_gval (y_mv rfl (ev_of rfl)) (wanted_of rfl rfl rfl rfl rfl) rfl (l' := _) rfl ?_
                            refine d_gval (y_mv rfl (ev_of rfl)) (wanted_of rfl rfl rfl rfl rfl) rfl (l' := _) rfl ?_
                            refine d_gval (y_idx rfl Ty.elem22 Ty.size2 (ev_of rfl) (ev_of rfl) (by repeat first | assumption | with_reducible exact ent_blk | exact Ent.here arr_reads | exact Ent.here one_I64 | exact Ent.here one_Cell | exact Ent.here one_Bool | exact Ent.here one_Rect | refine Ent.there ?_) (by first | rfl | exact (Int.toNat_of_nonneg (by omega)).symm) (by omega)) (wanted_of rfl rfl rfl rfl rfl) rfl (l' := _) rfl ?_
                            refine d_gval (y_ldI rfl Ty.some2 Ty.agg2 (ev_of rfl) (by repeat first | assumption | with_reducible exact ent_blk | exact Ent.here arr_reads | exact Ent.here one_I64 | exact Ent.here one_Cell | exact Ent.here one_Bool | exact Ent.here one_Rect | refine Ent.there ?_) (by omega)) (wanted_of rfl rfl rfl rfl rfl) rfl (l' := [_,_,_,_,_,_,_,_,_,_,_,_,_,_,_,_,_,_,_,_,_,_,_,_,_,_,_,_,_,_,_,_,_,_,_,_,_,_,_,_,_,_,_,_,_,_,_,_,_,_,_,_,_,_,_,_,_,_,_,_,_,_,_,_,_,_,_,_,_,_,_,_,_,_,_,_,_,_,_,_,_,_,_,_,_,_,_,_,_,_,_,_,_,_,_,_,_,_,_,_,_,_,_,_,_,_,_,_,_,_,_,_,_,_,_,_,_,_,_,_,_,_,_,_,_,_,_,_,_,_,_,_,_,_,_,_,_,_,_,_,_,_,_,_,_,_,_,_,_,_,_,_,_,_,_,_,_,_,_,_,_,_,_,_,_,_,_,_,_,_,_,_,_,_,_,_,_,_,_,_,_,_,_,_,_,_,_,_,_,_]) rfl ?_
                            refine d_gval (y_mv rfl (ev_of rfl)) (wanted_of rfl rfl rfl rfl rfl) rfl (l' := _) rfl ?_
                            refine d_gval (y_mv rfl (ev_of rfl)) (wanted_of rfl rfl rfl rfl rfl) rfl (l' := _) rfl ?_
                            refine d_gval (y_mv rfl (ev_of rfl)) (wanted_of rfl rfl rfl rfl rfl) rfl (l' := _) rfl ?_
                            refine d_gval (y_sub rfl (ev_of rfl) (ev_of rfl) (by omega) (by omega)) (wanted_of rfl rfl rfl rfl rfl) rfl (l' := [_,_,_,_,_,_,_,_,_,_,_,_,_,_,_,_,_,_,_,_,_,_,_,_,_,_,_,_,_,_,_,_,_,_,_,_,_,_,_,_,_,_,_,_,_,_,_,_,_,_,_,_,_,_,_,_,_,_,_,_,_,_,_,_,_,_,_,_,_,_,_,_,_,_,_,_,_,_,_,_,_,_,_,_,_,_,_,_,_,_,_,_,_,_,_,_,_,_,_,_,_,_,_,_,_,_,_,_,_,_,_,_,_,_,_,_,_,_,_,_,_,_,_,_,_,_,_,_,_,_,_,_,_,_,_,_,_,_,_,_,_,_,_,_,_,_,_,_,_,_,_,_,_,_,_,_,_,_,_,_,_,_,_,_,_,_,_,_,_,_,_,_,_,_,_,_,_,_,_,_,_,_,_,_,_,_,_,_,_,_]) rfl ?_
                            refine d_gval (y_idx (n := i - W) rfl Ty.elem22 Ty.size2 (ev_of rfl) (ev_of rfl) (by repeat first | assumption | with_reducible exact ent_blk | exact Ent.here arr_reads | exact Ent.here one_I64 | exact Ent.here one_Cell | exact Ent.here one_Bool | exact Ent.here one_Rect | refine Ent.there ?_) (by omega) (by omega)) (wanted_of rfl rfl rfl rfl rfl) rfl (l' := _) rfl ?_
                            refine d_gval (y_ldI rfl Ty.some2 Ty.agg2 (ev_of rfl) (by repeat first | assumption | with_reducible exact ent_blk | exact Ent.here arr_reads | exact Ent.here one_I64 | exact Ent.here one_Cell | exact Ent.here one_Bool | exact Ent.here one_Rect | refine Ent.there ?_) (by omega)) (wanted_of rfl rfl rfl rfl rfl) rfl (l' := _) rfl ?_
                            refine d_gval (y_sub rfl (ev_of rfl) (ev_of rfl) (by omega) (by omega)) (wanted_of rfl rfl rfl rfl rfl) rfl (l' := _) rfl ?_
                            refine d_gval (y_gtr rfl (ev_of rfl) (ev_of rfl)) (wanted_of rfl rfl rfl rfl rfl) rfl (l' := [_,_,_,_,_,_,_,_,_,_,_,_,_,_,_,_,_,_,_,_,_,_,_,_,_,_,_,_,_,_,_,_,_,_,_,_,_,_,_,_,_,_,_,_,_,_,_,_,_,_,_,_,_,_,_,_,_,_,_,_,_,_,_,_,_,_,_,_,_,_,_,_,_,_,_,_,_,_,_,_,_,_,_,_,_,_,_,_,_,_,_,_,_,_,_,_,_,_,_,_,_,_,_,_,_,_,_,_,_,_,_,_,_,_,_,_,_,_,_,_,_,_,_,_,_,_,_,_,_,_,_,_,_,_,_,_,_,_,_,_,_,_,_,_,_,_,_,_,_,_,_,_,_,_,_,_,_,_,_,_,_,_,_,_,_,_,_,_,_,_,_,_,_,_,_,_,_,_,_,_,_,_,_,_,_,_,_,_,_,_]) rfl ?_
                            refine d_gval (y_mv rfl (ev_of rfl)) (wanted_of rfl rfl rfl rfl rfl) rfl (l' := _) rfl ?_
                            refine d_known (t := 174) (b := false) rfl (decide_eq_false (by omega)) ?_
                            refine nlD (l' := _) rfl ?_
                            refine d_gval (y_mv rfl (ev_of rfl)) (wanted_of rfl rfl rfl rfl rfl) rfl (l' := _) rfl ?_
                            refine d_gval (y_mv rfl (ev_of rfl)) (wanted_of rfl rfl rfl rfl rfl) rfl (l' := [_,_,_,_,_,_,_,_,_,_,_,_,_,_,_,_,_,_,_,_,_,_,_,_,_,_,_,_,_,_,_,_,_,_,_,_,_,_,_,_,_,_,_,_,_,_,_,_,_,_,_,_,_,_,_,_,_,_,_,_,_,_,_,_,_,_,_,_,_,_,_,_,_,_,_,_,_,_,_,_,_,_,_,_,_,_,_,_,_,_,_,_,_,_,_,_,_,_,_,_,_,_,_,_,_,_,_,_,_,_,_,_,_,_,_,_,_,_,_,_,_,_,_,_,_,_,_,_,_,_,_,_,_,_,_,_,_,_,_,_,_,_,_,_,_,_,_,_,_,_,_,_,_,_,_,_,_,_,_,_,_,_,_,_,_,_,_,_,_,_,_,_,_,_,_,_,_,_,_,_,_,_,_,_,_,_,_,_,_,_]) rfl ?_
                            refine d_gval (y_mv rfl (ev_of rfl)) (wanted_of rfl rfl rfl rfl rfl) rfl (l' := _) rfl ?_
                            refine d_gval (y_sub rfl (ev_of rfl) (ev_of rfl) (by omega) (by omega)) (wanted_of rfl rfl rfl rfl rfl) rfl (l' := _) rfl ?_
                            refine d_gval (y_idx (n := i - W) rfl Ty.elem22 Ty.size2 (ev_of rfl) (ev_of rfl) (by repeat first | assumption | with_reducible exact ent_blk | exact Ent.here arr_reads | exact Ent.here one_I64 | exact Ent.here one_Cell | exact Ent.here one_Bool | exact Ent.here one_Rect | refine Ent.there ?_) (by omega) (by omega)) (wanted_of rfl rfl rfl rfl rfl) rfl (l' := _) rfl ?_
                            refine d_gval (y_ldI rfl Ty.some2 Ty.agg2 (ev_of rfl) (by repeat first | assumption | with_reducible exact ent_blk | exact Ent.here arr_reads | exact Ent.here one_I64 | exact Ent.here one_Cell | exact Ent.here one_Bool | exact Ent.here one_Rect | refine Ent.there ?_) (by omega)) (wanted_of rfl rfl rfl rfl rfl) rfl (l' := [_,_,_,_,_,_,_,_,_,_,_,_,_,_,_,_,_,_,_,_,_,_,_,_,_,_,_,_,_,_,_,_,_,_,_,_,_,_,_,_,_,_,_,_,_,_,_,_,_,_,_,_,_,_,_,_,_,_,_,_,_,_,_,_,_,_,_,_,_,_,_,_,_,_,_,_,_,_,_,_,_,_,_,_,_,_,_,_,_,_,_,_,_,_,_,_,_,_,_,_,_,_,_,_,_,_,_,_,_,_,_,_,_,_,_,_,_,_,_,_,_,_,_,_,_,_,_,_,_,_,_,_,_,_,_,_,_,_,_,_,_,_,_,_,_,_,_,_,_,_,_,_,_,_,_,_,_,_,_,_,_,_,_,_,_,_,_,_,_,_,_,_,_,_,_,_,_,_,_,_,_,_,_,_,_,_,_,_,_,_]) rfl ?_
                            refine d_gval (y_mv rfl (ev_of rfl)) (wanted_of rfl rfl rfl rfl rfl) rfl (l' := _) rfl ?_
                            refine d_gval (y_mv rfl (ev_of rfl)) (wanted_of rfl rfl rfl rfl rfl) rfl (l' := _) rfl ?_
                            refine d_gval (y_idx rfl Ty.elem22 Ty.size2 (ev_of rfl) (ev_of rfl) (by repeat first | assumption | with_reducible exact ent_blk | exact Ent.here arr_reads | exact Ent.here one_I64 | exact Ent.here one_Cell | exact Ent.here one_Bool | exact Ent.here one_Rect | refine Ent.there ?_) (by first | rfl | exact (Int.toNat_of_nonneg (by omega)).symm) (by omega)) (wanted_of rfl rfl rfl rfl rfl) rfl (l' := _) rfl ?_
                            refine d_gval (y_ldI rfl Ty.some2 Ty.agg2 (ev_of rfl) (by repeat first | assumption | with_reducible exact ent_blk | exact Ent.here arr_reads | exact Ent.here one_I64 | exact Ent.here one_Cell | exact Ent.here one_Bool | exact Ent.here one_Rect | refine Ent.there ?_) (by omega)) (wanted_of rfl rfl rfl rfl rfl) rfl (l' := [_,_,_,_,_,_,_,_,_,_,_,_,_,_,_,_,_,_,_,_,_,_,_,_,_,_,_,_,_,_,_,_,_,_,_,_,_,_,_,_,_,_,_,_,_,_,_,_,_,_,_,_,_,_,_,_,_,_,_,_,_,_,_,_,_,_,_,_,_,_,_,_,_,_,_,_,_,_,_,_,_,_,_,_,_,_,_,_,_,_,_,_,_,_,_,_,_,_,_,_,_,_,_,_,_,_,_,_,_,_,_,_,_,_,_,_,_,_,_,_,_,_,_,_,_,_,_,_,_,_,_,_,_,_,_,_,_,_,_,_,_,_,_,_,_,_,_,_,_,_,_,_,_,_,_,_,_,_,_,_,_,_,_,_,_,_,_,_,_,_,_,_,_,_,_,_,_,_,_,_,_,_,_,_,_,_,_,_,_,_]) rfl ?_
                            refine d_gval (y_sub rfl (ev_of rfl) (ev_of rfl) (by omega) (by omega)) (wanted_of rfl rfl rfl rfl rfl) rfl (l' := _) rfl ?_
                            refine d_gval (y_gtr rfl (ev_of rfl) (ev_of rfl)) (wanted_of rfl rfl rfl rfl rfl) rfl (l' := _) rfl ?_
                            refine d_gval (y_pick0 rfl (ev_of rfl) (ev_of rfl)) (wanted_of rfl rfl rfl rfl rfl) rfl (l' := _) rfl ?_
                            refine d_gval (y_pick1 rfl (ev_of rfl) (ev_of rfl)) (wanted_of rfl rfl rfl rfl rfl) rfl (l' := [_,_,_,_,_,_,_,_,_,_,_,_,_,_,_,_,_,_,_,_,_,_,_,_,_,_,_,_,_,_,_,_,_,_,_,_,_,_,_,_,_,_,_,_,_,_,_,_,_,_,_,_,_,_,_,_,_,_,_,_,_,_,_,_,_,_,_,_,_,_,_,_,_,_,_,_,_,_,_,_,_,_,_,_,_,_,_,_,_,_,_,_,_,_,_,_,_,_,_,_,_,_,_,_,_,_,_,_,_,_,_,_,_,_,_,_,_,_,_,_,_,_,_,_,_,_,_,_,_,_,_,_,_,_,_,_,_,_,_,_,_,_,_,_,_,_,_,_,_,_,_,_,_,_,_,_,_,_,_,_,_,_,_,_,_,_,_,_,_,_,_,_,_,_,_,_,_,_,_,_,_,_,_,_,_,_,_,_,_,_]) rfl ?_
                            refine d_val (y_pick0 rfl (ev_of rfl) (ev_of rfl)) rfl rfl (l' := _) rfl ?_
                            refine d_end (fun w34 s33 => ?_)
                            clear s30
                            simp only [List.append_nil, List.cons_append, List.nil_append] at s33
                            refine l_end ?_
                            refine x_thenN ?_
                            refine c_if rfl (fun hc6 => ?_) (fun hc6 => ?_)
                            · (try simp only [decide_eq_true_eq, decide_eq_false_iff_not, Bool.not_eq_true', Bool.not_eq_false'] at hc6)
                              first | done | (exfalso; omega) | contradiction | (exfalso; simp_all; done)
                            · (try simp only [decide_eq_true_eq, decide_eq_false_iff_not, Bool.not_eq_true', Bool.not_eq_false'] at hc6)
                              refine c_skip ?_
                              refine x_blockN ?_
                              refine x_thenN ?_
                              refine c_region ?_
                              refine l_val s33 (y_mv rfl (ev_of rfl)) rfl rfl (l' := _) rfl ?_
                              refine l_val s33 (y_add rfl (ev_of rfl) (ev_of rfl) (by omega) (by omega)) rfl rfl (l' := _) rfl ?_
                              refine l_val s33 (y_as rfl (ev_of rfl)) rfl rfl (l' := [_,_,_,_,_,_,_,_,_,_,_,_,_,_,_,_,_,_,_,_,_,_,_,_,_,_,_,_,_,_,_,_,_,_,_,_,_,_,_,_,_,_,_,_,_,_,_,_,_,_,_,_,_,_,_,_,_,_,_,_,_,_,_,_,_,_,_,_,_,_,_,_,_,_,_,_,_,_,_,_,_,_,_,_,_,_,_,_,_,_,_,_,_,_,_,_,_,_,_,_,_,_,_,_,_,_,_,_,_,_,_,_,_,_,_,_,_,_,_,_,_,_,_,_,_,_,_,_,_,_,_,_,_,_,_,_,_,_,_,_,_,_,_,_,_,_,_,_,_,_,_,_,_,_,_,_,_,_,_,_,_,_,_,_,_,_,_,_,_,_,_,_,_,_,_,_,_,_,_,_,_,_,_,_,_,_,_,_,_,_]) rfl ?_
                              refine l_end ?_
                              refine x_thenN ?_
                              refine ⟨_, [_, _, _, _, _, _, _, _, _, _, _, _, _, _, _, _, _, _, _, _, _, _, _, _, _, _, _, _, _, _, _, _, _, _, _, _, _, _, _, _, _, _, _, _, _, _, _, _, _, _, _, _, _, _, _, _, _, _, _, _, _, _, _, _, _, _, _, _, _, _, _, _, _, _, _, _, _, _, _, _, _, _, _, _, _, _, _, _, _, _, _, _, _, _, _, _, _, _, _, _, _, _, _, _, _, _, _, _, _, _, _, _, _, _, _, _], ?_, rfl, i + 1, [_, _, _, _, _, _, _, _, _, _, _, _, _, _, _, _, _, _, _, _, _, _, _, _, _, _, _, _, _, _, _, _, _, _, _, _, _, _, _, _, _, _, _, _, _, _, _, _, _, _, _, _, _, _, _, _, _, _, _, _, _, _, _, _, _, _, _, _, _, _, _, _, _, _, _, _, _, _, _, _, _, _, _, _, _, _, _, _, _, _, _, _, _, _, _, _, _, _, _, _, _, _, _, _, _, _, _, _, _, _, _, _, _, _, _], rfl, rfl, ?_, ?_⟩
                              · omega
                              · first | exact s33 | exact s33.sub (by repeat first | with_reducible exact Sub.refl _ | exact Sub.nil _ | refine Sub.take (by repeat first | with_reducible exact Take.here _ _ | apply Take.there) ?_ | refine Sub.skip _ ?_)
                              · trivial
                          · skip
                            apply c_drawn [] [0, 1, 2, 3, 4, 5, 6, 7, 8, 9, 10, 11, 12, 13, 14, 15, 16, 17, 18, 19, 20, 21, 22, 23, 24, 25, 26, 27, 28, 29, 30, 31, 32, 33, 34, 35, 36, 37, 38, 39, 40, 41, 42, 43, 44, 45, 46, 47, 48, 49, 50, 51, 52, 53, 54, 55, 56, 57, 58, 59, 60, 61, 62] [] [] [] [(_, vq _), (_, vq _), (_, vq _), (_, vq _), (_, vq _), (_, vq _), (_, vq _), (_, vq _), (_, vq _), (_, vq _), (_, vq _), (_, vq _), (_, vq _), (_, vq _), (_, vq _), (_, vq _), (_, vq _), (_, vq _), (_, vq _), (_, vq _), (_, vq _), (_, vq _), (_, vq _), (_, vq _), (_, vq _), (_, vq _), (_, vq _), (_, vq _), (_, vq _), (_, vq _), (_, vq _), (_, vq _), (_, vq _), (_, vq _), (_, vq _), (_, vq _), (_, vq _), (_, vq _), (_, vq _), (_, vq _), (_, vq _), (_, vq _), (_, vq _), (_, vq _), (_, vq _), (_, vq _), (_, vq _), (_, vq _), (_, vq _), (_, vq _), (_, vq _), (_, vq _), (_, vq _), (_, vq _), (_, vq _), (_, vq _), (_, vq _), (_, vq _), (_, vq _), (_, vq _), (_, vq _), (_, vq _), (_, vq _)] s30 Ty.follows (by kernel_rfl) (fun _ _ _ h => h.2) rfl rfl rfl (by decide) ?_
                            show WP _ _ _ _ _
                            refine p_end ?_
                            refine d_val (y_mv rfl (ev_of rfl)) rfl rfl (l' := _) rfl ?_
                            refine d_val (y_mv rfl (ev_of rfl)) rfl rfl (l' := _) rfl ?_
                            refine d_val (y_rem rfl (ev_of rfl) (ev_of rfl) (by omega) (by omega)) rfl rfl (l' := _) rfl ?_
                            refine d_val (y_gtr rfl (ev_of rfl) (ev_of rfl)) rfl rfl (l' := [_,_,_,_,_,_,_,_,_,_,_,_,_,_,_,_,_,_,_,_,_,_,_,_,_,_,_,_,_,_,_,_,_,_,_,_,_,_,_,_,_,_,_,_,_,_,_,_,_,_,_,_,_,_,_,_,_,_,_,_,_,_,_,_,_,_,_,_,_,_,_,_,_,_,_,_,_,_,_,_,_,_,_,_,_,_,_,_,_,_,_,_,_,_,_,_,_,_,_,_,_,_,_,_,_,_,_,_,_,_,_,_,_,_,_,_,_,_,_,_,_,_,_,_,_,_,_,_,_,_,_,_,_,_,_,_,_,_,_,_,_,_,_,_,_,_,_,_,_,_,_,_,_,_,_,_,_,_,_,_,_,_,_,_,_,_,_,_,_,_,_,_,_,_,_,_,_,_,_,_,_,_,_,_,_,_,_,_,_,_]) rfl ?_
                            refine d_val (y_mv rfl (ev_of rfl)) rfl rfl (l' := _) rfl ?_
                            refine d_known (t := 131) (b := true) rfl (decide_eq_true (by omega)) ?_
                            refine nlD (l' := _) rfl ?_
                            refine d_gval (y_mv rfl (ev_of rfl)) (wanted_of rfl rfl rfl rfl rfl) rfl (l' := _) rfl ?_
                            refine d_gval (y_mv rfl (ev_of rfl)) (wanted_of rfl rfl rfl rfl rfl) rfl (l' := [_,_,_,_,_,_,_,_,_,_,_,_,_,_,_,_,_,_,_,_,_,_,_,_,_,_,_,_,_,_,_,_,_,_,_,_,_,_,_,_,_,_,_,_,_,_,_,_,_,_,_,_,_,_,_,_,_,_,_,_,_,_,_,_,_,_,_,_,_,_,_,_,_,_,_,_,_,_,_,_,_,_,_,_,_,_,_,_,_,_,_,_,_,_,_,_,_,_,_,_,_,_,_,_,_,_,_,_,_,_,_,_,_,_,_,_,_,_,_,_,_,_,_,_,_,_,_,_,_,_,_,_,_,_,_,_,_,_,_,_,_,_,_,_,_,_,_,_,_,_,_,_,_,_,_,_,_,_,_,_,_,_,_,_,_,_,_,_,_,_,_,_,_,_,_,_,_,_,_,_,_,_,_,_,_,_,_,_,_,_]) rfl ?_
                            refine d_gval (y_idx rfl Ty.elem22 Ty.size2 (ev_of rfl) (ev_of rfl) (by repeat first | assumption | with_reducible exact ent_blk | exact Ent.here arr_reads | exact Ent.here one_I64 | exact Ent.here one_Cell | exact Ent.here one_Bool | exact Ent.here one_Rect | refine Ent.there ?_) (by first | rfl | exact (Int.toNat_of_nonneg (by omega)).symm) (by omega)) (wanted_of rfl rfl rfl rfl rfl) rfl (l' := _) rfl ?_
                            refine d_gval (y_ldI rfl Ty.some2 Ty.agg2 (ev_of rfl) (by repeat first | assumption | with_reducible exact ent_blk | exact Ent.here arr_reads | exact Ent.here one_I64 | exact Ent.here one_Cell | exact Ent.here one_Bool | exact Ent.here one_Rect | refine Ent.there ?_) (by omega)) (wanted_of rfl rfl rfl rfl rfl) rfl (l' := _) rfl ?_
                            refine d_gval (y_mv rfl (ev_of rfl)) (wanted_of rfl rfl rfl rfl rfl) rfl (l' := _) rfl ?_
                            refine d_gval (y_mv rfl (ev_of rfl)) (wanted_of rfl rfl rfl rfl rfl) rfl (l' := [_,_,_,_,_,_,_,_,_,_,_,_,_,_,_,_,_,_,_,_,_,_,_,_,_,_,_,_,_,_,_,_,_,_,_,_,_,_,_,_,_,_,_,_,_,_,_,_,_,_,_,_,_,_,_,_,_,_,_,_,_,_,_,_,_,_,_,_,_,_,_,_,_,_,_,_,_,_,_,_,_,_,_,_,_,_,_,_,_,_,_,_,_,_,_,_,_,_,_,_,_,_,_,_,_,_,_,_,_,_,_,_,_,_,_,_,_,_,_,_,_,_,_,_,_,_,_,_,_,_,_,_,_,_,_,_,_,_,_,_,_,_,_,_,_,_,_,_,_,_,_,_,_,_,_,_,_,_,_,_,_,_,_,_,_,_,_,_,_,_,_,_,_,_,_,_,_,_,_,_,_,_,_,_,_,_,_,_,_,_]) rfl ?_
                            refine d_gval (y_sub rfl (ev_of rfl) (ev_of rfl) (by omega) (by omega)) (wanted_of rfl rfl rfl rfl rfl) rfl (l' := _) rfl ?_
                            refine d_gval (y_idx (n := i - 1) rfl Ty.elem22 Ty.size2 (ev_of rfl) (ev_of rfl) (by repeat first | assumption | with_reducible exact ent_blk | exact Ent.here arr_reads | exact Ent.here one_I64 | exact Ent.here one_Cell | exact Ent.here one_Bool | exact Ent.here one_Rect | refine Ent.there ?_) (by omega) (by omega)) (wanted_of rfl rfl rfl rfl rfl) rfl (l' := _) rfl ?_
                            refine d_gval (y_ldI rfl Ty.some2 Ty.agg2 (ev_of rfl) (by repeat first | assumption | with_reducible exact ent_blk | exact Ent.here arr_reads | exact Ent.here one_I64 | exact Ent.here one_Cell | exact Ent.here one_Bool | exact Ent.here one_Rect | refine Ent.there ?_) (by omega)) (wanted_of rfl rfl rfl rfl rfl) rfl (l' := _) rfl ?_
                            refine d_gval (y_sub rfl (ev_of rfl) (ev_of rfl) (by omega) (by omega)) (wanted_of rfl rfl rfl rfl rfl) rfl (l' := [_,_,_,_,_,_,_,_,_,_,_,_,_,_,_,_,_,_,_,_,_,_,_,_,_,_,_,_,_,_,_,_,_,_,_,_,_,_,_,_,_,_,_,_,_,_,_,_,_,_,_,_,_,_,_,_,_,_,_,_,_,_,_,_,_,_,_,_,_,_,_,_,_,_,_,_,_,_,_,_,_,_,_,_,_,_,_,_,_,_,_,_,_,_,_,_,_,_,_,_,_,_,_,_,_,_,_,_,_,_,_,_,_,_,_,_,_,_,_,_,_,_,_,_,_,_,_,_,_,_,_,_,_,_,_,_,_,_,_,_,_,_,_,_,_,_,_,_,_,_,_,_,_,_,_,_,_,_,_,_,_,_,_,_,_,_,_,_,_,_,_,_,_,_,_,_,_,_,_,_,_,_,_,_,_,_,_,_,_,_]) rfl ?_
                            refine d_gval (y_gtr rfl (ev_of rfl) (ev_of rfl)) (wanted_of rfl rfl rfl rfl rfl) rfl (l' := _) rfl ?_
                            refine d_gval (y_mv rfl (ev_of rfl)) (wanted_of rfl rfl rfl rfl rfl) rfl (l' := _) rfl ?_
                            refine d_known (t := 143) (b := false) rfl (decide_eq_false (by omega)) ?_
                            refine nlD (l' := _) rfl ?_
                            refine d_gval (y_mv rfl (ev_of rfl)) (wanted_of rfl rfl rfl rfl rfl) rfl (l' := [_,_,_,_,_,_,_,_,_,_,_,_,_,_,_,_,_,_,_,_,_,_,_,_,_,_,_,_,_,_,_,_,_,_,_,_,_,_,_,_,_,_,_,_,_,_,_,_,_,_,_,_,_,_,_,_,_,_,_,_,_,_,_,_,_,_,_,_,_,_,_,_,_,_,_,_,_,_,_,_,_,_,_,_,_,_,_,_,_,_,_,_,_,_,_,_,_,_,_,_,_,_,_,_,_,_,_,_,_,_,_,_,_,_,_,_,_,_,_,_,_,_,_,_,_,_,_,_,_,_,_,_,_,_,_,_,_,_,_,_,_,_,_,_,_,_,_,_,_,_,_,_,_,_,_,_,_,_,_,_,_,_,_,_,_,_,_,_,_,_,_,_,_,_,_,_,_,_,_,_,_,_,_,_,_,_,_,_,_,_]) rfl ?_
                            refine d_gval (y_mv rfl (ev_of rfl)) (wanted_of rfl rfl rfl rfl rfl) rfl (l' := _) rfl ?_
                            refine d_gval (y_sub rfl (ev_of rfl) (ev_of rfl) (by omega) (by omega)) (wanted_of rfl rfl rfl rfl rfl) rfl (l' := _) rfl ?_
                            refine d_gval (y_idx (n := i - 1) rfl Ty.elem22 Ty.size2 (ev_of rfl) (ev_of rfl) (by repeat first | assumption | with_reducible exact ent_blk | exact Ent.here arr_reads | exact Ent.here one_I64 | exact Ent.here one_Cell | exact Ent.here one_Bool | exact Ent.here one_Rect | refine Ent.there ?_) (by omega) (by omega)) (wanted_of rfl rfl rfl rfl rfl) rfl (l' := _) rfl ?_
                            refine d_gval (y_ldI rfl Ty.some2 Ty.agg2 (ev_of rfl) (by repeat first | assumption | with_reducible exact ent_blk | exact Ent.here arr_reads | exact Ent.here one_I64 | exact Ent.here one_Cell | exact Ent.here one_Bool | exact Ent.here one_Rect | refine Ent.there ?_) (by omega)) (wanted_of rfl rfl rfl rfl rfl) rfl (l' := [_,_,_,_,_,_,_,_,_,_,_,_,_,_,_,_,_,_,_,_,_,_,_,_,_,_,_,_,_,_,_,_,_,_,_,_,_,_,_,_,_,_,_,_,_,_,_,_,_,_,_,_,_,_,_,_,_,_,_,_,_,_,_,_,_,_,_,_,_,_,_,_,_,_,_,_,_,_,_,_,_,_,_,_,_,_,_,_,_,_,_,_,_,_,_,_,_,_,_,_,_,_,_,_,_,_,_,_,_,_,_,_,_,_,_,_,_,_,_,_,_,_,_,_,_,_,_,_,_,_,_,_,_,_,_,_,_,_,_,_,_,_,_,_,_,_,_,_,_,_,_,_,_,_,_,_,_,_,_,_,_,_,_,_,_,_,_,_,_,_,_,_,_,_,_,_,_,_,_,_,_,_,_,_,_,_,_,_,_,_]) rfl ?_
                            refine d_gval (y_mv rfl (ev_of rfl)) (wanted_of rfl rfl rfl rfl rfl) rfl (l' := _) rfl ?_
                            refine d_gval (y_mv rfl (ev_of rfl)) (wanted_of rfl rfl rfl rfl rfl) rfl (l' := _) rfl ?_
                            refine d_gval (y_idx rfl Ty.elem22 Ty.size2 (ev_of rfl) (ev_of rfl) (by repeat first | assumption | with_reducible exact ent_blk | exact Ent.here arr_reads | exact Ent.here one_I64 | exact Ent.here one_Cell | exact Ent.here one_Bool | exact Ent.here one_Rect | refine Ent.there ?_) (by first | rfl | exact (Int.toNat_of_nonneg (by omega)).symm) (by omega)) (wanted_of rfl rfl rfl rfl rfl) rfl (l' := _) rfl ?_
                            refine d_gval (y_ldI rfl Ty.some2 Ty.agg2 (ev_of rfl) (by repeat first | assumption | with_reducible exact ent_blk | exact Ent.here arr_reads | exact Ent.here one_I64 | exact Ent.here one_Cell | exact Ent.here one_Bool | exact Ent.here one_Rect | refine Ent.there ?_) (by omega)) (wanted_of rfl rfl rfl rfl rfl) rfl (l' := [_,_,_,_,_,_,_,_,_,_,_,_,_,_,_,_,_,_,_,_,_,_,_,_,_,_,_,_,_,_,_,_,_,_,_,_,_,_,_,_,_,_,_,_,_,_,_,_,_,_,_,_,_,_,_,_,_,_,_,_,_,_,_,_,_,_,_,_,_,_,_,_,_,_,_,_,_,_,_,_,_,_,_,_,_,_,_,_,_,_,_,_,_,_,_,_,_,_,_,_,_,_,_,_,_,_,_,_,_,_,_,_,_,_,_,_,_,_,_,_,_,_,_,_,_,_,_,_,_,_,_,_,_,_,_,_,_,_,_,_,_,_,_,_,_,_,_,_,_,_,_,_,_,_,_,_,_,_,_,_,_,_,_,_,_,_,_,_,_,_,_,_,_,_,_,_,_,_,_,_,_,_,_,_,_,_,_,_,_,_]) rfl ?_
                            refine d_gval (y_sub rfl (ev_of rfl) (ev_of rfl) (by omega) (by omega)) (wanted_of rfl rfl rfl rfl rfl) rfl (l' := _) rfl ?_
                            refine d_gval (y_gtr rfl (ev_of rfl) (ev_of rfl)) (wanted_of rfl rfl rfl rfl rfl) rfl (l' := _) rfl ?_
                            refine d_gval (y_pick0 rfl (ev_of rfl) (ev_of rfl)) (wanted_of rfl rfl rfl rfl rfl) rfl (l' := _) rfl ?_
                            refine d_val (y_pick1 rfl (ev_of rfl) (ev_of rfl)) rfl rfl (l' := [_,_,_,_,_,_,_,_,_,_,_,_,_,_,_,_,_,_,_,_,_,_,_,_,_,_,_,_,_,_,_,_,_,_,_,_,_,_,_,_,_,_,_,_,_,_,_,_,_,_,_,_,_,_,_,_,_,_,_,_,_,_,_,_,_,_,_,_,_,_,_,_,_,_,_,_,_,_,_,_,_,_,_,_,_,_,_,_,_,_,_,_,_,_,_,_,_,_,_,_,_,_,_,_,_,_,_,_,_,_,_,_,_,_,_,_,_,_,_,_,_,_,_,_,_,_,_,_,_,_,_,_,_,_,_,_,_,_,_,_,_,_,_,_,_,_,_,_,_,_,_,_,_,_,_,_,_,_,_,_,_,_,_,_,_,_,_,_,_,_,_,_,_,_,_,_,_,_,_,_,_,_,_,_,_,_,_,_,_,_]) rfl ?_
                            refine d_val (y_mv rfl (ev_of rfl)) rfl rfl (l' := _) rfl ?_
                            refine d_known (t := 157) (b := false) rfl (decide_eq_false (by omega)) ?_
                            refine nlD (l' := _) rfl ?_
                            refine d_gval (y_mv rfl (ev_of rfl)) (wanted_of rfl rfl rfl rfl rfl) rfl (l' := _) rfl ?_
                            refine d_gval (y_mv rfl (ev_of rfl)) (wanted_of rfl rfl rfl rfl rfl) rfl (l' := [_,_,_,_,_,_,_,_,_,_,_,_,_,_,_,_,_,_,_,_,_,_,_,_,_,_,_,_,_,_,_,_,_,_,_,_,_,_,_,_,_,_,_,_,_,_,_,_,_,_,_,_,_,_,_,_,_,_,_,_,_,_,_,_,_,_,_,_,_,_,_,_,_,_,_,_,_,_,_,_,_,_,_,_,_,_,_,_,_,_,_,_,_,_,_,_,_,_,_,_,_,_,_,_,_,_,_,_,_,_,_,_,_,_,_,_,_,_,_,_,_,_,_,_,_,_,_,_,_,_,_,_,_,_,_,_,_,_,_,_,_,_,_,_,_,_,_,_,_,_,_,_,_,_,_,_,_,_,_,_,_,_,_,_,_,_,_,_,_,_,_,_,_,_,_,_,_,_,_,_,_,_,_,_,_,_,_,_,_,_]) rfl ?_
                            refine d_gval (y_geq rfl (ev_of rfl) (ev_of rfl)) (wanted_of rfl rfl rfl rfl rfl) rfl (l' := _) rfl ?_
                            refine d_gval (y_mv rfl (ev_of rfl)) (wanted_of rfl rfl rfl rfl rfl) rfl (l' := _) rfl ?_
                            refine d_known (t := 161) (b := false) rfl (decide_eq_false (by omega)) ?_
                            refine nlD (l' := _) rfl ?_
                            refine d_skip (wanted_of rfl rfl rfl rfl rfl) rfl (l' := [_,_,_,_,_,_,_,_,_,_,_,_,_,_,_,_,_,_,_,_,_,_,_,_,_,_,_,_,_,_,_,_,_,_,_,_,_,_,_,_,_,_,_,_,_,_,_,_,_,_,_,_,_,_,_,_,_,_,_,_,_,_,_,_,_,_,_,_,_,_,_,_,_,_,_,_,_,_,_,_,_,_,_,_,_,_,_,_,_,_,_,_,_,_,_,_,_,_,_,_,_,_,_,_,_,_,_,_,_,_,_,_,_,_,_,_,_,_,_,_,_,_,_,_,_,_,_,_,_,_,_,_,_,_,_,_,_,_,_,_,_,_,_,_,_,_,_,_,_,_,_,_,_,_,_,_,_,_,_,_,_,_,_,_,_,_,_,_,_,_,_,_,_,_,_,_,_,_,_,_,_,_,_,_,_,_,_,_,_,_]) rfl ?_
                            refine d_skip (wanted_of rfl rfl rfl rfl rfl) rfl (l' := _) rfl ?_
                            refine d_skip (wanted_of rfl rfl rfl rfl rfl) rfl (l' := _) rfl ?_
                            refine d_skip (wanted_of rfl rfl rfl rfl rfl) rfl (l' := _) rfl ?_
                            refine d_skip (wanted_of rfl rfl rfl rfl rfl) rfl (l' := [_,_,_,_,_,_,_,_,_,_,_,_,_,_,_,_,_,_,_,_,_,_,_,_,_,_,_,_,_,_,_,_,_,_,_,_,_,_,_,_,_,_,_,_,_,_,_,_,_,_,_,_,_,_,_,_,_,_,_,_,_,_,_,_,_,_,_,_,_,_,_,_,_,_,_,_,_,_,_,_,_,_,_,_,_,_,_,_,_,_,_,_,_,_,_,_,_,_,_,_,_,_,_,_,_,_,_,_,_,_,_,_,_,_,_,_,_,_,_,_,_,_,_,_,_,_,_,_,_,_,_,_,_,_,_,_,_,_,_,_,_,_,_,_,_,_,_,_,_,_,_,_,_,_,_,_,_,_,_,_,_,_,_,_,_,_,_,_,_,_,_,_,_,_,_,_,_,_,_,_,_,_,_,_,_,_,_,_,_,_]) rfl ?_
                            refine d_skip (wanted_of rfl rfl rfl rfl rfl) rfl (l' := _) rfl ?_
                            refine d_skip (wanted_of rfl rfl rfl rfl rfl) rfl (l' := _) rfl ?_
                            refine d_skip (wanted_of rfl rfl rfl rfl rfl) rfl (l' := _) rfl ?_
                            refine d_skip (wanted_of rfl rfl rfl rfl rfl) rfl (l' := [_,_,_,_,_,_,_,_,_,_,_,_,_,_,_,_,_,_,_,_,_,_,_,_,_,_,_,_,_,_,_,_,_,_,_,_,_,_,_,_,_,_,_,_,_,_,_,_,_,_,_,_,_,_,_,_,_,_,_,_,_,_,_,_,_,_,_,_,_,_,_,_,_,_,_,_,_,_,_,_,_,_,_,_,_,_,_,_,_,_,_,_,_,_,_,_,_,_,_,_,_,_,_,_,_,_,_,_,_,_,_,_,_,_,_,_,_,_,_,_,_,_,_,_,_,_,_,_,_,_,_,_,_,_,_,_,_,_,_,_,_,_,_,_,_,_,_,_,_,_,_,_,_,_,_,_,_,_,_,_,_,_,_,_,_,_,_,_,_,_,_,_,_,_,_,_,_,_,_,_,_,_,_,_,_,_,_,_,_,_]) rfl ?_
                            refine d_skip (wanted_of rfl rfl rfl rfl rfl) rfl (l' := _) rfl ?_
                            refine d_skip (wanted_of rfl rfl rfl rfl rfl) rfl (l' := _) rfl ?_
                            refine d_skip (wanted_of rfl rfl rfl rfl rfl) rfl (l' := _) rfl ?_
                            refine d_skip (wanted_of rfl rfl rfl rfl rfl) rfl (l' := [_,_,_,_,_,_,_,_,_,_,_,_,_,_,_,_,_,_,_,_,_,_,_,_,_,_,_,_,_,_,_,_,_,_,_,_,_,_,_,_,_,_,_,_,_,_,_,_,_,_,_,_,_,_,_,_,_,_,_,_,_,_,_,_,_,_,_,_,_,_,_,_,_,_,_,_,_,_,_,_,_,_,_,_,_,_,_,_,_,_,_,_,_,_,_,_,_,_,_,_,_,_,_,_,_,_,_,_,_,_,_,_,_,_,_,_,_,_,_,_,_,_,_,_,_,_,_,_,_,_,_,_,_,_,_,_,_,_,_,_,_,_,_,_,_,_,_,_,_,_,_,_,_,_,_,_,_,_,_,_,_,_,_,_,_,_,_,_,_,_,_,_,_,_,_,_,_,_,_,_,_,_,_,_,_,_,_,_,_,_]) rfl ?_
                            refine d_skip (wanted_undef rfl rfl rfl rfl) rfl (l' := _) rfl ?_
                            refine d_skip (wanted_undef rfl rfl rfl rfl) rfl (l' := _) rfl ?_
                            refine d_skip (wanted_undef rfl rfl rfl rfl) rfl (l' := _) rfl ?_
                            refine d_skip (wanted_undef rfl rfl rfl rfl) rfl (l' := [_,_,_,_,_,_,_,_,_,_,_,_,_,_,_,_,_,_,_,_,_,_,_,_,_,_,_,_,_,_,_,_,_,_,_,_,_,_,_,_,_,_,_,_,_,_,_,_,_,_,_,_,_,_,_,_,_,_,_,_,_,_,_,_,_,_,_,_,_,_,_,_,_,_,_,_,_,_,_,_,_,_,_,_,_,_,_,_,_,_,_,_,_,_,_,_,_,_,_,_,_,_,_,_,_,_,_,_,_,_,_,_,_,_,_,_,_,_,_,_,_,_,_,_,_,_,_,_,_,_,_,_,_,_,_,_,_,_,_,_,_,_,_,_,_,_,_,_,_,_,_,_,_,_,_,_,_,_,_,_,_,_,_,_,_,_,_,_,_,_,_,_,_,_,_,_,_,_,_,_,_,_,_,_,_,_,_,_,_,_]) rfl ?_
                            refine d_skip (wanted_undef rfl rfl rfl rfl) rfl (l' := _) rfl ?_
                            refine d_skip (wanted_undef rfl rfl rfl rfl) rfl (l' := _) rfl ?_
                            refine d_skip (wanted_undef rfl rfl rfl rfl) rfl (l' := _) rfl ?_
                            refine d_skip (wanted_undef rfl rfl rfl rfl) rfl (l' := [_,_,_,_,_,_,_,_,_,_,_,_,_,_,_,_,_,_,_,_,_,_,_,_,_,_,_,_,_,_,_,_,_,_,_,_,_,_,_,_,_,_,_,_,_,_,_,_,_,_,_,_,_,_,_,_,_,_,_,_,_,_,_,_,_,_,_,_,_,_,_,_,_,_,_,_,_,_,_,_,_,_,_,_,_,_,_,_,_,_,_,_,_,_,_,_,_,_,_,_,_,_,_,_,_,_,_,_,_,_,_,_,_,_,_,_,_,_,_,_,_,_,_,_,_,_,_,_,_,_,_,_,_,_,_,_,_,_,_,_,_,_,_,_,_,_,_,_,_,_,_,_,_,_,_,_,_,_,_,_,_,_,_,_,_,_,_,_,_,_,_,_,_,_,_,_,_,_,_,_,_,_,_,_,_,_,_,_,_,_]) rfl ?_
                            refine d_skip (wanted_undef rfl rfl rfl rfl) rfl (l' := _) rfl ?_
                            refine d_skip (wanted_undef rfl rfl rfl rfl) rfl (l' := _) rfl ?_
                            refine d_skip (wanted_undef rfl rfl rfl rfl) rfl (l' := _) rfl ?_
                            refine d_skip (wanted_undef rfl rfl rfl rfl) rfl (l' := [_,_,_,_,_,_,_,_,_,_,_,_,_,_,_,_,_,_,_,_,_,_,_,_,_,_,_,_,_,_,_,_,_,_,_,_,_,_,_,_,_,_,_,_,_,_,_,_,_,_,_,_,_,_,_,_,_,_,_,_,_,_,_,_,_,_,_,_,_,_,_,_,_,_,_,_,_,_,_,_,_,_,_,_,_,_,_,_,_,_,_,_,_,_,_,_,_,_,_,_,_,_,_,_,_,_,_,_,_,_,_,_,_,_,_,_,_,_,_,_,_,_,_,_,_,_,_,_,_,_,_,_,_,_,_,_,_,_,_,_,_,_,_,_,_,_,_,_,_,_,_,_,_,_,_,_,_,_,_,_,_,_,_,_,_,_,_,_,_,_,_,_,_,_,_,_,_,_,_,_,_,_,_,_,_,_,_,_,_,_]) rfl ?_
                            refine d_skip (wanted_of rfl rfl rfl rfl rfl) rfl (l' := _) rfl ?_
                            refine d_gval (y_pick0 rfl (ev_of rfl) (ev_of rfl)) (wanted_of rfl rfl rfl rfl rfl) rfl (l' := _) rfl ?_
                            refine d_val (y_pick0 rfl (ev_of rfl) (ev_of rfl)) rfl rfl (l' := _) rfl ?_
                            refine d_end (fun w36 s35 => ?_)
                            clear s30
                            simp only [List.append_nil, List.cons_append, List.nil_append] at s35
                            refine l_end ?_
                            refine x_thenN ?_
                            refine c_condF rfl ?_
                            refine c_skip ?_
                            refine x_blockN ?_
                            refine x_thenN ?_
                            refine c_region ?_
                            refine l_val s35 (y_mv rfl (ev_of rfl)) rfl rfl (l' := [_,_,_,_,_,_,_,_,_,_,_,_,_,_,_,_,_,_,_,_,_,_,_,_,_,_,_,_,_,_,_,_,_,_,_,_,_,_,_,_,_,_,_,_,_,_,_,_,_,_,_,_,_,_,_,_,_,_,_,_,_,_,_,_,_,_,_,_,_,_,_,_,_,_,_,_,_,_,_,_,_,_,_,_,_,_,_,_,_,_,_,_,_,_,_,_,_,_,_,_,_,_,_,_,_,_,_,_,_,_,_,_,_,_,_,_,_,_,_,_,_,_,_,_,_,_,_,_,_,_,_,_,_,_,_,_,_,_,_,_,_,_,_,_,_,_,_,_,_,_,_,_,_,_,_,_,_,_,_,_,_,_,_,_,_,_,_,_,_,_,_,_,_,_,_,_,_,_,_,_,_,_,_,_,_,_,_,_,_,_]) rfl ?_
                            refine l_val s35 (y_add rfl (ev_of rfl) (ev_of rfl) (by omega) (by omega)) rfl rfl (l' := _) rfl ?_
                            refine l_val s35 (y_as rfl (ev_of rfl)) rfl rfl (l' := _) rfl ?_
                            refine l_end ?_
                            refine x_thenN ?_
                            refine ⟨_, [_, _, _, _, _, _, _, _, _, _, _, _, _, _, _, _, _, _, _, _, _, _, _, _, _, _, _, _, _, _, _, _, _, _, _, _, _, _, _, _, _, _, _, _, _, _, _, _, _, _, _, _, _, _, _, _, _, _, _, _, _, _, _, _, _, _, _, _, _, _, _, _, _, _, _, _, _, _, _, _, _, _, _, _, _, _, _, _, _, _, _, _, _, _, _, _, _, _, _, _, _, _, _, _, _, _, _, _, _, _, _, _, _, _, _, _], ?_, rfl, i + 1, [_, _, _, _, _, _, _, _, _, _, _, _, _, _, _, _, _, _, _, _, _, _, _, _, _, _, _, _, _, _, _, _, _, _, _, _, _, _, _, _, _, _, _, _, _, _, _, _, _, _, _, _, _, _, _, _, _, _, _, _, _, _, _, _, _, _, _, _, _, _, _, _, _, _, _, _, _, _, _, _, _, _, _, _, _, _, _, _, _, _, _, _, _, _, _, _, _, _, _, _, _, _, _, _, _, _, _, _, _, _, _, _, _, _, _], rfl, rfl, ?_, ?_⟩
                            · omega
                            · first | exact s35 | exact s35.sub (by repeat first | with_reducible exact Sub.refl _ | exact Sub.nil _ | refine Sub.take (by repeat first | with_reducible exact Take.here _ _ | apply Take.there) ?_ | refine Sub.skip _ ?_)
                            · trivial
                        · skip
                          by_cases hy : W ≤ i
                          · skip
                            have l3 := hA.near hi (show i - W < v.length by omega) (man_up (by omega) hy)
                            have l4 := hA.near (show i - W < v.length by omega) hi (by rw [man_comm]; exact man_up (by omega) hy)
                            apply c_drawn [] [0, 1, 2, 3, 4, 5, 6, 7, 8, 9, 10, 11, 12, 13, 14, 15, 16, 17, 18, 19, 20, 21, 22, 23, 24, 25, 26, 27, 28, 29, 30, 31, 32, 33, 34, 35, 36, 37, 38, 39, 40, 41, 42, 43, 44, 45, 46, 47, 48, 49, 50, 51, 52, 53, 54, 55, 56, 57, 58, 59, 60, 61, 62] [] [] [] [(_, vq _), (_, vq _), (_, vq _), (_, vq _), (_, vq _), (_, vq _), (_, vq _), (_, vq _), (_, vq _), (_, vq _), (_, vq _), (_, vq _), (_, vq _), (_, vq _), (_, vq _), (_, vq _), (_, vq _), (_, vq _), (_, vq _), (_, vq _), (_, vq _), (_, vq _), (_, vq _), (_, vq _), (_, vq _), (_, vq _), (_, vq _), (_, vq _), (_, vq _), (_, vq _), (_, vq _), (_, vq _), (_, vq _), (_, vq _), (_, vq _), (_, vq _), (_, vq _), (_, vq _), (_, vq _), (_, vq _), (_, vq _), (_, vq _), (_, vq _), (_, vq _), (_, vq _), (_, vq _), (_, vq _), (_, vq _), (_, vq _), (_, vq _), (_, vq _), (_, vq _), (_, vq _), (_, vq _), (_, vq _), (_, vq _), (_, vq _), (_, vq _), (_, vq _), (_, vq _), (_, vq _), (_, vq _), (_, vq _)] s30 Ty.follows (by kernel_rfl) (fun _ _ _ h => h.2) rfl rfl rfl (by decide) ?_
                            show WP _ _ _ _ _
                            refine p_end ?_
                            refine d_val (y_mv rfl (ev_of rfl)) rfl rfl (l' := _) rfl ?_
                            refine d_val (y_mv rfl (ev_of rfl)) rfl rfl (l' := [_,_,_,_,_,_,_,_,_,_,_,_,_,_,_,_,_,_,_,_,_,_,_,_,_,_,_,_,_,_,_,_,_,_,_,_,_,_,_,_,_,_,_,_,_,_,_,_,_,_,_,_,_,_,_,_,_,_,_,_,_,_,_,_,_,_,_,_,_,_,_,_,_,_,_,_,_,_,_,_,_,_,_,_,_,_,_,_,_,_,_,_,_,_,_,_,_,_,_,_,_,_,_,_,_,_,_,_,_,_,_,_,_,_,_,_,_,_,_,_,_,_,_,_,_,_,_,_,_,_,_,_,_,_,_,_,_,_,_,_,_,_,_,_,_,_,_,_,_,_,_,_,_,_,_,_,_,_,_,_,_,_,_,_,_,_,_,_,_,_,_,_,_,_,_,_,_,_,_,_,_,_,_,_,_,_,_,_,_,_]) rfl ?_
                            refine d_val (y_rem rfl (ev_of rfl) (ev_of rfl) (by omega) (by omega)) rfl rfl (l' := _) rfl ?_
                            refine d_val (y_gtr rfl (ev_of rfl) (ev_of rfl)) rfl rfl (l' := _) rfl ?_
                            refine d_val (y_mv rfl (ev_of rfl)) rfl rfl (l' := _) rfl ?_
                            refine d_known (t := 131) (b := false) rfl (decide_eq_false (by omega)) ?_
                            refine nlD (l' := [_,_,_,_,_,_,_,_,_,_,_,_,_,_,_,_,_,_,_,_,_,_,_,_,_,_,_,_,_,_,_,_,_,_,_,_,_,_,_,_,_,_,_,_,_,_,_,_,_,_,_,_,_,_,_,_,_,_,_,_,_,_,_,_,_,_,_,_,_,_,_,_,_,_,_,_,_,_,_,_,_,_,_,_,_,_,_,_,_,_,_,_,_,_,_,_,_,_,_,_,_,_,_,_,_,_,_,_,_,_,_,_,_,_,_,_,_,_,_,_,_,_,_,_,_,_,_,_,_,_,_,_,_,_,_,_,_,_,_,_,_,_,_,_,_,_,_,_,_,_,_,_,_,_,_,_,_,_,_,_,_,_,_,_,_,_,_,_,_,_,_,_,_,_,_,_,_,_,_,_,_,_,_,_,_,_,_,_,_,_]) rfl ?_
                            refine d_skip (wanted_of rfl rfl rfl rfl rfl) rfl (l' := _) rfl ?_
                            refine d_skip (wanted_of rfl rfl rfl rfl rfl) rfl (l' := _) rfl ?_
                            refine d_skip (wanted_of rfl rfl rfl rfl rfl) rfl (l' := _) rfl ?_
                            refine d_skip (wanted_of rfl rfl rfl rfl rfl) rfl (l' := [_,_,_,_,_,_,_,_,_,_,_,_,_,_,_,_,_,_,_,_,_,_,_,_,_,_,_,_,_,_,_,_,_,_,_,_,_,_,_,_,_,_,_,_,_,_,_,_,_,_,_,_,_,_,_,_,_,_,_,_,_,_,_,_,_,_,_,_,_,_,_,_,_,_,_,_,_,_,_,_,_,_,_,_,_,_,_,_,_,_,_,_,_,_,_,_,_,_,_,_,_,_,_,_,_,_,_,_,_,_,_,_,_,_,_,_,_,_,_,_,_,_,_,_,_,_,_,_,_,_,_,_,_,_,_,_,_,_,_,_,_,_,_,_,_,_,_,_,_,_,_,_,_,_,_,_,_,_,_,_,_,_,_,_,_,_,_,_,_,_,_,_,_,_,_,_,_,_,_,_,_,_,_,_,_,_,_,_,_,_]) rfl ?_
                            refine d_skip (wanted_of rfl rfl rfl rfl rfl) rfl (l' := _) rfl ?_
                            refine d_skip (wanted_of rfl rfl rfl rfl rfl) rfl (l' := _) rfl ?_
                            refine d_skip (wanted_of rfl rfl rfl rfl rfl) rfl (l' := _) rfl ?_
                            refine d_skip (wanted_of rfl rfl rfl rfl rfl) rfl (l' := [_,_,_,_,_,_,_,_,_,_,_,_,_,_,_,_,_,_,_,_,_,_,_,_,_,_,_,_,_,_,_,_,_,_,_,_,_,_,_,_,_,_,_,_,_,_,_,_,_,_,_,_,_,_,_,_,_,_,_,_,_,_,_,_,_,_,_,_,_,_,_,_,_,_,_,_,_,_,_,_,_,_,_,_,_,_,_,_,_,_,_,_,_,_,_,_,_,_,_,_,_,_,_,_,_,_,_,_,_,_,_,_,_,_,_,_,_,_,_,_,_,_,_,_,_,_,_,_,_,_,_,_,_,_,_,_,_,_,_,_,_,_,_,_,_,_,_,_,_,_,_,_,_,_,_,_,_,_,_,_,_,_,_,_,_,_,_,_,_,_,_,_,_,_,_,_,_,_,_,_,_,_,_,_,_,_,_,_,_,_]) rfl ?_
                            refine d_skip (wanted_of rfl rfl rfl rfl rfl) rfl (l' := _) rfl ?_
                            refine d_skip (wanted_of rfl rfl rfl rfl rfl) rfl (l' := _) rfl ?_
                            refine d_skip (wanted_of rfl rfl rfl rfl rfl) rfl (l' := _) rfl ?_
                            refine d_skip (wanted_of rfl rfl rfl rfl rfl) rfl (l' := [_,_,_,_,_,_,_,_,_,_,_,_,_,_,_,_,_,_,_,_,_,_,_,_,_,_,_,_,_,_,_,_,_,_,_,_,_,_,_,_,_,_,_,_,_,_,_,_,_,_,_,_,_,_,_,_,_,_,_,_,_,_,_,_,_,_,_,_,_,_,_,_,_,_,_,_,_,_,_,_,_,_,_,_,_,_,_,_,_,_,_,_,_,_,_,_,_,_,_,_,_,_,_,_,_,_,_,_,_,_,_,_,_,_,_,_,_,_,_,_,_,_,_,_,_,_,_,_,_,_,_,_,_,_,_,_,_,_,_,_,_,_,_,_,_,_,_,_,_,_,_,_,_,_,_,_,_,_,_,_,_,_,_,_,_,_,_,_,_,_,_,_,_,_,_,_,_,_,_,_,_,_,_,_,_,_,_,_,_,_]) rfl ?_
                            refine d_skip (wanted_undef rfl rfl rfl rfl) rfl (l' := _) rfl ?_
                            refine d_skip (wanted_undef rfl rfl rfl rfl) rfl (l' := _) rfl ?_
                            refine d_skip (wanted_undef rfl rfl rfl rfl) rfl (l' := _) rfl ?_
                            refine d_skip (wanted_undef rfl rfl rfl rfl) rfl (l' := [_,_,_,_,_,_,_,_,_,_,_,_,_,_,_,_,_,_,_,_,_,_,_,_,_,_,_,_,_,_,_,_,_,_,_,_,_,_,_,_,_,_,_,_,_,_,_,_,_,_,_,_,_,_,_,_,_,_,_,_,_,_,_,_,_,_,_,_,_,_,_,_,_,_,_,_,_,_,_,_,_,_,_,_,_,_,_,_,_,_,_,_,_,_,_,_,_,_,_,_,_,_,_,_,_,_,_,_,_,_,_,_,_,_,_,_,_,_,_,_,_,_,_,_,_,_,_,_,_,_,_,_,_,_,_,_,_,_,_,_,_,_,_,_,_,_,_,_,_,_,_,_,_,_,_,_,_,_,_,_,_,_,_,_,_,_,_,_,_,_,_,_,_,_,_,_,_,_,_,_,_,_,_,_,_,_,_,_,_,_]) rfl ?_
                            refine d_skip (wanted_undef rfl rfl rfl rfl) rfl (l' := _) rfl ?_
                            refine d_skip (wanted_undef rfl rfl rfl rfl) rfl (l' := _) rfl ?_
                            refine d_skip (wanted_undef rfl rfl rfl rfl) rfl (l' := _) rfl ?_
                            refine d_skip (wanted_undef rfl rfl rfl rfl) rfl (l' := [_,_,_,_,_,_,_,_,_,_,_,_,_,_,_,_,_,_,_,_,_,_,_,_,_,_,_,_,_,_,_,_,_,_,_,_,_,_,_,_,_,_,_,_,_,_,_,_,_,_,_,_,_,_,_,_,_,_,_,_,_,_,_,_,_,_,_,_,_,_,_,_,_,_,_,_,_,_,_,_,_,_,_,_,_,_,_,_,_,_,_,_,_,_,_,_,_,_,_,_,_,_,_,_,_,_,_,_,_,_,_,_,_,_,_,_,_,_,_,_,_,_,_,_,_,_,_,_,_,_,_,_,_,_,_,_,_,_,_,_,_,_,_,_,_,_,_,_,_,_,_,_,_,_,_,_,_,_,_,_,_,_,_,_,_,_,_,_,_,_,_,_,_,_,_,_,_,_,_,_,_,_,_,_,_,_,_,_,_,_]) rfl ?_
                            refine d_skip (wanted_undef rfl rfl rfl rfl) rfl (l' := _) rfl ?_
                            refine d_skip (wanted_undef rfl rfl rfl rfl) rfl (l' := _) rfl ?_
                            refine d_skip (wanted_undef rfl rfl rfl rfl) rfl (l' := _) rfl ?_
                            refine d_skip (wanted_of rfl rfl rfl rfl rfl) rfl (l' := [_,_,_,_,_,_,_,_,_,_,_,_,_,_,_,_,_,_,_,_,_,_,_,_,_,_,_,_,_,_,_,_,_,_,_,_,_,_,_,_,_,_,_,_,_,_,_,_,_,_,_,_,_,_,_,_,_,_,_,_,_,_,_,_,_,_,_,_,_,_,_,_,_,_,_,_,_,_,_,_,_,_,_,_,_,_,_,_,_,_,_,_,_,_,_,_,_,_,_,_,_,_,_,_,_,_,_,_,_,_,_,_,_,_,_,_,_,_,_,_,_,_,_,_,_,_,_,_,_,_,_,_,_,_,_,_,_,_,_,_,_,_,_,_,_,_,_,_,_,_,_,_,_,_,_,_,_,_,_,_,_,_,_,_,_,_,_,_,_,_,_,_,_,_,_,_,_,_,_,_,_,_,_,_,_,_,_,_,_,_]) rfl ?_
                            refine d_val (y_pick0 rfl (ev_of rfl) (ev_of rfl)) rfl rfl (l' := _) rfl ?_
                            refine d_val (y_mv rfl (ev_of rfl)) rfl rfl (l' := _) rfl ?_
                            refine d_gval (y_mv rfl (ev_of rfl)) (wanted_of rfl rfl rfl rfl rfl) rfl (l' := _) rfl ?_
                            refine d_gval (y_mv rfl (ev_of rfl)) (wanted_of rfl rfl rfl rfl rfl) rfl (l' := [_,_,_,_,_,_,_,_,_,_,_,_,_,_,_,_,_,_,_,_,_,_,_,_,_,_,_,_,_,_,_,_,_,_,_,_,_,_,_,_,_,_,_,_,_,_,_,_,_,_,_,_,_,_,_,_,_,_,_,_,_,_,_,_,_,_,_,_,_,_,_,_,_,_,_,_,_,_,_,_,_,_,_,_,_,_,_,_,_,_,_,_,_,_,_,_,_,_,_,_,_,_,_,_,_,_,_,_,_,_,_,_,_,_,_,_,_,_,_,_,_,_,_,_,_,_,_,_,_,_,_,_,_,_,_,_,_,_,_,_,_,_,_,_,_,_,_,_,_,_,_,_,_,_,_,_,_,_,_,_,_,_,_,_,_,_,_,_,_,_,_,_,_,_,_,_,_,_,_,_,_,_,_,_,_,_,_,_,_,_]) rfl ?_
                            refine d_gval (y_geq rfl (ev_of rfl) (ev_of rfl)) (wanted_of rfl rfl rfl rfl rfl) rfl (l' := _) rfl ?_
                            refine d_gval (y_mv rfl (ev_of rfl)) (wanted_of rfl rfl rfl rfl rfl) rfl (l' := _) rfl ?_
                            refine d_known (t := 161) (b := true) rfl (decide_eq_true (by omega)) ?_
                            refine nlD (l' := _) rfl ?_
                            refine d_gval (y_mv rfl (ev_of rfl)) (wanted_of rfl rfl rfl rfl rfl) rfl (l' := [_,_,_,_,_,_,_,_,_,_,_,_,_,_,_,_,_,_,_,_,_,_,_,_,_,_,_,_,_,_,_,_,_,_,_,_,_,_,_,_,_,_,_,_,_,_,_,_,_,_,_,_,_,_,_,_,_,_,_,_,_,_,_,_,_,_,_,_,_,_,_,_,_,_,_,_,_,_,_,_,_,_,_,_,_,_,_,_,_,_,_,_,_,_,_,_,_,_,_,_,_,_,_,_,_,_,_,_,_,_,_,_,_,_,_,_,_,_,_,_,_,_,_,_,_,_,_,_,_,_,_,_,_,_,_,_,_,_,_,_,_,_,_,_,_,_,_,_,_,_,_,_,_,_,_,_,_,_,_,_,_,_,_,_,_,_,_,_,_,_,_,_,_,_,_,_,_,_,_,_,_,_,_,_,_,_,_,_,_,_]) rfl ?_
                            refine d_gval (y_mv rfl (ev_of rfl)) (wanted_of rfl rfl rfl rfl rfl) rfl (l' := _) rfl ?_
                            refine d_gval (y_idx rfl Ty.elem22 Ty.size2 (ev_of rfl) (ev_of rfl) (by repeat first | assumption | with_reducible exact ent_blk | exact Ent.here arr_reads | exact Ent.here one_I64 | exact Ent.here one_Cell | exact Ent.here one_Bool | exact Ent.here one_Rect | refine Ent.there ?_) (by first | rfl | exact (Int.toNat_of_nonneg (by omega)).symm) (by omega)) (wanted_of rfl rfl rfl rfl rfl) rfl (l' := _) rfl ?_
                            refine d_gval (y_ldI rfl Ty.some2 Ty.agg2 (ev_of rfl) (by repeat first | assumption | with_reducible exact ent_blk | exact Ent.here arr_reads | exact Ent.here one_I64 | exact Ent.here one_Cell | exact Ent.here one_Bool | exact Ent.here one_Rect | refine Ent.there ?_) (by omega)) (wanted_of rfl rfl rfl rfl rfl) rfl (l' := _) rfl ?_
                            refine d_gval (y_mv rfl (ev_of rfl)) (wanted_of rfl rfl rfl rfl rfl) rfl (l' := [_,_,_,_,_,_,_,_,_,_,_,_,_,_,_,_,_,_,_,_,_,_,_,_,_,_,_,_,_,_,_,_,_,_,_,_,_,_,_,_,_,_,_,_,_,_,_,_,_,_,_,_,_,_,_,_,_,_,_,_,_,_,_,_,_,_,_,_,_,_,_,_,_,_,_,_,_,_,_,_,_,_,_,_,_,_,_,_,_,_,_,_,_,_,_,_,_,_,_,_,_,_,_,_,_,_,_,_,_,_,_,_,_,_,_,_,_,_,_,_,_,_,_,_,_,_,_,_,_,_,_,_,_,_,_,_,_,_,_,_,_,_,_,_,_,_,_,_,_,_,_,_,_,_,_,_,_,_,_,_,_,_,_,_,_,_,_,_,_,_,_,_,_,_,_,_,_,_,_,_,_,_,_,_,_,_,_,_,_,_]) rfl ?_
                            refine d_gval (y_mv rfl (ev_of rfl)) (wanted_of rfl rfl rfl rfl rfl) rfl (l' := _) rfl ?_
                            refine d_gval (y_mv rfl (ev_of rfl)) (wanted_of rfl rfl rfl rfl rfl) rfl (l' := _) rfl ?_
                            refine d_gval (y_sub rfl (ev_of rfl) (ev_of rfl) (by omega) (by omega)) (wanted_of rfl rfl rfl rfl rfl) rfl (l' := _) rfl ?_
                            refine d_gval (y_idx (n := i - W) rfl Ty.elem22 Ty.size2 (ev_of rfl) (ev_of rfl) (by repeat first | assumption | with_reducible exact ent_blk | exact Ent.here arr_reads | exact Ent.here one_I64 | exact Ent.here one_Cell | exact Ent.here one_Bool | exact Ent.here one_Rect | refine Ent.there ?_) (by omega) (by omega)) (wanted_of rfl rfl rfl rfl rfl) rfl (l' := [_,_,_,_,_,_,_,_,_,_,_,_,_,_,_,_,_,_,_,_,_,_,_,_,_,_,_,_,_,_,_,_,_,_,_,_,_,_,_,_,_,_,_,_,_,_,_,_,_,_,_,_,_,_,_,_,_,_,_,_,_,_,_,_,_,_,_,_,_,_,_,_,_,_,_,_,_,_,_,_,_,_,_,_,_,_,_,_,_,_,_,_,_,_,_,_,_,_,_,_,_,_,_,_,_,_,_,_,_,_,_,_,_,_,_,_,_,_,_,_,_,_,_,_,_,_,_,_,_,_,_,_,_,_,_,_,_,_,_,_,_,_,_,_,_,_,_,_,_,_,_,_,_,_,_,_,_,_,_,_,_,_,_,_,_,_,_,_,_,_,_,_,_,_,_,_,_,_,_,_,_,_,_,_,_,_,_,_,_,_]) rfl ?_
                            refine d_gval (y_ldI rfl Ty.some2 Ty.agg2 (ev_of rfl) (by repeat first | assumption | with_reducible exact ent_blk | exact Ent.here arr_reads | exact Ent.here one_I64 | exact Ent.here one_Cell | exact Ent.here one_Bool | exact Ent.here one_Rect | refine Ent.there ?_) (by omega)) (wanted_of rfl rfl rfl rfl rfl) rfl (l' := _) rfl ?_
                            refine d_gval (y_sub rfl (ev_of rfl) (ev_of rfl) (by omega) (by omega)) (wanted_of rfl rfl rfl rfl rfl) rfl (l' := _) rfl ?_
                            refine d_gval (y_gtr rfl (ev_of rfl) (ev_of rfl)) (wanted_of rfl rfl rfl rfl rfl) rfl (l' := _) rfl ?_
                            refine d_gval (y_mv rfl (ev_of rfl)) (wanted_of rfl rfl rfl rfl rfl) rfl (l' := [_,_,_,_,_,_,_,_,_,_,_,_,_,_,_,_,_,_,_,_,_,_,_,_,_,_,_,_,_,_,_,_,_,_,_,_,_,_,_,_,_,_,_,_,_,_,_,_,_,_,_,_,_,_,_,_,_,_,_,_,_,_,_,_,_,_,_,_,_,_,_,_,_,_,_,_,_,_,_,_,_,_,_,_,_,_,_,_,_,_,_,_,_,_,_,_,_,_,_,_,_,_,_,_,_,_,_,_,_,_,_,_,_,_,_,_,_,_,_,_,_,_,_,_,_,_,_,_,_,_,_,_,_,_,_,_,_,_,_,_,_,_,_,_,_,_,_,_,_,_,_,_,_,_,_,_,_,_,_,_,_,_,_,_,_,_,_,_,_,_,_,_,_,_,_,_,_,_,_,_,_,_,_,_,_,_,_,_,_,_]) rfl ?_
                            refine d_known (t := 174) (b := false) rfl (decide_eq_false (by omega)) ?_
                            refine nlD (l' := _) rfl ?_
                            refine d_gval (y_mv rfl (ev_of rfl)) (wanted_of rfl rfl rfl rfl rfl) rfl (l' := _) rfl ?_
                            refine d_gval (y_mv rfl (ev_of rfl)) (wanted_of rfl rfl rfl rfl rfl) rfl (l' := _) rfl ?_
                            refine d_gval (y_mv rfl (ev_of rfl)) (wanted_of rfl rfl rfl rfl rfl) rfl (l' := [_,_,_,_,_,_,_,_,_,_,_,_,_,_,_,_,_,_,_,_,_,_,_,_,_,_,_,_,_,_,_,_,_,_,_,_,_,_,_,_,_,_,_,_,_,_,_,_,_,_,_,_,_,_,_,_,_,_,_,_,_,_,_,_,_,_,_,_,_,_,_,_,_,_,_,_,_,_,_,_,_,_,_,_,_,_,_,_,_,_,_,_,_,_,_,_,_,_,_,_,_,_,_,_,_,_,_,_,_,_,_,_,_,_,_,_,_,_,_,_,_,_,_,_,_,_,_,_,_,_,_,_,_,_,_,_,_,_,_,_,_,_,_,_,_,_,_,_,_,_,_,_,_,_,_,_,_,_,_,_,_,_,_,_,_,_,_,_,_,_,_,_,_,_,_,_,_,_,_,_,_,_,_,_,_,_,_,_,_,_]) rfl ?_
                            refine d_gval (y_sub rfl (ev_of rfl) (ev_of rfl) (by omega) (by omega)) (wanted_of rfl rfl rfl rfl rfl) rfl (l' := _) rfl ?_
                            refine d_gval (y_idx (n := i - W) rfl Ty.elem22 Ty.size2 (ev_of rfl) (ev_of rfl) (by repeat first | assumption | with_reducible exact ent_blk | exact Ent.here arr_reads | exact Ent.here one_I64 | exact Ent.here one_Cell | exact Ent.here one_Bool | exact Ent.here one_Rect | refine Ent.there ?_) (by omega) (by omega)) (wanted_of rfl rfl rfl rfl rfl) rfl (l' := _) rfl ?_
                            refine d_gval (y_ldI rfl Ty.some2 Ty.agg2 (ev_of rfl) (by repeat first | assumption | with_reducible exact ent_blk | exact Ent.here arr_reads | exact Ent.here one_I64 | exact Ent.here one_Cell | exact Ent.here one_Bool | exact Ent.here one_Rect | refine Ent.there ?_) (by omega)) (wanted_of rfl rfl rfl rfl rfl) rfl (l' := _) rfl ?_
                            refine d_gval (y_mv rfl (ev_of rfl)) (wanted_of rfl rfl rfl rfl rfl) rfl (l' := [_,_,_,_,_,_,_,_,_,_,_,_,_,_,_,_,_,_,_,_,_,_,_,_,_,_,_,_,_,_,_,_,_,_,_,_,_,_,_,_,_,_,_,_,_,_,_,_,_,_,_,_,_,_,_,_,_,_,_,_,_,_,_,_,_,_,_,_,_,_,_,_,_,_,_,_,_,_,_,_,_,_,_,_,_,_,_,_,_,_,_,_,_,_,_,_,_,_,_,_,_,_,_,_,_,_,_,_,_,_,_,_,_,_,_,_,_,_,_,_,_,_,_,_,_,_,_,_,_,_,_,_,_,_,_,_,_,_,_,_,_,_,_,_,_,_,_,_,_,_,_,_,_,_,_,_,_,_,_,_,_,_,_,_,_,_,_,_,_,_,_,_,_,_,_,_,_,_,_,_,_,_,_,_,_,_,_,_,_,_]) rfl ?_
                            refine d_gval (y_mv rfl (ev_of rfl)) (wanted_of rfl rfl rfl rfl rfl) rfl (l' := _) rfl ?_
                            refine d_gval (y_idx rfl Ty.elem22 Ty.size2 (ev_of rfl) (ev_of rfl) (by repeat first | assumption | with_reducible exact ent_blk | exact Ent.here arr_reads | exact Ent.here one_I64 | exact Ent.here one_Cell | exact Ent.here one_Bool | exact Ent.here one_Rect | refine Ent.there ?_) (by first | rfl | exact (Int.toNat_of_nonneg (by omega)).symm) (by omega)) (wanted_of rfl rfl rfl rfl rfl) rfl (l' := _) rfl ?_
                            refine d_gval (y_ldI rfl Ty.some2 Ty.agg2 (ev_of rfl) (by repeat first | assumption | with_reducible exact ent_blk | exact Ent.here arr_reads | exact Ent.here one_I64 | exact Ent.here one_Cell | exact Ent.here one_Bool | exact Ent.here one_Rect | refine Ent.there ?_) (by omega)) (wanted_of rfl rfl rfl rfl rfl) rfl (l' := _) rfl ?_
                            refine d_gval (y_sub rfl (ev_of rfl) (ev_of rfl) (by omega) (by omega)) (wanted_of rfl rfl rfl rfl rfl) rfl (l' := [_,_,_,_,_,_,_,_,_,_,_,_,_,_,_,_,_,_,_,_,_,_,_,_,_,_,_,_,_,_,_,_,_,_,_,_,_,_,_,_,_,_,_,_,_,_,_,_,_,_,_,_,_,_,_,_,_,_,_,_,_,_,_,_,_,_,_,_,_,_,_,_,_,_,_,_,_,_,_,_,_,_,_,_,_,_,_,_,_,_,_,_,_,_,_,_,_,_,_,_,_,_,_,_,_,_,_,_,_,_,_,_,_,_,_,_,_,_,_,_,_,_,_,_,_,_,_,_,_,_,_,_,_,_,_,_,_,_,_,_,_,_,_,_,_,_,_,_,_,_,_,_,_,_,_,_,_,_,_,_,_,_,_,_,_,_,_,_,_,_,_,_,_,_,_,_,_,_,_,_,_,_,_,_,_,_,_,_,_,_]) rfl ?_
                            refine d_gval (y_gtr rfl (ev_of rfl) (ev_of rfl)) (wanted_of rfl rfl rfl rfl rfl) rfl (l' := _) rfl ?_
                            refine d_gval (y_pick0 rfl (ev_of rfl) (ev_of rfl)) (wanted_of rfl rfl rfl rfl rfl) rfl (l' := _) rfl ?_
                            refine d_gval (y_pick1 rfl (ev_of rfl) (ev_of rfl)) (wanted_of rfl rfl rfl rfl rfl) rfl (l' := _) rfl ?_
                            refine d_val (y_pick0 rfl (ev_of rfl) (ev_of rfl)) rfl rfl (l' := [_,_,_,_,_,_,_,_,_,_,_,_,_,_,_,_,_,_,_,_,_,_,_,_,_,_,_,_,_,_,_,_,_,_,_,_,_,_,_,_,_,_,_,_,_,_,_,_,_,_,_,_,_,_,_,_,_,_,_,_,_,_,_,_,_,_,_,_,_,_,_,_,_,_,_,_,_,_,_,_,_,_,_,_,_,_,_,_,_,_,_,_,_,_,_,_,_,_,_,_,_,_,_,_,_,_,_,_,_,_,_,_,_,_,_,_,_,_,_,_,_,_,_,_,_,_,_,_,_,_,_,_,_,_,_,_,_,_,_,_,_,_,_,_,_,_,_,_,_,_,_,_,_,_,_,_,_,_,_,_,_,_,_,_,_,_,_,_,_,_,_,_,_,_,_,_,_,_,_,_,_,_,_,_,_,_,_,_,_,_]) rfl ?_
                            refine d_end (fun w38 s37 => ?_)
                            clear s30
                            simp only [List.append_nil, List.cons_append, List.nil_append] at s37
                            refine l_end ?_
                            refine x_thenN ?_
                            refine c_if rfl (fun hc6 => ?_) (fun hc6 => ?_)
                            · (try simp only [decide_eq_true_eq, decide_eq_false_iff_not, Bool.not_eq_true', Bool.not_eq_false'] at hc6)
                              first | done | (exfalso; omega) | contradiction | (exfalso; simp_all; done)
                            · (try simp only [decide_eq_true_eq, decide_eq_false_iff_not, Bool.not_eq_true', Bool.not_eq_false'] at hc6)
                              refine c_skip ?_
                              refine x_blockN ?_
                              refine x_thenN ?_
                              refine c_region ?_
                              refine l_val s37 (y_mv rfl (ev_of rfl)) rfl rfl (l' := _) rfl ?_
                              refine l_val s37 (y_add rfl (ev_of rfl) (ev_of rfl) (by omega) (by omega)) rfl rfl (l' := _) rfl ?_
                              refine l_val s37 (y_as rfl (ev_of rfl)) rfl rfl (l' := _) rfl ?_
                              refine l_end ?_
                              refine x_thenN ?_
                              refine ⟨_, [_, _, _, _, _, _, _, _, _, _, _, _, _, _, _, _, _, _, _, _, _, _, _, _, _, _, _, _, _, _, _, _, _, _, _, _, _, _, _, _, _, _, _, _, _, _, _, _, _, _, _, _, _, _, _, _, _, _, _, _, _, _, _, _, _, _, _, _, _, _, _, _, _, _, _, _, _, _, _, _, _, _, _, _, _, _, _, _, _, _, _, _, _, _, _, _, _, _, _, _, _, _, _, _, _, _, _, _, _, _, _, _, _, _, _, _], ?_, rfl, i + 1, [_, _, _, _, _, _, _, _, _, _, _, _, _, _, _, _, _, _, _, _, _, _, _, _, _, _, _, _, _, _, _, _, _, _, _, _, _, _, _, _, _, _, _, _, _, _, _, _, _, _, _, _, _, _, _, _, _, _, _, _, _, _, _, _, _, _, _, _, _, _, _, _, _, _, _, _, _, _, _, _, _, _, _, _, _, _, _, _, _, _, _, _, _, _, _, _, _, _, _, _, _, _, _, _, _, _, _, _, _, _, _, _, _, _, _], rfl, rfl, ?_, ?_⟩
                              · omega
                              · first | exact s37 | exact s37.sub (by repeat first | with_reducible exact Sub.refl _ | exact Sub.nil _ | refine Sub.take (by repeat first | with_reducible exact Take.here _ _ | apply Take.there) ?_ | refine Sub.skip _ ?_)
                              · trivial
                          · skip
                            apply c_drawn [] [0, 1, 2, 3, 4, 5, 6, 7, 8, 9, 10, 11, 12, 13, 14, 15, 16, 17, 18, 19, 20, 21, 22, 23, 24, 25, 26, 27, 28, 29, 30, 31, 32, 33, 34, 35, 36, 37, 38, 39, 40, 41, 42, 43, 44, 45, 46, 47, 48, 49, 50, 51, 52, 53, 54, 55, 56, 57, 58, 59, 60, 61, 62] [] [] [] [(_, vq _), (_, vq _), (_, vq _), (_, vq _), (_, vq _), (_, vq _), (_, vq _), (_, vq _), (_, vq _), (_, vq _), (_, vq _), (_, vq _), (_, vq _), (_, vq _), (_, vq _), (_, vq _), (_, vq _), (_, vq _), (_, vq _), (_, vq _), (_, vq _), (_, vq _), (_, vq _), (_, vq _), (_, vq _), (_, vq _), (_, vq _), (_, vq _), (_, vq _), (_, vq _), (_, vq _), (_, vq _), (_, vq _), (_, vq _), (_, vq _), (_, vq _), (_, vq _), (_, vq _), (_, vq _), (_, vq _), (_, vq _), (_, vq _), (_, vq _), (_, vq _), (_, vq _), (_, vq _), (_, vq _), (_, vq _), (_, vq _), (_, vq _), (_, vq _), (_, vq _), (_, vq _), (_, vq _), (_, vq _), (_, vq _), (_, vq _), (_, vq _), (_, vq _), (_, vq _), (_, vq _), (_, vq _), (_, vq _)] s30 Ty.follows (by kernel_rfl) (fun _ _ _ h => h.2) rfl rfl rfl (by decide) ?_
                            show WP _ _ _ _ _
                            refine p_end ?_
                            refine d_val (y_mv rfl (ev_of rfl)) rfl rfl (l' := [_,_,_,_,_,_,_,_,_,_,_,_,_,_,_,_,_,_,_,_,_,_,_,_,_,_,_,_,_,_,_,_,_,_,_,_,_,_,_,_,_,_,_,_,_,_,_,_,_,_,_,_,_,_,_,_,_,_,_,_,_,_,_,_,_,_,_,_,_,_,_,_,_,_,_,_,_,_,_,_,_,_,_,_,_,_,_,_,_,_,_,_,_,_,_,_,_,_,_,_,_,_,_,_,_,_,_,_,_,_,_,_,_,_,_,_,_,_,_,_,_,_,_,_,_,_,_,_,_,_,_,_,_,_,_,_,_,_,_,_,_,_,_,_,_,_,_,_,_,_,_,_,_,_,_,_,_,_,_,_,_,_,_,_,_,_,_,_,_,_,_,_,_,_,_,_,_,_,_,_,_,_,_,_,_,_,_,_,_,_]) rfl ?_
                            refine d_val (y_mv rfl (ev_of rfl)) rfl rfl (l' := _) rfl ?_
                            refine d_val (y_rem rfl (ev_of rfl) (ev_of rfl) (by omega) (by omega)) rfl rfl (l' := _) rfl ?_
                            refine d_val (y_gtr rfl (ev_of rfl) (ev_of rfl)) rfl rfl (l' := _) rfl ?_
                            refine d_val (y_mv rfl (ev_of rfl)) rfl rfl (l' := [_,_,_,_,_,_,_,_,_,_,_,_,_,_,_,_,_,_,_,_,_,_,_,_,_,_,_,_,_,_,_,_,_,_,_,_,_,_,_,_,_,_,_,_,_,_,_,_,_,_,_,_,_,_,_,_,_,_,_,_,_,_,_,_,_,_,_,_,_,_,_,_,_,_,_,_,_,_,_,_,_,_,_,_,_,_,_,_,_,_,_,_,_,_,_,_,_,_,_,_,_,_,_,_,_,_,_,_,_,_,_,_,_,_,_,_,_,_,_,_,_,_,_,_,_,_,_,_,_,_,_,_,_,_,_,_,_,_,_,_,_,_,_,_,_,_,_,_,_,_,_,_,_,_,_,_,_,_,_,_,_,_,_,_,_,_,_,_,_,_,_,_,_,_,_,_,_,_,_,_,_,_,_,_,_,_,_,_,_,_]) rfl ?_
                            refine d_known (t := 131) (b := false) rfl (decide_eq_false (by omega)) ?_
                            refine nlD (l' := _) rfl ?_
                            refine d_skip (wanted_of rfl rfl rfl rfl rfl) rfl (l' := _) rfl ?_
                            refine d_skip (wanted_of rfl rfl rfl rfl rfl) rfl (l' := _) rfl ?_
                            refine d_skip (wanted_of rfl rfl rfl rfl rfl) rfl (l' := [_,_,_,_,_,_,_,_,_,_,_,_,_,_,_,_,_,_,_,_,_,_,_,_,_,_,_,_,_,_,_,_,_,_,_,_,_,_,_,_,_,_,_,_,_,_,_,_,_,_,_,_,_,_,_,_,_,_,_,_,_,_,_,_,_,_,_,_,_,_,_,_,_,_,_,_,_,_,_,_,_,_,_,_,_,_,_,_,_,_,_,_,_,_,_,_,_,_,_,_,_,_,_,_,_,_,_,_,_,_,_,_,_,_,_,_,_,_,_,_,_,_,_,_,_,_,_,_,_,_,_,_,_,_,_,_,_,_,_,_,_,_,_,_,_,_,_,_,_,_,_,_,_,_,_,_,_,_,_,_,_,_,_,_,_,_,_,_,_,_,_,_,_,_,_,_,_,_,_,_,_,_,_,_,_,_,_,_,_,_]) rfl ?_
                            refine d_skip (wanted_of rfl rfl rfl rfl rfl) rfl (l' := _) rfl ?_
                            refine d_skip (wanted_of rfl rfl rfl rfl rfl) rfl (l' := _) rfl ?_
                            refine d_skip (wanted_of rfl rfl rfl rfl rfl) rfl (l' := _) rfl ?_
                            refine d_skip (wanted_of rfl rfl rfl rfl rfl) rfl (l' := [_,_,_,_,_,_,_,_,_,_,_,_,_,_,_,_,_,_,_,_,_,_,_,_,_,_,_,_,_,_,_,_,_,_,_,_,_,_,_,_,_,_,_,_,_,_,_,_,_,_,_,_,_,_,_,_,_,_,_,_,_,_,_,_,_,_,_,_,_,_,_,_,_,_,_,_,_,_,_,_,_,_,_,_,_,_,_,_,_,_,_,_,_,_,_,_,_,_,_,_,_,_,_,_,_,_,_,_,_,_,_,_,_,_,_,_,_,_,_,_,_,_,_,_,_,_,_,_,_,_,_,_,_,_,_,_,_,_,_,_,_,_,_,_,_,_,_,_,_,_,_,_,_,_,_,_,_,_,_,_,_,_,_,_,_,_,_,_,_,_,_,_,_,_,_,_,_,_,_,_,_,_,_,_,_,_,_,_,_,_]) rfl ?_
                            refine d_skip (wanted_of rfl rfl rfl rfl rfl) rfl (l' := _) rfl ?_
                            refine d_skip (wanted_of rfl rfl rfl rfl rfl) rfl (l' := _) rfl ?_
                            refine d_skip (wanted_of rfl rfl rfl rfl rfl) rfl (l' := _) rfl ?_
                            refine d_skip (wanted_of rfl rfl rfl rfl rfl) rfl (l' := [_,_,_,_,_,_,_,_,_,_,_,_,_,_,_,_,_,_,_,_,_,_,_,_,_,_,_,_,_,_,_,_,_,_,_,_,_,_,_,_,_,_,_,_,_,_,_,_,_,_,_,_,_,_,_,_,_,_,_,_,_,_,_,_,_,_,_,_,_,_,_,_,_,_,_,_,_,_,_,_,_,_,_,_,_,_,_,_,_,_,_,_,_,_,_,_,_,_,_,_,_,_,_,_,_,_,_,_,_,_,_,_,_,_,_,_,_,_,_,_,_,_,_,_,_,_,_,_,_,_,_,_,_,_,_,_,_,_,_,_,_,_,_,_,_,_,_,_,_,_,_,_,_,_,_,_,_,_,_,_,_,_,_,_,_,_,_,_,_,_,_,_,_,_,_,_,_,_,_,_,_,_,_,_,_,_,_,_,_,_]) rfl ?_
                            refine d_skip (wanted_of rfl rfl rfl rfl rfl) rfl (l' := _) rfl ?_
                            refine d_skip (wanted_undef rfl rfl rfl rfl) rfl (l' := _) rfl ?_
                            refine d_skip (wanted_undef rfl rfl rfl rfl) rfl (l' := _) rfl ?_
                            refine d_skip (wanted_undef rfl rfl rfl rfl) rfl (l' := [_,_,_,_,_,_,_,_,_,_,_,_,_,_,_,_,_,_,_,_,_,_,_,_,_,_,_,_,_,_,_,_,_,_,_,_,_,_,_,_,_,_,_,_,_,_,_,_,_,_,_,_,_,_,_,_,_,_,_,_,_,_,_,_,_,_,_,_,_,_,_,_,_,_,_,_,_,_,_,_,_,_,_,_,_,_,_,_,_,_,_,_,_,_,_,_,_,_,_,_,_,_,_,_,_,_,_,_,_,_,_,_,_,_,_,_,_,_,_,_,_,_,_,_,_,_,_,_,_,_,_,_,_,_,_,_,_,_,_,_,_,_,_,_,_,_,_,_,_,_,_,_,_,_,_,_,_,_,_,_,_,_,_,_,_,_,_,_,_,_,_,_,_,_,_,_,_,_,_,_,_,_,_,_,_,_,_,_,_,_]) rfl ?_
                            refine d_skip (wanted_undef rfl rfl rfl rfl) rfl (l' := _) rfl ?_
                            refine d_skip (wanted_undef rfl rfl rfl rfl) rfl (l' := _) rfl ?_
                            refine d_skip (wanted_undef rfl rfl rfl rfl) rfl (l' := _) rfl ?_
                            refine d_skip (wanted_undef rfl rfl rfl rfl) rfl (l' := [_,_,_,_,_,_,_,_,_,_,_,_,_,_,_,_,_,_,_,_,_,_,_,_,_,_,_,_,_,_,_,_,_,_,_,_,_,_,_,_,_,_,_,_,_,_,_,_,_,_,_,_,_,_,_,_,_,_,_,_,_,_,_,_,_,_,_,_,_,_,_,_,_,_,_,_,_,_,_,_,_,_,_,_,_,_,_,_,_,_,_,_,_,_,_,_,_,_,_,_,_,_,_,_,_,_,_,_,_,_,_,_,_,_,_,_,_,_,_,_,_,_,_,_,_,_,_,_,_,_,_,_,_,_,_,_,_,_,_,_,_,_,_,_,_,_,_,_,_,_,_,_,_,_,_,_,_,_,_,_,_,_,_,_,_,_,_,_,_,_,_,_,_,_,_,_,_,_,_,_,_,_,_,_,_,_,_,_,_,_]) rfl ?_
                            refine d_skip (wanted_undef rfl rfl rfl rfl) rfl (l' := _) rfl ?_
                            refine d_skip (wanted_undef rfl rfl rfl rfl) rfl (l' := _) rfl ?_
                            refine d_skip (wanted_undef rfl rfl rfl rfl) rfl (l' := _) rfl ?_
                            refine d_skip (wanted_undef rfl rfl rfl rfl) rfl (l' := [_,_,_,_,_,_,_,_,_,_,_,_,_,_,_,_,_,_,_,_,_,_,_,_,_,_,_,_,_,_,_,_,_,_,_,_,_,_,_,_,_,_,_,_,_,_,_,_,_,_,_,_,_,_,_,_,_,_,_,_,_,_,_,_,_,_,_,_,_,_,_,_,_,_,_,_,_,_,_,_,_,_,_,_,_,_,_,_,_,_,_,_,_,_,_,_,_,_,_,_,_,_,_,_,_,_,_,_,_,_,_,_,_,_,_,_,_,_,_,_,_,_,_,_,_,_,_,_,_,_,_,_,_,_,_,_,_,_,_,_,_,_,_,_,_,_,_,_,_,_,_,_,_,_,_,_,_,_,_,_,_,_,_,_,_,_,_,_,_,_,_,_,_,_,_,_,_,_,_,_,_,_,_,_,_,_,_,_,_,_]) rfl ?_
                            refine d_skip (wanted_of rfl rfl rfl rfl rfl) rfl (l' := _) rfl ?_
                            refine d_val (y_pick0 rfl (ev_of rfl) (ev_of rfl)) rfl rfl (l' := _) rfl ?_
                            refine d_val (y_mv rfl (ev_of rfl)) rfl rfl (l' := _) rfl ?_
                            refine d_gval (y_mv rfl (ev_of rfl)) (wanted_of rfl rfl rfl rfl rfl) rfl (l' := [_,_,_,_,_,_,_,_,_,_,_,_,_,_,_,_,_,_,_,_,_,_,_,_,_,_,_,_,_,_,_,_,_,_,_,_,_,_,_,_,_,_,_,_,_,_,_,_,_,_,_,_,_,_,_,_,_,_,_,_,_,_,_,_,_,_,_,_,_,_,_,_,_,_,_,_,_,_,_,_,_,_,_,_,_,_,_,_,_,_,_,_,_,_,_,_,_,_,_,_,_,_,_,_,_,_,_,_,_,_,_,_,_,_,_,_,_,_,_,_,_,_,_,_,_,_,_,_,_,_,_,_,_,_,_,_,_,_,_,_,_,_,_,_,_,_,_,_,_,_,_,_,_,_,_,_,_,_,_,_,_,_,_,_,_,_,_,_,_,_,_,_,_,_,_,_,_,_,_,_,_,_,_,_,_,_,_,_,_,_]) rfl ?_
                            refine d_gval (y_mv rfl (ev_of rfl)) (wanted_of rfl rfl rfl rfl rfl) rfl (l' := _) rfl ?_
                            refine d_gval (y_geq rfl (ev_of rfl) (ev_of rfl)) (wanted_of rfl rfl rfl rfl rfl) rfl (l' := _) rfl ?_
                            refine d_gval (y_mv rfl (ev_of rfl)) (wanted_of rfl rfl rfl rfl rfl) rfl (l' := _) rfl ?_
                            refine d_known (t := 161) (b := false) rfl (decide_eq_false (by omega)) ?_
                            refine nlD (l' := [_,_,_,_,_,_,_,_,_,_,_,_,_,_,_,_,_,_,_,_,_,_,_,_,_,_,_,_,_,_,_,_,_,_,_,_,_,_,_,_,_,_,_,_,_,_,_,_,_,_,_,_,_,_,_,_,_,_,_,_,_,_,_,_,_,_,_,_,_,_,_,_,_,_,_,_,_,_,_,_,_,_,_,_,_,_,_,_,_,_,_,_,_,_,_,_,_,_,_,_,_,_,_,_,_,_,_,_,_,_,_,_,_,_,_,_,_,_,_,_,_,_,_,_,_,_,_,_,_,_,_,_,_,_,_,_,_,_,_,_,_,_,_,_,_,_,_,_,_,_,_,_,_,_,_,_,_,_,_,_,_,_,_,_,_,_,_,_,_,_,_,_,_,_,_,_,_,_,_,_,_,_,_,_,_,_,_,_,_,_]) rfl ?_
                            refine d_skip (wanted_of rfl rfl rfl rfl rfl) rfl (l' := _) rfl ?_
                            refine d_skip (wanted_of rfl rfl rfl rfl rfl) rfl (l' := _) rfl ?_
                            refine d_skip (wanted_of rfl rfl rfl rfl rfl) rfl (l' := _) rfl ?_
                            refine d_skip (wanted_of rfl rfl rfl rfl rfl) rfl (l' := [_,_,_,_,_,_,_,_,_,_,_,_,_,_,_,_,_,_,_,_,_,_,_,_,_,_,_,_,_,_,_,_,_,_,_,_,_,_,_,_,_,_,_,_,_,_,_,_,_,_,_,_,_,_,_,_,_,_,_,_,_,_,_,_,_,_,_,_,_,_,_,_,_,_,_,_,_,_,_,_,_,_,_,_,_,_,_,_,_,_,_,_,_,_,_,_,_,_,_,_,_,_,_,_,_,_,_,_,_,_,_,_,_,_,_,_,_,_,_,_,_,_,_,_,_,_,_,_,_,_,_,_,_,_,_,_,_,_,_,_,_,_,_,_,_,_,_,_,_,_,_,_,_,_,_,_,_,_,_,_,_,_,_,_,_,_,_,_,_,_,_,_,_,_,_,_,_,_,_,_,_,_,_,_,_,_,_,_,_,_]) rfl ?_
                            refine d_skip (wanted_of rfl rfl rfl rfl rfl) rfl (l' := _) rfl ?_
                            refine d_skip (wanted_of rfl rfl rfl rfl rfl) rfl (l' := _) rfl ?_
                            refine d_skip (wanted_of rfl rfl rfl rfl rfl) rfl (l' := _) rfl ?_
                            refine d_skip (wanted_of rfl rfl rfl rfl rfl) rfl (l' := [_,_,_,_,_,_,_,_,_,_,_,_,_,_,_,_,_,_,_,_,_,_,_,_,_,_,_,_,_,_,_,_,_,_,_,_,_,_,_,_,_,_,_,_,_,_,_,_,_,_,_,_,_,_,_,_,_,_,_,_,_,_,_,_,_,_,_,_,_,_,_,_,_,_,_,_,_,_,_,_,_,_,_,_,_,_,_,_,_,_,_,_,_,_,_,_,_,_,_,_,_,_,_,_,_,_,_,_,_,_,_,_,_,_,_,_,_,_,_,_,_,_,_,_,_,_,_,_,_,_,_,_,_,_,_,_,_,_,_,_,_,_,_,_,_,_,_,_,_,_,_,_,_,_,_,_,_,_,_,_,_,_,_,_,_,_,_,_,_,_,_,_,_,_,_,_,_,_,_,_,_,_,_,_,_,_,_,_,_,_]) rfl ?_
                            refine d_skip (wanted_of rfl rfl rfl rfl rfl) rfl (l' := _) rfl ?_
                            refine d_skip (wanted_of rfl rfl rfl rfl rfl) rfl (l' := _) rfl ?_
                            refine d_skip (wanted_of rfl rfl rfl rfl rfl) rfl (l' := _) rfl ?_
                            refine d_skip (wanted_of rfl rfl rfl rfl rfl) rfl (l' := [_,_,_,_,_,_,_,_,_,_,_,_,_,_,_,_,_,_,_,_,_,_,_,_,_,_,_,_,_,_,_,_,_,_,_,_,_,_,_,_,_,_,_,_,_,_,_,_,_,_,_,_,_,_,_,_,_,_,_,_,_,_,_,_,_,_,_,_,_,_,_,_,_,_,_,_,_,_,_,_,_,_,_,_,_,_,_,_,_,_,_,_,_,_,_,_,_,_,_,_,_,_,_,_,_,_,_,_,_,_,_,_,_,_,_,_,_,_,_,_,_,_,_,_,_,_,_,_,_,_,_,_,_,_,_,_,_,_,_,_,_,_,_,_,_,_,_,_,_,_,_,_,_,_,_,_,_,_,_,_,_,_,_,_,_,_,_,_,_,_,_,_,_,_,_,_,_,_,_,_,_,_,_,_,_,_,_,_,_,_]) rfl ?_
                            refine d_skip (wanted_of rfl rfl rfl rfl rfl) rfl (l' := _) rfl ?_
                            refine d_skip (wanted_undef rfl rfl rfl rfl) rfl (l' := _) rfl ?_
                            refine d_skip (wanted_undef rfl rfl rfl rfl) rfl (l' := _) rfl ?_
                            refine d_skip (wanted_undef rfl rfl rfl rfl) rfl (l' := [_,_,_,_,_,_,_,_,_,_,_,_,_,_,_,_,_,_,_,_,_,_,_,_,_,_,_,_,_,_,_,_,_,_,_,_,_,_,_,_,_,_,_,_,_,_,_,_,_,_,_,_,_,_,_,_,_,_,_,_,_,_,_,_,_,_,_,_,_,_,_,_,_,_,_,_,_,_,_,_,_,_,_,_,_,_,_,_,_,_,_,_,_,_,_,_,_,_,_,_,_,_,_,_,_,_,_,_,_,_,_,_,_,_,_,_,_,_,_,_,_,_,_,_,_,_,_,_,_,_,_,_,_,_,_,_,_,_,_,_,_,_,_,_,_,_,_,_,_,_,_,_,_,_,_,_,_,_,_,_,_,_,_,_,_,_,_,_,_,_,_,_,_,_,_,_,_,_,_,_,_,_,_,_,_,_,_,_,_,_]) rfl ?_
                            refine d_skip (wanted_undef rfl rfl rfl rfl) rfl (l' := _) rfl ?_
                            refine d_skip (wanted_undef rfl rfl rfl rfl) rfl (l' := _) rfl ?_
                            refine d_skip (wanted_undef rfl rfl rfl rfl) rfl (l' := _) rfl ?_
                            refine d_skip (wanted_undef rfl rfl rfl rfl) rfl (l' := [_,_,_,_,_,_,_,_,_,_,_,_,_,_,_,_,_,_,_,_,_,_,_,_,_,_,_,_,_,_,_,_,_,_,_,_,_,_,_,_,_,_,_,_,_,_,_,_,_,_,_,_,_,_,_,_,_,_,_,_,_,_,_,_,_,_,_,_,_,_,_,_,_,_,_,_,_,_,_,_,_,_,_,_,_,_,_,_,_,_,_,_,_,_,_,_,_,_,_,_,_,_,_,_,_,_,_,_,_,_,_,_,_,_,_,_,_,_,_,_,_,_,_,_,_,_,_,_,_,_,_,_,_,_,_,_,_,_,_,_,_,_,_,_,_,_,_,_,_,_,_,_,_,_,_,_,_,_,_,_,_,_,_,_,_,_,_,_,_,_,_,_,_,_,_,_,_,_,_,_,_,_,_,_,_,_,_,_,_,_]) rfl ?_
                            refine d_skip (wanted_undef rfl rfl rfl rfl) rfl (l' := _) rfl ?_
                            refine d_skip (wanted_undef rfl rfl rfl rfl) rfl (l' := _) rfl ?_
                            refine d_skip (wanted_undef rfl rfl rfl rfl) rfl (l' := _) rfl ?_
                            refine d_skip (wanted_undef rfl rfl rfl rfl) rfl (l' := [_,_,_,_,_,_,_,_,_,_,_,_,_,_,_,_,_,_,_,_,_,_,_,_,_,_,_,_,_,_,_,_,_,_,_,_,_,_,_,_,_,_,_,_,_,_,_,_,_,_,_,_,_,_,_,_,_,_,_,_,_,_,_,_,_,_,_,_,_,_,_,_,_,_,_,_,_,_,_,_,_,_,_,_,_,_,_,_,_,_,_,_,_,_,_,_,_,_,_,_,_,_,_,_,_,_,_,_,_,_,_,_,_,_,_,_,_,_,_,_,_,_,_,_,_,_,_,_,_,_,_,_,_,_,_,_,_,_,_,_,_,_,_,_,_,_,_,_,_,_,_,_,_,_,_,_,_,_,_,_,_,_,_,_,_,_,_,_,_,_,_,_,_,_,_,_,_,_,_,_,_,_,_,_,_,_,_,_,_,_]) rfl ?_
                            refine d_skip (wanted_undef rfl rfl rfl rfl) rfl (l' := _) rfl ?_
                            refine d_skip (wanted_of rfl rfl rfl rfl rfl) rfl (l' := _) rfl ?_
                            refine d_gval (y_pick0 rfl (ev_of rfl) (ev_of rfl)) (wanted_of rfl rfl rfl rfl rfl) rfl (l' := _) rfl ?_
                            refine d_val (y_pick0 rfl (ev_of rfl) (ev_of rfl)) rfl rfl (l' := [_,_,_,_,_,_,_,_,_,_,_,_,_,_,_,_,_,_,_,_,_,_,_,_,_,_,_,_,_,_,_,_,_,_,_,_,_,_,_,_,_,_,_,_,_,_,_,_,_,_,_,_,_,_,_,_,_,_,_,_,_,_,_,_,_,_,_,_,_,_,_,_,_,_,_,_,_,_,_,_,_,_,_,_,_,_,_,_,_,_,_,_,_,_,_,_,_,_,_,_,_,_,_,_,_,_,_,_,_,_,_,_,_,_,_,_,_,_,_,_,_,_,_,_,_,_,_,_,_,_,_,_,_,_,_,_,_,_,_,_,_,_,_,_,_,_,_,_,_,_,_,_,_,_,_,_,_,_,_,_,_,_,_,_,_,_,_,_,_,_,_,_,_,_,_,_,_,_,_,_,_,_,_,_,_,_,_,_,_,_]) rfl ?_
                            refine d_end (fun w40 s39 => ?_)
                            clear s30
                            simp only [List.append_nil, List.cons_append, List.nil_append] at s39
                            refine l_end ?_
                            refine x_thenN ?_
                            refine c_condF rfl ?_
                            refine c_skip ?_
                            refine x_blockN ?_
                            refine x_thenN ?_
                            refine c_region ?_
                            refine l_val s39 (y_mv rfl (ev_of rfl)) rfl rfl (l' := _) rfl ?_
                            refine l_val s39 (y_add rfl (ev_of rfl) (ev_of rfl) (by omega) (by omega)) rfl rfl (l' := _) rfl ?_
                            refine l_val s39 (y_as rfl (ev_of rfl)) rfl rfl (l' := _) rfl ?_
                            refine l_end ?_
                            refine x_thenN ?_
                            refine ⟨_, [_, _, _, _, _, _, _, _, _, _, _, _, _, _, _, _, _, _, _, _, _, _, _, _, _, _, _, _, _, _, _, _, _, _, _, _, _, _, _, _, _, _, _, _, _, _, _, _, _, _, _, _, _, _, _, _, _, _, _, _, _, _, _, _, _, _, _, _, _, _, _, _, _, _, _, _, _, _, _, _, _, _, _, _, _, _, _, _, _, _, _, _, _, _, _, _, _, _, _, _, _, _, _, _, _, _, _, _, _, _, _, _, _, _, _, _], ?_, rfl, i + 1, [_, _, _, _, _, _, _, _, _, _, _, _, _, _, _, _, _, _, _, _, _, _, _, _, _, _, _, _, _, _, _, _, _, _, _, _, _, _, _, _, _, _, _, _, _, _, _, _, _, _, _, _, _, _, _, _, _, _, _, _, _, _, _, _, _, _, _, _, _, _, _, _, _, _, _, _, _, _, _, _, _, _, _, _, _, _, _, _, _, _, _, _, _, _, _, _, _, _, _, _, _, _, _, _, _, _, _, _, _, _, _, _, _, _, _], rfl, rfl, ?_, ?_⟩
                            · omega
                            · first | exact s39 | exact s39.sub (by repeat first | with_reducible exact Sub.refl _ | exact Sub.nil _ | refine Sub.take (by repeat first | with_reducible exact Take.here _ _ | apply Take.there) ?_ | refine Sub.skip _ ?_)
                            · trivial
                    · (try simp only [decide_eq_true_eq, decide_eq_false_iff_not, Bool.not_eq_true', Bool.not_eq_false'] at hc4)
                      refine c_exit ?_
                      refine x_thenE ?_
                      refine x_thenE ?_
                      refine x_hit ?_
                      refine x_thenN ?_
                      refine c_seq ?_
                      refine c_region ?_
                      refine l_val s20 (y_as rfl (ev_of rfl)) rfl rfl (l' := [_,_,_,_,_,_,_,_,_,_,_,_,_,_,_,_,_,_,_,_,_,_,_,_,_,_,_,_,_,_,_,_,_,_,_,_,_,_,_,_,_,_,_,_,_,_,_,_,_,_,_,_,_,_,_,_,_,_,_,_,_,_,_,_,_,_,_,_,_,_,_,_,_,_,_,_,_,_,_,_,_,_,_,_,_,_,_,_,_,_,_,_,_,_,_,_,_,_,_,_,_,_,_,_,_,_,_,_,_,_,_,_,_,_,_,_,_,_,_,_,_,_,_,_,_,_,_,_,_,_,_,_,_,_,_,_,_,_,_,_,_,_,_,_,_,_,_,_,_,_,_,_,_,_,_,_,_,_,_,_,_,_,_,_,_,_,_,_,_,_,_,_,_,_,_,_,_,_,_,_,_,_,_,_,_,_,_,_,_,_]) rfl ?_
                      refine l_end ?_
                      refine x_thenN ?_
                      refine c_ret ?_
                      refine r1 rfl rfl ?_
                      exact ⟨rfl, s20.sub (by repeat first | with_reducible exact Sub.refl _ | exact Sub.nil _ | refine Sub.take (by repeat first | with_reducible exact Take.here _ _ | apply Take.there) ?_ | refine Sub.skip _ ?_)⟩
end Go.Proofs.Ytpchomihojidpaa
