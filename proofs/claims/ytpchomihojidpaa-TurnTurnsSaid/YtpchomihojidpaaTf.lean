/- Any number of quarters. -/
import Derived.Test.YtpchomihojidpaaTy
import Derived.Test.YtpchomihojidpaaSlC
import Derived.Test.YtpchomihojidpaaTc
import Derived.Test.YtpchomihojidpaaTe
import Derived.Test.YtpchomihojidpaaGc
import Derived.Test.YtpchomihojidpaaSlD
import Derived.KernelRfl
namespace Go.Proofs.Ytpchomihojidpaa
open Go.SL
theorem FnTf.call147 : callB Try.prog 147 = true := by kernel_rfl
set_option linter.unusedVariables false
set_option linter.unusedSimpArgs false
attribute [local irreducible] wpList WD WP Region.wanted Code.wp
theorem tmod4 (n : Int) : (n.tmod 4 < 0 → n.tmod 4 + 4 = n % 4) ∧ (¬ n.tmod 4 < 0 → n.tmod 4 = n % 4) := by
  rcases Int.le_total 0 n with h | h
  · have := Int.tmod_eq_emod_of_nonneg (b := 4) h
    omega
  · obtain ⟨m, rfl⟩ : ∃ m, n = -m := ⟨-n, by omega⟩
    have h1 := Int.tmod_eq_emod_of_nonneg (a := m) (b := 4) (by omega)
    rw [Int.neg_tmod, h1]; omega
set_option maxHeartbeats 4000000 in
set_option maxRecDepth 100000 in
/-- hachure/turn.Quarter -/
theorem quarter0_c {e : Env} {L : List Asn} {w : World} {n : Int} {b W H : Nat} {vs : List Int} (s : SL e w L) (hg : Has L (GridA b W H vs)) (hn : n % 4 = 0) :
    Calls Try.prog 58 #[ptr b 0, .int .i64 n] w (Rets fun r w' => ∃ b', r = .tuple #[ptr b' 0, .int .i64 0] ∧ SL e w' (GridA b' W H vs :: L)) := by
  refine enter Try.func58 rfl (l := [ptr b 0, .int .i64 n, undef, undef, undef, undef, undef, undef, undef, undef, undef, undef, undef, undef, undef, undef, undef, undef, undef, undef, undef, undef, undef, undef, undef, undef, undef, undef, undef, undef, undef, undef, undef, undef, undef, undef, undef, undef, undef, undef, undef, undef, undef, undef, undef, undef]) rfl ?_
  refine c_seq ?_
  refine c_region ?_
  refine l_val s (y_as rfl (ev_of rfl)) rfl rfl (l' := [_,_,_,_,_,_,_,_,_,_,_,_,_,_,_,_,_,_,_,_,_,_,_,_,_,_,_,_,_,_,_,_,_,_,_,_,_,_,_,_,_,_,_,_,_,_]) rfl ?_
  refine l_val s (y_as rfl (ev_of rfl)) rfl rfl (l' := [_,_,_,_,_,_,_,_,_,_,_,_,_,_,_,_,_,_,_,_,_,_,_,_,_,_,_,_,_,_,_,_,_,_,_,_,_,_,_,_,_,_,_,_,_,_]) rfl ?_
  refine l_end ?_
  refine x_thenN ?_
  refine c_seq ?_
  refine c_seq ?_
  refine c_region ?_
  refine l_val s (y_mv rfl (ev_of rfl)) rfl rfl (l' := [_,_,_,_,_,_,_,_,_,_,_,_,_,_,_,_,_,_,_,_,_,_,_,_,_,_,_,_,_,_,_,_,_,_,_,_,_,_,_,_,_,_,_,_,_,_]) rfl ?_
  refine l_val s (y_peqnil rfl Ty.ptr28 (ev_of rfl) (ev_of rfl)) rfl rfl (l' := [_,_,_,_,_,_,_,_,_,_,_,_,_,_,_,_,_,_,_,_,_,_,_,_,_,_,_,_,_,_,_,_,_,_,_,_,_,_,_,_,_,_,_,_,_,_]) rfl ?_
  refine l_end ?_
  refine x_thenN ?_
  refine c_if rfl (fun hc0 => ?_) (fun hc0 => ?_)
  · (try simp only [decide_eq_true_eq, decide_eq_false_iff_not, Bool.not_eq_true', Bool.not_eq_false'] at hc0)
    first | done | (exfalso; omega) | contradiction | (exfalso; simp_all; done)
  · (try simp only [decide_eq_true_eq, decide_eq_false_iff_not, Bool.not_eq_true', Bool.not_eq_false'] at hc0)
    refine c_skip ?_
    refine x_thenN ?_
    refine c_seq ?_
    refine c_region ?_
    refine l_val s (y_mv rfl (ev_of rfl)) rfl rfl (l' := [_,_,_,_,_,_,_,_,_,_,_,_,_,_,_,_,_,_,_,_,_,_,_,_,_,_,_,_,_,_,_,_,_,_,_,_,_,_,_,_,_,_,_,_,_,_]) rfl ?_
    refine l_callL rfl rfl rfl Fn.call125 (vs := [_]) rfl (gsize_c s (by repeat first | exact hg | apply Has.there)) ?_
    rintro _ w2 ⟨rfl, s1⟩
    clear s
    refine nlL (l' := [_,_,_,_,_,_,_,_,_,_,_,_,_,_,_,_,_,_,_,_,_,_,_,_,_,_,_,_,_,_,_,_,_,_,_,_,_,_,_,_,_,_,_,_,_,_]) rfl ?_
    refine l_val s1 (y_mv rfl (ev_of rfl)) rfl rfl (l' := [_,_,_,_,_,_,_,_,_,_,_,_,_,_,_,_,_,_,_,_,_,_,_,_,_,_,_,_,_,_,_,_,_,_,_,_,_,_,_,_,_,_,_,_,_,_]) rfl ?_
    refine l_val s1 (y_extr rfl (ev_of rfl) rfl) rfl rfl (l' := [_,_,_,_,_,_,_,_,_,_,_,_,_,_,_,_,_,_,_,_,_,_,_,_,_,_,_,_,_,_,_,_,_,_,_,_,_,_,_,_,_,_,_,_,_,_]) rfl ?_
    refine l_val s1 (y_extr rfl (ev_of rfl) rfl) rfl rfl (l' := [_,_,_,_,_,_,_,_,_,_,_,_,_,_,_,_,_,_,_,_,_,_,_,_,_,_,_,_,_,_,_,_,_,_,_,_,_,_,_,_,_,_,_,_,_,_]) rfl ?_
    refine l_alloc s1 rfl rfl rfl Ty.zero2 (fun b5 w4 s3 => ?_)
    change SL _ _ (Blk _ #[_] _ :: _) at s3
    clear s1
    refine nlL (l' := [_,_,_,_,_,_,_,_,_,_,_,_,_,_,_,_,_,_,_,_,_,_,_,_,_,_,_,_,_,_,_,_,_,_,_,_,_,_,_,_,_,_,_,_,_,_]) rfl ?_
    refine l_alloc s3 rfl rfl rfl Ty.zero2 (fun b8 w7 s6 => ?_)
    change SL _ _ (Blk _ #[_] _ :: _) at s6
    clear s3
    refine nlL (l' := [_,_,_,_,_,_,_,_,_,_,_,_,_,_,_,_,_,_,_,_,_,_,_,_,_,_,_,_,_,_,_,_,_,_,_,_,_,_,_,_,_,_,_,_,_,_]) rfl ?_
    refine l_store s6 rfl rfl rfl Ty.size2 (ev_of rfl) (ev_of rfl) (by first | rfl | exact arr_one (by first | (repeat first | assumption | with_reducible exact ent_blk | with_reducible exact Ent.here arr_reads | with_reducible exact Ent.here one_I64 | with_reducible exact Ent.here one_Cell | refine Ent.there ?_); done | (repeat first | assumption | with_reducible exact ent_blk | exact Ent.here arr_reads | exact Ent.here one_I64 | exact Ent.here one_Cell | exact Ent.here one_Bool | exact Ent.here one_Rect | refine Ent.there ?_)) s6) (by repeat first | exact Wr.blk (cells' := #[_]) (Nat.le_of_ble_eq_true rfl) rfl | apply Wr.there) (fun w10 s9 => ?_)
    clear s6
    refine l_store s9 rfl rfl rfl Ty.size2 (ev_of rfl) (ev_of rfl) (by first | rfl | exact arr_one (by first | (repeat first | assumption | with_reducible exact ent_blk | with_reducible exact Ent.here arr_reads | with_reducible exact Ent.here one_I64 | with_reducible exact Ent.here one_Cell | refine Ent.there ?_); done | (repeat first | assumption | with_reducible exact ent_blk | exact Ent.here arr_reads | exact Ent.here one_I64 | exact Ent.here one_Cell | exact Ent.here one_Bool | exact Ent.here one_Rect | refine Ent.there ?_)) s9) (by repeat first | exact Wr.blk (cells' := #[_]) (Nat.le_of_ble_eq_true rfl) rfl | apply Wr.there) (fun w12 s11 => ?_)
    clear s9
    refine l_end ?_
    refine x_thenN ?_
    refine c_seq ?_
    refine c_seq ?_
    refine c_region ?_
    refine l_val s11 (y_mv rfl (ev_of rfl)) rfl rfl (l' := [_,_,_,_,_,_,_,_,_,_,_,_,_,_,_,_,_,_,_,_,_,_,_,_,_,_,_,_,_,_,_,_,_,_,_,_,_,_,_,_,_,_,_,_,_,_]) rfl ?_
    refine l_val s11 (y_and3 rfl (ev_of rfl) (ev_of rfl)) rfl rfl (l' := [_,_,_,_,_,_,_,_,_,_,_,_,_,_,_,_,_,_,_,_,_,_,_,_,_,_,_,_,_,_,_,_,_,_,_,_,_,_,_,_,_,_,_,_,_,_]) rfl ?_
    refine l_end ?_
    refine x_thenN ?_
    refine c_block ?_
    refine c_seq ?_
    refine c_region ?_
    refine l_val s11 (y_eql rfl (ev_of rfl) (ev_of rfl)) rfl rfl (l' := [_,_,_,_,_,_,_,_,_,_,_,_,_,_,_,_,_,_,_,_,_,_,_,_,_,_,_,_,_,_,_,_,_,_,_,_,_,_,_,_,_,_,_,_,_,_]) rfl ?_
    refine l_val s11 (y_as rfl (ev_of rfl)) rfl rfl (l' := [_,_,_,_,_,_,_,_,_,_,_,_,_,_,_,_,_,_,_,_,_,_,_,_,_,_,_,_,_,_,_,_,_,_,_,_,_,_,_,_,_,_,_,_,_,_]) rfl ?_
    refine l_end ?_
    refine x_thenN ?_
    refine c_if rfl (fun hc1 => ?_) (fun hc1 => ?_)
    · (try simp only [decide_eq_true_eq, decide_eq_false_iff_not, Bool.not_eq_true', Bool.not_eq_false'] at hc1)
      first | done | (exfalso; omega) | contradiction | (exfalso; simp_all; done)
    · (try simp only [decide_eq_true_eq, decide_eq_false_iff_not, Bool.not_eq_true', Bool.not_eq_false'] at hc1)
      refine c_seq ?_
      refine c_region ?_
      refine l_val s11 (y_eql rfl (ev_of rfl) (ev_of rfl)) rfl rfl (l' := [_,_,_,_,_,_,_,_,_,_,_,_,_,_,_,_,_,_,_,_,_,_,_,_,_,_,_,_,_,_,_,_,_,_,_,_,_,_,_,_,_,_,_,_,_,_]) rfl ?_
      refine l_val s11 (y_as rfl (ev_of rfl)) rfl rfl (l' := [_,_,_,_,_,_,_,_,_,_,_,_,_,_,_,_,_,_,_,_,_,_,_,_,_,_,_,_,_,_,_,_,_,_,_,_,_,_,_,_,_,_,_,_,_,_]) rfl ?_
      refine l_end ?_
      refine x_thenN ?_
      refine c_if rfl (fun hc2 => ?_) (fun hc2 => ?_)
      · (try simp only [decide_eq_true_eq, decide_eq_false_iff_not, Bool.not_eq_true', Bool.not_eq_false'] at hc2)
        first | done | (exfalso; omega) | contradiction | (exfalso; simp_all; done)
      · (try simp only [decide_eq_true_eq, decide_eq_false_iff_not, Bool.not_eq_true', Bool.not_eq_false'] at hc2)
        refine c_seq ?_
        refine c_region ?_
        refine l_val s11 (y_eql rfl (ev_of rfl) (ev_of rfl)) rfl rfl (l' := [_,_,_,_,_,_,_,_,_,_,_,_,_,_,_,_,_,_,_,_,_,_,_,_,_,_,_,_,_,_,_,_,_,_,_,_,_,_,_,_,_,_,_,_,_,_]) rfl ?_
        refine l_val s11 (y_as rfl (ev_of rfl)) rfl rfl (l' := [_,_,_,_,_,_,_,_,_,_,_,_,_,_,_,_,_,_,_,_,_,_,_,_,_,_,_,_,_,_,_,_,_,_,_,_,_,_,_,_,_,_,_,_,_,_]) rfl ?_
        refine l_end ?_
        refine x_thenN ?_
        refine c_if rfl (fun hc3 => ?_) (fun hc3 => ?_)
        · (try simp only [decide_eq_true_eq, decide_eq_false_iff_not, Bool.not_eq_true', Bool.not_eq_false'] at hc3)
          first | done | (exfalso; omega) | contradiction | (exfalso; simp_all; done)
        · (try simp only [decide_eq_true_eq, decide_eq_false_iff_not, Bool.not_eq_true', Bool.not_eq_false'] at hc3)
          refine c_skip ?_
          refine x_blockN ?_
          refine x_thenN ?_
          refine c_seq ?_
          refine c_region ?_
          refine l_val s11 (y_mv rfl (ev_of rfl)) rfl rfl (l' := [_,_,_,_,_,_,_,_,_,_,_,_,_,_,_,_,_,_,_,_,_,_,_,_,_,_,_,_,_,_,_,_,_,_,_,_,_,_,_,_,_,_,_,_,_,_]) rfl ?_
          refine l_callL rfl rfl rfl FnTf.call147 (vs := [_]) rfl (gcopy_c s11 (by repeat first | exact hg | apply Has.there)) ?_
          rintro _ w14 ⟨b', rfl, s13⟩
          clear s11
          refine nlL (l' := [_,_,_,_,_,_,_,_,_,_,_,_,_,_,_,_,_,_,_,_,_,_,_,_,_,_,_,_,_,_,_,_,_,_,_,_,_,_,_,_,_,_,_,_,_,_]) rfl ?_
          refine l_val s13 (y_as rfl (ev_of rfl)) rfl rfl (l' := [_,_,_,_,_,_,_,_,_,_,_,_,_,_,_,_,_,_,_,_,_,_,_,_,_,_,_,_,_,_,_,_,_,_,_,_,_,_,_,_,_,_,_,_,_,_]) rfl ?_
          refine l_val s13 (y_as rfl (ev_of rfl)) rfl rfl (l' := [_,_,_,_,_,_,_,_,_,_,_,_,_,_,_,_,_,_,_,_,_,_,_,_,_,_,_,_,_,_,_,_,_,_,_,_,_,_,_,_,_,_,_,_,_,_]) rfl ?_
          refine l_end ?_
          refine x_thenN ?_
          refine c_ret ?_
          refine r2 rfl rfl rfl ?_
          exact ⟨b', rfl, s13.sub (by first | (repeat first | with_reducible exact Sub.refl _ | refine Sub.skip _ ?_); done | (repeat first | with_reducible exact Sub.refl _ | exact Sub.nil _ | refine Sub.take (by repeat first | with_reducible exact Take.here _ _ | apply Take.there) ?_ | refine Sub.skip _ ?_))⟩
theorem quarter_c {e : Env} {L : List Asn} {w : World} {n : Int} {k b W H : Nat} {vs : List Int} (s : SL e w L) (hg : Has L (GridA b W H vs)) (hn : n % 4 = (k : Int)) (hk : k < 4) : Calls Try.prog 58 #[ptr b 0, .int .i64 n] w (Rets fun r w' => ∃ b', r = .tuple #[ptr b' 0, .int .i64 0] ∧ SL e w' (GridA b' (qW k W H) (qH k W H) (qV k W H vs) :: L)) := by
  rcases (by omega : k = 0 ∨ k = 1 ∨ k = 2 ∨ k = 3) with rfl | rfl | rfl | rfl
  · exact quarter0_c s hg hn
  · exact quarter1_c s hg hn
  · exact quarter2_c s hg hn
  · exact quarter3_c s hg hn
end Go.Proofs.Ytpchomihojidpaa
