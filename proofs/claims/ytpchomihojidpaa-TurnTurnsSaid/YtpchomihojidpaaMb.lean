/- Is a grid a model? -/
import Derived.Test.YtpchomihojidpaaTy
import Derived.Test.YtpchomihojidpaaSlC
import Derived.Test.YtpchomihojidpaaGh
import Derived.Test.YtpchomihojidpaaDa
import Derived.KernelRfl
namespace Go.Proofs.Ytpchomihojidpaa
open Go.SL
set_option linter.unusedVariables false
set_option linter.unusedSimpArgs false
attribute [local irreducible] wpList WD WP Region.wanted Code.wp
set_option maxHeartbeats 4000000 in
set_option maxRecDepth 100000 in
/-- hachure/hachurelaw09.Is -/
theorem is_c {e : Env} {L : List Asn} {w : World} {b W H : Nat} {u : Value} {vs : List Int} (s : SL e w L) (hg : Has L (GridA b W H vs)) (hv : Ent L (SlR I64 u vs)) :
    Calls Try.prog 38 #[ptr b 0, .agg #[.int .i64 (W : Int), .int .i64 (H : Int), u]] w (Rets fun r w' => r = .bool true ∧ SL e w' L) := by
  have hok := gridOk s hg
  have hw1 := hok.w1; have hh1 := hok.h1; have hlen := hok.len
  have hn : W * H ≤ 1024 * 1024 := Nat.mul_le_mul hw1 hh1
  refine enter Try.func38 rfl (l := [ptr b 0, .agg #[.int .i64 (W : Int), .int .i64 (H : Int), u], undef, undef, undef, undef, undef, undef, undef, undef, undef, undef, undef, undef, undef, undef, undef, undef, undef, undef, undef, undef, undef, undef, undef, undef, undef, undef, undef, undef, undef, undef, undef, undef, undef, undef, undef, undef, undef, undef, undef]) rfl ?_
  refine c_seq ?_
  refine c_region ?_
  refine l_box s rfl rfl rfl (ev_of rfl) (fun b3 w2 s1 => ?_)
  change SL _ _ (Blk _ #[_, _, _] _ :: _) at s1
  clear s
  refine nlL (l' := _) rfl ?_
  refine l_val s1 (y_as rfl (ev_of rfl)) rfl rfl (l' := [_,_,_,_,_,_,_,_,_,_,_,_,_,_,_,_,_,_,_,_,_,_,_,_,_,_,_,_,_,_,_,_,_,_,_,_,_,_,_,_,_]) rfl ?_
  refine l_end ?_
  refine x_thenN ?_
  refine c_seq ?_
  refine c_region ?_
  refine l_val s1 (y_mv rfl (ev_of rfl)) rfl rfl (l' := _) rfl ?_
  refine l_callL rfl rfl rfl Fn.call125 (vs := [_]) rfl (gsize_c s1 (by repeat first | exact hg | apply Has.there)) ?_
  rintro _ w5 ⟨rfl, s4⟩
  clear s1
  refine nlL (l' := [_,_,_,_,_,_,_,_,_,_,_,_,_,_,_,_,_,_,_,_,_,_,_,_,_,_,_,_,_,_,_,_,_,_,_,_,_,_,_,_,_]) rfl ?_
  refine l_val s4 (y_mv rfl (ev_of rfl)) rfl rfl (l' := _) rfl ?_
  refine l_val s4 (y_extract rfl (ev_of rfl) rfl) rfl rfl (l' := [_,_,_,_,_,_,_,_,_,_,_,_,_,_,_,_,_,_,_,_,_,_,_,_,_,_,_,_,_,_,_,_,_,_,_,_,_,_,_,_,_]) rfl ?_
  refine l_val s4 (y_extract rfl (ev_of rfl) rfl) rfl rfl (l' := _) rfl ?_
  refine l_val s4 (y_as rfl (ev_of rfl)) rfl rfl (l' := [_,_,_,_,_,_,_,_,_,_,_,_,_,_,_,_,_,_,_,_,_,_,_,_,_,_,_,_,_,_,_,_,_,_,_,_,_,_,_,_,_]) rfl ?_
  refine l_val s4 (y_as rfl (ev_of rfl)) rfl rfl (l' := _) rfl ?_
  refine l_end ?_
  refine x_thenN ?_
  refine c_seq ?_
  refine c_region ?_
  refine l_val s4 (y_mv rfl (ev_of rfl)) rfl rfl (l' := [_,_,_,_,_,_,_,_,_,_,_,_,_,_,_,_,_,_,_,_,_,_,_,_,_,_,_,_,_,_,_,_,_,_,_,_,_,_,_,_,_]) rfl ?_
  refine l_val s4 (y_mv rfl (ev_of rfl)) rfl rfl (l' := _) rfl ?_
  refine l_callL rfl rfl rfl Fn.call85 (vs := [_]) rfl (gall_c s4 (by repeat first | exact hg | apply Has.there)) ?_
  rintro _ w7 ⟨rfl, s6⟩
  clear s4
  refine nlL (l' := [_,_,_,_,_,_,_,_,_,_,_,_,_,_,_,_,_,_,_,_,_,_,_,_,_,_,_,_,_,_,_,_,_,_,_,_,_,_,_,_,_]) rfl ?_
  refine l_callL rfl rfl rfl Fn.call84 (vs := [_, _]) rfl (gvals_c s6 (by repeat first | exact hg | apply Has.there)) ?_
  rintro _ w9 ⟨x, rfl, s8⟩
  clear s6
  refine nlL (l' := _) rfl ?_
  refine l_val s8 (y_mv rfl (ev_of rfl)) rfl rfl (l' := [_,_,_,_,_,_,_,_,_,_,_,_,_,_,_,_,_,_,_,_,_,_,_,_,_,_,_,_,_,_,_,_,_,_,_,_,_,_,_,_,_]) rfl ?_
  refine l_val s8 (y_extract rfl (ev_of rfl) rfl) rfl rfl (l' := _) rfl ?_
  refine l_val s8 (y_extract rfl (ev_of rfl) rfl) rfl rfl (l' := [_,_,_,_,_,_,_,_,_,_,_,_,_,_,_,_,_,_,_,_,_,_,_,_,_,_,_,_,_,_,_,_,_,_,_,_,_,_,_,_,_]) rfl ?_
  refine l_val s8 (y_as rfl (ev_of rfl)) rfl rfl (l' := _) rfl ?_
  refine l_val s8 (y_as rfl (ev_of rfl)) rfl rfl (l' := [_,_,_,_,_,_,_,_,_,_,_,_,_,_,_,_,_,_,_,_,_,_,_,_,_,_,_,_,_,_,_,_,_,_,_,_,_,_,_,_,_]) rfl ?_
  refine l_end ?_
  refine x_thenN ?_
  refine c_seq ?_
  refine c_region ?_
  refine l_val s8 (y_mv rfl (ev_of rfl)) rfl rfl (l' := _) rfl ?_
  refine l_val s8 (y_fieldAddrB rfl Ty.fld25_0 Ty.size2 (ev_of rfl)) rfl rfl (l' := [_,_,_,_,_,_,_,_,_,_,_,_,_,_,_,_,_,_,_,_,_,_,_,_,_,_,_,_,_,_,_,_,_,_,_,_,_,_,_,_,_]) rfl ?_
  refine l_val s8 (y_load rfl Ty.some2 Ty.agg2 (ev_of rfl) (by repeat first | exact ent_cell rfl | assumption | refine Ent.there ?_)) rfl rfl (l' := _) rfl ?_
  refine l_val s8 (y_eql rfl (ev_of rfl) (ev_of rfl)) rfl rfl (l' := [_,_,_,_,_,_,_,_,_,_,_,_,_,_,_,_,_,_,_,_,_,_,_,_,_,_,_,_,_,_,_,_,_,_,_,_,_,_,_,_,_]) rfl ?_
  refine l_val s8 (y_mv rfl (ev_of rfl)) rfl rfl (l' := _) rfl ?_
  refine l_split (t := 25) rfl (fun hg10 => ?_) (fun hg10 => ?_)
  · (try simp only [decide_eq_true_eq, decide_eq_false_iff_not, Bool.not_eq_true', Bool.not_eq_false'] at hg10)
    refine nlL (l' := [_,_,_,_,_,_,_,_,_,_,_,_,_,_,_,_,_,_,_,_,_,_,_,_,_,_,_,_,_,_,_,_,_,_,_,_,_,_,_,_,_]) rfl ?_
    refine l_gval s8 (y_mv rfl (ev_of rfl)) (wanted_of rfl rfl rfl rfl rfl) rfl (l' := _) rfl ?_
    refine l_gval s8 (y_fieldAddrB rfl Ty.fld25_1 Ty.size2 (ev_of rfl)) (wanted_of rfl rfl rfl rfl rfl) rfl (l' := [_,_,_,_,_,_,_,_,_,_,_,_,_,_,_,_,_,_,_,_,_,_,_,_,_,_,_,_,_,_,_,_,_,_,_,_,_,_,_,_,_]) rfl ?_
    refine l_gval s8 (y_load rfl Ty.some2 Ty.agg2 (ev_of rfl) (by repeat first | exact ent_cell rfl | assumption | refine Ent.there ?_)) (wanted_of rfl rfl rfl rfl rfl) rfl (l' := _) rfl ?_
    refine l_gval s8 (y_eql rfl (ev_of rfl) (ev_of rfl)) (wanted_of rfl rfl rfl rfl rfl) rfl (l' := [_,_,_,_,_,_,_,_,_,_,_,_,_,_,_,_,_,_,_,_,_,_,_,_,_,_,_,_,_,_,_,_,_,_,_,_,_,_,_,_,_]) rfl ?_
    refine l_val s8 (y_pick1 rfl (ev_of rfl) (ev_of rfl)) rfl rfl (l' := _) rfl ?_
    refine l_val s8 (y_mv rfl (ev_of rfl)) rfl rfl (l' := [_,_,_,_,_,_,_,_,_,_,_,_,_,_,_,_,_,_,_,_,_,_,_,_,_,_,_,_,_,_,_,_,_,_,_,_,_,_,_,_,_]) rfl ?_
    refine l_split (t := 31) rfl (fun hg11 => ?_) (fun hg11 => ?_)
    · (try simp only [decide_eq_true_eq, decide_eq_false_iff_not, Bool.not_eq_true', Bool.not_eq_false'] at hg11)
      refine nlL (l' := _) rfl ?_
      refine l_gval s8 (y_mv rfl (ev_of rfl)) (wanted_of rfl rfl rfl rfl rfl) rfl (l' := [_,_,_,_,_,_,_,_,_,_,_,_,_,_,_,_,_,_,_,_,_,_,_,_,_,_,_,_,_,_,_,_,_,_,_,_,_,_,_,_,_]) rfl ?_
      refine l_gval s8 (y_eql rfl (ev_of rfl) (ev_of rfl)) (wanted_of rfl rfl rfl rfl rfl) rfl (l' := _) rfl ?_
      refine l_val s8 (y_pick1 rfl (ev_of rfl) (ev_of rfl)) rfl rfl (l' := [_,_,_,_,_,_,_,_,_,_,_,_,_,_,_,_,_,_,_,_,_,_,_,_,_,_,_,_,_,_,_,_,_,_,_,_,_,_,_,_,_]) rfl ?_
      refine l_val s8 (y_mv rfl (ev_of rfl)) rfl rfl (l' := _) rfl ?_
      refine l_split (t := 35) rfl (fun hg12 => ?_) (fun hg12 => ?_)
      · (try simp only [decide_eq_true_eq, decide_eq_false_iff_not, Bool.not_eq_true', Bool.not_eq_false'] at hg12)
        refine nlL (l' := [_,_,_,_,_,_,_,_,_,_,_,_,_,_,_,_,_,_,_,_,_,_,_,_,_,_,_,_,_,_,_,_,_,_,_,_,_,_,_,_,_]) rfl ?_
        refine l_gval s8 (y_mv rfl (ev_of rfl)) (wanted_of rfl rfl rfl rfl rfl) rfl (l' := _) rfl ?_
        refine l_gval s8 (y_fieldAddrB rfl Ty.fld25_2 Ty.size22 (ev_of rfl)) (wanted_of rfl rfl rfl rfl rfl) rfl (l' := [_,_,_,_,_,_,_,_,_,_,_,_,_,_,_,_,_,_,_,_,_,_,_,_,_,_,_,_,_,_,_,_,_,_,_,_,_,_,_,_,_]) rfl ?_
        refine l_gval s8 (y_load rfl Ty.some22 Ty.agg22 (ev_of rfl) (by repeat first | exact ent_cell rfl | assumption | refine Ent.there ?_)) (wanted_of rfl rfl rfl rfl rfl) rfl (l' := _) rfl ?_
        refine l_gcall rfl (wanted_of rfl rfl rfl rfl rfl) rfl Fn.call56 (vs := [_, _]) rfl (same_c s8 (by repeat first | assumption | with_reducible exact ent_blk | exact Ent.here arr_reads | exact Ent.here one_I64 | exact Ent.here one_Cell | exact Ent.here one_Bool | exact Ent.here one_Rect | refine Ent.there ?_) (by repeat first | assumption | with_reducible exact ent_blk | exact Ent.here arr_reads | exact Ent.here one_I64 | exact Ent.here one_Cell | exact Ent.here one_Bool | exact Ent.here one_Rect | refine Ent.there ?_) (by omega)) ?_
        rintro _ w14 ⟨rfl, s13⟩
        clear s8
        refine nlL (l' := [_,_,_,_,_,_,_,_,_,_,_,_,_,_,_,_,_,_,_,_,_,_,_,_,_,_,_,_,_,_,_,_,_,_,_,_,_,_,_,_,_]) rfl ?_
        refine l_val s13 (y_pick1 rfl (ev_of rfl) (ev_of rfl)) rfl rfl (l' := _) rfl ?_
        refine l_val s13 (y_as rfl (ev_of rfl)) rfl rfl (l' := [_,_,_,_,_,_,_,_,_,_,_,_,_,_,_,_,_,_,_,_,_,_,_,_,_,_,_,_,_,_,_,_,_,_,_,_,_,_,_,_,_]) rfl ?_
        refine l_end ?_
        refine x_thenN ?_
        refine c_ret ?_
        refine r1 rfl rfl ?_
        exact ⟨congrArg Value.bool (decide_eq_true rfl), s13.sub (by repeat first | with_reducible exact Sub.refl _ | exact Sub.nil _ | refine Sub.take (by repeat first | with_reducible exact Take.here _ _ | apply Take.there) ?_ | refine Sub.skip _ ?_)⟩
      · (try simp only [decide_eq_true_eq, decide_eq_false_iff_not, Bool.not_eq_true', Bool.not_eq_false'] at hg12)
        first | done | (exfalso; omega) | contradiction | (exfalso; simp_all; done)
    · (try simp only [decide_eq_true_eq, decide_eq_false_iff_not, Bool.not_eq_true', Bool.not_eq_false'] at hg11)
      first | done | (exfalso; omega) | contradiction | (exfalso; simp_all; done)
  · (try simp only [decide_eq_true_eq, decide_eq_false_iff_not, Bool.not_eq_true', Bool.not_eq_false'] at hg10)
    first | done | (exfalso; omega) | contradiction | (exfalso; simp_all; done)
end Go.Proofs.Ytpchomihojidpaa
