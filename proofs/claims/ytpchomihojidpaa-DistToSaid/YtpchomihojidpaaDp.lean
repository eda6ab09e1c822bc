/- Which one is nearest: the program. -/
import Derived.Test.YtpchomihojidpaaTy
import Derived.Test.YtpchomihojidpaaSlC
import Derived.Test.YtpchomihojidpaaDn
import Derived.Test.YtpchomihojidpaaEqs
import Derived.KernelRfl
namespace Go.Proofs.Ytpchomihojidpaa
open Go.SL
set_option linter.unusedVariables false
set_option linter.unusedSimpArgs false
attribute [local irreducible] wpList WD WP Region.wanted Code.wp
set_option maxHeartbeats 4000000 in
set_option maxRecDepth 100000 in
/-- hachure/dist.Nearest -/
theorem nearest_c {e : Env} {L : List Asn} {w : World} {b W H cx cy : Nat} {vs : List Int} {t : Int} (s : SL e w L) (hg : Has L (GridA b W H vs)) (hcx : cx < W) (hcy : cy < H) :
    Calls Try.prog 42 #[ptr b 0, .agg #[.int .i64 (cx : Int), .int .i64 (cy : Int)], .int .i64 t] w (Rets fun r w' => ∃ o, r = .tuple #[.agg #[.int .i64 (oX W o), .int .i64 (oY W o)], .int .i64 (oM W (cy * W + cx) o), .bool (oF o), .int .i64 0] ∧ Best W vs t (cy * W + cx) vs.length o ∧ SL e w' L) := by
  have hok := gridOk s hg
  have hw0 := hok.w0; have hw1 := hok.w1; have hh0 := hok.h0; have hh1 := hok.h1; have hlen := hok.len
  have hn : W * H ≤ 1024 * 1024 := Nat.mul_le_mul hw1 hh1
  have hn0 : 1 * 1 ≤ W * H := Nat.mul_le_mul hw0 hh0
  have hq := cellLt (x := cx) (y := cy) hcx hcy
  refine enter Try.func42 rfl (l := [ptr b 0, .agg #[.int .i64 (cx : Int), .int .i64 (cy : Int)], .int .i64 t, undef, undef, undef, undef, undef, undef, undef, undef, undef, undef, undef, undef, undef, undef, undef, undef, undef, undef, undef, undef, undef, undef, undef, undef, undef, undef, undef, undef, undef, undef, undef, undef, undef, undef, undef, undef, undef, undef, undef, undef, undef, undef, undef, undef, undef, undef, undef, undef, undef, undef, undef, undef, undef, undef, undef, undef, undef, undef, undef, undef, undef, undef, undef, undef, undef, undef, undef, undef, undef, undef, undef, undef, undef, undef, undef, undef, undef, undef, undef, undef, undef, undef, undef, undef, undef, undef, undef, undef, undef, undef, undef, undef, undef, undef, undef, undef, undef, undef, undef, undef, undef, undef, undef, undef, undef, undef, undef, undef, undef, undef, undef, undef, undef, undef, undef, undef, undef, undef, undef, undef]) rfl ?_
  refine c_seq ?_
  refine c_region ?_
  refine l_box s rfl rfl rfl (ev_of rfl) (fun b3 w2 s1 => ?_)
  change SL _ _ (Blk _ #[_, _] _ :: _) at s1
  clear s
  refine nlL (l' := _) rfl ?_
  refine l_alloc s1 rfl rfl rfl Ty.zero46 (fun b6 w5 s4 => ?_)
  change SL _ _ (Blk _ #[_, _] _ :: _) at s4
  clear s1
  refine nlL (l' := [_,_,_,_,_,_,_,_,_,_,_,_,_,_,_,_,_,_,_,_,_,_,_,_,_,_,_,_,_,_,_,_,_,_,_,_,_,_,_,_,_,_,_,_,_,_,_,_,_,_,_,_,_,_,_,_,_,_,_,_,_,_,_,_,_,_,_,_,_,_,_,_,_,_,_,_,_,_,_,_,_,_,_,_,_,_,_,_,_,_,_,_,_,_,_,_,_,_,_,_,_,_,_,_,_,_,_,_,_,_,_,_,_,_,_,_,_,_,_,_,_,_,_]) rfl ?_
  refine l_val s4 (y_as rfl (ev_of rfl)) rfl rfl (l' := _) rfl ?_
  refine l_val s4 (y_as rfl (ev_of rfl)) rfl rfl (l' := [_,_,_,_,_,_,_,_,_,_,_,_,_,_,_,_,_,_,_,_,_,_,_,_,_,_,_,_,_,_,_,_,_,_,_,_,_,_,_,_,_,_,_,_,_,_,_,_,_,_,_,_,_,_,_,_,_,_,_,_,_,_,_,_,_,_,_,_,_,_,_,_,_,_,_,_,_,_,_,_,_,_,_,_,_,_,_,_,_,_,_,_,_,_,_,_,_,_,_,_,_,_,_,_,_,_,_,_,_,_,_,_,_,_,_,_,_,_,_,_,_,_,_]) rfl ?_
  refine l_val s4 (y_as rfl (ev_of rfl)) rfl rfl (l' := _) rfl ?_
  refine l_end ?_
  refine x_thenN ?_
  refine c_seq ?_
  refine c_seq ?_
  refine c_region ?_
  refine l_val s4 (y_mv rfl (ev_of rfl)) rfl rfl (l' := [_,_,_,_,_,_,_,_,_,_,_,_,_,_,_,_,_,_,_,_,_,_,_,_,_,_,_,_,_,_,_,_,_,_,_,_,_,_,_,_,_,_,_,_,_,_,_,_,_,_,_,_,_,_,_,_,_,_,_,_,_,_,_,_,_,_,_,_,_,_,_,_,_,_,_,_,_,_,_,_,_,_,_,_,_,_,_,_,_,_,_,_,_,_,_,_,_,_,_,_,_,_,_,_,_,_,_,_,_,_,_,_,_,_,_,_,_,_,_,_,_,_,_]) rfl ?_
  refine l_val s4 (y_load_blk rfl Ty.some46 Ty.agg46 Ty.size46 (ev_of rfl) (by repeat first | exact ent_blk | refine Ent.there ?_) rfl) rfl rfl (l' := _) rfl ?_
  refine l_callL rfl rfl rfl Fn.call127 (vs := [_, _]) rfl (gat_c s4 (by repeat first | exact hg | apply Has.there) hcx hcy) ?_
  rintro _ w8 ⟨rfl, s7⟩
  clear s4
  refine nlL (l' := [_,_,_,_,_,_,_,_,_,_,_,_,_,_,_,_,_,_,_,_,_,_,_,_,_,_,_,_,_,_,_,_,_,_,_,_,_,_,_,_,_,_,_,_,_,_,_,_,_,_,_,_,_,_,_,_,_,_,_,_,_,_,_,_,_,_,_,_,_,_,_,_,_,_,_,_,_,_,_,_,_,_,_,_,_,_,_,_,_,_,_,_,_,_,_,_,_,_,_,_,_,_,_,_,_,_,_,_,_,_,_,_,_,_,_,_,_,_,_,_,_,_,_]) rfl ?_
  refine l_val s7 (y_mv rfl (ev_of rfl)) rfl rfl (l' := _) rfl ?_
  refine l_val s7 (y_extract rfl (ev_of rfl) rfl) rfl rfl (l' := [_,_,_,_,_,_,_,_,_,_,_,_,_,_,_,_,_,_,_,_,_,_,_,_,_,_,_,_,_,_,_,_,_,_,_,_,_,_,_,_,_,_,_,_,_,_,_,_,_,_,_,_,_,_,_,_,_,_,_,_,_,_,_,_,_,_,_,_,_,_,_,_,_,_,_,_,_,_,_,_,_,_,_,_,_,_,_,_,_,_,_,_,_,_,_,_,_,_,_,_,_,_,_,_,_,_,_,_,_,_,_,_,_,_,_,_,_,_,_,_,_,_,_]) rfl ?_
  refine l_val s7 (y_extract rfl (ev_of rfl) rfl) rfl rfl (l' := _) rfl ?_
  refine l_val s7 (y_as rfl (ev_of rfl)) rfl rfl (l' := [_,_,_,_,_,_,_,_,_,_,_,_,_,_,_,_,_,_,_,_,_,_,_,_,_,_,_,_,_,_,_,_,_,_,_,_,_,_,_,_,_,_,_,_,_,_,_,_,_,_,_,_,_,_,_,_,_,_,_,_,_,_,_,_,_,_,_,_,_,_,_,_,_,_,_,_,_,_,_,_,_,_,_,_,_,_,_,_,_,_,_,_,_,_,_,_,_,_,_,_,_,_,_,_,_,_,_,_,_,_,_,_,_,_,_,_,_,_,_,_,_,_,_]) rfl ?_
  refine l_val s7 (y_as rfl (ev_of rfl)) rfl rfl (l' := _) rfl ?_
  refine l_end ?_
  refine x_thenN ?_
  refine c_seq ?_
  refine c_region ?_
  refine l_val s7 (y_mv rfl (ev_of rfl)) rfl rfl (l' := [_,_,_,_,_,_,_,_,_,_,_,_,_,_,_,_,_,_,_,_,_,_,_,_,_,_,_,_,_,_,_,_,_,_,_,_,_,_,_,_,_,_,_,_,_,_,_,_,_,_,_,_,_,_,_,_,_,_,_,_,_,_,_,_,_,_,_,_,_,_,_,_,_,_,_,_,_,_,_,_,_,_,_,_,_,_,_,_,_,_,_,_,_,_,_,_,_,_,_,_,_,_,_,_,_,_,_,_,_,_,_,_,_,_,_,_,_,_,_,_,_,_,_]) rfl ?_
  refine l_val s7 (y_neq rfl (ev_of rfl) (ev_of rfl)) rfl rfl (l' := _) rfl ?_
  refine l_end ?_
  refine x_thenN ?_
  refine c_if rfl (fun hc0 => ?_) (fun hc0 => ?_)
  · (try simp only [decide_eq_true_eq, decide_eq_false_iff_not, Bool.not_eq_true', Bool.not_eq_false'] at hc0)
    first | done | (exfalso; omega) | contradiction | (exfalso; simp_all; done)
  · (try simp only [decide_eq_true_eq, decide_eq_false_iff_not, Bool.not_eq_true', Bool.not_eq_false'] at hc0)
    refine c_skip ?_
    refine x_thenN ?_
    refine c_seq ?_
    refine c_region ?_
    refine l_val s7 (y_mv rfl (ev_of rfl)) rfl rfl (l' := [_,_,_,_,_,_,_,_,_,_,_,_,_,_,_,_,_,_,_,_,_,_,_,_,_,_,_,_,_,_,_,_,_,_,_,_,_,_,_,_,_,_,_,_,_,_,_,_,_,_,_,_,_,_,_,_,_,_,_,_,_,_,_,_,_,_,_,_,_,_,_,_,_,_,_,_,_,_,_,_,_,_,_,_,_,_,_,_,_,_,_,_,_,_,_,_,_,_,_,_,_,_,_,_,_,_,_,_,_,_,_,_,_,_,_,_,_,_,_,_,_,_,_]) rfl ?_
    refine l_val s7 (y_mv rfl (ev_of rfl)) rfl rfl (l' := _) rfl ?_
    refine l_callL rfl rfl rfl Fn.call120 (vs := [_, _]) rfl (of_c s7 (by repeat first | exact hg | apply Has.there)) ?_
    rintro _ w10 ⟨u, ls, rfl, hd, s9⟩
    clear s7
    refine nlL (l' := [_,_,_,_,_,_,_,_,_,_,_,_,_,_,_,_,_,_,_,_,_,_,_,_,_,_,_,_,_,_,_,_,_,_,_,_,_,_,_,_,_,_,_,_,_,_,_,_,_,_,_,_,_,_,_,_,_,_,_,_,_,_,_,_,_,_,_,_,_,_,_,_,_,_,_,_,_,_,_,_,_,_,_,_,_,_,_,_,_,_,_,_,_,_,_,_,_,_,_,_,_,_,_,_,_,_,_,_,_,_,_,_,_,_,_,_,_,_,_,_,_,_,_]) rfl ?_
    have hls := hd.s.len
    have hni := hd.none_iff (H := H) (by omega) hlen (by omega) (by omega)
    have hcm : ((cy * W : Nat) : Int) = (cy : Int) * (W : Int) := Int.natCast_mul cy W
    refine l_val s9 (y_mv rfl (ev_of rfl)) rfl rfl (l' := _) rfl ?_
    refine l_val s9 (y_extract rfl (ev_of rfl) rfl) rfl rfl (l' := [_,_,_,_,_,_,_,_,_,_,_,_,_,_,_,_,_,_,_,_,_,_,_,_,_,_,_,_,_,_,_,_,_,_,_,_,_,_,_,_,_,_,_,_,_,_,_,_,_,_,_,_,_,_,_,_,_,_,_,_,_,_,_,_,_,_,_,_,_,_,_,_,_,_,_,_,_,_,_,_,_,_,_,_,_,_,_,_,_,_,_,_,_,_,_,_,_,_,_,_,_,_,_,_,_,_,_,_,_,_,_,_,_,_,_,_,_,_,_,_,_,_,_]) rfl ?_
    refine l_val s9 (y_extract rfl (ev_of rfl) rfl) rfl rfl (l' := _) rfl ?_
    refine l_alloc s9 rfl rfl rfl Ty.zero165 (fun b13 w12 s11 => ?_)
    change SL _ _ (Blk _ #[_, _] _ :: _) at s11
    clear s9
    refine nlL (l' := [_,_,_,_,_,_,_,_,_,_,_,_,_,_,_,_,_,_,_,_,_,_,_,_,_,_,_,_,_,_,_,_,_,_,_,_,_,_,_,_,_,_,_,_,_,_,_,_,_,_,_,_,_,_,_,_,_,_,_,_,_,_,_,_,_,_,_,_,_,_,_,_,_,_,_,_,_,_,_,_,_,_,_,_,_,_,_,_,_,_,_,_,_,_,_,_,_,_,_,_,_,_,_,_,_,_,_,_,_,_,_,_,_,_,_,_,_,_,_,_,_,_,_]) rfl ?_
    refine l_stA s11 (by repeat first | with_reducible exact Take.here _ _ | apply Take.there) rfl rfl rfl Ty.size165 (ev_of rfl) (ev_of rfl) rfl rfl (by first | (simp [Value.oneCell']; done) | (intro x hx; simp only [List.mem_toArray, List.mem_cons, List.not_mem_nil, or_false] at hx; rcases hx with rfl | rfl <;> first | rfl | assumption | exact arr_one (by repeat first | assumption | with_reducible exact ent_blk | exact Ent.here arr_reads | exact Ent.here one_I64 | exact Ent.here one_Cell | exact Ent.here one_Bool | exact Ent.here one_Rect | refine Ent.there ?_) s11)) (fun w15 s14 => ?_)
    clear s11
    refine l_val s14 (y_as rfl (ev_of rfl)) rfl rfl (l' := _) rfl ?_
    refine l_end ?_
    refine x_thenN ?_
    refine c_seq ?_
    refine c_seq ?_
    refine c_region ?_
    refine l_val s14 (y_load_blk rfl Ty.some165 Ty.agg165 Ty.size165 (ev_of rfl) (by repeat first | exact ent_blk | refine Ent.there ?_) rfl) rfl rfl (l' := [_,_,_,_,_,_,_,_,_,_,_,_,_,_,_,_,_,_,_,_,_,_,_,_,_,_,_,_,_,_,_,_,_,_,_,_,_,_,_,_,_,_,_,_,_,_,_,_,_,_,_,_,_,_,_,_,_,_,_,_,_,_,_,_,_,_,_,_,_,_,_,_,_,_,_,_,_,_,_,_,_,_,_,_,_,_,_,_,_,_,_,_,_,_,_,_,_,_,_,_,_,_,_,_,_,_,_,_,_,_,_,_,_,_,_,_,_,_,_,_,_,_,_]) rfl ?_
    refine l_callL rfl rfl rfl Fn.call121 (vs := [_]) rfl (none_c s14 (by repeat first | assumption | with_reducible exact ent_blk | exact Ent.here arr_reads | exact Ent.here one_I64 | exact Ent.here one_Cell | exact Ent.here one_Bool | exact Ent.here one_Rect | refine Ent.there ?_) (by omega)) ?_
    rintro _ w17 ⟨rfl, s16⟩
    clear s14
    refine nlL (l' := _) rfl ?_
    refine l_end ?_
    refine x_thenN ?_
    refine c_if rfl (fun hc1 => ?_) (fun hc1 => ?_)
    · (try simp only [decide_eq_true_eq, decide_eq_false_iff_not, Bool.not_eq_true', Bool.not_eq_false'] at hc1)
      have hno := hni.1 (by omega)
      refine c_seq ?_
      refine c_region ?_
      refine l_val s16 (y_bld (zs := [_, _]) (vs := []) (ps := []) (v := .agg #[_, _]) rfl Ty.zero46 rfl (fs_of Ty.fs46) rfl rfl (by intro q hq; simp only [List.zip_cons_cons, List.zip_nil_right, List.zip_nil_left, List.mem_cons, List.not_mem_nil, or_false] at hq <;> cases hq) rfl ⟨_, rfl⟩) rfl rfl (l' := [_,_,_,_,_,_,_,_,_,_,_,_,_,_,_,_,_,_,_,_,_,_,_,_,_,_,_,_,_,_,_,_,_,_,_,_,_,_,_,_,_,_,_,_,_,_,_,_,_,_,_,_,_,_,_,_,_,_,_,_,_,_,_,_,_,_,_,_,_,_,_,_,_,_,_,_,_,_,_,_,_,_,_,_,_,_,_,_,_,_,_,_,_,_,_,_,_,_,_,_,_,_,_,_,_,_,_,_,_,_,_,_,_,_,_,_,_,_,_,_,_,_,_]) rfl ?_
      refine l_stA s16 (by repeat first | with_reducible exact Take.here _ _ | apply Take.there) rfl rfl rfl Ty.size46 (ev_of rfl) (ev_of rfl) rfl rfl (by first | (simp [Value.oneCell']; done) | (intro x hx; simp only [List.mem_toArray, List.mem_cons, List.not_mem_nil, or_false] at hx; rcases hx with rfl | rfl <;> first | rfl | assumption | exact arr_one (by repeat first | assumption | with_reducible exact ent_blk | exact Ent.here arr_reads | exact Ent.here one_I64 | exact Ent.here one_Cell | exact Ent.here one_Bool | exact Ent.here one_Rect | refine Ent.there ?_) s16)) (fun w19 s18 => ?_)
      clear s16
      refine l_val s18 (y_as rfl (ev_of rfl)) rfl rfl (l' := _) rfl ?_
      refine l_val s18 (y_as rfl (ev_of rfl)) rfl rfl (l' := [_,_,_,_,_,_,_,_,_,_,_,_,_,_,_,_,_,_,_,_,_,_,_,_,_,_,_,_,_,_,_,_,_,_,_,_,_,_,_,_,_,_,_,_,_,_,_,_,_,_,_,_,_,_,_,_,_,_,_,_,_,_,_,_,_,_,_,_,_,_,_,_,_,_,_,_,_,_,_,_,_,_,_,_,_,_,_,_,_,_,_,_,_,_,_,_,_,_,_,_,_,_,_,_,_,_,_,_,_,_,_,_,_,_,_,_,_,_,_,_,_,_,_]) rfl ?_
      refine l_val s18 (y_as rfl (ev_of rfl)) rfl rfl (l' := _) rfl ?_
      refine l_end ?_
      refine x_thenN ?_
      refine c_ret ?_
      refine x_thenR ?_
      refine rc4 s18 rfl rfl Ty.some46 Ty.agg46 Ty.size46 (by repeat first | exact ent_blk | refine Ent.there ?_) rfl rfl rfl rfl ?_
      exact ⟨none, rfl, (fun j hj hs => hno j hs), s18.sub (by repeat first | with_reducible exact Sub.refl _ | exact Sub.nil _ | refine Sub.take (by repeat first | with_reducible exact Take.here _ _ | apply Take.there) ?_ | refine Sub.skip _ ?_)⟩
    · (try simp only [decide_eq_true_eq, decide_eq_false_iff_not, Bool.not_eq_true', Bool.not_eq_false'] at hc1)
      have hF0 : ∃ j, srcB vs t j ∧ man W (cy * W + cx) j = ls.getD (cy * W + cx) 0 := by
        obtain ⟨c, hc, _⟩ := hd.s.near 0 (by omega) (by omega)
        exact (hd.exact (H := H) (by omega) hlen (by omega) hc (k := (cy * W + cx)) (by omega)).2.2.2
      have hF1 := hd.s.lo (cy * W + cx) (by omega)
      have hmin : ∀ j, srcB vs t j → ls.getD (cy * W + cx) 0 ≤ man W (cy * W + cx) j := fun j hj => hd.all _ j (by omega) hj
      have hH : (ls.length : Int) / (W : Int) = (H : Int) := by rw [hls, hlen, Int.natCast_mul]; exact Int.mul_ediv_cancel_left _ (by omega)
      refine c_skip ?_
      refine x_thenN ?_
      refine c_seq ?_
      refine c_region ?_
      refine l_val s16 (y_fieldAddrB rfl Ty.fld165_1 Ty.size22 (ev_of rfl)) rfl rfl (l' := [_,_,_,_,_,_,_,_,_,_,_,_,_,_,_,_,_,_,_,_,_,_,_,_,_,_,_,_,_,_,_,_,_,_,_,_,_,_,_,_,_,_,_,_,_,_,_,_,_,_,_,_,_,_,_,_,_,_,_,_,_,_,_,_,_,_,_,_,_,_,_,_,_,_,_,_,_,_,_,_,_,_,_,_,_,_,_,_,_,_,_,_,_,_,_,_,_,_,_,_,_,_,_,_,_,_,_,_,_,_,_,_,_,_,_,_,_,_,_,_,_,_,_]) rfl ?_
      refine l_val s16 (y_load rfl Ty.some22 Ty.agg22 (ev_of rfl) (by repeat first | exact ent_cell rfl | assumption | refine Ent.there ?_)) rfl rfl (l' := _) rfl ?_
      refine l_val s16 (y_fieldAddrB rfl Ty.fld46_1 Ty.size2 (ev_of rfl)) rfl rfl (l' := [_,_,_,_,_,_,_,_,_,_,_,_,_,_,_,_,_,_,_,_,_,_,_,_,_,_,_,_,_,_,_,_,_,_,_,_,_,_,_,_,_,_,_,_,_,_,_,_,_,_,_,_,_,_,_,_,_,_,_,_,_,_,_,_,_,_,_,_,_,_,_,_,_,_,_,_,_,_,_,_,_,_,_,_,_,_,_,_,_,_,_,_,_,_,_,_,_,_,_,_,_,_,_,_,_,_,_,_,_,_,_,_,_,_,_,_,_,_,_,_,_,_,_]) rfl ?_
      refine l_val s16 (y_load rfl Ty.some2 Ty.agg2 (ev_of rfl) (by repeat first | exact ent_cell rfl | assumption | refine Ent.there ?_)) rfl rfl (l' := _) rfl ?_
      refine l_val s16 (y_fieldAddrB rfl Ty.fld165_0 Ty.size3 (ev_of rfl)) rfl rfl (l' := [_,_,_,_,_,_,_,_,_,_,_,_,_,_,_,_,_,_,_,_,_,_,_,_,_,_,_,_,_,_,_,_,_,_,_,_,_,_,_,_,_,_,_,_,_,_,_,_,_,_,_,_,_,_,_,_,_,_,_,_,_,_,_,_,_,_,_,_,_,_,_,_,_,_,_,_,_,_,_,_,_,_,_,_,_,_,_,_,_,_,_,_,_,_,_,_,_,_,_,_,_,_,_,_,_,_,_,_,_,_,_,_,_,_,_,_,_,_,_,_,_,_,_]) rfl ?_
      refine l_val s16 (y_load rfl Ty.some3 Ty.agg3 (ev_of rfl) (by repeat first | exact ent_cell rfl | assumption | refine Ent.there ?_)) rfl rfl (l' := _) rfl ?_
      refine l_val s16 (y_mul rfl (ev_of rfl) (ev_of rfl) (by omega) (by omega)) rfl rfl (l' := [_,_,_,_,_,_,_,_,_,_,_,_,_,_,_,_,_,_,_,_,_,_,_,_,_,_,_,_,_,_,_,_,_,_,_,_,_,_,_,_,_,_,_,_,_,_,_,_,_,_,_,_,_,_,_,_,_,_,_,_,_,_,_,_,_,_,_,_,_,_,_,_,_,_,_,_,_,_,_,_,_,_,_,_,_,_,_,_,_,_,_,_,_,_,_,_,_,_,_,_,_,_,_,_,_,_,_,_,_,_,_,_,_,_,_,_,_,_,_,_,_,_,_]) rfl ?_
      refine l_val s16 (y_fieldAddrB rfl Ty.fld46_0 Ty.size2 (ev_of rfl)) rfl rfl (l' := _) rfl ?_
      refine l_val s16 (y_load rfl Ty.some2 Ty.agg2 (ev_of rfl) (by repeat first | exact ent_cell rfl | assumption | refine Ent.there ?_)) rfl rfl (l' := [_,_,_,_,_,_,_,_,_,_,_,_,_,_,_,_,_,_,_,_,_,_,_,_,_,_,_,_,_,_,_,_,_,_,_,_,_,_,_,_,_,_,_,_,_,_,_,_,_,_,_,_,_,_,_,_,_,_,_,_,_,_,_,_,_,_,_,_,_,_,_,_,_,_,_,_,_,_,_,_,_,_,_,_,_,_,_,_,_,_,_,_,_,_,_,_,_,_,_,_,_,_,_,_,_,_,_,_,_,_,_,_,_,_,_,_,_,_,_,_,_,_,_]) rfl ?_
      refine l_val s16 (y_add rfl (ev_of rfl) (ev_of rfl) (by omega) (by omega)) rfl rfl (l' := _) rfl ?_
      refine l_val s16 (y_idx (n := cy * W + cx) rfl Ty.elem22 Ty.size2 (ev_of rfl) (ev_of rfl) (by repeat first | assumption | with_reducible exact ent_blk | exact Ent.here arr_reads | exact Ent.here one_I64 | exact Ent.here one_Cell | exact Ent.here one_Bool | exact Ent.here one_Rect | refine Ent.there ?_) (by first | omega | (push_cast; omega)) (by omega)) rfl rfl (l' := [_,_,_,_,_,_,_,_,_,_,_,_,_,_,_,_,_,_,_,_,_,_,_,_,_,_,_,_,_,_,_,_,_,_,_,_,_,_,_,_,_,_,_,_,_,_,_,_,_,_,_,_,_,_,_,_,_,_,_,_,_,_,_,_,_,_,_,_,_,_,_,_,_,_,_,_,_,_,_,_,_,_,_,_,_,_,_,_,_,_,_,_,_,_,_,_,_,_,_,_,_,_,_,_,_,_,_,_,_,_,_,_,_,_,_,_,_,_,_,_,_,_,_]) rfl ?_
      refine l_val s16 (y_ldI rfl Ty.some2 Ty.agg2 (ev_of rfl) (by repeat first | assumption | with_reducible exact ent_blk | exact Ent.here arr_reads | exact Ent.here one_I64 | exact Ent.here one_Cell | exact Ent.here one_Bool | exact Ent.here one_Rect | refine Ent.there ?_) (by omega)) rfl rfl (l' := _) rfl ?_
      refine l_val s16 (y_as rfl (ev_of rfl)) rfl rfl (l' := [_,_,_,_,_,_,_,_,_,_,_,_,_,_,_,_,_,_,_,_,_,_,_,_,_,_,_,_,_,_,_,_,_,_,_,_,_,_,_,_,_,_,_,_,_,_,_,_,_,_,_,_,_,_,_,_,_,_,_,_,_,_,_,_,_,_,_,_,_,_,_,_,_,_,_,_,_,_,_,_,_,_,_,_,_,_,_,_,_,_,_,_,_,_,_,_,_,_,_,_,_,_,_,_,_,_,_,_,_,_,_,_,_,_,_,_,_,_,_,_,_,_,_]) rfl ?_
      refine l_end ?_
      refine x_thenN ?_
      refine c_seq ?_
      refine c_region ?_
      refine l_val s16 (y_fieldAddrB rfl Ty.fld165_1 Ty.size22 (ev_of rfl)) rfl rfl (l' := _) rfl ?_
      refine l_val s16 (y_load rfl Ty.some22 Ty.agg22 (ev_of rfl) (by repeat first | exact ent_cell rfl | assumption | refine Ent.there ?_)) rfl rfl (l' := [_,_,_,_,_,_,_,_,_,_,_,_,_,_,_,_,_,_,_,_,_,_,_,_,_,_,_,_,_,_,_,_,_,_,_,_,_,_,_,_,_,_,_,_,_,_,_,_,_,_,_,_,_,_,_,_,_,_,_,_,_,_,_,_,_,_,_,_,_,_,_,_,_,_,_,_,_,_,_,_,_,_,_,_,_,_,_,_,_,_,_,_,_,_,_,_,_,_,_,_,_,_,_,_,_,_,_,_,_,_,_,_,_,_,_,_,_,_,_,_,_,_,_]) rfl ?_
      refine l_val s16 (y_len rfl rfl Ty.elem22 (ev_of rfl) (by repeat first | assumption | with_reducible exact ent_blk | exact Ent.here arr_reads | exact Ent.here one_I64 | exact Ent.here one_Cell | exact Ent.here one_Bool | exact Ent.here one_Rect | refine Ent.there ?_)) rfl rfl (l' := _) rfl ?_
      refine l_val s16 (y_fieldAddrB rfl Ty.fld165_0 Ty.size3 (ev_of rfl)) rfl rfl (l' := [_,_,_,_,_,_,_,_,_,_,_,_,_,_,_,_,_,_,_,_,_,_,_,_,_,_,_,_,_,_,_,_,_,_,_,_,_,_,_,_,_,_,_,_,_,_,_,_,_,_,_,_,_,_,_,_,_,_,_,_,_,_,_,_,_,_,_,_,_,_,_,_,_,_,_,_,_,_,_,_,_,_,_,_,_,_,_,_,_,_,_,_,_,_,_,_,_,_,_,_,_,_,_,_,_,_,_,_,_,_,_,_,_,_,_,_,_,_,_,_,_,_,_]) rfl ?_
      refine l_val s16 (y_load rfl Ty.some3 Ty.agg3 (ev_of rfl) (by repeat first | exact ent_cell rfl | assumption | refine Ent.there ?_)) rfl rfl (l' := _) rfl ?_
      refine l_val s16 (y_quo rfl (ev_of rfl) (ev_of rfl) (by omega) (by omega) (by omega)) rfl rfl (l' := [_,_,_,_,_,_,_,_,_,_,_,_,_,_,_,_,_,_,_,_,_,_,_,_,_,_,_,_,_,_,_,_,_,_,_,_,_,_,_,_,_,_,_,_,_,_,_,_,_,_,_,_,_,_,_,_,_,_,_,_,_,_,_,_,_,_,_,_,_,_,_,_,_,_,_,_,_,_,_,_,_,_,_,_,_,_,_,_,_,_,_,_,_,_,_,_,_,_,_,_,_,_,_,_,_,_,_,_,_,_,_,_,_,_,_,_,_,_,_,_,_,_,_]) rfl ?_
      rw [hH]
      refine l_val s16 (y_as rfl (ev_of rfl)) rfl rfl (l' := _) rfl ?_
      refine l_end ?_
      refine x_thenN ?_
      refine c_seq ?_
      refine c_seq ?_
      refine c_region ?_
      refine l_val s16 (y_fieldAddrB rfl Ty.fld46_1 Ty.size2 (ev_of rfl)) rfl rfl (l' := [_,_,_,_,_,_,_,_,_,_,_,_,_,_,_,_,_,_,_,_,_,_,_,_,_,_,_,_,_,_,_,_,_,_,_,_,_,_,_,_,_,_,_,_,_,_,_,_,_,_,_,_,_,_,_,_,_,_,_,_,_,_,_,_,_,_,_,_,_,_,_,_,_,_,_,_,_,_,_,_,_,_,_,_,_,_,_,_,_,_,_,_,_,_,_,_,_,_,_,_,_,_,_,_,_,_,_,_,_,_,_,_,_,_,_,_,_,_,_,_,_,_,_]) rfl ?_
      refine l_val s16 (y_load rfl Ty.some2 Ty.agg2 (ev_of rfl) (by repeat first | exact ent_cell rfl | assumption | refine Ent.there ?_)) rfl rfl (l' := _) rfl ?_
      refine l_val s16 (y_mv rfl (ev_of rfl)) rfl rfl (l' := [_,_,_,_,_,_,_,_,_,_,_,_,_,_,_,_,_,_,_,_,_,_,_,_,_,_,_,_,_,_,_,_,_,_,_,_,_,_,_,_,_,_,_,_,_,_,_,_,_,_,_,_,_,_,_,_,_,_,_,_,_,_,_,_,_,_,_,_,_,_,_,_,_,_,_,_,_,_,_,_,_,_,_,_,_,_,_,_,_,_,_,_,_,_,_,_,_,_,_,_,_,_,_,_,_,_,_,_,_,_,_,_,_,_,_,_,_,_,_,_,_,_,_]) rfl ?_
      refine l_val s16 (y_sub rfl (ev_of rfl) (ev_of rfl) (by omega) (by omega)) rfl rfl (l' := _) rfl ?_
      refine l_val s16 (y_max rfl (ev_of rfl) (ev_of rfl)) rfl rfl (l' := [_,_,_,_,_,_,_,_,_,_,_,_,_,_,_,_,_,_,_,_,_,_,_,_,_,_,_,_,_,_,_,_,_,_,_,_,_,_,_,_,_,_,_,_,_,_,_,_,_,_,_,_,_,_,_,_,_,_,_,_,_,_,_,_,_,_,_,_,_,_,_,_,_,_,_,_,_,_,_,_,_,_,_,_,_,_,_,_,_,_,_,_,_,_,_,_,_,_,_,_,_,_,_,_,_,_,_,_,_,_,_,_,_,_,_,_,_,_,_,_,_,_,_]) rfl ?_
      refine l_val s16 (y_as rfl (ev_of rfl)) rfl rfl (l' := _) rfl ?_
      refine l_end ?_
      refine x_thenN ?_
      refine c_block ?_
      refine c_loop [false, false, false, false, false, false, false, true, true, true, false, false, false, false, false, false, true, true, false, true, false, false, false, false, false, false, false, false, false, false, false, false, false, false, false, false, false, false, false, false, false, false, false, false, false, false, false, false, false, false, false, false, false, false, false, false, false, false, false, false, false, false, true, true, true, true, true, true, true, true, true, true, true, true, true, true, true, true, true, true, true, true, true, true, true, true, true, true, true, true, true, true, true, true, true, true, true, true, true, true, true, true, true, true, true, true, true, true, true, true, true, true, true, true, true, true, true, true, true, true, true, true, false] (fun mu ds w => ∃ (y : Int) (dd1 : List Value), ds = [nthD dd1 0, nthD dd1 1, nthD dd1 2, (.int .i64 y), nthD dd1 3, nthD dd1 4, nthD dd1 5, nthD dd1 6, nthD dd1 7, nthD dd1 8, nthD dd1 9, nthD dd1 10, nthD dd1 11, nthD dd1 12, nthD dd1 13, nthD dd1 14, nthD dd1 15, nthD dd1 16, nthD dd1 17, nthD dd1 18, nthD dd1 19, nthD dd1 20, nthD dd1 21, nthD dd1 22, nthD dd1 23, nthD dd1 24, nthD dd1 25, nthD dd1 26, nthD dd1 27, nthD dd1 28, nthD dd1 29, nthD dd1 30, nthD dd1 31, nthD dd1 32, nthD dd1 33, nthD dd1 34, nthD dd1 35, nthD dd1 36, nthD dd1 37, nthD dd1 38, nthD dd1 39, nthD dd1 40, nthD dd1 41, nthD dd1 42, nthD dd1 43, nthD dd1 44, nthD dd1 45, nthD dd1 46, nthD dd1 47, nthD dd1 48, nthD dd1 49, nthD dd1 50, nthD dd1 51, nthD dd1 52, nthD dd1 53, nthD dd1 54, nthD dd1 55, nthD dd1 56, nthD dd1 57, nthD dd1 58, nthD dd1 59, nthD dd1 60, nthD dd1 61, nthD dd1 62, nthD dd1 63, nthD dd1 64] ∧ mu = ((H : Int) - y).toNat ∧ SL e w (Blk b13 #[.int .i64 (W : Int), u] 165 :: Arr I64 2 u ls :: Blk b3 #[.int .i64 (cx : Int), .int .i64 (cy : Int)] 46 :: Blk b6 #[.int .i64 0, .int .i64 0] 46 :: L) ∧ (0 ≤ y ∧ y ≤ H ∧ (cy : Int) - ls.getD (cy * W + cx) 0 ≤ y ∧ RowsNo W vs t (cy * W + cx) (ls.getD (cy * W + cx) 0) y)) (ds := [_, _, _, _, _, _, _, _, _, _, _, _, _, _, _, _, _, _, _, _, _, _, _, _, _, _, _, _, _, _, _, _, _, _, _, _, _, _, _, _, _, _, _, _, _, _, _, _, _, _, _, _, _, _, _, _, _, _, _, _, _, _, _, _, _, _]) rfl ⟨max ((cy : Int) - ls.getD (cy * W + cx) 0) 0, [_, _, _, _, _, _, _, _, _, _, _, _, _, _, _, _, _, _, _, _, _, _, _, _, _, _, _, _, _, _, _, _, _, _, _, _, _, _, _, _, _, _, _, _, _, _, _, _, _, _, _, _, _, _, _, _, _, _, _, _, _, _, _, _, _], rfl, rfl, ?_, ?_⟩ ?_
      · first | exact s16 | exact s16.sub (by repeat first | with_reducible exact Sub.refl _ | exact Sub.nil _ | refine Sub.take (by repeat first | with_reducible exact Take.here _ _ | apply Take.there) ?_ | refine Sub.skip _ ?_)
      · exact ⟨by omega, by omega, by omega, fun j hj hm => by rw [man_q hcx] at hm; generalize j / W = A at *; generalize j % W = B at *; omega⟩
      · clear s16
        rintro n22 ds23 w21 ⟨y, dd1, rfl, rfl, s20, hI⟩
        refine nlC (l' := [_,_,_,_,_,_,_,_,_,_,_,_,_,_,_,_,_,_,_,_,_,_,_,_,_,_,_,_,_,_,_,_,_,_,_,_,_,_,_,_,_,_,_,_,_,_,_,_,_,_,_,_,_,_,_,_,_,_,_,_,_,_,_,_,_,_,_,_,_,_,_,_,_,_,_,_,_,_,_,_,_,_,_,_,_,_,_,_,_,_,_,_,_,_,_,_,_,_,_,_,_,_,_,_,_,_,_,_,_,_,_,_,_,_,_,_,_,_,_,_,_,_,_]) rfl ?_
        refine c_seq ?_
        refine c_seq ?_
        refine c_region ?_
        refine l_val s20 (y_mv rfl (ev_of rfl)) rfl rfl (l' := _) rfl ?_
        refine l_val s20 (y_fieldAddrB rfl Ty.fld46_1 Ty.size2 (ev_of rfl)) rfl rfl (l' := [_,_,_,_,_,_,_,_,_,_,_,_,_,_,_,_,_,_,_,_,_,_,_,_,_,_,_,_,_,_,_,_,_,_,_,_,_,_,_,_,_,_,_,_,_,_,_,_,_,_,_,_,_,_,_,_,_,_,_,_,_,_,_,_,_,_,_,_,_,_,_,_,_,_,_,_,_,_,_,_,_,_,_,_,_,_,_,_,_,_,_,_,_,_,_,_,_,_,_,_,_,_,_,_,_,_,_,_,_,_,_,_,_,_,_,_,_,_,_,_,_,_,_]) rfl ?_
        refine l_val s20 (y_load rfl Ty.some2 Ty.agg2 (ev_of rfl) (by repeat first | exact ent_cell rfl | assumption | refine Ent.there ?_)) rfl rfl (l' := _) rfl ?_
        refine l_val s20 (y_mv rfl (ev_of rfl)) rfl rfl (l' := [_,_,_,_,_,_,_,_,_,_,_,_,_,_,_,_,_,_,_,_,_,_,_,_,_,_,_,_,_,_,_,_,_,_,_,_,_,_,_,_,_,_,_,_,_,_,_,_,_,_,_,_,_,_,_,_,_,_,_,_,_,_,_,_,_,_,_,_,_,_,_,_,_,_,_,_,_,_,_,_,_,_,_,_,_,_,_,_,_,_,_,_,_,_,_,_,_,_,_,_,_,_,_,_,_,_,_,_,_,_,_,_,_,_,_,_,_,_,_,_,_,_,_]) rfl ?_
        refine l_val s20 (y_add rfl (ev_of rfl) (ev_of rfl) (by omega) (by omega)) rfl rfl (l' := _) rfl ?_
        refine l_val s20 (y_mv rfl (ev_of rfl)) rfl rfl (l' := [_,_,_,_,_,_,_,_,_,_,_,_,_,_,_,_,_,_,_,_,_,_,_,_,_,_,_,_,_,_,_,_,_,_,_,_,_,_,_,_,_,_,_,_,_,_,_,_,_,_,_,_,_,_,_,_,_,_,_,_,_,_,_,_,_,_,_,_,_,_,_,_,_,_,_,_,_,_,_,_,_,_,_,_,_,_,_,_,_,_,_,_,_,_,_,_,_,_,_,_,_,_,_,_,_,_,_,_,_,_,_,_,_,_,_,_,_,_,_,_,_,_,_]) rfl ?_
        refine l_val s20 (y_sub rfl (ev_of rfl) (ev_of rfl) (by omega) (by omega)) rfl rfl (l' := _) rfl ?_
        refine l_val s20 (y_min rfl (ev_of rfl) (ev_of rfl)) rfl rfl (l' := [_,_,_,_,_,_,_,_,_,_,_,_,_,_,_,_,_,_,_,_,_,_,_,_,_,_,_,_,_,_,_,_,_,_,_,_,_,_,_,_,_,_,_,_,_,_,_,_,_,_,_,_,_,_,_,_,_,_,_,_,_,_,_,_,_,_,_,_,_,_,_,_,_,_,_,_,_,_,_,_,_,_,_,_,_,_,_,_,_,_,_,_,_,_,_,_,_,_,_,_,_,_,_,_,_,_,_,_,_,_,_,_,_,_,_,_,_,_,_,_,_,_,_]) rfl ?_
        refine l_val s20 (y_leq rfl (ev_of rfl) (ev_of rfl)) rfl rfl (l' := _) rfl ?_
        refine l_end ?_
        refine x_thenN ?_
        refine c_if rfl (fun hc2 => ?_) (fun hc2 => ?_)
        · (try simp only [decide_eq_true_eq, decide_eq_false_iff_not, Bool.not_eq_true', Bool.not_eq_false'] at hc2)
          refine c_skip ?_
          refine x_thenN ?_
          refine c_seq ?_
          refine c_block ?_
          refine c_seq ?_
          refine c_region ?_
          refine l_val s20 (y_mv rfl (ev_of rfl)) rfl rfl (l' := [_,_,_,_,_,_,_,_,_,_,_,_,_,_,_,_,_,_,_,_,_,_,_,_,_,_,_,_,_,_,_,_,_,_,_,_,_,_,_,_,_,_,_,_,_,_,_,_,_,_,_,_,_,_,_,_,_,_,_,_,_,_,_,_,_,_,_,_,_,_,_,_,_,_,_,_,_,_,_,_,_,_,_,_,_,_,_,_,_,_,_,_,_,_,_,_,_,_,_,_,_,_,_,_,_,_,_,_,_,_,_,_,_,_,_,_,_,_,_,_,_,_,_]) rfl ?_
          refine l_val s20 (y_mv rfl (ev_of rfl)) rfl rfl (l' := _) rfl ?_
          refine l_val s20 (y_fieldAddrB rfl Ty.fld46_1 Ty.size2 (ev_of rfl)) rfl rfl (l' := [_,_,_,_,_,_,_,_,_,_,_,_,_,_,_,_,_,_,_,_,_,_,_,_,_,_,_,_,_,_,_,_,_,_,_,_,_,_,_,_,_,_,_,_,_,_,_,_,_,_,_,_,_,_,_,_,_,_,_,_,_,_,_,_,_,_,_,_,_,_,_,_,_,_,_,_,_,_,_,_,_,_,_,_,_,_,_,_,_,_,_,_,_,_,_,_,_,_,_,_,_,_,_,_,_,_,_,_,_,_,_,_,_,_,_,_,_,_,_,_,_,_,_]) rfl ?_
          refine l_val s20 (y_load rfl Ty.some2 Ty.agg2 (ev_of rfl) (by repeat first | exact ent_cell rfl | assumption | refine Ent.there ?_)) rfl rfl (l' := _) rfl ?_
          refine l_val s20 (y_sub rfl (ev_of rfl) (ev_of rfl) (by omega) (by omega)) rfl rfl (l' := [_,_,_,_,_,_,_,_,_,_,_,_,_,_,_,_,_,_,_,_,_,_,_,_,_,_,_,_,_,_,_,_,_,_,_,_,_,_,_,_,_,_,_,_,_,_,_,_,_,_,_,_,_,_,_,_,_,_,_,_,_,_,_,_,_,_,_,_,_,_,_,_,_,_,_,_,_,_,_,_,_,_,_,_,_,_,_,_,_,_,_,_,_,_,_,_,_,_,_,_,_,_,_,_,_,_,_,_,_,_,_,_,_,_,_,_,_,_,_,_,_,_,_]) rfl ?_
          refine l_val s20 (y_fieldAddrB rfl Ty.fld46_1 Ty.size2 (ev_of rfl)) rfl rfl (l' := _) rfl ?_
          refine l_val s20 (y_load rfl Ty.some2 Ty.agg2 (ev_of rfl) (by repeat first | exact ent_cell rfl | assumption | refine Ent.there ?_)) rfl rfl (l' := [_,_,_,_,_,_,_,_,_,_,_,_,_,_,_,_,_,_,_,_,_,_,_,_,_,_,_,_,_,_,_,_,_,_,_,_,_,_,_,_,_,_,_,_,_,_,_,_,_,_,_,_,_,_,_,_,_,_,_,_,_,_,_,_,_,_,_,_,_,_,_,_,_,_,_,_,_,_,_,_,_,_,_,_,_,_,_,_,_,_,_,_,_,_,_,_,_,_,_,_,_,_,_,_,_,_,_,_,_,_,_,_,_,_,_,_,_,_,_,_,_,_,_]) rfl ?_
          refine l_val s20 (y_mv rfl (ev_of rfl)) rfl rfl (l' := _) rfl ?_
          refine l_val s20 (y_sub rfl (ev_of rfl) (ev_of rfl) (by omega) (by omega)) rfl rfl (l' := [_,_,_,_,_,_,_,_,_,_,_,_,_,_,_,_,_,_,_,_,_,_,_,_,_,_,_,_,_,_,_,_,_,_,_,_,_,_,_,_,_,_,_,_,_,_,_,_,_,_,_,_,_,_,_,_,_,_,_,_,_,_,_,_,_,_,_,_,_,_,_,_,_,_,_,_,_,_,_,_,_,_,_,_,_,_,_,_,_,_,_,_,_,_,_,_,_,_,_,_,_,_,_,_,_,_,_,_,_,_,_,_,_,_,_,_,_,_,_,_,_,_,_]) rfl ?_
          refine l_val s20 (y_max rfl (ev_of rfl) (ev_of rfl)) rfl rfl (l' := _) rfl ?_
          refine l_val s20 (y_sub rfl (ev_of rfl) (ev_of rfl) (by omega) (by omega)) rfl rfl (l' := [_,_,_,_,_,_,_,_,_,_,_,_,_,_,_,_,_,_,_,_,_,_,_,_,_,_,_,_,_,_,_,_,_,_,_,_,_,_,_,_,_,_,_,_,_,_,_,_,_,_,_,_,_,_,_,_,_,_,_,_,_,_,_,_,_,_,_,_,_,_,_,_,_,_,_,_,_,_,_,_,_,_,_,_,_,_,_,_,_,_,_,_,_,_,_,_,_,_,_,_,_,_,_,_,_,_,_,_,_,_,_,_,_,_,_,_,_,_,_,_,_,_,_]) rfl ?_
          refine l_val s20 (y_as rfl (ev_of rfl)) rfl rfl (l' := _) rfl ?_
          refine l_end ?_
          refine x_thenN ?_
          refine c_seq ?_
          refine c_region ?_
          refine l_val s20 (y_fieldAddrB rfl Ty.fld46_0 Ty.size2 (ev_of rfl)) rfl rfl (l' := [_,_,_,_,_,_,_,_,_,_,_,_,_,_,_,_,_,_,_,_,_,_,_,_,_,_,_,_,_,_,_,_,_,_,_,_,_,_,_,_,_,_,_,_,_,_,_,_,_,_,_,_,_,_,_,_,_,_,_,_,_,_,_,_,_,_,_,_,_,_,_,_,_,_,_,_,_,_,_,_,_,_,_,_,_,_,_,_,_,_,_,_,_,_,_,_,_,_,_,_,_,_,_,_,_,_,_,_,_,_,_,_,_,_,_,_,_,_,_,_,_,_,_]) rfl ?_
          refine l_val s20 (y_load rfl Ty.some2 Ty.agg2 (ev_of rfl) (by repeat first | exact ent_cell rfl | assumption | refine Ent.there ?_)) rfl rfl (l' := _) rfl ?_
          refine l_val s20 (y_mv rfl (ev_of rfl)) rfl rfl (l' := [_,_,_,_,_,_,_,_,_,_,_,_,_,_,_,_,_,_,_,_,_,_,_,_,_,_,_,_,_,_,_,_,_,_,_,_,_,_,_,_,_,_,_,_,_,_,_,_,_,_,_,_,_,_,_,_,_,_,_,_,_,_,_,_,_,_,_,_,_,_,_,_,_,_,_,_,_,_,_,_,_,_,_,_,_,_,_,_,_,_,_,_,_,_,_,_,_,_,_,_,_,_,_,_,_,_,_,_,_,_,_,_,_,_,_,_,_,_,_,_,_,_,_]) rfl ?_
          refine l_val s20 (y_sub rfl (ev_of rfl) (ev_of rfl) (by omega) (by omega)) rfl rfl (l' := _) rfl ?_
          refine l_val s20 (y_fieldAddrB rfl Ty.fld46_0 Ty.size2 (ev_of rfl)) rfl rfl (l' := [_,_,_,_,_,_,_,_,_,_,_,_,_,_,_,_,_,_,_,_,_,_,_,_,_,_,_,_,_,_,_,_,_,_,_,_,_,_,_,_,_,_,_,_,_,_,_,_,_,_,_,_,_,_,_,_,_,_,_,_,_,_,_,_,_,_,_,_,_,_,_,_,_,_,_,_,_,_,_,_,_,_,_,_,_,_,_,_,_,_,_,_,_,_,_,_,_,_,_,_,_,_,_,_,_,_,_,_,_,_,_,_,_,_,_,_,_,_,_,_,_,_,_]) rfl ?_
          refine l_val s20 (y_load rfl Ty.some2 Ty.agg2 (ev_of rfl) (by repeat first | exact ent_cell rfl | assumption | refine Ent.there ?_)) rfl rfl (l' := _) rfl ?_
          refine l_val s20 (y_mv rfl (ev_of rfl)) rfl rfl (l' := [_,_,_,_,_,_,_,_,_,_,_,_,_,_,_,_,_,_,_,_,_,_,_,_,_,_,_,_,_,_,_,_,_,_,_,_,_,_,_,_,_,_,_,_,_,_,_,_,_,_,_,_,_,_,_,_,_,_,_,_,_,_,_,_,_,_,_,_,_,_,_,_,_,_,_,_,_,_,_,_,_,_,_,_,_,_,_,_,_,_,_,_,_,_,_,_,_,_,_,_,_,_,_,_,_,_,_,_,_,_,_,_,_,_,_,_,_,_,_,_,_,_,_]) rfl ?_
          refine l_val s20 (y_add rfl (ev_of rfl) (ev_of rfl) (by omega) (by omega)) rfl rfl (l' := _) rfl ?_
          refine l_val s20 (y_bld2 rfl Ty.zero176 (ev_of rfl) (ev_of rfl) (fun w => build176 _ _ w)) rfl rfl (l' := [_,_,_,_,_,_,_,_,_,_,_,_,_,_,_,_,_,_,_,_,_,_,_,_,_,_,_,_,_,_,_,_,_,_,_,_,_,_,_,_,_,_,_,_,_,_,_,_,_,_,_,_,_,_,_,_,_,_,_,_,_,_,_,_,_,_,_,_,_,_,_,_,_,_,_,_,_,_,_,_,_,_,_,_,_,_,_,_,_,_,_,_,_,_,_,_,_,_,_,_,_,_,_,_,_,_,_,_,_,_,_,_,_,_,_,_,_,_,_,_,_,_,_]) rfl ?_
          refine l_val s20 (y_mv rfl (ev_of rfl)) rfl rfl (l' := _) rfl ?_
          refine l_end ?_
          refine x_thenN ?_
          refine c_block ?_
          refine c_loop [false, false, false, false, false, false, false, true, true, true, false, false, false, false, false, false, false, false, false, true, false, false, false, false, false, false, false, false, false, false, false, false, false, false, false, false, false, false, false, false, false, false, false, false, false, false, false, false, false, false, false, false, false, false, false, false, false, false, false, false, false, false, false, false, false, false, false, false, false, false, false, false, false, false, false, false, false, false, false, false, false, false, false, false, false, false, false, false, false, false, false, false, false, true, true, true, true, true, true, true, true, true, true, true, true, true, true, true, true, true, true, true, true, true, true, true, true, true, true, true, true, true, false] (fun mu ds w => ∃ (i : Nat) (dd2 : List Value), ds = [nthD dd2 0, nthD dd2 1, nthD dd2 2, nthD dd2 3, (.int .i64 (i : Int)), nthD dd2 4, nthD dd2 5, nthD dd2 6, nthD dd2 7, nthD dd2 8, nthD dd2 9, nthD dd2 10, nthD dd2 11, nthD dd2 12, nthD dd2 13, nthD dd2 14, nthD dd2 15, nthD dd2 16, nthD dd2 17, nthD dd2 18, nthD dd2 19, nthD dd2 20, nthD dd2 21, nthD dd2 22, nthD dd2 23, nthD dd2 24, nthD dd2 25, nthD dd2 26, nthD dd2 27, nthD dd2 28, nthD dd2 29, nthD dd2 30, nthD dd2 31] ∧ mu = 2 - i ∧ SL e w (Blk b13 #[.int .i64 (W : Int), u] 165 :: Arr I64 2 u ls :: Blk b3 #[.int .i64 (cx : Int), .int .i64 (cy : Int)] 46 :: Blk b6 #[.int .i64 0, .int .i64 0] 46 :: L) ∧ (i ≤ 2 ∧ (1 ≤ i → ¬ hitB W ls ((cx : Int) - ((ls.getD (cy * W + cx) 0) - max (y - (cy : Int)) ((cy : Int) - y))) y) ∧ (2 ≤ i → ¬ hitB W ls ((cx : Int) + ((ls.getD (cy * W + cx) 0) - max (y - (cy : Int)) ((cy : Int) - y))) y))) (ds := [_, _, _, _, _, _, _, _, _, _, _, _, _, _, _, _, _, _, _, _, _, _, _, _, _, _, _, _, _, _, _, _, _]) rfl ⟨0, [_, _, _, _, _, _, _, _, _, _, _, _, _, _, _, _, _, _, _, _, _, _, _, _, _, _, _, _, _, _, _, _], rfl, rfl, ?_, ?_⟩ ?_
          · first | exact s20 | exact s20.sub (by repeat first | with_reducible exact Sub.refl _ | exact Sub.nil _ | refine Sub.take (by repeat first | with_reducible exact Take.here _ _ | apply Take.there) ?_ | refine Sub.skip _ ?_)
          · exact ⟨by omega, fun h => by omega, fun h => by omega⟩
          · clear s20
            rintro n26 ds27 w25 ⟨i, dd2, rfl, rfl, s24, hJ⟩
            refine nlC (l' := [_,_,_,_,_,_,_,_,_,_,_,_,_,_,_,_,_,_,_,_,_,_,_,_,_,_,_,_,_,_,_,_,_,_,_,_,_,_,_,_,_,_,_,_,_,_,_,_,_,_,_,_,_,_,_,_,_,_,_,_,_,_,_,_,_,_,_,_,_,_,_,_,_,_,_,_,_,_,_,_,_,_,_,_,_,_,_,_,_,_,_,_,_,_,_,_,_,_,_,_,_,_,_,_,_,_,_,_,_,_,_,_,_,_,_,_,_,_,_,_,_,_,_]) rfl ?_
            refine c_seq ?_
            refine c_region ?_
            refine l_val s24 (y_lss rfl (ev_of rfl) (ev_of rfl)) rfl rfl (l' := _) rfl ?_
            refine l_end ?_
            refine x_thenN ?_
            refine c_seq ?_
            refine c_if rfl (fun hc3 => ?_) (fun hc3 => ?_)
            · (try simp only [decide_eq_true_eq, decide_eq_false_iff_not, Bool.not_eq_true', Bool.not_eq_false'] at hc3)
              have hyW : y * (W : Int) ≤ 1024 * 1024 := Int.mul_le_mul (by omega) (by omega) (by omega) (by omega)
              have hyW0 : 0 ≤ y * (W : Int) := Int.mul_nonneg hI.1 (by omega)
              have hyW1 : (y + 1) * (W : Int) ≤ (H : Int) * (W : Int) := Int.mul_le_mul_of_nonneg_right (by omega) (by omega)
              rw [Int.add_mul, Int.one_mul] at hyW1
              have hyW2 : ((W * H : Nat) : Int) = (H : Int) * (W : Int) := by rw [Int.natCast_mul, Int.mul_comm]
              refine c_skip ?_
              refine x_thenN ?_
              refine c_seq ?_
              refine c_block ?_
              refine c_seq ?_
              refine c_region ?_
              refine l_val s24 (y_index (r := .int .i64 (if i = 0 then ((cx : Int) - ((ls.getD (cy * W + cx) 0) - max (y - (cy : Int)) ((cy : Int) - y))) else ((cx : Int) + ((ls.getD (cy * W + cx) 0) - max (y - (cy : Int)) ((cy : Int) - y))))) rfl (ev_of rfl) (ev_of rfl) (fun w => index176 _ _ i (by omega) w)) rfl rfl (l' := [_,_,_,_,_,_,_,_,_,_,_,_,_,_,_,_,_,_,_,_,_,_,_,_,_,_,_,_,_,_,_,_,_,_,_,_,_,_,_,_,_,_,_,_,_,_,_,_,_,_,_,_,_,_,_,_,_,_,_,_,_,_,_,_,_,_,_,_,_,_,_,_,_,_,_,_,_,_,_,_,_,_,_,_,_,_,_,_,_,_,_,_,_,_,_,_,_,_,_,_,_,_,_,_,_,_,_,_,_,_,_,_,_,_,_,_,_,_,_,_,_,_,_]) rfl ?_
              refine l_val s24 (y_as rfl (ev_of rfl)) rfl rfl (l' := _) rfl ?_
              refine l_end ?_
              refine x_thenN ?_
              refine c_seq ?_
              refine c_region ?_
              refine l_val s24 (y_mv rfl (ev_of rfl)) rfl rfl (l' := [_,_,_,_,_,_,_,_,_,_,_,_,_,_,_,_,_,_,_,_,_,_,_,_,_,_,_,_,_,_,_,_,_,_,_,_,_,_,_,_,_,_,_,_,_,_,_,_,_,_,_,_,_,_,_,_,_,_,_,_,_,_,_,_,_,_,_,_,_,_,_,_,_,_,_,_,_,_,_,_,_,_,_,_,_,_,_,_,_,_,_,_,_,_,_,_,_,_,_,_,_,_,_,_,_,_,_,_,_,_,_,_,_,_,_,_,_,_,_,_,_,_,_]) rfl ?_
              refine l_val s24 (y_geq rfl (ev_of rfl) (ev_of rfl)) rfl rfl (l' := _) rfl ?_
              refine l_val s24 (y_mv rfl (ev_of rfl)) rfl rfl (l' := [_,_,_,_,_,_,_,_,_,_,_,_,_,_,_,_,_,_,_,_,_,_,_,_,_,_,_,_,_,_,_,_,_,_,_,_,_,_,_,_,_,_,_,_,_,_,_,_,_,_,_,_,_,_,_,_,_,_,_,_,_,_,_,_,_,_,_,_,_,_,_,_,_,_,_,_,_,_,_,_,_,_,_,_,_,_,_,_,_,_,_,_,_,_,_,_,_,_,_,_,_,_,_,_,_,_,_,_,_,_,_,_,_,_,_,_,_,_,_,_,_,_,_]) rfl ?_
              refine l_split (t := 98) rfl (fun hg28 => ?_) (fun hg28 => ?_)
              · (try simp only [decide_eq_true_eq, decide_eq_false_iff_not, Bool.not_eq_true', Bool.not_eq_false'] at hg28)
                refine nlL (l' := _) rfl ?_
                refine l_gval s24 (y_mv rfl (ev_of rfl)) (wanted_of rfl rfl rfl rfl rfl) rfl (l' := [_,_,_,_,_,_,_,_,_,_,_,_,_,_,_,_,_,_,_,_,_,_,_,_,_,_,_,_,_,_,_,_,_,_,_,_,_,_,_,_,_,_,_,_,_,_,_,_,_,_,_,_,_,_,_,_,_,_,_,_,_,_,_,_,_,_,_,_,_,_,_,_,_,_,_,_,_,_,_,_,_,_,_,_,_,_,_,_,_,_,_,_,_,_,_,_,_,_,_,_,_,_,_,_,_,_,_,_,_,_,_,_,_,_,_,_,_,_,_,_,_,_,_]) rfl ?_
                refine l_gval s24 (y_fieldAddrB rfl Ty.fld165_0 Ty.size3 (ev_of rfl)) (wanted_of rfl rfl rfl rfl rfl) rfl (l' := _) rfl ?_
                refine l_gval s24 (y_load rfl Ty.some3 Ty.agg3 (ev_of rfl) (by repeat first | exact ent_cell rfl | assumption | refine Ent.there ?_)) (wanted_of rfl rfl rfl rfl rfl) rfl (l' := [_,_,_,_,_,_,_,_,_,_,_,_,_,_,_,_,_,_,_,_,_,_,_,_,_,_,_,_,_,_,_,_,_,_,_,_,_,_,_,_,_,_,_,_,_,_,_,_,_,_,_,_,_,_,_,_,_,_,_,_,_,_,_,_,_,_,_,_,_,_,_,_,_,_,_,_,_,_,_,_,_,_,_,_,_,_,_,_,_,_,_,_,_,_,_,_,_,_,_,_,_,_,_,_,_,_,_,_,_,_,_,_,_,_,_,_,_,_,_,_,_,_,_]) rfl ?_
                refine l_gval s24 (y_lss rfl (ev_of rfl) (ev_of rfl)) (wanted_of rfl rfl rfl rfl rfl) rfl (l' := _) rfl ?_
                refine l_val s24 (y_pick1 rfl (ev_of rfl) (ev_of rfl)) rfl rfl (l' := [_,_,_,_,_,_,_,_,_,_,_,_,_,_,_,_,_,_,_,_,_,_,_,_,_,_,_,_,_,_,_,_,_,_,_,_,_,_,_,_,_,_,_,_,_,_,_,_,_,_,_,_,_,_,_,_,_,_,_,_,_,_,_,_,_,_,_,_,_,_,_,_,_,_,_,_,_,_,_,_,_,_,_,_,_,_,_,_,_,_,_,_,_,_,_,_,_,_,_,_,_,_,_,_,_,_,_,_,_,_,_,_,_,_,_,_,_,_,_,_,_,_,_]) rfl ?_
                refine l_val s24 (y_mv rfl (ev_of rfl)) rfl rfl (l' := _) rfl ?_
                refine l_split (t := 104) rfl (fun hg29 => ?_) (fun hg29 => ?_)
                · (try simp only [decide_eq_true_eq, decide_eq_false_iff_not, Bool.not_eq_true', Bool.not_eq_false'] at hg29)
                  have hk : (y * W + (if i = 0 then ((cx : Int) - ((ls.getD (cy * W + cx) 0) - max (y - (cy : Int)) ((cy : Int) - y))) else ((cx : Int) + ((ls.getD (cy * W + cx) 0) - max (y - (cy : Int)) ((cy : Int) - y))))).toNat = (y * W + (if i = 0 then ((cx : Int) - ((ls.getD (cy * W + cx) 0) - max (y - (cy : Int)) ((cy : Int) - y))) else ((cx : Int) + ((ls.getD (cy * W + cx) 0) - max (y - (cy : Int)) ((cy : Int) - y))))).toNat := rfl
                  refine nlL (l' := [_,_,_,_,_,_,_,_,_,_,_,_,_,_,_,_,_,_,_,_,_,_,_,_,_,_,_,_,_,_,_,_,_,_,_,_,_,_,_,_,_,_,_,_,_,_,_,_,_,_,_,_,_,_,_,_,_,_,_,_,_,_,_,_,_,_,_,_,_,_,_,_,_,_,_,_,_,_,_,_,_,_,_,_,_,_,_,_,_,_,_,_,_,_,_,_,_,_,_,_,_,_,_,_,_,_,_,_,_,_,_,_,_,_,_,_,_,_,_,_,_,_,_]) rfl ?_
                  refine l_gval s24 (y_fieldAddrB rfl Ty.fld165_1 Ty.size22 (ev_of rfl)) (wanted_of rfl rfl rfl rfl rfl) rfl (l' := _) rfl ?_
                  refine l_gval s24 (y_load rfl Ty.some22 Ty.agg22 (ev_of rfl) (by repeat first | exact ent_cell rfl | assumption | refine Ent.there ?_)) (wanted_of rfl rfl rfl rfl rfl) rfl (l' := [_,_,_,_,_,_,_,_,_,_,_,_,_,_,_,_,_,_,_,_,_,_,_,_,_,_,_,_,_,_,_,_,_,_,_,_,_,_,_,_,_,_,_,_,_,_,_,_,_,_,_,_,_,_,_,_,_,_,_,_,_,_,_,_,_,_,_,_,_,_,_,_,_,_,_,_,_,_,_,_,_,_,_,_,_,_,_,_,_,_,_,_,_,_,_,_,_,_,_,_,_,_,_,_,_,_,_,_,_,_,_,_,_,_,_,_,_,_,_,_,_,_,_]) rfl ?_
                  refine l_gval s24 (y_mv rfl (ev_of rfl)) (wanted_of rfl rfl rfl rfl rfl) rfl (l' := _) rfl ?_
                  refine l_gval s24 (y_fieldAddrB rfl Ty.fld165_0 Ty.size3 (ev_of rfl)) (wanted_of rfl rfl rfl rfl rfl) rfl (l' := [_,_,_,_,_,_,_,_,_,_,_,_,_,_,_,_,_,_,_,_,_,_,_,_,_,_,_,_,_,_,_,_,_,_,_,_,_,_,_,_,_,_,_,_,_,_,_,_,_,_,_,_,_,_,_,_,_,_,_,_,_,_,_,_,_,_,_,_,_,_,_,_,_,_,_,_,_,_,_,_,_,_,_,_,_,_,_,_,_,_,_,_,_,_,_,_,_,_,_,_,_,_,_,_,_,_,_,_,_,_,_,_,_,_,_,_,_,_,_,_,_,_,_]) rfl ?_
                  refine l_gval s24 (y_load rfl Ty.some3 Ty.agg3 (ev_of rfl) (by repeat first | exact ent_cell rfl | assumption | refine Ent.there ?_)) (wanted_of rfl rfl rfl rfl rfl) rfl (l' := _) rfl ?_
                  refine l_gval s24 (y_mul rfl (ev_of rfl) (ev_of rfl) (by omega) (by omega)) (wanted_of rfl rfl rfl rfl rfl) rfl (l' := [_,_,_,_,_,_,_,_,_,_,_,_,_,_,_,_,_,_,_,_,_,_,_,_,_,_,_,_,_,_,_,_,_,_,_,_,_,_,_,_,_,_,_,_,_,_,_,_,_,_,_,_,_,_,_,_,_,_,_,_,_,_,_,_,_,_,_,_,_,_,_,_,_,_,_,_,_,_,_,_,_,_,_,_,_,_,_,_,_,_,_,_,_,_,_,_,_,_,_,_,_,_,_,_,_,_,_,_,_,_,_,_,_,_,_,_,_,_,_,_,_,_,_]) rfl ?_
                  refine l_gval s24 (y_mv rfl (ev_of rfl)) (wanted_of rfl rfl rfl rfl rfl) rfl (l' := _) rfl ?_
                  refine l_gval s24 (y_add rfl (ev_of rfl) (ev_of rfl) (by omega) (by omega)) (wanted_of rfl rfl rfl rfl rfl) rfl (l' := [_,_,_,_,_,_,_,_,_,_,_,_,_,_,_,_,_,_,_,_,_,_,_,_,_,_,_,_,_,_,_,_,_,_,_,_,_,_,_,_,_,_,_,_,_,_,_,_,_,_,_,_,_,_,_,_,_,_,_,_,_,_,_,_,_,_,_,_,_,_,_,_,_,_,_,_,_,_,_,_,_,_,_,_,_,_,_,_,_,_,_,_,_,_,_,_,_,_,_,_,_,_,_,_,_,_,_,_,_,_,_,_,_,_,_,_,_,_,_,_,_,_,_]) rfl ?_
                  refine l_gval s24 (y_idx (n := (y * W + (if i = 0 then ((cx : Int) - ((ls.getD (cy * W + cx) 0) - max (y - (cy : Int)) ((cy : Int) - y))) else ((cx : Int) + ((ls.getD (cy * W + cx) 0) - max (y - (cy : Int)) ((cy : Int) - y))))).toNat) rfl Ty.elem22 Ty.size2 (ev_of rfl) (ev_of rfl) (by repeat first | assumption | with_reducible exact ent_blk | exact Ent.here arr_reads | exact Ent.here one_I64 | exact Ent.here one_Cell | exact Ent.here one_Bool | exact Ent.here one_Rect | refine Ent.there ?_) (by first | omega | (push_cast; omega)) (by omega)) (wanted_of rfl rfl rfl rfl rfl) rfl (l' := _) rfl ?_
                  refine l_gval s24 (y_ldI rfl Ty.some2 Ty.agg2 (ev_of rfl) (by repeat first | assumption | with_reducible exact ent_blk | exact Ent.here arr_reads | exact Ent.here one_I64 | exact Ent.here one_Cell | exact Ent.here one_Bool | exact Ent.here one_Rect | refine Ent.there ?_) (by omega)) (wanted_of rfl rfl rfl rfl rfl) rfl (l' := [_,_,_,_,_,_,_,_,_,_,_,_,_,_,_,_,_,_,_,_,_,_,_,_,_,_,_,_,_,_,_,_,_,_,_,_,_,_,_,_,_,_,_,_,_,_,_,_,_,_,_,_,_,_,_,_,_,_,_,_,_,_,_,_,_,_,_,_,_,_,_,_,_,_,_,_,_,_,_,_,_,_,_,_,_,_,_,_,_,_,_,_,_,_,_,_,_,_,_,_,_,_,_,_,_,_,_,_,_,_,_,_,_,_,_,_,_,_,_,_,_,_,_]) rfl ?_
                  refine l_gval s24 (y_eql rfl (ev_of rfl) (ev_of rfl)) (wanted_of rfl rfl rfl rfl rfl) rfl (l' := _) rfl ?_
                  refine l_val s24 (y_pick1 rfl (ev_of rfl) (ev_of rfl)) rfl rfl (l' := [_,_,_,_,_,_,_,_,_,_,_,_,_,_,_,_,_,_,_,_,_,_,_,_,_,_,_,_,_,_,_,_,_,_,_,_,_,_,_,_,_,_,_,_,_,_,_,_,_,_,_,_,_,_,_,_,_,_,_,_,_,_,_,_,_,_,_,_,_,_,_,_,_,_,_,_,_,_,_,_,_,_,_,_,_,_,_,_,_,_,_,_,_,_,_,_,_,_,_,_,_,_,_,_,_,_,_,_,_,_,_,_,_,_,_,_,_,_,_,_,_,_,_]) rfl ?_
                  refine l_end ?_
                  refine x_thenN ?_
                  refine c_if rfl (fun hc4 => ?_) (fun hc4 => ?_)
                  · (try simp only [decide_eq_true_eq, decide_eq_false_iff_not, Bool.not_eq_true', Bool.not_eq_false'] at hc4)
                    refine c_seq ?_
                    refine c_region ?_
                    refine l_val s24 (y_mv rfl (ev_of rfl)) rfl rfl (l' := _) rfl ?_
                    refine l_val s24 (y_mv rfl (ev_of rfl)) rfl rfl (l' := [_,_,_,_,_,_,_,_,_,_,_,_,_,_,_,_,_,_,_,_,_,_,_,_,_,_,_,_,_,_,_,_,_,_,_,_,_,_,_,_,_,_,_,_,_,_,_,_,_,_,_,_,_,_,_,_,_,_,_,_,_,_,_,_,_,_,_,_,_,_,_,_,_,_,_,_,_,_,_,_,_,_,_,_,_,_,_,_,_,_,_,_,_,_,_,_,_,_,_,_,_,_,_,_,_,_,_,_,_,_,_,_,_,_,_,_,_,_,_,_,_,_,_]) rfl ?_
                    refine l_val s24 (y_bld (zs := [_, _]) (vs := [(0, _), (1, _)]) (ps := [(0, [_]), (1, [_])]) (v := .agg #[_, _]) rfl Ty.zero46 rfl (fs_of Ty.fs46) rfl rfl (by intro q hq; simp only [List.zip_cons_cons, List.zip_nil_right, List.zip_nil_left, List.mem_cons, List.not_mem_nil, or_false] at hq; rcases hq with rfl | rfl <;> exact ⟨by kernel_rfl, by first | rfl | (simp only [cells_one (arr_one (by repeat first | assumption | with_reducible exact ent_blk | exact Ent.here arr_reads | exact Ent.here one_I64 | exact Ent.here one_Cell | exact Ent.here one_Bool | exact Ent.here one_Rect | refine Ent.there ?_) s24)]; first | done | rfl), by simp⟩) rfl ⟨_, rfl⟩) rfl rfl (l' := _) rfl ?_
                    refine l_val s24 (y_mv rfl (ev_of rfl)) rfl rfl (l' := [_,_,_,_,_,_,_,_,_,_,_,_,_,_,_,_,_,_,_,_,_,_,_,_,_,_,_,_,_,_,_,_,_,_,_,_,_,_,_,_,_,_,_,_,_,_,_,_,_,_,_,_,_,_,_,_,_,_,_,_,_,_,_,_,_,_,_,_,_,_,_,_,_,_,_,_,_,_,_,_,_,_,_,_,_,_,_,_,_,_,_,_,_,_,_,_,_,_,_,_,_,_,_,_,_,_,_,_,_,_,_,_,_,_,_,_,_,_,_,_,_,_,_]) rfl ?_
                    refine l_stA s24 (by repeat first | with_reducible exact Take.here _ _ | apply Take.there) rfl rfl rfl Ty.size46 (ev_of rfl) (ev_of rfl) rfl rfl (by first | (simp [Value.oneCell']; done) | (intro x hx; simp only [List.mem_toArray, List.mem_cons, List.not_mem_nil, or_false] at hx; rcases hx with rfl | rfl <;> first | rfl | assumption | exact arr_one (by repeat first | assumption | with_reducible exact ent_blk | exact Ent.here arr_reads | exact Ent.here one_I64 | exact Ent.here one_Cell | exact Ent.here one_Bool | exact Ent.here one_Rect | refine Ent.there ?_) s24)) (fun w31 s30 => ?_)
                    clear s24
                    refine l_val s30 (y_as rfl (ev_of rfl)) rfl rfl (l' := _) rfl ?_
                    refine l_val s30 (y_as rfl (ev_of rfl)) rfl rfl (l' := [_,_,_,_,_,_,_,_,_,_,_,_,_,_,_,_,_,_,_,_,_,_,_,_,_,_,_,_,_,_,_,_,_,_,_,_,_,_,_,_,_,_,_,_,_,_,_,_,_,_,_,_,_,_,_,_,_,_,_,_,_,_,_,_,_,_,_,_,_,_,_,_,_,_,_,_,_,_,_,_,_,_,_,_,_,_,_,_,_,_,_,_,_,_,_,_,_,_,_,_,_,_,_,_,_,_,_,_,_,_,_,_,_,_,_,_,_,_,_,_,_,_,_]) rfl ?_
                    refine l_val s30 (y_as rfl (ev_of rfl)) rfl rfl (l' := _) rfl ?_
                    refine l_end ?_
                    refine x_thenN ?_
                    refine c_ret ?_
                    refine x_blockR ?_
                    refine x_thenR ?_
                    refine x_thenR ?_
                    refine x_blockR ?_
                    refine x_blockR ?_
                    refine x_thenR ?_
                    refine x_thenR ?_
                    refine x_blockR ?_
                    refine x_thenR ?_
                    refine rc4 s30 rfl rfl Ty.some46 Ty.agg46 Ty.size46 (by repeat first | exact ent_blk | refine Ent.there ?_) rfl rfl rfl rfl ?_
                    generalize hxx : (if i = 0 then ((cx : Int) - ((ls.getD (cy * W + cx) 0) - max (y - (cy : Int)) ((cy : Int) - y))) else ((cx : Int) + ((ls.getD (cy * W + cx) 0) - max (y - (cy : Int)) ((cy : Int) - y)))) = xx at *
                    obtain ⟨xn, rfl⟩ : ∃ k : Nat, xx = k := ⟨xx.toNat, by omega⟩
                    obtain ⟨yn, rfl⟩ : ∃ k : Nat, y = k := ⟨y.toNat, by omega⟩
                    have hkn : ((yn : Int) * (W : Int) + (xn : Int)).toNat = yn * W + xn := by rw [← Int.natCast_mul, ← Int.natCast_add]; rfl
                    have hxn : xn < W := by omega
                    have hyn : yn < H := by omega
                    have hlt := cellLt hxn hyn
                    have hsrc : srcB vs t (yn * W + xn) := (hd.zero (by omega)).1 (by rw [← hkn]; exact hc4)
                    have hman : man W (cy * W + cx) (yn * W + xn) = ls.getD (cy * W + cx) 0 := by
                      have := hmin _ hsrc
                      rw [man_at hcx hxn] at this ⊢
                      split at hxx <;> omega
                    have hlater : ∀ x', x' < xn → srcB vs t (yn * W + x') → man W (cy * W + cx) (yn * W + x') ≠ ls.getD (cy * W + cx) 0 := by
                      intro x' hx' hs' hm'
                      rw [man_at hcx (by omega)] at hm'
                      have hz := (hd.zero hs'.1).2 hs'
                      by_cases h0 : i = 0
                      · rw [if_pos h0] at hxx; omega
                      · rw [if_neg h0] at hxx
                        refine hJ.2.1 (by omega) ⟨by omega, by omega, ?_⟩
                        have e1 : ((cx : Int) - ((ls.getD (cy * W + cx) 0) - max ((yn : Int) - (cy : Int)) ((cy : Int) - (yn : Int)))) = (x' : Int) := by omega
                        rw [e1, ← Int.natCast_mul, ← Int.natCast_add]; exact hz
                    have hbest := best_found (t := t) hcx hxn hmin hI.2.2.2 hsrc hman hlater
                    have e2 : oX W (some (yn * W + xn)) = (xn : Int) := by simp only [oX, dmX hxn]
                    have e3 : oY W (some (yn * W + xn)) = (yn : Int) := by simp only [oY, dmY hxn]
                    exact ⟨some (yn * W + xn), by rw [e2, e3]; simp only [oM, oF, hman], hbest, s30.sub (by repeat first | with_reducible exact Sub.refl _ | exact Sub.nil _ | refine Sub.take (by repeat first | with_reducible exact Take.here _ _ | apply Take.there) ?_ | refine Sub.skip _ ?_)⟩
                  · (try simp only [decide_eq_true_eq, decide_eq_false_iff_not, Bool.not_eq_true', Bool.not_eq_false'] at hc4)
                    have hnh : ¬ hitB W ls (if i = 0 then ((cx : Int) - ((ls.getD (cy * W + cx) 0) - max (y - (cy : Int)) ((cy : Int) - y))) else ((cx : Int) + ((ls.getD (cy * W + cx) 0) - max (y - (cy : Int)) ((cy : Int) - y)))) y := fun h => hc4 (by have := h.2.2; rw [hk] at this; exact this)
                    refine c_skip ?_
                    refine x_blockN ?_
                    refine x_thenN ?_
                    refine c_region ?_
                    refine l_val s24 (y_add rfl (ev_of rfl) (ev_of rfl) (by omega) (by omega)) rfl rfl (l' := [_,_,_,_,_,_,_,_,_,_,_,_,_,_,_,_,_,_,_,_,_,_,_,_,_,_,_,_,_,_,_,_,_,_,_,_,_,_,_,_,_,_,_,_,_,_,_,_,_,_,_,_,_,_,_,_,_,_,_,_,_,_,_,_,_,_,_,_,_,_,_,_,_,_,_,_,_,_,_,_,_,_,_,_,_,_,_,_,_,_,_,_,_,_,_,_,_,_,_,_,_,_,_,_,_,_,_,_,_,_,_,_,_,_,_,_,_,_,_,_,_,_,_]) rfl ?_
                    refine l_val s24 (y_mv rfl (ev_of rfl)) rfl rfl (l' := _) rfl ?_
                    refine l_end ?_
                    refine x_thenN ?_
                    refine ⟨_, [_, _, _, _, _, _, _, _, _, _, _, _, _, _, _, _, _, _, _, _, _, _, _, _, _, _, _, _, _, _, _, _, _], ?_, rfl, i + 1, [_, _, _, _, _, _, _, _, _, _, _, _, _, _, _, _, _, _, _, _, _, _, _, _, _, _, _, _, _, _, _, _], rfl, rfl, ?_, ?_⟩
                    · omega
                    · first | exact s24 | exact s24.sub (by repeat first | with_reducible exact Sub.refl _ | exact Sub.nil _ | refine Sub.take (by repeat first | with_reducible exact Take.here _ _ | apply Take.there) ?_ | refine Sub.skip _ ?_)
                    · exact ⟨by omega, fun h => by (by_cases h0 : i = 0 <;> first | (rw [if_pos h0] at hnh; exact hnh) | exact hJ.2.1 (by omega)), fun h => by (rw [if_neg (by omega)] at hnh; exact hnh)⟩
                · (try simp only [decide_eq_true_eq, decide_eq_false_iff_not, Bool.not_eq_true', Bool.not_eq_false'] at hg29)
                  have hnh : ¬ hitB W ls (if i = 0 then ((cx : Int) - ((ls.getD (cy * W + cx) 0) - max (y - (cy : Int)) ((cy : Int) - y))) else ((cx : Int) + ((ls.getD (cy * W + cx) 0) - max (y - (cy : Int)) ((cy : Int) - y)))) y := fun h => hg29 h.2.1
                  refine nlL (l' := [_,_,_,_,_,_,_,_,_,_,_,_,_,_,_,_,_,_,_,_,_,_,_,_,_,_,_,_,_,_,_,_,_,_,_,_,_,_,_,_,_,_,_,_,_,_,_,_,_,_,_,_,_,_,_,_,_,_,_,_,_,_,_,_,_,_,_,_,_,_,_,_,_,_,_,_,_,_,_,_,_,_,_,_,_,_,_,_,_,_,_,_,_,_,_,_,_,_,_,_,_,_,_,_,_,_,_,_,_,_,_,_,_,_,_,_,_,_,_,_,_,_,_]) rfl ?_
                  refine l_skip (wanted_of rfl rfl rfl rfl rfl) rfl (l' := _) rfl ?_
                  refine l_skip (wanted_of rfl rfl rfl rfl rfl) rfl (l' := [_,_,_,_,_,_,_,_,_,_,_,_,_,_,_,_,_,_,_,_,_,_,_,_,_,_,_,_,_,_,_,_,_,_,_,_,_,_,_,_,_,_,_,_,_,_,_,_,_,_,_,_,_,_,_,_,_,_,_,_,_,_,_,_,_,_,_,_,_,_,_,_,_,_,_,_,_,_,_,_,_,_,_,_,_,_,_,_,_,_,_,_,_,_,_,_,_,_,_,_,_,_,_,_,_,_,_,_,_,_,_,_,_,_,_,_,_,_,_,_,_,_,_]) rfl ?_
                  refine l_skip (wanted_of rfl rfl rfl rfl rfl) rfl (l' := _) rfl ?_
                  refine l_skip (wanted_of rfl rfl rfl rfl rfl) rfl (l' := [_,_,_,_,_,_,_,_,_,_,_,_,_,_,_,_,_,_,_,_,_,_,_,_,_,_,_,_,_,_,_,_,_,_,_,_,_,_,_,_,_,_,_,_,_,_,_,_,_,_,_,_,_,_,_,_,_,_,_,_,_,_,_,_,_,_,_,_,_,_,_,_,_,_,_,_,_,_,_,_,_,_,_,_,_,_,_,_,_,_,_,_,_,_,_,_,_,_,_,_,_,_,_,_,_,_,_,_,_,_,_,_,_,_,_,_,_,_,_,_,_,_,_]) rfl ?_
                  refine l_skip (wanted_of rfl rfl rfl rfl rfl) rfl (l' := _) rfl ?_
                  refine l_skip (wanted_of rfl rfl rfl rfl rfl) rfl (l' := [_,_,_,_,_,_,_,_,_,_,_,_,_,_,_,_,_,_,_,_,_,_,_,_,_,_,_,_,_,_,_,_,_,_,_,_,_,_,_,_,_,_,_,_,_,_,_,_,_,_,_,_,_,_,_,_,_,_,_,_,_,_,_,_,_,_,_,_,_,_,_,_,_,_,_,_,_,_,_,_,_,_,_,_,_,_,_,_,_,_,_,_,_,_,_,_,_,_,_,_,_,_,_,_,_,_,_,_,_,_,_,_,_,_,_,_,_,_,_,_,_,_,_]) rfl ?_
                  refine l_skip (wanted_of rfl rfl rfl rfl rfl) rfl (l' := _) rfl ?_
                  refine l_skip (wanted_of rfl rfl rfl rfl rfl) rfl (l' := [_,_,_,_,_,_,_,_,_,_,_,_,_,_,_,_,_,_,_,_,_,_,_,_,_,_,_,_,_,_,_,_,_,_,_,_,_,_,_,_,_,_,_,_,_,_,_,_,_,_,_,_,_,_,_,_,_,_,_,_,_,_,_,_,_,_,_,_,_,_,_,_,_,_,_,_,_,_,_,_,_,_,_,_,_,_,_,_,_,_,_,_,_,_,_,_,_,_,_,_,_,_,_,_,_,_,_,_,_,_,_,_,_,_,_,_,_,_,_,_,_,_,_]) rfl ?_
                  refine l_skip (wanted_of rfl rfl rfl rfl rfl) rfl (l' := _) rfl ?_
                  refine l_skip (wanted_of rfl rfl rfl rfl rfl) rfl (l' := [_,_,_,_,_,_,_,_,_,_,_,_,_,_,_,_,_,_,_,_,_,_,_,_,_,_,_,_,_,_,_,_,_,_,_,_,_,_,_,_,_,_,_,_,_,_,_,_,_,_,_,_,_,_,_,_,_,_,_,_,_,_,_,_,_,_,_,_,_,_,_,_,_,_,_,_,_,_,_,_,_,_,_,_,_,_,_,_,_,_,_,_,_,_,_,_,_,_,_,_,_,_,_,_,_,_,_,_,_,_,_,_,_,_,_,_,_,_,_,_,_,_,_]) rfl ?_
                  refine l_skip (wanted_of rfl rfl rfl rfl rfl) rfl (l' := _) rfl ?_
                  refine l_val s24 (y_pick0 rfl (ev_of rfl) (ev_of rfl)) rfl rfl (l' := [_,_,_,_,_,_,_,_,_,_,_,_,_,_,_,_,_,_,_,_,_,_,_,_,_,_,_,_,_,_,_,_,_,_,_,_,_,_,_,_,_,_,_,_,_,_,_,_,_,_,_,_,_,_,_,_,_,_,_,_,_,_,_,_,_,_,_,_,_,_,_,_,_,_,_,_,_,_,_,_,_,_,_,_,_,_,_,_,_,_,_,_,_,_,_,_,_,_,_,_,_,_,_,_,_,_,_,_,_,_,_,_,_,_,_,_,_,_,_,_,_,_,_]) rfl ?_
                  refine l_end ?_
                  refine x_thenN ?_
                  refine c_condF rfl ?_
                  refine c_skip ?_
                  refine x_blockN ?_
                  refine x_thenN ?_
                  refine c_region ?_
                  refine l_val s24 (y_add rfl (ev_of rfl) (ev_of rfl) (by omega) (by omega)) rfl rfl (l' := _) rfl ?_
                  refine l_val s24 (y_mv rfl (ev_of rfl)) rfl rfl (l' := [_,_,_,_,_,_,_,_,_,_,_,_,_,_,_,_,_,_,_,_,_,_,_,_,_,_,_,_,_,_,_,_,_,_,_,_,_,_,_,_,_,_,_,_,_,_,_,_,_,_,_,_,_,_,_,_,_,_,_,_,_,_,_,_,_,_,_,_,_,_,_,_,_,_,_,_,_,_,_,_,_,_,_,_,_,_,_,_,_,_,_,_,_,_,_,_,_,_,_,_,_,_,_,_,_,_,_,_,_,_,_,_,_,_,_,_,_,_,_,_,_,_,_]) rfl ?_
                  refine l_end ?_
                  refine x_thenN ?_
                  refine ⟨_, [_, _, _, _, _, _, _, _, _, _, _, _, _, _, _, _, _, _, _, _, _, _, _, _, _, _, _, _, _, _, _, _, _], ?_, rfl, i + 1, [_, _, _, _, _, _, _, _, _, _, _, _, _, _, _, _, _, _, _, _, _, _, _, _, _, _, _, _, _, _, _, _], rfl, rfl, ?_, ?_⟩
                  · omega
                  · first | exact s24 | exact s24.sub (by repeat first | with_reducible exact Sub.refl _ | exact Sub.nil _ | refine Sub.take (by repeat first | with_reducible exact Take.here _ _ | apply Take.there) ?_ | refine Sub.skip _ ?_)
                  · exact ⟨by omega, fun h => by (by_cases h0 : i = 0 <;> first | (rw [if_pos h0] at hnh; exact hnh) | exact hJ.2.1 (by omega)), fun h => by (rw [if_neg (by omega)] at hnh; exact hnh)⟩
              · (try simp only [decide_eq_true_eq, decide_eq_false_iff_not, Bool.not_eq_true', Bool.not_eq_false'] at hg28)
                have hnh : ¬ hitB W ls (if i = 0 then ((cx : Int) - ((ls.getD (cy * W + cx) 0) - max (y - (cy : Int)) ((cy : Int) - y))) else ((cx : Int) + ((ls.getD (cy * W + cx) 0) - max (y - (cy : Int)) ((cy : Int) - y)))) y := fun h => hg28 h.1
                refine nlL (l' := _) rfl ?_
                refine l_skip (wanted_of rfl rfl rfl rfl rfl) rfl (l' := [_,_,_,_,_,_,_,_,_,_,_,_,_,_,_,_,_,_,_,_,_,_,_,_,_,_,_,_,_,_,_,_,_,_,_,_,_,_,_,_,_,_,_,_,_,_,_,_,_,_,_,_,_,_,_,_,_,_,_,_,_,_,_,_,_,_,_,_,_,_,_,_,_,_,_,_,_,_,_,_,_,_,_,_,_,_,_,_,_,_,_,_,_,_,_,_,_,_,_,_,_,_,_,_,_,_,_,_,_,_,_,_,_,_,_,_,_,_,_,_,_,_,_]) rfl ?_
                refine l_skip (wanted_of rfl rfl rfl rfl rfl) rfl (l' := _) rfl ?_
                refine l_skip (wanted_of rfl rfl rfl rfl rfl) rfl (l' := [_,_,_,_,_,_,_,_,_,_,_,_,_,_,_,_,_,_,_,_,_,_,_,_,_,_,_,_,_,_,_,_,_,_,_,_,_,_,_,_,_,_,_,_,_,_,_,_,_,_,_,_,_,_,_,_,_,_,_,_,_,_,_,_,_,_,_,_,_,_,_,_,_,_,_,_,_,_,_,_,_,_,_,_,_,_,_,_,_,_,_,_,_,_,_,_,_,_,_,_,_,_,_,_,_,_,_,_,_,_,_,_,_,_,_,_,_,_,_,_,_,_,_]) rfl ?_
                refine l_skip (wanted_of rfl rfl rfl rfl rfl) rfl (l' := _) rfl ?_
                refine l_val s24 (y_pick0 rfl (ev_of rfl) (ev_of rfl)) rfl rfl (l' := [_,_,_,_,_,_,_,_,_,_,_,_,_,_,_,_,_,_,_,_,_,_,_,_,_,_,_,_,_,_,_,_,_,_,_,_,_,_,_,_,_,_,_,_,_,_,_,_,_,_,_,_,_,_,_,_,_,_,_,_,_,_,_,_,_,_,_,_,_,_,_,_,_,_,_,_,_,_,_,_,_,_,_,_,_,_,_,_,_,_,_,_,_,_,_,_,_,_,_,_,_,_,_,_,_,_,_,_,_,_,_,_,_,_,_,_,_,_,_,_,_,_,_]) rfl ?_
                refine l_val s24 (y_mv rfl (ev_of rfl)) rfl rfl (l' := _) rfl ?_
                refine l_skip (wanted_of rfl rfl rfl rfl rfl) rfl (l' := [_,_,_,_,_,_,_,_,_,_,_,_,_,_,_,_,_,_,_,_,_,_,_,_,_,_,_,_,_,_,_,_,_,_,_,_,_,_,_,_,_,_,_,_,_,_,_,_,_,_,_,_,_,_,_,_,_,_,_,_,_,_,_,_,_,_,_,_,_,_,_,_,_,_,_,_,_,_,_,_,_,_,_,_,_,_,_,_,_,_,_,_,_,_,_,_,_,_,_,_,_,_,_,_,_,_,_,_,_,_,_,_,_,_,_,_,_,_,_,_,_,_,_]) rfl ?_
                refine l_skip (wanted_of rfl rfl rfl rfl rfl) rfl (l' := _) rfl ?_
                refine l_skip (wanted_of rfl rfl rfl rfl rfl) rfl (l' := [_,_,_,_,_,_,_,_,_,_,_,_,_,_,_,_,_,_,_,_,_,_,_,_,_,_,_,_,_,_,_,_,_,_,_,_,_,_,_,_,_,_,_,_,_,_,_,_,_,_,_,_,_,_,_,_,_,_,_,_,_,_,_,_,_,_,_,_,_,_,_,_,_,_,_,_,_,_,_,_,_,_,_,_,_,_,_,_,_,_,_,_,_,_,_,_,_,_,_,_,_,_,_,_,_,_,_,_,_,_,_,_,_,_,_,_,_,_,_,_,_,_,_]) rfl ?_
                refine l_skip (wanted_of rfl rfl rfl rfl rfl) rfl (l' := _) rfl ?_
                refine l_skip (wanted_of rfl rfl rfl rfl rfl) rfl (l' := [_,_,_,_,_,_,_,_,_,_,_,_,_,_,_,_,_,_,_,_,_,_,_,_,_,_,_,_,_,_,_,_,_,_,_,_,_,_,_,_,_,_,_,_,_,_,_,_,_,_,_,_,_,_,_,_,_,_,_,_,_,_,_,_,_,_,_,_,_,_,_,_,_,_,_,_,_,_,_,_,_,_,_,_,_,_,_,_,_,_,_,_,_,_,_,_,_,_,_,_,_,_,_,_,_,_,_,_,_,_,_,_,_,_,_,_,_,_,_,_,_,_,_]) rfl ?_
                refine l_skip (wanted_of rfl rfl rfl rfl rfl) rfl (l' := _) rfl ?_
                refine l_skip (wanted_of rfl rfl rfl rfl rfl) rfl (l' := [_,_,_,_,_,_,_,_,_,_,_,_,_,_,_,_,_,_,_,_,_,_,_,_,_,_,_,_,_,_,_,_,_,_,_,_,_,_,_,_,_,_,_,_,_,_,_,_,_,_,_,_,_,_,_,_,_,_,_,_,_,_,_,_,_,_,_,_,_,_,_,_,_,_,_,_,_,_,_,_,_,_,_,_,_,_,_,_,_,_,_,_,_,_,_,_,_,_,_,_,_,_,_,_,_,_,_,_,_,_,_,_,_,_,_,_,_,_,_,_,_,_,_]) rfl ?_
                refine l_skip (wanted_of rfl rfl rfl rfl rfl) rfl (l' := _) rfl ?_
                refine l_skip (wanted_of rfl rfl rfl rfl rfl) rfl (l' := [_,_,_,_,_,_,_,_,_,_,_,_,_,_,_,_,_,_,_,_,_,_,_,_,_,_,_,_,_,_,_,_,_,_,_,_,_,_,_,_,_,_,_,_,_,_,_,_,_,_,_,_,_,_,_,_,_,_,_,_,_,_,_,_,_,_,_,_,_,_,_,_,_,_,_,_,_,_,_,_,_,_,_,_,_,_,_,_,_,_,_,_,_,_,_,_,_,_,_,_,_,_,_,_,_,_,_,_,_,_,_,_,_,_,_,_,_,_,_,_,_,_,_]) rfl ?_
                refine l_skip (wanted_of rfl rfl rfl rfl rfl) rfl (l' := _) rfl ?_
                refine l_skip (wanted_of rfl rfl rfl rfl rfl) rfl (l' := [_,_,_,_,_,_,_,_,_,_,_,_,_,_,_,_,_,_,_,_,_,_,_,_,_,_,_,_,_,_,_,_,_,_,_,_,_,_,_,_,_,_,_,_,_,_,_,_,_,_,_,_,_,_,_,_,_,_,_,_,_,_,_,_,_,_,_,_,_,_,_,_,_,_,_,_,_,_,_,_,_,_,_,_,_,_,_,_,_,_,_,_,_,_,_,_,_,_,_,_,_,_,_,_,_,_,_,_,_,_,_,_,_,_,_,_,_,_,_,_,_,_,_]) rfl ?_
                refine l_val s24 (y_pick0 rfl (ev_of rfl) (ev_of rfl)) rfl rfl (l' := _) rfl ?_
                refine l_end ?_
                refine x_thenN ?_
                refine c_condF rfl ?_
                refine c_skip ?_
                refine x_blockN ?_
                refine x_thenN ?_
                refine c_region ?_
                refine l_val s24 (y_add rfl (ev_of rfl) (ev_of rfl) (by omega) (by omega)) rfl rfl (l' := [_,_,_,_,_,_,_,_,_,_,_,_,_,_,_,_,_,_,_,_,_,_,_,_,_,_,_,_,_,_,_,_,_,_,_,_,_,_,_,_,_,_,_,_,_,_,_,_,_,_,_,_,_,_,_,_,_,_,_,_,_,_,_,_,_,_,_,_,_,_,_,_,_,_,_,_,_,_,_,_,_,_,_,_,_,_,_,_,_,_,_,_,_,_,_,_,_,_,_,_,_,_,_,_,_,_,_,_,_,_,_,_,_,_,_,_,_,_,_,_,_,_,_]) rfl ?_
                refine l_val s24 (y_mv rfl (ev_of rfl)) rfl rfl (l' := _) rfl ?_
                refine l_end ?_
                refine x_thenN ?_
                refine ⟨_, [_, _, _, _, _, _, _, _, _, _, _, _, _, _, _, _, _, _, _, _, _, _, _, _, _, _, _, _, _, _, _, _, _], ?_, rfl, i + 1, [_, _, _, _, _, _, _, _, _, _, _, _, _, _, _, _, _, _, _, _, _, _, _, _, _, _, _, _, _, _, _, _], rfl, rfl, ?_, ?_⟩
                · omega
                · first | exact s24 | exact s24.sub (by repeat first | with_reducible exact Sub.refl _ | exact Sub.nil _ | refine Sub.take (by repeat first | with_reducible exact Take.here _ _ | apply Take.there) ?_ | refine Sub.skip _ ?_)
                · exact ⟨by omega, fun h => by (by_cases h0 : i = 0 <;> first | (rw [if_pos h0] at hnh; exact hnh) | exact hJ.2.1 (by omega)), fun h => by (rw [if_neg (by omega)] at hnh; exact hnh)⟩
            · (try simp only [decide_eq_true_eq, decide_eq_false_iff_not, Bool.not_eq_true', Bool.not_eq_false'] at hc3)
              refine c_exit ?_
              refine x_thenE ?_
              refine x_thenE ?_
              refine x_hit ?_
              refine x_blockN ?_
              refine x_thenN ?_
              refine c_region ?_
              refine l_val s24 (y_mv rfl (ev_of rfl)) rfl rfl (l' := [_,_,_,_,_,_,_,_,_,_,_,_,_,_,_,_,_,_,_,_,_,_,_,_,_,_,_,_,_,_,_,_,_,_,_,_,_,_,_,_,_,_,_,_,_,_,_,_,_,_,_,_,_,_,_,_,_,_,_,_,_,_,_,_,_,_,_,_,_,_,_,_,_,_,_,_,_,_,_,_,_,_,_,_,_,_,_,_,_,_,_,_,_,_,_,_,_,_,_,_,_,_,_,_,_,_,_,_,_,_,_,_,_,_,_,_,_,_,_,_,_,_,_]) rfl ?_
              refine l_val s24 (y_add rfl (ev_of rfl) (ev_of rfl) (by omega) (by omega)) rfl rfl (l' := _) rfl ?_
              refine l_val s24 (y_as rfl (ev_of rfl)) rfl rfl (l' := [_,_,_,_,_,_,_,_,_,_,_,_,_,_,_,_,_,_,_,_,_,_,_,_,_,_,_,_,_,_,_,_,_,_,_,_,_,_,_,_,_,_,_,_,_,_,_,_,_,_,_,_,_,_,_,_,_,_,_,_,_,_,_,_,_,_,_,_,_,_,_,_,_,_,_,_,_,_,_,_,_,_,_,_,_,_,_,_,_,_,_,_,_,_,_,_,_,_,_,_,_,_,_,_,_,_,_,_,_,_,_,_,_,_,_,_,_,_,_,_,_,_,_]) rfl ?_
              refine l_end ?_
              refine x_thenN ?_
              refine ⟨_, [_, _, _, _, _, _, _, _, _, _, _, _, _, _, _, _, _, _, _, _, _, _, _, _, _, _, _, _, _, _, _, _, _, _, _, _, _, _, _, _, _, _, _, _, _, _, _, _, _, _, _, _, _, _, _, _, _, _, _, _, _, _, _, _, _, _], ?_, rfl, y + 1, [_, _, _, _, _, _, _, _, _, _, _, _, _, _, _, _, _, _, _, _, _, _, _, _, _, _, _, _, _, _, _, _, _, _, _, _, _, _, _, _, _, _, _, _, _, _, _, _, _, _, _, _, _, _, _, _, _, _, _, _, _, _, _, _, _], rfl, rfl, ?_, ?_⟩
              · omega
              · first | exact s24 | exact s24.sub (by repeat first | with_reducible exact Sub.refl _ | exact Sub.nil _ | refine Sub.take (by repeat first | with_reducible exact Take.here _ _ | apply Take.there) ?_ | refine Sub.skip _ ?_)
              · exact ⟨by omega, by omega, by omega, rows_next (H := H) hd (by omega) hcx hI.2.2.2 hI.1 (hJ.2.1 (by omega)) (hJ.2.2 (by omega))⟩
        · (try simp only [decide_eq_true_eq, decide_eq_false_iff_not, Bool.not_eq_true', Bool.not_eq_false'] at hc2)
          exfalso; obtain ⟨j, hj, hjm⟩ := hF0; have h1 := hI.2.2.2 j hj hjm; have h2 : j / W < H := Nat.div_lt_of_lt_mul (by have := hj.1; omega); rw [man_q hcx] at hjm; generalize j / W = A at *; generalize j % W = B at *; omega
set_option maxHeartbeats 4000000 in
set_option maxRecDepth 100000 in
/-- hachure/dist.Nearest -/
theorem nearestOut_c {e : Env} {L : List Asn} {w : World} {b W H : Nat} {x y : Int} {vs : List Int} {t : Int} (s : SL e w L) (hg : Has L (GridA b W H vs)) (hout : x < 0 ∨ (W : Int) ≤ x ∨ y < 0 ∨ (H : Int) ≤ y) :
    Calls Try.prog 42 #[ptr b 0, .agg #[.int .i64 x, .int .i64 y], .int .i64 t] w (Rets fun r w' => r = .tuple #[.agg #[.int .i64 0, .int .i64 0], .int .i64 0, .bool false, .int .i64 4] ∧ SL e w' L) := by
  refine enter Try.func42 rfl (l := [ptr b 0, .agg #[.int .i64 x, .int .i64 y], .int .i64 t, undef, undef, undef, undef, undef, undef, undef, undef, undef, undef, undef, undef, undef, undef, undef, undef, undef, undef, undef, undef, undef, undef, undef, undef, undef, undef, undef, undef, undef, undef, undef, undef, undef, undef, undef, undef, undef, undef, undef, undef, undef, undef, undef, undef, undef, undef, undef, undef, undef, undef, undef, undef, undef, undef, undef, undef, undef, undef, undef, undef, undef, undef, undef, undef, undef, undef, undef, undef, undef, undef, undef, undef, undef, undef, undef, undef, undef, undef, undef, undef, undef, undef, undef, undef, undef, undef, undef, undef, undef, undef, undef, undef, undef, undef, undef, undef, undef, undef, undef, undef, undef, undef, undef, undef, undef, undef, undef, undef, undef, undef, undef, undef, undef, undef, undef, undef, undef, undef, undef, undef]) rfl ?_
  refine c_seq ?_
  refine c_region ?_
  refine l_box s rfl rfl rfl (ev_of rfl) (fun b3 w2 s1 => ?_)
  change SL _ _ (Blk _ #[_, _] _ :: _) at s1
  clear s
  refine nlL (l' := _) rfl ?_
  refine l_alloc s1 rfl rfl rfl Ty.zero46 (fun b6 w5 s4 => ?_)
  change SL _ _ (Blk _ #[_, _] _ :: _) at s4
  clear s1
  refine nlL (l' := [_,_,_,_,_,_,_,_,_,_,_,_,_,_,_,_,_,_,_,_,_,_,_,_,_,_,_,_,_,_,_,_,_,_,_,_,_,_,_,_,_,_,_,_,_,_,_,_,_,_,_,_,_,_,_,_,_,_,_,_,_,_,_,_,_,_,_,_,_,_,_,_,_,_,_,_,_,_,_,_,_,_,_,_,_,_,_,_,_,_,_,_,_,_,_,_,_,_,_,_,_,_,_,_,_,_,_,_,_,_,_,_,_,_,_,_,_,_,_,_,_,_,_]) rfl ?_
  refine l_val s4 (y_as rfl (ev_of rfl)) rfl rfl (l' := _) rfl ?_
  refine l_val s4 (y_as rfl (ev_of rfl)) rfl rfl (l' := [_,_,_,_,_,_,_,_,_,_,_,_,_,_,_,_,_,_,_,_,_,_,_,_,_,_,_,_,_,_,_,_,_,_,_,_,_,_,_,_,_,_,_,_,_,_,_,_,_,_,_,_,_,_,_,_,_,_,_,_,_,_,_,_,_,_,_,_,_,_,_,_,_,_,_,_,_,_,_,_,_,_,_,_,_,_,_,_,_,_,_,_,_,_,_,_,_,_,_,_,_,_,_,_,_,_,_,_,_,_,_,_,_,_,_,_,_,_,_,_,_,_,_]) rfl ?_
  refine l_val s4 (y_as rfl (ev_of rfl)) rfl rfl (l' := _) rfl ?_
  refine l_end ?_
  refine x_thenN ?_
  refine c_seq ?_
  refine c_seq ?_
  refine c_region ?_
  refine l_val s4 (y_mv rfl (ev_of rfl)) rfl rfl (l' := [_,_,_,_,_,_,_,_,_,_,_,_,_,_,_,_,_,_,_,_,_,_,_,_,_,_,_,_,_,_,_,_,_,_,_,_,_,_,_,_,_,_,_,_,_,_,_,_,_,_,_,_,_,_,_,_,_,_,_,_,_,_,_,_,_,_,_,_,_,_,_,_,_,_,_,_,_,_,_,_,_,_,_,_,_,_,_,_,_,_,_,_,_,_,_,_,_,_,_,_,_,_,_,_,_,_,_,_,_,_,_,_,_,_,_,_,_,_,_,_,_,_,_]) rfl ?_
  refine l_val s4 (y_load_blk rfl Ty.some46 Ty.agg46 Ty.size46 (ev_of rfl) (by repeat first | exact ent_blk | refine Ent.there ?_) rfl) rfl rfl (l' := _) rfl ?_
  refine l_callL rfl rfl rfl Fn.call127 (vs := [_, _]) rfl (gatOut_c s4 (by repeat first | exact hg | apply Has.there) hout) ?_
  rintro _ w8 ⟨rfl, s7⟩
  clear s4
  refine nlL (l' := [_,_,_,_,_,_,_,_,_,_,_,_,_,_,_,_,_,_,_,_,_,_,_,_,_,_,_,_,_,_,_,_,_,_,_,_,_,_,_,_,_,_,_,_,_,_,_,_,_,_,_,_,_,_,_,_,_,_,_,_,_,_,_,_,_,_,_,_,_,_,_,_,_,_,_,_,_,_,_,_,_,_,_,_,_,_,_,_,_,_,_,_,_,_,_,_,_,_,_,_,_,_,_,_,_,_,_,_,_,_,_,_,_,_,_,_,_,_,_,_,_,_,_]) rfl ?_
  refine l_val s7 (y_mv rfl (ev_of rfl)) rfl rfl (l' := _) rfl ?_
  refine l_val s7 (y_extract rfl (ev_of rfl) rfl) rfl rfl (l' := [_,_,_,_,_,_,_,_,_,_,_,_,_,_,_,_,_,_,_,_,_,_,_,_,_,_,_,_,_,_,_,_,_,_,_,_,_,_,_,_,_,_,_,_,_,_,_,_,_,_,_,_,_,_,_,_,_,_,_,_,_,_,_,_,_,_,_,_,_,_,_,_,_,_,_,_,_,_,_,_,_,_,_,_,_,_,_,_,_,_,_,_,_,_,_,_,_,_,_,_,_,_,_,_,_,_,_,_,_,_,_,_,_,_,_,_,_,_,_,_,_,_,_]) rfl ?_
  refine l_val s7 (y_extract rfl (ev_of rfl) rfl) rfl rfl (l' := _) rfl ?_
  refine l_val s7 (y_as rfl (ev_of rfl)) rfl rfl (l' := [_,_,_,_,_,_,_,_,_,_,_,_,_,_,_,_,_,_,_,_,_,_,_,_,_,_,_,_,_,_,_,_,_,_,_,_,_,_,_,_,_,_,_,_,_,_,_,_,_,_,_,_,_,_,_,_,_,_,_,_,_,_,_,_,_,_,_,_,_,_,_,_,_,_,_,_,_,_,_,_,_,_,_,_,_,_,_,_,_,_,_,_,_,_,_,_,_,_,_,_,_,_,_,_,_,_,_,_,_,_,_,_,_,_,_,_,_,_,_,_,_,_,_]) rfl ?_
  refine l_val s7 (y_as rfl (ev_of rfl)) rfl rfl (l' := _) rfl ?_
  refine l_end ?_
  refine x_thenN ?_
  refine c_seq ?_
  refine c_region ?_
  refine l_val s7 (y_mv rfl (ev_of rfl)) rfl rfl (l' := [_,_,_,_,_,_,_,_,_,_,_,_,_,_,_,_,_,_,_,_,_,_,_,_,_,_,_,_,_,_,_,_,_,_,_,_,_,_,_,_,_,_,_,_,_,_,_,_,_,_,_,_,_,_,_,_,_,_,_,_,_,_,_,_,_,_,_,_,_,_,_,_,_,_,_,_,_,_,_,_,_,_,_,_,_,_,_,_,_,_,_,_,_,_,_,_,_,_,_,_,_,_,_,_,_,_,_,_,_,_,_,_,_,_,_,_,_,_,_,_,_,_,_]) rfl ?_
  refine l_val s7 (y_neq rfl (ev_of rfl) (ev_of rfl)) rfl rfl (l' := _) rfl ?_
  refine l_end ?_
  refine x_thenN ?_
  refine c_if rfl (fun hc0 => ?_) (fun hc0 => ?_)
  · (try simp only [decide_eq_true_eq, decide_eq_false_iff_not, Bool.not_eq_true', Bool.not_eq_false'] at hc0)
    refine c_seq ?_
    refine c_region ?_
    refine l_val s7 (y_bld (zs := [_, _]) (vs := []) (ps := []) (v := .agg #[_, _]) rfl Ty.zero46 rfl (fs_of Ty.fs46) rfl rfl (by intro q hq; simp only [List.zip_cons_cons, List.zip_nil_right, List.zip_nil_left, List.mem_cons, List.not_mem_nil, or_false] at hq <;> cases hq) rfl ⟨_, rfl⟩) rfl rfl (l' := [_,_,_,_,_,_,_,_,_,_,_,_,_,_,_,_,_,_,_,_,_,_,_,_,_,_,_,_,_,_,_,_,_,_,_,_,_,_,_,_,_,_,_,_,_,_,_,_,_,_,_,_,_,_,_,_,_,_,_,_,_,_,_,_,_,_,_,_,_,_,_,_,_,_,_,_,_,_,_,_,_,_,_,_,_,_,_,_,_,_,_,_,_,_,_,_,_,_,_,_,_,_,_,_,_,_,_,_,_,_,_,_,_,_,_,_,_,_,_,_,_,_,_]) rfl ?_
    refine l_val s7 (y_mv rfl (ev_of rfl)) rfl rfl (l' := _) rfl ?_
    refine l_stA s7 (by repeat first | with_reducible exact Take.here _ _ | apply Take.there) rfl rfl rfl Ty.size46 (ev_of rfl) (ev_of rfl) rfl rfl (by first | (simp [Value.oneCell']; done) | (intro x hx; simp only [List.mem_toArray, List.mem_cons, List.not_mem_nil, or_false] at hx; rcases hx with rfl | rfl <;> first | rfl | assumption | exact arr_one (by repeat first | assumption | with_reducible exact ent_blk | exact Ent.here arr_reads | exact Ent.here one_I64 | exact Ent.here one_Cell | exact Ent.here one_Bool | exact Ent.here one_Rect | refine Ent.there ?_) s7)) (fun w10 s9 => ?_)
    clear s7
    refine l_val s9 (y_as rfl (ev_of rfl)) rfl rfl (l' := [_,_,_,_,_,_,_,_,_,_,_,_,_,_,_,_,_,_,_,_,_,_,_,_,_,_,_,_,_,_,_,_,_,_,_,_,_,_,_,_,_,_,_,_,_,_,_,_,_,_,_,_,_,_,_,_,_,_,_,_,_,_,_,_,_,_,_,_,_,_,_,_,_,_,_,_,_,_,_,_,_,_,_,_,_,_,_,_,_,_,_,_,_,_,_,_,_,_,_,_,_,_,_,_,_,_,_,_,_,_,_,_,_,_,_,_,_,_,_,_,_,_,_]) rfl ?_
    refine l_val s9 (y_as rfl (ev_of rfl)) rfl rfl (l' := _) rfl ?_
    refine l_val s9 (y_as rfl (ev_of rfl)) rfl rfl (l' := [_,_,_,_,_,_,_,_,_,_,_,_,_,_,_,_,_,_,_,_,_,_,_,_,_,_,_,_,_,_,_,_,_,_,_,_,_,_,_,_,_,_,_,_,_,_,_,_,_,_,_,_,_,_,_,_,_,_,_,_,_,_,_,_,_,_,_,_,_,_,_,_,_,_,_,_,_,_,_,_,_,_,_,_,_,_,_,_,_,_,_,_,_,_,_,_,_,_,_,_,_,_,_,_,_,_,_,_,_,_,_,_,_,_,_,_,_,_,_,_,_,_,_]) rfl ?_
    refine l_end ?_
    refine x_thenN ?_
    refine c_ret ?_
    refine x_thenR ?_
    refine rc4 s9 rfl rfl Ty.some46 Ty.agg46 Ty.size46 (by repeat first | exact ent_blk | refine Ent.there ?_) rfl rfl rfl rfl ?_
    exact ⟨rfl, s9.sub (by repeat first | with_reducible exact Sub.refl _ | exact Sub.nil _ | refine Sub.take (by repeat first | with_reducible exact Take.here _ _ | apply Take.there) ?_ | refine Sub.skip _ ?_)⟩
  · (try simp only [decide_eq_true_eq, decide_eq_false_iff_not, Bool.not_eq_true', Bool.not_eq_false'] at hc0)
    first | done | (exfalso; omega) | contradiction | (exfalso; simp_all; done)
theorem nearestG_c {e : Env} {L : List Asn} {w : World} {b W H : Nat} {x y : Int} {vs : List Int} {t : Int} (s : SL e w L) (hg : Has L (GridA b W H vs)) : Calls Try.prog 42 #[ptr b 0, .agg #[.int .i64 x, .int .i64 y], .int .i64 t] w
    (Rets fun r w' => ∃ (X Y D : Int) (F : Bool) (c : Int), r = .tuple #[.agg #[.int .i64 X, .int .i64 Y], .int .i64 D, .bool F, .int .i64 c] ∧
      (0 ≤ x ∧ x < W ∧ 0 ≤ y ∧ y < H → c = 0 ∧ ∃ o, Best W vs t (y.toNat * W + x.toNat) vs.length o ∧ X = oX W o ∧ Y = oY W o ∧ D = oM W (y.toNat * W + x.toNat) o ∧ F = oF o) ∧
      (x < 0 ∨ (W : Int) ≤ x ∨ y < 0 ∨ (H : Int) ≤ y → c = 4 ∧ X = 0 ∧ Y = 0 ∧ D = 0 ∧ F = false) ∧ SL e w' L) := by
  by_cases h : x < 0 ∨ (W : Int) ≤ x ∨ y < 0 ∨ (H : Int) ≤ y
  · refine Rets.mono (nearestOut_c s hg h) fun r w' ⟨h1, h2⟩ => ⟨_, _, _, _, _, h1, fun h3 => by omega, fun _ => ⟨rfl, rfl, rfl, rfl, rfl⟩, h2⟩
  · obtain ⟨x, rfl⟩ : ∃ k : Nat, x = k := ⟨x.toNat, by omega⟩
    obtain ⟨y, rfl⟩ : ∃ k : Nat, y = k := ⟨y.toNat, by omega⟩
    refine Rets.mono (nearest_c (cx := x) (cy := y) s hg (by omega) (by omega)) fun r w' ⟨o, h1, h2, h3⟩ => ⟨_, _, _, _, _, h1, fun _ => ⟨rfl, o, h2, rfl, rfl, rfl, rfl⟩, fun h4 => absurd h4 h, h3⟩
end Go.Proofs.Ytpchomihojidpaa
