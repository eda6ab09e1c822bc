/- How far: of all cells. Step by step. -/
import Derived.Test.YtpchomihojidpaaTy
import Derived.Test.YtpchomihojidpaaSlC
import Derived.Test.YtpchomihojidpaaDj
import Derived.KernelRfl
namespace Go.Proofs.Ytpchomihojidpaa
open Go.SL
set_option linter.unusedVariables false
set_option linter.unusedSimpArgs false
attribute [local irreducible] wpList WD WP Region.wanted Code.wp
theorem ToV.bound {W H : Nat} {vs : List Int} {t : Int} {a : List Int} (A : ToV W vs t a) (h0 : 0 < W) (hl : vs.length = W * H) {k : Nat} (hk : k < vs.length) : -1 ≤ a.getD k 0 ∧ a.getD k 0 < W + H := by
  by_cases h : ∃ c, srcB vs t c
  · obtain ⟨c, hc⟩ := h
    have h1 := A.some c hc k hk
    have h2 := man_lt (H := H) h0 (k := k) (c := c) (by omega) (by rw [← hl]; exact hc.1)
    omega
  · have := A.none (fun c hc => h ⟨c, hc⟩) k hk
    omega
theorem awakeL {ls : List Int} (A : ToV 4 [0, 9, 0, 0] 5 ls) : ls = [1, 0, 1, 2] := by
  have hs : srcB [0, 9, 0, 0] 5 1 := ⟨by decide, by decide⟩
  have h : ∀ k, k < 4 → ls.getD k 0 = man 4 k 1 := fun k hk => by
    obtain ⟨h1, h2, d, ⟨h3, h4⟩, hm⟩ := A.some 1 hs k hk
    have : d = 1 := by
      match d, h3, h4 with
      | 0, _, h => simp at h
      | 1, _, _ => rfl
      | 2, _, h => simp at h
      | 3, _, h => simp at h
      | d + 4, h, _ => simp at h; omega
    subst this; exact hm.symm
  have l := A.len
  have m0 : man 4 0 1 = 1 := by decide
  have m1 : man 4 1 1 = 0 := by decide
  have m2 : man 4 2 1 = 1 := by decide
  have m3 : man 4 3 1 = 2 := by decide
  have h0 := h 0 (by omega); have h1 := h 1 (by omega); have h2 := h 2 (by omega); have h3 := h 3 (by omega)
  rw [m0] at h0; rw [m1] at h1; rw [m2] at h2; rw [m3] at h3
  match ls, l, h0, h1, h2, h3 with
  | [a, b, c, d], _, h0, h1, h2, h3 =>
    simp at h0 h1 h2 h3
    rw [h0, h1, h2, h3]
set_option maxHeartbeats 4000000 in
set_option maxRecDepth 100000 in
/-- hachure/dist.To -/
theorem to_c {e : Env} {L : List Asn} {w : World} {b W H : Nat} {vs : List Int} {t : Int} (s : SL e w L) (hg : Has L (GridA b W H vs)) :
    Calls Try.prog 34 #[ptr b 0, .int .i64 t] w (Rets fun v w' => ∃ u a, v = .tuple #[u, .int .i64 0] ∧ ToV W vs t a ∧ SL e w' (Arr I64 2 u a :: L)) := by
  have hok := gridOk s hg
  have hw0 := hok.w0; have hw1 := hok.w1; have hh0 := hok.h0; have hh1 := hok.h1; have hlen := hok.len
  have hn : W * H ≤ 1024 * 1024 := Nat.mul_le_mul hw1 hh1
  have hn0 : 1 * 1 ≤ W * H := Nat.mul_le_mul hw0 hh0
  refine enter Try.func34 rfl (l := [ptr b 0, .int .i64 t, undef, undef, undef, undef, undef, undef, undef, undef, undef, undef, undef, undef, undef, undef, undef, undef, undef, undef, undef, undef, undef, undef, undef, undef]) rfl ?_
  refine c_seq ?_
  refine c_region ?_
  refine l_val s (y_as rfl (ev_of rfl)) rfl rfl (l' := [_,_,_,_,_,_,_,_,_,_,_,_,_,_,_,_,_,_,_,_,_,_,_,_,_,_]) rfl ?_
  refine l_val s (y_as rfl (ev_of rfl)) rfl rfl (l' := [_,_,_,_,_,_,_,_,_,_,_,_,_,_,_,_,_,_,_,_,_,_,_,_,_,_]) rfl ?_
  refine l_end ?_
  refine x_thenN ?_
  refine c_seq ?_
  refine c_region ?_
  refine l_val s (y_mv rfl (ev_of rfl)) rfl rfl (l' := [_,_,_,_,_,_,_,_,_,_,_,_,_,_,_,_,_,_,_,_,_,_,_,_,_,_]) rfl ?_
  refine l_val s (y_mv rfl (ev_of rfl)) rfl rfl (l' := [_,_,_,_,_,_,_,_,_,_,_,_,_,_,_,_,_,_,_,_,_,_,_,_,_,_]) rfl ?_
  refine l_callL rfl rfl rfl Fn.call120 (vs := [_, _]) rfl (of_c s (by repeat first | exact hg | apply Has.there)) ?_
  rintro _ w2 ⟨u, ls, rfl, hd, s1⟩
  clear s
  refine nlL (l' := [_,_,_,_,_,_,_,_,_,_,_,_,_,_,_,_,_,_,_,_,_,_,_,_,_,_]) rfl ?_
  have hls := hd.s.len
  have hto := hd.to (H := H) (by omega) hlen (by omega) (by omega)
  refine l_val s1 (y_mv rfl (ev_of rfl)) rfl rfl (l' := [_,_,_,_,_,_,_,_,_,_,_,_,_,_,_,_,_,_,_,_,_,_,_,_,_,_]) rfl ?_
  refine l_val s1 (y_extract rfl (ev_of rfl) rfl) rfl rfl (l' := [_,_,_,_,_,_,_,_,_,_,_,_,_,_,_,_,_,_,_,_,_,_,_,_,_,_]) rfl ?_
  refine l_val s1 (y_extract rfl (ev_of rfl) rfl) rfl rfl (l' := [_,_,_,_,_,_,_,_,_,_,_,_,_,_,_,_,_,_,_,_,_,_,_,_,_,_]) rfl ?_
  refine l_alloc s1 rfl rfl rfl Ty.zero165 (fun b5 w4 s3 => ?_)
  change SL _ _ (Blk _ #[_, _] _ :: _) at s3
  clear s1
  refine nlL (l' := [_,_,_,_,_,_,_,_,_,_,_,_,_,_,_,_,_,_,_,_,_,_,_,_,_,_]) rfl ?_
  refine l_stA s3 (by repeat first | with_reducible exact Take.here _ _ | apply Take.there) rfl rfl rfl Ty.size165 (ev_of rfl) (ev_of rfl) rfl rfl (by first | (simp [Value.oneCell']; done) | (intro x hx; simp only [List.mem_toArray, List.mem_cons, List.not_mem_nil, or_false] at hx; rcases hx with rfl | rfl <;> first | rfl | assumption | exact arr_one (by repeat first | assumption | with_reducible exact ent_blk | exact Ent.here arr_reads | exact Ent.here one_I64 | exact Ent.here one_Cell | exact Ent.here one_Bool | exact Ent.here one_Rect | refine Ent.there ?_) s3)) (fun w7 s6 => ?_)
  clear s3
  refine l_val s6 (y_as rfl (ev_of rfl)) rfl rfl (l' := [_,_,_,_,_,_,_,_,_,_,_,_,_,_,_,_,_,_,_,_,_,_,_,_,_,_]) rfl ?_
  refine l_end ?_
  refine x_thenN ?_
  refine c_seq ?_
  refine c_seq ?_
  refine c_region ?_
  refine l_val s6 (y_mv rfl (ev_of rfl)) rfl rfl (l' := [_,_,_,_,_,_,_,_,_,_,_,_,_,_,_,_,_,_,_,_,_,_,_,_,_,_]) rfl ?_
  refine l_val s6 (y_neq rfl (ev_of rfl) (ev_of rfl)) rfl rfl (l' := [_,_,_,_,_,_,_,_,_,_,_,_,_,_,_,_,_,_,_,_,_,_,_,_,_,_]) rfl ?_
  refine l_end ?_
  refine x_thenN ?_
  refine c_if rfl (fun hc0 => ?_) (fun hc0 => ?_)
  · (try simp only [decide_eq_true_eq, decide_eq_false_iff_not, Bool.not_eq_true', Bool.not_eq_false'] at hc0)
    first | done | (exfalso; omega) | contradiction | (exfalso; simp_all; done)
  · (try simp only [decide_eq_true_eq, decide_eq_false_iff_not, Bool.not_eq_true', Bool.not_eq_false'] at hc0)
    refine c_skip ?_
    refine x_thenN ?_
    refine c_seq ?_
    refine c_seq ?_
    refine c_region ?_
    refine l_val s6 (y_load_blk rfl Ty.some165 Ty.agg165 Ty.size165 (ev_of rfl) (by repeat first | exact ent_blk | refine Ent.there ?_) rfl) rfl rfl (l' := [_,_,_,_,_,_,_,_,_,_,_,_,_,_,_,_,_,_,_,_,_,_,_,_,_,_]) rfl ?_
    refine l_callL rfl rfl rfl Fn.call121 (vs := [_]) rfl (none_c s6 (by repeat first | assumption | with_reducible exact ent_blk | exact Ent.here arr_reads | exact Ent.here one_I64 | exact Ent.here one_Cell | exact Ent.here one_Bool | exact Ent.here one_Rect | refine Ent.there ?_) (by omega)) ?_
    rintro _ w9 ⟨rfl, s8⟩
    clear s6
    refine nlL (l' := [_,_,_,_,_,_,_,_,_,_,_,_,_,_,_,_,_,_,_,_,_,_,_,_,_,_]) rfl ?_
    refine l_end ?_
    refine x_thenN ?_
    refine c_if rfl (fun hc1 => ?_) (fun hc1 => ?_)
    · (try simp only [decide_eq_true_eq, decide_eq_false_iff_not, Bool.not_eq_true', Bool.not_eq_false'] at hc1)
      refine c_seq ?_
      refine c_region ?_
      refine l_bs s8 rfl rfl rfl Ty.elem22 Ty.size2 Ty.zero2 (zs := [_]) rfl (vs := [(0, _)]) rfl (ps := [(0, [_])]) rfl (by intro q hq; simp only [List.zip_cons_cons, List.zip_nil_right, List.zip_nil_left, List.mem_cons, List.not_mem_nil, or_false] at hq; rcases hq with rfl <;> exact ⟨rfl, rfl, by first | rfl | (simp only [cells_one (arr_one (by repeat first | assumption | with_reducible exact ent_blk | exact Ent.here arr_reads | exact Ent.here one_I64 | exact Ent.here one_Cell | exact Ent.here one_Bool | exact Ent.here one_Rect | refine Ent.there ?_) s8)]; first | done | rfl), by simp⟩) (cells := [_]) rfl (by decide) (fun b12 w11 s10 => ?_)
      clear s8
      refine nlL (l' := [_,_,_,_,_,_,_,_,_,_,_,_,_,_,_,_,_,_,_,_,_,_,_,_,_,_]) rfl ?_
      refine l_val s10 (y_fieldAddrB rfl Ty.fld165_1 Ty.size22 (ev_of rfl)) rfl rfl (l' := [_,_,_,_,_,_,_,_,_,_,_,_,_,_,_,_,_,_,_,_,_,_,_,_,_,_]) rfl ?_
      refine l_val s10 (y_load rfl Ty.some22 Ty.agg22 (ev_of rfl) (by repeat first | exact ent_cell rfl | assumption | refine Ent.there ?_)) rfl rfl (l' := [_,_,_,_,_,_,_,_,_,_,_,_,_,_,_,_,_,_,_,_,_,_,_,_,_,_]) rfl ?_
      refine l_val s10 (y_len rfl rfl Ty.elem22 (ev_of rfl) (by repeat first | assumption | with_reducible exact ent_blk | exact Ent.here arr_reads | exact Ent.here one_I64 | exact Ent.here one_Cell | exact Ent.here one_Bool | exact Ent.here one_Rect | refine Ent.there ?_)) rfl rfl (l' := [_,_,_,_,_,_,_,_,_,_,_,_,_,_,_,_,_,_,_,_,_,_,_,_,_,_]) rfl ?_
      refine l_callL rfl rfl rfl Fn.call122 (vs := [_, _]) rfl (rep64_c (k := ls.length) s10 (by repeat first | assumption | with_reducible exact ent_blk | exact Ent.here arr_reads | exact Ent.here one_I64 | exact Ent.here one_Cell | exact Ent.here one_Bool | exact Ent.here one_Rect | refine Ent.there ?_) (by omega) (by omega)) ?_
      rintro _ w14 s13
      clear s10
      refine nlL (l' := [_,_,_,_,_,_,_,_,_,_,_,_,_,_,_,_,_,_,_,_,_,_,_,_,_,_]) rfl ?_
      rw [hls] at s13
      refine l_val s13 (y_as rfl (ev_of rfl)) rfl rfl (l' := [_,_,_,_,_,_,_,_,_,_,_,_,_,_,_,_,_,_,_,_,_,_,_,_,_,_]) rfl ?_
      refine l_val s13 (y_as rfl (ev_of rfl)) rfl rfl (l' := [_,_,_,_,_,_,_,_,_,_,_,_,_,_,_,_,_,_,_,_,_,_,_,_,_,_]) rfl ?_
      refine l_end ?_
      refine x_thenN ?_
      refine c_ret ?_
      refine x_thenR ?_
      refine r2 rfl rfl rfl ?_
      rw [if_pos (by omega)] at hto
      exact ⟨_, _, rfl, hto, s13.sub (by repeat first | with_reducible exact Sub.refl _ | exact Sub.nil _ | refine Sub.take (by repeat first | with_reducible exact Take.here _ _ | apply Take.there) ?_ | refine Sub.skip _ ?_)⟩
    · (try simp only [decide_eq_true_eq, decide_eq_false_iff_not, Bool.not_eq_true', Bool.not_eq_false'] at hc1)
      refine c_skip ?_
      refine x_thenN ?_
      refine c_seq ?_
      refine c_region ?_
      refine l_val s8 (y_fieldAddrB rfl Ty.fld165_1 Ty.size22 (ev_of rfl)) rfl rfl (l' := [_,_,_,_,_,_,_,_,_,_,_,_,_,_,_,_,_,_,_,_,_,_,_,_,_,_]) rfl ?_
      refine l_val s8 (y_load rfl Ty.some22 Ty.agg22 (ev_of rfl) (by repeat first | exact ent_cell rfl | assumption | refine Ent.there ?_)) rfl rfl (l' := [_,_,_,_,_,_,_,_,_,_,_,_,_,_,_,_,_,_,_,_,_,_,_,_,_,_]) rfl ?_
      refine l_val s8 (y_as rfl (ev_of rfl)) rfl rfl (l' := [_,_,_,_,_,_,_,_,_,_,_,_,_,_,_,_,_,_,_,_,_,_,_,_,_,_]) rfl ?_
      refine l_val s8 (y_as rfl (ev_of rfl)) rfl rfl (l' := [_,_,_,_,_,_,_,_,_,_,_,_,_,_,_,_,_,_,_,_,_,_,_,_,_,_]) rfl ?_
      refine l_end ?_
      refine x_thenN ?_
      refine c_ret ?_
      refine r2 rfl rfl rfl ?_
      rw [if_neg (by omega)] at hto
      exact ⟨_, _, rfl, hto, s8.sub (by repeat first | with_reducible exact Sub.refl _ | exact Sub.nil _ | refine Sub.take (by repeat first | with_reducible exact Take.here _ _ | apply Take.there) ?_ | refine Sub.skip _ ?_)⟩
set_option maxHeartbeats 4000000 in
set_option maxRecDepth 100000 in
/-- hachure/hachurelaw43.awake -/
theorem awake43_c {e : Env} {L : List Asn} {w : World} (s : SL e w L) :
    Calls Try.prog 31 #[] w (Rets fun v w' => v = .bool true ∧ SL e w' L) := by
  refine enter Try.func31 rfl (l := [undef, undef, undef, undef, undef, undef, undef, undef, undef, undef, undef, undef, undef, undef, undef, undef, undef, undef, undef, undef, undef, undef, undef, undef, undef, undef]) rfl ?_
  refine c_seq ?_
  refine c_region ?_
  refine l_val s (y_as rfl (ev_of rfl)) rfl rfl (l' := [_,_,_,_,_,_,_,_,_,_,_,_,_,_,_,_,_,_,_,_,_,_,_,_,_,_]) rfl ?_
  refine l_end ?_
  refine x_thenN ?_
  refine c_seq ?_
  refine c_region ?_
  refine l_bs s rfl rfl rfl Ty.elem22 Ty.size2 Ty.zero2 (zs := [_, _, _, _]) rfl (vs := [(0, _), (1, _), (2, _), (3, _)]) rfl (ps := [(0, [_]), (1, [_]), (2, [_]), (3, [_])]) rfl (by intro q hq; simp only [List.zip_cons_cons, List.zip_nil_right, List.zip_nil_left, List.mem_cons, List.not_mem_nil, or_false] at hq; rcases hq with rfl | rfl | rfl | rfl <;> exact ⟨rfl, rfl, by first | rfl | (simp only [cells_one (arr_one (by repeat first | assumption | with_reducible exact ent_blk | exact Ent.here arr_reads | exact Ent.here one_I64 | exact Ent.here one_Cell | exact Ent.here one_Bool | exact Ent.here one_Rect | refine Ent.there ?_) s)]; first | done | rfl), by simp⟩) (cells := [_, _, _, _]) rfl (by decide) (fun b3 w2 s1 => ?_)
  clear s
  refine nlL (l' := [_,_,_,_,_,_,_,_,_,_,_,_,_,_,_,_,_,_,_,_,_,_,_,_,_,_]) rfl ?_
  refine l_callL rfl rfl rfl Fn.call117 (vs := [_, _, _]) rfl (from_c (W := 4) (H := 1) (v := [0, 9, 0, 0]) s1 (Ent.here (blk_reads rfl rfl)) (by omega) (by omega) rfl (by intro x hx; simp at hx; omega)) ?_
  rintro _ w5 ⟨b, rfl, s4⟩
  clear s1
  refine nlL (l' := [_,_,_,_,_,_,_,_,_,_,_,_,_,_,_,_,_,_,_,_,_,_,_,_,_,_]) rfl ?_
  refine l_val s4 (y_mv rfl (ev_of rfl)) rfl rfl (l' := [_,_,_,_,_,_,_,_,_,_,_,_,_,_,_,_,_,_,_,_,_,_,_,_,_,_]) rfl ?_
  refine l_val s4 (y_extract rfl (ev_of rfl) rfl) rfl rfl (l' := [_,_,_,_,_,_,_,_,_,_,_,_,_,_,_,_,_,_,_,_,_,_,_,_,_,_]) rfl ?_
  refine l_val s4 (y_extract rfl (ev_of rfl) rfl) rfl rfl (l' := [_,_,_,_,_,_,_,_,_,_,_,_,_,_,_,_,_,_,_,_,_,_,_,_,_,_]) rfl ?_
  refine l_val s4 (y_as rfl (ev_of rfl)) rfl rfl (l' := [_,_,_,_,_,_,_,_,_,_,_,_,_,_,_,_,_,_,_,_,_,_,_,_,_,_]) rfl ?_
  refine l_val s4 (y_as rfl (ev_of rfl)) rfl rfl (l' := [_,_,_,_,_,_,_,_,_,_,_,_,_,_,_,_,_,_,_,_,_,_,_,_,_,_]) rfl ?_
  refine l_end ?_
  refine x_thenN ?_
  refine c_seq ?_
  refine c_region ?_
  refine l_val s4 (y_mv rfl (ev_of rfl)) rfl rfl (l' := [_,_,_,_,_,_,_,_,_,_,_,_,_,_,_,_,_,_,_,_,_,_,_,_,_,_]) rfl ?_
  refine l_callL rfl rfl rfl Fn.call34 (vs := [_, _]) rfl (to_c s4 (Has.here _ _)) ?_
  rintro _ w7 ⟨u, a, rfl, ha, s6⟩
  clear s4
  refine nlL (l' := [_,_,_,_,_,_,_,_,_,_,_,_,_,_,_,_,_,_,_,_,_,_,_,_,_,_]) rfl ?_
  obtain rfl := awakeL ha
  refine l_val s6 (y_mv rfl (ev_of rfl)) rfl rfl (l' := [_,_,_,_,_,_,_,_,_,_,_,_,_,_,_,_,_,_,_,_,_,_,_,_,_,_]) rfl ?_
  refine l_val s6 (y_extract rfl (ev_of rfl) rfl) rfl rfl (l' := [_,_,_,_,_,_,_,_,_,_,_,_,_,_,_,_,_,_,_,_,_,_,_,_,_,_]) rfl ?_
  refine l_val s6 (y_extract rfl (ev_of rfl) rfl) rfl rfl (l' := [_,_,_,_,_,_,_,_,_,_,_,_,_,_,_,_,_,_,_,_,_,_,_,_,_,_]) rfl ?_
  refine l_val s6 (y_as rfl (ev_of rfl)) rfl rfl (l' := [_,_,_,_,_,_,_,_,_,_,_,_,_,_,_,_,_,_,_,_,_,_,_,_,_,_]) rfl ?_
  refine l_val s6 (y_as rfl (ev_of rfl)) rfl rfl (l' := [_,_,_,_,_,_,_,_,_,_,_,_,_,_,_,_,_,_,_,_,_,_,_,_,_,_]) rfl ?_
  refine l_end ?_
  refine x_thenN ?_
  refine c_seq ?_
  refine c_region ?_
  refine l_val s6 (y_mv rfl (ev_of rfl)) rfl rfl (l' := [_,_,_,_,_,_,_,_,_,_,_,_,_,_,_,_,_,_,_,_,_,_,_,_,_,_]) rfl ?_
  refine l_val s6 (y_eql rfl (ev_of rfl) (ev_of rfl)) rfl rfl (l' := [_,_,_,_,_,_,_,_,_,_,_,_,_,_,_,_,_,_,_,_,_,_,_,_,_,_]) rfl ?_
  refine l_val s6 (y_mv rfl (ev_of rfl)) rfl rfl (l' := [_,_,_,_,_,_,_,_,_,_,_,_,_,_,_,_,_,_,_,_,_,_,_,_,_,_]) rfl ?_
  refine l_split (t := 17) rfl (fun hg8 => ?_) (fun hg8 => ?_)
  · (try simp only [decide_eq_true_eq, decide_eq_false_iff_not, Bool.not_eq_true', Bool.not_eq_false'] at hg8)
    refine nlL (l' := [_,_,_,_,_,_,_,_,_,_,_,_,_,_,_,_,_,_,_,_,_,_,_,_,_,_]) rfl ?_
    refine l_gval s6 (y_mv rfl (ev_of rfl)) (wanted_of rfl rfl rfl rfl rfl) rfl (l' := [_,_,_,_,_,_,_,_,_,_,_,_,_,_,_,_,_,_,_,_,_,_,_,_,_,_]) rfl ?_
    refine l_gval s6 (y_eql rfl (ev_of rfl) (ev_of rfl)) (wanted_of rfl rfl rfl rfl rfl) rfl (l' := [_,_,_,_,_,_,_,_,_,_,_,_,_,_,_,_,_,_,_,_,_,_,_,_,_,_]) rfl ?_
    refine l_val s6 (y_pick1 rfl (ev_of rfl) (ev_of rfl)) rfl rfl (l' := [_,_,_,_,_,_,_,_,_,_,_,_,_,_,_,_,_,_,_,_,_,_,_,_,_,_]) rfl ?_
    refine l_val s6 (y_mv rfl (ev_of rfl)) rfl rfl (l' := [_,_,_,_,_,_,_,_,_,_,_,_,_,_,_,_,_,_,_,_,_,_,_,_,_,_]) rfl ?_
    refine l_split (t := 21) rfl (fun hg9 => ?_) (fun hg9 => ?_)
    · (try simp only [decide_eq_true_eq, decide_eq_false_iff_not, Bool.not_eq_true', Bool.not_eq_false'] at hg9)
      refine nlL (l' := [_,_,_,_,_,_,_,_,_,_,_,_,_,_,_,_,_,_,_,_,_,_,_,_,_,_]) rfl ?_
      refine l_gval s6 (y_mv rfl (ev_of rfl)) (wanted_of rfl rfl rfl rfl rfl) rfl (l' := [_,_,_,_,_,_,_,_,_,_,_,_,_,_,_,_,_,_,_,_,_,_,_,_,_,_]) rfl ?_
      refine l_ung (wanted_of rfl rfl rfl rfl rfl) ?_
      refine l_bs s6 rfl rfl rfl Ty.elem22 Ty.size2 Ty.zero2 (zs := [_, _, _, _]) rfl (vs := [(0, _), (1, _), (2, _), (3, _)]) rfl (ps := [(0, [_]), (1, [_]), (2, [_]), (3, [_])]) rfl (by intro q hq; simp only [List.zip_cons_cons, List.zip_nil_right, List.zip_nil_left, List.mem_cons, List.not_mem_nil, or_false] at hq; rcases hq with rfl | rfl | rfl | rfl <;> exact ⟨rfl, rfl, by first | rfl | (simp only [cells_one (arr_one (by repeat first | assumption | with_reducible exact ent_blk | exact Ent.here arr_reads | exact Ent.here one_I64 | exact Ent.here one_Cell | exact Ent.here one_Bool | exact Ent.here one_Rect | refine Ent.there ?_) s6)]; first | done | rfl), by simp⟩) (cells := [_, _, _, _]) rfl (by decide) (fun b12 w11 s10 => ?_)
      clear s6
      refine nlL (l' := [_,_,_,_,_,_,_,_,_,_,_,_,_,_,_,_,_,_,_,_,_,_,_,_,_,_]) rfl ?_
      refine l_gcall rfl (wanted_of rfl rfl rfl rfl rfl) rfl Fn.call56 (vs := [_, _]) rfl (same_c s10 (Ent.there (Ent.here arr_reads)) (Ent.here (blk_reads (xs := [1, 0, 1, 2]) rfl rfl)) (by decide)) ?_
      rintro _ w14 ⟨rfl, s13⟩
      clear s10
      refine nlL (l' := [_,_,_,_,_,_,_,_,_,_,_,_,_,_,_,_,_,_,_,_,_,_,_,_,_,_]) rfl ?_
      refine l_val s13 (y_pick1 rfl (ev_of rfl) (ev_of rfl)) rfl rfl (l' := [_,_,_,_,_,_,_,_,_,_,_,_,_,_,_,_,_,_,_,_,_,_,_,_,_,_]) rfl ?_
      refine l_val s13 (y_as rfl (ev_of rfl)) rfl rfl (l' := [_,_,_,_,_,_,_,_,_,_,_,_,_,_,_,_,_,_,_,_,_,_,_,_,_,_]) rfl ?_
      refine l_end ?_
      refine x_thenN ?_
      refine c_ret ?_
      refine r1 rfl rfl ?_
      exact ⟨congrArg Value.bool (decide_eq_true rfl), s13.sub (by repeat first | with_reducible exact Sub.refl _ | exact Sub.nil _ | refine Sub.take (by repeat first | with_reducible exact Take.here _ _ | apply Take.there) ?_ | refine Sub.skip _ ?_)⟩
    · (try simp only [decide_eq_true_eq, decide_eq_false_iff_not, Bool.not_eq_true', Bool.not_eq_false'] at hg9)
      first | done | (exfalso; omega) | contradiction | (exfalso; simp_all; done)
  · (try simp only [decide_eq_true_eq, decide_eq_false_iff_not, Bool.not_eq_true', Bool.not_eq_false'] at hg8)
    first | done | (exfalso; omega) | contradiction | (exfalso; simp_all; done)
end Go.Proofs.Ytpchomihojidpaa
