/- Grids made of others, cell by cell; any rectangle of a grid. -/
import Derived.Test.YtpchomihojidpaaTy
import Derived.Test.YtpchomihojidpaaSlC
import Derived.Test.YtpchomihojidpaaTp
import Derived.Test.YtpchomihojidpaaDe
import Derived.Test.YtpchomihojidpaaGr
import Derived.Test.YtpchomihojidpaaSlD
import Derived.KernelRfl
namespace Go.Proofs.Ytpchomihojidpaa
open Go.SL
set_option linter.unusedVariables false
set_option linter.unusedSimpArgs false
attribute [local irreducible] wpList WD WP Region.wanted Code.wp
def cropL (W H : Nat) (vs : List Int) (x0 y0 x1 y1 : Int) : List Int := if withinF x0 y0 x1 y1 W H = 0 then rectV W vs x0.toNat y0.toNat (x1.toNat + 1 - x0.toNat) (y1.toNat + 1 - y0.toNat) else []
theorem cropL_nat {W H X0 Y0 X1 Y1 : Nat} {vs : List Int} (h : withinF (X0 : Int) Y0 X1 Y1 W H = 0) : cropL W H vs X0 Y0 X1 Y1 = rectV W vs X0 Y0 (X1 + 1 - X0) (Y1 + 1 - Y0) := if_pos h
theorem cropL_no {W H : Nat} {x0 y0 x1 y1 : Int} {vs : List Int} (h : withinF x0 y0 x1 y1 W H ≠ 0) : cropL W H vs x0 y0 x1 y1 = [] := if_neg h
set_option maxHeartbeats 4000000 in
set_option maxRecDepth 100000 in
/-- (*hachure/grid.Grid).Values -/
theorem gvalOut0_c {e : Env} {L : List Asn} {w : World} {b W H : Nat} {x0 y0 x1 y1 : Int} {sv : Value} (s : SL e w L) (hb : Ent L (fun h => Blk b (gridB W H sv) 196 h)) (hw : W ≤ 4096) (hh : H ≤ 4096) (hout : withinF x0 y0 x1 y1 W H ≠ 0) :
    Calls Try.prog 84 #[ptr b 0, .agg #[.int .i64 x0, .int .i64 y0, .int .i64 x1, .int .i64 y1]] w (Rets fun v w' => v = .tuple #[.slice none 0 0, .int .i64 (withinF x0 y0 x1 y1 W H)] ∧ SL e w' L) := by
  refine enter Try.func84 rfl (l := [ptr b 0, .agg #[.int .i64 x0, .int .i64 y0, .int .i64 x1, .int .i64 y1], undef, undef, undef, undef, undef, undef, undef, undef, undef, undef, undef, undef, undef, undef, undef, undef, undef, undef, undef, undef, undef, undef, undef, undef, undef, undef, undef, undef, undef, undef, undef, undef, undef, undef, undef, undef, undef, undef, undef, undef, undef, undef, undef, undef, undef, undef, undef, undef, undef, undef, undef]) rfl ?_
  refine c_seq ?_
  refine c_region ?_
  refine l_box s rfl rfl rfl (ev_of rfl) (fun b3 w2 s1 => ?_)
  change SL _ _ (Blk _ #[_, _, _, _] _ :: _) at s1
  clear s
  refine nlL (l' := [_,_,_,_,_,_,_,_,_,_,_,_,_,_,_,_,_,_,_,_,_,_,_,_,_,_,_,_,_,_,_,_,_,_,_,_,_,_,_,_,_,_,_,_,_,_,_,_,_,_,_,_,_]) rfl ?_
  refine l_val s1 (y_as rfl (ev_of rfl)) rfl rfl (l' := [_,_,_,_,_,_,_,_,_,_,_,_,_,_,_,_,_,_,_,_,_,_,_,_,_,_,_,_,_,_,_,_,_,_,_,_,_,_,_,_,_,_,_,_,_,_,_,_,_,_,_,_,_]) rfl ?_
  refine l_val s1 (y_as rfl (ev_of rfl)) rfl rfl (l' := [_,_,_,_,_,_,_,_,_,_,_,_,_,_,_,_,_,_,_,_,_,_,_,_,_,_,_,_,_,_,_,_,_,_,_,_,_,_,_,_,_,_,_,_,_,_,_,_,_,_,_,_,_]) rfl ?_
  refine l_end ?_
  refine x_thenN ?_
  refine c_seq ?_
  refine c_seq ?_
  refine c_region ?_
  refine l_val s1 (y_mv rfl (ev_of rfl)) rfl rfl (l' := [_,_,_,_,_,_,_,_,_,_,_,_,_,_,_,_,_,_,_,_,_,_,_,_,_,_,_,_,_,_,_,_,_,_,_,_,_,_,_,_,_,_,_,_,_,_,_,_,_,_,_,_,_]) rfl ?_
  refine l_val s1 (y_load_blk rfl Ty.some58 Ty.agg58 Ty.size58 (ev_of rfl) (by repeat first | exact ent_blk | refine Ent.there ?_) rfl) rfl rfl (l' := [_,_,_,_,_,_,_,_,_,_,_,_,_,_,_,_,_,_,_,_,_,_,_,_,_,_,_,_,_,_,_,_,_,_,_,_,_,_,_,_,_,_,_,_,_,_,_,_,_,_,_,_,_]) rfl ?_
  refine l_callL rfl rfl rfl Fn.call161 (vs := [_, _]) rfl (gcheck0_c s1 (by first | (repeat first | assumption | with_reducible exact ent_blk | with_reducible exact Ent.here arr_reads | with_reducible exact Ent.here one_I64 | with_reducible exact Ent.here one_Cell | refine Ent.there ?_); done | (repeat first | assumption | with_reducible exact ent_blk | exact Ent.here arr_reads | exact Ent.here one_I64 | exact Ent.here one_Cell | exact Ent.here one_Bool | exact Ent.here one_Rect | refine Ent.there ?_)) (by omega) (by omega)) ?_
  rintro _ w5 ⟨rfl, s4⟩
  clear s1
  refine nlL (l' := [_,_,_,_,_,_,_,_,_,_,_,_,_,_,_,_,_,_,_,_,_,_,_,_,_,_,_,_,_,_,_,_,_,_,_,_,_,_,_,_,_,_,_,_,_,_,_,_,_,_,_,_,_]) rfl ?_
  refine l_val s4 (y_as rfl (ev_of rfl)) rfl rfl (l' := [_,_,_,_,_,_,_,_,_,_,_,_,_,_,_,_,_,_,_,_,_,_,_,_,_,_,_,_,_,_,_,_,_,_,_,_,_,_,_,_,_,_,_,_,_,_,_,_,_,_,_,_,_]) rfl ?_
  refine l_end ?_
  refine x_thenN ?_
  refine c_seq ?_
  refine c_region ?_
  refine l_val s4 (y_mv rfl (ev_of rfl)) rfl rfl (l' := [_,_,_,_,_,_,_,_,_,_,_,_,_,_,_,_,_,_,_,_,_,_,_,_,_,_,_,_,_,_,_,_,_,_,_,_,_,_,_,_,_,_,_,_,_,_,_,_,_,_,_,_,_]) rfl ?_
  refine l_val s4 (y_neq rfl (ev_of rfl) (ev_of rfl)) rfl rfl (l' := [_,_,_,_,_,_,_,_,_,_,_,_,_,_,_,_,_,_,_,_,_,_,_,_,_,_,_,_,_,_,_,_,_,_,_,_,_,_,_,_,_,_,_,_,_,_,_,_,_,_,_,_,_]) rfl ?_
  refine l_end ?_
  refine x_thenN ?_
  refine c_if rfl (fun hc0 => ?_) (fun hc0 => ?_)
  · (try simp only [decide_eq_true_eq, decide_eq_false_iff_not, Bool.not_eq_true', Bool.not_eq_false'] at hc0)
    refine c_seq ?_
    refine c_region ?_
    refine l_val s4 (y_mv rfl (ev_of rfl)) rfl rfl (l' := [_,_,_,_,_,_,_,_,_,_,_,_,_,_,_,_,_,_,_,_,_,_,_,_,_,_,_,_,_,_,_,_,_,_,_,_,_,_,_,_,_,_,_,_,_,_,_,_,_,_,_,_,_]) rfl ?_
    refine l_val s4 (y_as rfl (ev_of rfl)) rfl rfl (l' := [_,_,_,_,_,_,_,_,_,_,_,_,_,_,_,_,_,_,_,_,_,_,_,_,_,_,_,_,_,_,_,_,_,_,_,_,_,_,_,_,_,_,_,_,_,_,_,_,_,_,_,_,_]) rfl ?_
    refine l_val s4 (y_as rfl (ev_of rfl)) rfl rfl (l' := [_,_,_,_,_,_,_,_,_,_,_,_,_,_,_,_,_,_,_,_,_,_,_,_,_,_,_,_,_,_,_,_,_,_,_,_,_,_,_,_,_,_,_,_,_,_,_,_,_,_,_,_,_]) rfl ?_
    refine l_end ?_
    refine x_thenN ?_
    refine c_ret ?_
    refine x_thenR ?_
    refine r2 rfl rfl rfl ?_
    exact ⟨rfl, s4.sub (by first | (repeat first | with_reducible exact Sub.refl _ | refine Sub.skip _ ?_); done | (repeat first | with_reducible exact Sub.refl _ | exact Sub.nil _ | refine Sub.take (by repeat first | with_reducible exact Take.here _ _ | apply Take.there) ?_ | refine Sub.skip _ ?_))⟩
  · (try simp only [decide_eq_true_eq, decide_eq_false_iff_not, Bool.not_eq_true', Bool.not_eq_false'] at hc0)
    exact absurd (by simpa using hc0) hout
theorem gvaluesR_c {e : Env} {L : List Asn} {w : World} {b W H : Nat} {vs : List Int} {x0 y0 x1 y1 : Int} (s : SL e w L) (hg : Has L (GridA b W H vs)) :
    Calls Try.prog 84 #[ptr b 0, .agg #[.int .i64 x0, .int .i64 y0, .int .i64 x1, .int .i64 y1]] w (Rets fun v w' => ∃ u, v = .tuple #[u, .int .i64 (withinF x0 y0 x1 y1 W H)] ∧ SL e w' (Arr I64 2 u (cropL W H vs x0 y0 x1 y1) :: L)) := by
  by_cases h : withinF x0 y0 x1 y1 W H = 0
  · obtain ⟨a1, a2, a3, a4, a5, a6, a7, a8, a9, a10⟩ := within0.1 h
    obtain ⟨X0, rfl⟩ : ∃ n : Nat, x0 = n := ⟨x0.toNat, by omega⟩
    obtain ⟨X1, rfl⟩ : ∃ n : Nat, x1 = n := ⟨x1.toNat, by omega⟩
    obtain ⟨Y0, rfl⟩ : ∃ n : Nat, y0 = n := ⟨y0.toNat, by omega⟩
    obtain ⟨Y1, rfl⟩ : ∃ n : Nat, y1 = n := ⟨y1.toNat, by omega⟩
    rw [cropL_nat h, h]
    exact gvalues_c s hg (by omega) (by omega) (by omega) (by omega)
  · rw [cropL_no h]
    have hok := gridOk s hg
    obtain ⟨L', t⟩ := hg
    obtain ⟨_, sv, bs, hl, s1⟩ := grid_open (s.take t)
    have h1 := hok.w1; have h2 := hok.h1
    exact Rets.mono (gvalOut0_c s1 ent_blk (by omega) (by omega) h) fun v w' k => ⟨_, k.1, (grid_back hok hl t k.2).nilArr I64 2⟩
set_option maxHeartbeats 4000000 in
set_option maxRecDepth 100000 in
/-- hachure/turn.made -/
theorem made_t {e : Env} {L : List Asn} {w : World} {b W H wn hn f : Nat} {vs : List Int} {caps : List Value} {at_ : Nat → Nat → Nat × Nat} (s : SL e w L) (hg : Has L (GridA b W H vs)) (hw : 1 ≤ wn ∧ wn ≤ 1024) (hh : 1 ≤ hn ∧ hn ≤ 1024) (hB : callB Try.prog f = true) (hf : ∀ (x y : Nat) (w : World) (M : List Asn), x < wn → y < hn → SL e w (M ++ L) → Calls Try.prog f (([.int .i64 (x : Int), .int .i64 (y : Int)] : List Value) ++ caps).toArray w (Rets fun v w' => v = .agg #[.int .i64 ((at_ x y).1 : Int), .int .i64 ((at_ x y).2 : Int)] ∧ SL e w' (M ++ L))) (hin : ∀ x y, x < wn → y < hn → (at_ x y).1 < W ∧ (at_ x y).2 < H) :
    Calls Try.prog 135 #[ptr b 0, .int .i64 (wn : Int), .int .i64 (hn : Int), fnV f caps] w (Rets fun v w' => ∃ b', v = .tuple #[ptr b' 0, .int .i64 0] ∧ SL e w' (GridA b' wn hn (gen wn hn (fun x y => at2 W vs (at_ x y).1 (at_ x y).2)) :: L)) := by
  have hok := gridOk s hg
  have hkv := hok.ok; have hlen := hok.len
  have hwh : (wn : Int) * (hn : Int) ≤ 1024 * 1024 := Int.mul_le_mul (by omega) (by omega) (by omega) (by omega)
  have hwh0 : 0 ≤ (wn : Int) * (hn : Int) := Int.mul_nonneg (by omega) (by omega)
  have hgo : OkV (gen wn hn (fun x y => at2 W vs (at_ x y).1 (at_ x y).2)) := gen_ok fun x y hx hy => at2_ok hkv hlen (hin x y hx hy).1 (hin x y hx hy).2
  refine enter Try.func135 rfl (l := [ptr b 0, .int .i64 (wn : Int), .int .i64 (hn : Int), fnV f caps, undef, undef, undef, undef, undef, undef, undef, undef, undef, undef, undef, undef, undef, undef, undef, undef, undef, undef, undef, undef, undef, undef, undef, undef, undef, undef, undef, undef, undef, undef, undef, undef, undef, undef, undef, undef, undef, undef, undef, undef, undef, undef, undef, undef]) rfl ?_
  refine c_seq ?_
  refine c_region ?_
  refine l_val s (y_as rfl (ev_of rfl)) rfl rfl (l' := _) rfl ?_
  refine l_val s (y_as rfl (ev_of rfl)) rfl rfl (l' := [_,_,_,_,_,_,_,_,_,_,_,_,_,_,_,_,_,_,_,_,_,_,_,_,_,_,_,_,_,_,_,_,_,_,_,_,_,_,_,_,_,_,_,_,_,_,_,_]) rfl ?_
  refine l_end ?_
  refine x_thenN ?_
  refine c_seq ?_
  refine c_region ?_
  refine l_val s (y_mv rfl (ev_of rfl)) rfl rfl (l' := _) rfl ?_
  refine l_val s (y_mv rfl (ev_of rfl)) rfl rfl (l' := [_,_,_,_,_,_,_,_,_,_,_,_,_,_,_,_,_,_,_,_,_,_,_,_,_,_,_,_,_,_,_,_,_,_,_,_,_,_,_,_,_,_,_,_,_,_,_,_]) rfl ?_
  refine l_val s (y_mul rfl (ev_of rfl) (ev_of rfl) (by omega) (by omega)) rfl rfl (l' := _) rfl ?_
  refine l_make (c := I64) (zx := I64.d) s rfl rfl rfl Ty.elem22 Ty.size2 Ty.bytes2 Ty.zero2 (ev_of rfl) (ev_of rfl) (by omega) (by omega) (by omega) (by decide) rfl (fun v3 w2 s1 => ?_)
  clear s
  refine nlL (l' := [_,_,_,_,_,_,_,_,_,_,_,_,_,_,_,_,_,_,_,_,_,_,_,_,_,_,_,_,_,_,_,_,_,_,_,_,_,_,_,_,_,_,_,_,_,_,_,_]) rfl ?_
  refine l_val s1 (y_as rfl (ev_of rfl)) rfl rfl (l' := _) rfl ?_
  refine l_end ?_
  refine x_thenN ?_
  refine c_seq ?_
  refine c_seq ?_
  refine c_region ?_
  refine l_val s1 (y_mv rfl (ev_of rfl)) rfl rfl (l' := [_,_,_,_,_,_,_,_,_,_,_,_,_,_,_,_,_,_,_,_,_,_,_,_,_,_,_,_,_,_,_,_,_,_,_,_,_,_,_,_,_,_,_,_,_,_,_,_]) rfl ?_
  refine l_val s1 (y_mv rfl (ev_of rfl)) rfl rfl (l' := _) rfl ?_
  refine l_end ?_
  refine x_thenN ?_
  refine c_block ?_
  change SL _ _ (Arr I64 2 _ (genP wn 0 (fun x y => at2 W vs (at_ x y).1 (at_ x y).2)) :: _) at s1
  rw [show genP wn 0 (fun x y => at2 W vs (at_ x y).1 (at_ x y).2) = genP wn (0 * wn) (fun x y => at2 W vs (at_ x y).1 (at_ x y).2) from by rw [Nat.zero_mul]] at s1
  refine c_loop [false, false, false, false, false, false, false, false, false, false, true, true, true, true, true, false, false, false, false, false, true, true, true, true, true, true, true, true, true, true, true, true, true, true, true, true, true, true, true, true, true, true, false, false, false, false, false, false] (fun mu ds w => ∃ (j : Nat) (z : Value) (d11 d12 d13 d14 d21 d22 d23 d24 d25 d26 d27 d28 d29 d30 d31 d32 d33 d34 d35 d36 d37 d38 d39 d40 d41 : Value), ds = [(z), d11, d12, d13, d14, (.int .i64 (j : Int)), d21, d22, d23, d24, d25, d26, d27, d28, d29, d30, d31, d32, d33, d34, d35, d36, d37, d38, d39, d40, d41] ∧ mu = hn - j ∧ SL e w (Arr I64 2 z (genP wn (j * wn) (fun x y => at2 W vs (at_ x y).1 (at_ x y).2)) :: L) ∧ (j ≤ hn)) (ds := [_, _, _, _, _, _, _, _, _, _, _, _, _, _, _, _, _, _, _, _, _, _, _, _, _, _, _]) rfl ⟨0, _, _, _, _, _, _, _, _, _, _, _, _, _, _, _, _, _, _, _, _, _, _, _, _, _, _, rfl, rfl, ?_, ?_⟩ ?_
  · first | exact s1 | exact s1.sub (by first | (repeat first | with_reducible exact Sub.refl _ | refine Sub.skip _ ?_); done | (repeat first | with_reducible exact Sub.refl _ | exact Sub.nil _ | refine Sub.take (by repeat first | with_reducible exact Take.here _ _ | apply Take.there) ?_ | refine Sub.skip _ ?_))
  · omega
  · clear s1
    rintro n6 ds7 w5 ⟨j, z, d11, d12, d13, d14, d21, d22, d23, d24, d25, d26, d27, d28, d29, d30, d31, d32, d33, d34, d35, d36, d37, d38, d39, d40, d41, rfl, rfl, s4, hJ⟩
    refine nlC (l' := [_,_,_,_,_,_,_,_,_,_,_,_,_,_,_,_,_,_,_,_,_,_,_,_,_,_,_,_,_,_,_,_,_,_,_,_,_,_,_,_,_,_,_,_,_,_,_,_]) rfl ?_
    refine c_seq ?_
    refine c_region ?_
    refine l_val s4 (y_lss rfl (ev_of rfl) (ev_of rfl)) rfl rfl (l' := _) rfl ?_
    refine l_end ?_
    refine x_thenN ?_
    refine c_seq ?_
    refine c_if rfl (fun hc0 => ?_) (fun hc0 => ?_)
    · (try simp only [decide_eq_true_eq, decide_eq_false_iff_not, Bool.not_eq_true', Bool.not_eq_false'] at hc0)
      refine c_skip ?_
      refine x_thenN ?_
      refine c_seq ?_
      refine c_block ?_
      refine c_seq ?_
      refine c_region ?_
      refine l_val s4 (y_mv rfl (ev_of rfl)) rfl rfl (l' := [_,_,_,_,_,_,_,_,_,_,_,_,_,_,_,_,_,_,_,_,_,_,_,_,_,_,_,_,_,_,_,_,_,_,_,_,_,_,_,_,_,_,_,_,_,_,_,_]) rfl ?_
      refine l_val s4 (y_as rfl (ev_of rfl)) rfl rfl (l' := _) rfl ?_
      refine l_end ?_
      refine x_thenN ?_
      refine c_seq ?_
      refine c_region ?_
      refine l_val s4 (y_mv rfl (ev_of rfl)) rfl rfl (l' := [_,_,_,_,_,_,_,_,_,_,_,_,_,_,_,_,_,_,_,_,_,_,_,_,_,_,_,_,_,_,_,_,_,_,_,_,_,_,_,_,_,_,_,_,_,_,_,_]) rfl ?_
      refine l_val s4 (y_mv rfl (ev_of rfl)) rfl rfl (l' := _) rfl ?_
      refine l_end ?_
      refine x_thenN ?_
      refine c_block ?_
      have hm : (j + 1) * wn ≤ hn * wn := Nat.mul_le_mul_right _ (by omega)
      rw [Nat.succ_mul] at hm
      have hm2 : hn * wn ≤ 1024 * 1024 := Nat.mul_le_mul hh.2 hw.2
      refine c_loop [false, false, false, false, false, false, false, false, false, false, true, false, true, true, true, false, false, false, false, false, false, false, false, false, true, true, true, true, true, true, true, true, true, true, true, true, true, true, true, true, true, false, false, false, false, false, false, false] (fun mu ds w => ∃ (i : Nat) (z : Value) (d12 d13 d14 d25 d26 d27 d28 d29 d30 d31 d32 d33 d34 d35 d36 d37 d38 d39 d40 : Value), ds = [(z), d12, d13, d14, (.int .i64 (i : Int)), d25, d26, d27, d28, d29, d30, d31, d32, d33, d34, d35, d36, d37, d38, d39, d40] ∧ mu = wn - i ∧ SL e w (Arr I64 2 z (genP wn (j * wn + i) (fun x y => at2 W vs (at_ x y).1 (at_ x y).2)) :: L) ∧ (i ≤ wn)) (ds := [_, _, _, _, _, _, _, _, _, _, _, _, _, _, _, _, _, _, _, _, _]) rfl ⟨0, _, _, _, _, _, _, _, _, _, _, _, _, _, _, _, _, _, _, _, _, rfl, rfl, ?_, ?_⟩ ?_
      · first | exact s4 | exact s4.sub (by first | (repeat first | with_reducible exact Sub.refl _ | refine Sub.skip _ ?_); done | (repeat first | with_reducible exact Sub.refl _ | exact Sub.nil _ | refine Sub.take (by repeat first | with_reducible exact Take.here _ _ | apply Take.there) ?_ | refine Sub.skip _ ?_))
      · omega
      · clear s4
        rintro n10 ds11 w9 ⟨i, z, d12, d13, d14, d25, d26, d27, d28, d29, d30, d31, d32, d33, d34, d35, d36, d37, d38, d39, d40, rfl, rfl, s8, hI⟩
        refine nlC (l' := [_,_,_,_,_,_,_,_,_,_,_,_,_,_,_,_,_,_,_,_,_,_,_,_,_,_,_,_,_,_,_,_,_,_,_,_,_,_,_,_,_,_,_,_,_,_,_,_]) rfl ?_
        refine c_seq ?_
        refine c_region ?_
        refine l_val s8 (y_lss rfl (ev_of rfl) (ev_of rfl)) rfl rfl (l' := _) rfl ?_
        refine l_end ?_
        refine x_thenN ?_
        refine c_seq ?_
        refine c_if rfl (fun hc1 => ?_) (fun hc1 => ?_)
        · (try simp only [decide_eq_true_eq, decide_eq_false_iff_not, Bool.not_eq_true', Bool.not_eq_false'] at hc1)
          refine c_skip ?_
          refine x_thenN ?_
          refine c_seq ?_
          refine c_block ?_
          refine c_seq ?_
          refine c_region ?_
          refine l_val s8 (y_mv rfl (ev_of rfl)) rfl rfl (l' := [_,_,_,_,_,_,_,_,_,_,_,_,_,_,_,_,_,_,_,_,_,_,_,_,_,_,_,_,_,_,_,_,_,_,_,_,_,_,_,_,_,_,_,_,_,_,_,_]) rfl ?_
          refine l_val s8 (y_as rfl (ev_of rfl)) rfl rfl (l' := _) rfl ?_
          refine l_end ?_
          refine x_thenN ?_
          refine c_seq ?_
          refine c_region ?_
          refine l_val s8 (y_mv rfl (ev_of rfl)) rfl rfl (l' := [_,_,_,_,_,_,_,_,_,_,_,_,_,_,_,_,_,_,_,_,_,_,_,_,_,_,_,_,_,_,_,_,_,_,_,_,_,_,_,_,_,_,_,_,_,_,_,_]) rfl ?_
          refine l_val s8 (y_mv rfl (ev_of rfl)) rfl rfl (l' := _) rfl ?_
          refine l_val s8 (y_mv rfl (ev_of rfl)) rfl rfl (l' := [_,_,_,_,_,_,_,_,_,_,_,_,_,_,_,_,_,_,_,_,_,_,_,_,_,_,_,_,_,_,_,_,_,_,_,_,_,_,_,_,_,_,_,_,_,_,_,_]) rfl ?_
          refine l_val s8 (y_mv rfl (ev_of rfl)) rfl rfl (l' := _) rfl ?_
          refine l_callF (vs := [_, _]) rfl rfl rfl (ev_of rfl) hB rfl (hf i j _ [_] (by omega) (by omega) s8) ?_
          rintro _ w13 ⟨rfl, s12⟩
          clear s8
          refine nlL (l' := [_,_,_,_,_,_,_,_,_,_,_,_,_,_,_,_,_,_,_,_,_,_,_,_,_,_,_,_,_,_,_,_,_,_,_,_,_,_,_,_,_,_,_,_,_,_,_,_]) rfl ?_
          change SL _ _ (_ :: L) at s12
          refine l_callL rfl rfl rfl Fn.call127 (vs := [_, _]) rfl (gat_c s12 (by repeat first | exact hg | apply Has.there) (hin i j (by omega) (by omega)).1 (hin i j (by omega) (by omega)).2) ?_
          rintro _ w15 ⟨rfl, s14⟩
          clear s12
          refine nlL (l' := _) rfl ?_
          refine l_val s14 (y_mv rfl (ev_of rfl)) rfl rfl (l' := [_,_,_,_,_,_,_,_,_,_,_,_,_,_,_,_,_,_,_,_,_,_,_,_,_,_,_,_,_,_,_,_,_,_,_,_,_,_,_,_,_,_,_,_,_,_,_,_]) rfl ?_
          refine l_val s14 (y_extract rfl (ev_of rfl) rfl) rfl rfl (l' := _) rfl ?_
          refine l_val s14 (y_extract rfl (ev_of rfl) rfl) rfl rfl (l' := [_,_,_,_,_,_,_,_,_,_,_,_,_,_,_,_,_,_,_,_,_,_,_,_,_,_,_,_,_,_,_,_,_,_,_,_,_,_,_,_,_,_,_,_,_,_,_,_]) rfl ?_
          refine l_val s14 (y_as rfl (ev_of rfl)) rfl rfl (l' := _) rfl ?_
          refine l_val s14 (y_as rfl (ev_of rfl)) rfl rfl (l' := [_,_,_,_,_,_,_,_,_,_,_,_,_,_,_,_,_,_,_,_,_,_,_,_,_,_,_,_,_,_,_,_,_,_,_,_,_,_,_,_,_,_,_,_,_,_,_,_]) rfl ?_
          refine l_end ?_
          refine x_thenN ?_
          refine c_region ?_
          refine l_val s14 (y_mv rfl (ev_of rfl)) rfl rfl (l' := _) rfl ?_
          refine l_val s14 (y_mv rfl (ev_of rfl)) rfl rfl (l' := [_,_,_,_,_,_,_,_,_,_,_,_,_,_,_,_,_,_,_,_,_,_,_,_,_,_,_,_,_,_,_,_,_,_,_,_,_,_,_,_,_,_,_,_,_,_,_,_]) rfl ?_
          refine l_bs s14 rfl rfl rfl Ty.elem22 Ty.size2 Ty.zero2 (zs := [_]) rfl (vs := [(0, _)]) rfl (ps := [(0, [_])]) rfl (by intro q hq; simp only [List.zip_cons_cons, List.zip_nil_right, List.zip_nil_left, List.mem_cons, List.not_mem_nil, or_false] at hq; rcases hq with rfl <;> exact ⟨rfl, rfl, by first | rfl | (simp only [cells_one (arr_one (by first | (repeat first | assumption | with_reducible exact ent_blk | with_reducible exact Ent.here arr_reads | with_reducible exact Ent.here one_I64 | with_reducible exact Ent.here one_Cell | refine Ent.there ?_); done | (repeat first | assumption | with_reducible exact ent_blk | exact Ent.here arr_reads | exact Ent.here one_I64 | exact Ent.here one_Cell | exact Ent.here one_Bool | exact Ent.here one_Rect | refine Ent.there ?_)) s14)]; first | done | rfl), by simp⟩) (cells := [_]) rfl (by decide) (fun b18 w17 s16 => ?_)
          clear s14
          refine nlL (l' := _) rfl ?_
          refine l_append1 s16 (by repeat first | exact Take.here (Blk _ _ _) _ | apply Take.there) (by repeat first | with_reducible exact Take.here _ _ | apply Take.there) rfl rfl rfl Ty.elem22 Ty.size2 Ty.bytes2 Ty.zero2 rfl (ev_of rfl) (ev_of rfl) one_I64 (by rw [genP_length]; simp only [List.length_cons, List.length_nil]; omega) (by decide) (fun v21 w20 s19 => ?_)
          clear s16
          refine nlL (l' := [_,_,_,_,_,_,_,_,_,_,_,_,_,_,_,_,_,_,_,_,_,_,_,_,_,_,_,_,_,_,_,_,_,_,_,_,_,_,_,_,_,_,_,_,_,_,_,_]) rfl ?_
          refine l_val s19 (y_as rfl (ev_of rfl)) rfl rfl (l' := _) rfl ?_
          refine l_end ?_
          refine x_blockN ?_
          refine x_thenN ?_
          refine c_region ?_
          refine l_val s19 (y_add rfl (ev_of rfl) (ev_of rfl) (by omega) (by omega)) rfl rfl (l' := [_,_,_,_,_,_,_,_,_,_,_,_,_,_,_,_,_,_,_,_,_,_,_,_,_,_,_,_,_,_,_,_,_,_,_,_,_,_,_,_,_,_,_,_,_,_,_,_]) rfl ?_
          refine l_val s19 (y_mv rfl (ev_of rfl)) rfl rfl (l' := _) rfl ?_
          refine l_end ?_
          refine x_thenN ?_
          change SL _ _ (Arr I64 2 _ (genP wn (j * wn + i) (fun x y => at2 W vs (at_ x y).1 (at_ x y).2) ++ [(fun x y => at2 W vs (at_ x y).1 (at_ x y).2) i j]) :: _) at s19
          rw [genP_step (f := (fun x y => at2 W vs (at_ x y).1 (at_ x y).2)) (by omega)] at s19
          refine ⟨_, [_, _, _, _, _, _, _, _, _, _, _, _, _, _, _, _, _, _, _, _, _], ?_, rfl, i + 1, _, _, _, _, _, _, _, _, _, _, _, _, _, _, _, _, _, _, _, _, rfl, rfl, ?_, ?_⟩
          · omega
          · first | exact s19 | exact s19.sub (by first | (repeat first | with_reducible exact Sub.refl _ | refine Sub.skip _ ?_); done | (repeat first | with_reducible exact Sub.refl _ | exact Sub.nil _ | refine Sub.take (by repeat first | with_reducible exact Take.here _ _ | apply Take.there) ?_ | refine Sub.skip _ ?_))
          · omega
        · (try simp only [decide_eq_true_eq, decide_eq_false_iff_not, Bool.not_eq_true', Bool.not_eq_false'] at hc1)
          refine c_exit ?_
          refine x_thenE ?_
          refine x_thenE ?_
          refine x_hit ?_
          refine x_blockN ?_
          refine x_thenN ?_
          refine c_region ?_
          refine l_val s8 (y_add rfl (ev_of rfl) (ev_of rfl) (by omega) (by omega)) rfl rfl (l' := [_,_,_,_,_,_,_,_,_,_,_,_,_,_,_,_,_,_,_,_,_,_,_,_,_,_,_,_,_,_,_,_,_,_,_,_,_,_,_,_,_,_,_,_,_,_,_,_]) rfl ?_
          refine l_val s8 (y_mv rfl (ev_of rfl)) rfl rfl (l' := _) rfl ?_
          refine l_end ?_
          refine x_thenN ?_
          obtain rfl : i = wn := by omega
          rw [genP_row] at s8
          refine ⟨_, [_, _, _, _, _, _, _, _, _, _, _, _, _, _, _, _, _, _, _, _, _, _, _, _, _, _, _], ?_, rfl, j + 1, _, _, _, _, _, _, _, _, _, _, _, _, _, _, _, _, _, _, _, _, _, _, _, _, _, _, rfl, rfl, ?_, ?_⟩
          · omega
          · first | exact s8 | exact s8.sub (by first | (repeat first | with_reducible exact Sub.refl _ | refine Sub.skip _ ?_); done | (repeat first | with_reducible exact Sub.refl _ | exact Sub.nil _ | refine Sub.take (by repeat first | with_reducible exact Take.here _ _ | apply Take.there) ?_ | refine Sub.skip _ ?_))
          · omega
    · (try simp only [decide_eq_true_eq, decide_eq_false_iff_not, Bool.not_eq_true', Bool.not_eq_false'] at hc0)
      refine c_exit ?_
      refine x_thenE ?_
      refine x_thenE ?_
      refine x_hit ?_
      refine x_thenN ?_
      refine c_seq ?_
      refine c_region ?_
      obtain rfl : j = hn := by omega
      change SL _ _ (Arr I64 2 _ (gen wn _ (fun x y => at2 W vs (at_ x y).1 (at_ x y).2)) :: _) at s4
      refine l_val s4 (y_mv rfl (ev_of rfl)) rfl rfl (l' := [_,_,_,_,_,_,_,_,_,_,_,_,_,_,_,_,_,_,_,_,_,_,_,_,_,_,_,_,_,_,_,_,_,_,_,_,_,_,_,_,_,_,_,_,_,_,_,_]) rfl ?_
      refine l_val s4 (y_mv rfl (ev_of rfl)) rfl rfl (l' := _) rfl ?_
      refine l_val s4 (y_mv rfl (ev_of rfl)) rfl rfl (l' := [_,_,_,_,_,_,_,_,_,_,_,_,_,_,_,_,_,_,_,_,_,_,_,_,_,_,_,_,_,_,_,_,_,_,_,_,_,_,_,_,_,_,_,_,_,_,_,_]) rfl ?_
      refine l_callL rfl rfl rfl Fn.call117 (vs := [_, _, _]) rfl (from_c s4 (by first | (repeat first | assumption | with_reducible exact ent_blk | with_reducible exact Ent.here arr_reads | with_reducible exact Ent.here one_I64 | with_reducible exact Ent.here one_Cell | refine Ent.there ?_); done | (repeat first | assumption | with_reducible exact ent_blk | exact Ent.here arr_reads | exact Ent.here one_I64 | exact Ent.here one_Cell | exact Ent.here one_Bool | exact Ent.here one_Rect | refine Ent.there ?_)) hw hh (gen_length ..) hgo) ?_
      rintro _ w23 ⟨b', rfl, s22⟩
      clear s4
      refine nlL (l' := _) rfl ?_
      refine l_val s22 (y_extract rfl (ev_of rfl) rfl) rfl rfl (l' := [_,_,_,_,_,_,_,_,_,_,_,_,_,_,_,_,_,_,_,_,_,_,_,_,_,_,_,_,_,_,_,_,_,_,_,_,_,_,_,_,_,_,_,_,_,_,_,_]) rfl ?_
      refine l_val s22 (y_extract rfl (ev_of rfl) rfl) rfl rfl (l' := _) rfl ?_
      refine l_val s22 (y_as rfl (ev_of rfl)) rfl rfl (l' := [_,_,_,_,_,_,_,_,_,_,_,_,_,_,_,_,_,_,_,_,_,_,_,_,_,_,_,_,_,_,_,_,_,_,_,_,_,_,_,_,_,_,_,_,_,_,_,_]) rfl ?_
      refine l_val s22 (y_as rfl (ev_of rfl)) rfl rfl (l' := _) rfl ?_
      refine l_end ?_
      refine x_thenN ?_
      refine c_ret ?_
      refine r2 rfl rfl rfl ?_
      exact ⟨_, rfl, s22.sub (by first | (repeat first | with_reducible exact Sub.refl _ | refine Sub.skip _ ?_); done | (repeat first | with_reducible exact Sub.refl _ | exact Sub.nil _ | refine Sub.take (by repeat first | with_reducible exact Take.here _ _ | apply Take.there) ?_ | refine Sub.skip _ ?_))⟩
set_option maxHeartbeats 4000000 in
set_option maxRecDepth 100000 in
/-- hachure/turn.Scale$1 -/
theorem sc1_c {e : Env} {L : List Asn} {w : World} {x y : Nat} {t K : Nat} (s : SL e w L) (ht : Ent L (fun h => Blk t #[.int .i64 ((K : Nat) : Int)] 2 h)) (hK : 0 < K) (hx : x ≤ 1000000) (hy : y ≤ 1000000) :
    Calls Try.prog 136 #[.int .i64 (x : Int), .int .i64 (y : Int), ptr t 0] w (Rets fun v w' => v = .agg #[.int .i64 ((x / K : Nat) : Int), .int .i64 ((y / K : Nat) : Int)] ∧ SL e w' L) := by
  skip
  refine enter Try.func136 rfl (l := [.int .i64 (x : Int), .int .i64 (y : Int), ptr t 0, undef, undef, undef, undef, undef, undef, undef, undef, undef, undef]) rfl ?_
  refine c_seq ?_
  refine c_region ?_
  refine l_alloc s rfl rfl rfl Ty.zero46 (fun b3 w2 s1 => ?_)
  change SL _ _ (Blk _ #[_, _] _ :: _) at s1
  clear s
  refine nlL (l' := [_,_,_,_,_,_,_,_,_,_,_,_,_]) rfl ?_
  refine l_end ?_
  refine x_thenN ?_
  refine c_seq ?_
  apply c_drawn [] [0, 1, 2, 3, 4, 5, 6] [7] [] [_] [(_, vq _), (_, vq _), (_, vq _), (_, vq _), (_, vq _), (_, vq _), (_, vq _)] s1 Ty.follows (by kernel_rfl) (fun _ _ _ h => h.2) rfl rfl rfl (by decide) ?_
  show WP _ _ _ _ _
  refine p_end ?_
  refine d_val (y_mv rfl (ev_of rfl)) rfl rfl (l' := [_,_,_,_,_,_,_,_,_,_,_,_,_]) rfl ?_
  refine d_val (y_load rfl Ty.some2 Ty.agg2 (ev_of rfl) (by repeat first | exact ent_cell rfl | exact ent_cell_of ht rfl | assumption | refine Ent.there ?_)) rfl rfl (l' := [_,_,_,_,_,_,_,_,_,_,_,_,_]) rfl ?_
  refine d_val (y_quo rfl (ev_of rfl) (ev_of rfl) (by omega) (by omega) (by omega)) rfl rfl (l' := [_,_,_,_,_,_,_,_,_,_,_,_,_]) rfl ?_
  refine d_val (y_mv rfl (ev_of rfl)) rfl rfl (l' := [_,_,_,_,_,_,_,_,_,_,_,_,_]) rfl ?_
  refine d_val (y_load rfl Ty.some2 Ty.agg2 (ev_of rfl) (by repeat first | exact ent_cell rfl | exact ent_cell_of ht rfl | assumption | refine Ent.there ?_)) rfl rfl (l' := [_,_,_,_,_,_,_,_,_,_,_,_,_]) rfl ?_
  refine d_val (y_quo rfl (ev_of rfl) (ev_of rfl) (by omega) (by omega) (by omega)) rfl rfl (l' := [_,_,_,_,_,_,_,_,_,_,_,_,_]) rfl ?_
  refine d_val (y_bld (zs := [_, _]) (vs := [(0, _), (1, _)]) (ps := [(0, [_]), (1, [_])]) (v := .agg #[_, _]) rfl Ty.zero46 rfl (fs_of Ty.fs46) rfl rfl (by intro q hq; simp only [List.zip_cons_cons, List.zip_nil_right, List.zip_nil_left, List.mem_cons, List.not_mem_nil, or_false] at hq; rcases hq with rfl | rfl <;> exact ⟨by kernel_rfl, by first | rfl | (simp only [cells_one (arr_one (by first | (repeat first | assumption | with_reducible exact ent_blk | with_reducible exact Ent.here arr_reads | with_reducible exact Ent.here one_I64 | with_reducible exact Ent.here one_Cell | refine Ent.there ?_); done | (repeat first | assumption | with_reducible exact ent_blk | exact Ent.here arr_reads | exact Ent.here one_I64 | exact Ent.here one_Cell | exact Ent.here one_Bool | exact Ent.here one_Rect | refine Ent.there ?_)) s1)]; first | done | rfl), by simp⟩) rfl ⟨_, rfl⟩) rfl rfl (l' := [_,_,_,_,_,_,_,_,_,_,_,_,_]) rfl ?_
  refine d_end (fun w5 s4 => ?_)
  clear s1
  simp only [List.append_nil, List.cons_append, List.nil_append] at s4
  refine l_stA s4 (by repeat first | with_reducible exact Take.here _ _ | apply Take.there) rfl rfl rfl Ty.size46 (ev_of rfl) (ev_of rfl) rfl rfl (by first | (simp [Value.oneCell']; done) | (intro x hx; simp only [List.mem_toArray, List.mem_cons, List.not_mem_nil, or_false] at hx; rcases hx with rfl | rfl <;> first | rfl | assumption | exact arr_one (by first | (repeat first | assumption | with_reducible exact ent_blk | with_reducible exact Ent.here arr_reads | with_reducible exact Ent.here one_I64 | with_reducible exact Ent.here one_Cell | refine Ent.there ?_); done | (repeat first | assumption | with_reducible exact ent_blk | exact Ent.here arr_reads | exact Ent.here one_I64 | exact Ent.here one_Cell | exact Ent.here one_Bool | exact Ent.here one_Rect | refine Ent.there ?_)) s4)) (fun w7 s6 => ?_)
  clear s4
  refine l_end ?_
  refine x_thenN ?_
  refine c_ret ?_
  refine rc1 s6 rfl rfl Ty.some46 Ty.agg46 Ty.size46 (by repeat first | exact ent_blk | refine Ent.there ?_) rfl ?_
  exact ⟨by first | rfl | (congr 3 <;> first | rfl | (congr 1; omega) | (congr 2; omega)), s6.sub (by first | (repeat first | with_reducible exact Sub.refl _ | refine Sub.skip _ ?_); done | (repeat first | with_reducible exact Sub.refl _ | exact Sub.nil _ | refine Sub.take (by repeat first | with_reducible exact Take.here _ _ | apply Take.there) ?_ | refine Sub.skip _ ?_))⟩
set_option maxHeartbeats 4000000 in
set_option maxRecDepth 100000 in
/-- hachure/turn.Mirror$1 -/
theorem mi1_c {e : Env} {L : List Asn} {w : World} {x y : Nat} {t W : Nat} (s : SL e w L) (ht : Ent L (fun h => Blk t #[.int .i64 ((W : Nat) : Int)] 2 h)) (hx : x < W) (hW : W ≤ 1024) :
    Calls Try.prog 148 #[.int .i64 (x : Int), .int .i64 (y : Int), ptr t 0] w (Rets fun v w' => v = .agg #[.int .i64 ((W - 1 - x : Nat) : Int), .int .i64 ((y : Nat) : Int)] ∧ SL e w' L) := by
  skip
  refine enter Try.func148 rfl (l := [.int .i64 (x : Int), .int .i64 (y : Int), ptr t 0, undef, undef, undef, undef, undef, undef, undef, undef, undef]) rfl ?_
  refine c_seq ?_
  refine c_region ?_
  refine l_alloc s rfl rfl rfl Ty.zero46 (fun b3 w2 s1 => ?_)
  change SL _ _ (Blk _ #[_, _] _ :: _) at s1
  clear s
  refine nlL (l' := [_,_,_,_,_,_,_,_,_,_,_,_]) rfl ?_
  refine l_end ?_
  refine x_thenN ?_
  refine c_seq ?_
  refine c_region ?_
  refine l_val s1 (y_load rfl Ty.some2 Ty.agg2 (ev_of rfl) (by repeat first | exact ent_cell rfl | exact ent_cell_of ht rfl | assumption | refine Ent.there ?_)) rfl rfl (l' := [_,_,_,_,_,_,_,_,_,_,_,_]) rfl ?_
  refine l_val s1 (y_sub rfl (ev_of rfl) (ev_of rfl) (by omega) (by omega)) rfl rfl (l' := [_,_,_,_,_,_,_,_,_,_,_,_]) rfl ?_
  refine l_val s1 (y_mv rfl (ev_of rfl)) rfl rfl (l' := [_,_,_,_,_,_,_,_,_,_,_,_]) rfl ?_
  refine l_val s1 (y_sub rfl (ev_of rfl) (ev_of rfl) (by omega) (by omega)) rfl rfl (l' := [_,_,_,_,_,_,_,_,_,_,_,_]) rfl ?_
  refine l_val s1 (y_mv rfl (ev_of rfl)) rfl rfl (l' := [_,_,_,_,_,_,_,_,_,_,_,_]) rfl ?_
  refine l_val s1 (y_bld (zs := [_, _]) (vs := [(0, _), (1, _)]) (ps := [(0, [_]), (1, [_])]) (v := .agg #[_, _]) rfl Ty.zero46 rfl (fs_of Ty.fs46) rfl rfl (by intro q hq; simp only [List.zip_cons_cons, List.zip_nil_right, List.zip_nil_left, List.mem_cons, List.not_mem_nil, or_false] at hq; rcases hq with rfl | rfl <;> exact ⟨by kernel_rfl, by first | rfl | (simp only [cells_one (arr_one (by first | (repeat first | assumption | with_reducible exact ent_blk | with_reducible exact Ent.here arr_reads | with_reducible exact Ent.here one_I64 | with_reducible exact Ent.here one_Cell | refine Ent.there ?_); done | (repeat first | assumption | with_reducible exact ent_blk | exact Ent.here arr_reads | exact Ent.here one_I64 | exact Ent.here one_Cell | exact Ent.here one_Bool | exact Ent.here one_Rect | refine Ent.there ?_)) s1)]; first | done | rfl), by simp⟩) rfl ⟨_, rfl⟩) rfl rfl (l' := [_,_,_,_,_,_,_,_,_,_,_,_]) rfl ?_
  refine l_stA s1 (by repeat first | with_reducible exact Take.here _ _ | apply Take.there) rfl rfl rfl Ty.size46 (ev_of rfl) (ev_of rfl) rfl rfl (by first | (simp [Value.oneCell']; done) | (intro x hx; simp only [List.mem_toArray, List.mem_cons, List.not_mem_nil, or_false] at hx; rcases hx with rfl | rfl <;> first | rfl | assumption | exact arr_one (by first | (repeat first | assumption | with_reducible exact ent_blk | with_reducible exact Ent.here arr_reads | with_reducible exact Ent.here one_I64 | with_reducible exact Ent.here one_Cell | refine Ent.there ?_); done | (repeat first | assumption | with_reducible exact ent_blk | exact Ent.here arr_reads | exact Ent.here one_I64 | exact Ent.here one_Cell | exact Ent.here one_Bool | exact Ent.here one_Rect | refine Ent.there ?_)) s1)) (fun w5 s4 => ?_)
  clear s1
  refine l_end ?_
  refine x_thenN ?_
  refine c_ret ?_
  refine rc1 s4 rfl rfl Ty.some46 Ty.agg46 Ty.size46 (by repeat first | exact ent_blk | refine Ent.there ?_) rfl ?_
  exact ⟨by rw [show (((W : Int) - 1 - x) = ((W - 1 - x : Nat) : Int)) from by omega], s4.sub (by first | (repeat first | with_reducible exact Sub.refl _ | refine Sub.skip _ ?_); done | (repeat first | with_reducible exact Sub.refl _ | exact Sub.nil _ | refine Sub.take (by repeat first | with_reducible exact Take.here _ _ | apply Take.there) ?_ | refine Sub.skip _ ?_))⟩
set_option maxHeartbeats 4000000 in
set_option maxRecDepth 100000 in
/-- hachure/turn.Swap$1 -/
theorem sw1_c {e : Env} {L : List Asn} {w : World} {x y : Nat} (s : SL e w L) :
    Calls Try.prog 149 #[.int .i64 (x : Int), .int .i64 (y : Int)] w (Rets fun v w' => v = .agg #[.int .i64 ((y : Nat) : Int), .int .i64 ((x : Nat) : Int)] ∧ SL e w' L) := by
  skip
  refine enter Try.func149 rfl (l := [.int .i64 (x : Int), .int .i64 (y : Int), undef, undef, undef, undef, undef, undef]) rfl ?_
  refine c_seq ?_
  refine c_region ?_
  refine l_alloc s rfl rfl rfl Ty.zero46 (fun b3 w2 s1 => ?_)
  change SL _ _ (Blk _ #[_, _] _ :: _) at s1
  clear s
  refine nlL (l' := [_,_,_,_,_,_,_,_]) rfl ?_
  refine l_end ?_
  refine x_thenN ?_
  refine c_seq ?_
  refine c_region ?_
  refine l_val s1 (y_mv rfl (ev_of rfl)) rfl rfl (l' := [_,_,_,_,_,_,_,_]) rfl ?_
  refine l_val s1 (y_mv rfl (ev_of rfl)) rfl rfl (l' := [_,_,_,_,_,_,_,_]) rfl ?_
  refine l_val s1 (y_bld (zs := [_, _]) (vs := [(0, _), (1, _)]) (ps := [(0, [_]), (1, [_])]) (v := .agg #[_, _]) rfl Ty.zero46 rfl (fs_of Ty.fs46) rfl rfl (by intro q hq; simp only [List.zip_cons_cons, List.zip_nil_right, List.zip_nil_left, List.mem_cons, List.not_mem_nil, or_false] at hq; rcases hq with rfl | rfl <;> exact ⟨by kernel_rfl, by first | rfl | (simp only [cells_one (arr_one (by first | (repeat first | assumption | with_reducible exact ent_blk | with_reducible exact Ent.here arr_reads | with_reducible exact Ent.here one_I64 | with_reducible exact Ent.here one_Cell | refine Ent.there ?_); done | (repeat first | assumption | with_reducible exact ent_blk | exact Ent.here arr_reads | exact Ent.here one_I64 | exact Ent.here one_Cell | exact Ent.here one_Bool | exact Ent.here one_Rect | refine Ent.there ?_)) s1)]; first | done | rfl), by simp⟩) rfl ⟨_, rfl⟩) rfl rfl (l' := [_,_,_,_,_,_,_,_]) rfl ?_
  refine l_stA s1 (by repeat first | with_reducible exact Take.here _ _ | apply Take.there) rfl rfl rfl Ty.size46 (ev_of rfl) (ev_of rfl) rfl rfl (by first | (simp [Value.oneCell']; done) | (intro x hx; simp only [List.mem_toArray, List.mem_cons, List.not_mem_nil, or_false] at hx; rcases hx with rfl | rfl <;> first | rfl | assumption | exact arr_one (by first | (repeat first | assumption | with_reducible exact ent_blk | with_reducible exact Ent.here arr_reads | with_reducible exact Ent.here one_I64 | with_reducible exact Ent.here one_Cell | refine Ent.there ?_); done | (repeat first | assumption | with_reducible exact ent_blk | exact Ent.here arr_reads | exact Ent.here one_I64 | exact Ent.here one_Cell | exact Ent.here one_Bool | exact Ent.here one_Rect | refine Ent.there ?_)) s1)) (fun w5 s4 => ?_)
  clear s1
  refine l_end ?_
  refine x_thenN ?_
  refine c_ret ?_
  refine rc1 s4 rfl rfl Ty.some46 Ty.agg46 Ty.size46 (by repeat first | exact ent_blk | refine Ent.there ?_) rfl ?_
  exact ⟨by first | rfl | (congr 3 <;> first | rfl | (congr 1; omega) | (congr 2; omega)), s4.sub (by first | (repeat first | with_reducible exact Sub.refl _ | refine Sub.skip _ ?_); done | (repeat first | with_reducible exact Sub.refl _ | exact Sub.nil _ | refine Sub.take (by repeat first | with_reducible exact Take.here _ _ | apply Take.there) ?_ | refine Sub.skip _ ?_))⟩
set_option maxHeartbeats 4000000 in
set_option maxRecDepth 100000 in
/-- hachure/turn.Quarter$1 -/
theorem qa1_c {e : Env} {L : List Asn} {w : World} {x y : Nat} {t H : Nat} (s : SL e w L) (ht : Ent L (fun h => Blk t #[.int .i64 ((H : Nat) : Int)] 2 h)) (hx : x < H) (hH : H ≤ 1024) :
    Calls Try.prog 144 #[.int .i64 (x : Int), .int .i64 (y : Int), ptr t 0] w (Rets fun v w' => v = .agg #[.int .i64 ((y : Nat) : Int), .int .i64 ((H - 1 - x : Nat) : Int)] ∧ SL e w' L) := by
  skip
  refine enter Try.func144 rfl (l := [.int .i64 (x : Int), .int .i64 (y : Int), ptr t 0, undef, undef, undef, undef, undef, undef, undef, undef, undef]) rfl ?_
  refine c_seq ?_
  refine c_region ?_
  refine l_alloc s rfl rfl rfl Ty.zero46 (fun b3 w2 s1 => ?_)
  change SL _ _ (Blk _ #[_, _] _ :: _) at s1
  clear s
  refine nlL (l' := [_,_,_,_,_,_,_,_,_,_,_,_]) rfl ?_
  refine l_end ?_
  refine x_thenN ?_
  refine c_seq ?_
  refine c_region ?_
  refine l_val s1 (y_mv rfl (ev_of rfl)) rfl rfl (l' := [_,_,_,_,_,_,_,_,_,_,_,_]) rfl ?_
  refine l_val s1 (y_load rfl Ty.some2 Ty.agg2 (ev_of rfl) (by repeat first | exact ent_cell rfl | exact ent_cell_of ht rfl | assumption | refine Ent.there ?_)) rfl rfl (l' := [_,_,_,_,_,_,_,_,_,_,_,_]) rfl ?_
  refine l_val s1 (y_sub rfl (ev_of rfl) (ev_of rfl) (by omega) (by omega)) rfl rfl (l' := [_,_,_,_,_,_,_,_,_,_,_,_]) rfl ?_
  refine l_val s1 (y_mv rfl (ev_of rfl)) rfl rfl (l' := [_,_,_,_,_,_,_,_,_,_,_,_]) rfl ?_
  refine l_val s1 (y_sub rfl (ev_of rfl) (ev_of rfl) (by omega) (by omega)) rfl rfl (l' := [_,_,_,_,_,_,_,_,_,_,_,_]) rfl ?_
  refine l_val s1 (y_bld (zs := [_, _]) (vs := [(0, _), (1, _)]) (ps := [(0, [_]), (1, [_])]) (v := .agg #[_, _]) rfl Ty.zero46 rfl (fs_of Ty.fs46) rfl rfl (by intro q hq; simp only [List.zip_cons_cons, List.zip_nil_right, List.zip_nil_left, List.mem_cons, List.not_mem_nil, or_false] at hq; rcases hq with rfl | rfl <;> exact ⟨by kernel_rfl, by first | rfl | (simp only [cells_one (arr_one (by first | (repeat first | assumption | with_reducible exact ent_blk | with_reducible exact Ent.here arr_reads | with_reducible exact Ent.here one_I64 | with_reducible exact Ent.here one_Cell | refine Ent.there ?_); done | (repeat first | assumption | with_reducible exact ent_blk | exact Ent.here arr_reads | exact Ent.here one_I64 | exact Ent.here one_Cell | exact Ent.here one_Bool | exact Ent.here one_Rect | refine Ent.there ?_)) s1)]; first | done | rfl), by simp⟩) rfl ⟨_, rfl⟩) rfl rfl (l' := [_,_,_,_,_,_,_,_,_,_,_,_]) rfl ?_
  refine l_stA s1 (by repeat first | with_reducible exact Take.here _ _ | apply Take.there) rfl rfl rfl Ty.size46 (ev_of rfl) (ev_of rfl) rfl rfl (by first | (simp [Value.oneCell']; done) | (intro x hx; simp only [List.mem_toArray, List.mem_cons, List.not_mem_nil, or_false] at hx; rcases hx with rfl | rfl <;> first | rfl | assumption | exact arr_one (by first | (repeat first | assumption | with_reducible exact ent_blk | with_reducible exact Ent.here arr_reads | with_reducible exact Ent.here one_I64 | with_reducible exact Ent.here one_Cell | refine Ent.there ?_); done | (repeat first | assumption | with_reducible exact ent_blk | exact Ent.here arr_reads | exact Ent.here one_I64 | exact Ent.here one_Cell | exact Ent.here one_Bool | exact Ent.here one_Rect | refine Ent.there ?_)) s1)) (fun w5 s4 => ?_)
  clear s1
  refine l_end ?_
  refine x_thenN ?_
  refine c_ret ?_
  refine rc1 s4 rfl rfl Ty.some46 Ty.agg46 Ty.size46 (by repeat first | exact ent_blk | refine Ent.there ?_) rfl ?_
  exact ⟨by rw [show (((H : Int) - 1 - x) = ((H - 1 - x : Nat) : Int)) from by omega], s4.sub (by first | (repeat first | with_reducible exact Sub.refl _ | refine Sub.skip _ ?_); done | (repeat first | with_reducible exact Sub.refl _ | exact Sub.nil _ | refine Sub.take (by repeat first | with_reducible exact Take.here _ _ | apply Take.there) ?_ | refine Sub.skip _ ?_))⟩
set_option maxHeartbeats 4000000 in
set_option maxRecDepth 100000 in
/-- hachure/turn.Quarter$2 -/
theorem qa2_c {e : Env} {L : List Asn} {w : World} {x y : Nat} {t t2 W H : Nat} (s : SL e w L) (ht : Ent L (fun h => Blk t #[.int .i64 ((W : Nat) : Int)] 2 h)) (ht2 : Ent L (fun h => Blk t2 #[.int .i64 ((H : Nat) : Int)] 2 h)) (hx : x < W) (hy : y < H) (hW : W ≤ 1024) (hH : H ≤ 1024) :
    Calls Try.prog 145 #[.int .i64 (x : Int), .int .i64 (y : Int), ptr t 0, ptr t2 0] w (Rets fun v w' => v = .agg #[.int .i64 ((W - 1 - x : Nat) : Int), .int .i64 ((H - 1 - y : Nat) : Int)] ∧ SL e w' L) := by
  skip
  refine enter Try.func145 rfl (l := [.int .i64 (x : Int), .int .i64 (y : Int), ptr t 0, ptr t2 0, undef, undef, undef, undef, undef, undef, undef, undef, undef, undef, undef, undef]) rfl ?_
  refine c_seq ?_
  refine c_region ?_
  refine l_alloc s rfl rfl rfl Ty.zero46 (fun b3 w2 s1 => ?_)
  change SL _ _ (Blk _ #[_, _] _ :: _) at s1
  clear s
  refine nlL (l' := [_,_,_,_,_,_,_,_,_,_,_,_,_,_,_,_]) rfl ?_
  refine l_end ?_
  refine x_thenN ?_
  refine c_seq ?_
  refine c_region ?_
  refine l_val s1 (y_load rfl Ty.some2 Ty.agg2 (ev_of rfl) (by repeat first | exact ent_cell rfl | exact ent_cell_of ht rfl | exact ent_cell_of ht2 rfl | assumption | refine Ent.there ?_)) rfl rfl (l' := [_,_,_,_,_,_,_,_,_,_,_,_,_,_,_,_]) rfl ?_
  refine l_val s1 (y_sub rfl (ev_of rfl) (ev_of rfl) (by omega) (by omega)) rfl rfl (l' := [_,_,_,_,_,_,_,_,_,_,_,_,_,_,_,_]) rfl ?_
  refine l_val s1 (y_mv rfl (ev_of rfl)) rfl rfl (l' := [_,_,_,_,_,_,_,_,_,_,_,_,_,_,_,_]) rfl ?_
  refine l_val s1 (y_sub rfl (ev_of rfl) (ev_of rfl) (by omega) (by omega)) rfl rfl (l' := [_,_,_,_,_,_,_,_,_,_,_,_,_,_,_,_]) rfl ?_
  refine l_val s1 (y_load rfl Ty.some2 Ty.agg2 (ev_of rfl) (by repeat first | exact ent_cell rfl | exact ent_cell_of ht rfl | exact ent_cell_of ht2 rfl | assumption | refine Ent.there ?_)) rfl rfl (l' := [_,_,_,_,_,_,_,_,_,_,_,_,_,_,_,_]) rfl ?_
  refine l_val s1 (y_sub rfl (ev_of rfl) (ev_of rfl) (by omega) (by omega)) rfl rfl (l' := [_,_,_,_,_,_,_,_,_,_,_,_,_,_,_,_]) rfl ?_
  refine l_val s1 (y_mv rfl (ev_of rfl)) rfl rfl (l' := [_,_,_,_,_,_,_,_,_,_,_,_,_,_,_,_]) rfl ?_
  refine l_val s1 (y_sub rfl (ev_of rfl) (ev_of rfl) (by omega) (by omega)) rfl rfl (l' := [_,_,_,_,_,_,_,_,_,_,_,_,_,_,_,_]) rfl ?_
  refine l_val s1 (y_bld (zs := [_, _]) (vs := [(0, _), (1, _)]) (ps := [(0, [_]), (1, [_])]) (v := .agg #[_, _]) rfl Ty.zero46 rfl (fs_of Ty.fs46) rfl rfl (by intro q hq; simp only [List.zip_cons_cons, List.zip_nil_right, List.zip_nil_left, List.mem_cons, List.not_mem_nil, or_false] at hq; rcases hq with rfl | rfl <;> exact ⟨by kernel_rfl, by first | rfl | (simp only [cells_one (arr_one (by first | (repeat first | assumption | with_reducible exact ent_blk | with_reducible exact Ent.here arr_reads | with_reducible exact Ent.here one_I64 | with_reducible exact Ent.here one_Cell | refine Ent.there ?_); done | (repeat first | assumption | with_reducible exact ent_blk | exact Ent.here arr_reads | exact Ent.here one_I64 | exact Ent.here one_Cell | exact Ent.here one_Bool | exact Ent.here one_Rect | refine Ent.there ?_)) s1)]; first | done | rfl), by simp⟩) rfl ⟨_, rfl⟩) rfl rfl (l' := [_,_,_,_,_,_,_,_,_,_,_,_,_,_,_,_]) rfl ?_
  refine l_stA s1 (by repeat first | with_reducible exact Take.here _ _ | apply Take.there) rfl rfl rfl Ty.size46 (ev_of rfl) (ev_of rfl) rfl rfl (by first | (simp [Value.oneCell']; done) | (intro x hx; simp only [List.mem_toArray, List.mem_cons, List.not_mem_nil, or_false] at hx; rcases hx with rfl | rfl <;> first | rfl | assumption | exact arr_one (by first | (repeat first | assumption | with_reducible exact ent_blk | with_reducible exact Ent.here arr_reads | with_reducible exact Ent.here one_I64 | with_reducible exact Ent.here one_Cell | refine Ent.there ?_); done | (repeat first | assumption | with_reducible exact ent_blk | exact Ent.here arr_reads | exact Ent.here one_I64 | exact Ent.here one_Cell | exact Ent.here one_Bool | exact Ent.here one_Rect | refine Ent.there ?_)) s1)) (fun w5 s4 => ?_)
  clear s1
  refine l_end ?_
  refine x_thenN ?_
  refine c_ret ?_
  refine rc1 s4 rfl rfl Ty.some46 Ty.agg46 Ty.size46 (by repeat first | exact ent_blk | refine Ent.there ?_) rfl ?_
  exact ⟨by rw [show (((W : Int) - 1 - x) = ((W - 1 - x : Nat) : Int)) from by omega, show (((H : Int) - 1 - y) = ((H - 1 - y : Nat) : Int)) from by omega], s4.sub (by first | (repeat first | with_reducible exact Sub.refl _ | refine Sub.skip _ ?_); done | (repeat first | with_reducible exact Sub.refl _ | exact Sub.nil _ | refine Sub.take (by repeat first | with_reducible exact Take.here _ _ | apply Take.there) ?_ | refine Sub.skip _ ?_))⟩
set_option maxHeartbeats 4000000 in
set_option maxRecDepth 100000 in
/-- hachure/turn.Quarter$3 -/
theorem qa3_c {e : Env} {L : List Asn} {w : World} {x y : Nat} {t W : Nat} (s : SL e w L) (ht : Ent L (fun h => Blk t #[.int .i64 ((W : Nat) : Int)] 2 h)) (hy : y < W) (hW : W ≤ 1024) :
    Calls Try.prog 146 #[.int .i64 (x : Int), .int .i64 (y : Int), ptr t 0] w (Rets fun v w' => v = .agg #[.int .i64 ((W - 1 - y : Nat) : Int), .int .i64 ((x : Nat) : Int)] ∧ SL e w' L) := by
  skip
  refine enter Try.func146 rfl (l := [.int .i64 (x : Int), .int .i64 (y : Int), ptr t 0, undef, undef, undef, undef, undef, undef, undef, undef, undef]) rfl ?_
  refine c_seq ?_
  refine c_region ?_
  refine l_alloc s rfl rfl rfl Ty.zero46 (fun b3 w2 s1 => ?_)
  change SL _ _ (Blk _ #[_, _] _ :: _) at s1
  clear s
  refine nlL (l' := [_,_,_,_,_,_,_,_,_,_,_,_]) rfl ?_
  refine l_end ?_
  refine x_thenN ?_
  refine c_seq ?_
  refine c_region ?_
  refine l_val s1 (y_load rfl Ty.some2 Ty.agg2 (ev_of rfl) (by repeat first | exact ent_cell rfl | exact ent_cell_of ht rfl | assumption | refine Ent.there ?_)) rfl rfl (l' := [_,_,_,_,_,_,_,_,_,_,_,_]) rfl ?_
  refine l_val s1 (y_sub rfl (ev_of rfl) (ev_of rfl) (by omega) (by omega)) rfl rfl (l' := [_,_,_,_,_,_,_,_,_,_,_,_]) rfl ?_
  refine l_val s1 (y_mv rfl (ev_of rfl)) rfl rfl (l' := [_,_,_,_,_,_,_,_,_,_,_,_]) rfl ?_
  refine l_val s1 (y_sub rfl (ev_of rfl) (ev_of rfl) (by omega) (by omega)) rfl rfl (l' := [_,_,_,_,_,_,_,_,_,_,_,_]) rfl ?_
  refine l_val s1 (y_mv rfl (ev_of rfl)) rfl rfl (l' := [_,_,_,_,_,_,_,_,_,_,_,_]) rfl ?_
  refine l_val s1 (y_bld (zs := [_, _]) (vs := [(0, _), (1, _)]) (ps := [(0, [_]), (1, [_])]) (v := .agg #[_, _]) rfl Ty.zero46 rfl (fs_of Ty.fs46) rfl rfl (by intro q hq; simp only [List.zip_cons_cons, List.zip_nil_right, List.zip_nil_left, List.mem_cons, List.not_mem_nil, or_false] at hq; rcases hq with rfl | rfl <;> exact ⟨by kernel_rfl, by first | rfl | (simp only [cells_one (arr_one (by first | (repeat first | assumption | with_reducible exact ent_blk | with_reducible exact Ent.here arr_reads | with_reducible exact Ent.here one_I64 | with_reducible exact Ent.here one_Cell | refine Ent.there ?_); done | (repeat first | assumption | with_reducible exact ent_blk | exact Ent.here arr_reads | exact Ent.here one_I64 | exact Ent.here one_Cell | exact Ent.here one_Bool | exact Ent.here one_Rect | refine Ent.there ?_)) s1)]; first | done | rfl), by simp⟩) rfl ⟨_, rfl⟩) rfl rfl (l' := [_,_,_,_,_,_,_,_,_,_,_,_]) rfl ?_
  refine l_stA s1 (by repeat first | with_reducible exact Take.here _ _ | apply Take.there) rfl rfl rfl Ty.size46 (ev_of rfl) (ev_of rfl) rfl rfl (by first | (simp [Value.oneCell']; done) | (intro x hx; simp only [List.mem_toArray, List.mem_cons, List.not_mem_nil, or_false] at hx; rcases hx with rfl | rfl <;> first | rfl | assumption | exact arr_one (by first | (repeat first | assumption | with_reducible exact ent_blk | with_reducible exact Ent.here arr_reads | with_reducible exact Ent.here one_I64 | with_reducible exact Ent.here one_Cell | refine Ent.there ?_); done | (repeat first | assumption | with_reducible exact ent_blk | exact Ent.here arr_reads | exact Ent.here one_I64 | exact Ent.here one_Cell | exact Ent.here one_Bool | exact Ent.here one_Rect | refine Ent.there ?_)) s1)) (fun w5 s4 => ?_)
  clear s1
  refine l_end ?_
  refine x_thenN ?_
  refine c_ret ?_
  refine rc1 s4 rfl rfl Ty.some46 Ty.agg46 Ty.size46 (by repeat first | exact ent_blk | refine Ent.there ?_) rfl ?_
  exact ⟨by rw [show (((W : Int) - 1 - y) = ((W - 1 - y : Nat) : Int)) from by omega], s4.sub (by first | (repeat first | with_reducible exact Sub.refl _ | refine Sub.skip _ ?_); done | (repeat first | with_reducible exact Sub.refl _ | exact Sub.nil _ | refine Sub.take (by repeat first | with_reducible exact Take.here _ _ | apply Take.there) ?_ | refine Sub.skip _ ?_))⟩
end Go.Proofs.Ytpchomihojidpaa
