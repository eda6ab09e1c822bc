/- How far: the statement. -/
import Derived.Test.YtpchomihojidpaaTy
import Derived.Test.YtpchomihojidpaaSlC
import Derived.Test.YtpchomihojidpaaDu
import Derived.Test.YtpchomihojidpaaEqs
import Derived.KernelRfl
namespace Go.Proofs.Ytpchomihojidpaa
open Go.SL
set_option linter.unusedVariables false
set_option linter.unusedSimpArgs false
attribute [local irreducible] wpList WD WP Region.wanted Code.wp
theorem ToV.uniq {W : Nat} {vs : List Int} {t : Int} {a b : List Int} (A : ToV W vs t a) (B : ToV W vs t b) : a = b :=
  list_ext (by rw [A.len, B.len]) fun k hk => by
    rw [A.len] at hk
    obtain ⟨o, ho⟩ := Best.ex W vs t k vs.length (Nat.le_refl _)
    rw [A.best hk ho, B.best hk ho]
theorem far_same {W H : Nat} {vs : List Int} {t : Int} {ls aw : List Int} (d : Dist W vs t ls) (h0 : 0 < W) (hl : vs.length = W * H) (hb : W + H ≤ 4096) (hn : 0 < vs.length) (hw : ToV W vs t aw) : (4096 ≤ ls.getD 0 0 → aw.getD 0 0 < 0) ∧ (ls.getD 0 0 < 4096 → aw = ls ∧ 0 ≤ aw.getD 0 0) := by
  have hto := d.to h0 hl hb hn
  constructor
  · intro h
    exact (hw.neg hn).2 ((d.none_iff h0 hl hb hn).1 h)
  · intro h
    rw [if_neg (by omega)] at hto
    have e := hw.uniq hto
    refine ⟨e, ?_⟩
    have := d.s.lo 0 (by rw [d.s.len]; exact hn)
    rw [e]; exact this.1
theorem sel_same {W H : Nat} {vs : List Int} {t n : Int} {ls aw : List Int} (d : Dist W vs t ls) (h0 : 0 < W) (hl : vs.length = W * H) (hb : W + H ≤ 4096) (hn : 0 < vs.length) (hw : ToV W vs t aw) {k : Nat} (hk : k < vs.length) : decide (ls.getD k 0 ≤ n ∧ ls.getD k 0 < 4096) = decide (0 ≤ aw.getD k 0 ∧ aw.getD k 0 ≤ n) := by
  rcases Int.lt_or_le (ls.getD 0 0) 4096 with h | h
  · have e := ((far_same d h0 hl hb hn hw).2 h).1
    obtain ⟨c, hc, _⟩ := d.s.near 0 (by rw [d.s.len]; exact hn) h
    have := d.exact h0 hl hb hc hk
    rw [e]; exact decide_eq_decide.2 ⟨fun h => ⟨this.1, h.1⟩, fun h => ⟨h.2, this.2.1⟩⟩
  · have hno := (d.none_iff h0 hl hb hn).1 h
    have h1 := hw.none hno k hk
    rw [decide_eq_false (by omega : ¬ (0 ≤ aw.getD k 0 ∧ aw.getD k 0 ≤ n)), decide_eq_false]
    intro h2
    obtain ⟨c, hc, _⟩ := d.s.near k (by rw [d.s.len]; exact hk) h2.2
    exact hno c hc
theorem want_same {W : Nat} {vs : List Int} {t : Int} {a1 aw : List Int} (A : ToV W vs t a1) (hl : aw.length = vs.length) (h : ∀ k, k < vs.length → ∃ o, Best W vs t k vs.length o ∧ aw.getD k 0 = oT W k o) : a1 = aw :=
  list_ext (by rw [A.len, hl]) fun k hk => by
    rw [A.len] at hk
    obtain ⟨o, ho, he⟩ := h k hk
    rw [A.best hk ho, he]
set_option maxHeartbeats 4000000 in
set_option maxRecDepth 100000 in
/-- hachure/hachureref07.SameCells -/
theorem sameCells_c {e : Env} {L : List Asn} {w : World} {a b : Value} {xs : List Cell} (s : SL e w L) (ha : Ent L (SlR CellT a xs)) (hb : Ent L (SlR CellT b xs)) (hn : xs.length ≤ 1000000000) :
    Calls Try.prog 40 #[a, b] w (Rets fun v w' => v = .bool true ∧ SL e w' L) := by
  refine enter Try.func40 rfl (l := [a, b, undef, undef, undef, undef, undef, undef, undef, undef, undef, undef, undef, undef, undef, undef, undef, undef, undef, undef, undef, undef, undef, undef, undef, undef]) rfl ?_
  refine c_seq ?_
  refine c_region ?_
  refine l_val s (y_as rfl (ev_of rfl)) rfl rfl (l' := [_,_,_,_,_,_,_,_,_,_,_,_,_,_,_,_,_,_,_,_,_,_,_,_,_,_]) rfl ?_
  refine l_end ?_
  refine x_thenN ?_
  refine c_seq ?_
  refine c_seq ?_
  refine c_region ?_
  refine l_val s (y_mv rfl (ev_of rfl)) rfl rfl (l' := [_,_,_,_,_,_,_,_,_,_,_,_,_,_,_,_,_,_,_,_,_,_,_,_,_,_]) rfl ?_
  refine l_val s (y_len rfl rfl Ty.elem35 (ev_of rfl) ha) rfl rfl (l' := [_,_,_,_,_,_,_,_,_,_,_,_,_,_,_,_,_,_,_,_,_,_,_,_,_,_]) rfl ?_
  refine l_val s (y_mv rfl (ev_of rfl)) rfl rfl (l' := [_,_,_,_,_,_,_,_,_,_,_,_,_,_,_,_,_,_,_,_,_,_,_,_,_,_]) rfl ?_
  refine l_val s (y_len rfl rfl Ty.elem35 (ev_of rfl) hb) rfl rfl (l' := [_,_,_,_,_,_,_,_,_,_,_,_,_,_,_,_,_,_,_,_,_,_,_,_,_,_]) rfl ?_
  refine l_val s (y_neq rfl (ev_of rfl) (ev_of rfl)) rfl rfl (l' := [_,_,_,_,_,_,_,_,_,_,_,_,_,_,_,_,_,_,_,_,_,_,_,_,_,_]) rfl ?_
  refine l_end ?_
  refine x_thenN ?_
  refine c_if rfl (fun hc0 => ?_) (fun hc0 => ?_)
  · (try simp only [decide_eq_true_eq, decide_eq_false_iff_not, Bool.not_eq_true', Bool.not_eq_false'] at hc0)
    first | done | (exfalso; omega) | contradiction | (exfalso; simp_all; done)
  · (try simp only [decide_eq_true_eq, decide_eq_false_iff_not, Bool.not_eq_true', Bool.not_eq_false'] at hc0)
    refine c_skip ?_
    refine x_thenN ?_
    refine c_seq ?_
    refine c_seq ?_
    refine c_region ?_
    refine l_val s (y_as rfl (ev_of rfl)) rfl rfl (l' := [_,_,_,_,_,_,_,_,_,_,_,_,_,_,_,_,_,_,_,_,_,_,_,_,_,_]) rfl ?_
    refine l_end ?_
    refine x_thenN ?_
    refine c_block ?_
    refine c_loop [false, false, false, false, true, true, false, false, false, false, false, true, true, true, true, true, true, true, true, true, true, true, true, true, true, true] (fun mu ds w => ∃ (k : Nat) (d4 d11 d12 d13 d14 d15 d16 d17 d18 d19 d20 d21 d22 d23 d24 d25 : Value), ds = [d4, (.int .i64 (k : Int)), d11, d12, d13, d14, d15, d16, d17, d18, d19, d20, d21, d22, d23, d24, d25] ∧ mu = xs.length - k ∧ SL e w (L) ∧ (k ≤ xs.length)) (ds := [_, _, _, _, _, _, _, _, _, _, _, _, _, _, _, _, _]) rfl ⟨0, _, _, _, _, _, _, _, _, _, _, _, _, _, _, _, _, rfl, rfl, ?_, ?_⟩ ?_
    · first | exact s | exact s.sub (by repeat first | with_reducible exact Sub.refl _ | exact Sub.nil _ | refine Sub.take (by repeat first | with_reducible exact Take.here _ _ | apply Take.there) ?_ | refine Sub.skip _ ?_)
    · omega
    · clear s
      rintro n3 ds4 w2 ⟨k, d4, d11, d12, d13, d14, d15, d16, d17, d18, d19, d20, d21, d22, d23, d24, d25, rfl, rfl, s1, hI⟩
      refine nlC (l' := [_,_,_,_,_,_,_,_,_,_,_,_,_,_,_,_,_,_,_,_,_,_,_,_,_,_]) rfl ?_
      refine c_seq ?_
      refine c_seq ?_
      refine c_region ?_
      refine l_val s1 (y_mv rfl (ev_of rfl)) rfl rfl (l' := [_,_,_,_,_,_,_,_,_,_,_,_,_,_,_,_,_,_,_,_,_,_,_,_,_,_]) rfl ?_
      refine l_val s1 (y_mv rfl (ev_of rfl)) rfl rfl (l' := [_,_,_,_,_,_,_,_,_,_,_,_,_,_,_,_,_,_,_,_,_,_,_,_,_,_]) rfl ?_
      refine l_val s1 (y_len rfl rfl Ty.elem35 (ev_of rfl) ha) rfl rfl (l' := [_,_,_,_,_,_,_,_,_,_,_,_,_,_,_,_,_,_,_,_,_,_,_,_,_,_]) rfl ?_
      refine l_val s1 (y_lss rfl (ev_of rfl) (ev_of rfl)) rfl rfl (l' := [_,_,_,_,_,_,_,_,_,_,_,_,_,_,_,_,_,_,_,_,_,_,_,_,_,_]) rfl ?_
      refine l_end ?_
      refine x_thenN ?_
      refine c_if rfl (fun hc1 => ?_) (fun hc1 => ?_)
      · (try simp only [decide_eq_true_eq, decide_eq_false_iff_not, Bool.not_eq_true', Bool.not_eq_false'] at hc1)
        refine c_skip ?_
        refine x_thenN ?_
        refine c_seq ?_
        refine c_block ?_
        refine c_seq ?_
        apply c_drawn [] [0, 1, 2, 3, 4, 5, 6, 7, 8] [] [] [] [(_, vq _), (_, vq _), (_, vq _), (_, vq _), (_, vq _), (_, vq _), (_, vq _), (_, vq _), (_, vq _)] s1 Ty.follows (by kernel_rfl) (fun _ _ _ h => h.2) rfl rfl rfl (by decide) ?_
        show WP _ _ _ _ _
        refine p_end ?_
        refine d_val (y_mv rfl (ev_of rfl)) rfl rfl (l' := [_,_,_,_,_,_,_,_,_,_,_,_,_,_,_,_,_,_,_,_,_,_,_,_,_,_]) rfl ?_
        refine d_val (y_mv rfl (ev_of rfl)) rfl rfl (l' := [_,_,_,_,_,_,_,_,_,_,_,_,_,_,_,_,_,_,_,_,_,_,_,_,_,_]) rfl ?_
        refine d_val (y_idx rfl Ty.elem35 Ty.size46 (ev_of rfl) (ev_of rfl) ha rfl (by omega)) rfl rfl (l' := [_,_,_,_,_,_,_,_,_,_,_,_,_,_,_,_,_,_,_,_,_,_,_,_,_,_]) rfl ?_
        refine d_val (y_ldA rfl Ty.some46 Ty.agg46 Ty.size46 (ev_of rfl) ha (by omega) (vs := [_, _]) rfl) rfl rfl (l' := [_,_,_,_,_,_,_,_,_,_,_,_,_,_,_,_,_,_,_,_,_,_,_,_,_,_]) rfl ?_
        refine d_val (y_mv rfl (ev_of rfl)) rfl rfl (l' := [_,_,_,_,_,_,_,_,_,_,_,_,_,_,_,_,_,_,_,_,_,_,_,_,_,_]) rfl ?_
        refine d_val (y_mv rfl (ev_of rfl)) rfl rfl (l' := [_,_,_,_,_,_,_,_,_,_,_,_,_,_,_,_,_,_,_,_,_,_,_,_,_,_]) rfl ?_
        refine d_val (y_idx rfl Ty.elem35 Ty.size46 (ev_of rfl) (ev_of rfl) hb rfl (by omega)) rfl rfl (l' := [_,_,_,_,_,_,_,_,_,_,_,_,_,_,_,_,_,_,_,_,_,_,_,_,_,_]) rfl ?_
        refine d_val (y_ldA rfl Ty.some46 Ty.agg46 Ty.size46 (ev_of rfl) hb (by omega) (vs := [_, _]) rfl) rfl rfl (l' := [_,_,_,_,_,_,_,_,_,_,_,_,_,_,_,_,_,_,_,_,_,_,_,_,_,_]) rfl ?_
        refine d_val (y_neF rfl (ev_of rfl) (ev_of rfl) eqg46 eqt46 eqp46 (fun w => eqCell _ _ _ _ w)) rfl rfl (l' := [_,_,_,_,_,_,_,_,_,_,_,_,_,_,_,_,_,_,_,_,_,_,_,_,_,_]) rfl ?_
        refine d_end (fun w6 s5 => ?_)
        clear s1
        simp only [List.append_nil, List.cons_append, List.nil_append] at s5
        refine l_end ?_
        refine x_thenN ?_
        refine c_if rfl (fun hc2 => ?_) (fun hc2 => ?_)
        · (try simp only [decide_eq_true_eq, decide_eq_false_iff_not, Bool.not_eq_true', Bool.not_eq_false'] at hc2)
          first | done | (exfalso; omega) | contradiction | (exfalso; simp_all; done)
        · (try simp only [decide_eq_true_eq, decide_eq_false_iff_not, Bool.not_eq_true', Bool.not_eq_false'] at hc2)
          refine c_skip ?_
          refine x_blockN ?_
          refine x_thenN ?_
          refine c_region ?_
          refine l_val s5 (y_mv rfl (ev_of rfl)) rfl rfl (l' := [_,_,_,_,_,_,_,_,_,_,_,_,_,_,_,_,_,_,_,_,_,_,_,_,_,_]) rfl ?_
          refine l_val s5 (y_add rfl (ev_of rfl) (ev_of rfl) (by omega) (by omega)) rfl rfl (l' := [_,_,_,_,_,_,_,_,_,_,_,_,_,_,_,_,_,_,_,_,_,_,_,_,_,_]) rfl ?_
          refine l_val s5 (y_as rfl (ev_of rfl)) rfl rfl (l' := [_,_,_,_,_,_,_,_,_,_,_,_,_,_,_,_,_,_,_,_,_,_,_,_,_,_]) rfl ?_
          refine l_end ?_
          refine x_thenN ?_
          refine ⟨_, [_, _, _, _, _, _, _, _, _, _, _, _, _, _, _, _, _], ?_, rfl, k + 1, _, _, _, _, _, _, _, _, _, _, _, _, _, _, _, _, rfl, rfl, ?_, ?_⟩
          · omega
          · first | exact s5 | exact s5.sub (by repeat first | with_reducible exact Sub.refl _ | exact Sub.nil _ | refine Sub.take (by repeat first | with_reducible exact Take.here _ _ | apply Take.there) ?_ | refine Sub.skip _ ?_)
          · omega
      · (try simp only [decide_eq_true_eq, decide_eq_false_iff_not, Bool.not_eq_true', Bool.not_eq_false'] at hc1)
        refine c_exit ?_
        refine x_thenE ?_
        refine x_thenE ?_
        refine x_hit ?_
        refine x_thenN ?_
        refine c_seq ?_
        refine c_region ?_
        refine l_val s1 (y_as rfl (ev_of rfl)) rfl rfl (l' := [_,_,_,_,_,_,_,_,_,_,_,_,_,_,_,_,_,_,_,_,_,_,_,_,_,_]) rfl ?_
        refine l_end ?_
        refine x_thenN ?_
        refine c_ret ?_
        refine r1 rfl rfl ?_
        exact ⟨rfl, s1.sub (by repeat first | with_reducible exact Sub.refl _ | exact Sub.nil _ | refine Sub.take (by repeat first | with_reducible exact Take.here _ _ | apply Take.there) ?_ | refine Sub.skip _ ?_)⟩
set_option maxHeartbeats 4000000 in
set_option maxRecDepth 100000 in
/-- hachure/hachurelaw43.DistTo -/
theorem distTo_c {e : Env} {L : List Asn} {w : World} {wd ht t n : Int} {u : Value} {v : List Int} (s : SL e w L) (hv : Ent L (SlR I64 u v)) (hvl : v.length ≤ 20000000000000) :
    Calls Try.prog 8 #[.int .i64 wd, .int .i64 ht, u, .int .i64 t, .int .i64 n] w (Rets fun r w' => r = .bool true ∧ SL e w' L) := by
  refine enter Try.func8 rfl (l := [.int .i64 wd, .int .i64 ht, u, .int .i64 t, .int .i64 n, undef, undef, undef, undef, undef, undef, undef, undef, undef, undef, undef, undef, undef, undef, undef, undef, undef, undef, undef, undef, undef, undef, undef, undef, undef, undef, undef, undef, undef, undef, undef, undef, undef, undef, undef, undef, undef, undef, undef, undef, undef, undef, undef, undef, undef, undef, undef, undef, undef, undef, undef, undef, undef, undef, undef, undef, undef, undef, undef, undef, undef, undef, undef, undef, undef, undef, undef, undef, undef, undef, undef, undef, undef, undef, undef, undef, undef, undef, undef, undef, undef, undef, undef, undef, undef, undef, undef, undef, undef, undef, undef, undef, undef, undef, undef, undef, undef, undef, undef, undef, undef, undef, undef, undef, undef, undef, undef, undef, undef, undef, undef, undef, undef, undef, undef, undef, undef, undef, undef, undef, undef, undef, undef, undef, undef, undef, undef, undef, undef, undef, undef, undef, undef, undef, undef, undef, undef, undef, undef, undef, undef, undef, undef, undef, undef, undef, undef, undef, undef, undef, undef, undef, undef, undef, undef, undef, undef, undef, undef, undef, undef]) rfl ?_
  refine c_seq ?_
  refine c_region ?_
  refine l_val s (y_as rfl (ev_of rfl)) rfl rfl (l' := _) rfl ?_
  refine l_end ?_
  refine x_thenN ?_
  refine c_seq ?_
  refine c_seq ?_
  refine c_region ?_
  refine l_callL rfl rfl rfl Fn.call31 (vs := []) rfl (awake43_c s) ?_
  rintro _ w2 ⟨rfl, s1⟩
  clear s
  refine nlL (l' := [_,_,_,_,_,_,_,_,_,_,_,_,_,_,_,_,_,_,_,_,_,_,_,_,_,_,_,_,_,_,_,_,_,_,_,_,_,_,_,_,_,_,_,_,_,_,_,_,_,_,_,_,_,_,_,_,_,_,_,_,_,_,_,_,_,_,_,_,_,_,_,_,_,_,_,_,_,_,_,_,_,_,_,_,_,_,_,_,_,_,_,_,_,_,_,_,_,_,_,_,_,_,_,_,_,_,_,_,_,_,_,_,_,_,_,_,_,_,_,_,_,_,_,_,_,_,_,_,_,_,_,_,_,_,_,_,_,_,_,_,_,_,_,_,_,_,_,_,_,_,_,_,_,_,_,_,_,_,_,_,_,_,_,_,_,_]) rfl ?_
  refine l_val s1 (y_not rfl (ev_of rfl)) rfl rfl (l' := _) rfl ?_
  refine l_end ?_
  refine x_thenN ?_
  refine c_if rfl (fun hc0 => ?_) (fun hc0 => ?_)
  · (try simp only [decide_eq_true_eq, decide_eq_false_iff_not, Bool.not_eq_true', Bool.not_eq_false'] at hc0)
    first | done | (exfalso; omega) | contradiction | (exfalso; simp_all; done)
  · (try simp only [decide_eq_true_eq, decide_eq_false_iff_not, Bool.not_eq_true', Bool.not_eq_false'] at hc0)
    refine c_skip ?_
    refine x_thenN ?_
    refine c_seq ?_
    refine c_region ?_
    refine l_val s1 (y_mv rfl (ev_of rfl)) rfl rfl (l' := _) rfl ?_
    refine l_val s1 (y_mv rfl (ev_of rfl)) rfl rfl (l' := [_,_,_,_,_,_,_,_,_,_,_,_,_,_,_,_,_,_,_,_,_,_,_,_,_,_,_,_,_,_,_,_,_,_,_,_,_,_,_,_,_,_,_,_,_,_,_,_,_,_,_,_,_,_,_,_,_,_,_,_,_,_,_,_,_,_,_,_,_,_,_,_,_,_,_,_,_,_,_,_,_,_,_,_,_,_,_,_,_,_,_,_,_,_,_,_,_,_,_,_,_,_,_,_,_,_,_,_,_,_,_,_,_,_,_,_,_,_,_,_,_,_,_,_,_,_,_,_,_,_,_,_,_,_,_,_,_,_,_,_,_,_,_,_,_,_,_,_,_,_,_,_,_,_,_,_,_,_,_,_,_,_,_,_,_,_]) rfl ?_
    refine l_val s1 (y_mv rfl (ev_of rfl)) rfl rfl (l' := _) rfl ?_
    refine l_callL rfl rfl rfl Fn.call32 (vs := [_, _, _, _]) rfl (land_c s1 (by repeat first | assumption | with_reducible exact ent_blk | exact Ent.here arr_reads | exact Ent.here one_I64 | exact Ent.here one_Cell | exact Ent.here one_Bool | exact Ent.here one_Rect | refine Ent.there ?_) (by omega)) ?_
    rintro _ w4 ⟨mx, my, mz, ok, rfl, hz, hok, s3⟩
    clear s1
    refine nlL (l' := _) rfl ?_
    refine l_val s3 (y_mv rfl (ev_of rfl)) rfl rfl (l' := [_,_,_,_,_,_,_,_,_,_,_,_,_,_,_,_,_,_,_,_,_,_,_,_,_,_,_,_,_,_,_,_,_,_,_,_,_,_,_,_,_,_,_,_,_,_,_,_,_,_,_,_,_,_,_,_,_,_,_,_,_,_,_,_,_,_,_,_,_,_,_,_,_,_,_,_,_,_,_,_,_,_,_,_,_,_,_,_,_,_,_,_,_,_,_,_,_,_,_,_,_,_,_,_,_,_,_,_,_,_,_,_,_,_,_,_,_,_,_,_,_,_,_,_,_,_,_,_,_,_,_,_,_,_,_,_,_,_,_,_,_,_,_,_,_,_,_,_,_,_,_,_,_,_,_,_,_,_,_,_,_,_,_,_,_,_]) rfl ?_
    refine l_val s3 (y_extract rfl (ev_of rfl) rfl) rfl rfl (l' := _) rfl ?_
    refine l_val s3 (y_extract rfl (ev_of rfl) rfl) rfl rfl (l' := _) rfl ?_
    refine l_alloc s3 rfl rfl rfl Ty.zero25 (fun b7 w6 s5 => ?_)
    change SL _ _ (Blk _ #[_, _, _] _ :: _) at s5
    clear s3
    refine nlL (l' := [_,_,_,_,_,_,_,_,_,_,_,_,_,_,_,_,_,_,_,_,_,_,_,_,_,_,_,_,_,_,_,_,_,_,_,_,_,_,_,_,_,_,_,_,_,_,_,_,_,_,_,_,_,_,_,_,_,_,_,_,_,_,_,_,_,_,_,_,_,_,_,_,_,_,_,_,_,_,_,_,_,_,_,_,_,_,_,_,_,_,_,_,_,_,_,_,_,_,_,_,_,_,_,_,_,_,_,_,_,_,_,_,_,_,_,_,_,_,_,_,_,_,_,_,_,_,_,_,_,_,_,_,_,_,_,_,_,_,_,_,_,_,_,_,_,_,_,_,_,_,_,_,_,_,_,_,_,_,_,_,_,_,_,_,_,_]) rfl ?_
    refine l_stA s5 (by repeat first | with_reducible exact Take.here _ _ | apply Take.there) rfl rfl rfl Ty.size25 (ev_of rfl) (ev_of rfl) rfl rfl (by first | (simp [Value.oneCell']; done) | (intro x hx; simp only [List.mem_toArray, List.mem_cons, List.not_mem_nil, or_false] at hx; rcases hx with rfl | rfl | rfl <;> first | rfl | assumption | exact arr_one (by repeat first | assumption | with_reducible exact ent_blk | exact Ent.here arr_reads | exact Ent.here one_I64 | exact Ent.here one_Cell | exact Ent.here one_Bool | exact Ent.here one_Rect | refine Ent.there ?_) s5)) (fun w9 s8 => ?_)
    clear s5
    refine l_val s8 (y_as rfl (ev_of rfl)) rfl rfl (l' := _) rfl ?_
    refine l_end ?_
    refine x_thenN ?_
    refine c_seq ?_
    refine c_seq ?_
    refine c_region ?_
    refine l_val s8 (y_mv rfl (ev_of rfl)) rfl rfl (l' := _) rfl ?_
    refine l_val s8 (y_not rfl (ev_of rfl)) rfl rfl (l' := [_,_,_,_,_,_,_,_,_,_,_,_,_,_,_,_,_,_,_,_,_,_,_,_,_,_,_,_,_,_,_,_,_,_,_,_,_,_,_,_,_,_,_,_,_,_,_,_,_,_,_,_,_,_,_,_,_,_,_,_,_,_,_,_,_,_,_,_,_,_,_,_,_,_,_,_,_,_,_,_,_,_,_,_,_,_,_,_,_,_,_,_,_,_,_,_,_,_,_,_,_,_,_,_,_,_,_,_,_,_,_,_,_,_,_,_,_,_,_,_,_,_,_,_,_,_,_,_,_,_,_,_,_,_,_,_,_,_,_,_,_,_,_,_,_,_,_,_,_,_,_,_,_,_,_,_,_,_,_,_,_,_,_,_,_,_]) rfl ?_
    refine l_end ?_
    refine x_thenN ?_
    refine c_if rfl (fun hc1 => ?_) (fun hc1 => ?_)
    · (try simp only [decide_eq_true_eq, decide_eq_false_iff_not, Bool.not_eq_true', Bool.not_eq_false'] at hc1)
      refine c_seq ?_
      refine c_region ?_
      refine l_val s8 (y_as rfl (ev_of rfl)) rfl rfl (l' := _) rfl ?_
      refine l_end ?_
      refine x_thenN ?_
      refine c_ret ?_
      refine x_thenR ?_
      refine r1 rfl rfl ?_
      exact ⟨by first | rfl | (simp; done) | exact congrArg Value.bool (decide_eq_true ⟨rfl, rfl⟩), s8.sub (by repeat first | with_reducible exact Sub.refl _ | exact Sub.nil _ | refine Sub.take (by repeat first | with_reducible exact Take.here _ _ | apply Take.there) ?_ | refine Sub.skip _ ?_)⟩
    · (try simp only [decide_eq_true_eq, decide_eq_false_iff_not, Bool.not_eq_true', Bool.not_eq_false'] at hc1)
      obtain ⟨rfl, rfl, rfl, hL⟩ := hok (by assumption)
      have w0 := hL.w0; have w1 := hL.w1; have h0 := hL.h0; have h1 := hL.h1; have hm := hL.m
      obtain ⟨W, rfl⟩ : ∃ W : Nat, mx = W := ⟨mx.toNat, by omega⟩
      obtain ⟨H, rfl⟩ : ∃ H : Nat, my = H := ⟨my.toNat, by omega⟩
      have hlz := hL.len
      have hl : v.length = W * H := by exact_mod_cast hlz
      have hn0 : 1 * 1 ≤ W * H := Nat.mul_le_mul (by omega) (by omega)
      refine c_skip ?_
      refine x_thenN ?_
      refine c_seq ?_
      refine c_region ?_
      refine l_val s8 (y_mv rfl (ev_of rfl)) rfl rfl (l' := _) rfl ?_
      refine l_val s8 (y_mv rfl (ev_of rfl)) rfl rfl (l' := [_,_,_,_,_,_,_,_,_,_,_,_,_,_,_,_,_,_,_,_,_,_,_,_,_,_,_,_,_,_,_,_,_,_,_,_,_,_,_,_,_,_,_,_,_,_,_,_,_,_,_,_,_,_,_,_,_,_,_,_,_,_,_,_,_,_,_,_,_,_,_,_,_,_,_,_,_,_,_,_,_,_,_,_,_,_,_,_,_,_,_,_,_,_,_,_,_,_,_,_,_,_,_,_,_,_,_,_,_,_,_,_,_,_,_,_,_,_,_,_,_,_,_,_,_,_,_,_,_,_,_,_,_,_,_,_,_,_,_,_,_,_,_,_,_,_,_,_,_,_,_,_,_,_,_,_,_,_,_,_,_,_,_,_,_,_]) rfl ?_
      refine l_val s8 (y_mv rfl (ev_of rfl)) rfl rfl (l' := _) rfl ?_
      refine l_callL rfl rfl rfl Fn.call33 (vs := [_, _, _]) rfl (made_c (W := W) (H := H) s8 (by repeat first | assumption | with_reducible exact ent_blk | exact Ent.here arr_reads | exact Ent.here one_I64 | exact Ent.here one_Cell | exact Ent.here one_Bool | exact Ent.here one_Rect | refine Ent.there ?_) (by omega) (by omega) hl hL.ok) ?_
      rintro _ w11 ⟨b, rfl, s10⟩
      clear s8
      refine nlL (l' := _) rfl ?_
      refine l_val s10 (y_mv rfl (ev_of rfl)) rfl rfl (l' := [_,_,_,_,_,_,_,_,_,_,_,_,_,_,_,_,_,_,_,_,_,_,_,_,_,_,_,_,_,_,_,_,_,_,_,_,_,_,_,_,_,_,_,_,_,_,_,_,_,_,_,_,_,_,_,_,_,_,_,_,_,_,_,_,_,_,_,_,_,_,_,_,_,_,_,_,_,_,_,_,_,_,_,_,_,_,_,_,_,_,_,_,_,_,_,_,_,_,_,_,_,_,_,_,_,_,_,_,_,_,_,_,_,_,_,_,_,_,_,_,_,_,_,_,_,_,_,_,_,_,_,_,_,_,_,_,_,_,_,_,_,_,_,_,_,_,_,_,_,_,_,_,_,_,_,_,_,_,_,_,_,_,_,_,_,_]) rfl ?_
      refine l_val s10 (y_extract rfl (ev_of rfl) rfl) rfl rfl (l' := _) rfl ?_
      refine l_val s10 (y_extract rfl (ev_of rfl) rfl) rfl rfl (l' := _) rfl ?_
      refine l_val s10 (y_as rfl (ev_of rfl)) rfl rfl (l' := [_,_,_,_,_,_,_,_,_,_,_,_,_,_,_,_,_,_,_,_,_,_,_,_,_,_,_,_,_,_,_,_,_,_,_,_,_,_,_,_,_,_,_,_,_,_,_,_,_,_,_,_,_,_,_,_,_,_,_,_,_,_,_,_,_,_,_,_,_,_,_,_,_,_,_,_,_,_,_,_,_,_,_,_,_,_,_,_,_,_,_,_,_,_,_,_,_,_,_,_,_,_,_,_,_,_,_,_,_,_,_,_,_,_,_,_,_,_,_,_,_,_,_,_,_,_,_,_,_,_,_,_,_,_,_,_,_,_,_,_,_,_,_,_,_,_,_,_,_,_,_,_,_,_,_,_,_,_,_,_,_,_,_,_,_,_]) rfl ?_
      refine l_val s10 (y_as rfl (ev_of rfl)) rfl rfl (l' := _) rfl ?_
      refine l_end ?_
      refine x_thenN ?_
      refine c_seq ?_
      refine c_seq ?_
      refine c_region ?_
      refine l_val s10 (y_mv rfl (ev_of rfl)) rfl rfl (l' := _) rfl ?_
      refine l_val s10 (y_not rfl (ev_of rfl)) rfl rfl (l' := [_,_,_,_,_,_,_,_,_,_,_,_,_,_,_,_,_,_,_,_,_,_,_,_,_,_,_,_,_,_,_,_,_,_,_,_,_,_,_,_,_,_,_,_,_,_,_,_,_,_,_,_,_,_,_,_,_,_,_,_,_,_,_,_,_,_,_,_,_,_,_,_,_,_,_,_,_,_,_,_,_,_,_,_,_,_,_,_,_,_,_,_,_,_,_,_,_,_,_,_,_,_,_,_,_,_,_,_,_,_,_,_,_,_,_,_,_,_,_,_,_,_,_,_,_,_,_,_,_,_,_,_,_,_,_,_,_,_,_,_,_,_,_,_,_,_,_,_,_,_,_,_,_,_,_,_,_,_,_,_,_,_,_,_,_,_]) rfl ?_
      refine l_end ?_
      refine x_thenN ?_
      refine c_if rfl (fun hc2 => ?_) (fun hc2 => ?_)
      · (try simp only [decide_eq_true_eq, decide_eq_false_iff_not, Bool.not_eq_true', Bool.not_eq_false'] at hc2)
        first | done | (exfalso; omega) | contradiction | (exfalso; simp_all; done)
      · (try simp only [decide_eq_true_eq, decide_eq_false_iff_not, Bool.not_eq_true', Bool.not_eq_false'] at hc2)
        refine c_skip ?_
        refine x_thenN ?_
        refine c_seq ?_
        refine c_region ?_
        refine l_val s10 (y_mv rfl (ev_of rfl)) rfl rfl (l' := _) rfl ?_
        refine l_val s10 (y_mv rfl (ev_of rfl)) rfl rfl (l' := _) rfl ?_
        refine l_callL rfl rfl rfl Fn.call34 (vs := [_, _]) rfl (to_c s10 (by repeat first | exact Has.here _ _ | apply Has.there)) ?_
        rintro _ w13 ⟨u1, a1, rfl, hA, s12⟩
        clear s10
        refine nlL (l' := [_,_,_,_,_,_,_,_,_,_,_,_,_,_,_,_,_,_,_,_,_,_,_,_,_,_,_,_,_,_,_,_,_,_,_,_,_,_,_,_,_,_,_,_,_,_,_,_,_,_,_,_,_,_,_,_,_,_,_,_,_,_,_,_,_,_,_,_,_,_,_,_,_,_,_,_,_,_,_,_,_,_,_,_,_,_,_,_,_,_,_,_,_,_,_,_,_,_,_,_,_,_,_,_,_,_,_,_,_,_,_,_,_,_,_,_,_,_,_,_,_,_,_,_,_,_,_,_,_,_,_,_,_,_,_,_,_,_,_,_,_,_,_,_,_,_,_,_,_,_,_,_,_,_,_,_,_,_,_,_,_,_,_,_,_,_]) rfl ?_
        have hal := hA.len
        refine l_val s12 (y_mv rfl (ev_of rfl)) rfl rfl (l' := _) rfl ?_
        refine l_val s12 (y_extract rfl (ev_of rfl) rfl) rfl rfl (l' := _) rfl ?_
        refine l_val s12 (y_extract rfl (ev_of rfl) rfl) rfl rfl (l' := [_,_,_,_,_,_,_,_,_,_,_,_,_,_,_,_,_,_,_,_,_,_,_,_,_,_,_,_,_,_,_,_,_,_,_,_,_,_,_,_,_,_,_,_,_,_,_,_,_,_,_,_,_,_,_,_,_,_,_,_,_,_,_,_,_,_,_,_,_,_,_,_,_,_,_,_,_,_,_,_,_,_,_,_,_,_,_,_,_,_,_,_,_,_,_,_,_,_,_,_,_,_,_,_,_,_,_,_,_,_,_,_,_,_,_,_,_,_,_,_,_,_,_,_,_,_,_,_,_,_,_,_,_,_,_,_,_,_,_,_,_,_,_,_,_,_,_,_,_,_,_,_,_,_,_,_,_,_,_,_,_,_,_,_,_,_]) rfl ?_
        refine l_val s12 (y_as rfl (ev_of rfl)) rfl rfl (l' := _) rfl ?_
        refine l_val s12 (y_as rfl (ev_of rfl)) rfl rfl (l' := _) rfl ?_
        refine l_end ?_
        refine x_thenN ?_
        refine c_seq ?_
        refine c_region ?_
        refine l_val s12 (y_mv rfl (ev_of rfl)) rfl rfl (l' := [_,_,_,_,_,_,_,_,_,_,_,_,_,_,_,_,_,_,_,_,_,_,_,_,_,_,_,_,_,_,_,_,_,_,_,_,_,_,_,_,_,_,_,_,_,_,_,_,_,_,_,_,_,_,_,_,_,_,_,_,_,_,_,_,_,_,_,_,_,_,_,_,_,_,_,_,_,_,_,_,_,_,_,_,_,_,_,_,_,_,_,_,_,_,_,_,_,_,_,_,_,_,_,_,_,_,_,_,_,_,_,_,_,_,_,_,_,_,_,_,_,_,_,_,_,_,_,_,_,_,_,_,_,_,_,_,_,_,_,_,_,_,_,_,_,_,_,_,_,_,_,_,_,_,_,_,_,_,_,_,_,_,_,_,_,_]) rfl ?_
        refine l_val s12 (y_mv rfl (ev_of rfl)) rfl rfl (l' := _) rfl ?_
        refine l_val s12 (y_mv rfl (ev_of rfl)) rfl rfl (l' := _) rfl ?_
        refine l_callL rfl rfl rfl Fn.call53 (vs := [_, _, _]) rfl (within_d s12 (by repeat first | exact Has.here _ _ | apply Has.there)) ?_
        rintro _ w15 ⟨u2, ls1, rfl, hd1, s14⟩
        clear s12
        refine nlL (l' := [_,_,_,_,_,_,_,_,_,_,_,_,_,_,_,_,_,_,_,_,_,_,_,_,_,_,_,_,_,_,_,_,_,_,_,_,_,_,_,_,_,_,_,_,_,_,_,_,_,_,_,_,_,_,_,_,_,_,_,_,_,_,_,_,_,_,_,_,_,_,_,_,_,_,_,_,_,_,_,_,_,_,_,_,_,_,_,_,_,_,_,_,_,_,_,_,_,_,_,_,_,_,_,_,_,_,_,_,_,_,_,_,_,_,_,_,_,_,_,_,_,_,_,_,_,_,_,_,_,_,_,_,_,_,_,_,_,_,_,_,_,_,_,_,_,_,_,_,_,_,_,_,_,_,_,_,_,_,_,_,_,_,_,_,_,_]) rfl ?_
        rw [selC_congr (fun k hk => sel_same (n := n) hd1 (by omega) hl (by omega) (by omega) hA hk)] at s14
        refine l_val s14 (y_mv rfl (ev_of rfl)) rfl rfl (l' := _) rfl ?_
        refine l_val s14 (y_extract rfl (ev_of rfl) rfl) rfl rfl (l' := _) rfl ?_
        refine l_val s14 (y_extract rfl (ev_of rfl) rfl) rfl rfl (l' := [_,_,_,_,_,_,_,_,_,_,_,_,_,_,_,_,_,_,_,_,_,_,_,_,_,_,_,_,_,_,_,_,_,_,_,_,_,_,_,_,_,_,_,_,_,_,_,_,_,_,_,_,_,_,_,_,_,_,_,_,_,_,_,_,_,_,_,_,_,_,_,_,_,_,_,_,_,_,_,_,_,_,_,_,_,_,_,_,_,_,_,_,_,_,_,_,_,_,_,_,_,_,_,_,_,_,_,_,_,_,_,_,_,_,_,_,_,_,_,_,_,_,_,_,_,_,_,_,_,_,_,_,_,_,_,_,_,_,_,_,_,_,_,_,_,_,_,_,_,_,_,_,_,_,_,_,_,_,_,_,_,_,_,_,_,_]) rfl ?_
        refine l_val s14 (y_as rfl (ev_of rfl)) rfl rfl (l' := _) rfl ?_
        refine l_val s14 (y_as rfl (ev_of rfl)) rfl rfl (l' := _) rfl ?_
        refine l_end ?_
        refine x_thenN ?_
        refine c_seq ?_
        refine c_region ?_
        refine l_val s14 (y_mv rfl (ev_of rfl)) rfl rfl (l' := [_,_,_,_,_,_,_,_,_,_,_,_,_,_,_,_,_,_,_,_,_,_,_,_,_,_,_,_,_,_,_,_,_,_,_,_,_,_,_,_,_,_,_,_,_,_,_,_,_,_,_,_,_,_,_,_,_,_,_,_,_,_,_,_,_,_,_,_,_,_,_,_,_,_,_,_,_,_,_,_,_,_,_,_,_,_,_,_,_,_,_,_,_,_,_,_,_,_,_,_,_,_,_,_,_,_,_,_,_,_,_,_,_,_,_,_,_,_,_,_,_,_,_,_,_,_,_,_,_,_,_,_,_,_,_,_,_,_,_,_,_,_,_,_,_,_,_,_,_,_,_,_,_,_,_,_,_,_,_,_,_,_,_,_,_,_]) rfl ?_
        refine l_val s14 (y_mv rfl (ev_of rfl)) rfl rfl (l' := _) rfl ?_
        refine l_callL rfl rfl rfl Fn.call54 (vs := [_, _]) rfl (farthest_c s14 (by repeat first | exact Has.here _ _ | apply Has.there)) ?_
        rintro _ w17 ⟨ls2, fX, fY, fD, fF, rfl, hd2, hf1, hf2, s16⟩
        clear s14
        refine nlL (l' := _) rfl ?_
        have hfs := far_same hd2 (by omega) hl (by omega) (by omega) hA
        refine l_val s16 (y_mv rfl (ev_of rfl)) rfl rfl (l' := [_,_,_,_,_,_,_,_,_,_,_,_,_,_,_,_,_,_,_,_,_,_,_,_,_,_,_,_,_,_,_,_,_,_,_,_,_,_,_,_,_,_,_,_,_,_,_,_,_,_,_,_,_,_,_,_,_,_,_,_,_,_,_,_,_,_,_,_,_,_,_,_,_,_,_,_,_,_,_,_,_,_,_,_,_,_,_,_,_,_,_,_,_,_,_,_,_,_,_,_,_,_,_,_,_,_,_,_,_,_,_,_,_,_,_,_,_,_,_,_,_,_,_,_,_,_,_,_,_,_,_,_,_,_,_,_,_,_,_,_,_,_,_,_,_,_,_,_,_,_,_,_,_,_,_,_,_,_,_,_,_,_,_,_,_,_]) rfl ?_
        refine l_val s16 (y_extract rfl (ev_of rfl) rfl) rfl rfl (l' := _) rfl ?_
        refine l_val s16 (y_extract rfl (ev_of rfl) rfl) rfl rfl (l' := _) rfl ?_
        refine l_val s16 (y_extract rfl (ev_of rfl) rfl) rfl rfl (l' := [_,_,_,_,_,_,_,_,_,_,_,_,_,_,_,_,_,_,_,_,_,_,_,_,_,_,_,_,_,_,_,_,_,_,_,_,_,_,_,_,_,_,_,_,_,_,_,_,_,_,_,_,_,_,_,_,_,_,_,_,_,_,_,_,_,_,_,_,_,_,_,_,_,_,_,_,_,_,_,_,_,_,_,_,_,_,_,_,_,_,_,_,_,_,_,_,_,_,_,_,_,_,_,_,_,_,_,_,_,_,_,_,_,_,_,_,_,_,_,_,_,_,_,_,_,_,_,_,_,_,_,_,_,_,_,_,_,_,_,_,_,_,_,_,_,_,_,_,_,_,_,_,_,_,_,_,_,_,_,_,_,_,_,_,_,_]) rfl ?_
        refine l_val s16 (y_extract rfl (ev_of rfl) rfl) rfl rfl (l' := _) rfl ?_
        refine l_alloc s16 rfl rfl rfl Ty.zero46 (fun b20 w19 s18 => ?_)
        change SL _ _ (Blk _ #[_, _] _ :: _) at s18
        clear s16
        refine nlL (l' := _) rfl ?_
        refine l_stA s18 (by repeat first | with_reducible exact Take.here _ _ | apply Take.there) rfl rfl rfl Ty.size46 (ev_of rfl) (ev_of rfl) rfl rfl (by first | (simp [Value.oneCell']; done) | (intro x hx; simp only [List.mem_toArray, List.mem_cons, List.not_mem_nil, or_false] at hx; rcases hx with rfl | rfl <;> first | rfl | assumption | exact arr_one (by repeat first | assumption | with_reducible exact ent_blk | exact Ent.here arr_reads | exact Ent.here one_I64 | exact Ent.here one_Cell | exact Ent.here one_Bool | exact Ent.here one_Rect | refine Ent.there ?_) s18)) (fun w22 s21 => ?_)
        clear s18
        refine l_val s21 (y_as rfl (ev_of rfl)) rfl rfl (l' := [_,_,_,_,_,_,_,_,_,_,_,_,_,_,_,_,_,_,_,_,_,_,_,_,_,_,_,_,_,_,_,_,_,_,_,_,_,_,_,_,_,_,_,_,_,_,_,_,_,_,_,_,_,_,_,_,_,_,_,_,_,_,_,_,_,_,_,_,_,_,_,_,_,_,_,_,_,_,_,_,_,_,_,_,_,_,_,_,_,_,_,_,_,_,_,_,_,_,_,_,_,_,_,_,_,_,_,_,_,_,_,_,_,_,_,_,_,_,_,_,_,_,_,_,_,_,_,_,_,_,_,_,_,_,_,_,_,_,_,_,_,_,_,_,_,_,_,_,_,_,_,_,_,_,_,_,_,_,_,_,_,_,_,_,_,_]) rfl ?_
        refine l_val s21 (y_as rfl (ev_of rfl)) rfl rfl (l' := _) rfl ?_
        refine l_val s21 (y_as rfl (ev_of rfl)) rfl rfl (l' := _) rfl ?_
        refine l_end ?_
        refine x_thenN ?_
        refine c_seq ?_
        refine c_region ?_
        refine l_val s21 (y_load_blk rfl Ty.some25 Ty.agg25 Ty.size25 (ev_of rfl) (by repeat first | exact ent_blk | refine Ent.there ?_) rfl) rfl rfl (l' := [_,_,_,_,_,_,_,_,_,_,_,_,_,_,_,_,_,_,_,_,_,_,_,_,_,_,_,_,_,_,_,_,_,_,_,_,_,_,_,_,_,_,_,_,_,_,_,_,_,_,_,_,_,_,_,_,_,_,_,_,_,_,_,_,_,_,_,_,_,_,_,_,_,_,_,_,_,_,_,_,_,_,_,_,_,_,_,_,_,_,_,_,_,_,_,_,_,_,_,_,_,_,_,_,_,_,_,_,_,_,_,_,_,_,_,_,_,_,_,_,_,_,_,_,_,_,_,_,_,_,_,_,_,_,_,_,_,_,_,_,_,_,_,_,_,_,_,_,_,_,_,_,_,_,_,_,_,_,_,_,_,_,_,_,_,_]) rfl ?_
        refine l_val s21 (y_mv rfl (ev_of rfl)) rfl rfl (l' := _) rfl ?_
        refine l_callL rfl rfl rfl Fn.call55 (vs := [_, _]) rfl (refTo_c s21 (by repeat first | assumption | with_reducible exact ent_blk | exact Ent.here arr_reads | exact Ent.here one_I64 | exact Ent.here one_Cell | exact Ent.here one_Bool | exact Ent.here one_Rect | refine Ent.there ?_) (by omega) (by omega) hl) ?_
        rintro u3 w24 ⟨aw, hwl, hw, s23⟩
        clear s21
        refine nlL (l' := _) rfl ?_
        obtain rfl := want_same hA hwl hw
        refine l_val s23 (y_as rfl (ev_of rfl)) rfl rfl (l' := [_,_,_,_,_,_,_,_,_,_,_,_,_,_,_,_,_,_,_,_,_,_,_,_,_,_,_,_,_,_,_,_,_,_,_,_,_,_,_,_,_,_,_,_,_,_,_,_,_,_,_,_,_,_,_,_,_,_,_,_,_,_,_,_,_,_,_,_,_,_,_,_,_,_,_,_,_,_,_,_,_,_,_,_,_,_,_,_,_,_,_,_,_,_,_,_,_,_,_,_,_,_,_,_,_,_,_,_,_,_,_,_,_,_,_,_,_,_,_,_,_,_,_,_,_,_,_,_,_,_,_,_,_,_,_,_,_,_,_,_,_,_,_,_,_,_,_,_,_,_,_,_,_,_,_,_,_,_,_,_,_,_,_,_,_,_]) rfl ?_
        refine l_end ?_
        refine x_thenN ?_
        refine c_seq ?_
        refine c_region ?_
        refine l_bs s23 rfl rfl rfl Ty.elem35 Ty.size46 Ty.zero46 (zs := []) rfl (vs := []) rfl (ps := []) rfl (by intro q hq; simp only [List.zip_cons_cons, List.zip_nil_right, List.zip_nil_left, List.mem_cons, List.not_mem_nil, or_false] at hq <;> cases hq) (cells := []) rfl (by decide) (fun b27 w26 s25 => ?_)
        clear s23
        refine nlL (l' := _) rfl ?_
        refine l_val s25 (y_as rfl (ev_of rfl)) rfl rfl (l' := _) rfl ?_
        refine l_end ?_
        refine x_thenN ?_
        refine c_seq ?_
        refine c_region ?_
        refine l_val s25 (y_as rfl (ev_of rfl)) rfl rfl (l' := [_,_,_,_,_,_,_,_,_,_,_,_,_,_,_,_,_,_,_,_,_,_,_,_,_,_,_,_,_,_,_,_,_,_,_,_,_,_,_,_,_,_,_,_,_,_,_,_,_,_,_,_,_,_,_,_,_,_,_,_,_,_,_,_,_,_,_,_,_,_,_,_,_,_,_,_,_,_,_,_,_,_,_,_,_,_,_,_,_,_,_,_,_,_,_,_,_,_,_,_,_,_,_,_,_,_,_,_,_,_,_,_,_,_,_,_,_,_,_,_,_,_,_,_,_,_,_,_,_,_,_,_,_,_,_,_,_,_,_,_,_,_,_,_,_,_,_,_,_,_,_,_,_,_,_,_,_,_,_,_,_,_,_,_,_,_]) rfl ?_
        refine l_end ?_
        refine x_thenN ?_
        refine c_seq ?_
        refine c_seq ?_
        refine c_region ?_
        refine l_val s25 (y_as rfl (ev_of rfl)) rfl rfl (l' := _) rfl ?_
        refine l_end ?_
        refine x_thenN ?_
        refine c_block ?_
        replace s25 := s25.imp (blk_arr (c := CellT) (n := 0) (xs := []) rfl rfl)
        change SL _ _ (Arr CellT 46 _ (selC W (fun k => decide (0 ≤ a1.getD k 0 ∧ a1.getD k 0 ≤ n)) 0) :: _) at s25
        refine c_loop [false, false, false, false, false, false, false, false, false, false, false, false, false, false, false, false, false, false, false, false, false, false, false, true, true, true, false, false, false, false, false, false, false, false, false, false, false, false, false, false, false, false, false, false, false, false, false, false, false, false, false, false, false, false, false, false, false, false, false, false, false, false, false, false, false, false, false, false, false, false, false, true, true, true, true, true, true, true, true, true, true, true, true, true, true, true, true, true, true, true, true, true, true, true, true, true, true, true, true, true, true, true, true, true, true, true, true, true, true, true, false, false, false, false, false, false, false, false, false, false, false, false, false, false, false, false, false, false, false, false, false, false, false, false, false, false, false, false, false, false, false, false, false, false, false, false, false, false, false, false, false, false, false, false, false, false, false, false, false, false, false, false, false, false, false, false] (fun mu ds w => ∃ (i at1 : Nat) (z : Value) (dd1 : List Value), ds = [(z), (.int .i64 (at1 : Int)), (.int .i64 (i : Int)), nthD dd1 0, nthD dd1 1, nthD dd1 2, nthD dd1 3, nthD dd1 4, nthD dd1 5, nthD dd1 6, nthD dd1 7, nthD dd1 8, nthD dd1 9, nthD dd1 10, nthD dd1 11, nthD dd1 12, nthD dd1 13, nthD dd1 14, nthD dd1 15, nthD dd1 16, nthD dd1 17, nthD dd1 18, nthD dd1 19, nthD dd1 20, nthD dd1 21, nthD dd1 22, nthD dd1 23, nthD dd1 24, nthD dd1 25, nthD dd1 26, nthD dd1 27, nthD dd1 28, nthD dd1 29, nthD dd1 30, nthD dd1 31, nthD dd1 32, nthD dd1 33, nthD dd1 34, nthD dd1 35, nthD dd1 36, nthD dd1 37, nthD dd1 38] ∧ mu = v.length - i ∧ SL e w (Arr CellT 46 z (selC W (fun k => decide (0 ≤ a1.getD k 0 ∧ a1.getD k 0 ≤ n)) i) :: Arr I64 2 u3 a1 :: Arr CellT 46 u2 (selC W (fun k => decide (0 ≤ a1.getD k 0 ∧ a1.getD k 0 ≤ n)) v.length) :: Blk b20 #[.int .i64 fX, .int .i64 fY] 46 :: Arr I64 2 u1 a1 :: L) ∧ (i ≤ v.length ∧ at1 < max i 1 ∧ (∀ j, j < i → a1.getD j 0 ≤ a1.getD at1 0) ∧ ∀ j, j < at1 → a1.getD j 0 < a1.getD at1 0)) (ds := [_, _, _, _, _, _, _, _, _, _, _, _, _, _, _, _, _, _, _, _, _, _, _, _, _, _, _, _, _, _, _, _, _, _, _, _, _, _, _, _, _, _]) rfl ⟨0, 0, _, [_, _, _, _, _, _, _, _, _, _, _, _, _, _, _, _, _, _, _, _, _, _, _, _, _, _, _, _, _, _, _, _, _, _, _, _, _, _, _], rfl, rfl, ?_, ?_⟩ ?_
        · first | exact s25 | exact s25.sub (by repeat first | with_reducible exact Sub.refl _ | exact Sub.nil _ | refine Sub.take (by repeat first | with_reducible exact Take.here _ _ | apply Take.there) ?_ | refine Sub.skip _ ?_)
        · exact ⟨by omega, by omega, fun j h => by omega, fun j h => by omega⟩
        · clear s25
          rintro n30 ds31 w29 ⟨i, at1, z, dd1, rfl, rfl, s28, hI⟩
          refine nlC (l' := [_,_,_,_,_,_,_,_,_,_,_,_,_,_,_,_,_,_,_,_,_,_,_,_,_,_,_,_,_,_,_,_,_,_,_,_,_,_,_,_,_,_,_,_,_,_,_,_,_,_,_,_,_,_,_,_,_,_,_,_,_,_,_,_,_,_,_,_,_,_,_,_,_,_,_,_,_,_,_,_,_,_,_,_,_,_,_,_,_,_,_,_,_,_,_,_,_,_,_,_,_,_,_,_,_,_,_,_,_,_,_,_,_,_,_,_,_,_,_,_,_,_,_,_,_,_,_,_,_,_,_,_,_,_,_,_,_,_,_,_,_,_,_,_,_,_,_,_,_,_,_,_,_,_,_,_,_,_,_,_,_,_,_,_,_,_]) rfl ?_
          refine c_seq ?_
          refine c_seq ?_
          refine c_region ?_
          refine l_val s28 (y_mv rfl (ev_of rfl)) rfl rfl (l' := [_,_,_,_,_,_,_,_,_,_,_,_,_,_,_,_,_,_,_,_,_,_,_,_,_,_,_,_,_,_,_,_,_,_,_,_,_,_,_,_,_,_,_,_,_,_,_,_,_,_,_,_,_,_,_,_,_,_,_,_,_,_,_,_,_,_,_,_,_,_,_,_,_,_,_,_,_,_,_,_,_,_,_,_,_,_,_,_,_,_,_,_,_,_,_,_,_,_,_,_,_,_,_,_,_,_,_,_,_,_,_,_,_,_,_,_,_,_,_,_,_,_,_,_,_,_,_,_,_,_,_,_,_,_,_,_,_,_,_,_,_,_,_,_,_,_,_,_,_,_,_,_,_,_,_,_,_,_,_,_,_,_,_,_,_,_]) rfl ?_
          refine l_val s28 (y_mv rfl (ev_of rfl)) rfl rfl (l' := _) rfl ?_
          refine l_val s28 (y_len rfl rfl Ty.elem22 (ev_of rfl) (by repeat first | assumption | with_reducible exact ent_blk | exact Ent.here arr_reads | exact Ent.here one_I64 | exact Ent.here one_Cell | exact Ent.here one_Bool | exact Ent.here one_Rect | refine Ent.there ?_)) rfl rfl (l' := _) rfl ?_
          refine l_val s28 (y_lss rfl (ev_of rfl) (ev_of rfl)) rfl rfl (l' := [_,_,_,_,_,_,_,_,_,_,_,_,_,_,_,_,_,_,_,_,_,_,_,_,_,_,_,_,_,_,_,_,_,_,_,_,_,_,_,_,_,_,_,_,_,_,_,_,_,_,_,_,_,_,_,_,_,_,_,_,_,_,_,_,_,_,_,_,_,_,_,_,_,_,_,_,_,_,_,_,_,_,_,_,_,_,_,_,_,_,_,_,_,_,_,_,_,_,_,_,_,_,_,_,_,_,_,_,_,_,_,_,_,_,_,_,_,_,_,_,_,_,_,_,_,_,_,_,_,_,_,_,_,_,_,_,_,_,_,_,_,_,_,_,_,_,_,_,_,_,_,_,_,_,_,_,_,_,_,_,_,_,_,_,_,_]) rfl ?_
          refine l_end ?_
          refine x_thenN ?_
          refine c_if rfl (fun hc3 => ?_) (fun hc3 => ?_)
          · (try simp only [decide_eq_true_eq, decide_eq_false_iff_not, Bool.not_eq_true', Bool.not_eq_false'] at hc3)
            refine c_skip ?_
            refine x_thenN ?_
            refine c_seq ?_
            refine c_block ?_
            refine c_seq ?_
            refine c_seq ?_
            refine c_region ?_
            refine l_val s28 (y_mv rfl (ev_of rfl)) rfl rfl (l' := _) rfl ?_
            refine l_val s28 (y_mv rfl (ev_of rfl)) rfl rfl (l' := _) rfl ?_
            refine l_val s28 (y_idx rfl Ty.elem22 Ty.size2 (ev_of rfl) (ev_of rfl) (by repeat first | assumption | with_reducible exact ent_blk | exact Ent.here arr_reads | exact Ent.here one_I64 | exact Ent.here one_Cell | exact Ent.here one_Bool | exact Ent.here one_Rect | refine Ent.there ?_) (by first | rfl | exact (Int.toNat_of_nonneg (by omega)).symm) (by omega)) rfl rfl (l' := [_,_,_,_,_,_,_,_,_,_,_,_,_,_,_,_,_,_,_,_,_,_,_,_,_,_,_,_,_,_,_,_,_,_,_,_,_,_,_,_,_,_,_,_,_,_,_,_,_,_,_,_,_,_,_,_,_,_,_,_,_,_,_,_,_,_,_,_,_,_,_,_,_,_,_,_,_,_,_,_,_,_,_,_,_,_,_,_,_,_,_,_,_,_,_,_,_,_,_,_,_,_,_,_,_,_,_,_,_,_,_,_,_,_,_,_,_,_,_,_,_,_,_,_,_,_,_,_,_,_,_,_,_,_,_,_,_,_,_,_,_,_,_,_,_,_,_,_,_,_,_,_,_,_,_,_,_,_,_,_,_,_,_,_,_,_]) rfl ?_
            refine l_val s28 (y_ldI rfl Ty.some2 Ty.agg2 (ev_of rfl) (by repeat first | assumption | with_reducible exact ent_blk | exact Ent.here arr_reads | exact Ent.here one_I64 | exact Ent.here one_Cell | exact Ent.here one_Bool | exact Ent.here one_Rect | refine Ent.there ?_) (by omega)) rfl rfl (l' := _) rfl ?_
            refine l_val s28 (y_geq rfl (ev_of rfl) (ev_of rfl)) rfl rfl (l' := _) rfl ?_
            refine l_val s28 (y_mv rfl (ev_of rfl)) rfl rfl (l' := [_,_,_,_,_,_,_,_,_,_,_,_,_,_,_,_,_,_,_,_,_,_,_,_,_,_,_,_,_,_,_,_,_,_,_,_,_,_,_,_,_,_,_,_,_,_,_,_,_,_,_,_,_,_,_,_,_,_,_,_,_,_,_,_,_,_,_,_,_,_,_,_,_,_,_,_,_,_,_,_,_,_,_,_,_,_,_,_,_,_,_,_,_,_,_,_,_,_,_,_,_,_,_,_,_,_,_,_,_,_,_,_,_,_,_,_,_,_,_,_,_,_,_,_,_,_,_,_,_,_,_,_,_,_,_,_,_,_,_,_,_,_,_,_,_,_,_,_,_,_,_,_,_,_,_,_,_,_,_,_,_,_,_,_,_,_]) rfl ?_
            refine l_split (t := 82) rfl (fun hg32 => ?_) (fun hg32 => ?_)
            · (try simp only [decide_eq_true_eq, decide_eq_false_iff_not, Bool.not_eq_true', Bool.not_eq_false'] at hg32)
              refine nlL (l' := _) rfl ?_
              refine l_gval s28 (y_mv rfl (ev_of rfl)) (wanted_of rfl rfl rfl rfl rfl) rfl (l' := _) rfl ?_
              refine l_gval s28 (y_mv rfl (ev_of rfl)) (wanted_of rfl rfl rfl rfl rfl) rfl (l' := [_,_,_,_,_,_,_,_,_,_,_,_,_,_,_,_,_,_,_,_,_,_,_,_,_,_,_,_,_,_,_,_,_,_,_,_,_,_,_,_,_,_,_,_,_,_,_,_,_,_,_,_,_,_,_,_,_,_,_,_,_,_,_,_,_,_,_,_,_,_,_,_,_,_,_,_,_,_,_,_,_,_,_,_,_,_,_,_,_,_,_,_,_,_,_,_,_,_,_,_,_,_,_,_,_,_,_,_,_,_,_,_,_,_,_,_,_,_,_,_,_,_,_,_,_,_,_,_,_,_,_,_,_,_,_,_,_,_,_,_,_,_,_,_,_,_,_,_,_,_,_,_,_,_,_,_,_,_,_,_,_,_,_,_,_,_]) rfl ?_
              refine l_gval s28 (y_idx rfl Ty.elem22 Ty.size2 (ev_of rfl) (ev_of rfl) (by repeat first | assumption | with_reducible exact ent_blk | exact Ent.here arr_reads | exact Ent.here one_I64 | exact Ent.here one_Cell | exact Ent.here one_Bool | exact Ent.here one_Rect | refine Ent.there ?_) (by first | rfl | exact (Int.toNat_of_nonneg (by omega)).symm) (by omega)) (wanted_of rfl rfl rfl rfl rfl) rfl (l' := _) rfl ?_
              refine l_gval s28 (y_ldI rfl Ty.some2 Ty.agg2 (ev_of rfl) (by repeat first | assumption | with_reducible exact ent_blk | exact Ent.here arr_reads | exact Ent.here one_I64 | exact Ent.here one_Cell | exact Ent.here one_Bool | exact Ent.here one_Rect | refine Ent.there ?_) (by omega)) (wanted_of rfl rfl rfl rfl rfl) rfl (l' := _) rfl ?_
              refine l_gval s28 (y_mv rfl (ev_of rfl)) (wanted_of rfl rfl rfl rfl rfl) rfl (l' := [_,_,_,_,_,_,_,_,_,_,_,_,_,_,_,_,_,_,_,_,_,_,_,_,_,_,_,_,_,_,_,_,_,_,_,_,_,_,_,_,_,_,_,_,_,_,_,_,_,_,_,_,_,_,_,_,_,_,_,_,_,_,_,_,_,_,_,_,_,_,_,_,_,_,_,_,_,_,_,_,_,_,_,_,_,_,_,_,_,_,_,_,_,_,_,_,_,_,_,_,_,_,_,_,_,_,_,_,_,_,_,_,_,_,_,_,_,_,_,_,_,_,_,_,_,_,_,_,_,_,_,_,_,_,_,_,_,_,_,_,_,_,_,_,_,_,_,_,_,_,_,_,_,_,_,_,_,_,_,_,_,_,_,_,_,_]) rfl ?_
              refine l_gval s28 (y_leq rfl (ev_of rfl) (ev_of rfl)) (wanted_of rfl rfl rfl rfl rfl) rfl (l' := _) rfl ?_
              refine l_val s28 (y_pick1 rfl (ev_of rfl) (ev_of rfl)) rfl rfl (l' := _) rfl ?_
              refine l_end ?_
              refine x_thenN ?_
              refine c_if rfl (fun hc4 => ?_) (fun hc4 => ?_)
              · (try simp only [decide_eq_true_eq, decide_eq_false_iff_not, Bool.not_eq_true', Bool.not_eq_false'] at hc4)
                have hp : (fun k => decide (0 ≤ a1.getD k 0 ∧ a1.getD k 0 ≤ n)) i = true := decide_eq_true (by omega)
                apply c_drawn [] [0, 1, 2, 3, 4, 5, 6, 7, 8] [9, 10] [] [_, _] [(_, vq _), (_, vq _), (_, vq _), (_, vq _), (_, vq _), (_, vq _), (_, vq _), (_, vq _), (_, vb _ _)] s28 Ty.follows (by kernel_rfl) (fun _ _ _ h => h.2) rfl rfl rfl (by decide) ?_
                show WP _ _ _ _ _
                refine p_end ?_
                refine d_val (y_mv rfl (ev_of rfl)) rfl rfl (l' := [_,_,_,_,_,_,_,_,_,_,_,_,_,_,_,_,_,_,_,_,_,_,_,_,_,_,_,_,_,_,_,_,_,_,_,_,_,_,_,_,_,_,_,_,_,_,_,_,_,_,_,_,_,_,_,_,_,_,_,_,_,_,_,_,_,_,_,_,_,_,_,_,_,_,_,_,_,_,_,_,_,_,_,_,_,_,_,_,_,_,_,_,_,_,_,_,_,_,_,_,_,_,_,_,_,_,_,_,_,_,_,_,_,_,_,_,_,_,_,_,_,_,_,_,_,_,_,_,_,_,_,_,_,_,_,_,_,_,_,_,_,_,_,_,_,_,_,_,_,_,_,_,_,_,_,_,_,_,_,_,_,_,_,_,_,_]) rfl ?_
                refine d_val (y_mv rfl (ev_of rfl)) rfl rfl (l' := _) rfl ?_
                refine d_val (y_mv rfl (ev_of rfl)) rfl rfl (l' := _) rfl ?_
                refine d_val (y_rem rfl (ev_of rfl) (ev_of rfl) (by omega) (by omega)) rfl rfl (l' := [_,_,_,_,_,_,_,_,_,_,_,_,_,_,_,_,_,_,_,_,_,_,_,_,_,_,_,_,_,_,_,_,_,_,_,_,_,_,_,_,_,_,_,_,_,_,_,_,_,_,_,_,_,_,_,_,_,_,_,_,_,_,_,_,_,_,_,_,_,_,_,_,_,_,_,_,_,_,_,_,_,_,_,_,_,_,_,_,_,_,_,_,_,_,_,_,_,_,_,_,_,_,_,_,_,_,_,_,_,_,_,_,_,_,_,_,_,_,_,_,_,_,_,_,_,_,_,_,_,_,_,_,_,_,_,_,_,_,_,_,_,_,_,_,_,_,_,_,_,_,_,_,_,_,_,_,_,_,_,_,_,_,_,_,_,_]) rfl ?_
                refine d_val (y_mv rfl (ev_of rfl)) rfl rfl (l' := _) rfl ?_
                refine d_val (y_mv rfl (ev_of rfl)) rfl rfl (l' := _) rfl ?_
                refine d_val (y_quo rfl (ev_of rfl) (ev_of rfl) (by omega) (by omega) (by omega)) rfl rfl (l' := [_,_,_,_,_,_,_,_,_,_,_,_,_,_,_,_,_,_,_,_,_,_,_,_,_,_,_,_,_,_,_,_,_,_,_,_,_,_,_,_,_,_,_,_,_,_,_,_,_,_,_,_,_,_,_,_,_,_,_,_,_,_,_,_,_,_,_,_,_,_,_,_,_,_,_,_,_,_,_,_,_,_,_,_,_,_,_,_,_,_,_,_,_,_,_,_,_,_,_,_,_,_,_,_,_,_,_,_,_,_,_,_,_,_,_,_,_,_,_,_,_,_,_,_,_,_,_,_,_,_,_,_,_,_,_,_,_,_,_,_,_,_,_,_,_,_,_,_,_,_,_,_,_,_,_,_,_,_,_,_,_,_,_,_,_,_]) rfl ?_
                refine d_val (y_bld (zs := [_, _]) (vs := [(0, _), (1, _)]) (ps := [(0, [_]), (1, [_])]) (v := .agg #[_, _]) rfl Ty.zero46 rfl (fs_of Ty.fs46) rfl rfl (by intro q hq; simp only [List.zip_cons_cons, List.zip_nil_right, List.zip_nil_left, List.mem_cons, List.not_mem_nil, or_false] at hq; rcases hq with rfl | rfl <;> exact ⟨by kernel_rfl, by first | rfl | (simp only [cells_one (arr_one (by repeat first | assumption | with_reducible exact ent_blk | exact Ent.here arr_reads | exact Ent.here one_I64 | exact Ent.here one_Cell | exact Ent.here one_Bool | exact Ent.here one_Rect | refine Ent.there ?_) s28)]; first | done | rfl), by simp⟩) rfl ⟨_, rfl⟩) rfl rfl (l' := _) rfl ?_
                refine d_bs rfl rfl rfl Ty.elem35 Ty.size46 Ty.zero46 (zs := [_, _]) rfl (vs := [(0, _)]) rfl (ps := [(0, [_, _])]) rfl (by intro q hq; simp only [List.zip_cons_cons, List.zip_nil_right, List.zip_nil_left, List.mem_cons, List.not_mem_nil, or_false] at hq; rcases hq with rfl <;> exact ⟨rfl, rfl, by first | rfl | (simp only [cells_one (arr_one (by repeat first | assumption | with_reducible exact ent_blk | exact Ent.here arr_reads | exact Ent.here one_I64 | exact Ent.here one_Cell | exact Ent.here one_Bool | exact Ent.here one_Rect | refine Ent.there ?_) s28)]; first | done | rfl), by simp⟩) (cells := [_, _]) rfl (by decide) (fun b33 => ?_)
                refine nlD (l' := _) rfl ?_
                refine d_end (fun w35 s34 => ?_)
                clear s28
                simp only [List.append_nil, List.cons_append, List.nil_append] at s34
                refine l_append1 s34 (by repeat first | exact Take.here (Blk _ _ _) _ | apply Take.there) (by repeat first | with_reducible exact Take.here _ _ | apply Take.there) rfl rfl rfl Ty.elem35 Ty.size46 Ty.bytes46 Ty.zero46 rfl (ev_of rfl) (ev_of rfl) one_Cell (by have := selC_le W (fun k => decide (0 ≤ a1.getD k 0 ∧ a1.getD k 0 ≤ n)) i; simp only [List.length_cons, List.length_nil]; omega) (by decide) (fun v38 w37 s36 => ?_)
                clear s34
                refine nlL (l' := [_,_,_,_,_,_,_,_,_,_,_,_,_,_,_,_,_,_,_,_,_,_,_,_,_,_,_,_,_,_,_,_,_,_,_,_,_,_,_,_,_,_,_,_,_,_,_,_,_,_,_,_,_,_,_,_,_,_,_,_,_,_,_,_,_,_,_,_,_,_,_,_,_,_,_,_,_,_,_,_,_,_,_,_,_,_,_,_,_,_,_,_,_,_,_,_,_,_,_,_,_,_,_,_,_,_,_,_,_,_,_,_,_,_,_,_,_,_,_,_,_,_,_,_,_,_,_,_,_,_,_,_,_,_,_,_,_,_,_,_,_,_,_,_,_,_,_,_,_,_,_,_,_,_,_,_,_,_,_,_,_,_,_,_,_,_]) rfl ?_
                refine l_val s36 (y_as rfl (ev_of rfl)) rfl rfl (l' := _) rfl ?_
                refine l_end ?_
                refine x_thenN ?_
                refine c_seq ?_
                apply c_drawn [] [0, 1, 2, 3, 4, 5, 6, 7, 8] [] [] [] [(_, vq _), (_, vq _), (_, vq _), (_, vq _), (_, vq _), (_, vq _), (_, vq _), (_, vq _), (_, vq _)] s36 Ty.follows (by kernel_rfl) (fun _ _ _ h => h.2) rfl rfl rfl (by decide) ?_
                show WP _ _ _ _ _
                refine p_end ?_
                refine d_val (y_mv rfl (ev_of rfl)) rfl rfl (l' := _) rfl ?_
                refine d_val (y_mv rfl (ev_of rfl)) rfl rfl (l' := [_,_,_,_,_,_,_,_,_,_,_,_,_,_,_,_,_,_,_,_,_,_,_,_,_,_,_,_,_,_,_,_,_,_,_,_,_,_,_,_,_,_,_,_,_,_,_,_,_,_,_,_,_,_,_,_,_,_,_,_,_,_,_,_,_,_,_,_,_,_,_,_,_,_,_,_,_,_,_,_,_,_,_,_,_,_,_,_,_,_,_,_,_,_,_,_,_,_,_,_,_,_,_,_,_,_,_,_,_,_,_,_,_,_,_,_,_,_,_,_,_,_,_,_,_,_,_,_,_,_,_,_,_,_,_,_,_,_,_,_,_,_,_,_,_,_,_,_,_,_,_,_,_,_,_,_,_,_,_,_,_,_,_,_,_,_]) rfl ?_
                refine d_val (y_idx rfl Ty.elem22 Ty.size2 (ev_of rfl) (ev_of rfl) (by repeat first | assumption | with_reducible exact ent_blk | exact Ent.here arr_reads | exact Ent.here one_I64 | exact Ent.here one_Cell | exact Ent.here one_Bool | exact Ent.here one_Rect | refine Ent.there ?_) (by first | rfl | exact (Int.toNat_of_nonneg (by omega)).symm) (by omega)) rfl rfl (l' := _) rfl ?_
                refine d_val (y_ldI rfl Ty.some2 Ty.agg2 (ev_of rfl) (by repeat first | assumption | with_reducible exact ent_blk | exact Ent.here arr_reads | exact Ent.here one_I64 | exact Ent.here one_Cell | exact Ent.here one_Bool | exact Ent.here one_Rect | refine Ent.there ?_) (by omega)) rfl rfl (l' := _) rfl ?_
                refine d_val (y_mv rfl (ev_of rfl)) rfl rfl (l' := [_,_,_,_,_,_,_,_,_,_,_,_,_,_,_,_,_,_,_,_,_,_,_,_,_,_,_,_,_,_,_,_,_,_,_,_,_,_,_,_,_,_,_,_,_,_,_,_,_,_,_,_,_,_,_,_,_,_,_,_,_,_,_,_,_,_,_,_,_,_,_,_,_,_,_,_,_,_,_,_,_,_,_,_,_,_,_,_,_,_,_,_,_,_,_,_,_,_,_,_,_,_,_,_,_,_,_,_,_,_,_,_,_,_,_,_,_,_,_,_,_,_,_,_,_,_,_,_,_,_,_,_,_,_,_,_,_,_,_,_,_,_,_,_,_,_,_,_,_,_,_,_,_,_,_,_,_,_,_,_,_,_,_,_,_,_]) rfl ?_
                refine d_val (y_mv rfl (ev_of rfl)) rfl rfl (l' := _) rfl ?_
                refine d_val (y_idx rfl Ty.elem22 Ty.size2 (ev_of rfl) (ev_of rfl) (by repeat first | assumption | with_reducible exact ent_blk | exact Ent.here arr_reads | exact Ent.here one_I64 | exact Ent.here one_Cell | exact Ent.here one_Bool | exact Ent.here one_Rect | refine Ent.there ?_) (by first | rfl | exact (Int.toNat_of_nonneg (by omega)).symm) (by omega)) rfl rfl (l' := _) rfl ?_
                refine d_val (y_ldI rfl Ty.some2 Ty.agg2 (ev_of rfl) (by repeat first | assumption | with_reducible exact ent_blk | exact Ent.here arr_reads | exact Ent.here one_I64 | exact Ent.here one_Cell | exact Ent.here one_Bool | exact Ent.here one_Rect | refine Ent.there ?_) (by omega)) rfl rfl (l' := [_,_,_,_,_,_,_,_,_,_,_,_,_,_,_,_,_,_,_,_,_,_,_,_,_,_,_,_,_,_,_,_,_,_,_,_,_,_,_,_,_,_,_,_,_,_,_,_,_,_,_,_,_,_,_,_,_,_,_,_,_,_,_,_,_,_,_,_,_,_,_,_,_,_,_,_,_,_,_,_,_,_,_,_,_,_,_,_,_,_,_,_,_,_,_,_,_,_,_,_,_,_,_,_,_,_,_,_,_,_,_,_,_,_,_,_,_,_,_,_,_,_,_,_,_,_,_,_,_,_,_,_,_,_,_,_,_,_,_,_,_,_,_,_,_,_,_,_,_,_,_,_,_,_,_,_,_,_,_,_,_,_,_,_,_,_]) rfl ?_
                refine d_val (y_gtr rfl (ev_of rfl) (ev_of rfl)) rfl rfl (l' := _) rfl ?_
                refine d_end (fun w40 s39 => ?_)
                clear s36
                simp only [List.append_nil, List.cons_append, List.nil_append] at s39
                refine l_end ?_
                refine x_thenN ?_
                refine c_if rfl (fun hc5 => ?_) (fun hc5 => ?_)
                · (try simp only [decide_eq_true_eq, decide_eq_false_iff_not, Bool.not_eq_true', Bool.not_eq_false'] at hc5)
                  have hat : True := trivial
                  refine c_region ?_
                  refine l_val s39 (y_mv rfl (ev_of rfl)) rfl rfl (l' := _) rfl ?_
                  refine l_val s39 (y_as rfl (ev_of rfl)) rfl rfl (l' := [_,_,_,_,_,_,_,_,_,_,_,_,_,_,_,_,_,_,_,_,_,_,_,_,_,_,_,_,_,_,_,_,_,_,_,_,_,_,_,_,_,_,_,_,_,_,_,_,_,_,_,_,_,_,_,_,_,_,_,_,_,_,_,_,_,_,_,_,_,_,_,_,_,_,_,_,_,_,_,_,_,_,_,_,_,_,_,_,_,_,_,_,_,_,_,_,_,_,_,_,_,_,_,_,_,_,_,_,_,_,_,_,_,_,_,_,_,_,_,_,_,_,_,_,_,_,_,_,_,_,_,_,_,_,_,_,_,_,_,_,_,_,_,_,_,_,_,_,_,_,_,_,_,_,_,_,_,_,_,_,_,_,_,_,_,_]) rfl ?_
                  refine l_end ?_
                  refine x_blockN ?_
                  refine x_thenN ?_
                  refine c_region ?_
                  refine l_val s39 (y_mv rfl (ev_of rfl)) rfl rfl (l' := _) rfl ?_
                  refine l_val s39 (y_add rfl (ev_of rfl) (ev_of rfl) (by omega) (by omega)) rfl rfl (l' := _) rfl ?_
                  refine l_val s39 (y_as rfl (ev_of rfl)) rfl rfl (l' := [_,_,_,_,_,_,_,_,_,_,_,_,_,_,_,_,_,_,_,_,_,_,_,_,_,_,_,_,_,_,_,_,_,_,_,_,_,_,_,_,_,_,_,_,_,_,_,_,_,_,_,_,_,_,_,_,_,_,_,_,_,_,_,_,_,_,_,_,_,_,_,_,_,_,_,_,_,_,_,_,_,_,_,_,_,_,_,_,_,_,_,_,_,_,_,_,_,_,_,_,_,_,_,_,_,_,_,_,_,_,_,_,_,_,_,_,_,_,_,_,_,_,_,_,_,_,_,_,_,_,_,_,_,_,_,_,_,_,_,_,_,_,_,_,_,_,_,_,_,_,_,_,_,_,_,_,_,_,_,_,_,_,_,_,_,_]) rfl ?_
                  refine l_end ?_
                  refine x_thenN ?_
                  first | (change SL _ _ (Arr CellT 46 _ (selC W (fun k => decide (0 ≤ a1.getD k 0 ∧ a1.getD k 0 ≤ n)) i ++ [cellOf W i]) :: _) at s39; rw [show selC W (fun k => decide (0 ≤ a1.getD k 0 ∧ a1.getD k 0 ≤ n)) i ++ [cellOf W i] = selC W (fun k => decide (0 ≤ a1.getD k 0 ∧ a1.getD k 0 ≤ n)) (i + 1) from by rw [selC_succ, if_pos hp]] at s39) | rw [show selC W (fun k => decide (0 ≤ a1.getD k 0 ∧ a1.getD k 0 ≤ n)) i = selC W (fun k => decide (0 ≤ a1.getD k 0 ∧ a1.getD k 0 ≤ n)) (i + 1) from by rw [selC_succ, if_neg hp]] at s39
                  refine ⟨_, [_, _, _, _, _, _, _, _, _, _, _, _, _, _, _, _, _, _, _, _, _, _, _, _, _, _, _, _, _, _, _, _, _, _, _, _, _, _, _, _, _, _], ?_, rfl, i + 1, i, _, [_, _, _, _, _, _, _, _, _, _, _, _, _, _, _, _, _, _, _, _, _, _, _, _, _, _, _, _, _, _, _, _, _, _, _, _, _, _, _], rfl, rfl, ?_, ?_⟩
                  · omega
                  · first | exact s39 | exact s39.sub (by repeat first | with_reducible exact Sub.refl _ | exact Sub.nil _ | refine Sub.take (by repeat first | with_reducible exact Take.here _ _ | apply Take.there) ?_ | refine Sub.skip _ ?_)
                  · first | exact ⟨by omega, by omega, fun j hj => (Nat.lt_or_ge j i).elim (fun h => hI.2.2.1 j h) (fun h => by have e : j = i := (by omega); rw [e]; omega), hI.2.2.2⟩ | exact ⟨by omega, by omega, fun j hj => (Nat.lt_or_ge j i).elim (fun h => by have := hI.2.2.1 j h; omega) (fun h => by have e : j = i := (by omega); rw [e]; omega), fun j hj => by have := hI.2.2.1 j hj; omega⟩
                · (try simp only [decide_eq_true_eq, decide_eq_false_iff_not, Bool.not_eq_true', Bool.not_eq_false'] at hc5)
                  refine c_skip ?_
                  refine x_blockN ?_
                  refine x_thenN ?_
                  refine c_region ?_
                  refine l_val s39 (y_mv rfl (ev_of rfl)) rfl rfl (l' := _) rfl ?_
                  refine l_val s39 (y_add rfl (ev_of rfl) (ev_of rfl) (by omega) (by omega)) rfl rfl (l' := _) rfl ?_
                  refine l_val s39 (y_as rfl (ev_of rfl)) rfl rfl (l' := [_,_,_,_,_,_,_,_,_,_,_,_,_,_,_,_,_,_,_,_,_,_,_,_,_,_,_,_,_,_,_,_,_,_,_,_,_,_,_,_,_,_,_,_,_,_,_,_,_,_,_,_,_,_,_,_,_,_,_,_,_,_,_,_,_,_,_,_,_,_,_,_,_,_,_,_,_,_,_,_,_,_,_,_,_,_,_,_,_,_,_,_,_,_,_,_,_,_,_,_,_,_,_,_,_,_,_,_,_,_,_,_,_,_,_,_,_,_,_,_,_,_,_,_,_,_,_,_,_,_,_,_,_,_,_,_,_,_,_,_,_,_,_,_,_,_,_,_,_,_,_,_,_,_,_,_,_,_,_,_,_,_,_,_,_,_]) rfl ?_
                  refine l_end ?_
                  refine x_thenN ?_
                  first | (change SL _ _ (Arr CellT 46 _ (selC W (fun k => decide (0 ≤ a1.getD k 0 ∧ a1.getD k 0 ≤ n)) i ++ [cellOf W i]) :: _) at s39; rw [show selC W (fun k => decide (0 ≤ a1.getD k 0 ∧ a1.getD k 0 ≤ n)) i ++ [cellOf W i] = selC W (fun k => decide (0 ≤ a1.getD k 0 ∧ a1.getD k 0 ≤ n)) (i + 1) from by rw [selC_succ, if_pos hp]] at s39) | rw [show selC W (fun k => decide (0 ≤ a1.getD k 0 ∧ a1.getD k 0 ≤ n)) i = selC W (fun k => decide (0 ≤ a1.getD k 0 ∧ a1.getD k 0 ≤ n)) (i + 1) from by rw [selC_succ, if_neg hp]] at s39
                  refine ⟨_, [_, _, _, _, _, _, _, _, _, _, _, _, _, _, _, _, _, _, _, _, _, _, _, _, _, _, _, _, _, _, _, _, _, _, _, _, _, _, _, _, _, _], ?_, rfl, i + 1, at1, _, [_, _, _, _, _, _, _, _, _, _, _, _, _, _, _, _, _, _, _, _, _, _, _, _, _, _, _, _, _, _, _, _, _, _, _, _, _, _, _], rfl, rfl, ?_, ?_⟩
                  · omega
                  · first | exact s39 | exact s39.sub (by repeat first | with_reducible exact Sub.refl _ | exact Sub.nil _ | refine Sub.take (by repeat first | with_reducible exact Take.here _ _ | apply Take.there) ?_ | refine Sub.skip _ ?_)
                  · first | exact ⟨by omega, by omega, fun j hj => (Nat.lt_or_ge j i).elim (fun h => hI.2.2.1 j h) (fun h => by have e : j = i := (by omega); rw [e]; omega), hI.2.2.2⟩ | exact ⟨by omega, by omega, fun j hj => (Nat.lt_or_ge j i).elim (fun h => by have := hI.2.2.1 j h; omega) (fun h => by have e : j = i := (by omega); rw [e]; omega), fun j hj => by have := hI.2.2.1 j hj; omega⟩
              · (try simp only [decide_eq_true_eq, decide_eq_false_iff_not, Bool.not_eq_true', Bool.not_eq_false'] at hc4)
                have hp : ¬ (fun k => decide (0 ≤ a1.getD k 0 ∧ a1.getD k 0 ≤ n)) i = true := fun h => by have := of_decide_eq_true h; omega
                refine c_skip ?_
                refine x_thenN ?_
                refine c_seq ?_
                apply c_drawn [] [0, 1, 2, 3, 4, 5, 6, 7, 8] [] [] [] [(_, vq _), (_, vq _), (_, vq _), (_, vq _), (_, vq _), (_, vq _), (_, vq _), (_, vq _), (_, vq _)] s28 Ty.follows (by kernel_rfl) (fun _ _ _ h => h.2) rfl rfl rfl (by decide) ?_
                show WP _ _ _ _ _
                refine p_end ?_
                refine d_val (y_mv rfl (ev_of rfl)) rfl rfl (l' := _) rfl ?_
                refine d_val (y_mv rfl (ev_of rfl)) rfl rfl (l' := _) rfl ?_
                refine d_val (y_idx rfl Ty.elem22 Ty.size2 (ev_of rfl) (ev_of rfl) (by repeat first | assumption | with_reducible exact ent_blk | exact Ent.here arr_reads | exact Ent.here one_I64 | exact Ent.here one_Cell | exact Ent.here one_Bool | exact Ent.here one_Rect | refine Ent.there ?_) (by first | rfl | exact (Int.toNat_of_nonneg (by omega)).symm) (by omega)) rfl rfl (l' := [_,_,_,_,_,_,_,_,_,_,_,_,_,_,_,_,_,_,_,_,_,_,_,_,_,_,_,_,_,_,_,_,_,_,_,_,_,_,_,_,_,_,_,_,_,_,_,_,_,_,_,_,_,_,_,_,_,_,_,_,_,_,_,_,_,_,_,_,_,_,_,_,_,_,_,_,_,_,_,_,_,_,_,_,_,_,_,_,_,_,_,_,_,_,_,_,_,_,_,_,_,_,_,_,_,_,_,_,_,_,_,_,_,_,_,_,_,_,_,_,_,_,_,_,_,_,_,_,_,_,_,_,_,_,_,_,_,_,_,_,_,_,_,_,_,_,_,_,_,_,_,_,_,_,_,_,_,_,_,_,_,_,_,_,_,_]) rfl ?_
                refine d_val (y_ldI rfl Ty.some2 Ty.agg2 (ev_of rfl) (by repeat first | assumption | with_reducible exact ent_blk | exact Ent.here arr_reads | exact Ent.here one_I64 | exact Ent.here one_Cell | exact Ent.here one_Bool | exact Ent.here one_Rect | refine Ent.there ?_) (by omega)) rfl rfl (l' := _) rfl ?_
                refine d_val (y_mv rfl (ev_of rfl)) rfl rfl (l' := _) rfl ?_
                refine d_val (y_mv rfl (ev_of rfl)) rfl rfl (l' := [_,_,_,_,_,_,_,_,_,_,_,_,_,_,_,_,_,_,_,_,_,_,_,_,_,_,_,_,_,_,_,_,_,_,_,_,_,_,_,_,_,_,_,_,_,_,_,_,_,_,_,_,_,_,_,_,_,_,_,_,_,_,_,_,_,_,_,_,_,_,_,_,_,_,_,_,_,_,_,_,_,_,_,_,_,_,_,_,_,_,_,_,_,_,_,_,_,_,_,_,_,_,_,_,_,_,_,_,_,_,_,_,_,_,_,_,_,_,_,_,_,_,_,_,_,_,_,_,_,_,_,_,_,_,_,_,_,_,_,_,_,_,_,_,_,_,_,_,_,_,_,_,_,_,_,_,_,_,_,_,_,_,_,_,_,_]) rfl ?_
                refine d_val (y_idx rfl Ty.elem22 Ty.size2 (ev_of rfl) (ev_of rfl) (by repeat first | assumption | with_reducible exact ent_blk | exact Ent.here arr_reads | exact Ent.here one_I64 | exact Ent.here one_Cell | exact Ent.here one_Bool | exact Ent.here one_Rect | refine Ent.there ?_) (by first | rfl | exact (Int.toNat_of_nonneg (by omega)).symm) (by omega)) rfl rfl (l' := _) rfl ?_
                refine d_val (y_ldI rfl Ty.some2 Ty.agg2 (ev_of rfl) (by repeat first | assumption | with_reducible exact ent_blk | exact Ent.here arr_reads | exact Ent.here one_I64 | exact Ent.here one_Cell | exact Ent.here one_Bool | exact Ent.here one_Rect | refine Ent.there ?_) (by omega)) rfl rfl (l' := _) rfl ?_
                refine d_val (y_gtr rfl (ev_of rfl) (ev_of rfl)) rfl rfl (l' := [_,_,_,_,_,_,_,_,_,_,_,_,_,_,_,_,_,_,_,_,_,_,_,_,_,_,_,_,_,_,_,_,_,_,_,_,_,_,_,_,_,_,_,_,_,_,_,_,_,_,_,_,_,_,_,_,_,_,_,_,_,_,_,_,_,_,_,_,_,_,_,_,_,_,_,_,_,_,_,_,_,_,_,_,_,_,_,_,_,_,_,_,_,_,_,_,_,_,_,_,_,_,_,_,_,_,_,_,_,_,_,_,_,_,_,_,_,_,_,_,_,_,_,_,_,_,_,_,_,_,_,_,_,_,_,_,_,_,_,_,_,_,_,_,_,_,_,_,_,_,_,_,_,_,_,_,_,_,_,_,_,_,_,_,_,_]) rfl ?_
                refine d_end (fun w42 s41 => ?_)
                clear s28
                simp only [List.append_nil, List.cons_append, List.nil_append] at s41
                refine l_end ?_
                refine x_thenN ?_
                refine c_if rfl (fun hc5 => ?_) (fun hc5 => ?_)
                · (try simp only [decide_eq_true_eq, decide_eq_false_iff_not, Bool.not_eq_true', Bool.not_eq_false'] at hc5)
                  have hat : True := trivial
                  refine c_region ?_
                  refine l_val s41 (y_mv rfl (ev_of rfl)) rfl rfl (l' := _) rfl ?_
                  refine l_val s41 (y_as rfl (ev_of rfl)) rfl rfl (l' := _) rfl ?_
                  refine l_end ?_
                  refine x_blockN ?_
                  refine x_thenN ?_
                  refine c_region ?_
                  refine l_val s41 (y_mv rfl (ev_of rfl)) rfl rfl (l' := [_,_,_,_,_,_,_,_,_,_,_,_,_,_,_,_,_,_,_,_,_,_,_,_,_,_,_,_,_,_,_,_,_,_,_,_,_,_,_,_,_,_,_,_,_,_,_,_,_,_,_,_,_,_,_,_,_,_,_,_,_,_,_,_,_,_,_,_,_,_,_,_,_,_,_,_,_,_,_,_,_,_,_,_,_,_,_,_,_,_,_,_,_,_,_,_,_,_,_,_,_,_,_,_,_,_,_,_,_,_,_,_,_,_,_,_,_,_,_,_,_,_,_,_,_,_,_,_,_,_,_,_,_,_,_,_,_,_,_,_,_,_,_,_,_,_,_,_,_,_,_,_,_,_,_,_,_,_,_,_,_,_,_,_,_,_]) rfl ?_
                  refine l_val s41 (y_add rfl (ev_of rfl) (ev_of rfl) (by omega) (by omega)) rfl rfl (l' := _) rfl ?_
                  refine l_val s41 (y_as rfl (ev_of rfl)) rfl rfl (l' := _) rfl ?_
                  refine l_end ?_
                  refine x_thenN ?_
                  first | (change SL _ _ (Arr CellT 46 _ (selC W (fun k => decide (0 ≤ a1.getD k 0 ∧ a1.getD k 0 ≤ n)) i ++ [cellOf W i]) :: _) at s41; rw [show selC W (fun k => decide (0 ≤ a1.getD k 0 ∧ a1.getD k 0 ≤ n)) i ++ [cellOf W i] = selC W (fun k => decide (0 ≤ a1.getD k 0 ∧ a1.getD k 0 ≤ n)) (i + 1) from by rw [selC_succ, if_pos hp]] at s41) | rw [show selC W (fun k => decide (0 ≤ a1.getD k 0 ∧ a1.getD k 0 ≤ n)) i = selC W (fun k => decide (0 ≤ a1.getD k 0 ∧ a1.getD k 0 ≤ n)) (i + 1) from by rw [selC_succ, if_neg hp]] at s41
                  refine ⟨_, [_, _, _, _, _, _, _, _, _, _, _, _, _, _, _, _, _, _, _, _, _, _, _, _, _, _, _, _, _, _, _, _, _, _, _, _, _, _, _, _, _, _], ?_, rfl, i + 1, i, _, [_, _, _, _, _, _, _, _, _, _, _, _, _, _, _, _, _, _, _, _, _, _, _, _, _, _, _, _, _, _, _, _, _, _, _, _, _, _, _], rfl, rfl, ?_, ?_⟩
                  · omega
                  · first | exact s41 | exact s41.sub (by repeat first | with_reducible exact Sub.refl _ | exact Sub.nil _ | refine Sub.take (by repeat first | with_reducible exact Take.here _ _ | apply Take.there) ?_ | refine Sub.skip _ ?_)
                  · first | exact ⟨by omega, by omega, fun j hj => (Nat.lt_or_ge j i).elim (fun h => hI.2.2.1 j h) (fun h => by have e : j = i := (by omega); rw [e]; omega), hI.2.2.2⟩ | exact ⟨by omega, by omega, fun j hj => (Nat.lt_or_ge j i).elim (fun h => by have := hI.2.2.1 j h; omega) (fun h => by have e : j = i := (by omega); rw [e]; omega), fun j hj => by have := hI.2.2.1 j hj; omega⟩
                · (try simp only [decide_eq_true_eq, decide_eq_false_iff_not, Bool.not_eq_true', Bool.not_eq_false'] at hc5)
                  refine c_skip ?_
                  refine x_blockN ?_
                  refine x_thenN ?_
                  refine c_region ?_
                  refine l_val s41 (y_mv rfl (ev_of rfl)) rfl rfl (l' := [_,_,_,_,_,_,_,_,_,_,_,_,_,_,_,_,_,_,_,_,_,_,_,_,_,_,_,_,_,_,_,_,_,_,_,_,_,_,_,_,_,_,_,_,_,_,_,_,_,_,_,_,_,_,_,_,_,_,_,_,_,_,_,_,_,_,_,_,_,_,_,_,_,_,_,_,_,_,_,_,_,_,_,_,_,_,_,_,_,_,_,_,_,_,_,_,_,_,_,_,_,_,_,_,_,_,_,_,_,_,_,_,_,_,_,_,_,_,_,_,_,_,_,_,_,_,_,_,_,_,_,_,_,_,_,_,_,_,_,_,_,_,_,_,_,_,_,_,_,_,_,_,_,_,_,_,_,_,_,_,_,_,_,_,_,_]) rfl ?_
                  refine l_val s41 (y_add rfl (ev_of rfl) (ev_of rfl) (by omega) (by omega)) rfl rfl (l' := _) rfl ?_
                  refine l_val s41 (y_as rfl (ev_of rfl)) rfl rfl (l' := _) rfl ?_
                  refine l_end ?_
                  refine x_thenN ?_
                  first | (change SL _ _ (Arr CellT 46 _ (selC W (fun k => decide (0 ≤ a1.getD k 0 ∧ a1.getD k 0 ≤ n)) i ++ [cellOf W i]) :: _) at s41; rw [show selC W (fun k => decide (0 ≤ a1.getD k 0 ∧ a1.getD k 0 ≤ n)) i ++ [cellOf W i] = selC W (fun k => decide (0 ≤ a1.getD k 0 ∧ a1.getD k 0 ≤ n)) (i + 1) from by rw [selC_succ, if_pos hp]] at s41) | rw [show selC W (fun k => decide (0 ≤ a1.getD k 0 ∧ a1.getD k 0 ≤ n)) i = selC W (fun k => decide (0 ≤ a1.getD k 0 ∧ a1.getD k 0 ≤ n)) (i + 1) from by rw [selC_succ, if_neg hp]] at s41
                  refine ⟨_, [_, _, _, _, _, _, _, _, _, _, _, _, _, _, _, _, _, _, _, _, _, _, _, _, _, _, _, _, _, _, _, _, _, _, _, _, _, _, _, _, _, _], ?_, rfl, i + 1, at1, _, [_, _, _, _, _, _, _, _, _, _, _, _, _, _, _, _, _, _, _, _, _, _, _, _, _, _, _, _, _, _, _, _, _, _, _, _, _, _, _], rfl, rfl, ?_, ?_⟩
                  · omega
                  · first | exact s41 | exact s41.sub (by repeat first | with_reducible exact Sub.refl _ | exact Sub.nil _ | refine Sub.take (by repeat first | with_reducible exact Take.here _ _ | apply Take.there) ?_ | refine Sub.skip _ ?_)
                  · first | exact ⟨by omega, by omega, fun j hj => (Nat.lt_or_ge j i).elim (fun h => hI.2.2.1 j h) (fun h => by have e : j = i := (by omega); rw [e]; omega), hI.2.2.2⟩ | exact ⟨by omega, by omega, fun j hj => (Nat.lt_or_ge j i).elim (fun h => by have := hI.2.2.1 j h; omega) (fun h => by have e : j = i := (by omega); rw [e]; omega), fun j hj => by have := hI.2.2.1 j hj; omega⟩
            · (try simp only [decide_eq_true_eq, decide_eq_false_iff_not, Bool.not_eq_true', Bool.not_eq_false'] at hg32)
              have hp : ¬ (fun k => decide (0 ≤ a1.getD k 0 ∧ a1.getD k 0 ≤ n)) i = true := fun h => by have := of_decide_eq_true h; omega
              refine nlL (l' := [_,_,_,_,_,_,_,_,_,_,_,_,_,_,_,_,_,_,_,_,_,_,_,_,_,_,_,_,_,_,_,_,_,_,_,_,_,_,_,_,_,_,_,_,_,_,_,_,_,_,_,_,_,_,_,_,_,_,_,_,_,_,_,_,_,_,_,_,_,_,_,_,_,_,_,_,_,_,_,_,_,_,_,_,_,_,_,_,_,_,_,_,_,_,_,_,_,_,_,_,_,_,_,_,_,_,_,_,_,_,_,_,_,_,_,_,_,_,_,_,_,_,_,_,_,_,_,_,_,_,_,_,_,_,_,_,_,_,_,_,_,_,_,_,_,_,_,_,_,_,_,_,_,_,_,_,_,_,_,_,_,_,_,_,_,_]) rfl ?_
              refine l_skip (wanted_of rfl rfl rfl rfl rfl) rfl (l' := _) rfl ?_
              refine l_skip (wanted_of rfl rfl rfl rfl rfl) rfl (l' := _) rfl ?_
              refine l_skip (wanted_of rfl rfl rfl rfl rfl) rfl (l' := [_,_,_,_,_,_,_,_,_,_,_,_,_,_,_,_,_,_,_,_,_,_,_,_,_,_,_,_,_,_,_,_,_,_,_,_,_,_,_,_,_,_,_,_,_,_,_,_,_,_,_,_,_,_,_,_,_,_,_,_,_,_,_,_,_,_,_,_,_,_,_,_,_,_,_,_,_,_,_,_,_,_,_,_,_,_,_,_,_,_,_,_,_,_,_,_,_,_,_,_,_,_,_,_,_,_,_,_,_,_,_,_,_,_,_,_,_,_,_,_,_,_,_,_,_,_,_,_,_,_,_,_,_,_,_,_,_,_,_,_,_,_,_,_,_,_,_,_,_,_,_,_,_,_,_,_,_,_,_,_,_,_,_,_,_,_]) rfl ?_
              refine l_skip (wanted_of rfl rfl rfl rfl rfl) rfl (l' := _) rfl ?_
              refine l_skip (wanted_of rfl rfl rfl rfl rfl) rfl (l' := _) rfl ?_
              refine l_skip (wanted_of rfl rfl rfl rfl rfl) rfl (l' := [_,_,_,_,_,_,_,_,_,_,_,_,_,_,_,_,_,_,_,_,_,_,_,_,_,_,_,_,_,_,_,_,_,_,_,_,_,_,_,_,_,_,_,_,_,_,_,_,_,_,_,_,_,_,_,_,_,_,_,_,_,_,_,_,_,_,_,_,_,_,_,_,_,_,_,_,_,_,_,_,_,_,_,_,_,_,_,_,_,_,_,_,_,_,_,_,_,_,_,_,_,_,_,_,_,_,_,_,_,_,_,_,_,_,_,_,_,_,_,_,_,_,_,_,_,_,_,_,_,_,_,_,_,_,_,_,_,_,_,_,_,_,_,_,_,_,_,_,_,_,_,_,_,_,_,_,_,_,_,_,_,_,_,_,_,_]) rfl ?_
              refine l_val s28 (y_pick0 rfl (ev_of rfl) (ev_of rfl)) rfl rfl (l' := _) rfl ?_
              refine l_end ?_
              refine x_thenN ?_
              refine c_condF rfl ?_
              refine c_skip ?_
              refine x_thenN ?_
              refine c_seq ?_
              apply c_drawn [] [0, 1, 2, 3, 4, 5, 6, 7, 8] [] [] [] [(_, vq _), (_, vq _), (_, vq _), (_, vq _), (_, vq _), (_, vq _), (_, vq _), (_, vq _), (_, vq _)] s28 Ty.follows (by kernel_rfl) (fun _ _ _ h => h.2) rfl rfl rfl (by decide) ?_
              show WP _ _ _ _ _
              refine p_end ?_
              refine d_val (y_mv rfl (ev_of rfl)) rfl rfl (l' := _) rfl ?_
              refine d_val (y_mv rfl (ev_of rfl)) rfl rfl (l' := [_,_,_,_,_,_,_,_,_,_,_,_,_,_,_,_,_,_,_,_,_,_,_,_,_,_,_,_,_,_,_,_,_,_,_,_,_,_,_,_,_,_,_,_,_,_,_,_,_,_,_,_,_,_,_,_,_,_,_,_,_,_,_,_,_,_,_,_,_,_,_,_,_,_,_,_,_,_,_,_,_,_,_,_,_,_,_,_,_,_,_,_,_,_,_,_,_,_,_,_,_,_,_,_,_,_,_,_,_,_,_,_,_,_,_,_,_,_,_,_,_,_,_,_,_,_,_,_,_,_,_,_,_,_,_,_,_,_,_,_,_,_,_,_,_,_,_,_,_,_,_,_,_,_,_,_,_,_,_,_,_,_,_,_,_,_]) rfl ?_
              refine d_val (y_idx rfl Ty.elem22 Ty.size2 (ev_of rfl) (ev_of rfl) (by repeat first | assumption | with_reducible exact ent_blk | exact Ent.here arr_reads | exact Ent.here one_I64 | exact Ent.here one_Cell | exact Ent.here one_Bool | exact Ent.here one_Rect | refine Ent.there ?_) (by first | rfl | exact (Int.toNat_of_nonneg (by omega)).symm) (by omega)) rfl rfl (l' := _) rfl ?_
              refine d_val (y_ldI rfl Ty.some2 Ty.agg2 (ev_of rfl) (by repeat first | assumption | with_reducible exact ent_blk | exact Ent.here arr_reads | exact Ent.here one_I64 | exact Ent.here one_Cell | exact Ent.here one_Bool | exact Ent.here one_Rect | refine Ent.there ?_) (by omega)) rfl rfl (l' := _) rfl ?_
              refine d_val (y_mv rfl (ev_of rfl)) rfl rfl (l' := [_,_,_,_,_,_,_,_,_,_,_,_,_,_,_,_,_,_,_,_,_,_,_,_,_,_,_,_,_,_,_,_,_,_,_,_,_,_,_,_,_,_,_,_,_,_,_,_,_,_,_,_,_,_,_,_,_,_,_,_,_,_,_,_,_,_,_,_,_,_,_,_,_,_,_,_,_,_,_,_,_,_,_,_,_,_,_,_,_,_,_,_,_,_,_,_,_,_,_,_,_,_,_,_,_,_,_,_,_,_,_,_,_,_,_,_,_,_,_,_,_,_,_,_,_,_,_,_,_,_,_,_,_,_,_,_,_,_,_,_,_,_,_,_,_,_,_,_,_,_,_,_,_,_,_,_,_,_,_,_,_,_,_,_,_,_]) rfl ?_
              refine d_val (y_mv rfl (ev_of rfl)) rfl rfl (l' := _) rfl ?_
              refine d_val (y_idx rfl Ty.elem22 Ty.size2 (ev_of rfl) (ev_of rfl) (by repeat first | assumption | with_reducible exact ent_blk | exact Ent.here arr_reads | exact Ent.here one_I64 | exact Ent.here one_Cell | exact Ent.here one_Bool | exact Ent.here one_Rect | refine Ent.there ?_) (by first | rfl | exact (Int.toNat_of_nonneg (by omega)).symm) (by omega)) rfl rfl (l' := _) rfl ?_
              refine d_val (y_ldI rfl Ty.some2 Ty.agg2 (ev_of rfl) (by repeat first | assumption | with_reducible exact ent_blk | exact Ent.here arr_reads | exact Ent.here one_I64 | exact Ent.here one_Cell | exact Ent.here one_Bool | exact Ent.here one_Rect | refine Ent.there ?_) (by omega)) rfl rfl (l' := [_,_,_,_,_,_,_,_,_,_,_,_,_,_,_,_,_,_,_,_,_,_,_,_,_,_,_,_,_,_,_,_,_,_,_,_,_,_,_,_,_,_,_,_,_,_,_,_,_,_,_,_,_,_,_,_,_,_,_,_,_,_,_,_,_,_,_,_,_,_,_,_,_,_,_,_,_,_,_,_,_,_,_,_,_,_,_,_,_,_,_,_,_,_,_,_,_,_,_,_,_,_,_,_,_,_,_,_,_,_,_,_,_,_,_,_,_,_,_,_,_,_,_,_,_,_,_,_,_,_,_,_,_,_,_,_,_,_,_,_,_,_,_,_,_,_,_,_,_,_,_,_,_,_,_,_,_,_,_,_,_,_,_,_,_,_]) rfl ?_
              refine d_val (y_gtr rfl (ev_of rfl) (ev_of rfl)) rfl rfl (l' := _) rfl ?_
              refine d_end (fun w44 s43 => ?_)
              clear s28
              simp only [List.append_nil, List.cons_append, List.nil_append] at s43
              refine l_end ?_
              refine x_thenN ?_
              refine c_if rfl (fun hc5 => ?_) (fun hc5 => ?_)
              · (try simp only [decide_eq_true_eq, decide_eq_false_iff_not, Bool.not_eq_true', Bool.not_eq_false'] at hc5)
                have hat : True := trivial
                refine c_region ?_
                refine l_val s43 (y_mv rfl (ev_of rfl)) rfl rfl (l' := _) rfl ?_
                refine l_val s43 (y_as rfl (ev_of rfl)) rfl rfl (l' := [_,_,_,_,_,_,_,_,_,_,_,_,_,_,_,_,_,_,_,_,_,_,_,_,_,_,_,_,_,_,_,_,_,_,_,_,_,_,_,_,_,_,_,_,_,_,_,_,_,_,_,_,_,_,_,_,_,_,_,_,_,_,_,_,_,_,_,_,_,_,_,_,_,_,_,_,_,_,_,_,_,_,_,_,_,_,_,_,_,_,_,_,_,_,_,_,_,_,_,_,_,_,_,_,_,_,_,_,_,_,_,_,_,_,_,_,_,_,_,_,_,_,_,_,_,_,_,_,_,_,_,_,_,_,_,_,_,_,_,_,_,_,_,_,_,_,_,_,_,_,_,_,_,_,_,_,_,_,_,_,_,_,_,_,_,_]) rfl ?_
                refine l_end ?_
                refine x_blockN ?_
                refine x_thenN ?_
                refine c_region ?_
                refine l_val s43 (y_mv rfl (ev_of rfl)) rfl rfl (l' := _) rfl ?_
                refine l_val s43 (y_add rfl (ev_of rfl) (ev_of rfl) (by omega) (by omega)) rfl rfl (l' := _) rfl ?_
                refine l_val s43 (y_as rfl (ev_of rfl)) rfl rfl (l' := [_,_,_,_,_,_,_,_,_,_,_,_,_,_,_,_,_,_,_,_,_,_,_,_,_,_,_,_,_,_,_,_,_,_,_,_,_,_,_,_,_,_,_,_,_,_,_,_,_,_,_,_,_,_,_,_,_,_,_,_,_,_,_,_,_,_,_,_,_,_,_,_,_,_,_,_,_,_,_,_,_,_,_,_,_,_,_,_,_,_,_,_,_,_,_,_,_,_,_,_,_,_,_,_,_,_,_,_,_,_,_,_,_,_,_,_,_,_,_,_,_,_,_,_,_,_,_,_,_,_,_,_,_,_,_,_,_,_,_,_,_,_,_,_,_,_,_,_,_,_,_,_,_,_,_,_,_,_,_,_,_,_,_,_,_,_]) rfl ?_
                refine l_end ?_
                refine x_thenN ?_
                first | (change SL _ _ (Arr CellT 46 _ (selC W (fun k => decide (0 ≤ a1.getD k 0 ∧ a1.getD k 0 ≤ n)) i ++ [cellOf W i]) :: _) at s43; rw [show selC W (fun k => decide (0 ≤ a1.getD k 0 ∧ a1.getD k 0 ≤ n)) i ++ [cellOf W i] = selC W (fun k => decide (0 ≤ a1.getD k 0 ∧ a1.getD k 0 ≤ n)) (i + 1) from by rw [selC_succ, if_pos hp]] at s43) | rw [show selC W (fun k => decide (0 ≤ a1.getD k 0 ∧ a1.getD k 0 ≤ n)) i = selC W (fun k => decide (0 ≤ a1.getD k 0 ∧ a1.getD k 0 ≤ n)) (i + 1) from by rw [selC_succ, if_neg hp]] at s43
                refine ⟨_, [_, _, _, _, _, _, _, _, _, _, _, _, _, _, _, _, _, _, _, _, _, _, _, _, _, _, _, _, _, _, _, _, _, _, _, _, _, _, _, _, _, _], ?_, rfl, i + 1, i, _, [_, _, _, _, _, _, _, _, _, _, _, _, _, _, _, _, _, _, _, _, _, _, _, _, _, _, _, _, _, _, _, _, _, _, _, _, _, _, _], rfl, rfl, ?_, ?_⟩
                · omega
                · first | exact s43 | exact s43.sub (by repeat first | with_reducible exact Sub.refl _ | exact Sub.nil _ | refine Sub.take (by repeat first | with_reducible exact Take.here _ _ | apply Take.there) ?_ | refine Sub.skip _ ?_)
                · first | exact ⟨by omega, by omega, fun j hj => (Nat.lt_or_ge j i).elim (fun h => hI.2.2.1 j h) (fun h => by have e : j = i := (by omega); rw [e]; omega), hI.2.2.2⟩ | exact ⟨by omega, by omega, fun j hj => (Nat.lt_or_ge j i).elim (fun h => by have := hI.2.2.1 j h; omega) (fun h => by have e : j = i := (by omega); rw [e]; omega), fun j hj => by have := hI.2.2.1 j hj; omega⟩
              · (try simp only [decide_eq_true_eq, decide_eq_false_iff_not, Bool.not_eq_true', Bool.not_eq_false'] at hc5)
                refine c_skip ?_
                refine x_blockN ?_
                refine x_thenN ?_
                refine c_region ?_
                refine l_val s43 (y_mv rfl (ev_of rfl)) rfl rfl (l' := _) rfl ?_
                refine l_val s43 (y_add rfl (ev_of rfl) (ev_of rfl) (by omega) (by omega)) rfl rfl (l' := _) rfl ?_
                refine l_val s43 (y_as rfl (ev_of rfl)) rfl rfl (l' := [_,_,_,_,_,_,_,_,_,_,_,_,_,_,_,_,_,_,_,_,_,_,_,_,_,_,_,_,_,_,_,_,_,_,_,_,_,_,_,_,_,_,_,_,_,_,_,_,_,_,_,_,_,_,_,_,_,_,_,_,_,_,_,_,_,_,_,_,_,_,_,_,_,_,_,_,_,_,_,_,_,_,_,_,_,_,_,_,_,_,_,_,_,_,_,_,_,_,_,_,_,_,_,_,_,_,_,_,_,_,_,_,_,_,_,_,_,_,_,_,_,_,_,_,_,_,_,_,_,_,_,_,_,_,_,_,_,_,_,_,_,_,_,_,_,_,_,_,_,_,_,_,_,_,_,_,_,_,_,_,_,_,_,_,_,_]) rfl ?_
                refine l_end ?_
                refine x_thenN ?_
                first | (change SL _ _ (Arr CellT 46 _ (selC W (fun k => decide (0 ≤ a1.getD k 0 ∧ a1.getD k 0 ≤ n)) i ++ [cellOf W i]) :: _) at s43; rw [show selC W (fun k => decide (0 ≤ a1.getD k 0 ∧ a1.getD k 0 ≤ n)) i ++ [cellOf W i] = selC W (fun k => decide (0 ≤ a1.getD k 0 ∧ a1.getD k 0 ≤ n)) (i + 1) from by rw [selC_succ, if_pos hp]] at s43) | rw [show selC W (fun k => decide (0 ≤ a1.getD k 0 ∧ a1.getD k 0 ≤ n)) i = selC W (fun k => decide (0 ≤ a1.getD k 0 ∧ a1.getD k 0 ≤ n)) (i + 1) from by rw [selC_succ, if_neg hp]] at s43
                refine ⟨_, [_, _, _, _, _, _, _, _, _, _, _, _, _, _, _, _, _, _, _, _, _, _, _, _, _, _, _, _, _, _, _, _, _, _, _, _, _, _, _, _, _, _], ?_, rfl, i + 1, at1, _, [_, _, _, _, _, _, _, _, _, _, _, _, _, _, _, _, _, _, _, _, _, _, _, _, _, _, _, _, _, _, _, _, _, _, _, _, _, _, _], rfl, rfl, ?_, ?_⟩
                · omega
                · first | exact s43 | exact s43.sub (by repeat first | with_reducible exact Sub.refl _ | exact Sub.nil _ | refine Sub.take (by repeat first | with_reducible exact Take.here _ _ | apply Take.there) ?_ | refine Sub.skip _ ?_)
                · first | exact ⟨by omega, by omega, fun j hj => (Nat.lt_or_ge j i).elim (fun h => hI.2.2.1 j h) (fun h => by have e : j = i := (by omega); rw [e]; omega), hI.2.2.2⟩ | exact ⟨by omega, by omega, fun j hj => (Nat.lt_or_ge j i).elim (fun h => by have := hI.2.2.1 j h; omega) (fun h => by have e : j = i := (by omega); rw [e]; omega), fun j hj => by have := hI.2.2.1 j hj; omega⟩
          · (try simp only [decide_eq_true_eq, decide_eq_false_iff_not, Bool.not_eq_true', Bool.not_eq_false'] at hc3)
            refine c_exit ?_
            refine x_thenE ?_
            refine x_thenE ?_
            refine x_hit ?_
            refine x_thenN ?_
            refine c_seq ?_
            refine c_seq ?_
            refine c_region ?_
            obtain rfl : i = v.length := by omega
            refine l_val s28 (y_mv rfl (ev_of rfl)) rfl rfl (l' := _) rfl ?_
            refine l_val s28 (y_neq rfl (ev_of rfl) (ev_of rfl)) rfl rfl (l' := _) rfl ?_
            refine l_val s28 (y_mv rfl (ev_of rfl)) rfl rfl (l' := [_,_,_,_,_,_,_,_,_,_,_,_,_,_,_,_,_,_,_,_,_,_,_,_,_,_,_,_,_,_,_,_,_,_,_,_,_,_,_,_,_,_,_,_,_,_,_,_,_,_,_,_,_,_,_,_,_,_,_,_,_,_,_,_,_,_,_,_,_,_,_,_,_,_,_,_,_,_,_,_,_,_,_,_,_,_,_,_,_,_,_,_,_,_,_,_,_,_,_,_,_,_,_,_,_,_,_,_,_,_,_,_,_,_,_,_,_,_,_,_,_,_,_,_,_,_,_,_,_,_,_,_,_,_,_,_,_,_,_,_,_,_,_,_,_,_,_,_,_,_,_,_,_,_,_,_,_,_,_,_,_,_,_,_,_,_]) rfl ?_
            refine l_split (t := 112) rfl (fun hg45 => ?_) (fun hg45 => ?_)
            · (try simp only [decide_eq_true_eq, decide_eq_false_iff_not, Bool.not_eq_true', Bool.not_eq_false'] at hg45)
              first | done | (exfalso; omega) | contradiction | (exfalso; simp_all; done)
            · (try simp only [decide_eq_true_eq, decide_eq_false_iff_not, Bool.not_eq_true', Bool.not_eq_false'] at hg45)
              refine nlL (l' := _) rfl ?_
              refine l_gval s28 (y_mv rfl (ev_of rfl)) (wanted_of rfl rfl rfl rfl rfl) rfl (l' := _) rfl ?_
              refine l_gval s28 (y_neq rfl (ev_of rfl) (ev_of rfl)) (wanted_of rfl rfl rfl rfl rfl) rfl (l' := [_,_,_,_,_,_,_,_,_,_,_,_,_,_,_,_,_,_,_,_,_,_,_,_,_,_,_,_,_,_,_,_,_,_,_,_,_,_,_,_,_,_,_,_,_,_,_,_,_,_,_,_,_,_,_,_,_,_,_,_,_,_,_,_,_,_,_,_,_,_,_,_,_,_,_,_,_,_,_,_,_,_,_,_,_,_,_,_,_,_,_,_,_,_,_,_,_,_,_,_,_,_,_,_,_,_,_,_,_,_,_,_,_,_,_,_,_,_,_,_,_,_,_,_,_,_,_,_,_,_,_,_,_,_,_,_,_,_,_,_,_,_,_,_,_,_,_,_,_,_,_,_,_,_,_,_,_,_,_,_,_,_,_,_,_,_]) rfl ?_
              refine l_val s28 (y_pick0 rfl (ev_of rfl) (ev_of rfl)) rfl rfl (l' := _) rfl ?_
              refine l_val s28 (y_mv rfl (ev_of rfl)) rfl rfl (l' := _) rfl ?_
              refine l_split (t := 116) rfl (fun hg46 => ?_) (fun hg46 => ?_)
              · (try simp only [decide_eq_true_eq, decide_eq_false_iff_not, Bool.not_eq_true', Bool.not_eq_false'] at hg46)
                first | done | (exfalso; omega) | contradiction | (exfalso; simp_all; done)
              · (try simp only [decide_eq_true_eq, decide_eq_false_iff_not, Bool.not_eq_true', Bool.not_eq_false'] at hg46)
                refine nlL (l' := [_,_,_,_,_,_,_,_,_,_,_,_,_,_,_,_,_,_,_,_,_,_,_,_,_,_,_,_,_,_,_,_,_,_,_,_,_,_,_,_,_,_,_,_,_,_,_,_,_,_,_,_,_,_,_,_,_,_,_,_,_,_,_,_,_,_,_,_,_,_,_,_,_,_,_,_,_,_,_,_,_,_,_,_,_,_,_,_,_,_,_,_,_,_,_,_,_,_,_,_,_,_,_,_,_,_,_,_,_,_,_,_,_,_,_,_,_,_,_,_,_,_,_,_,_,_,_,_,_,_,_,_,_,_,_,_,_,_,_,_,_,_,_,_,_,_,_,_,_,_,_,_,_,_,_,_,_,_,_,_,_,_,_,_,_,_]) rfl ?_
                refine l_gval s28 (y_mv rfl (ev_of rfl)) (wanted_of rfl rfl rfl rfl rfl) rfl (l' := _) rfl ?_
                refine l_gval s28 (y_neq rfl (ev_of rfl) (ev_of rfl)) (wanted_of rfl rfl rfl rfl rfl) rfl (l' := _) rfl ?_
                refine l_val s28 (y_pick0 rfl (ev_of rfl) (ev_of rfl)) rfl rfl (l' := [_,_,_,_,_,_,_,_,_,_,_,_,_,_,_,_,_,_,_,_,_,_,_,_,_,_,_,_,_,_,_,_,_,_,_,_,_,_,_,_,_,_,_,_,_,_,_,_,_,_,_,_,_,_,_,_,_,_,_,_,_,_,_,_,_,_,_,_,_,_,_,_,_,_,_,_,_,_,_,_,_,_,_,_,_,_,_,_,_,_,_,_,_,_,_,_,_,_,_,_,_,_,_,_,_,_,_,_,_,_,_,_,_,_,_,_,_,_,_,_,_,_,_,_,_,_,_,_,_,_,_,_,_,_,_,_,_,_,_,_,_,_,_,_,_,_,_,_,_,_,_,_,_,_,_,_,_,_,_,_,_,_,_,_,_,_]) rfl ?_
                refine l_val s28 (y_mv rfl (ev_of rfl)) rfl rfl (l' := _) rfl ?_
                refine l_split (t := 120) rfl (fun hg47 => ?_) (fun hg47 => ?_)
                · (try simp only [decide_eq_true_eq, decide_eq_false_iff_not, Bool.not_eq_true', Bool.not_eq_false'] at hg47)
                  first | done | (exfalso; omega) | contradiction | (exfalso; simp_all; done)
                · (try simp only [decide_eq_true_eq, decide_eq_false_iff_not, Bool.not_eq_true', Bool.not_eq_false'] at hg47)
                  refine nlL (l' := _) rfl ?_
                  refine l_gval s28 (y_mv rfl (ev_of rfl)) (wanted_of rfl rfl rfl rfl rfl) rfl (l' := [_,_,_,_,_,_,_,_,_,_,_,_,_,_,_,_,_,_,_,_,_,_,_,_,_,_,_,_,_,_,_,_,_,_,_,_,_,_,_,_,_,_,_,_,_,_,_,_,_,_,_,_,_,_,_,_,_,_,_,_,_,_,_,_,_,_,_,_,_,_,_,_,_,_,_,_,_,_,_,_,_,_,_,_,_,_,_,_,_,_,_,_,_,_,_,_,_,_,_,_,_,_,_,_,_,_,_,_,_,_,_,_,_,_,_,_,_,_,_,_,_,_,_,_,_,_,_,_,_,_,_,_,_,_,_,_,_,_,_,_,_,_,_,_,_,_,_,_,_,_,_,_,_,_,_,_,_,_,_,_,_,_,_,_,_,_]) rfl ?_
                  refine l_gval s28 (y_mv rfl (ev_of rfl)) (wanted_of rfl rfl rfl rfl rfl) rfl (l' := _) rfl ?_
                  refine l_gcall rfl (wanted_of rfl rfl rfl rfl rfl) rfl Fn.call56 (vs := [_, _]) rfl (same_c s28 (by repeat first | assumption | with_reducible exact ent_blk | exact Ent.here arr_reads | exact Ent.here one_I64 | exact Ent.here one_Cell | exact Ent.here one_Bool | exact Ent.here one_Rect | refine Ent.there ?_) (by repeat first | assumption | with_reducible exact ent_blk | exact Ent.here arr_reads | exact Ent.here one_I64 | exact Ent.here one_Cell | exact Ent.here one_Bool | exact Ent.here one_Rect | refine Ent.there ?_) (by omega)) ?_
                  rintro _ w49 ⟨rfl, s48⟩
                  clear s28
                  refine nlL (l' := _) rfl ?_
                  refine l_gval s48 (y_not rfl (ev_of rfl)) (wanted_of rfl rfl rfl rfl rfl) rfl (l' := [_,_,_,_,_,_,_,_,_,_,_,_,_,_,_,_,_,_,_,_,_,_,_,_,_,_,_,_,_,_,_,_,_,_,_,_,_,_,_,_,_,_,_,_,_,_,_,_,_,_,_,_,_,_,_,_,_,_,_,_,_,_,_,_,_,_,_,_,_,_,_,_,_,_,_,_,_,_,_,_,_,_,_,_,_,_,_,_,_,_,_,_,_,_,_,_,_,_,_,_,_,_,_,_,_,_,_,_,_,_,_,_,_,_,_,_,_,_,_,_,_,_,_,_,_,_,_,_,_,_,_,_,_,_,_,_,_,_,_,_,_,_,_,_,_,_,_,_,_,_,_,_,_,_,_,_,_,_,_,_,_,_,_,_,_,_]) rfl ?_
                  refine l_val s48 (y_pick0 rfl (ev_of rfl) (ev_of rfl)) rfl rfl (l' := _) rfl ?_
                  refine l_val s48 (y_mv rfl (ev_of rfl)) rfl rfl (l' := _) rfl ?_
                  refine l_split (t := 126) rfl (fun hg50 => ?_) (fun hg50 => ?_)
                  · (try simp only [decide_eq_true_eq, decide_eq_false_iff_not, Bool.not_eq_true', Bool.not_eq_false'] at hg50)
                    first | done | (exfalso; omega) | contradiction | (exfalso; simp_all; done)
                  · (try simp only [decide_eq_true_eq, decide_eq_false_iff_not, Bool.not_eq_true', Bool.not_eq_false'] at hg50)
                    refine nlL (l' := [_,_,_,_,_,_,_,_,_,_,_,_,_,_,_,_,_,_,_,_,_,_,_,_,_,_,_,_,_,_,_,_,_,_,_,_,_,_,_,_,_,_,_,_,_,_,_,_,_,_,_,_,_,_,_,_,_,_,_,_,_,_,_,_,_,_,_,_,_,_,_,_,_,_,_,_,_,_,_,_,_,_,_,_,_,_,_,_,_,_,_,_,_,_,_,_,_,_,_,_,_,_,_,_,_,_,_,_,_,_,_,_,_,_,_,_,_,_,_,_,_,_,_,_,_,_,_,_,_,_,_,_,_,_,_,_,_,_,_,_,_,_,_,_,_,_,_,_,_,_,_,_,_,_,_,_,_,_,_,_,_,_,_,_,_,_]) rfl ?_
                    refine l_gval s48 (y_mv rfl (ev_of rfl)) (wanted_of rfl rfl rfl rfl rfl) rfl (l' := _) rfl ?_
                    refine l_gval s48 (y_mv rfl (ev_of rfl)) (wanted_of rfl rfl rfl rfl rfl) rfl (l' := _) rfl ?_
                    refine l_gcall rfl (wanted_of rfl rfl rfl rfl rfl) rfl Fn.call40 (vs := [_, _]) rfl (sameCells_c s48 (by repeat first | assumption | with_reducible exact ent_blk | exact Ent.here arr_reads | exact Ent.here one_I64 | exact Ent.here one_Cell | exact Ent.here one_Bool | exact Ent.here one_Rect | refine Ent.there ?_) (by repeat first | assumption | with_reducible exact ent_blk | exact Ent.here arr_reads | exact Ent.here one_I64 | exact Ent.here one_Cell | exact Ent.here one_Bool | exact Ent.here one_Rect | refine Ent.there ?_) (by have := selC_le W (fun k => decide (0 ≤ a1.getD k 0 ∧ a1.getD k 0 ≤ n)) v.length; omega)) ?_
                    rintro _ w52 ⟨rfl, s51⟩
                    clear s48
                    refine nlL (l' := [_,_,_,_,_,_,_,_,_,_,_,_,_,_,_,_,_,_,_,_,_,_,_,_,_,_,_,_,_,_,_,_,_,_,_,_,_,_,_,_,_,_,_,_,_,_,_,_,_,_,_,_,_,_,_,_,_,_,_,_,_,_,_,_,_,_,_,_,_,_,_,_,_,_,_,_,_,_,_,_,_,_,_,_,_,_,_,_,_,_,_,_,_,_,_,_,_,_,_,_,_,_,_,_,_,_,_,_,_,_,_,_,_,_,_,_,_,_,_,_,_,_,_,_,_,_,_,_,_,_,_,_,_,_,_,_,_,_,_,_,_,_,_,_,_,_,_,_,_,_,_,_,_,_,_,_,_,_,_,_,_,_,_,_,_,_]) rfl ?_
                    refine l_gval s51 (y_not rfl (ev_of rfl)) (wanted_of rfl rfl rfl rfl rfl) rfl (l' := _) rfl ?_
                    refine l_val s51 (y_pick0 rfl (ev_of rfl) (ev_of rfl)) rfl rfl (l' := _) rfl ?_
                    refine l_val s51 (y_mv rfl (ev_of rfl)) rfl rfl (l' := [_,_,_,_,_,_,_,_,_,_,_,_,_,_,_,_,_,_,_,_,_,_,_,_,_,_,_,_,_,_,_,_,_,_,_,_,_,_,_,_,_,_,_,_,_,_,_,_,_,_,_,_,_,_,_,_,_,_,_,_,_,_,_,_,_,_,_,_,_,_,_,_,_,_,_,_,_,_,_,_,_,_,_,_,_,_,_,_,_,_,_,_,_,_,_,_,_,_,_,_,_,_,_,_,_,_,_,_,_,_,_,_,_,_,_,_,_,_,_,_,_,_,_,_,_,_,_,_,_,_,_,_,_,_,_,_,_,_,_,_,_,_,_,_,_,_,_,_,_,_,_,_,_,_,_,_,_,_,_,_,_,_,_,_,_,_]) rfl ?_
                    refine l_split (t := 132) rfl (fun hg53 => ?_) (fun hg53 => ?_)
                    · (try simp only [decide_eq_true_eq, decide_eq_false_iff_not, Bool.not_eq_true', Bool.not_eq_false'] at hg53)
                      first | done | (exfalso; omega) | contradiction | (exfalso; simp_all; done)
                    · (try simp only [decide_eq_true_eq, decide_eq_false_iff_not, Bool.not_eq_true', Bool.not_eq_false'] at hg53)
                      refine nlL (l' := _) rfl ?_
                      refine l_gval s51 (y_mv rfl (ev_of rfl)) (wanted_of rfl rfl rfl rfl rfl) rfl (l' := _) rfl ?_
                      refine l_gval s51 (y_mv rfl (ev_of rfl)) (wanted_of rfl rfl rfl rfl rfl) rfl (l' := [_,_,_,_,_,_,_,_,_,_,_,_,_,_,_,_,_,_,_,_,_,_,_,_,_,_,_,_,_,_,_,_,_,_,_,_,_,_,_,_,_,_,_,_,_,_,_,_,_,_,_,_,_,_,_,_,_,_,_,_,_,_,_,_,_,_,_,_,_,_,_,_,_,_,_,_,_,_,_,_,_,_,_,_,_,_,_,_,_,_,_,_,_,_,_,_,_,_,_,_,_,_,_,_,_,_,_,_,_,_,_,_,_,_,_,_,_,_,_,_,_,_,_,_,_,_,_,_,_,_,_,_,_,_,_,_,_,_,_,_,_,_,_,_,_,_,_,_,_,_,_,_,_,_,_,_,_,_,_,_,_,_,_,_,_,_]) rfl ?_
                      refine l_gval s51 (y_idx (n := 0) rfl Ty.elem22 Ty.size2 (ev_of rfl) (ev_of rfl) (by repeat first | assumption | with_reducible exact ent_blk | exact Ent.here arr_reads | exact Ent.here one_I64 | exact Ent.here one_Cell | exact Ent.here one_Bool | exact Ent.here one_Rect | refine Ent.there ?_) rfl (by omega)) (wanted_of rfl rfl rfl rfl rfl) rfl (l' := _) rfl ?_
                      refine l_gval s51 (y_ldI (n := 0) rfl Ty.some2 Ty.agg2 (ev_of rfl) (by repeat first | assumption | with_reducible exact ent_blk | exact Ent.here arr_reads | exact Ent.here one_I64 | exact Ent.here one_Cell | exact Ent.here one_Bool | exact Ent.here one_Rect | refine Ent.there ?_) (by omega)) (wanted_of rfl rfl rfl rfl rfl) rfl (l' := _) rfl ?_
                      refine l_gval s51 (y_geq rfl (ev_of rfl) (ev_of rfl)) (wanted_of rfl rfl rfl rfl rfl) rfl (l' := [_,_,_,_,_,_,_,_,_,_,_,_,_,_,_,_,_,_,_,_,_,_,_,_,_,_,_,_,_,_,_,_,_,_,_,_,_,_,_,_,_,_,_,_,_,_,_,_,_,_,_,_,_,_,_,_,_,_,_,_,_,_,_,_,_,_,_,_,_,_,_,_,_,_,_,_,_,_,_,_,_,_,_,_,_,_,_,_,_,_,_,_,_,_,_,_,_,_,_,_,_,_,_,_,_,_,_,_,_,_,_,_,_,_,_,_,_,_,_,_,_,_,_,_,_,_,_,_,_,_,_,_,_,_,_,_,_,_,_,_,_,_,_,_,_,_,_,_,_,_,_,_,_,_,_,_,_,_,_,_,_,_,_,_,_,_]) rfl ?_
                      refine l_gval s51 (y_bneq rfl (ev_of rfl) (ev_of rfl) Ty.isbool4) (wanted_of rfl rfl rfl rfl rfl) rfl (l' := _) rfl ?_
                      refine l_val s51 (y_pick0 rfl (ev_of rfl) (ev_of rfl)) rfl rfl (l' := _) rfl ?_
                      refine l_end ?_
                      refine x_thenN ?_
                      refine c_if rfl (fun hc6 => ?_) (fun hc6 => ?_)
                      · (try simp only [decide_eq_true_eq, decide_eq_false_iff_not, Bool.not_eq_true', Bool.not_eq_false'] at hc6)
                        exfalso; refine (Int.lt_or_le (ls2.getD 0 0) 4096).elim (fun h => ?_) (fun h => ?_) <;> first | (rw [(hf2 h).1, decide_eq_true (show a1.getD 0 0 ≥ 0 from (hfs.2 h).2)] at hc6; simp at hc6; done) | (have h2 := hfs.1 h; rw [(hf1 h).2.2.2, decide_eq_false (show ¬ a1.getD 0 0 ≥ 0 by omega)] at hc6; simp at hc6; done)
                      · (try simp only [decide_eq_true_eq, decide_eq_false_iff_not, Bool.not_eq_true', Bool.not_eq_false'] at hc6)
                        refine c_skip ?_
                        refine x_thenN ?_
                        refine c_seq ?_
                        refine c_seq ?_
                        refine c_region ?_
                        refine l_val s51 (y_mv rfl (ev_of rfl)) rfl rfl (l' := [_,_,_,_,_,_,_,_,_,_,_,_,_,_,_,_,_,_,_,_,_,_,_,_,_,_,_,_,_,_,_,_,_,_,_,_,_,_,_,_,_,_,_,_,_,_,_,_,_,_,_,_,_,_,_,_,_,_,_,_,_,_,_,_,_,_,_,_,_,_,_,_,_,_,_,_,_,_,_,_,_,_,_,_,_,_,_,_,_,_,_,_,_,_,_,_,_,_,_,_,_,_,_,_,_,_,_,_,_,_,_,_,_,_,_,_,_,_,_,_,_,_,_,_,_,_,_,_,_,_,_,_,_,_,_,_,_,_,_,_,_,_,_,_,_,_,_,_,_,_,_,_,_,_,_,_,_,_,_,_,_,_,_,_,_,_]) rfl ?_
                        refine l_val s51 (y_not rfl (ev_of rfl)) rfl rfl (l' := _) rfl ?_
                        refine l_end ?_
                        refine x_thenN ?_
                        refine c_if rfl (fun hc7 => ?_) (fun hc7 => ?_)
                        · (try simp only [decide_eq_true_eq, decide_eq_false_iff_not, Bool.not_eq_true', Bool.not_eq_false'] at hc7)
                          have hge : 4096 ≤ ls2.getD 0 0 := by rcases Int.lt_or_le (ls2.getD 0 0) 4096 with h | h <;> first | exact h | (have h1 := (hf2 h).1; simp_all)
                          obtain ⟨rfl, rfl, rfl, rfl⟩ := hf1 hge
                          refine c_seq ?_
                          refine c_region ?_
                          refine l_val s51 (y_load_blk rfl Ty.some46 Ty.agg46 Ty.size46 (ev_of rfl) (by repeat first | exact ent_blk | refine Ent.there ?_) rfl) rfl rfl (l' := _) rfl ?_
                          refine l_val s51 (y_bld (zs := [_, _]) (vs := []) (ps := []) (v := .agg #[_, _]) rfl Ty.zero46 rfl (fs_of Ty.fs46) rfl rfl (by intro q hq; simp only [List.zip_cons_cons, List.zip_nil_right, List.zip_nil_left, List.mem_cons, List.not_mem_nil, or_false] at hq <;> cases hq) rfl ⟨_, rfl⟩) rfl rfl (l' := [_,_,_,_,_,_,_,_,_,_,_,_,_,_,_,_,_,_,_,_,_,_,_,_,_,_,_,_,_,_,_,_,_,_,_,_,_,_,_,_,_,_,_,_,_,_,_,_,_,_,_,_,_,_,_,_,_,_,_,_,_,_,_,_,_,_,_,_,_,_,_,_,_,_,_,_,_,_,_,_,_,_,_,_,_,_,_,_,_,_,_,_,_,_,_,_,_,_,_,_,_,_,_,_,_,_,_,_,_,_,_,_,_,_,_,_,_,_,_,_,_,_,_,_,_,_,_,_,_,_,_,_,_,_,_,_,_,_,_,_,_,_,_,_,_,_,_,_,_,_,_,_,_,_,_,_,_,_,_,_,_,_,_,_,_,_]) rfl ?_
                          refine l_val s51 (y_eqF rfl (ev_of rfl) (ev_of rfl) eqg46 eqt46 eqp46 (fun w => eqCell _ _ _ _ w)) rfl rfl (l' := _) rfl ?_
                          refine l_val s51 (y_mv rfl (ev_of rfl)) rfl rfl (l' := _) rfl ?_
                          refine l_split (t := 145) rfl (fun hg54 => ?_) (fun hg54 => ?_)
                          · (try simp only [decide_eq_true_eq, decide_eq_false_iff_not, Bool.not_eq_true', Bool.not_eq_false'] at hg54)
                            refine nlL (l' := [_,_,_,_,_,_,_,_,_,_,_,_,_,_,_,_,_,_,_,_,_,_,_,_,_,_,_,_,_,_,_,_,_,_,_,_,_,_,_,_,_,_,_,_,_,_,_,_,_,_,_,_,_,_,_,_,_,_,_,_,_,_,_,_,_,_,_,_,_,_,_,_,_,_,_,_,_,_,_,_,_,_,_,_,_,_,_,_,_,_,_,_,_,_,_,_,_,_,_,_,_,_,_,_,_,_,_,_,_,_,_,_,_,_,_,_,_,_,_,_,_,_,_,_,_,_,_,_,_,_,_,_,_,_,_,_,_,_,_,_,_,_,_,_,_,_,_,_,_,_,_,_,_,_,_,_,_,_,_,_,_,_,_,_,_,_]) rfl ?_
                            refine l_gval s51 (y_mv rfl (ev_of rfl)) (wanted_of rfl rfl rfl rfl rfl) rfl (l' := _) rfl ?_
                            refine l_gval s51 (y_eql rfl (ev_of rfl) (ev_of rfl)) (wanted_of rfl rfl rfl rfl rfl) rfl (l' := _) rfl ?_
                            refine l_val s51 (y_pick1 rfl (ev_of rfl) (ev_of rfl)) rfl rfl (l' := [_,_,_,_,_,_,_,_,_,_,_,_,_,_,_,_,_,_,_,_,_,_,_,_,_,_,_,_,_,_,_,_,_,_,_,_,_,_,_,_,_,_,_,_,_,_,_,_,_,_,_,_,_,_,_,_,_,_,_,_,_,_,_,_,_,_,_,_,_,_,_,_,_,_,_,_,_,_,_,_,_,_,_,_,_,_,_,_,_,_,_,_,_,_,_,_,_,_,_,_,_,_,_,_,_,_,_,_,_,_,_,_,_,_,_,_,_,_,_,_,_,_,_,_,_,_,_,_,_,_,_,_,_,_,_,_,_,_,_,_,_,_,_,_,_,_,_,_,_,_,_,_,_,_,_,_,_,_,_,_,_,_,_,_,_,_]) rfl ?_
                            refine l_val s51 (y_as rfl (ev_of rfl)) rfl rfl (l' := _) rfl ?_
                            refine l_end ?_
                            refine x_thenN ?_
                            refine c_ret ?_
                            refine x_thenR ?_
                            refine r1 rfl rfl ?_
                            exact ⟨by first | rfl | (simp; done) | exact congrArg Value.bool (decide_eq_true ⟨rfl, rfl⟩), s51.sub (by repeat first | with_reducible exact Sub.refl _ | exact Sub.nil _ | refine Sub.take (by repeat first | with_reducible exact Take.here _ _ | apply Take.there) ?_ | refine Sub.skip _ ?_)⟩
                          · (try simp only [decide_eq_true_eq, decide_eq_false_iff_not, Bool.not_eq_true', Bool.not_eq_false'] at hg54)
                            first | done | (exfalso; omega) | contradiction | (exfalso; simp_all; done)
                        · (try simp only [decide_eq_true_eq, decide_eq_false_iff_not, Bool.not_eq_true', Bool.not_eq_false'] at hc7)
                          have hlt : ls2.getD 0 0 < 4096 := by rcases Int.lt_or_le (ls2.getD 0 0) 4096 with h | h <;> first | exact h | (have h1 := (hf1 h).2.2.2; simp_all)
                          obtain ⟨rfl, k3, hk3, rfl, rfl, rfl⟩ := hf2 hlt
                          obtain ⟨rfl, _⟩ := hfs.2 hlt
                          obtain rfl : k3 = at1 := hk3.uniq ⟨by omega, fun j hj => hI.2.2.1 j (by omega), hI.2.2.2⟩
                          refine c_skip ?_
                          refine x_thenN ?_
                          refine c_seq ?_
                          apply c_drawn [] [0, 1, 2, 3, 4, 5, 6, 7, 8, 9, 10, 11, 12, 13, 14, 15, 16, 17] [] [] [] [(_, vq _), (_, vq _), (_, vq _), (_, vq _), (_, vq _), (_, vq _), (_, vq _), (_, vq _), (_, vq _), (_, vq _), (_, vq _), (_, vq _), (_, vq _), (_, vq _), (_, vq _), (_, vq _), (_, vq _), (_, vq _)] s51 Ty.follows (by kernel_rfl) (fun _ _ _ h => h.2) rfl rfl rfl (by decide) ?_
                          show WP _ _ _ _ _
                          refine p_end ?_
                          refine d_val (y_mv rfl (ev_of rfl)) rfl rfl (l' := _) rfl ?_
                          refine d_val (y_mv rfl (ev_of rfl)) rfl rfl (l' := [_,_,_,_,_,_,_,_,_,_,_,_,_,_,_,_,_,_,_,_,_,_,_,_,_,_,_,_,_,_,_,_,_,_,_,_,_,_,_,_,_,_,_,_,_,_,_,_,_,_,_,_,_,_,_,_,_,_,_,_,_,_,_,_,_,_,_,_,_,_,_,_,_,_,_,_,_,_,_,_,_,_,_,_,_,_,_,_,_,_,_,_,_,_,_,_,_,_,_,_,_,_,_,_,_,_,_,_,_,_,_,_,_,_,_,_,_,_,_,_,_,_,_,_,_,_,_,_,_,_,_,_,_,_,_,_,_,_,_,_,_,_,_,_,_,_,_,_,_,_,_,_,_,_,_,_,_,_,_,_,_,_,_,_,_,_]) rfl ?_
                          refine d_val (y_mv rfl (ev_of rfl)) rfl rfl (l' := _) rfl ?_
                          refine d_val (y_idx rfl Ty.elem22 Ty.size2 (ev_of rfl) (ev_of rfl) (by repeat first | assumption | with_reducible exact ent_blk | exact Ent.here arr_reads | exact Ent.here one_I64 | exact Ent.here one_Cell | exact Ent.here one_Bool | exact Ent.here one_Rect | refine Ent.there ?_) (by first | rfl | exact (Int.toNat_of_nonneg (by omega)).symm) (by omega)) rfl rfl (l' := _) rfl ?_
                          refine d_val (y_ldI rfl Ty.some2 Ty.agg2 (ev_of rfl) (by repeat first | assumption | with_reducible exact ent_blk | exact Ent.here arr_reads | exact Ent.here one_I64 | exact Ent.here one_Cell | exact Ent.here one_Bool | exact Ent.here one_Rect | refine Ent.there ?_) (by omega)) rfl rfl (l' := [_,_,_,_,_,_,_,_,_,_,_,_,_,_,_,_,_,_,_,_,_,_,_,_,_,_,_,_,_,_,_,_,_,_,_,_,_,_,_,_,_,_,_,_,_,_,_,_,_,_,_,_,_,_,_,_,_,_,_,_,_,_,_,_,_,_,_,_,_,_,_,_,_,_,_,_,_,_,_,_,_,_,_,_,_,_,_,_,_,_,_,_,_,_,_,_,_,_,_,_,_,_,_,_,_,_,_,_,_,_,_,_,_,_,_,_,_,_,_,_,_,_,_,_,_,_,_,_,_,_,_,_,_,_,_,_,_,_,_,_,_,_,_,_,_,_,_,_,_,_,_,_,_,_,_,_,_,_,_,_,_,_,_,_,_,_]) rfl ?_
                          refine d_val (y_eql rfl (ev_of rfl) (ev_of rfl)) rfl rfl (l' := _) rfl ?_
                          refine d_val (y_mv rfl (ev_of rfl)) rfl rfl (l' := _) rfl ?_
                          refine d_known (t := 155) (b := true) rfl (decide_eq_true rfl) ?_
                          refine nlD (l' := [_,_,_,_,_,_,_,_,_,_,_,_,_,_,_,_,_,_,_,_,_,_,_,_,_,_,_,_,_,_,_,_,_,_,_,_,_,_,_,_,_,_,_,_,_,_,_,_,_,_,_,_,_,_,_,_,_,_,_,_,_,_,_,_,_,_,_,_,_,_,_,_,_,_,_,_,_,_,_,_,_,_,_,_,_,_,_,_,_,_,_,_,_,_,_,_,_,_,_,_,_,_,_,_,_,_,_,_,_,_,_,_,_,_,_,_,_,_,_,_,_,_,_,_,_,_,_,_,_,_,_,_,_,_,_,_,_,_,_,_,_,_,_,_,_,_,_,_,_,_,_,_,_,_,_,_,_,_,_,_,_,_,_,_,_,_]) rfl ?_
                          refine d_gval (y_load_blk rfl Ty.some46 Ty.agg46 Ty.size46 (ev_of rfl) (by repeat first | exact ent_blk | refine Ent.there ?_) rfl) (wanted_of rfl rfl rfl rfl rfl) rfl (l' := _) rfl ?_
                          refine d_gval (y_mv rfl (ev_of rfl)) (wanted_of rfl rfl rfl rfl rfl) rfl (l' := _) rfl ?_
                          refine d_gval (y_mv rfl (ev_of rfl)) (wanted_of rfl rfl rfl rfl rfl) rfl (l' := [_,_,_,_,_,_,_,_,_,_,_,_,_,_,_,_,_,_,_,_,_,_,_,_,_,_,_,_,_,_,_,_,_,_,_,_,_,_,_,_,_,_,_,_,_,_,_,_,_,_,_,_,_,_,_,_,_,_,_,_,_,_,_,_,_,_,_,_,_,_,_,_,_,_,_,_,_,_,_,_,_,_,_,_,_,_,_,_,_,_,_,_,_,_,_,_,_,_,_,_,_,_,_,_,_,_,_,_,_,_,_,_,_,_,_,_,_,_,_,_,_,_,_,_,_,_,_,_,_,_,_,_,_,_,_,_,_,_,_,_,_,_,_,_,_,_,_,_,_,_,_,_,_,_,_,_,_,_,_,_,_,_,_,_,_,_]) rfl ?_
                          refine d_gval (y_rem rfl (ev_of rfl) (ev_of rfl) (by omega) (by omega)) (wanted_of rfl rfl rfl rfl rfl) rfl (l' := _) rfl ?_
                          refine d_gval (y_mv rfl (ev_of rfl)) (wanted_of rfl rfl rfl rfl rfl) rfl (l' := _) rfl ?_
                          refine d_gval (y_mv rfl (ev_of rfl)) (wanted_of rfl rfl rfl rfl rfl) rfl (l' := [_,_,_,_,_,_,_,_,_,_,_,_,_,_,_,_,_,_,_,_,_,_,_,_,_,_,_,_,_,_,_,_,_,_,_,_,_,_,_,_,_,_,_,_,_,_,_,_,_,_,_,_,_,_,_,_,_,_,_,_,_,_,_,_,_,_,_,_,_,_,_,_,_,_,_,_,_,_,_,_,_,_,_,_,_,_,_,_,_,_,_,_,_,_,_,_,_,_,_,_,_,_,_,_,_,_,_,_,_,_,_,_,_,_,_,_,_,_,_,_,_,_,_,_,_,_,_,_,_,_,_,_,_,_,_,_,_,_,_,_,_,_,_,_,_,_,_,_,_,_,_,_,_,_,_,_,_,_,_,_,_,_,_,_,_,_]) rfl ?_
                          refine d_gval (y_quo rfl (ev_of rfl) (ev_of rfl) (by omega) (by omega) (by omega)) (wanted_of rfl rfl rfl rfl rfl) rfl (l' := _) rfl ?_
                          refine d_gval (y_bld (zs := [_, _]) (vs := [(0, _), (1, _)]) (ps := [(0, [_]), (1, [_])]) (v := .agg #[_, _]) rfl Ty.zero46 rfl (fs_of Ty.fs46) rfl rfl (by intro q hq; simp only [List.zip_cons_cons, List.zip_nil_right, List.zip_nil_left, List.mem_cons, List.not_mem_nil, or_false] at hq; rcases hq with rfl | rfl <;> exact ⟨by kernel_rfl, by first | rfl | (simp only [cells_one (arr_one (by repeat first | assumption | with_reducible exact ent_blk | exact Ent.here arr_reads | exact Ent.here one_I64 | exact Ent.here one_Cell | exact Ent.here one_Bool | exact Ent.here one_Rect | refine Ent.there ?_) s51)]; first | done | rfl), by simp⟩) rfl ⟨_, rfl⟩) (wanted_of rfl rfl rfl rfl rfl) rfl (l' := _) rfl ?_
                          refine d_gval (y_eqF rfl (ev_of rfl) (ev_of rfl) eqg46 eqt46 eqp46 (fun w => eqCell _ _ _ _ w)) (wanted_of rfl rfl rfl rfl rfl) rfl (l' := [_,_,_,_,_,_,_,_,_,_,_,_,_,_,_,_,_,_,_,_,_,_,_,_,_,_,_,_,_,_,_,_,_,_,_,_,_,_,_,_,_,_,_,_,_,_,_,_,_,_,_,_,_,_,_,_,_,_,_,_,_,_,_,_,_,_,_,_,_,_,_,_,_,_,_,_,_,_,_,_,_,_,_,_,_,_,_,_,_,_,_,_,_,_,_,_,_,_,_,_,_,_,_,_,_,_,_,_,_,_,_,_,_,_,_,_,_,_,_,_,_,_,_,_,_,_,_,_,_,_,_,_,_,_,_,_,_,_,_,_,_,_,_,_,_,_,_,_,_,_,_,_,_,_,_,_,_,_,_,_,_,_,_,_,_,_]) rfl ?_
                          refine d_val (y_pick1 rfl (ev_of rfl) (ev_of rfl)) rfl rfl (l' := _) rfl ?_
                          refine d_val (y_as rfl (ev_of rfl)) rfl rfl (l' := _) rfl ?_
                          refine d_end (fun w56 s55 => ?_)
                          clear s51
                          simp only [List.append_nil, List.cons_append, List.nil_append] at s55
                          refine l_end ?_
                          refine x_thenN ?_
                          refine c_ret ?_
                          refine r1 rfl rfl ?_
                          exact ⟨by first | rfl | (simp; done) | exact congrArg Value.bool (decide_eq_true ⟨rfl, rfl⟩), s55.sub (by repeat first | with_reducible exact Sub.refl _ | exact Sub.nil _ | refine Sub.take (by repeat first | with_reducible exact Take.here _ _ | apply Take.there) ?_ | refine Sub.skip _ ?_)⟩
end Go.Proofs.Ytpchomihojidpaa
