/- A copy of a grid. -/
import Derived.Test.YtpchomihojidpaaTy
import Derived.Test.YtpchomihojidpaaSlC
import Derived.Test.YtpchomihojidpaaGh
import Derived.Test.YtpchomihojidpaaSc
import Derived.Test.YtpchomihojidpaaGs
import Derived.Test.YtpchomihojidpaaSlD
import Derived.KernelRfl
namespace Go.Proofs.Ytpchomihojidpaa
open Go.SL
theorem FnGc.call214 : callB Try.prog 214 = true := by kernel_rfl
theorem FnGc.call215 : callB Try.prog 215 = true := by kernel_rfl
theorem FnGc.call262 : callB Try.prog 262 = true := by kernel_rfl
theorem TyGc.agg196 : aggB Try.prog 196 = true := by kernel_rfl
theorem TyGc.agg294 : aggB Try.prog 294 = true := by kernel_rfl
theorem TyGc.size196 : sizeB Try.prog 196 = some 4 := by kernel_rfl
theorem TyGc.size294 : sizeB Try.prog 294 = some 3 := by kernel_rfl
theorem TyGc.some196 : someU Try.prog 196 = true := by kernel_rfl
theorem TyGc.some294 : someU Try.prog 294 = true := by kernel_rfl
set_option linter.unusedVariables false
set_option linter.unusedSimpArgs false
attribute [local irreducible] wpList WD WP Region.wanted Code.wp
theorem y_seqnil {α : Type} {c : Ty α} {P : Program} {e : Env} {o : Oper} {l : List Value} {L : List Asn} {T T' E : TypeId} {x y : Operand} {v : Value} {xs : List α} (ho : o.op = .binOp .eql T x y T') (hT : elemB P T = some E) (hx : ev l x = v) (hy : ev l y = .slice none 0 0) (hr : Ent L (SlR c v xs)) (hne : 0 < xs.length) : Yl e P o l L (.bool false) := fun w s => by
  obtain ⟨A, k, rfl, hk, m⟩ := hr.at s
  cases A with
  | none => simp only at m; subst m; simp at hne
  | some a =>
    exact run_cmp (e := e) (L := L) .eql T x y T' ho hx hy (fun w => rfl) (fun w => run_beq rfl fun d => by
      simp only [Op.equalIn, Sem.run_bind, run_und (elemB_und hT), Result.andThen_ok]; rfl) w s
theorem ptrs_set {ns bs : List Nat} {i c : Nat} (hn : ns.length = i) (hi : i < bs.length) : (ptrs (ns ++ bs.drop i)).set i (some ⟨c, 0, none⟩) = ptrs ((ns ++ [c]) ++ bs.drop (i + 1)) := by
  have h1 : (ptrs ns).length = i := by rw [ptrs_len]; exact hn
  have h2 : bs.drop i = bs[i] :: bs.drop (i + 1) := List.drop_eq_getElem_cons hi
  unfold ptrs at *
  rw [List.map_append, List.set_append_right _ _ (by omega), h1, Nat.sub_self, h2, List.map_cons, List.set_cons_zero, List.map_append, List.map_append, List.append_assoc]
  rfl
theorem copy_join {e : Env} {w : World} {L1 L2 : List Asn} {W H k b : Nat} {vs : List Int} {ns : List Nat} (hb : ns.length = k)
    (s : SL e w (SlabA b (tileW W (k % nT W)) (tileW H (k / nT W)) (tileV W H vs k) :: L1)) (t : Take L1 (Box ((List.range k).map (tileA W H vs ns))) L2) : SL e w (Box ((List.range (k + 1)).map (tileA W H vs (ns ++ [b]))) :: L2) := by
  have s2 : SL e w (_ :: _ :: L2) := ⟨s.env, Sat.tail (fun _ h => t.sat h) s.sat⟩
  have s3 := s2.boxSnoc
  have hm : (List.range k).map (tileA W H vs ns) = (List.range k).map (tileA W H vs (ns ++ [b])) := by
    apply List.map_congr_left
    intro j hj
    have hj := List.mem_range.1 hj
    simp only [tileA, List.getD_eq_getElem?_getD, List.getElem?_append_left (show j < ns.length by omega)]
  rw [hm, show SlabA b (tileW W (k % nT W)) (tileW H (k / nT W)) (tileV W H vs k) = tileA W H vs (ns ++ [b]) k from by simp [tileA, ← hb], range_snoc] at s3
  exact s3
set_option maxHeartbeats 4000000 in
set_option maxRecDepth 100000 in
/-- slices.Clone[hachure/slab.rough,int32] -/
theorem cloneR_c {e : Env} {L : List Asn} {w : World} {v : Value} {xs : List Int} (s : SL e w L) (hv : Ent L (SlR I32 v xs)) (h0 : 0 < xs.length) (h1 : xs.length ≤ 100000) :
    Calls Try.prog 262 #[v] w (Rets fun r w' => SL e w' (Arr I32 21 r xs :: L)) := by
  refine enter Try.func262 rfl (l := [v, undef, undef, undef, undef, undef, undef, undef]) rfl ?_
  refine c_seq ?_
  refine c_region ?_
  refine l_val s (y_as rfl (ev_of rfl)) rfl rfl (l' := [_,_,_,_,_,_,_,_]) rfl ?_
  refine l_end ?_
  refine x_thenN ?_
  refine c_seq ?_
  refine c_seq ?_
  refine c_region ?_
  refine l_val s (y_mv rfl (ev_of rfl)) rfl rfl (l' := [_,_,_,_,_,_,_,_]) rfl ?_
  refine l_val s (y_seqnil (c := I32) rfl Ty.elem344 (ev_of rfl) (ev_of rfl) hv h0) rfl rfl (l' := [_,_,_,_,_,_,_,_]) rfl ?_
  refine l_end ?_
  refine x_thenN ?_
  refine c_if rfl (fun hc0 => ?_) (fun hc0 => ?_)
  · (try simp only [decide_eq_true_eq, decide_eq_false_iff_not, Bool.not_eq_true', Bool.not_eq_false'] at hc0)
    first | done | (exfalso; omega) | contradiction | (exfalso; simp_all; done)
  · (try simp only [decide_eq_true_eq, decide_eq_false_iff_not, Bool.not_eq_true', Bool.not_eq_false'] at hc0)
    refine c_skip ?_
    refine x_thenN ?_
    refine c_seq ?_
    refine c_region ?_
    refine l_bs s rfl rfl rfl Ty.elem344 Ty.size21 Ty.zero21 (zs := []) rfl (vs := []) rfl (ps := []) rfl (by intro q hq; simp only [List.zip_cons_cons, List.zip_nil_right, List.zip_nil_left, List.mem_cons, List.not_mem_nil, or_false] at hq <;> cases hq) (cells := []) rfl (by decide) (fun b3 w2 s1 => ?_)
    clear s
    refine nlL (l' := [_,_,_,_,_,_,_,_]) rfl ?_
    replace s1 := s1.imp (blk_arr (c := I32) (n := 0) (xs := []) rfl rfl)
    refine l_val s1 (y_mv rfl (ev_of rfl)) rfl rfl (l' := [_,_,_,_,_,_,_,_]) rfl ?_
    refine l_append s1 (by repeat first | with_reducible exact Take.here _ _ | apply Take.there) rfl rfl rfl Ty.elem344 Ty.size21 Ty.bytes21 Ty.zero21 rfl (ev_of rfl) (ev_of rfl) (by first | (repeat first | assumption | with_reducible exact ent_blk | with_reducible exact Ent.here arr_reads | with_reducible exact Ent.here one_I64 | with_reducible exact Ent.here one_Cell | refine Ent.there ?_); done | (repeat first | assumption | with_reducible exact ent_blk | exact Ent.here arr_reads | exact Ent.here one_I64 | exact Ent.here one_Cell | exact Ent.here one_Bool | exact Ent.here one_Rect | refine Ent.there ?_)) (by simp only [List.length_nil]; omega) (by decide) (fun v6 w5 s4 => ?_)
    clear s1
    refine nlL (l' := [_,_,_,_,_,_,_,_]) rfl ?_
    refine l_val s4 (y_as rfl (ev_of rfl)) rfl rfl (l' := [_,_,_,_,_,_,_,_]) rfl ?_
    refine l_end ?_
    refine x_thenN ?_
    refine c_ret ?_
    refine r1 rfl rfl ?_
    rw [List.nil_append] at s4
    exact s4.sub (by first | (repeat first | with_reducible exact Sub.refl _ | refine Sub.skip _ ?_); done | (repeat first | with_reducible exact Sub.refl _ | exact Sub.nil _ | refine Sub.take (by repeat first | with_reducible exact Take.here _ _ | apply Take.there) ?_ | refine Sub.skip _ ?_))
set_option maxHeartbeats 4000000 in
set_option maxRecDepth 100000 in
/-- slices.Clone[[]*hachure/slab.Slab,*hachure/slab.Slab] -/
theorem cloneP_c {e : Env} {L : List Asn} {w : World} {v : Value} {xs : List (Option Addr)} (s : SL e w L) (hv : Ent L (SlR PtrT v xs)) (h0 : 0 < xs.length) (h1 : xs.length ≤ 100000) :
    Calls Try.prog 214 #[v] w (Rets fun r w' => SL e w' (Arr PtrT 198 r xs :: L)) := by
  refine enter Try.func214 rfl (l := [v, undef, undef, undef, undef, undef, undef, undef]) rfl ?_
  refine c_seq ?_
  refine c_region ?_
  refine l_val s (y_as rfl (ev_of rfl)) rfl rfl (l' := [_,_,_,_,_,_,_,_]) rfl ?_
  refine l_end ?_
  refine x_thenN ?_
  refine c_seq ?_
  refine c_seq ?_
  refine c_region ?_
  refine l_val s (y_mv rfl (ev_of rfl)) rfl rfl (l' := [_,_,_,_,_,_,_,_]) rfl ?_
  refine l_val s (y_seqnil (c := PtrT) rfl Ty.elem194 (ev_of rfl) (ev_of rfl) hv h0) rfl rfl (l' := [_,_,_,_,_,_,_,_]) rfl ?_
  refine l_end ?_
  refine x_thenN ?_
  refine c_if rfl (fun hc0 => ?_) (fun hc0 => ?_)
  · (try simp only [decide_eq_true_eq, decide_eq_false_iff_not, Bool.not_eq_true', Bool.not_eq_false'] at hc0)
    first | done | (exfalso; omega) | contradiction | (exfalso; simp_all; done)
  · (try simp only [decide_eq_true_eq, decide_eq_false_iff_not, Bool.not_eq_true', Bool.not_eq_false'] at hc0)
    refine c_skip ?_
    refine x_thenN ?_
    refine c_seq ?_
    refine c_region ?_
    refine l_bs s rfl rfl rfl Ty.elem194 Ty.size198 Ty.zero198 (zs := []) rfl (vs := []) rfl (ps := []) rfl (by intro q hq; simp only [List.zip_cons_cons, List.zip_nil_right, List.zip_nil_left, List.mem_cons, List.not_mem_nil, or_false] at hq <;> cases hq) (cells := []) rfl (by decide) (fun b3 w2 s1 => ?_)
    clear s
    refine nlL (l' := [_,_,_,_,_,_,_,_]) rfl ?_
    replace s1 := s1.imp (blk_arr (c := PtrT) (n := 0) (xs := []) rfl rfl)
    refine l_val s1 (y_mv rfl (ev_of rfl)) rfl rfl (l' := [_,_,_,_,_,_,_,_]) rfl ?_
    refine l_append s1 (by repeat first | with_reducible exact Take.here _ _ | apply Take.there) rfl rfl rfl Ty.elem194 Ty.size198 Ty.bytes198 Ty.zero198 rfl (ev_of rfl) (ev_of rfl) (by first | (repeat first | assumption | with_reducible exact ent_blk | with_reducible exact Ent.here arr_reads | with_reducible exact Ent.here one_I64 | with_reducible exact Ent.here one_Cell | refine Ent.there ?_); done | (repeat first | assumption | with_reducible exact ent_blk | exact Ent.here arr_reads | exact Ent.here one_I64 | exact Ent.here one_Cell | exact Ent.here one_Bool | exact Ent.here one_Rect | refine Ent.there ?_)) (by simp only [List.length_nil]; omega) (by decide) (fun v6 w5 s4 => ?_)
    clear s1
    refine nlL (l' := [_,_,_,_,_,_,_,_]) rfl ?_
    refine l_val s4 (y_as rfl (ev_of rfl)) rfl rfl (l' := [_,_,_,_,_,_,_,_]) rfl ?_
    refine l_end ?_
    refine x_thenN ?_
    refine c_ret ?_
    refine r1 rfl rfl ?_
    rw [List.nil_append] at s4
    exact s4.sub (by first | (repeat first | with_reducible exact Sub.refl _ | refine Sub.skip _ ?_); done | (repeat first | with_reducible exact Sub.refl _ | exact Sub.nil _ | refine Sub.take (by repeat first | with_reducible exact Take.here _ _ | apply Take.there) ?_ | refine Sub.skip _ ?_))
set_option maxHeartbeats 4000000 in
set_option maxRecDepth 100000 in
/-- (*hachure/slab.Slab).Copy -/
theorem scopyF_c {e : Env} {L : List Asn} {w : World} {b W H : Nat} {n : Int} (s : SL e w L) (hb : Ent L (fun h => Blk b #[.int .i64 W, .int .i64 H, .iface 335 (.int .i32 n)] 294 h)) :
    Calls Try.prog 215 #[ptr b 0] w (Rets fun v w' => ∃ c, v = ptr c 0 ∧ SL e w' (Blk c #[.int .i64 W, .int .i64 H, .iface 335 (.int .i32 n)] 294 :: L)) := by
  refine enter Try.func215 rfl (l := [ptr b 0, undef, undef, undef, undef, undef, undef, undef, undef, undef, undef, undef, undef, undef, undef, undef, undef, undef, undef, undef, undef, undef, undef, undef]) rfl ?_
  refine c_seq ?_
  refine c_region ?_
  refine l_val s (y_as rfl (ev_of rfl)) rfl rfl (l' := [_,_,_,_,_,_,_,_,_,_,_,_,_,_,_,_,_,_,_,_,_,_,_,_]) rfl ?_
  refine l_end ?_
  refine x_thenN ?_
  refine c_seq ?_
  refine c_seq ?_
  refine c_region ?_
  refine l_val s (y_mv rfl (ev_of rfl)) rfl rfl (l' := [_,_,_,_,_,_,_,_,_,_,_,_,_,_,_,_,_,_,_,_,_,_,_,_]) rfl ?_
  refine l_val s (y_peqnil rfl Ty.ptr198 (ev_of rfl) (ev_of rfl)) rfl rfl (l' := [_,_,_,_,_,_,_,_,_,_,_,_,_,_,_,_,_,_,_,_,_,_,_,_]) rfl ?_
  refine l_end ?_
  refine x_thenN ?_
  refine c_if rfl (fun hc0 => ?_) (fun hc0 => ?_)
  · (try simp only [decide_eq_true_eq, decide_eq_false_iff_not, Bool.not_eq_true', Bool.not_eq_false'] at hc0)
    first | done | (exfalso; omega) | contradiction | (exfalso; simp_all; done)
  · (try simp only [decide_eq_true_eq, decide_eq_false_iff_not, Bool.not_eq_true', Bool.not_eq_false'] at hc0)
    refine c_skip ?_
    refine x_thenN ?_
    refine c_seq ?_
    refine c_region ?_
    refine l_val s (y_mv rfl (ev_of rfl)) rfl rfl (l' := [_,_,_,_,_,_,_,_,_,_,_,_,_,_,_,_,_,_,_,_,_,_,_,_]) rfl ?_
    refine l_val s (y_nilCheck rfl (ev_of rfl)) rfl rfl (l' := [_,_,_,_,_,_,_,_,_,_,_,_,_,_,_,_,_,_,_,_,_,_,_,_]) rfl ?_
    refine l_val s (y_load_blk rfl TyGc.some294 TyGc.agg294 TyGc.size294 (ev_of rfl) (by first | (repeat first | assumption | with_reducible exact ent_blk | with_reducible exact Ent.here arr_reads | with_reducible exact Ent.here one_I64 | with_reducible exact Ent.here one_Cell | refine Ent.there ?_); done | (repeat first | assumption | with_reducible exact ent_blk | exact Ent.here arr_reads | exact Ent.here one_I64 | exact Ent.here one_Cell | exact Ent.here one_Bool | exact Ent.here one_Rect | refine Ent.there ?_)) rfl) rfl rfl (l' := [_,_,_,_,_,_,_,_,_,_,_,_,_,_,_,_,_,_,_,_,_,_,_,_]) rfl ?_
    refine l_alloc s rfl rfl rfl Ty.zero294 (fun b3 w2 s1 => ?_)
    change SL _ _ (Blk _ #[_, _, _] _ :: _) at s1
    clear s
    refine nlL (l' := [_,_,_,_,_,_,_,_,_,_,_,_,_,_,_,_,_,_,_,_,_,_,_,_]) rfl ?_
    refine l_stA s1 (by repeat first | with_reducible exact Take.here _ _ | apply Take.there) rfl rfl rfl TyGc.size294 (ev_of rfl) (ev_of rfl) rfl rfl (by first | (simp [Value.oneCell']; done) | (intro x hx; simp only [List.mem_toArray, List.mem_cons, List.not_mem_nil, or_false] at hx; rcases hx with rfl | rfl | rfl <;> first | rfl | assumption | exact arr_one (by first | (repeat first | assumption | with_reducible exact ent_blk | with_reducible exact Ent.here arr_reads | with_reducible exact Ent.here one_I64 | with_reducible exact Ent.here one_Cell | refine Ent.there ?_); done | (repeat first | assumption | with_reducible exact ent_blk | exact Ent.here arr_reads | exact Ent.here one_I64 | exact Ent.here one_Cell | exact Ent.here one_Bool | exact Ent.here one_Rect | refine Ent.there ?_)) s1)) (fun w5 s4 => ?_)
    clear s1
    refine l_end ?_
    refine x_thenN ?_
    refine c_seq ?_
    refine c_seq ?_
    refine c_region ?_
    refine l_val s4 (y_mv rfl (ev_of rfl)) rfl rfl (l' := [_,_,_,_,_,_,_,_,_,_,_,_,_,_,_,_,_,_,_,_,_,_,_,_]) rfl ?_
    refine l_val s4 (y_nilCheck rfl (ev_of rfl)) rfl rfl (l' := [_,_,_,_,_,_,_,_,_,_,_,_,_,_,_,_,_,_,_,_,_,_,_,_]) rfl ?_
    refine l_val s4 (y_fieldAddrB rfl Ty.fld294_2 Ty.size292 (ev_of rfl)) rfl rfl (l' := [_,_,_,_,_,_,_,_,_,_,_,_,_,_,_,_,_,_,_,_,_,_,_,_]) rfl ?_
    refine l_val s4 (y_load rfl Ty.some292 Ty.agg292 (ev_of rfl) (by repeat first | exact ent_cell rfl | exact ent_cell_of hb rfl | assumption | refine Ent.there ?_)) rfl rfl (l' := [_,_,_,_,_,_,_,_,_,_,_,_,_,_,_,_,_,_,_,_,_,_,_,_]) rfl ?_
    refine l_val s4 (y_asFalse rfl Ty.val344 Ty.zero344 (ev_of rfl) (by decide)) rfl rfl (l' := [_,_,_,_,_,_,_,_,_,_,_,_,_,_,_,_,_,_,_,_,_,_,_,_]) rfl ?_
    refine l_val s4 (y_mv rfl (ev_of rfl)) rfl rfl (l' := [_,_,_,_,_,_,_,_,_,_,_,_,_,_,_,_,_,_,_,_,_,_,_,_]) rfl ?_
    refine l_val s4 (y_extr rfl (ev_of rfl) rfl) rfl rfl (l' := [_,_,_,_,_,_,_,_,_,_,_,_,_,_,_,_,_,_,_,_,_,_,_,_]) rfl ?_
    refine l_val s4 (y_extr rfl (ev_of rfl) rfl) rfl rfl (l' := [_,_,_,_,_,_,_,_,_,_,_,_,_,_,_,_,_,_,_,_,_,_,_,_]) rfl ?_
    refine l_val s4 (y_as rfl (ev_of rfl)) rfl rfl (l' := [_,_,_,_,_,_,_,_,_,_,_,_,_,_,_,_,_,_,_,_,_,_,_,_]) rfl ?_
    refine l_val s4 (y_as rfl (ev_of rfl)) rfl rfl (l' := [_,_,_,_,_,_,_,_,_,_,_,_,_,_,_,_,_,_,_,_,_,_,_,_]) rfl ?_
    refine l_end ?_
    refine x_thenN ?_
    refine c_seq ?_
    refine c_region ?_
    refine l_val s4 (y_mv rfl (ev_of rfl)) rfl rfl (l' := [_,_,_,_,_,_,_,_,_,_,_,_,_,_,_,_,_,_,_,_,_,_,_,_]) rfl ?_
    refine l_end ?_
    refine x_thenN ?_
    refine c_if rfl (fun hc1 => ?_) (fun hc1 => ?_)
    · (try simp only [decide_eq_true_eq, decide_eq_false_iff_not, Bool.not_eq_true', Bool.not_eq_false'] at hc1)
      first | done | (exfalso; omega) | contradiction | (exfalso; simp_all; done)
    · (try simp only [decide_eq_true_eq, decide_eq_false_iff_not, Bool.not_eq_true', Bool.not_eq_false'] at hc1)
      refine c_skip ?_
      refine x_thenN ?_
      refine c_seq ?_
      refine c_region ?_
      refine l_val s4 (y_as rfl (ev_of rfl)) rfl rfl (l' := [_,_,_,_,_,_,_,_,_,_,_,_,_,_,_,_,_,_,_,_,_,_,_,_]) rfl ?_
      refine l_end ?_
      refine x_thenN ?_
      refine c_ret ?_
      refine r1 rfl rfl ?_
      exact ⟨_, rfl, s4.sub (by first | (repeat first | with_reducible exact Sub.refl _ | refine Sub.skip _ ?_); done | (repeat first | with_reducible exact Sub.refl _ | exact Sub.nil _ | refine Sub.take (by repeat first | with_reducible exact Take.here _ _ | apply Take.there) ?_ | refine Sub.skip _ ?_))⟩
set_option maxHeartbeats 4000000 in
set_option maxRecDepth 100000 in
/-- (*hachure/slab.Slab).Copy -/
theorem scopyG_c {e : Env} {L : List Asn} {w : World} {b W H : Nat} {u : Value} {vs : List Int} (s : SL e w L) (hb : Ent L (fun h => Blk b #[.int .i64 W, .int .i64 H, .iface 344 u] 294 h)) (hu : Ent L (SlR I32 u vs)) (h0 : 0 < vs.length) (h1 : vs.length ≤ 100000) :
    Calls Try.prog 215 #[ptr b 0] w (Rets fun v w' => ∃ c r, v = ptr c 0 ∧ SL e w' (Blk c #[.int .i64 W, .int .i64 H, .iface 344 r] 294 :: Arr I32 21 r vs :: L)) := by
  refine enter Try.func215 rfl (l := [ptr b 0, undef, undef, undef, undef, undef, undef, undef, undef, undef, undef, undef, undef, undef, undef, undef, undef, undef, undef, undef, undef, undef, undef, undef]) rfl ?_
  refine c_seq ?_
  refine c_region ?_
  refine l_val s (y_as rfl (ev_of rfl)) rfl rfl (l' := [_,_,_,_,_,_,_,_,_,_,_,_,_,_,_,_,_,_,_,_,_,_,_,_]) rfl ?_
  refine l_end ?_
  refine x_thenN ?_
  refine c_seq ?_
  refine c_seq ?_
  refine c_region ?_
  refine l_val s (y_mv rfl (ev_of rfl)) rfl rfl (l' := [_,_,_,_,_,_,_,_,_,_,_,_,_,_,_,_,_,_,_,_,_,_,_,_]) rfl ?_
  refine l_val s (y_peqnil rfl Ty.ptr198 (ev_of rfl) (ev_of rfl)) rfl rfl (l' := [_,_,_,_,_,_,_,_,_,_,_,_,_,_,_,_,_,_,_,_,_,_,_,_]) rfl ?_
  refine l_end ?_
  refine x_thenN ?_
  refine c_if rfl (fun hc0 => ?_) (fun hc0 => ?_)
  · (try simp only [decide_eq_true_eq, decide_eq_false_iff_not, Bool.not_eq_true', Bool.not_eq_false'] at hc0)
    first | done | (exfalso; omega) | contradiction | (exfalso; simp_all; done)
  · (try simp only [decide_eq_true_eq, decide_eq_false_iff_not, Bool.not_eq_true', Bool.not_eq_false'] at hc0)
    refine c_skip ?_
    refine x_thenN ?_
    refine c_seq ?_
    refine c_region ?_
    refine l_val s (y_mv rfl (ev_of rfl)) rfl rfl (l' := [_,_,_,_,_,_,_,_,_,_,_,_,_,_,_,_,_,_,_,_,_,_,_,_]) rfl ?_
    refine l_val s (y_nilCheck rfl (ev_of rfl)) rfl rfl (l' := [_,_,_,_,_,_,_,_,_,_,_,_,_,_,_,_,_,_,_,_,_,_,_,_]) rfl ?_
    refine l_val s (y_load_blk rfl TyGc.some294 TyGc.agg294 TyGc.size294 (ev_of rfl) (by first | (repeat first | assumption | with_reducible exact ent_blk | with_reducible exact Ent.here arr_reads | with_reducible exact Ent.here one_I64 | with_reducible exact Ent.here one_Cell | refine Ent.there ?_); done | (repeat first | assumption | with_reducible exact ent_blk | exact Ent.here arr_reads | exact Ent.here one_I64 | exact Ent.here one_Cell | exact Ent.here one_Bool | exact Ent.here one_Rect | refine Ent.there ?_)) rfl) rfl rfl (l' := [_,_,_,_,_,_,_,_,_,_,_,_,_,_,_,_,_,_,_,_,_,_,_,_]) rfl ?_
    refine l_alloc s rfl rfl rfl Ty.zero294 (fun b3 w2 s1 => ?_)
    change SL _ _ (Blk _ #[_, _, _] _ :: _) at s1
    clear s
    refine nlL (l' := [_,_,_,_,_,_,_,_,_,_,_,_,_,_,_,_,_,_,_,_,_,_,_,_]) rfl ?_
    refine l_stA s1 (by repeat first | with_reducible exact Take.here _ _ | apply Take.there) rfl rfl rfl TyGc.size294 (ev_of rfl) (ev_of rfl) rfl rfl (by first | (simp [Value.oneCell']; done) | (intro x hx; simp only [List.mem_toArray, List.mem_cons, List.not_mem_nil, or_false] at hx; rcases hx with rfl | rfl | rfl <;> first | rfl | assumption | exact arr_one (by first | (repeat first | assumption | with_reducible exact ent_blk | with_reducible exact Ent.here arr_reads | with_reducible exact Ent.here one_I64 | with_reducible exact Ent.here one_Cell | refine Ent.there ?_); done | (repeat first | assumption | with_reducible exact ent_blk | exact Ent.here arr_reads | exact Ent.here one_I64 | exact Ent.here one_Cell | exact Ent.here one_Bool | exact Ent.here one_Rect | refine Ent.there ?_)) s1)) (fun w5 s4 => ?_)
    clear s1
    refine l_end ?_
    refine x_thenN ?_
    refine c_seq ?_
    refine c_seq ?_
    refine c_region ?_
    refine l_val s4 (y_mv rfl (ev_of rfl)) rfl rfl (l' := [_,_,_,_,_,_,_,_,_,_,_,_,_,_,_,_,_,_,_,_,_,_,_,_]) rfl ?_
    refine l_val s4 (y_nilCheck rfl (ev_of rfl)) rfl rfl (l' := [_,_,_,_,_,_,_,_,_,_,_,_,_,_,_,_,_,_,_,_,_,_,_,_]) rfl ?_
    refine l_val s4 (y_fieldAddrB rfl Ty.fld294_2 Ty.size292 (ev_of rfl)) rfl rfl (l' := [_,_,_,_,_,_,_,_,_,_,_,_,_,_,_,_,_,_,_,_,_,_,_,_]) rfl ?_
    refine l_val s4 (y_load rfl Ty.some292 Ty.agg292 (ev_of rfl) (by repeat first | exact ent_cell rfl | exact ent_cell_of hb rfl | assumption | refine Ent.there ?_)) rfl rfl (l' := [_,_,_,_,_,_,_,_,_,_,_,_,_,_,_,_,_,_,_,_,_,_,_,_]) rfl ?_
    refine l_val s4 (y_asTrue rfl Ty.val344 (ev_of rfl)) rfl rfl (l' := [_,_,_,_,_,_,_,_,_,_,_,_,_,_,_,_,_,_,_,_,_,_,_,_]) rfl ?_
    refine l_val s4 (y_mv rfl (ev_of rfl)) rfl rfl (l' := [_,_,_,_,_,_,_,_,_,_,_,_,_,_,_,_,_,_,_,_,_,_,_,_]) rfl ?_
    refine l_val s4 (y_extr rfl (ev_of rfl) rfl) rfl rfl (l' := [_,_,_,_,_,_,_,_,_,_,_,_,_,_,_,_,_,_,_,_,_,_,_,_]) rfl ?_
    refine l_val s4 (y_extr rfl (ev_of rfl) rfl) rfl rfl (l' := [_,_,_,_,_,_,_,_,_,_,_,_,_,_,_,_,_,_,_,_,_,_,_,_]) rfl ?_
    refine l_val s4 (y_as rfl (ev_of rfl)) rfl rfl (l' := [_,_,_,_,_,_,_,_,_,_,_,_,_,_,_,_,_,_,_,_,_,_,_,_]) rfl ?_
    refine l_val s4 (y_as rfl (ev_of rfl)) rfl rfl (l' := [_,_,_,_,_,_,_,_,_,_,_,_,_,_,_,_,_,_,_,_,_,_,_,_]) rfl ?_
    refine l_end ?_
    refine x_thenN ?_
    refine c_seq ?_
    refine c_region ?_
    refine l_val s4 (y_mv rfl (ev_of rfl)) rfl rfl (l' := [_,_,_,_,_,_,_,_,_,_,_,_,_,_,_,_,_,_,_,_,_,_,_,_]) rfl ?_
    refine l_end ?_
    refine x_thenN ?_
    refine c_if rfl (fun hc1 => ?_) (fun hc1 => ?_)
    · (try simp only [decide_eq_true_eq, decide_eq_false_iff_not, Bool.not_eq_true', Bool.not_eq_false'] at hc1)
      refine c_region ?_
      refine l_val s4 (y_mv rfl (ev_of rfl)) rfl rfl (l' := [_,_,_,_,_,_,_,_,_,_,_,_,_,_,_,_,_,_,_,_,_,_,_,_]) rfl ?_
      refine l_callL rfl rfl rfl FnGc.call262 (vs := [_]) rfl (cloneR_c s4 (by first | (repeat first | assumption | with_reducible exact ent_blk | with_reducible exact Ent.here arr_reads | with_reducible exact Ent.here one_I64 | with_reducible exact Ent.here one_Cell | refine Ent.there ?_); done | (repeat first | assumption | with_reducible exact ent_blk | exact Ent.here arr_reads | exact Ent.here one_I64 | exact Ent.here one_Cell | exact Ent.here one_Bool | exact Ent.here one_Rect | refine Ent.there ?_)) (by omega) (by omega)) ?_
      rintro qr w7 s6
      clear s4
      refine nlL (l' := [_,_,_,_,_,_,_,_,_,_,_,_,_,_,_,_,_,_,_,_,_,_,_,_]) rfl ?_
      refine l_val s6 (y_mkI rfl Ty.val344 (ev_of rfl)) rfl rfl (l' := [_,_,_,_,_,_,_,_,_,_,_,_,_,_,_,_,_,_,_,_,_,_,_,_]) rfl ?_
      refine l_val s6 (y_fieldAddrB rfl Ty.fld294_2 Ty.size292 (ev_of rfl)) rfl rfl (l' := [_,_,_,_,_,_,_,_,_,_,_,_,_,_,_,_,_,_,_,_,_,_,_,_]) rfl ?_
      refine l_store s6 rfl rfl rfl Ty.size292 (ev_of rfl) (ev_of rfl) (by first | rfl | exact arr_one (by first | (repeat first | assumption | with_reducible exact ent_blk | with_reducible exact Ent.here arr_reads | with_reducible exact Ent.here one_I64 | with_reducible exact Ent.here one_Cell | refine Ent.there ?_); done | (repeat first | assumption | with_reducible exact ent_blk | exact Ent.here arr_reads | exact Ent.here one_I64 | exact Ent.here one_Cell | exact Ent.here one_Bool | exact Ent.here one_Rect | refine Ent.there ?_)) s6) (by repeat first | exact Wr.blk (cells' := #[_, _, _]) (Nat.le_of_ble_eq_true rfl) rfl | apply Wr.there) (fun w9 s8 => ?_)
      clear s6
      refine l_end ?_
      refine x_thenN ?_
      refine c_seq ?_
      refine c_region ?_
      refine l_val s8 (y_as rfl (ev_of rfl)) rfl rfl (l' := [_,_,_,_,_,_,_,_,_,_,_,_,_,_,_,_,_,_,_,_,_,_,_,_]) rfl ?_
      refine l_end ?_
      refine x_thenN ?_
      refine c_ret ?_
      refine r1 rfl rfl ?_
      exact ⟨_, _, rfl, s8.sub (by first | (repeat first | with_reducible exact Sub.refl _ | refine Sub.skip _ ?_); done | (repeat first | with_reducible exact Sub.refl _ | exact Sub.nil _ | refine Sub.take (by repeat first | with_reducible exact Take.here _ _ | apply Take.there) ?_ | refine Sub.skip _ ?_))⟩
    · (try simp only [decide_eq_true_eq, decide_eq_false_iff_not, Bool.not_eq_true', Bool.not_eq_false'] at hc1)
      first | done | (exfalso; omega) | contradiction | (exfalso; simp_all; done)
theorem scopy_c {e : Env} {L : List Asn} {w : World} {b W H : Nat} {vs : List Int} (s : SL e w L) (ht : Has L (SlabA b W H vs)) :
    Calls Try.prog 215 #[ptr b 0] w (Rets fun v w' => ∃ c, v = ptr c 0 ∧ SL e w' (SlabA c W H vs :: L)) := by
  obtain ⟨L', t⟩ := ht
  obtain ⟨hok, ⟨n, hn, s1⟩ | ⟨u, s1⟩⟩ := slab_open (s.take t)
  · exact Rets.mono (scopyF_c s1 ent_blk) fun v w' ⟨c, h1, h2⟩ => ⟨c, h1, slab_shutF hok hn ⟨h2.env, Sat.tail (fun _ h => t.putSat (slab_satF hok hn h)) h2.sat⟩⟩
  · have h3 := hok.len; have h4 := hok.w0; have h5 := hok.w1; have h6 := hok.h0; have h7 := hok.h1
    have h8 : 1 * 1 ≤ W * H := Nat.mul_le_mul h4 h6
    have h9 : W * H ≤ 16 * 16 := Nat.mul_le_mul h5 h7
    exact Rets.mono (scopyG_c s1 ent_blk (Ent.there (Ent.here arr_reads)) (by omega) (by omega)) fun v w' ⟨c, r, h1, h2⟩ => ⟨c, h1, slab_shutG hok ⟨h2.env, Sat.tail (fun _ h => Sat.tail (fun _ h => t.putSat (slab_satG hok h)) h) h2.sat⟩⟩
set_option maxHeartbeats 4000000 in
set_option maxRecDepth 100000 in
/-- (*hachure/grid.Grid).Copy -/
theorem gcopy0_c {e : Env} {L : List Asn} {w : World} {b W H : Nat} {sv : Value} {bs : List Nat} {vs : List Int} (s : SL e w L) (hb : Ent L (fun h => Blk b (gridB W H sv) 196 h)) (hv : Ent L (SlR PtrT sv (ptrs bs))) (hs : SlabsIn L W H vs bs) (hl : bs.length = nT W * nT H) (hok : GridOk W H vs)  :
    Calls Try.prog 147 #[ptr b 0] w (Rets fun v w' => ∃ c, v = ptr c 0 ∧ SL e w' (GridA c W H vs :: L)) := by
  have hw0 := hok.w0; have hh0 := hok.h0; have hw1 := hok.w1; have hh1 := hok.h1
  have hpl := ptrs_len bs
  have hnn : nT W * nT H ≤ 64 * 64 := Nat.mul_le_mul (by unfold nT; omega) (by unfold nT; omega)
  have hpos : 0 < nT W * nT H := Nat.mul_pos (nT_pos hw0) (nT_pos hh0)
  have hpd : ∀ (ns : List Nat) (i : Nat), ns.length = i → i ≤ bs.length → (ptrs (ns ++ bs.drop i)).length = bs.length := fun ns i h1 h2 => by rw [ptrs_len, List.length_append, List.length_drop]; omega
  have hpg : ∀ (ns : List Nat) (i : Nat), ns.length = i → i < bs.length → (ptrs (ns ++ bs.drop i)).getD i none = some ⟨bs.getD i 0, 0, none⟩ := fun ns i h1 h2 => by rw [ptrs_get (by rw [List.length_append, List.length_drop]; omega), List.getD_eq_getElem?_getD, List.getElem?_append_right (by omega), h1, Nat.sub_self, List.getElem?_drop, Nat.add_zero, List.getD_eq_getElem?_getD]
  refine enter Try.func147 rfl (l := [ptr b 0, undef, undef, undef, undef, undef, undef, undef, undef, undef, undef, undef, undef, undef, undef, undef, undef, undef, undef, undef, undef, undef, undef, undef, undef, undef, undef, undef, undef, undef, undef, undef]) rfl ?_
  refine c_seq ?_
  refine c_region ?_
  refine l_val s (y_as rfl (ev_of rfl)) rfl rfl (l' := [_,_,_,_,_,_,_,_,_,_,_,_,_,_,_,_,_,_,_,_,_,_,_,_,_,_,_,_,_,_,_,_]) rfl ?_
  refine l_end ?_
  refine x_thenN ?_
  refine c_seq ?_
  refine c_seq ?_
  refine c_region ?_
  refine l_val s (y_mv rfl (ev_of rfl)) rfl rfl (l' := [_,_,_,_,_,_,_,_,_,_,_,_,_,_,_,_,_,_,_,_,_,_,_,_,_,_,_,_,_,_,_,_]) rfl ?_
  refine l_val s (y_peqnil rfl Ty.ptr28 (ev_of rfl) (ev_of rfl)) rfl rfl (l' := [_,_,_,_,_,_,_,_,_,_,_,_,_,_,_,_,_,_,_,_,_,_,_,_,_,_,_,_,_,_,_,_]) rfl ?_
  refine l_end ?_
  refine x_thenN ?_
  refine c_if rfl (fun hc0 => ?_) (fun hc0 => ?_)
  · (try simp only [decide_eq_true_eq, decide_eq_false_iff_not, Bool.not_eq_true', Bool.not_eq_false'] at hc0)
    first | done | (exfalso; omega) | contradiction | (exfalso; simp_all; done)
  · (try simp only [decide_eq_true_eq, decide_eq_false_iff_not, Bool.not_eq_true', Bool.not_eq_false'] at hc0)
    refine c_skip ?_
    refine x_thenN ?_
    refine c_seq ?_
    refine c_region ?_
    refine l_val s (y_mv rfl (ev_of rfl)) rfl rfl (l' := [_,_,_,_,_,_,_,_,_,_,_,_,_,_,_,_,_,_,_,_,_,_,_,_,_,_,_,_,_,_,_,_]) rfl ?_
    refine l_val s (y_nilCheck rfl (ev_of rfl)) rfl rfl (l' := [_,_,_,_,_,_,_,_,_,_,_,_,_,_,_,_,_,_,_,_,_,_,_,_,_,_,_,_,_,_,_,_]) rfl ?_
    refine l_val s (y_load_blk rfl TyGc.some196 TyGc.agg196 TyGc.size196 (ev_of rfl) (by first | (repeat first | assumption | with_reducible exact ent_blk | with_reducible exact Ent.here arr_reads | with_reducible exact Ent.here one_I64 | with_reducible exact Ent.here one_Cell | refine Ent.there ?_); done | (repeat first | assumption | with_reducible exact ent_blk | exact Ent.here arr_reads | exact Ent.here one_I64 | exact Ent.here one_Cell | exact Ent.here one_Bool | exact Ent.here one_Rect | refine Ent.there ?_)) rfl) rfl rfl (l' := [_,_,_,_,_,_,_,_,_,_,_,_,_,_,_,_,_,_,_,_,_,_,_,_,_,_,_,_,_,_,_,_]) rfl ?_
    refine l_alloc s rfl rfl rfl Ty.zero196 (fun b3 w2 s1 => ?_)
    change SL _ _ (Blk _ #[_, _, _, _] _ :: _) at s1
    clear s
    refine nlL (l' := [_,_,_,_,_,_,_,_,_,_,_,_,_,_,_,_,_,_,_,_,_,_,_,_,_,_,_,_,_,_,_,_]) rfl ?_
    refine l_stA s1 (by repeat first | with_reducible exact Take.here _ _ | apply Take.there) rfl rfl rfl TyGc.size196 (ev_of rfl) (ev_of rfl) rfl rfl (by first | (simp [Value.oneCell']; done) | (intro x hx; simp only [List.mem_toArray, List.mem_cons, List.not_mem_nil, or_false] at hx; rcases hx with rfl | rfl | rfl | rfl <;> first | rfl | assumption | exact arr_one (by first | (repeat first | assumption | with_reducible exact ent_blk | with_reducible exact Ent.here arr_reads | with_reducible exact Ent.here one_I64 | with_reducible exact Ent.here one_Cell | refine Ent.there ?_); done | (repeat first | assumption | with_reducible exact ent_blk | exact Ent.here arr_reads | exact Ent.here one_I64 | exact Ent.here one_Cell | exact Ent.here one_Bool | exact Ent.here one_Rect | refine Ent.there ?_)) s1)) (fun w5 s4 => ?_)
    clear s1
    refine l_end ?_
    refine x_thenN ?_
    refine c_seq ?_
    refine c_region ?_
    refine l_val s4 (y_mv rfl (ev_of rfl)) rfl rfl (l' := [_,_,_,_,_,_,_,_,_,_,_,_,_,_,_,_,_,_,_,_,_,_,_,_,_,_,_,_,_,_,_,_]) rfl ?_
    refine l_val s4 (y_nilCheck rfl (ev_of rfl)) rfl rfl (l' := [_,_,_,_,_,_,_,_,_,_,_,_,_,_,_,_,_,_,_,_,_,_,_,_,_,_,_,_,_,_,_,_]) rfl ?_
    refine l_val s4 (y_fieldAddrB rfl Ty.fld196_3 Ty.size194 (ev_of rfl)) rfl rfl (l' := [_,_,_,_,_,_,_,_,_,_,_,_,_,_,_,_,_,_,_,_,_,_,_,_,_,_,_,_,_,_,_,_]) rfl ?_
    refine l_val s4 (y_load rfl Ty.some194 Ty.agg194 (ev_of rfl) (by repeat first | exact ent_cell rfl | exact ent_cell_of hb rfl | assumption | refine Ent.there ?_)) rfl rfl (l' := [_,_,_,_,_,_,_,_,_,_,_,_,_,_,_,_,_,_,_,_,_,_,_,_,_,_,_,_,_,_,_,_]) rfl ?_
    refine l_callL rfl rfl rfl FnGc.call214 (vs := [_]) rfl (cloneP_c s4 (by first | (repeat first | assumption | with_reducible exact ent_blk | with_reducible exact Ent.here arr_reads | with_reducible exact Ent.here one_I64 | with_reducible exact Ent.here one_Cell | refine Ent.there ?_); done | (repeat first | assumption | with_reducible exact ent_blk | exact Ent.here arr_reads | exact Ent.here one_I64 | exact Ent.here one_Cell | exact Ent.here one_Bool | exact Ent.here one_Rect | refine Ent.there ?_)) (by omega) (by omega)) ?_
    rintro z w7 s6
    clear s4
    refine nlL (l' := [_,_,_,_,_,_,_,_,_,_,_,_,_,_,_,_,_,_,_,_,_,_,_,_,_,_,_,_,_,_,_,_]) rfl ?_
    refine l_val s6 (y_fieldAddrB rfl Ty.fld196_3 Ty.size194 (ev_of rfl)) rfl rfl (l' := [_,_,_,_,_,_,_,_,_,_,_,_,_,_,_,_,_,_,_,_,_,_,_,_,_,_,_,_,_,_,_,_]) rfl ?_
    refine l_store s6 rfl rfl rfl Ty.size194 (ev_of rfl) (ev_of rfl) (by first | rfl | exact arr_one (by first | (repeat first | assumption | with_reducible exact ent_blk | with_reducible exact Ent.here arr_reads | with_reducible exact Ent.here one_I64 | with_reducible exact Ent.here one_Cell | refine Ent.there ?_); done | (repeat first | assumption | with_reducible exact ent_blk | exact Ent.here arr_reads | exact Ent.here one_I64 | exact Ent.here one_Cell | exact Ent.here one_Bool | exact Ent.here one_Rect | refine Ent.there ?_)) s6) (by repeat first | exact Wr.blk (cells' := #[_, _, _, _]) (Nat.le_of_ble_eq_true rfl) rfl | apply Wr.there) (fun w9 s8 => ?_)
    clear s6
    refine l_end ?_
    refine x_thenN ?_
    refine c_seq ?_
    refine c_seq ?_
    refine c_region ?_
    refine l_val s8 (y_fieldAddrB rfl Ty.fld196_3 Ty.size194 (ev_of rfl)) rfl rfl (l' := [_,_,_,_,_,_,_,_,_,_,_,_,_,_,_,_,_,_,_,_,_,_,_,_,_,_,_,_,_,_,_,_]) rfl ?_
    refine l_val s8 (y_load rfl Ty.some194 Ty.agg194 (ev_of rfl) (by repeat first | exact ent_cell rfl | exact ent_cell_of hb rfl | assumption | refine Ent.there ?_)) rfl rfl (l' := [_,_,_,_,_,_,_,_,_,_,_,_,_,_,_,_,_,_,_,_,_,_,_,_,_,_,_,_,_,_,_,_]) rfl ?_
    refine l_val s8 (y_len (c := PtrT) (xs := ptrs bs) rfl rfl Ty.elem194 (ev_of rfl) (by first | (repeat first | assumption | with_reducible exact ent_blk | with_reducible exact Ent.here arr_reads | with_reducible exact Ent.here one_I64 | with_reducible exact Ent.here one_Cell | refine Ent.there ?_); done | (repeat first | assumption | with_reducible exact ent_blk | exact Ent.here arr_reads | exact Ent.here one_I64 | exact Ent.here one_Cell | exact Ent.here one_Bool | exact Ent.here one_Rect | refine Ent.there ?_))) rfl rfl (l' := [_,_,_,_,_,_,_,_,_,_,_,_,_,_,_,_,_,_,_,_,_,_,_,_,_,_,_,_,_,_,_,_]) rfl ?_
    refine l_val s8 (y_mv rfl (ev_of rfl)) rfl rfl (l' := [_,_,_,_,_,_,_,_,_,_,_,_,_,_,_,_,_,_,_,_,_,_,_,_,_,_,_,_,_,_,_,_]) rfl ?_
    refine l_end ?_
    refine x_thenN ?_
    refine c_block ?_
    rw [show ptrs bs = ptrs ([] ++ bs.drop 0) from rfl] at s8
    replace s8 := s8.nilBox
    change SL _ _ (Box ((List.range 0).map (tileA W H vs [])) :: _) at s8
    refine c_loop [false, false, false, false, true, true, false, false, false, false, false, false, false, false, false, false, false, false, false, false, true, true, true, true, true, true, true, true, true, true, true, true] (fun mu ds w => ∃ (i : Nat) (ns : List Nat) (d4 d5 d21 d22 d23 d24 d25 d26 d27 d28 d29 d30 d31 : Value), ds = [d4, d5, (.int .i64 (i : Int)), d21, d22, d23, d24, d25, d26, d27, d28, d29, d30, d31] ∧ mu = bs.length - i ∧ SL e w (Arr PtrT 198 z (ptrs (ns ++ bs.drop i)) :: Box ((List.range i).map (tileA W H vs ns)) :: Blk b3 (gridB W H z) 196 :: L) ∧ (i ≤ bs.length ∧ ns.length = i)) (ds := [_, _, _, _, _, _, _, _, _, _, _, _, _, _]) rfl ⟨0, [], _, _, _, _, _, _, _, _, _, _, _, _, _, rfl, rfl, ?_, ?_⟩ ?_
    · first | exact s8 | exact s8.sub (by first | (repeat first | with_reducible exact Sub.refl _ | refine Sub.skip _ ?_); done | (repeat first | with_reducible exact Sub.refl _ | exact Sub.nil _ | refine Sub.take (by repeat first | with_reducible exact Take.here _ _ | apply Take.there) ?_ | refine Sub.skip _ ?_))
    · exact ⟨by omega, rfl⟩
    · clear s8
      rintro n12 ds13 w11 ⟨i, ns, d4, d5, d21, d22, d23, d24, d25, d26, d27, d28, d29, d30, d31, rfl, rfl, s10, hI⟩
      refine nlC (l' := [_,_,_,_,_,_,_,_,_,_,_,_,_,_,_,_,_,_,_,_,_,_,_,_,_,_,_,_,_,_,_,_]) rfl ?_
      refine c_seq ?_
      refine c_region ?_
      refine l_val s10 (y_lss rfl (ev_of rfl) (ev_of rfl)) rfl rfl (l' := [_,_,_,_,_,_,_,_,_,_,_,_,_,_,_,_,_,_,_,_,_,_,_,_,_,_,_,_,_,_,_,_]) rfl ?_
      refine l_end ?_
      refine x_thenN ?_
      refine c_seq ?_
      refine c_if rfl (fun hc1 => ?_) (fun hc1 => ?_)
      · (try simp only [decide_eq_true_eq, decide_eq_false_iff_not, Bool.not_eq_true', Bool.not_eq_false'] at hc1)
        refine c_skip ?_
        refine x_thenN ?_
        refine c_seq ?_
        refine c_block ?_
        refine c_seq ?_
        refine c_region ?_
        refine l_val s10 (y_mv rfl (ev_of rfl)) rfl rfl (l' := [_,_,_,_,_,_,_,_,_,_,_,_,_,_,_,_,_,_,_,_,_,_,_,_,_,_,_,_,_,_,_,_]) rfl ?_
        refine l_val s10 (y_idx (c := PtrT) (n := i) rfl Ty.elem194 Ty.size198 (ev_of rfl) (ev_of rfl) (by first | (repeat first | assumption | with_reducible exact ent_blk | with_reducible exact Ent.here arr_reads | with_reducible exact Ent.here one_I64 | with_reducible exact Ent.here one_Cell | refine Ent.there ?_); done | (repeat first | assumption | with_reducible exact ent_blk | exact Ent.here arr_reads | exact Ent.here one_I64 | exact Ent.here one_Cell | exact Ent.here one_Bool | exact Ent.here one_Rect | refine Ent.there ?_)) rfl (by rw [hpd ns i (by omega) (by omega)]; omega)) rfl rfl (l' := [_,_,_,_,_,_,_,_,_,_,_,_,_,_,_,_,_,_,_,_,_,_,_,_,_,_,_,_,_,_,_,_]) rfl ?_
        refine l_val s10 (y_ld (c := PtrT) (n := i) rfl Ty.some198 Ty.agg198 (ev_of rfl) (by first | (repeat first | assumption | with_reducible exact ent_blk | with_reducible exact Ent.here arr_reads | with_reducible exact Ent.here one_I64 | with_reducible exact Ent.here one_Cell | refine Ent.there ?_); done | (repeat first | assumption | with_reducible exact ent_blk | exact Ent.here arr_reads | exact Ent.here one_I64 | exact Ent.here one_Cell | exact Ent.here one_Bool | exact Ent.here one_Rect | refine Ent.there ?_)) (by rw [hpd ns i (by omega) (by omega)]; omega) (u := ptr (bs.getD i 0) 0) (congrArg (fun x => [Value.pointer x]) (hpg ns i (by omega) (by omega)))) rfl rfl (l' := [_,_,_,_,_,_,_,_,_,_,_,_,_,_,_,_,_,_,_,_,_,_,_,_,_,_,_,_,_,_,_,_]) rfl ?_
        refine l_val s10 (y_as rfl (ev_of rfl)) rfl rfl (l' := [_,_,_,_,_,_,_,_,_,_,_,_,_,_,_,_,_,_,_,_,_,_,_,_,_,_,_,_,_,_,_,_]) rfl ?_
        refine l_val s10 (y_as rfl (ev_of rfl)) rfl rfl (l' := [_,_,_,_,_,_,_,_,_,_,_,_,_,_,_,_,_,_,_,_,_,_,_,_,_,_,_,_,_,_,_,_]) rfl ?_
        refine l_end ?_
        refine x_thenN ?_
        have hti : Has L (SlabA (bs.getD i 0) (tileW W (i % nT W)) (tileW H (i / nT W)) (tileV W H vs i)) := hs i (by omega)
        apply c_drawn [] [0, 1, 2, 3, 4, 5] [6] [] [_] [(_, vq _), (_, vq _), (_, vq _), (_, vq _), (_, vb (fun c => ptr c 0) (fun c => SlabA c (tileW W (i % nT W)) (tileW H (i / nT W)) (tileV W H vs i))), (_, vq _)] s10 Ty.follows (by kernel_rfl) (fun _ _ _ h => h.2) rfl rfl rfl (by decide) ?_
        show WP _ _ _ _ _
        refine p_end ?_
        refine d_val (y_fieldAddrB rfl Ty.fld196_3 Ty.size194 (ev_of rfl)) rfl rfl (l' := [_,_,_,_,_,_,_,_,_,_,_,_,_,_,_,_,_,_,_,_,_,_,_,_,_,_,_,_,_,_,_,_]) rfl ?_
        refine d_val (y_load rfl Ty.some194 Ty.agg194 (ev_of rfl) (by repeat first | exact ent_cell rfl | exact ent_cell_of hb rfl | assumption | refine Ent.there ?_)) rfl rfl (l' := [_,_,_,_,_,_,_,_,_,_,_,_,_,_,_,_,_,_,_,_,_,_,_,_,_,_,_,_,_,_,_,_]) rfl ?_
        refine d_val (y_mv rfl (ev_of rfl)) rfl rfl (l' := [_,_,_,_,_,_,_,_,_,_,_,_,_,_,_,_,_,_,_,_,_,_,_,_,_,_,_,_,_,_,_,_]) rfl ?_
        refine d_val (y_mv rfl (ev_of rfl)) rfl rfl (l' := [_,_,_,_,_,_,_,_,_,_,_,_,_,_,_,_,_,_,_,_,_,_,_,_,_,_,_,_,_,_,_,_]) rfl ?_
        refine d_callRL rfl rfl rfl FnGc.call215 (vs := [_]) rfl ⟨_, _, 0, rfl, rfl⟩ (fun w M s => Rets.mono (scopy_c (W := tileW W (i % nT W)) (H := tileW H (i / nT W)) (vs := tileV W H vs i) s (Has.app (by repeat first | exact hti | apply Has.there) _)) fun u w2 ⟨c, h1, h2⟩ => ⟨_, ⟨c, h1, rfl⟩, h2⟩) ?_
        rintro _ _ ⟨ck, rfl, rfl⟩
        refine nlD (l' := [_,_,_,_,_,_,_,_,_,_,_,_,_,_,_,_,_,_,_,_,_,_,_,_,_,_,_,_,_,_,_,_]) rfl ?_
        refine d_val (y_idx (c := PtrT) (n := i) rfl Ty.elem194 Ty.size198 (ev_of rfl) (ev_of rfl) (by first | (repeat first | assumption | with_reducible exact ent_blk | with_reducible exact Ent.here arr_reads | with_reducible exact Ent.here one_I64 | with_reducible exact Ent.here one_Cell | refine Ent.there ?_); done | (repeat first | assumption | with_reducible exact ent_blk | exact Ent.here arr_reads | exact Ent.here one_I64 | exact Ent.here one_Cell | exact Ent.here one_Bool | exact Ent.here one_Rect | refine Ent.there ?_)) rfl (by rw [hpd ns i (by omega) (by omega)]; omega)) rfl rfl (l' := [_,_,_,_,_,_,_,_,_,_,_,_,_,_,_,_,_,_,_,_,_,_,_,_,_,_,_,_,_,_,_,_]) rfl ?_
        refine d_end (fun w16 s15 => ?_)
        clear s10
        simp only [List.append_nil, List.cons_append, List.nil_append] at s15
        refine l_stE (c := PtrT) (n := i) (some ⟨ck, 0, none⟩) s15 (by repeat first | with_reducible exact Take.here _ _ | apply Take.there) rfl rfl rfl Ty.size198 (ev_of rfl) (ev_of rfl) (by rw [hpd ns i (by omega) (by omega)]; omega) rfl (fun w18 s17 => ?_)
        clear s15
        refine l_end ?_
        refine x_blockN ?_
        refine x_thenN ?_
        refine c_region ?_
        refine l_val s17 (y_add rfl (ev_of rfl) (ev_of rfl) (by omega) (by omega)) rfl rfl (l' := [_,_,_,_,_,_,_,_,_,_,_,_,_,_,_,_,_,_,_,_,_,_,_,_,_,_,_,_,_,_,_,_]) rfl ?_
        refine l_val s17 (y_mv rfl (ev_of rfl)) rfl rfl (l' := [_,_,_,_,_,_,_,_,_,_,_,_,_,_,_,_,_,_,_,_,_,_,_,_,_,_,_,_,_,_,_,_]) rfl ?_
        refine l_end ?_
        refine x_thenN ?_
        rw [ptrs_set hI.2 (by omega)] at s17
        replace s17 := copy_join hI.2 (s17.take (by repeat first | with_reducible exact Take.here _ _ | apply Take.there)) (by repeat first | with_reducible exact Take.here _ _ | apply Take.there)
        refine ⟨_, [_, _, _, _, _, _, _, _, _, _, _, _, _, _], ?_, rfl, i + 1, ns ++ [ck], _, _, _, _, _, _, _, _, _, _, _, _, _, rfl, rfl, ?_, ?_⟩
        · omega
        · first | exact s17 | exact s17.sub (by first | (repeat first | with_reducible exact Sub.refl _ | refine Sub.skip _ ?_); done | (repeat first | with_reducible exact Sub.refl _ | exact Sub.nil _ | refine Sub.take (by repeat first | with_reducible exact Take.here _ _ | apply Take.there) ?_ | refine Sub.skip _ ?_))
        · exact ⟨by omega, by rw [List.length_append, hI.2]; rfl⟩
      · (try simp only [decide_eq_true_eq, decide_eq_false_iff_not, Bool.not_eq_true', Bool.not_eq_false'] at hc1)
        refine c_exit ?_
        refine x_thenE ?_
        refine x_thenE ?_
        refine x_hit ?_
        refine x_thenN ?_
        refine c_seq ?_
        refine c_region ?_
        refine l_val s10 (y_as rfl (ev_of rfl)) rfl rfl (l' := [_,_,_,_,_,_,_,_,_,_,_,_,_,_,_,_,_,_,_,_,_,_,_,_,_,_,_,_,_,_,_,_]) rfl ?_
        refine l_end ?_
        refine x_thenN ?_
        refine c_ret ?_
        refine r1 rfl rfl ?_
        obtain rfl : i = bs.length := by omega
        rw [List.drop_length, List.append_nil, hl] at s10
        exact ⟨_, rfl, grid_shutB hok (by rw [hI.2]; exact hl) (s10.sub (by first | (repeat first | with_reducible exact Sub.refl _ | refine Sub.skip _ ?_); done | (repeat first | with_reducible exact Sub.refl _ | exact Sub.nil _ | refine Sub.take (by repeat first | with_reducible exact Take.here _ _ | apply Take.there) ?_ | refine Sub.skip _ ?_)))⟩
theorem gcopy_c {e : Env} {L : List Asn} {w : World} {b W H : Nat} {vs : List Int} (s : SL e w L) (hg : Has L (GridA b W H vs)) : Calls Try.prog 147 #[ptr b 0] w (Rets fun v w' => ∃ c, v = ptr c 0 ∧ SL e w' (GridA c W H vs :: L)) := by
  obtain ⟨L', t⟩ := hg
  obtain ⟨hok, sv, bs, hl, s1⟩ := grid_open (s.take t)
  exact Rets.mono (gcopy0_c s1 ent_blk (Ent.there (Ent.here arr_reads)) grid_in hl hok) fun v w' ⟨c, h, s2⟩ => ⟨c, h, grid_back1 hok hl t s2⟩
end Go.Proofs.Ytpchomihojidpaa
