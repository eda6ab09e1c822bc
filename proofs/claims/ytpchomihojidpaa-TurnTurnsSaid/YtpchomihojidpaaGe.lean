/- What a grid is in memory: its size, one cell. -/
import Derived.Test.YtpchomihojidpaaTy
import Derived.Test.YtpchomihojidpaaSlC
import Derived.Test.YtpchomihojidpaaGd
import Derived.KernelRfl
namespace Go.Proofs.Ytpchomihojidpaa
open Go.SL
set_option linter.unusedVariables false
set_option linter.unusedSimpArgs false
attribute [local irreducible] wpList WD WP Region.wanted Code.wp
def nT (n : Nat) : Nat := (n + 15) / 16
def tileW (W k : Nat) : Nat := min 16 (W - 16 * k)
structure GridOk (W H : Nat) (vs : List Int) : Prop where
  w0 : 1 ≤ W
  w1 : W ≤ 1024
  h0 : 1 ≤ H
  h1 : H ≤ 1024
  len : vs.length = W * H
  ok : OkV vs
/-- a tile's cells -/
def tileV (W H : Nat) (vs : List Int) (k : Nat) : List Int :=
  (List.range (tileW W (k % nT W) * tileW H (k / nT W))).map fun i => vs.getD ((16 * (k / nT W) + i / tileW W (k % nT W)) * W + (16 * (k % nT W) + i % tileW W (k % nT W))) 0
def tileA (W H : Nat) (vs : List Int) (bs : List Nat) (k : Nat) : Asn := SlabA (bs.getD k 0) (tileW W (k % nT W)) (tileW H (k / nT W)) (tileV W H vs k)
def Slabs (W H : Nat) (vs : List Int) (bs : List Nat) : List Asn := (List.range (nT W * nT H)).map (tileA W H vs bs)
def ptrs (bs : List Nat) : List (Option Addr) := bs.map fun b => some ⟨b, 0, none⟩
abbrev gridB (W H : Nat) (sv : Value) : Array Value := #[.int .i64 W, .int .i64 H, .int .i64 (nT W : Nat), sv]
/-- a grid, all of it ours -/
def GridA (b W H : Nat) (vs : List Int) : Asn := fun h => GridOk W H vs ∧ ∃ x : Value × List Nat, x.2.length = nT W * nT H ∧ Box (Blk b (gridB W H x.1) 196 :: Arr PtrT 198 x.1 (ptrs x.2) :: Slabs W H vs x.2) h
theorem grid_open {e : Env} {w : World} {L : List Asn} {b W H : Nat} {vs : List Int} (s : SL e w (GridA b W H vs :: L)) : GridOk W H vs ∧ ∃ sv bs, bs.length = nT W * nT H ∧ SL e w (Blk b (gridB W H sv) 196 :: Arr PtrT 198 sv (ptrs bs) :: (Slabs W H vs bs ++ L)) := by
  obtain ⟨h1, h2, d, l1, l2, ⟨hok, ⟨sv, bs⟩, hl, hb⟩, s'⟩ := s.sat
  exact ⟨hok, sv, bs, hl, SL.unbox (L1 := _ :: _ :: Slabs W H vs bs) ⟨s.env, h1, h2, d, l1, l2, hb, s'⟩⟩
theorem grid_shut {e : Env} {w : World} {L : List Asn} {b W H : Nat} {vs : List Int} {sv : Value} {bs : List Nat} (hok : GridOk W H vs) (hl : bs.length = nT W * nT H) (s : SL e w (Blk b (gridB W H sv) 196 :: Arr PtrT 198 sv (ptrs bs) :: (Slabs W H vs bs ++ L))) : SL e w (GridA b W H vs :: L) :=
  (SL.box (L1 := _ :: _ :: Slabs W H vs bs) s).imp fun h hb => ⟨hok, (sv, bs), hl, hb⟩
theorem slabs_get {W H : Nat} {vs : List Int} {bs : List Nat} {k : Nat} (hk : k < nT W * nT H) : (Slabs W H vs bs)[k]? = some (tileA W H vs bs k) := by
  simp [Slabs, hk]
theorem slabs_take {W H : Nat} {vs : List Int} {bs : List Nat} {k : Nat} (hk : k < nT W * nT H) (L : List Asn) : Take (Slabs W H vs bs ++ L) (tileA W H vs bs k) ((Slabs W H vs bs).eraseIdx k ++ L) :=
  Take.of_mem (slabs_get hk) L
theorem nT_pos {n : Nat} (h : 1 ≤ n) : 1 ≤ nT n := by unfold nT; omega
theorem nT_lt {n x : Nat} (h : x < n) : x / 16 < nT n := by unfold nT; omega
theorem tileW_of {W x : Nat} (h : x < W) : x % 16 < tileW W (x / 16) ∧ 1 ≤ tileW W (x / 16) ∧ tileW W (x / 16) ≤ 16 := by unfold tileW; omega
/-- which tile -/
def tix (W x y : Nat) : Nat := y / 16 * nT W + x / 16
theorem tix_mod {W x y : Nat} (hx : x < W) : tix W x y % nT W = x / 16 := by
  unfold tix; rw [Nat.mul_comm, Nat.mul_add_mod]; exact Nat.mod_eq_of_lt (nT_lt hx)
theorem tix_div {W x y : Nat} (hx : x < W) : tix W x y / nT W = y / 16 := by
  unfold tix
  have h := nT_lt hx
  rw [Nat.mul_comm, Nat.mul_add_div (by omega), Nat.div_eq_of_lt h, Nat.add_zero]
theorem tix_lt {W H x y : Nat} (hx : x < W) (hy : y < H) : tix W x y < nT W * nT H := by
  unfold tix
  have h1 := nT_lt hx; have h2 := nT_lt hy
  have h3 : (y / 16 + 1) * nT W ≤ nT H * nT W := Nat.mul_le_mul_right _ h2
  rw [Nat.add_mul, Nat.one_mul] at h3
  rw [Nat.mul_comm (nT W)]; omega
theorem tileV_get {W H x y : Nat} {vs : List Int} (hx : x < W) (hy : y < H) : (tileV W H vs (tix W x y)).getD (y % 16 * tileW W (x / 16) + x % 16) 0 = vs.getD (y * W + x) 0 := by
  obtain ⟨a1, a2, a3⟩ := tileW_of hx
  obtain ⟨b1, b2, b3⟩ := tileW_of hy
  have hlt : y % 16 * tileW W (x / 16) + x % 16 < tileW W (x / 16) * tileW H (y / 16) := by
    have h : (y % 16 + 1) * tileW W (x / 16) ≤ tileW H (y / 16) * tileW W (x / 16) := Nat.mul_le_mul_right _ b1
    rw [Nat.add_mul, Nat.one_mul] at h
    rw [Nat.mul_comm (tileW W _)]; omega
  unfold tileV
  rw [tix_mod hx, tix_div hx, List.getD_eq_getElem?_getD, List.getElem?_map, List.getElem?_range hlt]
  simp only [Option.map_some, Option.getD_some]
  have e1 : (y % 16 * tileW W (x / 16) + x % 16) / tileW W (x / 16) = y % 16 := by
    rw [Nat.mul_comm, Nat.mul_add_div (by omega), Nat.div_eq_of_lt a1, Nat.add_zero]
  have e2 : (y % 16 * tileW W (x / 16) + x % 16) % tileW W (x / 16) = x % 16 := by
    rw [Nat.mul_comm, Nat.mul_add_mod]; exact Nat.mod_eq_of_lt a1
  rw [e1, e2, show 16 * (y / 16) + y % 16 = y by omega, show 16 * (x / 16) + x % 16 = x by omega]
theorem ptrs_get {bs : List Nat} {k : Nat} (h : k < bs.length) : (ptrs bs).getD k none = some ⟨bs.getD k 0, 0, none⟩ := by
  simp [ptrs, List.getD_eq_getElem?_getD, h]
set_option maxHeartbeats 4000000 in
set_option maxRecDepth 100000 in
/-- (*hachure/grid.Grid).check -/
theorem gcheck0_c {e : Env} {L : List Asn} {w : World} {x0 y0 x1 y1 : Int} {b W H : Nat} {sv : Value} (s : SL e w L) (hb : Ent L (fun h => Blk b (gridB W H sv) 196 h)) (hw : W ≤ 4096) (hh : H ≤ 4096) :
    Calls Try.prog 161 #[ptr b 0, .agg #[.int .i64 x0, .int .i64 y0, .int .i64 x1, .int .i64 y1]] w (Rets fun v w' => v = .int .i64 (withinF x0 y0 x1 y1 W H) ∧ SL e w' L) := by
  refine enter Try.func161 rfl (l := [ptr b 0, .agg #[.int .i64 x0, .int .i64 y0, .int .i64 x1, .int .i64 y1], undef, undef, undef, undef, undef, undef, undef, undef, undef, undef, undef, undef, undef, undef, undef]) rfl ?_
  refine c_seq ?_
  refine c_region ?_
  refine l_box s rfl rfl rfl (ev_of rfl) (fun b3 w2 s1 => ?_)
  change SL _ _ (Blk _ #[_, _, _, _] _ :: _) at s1
  clear s
  refine nlL (l' := [_,_,_,_,_,_,_,_,_,_,_,_,_,_,_,_,_]) rfl ?_
  refine l_val s1 (y_as rfl (ev_of rfl)) rfl rfl (l' := [_,_,_,_,_,_,_,_,_,_,_,_,_,_,_,_,_]) rfl ?_
  refine l_end ?_
  refine x_thenN ?_
  refine c_seq ?_
  refine c_seq ?_
  refine c_region ?_
  refine l_val s1 (y_mv rfl (ev_of rfl)) rfl rfl (l' := [_,_,_,_,_,_,_,_,_,_,_,_,_,_,_,_,_]) rfl ?_
  refine l_val s1 (y_peqnil rfl Ty.ptr28 (ev_of rfl) (ev_of rfl)) rfl rfl (l' := [_,_,_,_,_,_,_,_,_,_,_,_,_,_,_,_,_]) rfl ?_
  refine l_end ?_
  refine x_thenN ?_
  refine c_if rfl (fun hc0 => ?_) (fun hc0 => ?_)
  · (try simp only [decide_eq_true_eq, decide_eq_false_iff_not, Bool.not_eq_true', Bool.not_eq_false'] at hc0)
    cases hc0
  · (try simp only [decide_eq_true_eq, decide_eq_false_iff_not, Bool.not_eq_true', Bool.not_eq_false'] at hc0)
    refine c_skip ?_
    refine x_thenN ?_
    refine c_seq ?_
    apply c_drawn [] [0, 1, 2, 3, 4, 5, 6, 7, 8, 9, 10] [] [] [] [(_, vq _), (_, vq _), (_, vq _), (_, vq _), (_, vq _), (_, vq _), (_, vq _), (_, vq _), (_, vq _), (_, vq _), (_, vq _)] s1 Ty.follows (by kernel_rfl) (fun _ _ _ h => h.2) rfl rfl rfl (by decide) ?_
    show WP _ _ _ _ _
    refine p_end ?_
    refine d_val (y_load_blk rfl Ty.some58 Ty.agg58 Ty.size58 (ev_of rfl) (by repeat first | exact ent_blk | refine Ent.there ?_) rfl) rfl rfl (l' := [_,_,_,_,_,_,_,_,_,_,_,_,_,_,_,_,_]) rfl ?_
    refine d_val (y_mv rfl (ev_of rfl)) rfl rfl (l' := [_,_,_,_,_,_,_,_,_,_,_,_,_,_,_,_,_]) rfl ?_
    refine d_val (y_nilCheck rfl (ev_of rfl)) rfl rfl (l' := [_,_,_,_,_,_,_,_,_,_,_,_,_,_,_,_,_]) rfl ?_
    refine d_val (y_fieldAddrB rfl Ty.fld196_0 Ty.size2 (ev_of rfl)) rfl rfl (l' := [_,_,_,_,_,_,_,_,_,_,_,_,_,_,_,_,_]) rfl ?_
    refine d_val (y_load rfl Ty.some2 Ty.agg2 (ev_of rfl) (by repeat first | exact ent_cell rfl | exact ent_cell_of hb rfl | assumption | refine Ent.there ?_)) rfl rfl (l' := [_,_,_,_,_,_,_,_,_,_,_,_,_,_,_,_,_]) rfl ?_
    refine d_val (y_mv rfl (ev_of rfl)) rfl rfl (l' := [_,_,_,_,_,_,_,_,_,_,_,_,_,_,_,_,_]) rfl ?_
    refine d_val (y_nilCheck rfl (ev_of rfl)) rfl rfl (l' := [_,_,_,_,_,_,_,_,_,_,_,_,_,_,_,_,_]) rfl ?_
    refine d_val (y_fieldAddrB rfl Ty.fld196_1 Ty.size2 (ev_of rfl)) rfl rfl (l' := [_,_,_,_,_,_,_,_,_,_,_,_,_,_,_,_,_]) rfl ?_
    refine d_val (y_load rfl Ty.some2 Ty.agg2 (ev_of rfl) (by repeat first | exact ent_cell rfl | exact ent_cell_of hb rfl | assumption | refine Ent.there ?_)) rfl rfl (l' := [_,_,_,_,_,_,_,_,_,_,_,_,_,_,_,_,_]) rfl ?_
    refine d_callL rfl rfl rfl Fn.call199 (vs := [_, _, _]) rfl (fun w M s => within_c s (by omega) (by omega)) (l' := [_,_,_,_,_,_,_,_,_,_,_,_,_,_,_,_,_]) rfl ?_
    refine d_val (y_as rfl (ev_of rfl)) rfl rfl (l' := [_,_,_,_,_,_,_,_,_,_,_,_,_,_,_,_,_]) rfl ?_
    refine d_end (fun w5 s4 => ?_)
    clear s1
    simp only [List.append_nil, List.cons_append, List.nil_append] at s4
    refine l_end ?_
    refine x_thenN ?_
    refine c_ret ?_
    refine r1 rfl rfl ?_
    exact ⟨rfl, s4.sub (by repeat first | with_reducible exact Sub.refl _ | exact Sub.nil _ | refine Sub.take (by repeat first | with_reducible exact Take.here _ _ | apply Take.there) ?_ | refine Sub.skip _ ?_)⟩
set_option maxHeartbeats 4000000 in
set_option maxRecDepth 100000 in
/-- (*hachure/grid.Grid).Size -/
theorem gsize0_c {e : Env} {L : List Asn} {w : World} {b W H : Nat} {sv : Value} (s : SL e w L) (hb : Ent L (fun h => Blk b (gridB W H sv) 196 h))  :
    Calls Try.prog 125 #[ptr b 0] w (Rets fun v w' => v = .tuple #[.int .i64 W, .int .i64 H] ∧ SL e w' L) := by
  refine enter Try.func125 rfl (l := [ptr b 0, undef, undef, undef, undef, undef, undef, undef, undef, undef, undef, undef, undef, undef]) rfl ?_
  refine c_seq ?_
  refine c_region ?_
  refine l_val s (y_as rfl (ev_of rfl)) rfl rfl (l' := [_,_,_,_,_,_,_,_,_,_,_,_,_,_]) rfl ?_
  refine l_val s (y_as rfl (ev_of rfl)) rfl rfl (l' := [_,_,_,_,_,_,_,_,_,_,_,_,_,_]) rfl ?_
  refine l_end ?_
  refine x_thenN ?_
  refine c_seq ?_
  refine c_seq ?_
  refine c_region ?_
  refine l_val s (y_mv rfl (ev_of rfl)) rfl rfl (l' := [_,_,_,_,_,_,_,_,_,_,_,_,_,_]) rfl ?_
  refine l_val s (y_peqnil rfl Ty.ptr28 (ev_of rfl) (ev_of rfl)) rfl rfl (l' := [_,_,_,_,_,_,_,_,_,_,_,_,_,_]) rfl ?_
  refine l_end ?_
  refine x_thenN ?_
  refine c_if rfl (fun hc0 => ?_) (fun hc0 => ?_)
  · (try simp only [decide_eq_true_eq, decide_eq_false_iff_not, Bool.not_eq_true', Bool.not_eq_false'] at hc0)
    cases hc0
  · (try simp only [decide_eq_true_eq, decide_eq_false_iff_not, Bool.not_eq_true', Bool.not_eq_false'] at hc0)
    refine c_skip ?_
    refine x_thenN ?_
    refine c_seq ?_
    apply c_drawn [] [0, 1, 2, 3, 4, 5, 6, 7, 8, 9] [] [] [] [(_, vq _), (_, vq _), (_, vq _), (_, vq _), (_, vq _), (_, vq _), (_, vq _), (_, vq _), (_, vq _), (_, vq _)] s Ty.follows (by kernel_rfl) (fun _ _ _ h => h.2) rfl rfl rfl (by decide) ?_
    show WP _ _ _ _ _
    refine p_end ?_
    refine d_val (y_mv rfl (ev_of rfl)) rfl rfl (l' := [_,_,_,_,_,_,_,_,_,_,_,_,_,_]) rfl ?_
    refine d_val (y_nilCheck rfl (ev_of rfl)) rfl rfl (l' := [_,_,_,_,_,_,_,_,_,_,_,_,_,_]) rfl ?_
    refine d_val (y_fieldAddrB rfl Ty.fld196_0 Ty.size2 (ev_of rfl)) rfl rfl (l' := [_,_,_,_,_,_,_,_,_,_,_,_,_,_]) rfl ?_
    refine d_val (y_load rfl Ty.some2 Ty.agg2 (ev_of rfl) (by repeat first | exact ent_cell rfl | exact ent_cell_of hb rfl | assumption | refine Ent.there ?_)) rfl rfl (l' := [_,_,_,_,_,_,_,_,_,_,_,_,_,_]) rfl ?_
    refine d_val (y_mv rfl (ev_of rfl)) rfl rfl (l' := [_,_,_,_,_,_,_,_,_,_,_,_,_,_]) rfl ?_
    refine d_val (y_nilCheck rfl (ev_of rfl)) rfl rfl (l' := [_,_,_,_,_,_,_,_,_,_,_,_,_,_]) rfl ?_
    refine d_val (y_fieldAddrB rfl Ty.fld196_1 Ty.size2 (ev_of rfl)) rfl rfl (l' := [_,_,_,_,_,_,_,_,_,_,_,_,_,_]) rfl ?_
    refine d_val (y_load rfl Ty.some2 Ty.agg2 (ev_of rfl) (by repeat first | exact ent_cell rfl | exact ent_cell_of hb rfl | assumption | refine Ent.there ?_)) rfl rfl (l' := [_,_,_,_,_,_,_,_,_,_,_,_,_,_]) rfl ?_
    refine d_val (y_as rfl (ev_of rfl)) rfl rfl (l' := [_,_,_,_,_,_,_,_,_,_,_,_,_,_]) rfl ?_
    refine d_val (y_as rfl (ev_of rfl)) rfl rfl (l' := [_,_,_,_,_,_,_,_,_,_,_,_,_,_]) rfl ?_
    refine d_end (fun w2 s1 => ?_)
    clear s
    simp only [List.append_nil, List.cons_append, List.nil_append] at s1
    refine l_end ?_
    refine x_thenN ?_
    refine c_ret ?_
    refine r2 rfl rfl rfl ?_
    exact ⟨rfl, s1.sub (by repeat first | with_reducible exact Sub.refl _ | exact Sub.nil _ | refine Sub.take (by repeat first | with_reducible exact Take.here _ _ | apply Take.there) ?_ | refine Sub.skip _ ?_)⟩
set_option maxHeartbeats 4000000 in
set_option maxRecDepth 100000 in
/-- (*hachure/grid.Grid).All -/
theorem gall0_c {e : Env} {L : List Asn} {w : World} {b W H : Nat} {sv : Value} (s : SL e w L) (hb : Ent L (fun h => Blk b (gridB W H sv) 196 h)) (hW : W ≤ 4096) (hH : H ≤ 4096) :
    Calls Try.prog 85 #[ptr b 0] w (Rets fun v w' => v = .agg #[.int .i64 0, .int .i64 0, .int .i64 (W - 1), .int .i64 (H - 1)] ∧ SL e w' L) := by
  refine enter Try.func85 rfl (l := [ptr b 0, undef, undef, undef, undef, undef, undef, undef, undef, undef, undef, undef, undef, undef, undef, undef, undef]) rfl ?_
  refine c_seq ?_
  refine c_region ?_
  refine l_alloc s rfl rfl rfl Ty.zero58 (fun b3 w2 s1 => ?_)
  change SL _ _ (Blk _ #[_, _, _, _] _ :: _) at s1
  clear s
  refine nlL (l' := [_,_,_,_,_,_,_,_,_,_,_,_,_,_,_,_,_]) rfl ?_
  refine l_end ?_
  refine x_thenN ?_
  refine c_seq ?_
  refine c_seq ?_
  refine c_region ?_
  refine l_val s1 (y_mv rfl (ev_of rfl)) rfl rfl (l' := [_,_,_,_,_,_,_,_,_,_,_,_,_,_,_,_,_]) rfl ?_
  refine l_val s1 (y_peqnil rfl Ty.ptr28 (ev_of rfl) (ev_of rfl)) rfl rfl (l' := [_,_,_,_,_,_,_,_,_,_,_,_,_,_,_,_,_]) rfl ?_
  refine l_end ?_
  refine x_thenN ?_
  refine c_if rfl (fun hc0 => ?_) (fun hc0 => ?_)
  · (try simp only [decide_eq_true_eq, decide_eq_false_iff_not, Bool.not_eq_true', Bool.not_eq_false'] at hc0)
    cases hc0
  · (try simp only [decide_eq_true_eq, decide_eq_false_iff_not, Bool.not_eq_true', Bool.not_eq_false'] at hc0)
    refine c_skip ?_
    refine x_thenN ?_
    refine c_seq ?_
    apply c_drawn [] [0, 1, 2, 3, 4, 5, 6, 7, 8, 9, 10] [11] [] [_] [(_, vq _), (_, vq _), (_, vq _), (_, vq _), (_, vq _), (_, vq _), (_, vq _), (_, vq _), (_, vq _), (_, vq _), (_, vq _)] s1 Ty.follows (by kernel_rfl) (fun _ _ _ h => h.2) rfl rfl rfl (by decide) ?_
    show WP _ _ _ _ _
    refine p_end ?_
    refine d_val (y_mv rfl (ev_of rfl)) rfl rfl (l' := [_,_,_,_,_,_,_,_,_,_,_,_,_,_,_,_,_]) rfl ?_
    refine d_val (y_nilCheck rfl (ev_of rfl)) rfl rfl (l' := [_,_,_,_,_,_,_,_,_,_,_,_,_,_,_,_,_]) rfl ?_
    refine d_val (y_fieldAddrB rfl Ty.fld196_0 Ty.size2 (ev_of rfl)) rfl rfl (l' := [_,_,_,_,_,_,_,_,_,_,_,_,_,_,_,_,_]) rfl ?_
    refine d_val (y_load rfl Ty.some2 Ty.agg2 (ev_of rfl) (by repeat first | exact ent_cell rfl | exact ent_cell_of hb rfl | assumption | refine Ent.there ?_)) rfl rfl (l' := [_,_,_,_,_,_,_,_,_,_,_,_,_,_,_,_,_]) rfl ?_
    refine d_val (y_sub rfl (ev_of rfl) (ev_of rfl) (by omega) (by omega)) rfl rfl (l' := [_,_,_,_,_,_,_,_,_,_,_,_,_,_,_,_,_]) rfl ?_
    refine d_val (y_mv rfl (ev_of rfl)) rfl rfl (l' := [_,_,_,_,_,_,_,_,_,_,_,_,_,_,_,_,_]) rfl ?_
    refine d_val (y_nilCheck rfl (ev_of rfl)) rfl rfl (l' := [_,_,_,_,_,_,_,_,_,_,_,_,_,_,_,_,_]) rfl ?_
    refine d_val (y_fieldAddrB rfl Ty.fld196_1 Ty.size2 (ev_of rfl)) rfl rfl (l' := [_,_,_,_,_,_,_,_,_,_,_,_,_,_,_,_,_]) rfl ?_
    refine d_val (y_load rfl Ty.some2 Ty.agg2 (ev_of rfl) (by repeat first | exact ent_cell rfl | exact ent_cell_of hb rfl | assumption | refine Ent.there ?_)) rfl rfl (l' := [_,_,_,_,_,_,_,_,_,_,_,_,_,_,_,_,_]) rfl ?_
    refine d_val (y_sub rfl (ev_of rfl) (ev_of rfl) (by omega) (by omega)) rfl rfl (l' := [_,_,_,_,_,_,_,_,_,_,_,_,_,_,_,_,_]) rfl ?_
    refine d_val (y_bld (zs := [_, _, _, _]) (vs := [(2, _), (3, _)]) (ps := [(2, [_]), (3, [_])]) (v := .agg #[_, _, _, _]) rfl Ty.zero58 rfl (fs_of Ty.fs58) rfl rfl (by intro q hq; simp only [List.zip_cons_cons, List.zip_nil_right, List.zip_nil_left, List.mem_cons, List.not_mem_nil, or_false] at hq; rcases hq with rfl | rfl <;> exact ⟨by kernel_rfl, by first | rfl | (simp only [cells_one (arr_one (by repeat first | assumption | with_reducible exact ent_blk | exact Ent.here arr_reads | exact Ent.here one_I64 | exact Ent.here one_Cell | exact Ent.here one_Bool | exact Ent.here one_Rect | refine Ent.there ?_) s1)]; first | done | rfl), by simp⟩) rfl ⟨_, rfl⟩) rfl rfl (l' := [_,_,_,_,_,_,_,_,_,_,_,_,_,_,_,_,_]) rfl ?_
    refine d_end (fun w5 s4 => ?_)
    clear s1
    simp only [List.append_nil, List.cons_append, List.nil_append] at s4
    refine l_stA s4 (by repeat first | with_reducible exact Take.here _ _ | apply Take.there) rfl rfl rfl Ty.size58 (ev_of rfl) (ev_of rfl) rfl rfl (by first | (simp [Value.oneCell']; done) | (intro x hx; simp only [List.mem_toArray, List.mem_cons, List.not_mem_nil, or_false] at hx; rcases hx with rfl | rfl | rfl | rfl <;> first | rfl | assumption | exact arr_one (by repeat first | assumption | with_reducible exact ent_blk | exact Ent.here arr_reads | exact Ent.here one_I64 | exact Ent.here one_Cell | exact Ent.here one_Bool | exact Ent.here one_Rect | refine Ent.there ?_) s4)) (fun w7 s6 => ?_)
    clear s4
    refine l_end ?_
    refine x_thenN ?_
    refine c_ret ?_
    refine rc1 s6 rfl rfl Ty.some58 Ty.agg58 Ty.size58 (by repeat first | exact ent_blk | refine Ent.there ?_) rfl ?_
    exact ⟨rfl, s6.sub (by repeat first | with_reducible exact Sub.refl _ | exact Sub.nil _ | refine Sub.take (by repeat first | with_reducible exact Take.here _ _ | apply Take.there) ?_ | refine Sub.skip _ ?_)⟩
set_option maxHeartbeats 4000000 in
set_option maxRecDepth 100000 in
/-- (*hachure/grid.Grid).slab -/
theorem gslab0_c {e : Env} {L : List Asn} {w : World} {b W H k : Nat} {x y : Int} {sv : Value} {bs : List Nat} (s : SL e w L) (hb : Ent L (fun h => Blk b (gridB W H sv) 196 h)) (hv : Ent L (SlR PtrT sv (ptrs bs))) (hx : 0 ≤ x ∧ x ≤ 4096) (hy : 0 ≤ y ∧ y ≤ 4096) (hA : nT W ≤ 64) (hk : y / 16 * (nT W : Nat) + x / 16 = (k : Int)) (hkl : k < bs.length) :
    Calls Try.prog 163 #[ptr b 0, .int .i64 x, .int .i64 y] w (Rets fun v w' => v = ptr (bs.getD k 0) 0 ∧ SL e w' L) := by
  have hm : y / 16 * ((nT W : Nat) : Int) ≤ 256 * 64 := Int.mul_le_mul (by omega) (by omega) (by omega) (by omega)
  have hm0 : 0 ≤ y / 16 * ((nT W : Nat) : Int) := Int.mul_nonneg (by omega) (by omega)
  refine enter Try.func163 rfl (l := [ptr b 0, .int .i64 x, .int .i64 y, undef, undef, undef, undef, undef, undef, undef, undef, undef, undef, undef, undef, undef, undef, undef, undef, undef, undef, undef, undef]) rfl ?_
  refine c_seq ?_
  refine c_region ?_
  refine l_val s (y_as rfl (ev_of rfl)) rfl rfl (l' := [_,_,_,_,_,_,_,_,_,_,_,_,_,_,_,_,_,_,_,_,_,_,_]) rfl ?_
  refine l_end ?_
  refine x_thenN ?_
  refine c_seq ?_
  apply c_drawn [] [0, 1, 2, 3, 4, 5, 6, 7, 8, 9, 10, 11, 12, 13, 14, 15, 16] [] [] [] [(_, vq _), (_, vq _), (_, vq _), (_, vq _), (_, vq _), (_, vq _), (_, vq _), (_, vq _), (_, vq _), (_, vq _), (_, vq _), (_, vq _), (_, vq _), (_, vq _), (_, vq _), (_, vq _), (_, vq _)] s Ty.follows (by kernel_rfl) (fun _ _ _ h => h.2) rfl rfl rfl (by decide) ?_
  show WP _ _ _ _ _
  refine p_end ?_
  refine d_val (y_mv rfl (ev_of rfl)) rfl rfl (l' := [_,_,_,_,_,_,_,_,_,_,_,_,_,_,_,_,_,_,_,_,_,_,_]) rfl ?_
  refine d_val (y_nilCheck rfl (ev_of rfl)) rfl rfl (l' := [_,_,_,_,_,_,_,_,_,_,_,_,_,_,_,_,_,_,_,_,_,_,_]) rfl ?_
  refine d_val (y_fieldAddrB rfl Ty.fld196_3 Ty.size194 (ev_of rfl)) rfl rfl (l' := [_,_,_,_,_,_,_,_,_,_,_,_,_,_,_,_,_,_,_,_,_,_,_]) rfl ?_
  refine d_val (y_load rfl Ty.some194 Ty.agg194 (ev_of rfl) (by repeat first | exact ent_cell rfl | exact ent_cell_of hb rfl | assumption | refine Ent.there ?_)) rfl rfl (l' := [_,_,_,_,_,_,_,_,_,_,_,_,_,_,_,_,_,_,_,_,_,_,_]) rfl ?_
  refine d_val (y_mv rfl (ev_of rfl)) rfl rfl (l' := [_,_,_,_,_,_,_,_,_,_,_,_,_,_,_,_,_,_,_,_,_,_,_]) rfl ?_
  refine d_val (y_quo rfl (ev_of rfl) (ev_of rfl) (by omega) (by omega) (by omega)) rfl rfl (l' := [_,_,_,_,_,_,_,_,_,_,_,_,_,_,_,_,_,_,_,_,_,_,_]) rfl ?_
  refine d_val (y_mv rfl (ev_of rfl)) rfl rfl (l' := [_,_,_,_,_,_,_,_,_,_,_,_,_,_,_,_,_,_,_,_,_,_,_]) rfl ?_
  refine d_val (y_nilCheck rfl (ev_of rfl)) rfl rfl (l' := [_,_,_,_,_,_,_,_,_,_,_,_,_,_,_,_,_,_,_,_,_,_,_]) rfl ?_
  refine d_val (y_fieldAddrB rfl Ty.fld196_2 Ty.size2 (ev_of rfl)) rfl rfl (l' := [_,_,_,_,_,_,_,_,_,_,_,_,_,_,_,_,_,_,_,_,_,_,_]) rfl ?_
  refine d_val (y_load rfl Ty.some2 Ty.agg2 (ev_of rfl) (by repeat first | exact ent_cell rfl | exact ent_cell_of hb rfl | assumption | refine Ent.there ?_)) rfl rfl (l' := [_,_,_,_,_,_,_,_,_,_,_,_,_,_,_,_,_,_,_,_,_,_,_]) rfl ?_
  refine d_val (y_mul rfl (ev_of rfl) (ev_of rfl) (by omega) (by omega)) rfl rfl (l' := [_,_,_,_,_,_,_,_,_,_,_,_,_,_,_,_,_,_,_,_,_,_,_]) rfl ?_
  refine d_val (y_mv rfl (ev_of rfl)) rfl rfl (l' := [_,_,_,_,_,_,_,_,_,_,_,_,_,_,_,_,_,_,_,_,_,_,_]) rfl ?_
  refine d_val (y_quo rfl (ev_of rfl) (ev_of rfl) (by omega) (by omega) (by omega)) rfl rfl (l' := [_,_,_,_,_,_,_,_,_,_,_,_,_,_,_,_,_,_,_,_,_,_,_]) rfl ?_
  refine d_val (y_add rfl (ev_of rfl) (ev_of rfl) (by omega) (by omega)) rfl rfl (l' := [_,_,_,_,_,_,_,_,_,_,_,_,_,_,_,_,_,_,_,_,_,_,_]) rfl ?_
  refine d_val (y_idx (n := k) rfl Ty.elem194 Ty.size198 (ev_of rfl) (ev_of rfl) hv hk (by simpa [ptrs] using hkl)) rfl rfl (l' := [_,_,_,_,_,_,_,_,_,_,_,_,_,_,_,_,_,_,_,_,_,_,_]) rfl ?_
  refine d_val (y_ld (c := PtrT) (n := k) rfl Ty.some198 Ty.agg198 (ev_of rfl) hv (by simpa [ptrs] using hkl) (u := .pointer ((ptrs bs).getD k none)) rfl) rfl rfl (l' := [_,_,_,_,_,_,_,_,_,_,_,_,_,_,_,_,_,_,_,_,_,_,_]) rfl ?_
  refine d_val (y_as rfl (ev_of rfl)) rfl rfl (l' := [_,_,_,_,_,_,_,_,_,_,_,_,_,_,_,_,_,_,_,_,_,_,_]) rfl ?_
  refine d_end (fun w2 s1 => ?_)
  clear s
  simp only [List.append_nil, List.cons_append, List.nil_append] at s1
  refine l_end ?_
  refine x_thenN ?_
  refine c_ret ?_
  refine r1 rfl rfl ?_
  exact ⟨by rw [ptrs_get hkl], s1.sub (by repeat first | with_reducible exact Sub.refl _ | exact Sub.nil _ | refine Sub.take (by repeat first | with_reducible exact Take.here _ _ | apply Take.there) ?_ | refine Sub.skip _ ?_)⟩
end Go.Proofs.Ytpchomihojidpaa
