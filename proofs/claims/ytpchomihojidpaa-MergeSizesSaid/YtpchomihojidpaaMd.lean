/- The merge by a choice; what the document says of it; the example. -/
import Derived.Test.YtpchomihojidpaaTy
import Derived.Test.YtpchomihojidpaaSlC
import Derived.Test.YtpchomihojidpaaMb
import Derived.Test.YtpchomihojidpaaMc
import Derived.Test.YtpchomihojidpaaSlD
import Derived.Test.YtpchomihojidpaaEqr
import Derived.KernelRfl
namespace Go.Proofs.Ytpchomihojidpaa
open Go.SL
theorem FnMd.call123 : callB Try.prog 123 = true := by kernel_rfl
theorem FnMd.call124 : callB Try.prog 124 = true := by kernel_rfl
theorem FnMd.call126 : callB Try.prog 126 = true := by kernel_rfl
theorem FnMd.call206 : callB Try.prog 206 = true := by kernel_rfl
theorem FnMd.call208 : callB Try.prog 208 = true := by kernel_rfl
theorem FnMd.call209 : callB Try.prog 209 = true := by kernel_rfl
theorem FnMd.call210 : callB Try.prog 210 = true := by kernel_rfl
theorem FnMd.call211 : callB Try.prog 211 = true := by kernel_rfl
theorem TyMd.elem342 : elemB Try.prog 342 = some 28 := by kernel_rfl
theorem TyMd.size28 : sizeB Try.prog 28 = some 1 := by kernel_rfl
theorem TyMd.zero28 : zeroB Try.prog 28 = some (.pointer none) := by kernel_rfl
set_option linter.unusedVariables false
set_option linter.unusedSimpArgs false
attribute [local irreducible] wpList WD WP Region.wanted Code.wp
/-- a grid that may not be there -/
def GrO (p : Option Addr) (W H : Nat) (vs : List Int) : Asn := match p with
  | some a => GridA a.block W H vs
  | none => fun _ => True
theorem gro_some (b W H : Nat) (vs : List Int) : GrO (some ⟨b, 0, none⟩) W H vs = GridA b W H vs := rfl
theorem gro_shut {e : Env} {L : List Asn} {w : World} {b W H : Nat} {vs : List Int} (s : SL e w (GridA b W H vs :: L)) : SL e w (GrO (some ⟨b, 0, none⟩) W H vs :: L) := s
theorem gro_none {e : Env} {L : List Asn} {w : World} {W H : Nat} {vs : List Int} (s : SL e w L) : SL e w (GrO none W H vs :: L) :=
  ⟨s.env, fun _ => none, hpOf w, fun _ => .inl rfl, fun _ _ h => (by cases h), fun _ _ h => h, trivial, s.sat⟩
theorem preferIn_c {e : Env} {L : List Asn} {w : World} {which : Int} (s : SL e w L) (h : 0 ≤ which ∧ which ≤ 3) : Calls Try.prog 124 #[.int .i64 which] w (Rets fun v w' => ∃ f, v = fnV f [] ∧ callB Try.prog f = true ∧ (∀ (a b : Int) (w : World) (M : List Asn), SL e w M → Calls Try.prog f #[.int .i64 a, .int .i64 b] w (Rets fun v w' => v = .int .i64 (whV which a b) ∧ SL e w' M)) ∧ SL e w' L) :=
  Rets.mono (prefer_c s) fun v w' h1 => by
    rcases h1 with ⟨⟨h2, h3⟩ | ⟨h2, h3⟩ | ⟨h2, h3⟩ | ⟨h2, h3⟩ | ⟨h2, h3⟩, s2⟩
    · exact ⟨208, h3, FnMd.call208, fun a b w M s => by subst h2; exact pf1_c s, s2⟩
    · exact ⟨209, h3, FnMd.call209, fun a b w M s => by subst h2; exact pf2_c s, s2⟩
    · exact ⟨210, h3, FnMd.call210, fun a b w M s => by subst h2; exact pf3_c s, s2⟩
    · exact ⟨211, h3, FnMd.call211, fun a b w M s => by subst h2; exact pf4_c s, s2⟩
    · omega
theorem preferOut_c {e : Env} {L : List Asn} {w : World} {which : Int} (s : SL e w L) (h : which < 0 ∨ 3 < which) : Calls Try.prog 124 #[.int .i64 which] w (Rets fun v w' => v = .nilFunc ∧ SL e w' L) :=
  Rets.mono (prefer_c s) fun v w' h1 => by
    rcases h1 with ⟨⟨h2, h3⟩ | ⟨h2, h3⟩ | ⟨h2, h3⟩ | ⟨h2, h3⟩ | ⟨h2, h3⟩, s2⟩ <;> first | omega | exact ⟨h3, s2⟩
theorem mgR_put {which : Int} {bs xs ys : List Int} {i : Nat} {v : Int} (h : v = mgV which (bs.getD i 0) (xs.getD i 0) (ys.getD i 0)) : mgR which bs xs ys i ++ [v] = mgR which bs xs ys (i + 1) := by rw [h, mgR_succ]
set_option maxHeartbeats 4000000 in
set_option maxRecDepth 100000 in
/-- hachure/merge.Three -/
theorem three47_c {e : Env} {L : List Asn} {w : World} {b0 b1 b2 W H : Nat} {bs xs ys : List Int} (s : SL e w L) (h0 : Has L (GridA b0 W H bs)) (h1 : Has L (GridA b1 W H xs)) (h2 : Has L (GridA b2 W H ys))  :
    Calls Try.prog 36 #[ptr b0 0, ptr b1 0, ptr b2 0] w (Rets fun r w' => ∃ b z, r = .tuple #[ptr b 0, z, .int .i64 0] ∧ SL e w' (GridA b W H (mgR 0 bs xs ys bs.length) :: Arr CellT 46 z (selC W (oddP bs xs ys) bs.length) :: L)) := by
  refine enter Try.func36 rfl (l := [ptr b0 0, ptr b1 0, ptr b2 0, undef, undef, undef, undef, undef, undef, undef, undef, undef, undef, undef, undef, undef, undef]) rfl ?_
  refine c_seq ?_
  refine c_region ?_
  refine l_val s (y_as rfl (ev_of rfl)) rfl rfl (l' := [_,_,_,_,_,_,_,_,_,_,_,_,_,_,_,_,_]) rfl ?_
  refine l_val s (y_as rfl (ev_of rfl)) rfl rfl (l' := [_,_,_,_,_,_,_,_,_,_,_,_,_,_,_,_,_]) rfl ?_
  refine l_val s (y_as rfl (ev_of rfl)) rfl rfl (l' := [_,_,_,_,_,_,_,_,_,_,_,_,_,_,_,_,_]) rfl ?_
  refine l_end ?_
  refine x_thenN ?_
  refine c_seq ?_
  refine c_region ?_
  refine l_val s (y_mv rfl (ev_of rfl)) rfl rfl (l' := [_,_,_,_,_,_,_,_,_,_,_,_,_,_,_,_,_]) rfl ?_
  refine l_val s (y_mv rfl (ev_of rfl)) rfl rfl (l' := [_,_,_,_,_,_,_,_,_,_,_,_,_,_,_,_,_]) rfl ?_
  refine l_val s (y_mv rfl (ev_of rfl)) rfl rfl (l' := [_,_,_,_,_,_,_,_,_,_,_,_,_,_,_,_,_]) rfl ?_
  refine l_callL rfl rfl rfl FnMd.call124 (vs := [_]) rfl (preferIn_c (which := 0) s (by omega)) ?_
  rintro _ w2 ⟨f, rfl, hB, hf, s1⟩
  clear s
  refine nlL (l' := [_,_,_,_,_,_,_,_,_,_,_,_,_,_,_,_,_]) rfl ?_
  refine l_callL rfl rfl rfl FnMd.call123 (vs := [_, _, _, _]) rfl (merged_c s1 (by repeat first | exact h0 | apply Has.there) (by repeat first | exact h1 | apply Has.there) (by repeat first | exact h2 | apply Has.there) hB hf) ?_
  rintro _ w4 ⟨b, z, rfl, s3⟩
  clear s1
  refine nlL (l' := [_,_,_,_,_,_,_,_,_,_,_,_,_,_,_,_,_]) rfl ?_
  refine l_val s3 (y_extract rfl (ev_of rfl) rfl) rfl rfl (l' := [_,_,_,_,_,_,_,_,_,_,_,_,_,_,_,_,_]) rfl ?_
  refine l_val s3 (y_extract rfl (ev_of rfl) rfl) rfl rfl (l' := [_,_,_,_,_,_,_,_,_,_,_,_,_,_,_,_,_]) rfl ?_
  refine l_val s3 (y_extract rfl (ev_of rfl) rfl) rfl rfl (l' := [_,_,_,_,_,_,_,_,_,_,_,_,_,_,_,_,_]) rfl ?_
  refine l_val s3 (y_as rfl (ev_of rfl)) rfl rfl (l' := [_,_,_,_,_,_,_,_,_,_,_,_,_,_,_,_,_]) rfl ?_
  refine l_val s3 (y_as rfl (ev_of rfl)) rfl rfl (l' := [_,_,_,_,_,_,_,_,_,_,_,_,_,_,_,_,_]) rfl ?_
  refine l_val s3 (y_as rfl (ev_of rfl)) rfl rfl (l' := [_,_,_,_,_,_,_,_,_,_,_,_,_,_,_,_,_]) rfl ?_
  refine l_end ?_
  refine x_thenN ?_
  refine c_ret ?_
  refine r3 rfl rfl rfl rfl ?_
  exact ⟨b, z, rfl, s3.sub (by first | (repeat first | with_reducible exact Sub.refl _ | refine Sub.skip _ ?_); done | (repeat first | with_reducible exact Sub.refl _ | exact Sub.nil _ | refine Sub.take (by repeat first | with_reducible exact Take.here _ _ | apply Take.there) ?_ | refine Sub.skip _ ?_))⟩
set_option maxHeartbeats 4000000 in
set_option maxRecDepth 100000 in
/-- hachure/merge.Prefer -/
theorem prefIn_c {e : Env} {L : List Asn} {w : World} {b0 b1 b2 W H : Nat} {which : Int} {bs xs ys : List Int} (s : SL e w L) (h0 : Has L (GridA b0 W H bs)) (h1 : Has L (GridA b1 W H xs)) (h2 : Has L (GridA b2 W H ys)) (hw : 0 ≤ which ∧ which ≤ 3) :
    Calls Try.prog 37 #[ptr b0 0, ptr b1 0, ptr b2 0, .int .i64 which] w (Rets fun r w' => ∃ b, r = .tuple #[ptr b 0, .int .i64 0] ∧ SL e w' (GridA b W H (mgR which bs xs ys bs.length) :: L)) := by
  refine enter Try.func37 rfl (l := [ptr b0 0, ptr b1 0, ptr b2 0, .int .i64 which, undef, undef, undef, undef, undef, undef, undef, undef, undef, undef, undef, undef, undef, undef, undef, undef, undef, undef, undef, undef, undef]) rfl ?_
  refine c_seq ?_
  refine c_region ?_
  refine l_val s (y_as rfl (ev_of rfl)) rfl rfl (l' := [_,_,_,_,_,_,_,_,_,_,_,_,_,_,_,_,_,_,_,_,_,_,_,_,_]) rfl ?_
  refine l_val s (y_as rfl (ev_of rfl)) rfl rfl (l' := [_,_,_,_,_,_,_,_,_,_,_,_,_,_,_,_,_,_,_,_,_,_,_,_,_]) rfl ?_
  refine l_end ?_
  refine x_thenN ?_
  refine c_seq ?_
  refine c_region ?_
  refine l_val s (y_mv rfl (ev_of rfl)) rfl rfl (l' := [_,_,_,_,_,_,_,_,_,_,_,_,_,_,_,_,_,_,_,_,_,_,_,_,_]) rfl ?_
  refine l_val s (y_mv rfl (ev_of rfl)) rfl rfl (l' := [_,_,_,_,_,_,_,_,_,_,_,_,_,_,_,_,_,_,_,_,_,_,_,_,_]) rfl ?_
  refine l_val s (y_mv rfl (ev_of rfl)) rfl rfl (l' := [_,_,_,_,_,_,_,_,_,_,_,_,_,_,_,_,_,_,_,_,_,_,_,_,_]) rfl ?_
  refine l_val s (y_mv rfl (ev_of rfl)) rfl rfl (l' := [_,_,_,_,_,_,_,_,_,_,_,_,_,_,_,_,_,_,_,_,_,_,_,_,_]) rfl ?_
  refine l_callL rfl rfl rfl FnMd.call124 (vs := [_]) rfl (preferIn_c s hw) ?_
  rintro _ w2 ⟨f, rfl, hB, hf, s1⟩
  clear s
  refine nlL (l' := [_,_,_,_,_,_,_,_,_,_,_,_,_,_,_,_,_,_,_,_,_,_,_,_,_]) rfl ?_
  refine l_callL rfl rfl rfl FnMd.call123 (vs := [_, _, _, _]) rfl (merged_c s1 (by repeat first | exact h0 | apply Has.there) (by repeat first | exact h1 | apply Has.there) (by repeat first | exact h2 | apply Has.there) hB hf) ?_
  rintro _ w4 ⟨b, z, rfl, s3⟩
  clear s1
  refine nlL (l' := [_,_,_,_,_,_,_,_,_,_,_,_,_,_,_,_,_,_,_,_,_,_,_,_,_]) rfl ?_
  refine l_val s3 (y_mv rfl (ev_of rfl)) rfl rfl (l' := [_,_,_,_,_,_,_,_,_,_,_,_,_,_,_,_,_,_,_,_,_,_,_,_,_]) rfl ?_
  refine l_val s3 (y_extract rfl (ev_of rfl) rfl) rfl rfl (l' := [_,_,_,_,_,_,_,_,_,_,_,_,_,_,_,_,_,_,_,_,_,_,_,_,_]) rfl ?_
  refine l_val s3 (y_extract rfl (ev_of rfl) rfl) rfl rfl (l' := [_,_,_,_,_,_,_,_,_,_,_,_,_,_,_,_,_,_,_,_,_,_,_,_,_]) rfl ?_
  refine l_val s3 (y_extract rfl (ev_of rfl) rfl) rfl rfl (l' := [_,_,_,_,_,_,_,_,_,_,_,_,_,_,_,_,_,_,_,_,_,_,_,_,_]) rfl ?_
  refine l_val s3 (y_as rfl (ev_of rfl)) rfl rfl (l' := [_,_,_,_,_,_,_,_,_,_,_,_,_,_,_,_,_,_,_,_,_,_,_,_,_]) rfl ?_
  refine l_val s3 (y_as rfl (ev_of rfl)) rfl rfl (l' := [_,_,_,_,_,_,_,_,_,_,_,_,_,_,_,_,_,_,_,_,_,_,_,_,_]) rfl ?_
  refine l_val s3 (y_as rfl (ev_of rfl)) rfl rfl (l' := [_,_,_,_,_,_,_,_,_,_,_,_,_,_,_,_,_,_,_,_,_,_,_,_,_]) rfl ?_
  refine l_end ?_
  refine x_thenN ?_
  refine c_seq ?_
  refine c_region ?_
  refine l_val s3 (y_mv rfl (ev_of rfl)) rfl rfl (l' := [_,_,_,_,_,_,_,_,_,_,_,_,_,_,_,_,_,_,_,_,_,_,_,_,_]) rfl ?_
  refine l_val s3 (y_mv rfl (ev_of rfl)) rfl rfl (l' := [_,_,_,_,_,_,_,_,_,_,_,_,_,_,_,_,_,_,_,_,_,_,_,_,_]) rfl ?_
  refine l_val s3 (y_as rfl (ev_of rfl)) rfl rfl (l' := [_,_,_,_,_,_,_,_,_,_,_,_,_,_,_,_,_,_,_,_,_,_,_,_,_]) rfl ?_
  refine l_val s3 (y_as rfl (ev_of rfl)) rfl rfl (l' := [_,_,_,_,_,_,_,_,_,_,_,_,_,_,_,_,_,_,_,_,_,_,_,_,_]) rfl ?_
  refine l_end ?_
  refine x_thenN ?_
  refine c_ret ?_
  refine r2 rfl rfl rfl ?_
  exact ⟨b, rfl, s3.sub (by first | (repeat first | with_reducible exact Sub.refl _ | refine Sub.skip _ ?_); done | (repeat first | with_reducible exact Sub.refl _ | exact Sub.nil _ | refine Sub.take (by repeat first | with_reducible exact Take.here _ _ | apply Take.there) ?_ | refine Sub.skip _ ?_))⟩
set_option maxHeartbeats 4000000 in
set_option maxRecDepth 100000 in
/-- hachure/merge.merged -/
theorem mergedNo_c {e : Env} {L : List Asn} {w : World} {b0 b1 b2 W H : Nat} {bs xs ys : List Int} (s : SL e w L) (h0 : Has L (GridA b0 W H bs)) (h1 : Has L (GridA b1 W H xs)) (h2 : Has L (GridA b2 W H ys))  :
    Calls Try.prog 123 #[ptr b0 0, ptr b1 0, ptr b2 0, .nilFunc] w (Rets fun r w' => r = .tuple #[.pointer none, .slice none 0 0, .int .i64 11] ∧ SL e w' L) := by
  refine enter Try.func123 rfl (l := [ptr b0 0, ptr b1 0, ptr b2 0, .nilFunc, undef, undef, undef, undef, undef, undef, undef, undef, undef, undef, undef, undef, undef, undef, undef, undef, undef, undef, undef, undef, undef, undef, undef, undef, undef, undef, undef, undef, undef, undef, undef, undef, undef, undef, undef, undef, undef, undef, undef, undef, undef, undef, undef, undef, undef, undef, undef, undef, undef, undef, undef, undef, undef, undef, undef, undef, undef, undef, undef, undef, undef, undef, undef, undef, undef, undef, undef, undef, undef, undef, undef, undef, undef, undef, undef, undef, undef, undef, undef, undef, undef, undef, undef, undef, undef, undef, undef, undef, undef, undef, undef, undef, undef, undef, undef, undef, undef, undef]) rfl ?_
  refine c_seq ?_
  refine c_region ?_
  refine l_val s (y_as rfl (ev_of rfl)) rfl rfl (l' := _) rfl ?_
  refine l_val s (y_as rfl (ev_of rfl)) rfl rfl (l' := _) rfl ?_
  refine l_val s (y_as rfl (ev_of rfl)) rfl rfl (l' := [_,_,_,_,_,_,_,_,_,_,_,_,_,_,_,_,_,_,_,_,_,_,_,_,_,_,_,_,_,_,_,_,_,_,_,_,_,_,_,_,_,_,_,_,_,_,_,_,_,_,_,_,_,_,_,_,_,_,_,_,_,_,_,_,_,_,_,_,_,_,_,_,_,_,_,_,_,_,_,_,_,_,_,_,_,_,_,_,_,_,_,_,_,_,_,_,_,_,_,_,_,_]) rfl ?_
  refine l_end ?_
  refine x_thenN ?_
  refine c_seq ?_
  refine c_region ?_
  refine l_val s (y_mv rfl (ev_of rfl)) rfl rfl (l' := _) rfl ?_
  refine l_val s (y_mv rfl (ev_of rfl)) rfl rfl (l' := _) rfl ?_
  refine l_val s (y_mv rfl (ev_of rfl)) rfl rfl (l' := [_,_,_,_,_,_,_,_,_,_,_,_,_,_,_,_,_,_,_,_,_,_,_,_,_,_,_,_,_,_,_,_,_,_,_,_,_,_,_,_,_,_,_,_,_,_,_,_,_,_,_,_,_,_,_,_,_,_,_,_,_,_,_,_,_,_,_,_,_,_,_,_,_,_,_,_,_,_,_,_,_,_,_,_,_,_,_,_,_,_,_,_,_,_,_,_,_,_,_,_,_,_]) rfl ?_
  refine l_bs s rfl rfl rfl TyMd.elem342 TyMd.size28 TyMd.zero28 (zs := [_, _, _]) rfl (vs := [(0, _), (1, _), (2, _)]) rfl (ps := [(0, [_]), (1, [_]), (2, [_])]) rfl (by intro q hq; simp only [List.zip_cons_cons, List.zip_nil_right, List.zip_nil_left, List.mem_cons, List.not_mem_nil, or_false] at hq; rcases hq with rfl | rfl | rfl <;> exact ⟨rfl, rfl, by first | rfl | (simp only [cells_one (arr_one (by first | (repeat first | assumption | with_reducible exact ent_blk | with_reducible exact Ent.here arr_reads | with_reducible exact Ent.here one_I64 | with_reducible exact Ent.here one_Cell | refine Ent.there ?_); done | (repeat first | assumption | with_reducible exact ent_blk | exact Ent.here arr_reads | exact Ent.here one_I64 | exact Ent.here one_Cell | exact Ent.here one_Bool | exact Ent.here one_Rect | refine Ent.there ?_)) s)]; first | done | rfl), by simp⟩) (cells := [_, _, _]) rfl (by decide) (fun b3 w2 s1 => ?_)
  clear s
  refine nlL (l' := _) rfl ?_
  refine l_callL rfl rfl rfl FnMd.call206 (vs := [_]) rfl (three3_c (b0 := b0) (b1 := b1) (b2 := b2) s1 (Ent.here (blk_reads rfl rfl)) (by repeat first | exact h0 | apply Has.there) (by repeat first | exact h1 | apply Has.there) (by repeat first | exact h2 | apply Has.there)) ?_
  rintro _ w5 ⟨zl, x0, x1, x2, rfl, s4⟩
  clear s1
  refine nlL (l' := _) rfl ?_
  refine l_val s4 (y_mv rfl (ev_of rfl)) rfl rfl (l' := [_,_,_,_,_,_,_,_,_,_,_,_,_,_,_,_,_,_,_,_,_,_,_,_,_,_,_,_,_,_,_,_,_,_,_,_,_,_,_,_,_,_,_,_,_,_,_,_,_,_,_,_,_,_,_,_,_,_,_,_,_,_,_,_,_,_,_,_,_,_,_,_,_,_,_,_,_,_,_,_,_,_,_,_,_,_,_,_,_,_,_,_,_,_,_,_,_,_,_,_,_,_]) rfl ?_
  refine l_val s4 (y_extract rfl (ev_of rfl) rfl) rfl rfl (l' := _) rfl ?_
  refine l_val s4 (y_extract rfl (ev_of rfl) rfl) rfl rfl (l' := _) rfl ?_
  refine l_val s4 (y_as rfl (ev_of rfl)) rfl rfl (l' := [_,_,_,_,_,_,_,_,_,_,_,_,_,_,_,_,_,_,_,_,_,_,_,_,_,_,_,_,_,_,_,_,_,_,_,_,_,_,_,_,_,_,_,_,_,_,_,_,_,_,_,_,_,_,_,_,_,_,_,_,_,_,_,_,_,_,_,_,_,_,_,_,_,_,_,_,_,_,_,_,_,_,_,_,_,_,_,_,_,_,_,_,_,_,_,_,_,_,_,_,_,_]) rfl ?_
  refine l_val s4 (y_as rfl (ev_of rfl)) rfl rfl (l' := _) rfl ?_
  refine l_end ?_
  refine x_thenN ?_
  refine c_seq ?_
  refine c_seq ?_
  refine c_region ?_
  refine l_val s4 (y_mv rfl (ev_of rfl)) rfl rfl (l' := _) rfl ?_
  refine l_val s4 (y_eql rfl (ev_of rfl) (ev_of rfl)) rfl rfl (l' := [_,_,_,_,_,_,_,_,_,_,_,_,_,_,_,_,_,_,_,_,_,_,_,_,_,_,_,_,_,_,_,_,_,_,_,_,_,_,_,_,_,_,_,_,_,_,_,_,_,_,_,_,_,_,_,_,_,_,_,_,_,_,_,_,_,_,_,_,_,_,_,_,_,_,_,_,_,_,_,_,_,_,_,_,_,_,_,_,_,_,_,_,_,_,_,_,_,_,_,_,_,_]) rfl ?_
  refine l_val s4 (y_mv rfl (ev_of rfl)) rfl rfl (l' := _) rfl ?_
  refine l_split (t := 30) rfl (fun hg6 => ?_) (fun hg6 => ?_)
  · (try simp only [decide_eq_true_eq, decide_eq_false_iff_not, Bool.not_eq_true', Bool.not_eq_false'] at hg6)
    refine nlL (l' := _) rfl ?_
    refine l_gval s4 (y_mv rfl (ev_of rfl)) (wanted_of rfl rfl rfl rfl rfl) rfl (l' := [_,_,_,_,_,_,_,_,_,_,_,_,_,_,_,_,_,_,_,_,_,_,_,_,_,_,_,_,_,_,_,_,_,_,_,_,_,_,_,_,_,_,_,_,_,_,_,_,_,_,_,_,_,_,_,_,_,_,_,_,_,_,_,_,_,_,_,_,_,_,_,_,_,_,_,_,_,_,_,_,_,_,_,_,_,_,_,_,_,_,_,_,_,_,_,_,_,_,_,_,_,_]) rfl ?_
    refine l_gval s4 (y_feqN rfl fun171 (ev_of rfl) (ev_of rfl)) (wanted_of rfl rfl rfl rfl rfl) rfl (l' := _) rfl ?_
    refine l_val s4 (y_pick1 rfl (ev_of rfl) (ev_of rfl)) rfl rfl (l' := _) rfl ?_
    refine l_end ?_
    refine x_thenN ?_
    refine c_if rfl (fun hc0 => ?_) (fun hc0 => ?_)
    · (try simp only [decide_eq_true_eq, decide_eq_false_iff_not, Bool.not_eq_true', Bool.not_eq_false'] at hc0)
      refine c_region ?_
      refine l_val s4 (y_as rfl (ev_of rfl)) rfl rfl (l' := [_,_,_,_,_,_,_,_,_,_,_,_,_,_,_,_,_,_,_,_,_,_,_,_,_,_,_,_,_,_,_,_,_,_,_,_,_,_,_,_,_,_,_,_,_,_,_,_,_,_,_,_,_,_,_,_,_,_,_,_,_,_,_,_,_,_,_,_,_,_,_,_,_,_,_,_,_,_,_,_,_,_,_,_,_,_,_,_,_,_,_,_,_,_,_,_,_,_,_,_,_,_]) rfl ?_
      refine l_end ?_
      refine x_thenN ?_
      refine c_seq ?_
      refine c_seq ?_
      refine c_region ?_
      refine l_val s4 (y_mv rfl (ev_of rfl)) rfl rfl (l' := _) rfl ?_
      refine l_val s4 (y_neq rfl (ev_of rfl) (ev_of rfl)) rfl rfl (l' := _) rfl ?_
      refine l_end ?_
      refine x_thenN ?_
      refine c_if rfl (fun hc1 => ?_) (fun hc1 => ?_)
      · (try simp only [decide_eq_true_eq, decide_eq_false_iff_not, Bool.not_eq_true', Bool.not_eq_false'] at hc1)
        refine c_seq ?_
        refine c_region ?_
        refine l_val s4 (y_mv rfl (ev_of rfl)) rfl rfl (l' := [_,_,_,_,_,_,_,_,_,_,_,_,_,_,_,_,_,_,_,_,_,_,_,_,_,_,_,_,_,_,_,_,_,_,_,_,_,_,_,_,_,_,_,_,_,_,_,_,_,_,_,_,_,_,_,_,_,_,_,_,_,_,_,_,_,_,_,_,_,_,_,_,_,_,_,_,_,_,_,_,_,_,_,_,_,_,_,_,_,_,_,_,_,_,_,_,_,_,_,_,_,_]) rfl ?_
        refine l_val s4 (y_as rfl (ev_of rfl)) rfl rfl (l' := _) rfl ?_
        refine l_val s4 (y_as rfl (ev_of rfl)) rfl rfl (l' := _) rfl ?_
        refine l_val s4 (y_as rfl (ev_of rfl)) rfl rfl (l' := [_,_,_,_,_,_,_,_,_,_,_,_,_,_,_,_,_,_,_,_,_,_,_,_,_,_,_,_,_,_,_,_,_,_,_,_,_,_,_,_,_,_,_,_,_,_,_,_,_,_,_,_,_,_,_,_,_,_,_,_,_,_,_,_,_,_,_,_,_,_,_,_,_,_,_,_,_,_,_,_,_,_,_,_,_,_,_,_,_,_,_,_,_,_,_,_,_,_,_,_,_,_]) rfl ?_
        refine l_end ?_
        refine x_thenN ?_
        refine c_ret ?_
        refine x_thenR ?_
        refine r3 rfl rfl rfl rfl ?_
        exact ⟨rfl, s4.sub (by first | (repeat first | with_reducible exact Sub.refl _ | refine Sub.skip _ ?_); done | (repeat first | with_reducible exact Sub.refl _ | exact Sub.nil _ | refine Sub.take (by repeat first | with_reducible exact Take.here _ _ | apply Take.there) ?_ | refine Sub.skip _ ?_))⟩
      · (try simp only [decide_eq_true_eq, decide_eq_false_iff_not, Bool.not_eq_true', Bool.not_eq_false'] at hc1)
        first | done | (exfalso; omega) | contradiction | (exfalso; simp_all; done)
    · (try simp only [decide_eq_true_eq, decide_eq_false_iff_not, Bool.not_eq_true', Bool.not_eq_false'] at hc0)
      first | done | (exfalso; omega) | contradiction | (exfalso; simp_all; done)
  · (try simp only [decide_eq_true_eq, decide_eq_false_iff_not, Bool.not_eq_true', Bool.not_eq_false'] at hg6)
    first | done | (exfalso; omega) | contradiction | (exfalso; simp_all; done)
set_option maxHeartbeats 4000000 in
set_option maxRecDepth 100000 in
/-- hachure/merge.Prefer -/
theorem prefOut_c {e : Env} {L : List Asn} {w : World} {b0 b1 b2 W H : Nat} {which : Int} {bs xs ys : List Int} (s : SL e w L) (h0 : Has L (GridA b0 W H bs)) (h1 : Has L (GridA b1 W H xs)) (h2 : Has L (GridA b2 W H ys)) (hw : which < 0 ∨ 3 < which) :
    Calls Try.prog 37 #[ptr b0 0, ptr b1 0, ptr b2 0, .int .i64 which] w (Rets fun r w' => r = .tuple #[.pointer none, .int .i64 11] ∧ SL e w' L) := by
  refine enter Try.func37 rfl (l := [ptr b0 0, ptr b1 0, ptr b2 0, .int .i64 which, undef, undef, undef, undef, undef, undef, undef, undef, undef, undef, undef, undef, undef, undef, undef, undef, undef, undef, undef, undef, undef]) rfl ?_
  refine c_seq ?_
  refine c_region ?_
  refine l_val s (y_as rfl (ev_of rfl)) rfl rfl (l' := [_,_,_,_,_,_,_,_,_,_,_,_,_,_,_,_,_,_,_,_,_,_,_,_,_]) rfl ?_
  refine l_val s (y_as rfl (ev_of rfl)) rfl rfl (l' := [_,_,_,_,_,_,_,_,_,_,_,_,_,_,_,_,_,_,_,_,_,_,_,_,_]) rfl ?_
  refine l_end ?_
  refine x_thenN ?_
  refine c_seq ?_
  refine c_region ?_
  refine l_val s (y_mv rfl (ev_of rfl)) rfl rfl (l' := [_,_,_,_,_,_,_,_,_,_,_,_,_,_,_,_,_,_,_,_,_,_,_,_,_]) rfl ?_
  refine l_val s (y_mv rfl (ev_of rfl)) rfl rfl (l' := [_,_,_,_,_,_,_,_,_,_,_,_,_,_,_,_,_,_,_,_,_,_,_,_,_]) rfl ?_
  refine l_val s (y_mv rfl (ev_of rfl)) rfl rfl (l' := [_,_,_,_,_,_,_,_,_,_,_,_,_,_,_,_,_,_,_,_,_,_,_,_,_]) rfl ?_
  refine l_val s (y_mv rfl (ev_of rfl)) rfl rfl (l' := [_,_,_,_,_,_,_,_,_,_,_,_,_,_,_,_,_,_,_,_,_,_,_,_,_]) rfl ?_
  refine l_callL rfl rfl rfl FnMd.call124 (vs := [_]) rfl (preferOut_c s hw) ?_
  rintro _ w2 ⟨rfl, s1⟩
  clear s
  refine nlL (l' := [_,_,_,_,_,_,_,_,_,_,_,_,_,_,_,_,_,_,_,_,_,_,_,_,_]) rfl ?_
  refine l_callL rfl rfl rfl FnMd.call123 (vs := [_, _, _, _]) rfl (mergedNo_c s1 (by repeat first | exact h0 | apply Has.there) (by repeat first | exact h1 | apply Has.there) (by repeat first | exact h2 | apply Has.there)) ?_
  rintro _ w4 ⟨rfl, s3⟩
  clear s1
  refine nlL (l' := [_,_,_,_,_,_,_,_,_,_,_,_,_,_,_,_,_,_,_,_,_,_,_,_,_]) rfl ?_
  refine l_val s3 (y_mv rfl (ev_of rfl)) rfl rfl (l' := [_,_,_,_,_,_,_,_,_,_,_,_,_,_,_,_,_,_,_,_,_,_,_,_,_]) rfl ?_
  refine l_val s3 (y_extract rfl (ev_of rfl) rfl) rfl rfl (l' := [_,_,_,_,_,_,_,_,_,_,_,_,_,_,_,_,_,_,_,_,_,_,_,_,_]) rfl ?_
  refine l_val s3 (y_extract rfl (ev_of rfl) rfl) rfl rfl (l' := [_,_,_,_,_,_,_,_,_,_,_,_,_,_,_,_,_,_,_,_,_,_,_,_,_]) rfl ?_
  refine l_val s3 (y_extract rfl (ev_of rfl) rfl) rfl rfl (l' := [_,_,_,_,_,_,_,_,_,_,_,_,_,_,_,_,_,_,_,_,_,_,_,_,_]) rfl ?_
  refine l_val s3 (y_as rfl (ev_of rfl)) rfl rfl (l' := [_,_,_,_,_,_,_,_,_,_,_,_,_,_,_,_,_,_,_,_,_,_,_,_,_]) rfl ?_
  refine l_val s3 (y_as rfl (ev_of rfl)) rfl rfl (l' := [_,_,_,_,_,_,_,_,_,_,_,_,_,_,_,_,_,_,_,_,_,_,_,_,_]) rfl ?_
  refine l_val s3 (y_as rfl (ev_of rfl)) rfl rfl (l' := [_,_,_,_,_,_,_,_,_,_,_,_,_,_,_,_,_,_,_,_,_,_,_,_,_]) rfl ?_
  refine l_end ?_
  refine x_thenN ?_
  refine c_seq ?_
  refine c_region ?_
  refine l_val s3 (y_mv rfl (ev_of rfl)) rfl rfl (l' := [_,_,_,_,_,_,_,_,_,_,_,_,_,_,_,_,_,_,_,_,_,_,_,_,_]) rfl ?_
  refine l_val s3 (y_mv rfl (ev_of rfl)) rfl rfl (l' := [_,_,_,_,_,_,_,_,_,_,_,_,_,_,_,_,_,_,_,_,_,_,_,_,_]) rfl ?_
  refine l_val s3 (y_as rfl (ev_of rfl)) rfl rfl (l' := [_,_,_,_,_,_,_,_,_,_,_,_,_,_,_,_,_,_,_,_,_,_,_,_,_]) rfl ?_
  refine l_val s3 (y_as rfl (ev_of rfl)) rfl rfl (l' := [_,_,_,_,_,_,_,_,_,_,_,_,_,_,_,_,_,_,_,_,_,_,_,_,_]) rfl ?_
  refine l_end ?_
  refine x_thenN ?_
  refine c_ret ?_
  refine r2 rfl rfl rfl ?_
  exact ⟨rfl, s3.sub (by first | (repeat first | with_reducible exact Sub.refl _ | refine Sub.skip _ ?_); done | (repeat first | with_reducible exact Sub.refl _ | exact Sub.nil _ | refine Sub.take (by repeat first | with_reducible exact Take.here _ _ | apply Take.there) ?_ | refine Sub.skip _ ?_))⟩
theorem pref_c {e : Env} {L : List Asn} {w : World} {b0 b1 b2 W H : Nat} {which : Int} {bs xs ys : List Int} (s : SL e w L) (h0 : Has L (GridA b0 W H bs)) (h1 : Has L (GridA b1 W H xs)) (h2 : Has L (GridA b2 W H ys)) : Calls Try.prog 37 #[ptr b0 0, ptr b1 0, ptr b2 0, .int .i64 which] w
    (Rets fun r w' => ∃ p c, r = .tuple #[.pointer p, .int .i64 c] ∧ (((0 ≤ which ∧ which ≤ 3) ∧ c = 0 ∧ ∃ b, p = some ⟨b, 0, none⟩) ∨ ((which < 0 ∨ 3 < which) ∧ c = 11 ∧ p = none)) ∧ SL e w' (GrO p W H (mgR which bs xs ys bs.length) :: L)) := by
  by_cases hw : 0 ≤ which ∧ which ≤ 3
  · exact Rets.mono (prefIn_c s h0 h1 h2 hw) fun r w' ⟨b, h, s2⟩ => ⟨some ⟨b, 0, none⟩, 0, h, .inl ⟨hw, rfl, b, rfl⟩, gro_shut s2⟩
  · exact Rets.mono (prefOut_c s h0 h1 h2 (by omega)) fun r w' ⟨h, s2⟩ => ⟨none, 11, h, .inr ⟨by omega, rfl, rfl⟩, gro_none s2⟩
set_option maxHeartbeats 4000000 in
set_option maxRecDepth 100000 in
/-- hachure/hachureref47.Odds -/
theorem refOdds_c {e : Env} {L : List Asn} {w : World} {base a b : Int} (s : SL e w L) :
    Calls Try.prog 126 #[.int .i64 base, .int .i64 a, .int .i64 b] w (Rets fun v w' => v = .bool (oddB base a b) ∧ SL e w' L) := by
  refine enter Try.func126 rfl (l := [.int .i64 base, .int .i64 a, .int .i64 b, undef, undef, undef, undef, undef, undef, undef, undef, undef, undef, undef, undef, undef, undef, undef, undef, undef]) rfl ?_
  refine c_seq ?_
  refine c_region ?_
  refine l_val s (y_as rfl (ev_of rfl)) rfl rfl (l' := [_,_,_,_,_,_,_,_,_,_,_,_,_,_,_,_,_,_,_,_]) rfl ?_
  refine l_end ?_
  refine x_thenN ?_
  refine c_seq ?_
  refine c_region ?_
  refine l_val s (y_mv rfl (ev_of rfl)) rfl rfl (l' := [_,_,_,_,_,_,_,_,_,_,_,_,_,_,_,_,_,_,_,_]) rfl ?_
  refine l_val s (y_mv rfl (ev_of rfl)) rfl rfl (l' := [_,_,_,_,_,_,_,_,_,_,_,_,_,_,_,_,_,_,_,_]) rfl ?_
  refine l_val s (y_neq rfl (ev_of rfl) (ev_of rfl)) rfl rfl (l' := [_,_,_,_,_,_,_,_,_,_,_,_,_,_,_,_,_,_,_,_]) rfl ?_
  refine l_val s (y_mv rfl (ev_of rfl)) rfl rfl (l' := [_,_,_,_,_,_,_,_,_,_,_,_,_,_,_,_,_,_,_,_]) rfl ?_
  refine l_split (t := 10) rfl (fun hg1 => ?_) (fun hg1 => ?_)
  · (try simp only [decide_eq_true_eq, decide_eq_false_iff_not, Bool.not_eq_true', Bool.not_eq_false'] at hg1)
    refine nlL (l' := [_,_,_,_,_,_,_,_,_,_,_,_,_,_,_,_,_,_,_,_]) rfl ?_
    refine l_gval s (y_mv rfl (ev_of rfl)) (wanted_of rfl rfl rfl rfl rfl) rfl (l' := [_,_,_,_,_,_,_,_,_,_,_,_,_,_,_,_,_,_,_,_]) rfl ?_
    refine l_gval s (y_mv rfl (ev_of rfl)) (wanted_of rfl rfl rfl rfl rfl) rfl (l' := [_,_,_,_,_,_,_,_,_,_,_,_,_,_,_,_,_,_,_,_]) rfl ?_
    refine l_gval s (y_neq rfl (ev_of rfl) (ev_of rfl)) (wanted_of rfl rfl rfl rfl rfl) rfl (l' := [_,_,_,_,_,_,_,_,_,_,_,_,_,_,_,_,_,_,_,_]) rfl ?_
    refine l_val s (y_pick1 rfl (ev_of rfl) (ev_of rfl)) rfl rfl (l' := [_,_,_,_,_,_,_,_,_,_,_,_,_,_,_,_,_,_,_,_]) rfl ?_
    refine l_val s (y_mv rfl (ev_of rfl)) rfl rfl (l' := [_,_,_,_,_,_,_,_,_,_,_,_,_,_,_,_,_,_,_,_]) rfl ?_
    refine l_split (t := 15) rfl (fun hg2 => ?_) (fun hg2 => ?_)
    · (try simp only [decide_eq_true_eq, decide_eq_false_iff_not, Bool.not_eq_true', Bool.not_eq_false'] at hg2)
      refine nlL (l' := [_,_,_,_,_,_,_,_,_,_,_,_,_,_,_,_,_,_,_,_]) rfl ?_
      refine l_gval s (y_mv rfl (ev_of rfl)) (wanted_of rfl rfl rfl rfl rfl) rfl (l' := [_,_,_,_,_,_,_,_,_,_,_,_,_,_,_,_,_,_,_,_]) rfl ?_
      refine l_gval s (y_mv rfl (ev_of rfl)) (wanted_of rfl rfl rfl rfl rfl) rfl (l' := [_,_,_,_,_,_,_,_,_,_,_,_,_,_,_,_,_,_,_,_]) rfl ?_
      refine l_gval s (y_neq rfl (ev_of rfl) (ev_of rfl)) (wanted_of rfl rfl rfl rfl rfl) rfl (l' := [_,_,_,_,_,_,_,_,_,_,_,_,_,_,_,_,_,_,_,_]) rfl ?_
      refine l_val s (y_pick1 rfl (ev_of rfl) (ev_of rfl)) rfl rfl (l' := [_,_,_,_,_,_,_,_,_,_,_,_,_,_,_,_,_,_,_,_]) rfl ?_
      refine l_val s (y_as rfl (ev_of rfl)) rfl rfl (l' := [_,_,_,_,_,_,_,_,_,_,_,_,_,_,_,_,_,_,_,_]) rfl ?_
      refine l_end ?_
      refine x_thenN ?_
      refine c_ret ?_
      refine r1 rfl rfl ?_
      exact ⟨by unfold oddB; congr 1; first | exact (decide_eq_true (by omega)).symm | exact (decide_eq_false (by omega)).symm | exact decide_eq_decide.2 (by omega), s.sub (by first | (repeat first | with_reducible exact Sub.refl _ | refine Sub.skip _ ?_); done | (repeat first | with_reducible exact Sub.refl _ | exact Sub.nil _ | refine Sub.take (by repeat first | with_reducible exact Take.here _ _ | apply Take.there) ?_ | refine Sub.skip _ ?_))⟩
    · (try simp only [decide_eq_true_eq, decide_eq_false_iff_not, Bool.not_eq_true', Bool.not_eq_false'] at hg2)
      refine nlL (l' := [_,_,_,_,_,_,_,_,_,_,_,_,_,_,_,_,_,_,_,_]) rfl ?_
      refine l_skip (wanted_of rfl rfl rfl rfl rfl) rfl (l' := [_,_,_,_,_,_,_,_,_,_,_,_,_,_,_,_,_,_,_,_]) rfl ?_
      refine l_skip (wanted_of rfl rfl rfl rfl rfl) rfl (l' := [_,_,_,_,_,_,_,_,_,_,_,_,_,_,_,_,_,_,_,_]) rfl ?_
      refine l_skip (wanted_of rfl rfl rfl rfl rfl) rfl (l' := [_,_,_,_,_,_,_,_,_,_,_,_,_,_,_,_,_,_,_,_]) rfl ?_
      refine l_val s (y_pick0 rfl (ev_of rfl) (ev_of rfl)) rfl rfl (l' := [_,_,_,_,_,_,_,_,_,_,_,_,_,_,_,_,_,_,_,_]) rfl ?_
      refine l_val s (y_as rfl (ev_of rfl)) rfl rfl (l' := [_,_,_,_,_,_,_,_,_,_,_,_,_,_,_,_,_,_,_,_]) rfl ?_
      refine l_end ?_
      refine x_thenN ?_
      refine c_ret ?_
      refine r1 rfl rfl ?_
      exact ⟨by unfold oddB; congr 1; first | exact (decide_eq_true (by omega)).symm | exact (decide_eq_false (by omega)).symm | exact decide_eq_decide.2 (by omega), s.sub (by first | (repeat first | with_reducible exact Sub.refl _ | refine Sub.skip _ ?_); done | (repeat first | with_reducible exact Sub.refl _ | exact Sub.nil _ | refine Sub.take (by repeat first | with_reducible exact Take.here _ _ | apply Take.there) ?_ | refine Sub.skip _ ?_))⟩
  · (try simp only [decide_eq_true_eq, decide_eq_false_iff_not, Bool.not_eq_true', Bool.not_eq_false'] at hg1)
    refine nlL (l' := [_,_,_,_,_,_,_,_,_,_,_,_,_,_,_,_,_,_,_,_]) rfl ?_
    refine l_skip (wanted_of rfl rfl rfl rfl rfl) rfl (l' := [_,_,_,_,_,_,_,_,_,_,_,_,_,_,_,_,_,_,_,_]) rfl ?_
    refine l_skip (wanted_of rfl rfl rfl rfl rfl) rfl (l' := [_,_,_,_,_,_,_,_,_,_,_,_,_,_,_,_,_,_,_,_]) rfl ?_
    refine l_skip (wanted_of rfl rfl rfl rfl rfl) rfl (l' := [_,_,_,_,_,_,_,_,_,_,_,_,_,_,_,_,_,_,_,_]) rfl ?_
    refine l_val s (y_pick0 rfl (ev_of rfl) (ev_of rfl)) rfl rfl (l' := [_,_,_,_,_,_,_,_,_,_,_,_,_,_,_,_,_,_,_,_]) rfl ?_
    refine l_val s (y_mv rfl (ev_of rfl)) rfl rfl (l' := [_,_,_,_,_,_,_,_,_,_,_,_,_,_,_,_,_,_,_,_]) rfl ?_
    refine l_skip (wanted_of rfl rfl rfl rfl rfl) rfl (l' := [_,_,_,_,_,_,_,_,_,_,_,_,_,_,_,_,_,_,_,_]) rfl ?_
    refine l_skip (wanted_of rfl rfl rfl rfl rfl) rfl (l' := [_,_,_,_,_,_,_,_,_,_,_,_,_,_,_,_,_,_,_,_]) rfl ?_
    refine l_skip (wanted_of rfl rfl rfl rfl rfl) rfl (l' := [_,_,_,_,_,_,_,_,_,_,_,_,_,_,_,_,_,_,_,_]) rfl ?_
    refine l_val s (y_pick0 rfl (ev_of rfl) (ev_of rfl)) rfl rfl (l' := [_,_,_,_,_,_,_,_,_,_,_,_,_,_,_,_,_,_,_,_]) rfl ?_
    refine l_val s (y_as rfl (ev_of rfl)) rfl rfl (l' := [_,_,_,_,_,_,_,_,_,_,_,_,_,_,_,_,_,_,_,_]) rfl ?_
    refine l_end ?_
    refine x_thenN ?_
    refine c_ret ?_
    refine r1 rfl rfl ?_
    exact ⟨by unfold oddB; congr 1; first | exact (decide_eq_true (by omega)).symm | exact (decide_eq_false (by omega)).symm | exact decide_eq_decide.2 (by omega), s.sub (by first | (repeat first | with_reducible exact Sub.refl _ | refine Sub.skip _ ?_); done | (repeat first | with_reducible exact Sub.refl _ | exact Sub.nil _ | refine Sub.take (by repeat first | with_reducible exact Take.here _ _ | apply Take.there) ?_ | refine Sub.skip _ ?_))⟩
set_option maxHeartbeats 4000000 in
set_option maxRecDepth 100000 in
/-- hachure/hachureref47.Prefer -/
theorem refPref_c {e : Env} {L : List Asn} {w : World} {which : Int} {W H : Nat} {u0 u1 u2 : Value} {bs xs ys : List Int} (s : SL e w L) (hv0 : Ent L (SlR I64 u0 bs)) (hv1 : Ent L (SlR I64 u1 xs)) (hv2 : Ent L (SlR I64 u2 ys)) (hW : 1 ≤ W) (hn : bs.length ≤ 100000000) (hx : xs.length = bs.length) (hy : ys.length = bs.length) (hw : 0 ≤ which ∧ which ≤ 3) :
    Calls Try.prog 39 #[.agg #[.int .i64 (W : Int), .int .i64 (H : Int), u0], .agg #[.int .i64 (W : Int), .int .i64 (H : Int), u1], .agg #[.int .i64 (W : Int), .int .i64 (H : Int), u2], .int .i64 which] w (Rets fun r w' => ∃ z, r = .agg #[.int .i64 (W : Int), .int .i64 (H : Int), z] ∧ SL e w' (Arr I64 2 z (mgR which bs xs ys bs.length) :: L)) := by
  refine enter Try.func39 rfl (l := [.agg #[.int .i64 (W : Int), .int .i64 (H : Int), u0], .agg #[.int .i64 (W : Int), .int .i64 (H : Int), u1], .agg #[.int .i64 (W : Int), .int .i64 (H : Int), u2], .int .i64 which, undef, undef, undef, undef, undef, undef, undef, undef, undef, undef, undef, undef, undef, undef, undef, undef, undef, undef, undef, undef, undef, undef, undef, undef, undef, undef, undef, undef, undef, undef, undef, undef, undef, undef, undef, undef, undef, undef, undef, undef, undef, undef, undef, undef, undef, undef, undef, undef, undef, undef, undef, undef, undef, undef, undef, undef, undef, undef, undef, undef, undef, undef, undef, undef, undef, undef, undef, undef, undef, undef, undef, undef, undef, undef, undef, undef, undef, undef, undef, undef, undef, undef]) rfl ?_
  refine c_seq ?_
  refine c_region ?_
  refine l_box s rfl rfl rfl (ev_of rfl) (fun b3 w2 s1 => ?_)
  change SL _ _ (Blk _ #[_, _, _] _ :: _) at s1
  clear s
  refine nlL (l' := [_,_,_,_,_,_,_,_,_,_,_,_,_,_,_,_,_,_,_,_,_,_,_,_,_,_,_,_,_,_,_,_,_,_,_,_,_,_,_,_,_,_,_,_,_,_,_,_,_,_,_,_,_,_,_,_,_,_,_,_,_,_,_,_,_,_,_,_,_,_,_,_,_,_,_,_,_,_,_,_,_,_,_,_,_,_]) rfl ?_
  refine l_box s1 rfl rfl rfl (ev_of rfl) (fun b6 w5 s4 => ?_)
  change SL _ _ (Blk _ #[_, _, _] _ :: _) at s4
  clear s1
  refine nlL (l' := _) rfl ?_
  refine l_box s4 rfl rfl rfl (ev_of rfl) (fun b9 w8 s7 => ?_)
  change SL _ _ (Blk _ #[_, _, _] _ :: _) at s7
  clear s4
  refine nlL (l' := _) rfl ?_
  refine l_alloc s7 rfl rfl rfl Ty.zero25 (fun b12 w11 s10 => ?_)
  change SL _ _ (Blk _ #[_, _, _] _ :: _) at s10
  clear s7
  refine nlL (l' := [_,_,_,_,_,_,_,_,_,_,_,_,_,_,_,_,_,_,_,_,_,_,_,_,_,_,_,_,_,_,_,_,_,_,_,_,_,_,_,_,_,_,_,_,_,_,_,_,_,_,_,_,_,_,_,_,_,_,_,_,_,_,_,_,_,_,_,_,_,_,_,_,_,_,_,_,_,_,_,_,_,_,_,_,_,_]) rfl ?_
  refine l_end ?_
  refine x_thenN ?_
  refine c_seq ?_
  refine c_region ?_
  refine l_val s10 (y_fieldAddrB rfl Ty.fld25_0 Ty.size2 (ev_of rfl)) rfl rfl (l' := _) rfl ?_
  refine l_val s10 (y_load rfl Ty.some2 Ty.agg2 (ev_of rfl) (by repeat first | exact ent_cell rfl | assumption | refine Ent.there ?_)) rfl rfl (l' := _) rfl ?_
  refine l_val s10 (y_fieldAddrB rfl Ty.fld25_1 Ty.size2 (ev_of rfl)) rfl rfl (l' := [_,_,_,_,_,_,_,_,_,_,_,_,_,_,_,_,_,_,_,_,_,_,_,_,_,_,_,_,_,_,_,_,_,_,_,_,_,_,_,_,_,_,_,_,_,_,_,_,_,_,_,_,_,_,_,_,_,_,_,_,_,_,_,_,_,_,_,_,_,_,_,_,_,_,_,_,_,_,_,_,_,_,_,_,_,_]) rfl ?_
  refine l_val s10 (y_load rfl Ty.some2 Ty.agg2 (ev_of rfl) (by repeat first | exact ent_cell rfl | assumption | refine Ent.there ?_)) rfl rfl (l' := _) rfl ?_
  refine l_val s10 (y_bld (zs := [_, _, _]) (vs := [(0, _), (1, _)]) (ps := [(0, [_]), (1, [_])]) (v := .agg #[_, _, _]) rfl Ty.zero25 rfl (fs_of Ty.fs25) rfl rfl (by intro q hq; simp only [List.zip_cons_cons, List.zip_nil_right, List.zip_nil_left, List.mem_cons, List.not_mem_nil, or_false] at hq; rcases hq with rfl | rfl <;> exact ⟨by kernel_rfl, by first | rfl | (simp only [cells_one (arr_one (by first | (repeat first | assumption | with_reducible exact ent_blk | with_reducible exact Ent.here arr_reads | with_reducible exact Ent.here one_I64 | with_reducible exact Ent.here one_Cell | refine Ent.there ?_); done | (repeat first | assumption | with_reducible exact ent_blk | exact Ent.here arr_reads | exact Ent.here one_I64 | exact Ent.here one_Cell | exact Ent.here one_Bool | exact Ent.here one_Rect | refine Ent.there ?_)) s10)]; first | done | rfl), by simp⟩) rfl ⟨_, rfl⟩) rfl rfl (l' := _) rfl ?_
  refine l_alloc s10 rfl rfl rfl Ty.zero25 (fun b15 w14 s13 => ?_)
  change SL _ _ (Blk _ #[_, _, _] _ :: _) at s13
  clear s10
  refine nlL (l' := [_,_,_,_,_,_,_,_,_,_,_,_,_,_,_,_,_,_,_,_,_,_,_,_,_,_,_,_,_,_,_,_,_,_,_,_,_,_,_,_,_,_,_,_,_,_,_,_,_,_,_,_,_,_,_,_,_,_,_,_,_,_,_,_,_,_,_,_,_,_,_,_,_,_,_,_,_,_,_,_,_,_,_,_,_,_]) rfl ?_
  refine l_stA s13 (by repeat first | with_reducible exact Take.here _ _ | apply Take.there) rfl rfl rfl Ty.size25 (ev_of rfl) (ev_of rfl) rfl rfl (by first | (simp [Value.oneCell']; done) | (intro x hx; simp only [List.mem_toArray, List.mem_cons, List.not_mem_nil, or_false] at hx; rcases hx with rfl | rfl | rfl <;> first | rfl | assumption | exact arr_one (by first | (repeat first | assumption | with_reducible exact ent_blk | with_reducible exact Ent.here arr_reads | with_reducible exact Ent.here one_I64 | with_reducible exact Ent.here one_Cell | refine Ent.there ?_); done | (repeat first | assumption | with_reducible exact ent_blk | exact Ent.here arr_reads | exact Ent.here one_I64 | exact Ent.here one_Cell | exact Ent.here one_Bool | exact Ent.here one_Rect | refine Ent.there ?_)) s13)) (fun w17 s16 => ?_)
  clear s13
  refine l_end ?_
  refine x_thenN ?_
  refine c_seq ?_
  refine c_seq ?_
  refine c_region ?_
  refine l_val s16 (y_as rfl (ev_of rfl)) rfl rfl (l' := _) rfl ?_
  refine l_end ?_
  refine x_thenN ?_
  refine c_block ?_
  replace s16 := s16.nilArr I64 2
  change SL _ _ (Arr I64 2 _ (mgR which bs xs ys 0) :: _) at s16
  refine c_loop [false, false, false, false, false, false, false, false, false, false, true, true, true, false, false, false, false, false, true, true, true, true, true, true, true, true, true, true, true, true, true, true, true, true, true, true, true, true, true, true, true, true, true, true, true, true, true, true, true, true, true, true, true, true, true, true, true, true, true, true, true, true, true, true, true, true, true, true, true, true, true, true, true, true, true, true, true, true, true, true, true, true, true, true, true, false] (fun mu ds w => ∃ (i : Nat) (z : Value) (dd1 : List Value), ds = [(.int .i64 (i : Int)), nthD dd1 0, nthD dd1 1, nthD dd1 2, nthD dd1 3, nthD dd1 4, nthD dd1 5, nthD dd1 6, nthD dd1 7, nthD dd1 8, nthD dd1 9, nthD dd1 10, nthD dd1 11, nthD dd1 12, nthD dd1 13, nthD dd1 14, nthD dd1 15, nthD dd1 16, nthD dd1 17, nthD dd1 18, nthD dd1 19, nthD dd1 20, nthD dd1 21, nthD dd1 22, nthD dd1 23, nthD dd1 24, nthD dd1 25, nthD dd1 26, nthD dd1 27, nthD dd1 28, nthD dd1 29, nthD dd1 30, nthD dd1 31, nthD dd1 32, nthD dd1 33, nthD dd1 34, nthD dd1 35, nthD dd1 36, nthD dd1 37, nthD dd1 38, nthD dd1 39, nthD dd1 40, nthD dd1 41, nthD dd1 42, nthD dd1 43, nthD dd1 44, nthD dd1 45, nthD dd1 46, nthD dd1 47, nthD dd1 48, nthD dd1 49, nthD dd1 50, nthD dd1 51, nthD dd1 52, nthD dd1 53, nthD dd1 54, nthD dd1 55, nthD dd1 56, nthD dd1 57, nthD dd1 58, nthD dd1 59, nthD dd1 60, nthD dd1 61, nthD dd1 62, nthD dd1 63, nthD dd1 64, nthD dd1 65, nthD dd1 66, nthD dd1 67, nthD dd1 68] ∧ mu = bs.length - i ∧ SL e w (Blk b15 #[.int .i64 (W : Int), .int .i64 (H : Int), z] 25 :: Arr I64 2 z (mgR which bs xs ys i) :: Blk b12 #[.int .i64 0, .int .i64 0, .slice none 0 0] 25 :: Blk b9 #[.int .i64 (W : Int), .int .i64 (H : Int), u2] 25 :: Blk b6 #[.int .i64 (W : Int), .int .i64 (H : Int), u1] 25 :: Blk b3 #[.int .i64 (W : Int), .int .i64 (H : Int), u0] 25 :: L) ∧ (i ≤ bs.length)) (ds := [_, _, _, _, _, _, _, _, _, _, _, _, _, _, _, _, _, _, _, _, _, _, _, _, _, _, _, _, _, _, _, _, _, _, _, _, _, _, _, _, _, _, _, _, _, _, _, _, _, _, _, _, _, _, _, _, _, _, _, _, _, _, _, _, _, _, _, _, _, _]) rfl ⟨0, (.slice none 0 0), [_, _, _, _, _, _, _, _, _, _, _, _, _, _, _, _, _, _, _, _, _, _, _, _, _, _, _, _, _, _, _, _, _, _, _, _, _, _, _, _, _, _, _, _, _, _, _, _, _, _, _, _, _, _, _, _, _, _, _, _, _, _, _, _, _, _, _, _, _], rfl, rfl, ?_, ?_⟩ ?_
  · first | exact s16 | exact s16.sub (by first | (repeat first | with_reducible exact Sub.refl _ | refine Sub.skip _ ?_); done | (repeat first | with_reducible exact Sub.refl _ | exact Sub.nil _ | refine Sub.take (by repeat first | with_reducible exact Take.here _ _ | apply Take.there) ?_ | refine Sub.skip _ ?_))
  · omega
  · clear s16
    rintro n20 ds21 w19 ⟨i, z, dd1, rfl, rfl, s18, hI⟩
    refine nlC (l' := [_,_,_,_,_,_,_,_,_,_,_,_,_,_,_,_,_,_,_,_,_,_,_,_,_,_,_,_,_,_,_,_,_,_,_,_,_,_,_,_,_,_,_,_,_,_,_,_,_,_,_,_,_,_,_,_,_,_,_,_,_,_,_,_,_,_,_,_,_,_,_,_,_,_,_,_,_,_,_,_,_,_,_,_,_,_]) rfl ?_
    refine c_seq ?_
    refine c_seq ?_
    refine c_region ?_
    refine l_val s18 (y_mv rfl (ev_of rfl)) rfl rfl (l' := [_,_,_,_,_,_,_,_,_,_,_,_,_,_,_,_,_,_,_,_,_,_,_,_,_,_,_,_,_,_,_,_,_,_,_,_,_,_,_,_,_,_,_,_,_,_,_,_,_,_,_,_,_,_,_,_,_,_,_,_,_,_,_,_,_,_,_,_,_,_,_,_,_,_,_,_,_,_,_,_,_,_,_,_,_,_]) rfl ?_
    refine l_val s18 (y_fieldAddrB rfl Ty.fld25_2 Ty.size22 (ev_of rfl)) rfl rfl (l' := _) rfl ?_
    refine l_val s18 (y_load rfl Ty.some22 Ty.agg22 (ev_of rfl) (by repeat first | exact ent_cell rfl | assumption | refine Ent.there ?_)) rfl rfl (l' := _) rfl ?_
    refine l_val s18 (y_len rfl rfl Ty.elem22 (ev_of rfl) (by first | (repeat first | assumption | with_reducible exact ent_blk | with_reducible exact Ent.here arr_reads | with_reducible exact Ent.here one_I64 | with_reducible exact Ent.here one_Cell | refine Ent.there ?_); done | (repeat first | assumption | with_reducible exact ent_blk | exact Ent.here arr_reads | exact Ent.here one_I64 | exact Ent.here one_Cell | exact Ent.here one_Bool | exact Ent.here one_Rect | refine Ent.there ?_))) rfl rfl (l' := [_,_,_,_,_,_,_,_,_,_,_,_,_,_,_,_,_,_,_,_,_,_,_,_,_,_,_,_,_,_,_,_,_,_,_,_,_,_,_,_,_,_,_,_,_,_,_,_,_,_,_,_,_,_,_,_,_,_,_,_,_,_,_,_,_,_,_,_,_,_,_,_,_,_,_,_,_,_,_,_,_,_,_,_,_,_]) rfl ?_
    refine l_val s18 (y_lss rfl (ev_of rfl) (ev_of rfl)) rfl rfl (l' := _) rfl ?_
    refine l_end ?_
    refine x_thenN ?_
    refine c_if rfl (fun hc0 => ?_) (fun hc0 => ?_)
    · (try simp only [decide_eq_true_eq, decide_eq_false_iff_not, Bool.not_eq_true', Bool.not_eq_false'] at hc0)
      refine c_skip ?_
      refine x_thenN ?_
      refine c_seq ?_
      refine c_block ?_
      refine c_seq ?_
      apply c_drawn [] [0, 1, 2, 3, 4, 5, 6, 7, 8, 9, 10, 11] [] [] [] [(_, vq _), (_, vq _), (_, vq _), (_, vq _), (_, vq _), (_, vq _), (_, vq _), (_, vq _), (_, vq _), (_, vq _), (_, vq _), (_, vq _)] s18 Ty.follows (by kernel_rfl) (fun _ _ _ h => h.2) rfl rfl rfl (by decide) ?_
      show WP _ _ _ _ _
      refine p_end ?_
      refine d_val (y_fieldAddrB rfl Ty.fld25_2 Ty.size22 (ev_of rfl)) rfl rfl (l' := _) rfl ?_
      refine d_val (y_load rfl Ty.some22 Ty.agg22 (ev_of rfl) (by repeat first | exact ent_cell rfl | assumption | refine Ent.there ?_)) rfl rfl (l' := [_,_,_,_,_,_,_,_,_,_,_,_,_,_,_,_,_,_,_,_,_,_,_,_,_,_,_,_,_,_,_,_,_,_,_,_,_,_,_,_,_,_,_,_,_,_,_,_,_,_,_,_,_,_,_,_,_,_,_,_,_,_,_,_,_,_,_,_,_,_,_,_,_,_,_,_,_,_,_,_,_,_,_,_,_,_]) rfl ?_
      refine d_val (y_mv rfl (ev_of rfl)) rfl rfl (l' := _) rfl ?_
      refine d_val (y_idx rfl Ty.elem22 Ty.size2 (ev_of rfl) (ev_of rfl) (by first | (repeat first | assumption | with_reducible exact ent_blk | with_reducible exact Ent.here arr_reads | with_reducible exact Ent.here one_I64 | with_reducible exact Ent.here one_Cell | refine Ent.there ?_); done | (repeat first | assumption | with_reducible exact ent_blk | exact Ent.here arr_reads | exact Ent.here one_I64 | exact Ent.here one_Cell | exact Ent.here one_Bool | exact Ent.here one_Rect | refine Ent.there ?_)) (by first | rfl | exact (Int.toNat_of_nonneg (by omega)).symm) (by omega)) rfl rfl (l' := _) rfl ?_
      refine d_val (y_ldI rfl Ty.some2 Ty.agg2 (ev_of rfl) (by first | (repeat first | assumption | with_reducible exact ent_blk | with_reducible exact Ent.here arr_reads | with_reducible exact Ent.here one_I64 | with_reducible exact Ent.here one_Cell | refine Ent.there ?_); done | (repeat first | assumption | with_reducible exact ent_blk | exact Ent.here arr_reads | exact Ent.here one_I64 | exact Ent.here one_Cell | exact Ent.here one_Bool | exact Ent.here one_Rect | refine Ent.there ?_)) (by omega)) rfl rfl (l' := [_,_,_,_,_,_,_,_,_,_,_,_,_,_,_,_,_,_,_,_,_,_,_,_,_,_,_,_,_,_,_,_,_,_,_,_,_,_,_,_,_,_,_,_,_,_,_,_,_,_,_,_,_,_,_,_,_,_,_,_,_,_,_,_,_,_,_,_,_,_,_,_,_,_,_,_,_,_,_,_,_,_,_,_,_,_]) rfl ?_
      refine d_val (y_fieldAddrB rfl Ty.fld25_2 Ty.size22 (ev_of rfl)) rfl rfl (l' := _) rfl ?_
      refine d_val (y_load rfl Ty.some22 Ty.agg22 (ev_of rfl) (by repeat first | exact ent_cell rfl | assumption | refine Ent.there ?_)) rfl rfl (l' := _) rfl ?_
      refine d_val (y_mv rfl (ev_of rfl)) rfl rfl (l' := [_,_,_,_,_,_,_,_,_,_,_,_,_,_,_,_,_,_,_,_,_,_,_,_,_,_,_,_,_,_,_,_,_,_,_,_,_,_,_,_,_,_,_,_,_,_,_,_,_,_,_,_,_,_,_,_,_,_,_,_,_,_,_,_,_,_,_,_,_,_,_,_,_,_,_,_,_,_,_,_,_,_,_,_,_,_]) rfl ?_
      refine d_val (y_idx rfl Ty.elem22 Ty.size2 (ev_of rfl) (ev_of rfl) (by first | (repeat first | assumption | with_reducible exact ent_blk | with_reducible exact Ent.here arr_reads | with_reducible exact Ent.here one_I64 | with_reducible exact Ent.here one_Cell | refine Ent.there ?_); done | (repeat first | assumption | with_reducible exact ent_blk | exact Ent.here arr_reads | exact Ent.here one_I64 | exact Ent.here one_Cell | exact Ent.here one_Bool | exact Ent.here one_Rect | refine Ent.there ?_)) (by first | rfl | exact (Int.toNat_of_nonneg (by omega)).symm) (by omega)) rfl rfl (l' := _) rfl ?_
      refine d_val (y_ldI rfl Ty.some2 Ty.agg2 (ev_of rfl) (by first | (repeat first | assumption | with_reducible exact ent_blk | with_reducible exact Ent.here arr_reads | with_reducible exact Ent.here one_I64 | with_reducible exact Ent.here one_Cell | refine Ent.there ?_); done | (repeat first | assumption | with_reducible exact ent_blk | exact Ent.here arr_reads | exact Ent.here one_I64 | exact Ent.here one_Cell | exact Ent.here one_Bool | exact Ent.here one_Rect | refine Ent.there ?_)) (by omega)) rfl rfl (l' := _) rfl ?_
      refine d_val (y_as rfl (ev_of rfl)) rfl rfl (l' := [_,_,_,_,_,_,_,_,_,_,_,_,_,_,_,_,_,_,_,_,_,_,_,_,_,_,_,_,_,_,_,_,_,_,_,_,_,_,_,_,_,_,_,_,_,_,_,_,_,_,_,_,_,_,_,_,_,_,_,_,_,_,_,_,_,_,_,_,_,_,_,_,_,_,_,_,_,_,_,_,_,_,_,_,_,_]) rfl ?_
      refine d_val (y_as rfl (ev_of rfl)) rfl rfl (l' := _) rfl ?_
      refine d_end (fun w23 s22 => ?_)
      clear s18
      simp only [List.append_nil, List.cons_append, List.nil_append] at s22
      refine l_end ?_
      refine x_thenN ?_
      refine c_seq ?_
      refine c_seq ?_
      refine c_region ?_
      refine l_val s22 (y_fieldAddrB rfl Ty.fld25_2 Ty.size22 (ev_of rfl)) rfl rfl (l' := _) rfl ?_
      refine l_val s22 (y_load rfl Ty.some22 Ty.agg22 (ev_of rfl) (by repeat first | exact ent_cell rfl | assumption | refine Ent.there ?_)) rfl rfl (l' := [_,_,_,_,_,_,_,_,_,_,_,_,_,_,_,_,_,_,_,_,_,_,_,_,_,_,_,_,_,_,_,_,_,_,_,_,_,_,_,_,_,_,_,_,_,_,_,_,_,_,_,_,_,_,_,_,_,_,_,_,_,_,_,_,_,_,_,_,_,_,_,_,_,_,_,_,_,_,_,_,_,_,_,_,_,_]) rfl ?_
      refine l_val s22 (y_mv rfl (ev_of rfl)) rfl rfl (l' := _) rfl ?_
      refine l_val s22 (y_idx rfl Ty.elem22 Ty.size2 (ev_of rfl) (ev_of rfl) (by first | (repeat first | assumption | with_reducible exact ent_blk | with_reducible exact Ent.here arr_reads | with_reducible exact Ent.here one_I64 | with_reducible exact Ent.here one_Cell | refine Ent.there ?_); done | (repeat first | assumption | with_reducible exact ent_blk | exact Ent.here arr_reads | exact Ent.here one_I64 | exact Ent.here one_Cell | exact Ent.here one_Bool | exact Ent.here one_Rect | refine Ent.there ?_)) (by first | rfl | exact (Int.toNat_of_nonneg (by omega)).symm) (by omega)) rfl rfl (l' := _) rfl ?_
      refine l_val s22 (y_ldI rfl Ty.some2 Ty.agg2 (ev_of rfl) (by first | (repeat first | assumption | with_reducible exact ent_blk | with_reducible exact Ent.here arr_reads | with_reducible exact Ent.here one_I64 | with_reducible exact Ent.here one_Cell | refine Ent.there ?_); done | (repeat first | assumption | with_reducible exact ent_blk | exact Ent.here arr_reads | exact Ent.here one_I64 | exact Ent.here one_Cell | exact Ent.here one_Bool | exact Ent.here one_Rect | refine Ent.there ?_)) (by omega)) rfl rfl (l' := [_,_,_,_,_,_,_,_,_,_,_,_,_,_,_,_,_,_,_,_,_,_,_,_,_,_,_,_,_,_,_,_,_,_,_,_,_,_,_,_,_,_,_,_,_,_,_,_,_,_,_,_,_,_,_,_,_,_,_,_,_,_,_,_,_,_,_,_,_,_,_,_,_,_,_,_,_,_,_,_,_,_,_,_,_,_]) rfl ?_
      refine l_val s22 (y_mv rfl (ev_of rfl)) rfl rfl (l' := _) rfl ?_
      refine l_val s22 (y_mv rfl (ev_of rfl)) rfl rfl (l' := _) rfl ?_
      refine l_callL rfl rfl rfl FnMd.call126 (vs := [_, _, _]) rfl (refOdds_c s22) ?_
      rintro _ w25 ⟨rfl, s24⟩
      clear s22
      refine nlL (l' := [_,_,_,_,_,_,_,_,_,_,_,_,_,_,_,_,_,_,_,_,_,_,_,_,_,_,_,_,_,_,_,_,_,_,_,_,_,_,_,_,_,_,_,_,_,_,_,_,_,_,_,_,_,_,_,_,_,_,_,_,_,_,_,_,_,_,_,_,_,_,_,_,_,_,_,_,_,_,_,_,_,_,_,_,_,_]) rfl ?_
      refine l_val s24 (y_not rfl (ev_of rfl)) rfl rfl (l' := _) rfl ?_
      refine l_end ?_
      refine x_thenN ?_
      refine c_if rfl (fun hc1 => ?_) (fun hc1 => ?_)
      · (try simp only [decide_eq_true_eq, decide_eq_false_iff_not, Bool.not_eq_true', Bool.not_eq_false'] at hc1)
        refine c_seq ?_
        refine c_seq ?_
        refine c_region ?_
        refine l_val s24 (y_mv rfl (ev_of rfl)) rfl rfl (l' := _) rfl ?_
        refine l_val s24 (y_fieldAddrB rfl Ty.fld25_2 Ty.size22 (ev_of rfl)) rfl rfl (l' := [_,_,_,_,_,_,_,_,_,_,_,_,_,_,_,_,_,_,_,_,_,_,_,_,_,_,_,_,_,_,_,_,_,_,_,_,_,_,_,_,_,_,_,_,_,_,_,_,_,_,_,_,_,_,_,_,_,_,_,_,_,_,_,_,_,_,_,_,_,_,_,_,_,_,_,_,_,_,_,_,_,_,_,_,_,_]) rfl ?_
        refine l_val s24 (y_load rfl Ty.some22 Ty.agg22 (ev_of rfl) (by repeat first | exact ent_cell rfl | assumption | refine Ent.there ?_)) rfl rfl (l' := _) rfl ?_
        refine l_val s24 (y_mv rfl (ev_of rfl)) rfl rfl (l' := _) rfl ?_
        refine l_val s24 (y_idx rfl Ty.elem22 Ty.size2 (ev_of rfl) (ev_of rfl) (by first | (repeat first | assumption | with_reducible exact ent_blk | with_reducible exact Ent.here arr_reads | with_reducible exact Ent.here one_I64 | with_reducible exact Ent.here one_Cell | refine Ent.there ?_); done | (repeat first | assumption | with_reducible exact ent_blk | exact Ent.here arr_reads | exact Ent.here one_I64 | exact Ent.here one_Cell | exact Ent.here one_Bool | exact Ent.here one_Rect | refine Ent.there ?_)) (by first | rfl | exact (Int.toNat_of_nonneg (by omega)).symm) (by omega)) rfl rfl (l' := [_,_,_,_,_,_,_,_,_,_,_,_,_,_,_,_,_,_,_,_,_,_,_,_,_,_,_,_,_,_,_,_,_,_,_,_,_,_,_,_,_,_,_,_,_,_,_,_,_,_,_,_,_,_,_,_,_,_,_,_,_,_,_,_,_,_,_,_,_,_,_,_,_,_,_,_,_,_,_,_,_,_,_,_,_,_]) rfl ?_
        refine l_val s24 (y_ldI rfl Ty.some2 Ty.agg2 (ev_of rfl) (by first | (repeat first | assumption | with_reducible exact ent_blk | with_reducible exact Ent.here arr_reads | with_reducible exact Ent.here one_I64 | with_reducible exact Ent.here one_Cell | refine Ent.there ?_); done | (repeat first | assumption | with_reducible exact ent_blk | exact Ent.here arr_reads | exact Ent.here one_I64 | exact Ent.here one_Cell | exact Ent.here one_Bool | exact Ent.here one_Rect | refine Ent.there ?_)) (by omega)) rfl rfl (l' := _) rfl ?_
        refine l_val s24 (y_eql rfl (ev_of rfl) (ev_of rfl)) rfl rfl (l' := _) rfl ?_
        refine l_end ?_
        refine x_thenN ?_
        refine c_if rfl (fun hc2 => ?_) (fun hc2 => ?_)
        · (try simp only [decide_eq_true_eq, decide_eq_false_iff_not, Bool.not_eq_true', Bool.not_eq_false'] at hc2)
          refine c_region ?_
          refine l_val s24 (y_mv rfl (ev_of rfl)) rfl rfl (l' := [_,_,_,_,_,_,_,_,_,_,_,_,_,_,_,_,_,_,_,_,_,_,_,_,_,_,_,_,_,_,_,_,_,_,_,_,_,_,_,_,_,_,_,_,_,_,_,_,_,_,_,_,_,_,_,_,_,_,_,_,_,_,_,_,_,_,_,_,_,_,_,_,_,_,_,_,_,_,_,_,_,_,_,_,_,_]) rfl ?_
          refine l_val s24 (y_as rfl (ev_of rfl)) rfl rfl (l' := _) rfl ?_
          refine l_end ?_
          refine x_thenN ?_
          refine c_seq ?_
          refine c_region ?_
          refine l_val s24 (y_fieldAddrB rfl Ty.fld25_2 Ty.size22 (ev_of rfl)) rfl rfl (l' := _) rfl ?_
          refine l_val s24 (y_load rfl Ty.some22 Ty.agg22 (ev_of rfl) (by repeat first | exact ent_cell rfl | assumption | refine Ent.there ?_)) rfl rfl (l' := [_,_,_,_,_,_,_,_,_,_,_,_,_,_,_,_,_,_,_,_,_,_,_,_,_,_,_,_,_,_,_,_,_,_,_,_,_,_,_,_,_,_,_,_,_,_,_,_,_,_,_,_,_,_,_,_,_,_,_,_,_,_,_,_,_,_,_,_,_,_,_,_,_,_,_,_,_,_,_,_,_,_,_,_,_,_]) rfl ?_
          refine l_val s24 (y_mv rfl (ev_of rfl)) rfl rfl (l' := _) rfl ?_
          refine l_bs s24 rfl rfl rfl Ty.elem22 Ty.size2 Ty.zero2 (zs := [_]) rfl (vs := [(0, _)]) rfl (ps := [(0, [_])]) rfl (by intro q hq; simp only [List.zip_cons_cons, List.zip_nil_right, List.zip_nil_left, List.mem_cons, List.not_mem_nil, or_false] at hq; rcases hq with rfl <;> exact ⟨rfl, rfl, by first | rfl | (simp only [cells_one (arr_one (by first | (repeat first | assumption | with_reducible exact ent_blk | with_reducible exact Ent.here arr_reads | with_reducible exact Ent.here one_I64 | with_reducible exact Ent.here one_Cell | refine Ent.there ?_); done | (repeat first | assumption | with_reducible exact ent_blk | exact Ent.here arr_reads | exact Ent.here one_I64 | exact Ent.here one_Cell | exact Ent.here one_Bool | exact Ent.here one_Rect | refine Ent.there ?_)) s24)]; first | done | rfl), by simp⟩) (cells := [_]) rfl (by decide) (fun b28 w27 s26 => ?_)
          clear s24
          refine nlL (l' := _) rfl ?_
          refine l_append1 s26 (by repeat first | exact Take.here (Blk _ _ _) _ | apply Take.there) (by repeat first | with_reducible exact Take.here _ _ | apply Take.there) rfl rfl rfl Ty.elem22 Ty.size2 Ty.bytes2 Ty.zero2 rfl (ev_of rfl) (ev_of rfl) one_I64 (by rw [mgR_length]; simp only [List.length_cons, List.length_nil]; omega) (by decide) (fun v31 w30 s29 => ?_)
          clear s26
          refine nlL (l' := [_,_,_,_,_,_,_,_,_,_,_,_,_,_,_,_,_,_,_,_,_,_,_,_,_,_,_,_,_,_,_,_,_,_,_,_,_,_,_,_,_,_,_,_,_,_,_,_,_,_,_,_,_,_,_,_,_,_,_,_,_,_,_,_,_,_,_,_,_,_,_,_,_,_,_,_,_,_,_,_,_,_,_,_,_,_]) rfl ?_
          refine l_val s29 (y_fieldAddrB rfl Ty.fld25_2 Ty.size22 (ev_of rfl)) rfl rfl (l' := _) rfl ?_
          refine l_store s29 rfl rfl rfl Ty.size22 (ev_of rfl) (ev_of rfl) (by first | rfl | exact arr_one (by first | (repeat first | assumption | with_reducible exact ent_blk | with_reducible exact Ent.here arr_reads | with_reducible exact Ent.here one_I64 | with_reducible exact Ent.here one_Cell | refine Ent.there ?_); done | (repeat first | assumption | with_reducible exact ent_blk | exact Ent.here arr_reads | exact Ent.here one_I64 | exact Ent.here one_Cell | exact Ent.here one_Bool | exact Ent.here one_Rect | refine Ent.there ?_)) s29) (by repeat first | exact Wr.blk (cells' := #[_, _, _]) (Nat.le_of_ble_eq_true rfl) rfl | apply Wr.there) (fun w33 s32 => ?_)
          clear s29
          refine l_end ?_
          refine x_thenN ?_
          refine c_exit ?_
          refine x_thenE ?_
          refine x_hit ?_
          refine x_thenN ?_
          refine c_region ?_
          refine l_val s32 (y_mv rfl (ev_of rfl)) rfl rfl (l' := _) rfl ?_
          refine l_val s32 (y_add rfl (ev_of rfl) (ev_of rfl) (by omega) (by omega)) rfl rfl (l' := [_,_,_,_,_,_,_,_,_,_,_,_,_,_,_,_,_,_,_,_,_,_,_,_,_,_,_,_,_,_,_,_,_,_,_,_,_,_,_,_,_,_,_,_,_,_,_,_,_,_,_,_,_,_,_,_,_,_,_,_,_,_,_,_,_,_,_,_,_,_,_,_,_,_,_,_,_,_,_,_,_,_,_,_,_,_]) rfl ?_
          refine l_val s32 (y_as rfl (ev_of rfl)) rfl rfl (l' := _) rfl ?_
          refine l_end ?_
          refine x_thenN ?_
          rw [mgR_put (by unfold mgV; rw [hc1]; simp only [Bool.false_eq_true, if_false]; split <;> omega)] at s32
          refine ⟨_, [_, _, _, _, _, _, _, _, _, _, _, _, _, _, _, _, _, _, _, _, _, _, _, _, _, _, _, _, _, _, _, _, _, _, _, _, _, _, _, _, _, _, _, _, _, _, _, _, _, _, _, _, _, _, _, _, _, _, _, _, _, _, _, _, _, _, _, _, _, _], ?_, rfl, i + 1, v31, [_, _, _, _, _, _, _, _, _, _, _, _, _, _, _, _, _, _, _, _, _, _, _, _, _, _, _, _, _, _, _, _, _, _, _, _, _, _, _, _, _, _, _, _, _, _, _, _, _, _, _, _, _, _, _, _, _, _, _, _, _, _, _, _, _, _, _, _, _], rfl, rfl, ?_, ?_⟩
          · omega
          · first | exact s32 | exact s32.sub (by first | (repeat first | with_reducible exact Sub.refl _ | refine Sub.skip _ ?_); done | (repeat first | with_reducible exact Sub.refl _ | exact Sub.nil _ | refine Sub.take (by repeat first | with_reducible exact Take.here _ _ | apply Take.there) ?_ | refine Sub.skip _ ?_))
          · omega
        · (try simp only [decide_eq_true_eq, decide_eq_false_iff_not, Bool.not_eq_true', Bool.not_eq_false'] at hc2)
          refine c_skip ?_
          refine x_thenN ?_
          refine c_seq ?_
          refine c_region ?_
          refine l_val s24 (y_fieldAddrB rfl Ty.fld25_2 Ty.size22 (ev_of rfl)) rfl rfl (l' := _) rfl ?_
          refine l_val s24 (y_load rfl Ty.some22 Ty.agg22 (ev_of rfl) (by repeat first | exact ent_cell rfl | assumption | refine Ent.there ?_)) rfl rfl (l' := [_,_,_,_,_,_,_,_,_,_,_,_,_,_,_,_,_,_,_,_,_,_,_,_,_,_,_,_,_,_,_,_,_,_,_,_,_,_,_,_,_,_,_,_,_,_,_,_,_,_,_,_,_,_,_,_,_,_,_,_,_,_,_,_,_,_,_,_,_,_,_,_,_,_,_,_,_,_,_,_,_,_,_,_,_,_]) rfl ?_
          refine l_val s24 (y_mv rfl (ev_of rfl)) rfl rfl (l' := _) rfl ?_
          refine l_bs s24 rfl rfl rfl Ty.elem22 Ty.size2 Ty.zero2 (zs := [_]) rfl (vs := [(0, _)]) rfl (ps := [(0, [_])]) rfl (by intro q hq; simp only [List.zip_cons_cons, List.zip_nil_right, List.zip_nil_left, List.mem_cons, List.not_mem_nil, or_false] at hq; rcases hq with rfl <;> exact ⟨rfl, rfl, by first | rfl | (simp only [cells_one (arr_one (by first | (repeat first | assumption | with_reducible exact ent_blk | with_reducible exact Ent.here arr_reads | with_reducible exact Ent.here one_I64 | with_reducible exact Ent.here one_Cell | refine Ent.there ?_); done | (repeat first | assumption | with_reducible exact ent_blk | exact Ent.here arr_reads | exact Ent.here one_I64 | exact Ent.here one_Cell | exact Ent.here one_Bool | exact Ent.here one_Rect | refine Ent.there ?_)) s24)]; first | done | rfl), by simp⟩) (cells := [_]) rfl (by decide) (fun b36 w35 s34 => ?_)
          clear s24
          refine nlL (l' := _) rfl ?_
          refine l_append1 s34 (by repeat first | exact Take.here (Blk _ _ _) _ | apply Take.there) (by repeat first | with_reducible exact Take.here _ _ | apply Take.there) rfl rfl rfl Ty.elem22 Ty.size2 Ty.bytes2 Ty.zero2 rfl (ev_of rfl) (ev_of rfl) one_I64 (by rw [mgR_length]; simp only [List.length_cons, List.length_nil]; omega) (by decide) (fun v39 w38 s37 => ?_)
          clear s34
          refine nlL (l' := [_,_,_,_,_,_,_,_,_,_,_,_,_,_,_,_,_,_,_,_,_,_,_,_,_,_,_,_,_,_,_,_,_,_,_,_,_,_,_,_,_,_,_,_,_,_,_,_,_,_,_,_,_,_,_,_,_,_,_,_,_,_,_,_,_,_,_,_,_,_,_,_,_,_,_,_,_,_,_,_,_,_,_,_,_,_]) rfl ?_
          refine l_val s37 (y_fieldAddrB rfl Ty.fld25_2 Ty.size22 (ev_of rfl)) rfl rfl (l' := _) rfl ?_
          refine l_store s37 rfl rfl rfl Ty.size22 (ev_of rfl) (ev_of rfl) (by first | rfl | exact arr_one (by first | (repeat first | assumption | with_reducible exact ent_blk | with_reducible exact Ent.here arr_reads | with_reducible exact Ent.here one_I64 | with_reducible exact Ent.here one_Cell | refine Ent.there ?_); done | (repeat first | assumption | with_reducible exact ent_blk | exact Ent.here arr_reads | exact Ent.here one_I64 | exact Ent.here one_Cell | exact Ent.here one_Bool | exact Ent.here one_Rect | refine Ent.there ?_)) s37) (by repeat first | exact Wr.blk (cells' := #[_, _, _]) (Nat.le_of_ble_eq_true rfl) rfl | apply Wr.there) (fun w41 s40 => ?_)
          clear s37
          refine l_end ?_
          refine x_thenN ?_
          refine c_exit ?_
          refine x_thenE ?_
          refine x_hit ?_
          refine x_thenN ?_
          refine c_region ?_
          refine l_val s40 (y_mv rfl (ev_of rfl)) rfl rfl (l' := _) rfl ?_
          refine l_val s40 (y_add rfl (ev_of rfl) (ev_of rfl) (by omega) (by omega)) rfl rfl (l' := [_,_,_,_,_,_,_,_,_,_,_,_,_,_,_,_,_,_,_,_,_,_,_,_,_,_,_,_,_,_,_,_,_,_,_,_,_,_,_,_,_,_,_,_,_,_,_,_,_,_,_,_,_,_,_,_,_,_,_,_,_,_,_,_,_,_,_,_,_,_,_,_,_,_,_,_,_,_,_,_,_,_,_,_,_,_]) rfl ?_
          refine l_val s40 (y_as rfl (ev_of rfl)) rfl rfl (l' := _) rfl ?_
          refine l_end ?_
          refine x_thenN ?_
          rw [mgR_put (by unfold mgV; rw [hc1]; simp only [Bool.false_eq_true, if_false]; split <;> omega)] at s40
          refine ⟨_, [_, _, _, _, _, _, _, _, _, _, _, _, _, _, _, _, _, _, _, _, _, _, _, _, _, _, _, _, _, _, _, _, _, _, _, _, _, _, _, _, _, _, _, _, _, _, _, _, _, _, _, _, _, _, _, _, _, _, _, _, _, _, _, _, _, _, _, _, _, _], ?_, rfl, i + 1, v39, [_, _, _, _, _, _, _, _, _, _, _, _, _, _, _, _, _, _, _, _, _, _, _, _, _, _, _, _, _, _, _, _, _, _, _, _, _, _, _, _, _, _, _, _, _, _, _, _, _, _, _, _, _, _, _, _, _, _, _, _, _, _, _, _, _, _, _, _, _], rfl, rfl, ?_, ?_⟩
          · omega
          · first | exact s40 | exact s40.sub (by first | (repeat first | with_reducible exact Sub.refl _ | refine Sub.skip _ ?_); done | (repeat first | with_reducible exact Sub.refl _ | exact Sub.nil _ | refine Sub.take (by repeat first | with_reducible exact Take.here _ _ | apply Take.there) ?_ | refine Sub.skip _ ?_))
          · omega
      · (try simp only [decide_eq_true_eq, decide_eq_false_iff_not, Bool.not_eq_true', Bool.not_eq_false'] at hc1)
        refine c_skip ?_
        refine x_thenN ?_
        refine c_seq ?_
        refine c_seq ?_
        refine c_region ?_
        refine l_val s24 (y_mv rfl (ev_of rfl)) rfl rfl (l' := _) rfl ?_
        refine l_val s24 (y_eql rfl (ev_of rfl) (ev_of rfl)) rfl rfl (l' := [_,_,_,_,_,_,_,_,_,_,_,_,_,_,_,_,_,_,_,_,_,_,_,_,_,_,_,_,_,_,_,_,_,_,_,_,_,_,_,_,_,_,_,_,_,_,_,_,_,_,_,_,_,_,_,_,_,_,_,_,_,_,_,_,_,_,_,_,_,_,_,_,_,_,_,_,_,_,_,_,_,_,_,_,_,_]) rfl ?_
        refine l_val s24 (y_mv rfl (ev_of rfl)) rfl rfl (l' := _) rfl ?_
        refine l_split (t := 60) rfl (fun hg42 => ?_) (fun hg42 => ?_)
        · (try simp only [decide_eq_true_eq, decide_eq_false_iff_not, Bool.not_eq_true', Bool.not_eq_false'] at hg42)
          refine nlL (l' := _) rfl ?_
          refine l_skip (wanted_of rfl rfl rfl rfl rfl) rfl (l' := [_,_,_,_,_,_,_,_,_,_,_,_,_,_,_,_,_,_,_,_,_,_,_,_,_,_,_,_,_,_,_,_,_,_,_,_,_,_,_,_,_,_,_,_,_,_,_,_,_,_,_,_,_,_,_,_,_,_,_,_,_,_,_,_,_,_,_,_,_,_,_,_,_,_,_,_,_,_,_,_,_,_,_,_,_,_]) rfl ?_
          refine l_skip (wanted_of rfl rfl rfl rfl rfl) rfl (l' := _) rfl ?_
          refine l_skip (wanted_of rfl rfl rfl rfl rfl) rfl (l' := _) rfl ?_
          refine l_skip (wanted_undef rfl rfl rfl rfl) rfl (l' := [_,_,_,_,_,_,_,_,_,_,_,_,_,_,_,_,_,_,_,_,_,_,_,_,_,_,_,_,_,_,_,_,_,_,_,_,_,_,_,_,_,_,_,_,_,_,_,_,_,_,_,_,_,_,_,_,_,_,_,_,_,_,_,_,_,_,_,_,_,_,_,_,_,_,_,_,_,_,_,_,_,_,_,_,_,_]) rfl ?_
          refine l_skip (wanted_undef rfl rfl rfl rfl) rfl (l' := _) rfl ?_
          refine l_skip (wanted_undef rfl rfl rfl rfl) rfl (l' := _) rfl ?_
          refine l_skip (wanted_of rfl rfl rfl rfl rfl) rfl (l' := [_,_,_,_,_,_,_,_,_,_,_,_,_,_,_,_,_,_,_,_,_,_,_,_,_,_,_,_,_,_,_,_,_,_,_,_,_,_,_,_,_,_,_,_,_,_,_,_,_,_,_,_,_,_,_,_,_,_,_,_,_,_,_,_,_,_,_,_,_,_,_,_,_,_,_,_,_,_,_,_,_,_,_,_,_,_]) rfl ?_
          refine l_val s24 (y_pick1 rfl (ev_of rfl) (ev_of rfl)) rfl rfl (l' := _) rfl ?_
          refine l_val s24 (y_mv rfl (ev_of rfl)) rfl rfl (l' := _) rfl ?_
          refine l_skip (wanted_of rfl rfl rfl rfl rfl) rfl (l' := [_,_,_,_,_,_,_,_,_,_,_,_,_,_,_,_,_,_,_,_,_,_,_,_,_,_,_,_,_,_,_,_,_,_,_,_,_,_,_,_,_,_,_,_,_,_,_,_,_,_,_,_,_,_,_,_,_,_,_,_,_,_,_,_,_,_,_,_,_,_,_,_,_,_,_,_,_,_,_,_,_,_,_,_,_,_]) rfl ?_
          refine l_skip (wanted_of rfl rfl rfl rfl rfl) rfl (l' := _) rfl ?_
          refine l_skip (wanted_of rfl rfl rfl rfl rfl) rfl (l' := _) rfl ?_
          refine l_skip (wanted_undef rfl rfl rfl rfl) rfl (l' := [_,_,_,_,_,_,_,_,_,_,_,_,_,_,_,_,_,_,_,_,_,_,_,_,_,_,_,_,_,_,_,_,_,_,_,_,_,_,_,_,_,_,_,_,_,_,_,_,_,_,_,_,_,_,_,_,_,_,_,_,_,_,_,_,_,_,_,_,_,_,_,_,_,_,_,_,_,_,_,_,_,_,_,_,_,_]) rfl ?_
          refine l_skip (wanted_undef rfl rfl rfl rfl) rfl (l' := _) rfl ?_
          refine l_skip (wanted_undef rfl rfl rfl rfl) rfl (l' := _) rfl ?_
          refine l_skip (wanted_of rfl rfl rfl rfl rfl) rfl (l' := [_,_,_,_,_,_,_,_,_,_,_,_,_,_,_,_,_,_,_,_,_,_,_,_,_,_,_,_,_,_,_,_,_,_,_,_,_,_,_,_,_,_,_,_,_,_,_,_,_,_,_,_,_,_,_,_,_,_,_,_,_,_,_,_,_,_,_,_,_,_,_,_,_,_,_,_,_,_,_,_,_,_,_,_,_,_]) rfl ?_
          refine l_val s24 (y_pick1 rfl (ev_of rfl) (ev_of rfl)) rfl rfl (l' := _) rfl ?_
          refine l_end ?_
          refine x_thenN ?_
          refine c_condT rfl ?_
          refine c_region ?_
          refine l_val s24 (y_mv rfl (ev_of rfl)) rfl rfl (l' := _) rfl ?_
          refine l_val s24 (y_as rfl (ev_of rfl)) rfl rfl (l' := [_,_,_,_,_,_,_,_,_,_,_,_,_,_,_,_,_,_,_,_,_,_,_,_,_,_,_,_,_,_,_,_,_,_,_,_,_,_,_,_,_,_,_,_,_,_,_,_,_,_,_,_,_,_,_,_,_,_,_,_,_,_,_,_,_,_,_,_,_,_,_,_,_,_,_,_,_,_,_,_,_,_,_,_,_,_]) rfl ?_
          refine l_end ?_
          refine x_thenN ?_
          refine c_region ?_
          refine l_val s24 (y_fieldAddrB rfl Ty.fld25_2 Ty.size22 (ev_of rfl)) rfl rfl (l' := _) rfl ?_
          refine l_val s24 (y_load rfl Ty.some22 Ty.agg22 (ev_of rfl) (by repeat first | exact ent_cell rfl | assumption | refine Ent.there ?_)) rfl rfl (l' := _) rfl ?_
          refine l_val s24 (y_mv rfl (ev_of rfl)) rfl rfl (l' := [_,_,_,_,_,_,_,_,_,_,_,_,_,_,_,_,_,_,_,_,_,_,_,_,_,_,_,_,_,_,_,_,_,_,_,_,_,_,_,_,_,_,_,_,_,_,_,_,_,_,_,_,_,_,_,_,_,_,_,_,_,_,_,_,_,_,_,_,_,_,_,_,_,_,_,_,_,_,_,_,_,_,_,_,_,_]) rfl ?_
          refine l_bs s24 rfl rfl rfl Ty.elem22 Ty.size2 Ty.zero2 (zs := [_]) rfl (vs := [(0, _)]) rfl (ps := [(0, [_])]) rfl (by intro q hq; simp only [List.zip_cons_cons, List.zip_nil_right, List.zip_nil_left, List.mem_cons, List.not_mem_nil, or_false] at hq; rcases hq with rfl <;> exact ⟨rfl, rfl, by first | rfl | (simp only [cells_one (arr_one (by first | (repeat first | assumption | with_reducible exact ent_blk | with_reducible exact Ent.here arr_reads | with_reducible exact Ent.here one_I64 | with_reducible exact Ent.here one_Cell | refine Ent.there ?_); done | (repeat first | assumption | with_reducible exact ent_blk | exact Ent.here arr_reads | exact Ent.here one_I64 | exact Ent.here one_Cell | exact Ent.here one_Bool | exact Ent.here one_Rect | refine Ent.there ?_)) s24)]; first | done | rfl), by simp⟩) (cells := [_]) rfl (by decide) (fun b45 w44 s43 => ?_)
          clear s24
          refine nlL (l' := _) rfl ?_
          refine l_append1 s43 (by repeat first | exact Take.here (Blk _ _ _) _ | apply Take.there) (by repeat first | with_reducible exact Take.here _ _ | apply Take.there) rfl rfl rfl Ty.elem22 Ty.size2 Ty.bytes2 Ty.zero2 rfl (ev_of rfl) (ev_of rfl) one_I64 (by rw [mgR_length]; simp only [List.length_cons, List.length_nil]; omega) (by decide) (fun v48 w47 s46 => ?_)
          clear s43
          refine nlL (l' := _) rfl ?_
          refine l_val s46 (y_fieldAddrB rfl Ty.fld25_2 Ty.size22 (ev_of rfl)) rfl rfl (l' := [_,_,_,_,_,_,_,_,_,_,_,_,_,_,_,_,_,_,_,_,_,_,_,_,_,_,_,_,_,_,_,_,_,_,_,_,_,_,_,_,_,_,_,_,_,_,_,_,_,_,_,_,_,_,_,_,_,_,_,_,_,_,_,_,_,_,_,_,_,_,_,_,_,_,_,_,_,_,_,_,_,_,_,_,_,_]) rfl ?_
          refine l_store s46 rfl rfl rfl Ty.size22 (ev_of rfl) (ev_of rfl) (by first | rfl | exact arr_one (by first | (repeat first | assumption | with_reducible exact ent_blk | with_reducible exact Ent.here arr_reads | with_reducible exact Ent.here one_I64 | with_reducible exact Ent.here one_Cell | refine Ent.there ?_); done | (repeat first | assumption | with_reducible exact ent_blk | exact Ent.here arr_reads | exact Ent.here one_I64 | exact Ent.here one_Cell | exact Ent.here one_Bool | exact Ent.here one_Rect | refine Ent.there ?_)) s46) (by repeat first | exact Wr.blk (cells' := #[_, _, _]) (Nat.le_of_ble_eq_true rfl) rfl | apply Wr.there) (fun w50 s49 => ?_)
          clear s46
          refine l_end ?_
          refine x_blockN ?_
          refine x_thenN ?_
          refine c_region ?_
          refine l_val s49 (y_mv rfl (ev_of rfl)) rfl rfl (l' := _) rfl ?_
          refine l_val s49 (y_add rfl (ev_of rfl) (ev_of rfl) (by omega) (by omega)) rfl rfl (l' := _) rfl ?_
          refine l_val s49 (y_as rfl (ev_of rfl)) rfl rfl (l' := [_,_,_,_,_,_,_,_,_,_,_,_,_,_,_,_,_,_,_,_,_,_,_,_,_,_,_,_,_,_,_,_,_,_,_,_,_,_,_,_,_,_,_,_,_,_,_,_,_,_,_,_,_,_,_,_,_,_,_,_,_,_,_,_,_,_,_,_,_,_,_,_,_,_,_,_,_,_,_,_,_,_,_,_,_,_]) rfl ?_
          refine l_end ?_
          refine x_thenN ?_
          rw [mgR_put (by unfold mgV whV; rw [hc1]; simp only [if_true]; (repeat' split) <;> omega)] at s49
          refine ⟨_, [_, _, _, _, _, _, _, _, _, _, _, _, _, _, _, _, _, _, _, _, _, _, _, _, _, _, _, _, _, _, _, _, _, _, _, _, _, _, _, _, _, _, _, _, _, _, _, _, _, _, _, _, _, _, _, _, _, _, _, _, _, _, _, _, _, _, _, _, _, _], ?_, rfl, i + 1, v48, [_, _, _, _, _, _, _, _, _, _, _, _, _, _, _, _, _, _, _, _, _, _, _, _, _, _, _, _, _, _, _, _, _, _, _, _, _, _, _, _, _, _, _, _, _, _, _, _, _, _, _, _, _, _, _, _, _, _, _, _, _, _, _, _, _, _, _, _, _], rfl, rfl, ?_, ?_⟩
          · omega
          · first | exact s49 | exact s49.sub (by first | (repeat first | with_reducible exact Sub.refl _ | refine Sub.skip _ ?_); done | (repeat first | with_reducible exact Sub.refl _ | exact Sub.nil _ | refine Sub.take (by repeat first | with_reducible exact Take.here _ _ | apply Take.there) ?_ | refine Sub.skip _ ?_))
          · omega
        · (try simp only [decide_eq_true_eq, decide_eq_false_iff_not, Bool.not_eq_true', Bool.not_eq_false'] at hg42)
          refine nlL (l' := _) rfl ?_
          refine l_gval s24 (y_mv rfl (ev_of rfl)) (wanted_of rfl rfl rfl rfl rfl) rfl (l' := _) rfl ?_
          refine l_gval s24 (y_eql rfl (ev_of rfl) (ev_of rfl)) (wanted_of rfl rfl rfl rfl rfl) rfl (l' := [_,_,_,_,_,_,_,_,_,_,_,_,_,_,_,_,_,_,_,_,_,_,_,_,_,_,_,_,_,_,_,_,_,_,_,_,_,_,_,_,_,_,_,_,_,_,_,_,_,_,_,_,_,_,_,_,_,_,_,_,_,_,_,_,_,_,_,_,_,_,_,_,_,_,_,_,_,_,_,_,_,_,_,_,_,_]) rfl ?_
          refine l_gval s24 (y_mv rfl (ev_of rfl)) (wanted_of rfl rfl rfl rfl rfl) rfl (l' := _) rfl ?_
          refine l_split (t := 63) rfl (fun hg51 => ?_) (fun hg51 => ?_)
          · (try simp only [decide_eq_true_eq, decide_eq_false_iff_not, Bool.not_eq_true', Bool.not_eq_false'] at hg51)
            refine nlL (l' := _) rfl ?_
            refine l_gval s24 (y_mv rfl (ev_of rfl)) (wanted_of rfl rfl rfl rfl rfl) rfl (l' := [_,_,_,_,_,_,_,_,_,_,_,_,_,_,_,_,_,_,_,_,_,_,_,_,_,_,_,_,_,_,_,_,_,_,_,_,_,_,_,_,_,_,_,_,_,_,_,_,_,_,_,_,_,_,_,_,_,_,_,_,_,_,_,_,_,_,_,_,_,_,_,_,_,_,_,_,_,_,_,_,_,_,_,_,_,_]) rfl ?_
            refine l_gval s24 (y_mv rfl (ev_of rfl)) (wanted_of rfl rfl rfl rfl rfl) rfl (l' := _) rfl ?_
            refine l_gval s24 (y_lss rfl (ev_of rfl) (ev_of rfl)) (wanted_of rfl rfl rfl rfl rfl) rfl (l' := _) rfl ?_
            refine l_gval s24 (y_pick1 rfl (ev_of rfl) (ev_of rfl)) (wanted_of rfl rfl rfl rfl rfl) rfl (l' := [_,_,_,_,_,_,_,_,_,_,_,_,_,_,_,_,_,_,_,_,_,_,_,_,_,_,_,_,_,_,_,_,_,_,_,_,_,_,_,_,_,_,_,_,_,_,_,_,_,_,_,_,_,_,_,_,_,_,_,_,_,_,_,_,_,_,_,_,_,_,_,_,_,_,_,_,_,_,_,_,_,_,_,_,_,_]) rfl ?_
            refine l_val s24 (y_pick0 rfl (ev_of rfl) (ev_of rfl)) rfl rfl (l' := _) rfl ?_
            refine l_val s24 (y_mv rfl (ev_of rfl)) rfl rfl (l' := _) rfl ?_
            refine l_split (t := 69) rfl (fun hg52 => ?_) (fun hg52 => ?_)
            · (try simp only [decide_eq_true_eq, decide_eq_false_iff_not, Bool.not_eq_true', Bool.not_eq_false'] at hg52)
              refine nlL (l' := [_,_,_,_,_,_,_,_,_,_,_,_,_,_,_,_,_,_,_,_,_,_,_,_,_,_,_,_,_,_,_,_,_,_,_,_,_,_,_,_,_,_,_,_,_,_,_,_,_,_,_,_,_,_,_,_,_,_,_,_,_,_,_,_,_,_,_,_,_,_,_,_,_,_,_,_,_,_,_,_,_,_,_,_,_,_]) rfl ?_
              refine l_skip (wanted_of rfl rfl rfl rfl rfl) rfl (l' := _) rfl ?_
              refine l_skip (wanted_of rfl rfl rfl rfl rfl) rfl (l' := _) rfl ?_
              refine l_skip (wanted_of rfl rfl rfl rfl rfl) rfl (l' := [_,_,_,_,_,_,_,_,_,_,_,_,_,_,_,_,_,_,_,_,_,_,_,_,_,_,_,_,_,_,_,_,_,_,_,_,_,_,_,_,_,_,_,_,_,_,_,_,_,_,_,_,_,_,_,_,_,_,_,_,_,_,_,_,_,_,_,_,_,_,_,_,_,_,_,_,_,_,_,_,_,_,_,_,_,_]) rfl ?_
              refine l_skip (wanted_undef rfl rfl rfl rfl) rfl (l' := _) rfl ?_
              refine l_skip (wanted_undef rfl rfl rfl rfl) rfl (l' := _) rfl ?_
              refine l_skip (wanted_undef rfl rfl rfl rfl) rfl (l' := [_,_,_,_,_,_,_,_,_,_,_,_,_,_,_,_,_,_,_,_,_,_,_,_,_,_,_,_,_,_,_,_,_,_,_,_,_,_,_,_,_,_,_,_,_,_,_,_,_,_,_,_,_,_,_,_,_,_,_,_,_,_,_,_,_,_,_,_,_,_,_,_,_,_,_,_,_,_,_,_,_,_,_,_,_,_]) rfl ?_
              refine l_skip (wanted_of rfl rfl rfl rfl rfl) rfl (l' := _) rfl ?_
              refine l_val s24 (y_pick1 rfl (ev_of rfl) (ev_of rfl)) rfl rfl (l' := _) rfl ?_
              refine l_end ?_
              refine x_thenN ?_
              refine c_condT rfl ?_
              refine c_region ?_
              refine l_val s24 (y_mv rfl (ev_of rfl)) rfl rfl (l' := [_,_,_,_,_,_,_,_,_,_,_,_,_,_,_,_,_,_,_,_,_,_,_,_,_,_,_,_,_,_,_,_,_,_,_,_,_,_,_,_,_,_,_,_,_,_,_,_,_,_,_,_,_,_,_,_,_,_,_,_,_,_,_,_,_,_,_,_,_,_,_,_,_,_,_,_,_,_,_,_,_,_,_,_,_,_]) rfl ?_
              refine l_val s24 (y_as rfl (ev_of rfl)) rfl rfl (l' := _) rfl ?_
              refine l_end ?_
              refine x_thenN ?_
              refine c_region ?_
              refine l_val s24 (y_fieldAddrB rfl Ty.fld25_2 Ty.size22 (ev_of rfl)) rfl rfl (l' := _) rfl ?_
              refine l_val s24 (y_load rfl Ty.some22 Ty.agg22 (ev_of rfl) (by repeat first | exact ent_cell rfl | assumption | refine Ent.there ?_)) rfl rfl (l' := [_,_,_,_,_,_,_,_,_,_,_,_,_,_,_,_,_,_,_,_,_,_,_,_,_,_,_,_,_,_,_,_,_,_,_,_,_,_,_,_,_,_,_,_,_,_,_,_,_,_,_,_,_,_,_,_,_,_,_,_,_,_,_,_,_,_,_,_,_,_,_,_,_,_,_,_,_,_,_,_,_,_,_,_,_,_]) rfl ?_
              refine l_val s24 (y_mv rfl (ev_of rfl)) rfl rfl (l' := _) rfl ?_
              refine l_bs s24 rfl rfl rfl Ty.elem22 Ty.size2 Ty.zero2 (zs := [_]) rfl (vs := [(0, _)]) rfl (ps := [(0, [_])]) rfl (by intro q hq; simp only [List.zip_cons_cons, List.zip_nil_right, List.zip_nil_left, List.mem_cons, List.not_mem_nil, or_false] at hq; rcases hq with rfl <;> exact ⟨rfl, rfl, by first | rfl | (simp only [cells_one (arr_one (by first | (repeat first | assumption | with_reducible exact ent_blk | with_reducible exact Ent.here arr_reads | with_reducible exact Ent.here one_I64 | with_reducible exact Ent.here one_Cell | refine Ent.there ?_); done | (repeat first | assumption | with_reducible exact ent_blk | exact Ent.here arr_reads | exact Ent.here one_I64 | exact Ent.here one_Cell | exact Ent.here one_Bool | exact Ent.here one_Rect | refine Ent.there ?_)) s24)]; first | done | rfl), by simp⟩) (cells := [_]) rfl (by decide) (fun b55 w54 s53 => ?_)
              clear s24
              refine nlL (l' := _) rfl ?_
              refine l_append1 s53 (by repeat first | exact Take.here (Blk _ _ _) _ | apply Take.there) (by repeat first | with_reducible exact Take.here _ _ | apply Take.there) rfl rfl rfl Ty.elem22 Ty.size2 Ty.bytes2 Ty.zero2 rfl (ev_of rfl) (ev_of rfl) one_I64 (by rw [mgR_length]; simp only [List.length_cons, List.length_nil]; omega) (by decide) (fun v58 w57 s56 => ?_)
              clear s53
              refine nlL (l' := [_,_,_,_,_,_,_,_,_,_,_,_,_,_,_,_,_,_,_,_,_,_,_,_,_,_,_,_,_,_,_,_,_,_,_,_,_,_,_,_,_,_,_,_,_,_,_,_,_,_,_,_,_,_,_,_,_,_,_,_,_,_,_,_,_,_,_,_,_,_,_,_,_,_,_,_,_,_,_,_,_,_,_,_,_,_]) rfl ?_
              refine l_val s56 (y_fieldAddrB rfl Ty.fld25_2 Ty.size22 (ev_of rfl)) rfl rfl (l' := _) rfl ?_
              refine l_store s56 rfl rfl rfl Ty.size22 (ev_of rfl) (ev_of rfl) (by first | rfl | exact arr_one (by first | (repeat first | assumption | with_reducible exact ent_blk | with_reducible exact Ent.here arr_reads | with_reducible exact Ent.here one_I64 | with_reducible exact Ent.here one_Cell | refine Ent.there ?_); done | (repeat first | assumption | with_reducible exact ent_blk | exact Ent.here arr_reads | exact Ent.here one_I64 | exact Ent.here one_Cell | exact Ent.here one_Bool | exact Ent.here one_Rect | refine Ent.there ?_)) s56) (by repeat first | exact Wr.blk (cells' := #[_, _, _]) (Nat.le_of_ble_eq_true rfl) rfl | apply Wr.there) (fun w60 s59 => ?_)
              clear s56
              refine l_end ?_
              refine x_blockN ?_
              refine x_thenN ?_
              refine c_region ?_
              refine l_val s59 (y_mv rfl (ev_of rfl)) rfl rfl (l' := _) rfl ?_
              refine l_val s59 (y_add rfl (ev_of rfl) (ev_of rfl) (by omega) (by omega)) rfl rfl (l' := [_,_,_,_,_,_,_,_,_,_,_,_,_,_,_,_,_,_,_,_,_,_,_,_,_,_,_,_,_,_,_,_,_,_,_,_,_,_,_,_,_,_,_,_,_,_,_,_,_,_,_,_,_,_,_,_,_,_,_,_,_,_,_,_,_,_,_,_,_,_,_,_,_,_,_,_,_,_,_,_,_,_,_,_,_,_]) rfl ?_
              refine l_val s59 (y_as rfl (ev_of rfl)) rfl rfl (l' := _) rfl ?_
              refine l_end ?_
              refine x_thenN ?_
              rw [mgR_put (by unfold mgV whV; rw [hc1]; simp only [if_true]; (repeat' split) <;> omega)] at s59
              refine ⟨_, [_, _, _, _, _, _, _, _, _, _, _, _, _, _, _, _, _, _, _, _, _, _, _, _, _, _, _, _, _, _, _, _, _, _, _, _, _, _, _, _, _, _, _, _, _, _, _, _, _, _, _, _, _, _, _, _, _, _, _, _, _, _, _, _, _, _, _, _, _, _], ?_, rfl, i + 1, v58, [_, _, _, _, _, _, _, _, _, _, _, _, _, _, _, _, _, _, _, _, _, _, _, _, _, _, _, _, _, _, _, _, _, _, _, _, _, _, _, _, _, _, _, _, _, _, _, _, _, _, _, _, _, _, _, _, _, _, _, _, _, _, _, _, _, _, _, _, _], rfl, rfl, ?_, ?_⟩
              · omega
              · first | exact s59 | exact s59.sub (by first | (repeat first | with_reducible exact Sub.refl _ | refine Sub.skip _ ?_); done | (repeat first | with_reducible exact Sub.refl _ | exact Sub.nil _ | refine Sub.take (by repeat first | with_reducible exact Take.here _ _ | apply Take.there) ?_ | refine Sub.skip _ ?_))
              · omega
            · (try simp only [decide_eq_true_eq, decide_eq_false_iff_not, Bool.not_eq_true', Bool.not_eq_false'] at hg52)
              refine nlL (l' := _) rfl ?_
              refine l_gval s24 (y_mv rfl (ev_of rfl)) (wanted_of rfl rfl rfl rfl rfl) rfl (l' := [_,_,_,_,_,_,_,_,_,_,_,_,_,_,_,_,_,_,_,_,_,_,_,_,_,_,_,_,_,_,_,_,_,_,_,_,_,_,_,_,_,_,_,_,_,_,_,_,_,_,_,_,_,_,_,_,_,_,_,_,_,_,_,_,_,_,_,_,_,_,_,_,_,_,_,_,_,_,_,_,_,_,_,_,_,_]) rfl ?_
              refine l_gval s24 (y_eql rfl (ev_of rfl) (ev_of rfl)) (wanted_of rfl rfl rfl rfl rfl) rfl (l' := _) rfl ?_
              refine l_gval s24 (y_mv rfl (ev_of rfl)) (wanted_of rfl rfl rfl rfl rfl) rfl (l' := _) rfl ?_
              refine l_split (t := 72) rfl (fun hg61 => ?_) (fun hg61 => ?_)
              · (try simp only [decide_eq_true_eq, decide_eq_false_iff_not, Bool.not_eq_true', Bool.not_eq_false'] at hg61)
                refine nlL (l' := [_,_,_,_,_,_,_,_,_,_,_,_,_,_,_,_,_,_,_,_,_,_,_,_,_,_,_,_,_,_,_,_,_,_,_,_,_,_,_,_,_,_,_,_,_,_,_,_,_,_,_,_,_,_,_,_,_,_,_,_,_,_,_,_,_,_,_,_,_,_,_,_,_,_,_,_,_,_,_,_,_,_,_,_,_,_]) rfl ?_
                refine l_gval s24 (y_mv rfl (ev_of rfl)) (wanted_of rfl rfl rfl rfl rfl) rfl (l' := _) rfl ?_
                refine l_gval s24 (y_mv rfl (ev_of rfl)) (wanted_of rfl rfl rfl rfl rfl) rfl (l' := _) rfl ?_
                refine l_gval s24 (y_gtr rfl (ev_of rfl) (ev_of rfl)) (wanted_of rfl rfl rfl rfl rfl) rfl (l' := [_,_,_,_,_,_,_,_,_,_,_,_,_,_,_,_,_,_,_,_,_,_,_,_,_,_,_,_,_,_,_,_,_,_,_,_,_,_,_,_,_,_,_,_,_,_,_,_,_,_,_,_,_,_,_,_,_,_,_,_,_,_,_,_,_,_,_,_,_,_,_,_,_,_,_,_,_,_,_,_,_,_,_,_,_,_]) rfl ?_
                refine l_gval s24 (y_pick1 rfl (ev_of rfl) (ev_of rfl)) (wanted_of rfl rfl rfl rfl rfl) rfl (l' := _) rfl ?_
                refine l_val s24 (y_pick0 rfl (ev_of rfl) (ev_of rfl)) rfl rfl (l' := _) rfl ?_
                refine l_end ?_
                refine x_thenN ?_
                refine c_if rfl (fun hc3 => ?_) (fun hc3 => ?_)
                · (try simp only [decide_eq_true_eq, decide_eq_false_iff_not, Bool.not_eq_true', Bool.not_eq_false'] at hc3)
                  refine c_region ?_
                  refine l_val s24 (y_mv rfl (ev_of rfl)) rfl rfl (l' := [_,_,_,_,_,_,_,_,_,_,_,_,_,_,_,_,_,_,_,_,_,_,_,_,_,_,_,_,_,_,_,_,_,_,_,_,_,_,_,_,_,_,_,_,_,_,_,_,_,_,_,_,_,_,_,_,_,_,_,_,_,_,_,_,_,_,_,_,_,_,_,_,_,_,_,_,_,_,_,_,_,_,_,_,_,_]) rfl ?_
                  refine l_val s24 (y_as rfl (ev_of rfl)) rfl rfl (l' := _) rfl ?_
                  refine l_end ?_
                  refine x_thenN ?_
                  refine c_region ?_
                  refine l_val s24 (y_fieldAddrB rfl Ty.fld25_2 Ty.size22 (ev_of rfl)) rfl rfl (l' := _) rfl ?_
                  refine l_val s24 (y_load rfl Ty.some22 Ty.agg22 (ev_of rfl) (by repeat first | exact ent_cell rfl | assumption | refine Ent.there ?_)) rfl rfl (l' := [_,_,_,_,_,_,_,_,_,_,_,_,_,_,_,_,_,_,_,_,_,_,_,_,_,_,_,_,_,_,_,_,_,_,_,_,_,_,_,_,_,_,_,_,_,_,_,_,_,_,_,_,_,_,_,_,_,_,_,_,_,_,_,_,_,_,_,_,_,_,_,_,_,_,_,_,_,_,_,_,_,_,_,_,_,_]) rfl ?_
                  refine l_val s24 (y_mv rfl (ev_of rfl)) rfl rfl (l' := _) rfl ?_
                  refine l_bs s24 rfl rfl rfl Ty.elem22 Ty.size2 Ty.zero2 (zs := [_]) rfl (vs := [(0, _)]) rfl (ps := [(0, [_])]) rfl (by intro q hq; simp only [List.zip_cons_cons, List.zip_nil_right, List.zip_nil_left, List.mem_cons, List.not_mem_nil, or_false] at hq; rcases hq with rfl <;> exact ⟨rfl, rfl, by first | rfl | (simp only [cells_one (arr_one (by first | (repeat first | assumption | with_reducible exact ent_blk | with_reducible exact Ent.here arr_reads | with_reducible exact Ent.here one_I64 | with_reducible exact Ent.here one_Cell | refine Ent.there ?_); done | (repeat first | assumption | with_reducible exact ent_blk | exact Ent.here arr_reads | exact Ent.here one_I64 | exact Ent.here one_Cell | exact Ent.here one_Bool | exact Ent.here one_Rect | refine Ent.there ?_)) s24)]; first | done | rfl), by simp⟩) (cells := [_]) rfl (by decide) (fun b64 w63 s62 => ?_)
                  clear s24
                  refine nlL (l' := _) rfl ?_
                  refine l_append1 s62 (by repeat first | exact Take.here (Blk _ _ _) _ | apply Take.there) (by repeat first | with_reducible exact Take.here _ _ | apply Take.there) rfl rfl rfl Ty.elem22 Ty.size2 Ty.bytes2 Ty.zero2 rfl (ev_of rfl) (ev_of rfl) one_I64 (by rw [mgR_length]; simp only [List.length_cons, List.length_nil]; omega) (by decide) (fun v67 w66 s65 => ?_)
                  clear s62
                  refine nlL (l' := [_,_,_,_,_,_,_,_,_,_,_,_,_,_,_,_,_,_,_,_,_,_,_,_,_,_,_,_,_,_,_,_,_,_,_,_,_,_,_,_,_,_,_,_,_,_,_,_,_,_,_,_,_,_,_,_,_,_,_,_,_,_,_,_,_,_,_,_,_,_,_,_,_,_,_,_,_,_,_,_,_,_,_,_,_,_]) rfl ?_
                  refine l_val s65 (y_fieldAddrB rfl Ty.fld25_2 Ty.size22 (ev_of rfl)) rfl rfl (l' := _) rfl ?_
                  refine l_store s65 rfl rfl rfl Ty.size22 (ev_of rfl) (ev_of rfl) (by first | rfl | exact arr_one (by first | (repeat first | assumption | with_reducible exact ent_blk | with_reducible exact Ent.here arr_reads | with_reducible exact Ent.here one_I64 | with_reducible exact Ent.here one_Cell | refine Ent.there ?_); done | (repeat first | assumption | with_reducible exact ent_blk | exact Ent.here arr_reads | exact Ent.here one_I64 | exact Ent.here one_Cell | exact Ent.here one_Bool | exact Ent.here one_Rect | refine Ent.there ?_)) s65) (by repeat first | exact Wr.blk (cells' := #[_, _, _]) (Nat.le_of_ble_eq_true rfl) rfl | apply Wr.there) (fun w69 s68 => ?_)
                  clear s65
                  refine l_end ?_
                  refine x_blockN ?_
                  refine x_thenN ?_
                  refine c_region ?_
                  refine l_val s68 (y_mv rfl (ev_of rfl)) rfl rfl (l' := _) rfl ?_
                  refine l_val s68 (y_add rfl (ev_of rfl) (ev_of rfl) (by omega) (by omega)) rfl rfl (l' := [_,_,_,_,_,_,_,_,_,_,_,_,_,_,_,_,_,_,_,_,_,_,_,_,_,_,_,_,_,_,_,_,_,_,_,_,_,_,_,_,_,_,_,_,_,_,_,_,_,_,_,_,_,_,_,_,_,_,_,_,_,_,_,_,_,_,_,_,_,_,_,_,_,_,_,_,_,_,_,_,_,_,_,_,_,_]) rfl ?_
                  refine l_val s68 (y_as rfl (ev_of rfl)) rfl rfl (l' := _) rfl ?_
                  refine l_end ?_
                  refine x_thenN ?_
                  rw [mgR_put (by unfold mgV whV; rw [hc1]; simp only [if_true]; (repeat' split) <;> omega)] at s68
                  refine ⟨_, [_, _, _, _, _, _, _, _, _, _, _, _, _, _, _, _, _, _, _, _, _, _, _, _, _, _, _, _, _, _, _, _, _, _, _, _, _, _, _, _, _, _, _, _, _, _, _, _, _, _, _, _, _, _, _, _, _, _, _, _, _, _, _, _, _, _, _, _, _, _], ?_, rfl, i + 1, v67, [_, _, _, _, _, _, _, _, _, _, _, _, _, _, _, _, _, _, _, _, _, _, _, _, _, _, _, _, _, _, _, _, _, _, _, _, _, _, _, _, _, _, _, _, _, _, _, _, _, _, _, _, _, _, _, _, _, _, _, _, _, _, _, _, _, _, _, _, _], rfl, rfl, ?_, ?_⟩
                  · omega
                  · first | exact s68 | exact s68.sub (by first | (repeat first | with_reducible exact Sub.refl _ | refine Sub.skip _ ?_); done | (repeat first | with_reducible exact Sub.refl _ | exact Sub.nil _ | refine Sub.take (by repeat first | with_reducible exact Take.here _ _ | apply Take.there) ?_ | refine Sub.skip _ ?_))
                  · omega
                · (try simp only [decide_eq_true_eq, decide_eq_false_iff_not, Bool.not_eq_true', Bool.not_eq_false'] at hc3)
                  refine c_skip ?_
                  refine x_thenN ?_
                  refine c_region ?_
                  refine l_val s24 (y_fieldAddrB rfl Ty.fld25_2 Ty.size22 (ev_of rfl)) rfl rfl (l' := _) rfl ?_
                  refine l_val s24 (y_load rfl Ty.some22 Ty.agg22 (ev_of rfl) (by repeat first | exact ent_cell rfl | assumption | refine Ent.there ?_)) rfl rfl (l' := [_,_,_,_,_,_,_,_,_,_,_,_,_,_,_,_,_,_,_,_,_,_,_,_,_,_,_,_,_,_,_,_,_,_,_,_,_,_,_,_,_,_,_,_,_,_,_,_,_,_,_,_,_,_,_,_,_,_,_,_,_,_,_,_,_,_,_,_,_,_,_,_,_,_,_,_,_,_,_,_,_,_,_,_,_,_]) rfl ?_
                  refine l_val s24 (y_mv rfl (ev_of rfl)) rfl rfl (l' := _) rfl ?_
                  refine l_bs s24 rfl rfl rfl Ty.elem22 Ty.size2 Ty.zero2 (zs := [_]) rfl (vs := [(0, _)]) rfl (ps := [(0, [_])]) rfl (by intro q hq; simp only [List.zip_cons_cons, List.zip_nil_right, List.zip_nil_left, List.mem_cons, List.not_mem_nil, or_false] at hq; rcases hq with rfl <;> exact ⟨rfl, rfl, by first | rfl | (simp only [cells_one (arr_one (by first | (repeat first | assumption | with_reducible exact ent_blk | with_reducible exact Ent.here arr_reads | with_reducible exact Ent.here one_I64 | with_reducible exact Ent.here one_Cell | refine Ent.there ?_); done | (repeat first | assumption | with_reducible exact ent_blk | exact Ent.here arr_reads | exact Ent.here one_I64 | exact Ent.here one_Cell | exact Ent.here one_Bool | exact Ent.here one_Rect | refine Ent.there ?_)) s24)]; first | done | rfl), by simp⟩) (cells := [_]) rfl (by decide) (fun b72 w71 s70 => ?_)
                  clear s24
                  refine nlL (l' := _) rfl ?_
                  refine l_append1 s70 (by repeat first | exact Take.here (Blk _ _ _) _ | apply Take.there) (by repeat first | with_reducible exact Take.here _ _ | apply Take.there) rfl rfl rfl Ty.elem22 Ty.size2 Ty.bytes2 Ty.zero2 rfl (ev_of rfl) (ev_of rfl) one_I64 (by rw [mgR_length]; simp only [List.length_cons, List.length_nil]; omega) (by decide) (fun v75 w74 s73 => ?_)
                  clear s70
                  refine nlL (l' := [_,_,_,_,_,_,_,_,_,_,_,_,_,_,_,_,_,_,_,_,_,_,_,_,_,_,_,_,_,_,_,_,_,_,_,_,_,_,_,_,_,_,_,_,_,_,_,_,_,_,_,_,_,_,_,_,_,_,_,_,_,_,_,_,_,_,_,_,_,_,_,_,_,_,_,_,_,_,_,_,_,_,_,_,_,_]) rfl ?_
                  refine l_val s73 (y_fieldAddrB rfl Ty.fld25_2 Ty.size22 (ev_of rfl)) rfl rfl (l' := _) rfl ?_
                  refine l_store s73 rfl rfl rfl Ty.size22 (ev_of rfl) (ev_of rfl) (by first | rfl | exact arr_one (by first | (repeat first | assumption | with_reducible exact ent_blk | with_reducible exact Ent.here arr_reads | with_reducible exact Ent.here one_I64 | with_reducible exact Ent.here one_Cell | refine Ent.there ?_); done | (repeat first | assumption | with_reducible exact ent_blk | exact Ent.here arr_reads | exact Ent.here one_I64 | exact Ent.here one_Cell | exact Ent.here one_Bool | exact Ent.here one_Rect | refine Ent.there ?_)) s73) (by repeat first | exact Wr.blk (cells' := #[_, _, _]) (Nat.le_of_ble_eq_true rfl) rfl | apply Wr.there) (fun w77 s76 => ?_)
                  clear s73
                  refine l_end ?_
                  refine x_blockN ?_
                  refine x_thenN ?_
                  refine c_region ?_
                  refine l_val s76 (y_mv rfl (ev_of rfl)) rfl rfl (l' := _) rfl ?_
                  refine l_val s76 (y_add rfl (ev_of rfl) (ev_of rfl) (by omega) (by omega)) rfl rfl (l' := [_,_,_,_,_,_,_,_,_,_,_,_,_,_,_,_,_,_,_,_,_,_,_,_,_,_,_,_,_,_,_,_,_,_,_,_,_,_,_,_,_,_,_,_,_,_,_,_,_,_,_,_,_,_,_,_,_,_,_,_,_,_,_,_,_,_,_,_,_,_,_,_,_,_,_,_,_,_,_,_,_,_,_,_,_,_]) rfl ?_
                  refine l_val s76 (y_as rfl (ev_of rfl)) rfl rfl (l' := _) rfl ?_
                  refine l_end ?_
                  refine x_thenN ?_
                  rw [mgR_put (by unfold mgV whV; rw [hc1]; simp only [if_true]; (repeat' split) <;> omega)] at s76
                  refine ⟨_, [_, _, _, _, _, _, _, _, _, _, _, _, _, _, _, _, _, _, _, _, _, _, _, _, _, _, _, _, _, _, _, _, _, _, _, _, _, _, _, _, _, _, _, _, _, _, _, _, _, _, _, _, _, _, _, _, _, _, _, _, _, _, _, _, _, _, _, _, _, _], ?_, rfl, i + 1, v75, [_, _, _, _, _, _, _, _, _, _, _, _, _, _, _, _, _, _, _, _, _, _, _, _, _, _, _, _, _, _, _, _, _, _, _, _, _, _, _, _, _, _, _, _, _, _, _, _, _, _, _, _, _, _, _, _, _, _, _, _, _, _, _, _, _, _, _, _, _], rfl, rfl, ?_, ?_⟩
                  · omega
                  · first | exact s76 | exact s76.sub (by first | (repeat first | with_reducible exact Sub.refl _ | refine Sub.skip _ ?_); done | (repeat first | with_reducible exact Sub.refl _ | exact Sub.nil _ | refine Sub.take (by repeat first | with_reducible exact Take.here _ _ | apply Take.there) ?_ | refine Sub.skip _ ?_))
                  · omega
              · (try simp only [decide_eq_true_eq, decide_eq_false_iff_not, Bool.not_eq_true', Bool.not_eq_false'] at hg61)
                refine nlL (l' := _) rfl ?_
                refine l_skip (wanted_of rfl rfl rfl rfl rfl) rfl (l' := [_,_,_,_,_,_,_,_,_,_,_,_,_,_,_,_,_,_,_,_,_,_,_,_,_,_,_,_,_,_,_,_,_,_,_,_,_,_,_,_,_,_,_,_,_,_,_,_,_,_,_,_,_,_,_,_,_,_,_,_,_,_,_,_,_,_,_,_,_,_,_,_,_,_,_,_,_,_,_,_,_,_,_,_,_,_]) rfl ?_
                refine l_skip (wanted_of rfl rfl rfl rfl rfl) rfl (l' := _) rfl ?_
                refine l_skip (wanted_of rfl rfl rfl rfl rfl) rfl (l' := _) rfl ?_
                refine l_gval s24 (y_pick0 rfl (ev_of rfl) (ev_of rfl)) (wanted_of rfl rfl rfl rfl rfl) rfl (l' := [_,_,_,_,_,_,_,_,_,_,_,_,_,_,_,_,_,_,_,_,_,_,_,_,_,_,_,_,_,_,_,_,_,_,_,_,_,_,_,_,_,_,_,_,_,_,_,_,_,_,_,_,_,_,_,_,_,_,_,_,_,_,_,_,_,_,_,_,_,_,_,_,_,_,_,_,_,_,_,_,_,_,_,_,_,_]) rfl ?_
                refine l_val s24 (y_pick0 rfl (ev_of rfl) (ev_of rfl)) rfl rfl (l' := _) rfl ?_
                refine l_end ?_
                refine x_thenN ?_
                refine c_condF rfl ?_
                refine c_skip ?_
                refine x_thenN ?_
                refine c_region ?_
                refine l_val s24 (y_fieldAddrB rfl Ty.fld25_2 Ty.size22 (ev_of rfl)) rfl rfl (l' := _) rfl ?_
                refine l_val s24 (y_load rfl Ty.some22 Ty.agg22 (ev_of rfl) (by repeat first | exact ent_cell rfl | assumption | refine Ent.there ?_)) rfl rfl (l' := [_,_,_,_,_,_,_,_,_,_,_,_,_,_,_,_,_,_,_,_,_,_,_,_,_,_,_,_,_,_,_,_,_,_,_,_,_,_,_,_,_,_,_,_,_,_,_,_,_,_,_,_,_,_,_,_,_,_,_,_,_,_,_,_,_,_,_,_,_,_,_,_,_,_,_,_,_,_,_,_,_,_,_,_,_,_]) rfl ?_
                refine l_val s24 (y_mv rfl (ev_of rfl)) rfl rfl (l' := _) rfl ?_
                refine l_bs s24 rfl rfl rfl Ty.elem22 Ty.size2 Ty.zero2 (zs := [_]) rfl (vs := [(0, _)]) rfl (ps := [(0, [_])]) rfl (by intro q hq; simp only [List.zip_cons_cons, List.zip_nil_right, List.zip_nil_left, List.mem_cons, List.not_mem_nil, or_false] at hq; rcases hq with rfl <;> exact ⟨rfl, rfl, by first | rfl | (simp only [cells_one (arr_one (by first | (repeat first | assumption | with_reducible exact ent_blk | with_reducible exact Ent.here arr_reads | with_reducible exact Ent.here one_I64 | with_reducible exact Ent.here one_Cell | refine Ent.there ?_); done | (repeat first | assumption | with_reducible exact ent_blk | exact Ent.here arr_reads | exact Ent.here one_I64 | exact Ent.here one_Cell | exact Ent.here one_Bool | exact Ent.here one_Rect | refine Ent.there ?_)) s24)]; first | done | rfl), by simp⟩) (cells := [_]) rfl (by decide) (fun b80 w79 s78 => ?_)
                clear s24
                refine nlL (l' := _) rfl ?_
                refine l_append1 s78 (by repeat first | exact Take.here (Blk _ _ _) _ | apply Take.there) (by repeat first | with_reducible exact Take.here _ _ | apply Take.there) rfl rfl rfl Ty.elem22 Ty.size2 Ty.bytes2 Ty.zero2 rfl (ev_of rfl) (ev_of rfl) one_I64 (by rw [mgR_length]; simp only [List.length_cons, List.length_nil]; omega) (by decide) (fun v83 w82 s81 => ?_)
                clear s78
                refine nlL (l' := [_,_,_,_,_,_,_,_,_,_,_,_,_,_,_,_,_,_,_,_,_,_,_,_,_,_,_,_,_,_,_,_,_,_,_,_,_,_,_,_,_,_,_,_,_,_,_,_,_,_,_,_,_,_,_,_,_,_,_,_,_,_,_,_,_,_,_,_,_,_,_,_,_,_,_,_,_,_,_,_,_,_,_,_,_,_]) rfl ?_
                refine l_val s81 (y_fieldAddrB rfl Ty.fld25_2 Ty.size22 (ev_of rfl)) rfl rfl (l' := _) rfl ?_
                refine l_store s81 rfl rfl rfl Ty.size22 (ev_of rfl) (ev_of rfl) (by first | rfl | exact arr_one (by first | (repeat first | assumption | with_reducible exact ent_blk | with_reducible exact Ent.here arr_reads | with_reducible exact Ent.here one_I64 | with_reducible exact Ent.here one_Cell | refine Ent.there ?_); done | (repeat first | assumption | with_reducible exact ent_blk | exact Ent.here arr_reads | exact Ent.here one_I64 | exact Ent.here one_Cell | exact Ent.here one_Bool | exact Ent.here one_Rect | refine Ent.there ?_)) s81) (by repeat first | exact Wr.blk (cells' := #[_, _, _]) (Nat.le_of_ble_eq_true rfl) rfl | apply Wr.there) (fun w85 s84 => ?_)
                clear s81
                refine l_end ?_
                refine x_blockN ?_
                refine x_thenN ?_
                refine c_region ?_
                refine l_val s84 (y_mv rfl (ev_of rfl)) rfl rfl (l' := _) rfl ?_
                refine l_val s84 (y_add rfl (ev_of rfl) (ev_of rfl) (by omega) (by omega)) rfl rfl (l' := [_,_,_,_,_,_,_,_,_,_,_,_,_,_,_,_,_,_,_,_,_,_,_,_,_,_,_,_,_,_,_,_,_,_,_,_,_,_,_,_,_,_,_,_,_,_,_,_,_,_,_,_,_,_,_,_,_,_,_,_,_,_,_,_,_,_,_,_,_,_,_,_,_,_,_,_,_,_,_,_,_,_,_,_,_,_]) rfl ?_
                refine l_val s84 (y_as rfl (ev_of rfl)) rfl rfl (l' := _) rfl ?_
                refine l_end ?_
                refine x_thenN ?_
                rw [mgR_put (by unfold mgV whV; rw [hc1]; simp only [if_true]; (repeat' split) <;> omega)] at s84
                refine ⟨_, [_, _, _, _, _, _, _, _, _, _, _, _, _, _, _, _, _, _, _, _, _, _, _, _, _, _, _, _, _, _, _, _, _, _, _, _, _, _, _, _, _, _, _, _, _, _, _, _, _, _, _, _, _, _, _, _, _, _, _, _, _, _, _, _, _, _, _, _, _, _], ?_, rfl, i + 1, v83, [_, _, _, _, _, _, _, _, _, _, _, _, _, _, _, _, _, _, _, _, _, _, _, _, _, _, _, _, _, _, _, _, _, _, _, _, _, _, _, _, _, _, _, _, _, _, _, _, _, _, _, _, _, _, _, _, _, _, _, _, _, _, _, _, _, _, _, _, _], rfl, rfl, ?_, ?_⟩
                · omega
                · first | exact s84 | exact s84.sub (by first | (repeat first | with_reducible exact Sub.refl _ | refine Sub.skip _ ?_); done | (repeat first | with_reducible exact Sub.refl _ | exact Sub.nil _ | refine Sub.take (by repeat first | with_reducible exact Take.here _ _ | apply Take.there) ?_ | refine Sub.skip _ ?_))
                · omega
          · (try simp only [decide_eq_true_eq, decide_eq_false_iff_not, Bool.not_eq_true', Bool.not_eq_false'] at hg51)
            refine nlL (l' := _) rfl ?_
            refine l_skip (wanted_of rfl rfl rfl rfl rfl) rfl (l' := [_,_,_,_,_,_,_,_,_,_,_,_,_,_,_,_,_,_,_,_,_,_,_,_,_,_,_,_,_,_,_,_,_,_,_,_,_,_,_,_,_,_,_,_,_,_,_,_,_,_,_,_,_,_,_,_,_,_,_,_,_,_,_,_,_,_,_,_,_,_,_,_,_,_,_,_,_,_,_,_,_,_,_,_,_,_]) rfl ?_
            refine l_skip (wanted_of rfl rfl rfl rfl rfl) rfl (l' := _) rfl ?_
            refine l_skip (wanted_of rfl rfl rfl rfl rfl) rfl (l' := _) rfl ?_
            refine l_gval s24 (y_pick0 rfl (ev_of rfl) (ev_of rfl)) (wanted_of rfl rfl rfl rfl rfl) rfl (l' := [_,_,_,_,_,_,_,_,_,_,_,_,_,_,_,_,_,_,_,_,_,_,_,_,_,_,_,_,_,_,_,_,_,_,_,_,_,_,_,_,_,_,_,_,_,_,_,_,_,_,_,_,_,_,_,_,_,_,_,_,_,_,_,_,_,_,_,_,_,_,_,_,_,_,_,_,_,_,_,_,_,_,_,_,_,_]) rfl ?_
            refine l_val s24 (y_pick0 rfl (ev_of rfl) (ev_of rfl)) rfl rfl (l' := _) rfl ?_
            refine l_val s24 (y_mv rfl (ev_of rfl)) rfl rfl (l' := _) rfl ?_
            refine l_gval s24 (y_mv rfl (ev_of rfl)) (wanted_of rfl rfl rfl rfl rfl) rfl (l' := [_,_,_,_,_,_,_,_,_,_,_,_,_,_,_,_,_,_,_,_,_,_,_,_,_,_,_,_,_,_,_,_,_,_,_,_,_,_,_,_,_,_,_,_,_,_,_,_,_,_,_,_,_,_,_,_,_,_,_,_,_,_,_,_,_,_,_,_,_,_,_,_,_,_,_,_,_,_,_,_,_,_,_,_,_,_]) rfl ?_
            refine l_gval s24 (y_eql rfl (ev_of rfl) (ev_of rfl)) (wanted_of rfl rfl rfl rfl rfl) rfl (l' := _) rfl ?_
            refine l_gval s24 (y_mv rfl (ev_of rfl)) (wanted_of rfl rfl rfl rfl rfl) rfl (l' := _) rfl ?_
            refine l_split (t := 72) rfl (fun hg86 => ?_) (fun hg86 => ?_)
            · (try simp only [decide_eq_true_eq, decide_eq_false_iff_not, Bool.not_eq_true', Bool.not_eq_false'] at hg86)
              refine nlL (l' := [_,_,_,_,_,_,_,_,_,_,_,_,_,_,_,_,_,_,_,_,_,_,_,_,_,_,_,_,_,_,_,_,_,_,_,_,_,_,_,_,_,_,_,_,_,_,_,_,_,_,_,_,_,_,_,_,_,_,_,_,_,_,_,_,_,_,_,_,_,_,_,_,_,_,_,_,_,_,_,_,_,_,_,_,_,_]) rfl ?_
              refine l_gval s24 (y_mv rfl (ev_of rfl)) (wanted_of rfl rfl rfl rfl rfl) rfl (l' := _) rfl ?_
              refine l_gval s24 (y_mv rfl (ev_of rfl)) (wanted_of rfl rfl rfl rfl rfl) rfl (l' := _) rfl ?_
              refine l_gval s24 (y_gtr rfl (ev_of rfl) (ev_of rfl)) (wanted_of rfl rfl rfl rfl rfl) rfl (l' := [_,_,_,_,_,_,_,_,_,_,_,_,_,_,_,_,_,_,_,_,_,_,_,_,_,_,_,_,_,_,_,_,_,_,_,_,_,_,_,_,_,_,_,_,_,_,_,_,_,_,_,_,_,_,_,_,_,_,_,_,_,_,_,_,_,_,_,_,_,_,_,_,_,_,_,_,_,_,_,_,_,_,_,_,_,_]) rfl ?_
              refine l_gval s24 (y_pick1 rfl (ev_of rfl) (ev_of rfl)) (wanted_of rfl rfl rfl rfl rfl) rfl (l' := _) rfl ?_
              refine l_val s24 (y_pick0 rfl (ev_of rfl) (ev_of rfl)) rfl rfl (l' := _) rfl ?_
              refine l_end ?_
              refine x_thenN ?_
              refine c_if rfl (fun hc3 => ?_) (fun hc3 => ?_)
              · (try simp only [decide_eq_true_eq, decide_eq_false_iff_not, Bool.not_eq_true', Bool.not_eq_false'] at hc3)
                refine c_region ?_
                refine l_val s24 (y_mv rfl (ev_of rfl)) rfl rfl (l' := [_,_,_,_,_,_,_,_,_,_,_,_,_,_,_,_,_,_,_,_,_,_,_,_,_,_,_,_,_,_,_,_,_,_,_,_,_,_,_,_,_,_,_,_,_,_,_,_,_,_,_,_,_,_,_,_,_,_,_,_,_,_,_,_,_,_,_,_,_,_,_,_,_,_,_,_,_,_,_,_,_,_,_,_,_,_]) rfl ?_
                refine l_val s24 (y_as rfl (ev_of rfl)) rfl rfl (l' := _) rfl ?_
                refine l_end ?_
                refine x_thenN ?_
                refine c_region ?_
                refine l_val s24 (y_fieldAddrB rfl Ty.fld25_2 Ty.size22 (ev_of rfl)) rfl rfl (l' := _) rfl ?_
                refine l_val s24 (y_load rfl Ty.some22 Ty.agg22 (ev_of rfl) (by repeat first | exact ent_cell rfl | assumption | refine Ent.there ?_)) rfl rfl (l' := [_,_,_,_,_,_,_,_,_,_,_,_,_,_,_,_,_,_,_,_,_,_,_,_,_,_,_,_,_,_,_,_,_,_,_,_,_,_,_,_,_,_,_,_,_,_,_,_,_,_,_,_,_,_,_,_,_,_,_,_,_,_,_,_,_,_,_,_,_,_,_,_,_,_,_,_,_,_,_,_,_,_,_,_,_,_]) rfl ?_
                refine l_val s24 (y_mv rfl (ev_of rfl)) rfl rfl (l' := _) rfl ?_
                refine l_bs s24 rfl rfl rfl Ty.elem22 Ty.size2 Ty.zero2 (zs := [_]) rfl (vs := [(0, _)]) rfl (ps := [(0, [_])]) rfl (by intro q hq; simp only [List.zip_cons_cons, List.zip_nil_right, List.zip_nil_left, List.mem_cons, List.not_mem_nil, or_false] at hq; rcases hq with rfl <;> exact ⟨rfl, rfl, by first | rfl | (simp only [cells_one (arr_one (by first | (repeat first | assumption | with_reducible exact ent_blk | with_reducible exact Ent.here arr_reads | with_reducible exact Ent.here one_I64 | with_reducible exact Ent.here one_Cell | refine Ent.there ?_); done | (repeat first | assumption | with_reducible exact ent_blk | exact Ent.here arr_reads | exact Ent.here one_I64 | exact Ent.here one_Cell | exact Ent.here one_Bool | exact Ent.here one_Rect | refine Ent.there ?_)) s24)]; first | done | rfl), by simp⟩) (cells := [_]) rfl (by decide) (fun b89 w88 s87 => ?_)
                clear s24
                refine nlL (l' := _) rfl ?_
                refine l_append1 s87 (by repeat first | exact Take.here (Blk _ _ _) _ | apply Take.there) (by repeat first | with_reducible exact Take.here _ _ | apply Take.there) rfl rfl rfl Ty.elem22 Ty.size2 Ty.bytes2 Ty.zero2 rfl (ev_of rfl) (ev_of rfl) one_I64 (by rw [mgR_length]; simp only [List.length_cons, List.length_nil]; omega) (by decide) (fun v92 w91 s90 => ?_)
                clear s87
                refine nlL (l' := [_,_,_,_,_,_,_,_,_,_,_,_,_,_,_,_,_,_,_,_,_,_,_,_,_,_,_,_,_,_,_,_,_,_,_,_,_,_,_,_,_,_,_,_,_,_,_,_,_,_,_,_,_,_,_,_,_,_,_,_,_,_,_,_,_,_,_,_,_,_,_,_,_,_,_,_,_,_,_,_,_,_,_,_,_,_]) rfl ?_
                refine l_val s90 (y_fieldAddrB rfl Ty.fld25_2 Ty.size22 (ev_of rfl)) rfl rfl (l' := _) rfl ?_
                refine l_store s90 rfl rfl rfl Ty.size22 (ev_of rfl) (ev_of rfl) (by first | rfl | exact arr_one (by first | (repeat first | assumption | with_reducible exact ent_blk | with_reducible exact Ent.here arr_reads | with_reducible exact Ent.here one_I64 | with_reducible exact Ent.here one_Cell | refine Ent.there ?_); done | (repeat first | assumption | with_reducible exact ent_blk | exact Ent.here arr_reads | exact Ent.here one_I64 | exact Ent.here one_Cell | exact Ent.here one_Bool | exact Ent.here one_Rect | refine Ent.there ?_)) s90) (by repeat first | exact Wr.blk (cells' := #[_, _, _]) (Nat.le_of_ble_eq_true rfl) rfl | apply Wr.there) (fun w94 s93 => ?_)
                clear s90
                refine l_end ?_
                refine x_blockN ?_
                refine x_thenN ?_
                refine c_region ?_
                refine l_val s93 (y_mv rfl (ev_of rfl)) rfl rfl (l' := _) rfl ?_
                refine l_val s93 (y_add rfl (ev_of rfl) (ev_of rfl) (by omega) (by omega)) rfl rfl (l' := [_,_,_,_,_,_,_,_,_,_,_,_,_,_,_,_,_,_,_,_,_,_,_,_,_,_,_,_,_,_,_,_,_,_,_,_,_,_,_,_,_,_,_,_,_,_,_,_,_,_,_,_,_,_,_,_,_,_,_,_,_,_,_,_,_,_,_,_,_,_,_,_,_,_,_,_,_,_,_,_,_,_,_,_,_,_]) rfl ?_
                refine l_val s93 (y_as rfl (ev_of rfl)) rfl rfl (l' := _) rfl ?_
                refine l_end ?_
                refine x_thenN ?_
                rw [mgR_put (by unfold mgV whV; rw [hc1]; simp only [if_true]; (repeat' split) <;> omega)] at s93
                refine ⟨_, [_, _, _, _, _, _, _, _, _, _, _, _, _, _, _, _, _, _, _, _, _, _, _, _, _, _, _, _, _, _, _, _, _, _, _, _, _, _, _, _, _, _, _, _, _, _, _, _, _, _, _, _, _, _, _, _, _, _, _, _, _, _, _, _, _, _, _, _, _, _], ?_, rfl, i + 1, v92, [_, _, _, _, _, _, _, _, _, _, _, _, _, _, _, _, _, _, _, _, _, _, _, _, _, _, _, _, _, _, _, _, _, _, _, _, _, _, _, _, _, _, _, _, _, _, _, _, _, _, _, _, _, _, _, _, _, _, _, _, _, _, _, _, _, _, _, _, _], rfl, rfl, ?_, ?_⟩
                · omega
                · first | exact s93 | exact s93.sub (by first | (repeat first | with_reducible exact Sub.refl _ | refine Sub.skip _ ?_); done | (repeat first | with_reducible exact Sub.refl _ | exact Sub.nil _ | refine Sub.take (by repeat first | with_reducible exact Take.here _ _ | apply Take.there) ?_ | refine Sub.skip _ ?_))
                · omega
              · (try simp only [decide_eq_true_eq, decide_eq_false_iff_not, Bool.not_eq_true', Bool.not_eq_false'] at hc3)
                refine c_skip ?_
                refine x_thenN ?_
                refine c_region ?_
                refine l_val s24 (y_fieldAddrB rfl Ty.fld25_2 Ty.size22 (ev_of rfl)) rfl rfl (l' := _) rfl ?_
                refine l_val s24 (y_load rfl Ty.some22 Ty.agg22 (ev_of rfl) (by repeat first | exact ent_cell rfl | assumption | refine Ent.there ?_)) rfl rfl (l' := [_,_,_,_,_,_,_,_,_,_,_,_,_,_,_,_,_,_,_,_,_,_,_,_,_,_,_,_,_,_,_,_,_,_,_,_,_,_,_,_,_,_,_,_,_,_,_,_,_,_,_,_,_,_,_,_,_,_,_,_,_,_,_,_,_,_,_,_,_,_,_,_,_,_,_,_,_,_,_,_,_,_,_,_,_,_]) rfl ?_
                refine l_val s24 (y_mv rfl (ev_of rfl)) rfl rfl (l' := _) rfl ?_
                refine l_bs s24 rfl rfl rfl Ty.elem22 Ty.size2 Ty.zero2 (zs := [_]) rfl (vs := [(0, _)]) rfl (ps := [(0, [_])]) rfl (by intro q hq; simp only [List.zip_cons_cons, List.zip_nil_right, List.zip_nil_left, List.mem_cons, List.not_mem_nil, or_false] at hq; rcases hq with rfl <;> exact ⟨rfl, rfl, by first | rfl | (simp only [cells_one (arr_one (by first | (repeat first | assumption | with_reducible exact ent_blk | with_reducible exact Ent.here arr_reads | with_reducible exact Ent.here one_I64 | with_reducible exact Ent.here one_Cell | refine Ent.there ?_); done | (repeat first | assumption | with_reducible exact ent_blk | exact Ent.here arr_reads | exact Ent.here one_I64 | exact Ent.here one_Cell | exact Ent.here one_Bool | exact Ent.here one_Rect | refine Ent.there ?_)) s24)]; first | done | rfl), by simp⟩) (cells := [_]) rfl (by decide) (fun b97 w96 s95 => ?_)
                clear s24
                refine nlL (l' := _) rfl ?_
                refine l_append1 s95 (by repeat first | exact Take.here (Blk _ _ _) _ | apply Take.there) (by repeat first | with_reducible exact Take.here _ _ | apply Take.there) rfl rfl rfl Ty.elem22 Ty.size2 Ty.bytes2 Ty.zero2 rfl (ev_of rfl) (ev_of rfl) one_I64 (by rw [mgR_length]; simp only [List.length_cons, List.length_nil]; omega) (by decide) (fun v100 w99 s98 => ?_)
                clear s95
                refine nlL (l' := [_,_,_,_,_,_,_,_,_,_,_,_,_,_,_,_,_,_,_,_,_,_,_,_,_,_,_,_,_,_,_,_,_,_,_,_,_,_,_,_,_,_,_,_,_,_,_,_,_,_,_,_,_,_,_,_,_,_,_,_,_,_,_,_,_,_,_,_,_,_,_,_,_,_,_,_,_,_,_,_,_,_,_,_,_,_]) rfl ?_
                refine l_val s98 (y_fieldAddrB rfl Ty.fld25_2 Ty.size22 (ev_of rfl)) rfl rfl (l' := _) rfl ?_
                refine l_store s98 rfl rfl rfl Ty.size22 (ev_of rfl) (ev_of rfl) (by first | rfl | exact arr_one (by first | (repeat first | assumption | with_reducible exact ent_blk | with_reducible exact Ent.here arr_reads | with_reducible exact Ent.here one_I64 | with_reducible exact Ent.here one_Cell | refine Ent.there ?_); done | (repeat first | assumption | with_reducible exact ent_blk | exact Ent.here arr_reads | exact Ent.here one_I64 | exact Ent.here one_Cell | exact Ent.here one_Bool | exact Ent.here one_Rect | refine Ent.there ?_)) s98) (by repeat first | exact Wr.blk (cells' := #[_, _, _]) (Nat.le_of_ble_eq_true rfl) rfl | apply Wr.there) (fun w102 s101 => ?_)
                clear s98
                refine l_end ?_
                refine x_blockN ?_
                refine x_thenN ?_
                refine c_region ?_
                refine l_val s101 (y_mv rfl (ev_of rfl)) rfl rfl (l' := _) rfl ?_
                refine l_val s101 (y_add rfl (ev_of rfl) (ev_of rfl) (by omega) (by omega)) rfl rfl (l' := [_,_,_,_,_,_,_,_,_,_,_,_,_,_,_,_,_,_,_,_,_,_,_,_,_,_,_,_,_,_,_,_,_,_,_,_,_,_,_,_,_,_,_,_,_,_,_,_,_,_,_,_,_,_,_,_,_,_,_,_,_,_,_,_,_,_,_,_,_,_,_,_,_,_,_,_,_,_,_,_,_,_,_,_,_,_]) rfl ?_
                refine l_val s101 (y_as rfl (ev_of rfl)) rfl rfl (l' := _) rfl ?_
                refine l_end ?_
                refine x_thenN ?_
                rw [mgR_put (by unfold mgV whV; rw [hc1]; simp only [if_true]; (repeat' split) <;> omega)] at s101
                refine ⟨_, [_, _, _, _, _, _, _, _, _, _, _, _, _, _, _, _, _, _, _, _, _, _, _, _, _, _, _, _, _, _, _, _, _, _, _, _, _, _, _, _, _, _, _, _, _, _, _, _, _, _, _, _, _, _, _, _, _, _, _, _, _, _, _, _, _, _, _, _, _, _], ?_, rfl, i + 1, v100, [_, _, _, _, _, _, _, _, _, _, _, _, _, _, _, _, _, _, _, _, _, _, _, _, _, _, _, _, _, _, _, _, _, _, _, _, _, _, _, _, _, _, _, _, _, _, _, _, _, _, _, _, _, _, _, _, _, _, _, _, _, _, _, _, _, _, _, _, _], rfl, rfl, ?_, ?_⟩
                · omega
                · first | exact s101 | exact s101.sub (by first | (repeat first | with_reducible exact Sub.refl _ | refine Sub.skip _ ?_); done | (repeat first | with_reducible exact Sub.refl _ | exact Sub.nil _ | refine Sub.take (by repeat first | with_reducible exact Take.here _ _ | apply Take.there) ?_ | refine Sub.skip _ ?_))
                · omega
            · (try simp only [decide_eq_true_eq, decide_eq_false_iff_not, Bool.not_eq_true', Bool.not_eq_false'] at hg86)
              refine nlL (l' := _) rfl ?_
              refine l_skip (wanted_of rfl rfl rfl rfl rfl) rfl (l' := [_,_,_,_,_,_,_,_,_,_,_,_,_,_,_,_,_,_,_,_,_,_,_,_,_,_,_,_,_,_,_,_,_,_,_,_,_,_,_,_,_,_,_,_,_,_,_,_,_,_,_,_,_,_,_,_,_,_,_,_,_,_,_,_,_,_,_,_,_,_,_,_,_,_,_,_,_,_,_,_,_,_,_,_,_,_]) rfl ?_
              refine l_skip (wanted_of rfl rfl rfl rfl rfl) rfl (l' := _) rfl ?_
              refine l_skip (wanted_of rfl rfl rfl rfl rfl) rfl (l' := _) rfl ?_
              refine l_gval s24 (y_pick0 rfl (ev_of rfl) (ev_of rfl)) (wanted_of rfl rfl rfl rfl rfl) rfl (l' := [_,_,_,_,_,_,_,_,_,_,_,_,_,_,_,_,_,_,_,_,_,_,_,_,_,_,_,_,_,_,_,_,_,_,_,_,_,_,_,_,_,_,_,_,_,_,_,_,_,_,_,_,_,_,_,_,_,_,_,_,_,_,_,_,_,_,_,_,_,_,_,_,_,_,_,_,_,_,_,_,_,_,_,_,_,_]) rfl ?_
              refine l_val s24 (y_pick0 rfl (ev_of rfl) (ev_of rfl)) rfl rfl (l' := _) rfl ?_
              refine l_end ?_
              refine x_thenN ?_
              refine c_condF rfl ?_
              refine c_skip ?_
              refine x_thenN ?_
              refine c_region ?_
              refine l_val s24 (y_fieldAddrB rfl Ty.fld25_2 Ty.size22 (ev_of rfl)) rfl rfl (l' := _) rfl ?_
              refine l_val s24 (y_load rfl Ty.some22 Ty.agg22 (ev_of rfl) (by repeat first | exact ent_cell rfl | assumption | refine Ent.there ?_)) rfl rfl (l' := [_,_,_,_,_,_,_,_,_,_,_,_,_,_,_,_,_,_,_,_,_,_,_,_,_,_,_,_,_,_,_,_,_,_,_,_,_,_,_,_,_,_,_,_,_,_,_,_,_,_,_,_,_,_,_,_,_,_,_,_,_,_,_,_,_,_,_,_,_,_,_,_,_,_,_,_,_,_,_,_,_,_,_,_,_,_]) rfl ?_
              refine l_val s24 (y_mv rfl (ev_of rfl)) rfl rfl (l' := _) rfl ?_
              refine l_bs s24 rfl rfl rfl Ty.elem22 Ty.size2 Ty.zero2 (zs := [_]) rfl (vs := [(0, _)]) rfl (ps := [(0, [_])]) rfl (by intro q hq; simp only [List.zip_cons_cons, List.zip_nil_right, List.zip_nil_left, List.mem_cons, List.not_mem_nil, or_false] at hq; rcases hq with rfl <;> exact ⟨rfl, rfl, by first | rfl | (simp only [cells_one (arr_one (by first | (repeat first | assumption | with_reducible exact ent_blk | with_reducible exact Ent.here arr_reads | with_reducible exact Ent.here one_I64 | with_reducible exact Ent.here one_Cell | refine Ent.there ?_); done | (repeat first | assumption | with_reducible exact ent_blk | exact Ent.here arr_reads | exact Ent.here one_I64 | exact Ent.here one_Cell | exact Ent.here one_Bool | exact Ent.here one_Rect | refine Ent.there ?_)) s24)]; first | done | rfl), by simp⟩) (cells := [_]) rfl (by decide) (fun b105 w104 s103 => ?_)
              clear s24
              refine nlL (l' := _) rfl ?_
              refine l_append1 s103 (by repeat first | exact Take.here (Blk _ _ _) _ | apply Take.there) (by repeat first | with_reducible exact Take.here _ _ | apply Take.there) rfl rfl rfl Ty.elem22 Ty.size2 Ty.bytes2 Ty.zero2 rfl (ev_of rfl) (ev_of rfl) one_I64 (by rw [mgR_length]; simp only [List.length_cons, List.length_nil]; omega) (by decide) (fun v108 w107 s106 => ?_)
              clear s103
              refine nlL (l' := [_,_,_,_,_,_,_,_,_,_,_,_,_,_,_,_,_,_,_,_,_,_,_,_,_,_,_,_,_,_,_,_,_,_,_,_,_,_,_,_,_,_,_,_,_,_,_,_,_,_,_,_,_,_,_,_,_,_,_,_,_,_,_,_,_,_,_,_,_,_,_,_,_,_,_,_,_,_,_,_,_,_,_,_,_,_]) rfl ?_
              refine l_val s106 (y_fieldAddrB rfl Ty.fld25_2 Ty.size22 (ev_of rfl)) rfl rfl (l' := _) rfl ?_
              refine l_store s106 rfl rfl rfl Ty.size22 (ev_of rfl) (ev_of rfl) (by first | rfl | exact arr_one (by first | (repeat first | assumption | with_reducible exact ent_blk | with_reducible exact Ent.here arr_reads | with_reducible exact Ent.here one_I64 | with_reducible exact Ent.here one_Cell | refine Ent.there ?_); done | (repeat first | assumption | with_reducible exact ent_blk | exact Ent.here arr_reads | exact Ent.here one_I64 | exact Ent.here one_Cell | exact Ent.here one_Bool | exact Ent.here one_Rect | refine Ent.there ?_)) s106) (by repeat first | exact Wr.blk (cells' := #[_, _, _]) (Nat.le_of_ble_eq_true rfl) rfl | apply Wr.there) (fun w110 s109 => ?_)
              clear s106
              refine l_end ?_
              refine x_blockN ?_
              refine x_thenN ?_
              refine c_region ?_
              refine l_val s109 (y_mv rfl (ev_of rfl)) rfl rfl (l' := _) rfl ?_
              refine l_val s109 (y_add rfl (ev_of rfl) (ev_of rfl) (by omega) (by omega)) rfl rfl (l' := [_,_,_,_,_,_,_,_,_,_,_,_,_,_,_,_,_,_,_,_,_,_,_,_,_,_,_,_,_,_,_,_,_,_,_,_,_,_,_,_,_,_,_,_,_,_,_,_,_,_,_,_,_,_,_,_,_,_,_,_,_,_,_,_,_,_,_,_,_,_,_,_,_,_,_,_,_,_,_,_,_,_,_,_,_,_]) rfl ?_
              refine l_val s109 (y_as rfl (ev_of rfl)) rfl rfl (l' := _) rfl ?_
              refine l_end ?_
              refine x_thenN ?_
              rw [mgR_put (by unfold mgV whV; rw [hc1]; simp only [if_true]; (repeat' split) <;> omega)] at s109
              refine ⟨_, [_, _, _, _, _, _, _, _, _, _, _, _, _, _, _, _, _, _, _, _, _, _, _, _, _, _, _, _, _, _, _, _, _, _, _, _, _, _, _, _, _, _, _, _, _, _, _, _, _, _, _, _, _, _, _, _, _, _, _, _, _, _, _, _, _, _, _, _, _, _], ?_, rfl, i + 1, v108, [_, _, _, _, _, _, _, _, _, _, _, _, _, _, _, _, _, _, _, _, _, _, _, _, _, _, _, _, _, _, _, _, _, _, _, _, _, _, _, _, _, _, _, _, _, _, _, _, _, _, _, _, _, _, _, _, _, _, _, _, _, _, _, _, _, _, _, _, _], rfl, rfl, ?_, ?_⟩
              · omega
              · first | exact s109 | exact s109.sub (by first | (repeat first | with_reducible exact Sub.refl _ | refine Sub.skip _ ?_); done | (repeat first | with_reducible exact Sub.refl _ | exact Sub.nil _ | refine Sub.take (by repeat first | with_reducible exact Take.here _ _ | apply Take.there) ?_ | refine Sub.skip _ ?_))
              · omega
    · (try simp only [decide_eq_true_eq, decide_eq_false_iff_not, Bool.not_eq_true', Bool.not_eq_false'] at hc0)
      refine c_exit ?_
      refine x_thenE ?_
      refine x_thenE ?_
      refine x_hit ?_
      refine x_thenN ?_
      refine c_seq ?_
      refine c_region ?_
      refine l_val s18 (y_load_blk rfl Ty.some25 Ty.agg25 Ty.size25 (ev_of rfl) (by repeat first | exact ent_blk | refine Ent.there ?_) rfl) rfl rfl (l' := _) rfl ?_
      refine l_stA s18 (by repeat first | with_reducible exact Take.here _ _ | apply Take.there) rfl rfl rfl Ty.size25 (ev_of rfl) (ev_of rfl) rfl rfl (by first | (simp [Value.oneCell']; done) | (intro x hx; simp only [List.mem_toArray, List.mem_cons, List.not_mem_nil, or_false] at hx; rcases hx with rfl | rfl | rfl <;> first | rfl | assumption | exact arr_one (by first | (repeat first | assumption | with_reducible exact ent_blk | with_reducible exact Ent.here arr_reads | with_reducible exact Ent.here one_I64 | with_reducible exact Ent.here one_Cell | refine Ent.there ?_); done | (repeat first | assumption | with_reducible exact ent_blk | exact Ent.here arr_reads | exact Ent.here one_I64 | exact Ent.here one_Cell | exact Ent.here one_Bool | exact Ent.here one_Rect | refine Ent.there ?_)) s18)) (fun w112 s111 => ?_)
      clear s18
      refine l_end ?_
      refine x_thenN ?_
      refine c_ret ?_
      refine rc1 s111 rfl rfl Ty.some25 Ty.agg25 Ty.size25 (by repeat first | exact ent_blk | refine Ent.there ?_) rfl ?_
      obtain rfl : i = bs.length := by omega
      exact ⟨_, rfl, s111.sub (by first | (repeat first | with_reducible exact Sub.refl _ | refine Sub.skip _ ?_); done | (repeat first | with_reducible exact Sub.refl _ | exact Sub.nil _ | refine Sub.take (by repeat first | with_reducible exact Take.here _ _ | apply Take.there) ?_ | refine Sub.skip _ ?_))⟩
set_option maxHeartbeats 4000000 in
set_option maxRecDepth 100000 in
/-- hachure/hachureref47.At -/
theorem refAt_c {e : Env} {L : List Asn} {w : World} {W H : Nat} {u0 u1 u2 : Value} {bs xs ys : List Int} (s : SL e w L) (hv0 : Ent L (SlR I64 u0 bs)) (hv1 : Ent L (SlR I64 u1 xs)) (hv2 : Ent L (SlR I64 u2 ys)) (hW : 1 ≤ W) (hn : bs.length ≤ 100000000) (hx : xs.length = bs.length) (hy : ys.length = bs.length)  :
    Calls Try.prog 41 #[.agg #[.int .i64 (W : Int), .int .i64 (H : Int), u0], .agg #[.int .i64 (W : Int), .int .i64 (H : Int), u1], .agg #[.int .i64 (W : Int), .int .i64 (H : Int), u2]] w (Rets fun r w' => SL e w' (Arr CellT 46 r (selC W (oddP bs xs ys) bs.length) :: L)) := by
  refine enter Try.func41 rfl (l := [.agg #[.int .i64 (W : Int), .int .i64 (H : Int), u0], .agg #[.int .i64 (W : Int), .int .i64 (H : Int), u1], .agg #[.int .i64 (W : Int), .int .i64 (H : Int), u2], undef, undef, undef, undef, undef, undef, undef, undef, undef, undef, undef, undef, undef, undef, undef, undef, undef, undef, undef, undef, undef, undef, undef, undef, undef, undef, undef, undef, undef, undef, undef, undef, undef, undef, undef, undef, undef, undef, undef, undef, undef, undef, undef]) rfl ?_
  refine c_seq ?_
  refine c_region ?_
  refine l_box s rfl rfl rfl (ev_of rfl) (fun b3 w2 s1 => ?_)
  change SL _ _ (Blk _ #[_, _, _] _ :: _) at s1
  clear s
  refine nlL (l' := [_,_,_,_,_,_,_,_,_,_,_,_,_,_,_,_,_,_,_,_,_,_,_,_,_,_,_,_,_,_,_,_,_,_,_,_,_,_,_,_,_,_,_,_,_,_]) rfl ?_
  refine l_box s1 rfl rfl rfl (ev_of rfl) (fun b6 w5 s4 => ?_)
  change SL _ _ (Blk _ #[_, _, _] _ :: _) at s4
  clear s1
  refine nlL (l' := _) rfl ?_
  refine l_box s4 rfl rfl rfl (ev_of rfl) (fun b9 w8 s7 => ?_)
  change SL _ _ (Blk _ #[_, _, _] _ :: _) at s7
  clear s4
  refine nlL (l' := _) rfl ?_
  refine l_val s7 (y_as rfl (ev_of rfl)) rfl rfl (l' := [_,_,_,_,_,_,_,_,_,_,_,_,_,_,_,_,_,_,_,_,_,_,_,_,_,_,_,_,_,_,_,_,_,_,_,_,_,_,_,_,_,_,_,_,_,_]) rfl ?_
  refine l_end ?_
  refine x_thenN ?_
  refine c_seq ?_
  refine c_region ?_
  refine l_bs s7 rfl rfl rfl Ty.elem35 Ty.size46 Ty.zero46 (zs := []) rfl (vs := []) rfl (ps := []) rfl (by intro q hq; simp only [List.zip_cons_cons, List.zip_nil_right, List.zip_nil_left, List.mem_cons, List.not_mem_nil, or_false] at hq <;> cases hq) (cells := []) rfl (by decide) (fun b12 w11 s10 => ?_)
  clear s7
  refine nlL (l' := _) rfl ?_
  refine l_val s10 (y_as rfl (ev_of rfl)) rfl rfl (l' := _) rfl ?_
  refine l_end ?_
  refine x_thenN ?_
  refine c_seq ?_
  refine c_seq ?_
  refine c_region ?_
  refine l_val s10 (y_as rfl (ev_of rfl)) rfl rfl (l' := [_,_,_,_,_,_,_,_,_,_,_,_,_,_,_,_,_,_,_,_,_,_,_,_,_,_,_,_,_,_,_,_,_,_,_,_,_,_,_,_,_,_,_,_,_,_]) rfl ?_
  refine l_end ?_
  refine x_thenN ?_
  refine c_block ?_
  replace s10 := s10.imp (blk_arr (c := CellT) (n := 0) (xs := []) rfl rfl)
  change SL _ _ (Arr CellT 46 _ (selC W (oddP bs xs ys) 0) :: _) at s10
  refine c_loop [false, false, false, false, false, false, false, true, true, false, true, true, true, true, true, true, true, true, true, true, true, true, true, true, true, true, true, true, true, true, true, true, true, true, true, true, true, true, true, true, true, true, true, true, true, false] (fun mu ds w => ∃ (i : Nat) (z : Value) (d10 d11 d12 d13 d14 d15 d16 d17 d18 d19 d20 d21 d22 d23 d24 d25 d26 d27 d28 d29 d30 d31 d32 d33 d34 d35 d36 d37 d38 d39 d40 d41 d42 d43 d44 : Value), ds = [(z), (.int .i64 (i : Int)), d10, d11, d12, d13, d14, d15, d16, d17, d18, d19, d20, d21, d22, d23, d24, d25, d26, d27, d28, d29, d30, d31, d32, d33, d34, d35, d36, d37, d38, d39, d40, d41, d42, d43, d44] ∧ mu = bs.length - i ∧ SL e w (Arr CellT 46 z (selC W (oddP bs xs ys) i) :: Blk b9 #[.int .i64 (W : Int), .int .i64 (H : Int), u2] 25 :: Blk b6 #[.int .i64 (W : Int), .int .i64 (H : Int), u1] 25 :: Blk b3 #[.int .i64 (W : Int), .int .i64 (H : Int), u0] 25 :: L) ∧ (i ≤ bs.length)) (ds := [_, _, _, _, _, _, _, _, _, _, _, _, _, _, _, _, _, _, _, _, _, _, _, _, _, _, _, _, _, _, _, _, _, _, _, _, _]) rfl ⟨0, _, _, _, _, _, _, _, _, _, _, _, _, _, _, _, _, _, _, _, _, _, _, _, _, _, _, _, _, _, _, _, _, _, _, _, _, rfl, rfl, ?_, ?_⟩ ?_
  · first | exact s10 | exact s10.sub (by first | (repeat first | with_reducible exact Sub.refl _ | refine Sub.skip _ ?_); done | (repeat first | with_reducible exact Sub.refl _ | exact Sub.nil _ | refine Sub.take (by repeat first | with_reducible exact Take.here _ _ | apply Take.there) ?_ | refine Sub.skip _ ?_))
  · omega
  · clear s10
    rintro n15 ds16 w14 ⟨i, z, d10, d11, d12, d13, d14, d15, d16, d17, d18, d19, d20, d21, d22, d23, d24, d25, d26, d27, d28, d29, d30, d31, d32, d33, d34, d35, d36, d37, d38, d39, d40, d41, d42, d43, d44, rfl, rfl, s13, hI⟩
    refine nlC (l' := [_,_,_,_,_,_,_,_,_,_,_,_,_,_,_,_,_,_,_,_,_,_,_,_,_,_,_,_,_,_,_,_,_,_,_,_,_,_,_,_,_,_,_,_,_,_]) rfl ?_
    refine c_seq ?_
    refine c_seq ?_
    refine c_region ?_
    refine l_val s13 (y_mv rfl (ev_of rfl)) rfl rfl (l' := _) rfl ?_
    refine l_val s13 (y_fieldAddrB rfl Ty.fld25_2 Ty.size22 (ev_of rfl)) rfl rfl (l' := [_,_,_,_,_,_,_,_,_,_,_,_,_,_,_,_,_,_,_,_,_,_,_,_,_,_,_,_,_,_,_,_,_,_,_,_,_,_,_,_,_,_,_,_,_,_]) rfl ?_
    refine l_val s13 (y_load rfl Ty.some22 Ty.agg22 (ev_of rfl) (by repeat first | exact ent_cell rfl | assumption | refine Ent.there ?_)) rfl rfl (l' := _) rfl ?_
    refine l_val s13 (y_len rfl rfl Ty.elem22 (ev_of rfl) (by first | (repeat first | assumption | with_reducible exact ent_blk | with_reducible exact Ent.here arr_reads | with_reducible exact Ent.here one_I64 | with_reducible exact Ent.here one_Cell | refine Ent.there ?_); done | (repeat first | assumption | with_reducible exact ent_blk | exact Ent.here arr_reads | exact Ent.here one_I64 | exact Ent.here one_Cell | exact Ent.here one_Bool | exact Ent.here one_Rect | refine Ent.there ?_))) rfl rfl (l' := _) rfl ?_
    refine l_val s13 (y_lss rfl (ev_of rfl) (ev_of rfl)) rfl rfl (l' := [_,_,_,_,_,_,_,_,_,_,_,_,_,_,_,_,_,_,_,_,_,_,_,_,_,_,_,_,_,_,_,_,_,_,_,_,_,_,_,_,_,_,_,_,_,_]) rfl ?_
    refine l_end ?_
    refine x_thenN ?_
    refine c_if rfl (fun hc0 => ?_) (fun hc0 => ?_)
    · (try simp only [decide_eq_true_eq, decide_eq_false_iff_not, Bool.not_eq_true', Bool.not_eq_false'] at hc0)
      refine c_skip ?_
      refine x_thenN ?_
      refine c_seq ?_
      refine c_block ?_
      refine c_seq ?_
      apply c_drawn [] [0, 1, 2, 3, 4, 5, 6, 7, 8, 9, 10, 11, 12, 13, 14, 15] [] [] [] [(_, vq _), (_, vq _), (_, vq _), (_, vq _), (_, vq _), (_, vq _), (_, vq _), (_, vq _), (_, vq _), (_, vq _), (_, vq _), (_, vq _), (_, vq _), (_, vq _), (_, vq _), (_, vq _)] s13 Ty.follows (by kernel_rfl) (fun _ _ _ h => h.2) rfl rfl rfl (by decide) ?_
      show WP _ _ _ _ _
      refine p_end ?_
      refine d_val (y_fieldAddrB rfl Ty.fld25_2 Ty.size22 (ev_of rfl)) rfl rfl (l' := _) rfl ?_
      refine d_val (y_load rfl Ty.some22 Ty.agg22 (ev_of rfl) (by repeat first | exact ent_cell rfl | assumption | refine Ent.there ?_)) rfl rfl (l' := _) rfl ?_
      refine d_val (y_mv rfl (ev_of rfl)) rfl rfl (l' := [_,_,_,_,_,_,_,_,_,_,_,_,_,_,_,_,_,_,_,_,_,_,_,_,_,_,_,_,_,_,_,_,_,_,_,_,_,_,_,_,_,_,_,_,_,_]) rfl ?_
      refine d_val (y_idx rfl Ty.elem22 Ty.size2 (ev_of rfl) (ev_of rfl) (by first | (repeat first | assumption | with_reducible exact ent_blk | with_reducible exact Ent.here arr_reads | with_reducible exact Ent.here one_I64 | with_reducible exact Ent.here one_Cell | refine Ent.there ?_); done | (repeat first | assumption | with_reducible exact ent_blk | exact Ent.here arr_reads | exact Ent.here one_I64 | exact Ent.here one_Cell | exact Ent.here one_Bool | exact Ent.here one_Rect | refine Ent.there ?_)) (by first | rfl | exact (Int.toNat_of_nonneg (by omega)).symm) (by omega)) rfl rfl (l' := _) rfl ?_
      refine d_val (y_ldI rfl Ty.some2 Ty.agg2 (ev_of rfl) (by first | (repeat first | assumption | with_reducible exact ent_blk | with_reducible exact Ent.here arr_reads | with_reducible exact Ent.here one_I64 | with_reducible exact Ent.here one_Cell | refine Ent.there ?_); done | (repeat first | assumption | with_reducible exact ent_blk | exact Ent.here arr_reads | exact Ent.here one_I64 | exact Ent.here one_Cell | exact Ent.here one_Bool | exact Ent.here one_Rect | refine Ent.there ?_)) (by omega)) rfl rfl (l' := _) rfl ?_
      refine d_val (y_fieldAddrB rfl Ty.fld25_2 Ty.size22 (ev_of rfl)) rfl rfl (l' := [_,_,_,_,_,_,_,_,_,_,_,_,_,_,_,_,_,_,_,_,_,_,_,_,_,_,_,_,_,_,_,_,_,_,_,_,_,_,_,_,_,_,_,_,_,_]) rfl ?_
      refine d_val (y_load rfl Ty.some22 Ty.agg22 (ev_of rfl) (by repeat first | exact ent_cell rfl | assumption | refine Ent.there ?_)) rfl rfl (l' := _) rfl ?_
      refine d_val (y_mv rfl (ev_of rfl)) rfl rfl (l' := _) rfl ?_
      refine d_val (y_idx rfl Ty.elem22 Ty.size2 (ev_of rfl) (ev_of rfl) (by first | (repeat first | assumption | with_reducible exact ent_blk | with_reducible exact Ent.here arr_reads | with_reducible exact Ent.here one_I64 | with_reducible exact Ent.here one_Cell | refine Ent.there ?_); done | (repeat first | assumption | with_reducible exact ent_blk | exact Ent.here arr_reads | exact Ent.here one_I64 | exact Ent.here one_Cell | exact Ent.here one_Bool | exact Ent.here one_Rect | refine Ent.there ?_)) (by first | rfl | exact (Int.toNat_of_nonneg (by omega)).symm) (by omega)) rfl rfl (l' := [_,_,_,_,_,_,_,_,_,_,_,_,_,_,_,_,_,_,_,_,_,_,_,_,_,_,_,_,_,_,_,_,_,_,_,_,_,_,_,_,_,_,_,_,_,_]) rfl ?_
      refine d_val (y_ldI rfl Ty.some2 Ty.agg2 (ev_of rfl) (by first | (repeat first | assumption | with_reducible exact ent_blk | with_reducible exact Ent.here arr_reads | with_reducible exact Ent.here one_I64 | with_reducible exact Ent.here one_Cell | refine Ent.there ?_); done | (repeat first | assumption | with_reducible exact ent_blk | exact Ent.here arr_reads | exact Ent.here one_I64 | exact Ent.here one_Cell | exact Ent.here one_Bool | exact Ent.here one_Rect | refine Ent.there ?_)) (by omega)) rfl rfl (l' := _) rfl ?_
      refine d_val (y_fieldAddrB rfl Ty.fld25_2 Ty.size22 (ev_of rfl)) rfl rfl (l' := _) rfl ?_
      refine d_val (y_load rfl Ty.some22 Ty.agg22 (ev_of rfl) (by repeat first | exact ent_cell rfl | assumption | refine Ent.there ?_)) rfl rfl (l' := [_,_,_,_,_,_,_,_,_,_,_,_,_,_,_,_,_,_,_,_,_,_,_,_,_,_,_,_,_,_,_,_,_,_,_,_,_,_,_,_,_,_,_,_,_,_]) rfl ?_
      refine d_val (y_mv rfl (ev_of rfl)) rfl rfl (l' := _) rfl ?_
      refine d_val (y_idx rfl Ty.elem22 Ty.size2 (ev_of rfl) (ev_of rfl) (by first | (repeat first | assumption | with_reducible exact ent_blk | with_reducible exact Ent.here arr_reads | with_reducible exact Ent.here one_I64 | with_reducible exact Ent.here one_Cell | refine Ent.there ?_); done | (repeat first | assumption | with_reducible exact ent_blk | exact Ent.here arr_reads | exact Ent.here one_I64 | exact Ent.here one_Cell | exact Ent.here one_Bool | exact Ent.here one_Rect | refine Ent.there ?_)) (by first | rfl | exact (Int.toNat_of_nonneg (by omega)).symm) (by omega)) rfl rfl (l' := _) rfl ?_
      refine d_val (y_ldI rfl Ty.some2 Ty.agg2 (ev_of rfl) (by first | (repeat first | assumption | with_reducible exact ent_blk | with_reducible exact Ent.here arr_reads | with_reducible exact Ent.here one_I64 | with_reducible exact Ent.here one_Cell | refine Ent.there ?_); done | (repeat first | assumption | with_reducible exact ent_blk | exact Ent.here arr_reads | exact Ent.here one_I64 | exact Ent.here one_Cell | exact Ent.here one_Bool | exact Ent.here one_Rect | refine Ent.there ?_)) (by omega)) rfl rfl (l' := [_,_,_,_,_,_,_,_,_,_,_,_,_,_,_,_,_,_,_,_,_,_,_,_,_,_,_,_,_,_,_,_,_,_,_,_,_,_,_,_,_,_,_,_,_,_]) rfl ?_
      refine d_callL rfl rfl rfl FnMd.call126 (vs := [_, _, _]) rfl (fun w M s => refOdds_c s) (l' := _) rfl ?_
      refine d_end (fun w18 s17 => ?_)
      clear s13
      simp only [List.append_nil, List.cons_append, List.nil_append] at s17
      refine l_end ?_
      refine x_thenN ?_
      refine c_if rfl (fun hc1 => ?_) (fun hc1 => ?_)
      · (try simp only [decide_eq_true_eq, decide_eq_false_iff_not, Bool.not_eq_true', Bool.not_eq_false'] at hc1)
        have hp : (oddP bs xs ys) i = true := hc1
        apply c_drawn [] [0, 1, 2, 3, 4, 5, 6, 7, 8, 9, 10] [11, 12] [] [_, _] [(_, vq _), (_, vq _), (_, vq _), (_, vq _), (_, vq _), (_, vq _), (_, vq _), (_, vq _), (_, vq _), (_, vq _), (_, vb _ _)] s17 Ty.follows (by kernel_rfl) (fun _ _ _ h => h.2) rfl rfl rfl (by decide) ?_
        show WP _ _ _ _ _
        refine p_end ?_
        refine d_val (y_mv rfl (ev_of rfl)) rfl rfl (l' := _) rfl ?_
        refine d_val (y_mv rfl (ev_of rfl)) rfl rfl (l' := [_,_,_,_,_,_,_,_,_,_,_,_,_,_,_,_,_,_,_,_,_,_,_,_,_,_,_,_,_,_,_,_,_,_,_,_,_,_,_,_,_,_,_,_,_,_]) rfl ?_
        refine d_val (y_fieldAddrB rfl Ty.fld25_0 Ty.size2 (ev_of rfl)) rfl rfl (l' := _) rfl ?_
        refine d_val (y_load rfl Ty.some2 Ty.agg2 (ev_of rfl) (by repeat first | exact ent_cell rfl | assumption | refine Ent.there ?_)) rfl rfl (l' := _) rfl ?_
        refine d_val (y_rem rfl (ev_of rfl) (ev_of rfl) (by omega) (by omega)) rfl rfl (l' := [_,_,_,_,_,_,_,_,_,_,_,_,_,_,_,_,_,_,_,_,_,_,_,_,_,_,_,_,_,_,_,_,_,_,_,_,_,_,_,_,_,_,_,_,_,_]) rfl ?_
        refine d_val (y_mv rfl (ev_of rfl)) rfl rfl (l' := _) rfl ?_
        refine d_val (y_fieldAddrB rfl Ty.fld25_0 Ty.size2 (ev_of rfl)) rfl rfl (l' := _) rfl ?_
        refine d_val (y_load rfl Ty.some2 Ty.agg2 (ev_of rfl) (by repeat first | exact ent_cell rfl | assumption | refine Ent.there ?_)) rfl rfl (l' := [_,_,_,_,_,_,_,_,_,_,_,_,_,_,_,_,_,_,_,_,_,_,_,_,_,_,_,_,_,_,_,_,_,_,_,_,_,_,_,_,_,_,_,_,_,_]) rfl ?_
        refine d_val (y_quo rfl (ev_of rfl) (ev_of rfl) (by omega) (by omega) (by omega)) rfl rfl (l' := _) rfl ?_
        refine d_val (y_bld (zs := [_, _]) (vs := [(0, _), (1, _)]) (ps := [(0, [_]), (1, [_])]) (v := .agg #[_, _]) rfl Ty.zero46 rfl (fs_of Ty.fs46) rfl rfl (by intro q hq; simp only [List.zip_cons_cons, List.zip_nil_right, List.zip_nil_left, List.mem_cons, List.not_mem_nil, or_false] at hq; rcases hq with rfl | rfl <;> exact ⟨by kernel_rfl, by first | rfl | (simp only [cells_one (arr_one (by first | (repeat first | assumption | with_reducible exact ent_blk | with_reducible exact Ent.here arr_reads | with_reducible exact Ent.here one_I64 | with_reducible exact Ent.here one_Cell | refine Ent.there ?_); done | (repeat first | assumption | with_reducible exact ent_blk | exact Ent.here arr_reads | exact Ent.here one_I64 | exact Ent.here one_Cell | exact Ent.here one_Bool | exact Ent.here one_Rect | refine Ent.there ?_)) s17)]; first | done | rfl), by simp⟩) rfl ⟨_, rfl⟩) rfl rfl (l' := _) rfl ?_
        refine d_bs rfl rfl rfl Ty.elem35 Ty.size46 Ty.zero46 (zs := [_, _]) rfl (vs := [(0, _)]) rfl (ps := [(0, [_, _])]) rfl (by intro q hq; simp only [List.zip_cons_cons, List.zip_nil_right, List.zip_nil_left, List.mem_cons, List.not_mem_nil, or_false] at hq; rcases hq with rfl <;> exact ⟨rfl, rfl, by first | rfl | (simp only [cells_one (arr_one (by first | (repeat first | assumption | with_reducible exact ent_blk | with_reducible exact Ent.here arr_reads | with_reducible exact Ent.here one_I64 | with_reducible exact Ent.here one_Cell | refine Ent.there ?_); done | (repeat first | assumption | with_reducible exact ent_blk | exact Ent.here arr_reads | exact Ent.here one_I64 | exact Ent.here one_Cell | exact Ent.here one_Bool | exact Ent.here one_Rect | refine Ent.there ?_)) s17)]; first | done | rfl), by simp⟩) (cells := [_, _]) rfl (by decide) (fun b19 => ?_)
        refine nlD (l' := [_,_,_,_,_,_,_,_,_,_,_,_,_,_,_,_,_,_,_,_,_,_,_,_,_,_,_,_,_,_,_,_,_,_,_,_,_,_,_,_,_,_,_,_,_,_]) rfl ?_
        refine d_end (fun w21 s20 => ?_)
        clear s17
        simp only [List.append_nil, List.cons_append, List.nil_append] at s20
        refine l_append1 s20 (by repeat first | exact Take.here (Blk _ _ _) _ | apply Take.there) (by repeat first | with_reducible exact Take.here _ _ | apply Take.there) rfl rfl rfl Ty.elem35 Ty.size46 Ty.bytes46 Ty.zero46 rfl (ev_of rfl) (ev_of rfl) one_Cell (by have := selC_le W (oddP bs xs ys) i; simp only [List.length_cons, List.length_nil]; omega) (by decide) (fun v24 w23 s22 => ?_)
        clear s20
        refine nlL (l' := _) rfl ?_
        refine l_val s22 (y_as rfl (ev_of rfl)) rfl rfl (l' := _) rfl ?_
        refine l_end ?_
        refine x_blockN ?_
        refine x_thenN ?_
        refine c_region ?_
        refine l_val s22 (y_mv rfl (ev_of rfl)) rfl rfl (l' := [_,_,_,_,_,_,_,_,_,_,_,_,_,_,_,_,_,_,_,_,_,_,_,_,_,_,_,_,_,_,_,_,_,_,_,_,_,_,_,_,_,_,_,_,_,_]) rfl ?_
        refine l_val s22 (y_add rfl (ev_of rfl) (ev_of rfl) (by omega) (by omega)) rfl rfl (l' := _) rfl ?_
        refine l_val s22 (y_as rfl (ev_of rfl)) rfl rfl (l' := _) rfl ?_
        refine l_end ?_
        refine x_thenN ?_
        first | (change SL _ _ (Arr CellT 46 _ (selC W (oddP bs xs ys) i ++ [cellOf W i]) :: _) at s22; rw [show selC W (oddP bs xs ys) i ++ [cellOf W i] = selC W (oddP bs xs ys) (i + 1) from by rw [selC_succ, if_pos hp]] at s22) | rw [show selC W (oddP bs xs ys) i = selC W (oddP bs xs ys) (i + 1) from by rw [selC_succ, if_neg hp]] at s22
        refine ⟨_, [_, _, _, _, _, _, _, _, _, _, _, _, _, _, _, _, _, _, _, _, _, _, _, _, _, _, _, _, _, _, _, _, _, _, _, _, _], ?_, rfl, i + 1, _, _, _, _, _, _, _, _, _, _, _, _, _, _, _, _, _, _, _, _, _, _, _, _, _, _, _, _, _, _, _, _, _, _, _, _, rfl, rfl, ?_, ?_⟩
        · omega
        · first | exact s22 | exact s22.sub (by first | (repeat first | with_reducible exact Sub.refl _ | refine Sub.skip _ ?_); done | (repeat first | with_reducible exact Sub.refl _ | exact Sub.nil _ | refine Sub.take (by repeat first | with_reducible exact Take.here _ _ | apply Take.there) ?_ | refine Sub.skip _ ?_))
        · omega
      · (try simp only [decide_eq_true_eq, decide_eq_false_iff_not, Bool.not_eq_true', Bool.not_eq_false'] at hc1)
        have hp : ¬ (oddP bs xs ys) i = true := fun h => by rw [show (oddP bs xs ys) i = false from hc1] at h; cases h
        refine c_skip ?_
        refine x_blockN ?_
        refine x_thenN ?_
        refine c_region ?_
        refine l_val s17 (y_mv rfl (ev_of rfl)) rfl rfl (l' := [_,_,_,_,_,_,_,_,_,_,_,_,_,_,_,_,_,_,_,_,_,_,_,_,_,_,_,_,_,_,_,_,_,_,_,_,_,_,_,_,_,_,_,_,_,_]) rfl ?_
        refine l_val s17 (y_add rfl (ev_of rfl) (ev_of rfl) (by omega) (by omega)) rfl rfl (l' := _) rfl ?_
        refine l_val s17 (y_as rfl (ev_of rfl)) rfl rfl (l' := _) rfl ?_
        refine l_end ?_
        refine x_thenN ?_
        first | (change SL _ _ (Arr CellT 46 _ (selC W (oddP bs xs ys) i ++ [cellOf W i]) :: _) at s17; rw [show selC W (oddP bs xs ys) i ++ [cellOf W i] = selC W (oddP bs xs ys) (i + 1) from by rw [selC_succ, if_pos hp]] at s17) | rw [show selC W (oddP bs xs ys) i = selC W (oddP bs xs ys) (i + 1) from by rw [selC_succ, if_neg hp]] at s17
        refine ⟨_, [_, _, _, _, _, _, _, _, _, _, _, _, _, _, _, _, _, _, _, _, _, _, _, _, _, _, _, _, _, _, _, _, _, _, _, _, _], ?_, rfl, i + 1, _, _, _, _, _, _, _, _, _, _, _, _, _, _, _, _, _, _, _, _, _, _, _, _, _, _, _, _, _, _, _, _, _, _, _, _, rfl, rfl, ?_, ?_⟩
        · omega
        · first | exact s17 | exact s17.sub (by first | (repeat first | with_reducible exact Sub.refl _ | refine Sub.skip _ ?_); done | (repeat first | with_reducible exact Sub.refl _ | exact Sub.nil _ | refine Sub.take (by repeat first | with_reducible exact Take.here _ _ | apply Take.there) ?_ | refine Sub.skip _ ?_))
        · omega
    · (try simp only [decide_eq_true_eq, decide_eq_false_iff_not, Bool.not_eq_true', Bool.not_eq_false'] at hc0)
      refine c_exit ?_
      refine x_thenE ?_
      refine x_thenE ?_
      refine x_hit ?_
      refine x_thenN ?_
      refine c_seq ?_
      refine c_region ?_
      refine l_val s13 (y_mv rfl (ev_of rfl)) rfl rfl (l' := [_,_,_,_,_,_,_,_,_,_,_,_,_,_,_,_,_,_,_,_,_,_,_,_,_,_,_,_,_,_,_,_,_,_,_,_,_,_,_,_,_,_,_,_,_,_]) rfl ?_
      refine l_val s13 (y_as rfl (ev_of rfl)) rfl rfl (l' := _) rfl ?_
      refine l_end ?_
      refine x_thenN ?_
      refine c_ret ?_
      refine r1 rfl rfl ?_
      obtain rfl : i = bs.length := by omega
      exact s13.sub (by first | (repeat first | with_reducible exact Sub.refl _ | refine Sub.skip _ ?_); done | (repeat first | with_reducible exact Sub.refl _ | exact Sub.nil _ | refine Sub.take (by repeat first | with_reducible exact Take.here _ _ | apply Take.there) ?_ | refine Sub.skip _ ?_))
end Go.Proofs.Ytpchomihojidpaa
