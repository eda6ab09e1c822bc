/- The merge: what three grids have. -/
import Derived.Test.YtpchomihojidpaaTy
import Derived.Test.YtpchomihojidpaaSlC
import Derived.Test.YtpchomihojidpaaGh
import Derived.Test.YtpchomihojidpaaSlD
import Derived.Test.YtpchomihojidpaaEqr
import Derived.KernelRfl
namespace Go.Proofs.Ytpchomihojidpaa
open Go.SL
theorem TyMa.agg28 : aggB Try.prog 28 = false := by kernel_rfl
theorem TyMa.bytes22 : bytesB Try.prog 22 = some 24 := by kernel_rfl
theorem TyMa.elem285 : elemB Try.prog 285 = some 22 := by kernel_rfl
theorem TyMa.elem342 : elemB Try.prog 342 = some 28 := by kernel_rfl
theorem TyMa.size28 : sizeB Try.prog 28 = some 1 := by kernel_rfl
theorem TyMa.some28 : someU Try.prog 28 = true := by kernel_rfl
theorem TyMa.zero22 : zeroB Try.prog 22 = some (.slice none 0 0) := by kernel_rfl
set_option linter.unusedVariables false
set_option linter.unusedSimpArgs false
attribute [local irreducible] wpList WD WP Region.wanted Code.wp
structure GD where
  b : Nat
  W : Nat
  H : Nat
  vs : List Int
abbrev gP (o : Option GD) : Option Addr := o.map fun g => ⟨g.b, 0, none⟩
def gV (gs : List (Option GD)) (k : Nat) : List Int := match gs.getD k none with
  | some g => g.vs
  | none => []
/-- the grids that are there -/
def Grs (L : List Asn) (gs : List (Option GD)) : Prop := ∀ (k : Nat) (g : GD), gs[k]? = some (some g) → Has L (GridA g.b g.W g.H g.vs)
abbrev valA (gs : List (Option GD)) (us : List SlV) (k : Nat) : Asn := Arr I64 2 (us.getD k SliT.d).val (gV gs k)
def ValsA (gs : List (Option GD)) (us : List SlV) (n : Nat) : Asn := Box ((List.range n).map (valA gs us))
theorem Has.of_app {L M : List Asn} {A : Asn} (h : Has L A) : Has (M ++ L) A := Has.app h M
theorem gP_get {gs : List (Option GD)} {k : Nat} (h : k < gs.length) : (gs.map gP).getD k none = gP (gs.getD k none) := by
  simp [List.getD_eq_getElem?_getD, h]
theorem gs_get {gs : List (Option GD)} {k : Nat} (h : k < gs.length) : gs[k]? = some (gs.getD k none) := by
  simp [List.getD_eq_getElem?_getD, h]
theorem range_snoc' {α : Type} (g : Nat → α) (n : Nat) : (List.range n).map g ++ [g n] = (List.range (n + 1)).map g := by
  simp [List.range_succ]
theorem vals_join {e : Env} {w : World} {L : List Asn} {v : Value} {us : List SlV} {x : SlV} {gs : List (Option GD)} {g : GD} {k : Nat} (hk : us.length = k) (hg : gs.getD k none = some g)
    (s : SL e w (Arr SliT 22 v (us ++ [x]) :: Arr I64 2 x.val g.vs :: ValsA gs us k :: L)) : SL e w (Arr SliT 22 v (us ++ [x]) :: ValsA gs (us ++ [x]) (k + 1) :: L) := by
  have s2 : SL e w (Arr I64 2 x.val g.vs :: Box ((List.range k).map (valA gs us)) :: Arr SliT 22 v (us ++ [x]) :: L) := s.perm ((List.Perm.swap _ _ _).trans (List.Perm.cons _ (List.Perm.swap _ _ _)))
  have s3 := s2.boxSnoc.swap
  have hm : (List.range k).map (valA gs us) = (List.range k).map (valA gs (us ++ [x])) := by
    apply List.map_congr_left
    intro j hj
    have hj := List.mem_range.1 hj
    simp only [valA, List.getD_eq_getElem?_getD, List.getElem?_append_left (show j < us.length by omega)]
  have he : Arr I64 2 x.val g.vs = valA gs (us ++ [x]) k := by
    simp only [valA, gV, hg]
    rw [List.getD_eq_getElem?_getD, List.getElem?_append_right (by omega), hk, Nat.sub_self]; rfl
  rw [hm, he, range_snoc'] at s3
  exact s3
set_option maxHeartbeats 4000000 in
set_option maxRecDepth 100000 in
/-- hachure/merge.three -/
theorem three_c {e : Env} {L : List Asn} {w : World} {v : Value} {gs : List (Option GD)} (s : SL e w L) (hv : Ent L (SlR PtrT v (gs.map gP))) (hg : Grs L gs) (h1 : 1 ≤ gs.length) (h2 : gs.length ≤ 1000) :
    Calls Try.prog 206 #[v] w (Rets fun r w' => ((∃ k, k < gs.length ∧ gs.getD k none = none) ∧ r = .tuple #[.slice none 0 0, .int .i64 1] ∧ SL e w' L) ∨ ((∀ k, k < gs.length → ∃ g, gs.getD k none = some g) ∧ (((∃ k g g0, k < gs.length ∧ gs.getD k none = some g ∧ gs.getD 0 none = some g0 ∧ ¬ (g.W = g0.W ∧ g.H = g0.H)) ∧ r = .tuple #[.slice none 0 0, .int .i64 3] ∧ SL e w' L) ∨ ((∀ k g g0, k < gs.length → gs.getD k none = some g → gs.getD 0 none = some g0 → g.W = g0.W ∧ g.H = g0.H) ∧ ∃ z us, us.length = gs.length ∧ r = .tuple #[z, .int .i64 0] ∧ SL e w' (Arr SliT 22 z us :: ValsA gs us gs.length :: L))))) := by
  have hml : (gs.map gP).length = gs.length := List.length_map ..
  refine enter Try.func206 rfl (l := [v, undef, undef, undef, undef, undef, undef, undef, undef, undef, undef, undef, undef, undef, undef, undef, undef, undef, undef, undef, undef, undef, undef, undef, undef, undef, undef, undef, undef, undef, undef, undef, undef, undef, undef, undef, undef, undef, undef, undef, undef, undef, undef, undef, undef, undef]) rfl ?_
  refine c_seq ?_
  refine c_region ?_
  refine l_val s (y_as rfl (ev_of rfl)) rfl rfl (l' := _) rfl ?_
  refine l_val s (y_as rfl (ev_of rfl)) rfl rfl (l' := [_,_,_,_,_,_,_,_,_,_,_,_,_,_,_,_,_,_,_,_,_,_,_,_,_,_,_,_,_,_,_,_,_,_,_,_,_,_,_,_,_,_,_,_,_,_]) rfl ?_
  refine l_end ?_
  refine x_thenN ?_
  refine c_seq ?_
  refine c_region ?_
  refine l_val s (y_as rfl (ev_of rfl)) rfl rfl (l' := _) rfl ?_
  refine l_end ?_
  refine x_thenN ?_
  refine c_seq ?_
  refine c_seq ?_
  refine c_region ?_
  refine l_val s (y_mv rfl (ev_of rfl)) rfl rfl (l' := [_,_,_,_,_,_,_,_,_,_,_,_,_,_,_,_,_,_,_,_,_,_,_,_,_,_,_,_,_,_,_,_,_,_,_,_,_,_,_,_,_,_,_,_,_,_]) rfl ?_
  refine l_val s (y_len rfl rfl TyMa.elem342 (ev_of rfl) (by repeat first | assumption | with_reducible exact ent_blk | exact Ent.here arr_reads | exact Ent.here one_I64 | exact Ent.here one_Cell | exact Ent.here one_Bool | exact Ent.here one_Rect | refine Ent.there ?_)) rfl rfl (l' := _) rfl ?_
  refine l_val s (y_mv rfl (ev_of rfl)) rfl rfl (l' := [_,_,_,_,_,_,_,_,_,_,_,_,_,_,_,_,_,_,_,_,_,_,_,_,_,_,_,_,_,_,_,_,_,_,_,_,_,_,_,_,_,_,_,_,_,_]) rfl ?_
  refine l_end ?_
  refine x_thenN ?_
  refine c_block ?_
  replace s := s.nilBox.nilArr SliT 22
  refine c_loop [false, false, true, true, true, false, true, true, true, false, false, false, false, true, true, true, true, true, true, true, true, true, true, true, true, true, true, true, true, true, true, false, false, false, false, false, false, false, false, false, false, false, false, false, false, false] (fun mu ds w => ∃ (i : Nat) (z : Value) (us : List SlV) (d2 d3 d6 d7 d8 d14 d15 d16 d17 d18 d19 d20 d21 d22 d23 d24 d25 d26 d27 d28 d29 d30 : Value), ds = [d2, d3, (z), d6, d7, d8, (.int .i64 (i : Int)), d14, d15, d16, d17, d18, d19, d20, d21, d22, d23, d24, d25, d26, d27, d28, d29, d30] ∧ mu = gs.length - i ∧ SL e w (Arr SliT 22 z us :: ValsA gs us i :: L) ∧ (i ≤ gs.length ∧ us.length = i ∧ ∀ k, k < i → ∃ g, gs.getD k none = some g)) (ds := [_, _, _, _, _, _, _, _, _, _, _, _, _, _, _, _, _, _, _, _, _, _, _, _]) rfl ⟨0, _, [], _, _, _, _, _, _, _, _, _, _, _, _, _, _, _, _, _, _, _, _, _, _, rfl, rfl, ?_, ?_⟩ ?_
  · first | exact s | exact s.sub (by repeat first | with_reducible exact Sub.refl _ | exact Sub.nil _ | refine Sub.take (by repeat first | with_reducible exact Take.here _ _ | apply Take.there) ?_ | refine Sub.skip _ ?_)
  · exact ⟨by omega, rfl, fun k h => by omega⟩
  · clear s
    rintro n3 ds4 w2 ⟨i, z, us, d2, d3, d6, d7, d8, d14, d15, d16, d17, d18, d19, d20, d21, d22, d23, d24, d25, d26, d27, d28, d29, d30, rfl, rfl, s1, hI⟩
    refine nlC (l' := [_,_,_,_,_,_,_,_,_,_,_,_,_,_,_,_,_,_,_,_,_,_,_,_,_,_,_,_,_,_,_,_,_,_,_,_,_,_,_,_,_,_,_,_,_,_]) rfl ?_
    refine c_seq ?_
    refine c_region ?_
    refine l_val s1 (y_lss rfl (ev_of rfl) (ev_of rfl)) rfl rfl (l' := [_,_,_,_,_,_,_,_,_,_,_,_,_,_,_,_,_,_,_,_,_,_,_,_,_,_,_,_,_,_,_,_,_,_,_,_,_,_,_,_,_,_,_,_,_,_]) rfl ?_
    refine l_end ?_
    refine x_thenN ?_
    refine c_seq ?_
    refine c_if rfl (fun hc0 => ?_) (fun hc0 => ?_)
    · (try simp only [decide_eq_true_eq, decide_eq_false_iff_not, Bool.not_eq_true', Bool.not_eq_false'] at hc0)
      refine c_skip ?_
      refine x_thenN ?_
      refine c_seq ?_
      refine c_block ?_
      refine c_seq ?_
      refine c_region ?_
      refine l_val s1 (y_idx (c := PtrT) (n := i) rfl TyMa.elem342 TyMa.size28 (ev_of rfl) (ev_of rfl) (by repeat first | assumption | with_reducible exact ent_blk | exact Ent.here arr_reads | exact Ent.here one_I64 | exact Ent.here one_Cell | exact Ent.here one_Bool | exact Ent.here one_Rect | refine Ent.there ?_) rfl (by simp only [List.length_map]; omega)) rfl rfl (l' := _) rfl ?_
      refine l_val s1 (y_ld (c := PtrT) (n := i) rfl TyMa.some28 TyMa.agg28 (ev_of rfl) (by repeat first | assumption | with_reducible exact ent_blk | exact Ent.here arr_reads | exact Ent.here one_I64 | exact Ent.here one_Cell | exact Ent.here one_Bool | exact Ent.here one_Rect | refine Ent.there ?_) (by simp only [List.length_map]; omega) (u := .pointer (gP (gs.getD i none))) (congrArg (fun x => [Value.pointer x]) (gP_get (by omega)))) rfl rfl (l' := [_,_,_,_,_,_,_,_,_,_,_,_,_,_,_,_,_,_,_,_,_,_,_,_,_,_,_,_,_,_,_,_,_,_,_,_,_,_,_,_,_,_,_,_,_,_]) rfl ?_
      refine l_val s1 (y_as rfl (ev_of rfl)) rfl rfl (l' := _) rfl ?_
      refine l_end ?_
      refine x_thenN ?_
      refine c_seq ?_
      refine c_seq ?_
      refine c_region ?_
      refine l_val s1 (y_mv rfl (ev_of rfl)) rfl rfl (l' := [_,_,_,_,_,_,_,_,_,_,_,_,_,_,_,_,_,_,_,_,_,_,_,_,_,_,_,_,_,_,_,_,_,_,_,_,_,_,_,_,_,_,_,_,_,_]) rfl ?_
      refine l_val s1 (y_peqnil rfl Ty.ptr28 (ev_of rfl) (ev_of rfl)) rfl rfl (l' := _) rfl ?_
      refine l_end ?_
      refine x_thenN ?_
      refine c_if rfl (fun hc1 => ?_) (fun hc1 => ?_)
      · (try simp only [Option.isNone_iff_eq_none, Option.isNone_eq_false_iff] at hc1)
        have hno : gs.getD i none = none := by cases hq : gs.getD i none <;> simp_all
        refine c_seq ?_
        refine c_region ?_
        refine l_val s1 (y_as rfl (ev_of rfl)) rfl rfl (l' := [_,_,_,_,_,_,_,_,_,_,_,_,_,_,_,_,_,_,_,_,_,_,_,_,_,_,_,_,_,_,_,_,_,_,_,_,_,_,_,_,_,_,_,_,_,_]) rfl ?_
        refine l_val s1 (y_as rfl (ev_of rfl)) rfl rfl (l' := _) rfl ?_
        refine l_end ?_
        refine x_thenN ?_
        refine c_ret ?_
        refine x_thenR ?_
        refine x_blockR ?_
        refine x_thenR ?_
        refine x_thenR ?_
        refine x_blockR ?_
        refine x_thenR ?_
        refine r2 rfl rfl rfl ?_
        exact .inl ⟨⟨i, by omega, hno⟩, rfl, s1.sub (by repeat first | with_reducible exact Sub.refl _ | exact Sub.nil _ | refine Sub.take (by repeat first | with_reducible exact Take.here _ _ | apply Take.there) ?_ | refine Sub.skip _ ?_)⟩
      · (try simp only [Option.isNone_iff_eq_none, Option.isNone_eq_false_iff] at hc1)
        obtain ⟨g, hgk⟩ : ∃ g, gs.getD i none = some g := by cases hq : gs.getD i none <;> simp_all
        rw [show Value.pointer (gP (gs.getD i none)) = ptr g.b 0 from by rw [hgk]; rfl]
        have hhg := hg i g (by rw [gs_get (by omega), hgk])
        refine c_skip ?_
        refine x_thenN ?_
        refine c_seq ?_
        refine c_region ?_
        refine l_val s1 (y_mv rfl (ev_of rfl)) rfl rfl (l' := [_,_,_,_,_,_,_,_,_,_,_,_,_,_,_,_,_,_,_,_,_,_,_,_,_,_,_,_,_,_,_,_,_,_,_,_,_,_,_,_,_,_,_,_,_,_]) rfl ?_
        refine l_val s1 (y_mv rfl (ev_of rfl)) rfl rfl (l' := _) rfl ?_
        refine l_callL rfl rfl rfl Fn.call85 (vs := [_]) rfl (gall_c s1 (by repeat first | exact hhg | apply Has.there)) ?_
        rintro _ w6 ⟨rfl, s5⟩
        clear s1
        refine nlL (l' := [_,_,_,_,_,_,_,_,_,_,_,_,_,_,_,_,_,_,_,_,_,_,_,_,_,_,_,_,_,_,_,_,_,_,_,_,_,_,_,_,_,_,_,_,_,_]) rfl ?_
        refine l_callL rfl rfl rfl Fn.call84 (vs := [_, _]) rfl (gvals_c s5 (by repeat first | exact hhg | apply Has.there)) ?_
        rintro _ w8 ⟨u, rfl, s7⟩
        clear s5
        refine nlL (l' := _) rfl ?_
        refine l_val s7 (y_mv rfl (ev_of rfl)) rfl rfl (l' := [_,_,_,_,_,_,_,_,_,_,_,_,_,_,_,_,_,_,_,_,_,_,_,_,_,_,_,_,_,_,_,_,_,_,_,_,_,_,_,_,_,_,_,_,_,_]) rfl ?_
        refine l_val s7 (y_extract rfl (ev_of rfl) rfl) rfl rfl (l' := _) rfl ?_
        refine l_val s7 (y_extract rfl (ev_of rfl) rfl) rfl rfl (l' := [_,_,_,_,_,_,_,_,_,_,_,_,_,_,_,_,_,_,_,_,_,_,_,_,_,_,_,_,_,_,_,_,_,_,_,_,_,_,_,_,_,_,_,_,_,_]) rfl ?_
        refine l_val s7 (y_as rfl (ev_of rfl)) rfl rfl (l' := _) rfl ?_
        refine l_val s7 (y_as rfl (ev_of rfl)) rfl rfl (l' := [_,_,_,_,_,_,_,_,_,_,_,_,_,_,_,_,_,_,_,_,_,_,_,_,_,_,_,_,_,_,_,_,_,_,_,_,_,_,_,_,_,_,_,_,_,_]) rfl ?_
        refine l_end ?_
        refine x_thenN ?_
        refine c_region ?_
        obtain ⟨x, hx, hxn⟩ := arr_val s7
        subst hx
        refine l_val s7 (y_mv rfl (ev_of rfl)) rfl rfl (l' := _) rfl ?_
        refine l_val s7 (y_mv rfl (ev_of rfl)) rfl rfl (l' := [_,_,_,_,_,_,_,_,_,_,_,_,_,_,_,_,_,_,_,_,_,_,_,_,_,_,_,_,_,_,_,_,_,_,_,_,_,_,_,_,_,_,_,_,_,_]) rfl ?_
        refine l_bs s7 rfl rfl rfl TyMa.elem285 Ty.size22 TyMa.zero22 (zs := [_]) rfl (vs := [(0, _)]) rfl (ps := [(0, [_])]) rfl (by intro q hq; simp only [List.zip_cons_cons, List.zip_nil_right, List.zip_nil_left, List.mem_cons, List.not_mem_nil, or_false] at hq; rcases hq with rfl <;> exact ⟨rfl, rfl, by first | rfl | (simp only [cells_one (arr_one (by repeat first | assumption | with_reducible exact ent_blk | exact Ent.here arr_reads | exact Ent.here one_I64 | exact Ent.here one_Cell | exact Ent.here one_Bool | exact Ent.here one_Rect | refine Ent.there ?_) s7)]; first | done | rfl), by simp⟩) (cells := [_]) rfl (by decide) (fun b11 w10 s9 => ?_)
        clear s7
        refine nlL (l' := _) rfl ?_
        refine l_append1 s9 (by repeat first | exact Take.here (Blk _ _ _) _ | apply Take.there) (by repeat first | with_reducible exact Take.here _ _ | apply Take.there) rfl rfl rfl TyMa.elem285 Ty.size22 TyMa.bytes22 TyMa.zero22 rfl (ev_of rfl) (ev_of rfl) one_Sli (by simp only [List.length_cons, List.length_nil]; omega) (by decide) (fun v14 w13 s12 => ?_)
        clear s9
        refine nlL (l' := [_,_,_,_,_,_,_,_,_,_,_,_,_,_,_,_,_,_,_,_,_,_,_,_,_,_,_,_,_,_,_,_,_,_,_,_,_,_,_,_,_,_,_,_,_,_]) rfl ?_
        refine l_val s12 (y_as rfl (ev_of rfl)) rfl rfl (l' := _) rfl ?_
        refine l_end ?_
        refine x_blockN ?_
        refine x_thenN ?_
        refine c_region ?_
        refine l_val s12 (y_add rfl (ev_of rfl) (ev_of rfl) (by omega) (by omega)) rfl rfl (l' := [_,_,_,_,_,_,_,_,_,_,_,_,_,_,_,_,_,_,_,_,_,_,_,_,_,_,_,_,_,_,_,_,_,_,_,_,_,_,_,_,_,_,_,_,_,_]) rfl ?_
        refine l_val s12 (y_mv rfl (ev_of rfl)) rfl rfl (l' := _) rfl ?_
        refine l_end ?_
        refine x_thenN ?_
        replace s12 := vals_join hI.2.1 hgk s12
        refine ⟨_, [_, _, _, _, _, _, _, _, _, _, _, _, _, _, _, _, _, _, _, _, _, _, _, _], ?_, rfl, i + 1, _, us ++ [x], _, _, _, _, _, _, _, _, _, _, _, _, _, _, _, _, _, _, _, _, _, _, rfl, rfl, ?_, ?_⟩
        · omega
        · first | exact s12 | exact s12.sub (by repeat first | with_reducible exact Sub.refl _ | exact Sub.nil _ | refine Sub.take (by repeat first | with_reducible exact Take.here _ _ | apply Take.there) ?_ | refine Sub.skip _ ?_)
        · exact ⟨by omega, by simp [hI.2.1], fun k hk => (Nat.lt_or_ge k i).elim (fun h => hI.2.2 k h) (fun h => by have e : k = i := (by omega); rw [e]; exact ⟨g, hgk⟩)⟩
    · (try simp only [decide_eq_true_eq, decide_eq_false_iff_not, Bool.not_eq_true', Bool.not_eq_false'] at hc0)
      refine c_exit ?_
      refine x_thenE ?_
      refine x_thenE ?_
      refine x_hit ?_
      refine x_thenN ?_
      refine c_seq ?_
      refine c_seq ?_
      refine c_region ?_
      obtain rfl : i = gs.length := by omega
      refine l_val s1 (y_mv rfl (ev_of rfl)) rfl rfl (l' := [_,_,_,_,_,_,_,_,_,_,_,_,_,_,_,_,_,_,_,_,_,_,_,_,_,_,_,_,_,_,_,_,_,_,_,_,_,_,_,_,_,_,_,_,_,_]) rfl ?_
      refine l_val s1 (y_len (c := PtrT) (xs := gs.map gP) rfl rfl TyMa.elem342 (ev_of rfl) (by repeat first | assumption | with_reducible exact ent_blk | exact Ent.here arr_reads | exact Ent.here one_I64 | exact Ent.here one_Cell | exact Ent.here one_Bool | exact Ent.here one_Rect | refine Ent.there ?_)) rfl rfl (l' := _) rfl ?_
      refine l_val s1 (y_mv rfl (ev_of rfl)) rfl rfl (l' := [_,_,_,_,_,_,_,_,_,_,_,_,_,_,_,_,_,_,_,_,_,_,_,_,_,_,_,_,_,_,_,_,_,_,_,_,_,_,_,_,_,_,_,_,_,_]) rfl ?_
      refine l_end ?_
      refine x_thenN ?_
      refine c_block ?_
      refine c_loop [false, false, true, true, false, false, false, false, false, false, true, false, false, false, false, false, false, false, false, false, false, false, false, false, false, false, false, false, false, false, false, false, false, true, true, true, true, true, true, true, true, true, true, true, true, false] (fun mu ds w => ∃ (i : Nat) (d2 d3 d10 d34 d35 d36 d37 d38 d39 d40 d41 d42 d43 d44 : Value), ds = [d2, d3, d10, (.int .i64 (i : Int)), d34, d35, d36, d37, d38, d39, d40, d41, d42, d43, d44] ∧ mu = gs.length - i ∧ SL e w (Arr SliT 22 z us :: ValsA gs us gs.length :: L) ∧ (i ≤ gs.length ∧ ∀ k g g0, k < i → gs.getD k none = some g → gs.getD 0 none = some g0 → g.W = g0.W ∧ g.H = g0.H)) (ds := [_, _, _, _, _, _, _, _, _, _, _, _, _, _, _]) rfl ⟨0, _, _, _, _, _, _, _, _, _, _, _, _, _, _, rfl, rfl, ?_, ?_⟩ ?_
      · first | exact s1 | exact s1.sub (by repeat first | with_reducible exact Sub.refl _ | exact Sub.nil _ | refine Sub.take (by repeat first | with_reducible exact Take.here _ _ | apply Take.there) ?_ | refine Sub.skip _ ?_)
      · exact ⟨by omega, fun k g g0 h => by omega⟩
      · clear s1
        rintro n17 ds18 w16 ⟨i, d2, d3, d10, d34, d35, d36, d37, d38, d39, d40, d41, d42, d43, d44, rfl, rfl, s15, hJ⟩
        refine nlC (l' := [_,_,_,_,_,_,_,_,_,_,_,_,_,_,_,_,_,_,_,_,_,_,_,_,_,_,_,_,_,_,_,_,_,_,_,_,_,_,_,_,_,_,_,_,_,_]) rfl ?_
        refine c_seq ?_
        refine c_region ?_
        refine l_val s15 (y_lss rfl (ev_of rfl) (ev_of rfl)) rfl rfl (l' := [_,_,_,_,_,_,_,_,_,_,_,_,_,_,_,_,_,_,_,_,_,_,_,_,_,_,_,_,_,_,_,_,_,_,_,_,_,_,_,_,_,_,_,_,_,_]) rfl ?_
        refine l_end ?_
        refine x_thenN ?_
        refine c_seq ?_
        refine c_if rfl (fun hc2 => ?_) (fun hc2 => ?_)
        · (try simp only [decide_eq_true_eq, decide_eq_false_iff_not, Bool.not_eq_true', Bool.not_eq_false'] at hc2)
          refine c_skip ?_
          refine x_thenN ?_
          refine c_seq ?_
          refine c_block ?_
          refine c_seq ?_
          refine c_region ?_
          obtain ⟨g, hgk⟩ := hI.2.2 i (by omega)
          obtain ⟨g0, hg0⟩ := hI.2.2 0 (by omega)
          have hhg := hg i g (by rw [gs_get (by omega), hgk])
          have hhg0 := hg 0 g0 (by rw [gs_get (by omega), hg0])
          refine l_val s15 (y_idx (c := PtrT) (n := i) rfl TyMa.elem342 TyMa.size28 (ev_of rfl) (ev_of rfl) (by repeat first | assumption | with_reducible exact ent_blk | exact Ent.here arr_reads | exact Ent.here one_I64 | exact Ent.here one_Cell | exact Ent.here one_Bool | exact Ent.here one_Rect | refine Ent.there ?_) rfl (by simp only [List.length_map]; omega)) rfl rfl (l' := _) rfl ?_
          refine l_val s15 (y_ld (c := PtrT) (n := i) rfl TyMa.some28 TyMa.agg28 (ev_of rfl) (by repeat first | assumption | with_reducible exact ent_blk | exact Ent.here arr_reads | exact Ent.here one_I64 | exact Ent.here one_Cell | exact Ent.here one_Bool | exact Ent.here one_Rect | refine Ent.there ?_) (by simp only [List.length_map]; omega) (u := ptr g.b 0) (congrArg (fun x => [Value.pointer x]) ((gP_get (by omega)).trans (congrArg gP hgk)))) rfl rfl (l' := [_,_,_,_,_,_,_,_,_,_,_,_,_,_,_,_,_,_,_,_,_,_,_,_,_,_,_,_,_,_,_,_,_,_,_,_,_,_,_,_,_,_,_,_,_,_]) rfl ?_
          refine l_val s15 (y_as rfl (ev_of rfl)) rfl rfl (l' := _) rfl ?_
          refine l_end ?_
          refine x_thenN ?_
          refine c_seq ?_
          apply c_drawn [] [0, 1, 2, 3, 4, 5, 6] [] [] [] [(_, vq _), (_, vq _), (_, vq _), (_, vq _), (_, vq _), (_, vq _), (_, vq _)] s15 Ty.follows (by kernel_rfl) (fun _ _ _ h => h.2) rfl rfl rfl (by decide) ?_
          show WP _ _ _ _ _
          refine p_end ?_
          refine d_val (y_mv rfl (ev_of rfl)) rfl rfl (l' := [_,_,_,_,_,_,_,_,_,_,_,_,_,_,_,_,_,_,_,_,_,_,_,_,_,_,_,_,_,_,_,_,_,_,_,_,_,_,_,_,_,_,_,_,_,_]) rfl ?_
          refine d_callL rfl rfl rfl Fn.call85 (vs := [_]) rfl (fun w M s => gall_c s (Has.app (by repeat first | exact hhg | apply Has.there) _)) (l' := _) rfl ?_
          refine d_val (y_mv rfl (ev_of rfl)) rfl rfl (l' := [_,_,_,_,_,_,_,_,_,_,_,_,_,_,_,_,_,_,_,_,_,_,_,_,_,_,_,_,_,_,_,_,_,_,_,_,_,_,_,_,_,_,_,_,_,_]) rfl ?_
          refine d_val (y_idx (c := PtrT) (n := 0) rfl TyMa.elem342 TyMa.size28 (ev_of rfl) (ev_of rfl) (by repeat first | assumption | with_reducible exact ent_blk | exact Ent.here arr_reads | exact Ent.here one_I64 | exact Ent.here one_Cell | exact Ent.here one_Bool | exact Ent.here one_Rect | refine Ent.there ?_) rfl (by simp only [List.length_map]; omega)) rfl rfl (l' := _) rfl ?_
          refine d_val (y_ld (c := PtrT) (n := 0) rfl TyMa.some28 TyMa.agg28 (ev_of rfl) (by repeat first | assumption | with_reducible exact ent_blk | exact Ent.here arr_reads | exact Ent.here one_I64 | exact Ent.here one_Cell | exact Ent.here one_Bool | exact Ent.here one_Rect | refine Ent.there ?_) (by simp only [List.length_map]; omega) (u := ptr g0.b 0) (congrArg (fun x => [Value.pointer x]) ((gP_get (by omega)).trans (congrArg gP hg0)))) rfl rfl (l' := [_,_,_,_,_,_,_,_,_,_,_,_,_,_,_,_,_,_,_,_,_,_,_,_,_,_,_,_,_,_,_,_,_,_,_,_,_,_,_,_,_,_,_,_,_,_]) rfl ?_
          refine d_callL rfl rfl rfl Fn.call85 (vs := [_]) rfl (fun w M s => gall_c s (Has.app (by repeat first | exact hhg0 | apply Has.there) _)) (l' := _) rfl ?_
          refine d_val (y_neF rfl (ev_of rfl) (ev_of rfl) eqg58 eqt58 eqp58 (fun w => eqRect _ _ _ _ _ _ _ _ w)) rfl rfl (l' := [_,_,_,_,_,_,_,_,_,_,_,_,_,_,_,_,_,_,_,_,_,_,_,_,_,_,_,_,_,_,_,_,_,_,_,_,_,_,_,_,_,_,_,_,_,_]) rfl ?_
          refine d_end (fun w20 s19 => ?_)
          clear s15
          simp only [List.append_nil, List.cons_append, List.nil_append] at s19
          refine l_end ?_
          refine x_thenN ?_
          refine c_if rfl (fun hc3 => ?_) (fun hc3 => ?_)
          · (try simp only [decide_eq_true_eq, decide_eq_false_iff_not, Bool.not_eq_true', Bool.not_eq_false'] at hc3)
            have hdiff : ¬ (g.W = g0.W ∧ g.H = g0.H) := fun h => by rw [h.1, h.2] at hc3; simp at hc3
            refine c_seq ?_
            refine c_region ?_
            refine l_val s19 (y_as rfl (ev_of rfl)) rfl rfl (l' := _) rfl ?_
            refine l_val s19 (y_as rfl (ev_of rfl)) rfl rfl (l' := [_,_,_,_,_,_,_,_,_,_,_,_,_,_,_,_,_,_,_,_,_,_,_,_,_,_,_,_,_,_,_,_,_,_,_,_,_,_,_,_,_,_,_,_,_,_]) rfl ?_
            refine l_end ?_
            refine x_thenN ?_
            refine c_ret ?_
            refine x_blockR ?_
            refine x_thenR ?_
            refine x_thenR ?_
            refine x_blockR ?_
            refine x_thenR ?_
            refine r2 rfl rfl rfl ?_
            exact .inr ⟨hI.2.2, .inl ⟨⟨i, g, g0, by omega, hgk, hg0, hdiff⟩, rfl, s19.sub (by repeat first | with_reducible exact Sub.refl _ | exact Sub.nil _ | refine Sub.take (by repeat first | with_reducible exact Take.here _ _ | apply Take.there) ?_ | refine Sub.skip _ ?_)⟩⟩
          · (try simp only [decide_eq_true_eq, decide_eq_false_iff_not, Bool.not_eq_true', Bool.not_eq_false'] at hc3)
            have hsame : g.W = g0.W ∧ g.H = g0.H := by simp at hc3; omega
            refine c_skip ?_
            refine x_blockN ?_
            refine x_thenN ?_
            refine c_region ?_
            refine l_val s19 (y_add rfl (ev_of rfl) (ev_of rfl) (by omega) (by omega)) rfl rfl (l' := _) rfl ?_
            refine l_val s19 (y_mv rfl (ev_of rfl)) rfl rfl (l' := [_,_,_,_,_,_,_,_,_,_,_,_,_,_,_,_,_,_,_,_,_,_,_,_,_,_,_,_,_,_,_,_,_,_,_,_,_,_,_,_,_,_,_,_,_,_]) rfl ?_
            refine l_end ?_
            refine x_thenN ?_
            refine ⟨_, [_, _, _, _, _, _, _, _, _, _, _, _, _, _, _], ?_, rfl, i + 1, _, _, _, _, _, _, _, _, _, _, _, _, _, _, rfl, rfl, ?_, ?_⟩
            · omega
            · first | exact s19 | exact s19.sub (by repeat first | with_reducible exact Sub.refl _ | exact Sub.nil _ | refine Sub.take (by repeat first | with_reducible exact Take.here _ _ | apply Take.there) ?_ | refine Sub.skip _ ?_)
            · exact ⟨by omega, fun k g1 g2 hk e1 e2 => (Nat.lt_or_ge k i).elim (fun h => hJ.2 k g1 g2 h e1 e2) (fun h => by have e : k = i := (by omega); subst e; rw [hgk] at e1; rw [hg0] at e2; cases e1; cases e2; exact hsame)⟩
        · (try simp only [decide_eq_true_eq, decide_eq_false_iff_not, Bool.not_eq_true', Bool.not_eq_false'] at hc2)
          refine c_exit ?_
          refine x_thenE ?_
          refine x_thenE ?_
          refine x_hit ?_
          refine x_thenN ?_
          refine c_seq ?_
          refine c_region ?_
          refine l_val s15 (y_mv rfl (ev_of rfl)) rfl rfl (l' := _) rfl ?_
          refine l_val s15 (y_as rfl (ev_of rfl)) rfl rfl (l' := [_,_,_,_,_,_,_,_,_,_,_,_,_,_,_,_,_,_,_,_,_,_,_,_,_,_,_,_,_,_,_,_,_,_,_,_,_,_,_,_,_,_,_,_,_,_]) rfl ?_
          refine l_val s15 (y_as rfl (ev_of rfl)) rfl rfl (l' := _) rfl ?_
          refine l_end ?_
          refine x_thenN ?_
          refine c_ret ?_
          refine r2 rfl rfl rfl ?_
          obtain rfl : i = gs.length := by omega
          exact .inr ⟨hI.2.2, .inr ⟨fun k g1 g2 hk => hJ.2 k g1 g2 hk, z, us, hI.2.1, rfl, s15.sub (by repeat first | with_reducible exact Sub.refl _ | exact Sub.nil _ | refine Sub.take (by repeat first | with_reducible exact Take.here _ _ | apply Take.there) ?_ | refine Sub.skip _ ?_)⟩⟩
end Go.Proofs.Ytpchomihojidpaa
