/- The statement MergeSizesSaid of the given program: for every input that its guards let in, the law returns true. No condition beyond the statement. -/
import Derived.Test.YtpchomihojidpaaRows
import Derived.Test.YtpchomihojidpaaMg
import Derived.Test.YtpchomihojidpaaSlC
import Derived.Test.YtpchomihojidpaaJ0
import Derived.WalkKit
import Derived.ProofKit
import Derived.OpenShut
import Derived.ShutString
import Derived.ChangeOld
import Derived.Below
import Derived.Carry
import Derived.SizedLaws
import Derived.Lib.SmallJoins
namespace Go.Proofs.Ytpchomihojidpaa.mergeSizes
open Go.ChangeShapes Go.WideShapes Go.ChangeAt Go.RowKit Go.SL
open Go.Joins (open_agg2 open_agg4 shut_agg2 shut_agg4)
set_option linter.unusedVariables false
set_option linter.unusedSimpArgs false
theorem own : ownKnob Try.prog.godebug = none := by kernel_rfl
set_option maxHeartbeats 4000000 in
set_option maxRecDepth 100000 in
theorem lifted (os : Os) (started : os.Started) (H : Type) (enc : TypeId × Value → H) :
    ReturnsInHanded {} Try.checked os 15 .any (Rows.mergeSizesSpec.pre6 enc Try.prog Try.f15 Rows.mergeSizesRow.domain false) (Rows.mergeSizesSpec.post enc Try.prog Try.f15 false true false false) := by
  refine returnsInHanded_of_change_sized (C := Try.checked) own started (by kernel_rfl) Try.func15
    (ChangeSpec.witness6 (enc := enc) (C := Try.checked) false ⟨#[], #[.int .i64 0, .int .i64 0, .slice none 0 0, .int .i64 0, .int .i64 0, .slice none 0 0, .int .i64 0], []⟩ 8 (by kernel_rfl) (by kernel_rfl) (by kernel_rfl) (by kernel_rfl)) ?_
  intro W base args ds gs before hval0 hW hcnd hsz0 _
  have hsz : (DataW.weightsEach Try.prog (Try.f15.params.toList ++ Rows.mergeSizesSpec.plain.varTypes Try.prog) (ds ++ gs)).all (· ≤ reachBytes) = true := hsz0
  have hval : ∀ (j : Nat) t v, Try.f15.params[j]? = some t → args[j]? = some v → Value.okWide Try.prog W .any base t v := hval0
  have hW' := hW
  obtain ⟨p, q, hA0, hV, rfl, hfz, hnd⟩ := hW
  have hA : DataW.TrodAll enc Try.prog W 0 (fun _ => true) true Try.f15.params.toList args.toList ds p := hA0
  rw [Try.params15] at hA hval hsz
  obtain ⟨v0, vs0, d0, ds0, p0, q0, hargs, rfl, rfl, h0, r0⟩ := trodAll_cons hA
  obtain ⟨v1, vs1, d1, ds1, p1, q1, rfl, rfl, rfl, h1, r1⟩ := trodAll_cons r0
  obtain ⟨v2, vs2, d2, ds2, p2, q2, rfl, rfl, rfl, h2, r2⟩ := trodAll_cons r1
  obtain ⟨v3, vs3, d3, ds3, p3, q3, rfl, rfl, rfl, h3, r3⟩ := trodAll_cons r2
  obtain ⟨v4, vs4, d4, ds4, p4, q4, rfl, rfl, rfl, h4, r4⟩ := trodAll_cons r3
  obtain ⟨v5, vs5, d5, ds5, p5, q5, rfl, rfl, rfl, h5, r5⟩ := trodAll_cons r4
  obtain ⟨v6, vs6, d6, ds6, p6, q6, rfl, rfl, rfl, h6, r6⟩ := trodAll_cons r5
  obtain ⟨rfl, rfl, rfl⟩ := trodAll_nil r6
  obtain rfl : args = #[v0, v1, v2, v3, v4, v5, v6] := by cases args; simp_all
  obtain ⟨rfl, rfl⟩ := trodVars_none hV
  obtain ⟨a0, rfl, rfl, rfl, w0⟩ := open_int Try.underlying2 (hval 0 2 v0 rfl rfl) h0
  have I0 := wf64 w0
  obtain ⟨a1, rfl, rfl, rfl, w1⟩ := open_int Try.underlying2 (hval 1 2 v1 rfl rfl) h1
  have I1 := wf64 w1
  obtain ⟨a2, len2, cap2, rfl⟩ := okWide_slice Try.underlying22 (hval 2 22 v2 rfl rfl)
  have k2 := h2
  have lt2 : ∀ x ∈ p2, x.block < W.heap.size := by obtain ⟨m, hm⟩ := k2; exact DataW.trod_lt m _ _ _ hm
  obtain ⟨z2, w2⟩ := row_open (fun _ => rfl) Try.underlying22 Try.underlying2 (by kernel_rfl) h2
  have y2 := row_size hsz (j := 2) (t := 22) rfl rfl Try.underlying22 Try.underlying2 (by kernel_rfl) (by kernel_rfl) h2
  have E2 := rowR w2 (L := [])
  have N2 : (z2.take len2).length ≤ 20000000000000 := by rw [row_len w2]; exact y2
  have B2 := Go.SL.row_in w2
  obtain ⟨a3, rfl, rfl, rfl, w3⟩ := open_int Try.underlying2 (hval 3 2 v3 rfl rfl) h3
  have I3 := wf64 w3
  obtain ⟨a4, rfl, rfl, rfl, w4⟩ := open_int Try.underlying2 (hval 4 2 v4 rfl rfl) h4
  have I4 := wf64 w4
  obtain ⟨a5, len5, cap5, rfl⟩ := okWide_slice Try.underlying22 (hval 5 22 v5 rfl rfl)
  have k5 := h5
  have lt5 : ∀ x ∈ p5, x.block < W.heap.size := by obtain ⟨m, hm⟩ := k5; exact DataW.trod_lt m _ _ _ hm
  obtain ⟨z5, w5⟩ := row_open (fun _ => rfl) Try.underlying22 Try.underlying2 (by kernel_rfl) h5
  have y5 := row_size hsz (j := 5) (t := 22) rfl rfl Try.underlying22 Try.underlying2 (by kernel_rfl) (by kernel_rfl) h5
  have E5 := rowR w5 (L := [])
  have N5 : (z5.take len5).length ≤ 20000000000000 := by rw [row_len w5]; exact y5
  have B5 := Go.SL.row_in w5
  obtain ⟨a6, rfl, rfl, rfl, w6⟩ := open_int Try.underlying3 (hval 6 3 v6 rfl rfl) h6
  have I6 := wf64 w6
  clear hA0 hval0 hsz0 hsz
  refine (row_walk (mergeSizes_c (SL.start W) E2 N2 E5 N5)).mono fun e W' ⟨he, bel⟩ => ?_
  subst he
  exact ⟨_, rfl, _, _, _, [], _, [], hW', trodAll_mk1 (shut_bool Try.underlying4 _), (trodAll_cons_mk (shut_int Try.underlying2 w0) (trodAll_cons_mk (shut_int Try.underlying2 w1) (trodAll_cons_mk (Below.trod J0.laidOut (by kernel_rfl) (of_decide_eq_true (by kernel_rfl)) k2 bel lt2) (trodAll_cons_mk (shut_int Try.underlying2 w3) (trodAll_cons_mk (shut_int Try.underlying2 w4) (trodAll_cons_mk (Below.trod J0.laidOut (by kernel_rfl) (of_decide_eq_true (by kernel_rfl)) k5 bel lt5) (trodAll_cons_mk (shut_int Try.underlying3 w6) trodAll_mk0))))))), rfl, bel.frame _, fun h => by cases h⟩
theorem final_ok : (Rows.mergeSizesRow.lifted == Try.prog.liftsFinal) = true := by
  rw [J0.final_ok]
  refine (show (_ : Bool) = true from ?_)
  kernel_rfl
theorem made_ok : (Try.prog.make == some Rows.mergeSizesRow.make) = true := by
  rw [J0.make_ok]
  refine (show (_ : Bool) = true from ?_)
  kernel_rfl
theorem closed : joinedFacts Try.prog 15 Try.f15 Rows.mergeSizesSpec Rows.mergeSizesRow = true :=
  J0.andT (J0.andT (J0.andT (J0.andT (J0.andT (J0.andT (J0.andT (J0.andT (J0.andT (J0.andT (J0.andT (J0.andT (J0.andT (J0.andT (J0.andT (J0.andT (J0.andT (J0.andT (J0.andT (J0.andT (J0.andT (J0.andT (J0.andT (J0.andT (J0.andT (J0.andT (J0.andT (J0.andT (J0.andT (J0.andT (J0.andT (by kernel_rfl) J0.laidOut) J0.mapsRowed_ok) (by kernel_rfl)) (by kernel_rfl)) (by kernel_rfl)) J0.stops_ok) (by kernel_rfl)) J0.knobs_ok) (by kernel_rfl)) (by kernel_rfl)) (by kernel_rfl)) (by kernel_rfl)) (by kernel_rfl)) (by kernel_rfl)) (by kernel_rfl)) (by kernel_rfl)) (by kernel_rfl)) (by kernel_rfl)) (by kernel_rfl)) (by kernel_rfl)) (by kernel_rfl)) (by kernel_rfl)) (by kernel_rfl)) J0.heard_ok) J0.enter_ok) final_ok) made_ok) (by kernel_rfl)) (by kernel_rfl)) (by kernel_rfl)) (by kernel_rfl)
theorem over : Rows.mergeSizesRow.holds Try.pinned (OpenSpec.ofChange Rows.mergeSizesSpec) :=
  OpenClaim.holds_of_wide 15 Try.f15 rfl rfl rfl rfl rfl rfl rfl ⟨rfl, rfl, rfl, rfl, rfl⟩ rfl rfl rfl rfl rfl (by kernel_rfl) Try.func15 closed
    (of_decide_eq_true (by kernel_rfl)) (by unfold Func.isWrapper; first | (rw [if_pos (by decide +kernel)]; kernel_rfl) | (rw [if_neg (by decide +kernel)]; exact ⟨rfl, rfl⟩))
    (fun os started H enc _ => lifted os started H enc)
theorem proved : Rows.MergeSizesSaid := over
end Go.Proofs.Ytpchomihojidpaa.mergeSizes
namespace Go.Proofs.Ytpchomihojidpaa
/-- The statement, whole. -/
theorem mergeSizes_holds : Rows.MergeSizesSaid := mergeSizes.proved
#print axioms mergeSizes_holds
end Go.Proofs.Ytpchomihojidpaa
