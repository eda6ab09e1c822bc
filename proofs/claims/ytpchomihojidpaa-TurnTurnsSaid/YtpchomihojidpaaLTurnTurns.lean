/- The statement TurnTurnsSaid of the given program: for every input that its guards let in, the law returns true. No condition beyond the statement. -/
import Derived.Test.YtpchomihojidpaaRows
import Derived.Test.YtpchomihojidpaaTg
import Derived.Test.YtpchomihojidpaaSlC
import Derived.Test.YtpchomihojidpaaJ0
import Derived.WalkKit
import Derived.ProofKit
import Derived.OpenShut
import Derived.ShutString
import Derived.ChangeOld
import Derived.Below
import Derived.Carry
import Derived.SizedLaws
import Derived.Lib.SmallJoins
namespace Go.Proofs.Ytpchomihojidpaa.turnTurns
open Go.ChangeShapes Go.WideShapes Go.ChangeAt Go.RowKit Go.SL
open Go.Joins (open_agg2 open_agg4 shut_agg2 shut_agg4)
set_option linter.unusedVariables false
set_option linter.unusedSimpArgs false
theorem own : ownKnob Try.prog.godebug = none := by kernel_rfl
set_option maxHeartbeats 4000000 in
set_option maxRecDepth 100000 in
theorem lifted (os : Os) (started : os.Started) (H : Type) (enc : TypeId × Value → H) :
    ReturnsInHanded {} Try.checked os 10 .any (Rows.turnTurnsSpec.pre6 enc Try.prog Try.f10 Rows.turnTurnsRow.domain false) (Rows.turnTurnsSpec.post enc Try.prog Try.f10 false true false false) := by
  refine returnsInHanded_of_change_sized (C := Try.checked) own started (by kernel_rfl) Try.func10
    (ChangeSpec.witness6 (enc := enc) (C := Try.checked) false ⟨#[], #[.int .i64 0, .int .i64 0, .slice none 0 0, .int .i64 0], []⟩ 8 (by kernel_rfl) (by kernel_rfl) (by kernel_rfl) (by kernel_rfl)) ?_
  intro W base args ds gs before hval0 hW hcnd hsz0 _
  have hsz : (DataW.weightsEach Try.prog (Try.f10.params.toList ++ Rows.turnTurnsSpec.plain.varTypes Try.prog) (ds ++ gs)).all (· ≤ reachBytes) = true := hsz0
  have hval : ∀ (j : Nat) t v, Try.f10.params[j]? = some t → args[j]? = some v → Value.okWide Try.prog W .any base t v := hval0
  have hW' := hW
  obtain ⟨p, q, hA0, hV, rfl, hfz, hnd⟩ := hW
  have hA : DataW.TrodAll enc Try.prog W 0 (fun _ => true) true Try.f10.params.toList args.toList ds p := hA0
  rw [Try.params10] at hA hval hsz
  obtain ⟨v0, vs0, d0, ds0, p0, q0, hargs, rfl, rfl, h0, r0⟩ := trodAll_cons hA
  obtain ⟨v1, vs1, d1, ds1, p1, q1, rfl, rfl, rfl, h1, r1⟩ := trodAll_cons r0
  obtain ⟨v2, vs2, d2, ds2, p2, q2, rfl, rfl, rfl, h2, r2⟩ := trodAll_cons r1
  obtain ⟨v3, vs3, d3, ds3, p3, q3, rfl, rfl, rfl, h3, r3⟩ := trodAll_cons r2
  obtain ⟨rfl, rfl, rfl⟩ := trodAll_nil r3
  obtain rfl : args = #[v0, v1, v2, v3] := by cases args; simp_all
  obtain ⟨rfl, rfl⟩ := trodVars_none hV
  obtain ⟨a0, rfl, rfl, rfl, w0⟩ := open_int Try.underlying2 (hval 0 2 v0 rfl rfl) h0
  have I0 := wf64 w0
  obtain ⟨a1, rfl, rfl, rfl, w1⟩ := open_int Try.underlying2 (hval 1 2 v1 rfl rfl) h1
  have I1 := wf64 w1
  obtain ⟨a2, len2, cap2, rfl⟩ := okWide_slice Try.underlying22 (hval 2 22 v2 rfl rfl)
  have k2 := h2
  have lt2 : ∀ x ∈ p2, x.block < W.heap.size := by obtain ⟨m, hm⟩ := k2; exact DataW.trod_lt m _ _ _ hm
  obtain ⟨z2, w2⟩ := row_open (fun _ => rfl) Try.underlying22 Try.underlying2 (by kernel_rfl) h2
  have y2 := row_size hsz (j := 2) (t := 22) rfl rfl Try.underlying22 Try.underlying2 (by kernel_rfl) (by kernel_rfl) h2
  have E2 := rowR w2 (L := [])
  have N2 : (z2.take len2).length ≤ 20000000000000 := by rw [row_len w2]; exact y2
  have B2 := Go.SL.row_in w2
  obtain ⟨a3, rfl, rfl, rfl, w3⟩ := open_int Try.underlying3 (hval 3 3 v3 rfl rfl) h3
  have I3 := wf64 w3
  clear hA0 hval0 hsz0 hsz
  refine (row_walk (turnTurns_c (SL.start W) E2 N2)).mono fun e W' ⟨he, bel⟩ => ?_
  subst he
  exact ⟨_, rfl, _, _, _, [], _, [], hW', trodAll_mk1 (shut_bool Try.underlying4 _), (trodAll_cons_mk (shut_int Try.underlying2 w0) (trodAll_cons_mk (shut_int Try.underlying2 w1) (trodAll_cons_mk (Below.trod J0.laidOut (by kernel_rfl) (of_decide_eq_true (by kernel_rfl)) k2 bel lt2) (trodAll_cons_mk (shut_int Try.underlying3 w3) trodAll_mk0)))), rfl, bel.frame _, fun h => by cases h⟩
theorem final_ok : (Rows.turnTurnsRow.lifted == Try.prog.liftsFinal) = true := by
  rw [J0.final_ok]
  refine (show (_ : Bool) = true from ?_)
  kernel_rfl
theorem made_ok : (Try.prog.make == some Rows.turnTurnsRow.make) = true := by
  rw [J0.make_ok]
  refine (show (_ : Bool) = true from ?_)
  kernel_rfl
theorem closed : joinedFacts Try.prog 10 Try.f10 Rows.turnTurnsSpec Rows.turnTurnsRow = true :=
  J0.andT (J0.andT (J0.andT (J0.andT (J0.andT (J0.andT (J0.andT (J0.andT (J0.andT (J0.andT (J0.andT (J0.andT (J0.andT (J0.andT (J0.andT (J0.andT (J0.andT (J0.andT (J0.andT (J0.andT (J0.andT (J0.andT (J0.andT (J0.andT (J0.andT (J0.andT (J0.andT (J0.andT (J0.andT (J0.andT (J0.andT (by kernel_rfl) J0.laidOut) J0.mapsRowed_ok) (by kernel_rfl)) (by kernel_rfl)) (by kernel_rfl)) J0.stops_ok) (by kernel_rfl)) J0.knobs_ok) (by kernel_rfl)) (by kernel_rfl)) (by kernel_rfl)) (by kernel_rfl)) (by kernel_rfl)) (by kernel_rfl)) (by kernel_rfl)) (by kernel_rfl)) (by kernel_rfl)) (by kernel_rfl)) (by kernel_rfl)) (by kernel_rfl)) (by kernel_rfl)) (by kernel_rfl)) (by kernel_rfl)) J0.heard_ok) J0.enter_ok) final_ok) made_ok) (by kernel_rfl)) (by kernel_rfl)) (by kernel_rfl)) (by kernel_rfl)
theorem over : Rows.turnTurnsRow.holds Try.pinned (OpenSpec.ofChange Rows.turnTurnsSpec) :=
  OpenClaim.holds_of_wide 10 Try.f10 rfl rfl rfl rfl rfl rfl rfl ⟨rfl, rfl, rfl, rfl, rfl⟩ rfl rfl rfl rfl rfl (by kernel_rfl) Try.func10 closed
    (of_decide_eq_true (by kernel_rfl)) (by unfold Func.isWrapper; first | (rw [if_pos (by decide +kernel)]; kernel_rfl) | (rw [if_neg (by decide +kernel)]; exact ⟨rfl, rfl⟩))
    (fun os started H enc _ => lifted os started H enc)
theorem proved : Rows.TurnTurnsSaid := over
end Go.Proofs.Ytpchomihojidpaa.turnTurns
namespace Go.Proofs.Ytpchomihojidpaa
/-- The statement, whole. -/
theorem turnTurns_holds : Rows.TurnTurnsSaid := turnTurns.proved
#print axioms turnTurns_holds
end Go.Proofs.Ytpchomihojidpaa
