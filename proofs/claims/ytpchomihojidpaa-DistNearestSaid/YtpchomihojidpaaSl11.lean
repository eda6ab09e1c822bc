import Derived.Test.YtpchomihojidpaaSl10
namespace Go.SL
set_option linter.unusedSimpArgs false
def fsB (P : Program) (T : TypeId) : Bool := match P.underlying T with
  | some (.struct fs) => fs.toList.all fun f => (sizeB P f.type).isSome
  | _ => false
theorem fs_of {P : Program} {T : TypeId} (h : fsB P T = true) : ∃ fs : Array Field, P.underlying T = some (.struct fs) ∧ ∀ f ∈ fs.toList, (sizeB P f.type).isSome = true := by
  unfold fsB at h
  cases hu : P.underlying T with
  | none => rw [hu] at h; cases h
  | some d =>
    rw [hu] at h
    cases d <;> try (cases h; done)
    rename_i fs
    exact ⟨fs, rfl, fun f hf => List.all_eq_true.1 h f hf⟩
def ptrB (P : Program) (T : TypeId) : Bool := match P.underlying T with
  | some (.pointer _) => true
  | _ => false
def boolB (P : Program) (T : TypeId) : Bool := match P.underlying T with
  | some .bool => true
  | _ => false
section
variable {P : Program} {e : Env} {o : Oper} {l : List Value} {L : List Asn}
theorem ptr_und {T : TypeId} (h : ptrB P T = true) : ∃ x, P.underlying T = some (.pointer x) := by
  unfold ptrB at h
  cases hu : P.underlying T with
  | none => rw [hu] at h; cases h
  | some d => rw [hu] at h; cases d <;> first | (cases h; done) | exact ⟨_, rfl⟩
theorem run_cmp (op : BinOp) (T : TypeId) (x y : Operand) (T' : TypeId) {u v r : Value} (ho : o.op = .binOp op T x y T') (hx : ev l x = u) (hy : ev l y = v) (hg : ∀ w, (eqGuard op T x y u v).run P w = .ok () w) (h : ∀ w, (binOp op T u v).run P w = .ok r w) : Yl e P o l L r := fun w _ => by
  unfold execOp; rw [ho]
  simp only [hx, hy, Sem.run_bind, hg]; simp [h]
theorem eqn {T : TypeId} {x y : Value} {b : Bool} {w : World} (h : ∀ d, (Op.equalIn (d + 1) T x y).run P w = .ok b w) : (Op.equal T x y).run P w = .ok b w := h 9999
theorem run_beq {T : TypeId} {x y : Value} {b : Bool} {w : World} (hb : binOp .eql T x y = (do pure (.bool (← Op.equal T x y)))) (h : ∀ d, (Op.equalIn (d + 1) T x y).run P w = .ok b w) : (binOp .eql T x y).run P w = .ok (.bool b) w := by
  rw [hb, Sem.run_bind, eqn h]; rfl
theorem run_bne {T : TypeId} {x y : Value} {b : Bool} {w : World} (hb : binOp .neq T x y = (do pure (.bool (!(← Op.equal T x y))))) (h : ∀ d, (Op.equalIn (d + 1) T x y).run P w = .ok b w) : (binOp .neq T x y).run P w = .ok (.bool (!b)) w := by
  rw [hb, Sem.run_bind, eqn h]; rfl
theorem eqIn_nil {T E : TypeId} (hu : P.underlying T = some (.pointer E)) (a : Option Addr) (w : World) (d : Nat) : (Op.equalIn (d + 1) T (.pointer a) (.pointer none)).run P w = .ok a.isNone w := by
  simp only [Op.equalIn, Sem.run_bind, run_und hu, Result.andThen_ok]
  cases a <;> rfl
theorem bool_und {T : TypeId} (hT : boolB P T = true) : P.underlying T = some .bool := by
  unfold boolB at hT
  cases hu : P.underlying T with
  | none => rw [hu] at hT; cases hT
  | some d => rw [hu] at hT; cases d <;> first | (cases hT; done) | rfl
theorem eqIn_bool {T : TypeId} (hu : P.underlying T = some .bool) (a b : Bool) (w : World) (d : Nat) : (Op.equalIn (d + 1) T (.bool a) (.bool b)).run P w = .ok (a == b) w := by
  simp only [Op.equalIn, Sem.run_bind, run_und hu, Result.andThen_ok]
  rfl
/-- an address against nil -/
theorem y_peqnil {T T' : TypeId} {x y : Operand} {a : Option Addr} (ho : o.op = .binOp .eql T x y T') (hT : ptrB P T = true) (hx : ev l x = .pointer a) (hy : ev l y = .pointer none) : Yl e P o l L (.bool a.isNone) := by
  obtain ⟨E, hu⟩ := ptr_und hT
  exact run_cmp .eql T x y T' ho hx hy (fun w => rfl) fun w => run_beq rfl (eqIn_nil hu a w)
theorem y_pnenil {T T' : TypeId} {x y : Operand} {a : Option Addr} (ho : o.op = .binOp .neq T x y T') (hT : ptrB P T = true) (hx : ev l x = .pointer a) (hy : ev l y = .pointer none) : Yl e P o l L (.bool (!a.isNone)) := by
  obtain ⟨E, hu⟩ := ptr_und hT
  exact run_cmp .neq T x y T' ho hx hy (fun w => rfl) fun w => run_bne rfl (eqIn_nil hu a w)
theorem y_beql {T T' : TypeId} {x y : Operand} {a b : Bool} (ho : o.op = .binOp .eql T x y T') (hx : ev l x = .bool a) (hy : ev l y = .bool b) (hT : boolB P T = true) : Yl e P o l L (.bool (a == b)) :=
  run_cmp .eql T x y T' ho hx hy (fun w => rfl) fun w => run_beq rfl (eqIn_bool (bool_und hT) a b w)
theorem y_bneq {T T' : TypeId} {x y : Operand} {a b : Bool} (ho : o.op = .binOp .neq T x y T') (hx : ev l x = .bool a) (hy : ev l y = .bool b) (hT : boolB P T = true) : Yl e P o l L (.bool (!(a == b))) :=
  run_cmp .neq T x y T' ho hx hy (fun w => rfl) fun w => run_bne rfl (eqIn_bool (bool_und hT) a b w)
end
end Go.SL
