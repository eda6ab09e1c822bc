import Derived.Test.YtpchomihojidpaaSl12
namespace Go.SL
set_option linter.unusedSimpArgs false
def kindB (P : Program) (T : TypeId) : Option IntKind := match P.underlying T with
  | some (.int k) => some k
  | _ => none
def valB (P : Program) (T : TypeId) : Bool := match P.underlying T with
  | some (.interface _) => false
  | some _ => true
  | none => false
def nptrB (P : Program) (T : TypeId) : Bool := match P.underlying T with
  | some (.pointer _) => false
  | some _ => true
  | none => false
def sliceB (P : Program) (T : TypeId) : Bool := match P.underlying T with
  | some (.slice _) => true
  | _ => false
/-- a method of a value: no way to it, no pointer for its receiver -/
def methB (P : Program) (T : TypeId) (name : String) : Option FuncId := match P.info? T with
  | none => none
  | some i => match i.methods.find? (·.name == name) with
    | none => none
    | some m => if m.path.isEmpty then (match m.func with
      | some (f, false) => if nptrB P T then some f else none
      | _ => none) else none
/-- a method of a pointer -/
def methPB (P : Program) (T : TypeId) (name : String) : Option FuncId := match P.info? T with
  | none => none
  | some i => match i.methods.find? (·.name == name) with
    | none => none
    | some m => if m.path.isEmpty then (match m.func with
      | some (f, true) => if ptrB P T then some f else none
      | _ => none) else none
section
variable {P : Program} {e : Env} {o : Oper} {l l' : List Value} {L M : List Asn} {ops : Array Oper} {rest : List Oper} {w : World} {Q : Exit → Act → World → Prop} {K : Act → List Asn → Prop} {xs : List (Oper × VS)}
theorem kind_und {T : TypeId} {k : IntKind} (h : kindB P T = some k) : P.underlying T = some (.int k) := by
  unfold kindB at h
  cases hu : P.underlying T with
  | none => rw [hu] at h; cases h
  | some d => rw [hu] at h; cases d <;> first | (cases h; done) | (simp at h; subst h; rfl)
theorem y_conv {S D : TypeId} {x : Operand} {ks kd : IntKind} {n : Int} (ho : o.op = .convert S D x) (hS : kindB P S = some ks) (hD : kindB P D = some kd) (hx : ev l x = .int ks n) : Yl e P o l L (.int kd (kd.wrap n)) := fun w _ => by
  unfold execOp; rw [ho]
  simp only [convert, Sem.run_bind, run_und (kind_und hS), run_und (kind_und hD), Result.andThen_ok, hx]
  rfl
theorem w32 {n : Int} (h0 : -2147483648 ≤ n) (h1 : n ≤ 2147483647) : IntKind.i32.wrap n = n := by rw [IntKind.wrap_i32]; omega
theorem y_conv64 {S D : TypeId} {x : Operand} {ks : IntKind} {n : Int} (ho : o.op = .convert S D x) (hS : kindB P S = some ks) (hD : kindB P D = some .i64) (hx : ev l x = .int ks n) (h0 : -9223372036854775808 ≤ n) (h1 : n ≤ 9223372036854775807) : Yl e P o l L (.int .i64 n) := by
  have := y_conv (e := e) (L := L) ho hS hD hx
  rwa [w64 h0 h1] at this
theorem y_conv32 {S D : TypeId} {x : Operand} {ks : IntKind} {n : Int} (ho : o.op = .convert S D x) (hS : kindB P S = some ks) (hD : kindB P D = some .i32) (hx : ev l x = .int ks n) (h0 : -2147483648 ≤ n) (h1 : n ≤ 2147483647) : Yl e P o l L (.int .i32 n) := by
  have := y_conv (e := e) (L := L) ho hS hD hx
  rwa [w32 h0 h1] at this
theorem y_mkI {T : TypeId} {x : Operand} {v : Value} (ho : o.op = .makeInterface T x) (hT : valB P T = true) (hx : ev l x = v) : Yl e P o l L (.iface T v) := fun w _ => by
  unfold valB at hT
  unfold execOp; rw [ho]
  cases hu : P.underlying T with
  | none => rw [hu] at hT; cases hT
  | some d =>
    rw [hu] at hT
    simp only [Instr.makeInterface, Sem.run_bind, run_und hu, Result.andThen_ok, hx]
    cases d <;> first | rfl | (cases hT)
theorem y_nilI {x : Operand} {t : TypeId} {v : Value} (ho : o.op = .nilCheck x) (hx : ev l x = .iface t v) : Yl e P o l L (.iface t v) := fun w _ => by
  unfold execOp; rw [ho]; simp [hx]
/-- 'v, ok := x.(T)', T no interface -/
theorem y_asTrue {x : Operand} {X T : TypeId} {v : Value} (ho : o.op = .typeAssert x X T true) (hT : valB P T = true) (hx : ev l x = .iface T v) : Yl e P o l L (.tuple #[v, .bool true]) := fun w _ => by
  unfold valB at hT
  unfold execOp; rw [ho]
  cases hu : P.underlying T with
  | none => rw [hu] at hT; cases hT
  | some d =>
    rw [hu] at hT
    simp only [Instr.typeAssert, Sem.run_bind, run_und hu, Result.andThen_ok, hx]
    cases d <;> first | (simp; done) | (cases hT)
theorem y_asFalse {x : Operand} {X T U : TypeId} {v z : Value} (ho : o.op = .typeAssert x X T true) (hT : valB P T = true) (hz : zeroB P T = some z) (hx : ev l x = .iface U v) (hne : U ≠ T) : Yl e P o l L (.tuple #[z, .bool false]) := fun w _ => by
  unfold valB at hT
  unfold execOp; rw [ho]
  cases hu : P.underlying T with
  | none => rw [hu] at hT; cases hT
  | some d =>
    rw [hu] at hT
    simp only [Instr.typeAssert, Sem.run_bind, run_und hu, Result.andThen_ok, hx]
    cases d <;> first | (simp [hne, run_zero hz]; done) | (cases hT)
/-- 'x.(T)' that holds -/
theorem y_asV {x : Operand} {X T : TypeId} {v : Value} (ho : o.op = .typeAssert x X T false) (hT : valB P T = true) (hx : ev l x = .iface T v) : Yl e P o l L v := fun w _ => by
  unfold valB at hT
  unfold execOp; rw [ho]
  cases hu : P.underlying T with
  | none => rw [hu] at hT; cases hT
  | some d =>
    rw [hu] at hT
    simp only [Instr.typeAssert, Sem.run_bind, run_und hu, Result.andThen_ok, hx]
    cases d <;> first | (simp; done) | (cases hT)

theorem run_method {T : TypeId} {name : String} {f : FuncId} {v : Value} (h : methB P T name = some f) (n : Nat) (w : World) : (method (n + 1) T v name).run P w = .ok (f, v) w := by
  unfold methB at h
  cases hi : P.info? T with
  | none => rw [hi] at h; cases h
  | some i =>
    rw [hi] at h
    simp only at h
    cases hm : i.methods.find? (·.name == name) with
    | none => rw [hm] at h; cases h
    | some m =>
      rw [hm] at h
      simp only at h
      split at h
      · rename_i hp
        cases hf : m.func with
        | none => rw [hf] at h; cases h
        | some fp =>
          obtain ⟨f', b⟩ := fp
          rw [hf] at h
          cases b with
          | true => cases h
          | false =>
            simp only at h
            split at h
            · rename_i hn
              simp at h; subst h
              have hpl : m.path.toList = [] := by simpa using hp
              unfold nptrB at hn
              simp only [method, Sem.run_bind, typeInfo, run_program, Result.andThen_ok, hi, Sem.run_pure, hm, hpl, follow, hf, receiverAt]
              cases hu : P.underlying T with
              | none => rw [hu] at hn; cases hn
              | some d =>
                rw [hu] at hn
                simp only [run_und hu, Result.andThen_ok]
                cases d <;> first | rfl | (cases hn)
            · cases h
      · cases h
theorem run_methodP {T : TypeId} {name : String} {f : FuncId} {v : Value} (h : methPB P T name = some f) (n : Nat) (w : World) : (method (n + 1) T v name).run P w = .ok (f, v) w := by
  unfold methPB at h
  cases hi : P.info? T with
  | none => rw [hi] at h; cases h
  | some i =>
    rw [hi] at h
    simp only at h
    cases hm : i.methods.find? (·.name == name) with
    | none => rw [hm] at h; cases h
    | some m =>
      rw [hm] at h
      simp only at h
      split at h
      · rename_i hp
        cases hf : m.func with
        | none => rw [hf] at h; cases h
        | some fp =>
          obtain ⟨f', b⟩ := fp
          rw [hf] at h
          cases b with
          | false => cases h
          | true =>
            simp only at h
            split at h
            · rename_i hn
              simp at h; subst h
              have hpl : m.path.toList = [] := by simpa using hp
              obtain ⟨E, hu⟩ := ptr_und hn
              simp only [method, Sem.run_bind, typeInfo, run_program, Result.andThen_ok, hi, Sem.run_pure, hm, hpl, follow, hf, receiverAt, run_und hu]
              rfl
            · cases h
      · cases h
theorem run_invoke' {name : String} {T : TypeId} {v : Value} {f : FuncId} {as : Array Operand} {ts : Array TypeId} {vs : List Value} {x : Operand} (ho : o.op = .call { callee := .invoke x name, args := as, argTypes := ts }) (hx : ev l x = .iface T v)
    (hm : ∀ n w, (method (n + 1) T v name).run P w = .ok (f, v) w) (hB : callB P f = true) (ha : as.toList.map (evo l) = vs.map some) (w : World) : (execOp (ev l) o).run P w = .ok (.enter f (v :: vs).toArray) w := by
  unfold execOp; rw [ho]
  have h1 := evs_of ha
  have h2 : (#[Value.iface T v] ++ vs.toArray).extract 1 (#[Value.iface T v] ++ vs.toArray).size = vs.toArray := by
    apply Array.ext'; simp
  have hd : P.types.size + Made.depth = (P.types.size + Made.depth - 1) + 1 := by
    have : 0 < Made.depth := by decide
    omega
  simp only [resolve, hx, h1, Sem.run_bind, Sem.run_pure, Result.andThen_ok, invoke]
  have h0 : (#[Value.iface T v] ++ vs.toArray)[0]? = some (Value.iface T v) := by simp
  simp only [h0, h2, callMethod, Sem.run_bind, run_program, Result.andThen_ok]
  rw [hd, hm]
  simp only [Result.andThen_ok]
  rw [run_callFunc hB]
  congr 2
  apply Array.ext'; simp
theorem l_invoke {name : String} {T : TypeId} {v : Value} {f d : Nat} {as : Array Operand} {ts : Array TypeId} {vs : List Value} {x : Operand} {R : Value → World → Prop} (ho : o.op = .call { callee := .invoke x name, args := as, argTypes := ts }) (hg : o.guard = none) (hd : o.dst = some d) (hx : ev l x = .iface T v)
    (hm : methB P T name = some f) (hB : callB P f = true) (ha : as.toList.map (evo l) = vs.map some) (hc : Calls P f (v :: vs).toArray w (Rets R))
    (k : ∀ v w', R v w' → wpList P ops Q rest (fr (l.set d v)) w') : wpList P ops Q (o :: rest) (fr l) w := by
  refine wpList_plain hg fun K hK => ?_
  unfold Oper.wp
  rw [fr_eval, run_invoke' ho hx (run_method hm) hB ha w]
  simp only [Oper.upon]
  refine hc.mono fun en w' r => ?_
  cases en with
  | returned v => simp only [hd, fr_put]; exact hK _ _ (k _ _ r)
  | panicked c => exact r.elim
  | outgrown => exact r.elim
theorem d_invoke {name : String} {T : TypeId} {v u : Value} {f d : Nat} {as : Array Operand} {ts : Array TypeId} {vs : List Value} {x : Operand} (ho : o.op = .call { callee := .invoke x name, args := as, argTypes := ts }) (hg : o.guard = none) (hd : o.dst = some d) (hx : ev l x = .iface T v)
    (hm : methB P T name = some f) (hB : callB P f = true) (ha : as.toList.map (evo l) = vs.map some) (hc : ∀ w M, SL e w (M ++ L) → Calls P f (v :: vs).toArray w (Rets fun r w' => r = u ∧ SL e w' (M ++ L))) (hl : l.set d u = l')
    (k : WD P e L ops K xs (fr l') M) : WD P e L ops K ((o, vq u) :: xs) (fr l) M := by
  refine ⟨.inl ⟨wanted_none hg _, fun w M' s => ?_⟩, ⟨u, [], rfl, rfl⟩, ?_⟩
  · rw [fr_eval, run_invoke' ho hx (run_method hm) hB ha w]
    exact Rets.mono (hc w M' s) fun r w' ⟨h1, h2⟩ => ⟨[], ⟨h1, rfl⟩, h2⟩
  · rintro v' E ⟨rfl, rfl⟩
    rw [hd, fr_put, hl]; exact k
end
end Go.SL
