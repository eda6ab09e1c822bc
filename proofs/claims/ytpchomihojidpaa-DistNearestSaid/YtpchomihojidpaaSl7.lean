import Derived.Test.YtpchomihojidpaaSl6
namespace Go.SL
set_option linter.unusedSimpArgs false

section
variable {P : Program} {e : Env} {o : Oper} {l l' : List Value} {L M : List Asn} {ops : Array Oper} {rest : List Oper} {w : World} {Q : Exit → Act → World → Prop} {K : Act → List Asn → Prop} {xs : List (Oper × VS)}

/-! the steps of a drawn region -/
theorem p_val {v : Value} {d : Nat} {KP : Act → Prop} (y : ∀ e, Yl e P o l [] v) (hg : o.guard = none) (hd : o.dst = some d) (hl : l.set d v = l') (k : WP P ops KP rest (fr l')) : WP P ops KP (o :: rest) (fr l) := by
  refine ⟨v, .inl ⟨wanted_none hg _, fun w => ?_⟩, ?_⟩
  · rw [fr_eval]; exact y (envOf w) w ⟨rfl, trivial⟩
  · rw [hd, fr_put, hl]; exact k
theorem p_end {KP : Act → Prop} (h : KP (fr l)) : WP P ops KP [] (fr l) := h
theorem d_val {v : Value} {d : Nat} (y : Yl e P o l L v) (hg : o.guard = none) (hd : o.dst = some d) (hl : l.set d v = l') (k : WD P e L ops K xs (fr l') M) : WD P e L ops K ((o, vq v) :: xs) (fr l) M := by
  refine ⟨.inl ⟨wanted_none hg _, fun w M' s => ?_⟩, ⟨v, [], rfl, rfl⟩, ?_⟩
  · have h1 : Sat L (hpOf w) := by
      have : ∀ (A B : List Asn) h, Sat (A ++ B) h → Sat B h := by
        intro A; induction A with
        | nil => exact fun _ _ h => h
        | cons a A ih => exact fun B h s => ih B h s.drop
      exact this _ _ _ s.sat
    rw [fr_eval, y w ⟨s.env, h1⟩]
    exact ⟨[], ⟨rfl, rfl⟩, s⟩
  · rintro v' E ⟨rfl, rfl⟩
    rw [hd, fr_put, hl]; exact k
theorem d_new {d : Nat} {f : Nat → Value} {A : Nat → Asn} (ob : Obj) (hg : o.guard = none) (hd : o.dst = some d)
    (y : ∀ w, (execOp (ev l) o).run P w = .ok (.value (f w.heap.size)) { w with heap := w.heap.push ob }) (hA : ∀ b, A b (single b ob))
    (k : ∀ b, WD P e L ops K xs (fr (l.set d (f b))) (A b :: M)) : WD P e L ops K ((o, vb f A) :: xs) (fr l) M := by
  refine ⟨.inl ⟨wanted_none hg _, fun w M' s => ?_⟩, ⟨f 0, [A 0], 0, rfl, rfl⟩, ?_⟩
  · rw [fr_eval, y w]
    exact ⟨[A w.heap.size], ⟨_, rfl, rfl⟩, s.new ob _ (hA _)⟩
  · rintro v' E ⟨b, rfl, rfl⟩
    rw [hd, fr_put]; exact k b
theorem d_alloc {T : TypeId} {d : Nat} {z : Value} (ho : o.op = .alloc T) (hg : o.guard = none) (hd : o.dst = some d) (hz : zeroB P T = some z)
    (k : ∀ b, WD P e L ops K xs (fr (l.set d (ptr b 0))) (Blk b z.cells T :: M)) : WD P e L ops K ((o, vb (fun b => ptr b 0) (fun b => Blk b z.cells T)) :: xs) (fr l) M :=
  d_new (.cells z.cells T) hg hd (fun w => by unfold execOp; rw [ho]; simp [Instr.alloc, run_zero hz, newVar, newRow]) (fun b => blk_single b _ _) k
theorem d_box {T : TypeId} {x : Operand} {d : Nat} {v : Value} (ho : o.op = .box T x) (hg : o.guard = none) (hd : o.dst = some d) (hx : ev l x = v)
    (k : ∀ b, WD P e L ops K xs (fr (l.set d (ptr b 0))) (Blk b v.cells T :: M)) : WD P e L ops K ((o, vb (fun b => ptr b 0) (fun b => Blk b v.cells T)) :: xs) (fr l) M :=
  d_new (.cells v.cells T) hg hd (fun w => by unfold execOp; rw [ho]; simp [hx, Instr.box, newVar, newRow]) (fun b => blk_single b _ _) k
/-- a call of one value -/
theorem d_call {f d : Nat} {as : Array Operand} {ts : Array TypeId} {vs : Array Value} {v : Value} (ho : o.op = .call { callee := .value (.func f), args := as, argTypes := ts }) (hg : o.guard = none) (hd : o.dst = some d)
    (hB : callB P f = true) (ha : as.map (ev l) = vs) (hc : ∀ w M, SL e w (M ++ L) → Calls P f vs w (Rets fun u w' => u = v ∧ SL e w' (M ++ L))) (hl : l.set d v = l')
    (k : WD P e L ops K xs (fr l') M) : WD P e L ops K ((o, vq v) :: xs) (fr l) M := by
  refine ⟨.inl ⟨wanted_none hg _, fun w M' s => ?_⟩, ⟨v, [], rfl, rfl⟩, ?_⟩
  · rw [fr_eval, run_call (f := f) (first := #[]) (cap := #[]) ho rfl hB (by simpa using ha) w]
    exact Rets.mono (hc w M' s) fun u w' ⟨h1, h2⟩ => ⟨[], ⟨h1, rfl⟩, h2⟩
  · rintro v' E ⟨rfl, rfl⟩
    rw [hd, fr_put, hl]; exact k
/-- a call that makes something -/
theorem d_callR {f d : Nat} {as : Array Operand} {ts : Array TypeId} {vs : Array Value} {R : VS} (ho : o.op = .call { callee := .value (.func f), args := as, argTypes := ts }) (hg : o.guard = none) (hd : o.dst = some d)
    (hB : callB P f = true) (ha : as.map (ev l) = vs) (hin : ∃ v E, R v E) (hc : ∀ w M, SL e w (M ++ L) → Calls P f vs w (Rets fun u w' => ∃ E, R u E ∧ SL e w' (E ++ (M ++ L))))
    (k : ∀ v E, R v E → WD P e L ops K xs (fr (l.set d v)) (E ++ M)) : WD P e L ops K ((o, R) :: xs) (fr l) M := by
  refine ⟨.inl ⟨wanted_none hg _, fun w M' s => ?_⟩, hin, ?_⟩
  · rw [fr_eval, run_call (f := f) (first := #[]) (cap := #[]) ho rfl hB (by simpa using ha) w]
    exact hc w M' s
  · intro v E hv
    rw [hd, fr_put]; exact k v E hv
theorem d_end (h : ∀ w', SL e w' (M ++ L) → wpList P ops Q rest (fr l) w') : WD P e L ops (fun a M => ∀ w', SL e w' (M ++ L) → wpList P ops Q rest a w') [] (fr l) M := h

/-! more operations -/
theorem y_build {T : TypeId} {parts : Array (Nat × Operand)} {z v : Value} (ho : o.op = .build T parts) (hz : zeroB P T = some z) (h : ∀ w, (Instr.build T (parts.map fun p => (p.1, ev l p.2))).run P w = .ok v w) : Yl e P o l L v := fun w _ => by
  have _ := hz
  unfold execOp; rw [ho]
  simp only [Sem.run_bind]
  have := h w
  simp only [Array.map] at this ⊢
  rw [this]; rfl
theorem y_len0 {T E : TypeId} {x : Operand} {A : Option Addr} {n k : Nat} {at_ : Array TypeId} (ho : o.op = .call { callee := .builtin .len, args := #[x], argTypes := at_ }) (hat : at_[0]? = some T) (hT : elemB P T = some E)
    (hx : ev l x = .slice A n k) : Yl e P o l L (.int .i64 n) := fun w _ => run_len ho hat hT hx w
theorem y_min {x y : Operand} {at_ : Array TypeId} {k : IntKind} {a b : Int} (ho : o.op = .call { callee := .builtin .min, args := #[x, y], argTypes := at_ }) (hx : ev l x = .int k a) (hy : ev l y = .int k b) : Yl e P o l L (.int k (min a b)) := fun w _ => by
  unfold execOp; rw [ho]
  simp only [resolve, invoke, builtin, Builtin.min_, Sem.run_bind, Sem.run_pure, Result.andThen_ok, List.map_toArray, List.map_cons, List.map_nil, hx, hy, List.foldlM, Builtin.min2]
  congr 3
  by_cases h : b < a
  · rw [if_pos h]; omega
  · rw [if_neg h]; omega
theorem y_max {x y : Operand} {at_ : Array TypeId} {k : IntKind} {a b : Int} (ho : o.op = .call { callee := .builtin .max, args := #[x, y], argTypes := at_ }) (hx : ev l x = .int k a) (hy : ev l y = .int k b) : Yl e P o l L (.int k (max a b)) := fun w _ => by
  unfold execOp; rw [ho]
  simp only [resolve, invoke, builtin, Builtin.max_, Sem.run_bind, Sem.run_pure, Result.andThen_ok, List.map_toArray, List.map_cons, List.map_nil, hx, hy, List.foldlM, Builtin.max2]
  congr 3
  by_cases h : a < b
  · first | rw [if_pos h] | skip
    omega
  · first | rw [if_neg h] | skip
    omega
end
end Go.SL
