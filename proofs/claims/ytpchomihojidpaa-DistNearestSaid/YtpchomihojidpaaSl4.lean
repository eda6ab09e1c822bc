import Derived.Test.YtpchomihojidpaaSl3
import Derived.LoopN
namespace Go.SL
set_option linter.unusedSimpArgs false

/-- returns, and so -/
def Rets (R : Value → World → Prop) : Ending → World → Prop
  | .returned v, w => R v w
  | _, _ => False
theorem Rets.mono {P : Program} {f : FuncId} {vs : Array Value} {w : World} {R R' : Value → World → Prop} (h : Calls P f vs w (Rets R)) (hr : ∀ v w', R v w' → R' v w') : Calls P f vs w (Rets R') :=
  h.mono fun e w' r => by cases e <;> first | exact hr _ _ r | exact r.elim
def callB (P : Program) (f : FuncId) : Bool := match P.funcs[f]? with
  | some fn => fn.body.isSome && fn.name != "runtime.NumGoroutine"
  | none => false

section
variable {P : Program} {e : Env} {o : Oper} {l l' : List Value} {L L' : List Asn} {ops : Array Oper} {rest : List Oper} {w : World} {Q : Exit → Act → World → Prop}

theorem run_callFunc {f : FuncId} (hB : callB P f = true) (vs : Array Value) (w : World) : (callFunc f vs).run P w = .ok (.enter f vs) w := by
  unfold callB at hB
  cases hf : P.funcs[f]? with
  | none => rw [hf] at hB; cases hB
  | some fn =>
    rw [hf] at hB
    simp only [Bool.and_eq_true, bne_iff_ne, ne_eq] at hB
    have hb : ¬ fn.body.isNone = true := by cases h : fn.body <;> simp_all
    simp only [callFunc, Sem.run_bind, run_program, Result.andThen_ok, hf]
    rw [if_neg (by simpa using hB.2), if_neg hb]
    rfl
theorem run_call {f : FuncId} {as : Array Operand} {ts : Array TypeId} {vs : Array Value} {cl : Operand} {first cap : Array Value} (ho : o.op = .call { callee := .value cl, args := as, argTypes := ts }) (hcl : ev l cl = .func (.func f) first cap) (hB : callB P f = true) (ha : first ++ as.map (ev l) ++ cap = vs) (w : World) :
    (execOp (ev l) o).run P w = .ok (.enter f vs) w := by
  unfold execOp; rw [ho]
  simp [resolve, hcl, Deferred.ofValue, invoke, ha, run_callFunc hB]
theorem l_callC {f d : Nat} {as : Array Operand} {ts : Array TypeId} {vs : Array Value} {cl : Operand} {first cap : Array Value} {R : Value → World → Prop} (ho : o.op = .call { callee := .value cl, args := as, argTypes := ts }) (hg : o.guard = none) (hd : o.dst = some d)
    (hcl : ev l cl = .func (.func f) first cap) (hB : callB P f = true) (ha : first ++ as.map (ev l) ++ cap = vs) (hc : Calls P f vs w (Rets R))
    (k : ∀ v w', R v w' → wpList P ops Q rest (fr (l.set d v)) w') : wpList P ops Q (o :: rest) (fr l) w := by
  refine wpList_plain hg fun K hK => ?_
  unfold Oper.wp
  rw [fr_eval, run_call ho hcl hB ha w]
  simp only [Oper.upon]
  refine hc.mono fun en w' r => ?_
  cases en with
  | returned v => simp only [hd, fr_put]; exact hK _ _ (k _ _ r)
  | panicked c => exact r.elim
  | outgrown => exact r.elim
theorem l_call {f d : Nat} {as : Array Operand} {ts : Array TypeId} {vs : Array Value} {R : Value → World → Prop} (ho : o.op = .call { callee := .value (.func f), args := as, argTypes := ts }) (hg : o.guard = none) (hd : o.dst = some d)
    (hB : callB P f = true) (ha : as.map (ev l) = vs) (hc : Calls P f vs w (Rets R))
    (k : ∀ v w', R v w' → wpList P ops Q rest (fr (l.set d v)) w') : wpList P ops Q (o :: rest) (fr l) w :=
  l_callC (f := f) (first := #[]) (cap := #[]) ho hg hd rfl hB (by simpa using ha) hc k
/-- a call whose result is not wanted -/
theorem l_call0 {f : Nat} {as : Array Operand} {ts : Array TypeId} {vs : Array Value} {R : Value → World → Prop} (ho : o.op = .call { callee := .value (.func f), args := as, argTypes := ts }) (hg : o.guard = none) (hd : o.dst = none)
    (hB : callB P f = true) (ha : as.map (ev l) = vs) (hc : Calls P f vs w (Rets R))
    (k : ∀ v w', R v w' → wpList P ops Q rest (fr l) w') : wpList P ops Q (o :: rest) (fr l) w := by
  refine wpList_plain hg fun K hK => ?_
  unfold Oper.wp
  rw [fr_eval, run_call (f := f) (first := #[]) (cap := #[]) ho rfl hB (by simpa using ha) w]
  simp only [Oper.upon]
  refine hc.mono fun en w' r => ?_
  cases en with
  | returned v => simp only [hd, fr_put_none]; exact hK _ _ (k _ _ r)
  | panicked c => exact r.elim
  | outgrown => exact r.elim
/-- a call that tells the same in every world of L, and leaves one -/
theorem q_call {f d : Nat} {as : Array Operand} {ts : Array TypeId} {vs : Array Value} {v : Value} {R : Act → Prop} (ho : o.op = .call { callee := .value (.func f), args := as, argTypes := ts }) (hg : o.guard = none) (hd : o.dst = some d)
    (hB : callB P f = true) (ha : as.map (ev l) = vs) (hc : ∀ w, SL e w L → Calls P f vs w (Rets fun u w' => u = v ∧ SL e w' L)) (hl : l.set d v = l')
    (k : wpQuiet P ops (fun w => SL e w L) R rest (fr l')) : wpQuiet P ops (fun w => SL e w L) R (o :: rest) (fr l) := by
  refine wpQuiet_step fun K hK => ?_
  rw [if_pos (wanted_none hg _)]
  refine ⟨v, fun w s => ?_, ?_⟩
  · unfold Oper.quietAt
    rw [fr_eval, run_call (f := f) (first := #[]) (cap := #[]) ho rfl hB (by simpa using ha) w]
    refine ⟨rfl, (hc w s).mono fun en w' r => ?_⟩
    cases en with
    | returned u => exact ⟨by rw [r.1], r.2⟩
    | panicked c => exact r.elim
    | outgrown => exact r.elim
  · rw [hd, fr_put, hl]; exact hK _ k

/-! guards -/
theorem l_skip {l' : List Value} {d : Nat} {rest : List Oper} (hg : Region.wanted o (yielded ops (fr l).tmps) = false) (hd : o.dst = some d) (hl : l.set d undef = l')
    (k : wpList P ops Q rest (fr l') w) : wpList P ops Q (o :: rest) (fr l) w := by
  refine wpList_step fun K hK => ?_
  rw [if_neg (by rw [hg]; simp), hd, fr_put, hl]
  exact hK _ _ k
theorem q_skip {d : Nat} {R : Act → Prop} (hg : Region.wanted o (yielded ops (fr l).tmps) = false) (hd : o.dst = some d) (hl : l.set d undef = l')
    (k : wpQuiet P ops (fun w => SL e w L) R rest (fr l')) : wpQuiet P ops (fun w => SL e w L) R (o :: rest) (fr l) := by
  refine wpQuiet_step fun K hK => ?_
  rw [if_neg (by rw [hg]; simp), hd, fr_put, hl]
  exact hK _ k
theorem l_gval {v : Value} {d : Nat} (s : SL e w L) (y : Yl e P o l L v) (hg : Region.wanted o (yielded ops (fr l).tmps) = true) (hd : o.dst = some d) (hl : l.set d v = l')
    (k : wpList P ops Q rest (fr l') w) : wpList P ops Q (o :: rest) (fr l) w := by
  refine wpList_step fun K hK => ?_
  rw [if_pos hg]
  unfold Oper.wp
  rw [fr_eval, y w s]
  simp only [Oper.upon, hd, fr_put, hl]
  exact hK _ _ k
theorem q_gval {v : Value} {d : Nat} {R : Act → Prop} (y : Yl e P o l L v) (hg : Region.wanted o (yielded ops (fr l).tmps) = true) (hd : o.dst = some d) (hl : l.set d v = l')
    (k : wpQuiet P ops (fun w => SL e w L) R rest (fr l')) : wpQuiet P ops (fun w => SL e w L) R (o :: rest) (fr l) := by
  refine wpQuiet_step fun K hK => ?_
  rw [if_pos hg]
  refine ⟨v, fun w s => ?_, ?_⟩
  · unfold Oper.quietAt
    rw [fr_eval, y w s]
    exact ⟨rfl, rfl⟩
  · rw [hd, fr_put, hl]; exact hK _ k
theorem q_gcall {f d : Nat} {as : Array Operand} {ts : Array TypeId} {vs : Array Value} {v : Value} {R : Act → Prop} (ho : o.op = .call { callee := .value (.func f), args := as, argTypes := ts }) (hg : Region.wanted o (yielded ops (fr l).tmps) = true) (hd : o.dst = some d)
    (hB : callB P f = true) (ha : as.map (ev l) = vs) (hc : ∀ w, SL e w L → Calls P f vs w (Rets fun u w' => u = v ∧ SL e w' L)) (hl : l.set d v = l')
    (k : wpQuiet P ops (fun w => SL e w L) R rest (fr l')) : wpQuiet P ops (fun w => SL e w L) R (o :: rest) (fr l) := by
  refine wpQuiet_step fun K hK => ?_
  rw [if_pos hg]
  refine ⟨v, fun w s => ?_, ?_⟩
  · unfold Oper.quietAt
    rw [fr_eval, run_call (f := f) (first := #[]) (cap := #[]) ho rfl hB (by simpa using ha) w]
    refine ⟨rfl, (hc w s).mono fun en w' r => ?_⟩
    cases en with
    | returned u => exact ⟨by rw [r.1], r.2⟩
    | panicked c => exact r.elim
    | outgrown => exact r.elim
  · rw [hd, fr_put, hl]; exact hK _ k

/-! code -/
theorem c_seq {x y : Code} (h : x.wp P (Exit.then (y.wp P Q) Q) (fr l) w) : (Code.seq x y).wp P Q (fr l) w := wp_seq h
theorem c_region {id : Nat} {os : List Oper} (h : wpList P os.toArray Q os (fr l) w) : (Code.region id os.toArray false).wp P Q (fr l) w := wp_region_lit h
theorem c_quiet {id : Nat} {os : List Oper} (s : SL e w L) (hm : P.follows .mixedOrders = true) (hB : Region.lexB .any os.toArray = true)
    (h : wpQuiet P os.toArray (fun w => SL e w L) (fun a' => ∀ w', SL e w' L → Q .normal a' w') os (fr l)) : (Code.region id os.toArray true).wp P Q (fr l) w :=
  wp_region_quiet (C := fun w => SL e w L) hm hB ⟨s.env, s.sat⟩ (by simpa using h)
theorem l_end (h : Q .normal (fr l) w) : wpList P ops Q [] (fr l) w := h
theorem q_end (h : ∀ w', SL e w' L → Q .normal (fr l) w') : wpQuiet P ops (fun w => SL e w L) (fun a' => ∀ w', SL e w' L → Q .normal a' w') [] (fr l) := h
theorem c_cond {c : Operand} {x y : Code} {t : Bool} (hc : ev l c = .bool t) (ht : t = true → x.wp P Q (fr l) w) (hf : t = false → y.wp P Q (fr l) w) : (Code.cond c x y).wp P Q (fr l) w :=
  wp_cond_split (by rw [fr_eval]; exact hc) ht hf
theorem c_block {id : Nat} {c : Code} (h : c.wp P (Exit.inBlock id Q) (fr l) w) : (Code.block id c).wp P Q (fr l) w := wp_block h
theorem c_skip (h : Q .normal (fr l) w) : Code.skip.wp P Q (fr l) w := wp_skip h
theorem c_ret (h : Q .ret (fr l) w) : Code.ret.wp P Q (fr l) w := wp_ret h
theorem c_exit {id : Nat} (h : Q (.exit id) (fr l) w) : (Code.exit id).wp P Q (fr l) w := wp_exit h
theorem x_hit {id : Nat} (h : Q .normal (fr l) w) : Exit.inBlock id Q (.exit id) (fr l) w := by simp only [Exit.inBlock, if_true]; exact h
theorem x_miss {id id' : Nat} (hne : id' ≠ id) (h : Q (.exit id') (fr l) w) : Exit.inBlock id Q (.exit id') (fr l) w := by simp only [Exit.inBlock, if_neg hne]; exact h
theorem c_frame {c : Code} (hl : l = l') (k : c.wp P Q (fr l') w) : c.wp P Q (fr l) w := by rw [hl]; exact k

/-- the slots of the mask hold ds -/
def setMany : List Value → List Bool → List Value → List Value
  | _ :: l, true :: m, d :: ds => d :: setMany l m ds
  | v :: l, false :: m, ds => v :: setMany l m ds
  | l, _, _ => l
/-- a loop: J at each round's begin, of what stands in the slots W; the number falls -/
theorem c_loop {c : Code} (W : List Bool) (J : Nat → List Value → World → Prop) {n : Nat} {ds : List Value} (hl : l = setMany l W ds) (h0 : J n ds w)
    (hb : ∀ n ds w, J n ds w → c.wp P (Exit.then (fun a' w' => ∃ m ds', m < n ∧ a' = fr (setMany l W ds') ∧ J m ds' w') Q) (fr (setMany l W ds)) w) : (Code.loop c).wp P Q (fr l) w := by
  have key : ∀ N n ds w, n < N → J n ds w → Code.rounds P c Q N (fr (setMany l W ds)) w := by
    intro N
    induction N with
    | zero => intro n ds w h; omega
    | succ N ih =>
      intro n ds w hn hJ
      rw [rounds_succ]
      refine Code.wp_mono (fun e a' w' q => ?_) (hb n ds w hJ)
      cases e with
      | normal => obtain ⟨m, ds', hm, rfl, hJ'⟩ := q; exact ih m ds' w' (by omega) hJ'
      | exit id => exact q
      | goto l => exact q
      | ret => exact q
      | panic c => exact q
      | outgrown => exact q
  rw [hl]
  exact wp_loop_rounds (n + 1) (key (n + 1) n ds w (by omega) h0)

/-- where ways meet: J of what stands in the slots W -/
theorem c_cut {x y : Code} (W : List Bool) (J : List Value → World → Prop)
    (h1 : x.wp P (Exit.then (fun a' w' => ∃ ds, a' = fr (setMany l W ds) ∧ J ds w') Q) (fr l) w)
    (h2 : ∀ ds w, J ds w → y.wp P Q (fr (setMany l W ds)) w) : (Code.seq x y).wp P Q (fr l) w := by
  refine wp_seq (Code.wp_mono (fun e a w q => ?_) h1)
  cases e with
  | normal => obtain ⟨ds, rfl, hJ⟩ := q; exact h2 _ _ hJ
  | exit id => exact q
  | goto l => exact q
  | ret => exact q
  | panic c => exact q
  | outgrown => exact q

/-! calls -/
theorem enter {f : FuncId} {fn : Func} {c : Code} {vs : Array Value} {R : Value → World → Prop} (hf : P.funcs[f]? = some fn) (hb : fn.body = some c) (hl : vs.toList ++ List.replicate (fn.ntmps - vs.size) undef = l)
    (k : c.wp P (bodyPost P fn (Rets R)) (fr l) w) : Calls P f vs w (Rets R) := by
  refine calls_of_wp hf hb ?_
  have : (⟨vs ++ Array.replicate (fn.ntmps - vs.size) undef, []⟩ : Act) = fr l := by
    subst hl
    simp only [fr, Act.mk.injEq, and_true]
    apply Array.ext'
    simp
  rw [this]; exact k
theorem ret1 {fn : Func} {t : Nat} {R : Value → World → Prop} {v : Value} (hr : fn.results = #[.tmp t]) (hv : l.getD t undef = v) (h : R v w) : bodyPost P fn (Rets R) .ret (fr l) w :=
  ⟨rfl, v, by rw [results_tmp hr]; simp [fr, ← hv], h⟩
theorem ret2 {fn : Func} {t u : Nat} {R : Value → World → Prop} {v v' : Value} (hr : fn.results = #[.tmp t, .tmp u]) (hv : l.getD t undef = v) (hv' : l.getD u undef = v') (h : R (.tuple #[v, v']) w) : bodyPost P fn (Rets R) .ret (fr l) w :=
  ⟨rfl, .tuple #[v, v'], by rw [results_tmp2 hr]; simp [fr, ← hv, ← hv'], h⟩
theorem ret3 {fn : Func} {t u s : Nat} {R : Value → World → Prop} {v v' v'' : Value} (hr : fn.results = #[.tmp t, .tmp u, .tmp s]) (hv : l.getD t undef = v) (hv' : l.getD u undef = v') (hv'' : l.getD s undef = v'') (h : R (.tuple #[v, v', v'']) w) : bodyPost P fn (Rets R) .ret (fr l) w :=
  ⟨rfl, .tuple #[v, v', v''], by simp [results, hr, fr, ← hv, ← hv', ← hv''], h⟩
theorem ret4 {fn : Func} {t u s r : Nat} {R : Value → World → Prop} {v v' v'' v3 : Value} (hr : fn.results = #[.tmp t, .tmp u, .tmp s, .tmp r]) (hv : l.getD t undef = v) (hv' : l.getD u undef = v') (hv'' : l.getD s undef = v'') (hv3 : l.getD r undef = v3) (h : R (.tuple #[v, v', v'', v3]) w) : bodyPost P fn (Rets R) .ret (fr l) w :=
  ⟨rfl, .tuple #[v, v', v'', v3], by simp [results, hr, fr, ← hv, ← hv', ← hv'', ← hv3], h⟩
theorem ret0 {fn : Func} {R : Value → World → Prop} (hr : fn.results = #[]) (h : R (.tuple #[]) w) : bodyPost P fn (Rets R) .ret (fr l) w :=
  ⟨rfl, .tuple #[], by rw [results_none hr], h⟩
theorem end0 {fn : Func} {R : Value → World → Prop} (hr : fn.results = #[]) (h : R (.tuple #[]) w) : bodyPost P fn (Rets R) .normal (fr l) w :=
  ⟨rfl, .tuple #[], by rw [results_none hr], h⟩
end
end Go.SL
