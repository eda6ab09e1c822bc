import Derived.Test.YtpchomihojidpaaSl0
import Derived.IntWalk
import Derived.Laws.Cells
namespace Go.SL
set_option linter.unusedSimpArgs false

def fr (l : List Value) : Act := ⟨l.toArray, []⟩
def ev (l : List Value) : Operand → Value
  | .tmp t => l.getD t undef
  | .const v => v
  | .global g => .pointer (some ⟨g, 0, none⟩)
  | .func f => .func (.func f) #[] #[]
theorem fr_eval (l : List Value) : (fr l).eval = ev l := by
  funext x; cases x <;> simp [fr, Act.eval, ev]
theorem fr_put (l : List Value) (d : Nat) (v : Value) : (fr l).put (some d) v = fr (l.set d v) := by
  simp [fr, Act.put]
theorem fr_put_none (l : List Value) (v : Value) : (fr l).put none v = fr l := rfl

/-- operation o yields v in every world of L and leaves it -/
def Yl (e : Env) (P : Program) (o : Oper) (l : List Value) (L : List Asn) (v : Value) : Prop :=
  ∀ w, SL e w L → (execOp (ev l) o).run P w = .ok (.value v) w

section
variable {P : Program} {e : Env} {o : Oper} {l l' : List Value} {L : List Asn} {ops : Array Oper} {rest : List Oper} {w : World} {Q : Exit → Act → World → Prop}

theorem wanted_none (hg : o.guard = none) (t : Nat → Option Bool) : Region.wanted o t = true := by simp [Region.wanted, hg]

theorem l_val {v : Value} {d : Nat} (s : SL e w L) (y : Yl e P o l L v) (hg : o.guard = none) (hd : o.dst = some d) (hl : l.set d v = l')
    (k : wpList P ops Q rest (fr l') w) : wpList P ops Q (o :: rest) (fr l) w := by
  refine wpList_plain hg fun K hK => ?_
  unfold Oper.wp
  rw [fr_eval, y w s]
  simp only [Oper.upon, hd, fr_put, hl]
  exact hK _ _ k
theorem q_val {v : Value} {d : Nat} {R : Act → Prop} (y : Yl e P o l L v) (hg : o.guard = none) (hd : o.dst = some d) (hl : l.set d v = l')
    (k : wpQuiet P ops (fun w => SL e w L) R rest (fr l')) : wpQuiet P ops (fun w => SL e w L) R (o :: rest) (fr l) := by
  refine wpQuiet_step fun K hK => ?_
  rw [if_pos (wanted_none hg _)]
  refine ⟨v, fun w s => ?_, ?_⟩
  · unfold Oper.quietAt
    rw [fr_eval, y w s]
    exact ⟨rfl, rfl⟩
  · rw [hd, fr_put, hl]; exact hK _ k

/-! plain operations -/
theorem y_move {x : Operand} (ho : o.op = .move x) : Yl e P o l L (ev l x) := fun w _ => by
  unfold execOp; rw [ho]; rfl
theorem y_assign {x : Operand} (ho : o.op = .assign x) : Yl e P o l L (ev l x) := fun w _ => by
  unfold execOp; rw [ho]; rfl
theorem y_pick {c x y : Operand} {b : Bool} (ho : o.op = .pick c x y) (hc : ev l c = .bool b) : Yl e P o l L (if b then ev l x else ev l y) := fun w _ => by
  unfold execOp; rw [ho]; simp [hc, asBool]

theorem w64 {n : Int} (h0 : -9223372036854775808 ≤ n) (h1 : n ≤ 9223372036854775807) : IntKind.i64.wrap n = n := IntWalk.i64_in _ ⟨h0, h1⟩

theorem run_int (op : BinOp) (T : TypeId) (k : IntKind) (a b : Int) (x y : Operand) (T' : TypeId) {v : Value}
    (ho : o.op = .binOp op T x y T') (hx : ev l x = .int k a) (hy : ev l y = .int k b) (h : ∀ w, (binOp op T (.int k a) (.int k b)).run P w = .ok v w) : Yl e P o l L v := fun w _ => by
  unfold execOp; rw [ho]
  simp only [hx, hy, Sem.run_bind]
  have hq : (eqGuard op T x y (.int k a) (.int k b)).run P w = .ok () w := by
    unfold eqGuard
    split <;> rfl
  rw [hq]; simp [h]
theorem y_add {T T' : TypeId} {x y : Operand} {a b : Int} (ho : o.op = .binOp .add T x y T') (hx : ev l x = .int .i64 a) (hy : ev l y = .int .i64 b)
    (h0 : -9223372036854775808 ≤ a + b) (h1 : a + b ≤ 9223372036854775807) : Yl e P o l L (.int .i64 (a + b)) :=
  run_int _ _ _ _ _ _ _ _ ho hx hy fun w => by simp [binOp, Op.intArith, w64 h0 h1]
theorem y_sub {T T' : TypeId} {x y : Operand} {a b : Int} (ho : o.op = .binOp .sub T x y T') (hx : ev l x = .int .i64 a) (hy : ev l y = .int .i64 b)
    (h0 : -9223372036854775808 ≤ a - b) (h1 : a - b ≤ 9223372036854775807) : Yl e P o l L (.int .i64 (a - b)) :=
  run_int _ _ _ _ _ _ _ _ ho hx hy fun w => by simp [binOp, Op.intArith, w64 h0 h1]
theorem y_mul {T T' : TypeId} {x y : Operand} {a b : Int} (ho : o.op = .binOp .mul T x y T') (hx : ev l x = .int .i64 a) (hy : ev l y = .int .i64 b)
    (h0 : -9223372036854775808 ≤ a * b) (h1 : a * b ≤ 9223372036854775807) : Yl e P o l L (.int .i64 (a * b)) :=
  run_int _ _ _ _ _ _ _ _ ho hx hy fun w => by simp [binOp, Op.intArith, w64 h0 h1]
/-- without a bound: what Go's int does -/
theorem y_add_w {T T' : TypeId} {x y : Operand} {a b : Int} (ho : o.op = .binOp .add T x y T') (hx : ev l x = .int .i64 a) (hy : ev l y = .int .i64 b) : Yl e P o l L (.int .i64 (IntKind.i64.wrap (a + b))) :=
  run_int _ _ _ _ _ _ _ _ ho hx hy fun w => by simp [binOp, Op.intArith]
theorem y_sub_w {T T' : TypeId} {x y : Operand} {a b : Int} (ho : o.op = .binOp .sub T x y T') (hx : ev l x = .int .i64 a) (hy : ev l y = .int .i64 b) : Yl e P o l L (.int .i64 (IntKind.i64.wrap (a - b))) :=
  run_int _ _ _ _ _ _ _ _ ho hx hy fun w => by simp [binOp, Op.intArith]
theorem y_mul_w {T T' : TypeId} {x y : Operand} {a b : Int} (ho : o.op = .binOp .mul T x y T') (hx : ev l x = .int .i64 a) (hy : ev l y = .int .i64 b) : Yl e P o l L (.int .i64 (IntKind.i64.wrap (a * b))) :=
  run_int _ _ _ _ _ _ _ _ ho hx hy fun w => by simp [binOp, Op.intArith]
/-- of numbers that aren't negative -/
theorem y_quo {T T' : TypeId} {x y : Operand} {a b : Int} (ho : o.op = .binOp .quo T x y T') (hx : ev l x = .int .i64 a) (hy : ev l y = .int .i64 b)
    (h0 : 0 ≤ a) (h1 : a ≤ 9223372036854775807) (hb : 0 < b) : Yl e P o l L (.int .i64 (a / b)) :=
  run_int _ _ _ _ _ _ _ _ ho hx hy fun w => by
    have h2 : a.tdiv b = a / b := Int.tdiv_eq_ediv_of_nonneg h0
    have h3 : 0 ≤ a / b := Int.ediv_nonneg h0 (by omega)
    have h4 : a / b ≤ a := Int.ediv_le_self _ h0
    simp [binOp, Op.intDiv, show ¬ b = 0 by omega, h2, w64 (show -9223372036854775808 ≤ a / b by omega) (by omega)]
theorem y_rem {T T' : TypeId} {x y : Operand} {a b : Int} (ho : o.op = .binOp .rem T x y T') (hx : ev l x = .int .i64 a) (hy : ev l y = .int .i64 b)
    (h0 : 0 ≤ a) (hb : 0 < b) : Yl e P o l L (.int .i64 (a % b)) :=
  run_int _ _ _ _ _ _ _ _ ho hx hy fun w => by
    simp [binOp, Op.intDiv, show ¬ b = 0 by omega, Int.tmod_eq_emod_of_nonneg h0]
/-- of any sign -/
theorem y_tquo {T T' : TypeId} {x y : Operand} {a b : Int} (ho : o.op = .binOp .quo T x y T') (hx : ev l x = .int .i64 a) (hy : ev l y = .int .i64 b)
    (hb : b ≠ 0) (h0 : -9223372036854775808 ≤ a.tdiv b) (h1 : a.tdiv b ≤ 9223372036854775807) : Yl e P o l L (.int .i64 (a.tdiv b)) :=
  run_int _ _ _ _ _ _ _ _ ho hx hy fun w => by simp [binOp, Op.intDiv, hb, w64 h0 h1]
theorem y_trem {T T' : TypeId} {x y : Operand} {a b : Int} (ho : o.op = .binOp .rem T x y T') (hx : ev l x = .int .i64 a) (hy : ev l y = .int .i64 b)
    (hb : b ≠ 0) : Yl e P o l L (.int .i64 (a.tmod b)) :=
  run_int _ _ _ _ _ _ _ _ ho hx hy fun w => by simp [binOp, Op.intDiv, hb]
theorem y_lss {T T' : TypeId} {x y : Operand} {k : IntKind} {a b : Int} (ho : o.op = .binOp .lss T x y T') (hx : ev l x = .int k a) (hy : ev l y = .int k b) : Yl e P o l L (.bool (decide (a < b))) :=
  run_int _ _ _ _ _ _ _ _ ho hx hy fun w => by simp [binOp, Op.intCmp]
theorem y_leq {T T' : TypeId} {x y : Operand} {k : IntKind} {a b : Int} (ho : o.op = .binOp .leq T x y T') (hx : ev l x = .int k a) (hy : ev l y = .int k b) : Yl e P o l L (.bool (decide (a ≤ b))) :=
  run_int _ _ _ _ _ _ _ _ ho hx hy fun w => by simp [binOp, Op.intCmp]
theorem y_gtr {T T' : TypeId} {x y : Operand} {k : IntKind} {a b : Int} (ho : o.op = .binOp .gtr T x y T') (hx : ev l x = .int k a) (hy : ev l y = .int k b) : Yl e P o l L (.bool (decide (a > b))) :=
  run_int _ _ _ _ _ _ _ _ ho hx hy fun w => by simp [binOp, Op.intCmp]
theorem y_geq {T T' : TypeId} {x y : Operand} {k : IntKind} {a b : Int} (ho : o.op = .binOp .geq T x y T') (hx : ev l x = .int k a) (hy : ev l y = .int k b) : Yl e P o l L (.bool (decide (a ≥ b))) :=
  run_int _ _ _ _ _ _ _ _ ho hx hy fun w => by simp [binOp, Op.intCmp]
theorem y_eql {T T' : TypeId} {x y : Operand} {k : IntKind} {a b : Int} (ho : o.op = .binOp .eql T x y T') (hx : ev l x = .int k a) (hy : ev l y = .int k b) : Yl e P o l L (.bool (decide (a = b))) :=
  run_int _ _ _ _ _ _ _ _ ho hx hy fun w => by
    have : (a == b) = decide (a = b) := by by_cases h : a = b <;> simp [h]
    simp [binOp, Op.intCmp, this]
theorem y_neq {T T' : TypeId} {x y : Operand} {k : IntKind} {a b : Int} (ho : o.op = .binOp .neq T x y T') (hx : ev l x = .int k a) (hy : ev l y = .int k b) : Yl e P o l L (.bool (decide (a ≠ b))) :=
  run_int _ _ _ _ _ _ _ _ ho hx hy fun w => by
    have : (a != b) = decide (a ≠ b) := by by_cases h : a = b <;> simp [h]
    simp [binOp, Op.intCmp, this]
theorem y_not {T : TypeId} {x : Operand} {b : Bool} (ho : o.op = .unOp .not T x) (hx : ev l x = .bool b) : Yl e P o l L (.bool (!b)) := fun w _ => by
  unfold execOp; rw [ho]; simp [hx, Op.unary]
theorem y_neg {T : TypeId} {x : Operand} {a : Int} (ho : o.op = .unOp .neg T x) (hx : ev l x = .int .i64 a) (h0 : -9223372036854775807 ≤ a) (h1 : a ≤ 9223372036854775807) : Yl e P o l L (.int .i64 (-a)) := fun w _ => by
  unfold execOp; rw [ho]; simp [hx, Op.unary, Op.intArith, w64 (show -9223372036854775808 ≤ -a by omega) (by omega)]
theorem y_extract {x : Operand} {i : Nat} {vs : Array Value} {v : Value} (ho : o.op = .extract x i) (hx : ev l x = .tuple vs) (hv : vs[i]? = some v) : Yl e P o l L v := fun w _ => by
  unfold execOp; rw [ho]; simp [hx, Instr.extract, hv]
theorem y_nilCheck {x : Operand} {a : Addr} (ho : o.op = .nilCheck x) (hx : ev l x = .pointer (some a)) : Yl e P o l L (.pointer (some a)) := fun w _ => by
  unfold execOp; rw [ho]; simp [hx]
end
end Go.SL
