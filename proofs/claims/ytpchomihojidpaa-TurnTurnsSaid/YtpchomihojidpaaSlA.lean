/- The library of this claim: what memory holds, part by part, and the steps of a walk. Part A. -/
import Derived.Deep.Quiet
import Derived.Tactics
import Derived.Below
import Derived.IntWalk
import Derived.Laws.Cells
import Derived.Laws.AppendOwn
import Derived.LoopN
namespace Go.SL
set_option linter.unusedVariables false

abbrev Hp := Nat → Option Obj
def hpOf (w : World) : Hp := fun b => w.heap[b]?
def Hp.le (h h' : Hp) : Prop := ∀ b o, h b = some o → h' b = some o
def Hp.dis (h h' : Hp) : Prop := ∀ b, h b = none ∨ h' b = none
abbrev Asn := Hp → Prop

theorem Hp.le.refl (h : Hp) : h.le h := fun _ _ e => e
theorem Hp.le.trans {a b c : Hp} (h : a.le b) (k : b.le c) : a.le c := fun x o e => k x o (h x o e)
theorem Hp.dis.symm {a b : Hp} (h : a.dis b) : b.dis a := fun x => (h x).symm
theorem Hp.dis.mono {a b a' b' : Hp} (h : a.dis b) (ha : a'.le a) (hb : b'.le b) : a'.dis b' := fun x => by
  rcases h x with e | e
  · left; cases e' : a' x with
    | none => rfl
    | some o => rw [ha x o e'] at e; cases e
  · right; cases e' : b' x with
    | none => rfl
    | some o => rw [hb x o e'] at e; cases e

def Hp.cell (h : Hp) (a : Addr) : Option Value :=
  match h a.block with
  | some (.cells c _ _) => if a.spot.isSome then none else c[a.off]?
  | _ => none
theorem Hp.cell_mono {h h' : Hp} (hl : h.le h') {a : Addr} {v : Value} (e : h.cell a = some v) : h'.cell a = some v := by
  unfold Hp.cell at *
  cases hb : h a.block with
  | none => rw [hb] at e; cases e
  | some o => rw [hl _ _ hb]; rw [hb] at e; exact e
theorem cell_hpOf (w : World) (a : Addr) : (hpOf w).cell a = w.cell? a := rfl

/-- what the list asks holds of parts of h, each apart from the others -/
def Sat : List Asn → Hp → Prop
  | [], _ => True
  | A :: L, h => ∃ h1 h2, Hp.dis h1 h2 ∧ Hp.le h1 h ∧ Hp.le h2 h ∧ A h1 ∧ Sat L h2

theorem Sat.up {L : List Asn} {h h' : Hp} (hl : h.le h') (s : Sat L h) : Sat L h' := by
  cases L with
  | nil => trivial
  | cons A L => obtain ⟨h1, h2, a, b, c, d, e⟩ := s; exact ⟨h1, h2, a, b.trans hl, c.trans hl, d, e⟩
theorem Sat.drop {A : Asn} {L : List Asn} {h : Hp} (s : Sat (A :: L) h) : Sat L h := by
  obtain ⟨h1, h2, a, b, c, d, e⟩ := s; exact e.up c

def Hp.join (a b : Hp) : Hp := fun x => match a x with | some o => some o | none => b x
theorem Hp.le_join_left (a b : Hp) : a.le (a.join b) := fun x o e => by simp [Hp.join, e]
theorem Hp.le_join_right {a b : Hp} (h : a.dis b) : b.le (a.join b) := fun x o e => by
  rcases h x with e' | e'
  · simp [Hp.join, e', e]
  · rw [e'] at e; cases e
theorem Hp.join_le {a b c : Hp} (ha : a.le c) (hb : b.le c) : (a.join b).le c := fun x o e => by
  unfold Hp.join at e
  cases h : a x with
  | some o' => rw [h] at e; exact ha x o (h.trans e)
  | none => rw [h] at e; exact hb x o e
theorem Hp.join_dis {a b c : Hp} (ha : a.dis c) (hb : b.dis c) : (a.join b).dis c := fun x => by
  rcases ha x with e | e
  · rcases hb x with e' | e'
    · left; simp [Hp.join, e, e']
    · exact .inr e'
  · exact .inr e

theorem Sat.swap {A B : Asn} {L : List Asn} {h : Hp} (s : Sat (A :: B :: L) h) : Sat (B :: A :: L) h := by
  obtain ⟨h1, h2, d12, l1, l2, a, h3, h4, d34, l3, l4, b, s⟩ := s
  refine ⟨h3, h1.join h4, ?_, l3.trans l2, Hp.join_le l1 (l4.trans l2), b, h1, h4, d12.mono (.refl _) l4, Hp.le_join_left _ _, Hp.le_join_right (d12.mono (.refl _) l4), a, s⟩
  exact (Hp.join_dis (d12.mono (.refl _) l3) d34.symm).symm

/-- the environment that no call of ours turns -/
structure Env where
  os : Os
  tape : Nat → Question → Nat
  output : Array (Nat × ByteArray)
def envOf (w : World) : Env := ⟨w.os, w.tape, w.output⟩
structure SL (e : Env) (w : World) (L : List Asn) : Prop where
  env : envOf w = e
  sat : Sat L (hpOf w)

theorem SL.mk' {w : World} {L : List Asn} (s : Sat L (hpOf w)) : SL (envOf w) w L := ⟨rfl, s⟩

/-- A is one of the list's, the rest is L' -/
inductive Take : List Asn → Asn → List Asn → Prop
  | here (A : Asn) (L : List Asn) : Take (A :: L) A L
  | there {L : List Asn} {A : Asn} {L' : List Asn} (B : Asn) (h : Take L A L') : Take (B :: L) A (B :: L')
theorem Take.sat {L L' : List Asn} {A : Asn} (t : Take L A L') : ∀ {h : Hp}, Sat L h → Sat (A :: L') h := by
  induction t with
  | here => exact fun s => s
  | there B t ih =>
    intro h s
    obtain ⟨h1, h2, d, l1, l2, b, s⟩ := s
    exact Sat.swap ⟨h1, h2, d, l1, l2, b, ih s⟩
theorem Take.back {L L' : List Asn} {A : Asn} (t : Take L A L') : ∀ {h : Hp}, Sat L h → Sat (A :: L') h := fun s => t.sat s
theorem SL.take {e : Env} {w : World} {L L' : List Asn} {A : Asn} (s : SL e w L) (t : Take L A L') : SL e w (A :: L') := ⟨s.env, t.sat s.sat⟩
theorem SL.drop {e : Env} {w : World} {L : List Asn} {A : Asn} (s : SL e w (A :: L)) : SL e w L := ⟨s.env, s.sat.drop⟩
theorem SL.swap {e : Env} {w : World} {L : List Asn} {A B : Asn} (s : SL e w (A :: B :: L)) : SL e w (B :: A :: L) := ⟨s.env, s.sat.swap⟩
theorem SL.imp {e : Env} {w : World} {L : List Asn} {A B : Asn} (s : SL e w (A :: L)) (h : ∀ h, A h → B h) : SL e w (B :: L) := by
  obtain ⟨h1, h2, d, l1, l2, a, s'⟩ := s.sat
  exact ⟨s.env, h1, h2, d, l1, l2, h _ a, s'⟩
/-- under the head -/
theorem Sat.tail {A : Asn} {L L' : List Asn} (t : ∀ h, Sat L h → Sat L' h) {h : Hp} (s : Sat (A :: L) h) : Sat (A :: L') h := by
  obtain ⟨h1, h2, d, l1, l2, a, s⟩ := s
  exact ⟨h1, h2, d, l1, l2, a, t _ s⟩

/-- L' is made of L's: each once at most -/
inductive Sub : List Asn → List Asn → Prop
  | refl (L : List Asn) : Sub L L
  | nil (L : List Asn) : Sub L []
  | take {L L1 L' : List Asn} {A : Asn} (t : Take L A L1) (s : Sub L1 L') : Sub L (A :: L')
  | skip {L L' : List Asn} (A : Asn) (s : Sub L L') : Sub (A :: L) L'
theorem Sub.sat {L L' : List Asn} (u : Sub L L') : ∀ {h : Hp}, Sat L h → Sat L' h := by
  induction u with
  | refl => exact fun s => s
  | nil => exact fun _ => trivial
  | take t _ ih => exact fun s => Sat.tail (fun _ => ih) (t.sat s)
  | skip A _ ih => exact fun s => ih s.drop
theorem SL.sub {e : Env} {w : World} {L L' : List Asn} (s : SL e w L) (u : Sub L L') : SL e w L' := ⟨s.env, u.sat s.sat⟩

/-- predicates that stay as memory grows -/
class Mono (φ : Hp → Prop) : Prop where
  up : ∀ {h h' : Hp}, h.le h' → φ h → φ h'
def Ent (L : List Asn) (φ : Hp → Prop) : Prop := ∀ h, Sat L h → φ h
theorem Ent.here {A : Asn} {L : List Asn} {φ : Hp → Prop} [Mono φ] (h : ∀ h, A h → φ h) : Ent (A :: L) φ := by
  rintro h0 ⟨h1, h2, d, l1, l2, a, s⟩
  exact Mono.up l1 (h _ a)
theorem Ent.there {A : Asn} {L : List Asn} {φ : Hp → Prop} (h : Ent L φ) : Ent (A :: L) φ := fun h0 s => h h0 s.drop
theorem Ent.imp {L : List Asn} {φ ψ : Hp → Prop} (h : Ent L φ) (k : ∀ h, φ h → ψ h) : Ent L ψ := fun h0 s => k _ (h h0 s)
theorem Ent.and {L : List Asn} {φ ψ : Hp → Prop} (h : Ent L φ) (k : Ent L ψ) : Ent L (fun h => φ h ∧ ψ h) := fun h0 s => ⟨h h0 s, k h0 s⟩
theorem Ent.at {L : List Asn} {φ : Hp → Prop} (h : Ent L φ) {e : Env} {w : World} (s : SL e w L) : φ (hpOf w) := h _ s.sat

/-! blocks -/
def Blk (b : Nat) (cells : Array Value) (T : TypeId) : Asn := fun h => h b = some (.cells cells T (0, 0))
instance (b : Nat) (cells : Array Value) (T : TypeId) : Mono (Blk b cells T) := ⟨fun hl e => hl _ _ e⟩
def CellIs (a : Addr) (v : Value) : Hp → Prop := fun h => h.cell a = some v
instance (a : Addr) (v : Value) : Mono (CellIs a v) := ⟨fun hl e => Hp.cell_mono hl e⟩
theorem blk_cell {b : Nat} {cells : Array Value} {T : TypeId} {i : Nat} {v : Value} (hv : cells[i]? = some v) : ∀ h, Blk b cells T h → CellIs ⟨b, i, none⟩ v h := by
  intro h hb
  simp only [CellIs, Hp.cell, Blk] at *
  rw [hb]
  simpa using hv
/-- cells one by one from an address on -/
def CellsAre (a : Addr) (vs : List Value) : Hp → Prop := fun h => ∀ j v, vs[j]? = some v → h.cell (a.add j) = some v
instance (a : Addr) (vs : List Value) : Mono (CellsAre a vs) := ⟨fun hl e j v hj => Hp.cell_mono hl (e j v hj)⟩

/-! worlds -/
theorem hpOf_alloc (w : World) (o : Obj) : (hpOf w).le (hpOf { w with heap := w.heap.push o }) := by
  intro b o' e
  unfold hpOf at *
  have hb : b < w.heap.size := by
    rcases Nat.lt_or_ge b w.heap.size with h | h
    · exact h
    · rw [Array.getElem?_eq_none h] at e; cases e
  show (w.heap.push o)[b]? = _
  rw [Array.getElem?_push, if_neg (by omega)]; exact e
def single (b : Nat) (o : Obj) : Hp := fun x => if x = b then some o else none
theorem SL.new {e : Env} {w : World} {L : List Asn} (s : SL e w L) (o : Obj) (A : Asn) (hA : A (single w.heap.size o)) :
    SL e { w with heap := w.heap.push o } (A :: L) := by
  refine ⟨s.env, single w.heap.size o, hpOf w, ?_, ?_, hpOf_alloc w o, hA, s.sat⟩
  · intro b
    by_cases hb : b = w.heap.size
    · right; subst hb; simp [hpOf]
    · left; simp [single, hb]
  · intro b o' h
    unfold single at h
    split at h
    · rename_i hb; subst hb
      show (w.heap.push o)[w.heap.size]? = _
      rw [Array.getElem?_push, if_pos rfl]; exact h
    · cases h

end Go.SL

namespace Go.SL
set_option linter.unusedVariables false
set_option linter.unusedSimpArgs false

def fr (l : List Value) : Act := ⟨l.toArray, []⟩
def ev (l : List Value) : Operand → Value
  | .tmp t => l.getD t undef
  | .const v => v
  | .global g => .pointer (some ⟨g, 0, none⟩)
  | .func f => .func (.func f) #[] #[]
theorem fr_eval (l : List Value) : (fr l).eval = ev l := by
  funext x; cases x <;> simp [fr, Act.eval, ev]
theorem fr_put (l : List Value) (d : Nat) (v : Value) : (fr l).put (some d) v = fr (l.set d v) := by
  simp [fr, Act.put]
theorem fr_put_none (l : List Value) (v : Value) : (fr l).put none v = fr l := rfl

/-- operation o yields v in every world of L and leaves it -/
def Yl (e : Env) (P : Program) (o : Oper) (l : List Value) (L : List Asn) (v : Value) : Prop :=
  ∀ w, SL e w L → (execOp (ev l) o).run P w = .ok (.value v) w

section
variable {P : Program} {e : Env} {o : Oper} {l l' : List Value} {L : List Asn} {ops : Array Oper} {rest : List Oper} {w : World} {Q : Exit → Act → World → Prop}

theorem wanted_none (hg : o.guard = none) (t : Nat → Option Bool) : Region.wanted o t = true := by simp [Region.wanted, hg]

theorem l_val {v : Value} {d : Nat} (s : SL e w L) (y : Yl e P o l L v) (hg : o.guard = none) (hd : o.dst = some d) (hl : l.set d v = l')
    (k : wpList P ops Q rest (fr l') w) : wpList P ops Q (o :: rest) (fr l) w := by
  refine wpList_plain hg fun K hK => ?_
  unfold Oper.wp
  rw [fr_eval, y w s]
  simp only [Oper.upon, hd, fr_put, hl]
  exact hK _ _ k
theorem q_val {v : Value} {d : Nat} {R : Act → Prop} (y : Yl e P o l L v) (hg : o.guard = none) (hd : o.dst = some d) (hl : l.set d v = l')
    (k : wpQuiet P ops (fun w => SL e w L) R rest (fr l')) : wpQuiet P ops (fun w => SL e w L) R (o :: rest) (fr l) := by
  refine wpQuiet_step fun K hK => ?_
  rw [if_pos (wanted_none hg _)]
  refine ⟨v, fun w s => ?_, ?_⟩
  · unfold Oper.quietAt
    rw [fr_eval, y w s]
    exact ⟨rfl, rfl⟩
  · rw [hd, fr_put, hl]; exact hK _ k

/-! plain operations -/
theorem y_move {x : Operand} (ho : o.op = .move x) : Yl e P o l L (ev l x) := fun w _ => by
  unfold execOp; rw [ho]; rfl
theorem y_assign {x : Operand} (ho : o.op = .assign x) : Yl e P o l L (ev l x) := fun w _ => by
  unfold execOp; rw [ho]; rfl
theorem y_pick {c x y : Operand} {b : Bool} (ho : o.op = .pick c x y) (hc : ev l c = .bool b) : Yl e P o l L (if b then ev l x else ev l y) := fun w _ => by
  unfold execOp; rw [ho]; simp [hc, asBool]

theorem w64 {n : Int} (h0 : -9223372036854775808 ≤ n) (h1 : n ≤ 9223372036854775807) : IntKind.i64.wrap n = n := IntWalk.i64_in _ ⟨h0, h1⟩

theorem run_int (op : BinOp) (T : TypeId) (k : IntKind) (a b : Int) (x y : Operand) (T' : TypeId) {v : Value}
    (ho : o.op = .binOp op T x y T') (hx : ev l x = .int k a) (hy : ev l y = .int k b) (h : ∀ w, (binOp op T (.int k a) (.int k b)).run P w = .ok v w) : Yl e P o l L v := fun w _ => by
  unfold execOp; rw [ho]
  simp only [hx, hy, Sem.run_bind]
  have hq : (eqGuard op T x y (.int k a) (.int k b)).run P w = .ok () w := by
    unfold eqGuard
    split <;> rfl
  rw [hq]; simp [h]
theorem y_add {T T' : TypeId} {x y : Operand} {a b : Int} (ho : o.op = .binOp .add T x y T') (hx : ev l x = .int .i64 a) (hy : ev l y = .int .i64 b)
    (h0 : -9223372036854775808 ≤ a + b) (h1 : a + b ≤ 9223372036854775807) : Yl e P o l L (.int .i64 (a + b)) :=
  run_int _ _ _ _ _ _ _ _ ho hx hy fun w => by simp [binOp, Op.intArith, w64 h0 h1]
theorem y_sub {T T' : TypeId} {x y : Operand} {a b : Int} (ho : o.op = .binOp .sub T x y T') (hx : ev l x = .int .i64 a) (hy : ev l y = .int .i64 b)
    (h0 : -9223372036854775808 ≤ a - b) (h1 : a - b ≤ 9223372036854775807) : Yl e P o l L (.int .i64 (a - b)) :=
  run_int _ _ _ _ _ _ _ _ ho hx hy fun w => by simp [binOp, Op.intArith, w64 h0 h1]
theorem y_mul {T T' : TypeId} {x y : Operand} {a b : Int} (ho : o.op = .binOp .mul T x y T') (hx : ev l x = .int .i64 a) (hy : ev l y = .int .i64 b)
    (h0 : -9223372036854775808 ≤ a * b) (h1 : a * b ≤ 9223372036854775807) : Yl e P o l L (.int .i64 (a * b)) :=
  run_int _ _ _ _ _ _ _ _ ho hx hy fun w => by simp [binOp, Op.intArith, w64 h0 h1]
/-- without a bound: what Go's int does -/
theorem y_add_w {T T' : TypeId} {x y : Operand} {a b : Int} (ho : o.op = .binOp .add T x y T') (hx : ev l x = .int .i64 a) (hy : ev l y = .int .i64 b) : Yl e P o l L (.int .i64 (IntKind.i64.wrap (a + b))) :=
  run_int _ _ _ _ _ _ _ _ ho hx hy fun w => by simp [binOp, Op.intArith]
theorem y_sub_w {T T' : TypeId} {x y : Operand} {a b : Int} (ho : o.op = .binOp .sub T x y T') (hx : ev l x = .int .i64 a) (hy : ev l y = .int .i64 b) : Yl e P o l L (.int .i64 (IntKind.i64.wrap (a - b))) :=
  run_int _ _ _ _ _ _ _ _ ho hx hy fun w => by simp [binOp, Op.intArith]
theorem y_mul_w {T T' : TypeId} {x y : Operand} {a b : Int} (ho : o.op = .binOp .mul T x y T') (hx : ev l x = .int .i64 a) (hy : ev l y = .int .i64 b) : Yl e P o l L (.int .i64 (IntKind.i64.wrap (a * b))) :=
  run_int _ _ _ _ _ _ _ _ ho hx hy fun w => by simp [binOp, Op.intArith]
/-- of numbers that aren't negative -/
theorem y_quo {T T' : TypeId} {x y : Operand} {a b : Int} (ho : o.op = .binOp .quo T x y T') (hx : ev l x = .int .i64 a) (hy : ev l y = .int .i64 b)
    (h0 : 0 ≤ a) (h1 : a ≤ 9223372036854775807) (hb : 0 < b) : Yl e P o l L (.int .i64 (a / b)) :=
  run_int _ _ _ _ _ _ _ _ ho hx hy fun w => by
    have h2 : a.tdiv b = a / b := Int.tdiv_eq_ediv_of_nonneg h0
    have h3 : 0 ≤ a / b := Int.ediv_nonneg h0 (by omega)
    have h4 : a / b ≤ a := Int.ediv_le_self _ h0
    simp [binOp, Op.intDiv, show ¬ b = 0 by omega, h2, w64 (show -9223372036854775808 ≤ a / b by omega) (by omega)]
theorem y_rem {T T' : TypeId} {x y : Operand} {a b : Int} (ho : o.op = .binOp .rem T x y T') (hx : ev l x = .int .i64 a) (hy : ev l y = .int .i64 b)
    (h0 : 0 ≤ a) (hb : 0 < b) : Yl e P o l L (.int .i64 (a % b)) :=
  run_int _ _ _ _ _ _ _ _ ho hx hy fun w => by
    simp [binOp, Op.intDiv, show ¬ b = 0 by omega, Int.tmod_eq_emod_of_nonneg h0]
/-- of any sign -/
theorem y_tquo {T T' : TypeId} {x y : Operand} {a b : Int} (ho : o.op = .binOp .quo T x y T') (hx : ev l x = .int .i64 a) (hy : ev l y = .int .i64 b)
    (hb : b ≠ 0) (h0 : -9223372036854775808 ≤ a.tdiv b) (h1 : a.tdiv b ≤ 9223372036854775807) : Yl e P o l L (.int .i64 (a.tdiv b)) :=
  run_int _ _ _ _ _ _ _ _ ho hx hy fun w => by simp [binOp, Op.intDiv, hb, w64 h0 h1]
theorem y_trem {T T' : TypeId} {x y : Operand} {a b : Int} (ho : o.op = .binOp .rem T x y T') (hx : ev l x = .int .i64 a) (hy : ev l y = .int .i64 b)
    (hb : b ≠ 0) : Yl e P o l L (.int .i64 (a.tmod b)) :=
  run_int _ _ _ _ _ _ _ _ ho hx hy fun w => by simp [binOp, Op.intDiv, hb]
theorem y_lss {T T' : TypeId} {x y : Operand} {k : IntKind} {a b : Int} (ho : o.op = .binOp .lss T x y T') (hx : ev l x = .int k a) (hy : ev l y = .int k b) : Yl e P o l L (.bool (decide (a < b))) :=
  run_int _ _ _ _ _ _ _ _ ho hx hy fun w => by simp [binOp, Op.intCmp]
theorem y_leq {T T' : TypeId} {x y : Operand} {k : IntKind} {a b : Int} (ho : o.op = .binOp .leq T x y T') (hx : ev l x = .int k a) (hy : ev l y = .int k b) : Yl e P o l L (.bool (decide (a ≤ b))) :=
  run_int _ _ _ _ _ _ _ _ ho hx hy fun w => by simp [binOp, Op.intCmp]
theorem y_gtr {T T' : TypeId} {x y : Operand} {k : IntKind} {a b : Int} (ho : o.op = .binOp .gtr T x y T') (hx : ev l x = .int k a) (hy : ev l y = .int k b) : Yl e P o l L (.bool (decide (a > b))) :=
  run_int _ _ _ _ _ _ _ _ ho hx hy fun w => by simp [binOp, Op.intCmp]
theorem y_geq {T T' : TypeId} {x y : Operand} {k : IntKind} {a b : Int} (ho : o.op = .binOp .geq T x y T') (hx : ev l x = .int k a) (hy : ev l y = .int k b) : Yl e P o l L (.bool (decide (a ≥ b))) :=
  run_int _ _ _ _ _ _ _ _ ho hx hy fun w => by simp [binOp, Op.intCmp]
theorem y_eql {T T' : TypeId} {x y : Operand} {k : IntKind} {a b : Int} (ho : o.op = .binOp .eql T x y T') (hx : ev l x = .int k a) (hy : ev l y = .int k b) : Yl e P o l L (.bool (decide (a = b))) :=
  run_int _ _ _ _ _ _ _ _ ho hx hy fun w => by
    have : (a == b) = decide (a = b) := by by_cases h : a = b <;> simp [h]
    simp [binOp, Op.intCmp, this]
theorem y_neq {T T' : TypeId} {x y : Operand} {k : IntKind} {a b : Int} (ho : o.op = .binOp .neq T x y T') (hx : ev l x = .int k a) (hy : ev l y = .int k b) : Yl e P o l L (.bool (decide (a ≠ b))) :=
  run_int _ _ _ _ _ _ _ _ ho hx hy fun w => by
    have : (a != b) = decide (a ≠ b) := by by_cases h : a = b <;> simp [h]
    simp [binOp, Op.intCmp, this]
theorem y_not {T : TypeId} {x : Operand} {b : Bool} (ho : o.op = .unOp .not T x) (hx : ev l x = .bool b) : Yl e P o l L (.bool (!b)) := fun w _ => by
  unfold execOp; rw [ho]; simp [hx, Op.unary]
theorem y_neg {T : TypeId} {x : Operand} {a : Int} (ho : o.op = .unOp .neg T x) (hx : ev l x = .int .i64 a) (h0 : -9223372036854775807 ≤ a) (h1 : a ≤ 9223372036854775807) : Yl e P o l L (.int .i64 (-a)) := fun w _ => by
  unfold execOp; rw [ho]; simp [hx, Op.unary, Op.intArith, w64 (show -9223372036854775808 ≤ -a by omega) (by omega)]
theorem y_extract {x : Operand} {i : Nat} {vs : Array Value} {v : Value} (ho : o.op = .extract x i) (hx : ev l x = .tuple vs) (hv : vs[i]? = some v) : Yl e P o l L v := fun w _ => by
  unfold execOp; rw [ho]; simp [hx, Instr.extract, hv]
theorem y_nilCheck {x : Operand} {a : Addr} (ho : o.op = .nilCheck x) (hx : ev l x = .pointer (some a)) : Yl e P o l L (.pointer (some a)) := fun w _ => by
  unfold execOp; rw [ho]; simp [hx]
end
end Go.SL

namespace Go.SL
set_option linter.unusedVariables false
set_option linter.unusedSimpArgs false

abbrev ptr (b i : Nat) : Value := .pointer (some ⟨b, i, none⟩)
theorem add_plain (b i n : Nat) : (⟨b, i, none⟩ : Addr).add n = ⟨b, i + n, none⟩ := by
  unfold Addr.add; split <;> simp_all
theorem add_add (a : Addr) (m n : Nat) : (a.add m).add n = a.add (m + n) := by
  unfold Addr.add
  by_cases hm : m = 0
  · subst hm; simp
  · by_cases hn : n = 0
    · subst hn; simp
    · simp [hm, hn, show ¬ (m + n = 0) by omega, Nat.add_assoc]

/-- what is known of a type -/
structure TI (P : Program) (T : TypeId) (d : TypeDesc) (sz bytes : Nat) (z : Value) : Prop where
  u : P.underlying T = some d
  i : (P.info? T).map (fun i => (i.size, i.bytes, i.zero)) = some (sz, bytes, some z)
def aggB (P : Program) (T : TypeId) : Bool := match P.underlying T with
  | some (.struct _) | some (.array _ _) => true
  | _ => false
def sizeB (P : Program) (T : TypeId) : Option Nat := (P.info? T).map (·.size)
def bytesB (P : Program) (T : TypeId) : Option Nat := (P.info? T).map (·.bytes)
def zeroB (P : Program) (T : TypeId) : Option Value := (P.info? T).bind (·.zero)
def elemB (P : Program) (T : TypeId) : Option TypeId := match P.underlying T with
  | some (.slice e) => some e
  | _ => none
def arrB (P : Program) (T : TypeId) : Option (Nat × TypeId) := match P.underlying T with
  | some (.array n e) => some (n, e)
  | _ => none
def fieldB (P : Program) (T : TypeId) (f : Nat) : Option (Nat × TypeId) := match P.underlying T with
  | some (.struct fs) => (fs[f]?).map fun x => (x.offset, x.type)
  | _ => none
def someU (P : Program) (T : TypeId) : Bool := (P.underlying T).isSome

section
variable {P : Program} {e : Env} {o : Oper} {l l' : List Value} {L L' : List Asn} {ops : Array Oper} {rest : List Oper} {w : World} {Q : Exit → Act → World → Prop}

theorem run_typeInfo {T : TypeId} {i : TypeInfo} (h : P.info? T = some i) (w : World) : (typeInfo T).run P w = .ok i w := by
  simp [typeInfo, h]
theorem run_und {T : TypeId} {d : TypeDesc} (h : P.underlying T = some d) (w : World) : (underlying T).run P w = .ok d w := by
  simp [underlying, h]
theorem run_sizeOf {T : TypeId} {n : Nat} (h : sizeB P T = some n) (w : World) : (sizeOf T).run P w = .ok n w := by
  unfold sizeB at h
  cases hi : P.info? T with
  | none => rw [hi] at h; cases h
  | some i => rw [hi] at h; simp at h; simp [sizeOf, typeInfo, hi, h]
theorem run_zero {T : TypeId} {z : Value} (h : zeroB P T = some z) (w : World) : (zeroValue T).run P w = .ok z w := by
  unfold zeroB at h
  cases hi : P.info? T with
  | none => rw [hi] at h; cases h
  | some i => rw [hi] at h; simp at h; simp [zeroValue, typeInfo, hi, h]
theorem run_isAgg {T : TypeId} {b : Bool} (hs : someU P T = true) (h : aggB P T = b) (w : World) : (isAgg T).run P w = .ok b w := by
  unfold someU at hs
  unfold aggB at h
  cases hu : P.underlying T with
  | none => rw [hu] at hs; cases hs
  | some d => rw [hu] at h; subst h; simp only [isAgg, Sem.run_bind, run_und hu, Result.andThen_ok]; cases d <;> simp

/-! reads -/
theorem y_load {T : TypeId} {x : Operand} {a : Addr} {v : Value} (ho : o.op = .load T x) (hs : someU P T = true) (hT : aggB P T = false) (hx : ev l x = .pointer (some a))
    (hc : Ent L (CellIs a v)) : Yl e P o l L v := fun w s => by
  have h1 : w.cell? a = some v := hc.at s
  unfold execOp; rw [ho]
  simp [hx, Instr.loadAt, Instr.sureAddr, loadVar, run_isAgg hs hT, h1]
theorem y_load_agg {T : TypeId} {x : Operand} {a : Addr} {vs : List Value} {n : Nat} (ho : o.op = .load T x) (hs : someU P T = true) (hT : aggB P T = true) (hn : sizeB P T = some n) (hx : ev l x = .pointer (some a))
    (hc : Ent L (CellsAre a vs)) (hl : vs.length = n) : Yl e P o l L (.agg vs.toArray) := fun w s => by
  have h1 : CellsAre a vs (hpOf w) := hc.at s
  unfold execOp; rw [ho]
  simp only [hx, Instr.loadAt, Instr.sureAddr, loadVar, run_isAgg hs hT, Sem.run_bind, Sem.run_pure, Result.andThen_ok, if_true, run_sizeOf hn, ← hl]
  rw [run_loadCells_list w a vs (fun j v hj => h1 j v hj)]
  rfl
theorem y_fieldAddr {T T1 : TypeId} {x : Operand} {f off n : Nat} {a : Addr} (ho : o.op = .fieldAddr T x f) (hf : fieldB P T f = some (off, T1)) (hn : sizeB P T1 = some (n + 1)) (hx : ev l x = .pointer (some a)) :
    Yl e P o l L (.pointer (some (a.add off))) := fun w _ => by
  unfold fieldB at hf
  cases hu : P.underlying T with
  | none => rw [hu] at hf; cases hf
  | some d =>
    rw [hu] at hf
    cases d <;> try (cases hf; done)
    rename_i fs
    simp only [Option.map_eq_some_iff, Prod.mk.injEq] at hf
    obtain ⟨g, hg, rfl, rfl⟩ := hf
    unfold execOp; rw [ho]
    simp [hx, Instr.fieldAt, run_und hu, hg, Instr.sureAddr, fieldPlace, run_sizeOf hn]
theorem y_fieldAddrB {T T1 : TypeId} {x : Operand} {f off n b i : Nat} (ho : o.op = .fieldAddr T x f) (hf : fieldB P T f = some (off, T1)) (hn : sizeB P T1 = some (n + 1)) (hx : ev l x = ptr b i) :
    Yl e P o l L (ptr b (i + off)) := fun w s => by
  have := y_fieldAddr (e := e) (L := L) ho hf hn hx w s
  rwa [add_plain] at this

/-! new blocks -/
theorem l_new {d : Nat} {A : Nat → Asn} (s : SL e w L) (hg : o.guard = none) (hd : o.dst = some d) (f : Nat → Value) (ob : Obj)
    (y : ∀ w, (execOp (ev l) o).run P w = .ok (.value (f w.heap.size)) { w with heap := w.heap.push ob }) (hA : ∀ b, A b (single b ob))
    (k : ∀ b w', SL e w' (A b :: L) → wpList P ops Q rest (fr (l.set d (f b))) w') : wpList P ops Q (o :: rest) (fr l) w := by
  refine wpList_plain hg fun K hK => ?_
  unfold Oper.wp
  rw [fr_eval, y w]
  simp only [Oper.upon, hd, fr_put]
  exact hK _ _ (k _ _ (s.new ob _ (hA _)))
theorem blk_single (b : Nat) (cells : Array Value) (T : TypeId) : Blk b cells T (single b (.cells cells T)) := by
  simp [Blk, single]
theorem l_box {T : TypeId} {x : Operand} {d : Nat} {v : Value} (s : SL e w L) (ho : o.op = .box T x) (hg : o.guard = none) (hd : o.dst = some d) (hx : ev l x = v)
    (k : ∀ b w', SL e w' (Blk b v.cells T :: L) → wpList P ops Q rest (fr (l.set d (ptr b 0))) w') : wpList P ops Q (o :: rest) (fr l) w :=
  l_new s hg hd (fun b => ptr b 0) (.cells v.cells T) (fun w => by
    unfold execOp; rw [ho]; simp [hx, Instr.box, newVar, newRow]) (fun b => blk_single b _ _) k
theorem l_alloc {T : TypeId} {d : Nat} {z : Value} (s : SL e w L) (ho : o.op = .alloc T) (hg : o.guard = none) (hd : o.dst = some d) (hz : zeroB P T = some z)
    (k : ∀ b w', SL e w' (Blk b z.cells T :: L) → wpList P ops Q rest (fr (l.set d (ptr b 0))) w') : wpList P ops Q (o :: rest) (fr l) w :=
  l_new s hg hd (fun b => ptr b 0) (.cells z.cells T) (fun w => by
    unfold execOp; rw [ho]; simp [Instr.alloc, run_zero hz, newVar, newRow]) (fun b => blk_single b _ _) k

/-! writes -/
def Hp.upd (h : Hp) (b : Nat) (o : Obj) : Hp := fun x => if x = b then some o else h x
/-- block b of the list becomes cells' -/
inductive Wr : List Asn → Nat → Nat → Value → List Asn → Prop
  | blk {b : Nat} {cells cells' : Array Value} {T : TypeId} {i : Nat} {u : Value} {L : List Asn} (hi : i < cells.size) (hc : cells.setIfInBounds i u = cells') : Wr (Blk b cells T :: L) b i u (Blk b cells' T :: L)
  | row {b i : Nat} {u : Value} {A A' : Asn} {L : List Asn} (h : ∀ h, A h → ∃ cells T, h b = some (.cells cells T (0, 0)) ∧ i < cells.size ∧ A' (h.upd b (.cells (cells.setIfInBounds i u) T (0, 0)))) : Wr (A :: L) b i u (A' :: L)
  | there {L L' : List Asn} {b i : Nat} {u : Value} (B : Asn) (h : Wr L b i u L') : Wr (B :: L) b i u (B :: L')
theorem Wr.sat {L L' : List Asn} {b i : Nat} {u : Value} (t : Wr L b i u L') : ∀ {h : Hp}, Sat L h → ∃ cells T, h b = some (.cells cells T (0, 0)) ∧ i < cells.size ∧ Sat L' (h.upd b (.cells (cells.setIfInBounds i u) T (0, 0))) := by
  have key : ∀ {A A' : Asn} {L : List Asn} {b i : Nat} {u : Value}, (∀ h, A h → ∃ cells T, h b = some (.cells cells T (0, 0)) ∧ i < cells.size ∧ A' (h.upd b (.cells (cells.setIfInBounds i u) T (0, 0)))) → ∀ {h : Hp}, Sat (A :: L) h →
      ∃ cells T, h b = some (.cells cells T (0, 0)) ∧ i < cells.size ∧ Sat (A' :: L) (h.upd b (.cells (cells.setIfInBounds i u) T (0, 0))) := by
    intro A A' L b i u hA h s
    obtain ⟨h1, h2, d, l1, l2, a, s⟩ := s
    obtain ⟨cells, T, hb, hi, a'⟩ := hA _ a
    refine ⟨cells, T, l1 _ _ hb, hi, h1.upd b _, h2, ?_, ?_, ?_, a', s⟩
    · intro x
      rcases d x with e' | e'
      · by_cases hx : x = b
        · subst hx; rw [hb] at e'; cases e'
        · left; simp [Hp.upd, hx, e']
      · exact .inr e'
    · intro x o' e'
      unfold Hp.upd at *
      split
      · rename_i hx; simpa [hx] using e'
      · rename_i hx; simp only [hx, if_false] at e'; exact l1 _ _ e'
    · intro x o' e'
      unfold Hp.upd
      split
      · rename_i hx; subst hx
        rcases d x with e'' | e''
        · rw [hb] at e''; cases e''
        · rw [e''] at e'; cases e'
      · exact l2 _ _ e'
  induction t with
  | blk hi hc => exact fun s => key (A := Blk _ _ _) (A' := Blk _ _ _) (fun h hb => ⟨_, _, hb, hi, by simp [Blk, Hp.upd, hc]⟩) s
  | row h => exact fun s => key h s
  | @there _ _ b0 _ _ B t ih =>
    intro h s
    obtain ⟨h1, h2, d, l1, l2, a, s⟩ := s
    obtain ⟨cells, T, hb, hi, s'⟩ := ih s
    refine ⟨cells, T, l2 _ _ hb, hi, h1, Hp.upd h2 _ _, ?_, ?_, ?_, a, s'⟩
    · intro x
      rcases d x with e' | e'
      · exact .inl e'
      · by_cases hx : x = b0
        · subst hx; rw [hb] at e'; cases e'
        · right; simp only [Hp.upd]; rw [if_neg hx]; exact e'
    · intro x o' e'
      unfold Hp.upd
      split
      · rename_i hx; subst hx
        rcases d x with e'' | e''
        · rw [e''] at e'; cases e'
        · rw [hb] at e''; cases e''
      · exact l1 _ _ e'
    · intro x o' e'
      unfold Hp.upd at *
      split
      · rename_i hx; simpa [hx] using e'
      · rename_i hx; simp only [hx, if_false] at e'; exact l2 _ _ e'
theorem hpOf_setCell {w : World} {b i : Nat} {u : Value} {cells : Array Value} {T : TypeId} (h : hpOf w b = some (.cells cells T (0, 0))) :
    hpOf (w.setCell ⟨b, i, none⟩ u) = (hpOf w).upd b (.cells (cells.setIfInBounds i u) T (0, 0)) := by
  funext x
  simp only [hpOf, World.setCell, Array.getElem?_modify, Hp.upd] at *
  by_cases hx : b = x
  · subst hx; simp [h]
  · simp [hx, show ¬ x = b from fun e => hx e.symm]
theorem SL.set {b i : Nat} {u : Value} (s : SL e w L) (t : Wr L b i u L') (hu : u.oneCell' = true) :
    (store ⟨b, i, none⟩ u).run P w = .ok () (w.setCell ⟨b, i, none⟩ u) ∧ SL e (w.setCell ⟨b, i, none⟩ u) L' := by
  obtain ⟨cells, T, hb, hi, s'⟩ := t.sat s.sat
  have hc : w.cell? ⟨b, i, none⟩ = some cells[i] := by
    show (hpOf w).cell _ = _
    simp only [Hp.cell, hb]
    simp [hi]
  have hf : w.frozen? ⟨b, i, none⟩ = false := by
    have hb' : w.heap[b]? = some (.cells cells T (0, 0)) := hb
    simp [World.frozen?, hb']
  refine ⟨by rw [run_store P w _ u _ hu, hc]; simp [hf], ?_⟩
  refine ⟨s.env, ?_⟩
  rw [hpOf_setCell hb]; exact s'
theorem cells_one {u : Value} (hu : u.oneCell' = true) : u.cells = #[u] := by
  cases u <;> first | rfl | (simp [Value.oneCell'] at hu)
theorem l_store {T : TypeId} {x y : Operand} {b i : Nat} {u : Value} (s : SL e w L) (ho : o.op = .store T x y) (hg : o.guard = none) (hd : o.dst = none)
    (hn : sizeB P T = some 1) (hx : ev l x = ptr b i) (hy : ev l y = u) (hu : u.oneCell' = true) (t : Wr L b i u L')
    (k : ∀ w', SL e w' L' → wpList P ops Q rest (fr l) w') : wpList P ops Q (o :: rest) (fr l) w := by
  refine wpList_plain hg fun K hK => ?_
  obtain ⟨h1, h2⟩ := s.set (P := P) t hu
  have h : (execOp (ev l) o).run P w = .ok .skip (w.setCell ⟨b, i, none⟩ u) := by
    unfold execOp; rw [ho]
    have e0 : (⟨b, i, none⟩ : Addr).add 0 = ⟨b, i, none⟩ := rfl
    simp [hx, hy, Instr.storeAt, Instr.sureAddr, storeVar, run_sizeOf hn, cells_one hu, storeCells, e0, h1]
  unfold Oper.wp
  rw [fr_eval, h]
  simp only [Oper.upon, hd, fr_put_none]
  exact hK _ _ (k _ h2)
end
end Go.SL

namespace Go.SL
set_option linter.unusedVariables false
set_option linter.unusedSimpArgs false

/-- how the elements of a slice lie in cells -/
structure Ty (α : Type) where
  sz : Nat
  enc : α → List Value
  len : ∀ x, (enc x).length = sz
  pos : 0 < sz
  one : ∀ x, ∀ u ∈ enc x, u.oneCell' = true
  d : α
def encs {α : Type} (c : Ty α) (xs : List α) : List Value := xs.flatMap c.enc
section
variable {α : Type} {c : Ty α}
theorem encs_nil : encs c [] = [] := rfl
theorem encs_cons (x : α) (xs : List α) : encs c (x :: xs) = c.enc x ++ encs c xs := by simp [encs]
theorem encs_append (xs ys : List α) : encs c (xs ++ ys) = encs c xs ++ encs c ys := by simp [encs]
theorem encs_length (xs : List α) : (encs c xs).length = xs.length * c.sz := by
  induction xs with
  | nil => simp [encs]
  | cons x xs ih => rw [encs_cons, List.length_append, c.len, ih, List.length_cons, Nat.add_mul]; omega
theorem encs_one (xs : List α) : ∀ u ∈ encs c xs, u.oneCell' = true := by
  intro u hu
  simp only [encs, List.mem_flatMap] at hu
  obtain ⟨x, _, h⟩ := hu
  exact c.one x u h
theorem encs_get (xs : List α) {i j : Nat} (hi : i < xs.length) (hj : j < c.sz) : (encs c xs)[i * c.sz + j]? = (c.enc (xs.getD i c.d))[j]? := by
  induction xs generalizing i with
  | nil => simp at hi
  | cons x xs ih =>
    rw [encs_cons]
    cases i with
    | zero =>
      simp only [Nat.zero_mul, Nat.zero_add, List.getD_cons_zero]
      rw [List.getElem?_append_left (by rw [c.len]; exact hj)]
    | succ i =>
      rw [List.getElem?_append_right (by rw [c.len, Nat.add_mul]; omega), c.len, List.getD_cons_succ]
      rw [show (i + 1) * c.sz + j - c.sz = i * c.sz + j by rw [Nat.add_mul]; omega]
      exact ih (by simpa using hi)
theorem encs_set (xs : List α) {i j : Nat} {y : α} {u : Value} (hi : i < xs.length) (hj : j < c.sz) (hy : c.enc y = (c.enc (xs.getD i c.d)).set j u) :
    encs c (xs.set i y) = (encs c xs).set (i * c.sz + j) u := by
  induction xs generalizing i with
  | nil => simp at hi
  | cons x xs ih =>
    cases i with
    | zero =>
      simp only [Nat.zero_mul, Nat.zero_add, List.getD_cons_zero, List.set_cons_zero, encs_cons] at *
      rw [hy, List.set_append_left _ _ (by rw [c.len]; exact hj)]
    | succ i =>
      simp only [List.getD_cons_succ, List.set_cons_succ, encs_cons] at *
      rw [ih (by simpa using hi) hy, List.set_append_right _ _ (by rw [c.len, Nat.add_mul]; omega), c.len]
      rw [show (i + 1) * c.sz + j - c.sz = i * c.sz + j by rw [Nat.add_mul]; omega]
theorem encs_take (xs : List α) (n : Nat) : encs c (xs.take n) = (encs c xs).take (n * c.sz) := by
  induction xs generalizing n with
  | nil => simp [encs]
  | cons x xs ih =>
    cases n with
    | zero => simp [encs]
    | succ n =>
      have h : (n + 1) * c.sz = c.sz + n * c.sz := by rw [Nat.add_mul]; omega
      rw [List.take_succ_cons, encs_cons, encs_cons, ih, h, List.take_append, c.len, List.take_of_length_le (l := c.enc x) (by rw [c.len]; omega), Nat.add_sub_cancel_left]
theorem encs_drop (xs : List α) (n : Nat) : encs c (xs.drop n) = (encs c xs).drop (n * c.sz) := by
  induction xs generalizing n with
  | nil => simp [encs]
  | cons x xs ih =>
    cases n with
    | zero => simp
    | succ n =>
      have h : (n + 1) * c.sz = c.sz + n * c.sz := by rw [Nat.add_mul]; omega
      rw [List.drop_succ_cons, encs_cons, ih, h, List.drop_append, c.len, List.drop_eq_nil_of_le (as := c.enc x) (by rw [c.len]; omega), Nat.add_sub_cancel_left, List.nil_append]
end

/-- what is read through a slice -/
def SlR {α : Type} (c : Ty α) (v : Value) (xs : List α) : Hp → Prop := fun h =>
  ∃ A k, v = .slice A xs.length k ∧ xs.length ≤ k ∧ match A with | none => xs = [] | some a => CellsAre a (encs c xs) h
instance {α : Type} (c : Ty α) (v : Value) (xs : List α) : Mono (SlR c v xs) := ⟨by
  rintro h h' hl ⟨A, k, e, hk, m⟩
  refine ⟨A, k, e, hk, ?_⟩
  cases A with
  | none => exact m
  | some a => exact Mono.up (φ := CellsAre a (encs c xs)) hl m⟩
/-- a slice whose block is ours -/
def Arr {α : Type} (c : Ty α) (T : TypeId) (v : Value) (xs : List α) : Asn := fun h =>
  (v = .slice none 0 0 ∧ xs = []) ∨
  ∃ b off cap cells, v = .slice (some ⟨b, off, none⟩) xs.length cap ∧ xs.length ≤ cap ∧ h b = some (.cells cells T (0, 0)) ∧ off + cap * c.sz ≤ cells.size ∧
    ∀ j u, (encs c xs)[j]? = some u → cells[off + j]? = some u
theorem arr_reads {α : Type} {c : Ty α} {T : TypeId} {v : Value} {xs : List α} : ∀ h, Arr c T v xs h → SlR c v xs h := by
  rintro h (⟨rfl, rfl⟩ | ⟨b, off, cap, cells, rfl, hc, hb, hs, hu⟩)
  · exact ⟨none, 0, rfl, Nat.le_refl _, rfl⟩
  · refine ⟨_, cap, rfl, hc, fun j u hj => ?_⟩
    rw [add_plain]
    simp only [Hp.cell, hb]
    simpa using hu j u hj
theorem blk_reads {α : Type} {c : Ty α} {b n : Nat} {cells : Array Value} {T : TypeId} {xs : List α} (hn : xs.length = n) (he : encs c xs = cells.toList) :
    ∀ h, Blk b cells T h → SlR c (.slice (some ⟨b, 0, none⟩) n n) xs h := by
  intro h hb
  subst hn
  refine ⟨_, _, rfl, Nat.le_refl _, fun j u hj => ?_⟩
  rw [add_plain]
  simp only [Hp.cell, Blk] at *
  rw [hb]
  rw [he] at hj
  simpa using hj
theorem blk_arr {α : Type} {c : Ty α} {b n : Nat} {cells : Array Value} {T : TypeId} {xs : List α} (hn : xs.length = n) (he : encs c xs = cells.toList) :
    ∀ h, Blk b cells T h → Arr c T (.slice (some ⟨b, 0, none⟩) n n) xs h := by
  intro h hb
  subst hn
  refine .inr ⟨b, 0, _, cells, rfl, Nat.le_refl _, hb, ?_, fun j u hj => ?_⟩
  · have := congrArg List.length he
    rw [encs_length] at this
    simp at this
    omega
  · rw [he] at hj
    simpa using hj

/-- the place of a slice's cell -/
def elp : Value → Nat → Value
  | .slice (some a) _ _, n => .pointer (some (a.add n))
  | _, _ => undef

section
variable {α : Type} {c : Ty α} {P : Program} {e : Env} {o : Oper} {l l' : List Value} {L L' L2 : List Asn} {ops : Array Oper} {rest : List Oper} {w : World} {Q : Exit → Act → World → Prop}

theorem run_len {T : TypeId} {E : TypeId} {A : Option Addr} {n k : Nat} {x : Operand} {at_ : Array TypeId} (ho : o.op = .call { callee := .builtin .len, args := #[x], argTypes := at_ }) (hat : at_[0]? = some T) (hT : elemB P T = some E)
    (hx : ev l x = .slice A n k) (w : World) : (execOp (ev l) o).run P w = .ok (.value (.int .i64 n)) w := by
  unfold elemB at hT
  cases hu : P.underlying T with
  | none => rw [hu] at hT; cases hT
  | some d =>
    rw [hu] at hT
    cases d <;> try (cases hT; done)
    unfold execOp; rw [ho]
    simp [resolve, invoke, builtin, Builtin.len_, hat, run_und hu, hx, goInt]
theorem y_len {T E : TypeId} {x : Operand} {v : Value} {xs : List α} {at_ : Array TypeId} (ho : o.op = .call { callee := .builtin .len, args := #[x], argTypes := at_ }) (hat : at_[0]? = some T) (hT : elemB P T = some E)
    (hx : ev l x = v) (hr : Ent L (SlR c v xs)) : Yl e P o l L (.int .i64 xs.length) := fun w s => by
  obtain ⟨A, k, rfl, _⟩ := hr.at s
  exact run_len ho hat hT hx w
theorem elemB_und {T E : TypeId} (hT : elemB P T = some E) : P.underlying T = some (.slice E) := by
  unfold elemB at hT
  cases hu : P.underlying T with
  | none => rw [hu] at hT; cases hT
  | some d => rw [hu] at hT; cases d <;> first | (cases hT; done) | (simp at hT; subst hT; rfl)
theorem y_indexAddr {T E : TypeId} {x y : Operand} {v : Value} {xs : List α} {k : IntKind} {i : Int} (ho : o.op = .indexAddr T x y) (hT : elemB P T = some E) (hz : sizeB P E = some c.sz)
    (hx : ev l x = v) (hy : ev l y = .int k i) (hr : Ent L (SlR c v xs)) (h0 : 0 ≤ i) (h1 : i < xs.length) : Yl e P o l L (elp v (i.toNat * c.sz)) := fun w s => by
  obtain ⟨A, n, rfl, hn, m⟩ := hr.at s
  have hu := elemB_und hT
  cases A with
  | none => simp only at m; subst m; simp at h1; omega
  | some a =>
    unfold execOp; rw [ho]
    simp [Instr.indexAt, hx, hy, asIntOf, run_und hu, h0, h1, run_sizeOf hz, elp]
theorem y_load_el {T : TypeId} {x : Operand} {v : Value} {xs : List α} {n i j : Nat} {u : Value} (ho : o.op = .load T x) (hs : someU P T = true) (hT : aggB P T = false) (hx : ev l x = elp v n) (hr : Ent L (SlR c v xs)) (hi : i < xs.length)
    (hn : n = i * c.sz + j) (hj : j < c.sz) (hu : (c.enc (xs.getD i c.d))[j]? = some u) : Yl e P o l L u := fun w s => by
  obtain ⟨A, k, rfl, hk, m⟩ := hr.at s
  cases A with
  | none => simp only at m; subst m; simp at hi
  | some a =>
    have h1 : w.cell? (a.add n) = some u := m n u (by rw [hn, encs_get xs hi hj]; exact hu)
    unfold execOp; rw [ho]
    simp [hx, elp, Instr.loadAt, Instr.sureAddr, loadVar, run_isAgg hs hT, h1]
theorem y_load_el_agg {T : TypeId} {x : Operand} {v : Value} {xs : List α} {n i : Nat} (ho : o.op = .load T x) (hs : someU P T = true) (hT : aggB P T = true) (hz : sizeB P T = some c.sz) (hx : ev l x = elp v n) (hr : Ent L (SlR c v xs)) (hi : i < xs.length)
    (hn : n = i * c.sz) : Yl e P o l L (.agg (c.enc (xs.getD i c.d)).toArray) := fun w s => by
  obtain ⟨A, k, rfl, hk, m⟩ := hr.at s
  cases A with
  | none => simp only at m; subst m; simp at hi
  | some a =>
    have h1 : ∀ j u, (c.enc (xs.getD i c.d))[j]? = some u → w.cell? ((a.add n).add j) = some u := fun j u hj => by
      have hj' : j < c.sz := by
        rcases Nat.lt_or_ge j c.sz with h | h
        · exact h
        · rw [List.getElem?_eq_none (by rw [c.len]; exact h)] at hj; cases hj
      rw [add_add]
      exact m _ u (by rw [hn, encs_get xs hi hj']; exact hj)
    have h2 := run_loadCells_list (P := P) w (a.add n) _ h1
    rw [c.len] at h2
    unfold execOp; rw [ho]
    simp [hx, elp, Instr.loadAt, Instr.sureAddr, loadVar, run_isAgg hs hT, run_sizeOf hz, h2]
theorem y_fieldAddr_el {T T1 : TypeId} {x : Operand} {f off n m : Nat} {v : Value} {xs : List α} (ho : o.op = .fieldAddr T x f) (hf : fieldB P T f = some (off, T1)) (hn : sizeB P T1 = some (n + 1)) (hx : ev l x = elp v m) (hr : Ent L (SlR c v xs)) (hne : xs ≠ []) :
    Yl e P o l L (elp v (m + off)) := fun w s => by
  obtain ⟨A, k, rfl, hk, mm⟩ := hr.at s
  cases A with
  | none => exact absurd mm hne
  | some a =>
    have := y_fieldAddr (e := e) (L := L) ho hf hn (a := a.add m) (by rw [hx]; rfl) w s
    rwa [add_add] at this
/-- a write into an element's cell -/
theorem wr_arr {T : TypeId} {v : Value} {xs : List α} {b off n i j : Nat} {A : Option Nat} {len cap : Nat} {u : Value} {y : α} (hv : v = .slice (some ⟨b, off, A⟩) len cap) (hi : i < xs.length) (hn : n = i * c.sz + j) (hj : j < c.sz)
    (hy : c.enc y = (c.enc (xs.getD i c.d)).set j u) : Wr (Arr c T v xs :: L) b (off + n) u (Arr c T v (xs.set i y) :: L) := by
  subst hn
  refine Wr.row fun h ha => ?_
  rcases ha with ⟨rfl, rfl⟩ | ⟨b', off', cap', cells, e1, hc, hb, hs, hu⟩
  · simp at hi
  · rw [e1] at hv
    simp only [Value.slice.injEq, Option.some.injEq, Addr.mk.injEq] at hv
    obtain ⟨⟨rfl, rfl, rfl⟩, rfl, rfl⟩ := hv
    have hlt : i * c.sz + j < xs.length * c.sz := by
      have : (i + 1) * c.sz ≤ xs.length * c.sz := Nat.mul_le_mul_right _ hi
      rw [Nat.add_mul] at this; omega
    have hlt2 : off' + (i * c.sz + j) < cells.size := by
      have : xs.length * c.sz ≤ cap' * c.sz := Nat.mul_le_mul_right _ hc
      omega
    refine ⟨cells, T, hb, hlt2, .inr ⟨b', off', cap', _, by rw [List.length_set]; exact e1, by rw [List.length_set]; exact hc, by simp [Hp.upd]; rfl, by simpa using hs, fun k z hk => ?_⟩⟩
    rw [encs_set xs hi hj hy, List.getElem?_set] at hk
    rw [Array.getElem?_setIfInBounds]
    by_cases hk' : i * c.sz + j = k
    · subst hk'
      rw [if_pos rfl] at hk
      rw [if_pos rfl, if_pos hlt2]
      split at hk
      · exact hk
      · cases hk
    · rw [if_neg hk'] at hk
      rw [if_neg (by omega)]
      exact hu k z hk
theorem l_store_el {T E : TypeId} {x z : Operand} {v : Value} {xs : List α} {n i j : Nat} {u : Value} {y : α} (s : SL e w L) (t : Take L (Arr c E v xs) L') (ho : o.op = .store T x z) (hg : o.guard = none) (hd : o.dst = none)
    (hz : sizeB P T = some 1) (hx : ev l x = elp v n) (hy : ev l z = u) (hu : u.oneCell' = true) (hi : i < xs.length) (hn : n = i * c.sz + j) (hj : j < c.sz) (he : c.enc y = (c.enc (xs.getD i c.d)).set j u)
    (k : ∀ w', SL e w' (Arr c E v (xs.set i y) :: L') → wpList P ops Q rest (fr l) w') : wpList P ops Q (o :: rest) (fr l) w := by
  have s1 := s.take t
  obtain ⟨h1, h2, _, _, _, ha, _⟩ := s1.sat
  rcases ha with ⟨rfl, rfl⟩ | ⟨b, off, cap, cells, rfl, _⟩
  · simp at hi
  · have hx' : ev l x = ptr b (off + n) := by rw [hx]; simp only [elp, add_plain]
    exact l_store s1 ho hg hd hz hx' hy hu (wr_arr rfl hi hn hj he) k
end
end Go.SL

namespace Go.SL
set_option linter.unusedVariables false
set_option linter.unusedSimpArgs false

/-- returns, and so -/
def Rets (R : Value → World → Prop) : Ending → World → Prop
  | .returned v, w => R v w
  | _, _ => False
theorem Rets.mono {P : Program} {f : FuncId} {vs : Array Value} {w : World} {R R' : Value → World → Prop} (h : Calls P f vs w (Rets R)) (hr : ∀ v w', R v w' → R' v w') : Calls P f vs w (Rets R') :=
  h.mono fun e w' r => by cases e <;> first | exact hr _ _ r | exact r.elim
def callB (P : Program) (f : FuncId) : Bool := match P.funcs[f]? with
  | some fn => fn.body.isSome && fn.name != "runtime.NumGoroutine"
  | none => false

section
variable {P : Program} {e : Env} {o : Oper} {l l' : List Value} {L L' : List Asn} {ops : Array Oper} {rest : List Oper} {w : World} {Q : Exit → Act → World → Prop}

theorem run_callFunc {f : FuncId} (hB : callB P f = true) (vs : Array Value) (w : World) : (callFunc f vs).run P w = .ok (.enter f vs) w := by
  unfold callB at hB
  cases hf : P.funcs[f]? with
  | none => rw [hf] at hB; cases hB
  | some fn =>
    rw [hf] at hB
    simp only [Bool.and_eq_true, bne_iff_ne, ne_eq] at hB
    have hb : ¬ fn.body.isNone = true := by cases h : fn.body <;> simp_all
    simp only [callFunc, Sem.run_bind, run_program, Result.andThen_ok, hf]
    rw [if_neg (by simpa using hB.2), if_neg hb]
    rfl
theorem run_call {f : FuncId} {as : Array Operand} {ts : Array TypeId} {vs : Array Value} {cl : Operand} {first cap : Array Value} (ho : o.op = .call { callee := .value cl, args := as, argTypes := ts }) (hcl : ev l cl = .func (.func f) first cap) (hB : callB P f = true) (ha : first ++ as.map (ev l) ++ cap = vs) (w : World) :
    (execOp (ev l) o).run P w = .ok (.enter f vs) w := by
  unfold execOp; rw [ho]
  simp [resolve, hcl, Deferred.ofValue, invoke, ha, run_callFunc hB]
theorem l_callC {f d : Nat} {as : Array Operand} {ts : Array TypeId} {vs : Array Value} {cl : Operand} {first cap : Array Value} {R : Value → World → Prop} (ho : o.op = .call { callee := .value cl, args := as, argTypes := ts }) (hg : o.guard = none) (hd : o.dst = some d)
    (hcl : ev l cl = .func (.func f) first cap) (hB : callB P f = true) (ha : first ++ as.map (ev l) ++ cap = vs) (hc : Calls P f vs w (Rets R))
    (k : ∀ v w', R v w' → wpList P ops Q rest (fr (l.set d v)) w') : wpList P ops Q (o :: rest) (fr l) w := by
  refine wpList_plain hg fun K hK => ?_
  unfold Oper.wp
  rw [fr_eval, run_call ho hcl hB ha w]
  simp only [Oper.upon]
  refine hc.mono fun en w' r => ?_
  cases en with
  | returned v => simp only [hd, fr_put]; exact hK _ _ (k _ _ r)
  | panicked c => exact r.elim
  | outgrown => exact r.elim
theorem l_call {f d : Nat} {as : Array Operand} {ts : Array TypeId} {vs : Array Value} {R : Value → World → Prop} (ho : o.op = .call { callee := .value (.func f), args := as, argTypes := ts }) (hg : o.guard = none) (hd : o.dst = some d)
    (hB : callB P f = true) (ha : as.map (ev l) = vs) (hc : Calls P f vs w (Rets R))
    (k : ∀ v w', R v w' → wpList P ops Q rest (fr (l.set d v)) w') : wpList P ops Q (o :: rest) (fr l) w :=
  l_callC (f := f) (first := #[]) (cap := #[]) ho hg hd rfl hB (by simpa using ha) hc k
/-- a call whose result is not wanted -/
theorem l_call0 {f : Nat} {as : Array Operand} {ts : Array TypeId} {vs : Array Value} {R : Value → World → Prop} (ho : o.op = .call { callee := .value (.func f), args := as, argTypes := ts }) (hg : o.guard = none) (hd : o.dst = none)
    (hB : callB P f = true) (ha : as.map (ev l) = vs) (hc : Calls P f vs w (Rets R))
    (k : ∀ v w', R v w' → wpList P ops Q rest (fr l) w') : wpList P ops Q (o :: rest) (fr l) w := by
  refine wpList_plain hg fun K hK => ?_
  unfold Oper.wp
  rw [fr_eval, run_call (f := f) (first := #[]) (cap := #[]) ho rfl hB (by simpa using ha) w]
  simp only [Oper.upon]
  refine hc.mono fun en w' r => ?_
  cases en with
  | returned v => simp only [hd, fr_put_none]; exact hK _ _ (k _ _ r)
  | panicked c => exact r.elim
  | outgrown => exact r.elim
/-- a call that tells the same in every world of L, and leaves one -/
theorem q_call {f d : Nat} {as : Array Operand} {ts : Array TypeId} {vs : Array Value} {v : Value} {R : Act → Prop} (ho : o.op = .call { callee := .value (.func f), args := as, argTypes := ts }) (hg : o.guard = none) (hd : o.dst = some d)
    (hB : callB P f = true) (ha : as.map (ev l) = vs) (hc : ∀ w, SL e w L → Calls P f vs w (Rets fun u w' => u = v ∧ SL e w' L)) (hl : l.set d v = l')
    (k : wpQuiet P ops (fun w => SL e w L) R rest (fr l')) : wpQuiet P ops (fun w => SL e w L) R (o :: rest) (fr l) := by
  refine wpQuiet_step fun K hK => ?_
  rw [if_pos (wanted_none hg _)]
  refine ⟨v, fun w s => ?_, ?_⟩
  · unfold Oper.quietAt
    rw [fr_eval, run_call (f := f) (first := #[]) (cap := #[]) ho rfl hB (by simpa using ha) w]
    refine ⟨rfl, (hc w s).mono fun en w' r => ?_⟩
    cases en with
    | returned u => exact ⟨by rw [r.1], r.2⟩
    | panicked c => exact r.elim
    | outgrown => exact r.elim
  · rw [hd, fr_put, hl]; exact hK _ k

/-! guards -/
theorem l_skip {l' : List Value} {d : Nat} {rest : List Oper} (hg : Region.wanted o (yielded ops (fr l).tmps) = false) (hd : o.dst = some d) (hl : l.set d undef = l')
    (k : wpList P ops Q rest (fr l') w) : wpList P ops Q (o :: rest) (fr l) w := by
  refine wpList_step fun K hK => ?_
  rw [if_neg (by rw [hg]; simp), hd, fr_put, hl]
  exact hK _ _ k
theorem q_skip {d : Nat} {R : Act → Prop} (hg : Region.wanted o (yielded ops (fr l).tmps) = false) (hd : o.dst = some d) (hl : l.set d undef = l')
    (k : wpQuiet P ops (fun w => SL e w L) R rest (fr l')) : wpQuiet P ops (fun w => SL e w L) R (o :: rest) (fr l) := by
  refine wpQuiet_step fun K hK => ?_
  rw [if_neg (by rw [hg]; simp), hd, fr_put, hl]
  exact hK _ k
theorem l_gval {v : Value} {d : Nat} (s : SL e w L) (y : Yl e P o l L v) (hg : Region.wanted o (yielded ops (fr l).tmps) = true) (hd : o.dst = some d) (hl : l.set d v = l')
    (k : wpList P ops Q rest (fr l') w) : wpList P ops Q (o :: rest) (fr l) w := by
  refine wpList_step fun K hK => ?_
  rw [if_pos hg]
  unfold Oper.wp
  rw [fr_eval, y w s]
  simp only [Oper.upon, hd, fr_put, hl]
  exact hK _ _ k
theorem q_gval {v : Value} {d : Nat} {R : Act → Prop} (y : Yl e P o l L v) (hg : Region.wanted o (yielded ops (fr l).tmps) = true) (hd : o.dst = some d) (hl : l.set d v = l')
    (k : wpQuiet P ops (fun w => SL e w L) R rest (fr l')) : wpQuiet P ops (fun w => SL e w L) R (o :: rest) (fr l) := by
  refine wpQuiet_step fun K hK => ?_
  rw [if_pos hg]
  refine ⟨v, fun w s => ?_, ?_⟩
  · unfold Oper.quietAt
    rw [fr_eval, y w s]
    exact ⟨rfl, rfl⟩
  · rw [hd, fr_put, hl]; exact hK _ k
theorem q_gcall {f d : Nat} {as : Array Operand} {ts : Array TypeId} {vs : Array Value} {v : Value} {R : Act → Prop} (ho : o.op = .call { callee := .value (.func f), args := as, argTypes := ts }) (hg : Region.wanted o (yielded ops (fr l).tmps) = true) (hd : o.dst = some d)
    (hB : callB P f = true) (ha : as.map (ev l) = vs) (hc : ∀ w, SL e w L → Calls P f vs w (Rets fun u w' => u = v ∧ SL e w' L)) (hl : l.set d v = l')
    (k : wpQuiet P ops (fun w => SL e w L) R rest (fr l')) : wpQuiet P ops (fun w => SL e w L) R (o :: rest) (fr l) := by
  refine wpQuiet_step fun K hK => ?_
  rw [if_pos hg]
  refine ⟨v, fun w s => ?_, ?_⟩
  · unfold Oper.quietAt
    rw [fr_eval, run_call (f := f) (first := #[]) (cap := #[]) ho rfl hB (by simpa using ha) w]
    refine ⟨rfl, (hc w s).mono fun en w' r => ?_⟩
    cases en with
    | returned u => exact ⟨by rw [r.1], r.2⟩
    | panicked c => exact r.elim
    | outgrown => exact r.elim
  · rw [hd, fr_put, hl]; exact hK _ k

/-! code -/
theorem c_seq {x y : Code} (h : x.wp P (Exit.then (y.wp P Q) Q) (fr l) w) : (Code.seq x y).wp P Q (fr l) w := wp_seq h
theorem c_region {id : Nat} {os : List Oper} (h : wpList P os.toArray Q os (fr l) w) : (Code.region id os.toArray false).wp P Q (fr l) w := wp_region_lit h
theorem c_quiet {id : Nat} {os : List Oper} (s : SL e w L) (hm : P.follows .mixedOrders = true) (hB : Region.lexB .any os.toArray = true)
    (h : wpQuiet P os.toArray (fun w => SL e w L) (fun a' => ∀ w', SL e w' L → Q .normal a' w') os (fr l)) : (Code.region id os.toArray true).wp P Q (fr l) w :=
  wp_region_quiet (C := fun w => SL e w L) hm hB ⟨s.env, s.sat⟩ (by simpa using h)
theorem l_end (h : Q .normal (fr l) w) : wpList P ops Q [] (fr l) w := h
theorem q_end (h : ∀ w', SL e w' L → Q .normal (fr l) w') : wpQuiet P ops (fun w => SL e w L) (fun a' => ∀ w', SL e w' L → Q .normal a' w') [] (fr l) := h
theorem c_cond {c : Operand} {x y : Code} {t : Bool} (hc : ev l c = .bool t) (ht : t = true → x.wp P Q (fr l) w) (hf : t = false → y.wp P Q (fr l) w) : (Code.cond c x y).wp P Q (fr l) w :=
  wp_cond_split (by rw [fr_eval]; exact hc) ht hf
theorem c_block {id : Nat} {c : Code} (h : c.wp P (Exit.inBlock id Q) (fr l) w) : (Code.block id c).wp P Q (fr l) w := wp_block h
theorem c_skip (h : Q .normal (fr l) w) : Code.skip.wp P Q (fr l) w := wp_skip h
theorem c_ret (h : Q .ret (fr l) w) : Code.ret.wp P Q (fr l) w := wp_ret h
theorem c_exit {id : Nat} (h : Q (.exit id) (fr l) w) : (Code.exit id).wp P Q (fr l) w := wp_exit h
theorem x_hit {id : Nat} (h : Q .normal (fr l) w) : Exit.inBlock id Q (.exit id) (fr l) w := by simp only [Exit.inBlock, if_true]; exact h
theorem x_miss {id id' : Nat} (hne : id' ≠ id) (h : Q (.exit id') (fr l) w) : Exit.inBlock id Q (.exit id') (fr l) w := by simp only [Exit.inBlock, if_neg hne]; exact h
theorem c_frame {c : Code} (hl : l = l') (k : c.wp P Q (fr l') w) : c.wp P Q (fr l) w := by rw [hl]; exact k

/-- the slots of the mask hold ds -/
def setMany : List Value → List Bool → List Value → List Value
  | _ :: l, true :: m, d :: ds => d :: setMany l m ds
  | v :: l, false :: m, ds => v :: setMany l m ds
  | l, _, _ => l
/-- a loop: J at each round's begin, of what stands in the slots W; the number falls -/
theorem c_loop {c : Code} (W : List Bool) (J : Nat → List Value → World → Prop) {n : Nat} {ds : List Value} (hl : l = setMany l W ds) (h0 : J n ds w)
    (hb : ∀ n ds w, J n ds w → c.wp P (Exit.then (fun a' w' => ∃ m ds', m < n ∧ a' = fr (setMany l W ds') ∧ J m ds' w') Q) (fr (setMany l W ds)) w) : (Code.loop c).wp P Q (fr l) w := by
  have key : ∀ N n ds w, n < N → J n ds w → Code.rounds P c Q N (fr (setMany l W ds)) w := by
    intro N
    induction N with
    | zero => intro n ds w h; omega
    | succ N ih =>
      intro n ds w hn hJ
      rw [rounds_succ]
      refine Code.wp_mono (fun e a' w' q => ?_) (hb n ds w hJ)
      cases e with
      | normal => obtain ⟨m, ds', hm, rfl, hJ'⟩ := q; exact ih m ds' w' (by omega) hJ'
      | exit id => exact q
      | goto l => exact q
      | ret => exact q
      | panic c => exact q
      | outgrown => exact q
  rw [hl]
  exact wp_loop_rounds (n + 1) (key (n + 1) n ds w (by omega) h0)

/-- where ways meet: J of what stands in the slots W -/
theorem c_cut {x y : Code} (W : List Bool) (J : List Value → World → Prop)
    (h1 : x.wp P (Exit.then (fun a' w' => ∃ ds, a' = fr (setMany l W ds) ∧ J ds w') Q) (fr l) w)
    (h2 : ∀ ds w, J ds w → y.wp P Q (fr (setMany l W ds)) w) : (Code.seq x y).wp P Q (fr l) w := by
  refine wp_seq (Code.wp_mono (fun e a w q => ?_) h1)
  cases e with
  | normal => obtain ⟨ds, rfl, hJ⟩ := q; exact h2 _ _ hJ
  | exit id => exact q
  | goto l => exact q
  | ret => exact q
  | panic c => exact q
  | outgrown => exact q

/-! calls -/
theorem enter {f : FuncId} {fn : Func} {c : Code} {vs : Array Value} {R : Value → World → Prop} (hf : P.funcs[f]? = some fn) (hb : fn.body = some c) (hl : vs.toList ++ List.replicate (fn.ntmps - vs.size) undef = l)
    (k : c.wp P (bodyPost P fn (Rets R)) (fr l) w) : Calls P f vs w (Rets R) := by
  refine calls_of_wp hf hb ?_
  have : (⟨vs ++ Array.replicate (fn.ntmps - vs.size) undef, []⟩ : Act) = fr l := by
    subst hl
    simp only [fr, Act.mk.injEq, and_true]
    apply Array.ext'
    simp
  rw [this]; exact k
theorem ret1 {fn : Func} {t : Nat} {R : Value → World → Prop} {v : Value} (hr : fn.results = #[.tmp t]) (hv : l.getD t undef = v) (h : R v w) : bodyPost P fn (Rets R) .ret (fr l) w :=
  ⟨rfl, v, by rw [results_tmp hr]; simp [fr, ← hv], h⟩
theorem ret2 {fn : Func} {t u : Nat} {R : Value → World → Prop} {v v' : Value} (hr : fn.results = #[.tmp t, .tmp u]) (hv : l.getD t undef = v) (hv' : l.getD u undef = v') (h : R (.tuple #[v, v']) w) : bodyPost P fn (Rets R) .ret (fr l) w :=
  ⟨rfl, .tuple #[v, v'], by rw [results_tmp2 hr]; simp [fr, ← hv, ← hv'], h⟩
theorem ret3 {fn : Func} {t u s : Nat} {R : Value → World → Prop} {v v' v'' : Value} (hr : fn.results = #[.tmp t, .tmp u, .tmp s]) (hv : l.getD t undef = v) (hv' : l.getD u undef = v') (hv'' : l.getD s undef = v'') (h : R (.tuple #[v, v', v'']) w) : bodyPost P fn (Rets R) .ret (fr l) w :=
  ⟨rfl, .tuple #[v, v', v''], by simp [results, hr, fr, ← hv, ← hv', ← hv''], h⟩
theorem ret4 {fn : Func} {t u s r : Nat} {R : Value → World → Prop} {v v' v'' v3 : Value} (hr : fn.results = #[.tmp t, .tmp u, .tmp s, .tmp r]) (hv : l.getD t undef = v) (hv' : l.getD u undef = v') (hv'' : l.getD s undef = v'') (hv3 : l.getD r undef = v3) (h : R (.tuple #[v, v', v'', v3]) w) : bodyPost P fn (Rets R) .ret (fr l) w :=
  ⟨rfl, .tuple #[v, v', v'', v3], by simp [results, hr, fr, ← hv, ← hv', ← hv'', ← hv3], h⟩
theorem ret0 {fn : Func} {R : Value → World → Prop} (hr : fn.results = #[]) (h : R (.tuple #[]) w) : bodyPost P fn (Rets R) .ret (fr l) w :=
  ⟨rfl, .tuple #[], by rw [results_none hr], h⟩
theorem end0 {fn : Func} {R : Value → World → Prop} (hr : fn.results = #[]) (h : R (.tuple #[]) w) : bodyPost P fn (Rets R) .normal (fr l) w :=
  ⟨rfl, .tuple #[], by rw [results_none hr], h⟩
end
end Go.SL

namespace Go.SL
set_option linter.unusedVariables false
set_option linter.unusedSimpArgs false

section
variable {α : Type} {c : Ty α} {P : Program} {e : Env} {o : Oper} {l l' : List Value} {L L' L2 : List Asn} {ops : Array Oper} {rest : List Oper} {w : World} {Q : Exit → Act → World → Prop}

/-- what an operation does that makes a value out of memory -/
theorem l_do {d : Nat} {v : Value} {w' : World} (hg : o.guard = none) (hd : o.dst = some d) (y : (execOp (ev l) o).run P w = .ok (.value v) w') (k : wpList P ops Q rest (fr (l.set d v)) w') : wpList P ops Q (o :: rest) (fr l) w := by
  refine wpList_plain hg fun K hK => ?_
  unfold Oper.wp
  rw [fr_eval, y]
  simp only [Oper.upon, hd, fr_put]
  exact hK _ _ k

/-! literals -/
theorem l_buildSlice {T E : TypeId} {d n sz : Nat} {parts : Array (Nat × Operand)} {z : Value} {cells : Array Value} (s : SL e w L) (ho : o.op = .buildSlice T n parts) (hg : o.guard = none) (hd : o.dst = some d) (hT : elemB P T = some E) (hz : sizeB P E = some sz) (hzero : zeroB P E = some z)
    (hlim : n * sz ≤ 2 ^ 24) (hfill : Instr.fill (fun i => some (i * sz, sz)) ((Array.range (n * sz)).map (fun j => (if n * sz = 0 then #[] else z.cells)[j % (if n * sz = 0 then #[] else z.cells).size]!)) (parts.map fun p => (p.1, ev l p.2)).toList = some cells)
    (k : ∀ b w', SL e w' (Blk b cells E :: L) → wpList P ops Q rest (fr (l.set d (.slice (some ⟨b, 0, none⟩) n n))) w') : wpList P ops Q (o :: rest) (fr l) w :=
  l_new s hg hd (fun b => .slice (some ⟨b, 0, none⟩) n n) (.cells cells E) (fun w => by
    unfold execOp; rw [ho]
    have hl : ¬ (n * sz > 2 ^ 24) := by omega
    by_cases h0 : n * sz = 0
    · simp only [h0, if_true] at hfill
      simp only [Instr.buildSlice, Sem.run_bind, run_und (elemB_und hT), Result.andThen_ok, run_sizeOf hz, if_neg hl, h0, if_true, Sem.run_pure, hfill]
      simp at hfill
      simp [newRow, hfill]
    · simp only [h0, if_false] at hfill
      simp only [Instr.buildSlice, Sem.run_bind, run_und (elemB_und hT), Result.andThen_ok, run_sizeOf hz, if_neg hl, h0, if_false, Sem.run_pure, run_zero hzero, hfill]
      simp [newRow]) (fun b => blk_single b _ _) k

/-! make -/
theorem zeros_cells (z : Value) (m : Nat) : ((Array.range (m * z.cells.size)).map (fun j => z.cells[j % z.cells.size]!)).toList = (List.replicate m z.cells.toList).flatten := by
  induction m with
  | zero => simp
  | succ m ih =>
    have e1 : (m + 1) * z.cells.size = m * z.cells.size + z.cells.size := by rw [Nat.add_mul]; omega
    rw [List.replicate_succ', List.flatten_append, ← ih, e1]
    simp only [Array.toList_map, Array.toList_range, List.flatten_singleton, List.range_add, List.map_append, List.map_map]
    congr 1
    apply List.ext_getElem
    · simp
    · intro i h1 h2
      simp only [List.length_map, List.length_range] at h1
      simp [Nat.add_mod, Nat.mod_eq_of_lt h1, h1]
theorem encs_replicate (m : Nat) (x : α) : encs c (List.replicate m x) = (List.replicate m (c.enc x)).flatten := by
  simp [encs, List.flatMap, List.map_replicate]
theorem l_make {T E : TypeId} {d bytes : Nat} {x y : Operand} {z : Value} {zx : α} {kx ky : IntKind} {n m : Int} (s : SL e w L) (ho : o.op = .makeSlice T x y) (hg : o.guard = none) (hd : o.dst = some d) (hT : elemB P T = some E) (hz : sizeB P E = some c.sz) (hb : bytesB P E = some bytes) (hzero : zeroB P E = some z)
    (hx : ev l x = .int kx n) (hy : ev l y = .int ky m) (h0 : 0 ≤ n) (h1 : n ≤ m) (h2 : m * bytes ≤ 140737488355328) (hbp : 0 < bytes) (henc : c.enc zx = z.cells.toList)
    (k : ∀ v w', SL e w' (Arr c E v (List.replicate n.toNat zx) :: L) → wpList P ops Q rest (fr (l.set d v)) w') : wpList P ops Q (o :: rest) (fr l) w := by
  obtain ⟨N, rfl⟩ := Int.eq_ofNat_of_zero_le h0
  obtain ⟨M, rfl⟩ := Int.eq_ofNat_of_zero_le (Int.le_trans h0 h1)
  have hMb : M * bytes ≤ 140737488355328 := by
    rw [← Int.natCast_mul] at h2
    omega
  have hM : M ≤ 140737488355328 := Nat.le_trans (Nat.le_mul_of_pos_right M hbp) hMb
  have hNM : N ≤ M := by omega
  have wN : IntKind.i64.wrap (N : Int) = N := w64 (by omega) (by omega)
  have wM : IntKind.i64.wrap (M : Int) = M := w64 (by omega) (by omega)
  have hzs : z.cells.size = c.sz := by have := congrArg List.length henc; rw [c.len] at this; simpa using this.symm
  obtain ⟨ti, hti⟩ : ∃ ti, P.info? E = some ti := by
    unfold sizeB at hz; cases h : P.info? E with
    | none => rw [h] at hz; cases hz
    | some ti => exact ⟨ti, rfl⟩
  have hti2 : ti.bytes = bytes := by unfold bytesB at hb; rw [hti] at hb; simpa using hb
  have hrun : ∀ w, (execOp (ev l) o).run P w = .ok (.value (.slice (some ⟨w.heap.size, 0, none⟩) N M)) { w with heap := w.heap.push (.cells ((Array.range (M * c.sz)).map (fun j => z.cells[j % z.cells.size]!)) E) } := by
    intro w
    have ht1 : ((M : Int) < 0 || decide ((bytes : Int) * M > 2 ^ 48)) = false := by
      have : (bytes : Int) * M ≤ 140737488355328 := by rw [Int.mul_comm]; exact h2
      simp; omega
    have ht1' : ¬ ((M : Int) < 0) := by omega
    have ht2 : ¬ ((bytes : Int) * M > 2 ^ 48) := by have : (bytes : Int) * M ≤ 140737488355328 := by rw [Int.mul_comm]; exact h2
                                                    omega
    unfold execOp; rw [ho]
    simp only [Instr.makeSlice, Sem.run_bind, run_und (elemB_und hT), Result.andThen_ok, hx, hy, asInt, asIntOf, Sem.run_pure, run_typeInfo hti, hti2, wN, wM]
    have hc : ¬ (((decide ((M : Int) < 0) || decide ((bytes : Int) * M > 2 ^ 48)) || decide ((N : Int) < 0) || decide ((N : Int) > M)) = true) := by
      simp only [Bool.or_eq_true, decide_eq_true_eq, not_or]
      omega
    rw [if_neg hc]
    simp only [Sem.run_bind, run_askRoom, Result.andThen_ok, run_sizeOf hz, Int.toNat_natCast, Sem.run_ite, Sem.run_pure, run_zero hzero]
    by_cases hn : M * c.sz = 0
    · simp [hn, newRow, show Array.range 0 = #[] from rfl]
    · simp [hn, newRow]
  refine l_do hg hd (hrun w) (k _ _ ?_)
  refine (s.new (.cells ((Array.range (M * c.sz)).map (fun j => z.cells[j % z.cells.size]!)) E) (Arr c E (.slice (some ⟨w.heap.size, 0, none⟩) N M) (List.replicate N zx)) ?_)
  refine .inr ⟨w.heap.size, 0, M, _, by simp, by simpa using hNM, by simp [single]; rfl, by simp, fun j u hj => ?_⟩
  rw [encs_replicate] at hj
  have e1 : ((Array.range (M * c.sz)).map (fun j => z.cells[j % z.cells.size]!)).toList = (List.replicate M (c.enc zx)).flatten := by
    rw [← hzs, henc]; exact zeros_cells z M
  rw [Nat.zero_add, ← Array.getElem?_toList, e1, show M = N + (M - N) by omega, ← List.replicate_append_replicate, List.flatten_append]
  rw [List.getElem?_append_left]
  · exact hj
  · rcases Nat.lt_or_ge j (List.replicate N (c.enc zx)).flatten.length with h | h
    · exact h
    · rw [List.getElem?_eq_none h] at hj; cases hj

/-! append -/
theorem SL.setRow {A A' : Asn} {g : Nat} {cells cells' : Array Value} {T : TypeId} (s : SL e w (A :: L)) (hw : w.heap[g]? = some (.cells cells T (0, 0)))
    (hA : ∀ h, A h → (h g).isSome = true ∧ (h g = some (.cells cells T (0, 0)) → A' (h.upd g (.cells cells' T (0, 0))))) : SL e (w.setRow g cells') (A' :: L) := by
  obtain ⟨h1, h2, d, l1, l2, a, s'⟩ := s.sat
  obtain ⟨hsome, himp⟩ := hA _ a
  have hb : h1 g = some (.cells cells T (0, 0)) := by
    cases hg : h1 g with
    | none => rw [hg] at hsome; cases hsome
    | some ob => have := l1 _ _ hg; rw [← this]; exact hw
  have a' := himp hb
  refine ⟨s.env, h1.upd g _, h2, ?_, ?_, ?_, a', s'⟩
  · intro x
    rcases d x with e' | e'
    · by_cases hx : x = g
      · subst hx; rw [hb] at e'; cases e'
      · left; simp [Hp.upd, hx, e']
    · exact .inr e'
  · intro x o' e'
    unfold Hp.upd at e'
    by_cases hx : x = g
    · subst hx
      rw [if_pos rfl] at e'
      rw [← e']
      exact setRow_heap w x cells cells' T (0, 0) hw
    · rw [if_neg hx] at e'
      exact (setRow_other w g x cells' hx).trans (l1 _ _ e')
  · intro x o' e'
    by_cases hx : x = g
    · subst hx
      rcases d x with e'' | e''
      · rw [hb] at e''; cases e''
      · rw [e''] at e'; cases e'
    · exact (setRow_other w g x cells' hx).trans (l2 _ _ e')
theorem infoB {T : TypeId} {n : Nat} (h : sizeB P T = some n) : ∃ i, P.info? T = some i ∧ i.size = n := by
  unfold sizeB at h
  cases hi : P.info? T with
  | none => rw [hi] at h; cases h
  | some i => rw [hi] at h; exact ⟨i, rfl, by simpa using h⟩
theorem SL.drew (s : SL e w L) : SL e w.drew L := ⟨s.env, s.sat⟩
theorem run_append {T E : TypeId} {ty : TypeId} {bytes : Nat} {z : Value} {v x : Value} {xs ys : List α} (s : SL e w (Arr c E v xs :: L)) (hT : elemB P T = some E) (hz : sizeB P E = some c.sz) (hb : bytesB P E = some bytes) (hzero : zeroB P E = some z) (hzs : z.cells.size = c.sz)
    (hr : SlR c x ys (hpOf w)) (hlim : (xs.length + ys.length) * bytes ≤ 140737488355328) (hbp : 0 < bytes) :
    ∃ v' w', (Builtin.append_ #[T, T] ty #[v, x]).run P w = .ok v' w' ∧ SL e w' (Arr c E v' (xs ++ ys) :: L) := by
  obtain ⟨i, hi, his⟩ := infoB hz
  have hib : i.bytes = bytes := by unfold bytesB at hb; rw [hi] at hb; simpa using hb
  have hiz : i.zero = some z := by unfold zeroB at hzero; rw [hi] at hzero; simpa using hzero
  have ht := elemB_und hT
  have hsmall : xs.length + ys.length ≤ 140737488355328 := Nat.le_trans (Nat.le_mul_of_pos_right _ hbp) hlim
  obtain ⟨A, kx, rfl, hk, m⟩ := hr
  obtain ⟨h1, h2, d, l1, l2, ha, s'⟩ := s.sat
  have hfits : (encs c (xs ++ ys)).length = (xs.length + ys.length) * c.sz := by rw [encs_length, List.length_append]
  -- a new block that holds both
  have grown : ∀ old : Nat, old < xs.length + ys.length → ∀ W : World, SL e W L → W.heap.size = w.heap.size →
      SL e { W with heap := W.heap.push (.cells ((encs c xs).toArray ++ (encs c ys).toArray ++ Builtin.zeroCells z.cells (grownCap w (xs.length + ys.length) old E - (xs.length + ys.length))) E) }
        (Arr c E (.slice (some ⟨w.heap.size, 0, none⟩) (xs.length + ys.length) (grownCap w (xs.length + ys.length) old E)) (xs ++ ys) :: L) := by
    intro old ho W sW hW
    refine sW.new _ _ ?_
    rw [hW]
    refine .inr ⟨w.heap.size, 0, _, _, by rw [List.length_append], by rw [List.length_append]; exact grownCap_ge w _ old E, by simp [single]; rfl, ?_, fun j u hj => ?_⟩
    · have := grownCap_ge w (xs.length + ys.length) old E
      simp only [Array.size_append, List.size_toArray, size_zeroCells, hzs, encs_length, List.length_append, ← Nat.add_mul, Nat.zero_add]
      exact Nat.mul_le_mul_right _ (by omega)
    · rw [encs_append] at hj
      have hlt : j < (encs c xs ++ encs c ys).length := by
        rcases Nat.lt_or_ge j (encs c xs ++ encs c ys).length with h | h
        · exact h
        · rw [List.getElem?_eq_none h] at hj; cases hj
      rw [Nat.zero_add, Array.getElem?_append_left (by simpa using hlt), ← hj]
      simp
  cases A with
  | none =>
    simp only at m
    subst m
    have e0 : xs ++ [] = xs := by simp
    rw [e0]
    rcases ha with ⟨rfl, rfl⟩ | ⟨b, off, cap, cells, rfl, hc, hbk, hs, hu⟩
    · refine ⟨.slice none 0 0, w, ?_, s⟩
      simp [Builtin.append_, run_und ht, sizeOf, typeInfo, hi, Builtin.lenOf, Builtin.firstCells]
    · refine ⟨_, w, ?_, s⟩
      simp [Builtin.append_, run_und ht, sizeOf, typeInfo, hi, Builtin.lenOf, Builtin.firstCells, hc, storeCells]
  | some a =>
    simp only at m
    have hnews : ∀ j u, (encs c ys)[j]? = some u → w.cell? (a.add j) = some u := fun j u hj => m j u hj
    have hln : (encs c ys).length = ys.length * i.size := by rw [encs_length, his]
    rcases ha with ⟨rfl, rfl⟩ | ⟨b, off, cap, cells, rfl, hc, hbk, hs, hu⟩
    · by_cases hm : ys.length = 0
      · have hy : ys = [] := List.eq_nil_of_length_eq_zero hm
        subst hy
        refine ⟨.slice none 0 0, w, ?_, s⟩
        simp [Builtin.append_, run_und ht, sizeOf, typeInfo, hi, Builtin.lenOf, Builtin.firstCells, loadCells, loadCellsFrom]
      · have hr := run_append_nil (P := P) w T ty E i z ht hi hiz a ys.length kx (encs c ys) hln hnews (by omega) (by omega) (by rw [hib]; simp at hlim; omega)
        refine ⟨_, _, hr, ?_⟩
        have hgr := grown 0 (by omega) w.drew s.drop.drew rfl
        simp only [List.nil_append, List.length_nil, Nat.zero_add, encs_nil, Array.empty_append] at hgr ⊢
        exact hgr
    · have hbw : w.heap[b]? = some (.cells cells E (0, 0)) := l1 _ _ hbk
      have hlx : (encs c xs).length = xs.length * i.size := by rw [encs_length, his]
      by_cases hroom : xs.length + ys.length ≤ cap
      · have hf := run_firstCells_some (P := P) w i.size ys.length a ys.length kx (encs c ys) hln hnews
        have hcap : (xs.length + ys.length) * c.sz ≤ cap * c.sz := Nat.mul_le_mul_right _ hroom
        rw [Nat.add_mul] at hcap
        have hst := run_storeCells_at P b (off + xs.length * i.size) E (encs c ys) 0 cells w hbw (by rw [encs_length, his]; omega) (encs_one ys)
        simp only [Nat.add_zero] at hst
        refine ⟨.slice (some ⟨b, off, none⟩) (xs.length + ys.length) cap, w.setRow b (cells.toList.take (off + xs.length * i.size) ++ encs c ys ++ cells.toList.drop (off + xs.length * i.size + (encs c ys).length)).toArray, ?_, ?_⟩
        · simp [Builtin.append_, run_und ht, sizeOf, typeInfo, hi, Builtin.lenOf, hroom, hf, add_plain, hst]
        · refine s.setRow hbw fun h hh => ?_
          rcases hh with ⟨hv, _⟩ | ⟨b', off', cap', cells2, hv, hc', hbk', hs', hu'⟩
          · cases hv
          · simp only [Value.slice.injEq, Option.some.injEq, Addr.mk.injEq] at hv
            obtain ⟨⟨rfl, rfl, _⟩, _, rfl⟩ := hv
            refine ⟨by rw [hbk']; rfl, fun hbk2 => ?_⟩
            rw [hbk'] at hbk2
            simp only [Option.some.injEq, Obj.cells.injEq, and_true] at hbk2
            subst hbk2
            refine .inr ⟨b, off, cap, _, by rw [List.length_append], by rw [List.length_append]; exact hroom, by simp [Hp.upd]; rfl, ?_, fun j u hj => ?_⟩
            · simp only [List.size_toArray, List.length_append, List.length_take, List.length_drop, Array.length_toList, encs_length, his]
              omega
            · rw [encs_append] at hj
              simp only [List.getElem?_toArray, his]
              rw [List.getElem?_append]
              have hl1 : (cells2.toList.take (off + xs.length * c.sz)).length = off + xs.length * c.sz := by
                simp; omega
              by_cases hj1 : j < xs.length * c.sz
              · rw [if_pos (by rw [hl1]; omega), List.getElem?_take, if_pos (by omega)]
                rw [List.getElem?_append_left (by rw [encs_length]; exact hj1)] at hj
                have := hu j u hj
                simpa using this
              · rw [if_neg (by rw [hl1]; omega), hl1]
                rw [List.getElem?_append_right (by rw [encs_length]; omega), encs_length] at hj
                rw [List.getElem?_append_left, show off + j - (off + xs.length * c.sz) = j - xs.length * c.sz by omega]
                · exact hj
                · rcases Nat.lt_or_ge (off + j - (off + xs.length * c.sz)) (encs c ys).length with h | h
                  · exact h
                  · rw [show off + j - (off + xs.length * c.sz) = j - xs.length * c.sz by omega] at h
                    rw [List.getElem?_eq_none h] at hj; cases hj
      · have holds : ∀ j u, (encs c xs)[j]? = some u → w.cell? ((⟨b, off, none⟩ : Addr).add j) = some u := fun j u hj => by
          rw [add_plain]
          show (hpOf w).cell _ = _
          simp only [Hp.cell, hpOf, hbw]
          simpa using hu j u hj
        have hr := run_append_grow (P := P) w T ty E i z ht hi hiz ⟨b, off, none⟩ xs.length cap (encs c xs) hlx holds a ys.length kx (encs c ys) hln hnews (by omega) (by omega) (growslice_fits (by omega) (by rw [hib]; exact hlim))
        refine ⟨_, _, hr, ?_⟩
        have hgr := grown cap (by omega) w.drew s.drop.drew rfl
        exact hgr
theorem l_append {T E : TypeId} {d bytes : Nat} {x y : Operand} {z : Value} {v vy : Value} {xs ys : List α} (s : SL e w L) (t : Take L (Arr c E v xs) L') (ho : o.op = .call { callee := .builtin .append, args := #[x, y], argTypes := #[T, T] }) (hg : o.guard = none) (hd : o.dst = some d)
    (hT : elemB P T = some E) (hz : sizeB P E = some c.sz) (hb : bytesB P E = some bytes) (hzero : zeroB P E = some z) (hzs : z.cells.size = c.sz) (hx : ev l x = v) (hy : ev l y = vy) (hr : Ent L (SlR c vy ys)) (hlim : (xs.length + ys.length) * bytes ≤ 140737488355328) (hbp : 0 < bytes)
    (k : ∀ v' w', SL e w' (Arr c E v' (xs ++ ys) :: L') → wpList P ops Q rest (fr (l.set d v')) w') : wpList P ops Q (o :: rest) (fr l) w := by
  obtain ⟨v', w', h1, h2⟩ := run_append (P := P) (ty := o.type) (s.take t) hT hz hb hzero hzs (hr.at s) hlim hbp
  refine l_do (w' := w') (v := v') hg hd ?_ (k _ _ h2)
  unfold execOp; rw [ho]
  simp only [resolve, invoke, builtin, Sem.run_bind, Sem.run_pure, Result.andThen_ok, List.map_toArray, List.map_cons, List.map_nil, hx, hy, h1]
end
end Go.SL

namespace Go.SL
set_option linter.unusedVariables false
set_option linter.unusedSimpArgs false

/-! regions that draw their order: first what hangs on no memory, then in any order what reads or makes memory, then what waits for all of it -/
abbrev VS := Value → List Asn → Prop
/-- what an operation may come to: one value -/
def vq (v : Value) : VS := fun u E => u = v ∧ E = []
/-- a new block -/
def vb (f : Nat → Value) (A : Nat → Asn) : VS := fun u E => ∃ b, u = f b ∧ E = [A b]

section
variable {P : Program} {e : Env} {L : List Asn} {ops : Array Oper} {md : Region.Mode} {V : Nat → VS} {fs : List Nat}

def gUpon (P : Program) (e : Env) (M : List Asn) (V : VS) : Result Next → Prop
  | .ok (.value v) w' => ∃ E, V v E ∧ SL e w' (E ++ M)
  | .ok .skip w' => ∃ E, V undef E ∧ SL e w' (E ++ M)
  | .ok (.enter f args) w' => Calls P f args w' (Rets fun v w'' => ∃ E, V v E ∧ SL e w'' (E ++ M))
  | _ => False
def YG (P : Program) (e : Env) (L : List Asn) (ops : Array Oper) (o : Oper) (a : Act) (V : VS) : Prop :=
  (Region.wanted o (yielded ops a.tmps) = true ∧ ∀ w M, SL e w (M ++ L) → gUpon P e (M ++ L) V ((execOp a.eval o).run P w)) ∨
  (Region.wanted o (yielded ops a.tmps) = false ∧ V undef [] ∧ ∀ v E, V v E → v = undef ∧ E = [])

theorem YG.of_same {o : Oper} {V : VS} {a a' : Act} (h : YG P e L ops o a V) (he : execOp a'.eval o = execOp a.eval o) (hw : Region.wanted o (yielded ops a'.tmps) = Region.wanted o (yielded ops a.tmps)) : YG P e L ops o a' V := by
  unfold YG at *
  rw [he, hw]; exact h
theorem YG.wpOp {i : Nat} {o : Oper} {V : VS} {a : Act} {w : World} {M : List Asn} {K : Act → World → Prop} {Q : Exit → Act → World → Prop} (hi : ops[i]? = some o) (h : YG P e L ops o a V) (s : SL e w (M ++ L))
    (k : ∀ v E w', V v E → SL e w' (E ++ M ++ L) → K (a.put o.dst v) w') : wpOp P ops Q i K a w := by
  unfold Go.wpOp
  simp only [hi]
  rcases h with ⟨hw, h⟩ | ⟨hw, hu, hv⟩
  · rw [if_pos hw]
    left
    have h1 := h w M s
    unfold Oper.wp
    generalize (execOp a.eval o).run P w = r at *
    cases r with
    | halt x w' => exact h1.elim
    | ok n w' =>
      cases n <;> simp only [gUpon] at h1 <;> simp only [Oper.upon]
      case value v => obtain ⟨E, hv, s'⟩ := h1; exact k v E _ hv (by rw [List.append_assoc]; exact s')
      case skip => obtain ⟨E, hv, s'⟩ := h1; exact k undef E _ hv (by rw [List.append_assoc]; exact s')
      case enter f args =>
        refine h1.mono fun en w'' r => ?_
        cases en with
        | returned v => obtain ⟨E, hv, s'⟩ := r; exact k v E _ hv (by rw [List.append_assoc]; exact s')
        | panicked c => exact r.elim
        | outgrown => exact r.elim
  · rw [if_neg (by rw [hw]; simp)]
    exact k undef [] w hu s

theorem Sat.perm {L L' : List Asn} (p : L.Perm L') : ∀ {h : Hp}, Sat L h → Sat L' h := by
  induction p with
  | nil => exact fun s => s
  | cons x _ ih => exact fun s => Sat.tail (fun _ => ih) s
  | swap x y l => exact fun s => s.swap
  | trans _ _ ih1 ih2 => exact fun s => ih2 (ih1 s)
theorem SL.perm {w : World} {L L' : List Asn} (s : SL e w L) (p : L.Perm L') : SL e w L' := ⟨s.env, s.sat.perm p⟩

def AnyD (P : Program) (e : Env) (L : List Asn) (ops : Array Oper) (md : Region.Mode) (V : Nat → VS) (fs : List Nat) (K : Act → List Asn → Prop) : Nat → Array Bool → Act → List Asn → Prop
  | 0, listed, a, M => (∀ i ∈ Region.ready md ops listed, i ∉ fs) ∧ K a M
  | f + 1, listed, a, M => ((∀ i ∈ Region.ready md ops listed, i ∉ fs) → K a M) ∧
      ∀ i ∈ Region.ready md ops listed, i ∈ fs → ∃ o, ops[i]? = some o ∧ YG P e L ops o a (V i) ∧ ∀ v E, V i v E → AnyD P e L ops md V fs K f (listed.setIfInBounds i true) (a.put o.dst v) (E ++ M)
theorem AnyD.perm {K : Act → List Asn → Prop} (hK : ∀ a M M', M.Perm M' → K a M → K a M') : ∀ (f : Nat) (listed : Array Bool) (a : Act) (M M' : List Asn), M.Perm M' → AnyD P e L ops md V fs K f listed a M → AnyD P e L ops md V fs K f listed a M'
  | 0, _, _, _, _, p, h => ⟨h.1, hK _ _ _ p h.2⟩
  | f + 1, listed, a, M, M', p, h => ⟨fun h0 => hK _ _ _ p (h.1 h0), fun i hi hf => by
      obtain ⟨o, ho, hy, hn⟩ := h.2 i hi hf
      exact ⟨o, ho, hy, fun v E hv => AnyD.perm hK f _ _ _ _ (List.Perm.append_left E p) (hn v E hv)⟩⟩

theorem AnyD.first {K : Act → List Asn → Prop} (hK : ∀ a M M', M.Perm M' → K a M → K a M') {i : Nat} {oi : Oper} (hi : ops[i]? = some oi) (hif : i ∈ fs) (hsel : ∀ (j : Nat) (o : Oper) cs b, ops[j]? = some o → o.op ≠ .select cs b) (hin : ∃ v E, V i v E) :
    ∀ (f : Nat) (listed : Array Bool) (a : Act) (M : List Asn),
      (∀ j oj, ops[j]? = some oj → j ≠ i → listed.getD j true = false → (∀ e ∈ oj.after, Region.binds md e = true → e.on ≠ i) → oi.apart ops oj = true) →
      i ∈ Region.ready md ops listed → YG P e L ops oi a (V i) → (∀ v E, V i v E → AnyD P e L ops md V fs K f (listed.setIfInBounds i true) (a.put oi.dst v) (E ++ M)) → AnyD P e L ops md V fs K (f + 1) listed a M := by
  obtain ⟨v0, E0, hv0⟩ := hin
  intro f
  induction f with
  | zero =>
    intro listed a M _ hr hy H
    refine ⟨fun h => absurd hif (h i hr), fun j hj hjf => ?_⟩
    by_cases hji : j = i
    · subst hji; exact ⟨oi, hi, hy, H⟩
    · exact absurd hjf ((H v0 E0 hv0).1 j (ready_mono hj hji))
  | succ f ih =>
    intro listed a M hfree hr hy H
    refine ⟨fun h => absurd hif (h i hr), fun j hj hjf => ?_⟩
    by_cases hji : j = i
    · subst hji; exact ⟨oi, hi, hy, H⟩
    · obtain ⟨oj, hoj, hyj, hnj⟩ := (H v0 E0 hv0).2 j (ready_mono hj hji) hjf
      obtain ⟨hjun, oj', hoj', hall⟩ := mem_ready.1 hj
      rw [hoj] at hoj'
      obtain rfl : oj = oj' := by simpa using hoj'
      have hnot : ∀ e ∈ oj.after, Region.binds md e = true → e.on ≠ i := fun e he hb heq => by
        have h1 := hall e he hb
        have h0 := (mem_ready.1 hr).1
        rw [heq] at h1
        rcases Nat.lt_or_ge i listed.size with h' | h'
        · simp [h'] at h0 h1; rw [h0] at h1; cases h1
        · simp [Array.getElem?_eq_none h'] at h1
      have hap := hfree j oj hoj hji hjun hnot
      obtain ⟨h1, h2, h3⟩ := Oper.apart_spec hap
      have hsi := fun cs b => hsel i oi cs b hi
      have hsj := fun cs b => hsel j oj cs b hoj
      have hyj' : YG P e L ops oj a (V j) := hyj.of_same (execOp_put oj hsj a oi.dst v0 h1).symm (wanted_put oj a oi.dst v0 h1).symm
      refine ⟨oj, hoj, hyj', fun u F hu => ?_⟩
      have hfree' : ∀ k ok, ops[k]? = some ok → k ≠ i → (listed.setIfInBounds j true).getD k true = false →
          (∀ e ∈ ok.after, Region.binds md e = true → e.on ≠ i) → oi.apart ops ok = true := fun k ok hk hki hun hno => by
        refine hfree k ok hk hki ?_ hno
        by_cases hjk : j = k
        · subst hjk; exact hjun
        · rw [getD_set_ne true hjk] at hun; exact hun
      refine ih (listed.setIfInBounds j true) (a.put oj.dst u) (F ++ M) hfree' (ready_mono hr (Ne.symm hji)) (hy.of_same (execOp_put oi hsi a oj.dst u h3) (wanted_put oi a oj.dst u h3)) fun v E hv => ?_
      obtain ⟨oj2, hoj2, _, hn2⟩ := (H v E hv).2 j (ready_mono hj hji) hjf
      rw [hoj] at hoj2
      obtain rfl : oj = oj2 := by simpa using hoj2
      have := hn2 u F hu
      rw [Array.setIfInBounds_comm _ _ hji, ← Act.put_comm a v u h2]
      refine AnyD.perm hK _ _ _ _ _ ?_ this
      rw [← List.append_assoc, ← List.append_assoc]
      exact List.Perm.append_right M List.perm_append_comm

/-! the walk of the front, in the order ks -/
def lexD (md : Region.Mode) (ops : Array Oper) (fs : List Nat) : Array Bool → List Nat → Bool
  | listed, [] => (Region.ready md ops listed).all fun i => !fs.contains i
  | listed, k :: ks => (Region.ready md ops listed).contains k && fs.contains k && Region.free md ops listed k && lexD md ops fs (listed.setIfInBounds k true) ks
def WD (P : Program) (e : Env) (L : List Asn) (ops : Array Oper) (K : Act → List Asn → Prop) : List (Oper × VS) → Act → List Asn → Prop
  | [], a, M => K a M
  | x :: xs, a, M => YG P e L ops x.1 a x.2 ∧ (∃ v E, x.2 v E) ∧ ∀ v E, x.2 v E → WD P e L ops K xs (a.put x.1.dst v) (E ++ M)
theorem AnyD.lex {K : Act → List Asn → Prop} (hK : ∀ a M M', M.Perm M' → K a M → K a M') (hs : Region.noSelect ops = true) (ks : List Nat) : ∀ (xs : List (Oper × VS)) (listed : Array Bool) (a : Act) (M : List Asn),
    ks.length = xs.length → (∀ p ∈ ks.zip xs, ops[p.1]? = some p.2.1 ∧ V p.1 = p.2.2) → lexD md ops fs listed ks = true → WD P e L ops K xs a M → AnyD P e L ops md V fs K ks.length listed a M := by
  induction ks with
  | nil =>
    intro xs listed a M hl _ hB h
    cases xs with
    | nil => exact ⟨by simpa [lexD] using hB, h⟩
    | cons x xs => simp at hl
  | cons k ks ih =>
    intro xs listed a M hl hz hB h
    cases xs with
    | nil => simp at hl
    | cons x xs =>
      simp only [lexD, Bool.and_eq_true] at hB
      obtain ⟨⟨⟨hr, hf⟩, hfree⟩, hB'⟩ := hB
      obtain ⟨ho, hV⟩ := hz (k, x) (by simp)
      obtain ⟨hy, hin, hn⟩ := h
      refine AnyD.first hK ho (by simpa using hf) (Region.noSelect_spec hs) (by rw [hV]; exact hin) ks.length listed a M (Region.free_spec ho hfree) (by simpa using hr) (by rw [hV]; exact hy) fun v E hv => ?_
      rw [hV] at hv
      exact ih xs _ _ _ (by simpa using hl) (fun p hp => hz p (by simp [hp])) hB' (hn v E hv)

/-! back to worlds -/
theorem wpAny_more {Q : Exit → Act → World → Prop} : ∀ (f : Nat) (listed : Array Bool) (a : Act) (w : World), wpAny P md ops Q f listed a w → wpAny P md ops Q (f + 1) listed a w
  | 0, _, _, _, h => ⟨fun _ => h.2, fun i hi => by rw [h.1] at hi; cases hi⟩
  | f + 1, _, _, _, h => ⟨h.1, fun i hi => wpOp_mono (fun a' w' h' => wpAny_more f _ a' w' h') (h.2 i hi)⟩
theorem wpAny_moreN {Q : Exit → Act → World → Prop} {f : Nat} {listed : Array Bool} {a : Act} {w : World} (h : wpAny P md ops Q f listed a w) (g : Nat) : wpAny P md ops Q (g + f) listed a w := by
  induction g with
  | zero => rw [Nat.zero_add]; exact h
  | succ g ih => rw [Nat.add_right_comm]; exact wpAny_more _ _ _ _ ih

/-- t waits for f, over others -/
def reachB (md : Region.Mode) (ops : Array Oper) : Nat → Nat → Nat → Bool
  | 0, _, _ => false
  | n + 1, t, f => match ops[t]? with
    | none => false
    | some o => o.after.any (fun e => Region.binds md e && e.on == f) || o.after.any (fun e => Region.binds md e && reachB md ops n e.on f)
/-- listed: what each one waits for is listed, too -/
def Down (md : Region.Mode) (ops : Array Oper) (listed : Array Bool) : Prop := ∀ (j : Nat) (o : Oper), ops[j]? = some o → listed.getD j false = true → ∀ e ∈ o.after, Region.binds md e = true → listed.getD e.on false = true
theorem reach_listed {listed : Array Bool} (hd : Down md ops listed) : ∀ (n t f : Nat) (o : Oper), ops[t]? = some o → (∀ e ∈ o.after, Region.binds md e = true → listed.getD e.on false = true) → reachB md ops n t f = true → listed.getD f false = true
  | 0, _, _, _, _, _, h => by cases h
  | n + 1, t, f, o, ho, hall, h => by
    simp only [reachB, ho, Bool.or_eq_true] at h
    rcases h with h | h
    · obtain ⟨e, he, hb⟩ := Array.any_eq_true'.1 h
      simp only [Bool.and_eq_true, beq_iff_eq] at hb
      rw [← hb.2]; exact hall e he hb.1
    · obtain ⟨e, he, hb⟩ := Array.any_eq_true'.1 h
      simp only [Bool.and_eq_true] at hb
      have hl := hall e he hb.1
      cases hoe : ops[e.on]? with
      | none =>
        have := hb.2
        cases n with
        | zero => cases this
        | succ n => simp only [reachB, hoe] at this; cases this
      | some oe => exact reach_listed hd n e.on f oe hoe (hd e.on oe hoe hl) hb.2
theorem Down.set {listed : Array Bool} (hd : Down md ops listed) {i : Nat} (hi : i ∈ Region.ready md ops listed) : Down md ops (listed.setIfInBounds i true) := by
  intro j o ho hl e he hb
  by_cases hji : i = j
  · subst hji
    obtain ⟨_, o', ho', hall⟩ := mem_ready.1 hi
    rw [ho] at ho'
    obtain rfl : o = o' := by simpa using ho'
    exact getD_set_true (hall e he hb)
  · rw [getD_set_ne false hji] at hl
    exact getD_set_true (hd j o ho hl e he hb)

/-- the tail waits for all of the front, the front for nothing of the tail; all edges go back -/
def tailB (md : Region.Mode) (ops : Array Oper) (fs ts : List Nat) : Bool :=
  ts.all (fun t => fs.all fun f => reachB md ops ops.size t f) &&
  (List.range ops.size).all (fun i => match ops[i]? with
    | none => true
    | some o => o.after.all (fun e => !Region.binds md e || (decide (e.on < i) && (ts.contains i || !ts.contains e.on))))
/-- where the front is done -/
def frontDone (ts : List Nat) (n : Nat) : Array Bool := (Array.range n).map fun j => !ts.contains j
structure Mid (md : Region.Mode) (ops : Array Oper) (fs ts : List Nat) (listed : Array Bool) : Prop where
  size : listed.size = ops.size
  down : Down md ops listed
  tail : ∀ j, j < ops.size → ts.contains j = true → listed.getD j false = false
  rest : ∀ j, j < ops.size → ts.contains j = false → fs.contains j = false → listed.getD j false = true
theorem Mid.set {ts : List Nat} {listed : Array Bool} (m : Mid md ops fs ts listed) {i : Nat} (hi : i ∈ Region.ready md ops listed) (hf : i ∈ fs) (hft : ts.contains i = false) : Mid md ops fs ts (listed.setIfInBounds i true) := by
  refine ⟨by simpa using m.size, m.down.set hi, fun j hj ht => ?_, fun j hj ht hnf => getD_set_true (m.rest j hj ht hnf)⟩
  have : i ≠ j := fun e => by subst e; rw [hft] at ht; cases ht
  rw [getD_set_ne false this]; exact m.tail j hj ht
theorem Mid.done {ts : List Nat} {listed : Array Bool} (m : Mid md ops fs ts listed) (hT : tailB md ops fs ts = true) (hno : ∀ i ∈ Region.ready md ops listed, i ∉ fs) (hdis : ∀ i ∈ fs, ts.contains i = false) : listed = frontDone ts ops.size := by
  simp only [tailB, Bool.and_eq_true, List.all_eq_true, List.mem_range] at hT
  have hall : ∀ n j, j < n → j < ops.size → ts.contains j = false → listed.getD j false = true := by
    intro n
    induction n with
    | zero => intro j h; omega
    | succ n ih =>
      intro j hj hjs ht
      by_cases hjf : fs.contains j = true
      · cases hl : listed.getD j false with
        | true => rfl
        | false =>
          exfalso
          refine hno j (mem_ready.2 ⟨?_, ops[j], by simp [hjs], fun e he hb => ?_⟩) (by simpa using hjf)
          · have : j < listed.size := by rw [m.size]; exact hjs
            simp [this] at hl ⊢; exact hl
          · have h1 := hT.2 j hjs
            simp only [Array.getElem?_eq_getElem hjs] at h1
            have h2 := Array.all_eq_true_iff_forall_mem.1 h1 e he
            simp only [hb, Bool.not_true, Bool.false_or, Bool.and_eq_true, decide_eq_true_eq, Bool.or_eq_true, ht, Bool.false_eq_true, false_or, Bool.not_eq_true'] at h2
            exact ih e.on (by omega) (by omega) h2.2
      · exact m.rest j hjs ht (by simpa using hjf)
  apply Array.ext
  · simp [frontDone, m.size]
  · intro j h1 h2
    have hj : j < ops.size := by rw [← m.size]; exact h1
    simp only [frontDone, Array.getElem_map, Array.getElem_range]
    cases ht : ts.contains j with
    | true => have := m.tail j hj ht; simp [h1] at this; simpa using this
    | false => have := hall (j + 1) j (by omega) hj ht; simp [h1] at this; simpa using this

theorem wpAny_of_AnyD {Q : Exit → Act → World → Prop} {K : Act → List Asn → Prop} {ts : List Nat} {g : Nat} (hT : tailB md ops fs ts = true) (hdis : ∀ i ∈ fs, ts.contains i = false)
    (hK : ∀ a M w, K a M → SL e w (M ++ L) → wpAny P md ops Q g (frontDone ts ops.size) a w) :
    ∀ (f : Nat) (listed : Array Bool) (a : Act) (M : List Asn) (w : World), Mid md ops fs ts listed → AnyD P e L ops md V fs K f listed a M → SL e w (M ++ L) → wpAny P md ops Q (f + g) listed a w := by
  intro f
  induction f with
  | zero =>
    intro listed a M w m h s
    have := m.done hT h.1 hdis
    rw [this, Nat.zero_add]
    exact hK a M w h.2 s
  | succ f ih =>
    intro listed a M w m h s
    by_cases hno : ∀ i ∈ Region.ready md ops listed, i ∉ fs
    · have := m.done hT hno hdis
      rw [this]
      exact wpAny_moreN (hK a M w (h.1 hno) s) (f + 1)
    · rw [show f + 1 + g = (f + g) + 1 by omega]
      refine ⟨fun h0 => (hno (by rw [h0]; intro i hi; cases hi)).elim, fun i hi => ?_⟩
      by_cases hif : i ∈ fs
      · obtain ⟨o, ho, hy, hn⟩ := h.2 i hi hif
        refine hy.wpOp ho s fun v E w' hv s' => ?_
        exact ih _ _ (E ++ M) w' (m.set hi hif (hdis i hif)) (hn v E hv) s'
      · -- a tail's operation is never ready before the front is done
        exfalso
        obtain ⟨hun, o, ho, hall⟩ := mem_ready.1 hi
        have his : i < ops.size := (Array.getElem?_eq_some_iff.1 ho).1
        cases ht : ts.contains i with
        | false =>
          have h1 := m.rest i his ht (by simpa using hif)
          have : i < listed.size := by rw [m.size]; exact his
          simp [this] at h1 hun
          rw [h1] at hun; cases hun
        | true =>
          refine hno fun j hj hjf => ?_
          simp only [tailB, Bool.and_eq_true, List.all_eq_true] at hT
          have h1 := hT.1 i (by simpa using ht) j hjf
          have h2 := reach_listed m.down _ _ _ o ho hall h1
          obtain ⟨hjun, oj, hoj, _⟩ := mem_ready.1 hj
          have : j < listed.size := by rw [m.size]; exact (Array.getElem?_eq_some_iff.1 hoj).1
          simp [this] at h2 hjun
          rw [h2] at hjun; cases hjun

/-! the tail, one behind the other -/
def seqB (md : Region.Mode) (ops : Array Oper) : Array Bool → List Nat → Bool
  | listed, [] => (Region.ready md ops listed).isEmpty
  | listed, k :: ks => decide (Region.ready md ops listed = [k]) && seqB md ops (listed.setIfInBounds k true) ks
theorem wpAny_seq {Q : Exit → Act → World → Prop} (ks : List Nat) : ∀ (os : List Oper) (listed : Array Bool) (a : Act) (w : World), seqB md ops listed ks = true → ks.length = os.length → (∀ p ∈ ks.zip os, ops[p.1]? = some p.2) → wpList P ops Q os a w → wpAny P md ops Q ks.length listed a w := by
  induction ks with
  | nil =>
    intro os listed a w hB hl _ h
    cases os with
    | nil => exact ⟨by simpa [seqB] using hB, h⟩
    | cons o os => simp at hl
  | cons k ks ih =>
    intro os listed a w hB hl hz h
    cases os with
    | nil => simp at hl
    | cons o os =>
      simp only [seqB, Bool.and_eq_true, decide_eq_true_eq] at hB
      refine ⟨fun h0 => (by rw [h0] at hB; cases hB.1), fun i hi => ?_⟩
      rw [hB.1] at hi
      obtain rfl : i = k := by simpa using hi
      have ho := hz (i, o) (by simp)
      unfold wpOp
      simp only at ho
      simp only [ho]
      unfold wpList at h
      split
      · rename_i hw
        rw [if_pos hw] at h
        rcases h with h | h
        · exact .inl (Oper.wp_mono (fun a' w' h' => ih os _ a' w' hB.2 (by simpa using hl) (fun p hp => hz p (by simp [hp])) h') h)
        · exact .inr h
      · rename_i hw
        rw [if_neg hw] at h
        exact ih os _ _ _ hB.2 (by simpa using hl) (fun p hp => hz p (by simp [hp])) h

/-! what hangs on no memory, first -/
def pureB (md : Region.Mode) (ops : Array Oper) : Array Bool → List Nat → Bool
  | _, [] => true
  | listed, k :: ks => (Region.ready md ops listed).contains k && Region.free md ops listed k && pureB md ops (listed.setIfInBounds k true) ks
def listAll (listed : Array Bool) : List Nat → Array Bool
  | [] => listed
  | k :: ks => listAll (listed.setIfInBounds k true) ks
def WP (P : Program) (ops : Array Oper) (K : Act → Prop) : List Oper → Act → Prop
  | [], a => K a
  | o :: os, a => ∃ v, Yields P ops o v a ∧ WP P ops K os (a.put o.dst v)
theorem wpAny_pure {Q : Exit → Act → World → Prop} (hs : Region.noSelect ops = true) (hQ : ∀ c a w, ¬ Q (.panic c) a w) {w : World} {g : Nat} (ks : List Nat) : ∀ (os : List Oper) (listed : Array Bool) (a : Act), pureB md ops listed ks = true → ks.length = os.length → (∀ p ∈ ks.zip os, ops[p.1]? = some p.2) →
    WP P ops (fun a => wpAny P md ops Q g (listAll listed ks) a w) os a → wpAny P md ops Q (ks.length + g) listed a w := by
  induction ks with
  | nil =>
    intro os listed a _ hl _ h
    cases os with
    | nil => rw [List.length_nil, Nat.zero_add]; exact h
    | cons o os => simp at hl
  | cons k ks ih =>
    intro os listed a hB hl hz h
    cases os with
    | nil => simp at hl
    | cons o os =>
      simp only [pureB, Bool.and_eq_true] at hB
      obtain ⟨⟨hr, hf⟩, hB'⟩ := hB
      have ho := hz (k, o) (by simp)
      obtain ⟨v, hy, h⟩ := h
      rw [List.length_cons, show ks.length + 1 + g = (ks.length + g) + 1 by omega]
      exact wpAny_first ho (Region.noSelect_spec hs) (fun c a w h => (hQ _ _ _ h).elim) _ _ _ _ (Region.free_spec ho hf) (by simpa using hr) hy (ih os _ _ hB' (by simpa using hl) (fun p hp => hz p (by simp [hp])) h)

def midB (md : Region.Mode) (ops : Array Oper) (ps fs ts : List Nat) : Bool :=
  let listed := listAll (Array.replicate ops.size false) ps
  decide (listed.size = ops.size) && (List.range ops.size).all (fun j => (match ops[j]? with
      | none => true
      | some o => !listed.getD j false || o.after.all (fun e => !Region.binds md e || listed.getD e.on false)) &&
    (!ts.contains j || !listed.getD j false) && (ts.contains j || fs.contains j || listed.getD j false))
theorem Mid.of {ps ts : List Nat} (h : midB md ops ps fs ts = true) : Mid md ops fs ts (listAll (Array.replicate ops.size false) ps) := by
  simp only [midB, Bool.and_eq_true, decide_eq_true_eq, List.all_eq_true, List.mem_range] at h
  refine ⟨h.1, fun j o ho hl e he hb => ?_, fun j hj ht => ?_, fun j hj ht hf => ?_⟩
  · have h1 := (h.2 j (Array.getElem?_eq_some_iff.1 ho).1).1.1
    simp only [ho, hl, Bool.not_true, Bool.false_or] at h1
    have h2 := Array.all_eq_true_iff_forall_mem.1 h1 e he
    simpa [hb] using h2
  · have h1 := (h.2 j hj).1.2
    rw [ht] at h1
    simpa using h1
  · have h1 := (h.2 j hj).2
    rw [ht, hf] at h1
    simpa using h1

/-- all that is to be looked up of a region -/
def drawB (md : Region.Mode) (ops : Array Oper) (ps fs ts : List Nat) : Bool :=
  Region.noSelect ops && pureB md ops (Array.replicate ops.size false) ps && midB md ops ps fs ts && lexD md ops fs (listAll (Array.replicate ops.size false) ps) fs && tailB md ops fs ts && fs.all (fun i => !ts.contains i) &&
    seqB md ops (frontDone ts ops.size) ts && decide (ps.length + fs.length + ts.length = ops.size)
def pickO (ops : List Oper) (ks : List Nat) : List Oper := ks.filterMap (ops[·]?)

theorem c_drawn {id : Nat} {os : List Oper} {Q : Exit → Act → World → Prop} {l : List Value} {w : World} (ps fs ts : List Nat) (po to : List Oper) (fo : List (Oper × VS)) (s : SL e w L) (hm : P.follows .mixedOrders = true) (hB : drawB .any os.toArray ps fs ts = true)
    (hQ : ∀ c a w, ¬ Q (.panic c) a w)
    (hp : ps.map (os[·]?) = po.map some) (hf : fs.map (os[·]?) = (fo.map (·.1)).map some) (ht : ts.map (os[·]?) = to.map some) (hnd : fs.Nodup)
    (h : WP P os.toArray (WD P e L os.toArray (fun a M => ∀ w', SL e w' (M ++ L) → wpList P os.toArray Q to a w') fo · []) po (fr l)) : (Code.region id os.toArray true).wp P Q (fr l) w := by
  simp only [drawB, Bool.and_eq_true, decide_eq_true_eq, List.all_eq_true, Bool.not_eq_true'] at hB
  obtain ⟨⟨⟨⟨⟨⟨⟨hns, hpure⟩, hmid⟩, hlex⟩, htail⟩, hdis⟩, hseq⟩, hsum⟩ := hB
  have zip_of : ∀ {ks : List Nat} {xs : List Oper}, ks.map (os[·]?) = xs.map some → ks.length = xs.length ∧ ∀ p ∈ ks.zip xs, os.toArray[p.1]? = some p.2 := by
    intro ks
    induction ks with
    | nil => intro xs h; cases xs with
      | nil => exact ⟨rfl, by simp⟩
      | cons x xs => simp at h
    | cons k ks ih => intro xs h; cases xs with
      | nil => simp at h
      | cons x xs =>
        simp only [List.map_cons, List.cons.injEq] at h
        obtain ⟨h1, h2⟩ := ih h.2
        refine ⟨by simp [h1], fun p hp => ?_⟩
        simp only [List.zip_cons_cons, List.mem_cons] at hp
        rcases hp with rfl | hp
        · simpa using h.1
        · exact h2 p hp
  refine wp_region_any hm ?_
  have hsum' : os.toArray.size = ps.length + (fs.length + ts.length) := by rw [← hsum]; omega
  obtain ⟨hpl, hpz⟩ := zip_of hp
  obtain ⟨htl, htz⟩ := zip_of ht
  obtain ⟨hfl, hfz⟩ := zip_of hf
  have hfl' : fs.length = fo.length := by simpa using hfl
  suffices hh : wpAny P .any os.toArray Q (ps.length + (fs.length + ts.length)) (Array.replicate os.toArray.size false) (fr l) { w with drawn := w.drawn + 1 } by
    rw [← hsum'] at hh; exact hh
  refine wpAny_pure hns hQ ps po _ _ hpure hpl hpz ?_
  -- the values by their numbers
  let V : Nat → VS := fun i => ((fs.zip fo).find? (·.1 == i)).elim (fun _ _ => False) (·.2.2)
  have hV : ∀ p ∈ fs.zip fo, V p.1 = p.2.2 := by
    intro p hp
    have : ∀ (ks : List Nat) (xs : List (Oper × VS)), ks.Nodup → p ∈ ks.zip xs → (ks.zip xs).find? (·.1 == p.1) = some p := by
      intro ks
      induction ks with
      | nil => intro xs _ h; simp at h
      | cons k ks ih =>
        intro xs hn h
        cases xs with
        | nil => simp at h
        | cons x xs =>
          simp only [List.zip_cons_cons, List.mem_cons] at h
          rw [List.zip_cons_cons, List.find?_cons]
          rcases h with rfl | h
          · simp
          · have hne : (k == p.1) = false := by
              have h1 : p.1 ∈ ks := (List.of_mem_zip h).1
              have h2 := (List.nodup_cons.1 hn).1
              simp only [beq_eq_false_iff_ne, ne_eq]
              intro e; rw [e] at h2; exact h2 h1
            simp only [hne]
            exact ih xs (List.nodup_cons.1 hn).2 h
    simp only [V, this fs fo hnd hp, Option.elim_some]
  have mono : ∀ (os' : List Oper) (K K' : Act → Prop) (a : Act), (∀ a, K a → K' a) → WP P os.toArray K os' a → WP P os.toArray K' os' a := by
    intro os'
    induction os' with
    | nil => intro K K' a hk h; exact hk _ h
    | cons o os' ih => intro K K' a hk h; obtain ⟨v, hy, h⟩ := h; exact ⟨v, hy, ih K K' _ hk h⟩
  refine mono po _ _ _ (fun a hW => ?_) h
  have hK : ∀ (a : Act) (M M' : List Asn), M.Perm M' → (∀ w', SL e w' (M ++ L) → wpList P os.toArray Q to a w') → (∀ w', SL e w' (M' ++ L) → wpList P os.toArray Q to a w') :=
    fun a M M' p h w' s' => h w' (s'.perm (List.Perm.append_right L p.symm))
  have hA := AnyD.lex (V := V) (md := .any) (fs := fs) hK hns fs fo _ a [] hfl' (fun p hp => ⟨by
      have h2 : (p.1, p.2.1) ∈ fs.zip (fo.map (·.1)) := by
        rw [List.zip_map_right]
        exact List.mem_map.2 ⟨p, hp, rfl⟩
      exact hfz _ h2, hV p hp⟩) hlex hW
  refine wpAny_of_AnyD (V := V) htail (fun i hi => hdis i hi) (g := ts.length) ?_ fs.length _ a [] _ (Mid.of hmid) hA ⟨s.env, s.sat⟩
  intro a M w' hk s'
  exact wpAny_seq ts to _ a w' hseq htl htz (hk w' s')
end
end Go.SL

namespace Go.SL
set_option linter.unusedVariables false
set_option linter.unusedSimpArgs false

section
variable {P : Program} {e : Env} {o : Oper} {l l' : List Value} {L M : List Asn} {ops : Array Oper} {rest : List Oper} {w : World} {Q : Exit → Act → World → Prop} {K : Act → List Asn → Prop} {xs : List (Oper × VS)}

/-! the steps of a drawn region -/
theorem p_val {v : Value} {d : Nat} {KP : Act → Prop} (y : ∀ e, Yl e P o l [] v) (hg : o.guard = none) (hd : o.dst = some d) (hl : l.set d v = l') (k : WP P ops KP rest (fr l')) : WP P ops KP (o :: rest) (fr l) := by
  refine ⟨v, .inl ⟨wanted_none hg _, fun w => ?_⟩, ?_⟩
  · rw [fr_eval]; exact y (envOf w) w ⟨rfl, trivial⟩
  · rw [hd, fr_put, hl]; exact k
theorem p_end {KP : Act → Prop} (h : KP (fr l)) : WP P ops KP [] (fr l) := h
theorem d_val {v : Value} {d : Nat} (y : Yl e P o l L v) (hg : o.guard = none) (hd : o.dst = some d) (hl : l.set d v = l') (k : WD P e L ops K xs (fr l') M) : WD P e L ops K ((o, vq v) :: xs) (fr l) M := by
  refine ⟨.inl ⟨wanted_none hg _, fun w M' s => ?_⟩, ⟨v, [], rfl, rfl⟩, ?_⟩
  · have h1 : Sat L (hpOf w) := by
      have : ∀ (A B : List Asn) h, Sat (A ++ B) h → Sat B h := by
        intro A; induction A with
        | nil => exact fun _ _ h => h
        | cons a A ih => exact fun B h s => ih B h s.drop
      exact this _ _ _ s.sat
    rw [fr_eval, y w ⟨s.env, h1⟩]
    exact ⟨[], ⟨rfl, rfl⟩, s⟩
  · rintro v' E ⟨rfl, rfl⟩
    rw [hd, fr_put, hl]; exact k
theorem d_new {d : Nat} {f : Nat → Value} {A : Nat → Asn} (ob : Obj) (hg : o.guard = none) (hd : o.dst = some d)
    (y : ∀ w, (execOp (ev l) o).run P w = .ok (.value (f w.heap.size)) { w with heap := w.heap.push ob }) (hA : ∀ b, A b (single b ob))
    (k : ∀ b, WD P e L ops K xs (fr (l.set d (f b))) (A b :: M)) : WD P e L ops K ((o, vb f A) :: xs) (fr l) M := by
  refine ⟨.inl ⟨wanted_none hg _, fun w M' s => ?_⟩, ⟨f 0, [A 0], 0, rfl, rfl⟩, ?_⟩
  · rw [fr_eval, y w]
    exact ⟨[A w.heap.size], ⟨_, rfl, rfl⟩, s.new ob _ (hA _)⟩
  · rintro v' E ⟨b, rfl, rfl⟩
    rw [hd, fr_put]; exact k b
theorem d_alloc {T : TypeId} {d : Nat} {z : Value} (ho : o.op = .alloc T) (hg : o.guard = none) (hd : o.dst = some d) (hz : zeroB P T = some z)
    (k : ∀ b, WD P e L ops K xs (fr (l.set d (ptr b 0))) (Blk b z.cells T :: M)) : WD P e L ops K ((o, vb (fun b => ptr b 0) (fun b => Blk b z.cells T)) :: xs) (fr l) M :=
  d_new (.cells z.cells T) hg hd (fun w => by unfold execOp; rw [ho]; simp [Instr.alloc, run_zero hz, newVar, newRow]) (fun b => blk_single b _ _) k
theorem d_box {T : TypeId} {x : Operand} {d : Nat} {v : Value} (ho : o.op = .box T x) (hg : o.guard = none) (hd : o.dst = some d) (hx : ev l x = v)
    (k : ∀ b, WD P e L ops K xs (fr (l.set d (ptr b 0))) (Blk b v.cells T :: M)) : WD P e L ops K ((o, vb (fun b => ptr b 0) (fun b => Blk b v.cells T)) :: xs) (fr l) M :=
  d_new (.cells v.cells T) hg hd (fun w => by unfold execOp; rw [ho]; simp [hx, Instr.box, newVar, newRow]) (fun b => blk_single b _ _) k
/-- a call of one value -/
theorem d_call {f d : Nat} {as : Array Operand} {ts : Array TypeId} {vs : Array Value} {v : Value} (ho : o.op = .call { callee := .value (.func f), args := as, argTypes := ts }) (hg : o.guard = none) (hd : o.dst = some d)
    (hB : callB P f = true) (ha : as.map (ev l) = vs) (hc : ∀ w M, SL e w (M ++ L) → Calls P f vs w (Rets fun u w' => u = v ∧ SL e w' (M ++ L))) (hl : l.set d v = l')
    (k : WD P e L ops K xs (fr l') M) : WD P e L ops K ((o, vq v) :: xs) (fr l) M := by
  refine ⟨.inl ⟨wanted_none hg _, fun w M' s => ?_⟩, ⟨v, [], rfl, rfl⟩, ?_⟩
  · rw [fr_eval, run_call (f := f) (first := #[]) (cap := #[]) ho rfl hB (by simpa using ha) w]
    exact Rets.mono (hc w M' s) fun u w' ⟨h1, h2⟩ => ⟨[], ⟨h1, rfl⟩, h2⟩
  · rintro v' E ⟨rfl, rfl⟩
    rw [hd, fr_put, hl]; exact k
/-- a call that makes something -/
theorem d_callR {f d : Nat} {as : Array Operand} {ts : Array TypeId} {vs : Array Value} {R : VS} (ho : o.op = .call { callee := .value (.func f), args := as, argTypes := ts }) (hg : o.guard = none) (hd : o.dst = some d)
    (hB : callB P f = true) (ha : as.map (ev l) = vs) (hin : ∃ v E, R v E) (hc : ∀ w M, SL e w (M ++ L) → Calls P f vs w (Rets fun u w' => ∃ E, R u E ∧ SL e w' (E ++ (M ++ L))))
    (k : ∀ v E, R v E → WD P e L ops K xs (fr (l.set d v)) (E ++ M)) : WD P e L ops K ((o, R) :: xs) (fr l) M := by
  refine ⟨.inl ⟨wanted_none hg _, fun w M' s => ?_⟩, hin, ?_⟩
  · rw [fr_eval, run_call (f := f) (first := #[]) (cap := #[]) ho rfl hB (by simpa using ha) w]
    exact hc w M' s
  · intro v E hv
    rw [hd, fr_put]; exact k v E hv
theorem d_end (h : ∀ w', SL e w' (M ++ L) → wpList P ops Q rest (fr l) w') : WD P e L ops (fun a M => ∀ w', SL e w' (M ++ L) → wpList P ops Q rest a w') [] (fr l) M := h

/-! more operations -/
theorem y_build {T : TypeId} {parts : Array (Nat × Operand)} {z v : Value} (ho : o.op = .build T parts) (hz : zeroB P T = some z) (h : ∀ w, (Instr.build T (parts.map fun p => (p.1, ev l p.2))).run P w = .ok v w) : Yl e P o l L v := fun w _ => by
  have _ := hz
  unfold execOp; rw [ho]
  simp only [Sem.run_bind]
  have := h w
  simp only [Array.map] at this ⊢
  rw [this]; rfl
theorem y_len0 {T E : TypeId} {x : Operand} {A : Option Addr} {n k : Nat} {at_ : Array TypeId} (ho : o.op = .call { callee := .builtin .len, args := #[x], argTypes := at_ }) (hat : at_[0]? = some T) (hT : elemB P T = some E)
    (hx : ev l x = .slice A n k) : Yl e P o l L (.int .i64 n) := fun w _ => run_len ho hat hT hx w
theorem y_min {x y : Operand} {at_ : Array TypeId} {k : IntKind} {a b : Int} (ho : o.op = .call { callee := .builtin .min, args := #[x, y], argTypes := at_ }) (hx : ev l x = .int k a) (hy : ev l y = .int k b) : Yl e P o l L (.int k (min a b)) := fun w _ => by
  unfold execOp; rw [ho]
  simp only [resolve, invoke, builtin, Builtin.min_, Sem.run_bind, Sem.run_pure, Result.andThen_ok, List.map_toArray, List.map_cons, List.map_nil, hx, hy, List.foldlM, Builtin.min2]
  congr 3
  by_cases h : b < a
  · rw [if_pos h]; omega
  · rw [if_neg h]; omega
theorem y_max {x y : Operand} {at_ : Array TypeId} {k : IntKind} {a b : Int} (ho : o.op = .call { callee := .builtin .max, args := #[x, y], argTypes := at_ }) (hx : ev l x = .int k a) (hy : ev l y = .int k b) : Yl e P o l L (.int k (max a b)) := fun w _ => by
  unfold execOp; rw [ho]
  simp only [resolve, invoke, builtin, Builtin.max_, Sem.run_bind, Sem.run_pure, Result.andThen_ok, List.map_toArray, List.map_cons, List.map_nil, hx, hy, List.foldlM, Builtin.max2]
  congr 3
  by_cases h : a < b
  · first | rw [if_pos h] | skip
    omega
  · first | rw [if_neg h] | skip
    omega
end
end Go.SL

namespace Go.SL
set_option linter.unusedVariables false
set_option linter.unusedSimpArgs false

/-! what a slot holds, in a form that computes -/
def nth : List Value → Nat → Option Value
  | [], _ => none
  | v :: _, 0 => some v
  | _ :: l, n + 1 => nth l n
def evo (l : List Value) : Operand → Option Value
  | .tmp t => nth l t
  | .const v => some v
  | .global g => some (.pointer (some ⟨g, 0, none⟩))
  | .func f => some (.func (.func f) #[] #[])
theorem nth_getD : ∀ (l : List Value) (t : Nat) (v : Value), nth l t = some v → l.getD t undef = v
  | [], _, _, h => by cases h
  | x :: l, 0, v, h => by simpa [nth] using h
  | x :: l, n + 1, v, h => by simpa using nth_getD l n v h
theorem ev_of {l : List Value} {x : Operand} {v : Value} (h : evo l x = some v) : ev l x = v := by
  cases x with
  | tmp t => exact nth_getD l t v h
  | const u => simpa [evo, ev] using h
  | global g => simpa [evo, ev] using h
  | func f => simpa [evo, ev] using h
theorem evs_of {l : List Value} {as : Array Operand} {vs : List Value} (h : as.toList.map (evo l) = vs.map some) : as.map (ev l) = vs.toArray := by
  apply Array.ext'
  rw [Array.toList_map]
  generalize as.toList = xs at h
  show xs.map (ev l) = vs
  induction xs generalizing vs with
  | nil => cases vs with
    | nil => rfl
    | cons v vs => simp at h
  | cons x xs ih => cases vs with
    | nil => simp at h
    | cons v vs =>
      simp only [List.map_cons, List.cons.injEq] at h ⊢
      exact ⟨ev_of h.1, ih h.2⟩

section
variable {P : Program} {e : Env} {o : Oper} {l l' : List Value} {L L' M : List Asn} {ops : Array Oper} {rest : List Oper} {w : World} {Q : Exit → Act → World → Prop} {K : Act → List Asn → Prop} {xs : List (Oper × VS)}

theorem nlL (hl : l = l') (k : wpList P ops Q rest (fr l') w) : wpList P ops Q rest (fr l) w := by rw [hl]; exact k
theorem nlD (hl : l = l') (k : WD P e L ops K xs (fr l') M) : WD P e L ops K xs (fr l) M := by rw [hl]; exact k
theorem nlC {c : Code} (hl : l = l') (k : c.wp P Q (fr l') w) : c.wp P Q (fr l) w := by rw [hl]; exact k
theorem y_mv {x : Operand} {v : Value} (ho : o.op = .move x) (hx : ev l x = v) : Yl e P o l L v := hx ▸ y_move ho
theorem y_as {x : Operand} {v : Value} (ho : o.op = .assign x) (hx : ev l x = v) : Yl e P o l L v := hx ▸ y_assign ho
theorem y_pick1 {c x y : Operand} {v : Value} (ho : o.op = .pick c x y) (hc : ev l c = .bool true) (hx : ev l x = v) : Yl e P o l L v := by
  have := y_pick (e := e) (P := P) (L := L) ho hc; rw [if_pos rfl, hx] at this; exact this
theorem y_pick0 {c x y : Operand} {v : Value} (ho : o.op = .pick c x y) (hc : ev l c = .bool false) (hx : ev l y = v) : Yl e P o l L v := by
  have := y_pick (e := e) (P := P) (L := L) ho hc; rw [if_neg (by simp), hx] at this; exact this

/-! known truth values -/
theorem evo_set {t : Nat} {v : Value} (h : nth l t = some v) : l.set t v = l := by
  induction l generalizing t with
  | nil => rfl
  | cons x l ih => cases t with
    | zero => simp [nth] at h; simp [h]
    | succ t => rw [List.set_cons_succ, ih (by simpa [nth] using h)]
theorem l_split {t : Nat} {c : Bool} (hx : evo l (.tmp t) = some (.bool c)) (ht : c = true → wpList P ops Q rest (fr (l.set t (.bool true))) w) (hf : c = false → wpList P ops Q rest (fr (l.set t (.bool false))) w) : wpList P ops Q rest (fr l) w := by
  cases c with
  | true => have := ht rfl; rwa [evo_set hx] at this
  | false => have := hf rfl; rwa [evo_set hx] at this
theorem l_known {t : Nat} {c b : Bool} (hx : evo l (.tmp t) = some (.bool c)) (hc : c = b) (k : wpList P ops Q rest (fr (l.set t (.bool b))) w) : wpList P ops Q rest (fr l) w := by
  subst hc; rwa [evo_set hx] at k
theorem d_known {t : Nat} {c b : Bool} (hx : evo l (.tmp t) = some (.bool c)) (hc : c = b) (k : WD P e L ops K xs (fr (l.set t (.bool b))) M) : WD P e L ops K xs (fr l) M := by
  subst hc; rwa [evo_set hx] at k
theorem p_known {t : Nat} {c b : Bool} {KP : Act → Prop} {os : List Oper} (hx : evo l (.tmp t) = some (.bool c)) (hc : c = b) (k : WP P ops KP os (fr (l.set t (.bool b)))) : WP P ops KP os (fr l) := by
  subst hc; rwa [evo_set hx] at k

/-! guarded operations -/
theorem d_gval {v : Value} {d : Nat} (y : Yl e P o l L v) (hg : Region.wanted o (yielded ops (fr l).tmps) = true) (hd : o.dst = some d) (hl : l.set d v = l') (k : WD P e L ops K xs (fr l') M) : WD P e L ops K ((o, vq v) :: xs) (fr l) M := by
  refine ⟨.inl ⟨hg, fun w M' s => ?_⟩, ⟨v, [], rfl, rfl⟩, ?_⟩
  · have h1 : Sat L (hpOf w) := by
      have : ∀ (A B : List Asn) h, Sat (A ++ B) h → Sat B h := by
        intro A; induction A with
        | nil => exact fun _ _ h => h
        | cons a A ih => exact fun B h s => ih B h s.drop
      exact this _ _ _ s.sat
    rw [fr_eval, y w ⟨s.env, h1⟩]
    exact ⟨[], ⟨rfl, rfl⟩, s⟩
  · rintro v' E ⟨rfl, rfl⟩
    rw [hd, fr_put, hl]; exact k
theorem d_skip {d : Nat} (hg : Region.wanted o (yielded ops (fr l).tmps) = false) (hd : o.dst = some d) (hl : l.set d undef = l') (k : WD P e L ops K xs (fr l') M) : WD P e L ops K ((o, vq undef) :: xs) (fr l) M := by
  refine ⟨.inr ⟨hg, ⟨rfl, rfl⟩, fun v E h => h⟩, ⟨undef, [], rfl, rfl⟩, ?_⟩
  rintro v' E ⟨rfl, rfl⟩
  rw [hd, fr_put, hl]; exact k
theorem d_gcall {f d : Nat} {as : Array Operand} {ts : Array TypeId} {vs : List Value} {v : Value} (ho : o.op = .call { callee := .value (.func f), args := as, argTypes := ts }) (hg : Region.wanted o (yielded ops (fr l).tmps) = true) (hd : o.dst = some d)
    (hB : callB P f = true) (ha : as.toList.map (evo l) = vs.map some) (hc : ∀ w M, SL e w (M ++ L) → Calls P f vs.toArray w (Rets fun u w' => u = v ∧ SL e w' (M ++ L))) (hl : l.set d v = l')
    (k : WD P e L ops K xs (fr l') M) : WD P e L ops K ((o, vq v) :: xs) (fr l) M := by
  refine ⟨.inl ⟨hg, fun w M' s => ?_⟩, ⟨v, [], rfl, rfl⟩, ?_⟩
  · rw [fr_eval, run_call (f := f) (first := #[]) (cap := #[]) ho rfl hB (by simpa using evs_of ha) w]
    exact Rets.mono (hc w M' s) fun u w' ⟨h1, h2⟩ => ⟨[], ⟨h1, rfl⟩, h2⟩
  · rintro v' E ⟨rfl, rfl⟩
    rw [hd, fr_put, hl]; exact k
theorem l_gcall {f d : Nat} {as : Array Operand} {ts : Array TypeId} {vs : List Value} {R : Value → World → Prop} (ho : o.op = .call { callee := .value (.func f), args := as, argTypes := ts }) (hg : Region.wanted o (yielded ops (fr l).tmps) = true) (hd : o.dst = some d)
    (hB : callB P f = true) (ha : as.toList.map (evo l) = vs.map some) (hc : Calls P f vs.toArray w (Rets R))
    (k : ∀ v w', R v w' → wpList P ops Q rest (fr (l.set d v)) w') : wpList P ops Q (o :: rest) (fr l) w := by
  refine wpList_step fun K hK => ?_
  rw [if_pos hg]
  unfold Oper.wp
  rw [fr_eval, run_call (f := f) (first := #[]) (cap := #[]) ho rfl hB (by simpa using evs_of ha) w]
  simp only [Oper.upon]
  refine hc.mono fun en w' r => ?_
  cases en with
  | returned v => simp only [hd, fr_put]; exact hK _ _ (k _ _ r)
  | panicked c => exact r.elim
  | outgrown => exact r.elim

/-! calls, with lists -/
theorem l_callL {f d : Nat} {as : Array Operand} {ts : Array TypeId} {vs : List Value} {R : Value → World → Prop} (ho : o.op = .call { callee := .value (.func f), args := as, argTypes := ts }) (hg : o.guard = none) (hd : o.dst = some d)
    (hB : callB P f = true) (ha : as.toList.map (evo l) = vs.map some) (hc : Calls P f vs.toArray w (Rets R))
    (k : ∀ v w', R v w' → wpList P ops Q rest (fr (l.set d v)) w') : wpList P ops Q (o :: rest) (fr l) w :=
  l_call ho hg hd hB (evs_of ha) hc k
theorem l_callL0 {f : Nat} {as : Array Operand} {ts : Array TypeId} {vs : List Value} {R : Value → World → Prop} (ho : o.op = .call { callee := .value (.func f), args := as, argTypes := ts }) (hg : o.guard = none) (hd : o.dst = none)
    (hB : callB P f = true) (ha : as.toList.map (evo l) = vs.map some) (hc : Calls P f vs.toArray w (Rets R))
    (k : ∀ v w', R v w' → wpList P ops Q rest (fr l) w') : wpList P ops Q (o :: rest) (fr l) w :=
  l_call0 ho hg hd hB (evs_of ha) hc k
theorem d_callL {f d : Nat} {as : Array Operand} {ts : Array TypeId} {vs : List Value} {v : Value} (ho : o.op = .call { callee := .value (.func f), args := as, argTypes := ts }) (hg : o.guard = none) (hd : o.dst = some d)
    (hB : callB P f = true) (ha : as.toList.map (evo l) = vs.map some) (hc : ∀ w M, SL e w (M ++ L) → Calls P f vs.toArray w (Rets fun u w' => u = v ∧ SL e w' (M ++ L))) (hl : l.set d v = l')
    (k : WD P e L ops K xs (fr l') M) : WD P e L ops K ((o, vq v) :: xs) (fr l) M := d_call ho hg hd hB (evs_of ha) hc hl k
theorem d_callRL {f d : Nat} {as : Array Operand} {ts : Array TypeId} {vs : List Value} {R : VS} (ho : o.op = .call { callee := .value (.func f), args := as, argTypes := ts }) (hg : o.guard = none) (hd : o.dst = some d)
    (hB : callB P f = true) (ha : as.toList.map (evo l) = vs.map some) (hin : ∃ v E, R v E) (hc : ∀ w M, SL e w (M ++ L) → Calls P f vs.toArray w (Rets fun u w' => ∃ E, R u E ∧ SL e w' (E ++ (M ++ L))))
    (k : ∀ v E, R v E → WD P e L ops K xs (fr (l.set d v)) (E ++ M)) : WD P e L ops K ((o, R) :: xs) (fr l) M := d_callR ho hg hd hB (evs_of ha) hin hc k

/-! whole structs -/
theorem blk_cells {b i : Nat} {cells : Array Value} {T : TypeId} {vs : List Value} (h : (cells.toList.drop i).take vs.length = vs) : ∀ hp, Blk b cells T hp → CellsAre ⟨b, i, none⟩ vs hp := by
  intro hp hb j v hj
  rw [add_plain]
  simp only [Hp.cell, Blk] at *
  rw [hb]
  rw [← h, List.getElem?_take] at hj
  split at hj
  · rw [List.getElem?_drop] at hj
    simpa using hj
  · cases hj
theorem y_load_blk {T T' : TypeId} {x : Operand} {b : Nat} {cells : Array Value} {n : Nat} (ho : o.op = .load T x) (hs : someU P T = true) (hT : aggB P T = true) (hn : sizeB P T = some n) (hx : ev l x = ptr b 0)
    (hc : Ent L (fun h => Blk b cells T' h)) (hl : cells.size = n) : Yl e P o l L (.agg cells) := by
  have h1 : Ent L (CellsAre ⟨b, 0, none⟩ cells.toList) := fun h s => blk_cells (by rw [List.drop_zero]; exact List.take_of_length_le (Nat.le_refl _)) h (hc h s)
  have := y_load_agg (e := e) ho hs hT hn hx h1 (by simpa using hl)
  simpa using this
theorem ent_blk {b : Nat} {cells : Array Value} {T : TypeId} {L : List Asn} : Ent (Blk b cells T :: L) (fun h => Blk b cells T h) := Ent.here (φ := Blk b cells T) fun _ h => h

/-- parts laid into cells -/
def lay (z : List Value) : List (Nat × List Value) → List Value
  | [] => z
  | (off, cs) :: r => lay (z.take off ++ cs ++ z.drop (off + cs.length)) r
def partsB (P : Program) (T : TypeId) (i : Nat) : Option (Nat × Nat) := match fieldB P T i with
  | some (off, ft) => (sizeB P ft).map fun n => (off, n)
  | none => none
theorem foldl_set (cs : List Value) : ∀ (k off : Nat) (z : Array Value), off + k + cs.length ≤ z.size →
    ((cs.zipIdx k).foldl (fun (a : Array Value) (p : Value × Nat) => a.setIfInBounds (off + p.2) p.1) z).toList = z.toList.take (off + k) ++ cs ++ z.toList.drop (off + k + cs.length) := by
  induction cs with
  | nil => intro k off z h; simp
  | cons c cs ih =>
    intro k off z h
    simp only [List.zipIdx_cons, List.foldl_cons]
    rw [ih (k + 1) off _ (by simp at h ⊢; omega)]
    have hlt : off + k < z.toList.length := by simp at h ⊢; omega
    simp only [Array.toList_setIfInBounds, List.length_cons]
    rw [List.drop_set_of_lt (by omega), show off + (k + 1) = off + k + 1 by omega, List.take_add_one, List.take_set_of_le (Nat.le_refl _)]
    rw [List.getElem?_set_self hlt]
    simp [Nat.add_assoc, Nat.add_comm, Nat.add_left_comm]
theorem fill_lay (place : Nat → Option (Nat × Nat)) : ∀ (vs : List (Nat × Value)) (ps : List (Nat × List Value)) (z : Array Value), vs.length = ps.length → (∀ q ∈ vs.zip ps, place q.1.1 = some (q.2.1, q.2.2.length) ∧ q.1.2.cells.toList = q.2.2 ∧ q.2.1 + q.2.2.length ≤ z.size) →
    ∃ r, Instr.fill place z vs = some r ∧ r.toList = lay z.toList ps ∧ r.size = z.size
  | [], [], z, _, _ => ⟨z, rfl, rfl, rfl⟩
  | [], _ :: _, _, h, _ => by simp at h
  | _ :: _, [], _, h, _ => by simp at h
  | (i, v) :: vs, (off, cs) :: ps, z, hl, h => by
    obtain ⟨h1, h2, h3⟩ := h ((i, v), (off, cs)) (by simp)
    simp only at h1 h2 h3
    have hcs : v.cells.size = cs.length := by rw [← h2]; simp
    have hf := foldl_set cs 0 off z (by omega)
    have e1 : (v.cells.zipIdx.foldl (fun (a : Array Value) (p : Value × Nat) => a.setIfInBounds (off + p.2) p.1) z).toList = z.toList.take off ++ cs ++ z.toList.drop (off + cs.length) := by
      rw [← Array.foldl_toList, Array.toList_zipIdx, h2]
      simpa using hf
    have hsz : (v.cells.zipIdx.foldl (fun (a : Array Value) (p : Value × Nat) => a.setIfInBounds (off + p.2) p.1) z).size = z.size := by
      rw [← Array.length_toList, e1]; simp; omega
    obtain ⟨r, hr1, hr2, hr3⟩ := fill_lay place vs ps _ (by simpa using hl) (fun q hq => by
      obtain ⟨a, b, c⟩ := h q (by simp [hq]); exact ⟨a, b, by rw [hsz]; exact c⟩)
    refine ⟨r, ?_, by rw [hr2, e1]; rfl, by rw [hr3, hsz]⟩
    simp only [Instr.fill, h1]
    rw [if_neg (by simp; omega)]
    exact hr1
theorem run_mapM_list {α β : Type} (f : α → Sem β) (g : α → β) (xs : List α) (w : World) (h : ∀ x ∈ xs, (f x).run P w = .ok (g x) w) : (xs.mapM f).run P w = .ok (xs.map g) w := by
  induction xs with
  | nil => simp
  | cons x xs ih =>
    rw [List.mapM_cons]
    simp only [Sem.run_bind, h x (by simp), Result.andThen_ok, ih (fun y hy => h y (by simp [hy])), Sem.run_pure, List.map_cons]
theorem y_bld {T : TypeId} {parts : Array (Nat × Operand)} {z : Value} {zs : List Value} {vs : List (Nat × Value)} {ps : List (Nat × List Value)} (ho : o.op = .build T parts) (hz : zeroB P T = some z) (hzs : z.cells.toList = zs)
    (hfs : ∃ fs : Array Field, P.underlying T = some (.struct fs) ∧ ∀ f ∈ fs.toList, (sizeB P f.type).isSome = true)
    (hv : parts.toList.map (fun p => (evo l p.2).map fun v => (p.1, v)) = vs.map some) (hl : vs.length = ps.length)
    (hp : ∀ q ∈ vs.zip ps, partsB P T q.1.1 = some (q.2.1, q.2.2.length) ∧ q.1.2.cells.toList = q.2.2 ∧ q.2.1 + q.2.2.length ≤ zs.length) {v : Value} (hval : (lay zs ps).toArray = v.cells) (hag : ∃ cs, v = .agg cs) : Yl e P o l L v := fun w _ => by
  obtain ⟨cs, rfl⟩ := hag
  obtain ⟨fs, hu, hsz⟩ := hfs
  have hparts : parts.map (fun (x : Nat × Operand) => match x with | (i, x) => (i, ev l x)) = vs.toArray := by
    apply Array.ext'
    rw [Array.toList_map]
    generalize parts.toList = xs at hv
    show xs.map _ = vs
    clear hl hp
    induction xs generalizing vs with
    | nil => cases vs with
      | nil => rfl
      | cons v vs => simp at hv
    | cons x xs ih => cases vs with
      | nil => simp at hv
      | cons v vs =>
        simp only [List.map_cons, List.cons.injEq] at hv ⊢
        refine ⟨?_, ih hv.2⟩
        have h1 := hv.1
        cases hx : evo l x.2 with
        | none => rw [hx] at h1; cases h1
        | some u => rw [hx] at h1; simp at h1; rw [← h1, ev_of hx]
  let pl : Field → Nat × Nat := fun f => (f.offset, (sizeB P f.type).getD 0)
  have hm : (fs.mapM (fun f => do pure (f.offset, ← sizeOf f.type) : Field → Sem (Nat × Nat))).run P w = .ok (fs.map pl) w := by
    have h1 := run_mapM_list (P := P) (fun f => do pure (f.offset, ← sizeOf f.type) : Field → Sem (Nat × Nat)) pl fs.toList w (fun f hf => by
      have := hsz f hf
      cases hs : sizeB P f.type with
      | none => rw [hs] at this; cases this
      | some n => simp [run_sizeOf hs, pl, hs])
    rw [Array.mapM_eq_mapM_toList]
    simp only [Sem.run_map, h1, Result.andThen_ok]
    congr 1
    apply Array.ext'
    simp
  have hplace : ∀ i, (fs.map pl)[i]? = partsB P T i ∨ partsB P T i = none := by
    intro i
    cases hf : fs[i]? with
    | none => right; simp [partsB, fieldB, hu, hf]
    | some f =>
      left
      have h1 := hsz f (by simpa using Array.mem_of_getElem? hf)
      cases hs : sizeB P f.type with
      | none => rw [hs] at h1; cases h1
      | some n => simp [partsB, fieldB, hu, hf, hs, pl]
  obtain ⟨r, hr1, hr2, _⟩ := fill_lay (fun i => (fs.map pl)[i]?) vs ps z.cells hl (fun q hq => by
    obtain ⟨a, b, c⟩ := hp q hq
    refine ⟨?_, b, ?_⟩
    · rcases hplace q.1.1 with h | h
      · exact h.trans a
      · rw [a] at h; cases h
    · have := congrArg List.length hzs; simp at this; omega)
  have hrcs : r = cs := by
    have h3 : (lay zs ps).toArray = cs := hval
    rw [← h3]; apply Array.ext'; rw [hr2, hzs]
  unfold execOp; rw [ho]
  simp only [Instr.build, Sem.run_bind, run_zero hz, Result.andThen_ok, run_und hu, hm, hparts]
  rw [hr1]
  simp [hrcs]
end
end Go.SL

