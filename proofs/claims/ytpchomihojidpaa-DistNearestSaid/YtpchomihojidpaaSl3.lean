import Derived.Test.YtpchomihojidpaaSl2
import Derived.Laws.AppendOwn
namespace Go.SL
set_option linter.unusedSimpArgs false

/-- how the elements of a slice lie in cells -/
structure Ty (α : Type) where
  sz : Nat
  enc : α → List Value
  len : ∀ x, (enc x).length = sz
  pos : 0 < sz
  one : ∀ x, ∀ u ∈ enc x, u.oneCell' = true
  d : α
def encs {α : Type} (c : Ty α) (xs : List α) : List Value := xs.flatMap c.enc
section
variable {α : Type} {c : Ty α}
theorem encs_nil : encs c [] = [] := rfl
theorem encs_cons (x : α) (xs : List α) : encs c (x :: xs) = c.enc x ++ encs c xs := by simp [encs]
theorem encs_append (xs ys : List α) : encs c (xs ++ ys) = encs c xs ++ encs c ys := by simp [encs]
theorem encs_length (xs : List α) : (encs c xs).length = xs.length * c.sz := by
  induction xs with
  | nil => simp [encs]
  | cons x xs ih => rw [encs_cons, List.length_append, c.len, ih, List.length_cons, Nat.add_mul]; omega
theorem encs_one (xs : List α) : ∀ u ∈ encs c xs, u.oneCell' = true := by
  intro u hu
  simp only [encs, List.mem_flatMap] at hu
  obtain ⟨x, _, h⟩ := hu
  exact c.one x u h
theorem encs_get (xs : List α) {i j : Nat} (hi : i < xs.length) (hj : j < c.sz) : (encs c xs)[i * c.sz + j]? = (c.enc (xs.getD i c.d))[j]? := by
  induction xs generalizing i with
  | nil => simp at hi
  | cons x xs ih =>
    rw [encs_cons]
    cases i with
    | zero =>
      simp only [Nat.zero_mul, Nat.zero_add, List.getD_cons_zero]
      rw [List.getElem?_append_left (by rw [c.len]; exact hj)]
    | succ i =>
      rw [List.getElem?_append_right (by rw [c.len, Nat.add_mul]; omega), c.len, List.getD_cons_succ]
      rw [show (i + 1) * c.sz + j - c.sz = i * c.sz + j by rw [Nat.add_mul]; omega]
      exact ih (by simpa using hi)
theorem encs_set (xs : List α) {i j : Nat} {y : α} {u : Value} (hi : i < xs.length) (hj : j < c.sz) (hy : c.enc y = (c.enc (xs.getD i c.d)).set j u) :
    encs c (xs.set i y) = (encs c xs).set (i * c.sz + j) u := by
  induction xs generalizing i with
  | nil => simp at hi
  | cons x xs ih =>
    cases i with
    | zero =>
      simp only [Nat.zero_mul, Nat.zero_add, List.getD_cons_zero, List.set_cons_zero, encs_cons] at *
      rw [hy, List.set_append_left _ _ (by rw [c.len]; exact hj)]
    | succ i =>
      simp only [List.getD_cons_succ, List.set_cons_succ, encs_cons] at *
      rw [ih (by simpa using hi) hy, List.set_append_right _ _ (by rw [c.len, Nat.add_mul]; omega), c.len]
      rw [show (i + 1) * c.sz + j - c.sz = i * c.sz + j by rw [Nat.add_mul]; omega]
theorem encs_take (xs : List α) (n : Nat) : encs c (xs.take n) = (encs c xs).take (n * c.sz) := by
  induction xs generalizing n with
  | nil => simp [encs]
  | cons x xs ih =>
    cases n with
    | zero => simp [encs]
    | succ n =>
      have h : (n + 1) * c.sz = c.sz + n * c.sz := by rw [Nat.add_mul]; omega
      rw [List.take_succ_cons, encs_cons, encs_cons, ih, h, List.take_append, c.len, List.take_of_length_le (l := c.enc x) (by rw [c.len]; omega), Nat.add_sub_cancel_left]
theorem encs_drop (xs : List α) (n : Nat) : encs c (xs.drop n) = (encs c xs).drop (n * c.sz) := by
  induction xs generalizing n with
  | nil => simp [encs]
  | cons x xs ih =>
    cases n with
    | zero => simp
    | succ n =>
      have h : (n + 1) * c.sz = c.sz + n * c.sz := by rw [Nat.add_mul]; omega
      rw [List.drop_succ_cons, encs_cons, ih, h, List.drop_append, c.len, List.drop_eq_nil_of_le (as := c.enc x) (by rw [c.len]; omega), Nat.add_sub_cancel_left, List.nil_append]
end

/-- what is read through a slice -/
def SlR {α : Type} (c : Ty α) (v : Value) (xs : List α) : Hp → Prop := fun h =>
  ∃ A k, v = .slice A xs.length k ∧ xs.length ≤ k ∧ match A with | none => xs = [] | some a => CellsAre a (encs c xs) h
instance {α : Type} (c : Ty α) (v : Value) (xs : List α) : Mono (SlR c v xs) := ⟨by
  rintro h h' hl ⟨A, k, e, hk, m⟩
  refine ⟨A, k, e, hk, ?_⟩
  cases A with
  | none => exact m
  | some a => exact Mono.up (φ := CellsAre a (encs c xs)) hl m⟩
/-- a slice whose block is ours -/
def Arr {α : Type} (c : Ty α) (T : TypeId) (v : Value) (xs : List α) : Asn := fun h =>
  (v = .slice none 0 0 ∧ xs = []) ∨
  ∃ b off cap cells, v = .slice (some ⟨b, off, none⟩) xs.length cap ∧ xs.length ≤ cap ∧ h b = some (.cells cells T (0, 0)) ∧ off + cap * c.sz ≤ cells.size ∧
    ∀ j u, (encs c xs)[j]? = some u → cells[off + j]? = some u
theorem arr_reads {α : Type} {c : Ty α} {T : TypeId} {v : Value} {xs : List α} : ∀ h, Arr c T v xs h → SlR c v xs h := by
  rintro h (⟨rfl, rfl⟩ | ⟨b, off, cap, cells, rfl, hc, hb, hs, hu⟩)
  · exact ⟨none, 0, rfl, Nat.le_refl _, rfl⟩
  · refine ⟨_, cap, rfl, hc, fun j u hj => ?_⟩
    rw [add_plain]
    simp only [Hp.cell, hb]
    simpa using hu j u hj
theorem blk_reads {α : Type} {c : Ty α} {b n : Nat} {cells : Array Value} {T : TypeId} {xs : List α} (hn : xs.length = n) (he : encs c xs = cells.toList) :
    ∀ h, Blk b cells T h → SlR c (.slice (some ⟨b, 0, none⟩) n n) xs h := by
  intro h hb
  subst hn
  refine ⟨_, _, rfl, Nat.le_refl _, fun j u hj => ?_⟩
  rw [add_plain]
  simp only [Hp.cell, Blk] at *
  rw [hb]
  rw [he] at hj
  simpa using hj
theorem blk_arr {α : Type} {c : Ty α} {b n : Nat} {cells : Array Value} {T : TypeId} {xs : List α} (hn : xs.length = n) (he : encs c xs = cells.toList) :
    ∀ h, Blk b cells T h → Arr c T (.slice (some ⟨b, 0, none⟩) n n) xs h := by
  intro h hb
  subst hn
  refine .inr ⟨b, 0, _, cells, rfl, Nat.le_refl _, hb, ?_, fun j u hj => ?_⟩
  · have := congrArg List.length he
    rw [encs_length] at this
    simp at this
    omega
  · rw [he] at hj
    simpa using hj

/-- the place of a slice's cell -/
def elp : Value → Nat → Value
  | .slice (some a) _ _, n => .pointer (some (a.add n))
  | _, _ => undef

section
variable {α : Type} {c : Ty α} {P : Program} {e : Env} {o : Oper} {l l' : List Value} {L L' L2 : List Asn} {ops : Array Oper} {rest : List Oper} {w : World} {Q : Exit → Act → World → Prop}

theorem run_len {T : TypeId} {E : TypeId} {A : Option Addr} {n k : Nat} {x : Operand} {at_ : Array TypeId} (ho : o.op = .call { callee := .builtin .len, args := #[x], argTypes := at_ }) (hat : at_[0]? = some T) (hT : elemB P T = some E)
    (hx : ev l x = .slice A n k) (w : World) : (execOp (ev l) o).run P w = .ok (.value (.int .i64 n)) w := by
  unfold elemB at hT
  cases hu : P.underlying T with
  | none => rw [hu] at hT; cases hT
  | some d =>
    rw [hu] at hT
    cases d <;> try (cases hT; done)
    unfold execOp; rw [ho]
    simp [resolve, invoke, builtin, Builtin.len_, hat, run_und hu, hx, goInt]
theorem y_len {T E : TypeId} {x : Operand} {v : Value} {xs : List α} {at_ : Array TypeId} (ho : o.op = .call { callee := .builtin .len, args := #[x], argTypes := at_ }) (hat : at_[0]? = some T) (hT : elemB P T = some E)
    (hx : ev l x = v) (hr : Ent L (SlR c v xs)) : Yl e P o l L (.int .i64 xs.length) := fun w s => by
  obtain ⟨A, k, rfl, _⟩ := hr.at s
  exact run_len ho hat hT hx w
theorem elemB_und {T E : TypeId} (hT : elemB P T = some E) : P.underlying T = some (.slice E) := by
  unfold elemB at hT
  cases hu : P.underlying T with
  | none => rw [hu] at hT; cases hT
  | some d => rw [hu] at hT; cases d <;> first | (cases hT; done) | (simp at hT; subst hT; rfl)
theorem y_indexAddr {T E : TypeId} {x y : Operand} {v : Value} {xs : List α} {k : IntKind} {i : Int} (ho : o.op = .indexAddr T x y) (hT : elemB P T = some E) (hz : sizeB P E = some c.sz)
    (hx : ev l x = v) (hy : ev l y = .int k i) (hr : Ent L (SlR c v xs)) (h0 : 0 ≤ i) (h1 : i < xs.length) : Yl e P o l L (elp v (i.toNat * c.sz)) := fun w s => by
  obtain ⟨A, n, rfl, hn, m⟩ := hr.at s
  have hu := elemB_und hT
  cases A with
  | none => simp only at m; subst m; simp at h1; omega
  | some a =>
    unfold execOp; rw [ho]
    simp [Instr.indexAt, hx, hy, asIntOf, run_und hu, h0, h1, run_sizeOf hz, elp]
theorem y_load_el {T : TypeId} {x : Operand} {v : Value} {xs : List α} {n i j : Nat} {u : Value} (ho : o.op = .load T x) (hs : someU P T = true) (hT : aggB P T = false) (hx : ev l x = elp v n) (hr : Ent L (SlR c v xs)) (hi : i < xs.length)
    (hn : n = i * c.sz + j) (hj : j < c.sz) (hu : (c.enc (xs.getD i c.d))[j]? = some u) : Yl e P o l L u := fun w s => by
  obtain ⟨A, k, rfl, hk, m⟩ := hr.at s
  cases A with
  | none => simp only at m; subst m; simp at hi
  | some a =>
    have h1 : w.cell? (a.add n) = some u := m n u (by rw [hn, encs_get xs hi hj]; exact hu)
    unfold execOp; rw [ho]
    simp [hx, elp, Instr.loadAt, Instr.sureAddr, loadVar, run_isAgg hs hT, h1]
theorem y_load_el_agg {T : TypeId} {x : Operand} {v : Value} {xs : List α} {n i : Nat} (ho : o.op = .load T x) (hs : someU P T = true) (hT : aggB P T = true) (hz : sizeB P T = some c.sz) (hx : ev l x = elp v n) (hr : Ent L (SlR c v xs)) (hi : i < xs.length)
    (hn : n = i * c.sz) : Yl e P o l L (.agg (c.enc (xs.getD i c.d)).toArray) := fun w s => by
  obtain ⟨A, k, rfl, hk, m⟩ := hr.at s
  cases A with
  | none => simp only at m; subst m; simp at hi
  | some a =>
    have h1 : ∀ j u, (c.enc (xs.getD i c.d))[j]? = some u → w.cell? ((a.add n).add j) = some u := fun j u hj => by
      have hj' : j < c.sz := by
        rcases Nat.lt_or_ge j c.sz with h | h
        · exact h
        · rw [List.getElem?_eq_none (by rw [c.len]; exact h)] at hj; cases hj
      rw [add_add]
      exact m _ u (by rw [hn, encs_get xs hi hj']; exact hj)
    have h2 := run_loadCells_list (P := P) w (a.add n) _ h1
    rw [c.len] at h2
    unfold execOp; rw [ho]
    simp [hx, elp, Instr.loadAt, Instr.sureAddr, loadVar, run_isAgg hs hT, run_sizeOf hz, h2]
theorem y_fieldAddr_el {T T1 : TypeId} {x : Operand} {f off n m : Nat} {v : Value} {xs : List α} (ho : o.op = .fieldAddr T x f) (hf : fieldB P T f = some (off, T1)) (hn : sizeB P T1 = some (n + 1)) (hx : ev l x = elp v m) (hr : Ent L (SlR c v xs)) (hne : xs ≠ []) :
    Yl e P o l L (elp v (m + off)) := fun w s => by
  obtain ⟨A, k, rfl, hk, mm⟩ := hr.at s
  cases A with
  | none => exact absurd mm hne
  | some a =>
    have := y_fieldAddr (e := e) (L := L) ho hf hn (a := a.add m) (by rw [hx]; rfl) w s
    rwa [add_add] at this
/-- a write into an element's cell -/
theorem wr_arr {T : TypeId} {v : Value} {xs : List α} {b off n i j : Nat} {A : Option Nat} {len cap : Nat} {u : Value} {y : α} (hv : v = .slice (some ⟨b, off, A⟩) len cap) (hi : i < xs.length) (hn : n = i * c.sz + j) (hj : j < c.sz)
    (hy : c.enc y = (c.enc (xs.getD i c.d)).set j u) : Wr (Arr c T v xs :: L) b (off + n) u (Arr c T v (xs.set i y) :: L) := by
  subst hn
  refine Wr.row fun h ha => ?_
  rcases ha with ⟨rfl, rfl⟩ | ⟨b', off', cap', cells, e1, hc, hb, hs, hu⟩
  · simp at hi
  · rw [e1] at hv
    simp only [Value.slice.injEq, Option.some.injEq, Addr.mk.injEq] at hv
    obtain ⟨⟨rfl, rfl, rfl⟩, rfl, rfl⟩ := hv
    have hlt : i * c.sz + j < xs.length * c.sz := by
      have : (i + 1) * c.sz ≤ xs.length * c.sz := Nat.mul_le_mul_right _ hi
      rw [Nat.add_mul] at this; omega
    have hlt2 : off' + (i * c.sz + j) < cells.size := by
      have : xs.length * c.sz ≤ cap' * c.sz := Nat.mul_le_mul_right _ hc
      omega
    refine ⟨cells, T, hb, hlt2, .inr ⟨b', off', cap', _, by rw [List.length_set]; exact e1, by rw [List.length_set]; exact hc, by simp [Hp.upd]; rfl, by simpa using hs, fun k z hk => ?_⟩⟩
    rw [encs_set xs hi hj hy, List.getElem?_set] at hk
    rw [Array.getElem?_setIfInBounds]
    by_cases hk' : i * c.sz + j = k
    · subst hk'
      rw [if_pos rfl] at hk
      rw [if_pos rfl, if_pos hlt2]
      split at hk
      · exact hk
      · cases hk
    · rw [if_neg hk'] at hk
      rw [if_neg (by omega)]
      exact hu k z hk
theorem l_store_el {T E : TypeId} {x z : Operand} {v : Value} {xs : List α} {n i j : Nat} {u : Value} {y : α} (s : SL e w L) (t : Take L (Arr c E v xs) L') (ho : o.op = .store T x z) (hg : o.guard = none) (hd : o.dst = none)
    (hz : sizeB P T = some 1) (hx : ev l x = elp v n) (hy : ev l z = u) (hu : u.oneCell' = true) (hi : i < xs.length) (hn : n = i * c.sz + j) (hj : j < c.sz) (he : c.enc y = (c.enc (xs.getD i c.d)).set j u)
    (k : ∀ w', SL e w' (Arr c E v (xs.set i y) :: L') → wpList P ops Q rest (fr l) w') : wpList P ops Q (o :: rest) (fr l) w := by
  have s1 := s.take t
  obtain ⟨h1, h2, _, _, _, ha, _⟩ := s1.sat
  rcases ha with ⟨rfl, rfl⟩ | ⟨b, off, cap, cells, rfl, _⟩
  · simp at hi
  · have hx' : ev l x = ptr b (off + n) := by rw [hx]; simp only [elp, add_plain]
    exact l_store s1 ho hg hd hz hx' hy hu (wr_arr rfl hi hn hj he) k
end
end Go.SL
