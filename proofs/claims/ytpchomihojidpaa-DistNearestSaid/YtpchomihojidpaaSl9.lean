import Derived.Test.YtpchomihojidpaaSl8
namespace Go.SL
set_option linter.unusedSimpArgs false

theorem Ent.app {L : List Asn} {φ : Hp → Prop} (h : Ent L φ) (M : List Asn) : Ent (M ++ L) φ := by
  induction M with
  | nil => exact h
  | cons A M ih => exact Ent.there ih
theorem Ent.bare {φ : Hp → Prop} (h : ∀ h, φ h) (L : List Asn) : Ent L φ := fun hp _ => h hp

/-! kinds of elements -/
def I64 : Ty Int := { sz := 1, enc := fun x => [.int .i64 x], len := fun _ => rfl, pos := by decide, one := fun x u h => by simp at h; subst h; rfl, d := 0 }
def I32 : Ty Int := { sz := 1, enc := fun x => [.int .i32 x], len := fun _ => rfl, pos := by decide, one := fun x u h => by simp at h; subst h; rfl, d := 0 }
def BoolT : Ty Bool := { sz := 1, enc := fun x => [.bool x], len := fun _ => rfl, pos := by decide, one := fun x u h => by simp at h; subst h; rfl, d := false }
/-- addresses -/
def PtrT : Ty (Option Addr) := { sz := 1, enc := fun x => [.pointer x], len := fun _ => rfl, pos := by decide, one := fun x u h => by simp at h; subst h; rfl, d := none }
structure Cell where
  x : Int
  y : Int
  deriving DecidableEq
def CellT : Ty Cell := { sz := 2, enc := fun c => [.int .i64 c.x, .int .i64 c.y], len := fun _ => rfl, pos := by decide, one := fun x u h => by simp at h; rcases h with rfl | rfl <;> rfl, d := ⟨0, 0⟩ }
structure Rect where
  x0 : Int
  y0 : Int
  x1 : Int
  y1 : Int
  deriving DecidableEq
def RectT : Ty Rect := { sz := 4, enc := fun r => [.int .i64 r.x0, .int .i64 r.y0, .int .i64 r.x1, .int .i64 r.y1], len := fun _ => rfl, pos := by decide, one := fun x u h => by simp at h; rcases h with rfl | rfl | rfl | rfl <;> rfl, d := ⟨0, 0, 0, 0⟩ }

section
variable {P : Program} {e : Env} {o : Oper} {l l' : List Value} {L L' M : List Asn} {ops : Array Oper} {rest : List Oper} {w : World} {Q : Exit → Act → World → Prop} {K : Act → List Asn → Prop} {xs : List (Oper × VS)}

/-- one element in a block of its own -/
theorem one_I64 {b : Nat} {n : Int} {T : TypeId} : ∀ h, Blk b #[.int .i64 n] T h → SlR I64 (.slice (some ⟨b, 0, none⟩) 1 1) [n] h := blk_reads rfl rfl
theorem one_Bool {b : Nat} {n : Bool} {T : TypeId} : ∀ h, Blk b #[.bool n] T h → SlR BoolT (.slice (some ⟨b, 0, none⟩) 1 1) [n] h := blk_reads rfl rfl
theorem one_Ptr {b : Nat} {n : Option Addr} {T : TypeId} : ∀ h, Blk b #[.pointer n] T h → SlR PtrT (.slice (some ⟨b, 0, none⟩) 1 1) [n] h := blk_reads rfl rfl
theorem one_Cell {b : Nat} {x y : Int} {T : TypeId} : ∀ h, Blk b #[.int .i64 x, .int .i64 y] T h → SlR CellT (.slice (some ⟨b, 0, none⟩) 1 1) [⟨x, y⟩] h := blk_reads rfl rfl
theorem one_Rect {b : Nat} {x y z u : Int} {T : TypeId} : ∀ h, Blk b #[.int .i64 x, .int .i64 y, .int .i64 z, .int .i64 u] T h → SlR RectT (.slice (some ⟨b, 0, none⟩) 1 1) [⟨x, y, z, u⟩] h := blk_reads rfl rfl

/-- a literal slice -/
theorem run_bs {T E : TypeId} {n sz : Nat} {parts : Array (Nat × Operand)} {z : Value} {vs : List (Nat × Value)} {ps : List (Nat × List Value)} {zs cells : List Value} (ho : o.op = .buildSlice T n parts) (hT : elemB P T = some E) (hz : sizeB P E = some sz) (hzero : zeroB P E = some z)
    (hzs : (List.range (n * sz)).map (fun j => z.cells[j % z.cells.size]!) = zs) (hv : parts.toList.map (fun p => (evo l p.2).map fun v => (p.1, v)) = vs.map some) (hl : vs.length = ps.length)
    (hp : ∀ q ∈ vs.zip ps, q.2.1 = q.1.1 * sz ∧ q.2.2.length = sz ∧ q.1.2.cells.toList = q.2.2 ∧ q.2.1 + q.2.2.length ≤ zs.length) (hc : lay zs ps = cells) (hlim : n * sz ≤ 2 ^ 24) (w : World) :
    (execOp (ev l) o).run P w = .ok (.value (.slice (some ⟨w.heap.size, 0, none⟩) n n)) { w with heap := w.heap.push (.cells cells.toArray E) } := by
  have hparts : parts.map (fun (x : Nat × Operand) => match x with | (i, x) => (i, ev l x)) = vs.toArray := by
    apply Array.ext'
    rw [Array.toList_map]
    generalize parts.toList = xs at hv
    show xs.map _ = vs
    clear hl hp
    induction xs generalizing vs with
    | nil => cases vs with
      | nil => rfl
      | cons v vs => simp at hv
    | cons x xs ih => cases vs with
      | nil => simp at hv
      | cons v vs =>
        simp only [List.map_cons, List.cons.injEq] at hv ⊢
        refine ⟨?_, ih hv.2⟩
        have h1 := hv.1
        cases hx : evo l x.2 with
        | none => rw [hx] at h1; cases h1
        | some u => rw [hx] at h1; simp at h1; rw [← h1, ev_of hx]
  have key : ∀ zz : Array Value, zz.toList = zs → Instr.fill (fun i => some (i * sz, sz)) zz vs = some cells.toArray := by
    intro zz hzz
    obtain ⟨r, hr1, hr2, _⟩ := fill_lay (fun i => some (i * sz, sz)) vs ps zz hl (fun q hq => by
      obtain ⟨a, b, c, d⟩ := hp q hq
      refine ⟨by rw [a, b], c, ?_⟩
      have := congrArg List.length hzz; simp at this; omega)
    rw [hr1, ← hc, ← hzz, ← hr2]
  have hl24 : ¬ (n * sz > 2 ^ 24) := by omega
  unfold execOp; rw [ho]
  by_cases h0 : n * sz = 0
  · have := key ((Array.range (n * sz)).map fun j => (#[] : Array Value)[j % (#[] : Array Value).size]!) (by rw [← hzs, h0]; simp)
    simp only [h0] at this
    simp only [Instr.buildSlice, Sem.run_bind, run_und (elemB_und hT), Result.andThen_ok, run_sizeOf hz, if_neg hl24, hparts]
    simp only [h0, if_true, Sem.run_bind, Sem.run_pure, Result.andThen_ok]
    rw [this]
    simp [newRow]
  · have := key ((Array.range (n * sz)).map fun j => z.cells[j % z.cells.size]!) (by rw [← hzs]; simp)
    simp only [Instr.buildSlice, Sem.run_bind, run_und (elemB_und hT), Result.andThen_ok, run_sizeOf hz, if_neg hl24, h0, if_false, Sem.run_pure, run_zero hzero, hparts]
    rw [this]
    simp [newRow]
theorem l_bs {T E : TypeId} {d n sz : Nat} {parts : Array (Nat × Operand)} {z : Value} {vs : List (Nat × Value)} {ps : List (Nat × List Value)} {zs cells : List Value} (s : SL e w L) (ho : o.op = .buildSlice T n parts) (hg : o.guard = none) (hd : o.dst = some d) (hT : elemB P T = some E) (hz : sizeB P E = some sz) (hzero : zeroB P E = some z)
    (hzs : (List.range (n * sz)).map (fun j => z.cells[j % z.cells.size]!) = zs) (hv : parts.toList.map (fun p => (evo l p.2).map fun v => (p.1, v)) = vs.map some) (hl : vs.length = ps.length)
    (hp : ∀ q ∈ vs.zip ps, q.2.1 = q.1.1 * sz ∧ q.2.2.length = sz ∧ q.1.2.cells.toList = q.2.2 ∧ q.2.1 + q.2.2.length ≤ zs.length) (hc : lay zs ps = cells) (hlim : n * sz ≤ 2 ^ 24)
    (k : ∀ b w', SL e w' (Blk b cells.toArray E :: L) → wpList P ops Q rest (fr (l.set d (.slice (some ⟨b, 0, none⟩) n n))) w') : wpList P ops Q (o :: rest) (fr l) w :=
  l_new s hg hd (fun b => .slice (some ⟨b, 0, none⟩) n n) (.cells cells.toArray E) (fun w => run_bs ho hT hz hzero hzs hv hl hp hc hlim w) (fun b => blk_single b _ _) k
theorem d_bs {T E : TypeId} {d n sz : Nat} {parts : Array (Nat × Operand)} {z : Value} {vs : List (Nat × Value)} {ps : List (Nat × List Value)} {zs cells : List Value} (ho : o.op = .buildSlice T n parts) (hg : o.guard = none) (hd : o.dst = some d) (hT : elemB P T = some E) (hz : sizeB P E = some sz) (hzero : zeroB P E = some z)
    (hzs : (List.range (n * sz)).map (fun j => z.cells[j % z.cells.size]!) = zs) (hv : parts.toList.map (fun p => (evo l p.2).map fun v => (p.1, v)) = vs.map some) (hl : vs.length = ps.length)
    (hp : ∀ q ∈ vs.zip ps, q.2.1 = q.1.1 * sz ∧ q.2.2.length = sz ∧ q.1.2.cells.toList = q.2.2 ∧ q.2.1 + q.2.2.length ≤ zs.length) (hc : lay zs ps = cells) (hlim : n * sz ≤ 2 ^ 24)
    (k : ∀ b, WD P e L ops K xs (fr (l.set d (.slice (some ⟨b, 0, none⟩) n n))) (Blk b cells.toArray E :: M)) : WD P e L ops K ((o, vb (fun b => .slice (some ⟨b, 0, none⟩) n n) (fun b => Blk b cells.toArray E)) :: xs) (fr l) M :=
  d_new (.cells cells.toArray E) hg hd (fun w => run_bs ho hT hz hzero hzs hv hl hp hc hlim w) (fun b => blk_single b _ _) k
theorem cells_len {z : Value} {n : Nat} : ((Array.range n).map (fun j => z.cells[j % z.cells.size]!)).size = n := by simp
/-- append, the source a block of its own that is wanted no more -/
theorem l_append1 {α : Type} {c : Ty α} {T E E2 : TypeId} {d bytes b : Nat} {x y : Operand} {z : Value} {v vy : Value} {cells : Array Value} {xs ys : List α} (s : SL e w L) (t1 : Take L (Blk b cells E2) L') (t : Take L' (Arr c E v xs) M) (ho : o.op = .call { callee := .builtin .append, args := #[x, y], argTypes := #[T, T] }) (hg : o.guard = none) (hd : o.dst = some d)
    (hT : elemB P T = some E) (hz : sizeB P E = some c.sz) (hb : bytesB P E = some bytes) (hzero : zeroB P E = some z) (hzs : z.cells.size = c.sz) (hx : ev l x = v) (hy : ev l y = vy) (hr : ∀ h, Blk b cells E2 h → SlR c vy ys h) (hlim : (xs.length + ys.length) * bytes ≤ 140737488355328) (hbp : 0 < bytes)
    (k : ∀ v' w', SL e w' (Arr c E v' (xs ++ ys) :: M) → wpList P ops Q rest (fr (l.set d v')) w') : wpList P ops Q (o :: rest) (fr l) w := by
  have s1 : SL e w (Arr c E v xs :: Blk b cells E2 :: M) := by
    have h1 := s.take t1
    exact SL.swap ⟨h1.env, Sat.tail (fun _ => t.sat) h1.sat⟩
  exact l_append s1 (Take.here _ _) ho hg hd hT hz hb hzero hzs hx hy (Ent.there (Ent.here hr)) hlim hbp fun v' w' s' => k v' w' s'.swap.drop

/-- a value that fills one cell -/
theorem arr_one {α : Type} {c : Ty α} {v : Value} {ys : List α} (h : Ent L (SlR c v ys)) (s : SL e w L) : v.oneCell' = true := by
  obtain ⟨A, k, rfl, _⟩ := h.at s; rfl
end
end Go.SL
