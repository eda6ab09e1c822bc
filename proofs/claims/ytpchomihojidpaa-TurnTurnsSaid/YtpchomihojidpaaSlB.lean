/- The library of this claim: what memory holds, part by part, and the steps of a walk. Part B. -/
import Derived.Test.YtpchomihojidpaaSlA
namespace Go.SL
set_option linter.unusedVariables false
set_option linter.unusedSimpArgs false

theorem Ent.app {L : List Asn} {φ : Hp → Prop} (h : Ent L φ) (M : List Asn) : Ent (M ++ L) φ := by
  induction M with
  | nil => exact h
  | cons A M ih => exact Ent.there ih
theorem Ent.bare {φ : Hp → Prop} (h : ∀ h, φ h) (L : List Asn) : Ent L φ := fun hp _ => h hp

/-! kinds of elements -/
def I64 : Ty Int := { sz := 1, enc := fun x => [.int .i64 x], len := fun _ => rfl, pos := by decide, one := fun x u h => by simp at h; subst h; rfl, d := 0 }
def I32 : Ty Int := { sz := 1, enc := fun x => [.int .i32 x], len := fun _ => rfl, pos := by decide, one := fun x u h => by simp at h; subst h; rfl, d := 0 }
def BoolT : Ty Bool := { sz := 1, enc := fun x => [.bool x], len := fun _ => rfl, pos := by decide, one := fun x u h => by simp at h; subst h; rfl, d := false }
/-- addresses -/
def PtrT : Ty (Option Addr) := { sz := 1, enc := fun x => [.pointer x], len := fun _ => rfl, pos := by decide, one := fun x u h => by simp at h; subst h; rfl, d := none }
structure Cell where
  x : Int
  y : Int
  deriving DecidableEq
def CellT : Ty Cell := { sz := 2, enc := fun c => [.int .i64 c.x, .int .i64 c.y], len := fun _ => rfl, pos := by decide, one := fun x u h => by simp at h; rcases h with rfl | rfl <;> rfl, d := ⟨0, 0⟩ }
structure Rect where
  x0 : Int
  y0 : Int
  x1 : Int
  y1 : Int
  deriving DecidableEq
def RectT : Ty Rect := { sz := 4, enc := fun r => [.int .i64 r.x0, .int .i64 r.y0, .int .i64 r.x1, .int .i64 r.y1], len := fun _ => rfl, pos := by decide, one := fun x u h => by simp at h; rcases h with rfl | rfl | rfl | rfl <;> rfl, d := ⟨0, 0, 0, 0⟩ }

section
variable {P : Program} {e : Env} {o : Oper} {l l' : List Value} {L L' M : List Asn} {ops : Array Oper} {rest : List Oper} {w : World} {Q : Exit → Act → World → Prop} {K : Act → List Asn → Prop} {xs : List (Oper × VS)}

/-- one element in a block of its own -/
theorem one_I64 {b : Nat} {n : Int} {T : TypeId} : ∀ h, Blk b #[.int .i64 n] T h → SlR I64 (.slice (some ⟨b, 0, none⟩) 1 1) [n] h := blk_reads rfl rfl
theorem one_Bool {b : Nat} {n : Bool} {T : TypeId} : ∀ h, Blk b #[.bool n] T h → SlR BoolT (.slice (some ⟨b, 0, none⟩) 1 1) [n] h := blk_reads rfl rfl
theorem one_Ptr {b : Nat} {n : Option Addr} {T : TypeId} : ∀ h, Blk b #[.pointer n] T h → SlR PtrT (.slice (some ⟨b, 0, none⟩) 1 1) [n] h := blk_reads rfl rfl
theorem one_Cell {b : Nat} {x y : Int} {T : TypeId} : ∀ h, Blk b #[.int .i64 x, .int .i64 y] T h → SlR CellT (.slice (some ⟨b, 0, none⟩) 1 1) [⟨x, y⟩] h := blk_reads rfl rfl
theorem one_Rect {b : Nat} {x y z u : Int} {T : TypeId} : ∀ h, Blk b #[.int .i64 x, .int .i64 y, .int .i64 z, .int .i64 u] T h → SlR RectT (.slice (some ⟨b, 0, none⟩) 1 1) [⟨x, y, z, u⟩] h := blk_reads rfl rfl

/-- a literal slice -/
theorem run_bs {T E : TypeId} {n sz : Nat} {parts : Array (Nat × Operand)} {z : Value} {vs : List (Nat × Value)} {ps : List (Nat × List Value)} {zs cells : List Value} (ho : o.op = .buildSlice T n parts) (hT : elemB P T = some E) (hz : sizeB P E = some sz) (hzero : zeroB P E = some z)
    (hzs : (List.range (n * sz)).map (fun j => z.cells[j % z.cells.size]!) = zs) (hv : parts.toList.map (fun p => (evo l p.2).map fun v => (p.1, v)) = vs.map some) (hl : vs.length = ps.length)
    (hp : ∀ q ∈ vs.zip ps, q.2.1 = q.1.1 * sz ∧ q.2.2.length = sz ∧ q.1.2.cells.toList = q.2.2 ∧ q.2.1 + q.2.2.length ≤ zs.length) (hc : lay zs ps = cells) (hlim : n * sz ≤ 2 ^ 24) (w : World) :
    (execOp (ev l) o).run P w = .ok (.value (.slice (some ⟨w.heap.size, 0, none⟩) n n)) { w with heap := w.heap.push (.cells cells.toArray E) } := by
  have hparts : parts.map (fun (x : Nat × Operand) => match x with | (i, x) => (i, ev l x)) = vs.toArray := by
    apply Array.ext'
    rw [Array.toList_map]
    generalize parts.toList = xs at hv
    show xs.map _ = vs
    clear hl hp
    induction xs generalizing vs with
    | nil => cases vs with
      | nil => rfl
      | cons v vs => simp at hv
    | cons x xs ih => cases vs with
      | nil => simp at hv
      | cons v vs =>
        simp only [List.map_cons, List.cons.injEq] at hv ⊢
        refine ⟨?_, ih hv.2⟩
        have h1 := hv.1
        cases hx : evo l x.2 with
        | none => rw [hx] at h1; cases h1
        | some u => rw [hx] at h1; simp at h1; rw [← h1, ev_of hx]
  have key : ∀ zz : Array Value, zz.toList = zs → Instr.fill (fun i => some (i * sz, sz)) zz vs = some cells.toArray := by
    intro zz hzz
    obtain ⟨r, hr1, hr2, _⟩ := fill_lay (fun i => some (i * sz, sz)) vs ps zz hl (fun q hq => by
      obtain ⟨a, b, c, d⟩ := hp q hq
      refine ⟨by rw [a, b], c, ?_⟩
      have := congrArg List.length hzz; simp at this; omega)
    rw [hr1, ← hc, ← hzz, ← hr2]
  have hl24 : ¬ (n * sz > 2 ^ 24) := by omega
  unfold execOp; rw [ho]
  by_cases h0 : n * sz = 0
  · have := key ((Array.range (n * sz)).map fun j => (#[] : Array Value)[j % (#[] : Array Value).size]!) (by rw [← hzs, h0]; simp)
    simp only [h0] at this
    simp only [Instr.buildSlice, Sem.run_bind, run_und (elemB_und hT), Result.andThen_ok, run_sizeOf hz, if_neg hl24, hparts]
    simp only [h0, if_true, Sem.run_bind, Sem.run_pure, Result.andThen_ok]
    rw [this]
    simp [newRow]
  · have := key ((Array.range (n * sz)).map fun j => z.cells[j % z.cells.size]!) (by rw [← hzs]; simp)
    simp only [Instr.buildSlice, Sem.run_bind, run_und (elemB_und hT), Result.andThen_ok, run_sizeOf hz, if_neg hl24, h0, if_false, Sem.run_pure, run_zero hzero, hparts]
    rw [this]
    simp [newRow]
theorem l_bs {T E : TypeId} {d n sz : Nat} {parts : Array (Nat × Operand)} {z : Value} {vs : List (Nat × Value)} {ps : List (Nat × List Value)} {zs cells : List Value} (s : SL e w L) (ho : o.op = .buildSlice T n parts) (hg : o.guard = none) (hd : o.dst = some d) (hT : elemB P T = some E) (hz : sizeB P E = some sz) (hzero : zeroB P E = some z)
    (hzs : (List.range (n * sz)).map (fun j => z.cells[j % z.cells.size]!) = zs) (hv : parts.toList.map (fun p => (evo l p.2).map fun v => (p.1, v)) = vs.map some) (hl : vs.length = ps.length)
    (hp : ∀ q ∈ vs.zip ps, q.2.1 = q.1.1 * sz ∧ q.2.2.length = sz ∧ q.1.2.cells.toList = q.2.2 ∧ q.2.1 + q.2.2.length ≤ zs.length) (hc : lay zs ps = cells) (hlim : n * sz ≤ 2 ^ 24)
    (k : ∀ b w', SL e w' (Blk b cells.toArray E :: L) → wpList P ops Q rest (fr (l.set d (.slice (some ⟨b, 0, none⟩) n n))) w') : wpList P ops Q (o :: rest) (fr l) w :=
  l_new s hg hd (fun b => .slice (some ⟨b, 0, none⟩) n n) (.cells cells.toArray E) (fun w => run_bs ho hT hz hzero hzs hv hl hp hc hlim w) (fun b => blk_single b _ _) k
theorem d_bs {T E : TypeId} {d n sz : Nat} {parts : Array (Nat × Operand)} {z : Value} {vs : List (Nat × Value)} {ps : List (Nat × List Value)} {zs cells : List Value} (ho : o.op = .buildSlice T n parts) (hg : o.guard = none) (hd : o.dst = some d) (hT : elemB P T = some E) (hz : sizeB P E = some sz) (hzero : zeroB P E = some z)
    (hzs : (List.range (n * sz)).map (fun j => z.cells[j % z.cells.size]!) = zs) (hv : parts.toList.map (fun p => (evo l p.2).map fun v => (p.1, v)) = vs.map some) (hl : vs.length = ps.length)
    (hp : ∀ q ∈ vs.zip ps, q.2.1 = q.1.1 * sz ∧ q.2.2.length = sz ∧ q.1.2.cells.toList = q.2.2 ∧ q.2.1 + q.2.2.length ≤ zs.length) (hc : lay zs ps = cells) (hlim : n * sz ≤ 2 ^ 24)
    (k : ∀ b, WD P e L ops K xs (fr (l.set d (.slice (some ⟨b, 0, none⟩) n n))) (Blk b cells.toArray E :: M)) : WD P e L ops K ((o, vb (fun b => .slice (some ⟨b, 0, none⟩) n n) (fun b => Blk b cells.toArray E)) :: xs) (fr l) M :=
  d_new (.cells cells.toArray E) hg hd (fun w => run_bs ho hT hz hzero hzs hv hl hp hc hlim w) (fun b => blk_single b _ _) k
theorem cells_len {z : Value} {n : Nat} : ((Array.range n).map (fun j => z.cells[j % z.cells.size]!)).size = n := by simp
/-- append, the source a block of its own that is wanted no more -/
theorem l_append1 {α : Type} {c : Ty α} {T E E2 : TypeId} {d bytes b : Nat} {x y : Operand} {z : Value} {v vy : Value} {cells : Array Value} {xs ys : List α} (s : SL e w L) (t1 : Take L (Blk b cells E2) L') (t : Take L' (Arr c E v xs) M) (ho : o.op = .call { callee := .builtin .append, args := #[x, y], argTypes := #[T, T] }) (hg : o.guard = none) (hd : o.dst = some d)
    (hT : elemB P T = some E) (hz : sizeB P E = some c.sz) (hb : bytesB P E = some bytes) (hzero : zeroB P E = some z) (hzs : z.cells.size = c.sz) (hx : ev l x = v) (hy : ev l y = vy) (hr : ∀ h, Blk b cells E2 h → SlR c vy ys h) (hlim : (xs.length + ys.length) * bytes ≤ 140737488355328) (hbp : 0 < bytes)
    (k : ∀ v' w', SL e w' (Arr c E v' (xs ++ ys) :: M) → wpList P ops Q rest (fr (l.set d v')) w') : wpList P ops Q (o :: rest) (fr l) w := by
  have s1 : SL e w (Arr c E v xs :: Blk b cells E2 :: M) := by
    have h1 := s.take t1
    exact SL.swap ⟨h1.env, Sat.tail (fun _ => t.sat) h1.sat⟩
  exact l_append s1 (Take.here _ _) ho hg hd hT hz hb hzero hzs hx hy (Ent.there (Ent.here hr)) hlim hbp fun v' w' s' => k v' w' s'.swap.drop

/-- a value that fills one cell -/
theorem arr_one {α : Type} {c : Ty α} {v : Value} {ys : List α} (h : Ent L (SlR c v ys)) (s : SL e w L) : v.oneCell' = true := by
  obtain ⟨A, k, rfl, _⟩ := h.at s; rfl
end
end Go.SL

namespace Go.SL
set_option linter.unusedVariables false
set_option linter.unusedSimpArgs false
section
variable {α : Type} {c : Ty α} {P : Program} {e : Env} {o : Oper} {l l' : List Value} {L L' M : List Asn} {ops : Array Oper} {rest : List Oper} {w : World} {Q : Exit → Act → World → Prop} {K : Act → List Asn → Prop} {xs : List α}

theorem c_condT {x : Operand} {a b : Code} (hx : evo l x = some (.bool true)) (k : a.wp P Q (fr l) w) : (Code.cond x a b).wp P Q (fr l) w :=
  wp_cond_true (by rw [fr_eval]; exact ev_of hx) k
theorem c_condF {x : Operand} {a b : Code} (hx : evo l x = some (.bool false)) (k : b.wp P Q (fr l) w) : (Code.cond x a b).wp P Q (fr l) w :=
  wp_cond_false (by rw [fr_eval]; exact ev_of hx) k
theorem c_if {x : Operand} {a b : Code} {t : Bool} (hx : evo l x = some (.bool t)) (ht : t = true → a.wp P Q (fr l) w) (hf : t = false → b.wp P Q (fr l) w) : (Code.cond x a b).wp P Q (fr l) w :=
  c_cond (ev_of hx) ht hf

theorem r1 {fn : Func} {t : Nat} {R : Value → World → Prop} {v : Value} (hr : fn.results = #[.tmp t]) (hv : nth l t = some v) (h : R v w) : bodyPost P fn (Rets R) .ret (fr l) w := ret1 hr (nth_getD _ _ _ hv) h
theorem r2 {fn : Func} {t u : Nat} {R : Value → World → Prop} {v v' : Value} (hr : fn.results = #[.tmp t, .tmp u]) (hv : nth l t = some v) (hv' : nth l u = some v') (h : R (.tuple #[v, v']) w) : bodyPost P fn (Rets R) .ret (fr l) w :=
  ret2 hr (nth_getD _ _ _ hv) (nth_getD _ _ _ hv') h
theorem r3 {fn : Func} {t u s : Nat} {R : Value → World → Prop} {v v' v'' : Value} (hr : fn.results = #[.tmp t, .tmp u, .tmp s]) (hv : nth l t = some v) (hv' : nth l u = some v') (hv'' : nth l s = some v'') (h : R (.tuple #[v, v', v'']) w) : bodyPost P fn (Rets R) .ret (fr l) w :=
  ret3 hr (nth_getD _ _ _ hv) (nth_getD _ _ _ hv') (nth_getD _ _ _ hv'') h
theorem r4 {fn : Func} {t u s r : Nat} {R : Value → World → Prop} {v v' v'' v3 : Value} (hr : fn.results = #[.tmp t, .tmp u, .tmp s, .tmp r]) (hv : nth l t = some v) (hv' : nth l u = some v') (hv'' : nth l s = some v'') (hv3 : nth l r = some v3) (h : R (.tuple #[v, v', v'', v3]) w) : bodyPost P fn (Rets R) .ret (fr l) w :=
  ret4 hr (nth_getD _ _ _ hv) (nth_getD _ _ _ hv') (nth_getD _ _ _ hv'') (nth_getD _ _ _ hv3) h
/-- a result that lies in a block of its own -/
theorem run_resCell {t b : Nat} {T T' : TypeId} {cells : Array Value} (hv : nth l t = some (ptr b 0)) (hs : someU P T = true) (hT : aggB P T = true) (hn : sizeB P T = some cells.size) (hc : Ent L (fun h => Blk b cells T' h)) (s : SL e w L) :
    (loadVar T ⟨b, 0, none⟩).run P w = .ok (.agg cells) w ∧ l.toArray.getD t undef = ptr b 0 := by
  have h0 := nth_getD _ _ _ hv
  have h1 := run_loadCells_list (P := P) w ⟨b, 0, none⟩ cells.toList (fun j v hj => blk_cells (vs := cells.toList) (by rw [List.drop_zero]; exact List.take_of_length_le (Nat.le_refl _)) _ (hc.at s) j v hj)
  refine ⟨?_, by simpa using h0⟩
  simp only [loadVar, Sem.run_bind, run_isAgg hs hT, Result.andThen_ok, if_true, run_sizeOf hn]
  have e1 : cells.toList.length = cells.size := by simp
  rw [e1] at h1
  rw [h1]
  simp
theorem rc1 {fn : Func} {t b n : Nat} {T T' : TypeId} {cells : Array Value} {R : Value → World → Prop} (s : SL e w L) (hr : fn.results = #[.cell t T]) (hv : nth l t = some (ptr b 0)) (hs : someU P T = true) (hT : aggB P T = true) (hn' : sizeB P T = some n) (hc : Ent L (fun h => Blk b cells T' h)) (hsz : cells.size = n)
    (h : R (.agg cells) w) : bodyPost P fn (Rets R) .ret (fr l) w := by
  subst hsz
  obtain ⟨h1, h2⟩ := run_resCell hv hs hT hn' hc s
  refine ⟨rfl, .agg cells, ?_, h⟩
  have h2' : l[t]?.getD undef = ptr b 0 := by simpa using h2
  simp [results, hr, fr, h2', asAddr, h1]
theorem rc2 {fn : Func} {t b u n : Nat} {T T' : TypeId} {cells : Array Value} {v : Value} {R : Value → World → Prop} (s : SL e w L) (hr : fn.results = #[.cell t T, .tmp u]) (hv : nth l t = some (ptr b 0)) (hs : someU P T = true) (hT : aggB P T = true) (hn' : sizeB P T = some n) (hc : Ent L (fun h => Blk b cells T' h)) (hsz : cells.size = n) (hu : nth l u = some v)
    (h : R (.tuple #[.agg cells, v]) w) : bodyPost P fn (Rets R) .ret (fr l) w := by
  subst hsz
  obtain ⟨h1, h2⟩ := run_resCell hv hs hT hn' hc s
  have h3 := nth_getD _ _ _ hu
  refine ⟨rfl, .tuple #[.agg cells, v], ?_, h⟩
  have h2' : l[t]?.getD undef = ptr b 0 := by simpa using h2
  have h3' : l[u]?.getD undef = v := by simpa using h3
  simp [results, hr, fr, h2', asAddr, h1, h3']

/-! indexes -/
theorem y_idx {T E : TypeId} {x y : Operand} {v : Value} {k : IntKind} {i : Int} {n : Nat} (ho : o.op = .indexAddr T x y) (hT : elemB P T = some E) (hz : sizeB P E = some c.sz)
    (hx : ev l x = v) (hy : ev l y = .int k i) (hr : Ent L (SlR c v xs)) (hk : i = (n : Int)) (h1 : n < xs.length) : Yl e P o l L (elp v (n * c.sz)) := by
  subst hk
  exact y_indexAddr ho hT hz hx hy hr (by omega) (by omega)
theorem y_ld {T : TypeId} {x : Operand} {v : Value} {n : Nat} {u : Value} (ho : o.op = .load T x) (hs : someU P T = true) (hT : aggB P T = false) (hx : ev l x = elp v (n * c.sz)) (hr : Ent L (SlR c v xs)) (hi : n < xs.length)
    (hu : c.enc (xs.getD n c.d) = [u]) : Yl e P o l L u := by
  have hsz : c.sz = 1 := by have := c.len (xs.getD n c.d); rw [hu] at this; simpa using this.symm
  exact y_load_el (i := n) (j := 0) ho hs hT hx hr hi (by omega) (by omega) (by rw [hu]; rfl)
theorem y_ldI {T : TypeId} {x : Operand} {v : Value} {n : Nat} {xs : List Int} (ho : o.op = .load T x) (hs : someU P T = true) (hT : aggB P T = false) (hx : ev l x = elp v (n * I64.sz)) (hr : Ent L (SlR I64 v xs)) (hi : n < xs.length) : Yl e P o l L (.int .i64 (xs.getD n 0)) :=
  y_ld ho hs hT hx hr hi rfl
theorem y_ldB {T : TypeId} {x : Operand} {v : Value} {n : Nat} {xs : List Bool} (ho : o.op = .load T x) (hs : someU P T = true) (hT : aggB P T = false) (hx : ev l x = elp v (n * BoolT.sz)) (hr : Ent L (SlR BoolT v xs)) (hi : n < xs.length) : Yl e P o l L (.bool (xs.getD n false)) :=
  y_ld ho hs hT hx hr hi rfl
theorem y_ldF {T : TypeId} {x : Operand} {v : Value} {n j : Nat} {u : Value} (ho : o.op = .load T x) (hs : someU P T = true) (hT : aggB P T = false) (hx : ev l x = elp v (n * c.sz + j)) (hr : Ent L (SlR c v xs)) (hi : n < xs.length)
    (hj : j < c.sz) (hu : nth (c.enc (xs.getD n c.d)) j = some u) : Yl e P o l L u := by
  refine y_load_el (i := n) (j := j) ho hs hT hx hr hi rfl hj ?_
  have : ∀ (l : List Value) (t : Nat) (v : Value), nth l t = some v → l[t]? = some v := by
    intro l; induction l with
    | nil => intro t v h; cases h
    | cons x l ih => intro t v h; cases t with
      | zero => simpa [nth] using h
      | succ t => simpa using ih t v h
  exact this _ _ _ hu
theorem y_ldA {T : TypeId} {x : Operand} {v : Value} {n : Nat} {vs : List Value} (ho : o.op = .load T x) (hs : someU P T = true) (hT : aggB P T = true) (hz : sizeB P T = some c.sz) (hx : ev l x = elp v (n * c.sz)) (hr : Ent L (SlR c v xs)) (hi : n < xs.length)
    (hu : c.enc (xs.getD n c.d) = vs) : Yl e P o l L (.agg vs.toArray) := hu ▸ y_load_el_agg ho hs hT hz hx hr hi rfl
theorem y_fldE {T T1 : TypeId} {x : Operand} {f off n m : Nat} {v : Value} (ho : o.op = .fieldAddr T x f) (hf : fieldB P T f = some (off, T1)) (hn : sizeB P T1 = some (n + 1)) (hx : ev l x = elp v m) (hr : Ent L (SlR c v xs)) (hne : 0 < xs.length) :
    Yl e P o l L (elp v (m + off)) := y_fieldAddr_el ho hf hn hx hr (by intro h; subst h; simp at hne)
/-- what stands there is written over -/
theorem l_stE {T E : TypeId} {x z : Operand} {v : Value} {n : Nat} {u : Value} (y : α) (s : SL e w L) (t : Take L (Arr c E v xs) L') (ho : o.op = .store T x z) (hg : o.guard = none) (hd : o.dst = none)
    (hz : sizeB P T = some 1) (hx : ev l x = elp v (n * c.sz)) (hy : ev l z = u) (hi : n < xs.length) (he : c.enc y = [u])
    (k : ∀ w', SL e w' (Arr c E v (xs.set n y) :: L') → wpList P ops Q rest (fr l) w') : wpList P ops Q (o :: rest) (fr l) w := by
  have hsz : c.sz = 1 := by have := c.len y; rw [he] at this; simpa using this.symm
  have hone : u.oneCell' = true := c.one y u (by rw [he]; simp)
  refine l_store_el (i := n) (j := 0) (y := y) s t ho hg hd hz hx hy hone hi (by omega) (by omega) ?_ k
  rw [he]
  have := c.len (xs.getD n c.d)
  rw [hsz] at this
  match h : c.enc (xs.getD n c.d), this with
  | [a], _ => rfl
theorem l_stI {T E : TypeId} {x z : Operand} {v : Value} {n : Nat} {m : Int} {xs : List Int} (s : SL e w L) (t : Take L (Arr I64 E v xs) L') (ho : o.op = .store T x z) (hg : o.guard = none) (hd : o.dst = none)
    (hz : sizeB P T = some 1) (hx : ev l x = elp v (n * I64.sz)) (hy : ev l z = .int .i64 m) (hi : n < xs.length)
    (k : ∀ w', SL e w' (Arr I64 E v (xs.set n m) :: L') → wpList P ops Q rest (fr l) w') : wpList P ops Q (o :: rest) (fr l) w :=
  l_stE m s t ho hg hd hz hx hy hi rfl k
theorem l_stB {T E : TypeId} {x z : Operand} {v : Value} {n : Nat} {m : Bool} {xs : List Bool} (s : SL e w L) (t : Take L (Arr BoolT E v xs) L') (ho : o.op = .store T x z) (hg : o.guard = none) (hd : o.dst = none)
    (hz : sizeB P T = some 1) (hx : ev l x = elp v (n * BoolT.sz)) (hy : ev l z = .bool m) (hi : n < xs.length)
    (k : ∀ w', SL e w' (Arr BoolT E v (xs.set n m) :: L') → wpList P ops Q rest (fr l) w') : wpList P ops Q (o :: rest) (fr l) w :=
  l_stE m s t ho hg hd hz hx hy hi rfl k
/-- a whole struct into a block -/
theorem l_stA {T T' : TypeId} {x z : Operand} {b n : Nat} {cells vs : Array Value} (s : SL e w L) (t : Take L (Blk b cells T') L') (ho : o.op = .store T x z) (hg : o.guard = none) (hd : o.dst = none)
    (hz : sizeB P T = some n) (hx : ev l x = ptr b 0) (hy : ev l z = .agg vs) (hn : vs.size = n) (hc : cells.size = n) (h1 : ∀ u ∈ vs.toList, u.oneCell' = true)
    (k : ∀ w', SL e w' (Blk b vs T' :: L') → wpList P ops Q rest (fr l) w') : wpList P ops Q (o :: rest) (fr l) w := by
  refine wpList_plain hg fun K hK => ?_
  have s1 := s.take t
  obtain ⟨h1', h2', _, l1, _, hb, _⟩ := s1.sat
  have hw : w.heap[b]? = some (.cells cells T' (0, 0)) := l1 _ _ hb
  have hst := run_storeCells_at P b 0 T' vs.toList 0 cells w hw (by simp; omega) h1
  have e0 : (cells.toList.take (0 + 0) ++ vs.toList ++ cells.toList.drop (0 + 0 + vs.toList.length)).toArray = vs := by
    have : cells.toList.drop (0 + 0 + vs.toList.length) = [] := List.drop_eq_nil_of_le (by simp; omega)
    rw [this]; simp
  rw [e0] at hst
  have h : (execOp (ev l) o).run P w = .ok .skip (w.setRow b vs) := by
    unfold execOp; rw [ho]
    have hne : ¬ (Value.agg vs).cells.size ≠ n := by simp [Value.cells, hn]
    simp only [hx, hy, Instr.storeAt, Instr.sureAddr, storeVar, Sem.run_bind, Sem.run_pure, Result.andThen_ok, run_sizeOf hz, if_neg hne]
    simp only [Value.cells]
    rw [hst]; rfl
  unfold Oper.wp
  rw [fr_eval, h]
  simp only [Oper.upon, hd, fr_put_none]
  refine hK _ _ (k _ (s1.setRow hw fun h hh => ⟨by rw [hh]; rfl, fun _ => by simp [Blk, Hp.upd]⟩))
end
end Go.SL

namespace Go.SL
set_option linter.unusedVariables false
set_option linter.unusedSimpArgs false
def fsB (P : Program) (T : TypeId) : Bool := match P.underlying T with
  | some (.struct fs) => fs.toList.all fun f => (sizeB P f.type).isSome
  | _ => false
theorem fs_of {P : Program} {T : TypeId} (h : fsB P T = true) : ∃ fs : Array Field, P.underlying T = some (.struct fs) ∧ ∀ f ∈ fs.toList, (sizeB P f.type).isSome = true := by
  unfold fsB at h
  cases hu : P.underlying T with
  | none => rw [hu] at h; cases h
  | some d =>
    rw [hu] at h
    cases d <;> try (cases h; done)
    rename_i fs
    exact ⟨fs, rfl, fun f hf => List.all_eq_true.1 h f hf⟩
def ptrB (P : Program) (T : TypeId) : Bool := match P.underlying T with
  | some (.pointer _) => true
  | _ => false
def boolB (P : Program) (T : TypeId) : Bool := match P.underlying T with
  | some .bool => true
  | _ => false
section
variable {P : Program} {e : Env} {o : Oper} {l : List Value} {L : List Asn}
theorem ptr_und {T : TypeId} (h : ptrB P T = true) : ∃ x, P.underlying T = some (.pointer x) := by
  unfold ptrB at h
  cases hu : P.underlying T with
  | none => rw [hu] at h; cases h
  | some d => rw [hu] at h; cases d <;> first | (cases h; done) | exact ⟨_, rfl⟩
theorem run_cmp (op : BinOp) (T : TypeId) (x y : Operand) (T' : TypeId) {u v r : Value} (ho : o.op = .binOp op T x y T') (hx : ev l x = u) (hy : ev l y = v) (hg : ∀ w, (eqGuard op T x y u v).run P w = .ok () w) (h : ∀ w, (binOp op T u v).run P w = .ok r w) : Yl e P o l L r := fun w _ => by
  unfold execOp; rw [ho]
  simp only [hx, hy, Sem.run_bind, hg]; simp [h]
theorem eqn {T : TypeId} {x y : Value} {b : Bool} {w : World} (h : ∀ d, (Op.equalIn (d + 1) T x y).run P w = .ok b w) : (Op.equal T x y).run P w = .ok b w := h 9999
theorem run_beq {T : TypeId} {x y : Value} {b : Bool} {w : World} (hb : binOp .eql T x y = (do pure (.bool (← Op.equal T x y)))) (h : ∀ d, (Op.equalIn (d + 1) T x y).run P w = .ok b w) : (binOp .eql T x y).run P w = .ok (.bool b) w := by
  rw [hb, Sem.run_bind, eqn h]; rfl
theorem run_bne {T : TypeId} {x y : Value} {b : Bool} {w : World} (hb : binOp .neq T x y = (do pure (.bool (!(← Op.equal T x y))))) (h : ∀ d, (Op.equalIn (d + 1) T x y).run P w = .ok b w) : (binOp .neq T x y).run P w = .ok (.bool (!b)) w := by
  rw [hb, Sem.run_bind, eqn h]; rfl
theorem eqIn_nil {T E : TypeId} (hu : P.underlying T = some (.pointer E)) (a : Option Addr) (w : World) (d : Nat) : (Op.equalIn (d + 1) T (.pointer a) (.pointer none)).run P w = .ok a.isNone w := by
  simp only [Op.equalIn, Sem.run_bind, run_und hu, Result.andThen_ok]
  cases a <;> rfl
theorem bool_und {T : TypeId} (hT : boolB P T = true) : P.underlying T = some .bool := by
  unfold boolB at hT
  cases hu : P.underlying T with
  | none => rw [hu] at hT; cases hT
  | some d => rw [hu] at hT; cases d <;> first | (cases hT; done) | rfl
theorem eqIn_bool {T : TypeId} (hu : P.underlying T = some .bool) (a b : Bool) (w : World) (d : Nat) : (Op.equalIn (d + 1) T (.bool a) (.bool b)).run P w = .ok (a == b) w := by
  simp only [Op.equalIn, Sem.run_bind, run_und hu, Result.andThen_ok]
  rfl
/-- an address against nil -/
theorem y_peqnil {T T' : TypeId} {x y : Operand} {a : Option Addr} (ho : o.op = .binOp .eql T x y T') (hT : ptrB P T = true) (hx : ev l x = .pointer a) (hy : ev l y = .pointer none) : Yl e P o l L (.bool a.isNone) := by
  obtain ⟨E, hu⟩ := ptr_und hT
  exact run_cmp .eql T x y T' ho hx hy (fun w => rfl) fun w => run_beq rfl (eqIn_nil hu a w)
theorem y_pnenil {T T' : TypeId} {x y : Operand} {a : Option Addr} (ho : o.op = .binOp .neq T x y T') (hT : ptrB P T = true) (hx : ev l x = .pointer a) (hy : ev l y = .pointer none) : Yl e P o l L (.bool (!a.isNone)) := by
  obtain ⟨E, hu⟩ := ptr_und hT
  exact run_cmp .neq T x y T' ho hx hy (fun w => rfl) fun w => run_bne rfl (eqIn_nil hu a w)
theorem y_beql {T T' : TypeId} {x y : Operand} {a b : Bool} (ho : o.op = .binOp .eql T x y T') (hx : ev l x = .bool a) (hy : ev l y = .bool b) (hT : boolB P T = true) : Yl e P o l L (.bool (a == b)) :=
  run_cmp .eql T x y T' ho hx hy (fun w => rfl) fun w => run_beq rfl (eqIn_bool (bool_und hT) a b w)
theorem y_bneq {T T' : TypeId} {x y : Operand} {a b : Bool} (ho : o.op = .binOp .neq T x y T') (hx : ev l x = .bool a) (hy : ev l y = .bool b) (hT : boolB P T = true) : Yl e P o l L (.bool (!(a == b))) :=
  run_cmp .neq T x y T' ho hx hy (fun w => rfl) fun w => run_bne rfl (eqIn_bool (bool_und hT) a b w)
end
end Go.SL

namespace Go.SL
set_option linter.unusedVariables false
theorem nth_get : ∀ (l : List Value) (t : Nat) (v : Value), nth l t = some v → l[t]? = some v := by
  intro l; induction l with
  | nil => intro t v h; cases h
  | cons x l ih => intro t v h; cases t with
    | zero => simpa [nth] using h
    | succ t => simpa using ih t v h
theorem ent_cell {b : Nat} {cells : Array Value} {T : TypeId} {i : Nat} {v : Value} {L : List Asn} (hv : nth cells.toList i = some v) : Ent (Blk b cells T :: L) (CellIs ⟨b, i, none⟩ v) :=
  Ent.here (blk_cell (by have := nth_get _ _ _ hv; simpa using this))
section
variable {P : Program} {Q : Exit → Act → World → Prop} {K : Act → World → Prop} {l : List Value} {w : World} {id id' : Nat}
theorem x_thenN (h : K (fr l) w) : Exit.then K Q .normal (fr l) w := h
theorem x_thenE (h : Q (.exit id) (fr l) w) : Exit.then K Q (.exit id) (fr l) w := h
theorem x_thenR (h : Q .ret (fr l) w) : Exit.then K Q .ret (fr l) w := h
theorem x_blockN (h : Q .normal (fr l) w) : Exit.inBlock id Q .normal (fr l) w := h
theorem x_blockR (h : Q .ret (fr l) w) : Exit.inBlock id Q .ret (fr l) w := h
end
end Go.SL

namespace Go.SL
set_option linter.unusedVariables false
set_option linter.unusedSimpArgs false
def kindB (P : Program) (T : TypeId) : Option IntKind := match P.underlying T with
  | some (.int k) => some k
  | _ => none
def valB (P : Program) (T : TypeId) : Bool := match P.underlying T with
  | some (.interface _) => false
  | some _ => true
  | none => false
def nptrB (P : Program) (T : TypeId) : Bool := match P.underlying T with
  | some (.pointer _) => false
  | some _ => true
  | none => false
def sliceB (P : Program) (T : TypeId) : Bool := match P.underlying T with
  | some (.slice _) => true
  | _ => false
/-- a method of a value: no way to it, no pointer for its receiver -/
def methB (P : Program) (T : TypeId) (name : String) : Option FuncId := match P.info? T with
  | none => none
  | some i => match i.methods.find? (·.name == name) with
    | none => none
    | some m => if m.path.isEmpty then (match m.func with
      | some (f, false) => if nptrB P T then some f else none
      | _ => none) else none
/-- a method of a pointer -/
def methPB (P : Program) (T : TypeId) (name : String) : Option FuncId := match P.info? T with
  | none => none
  | some i => match i.methods.find? (·.name == name) with
    | none => none
    | some m => if m.path.isEmpty then (match m.func with
      | some (f, true) => if ptrB P T then some f else none
      | _ => none) else none
section
variable {P : Program} {e : Env} {o : Oper} {l l' : List Value} {L M : List Asn} {ops : Array Oper} {rest : List Oper} {w : World} {Q : Exit → Act → World → Prop} {K : Act → List Asn → Prop} {xs : List (Oper × VS)}
theorem kind_und {T : TypeId} {k : IntKind} (h : kindB P T = some k) : P.underlying T = some (.int k) := by
  unfold kindB at h
  cases hu : P.underlying T with
  | none => rw [hu] at h; cases h
  | some d => rw [hu] at h; cases d <;> first | (cases h; done) | (simp at h; subst h; rfl)
theorem y_conv {S D : TypeId} {x : Operand} {ks kd : IntKind} {n : Int} (ho : o.op = .convert S D x) (hS : kindB P S = some ks) (hD : kindB P D = some kd) (hx : ev l x = .int ks n) : Yl e P o l L (.int kd (kd.wrap n)) := fun w _ => by
  unfold execOp; rw [ho]
  simp only [convert, Sem.run_bind, run_und (kind_und hS), run_und (kind_und hD), Result.andThen_ok, hx]
  rfl
theorem w32 {n : Int} (h0 : -2147483648 ≤ n) (h1 : n ≤ 2147483647) : IntKind.i32.wrap n = n := by rw [IntKind.wrap_i32]; omega
theorem y_conv64 {S D : TypeId} {x : Operand} {ks : IntKind} {n : Int} (ho : o.op = .convert S D x) (hS : kindB P S = some ks) (hD : kindB P D = some .i64) (hx : ev l x = .int ks n) (h0 : -9223372036854775808 ≤ n) (h1 : n ≤ 9223372036854775807) : Yl e P o l L (.int .i64 n) := by
  have := y_conv (e := e) (L := L) ho hS hD hx
  rwa [w64 h0 h1] at this
theorem y_conv32 {S D : TypeId} {x : Operand} {ks : IntKind} {n : Int} (ho : o.op = .convert S D x) (hS : kindB P S = some ks) (hD : kindB P D = some .i32) (hx : ev l x = .int ks n) (h0 : -2147483648 ≤ n) (h1 : n ≤ 2147483647) : Yl e P o l L (.int .i32 n) := by
  have := y_conv (e := e) (L := L) ho hS hD hx
  rwa [w32 h0 h1] at this
theorem y_mkI {T : TypeId} {x : Operand} {v : Value} (ho : o.op = .makeInterface T x) (hT : valB P T = true) (hx : ev l x = v) : Yl e P o l L (.iface T v) := fun w _ => by
  unfold valB at hT
  unfold execOp; rw [ho]
  cases hu : P.underlying T with
  | none => rw [hu] at hT; cases hT
  | some d =>
    rw [hu] at hT
    simp only [Instr.makeInterface, Sem.run_bind, run_und hu, Result.andThen_ok, hx]
    cases d <;> first | rfl | (cases hT)
theorem y_nilI {x : Operand} {t : TypeId} {v : Value} (ho : o.op = .nilCheck x) (hx : ev l x = .iface t v) : Yl e P o l L (.iface t v) := fun w _ => by
  unfold execOp; rw [ho]; simp [hx]
/-- 'v, ok := x.(T)', T no interface -/
theorem y_asTrue {x : Operand} {X T : TypeId} {v : Value} (ho : o.op = .typeAssert x X T true) (hT : valB P T = true) (hx : ev l x = .iface T v) : Yl e P o l L (.tuple #[v, .bool true]) := fun w _ => by
  unfold valB at hT
  unfold execOp; rw [ho]
  cases hu : P.underlying T with
  | none => rw [hu] at hT; cases hT
  | some d =>
    rw [hu] at hT
    simp only [Instr.typeAssert, Sem.run_bind, run_und hu, Result.andThen_ok, hx]
    cases d <;> first | (simp; done) | (cases hT)
theorem y_asFalse {x : Operand} {X T U : TypeId} {v z : Value} (ho : o.op = .typeAssert x X T true) (hT : valB P T = true) (hz : zeroB P T = some z) (hx : ev l x = .iface U v) (hne : U ≠ T) : Yl e P o l L (.tuple #[z, .bool false]) := fun w _ => by
  unfold valB at hT
  unfold execOp; rw [ho]
  cases hu : P.underlying T with
  | none => rw [hu] at hT; cases hT
  | some d =>
    rw [hu] at hT
    simp only [Instr.typeAssert, Sem.run_bind, run_und hu, Result.andThen_ok, hx]
    cases d <;> first | (simp [hne, run_zero hz]; done) | (cases hT)
/-- 'x.(T)' that holds -/
theorem y_asV {x : Operand} {X T : TypeId} {v : Value} (ho : o.op = .typeAssert x X T false) (hT : valB P T = true) (hx : ev l x = .iface T v) : Yl e P o l L v := fun w _ => by
  unfold valB at hT
  unfold execOp; rw [ho]
  cases hu : P.underlying T with
  | none => rw [hu] at hT; cases hT
  | some d =>
    rw [hu] at hT
    simp only [Instr.typeAssert, Sem.run_bind, run_und hu, Result.andThen_ok, hx]
    cases d <;> first | (simp; done) | (cases hT)

theorem run_method {T : TypeId} {name : String} {f : FuncId} {v : Value} (h : methB P T name = some f) (n : Nat) (w : World) : (method (n + 1) T v name).run P w = .ok (f, v) w := by
  unfold methB at h
  cases hi : P.info? T with
  | none => rw [hi] at h; cases h
  | some i =>
    rw [hi] at h
    simp only at h
    cases hm : i.methods.find? (·.name == name) with
    | none => rw [hm] at h; cases h
    | some m =>
      rw [hm] at h
      simp only at h
      split at h
      · rename_i hp
        cases hf : m.func with
        | none => rw [hf] at h; cases h
        | some fp =>
          obtain ⟨f', b⟩ := fp
          rw [hf] at h
          cases b with
          | true => cases h
          | false =>
            simp only at h
            split at h
            · rename_i hn
              simp at h; subst h
              have hpl : m.path.toList = [] := by simpa using hp
              unfold nptrB at hn
              simp only [method, Sem.run_bind, typeInfo, run_program, Result.andThen_ok, hi, Sem.run_pure, hm, hpl, follow, hf, receiverAt]
              cases hu : P.underlying T with
              | none => rw [hu] at hn; cases hn
              | some d =>
                rw [hu] at hn
                simp only [run_und hu, Result.andThen_ok]
                cases d <;> first | rfl | (cases hn)
            · cases h
      · cases h
theorem run_methodP {T : TypeId} {name : String} {f : FuncId} {v : Value} (h : methPB P T name = some f) (n : Nat) (w : World) : (method (n + 1) T v name).run P w = .ok (f, v) w := by
  unfold methPB at h
  cases hi : P.info? T with
  | none => rw [hi] at h; cases h
  | some i =>
    rw [hi] at h
    simp only at h
    cases hm : i.methods.find? (·.name == name) with
    | none => rw [hm] at h; cases h
    | some m =>
      rw [hm] at h
      simp only at h
      split at h
      · rename_i hp
        cases hf : m.func with
        | none => rw [hf] at h; cases h
        | some fp =>
          obtain ⟨f', b⟩ := fp
          rw [hf] at h
          cases b with
          | false => cases h
          | true =>
            simp only at h
            split at h
            · rename_i hn
              simp at h; subst h
              have hpl : m.path.toList = [] := by simpa using hp
              obtain ⟨E, hu⟩ := ptr_und hn
              simp only [method, Sem.run_bind, typeInfo, run_program, Result.andThen_ok, hi, Sem.run_pure, hm, hpl, follow, hf, receiverAt, run_und hu]
              rfl
            · cases h
      · cases h
theorem run_invoke' {name : String} {T : TypeId} {v : Value} {f : FuncId} {as : Array Operand} {ts : Array TypeId} {vs : List Value} {x : Operand} (ho : o.op = .call { callee := .invoke x name, args := as, argTypes := ts }) (hx : ev l x = .iface T v)
    (hm : ∀ n w, (method (n + 1) T v name).run P w = .ok (f, v) w) (hB : callB P f = true) (ha : as.toList.map (evo l) = vs.map some) (w : World) : (execOp (ev l) o).run P w = .ok (.enter f (v :: vs).toArray) w := by
  unfold execOp; rw [ho]
  have h1 := evs_of ha
  have h2 : (#[Value.iface T v] ++ vs.toArray).extract 1 (#[Value.iface T v] ++ vs.toArray).size = vs.toArray := by
    apply Array.ext'; simp
  have hd : P.types.size + Made.depth = (P.types.size + Made.depth - 1) + 1 := by
    have : 0 < Made.depth := by decide
    omega
  simp only [resolve, hx, h1, Sem.run_bind, Sem.run_pure, Result.andThen_ok, invoke]
  have h0 : (#[Value.iface T v] ++ vs.toArray)[0]? = some (Value.iface T v) := by simp
  simp only [h0, h2, callMethod, Sem.run_bind, run_program, Result.andThen_ok]
  rw [hd, hm]
  simp only [Result.andThen_ok]
  rw [run_callFunc hB]
  congr 2
  apply Array.ext'; simp
theorem l_invoke {name : String} {T : TypeId} {v : Value} {f d : Nat} {as : Array Operand} {ts : Array TypeId} {vs : List Value} {x : Operand} {R : Value → World → Prop} (ho : o.op = .call { callee := .invoke x name, args := as, argTypes := ts }) (hg : o.guard = none) (hd : o.dst = some d) (hx : ev l x = .iface T v)
    (hm : methB P T name = some f) (hB : callB P f = true) (ha : as.toList.map (evo l) = vs.map some) (hc : Calls P f (v :: vs).toArray w (Rets R))
    (k : ∀ v w', R v w' → wpList P ops Q rest (fr (l.set d v)) w') : wpList P ops Q (o :: rest) (fr l) w := by
  refine wpList_plain hg fun K hK => ?_
  unfold Oper.wp
  rw [fr_eval, run_invoke' ho hx (run_method hm) hB ha w]
  simp only [Oper.upon]
  refine hc.mono fun en w' r => ?_
  cases en with
  | returned v => simp only [hd, fr_put]; exact hK _ _ (k _ _ r)
  | panicked c => exact r.elim
  | outgrown => exact r.elim
theorem d_invoke {name : String} {T : TypeId} {v u : Value} {f d : Nat} {as : Array Operand} {ts : Array TypeId} {vs : List Value} {x : Operand} (ho : o.op = .call { callee := .invoke x name, args := as, argTypes := ts }) (hg : o.guard = none) (hd : o.dst = some d) (hx : ev l x = .iface T v)
    (hm : methB P T name = some f) (hB : callB P f = true) (ha : as.toList.map (evo l) = vs.map some) (hc : ∀ w M, SL e w (M ++ L) → Calls P f (v :: vs).toArray w (Rets fun r w' => r = u ∧ SL e w' (M ++ L))) (hl : l.set d u = l')
    (k : WD P e L ops K xs (fr l') M) : WD P e L ops K ((o, vq u) :: xs) (fr l) M := by
  refine ⟨.inl ⟨wanted_none hg _, fun w M' s => ?_⟩, ⟨u, [], rfl, rfl⟩, ?_⟩
  · rw [fr_eval, run_invoke' ho hx (run_method hm) hB ha w]
    exact Rets.mono (hc w M' s) fun r w' ⟨h1, h2⟩ => ⟨[], ⟨h1, rfl⟩, h2⟩
  · rintro v' E ⟨rfl, rfl⟩
    rw [hd, fr_put, hl]; exact k
end
end Go.SL

