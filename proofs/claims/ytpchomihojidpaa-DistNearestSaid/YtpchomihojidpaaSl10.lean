import Derived.Test.YtpchomihojidpaaSl9
namespace Go.SL
set_option linter.unusedSimpArgs false
section
variable {α : Type} {c : Ty α} {P : Program} {e : Env} {o : Oper} {l l' : List Value} {L L' M : List Asn} {ops : Array Oper} {rest : List Oper} {w : World} {Q : Exit → Act → World → Prop} {K : Act → List Asn → Prop} {xs : List α}

theorem c_condT {x : Operand} {a b : Code} (hx : evo l x = some (.bool true)) (k : a.wp P Q (fr l) w) : (Code.cond x a b).wp P Q (fr l) w :=
  wp_cond_true (by rw [fr_eval]; exact ev_of hx) k
theorem c_condF {x : Operand} {a b : Code} (hx : evo l x = some (.bool false)) (k : b.wp P Q (fr l) w) : (Code.cond x a b).wp P Q (fr l) w :=
  wp_cond_false (by rw [fr_eval]; exact ev_of hx) k
theorem c_if {x : Operand} {a b : Code} {t : Bool} (hx : evo l x = some (.bool t)) (ht : t = true → a.wp P Q (fr l) w) (hf : t = false → b.wp P Q (fr l) w) : (Code.cond x a b).wp P Q (fr l) w :=
  c_cond (ev_of hx) ht hf

theorem r1 {fn : Func} {t : Nat} {R : Value → World → Prop} {v : Value} (hr : fn.results = #[.tmp t]) (hv : nth l t = some v) (h : R v w) : bodyPost P fn (Rets R) .ret (fr l) w := ret1 hr (nth_getD _ _ _ hv) h
theorem r2 {fn : Func} {t u : Nat} {R : Value → World → Prop} {v v' : Value} (hr : fn.results = #[.tmp t, .tmp u]) (hv : nth l t = some v) (hv' : nth l u = some v') (h : R (.tuple #[v, v']) w) : bodyPost P fn (Rets R) .ret (fr l) w :=
  ret2 hr (nth_getD _ _ _ hv) (nth_getD _ _ _ hv') h
theorem r3 {fn : Func} {t u s : Nat} {R : Value → World → Prop} {v v' v'' : Value} (hr : fn.results = #[.tmp t, .tmp u, .tmp s]) (hv : nth l t = some v) (hv' : nth l u = some v') (hv'' : nth l s = some v'') (h : R (.tuple #[v, v', v'']) w) : bodyPost P fn (Rets R) .ret (fr l) w :=
  ret3 hr (nth_getD _ _ _ hv) (nth_getD _ _ _ hv') (nth_getD _ _ _ hv'') h
theorem r4 {fn : Func} {t u s r : Nat} {R : Value → World → Prop} {v v' v'' v3 : Value} (hr : fn.results = #[.tmp t, .tmp u, .tmp s, .tmp r]) (hv : nth l t = some v) (hv' : nth l u = some v') (hv'' : nth l s = some v'') (hv3 : nth l r = some v3) (h : R (.tuple #[v, v', v'', v3]) w) : bodyPost P fn (Rets R) .ret (fr l) w :=
  ret4 hr (nth_getD _ _ _ hv) (nth_getD _ _ _ hv') (nth_getD _ _ _ hv'') (nth_getD _ _ _ hv3) h
/-- a result that lies in a block of its own -/
theorem run_resCell {t b : Nat} {T T' : TypeId} {cells : Array Value} (hv : nth l t = some (ptr b 0)) (hs : someU P T = true) (hT : aggB P T = true) (hn : sizeB P T = some cells.size) (hc : Ent L (fun h => Blk b cells T' h)) (s : SL e w L) :
    (loadVar T ⟨b, 0, none⟩).run P w = .ok (.agg cells) w ∧ l.toArray.getD t undef = ptr b 0 := by
  have h0 := nth_getD _ _ _ hv
  have h1 := run_loadCells_list (P := P) w ⟨b, 0, none⟩ cells.toList (fun j v hj => blk_cells (vs := cells.toList) (by rw [List.drop_zero]; exact List.take_of_length_le (Nat.le_refl _)) _ (hc.at s) j v hj)
  refine ⟨?_, by simpa using h0⟩
  simp only [loadVar, Sem.run_bind, run_isAgg hs hT, Result.andThen_ok, if_true, run_sizeOf hn]
  have e1 : cells.toList.length = cells.size := by simp
  rw [e1] at h1
  rw [h1]
  simp
theorem rc1 {fn : Func} {t b n : Nat} {T T' : TypeId} {cells : Array Value} {R : Value → World → Prop} (s : SL e w L) (hr : fn.results = #[.cell t T]) (hv : nth l t = some (ptr b 0)) (hs : someU P T = true) (hT : aggB P T = true) (hn' : sizeB P T = some n) (hc : Ent L (fun h => Blk b cells T' h)) (hsz : cells.size = n)
    (h : R (.agg cells) w) : bodyPost P fn (Rets R) .ret (fr l) w := by
  subst hsz
  obtain ⟨h1, h2⟩ := run_resCell hv hs hT hn' hc s
  refine ⟨rfl, .agg cells, ?_, h⟩
  have h2' : l[t]?.getD undef = ptr b 0 := by simpa using h2
  simp [results, hr, fr, h2', asAddr, h1]
theorem rc2 {fn : Func} {t b u n : Nat} {T T' : TypeId} {cells : Array Value} {v : Value} {R : Value → World → Prop} (s : SL e w L) (hr : fn.results = #[.cell t T, .tmp u]) (hv : nth l t = some (ptr b 0)) (hs : someU P T = true) (hT : aggB P T = true) (hn' : sizeB P T = some n) (hc : Ent L (fun h => Blk b cells T' h)) (hsz : cells.size = n) (hu : nth l u = some v)
    (h : R (.tuple #[.agg cells, v]) w) : bodyPost P fn (Rets R) .ret (fr l) w := by
  subst hsz
  obtain ⟨h1, h2⟩ := run_resCell hv hs hT hn' hc s
  have h3 := nth_getD _ _ _ hu
  refine ⟨rfl, .tuple #[.agg cells, v], ?_, h⟩
  have h2' : l[t]?.getD undef = ptr b 0 := by simpa using h2
  have h3' : l[u]?.getD undef = v := by simpa using h3
  simp [results, hr, fr, h2', asAddr, h1, h3']

/-! indexes -/
theorem y_idx {T E : TypeId} {x y : Operand} {v : Value} {k : IntKind} {i : Int} {n : Nat} (ho : o.op = .indexAddr T x y) (hT : elemB P T = some E) (hz : sizeB P E = some c.sz)
    (hx : ev l x = v) (hy : ev l y = .int k i) (hr : Ent L (SlR c v xs)) (hk : i = (n : Int)) (h1 : n < xs.length) : Yl e P o l L (elp v (n * c.sz)) := by
  subst hk
  exact y_indexAddr ho hT hz hx hy hr (by omega) (by omega)
theorem y_ld {T : TypeId} {x : Operand} {v : Value} {n : Nat} {u : Value} (ho : o.op = .load T x) (hs : someU P T = true) (hT : aggB P T = false) (hx : ev l x = elp v (n * c.sz)) (hr : Ent L (SlR c v xs)) (hi : n < xs.length)
    (hu : c.enc (xs.getD n c.d) = [u]) : Yl e P o l L u := by
  have hsz : c.sz = 1 := by have := c.len (xs.getD n c.d); rw [hu] at this; simpa using this.symm
  exact y_load_el (i := n) (j := 0) ho hs hT hx hr hi (by omega) (by omega) (by rw [hu]; rfl)
theorem y_ldI {T : TypeId} {x : Operand} {v : Value} {n : Nat} {xs : List Int} (ho : o.op = .load T x) (hs : someU P T = true) (hT : aggB P T = false) (hx : ev l x = elp v (n * I64.sz)) (hr : Ent L (SlR I64 v xs)) (hi : n < xs.length) : Yl e P o l L (.int .i64 (xs.getD n 0)) :=
  y_ld ho hs hT hx hr hi rfl
theorem y_ldB {T : TypeId} {x : Operand} {v : Value} {n : Nat} {xs : List Bool} (ho : o.op = .load T x) (hs : someU P T = true) (hT : aggB P T = false) (hx : ev l x = elp v (n * BoolT.sz)) (hr : Ent L (SlR BoolT v xs)) (hi : n < xs.length) : Yl e P o l L (.bool (xs.getD n false)) :=
  y_ld ho hs hT hx hr hi rfl
theorem y_ldF {T : TypeId} {x : Operand} {v : Value} {n j : Nat} {u : Value} (ho : o.op = .load T x) (hs : someU P T = true) (hT : aggB P T = false) (hx : ev l x = elp v (n * c.sz + j)) (hr : Ent L (SlR c v xs)) (hi : n < xs.length)
    (hj : j < c.sz) (hu : nth (c.enc (xs.getD n c.d)) j = some u) : Yl e P o l L u := by
  refine y_load_el (i := n) (j := j) ho hs hT hx hr hi rfl hj ?_
  have : ∀ (l : List Value) (t : Nat) (v : Value), nth l t = some v → l[t]? = some v := by
    intro l; induction l with
    | nil => intro t v h; cases h
    | cons x l ih => intro t v h; cases t with
      | zero => simpa [nth] using h
      | succ t => simpa using ih t v h
  exact this _ _ _ hu
theorem y_ldA {T : TypeId} {x : Operand} {v : Value} {n : Nat} {vs : List Value} (ho : o.op = .load T x) (hs : someU P T = true) (hT : aggB P T = true) (hz : sizeB P T = some c.sz) (hx : ev l x = elp v (n * c.sz)) (hr : Ent L (SlR c v xs)) (hi : n < xs.length)
    (hu : c.enc (xs.getD n c.d) = vs) : Yl e P o l L (.agg vs.toArray) := hu ▸ y_load_el_agg ho hs hT hz hx hr hi rfl
theorem y_fldE {T T1 : TypeId} {x : Operand} {f off n m : Nat} {v : Value} (ho : o.op = .fieldAddr T x f) (hf : fieldB P T f = some (off, T1)) (hn : sizeB P T1 = some (n + 1)) (hx : ev l x = elp v m) (hr : Ent L (SlR c v xs)) (hne : 0 < xs.length) :
    Yl e P o l L (elp v (m + off)) := y_fieldAddr_el ho hf hn hx hr (by intro h; subst h; simp at hne)
/-- what stands there is written over -/
theorem l_stE {T E : TypeId} {x z : Operand} {v : Value} {n : Nat} {u : Value} (y : α) (s : SL e w L) (t : Take L (Arr c E v xs) L') (ho : o.op = .store T x z) (hg : o.guard = none) (hd : o.dst = none)
    (hz : sizeB P T = some 1) (hx : ev l x = elp v (n * c.sz)) (hy : ev l z = u) (hi : n < xs.length) (he : c.enc y = [u])
    (k : ∀ w', SL e w' (Arr c E v (xs.set n y) :: L') → wpList P ops Q rest (fr l) w') : wpList P ops Q (o :: rest) (fr l) w := by
  have hsz : c.sz = 1 := by have := c.len y; rw [he] at this; simpa using this.symm
  have hone : u.oneCell' = true := c.one y u (by rw [he]; simp)
  refine l_store_el (i := n) (j := 0) (y := y) s t ho hg hd hz hx hy hone hi (by omega) (by omega) ?_ k
  rw [he]
  have := c.len (xs.getD n c.d)
  rw [hsz] at this
  match h : c.enc (xs.getD n c.d), this with
  | [a], _ => rfl
theorem l_stI {T E : TypeId} {x z : Operand} {v : Value} {n : Nat} {m : Int} {xs : List Int} (s : SL e w L) (t : Take L (Arr I64 E v xs) L') (ho : o.op = .store T x z) (hg : o.guard = none) (hd : o.dst = none)
    (hz : sizeB P T = some 1) (hx : ev l x = elp v (n * I64.sz)) (hy : ev l z = .int .i64 m) (hi : n < xs.length)
    (k : ∀ w', SL e w' (Arr I64 E v (xs.set n m) :: L') → wpList P ops Q rest (fr l) w') : wpList P ops Q (o :: rest) (fr l) w :=
  l_stE m s t ho hg hd hz hx hy hi rfl k
theorem l_stB {T E : TypeId} {x z : Operand} {v : Value} {n : Nat} {m : Bool} {xs : List Bool} (s : SL e w L) (t : Take L (Arr BoolT E v xs) L') (ho : o.op = .store T x z) (hg : o.guard = none) (hd : o.dst = none)
    (hz : sizeB P T = some 1) (hx : ev l x = elp v (n * BoolT.sz)) (hy : ev l z = .bool m) (hi : n < xs.length)
    (k : ∀ w', SL e w' (Arr BoolT E v (xs.set n m) :: L') → wpList P ops Q rest (fr l) w') : wpList P ops Q (o :: rest) (fr l) w :=
  l_stE m s t ho hg hd hz hx hy hi rfl k
/-- a whole struct into a block -/
theorem l_stA {T T' : TypeId} {x z : Operand} {b n : Nat} {cells vs : Array Value} (s : SL e w L) (t : Take L (Blk b cells T') L') (ho : o.op = .store T x z) (hg : o.guard = none) (hd : o.dst = none)
    (hz : sizeB P T = some n) (hx : ev l x = ptr b 0) (hy : ev l z = .agg vs) (hn : vs.size = n) (hc : cells.size = n) (h1 : ∀ u ∈ vs.toList, u.oneCell' = true)
    (k : ∀ w', SL e w' (Blk b vs T' :: L') → wpList P ops Q rest (fr l) w') : wpList P ops Q (o :: rest) (fr l) w := by
  refine wpList_plain hg fun K hK => ?_
  have s1 := s.take t
  obtain ⟨h1', h2', _, l1, _, hb, _⟩ := s1.sat
  have hw : w.heap[b]? = some (.cells cells T' (0, 0)) := l1 _ _ hb
  have hst := run_storeCells_at P b 0 T' vs.toList 0 cells w hw (by simp; omega) h1
  have e0 : (cells.toList.take (0 + 0) ++ vs.toList ++ cells.toList.drop (0 + 0 + vs.toList.length)).toArray = vs := by
    have : cells.toList.drop (0 + 0 + vs.toList.length) = [] := List.drop_eq_nil_of_le (by simp; omega)
    rw [this]; simp
  rw [e0] at hst
  have h : (execOp (ev l) o).run P w = .ok .skip (w.setRow b vs) := by
    unfold execOp; rw [ho]
    have hne : ¬ (Value.agg vs).cells.size ≠ n := by simp [Value.cells, hn]
    simp only [hx, hy, Instr.storeAt, Instr.sureAddr, storeVar, Sem.run_bind, Sem.run_pure, Result.andThen_ok, run_sizeOf hz, if_neg hne]
    simp only [Value.cells]
    rw [hst]; rfl
  unfold Oper.wp
  rw [fr_eval, h]
  simp only [Oper.upon, hd, fr_put_none]
  refine hK _ _ (k _ (s1.setRow hw fun h hh => ⟨by rw [hh]; rfl, fun _ => by simp [Blk, Hp.upd]⟩))
end
end Go.SL
