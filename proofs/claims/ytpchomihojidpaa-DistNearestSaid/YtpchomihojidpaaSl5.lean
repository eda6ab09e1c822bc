import Derived.Test.YtpchomihojidpaaSl4
namespace Go.SL
set_option linter.unusedSimpArgs false

section
variable {α : Type} {c : Ty α} {P : Program} {e : Env} {o : Oper} {l l' : List Value} {L L' L2 : List Asn} {ops : Array Oper} {rest : List Oper} {w : World} {Q : Exit → Act → World → Prop}

/-- what an operation does that makes a value out of memory -/
theorem l_do {d : Nat} {v : Value} {w' : World} (hg : o.guard = none) (hd : o.dst = some d) (y : (execOp (ev l) o).run P w = .ok (.value v) w') (k : wpList P ops Q rest (fr (l.set d v)) w') : wpList P ops Q (o :: rest) (fr l) w := by
  refine wpList_plain hg fun K hK => ?_
  unfold Oper.wp
  rw [fr_eval, y]
  simp only [Oper.upon, hd, fr_put]
  exact hK _ _ k

/-! literals -/
theorem l_buildSlice {T E : TypeId} {d n sz : Nat} {parts : Array (Nat × Operand)} {z : Value} {cells : Array Value} (s : SL e w L) (ho : o.op = .buildSlice T n parts) (hg : o.guard = none) (hd : o.dst = some d) (hT : elemB P T = some E) (hz : sizeB P E = some sz) (hzero : zeroB P E = some z)
    (hlim : n * sz ≤ 2 ^ 24) (hfill : Instr.fill (fun i => some (i * sz, sz)) ((Array.range (n * sz)).map (fun j => (if n * sz = 0 then #[] else z.cells)[j % (if n * sz = 0 then #[] else z.cells).size]!)) (parts.map fun p => (p.1, ev l p.2)).toList = some cells)
    (k : ∀ b w', SL e w' (Blk b cells E :: L) → wpList P ops Q rest (fr (l.set d (.slice (some ⟨b, 0, none⟩) n n))) w') : wpList P ops Q (o :: rest) (fr l) w :=
  l_new s hg hd (fun b => .slice (some ⟨b, 0, none⟩) n n) (.cells cells E) (fun w => by
    unfold execOp; rw [ho]
    have hl : ¬ (n * sz > 2 ^ 24) := by omega
    by_cases h0 : n * sz = 0
    · simp only [h0, if_true] at hfill
      simp only [Instr.buildSlice, Sem.run_bind, run_und (elemB_und hT), Result.andThen_ok, run_sizeOf hz, if_neg hl, h0, if_true, Sem.run_pure, hfill]
      simp at hfill
      simp [newRow, hfill]
    · simp only [h0, if_false] at hfill
      simp only [Instr.buildSlice, Sem.run_bind, run_und (elemB_und hT), Result.andThen_ok, run_sizeOf hz, if_neg hl, h0, if_false, Sem.run_pure, run_zero hzero, hfill]
      simp [newRow]) (fun b => blk_single b _ _) k

/-! make -/
theorem zeros_cells (z : Value) (m : Nat) : ((Array.range (m * z.cells.size)).map (fun j => z.cells[j % z.cells.size]!)).toList = (List.replicate m z.cells.toList).flatten := by
  induction m with
  | zero => simp
  | succ m ih =>
    have e1 : (m + 1) * z.cells.size = m * z.cells.size + z.cells.size := by rw [Nat.add_mul]; omega
    rw [List.replicate_succ', List.flatten_append, ← ih, e1]
    simp only [Array.toList_map, Array.toList_range, List.flatten_singleton, List.range_add, List.map_append, List.map_map]
    congr 1
    apply List.ext_getElem
    · simp
    · intro i h1 h2
      simp only [List.length_map, List.length_range] at h1
      simp [Nat.add_mod, Nat.mod_eq_of_lt h1, h1]
theorem encs_replicate (m : Nat) (x : α) : encs c (List.replicate m x) = (List.replicate m (c.enc x)).flatten := by
  simp [encs, List.flatMap, List.map_replicate]
theorem l_make {T E : TypeId} {d bytes : Nat} {x y : Operand} {z : Value} {zx : α} {kx ky : IntKind} {n m : Int} (s : SL e w L) (ho : o.op = .makeSlice T x y) (hg : o.guard = none) (hd : o.dst = some d) (hT : elemB P T = some E) (hz : sizeB P E = some c.sz) (hb : bytesB P E = some bytes) (hzero : zeroB P E = some z)
    (hx : ev l x = .int kx n) (hy : ev l y = .int ky m) (h0 : 0 ≤ n) (h1 : n ≤ m) (h2 : m * bytes ≤ 140737488355328) (hbp : 0 < bytes) (henc : c.enc zx = z.cells.toList)
    (k : ∀ v w', SL e w' (Arr c E v (List.replicate n.toNat zx) :: L) → wpList P ops Q rest (fr (l.set d v)) w') : wpList P ops Q (o :: rest) (fr l) w := by
  obtain ⟨N, rfl⟩ := Int.eq_ofNat_of_zero_le h0
  obtain ⟨M, rfl⟩ := Int.eq_ofNat_of_zero_le (Int.le_trans h0 h1)
  have hMb : M * bytes ≤ 140737488355328 := by
    rw [← Int.natCast_mul] at h2
    omega
  have hM : M ≤ 140737488355328 := Nat.le_trans (Nat.le_mul_of_pos_right M hbp) hMb
  have hNM : N ≤ M := by omega
  have wN : IntKind.i64.wrap (N : Int) = N := w64 (by omega) (by omega)
  have wM : IntKind.i64.wrap (M : Int) = M := w64 (by omega) (by omega)
  have hzs : z.cells.size = c.sz := by have := congrArg List.length henc; rw [c.len] at this; simpa using this.symm
  obtain ⟨ti, hti⟩ : ∃ ti, P.info? E = some ti := by
    unfold sizeB at hz; cases h : P.info? E with
    | none => rw [h] at hz; cases hz
    | some ti => exact ⟨ti, rfl⟩
  have hti2 : ti.bytes = bytes := by unfold bytesB at hb; rw [hti] at hb; simpa using hb
  have hrun : ∀ w, (execOp (ev l) o).run P w = .ok (.value (.slice (some ⟨w.heap.size, 0, none⟩) N M)) { w with heap := w.heap.push (.cells ((Array.range (M * c.sz)).map (fun j => z.cells[j % z.cells.size]!)) E) } := by
    intro w
    have ht1 : ((M : Int) < 0 || decide ((bytes : Int) * M > 2 ^ 48)) = false := by
      have : (bytes : Int) * M ≤ 140737488355328 := by rw [Int.mul_comm]; exact h2
      simp; omega
    have ht1' : ¬ ((M : Int) < 0) := by omega
    have ht2 : ¬ ((bytes : Int) * M > 2 ^ 48) := by have : (bytes : Int) * M ≤ 140737488355328 := by rw [Int.mul_comm]; exact h2
                                                    omega
    unfold execOp; rw [ho]
    simp only [Instr.makeSlice, Sem.run_bind, run_und (elemB_und hT), Result.andThen_ok, hx, hy, asInt, asIntOf, Sem.run_pure, run_typeInfo hti, hti2, wN, wM]
    have hc : ¬ (((decide ((M : Int) < 0) || decide ((bytes : Int) * M > 2 ^ 48)) || decide ((N : Int) < 0) || decide ((N : Int) > M)) = true) := by
      simp only [Bool.or_eq_true, decide_eq_true_eq, not_or]
      omega
    rw [if_neg hc]
    simp only [Sem.run_bind, run_askRoom, Result.andThen_ok, run_sizeOf hz, Int.toNat_natCast, Sem.run_ite, Sem.run_pure, run_zero hzero]
    by_cases hn : M * c.sz = 0
    · simp [hn, newRow, show Array.range 0 = #[] from rfl]
    · simp [hn, newRow]
  refine l_do hg hd (hrun w) (k _ _ ?_)
  refine (s.new (.cells ((Array.range (M * c.sz)).map (fun j => z.cells[j % z.cells.size]!)) E) (Arr c E (.slice (some ⟨w.heap.size, 0, none⟩) N M) (List.replicate N zx)) ?_)
  refine .inr ⟨w.heap.size, 0, M, _, by simp, by simpa using hNM, by simp [single]; rfl, by simp, fun j u hj => ?_⟩
  rw [encs_replicate] at hj
  have e1 : ((Array.range (M * c.sz)).map (fun j => z.cells[j % z.cells.size]!)).toList = (List.replicate M (c.enc zx)).flatten := by
    rw [← hzs, henc]; exact zeros_cells z M
  rw [Nat.zero_add, ← Array.getElem?_toList, e1, show M = N + (M - N) by omega, ← List.replicate_append_replicate, List.flatten_append]
  rw [List.getElem?_append_left]
  · exact hj
  · rcases Nat.lt_or_ge j (List.replicate N (c.enc zx)).flatten.length with h | h
    · exact h
    · rw [List.getElem?_eq_none h] at hj; cases hj

/-! append -/
theorem SL.setRow {A A' : Asn} {g : Nat} {cells cells' : Array Value} {T : TypeId} (s : SL e w (A :: L)) (hw : w.heap[g]? = some (.cells cells T (0, 0)))
    (hA : ∀ h, A h → (h g).isSome = true ∧ (h g = some (.cells cells T (0, 0)) → A' (h.upd g (.cells cells' T (0, 0))))) : SL e (w.setRow g cells') (A' :: L) := by
  obtain ⟨h1, h2, d, l1, l2, a, s'⟩ := s.sat
  obtain ⟨hsome, himp⟩ := hA _ a
  have hb : h1 g = some (.cells cells T (0, 0)) := by
    cases hg : h1 g with
    | none => rw [hg] at hsome; cases hsome
    | some ob => have := l1 _ _ hg; rw [← this]; exact hw
  have a' := himp hb
  refine ⟨s.env, h1.upd g _, h2, ?_, ?_, ?_, a', s'⟩
  · intro x
    rcases d x with e' | e'
    · by_cases hx : x = g
      · subst hx; rw [hb] at e'; cases e'
      · left; simp [Hp.upd, hx, e']
    · exact .inr e'
  · intro x o' e'
    unfold Hp.upd at e'
    by_cases hx : x = g
    · subst hx
      rw [if_pos rfl] at e'
      rw [← e']
      exact setRow_heap w x cells cells' T (0, 0) hw
    · rw [if_neg hx] at e'
      exact (setRow_other w g x cells' hx).trans (l1 _ _ e')
  · intro x o' e'
    by_cases hx : x = g
    · subst hx
      rcases d x with e'' | e''
      · rw [hb] at e''; cases e''
      · rw [e''] at e'; cases e'
    · exact (setRow_other w g x cells' hx).trans (l2 _ _ e')
theorem infoB {T : TypeId} {n : Nat} (h : sizeB P T = some n) : ∃ i, P.info? T = some i ∧ i.size = n := by
  unfold sizeB at h
  cases hi : P.info? T with
  | none => rw [hi] at h; cases h
  | some i => rw [hi] at h; exact ⟨i, rfl, by simpa using h⟩
theorem SL.drew (s : SL e w L) : SL e w.drew L := ⟨s.env, s.sat⟩
theorem run_append {T E : TypeId} {ty : TypeId} {bytes : Nat} {z : Value} {v x : Value} {xs ys : List α} (s : SL e w (Arr c E v xs :: L)) (hT : elemB P T = some E) (hz : sizeB P E = some c.sz) (hb : bytesB P E = some bytes) (hzero : zeroB P E = some z) (hzs : z.cells.size = c.sz)
    (hr : SlR c x ys (hpOf w)) (hlim : (xs.length + ys.length) * bytes ≤ 140737488355328) (hbp : 0 < bytes) :
    ∃ v' w', (Builtin.append_ #[T, T] ty #[v, x]).run P w = .ok v' w' ∧ SL e w' (Arr c E v' (xs ++ ys) :: L) := by
  obtain ⟨i, hi, his⟩ := infoB hz
  have hib : i.bytes = bytes := by unfold bytesB at hb; rw [hi] at hb; simpa using hb
  have hiz : i.zero = some z := by unfold zeroB at hzero; rw [hi] at hzero; simpa using hzero
  have ht := elemB_und hT
  have hsmall : xs.length + ys.length ≤ 140737488355328 := Nat.le_trans (Nat.le_mul_of_pos_right _ hbp) hlim
  obtain ⟨A, kx, rfl, hk, m⟩ := hr
  obtain ⟨h1, h2, d, l1, l2, ha, s'⟩ := s.sat
  have hfits : (encs c (xs ++ ys)).length = (xs.length + ys.length) * c.sz := by rw [encs_length, List.length_append]
  -- a new block that holds both
  have grown : ∀ old : Nat, old < xs.length + ys.length → ∀ W : World, SL e W L → W.heap.size = w.heap.size →
      SL e { W with heap := W.heap.push (.cells ((encs c xs).toArray ++ (encs c ys).toArray ++ Builtin.zeroCells z.cells (grownCap w (xs.length + ys.length) old E - (xs.length + ys.length))) E) }
        (Arr c E (.slice (some ⟨w.heap.size, 0, none⟩) (xs.length + ys.length) (grownCap w (xs.length + ys.length) old E)) (xs ++ ys) :: L) := by
    intro old ho W sW hW
    refine sW.new _ _ ?_
    rw [hW]
    refine .inr ⟨w.heap.size, 0, _, _, by rw [List.length_append], by rw [List.length_append]; exact grownCap_ge w _ old E, by simp [single]; rfl, ?_, fun j u hj => ?_⟩
    · have := grownCap_ge w (xs.length + ys.length) old E
      simp only [Array.size_append, List.size_toArray, size_zeroCells, hzs, encs_length, List.length_append, ← Nat.add_mul, Nat.zero_add]
      exact Nat.mul_le_mul_right _ (by omega)
    · rw [encs_append] at hj
      have hlt : j < (encs c xs ++ encs c ys).length := by
        rcases Nat.lt_or_ge j (encs c xs ++ encs c ys).length with h | h
        · exact h
        · rw [List.getElem?_eq_none h] at hj; cases hj
      rw [Nat.zero_add, Array.getElem?_append_left (by simpa using hlt), ← hj]
      simp
  cases A with
  | none =>
    simp only at m
    subst m
    have e0 : xs ++ [] = xs := by simp
    rw [e0]
    rcases ha with ⟨rfl, rfl⟩ | ⟨b, off, cap, cells, rfl, hc, hbk, hs, hu⟩
    · refine ⟨.slice none 0 0, w, ?_, s⟩
      simp [Builtin.append_, run_und ht, sizeOf, typeInfo, hi, Builtin.lenOf, Builtin.firstCells]
    · refine ⟨_, w, ?_, s⟩
      simp [Builtin.append_, run_und ht, sizeOf, typeInfo, hi, Builtin.lenOf, Builtin.firstCells, hc, storeCells]
  | some a =>
    simp only at m
    have hnews : ∀ j u, (encs c ys)[j]? = some u → w.cell? (a.add j) = some u := fun j u hj => m j u hj
    have hln : (encs c ys).length = ys.length * i.size := by rw [encs_length, his]
    rcases ha with ⟨rfl, rfl⟩ | ⟨b, off, cap, cells, rfl, hc, hbk, hs, hu⟩
    · by_cases hm : ys.length = 0
      · have hy : ys = [] := List.eq_nil_of_length_eq_zero hm
        subst hy
        refine ⟨.slice none 0 0, w, ?_, s⟩
        simp [Builtin.append_, run_und ht, sizeOf, typeInfo, hi, Builtin.lenOf, Builtin.firstCells, loadCells, loadCellsFrom]
      · have hr := run_append_nil (P := P) w T ty E i z ht hi hiz a ys.length kx (encs c ys) hln hnews (by omega) (by omega) (by rw [hib]; simp at hlim; omega)
        refine ⟨_, _, hr, ?_⟩
        have hgr := grown 0 (by omega) w.drew s.drop.drew rfl
        simp only [List.nil_append, List.length_nil, Nat.zero_add, encs_nil, Array.empty_append] at hgr ⊢
        exact hgr
    · have hbw : w.heap[b]? = some (.cells cells E (0, 0)) := l1 _ _ hbk
      have hlx : (encs c xs).length = xs.length * i.size := by rw [encs_length, his]
      by_cases hroom : xs.length + ys.length ≤ cap
      · have hf := run_firstCells_some (P := P) w i.size ys.length a ys.length kx (encs c ys) hln hnews
        have hcap : (xs.length + ys.length) * c.sz ≤ cap * c.sz := Nat.mul_le_mul_right _ hroom
        rw [Nat.add_mul] at hcap
        have hst := run_storeCells_at P b (off + xs.length * i.size) E (encs c ys) 0 cells w hbw (by rw [encs_length, his]; omega) (encs_one ys)
        simp only [Nat.add_zero] at hst
        refine ⟨.slice (some ⟨b, off, none⟩) (xs.length + ys.length) cap, w.setRow b (cells.toList.take (off + xs.length * i.size) ++ encs c ys ++ cells.toList.drop (off + xs.length * i.size + (encs c ys).length)).toArray, ?_, ?_⟩
        · simp [Builtin.append_, run_und ht, sizeOf, typeInfo, hi, Builtin.lenOf, hroom, hf, add_plain, hst]
        · refine s.setRow hbw fun h hh => ?_
          rcases hh with ⟨hv, _⟩ | ⟨b', off', cap', cells2, hv, hc', hbk', hs', hu'⟩
          · cases hv
          · simp only [Value.slice.injEq, Option.some.injEq, Addr.mk.injEq] at hv
            obtain ⟨⟨rfl, rfl, _⟩, _, rfl⟩ := hv
            refine ⟨by rw [hbk']; rfl, fun hbk2 => ?_⟩
            rw [hbk'] at hbk2
            simp only [Option.some.injEq, Obj.cells.injEq, and_true] at hbk2
            subst hbk2
            refine .inr ⟨b, off, cap, _, by rw [List.length_append], by rw [List.length_append]; exact hroom, by simp [Hp.upd]; rfl, ?_, fun j u hj => ?_⟩
            · simp only [List.size_toArray, List.length_append, List.length_take, List.length_drop, Array.length_toList, encs_length, his]
              omega
            · rw [encs_append] at hj
              simp only [List.getElem?_toArray, his]
              rw [List.getElem?_append]
              have hl1 : (cells2.toList.take (off + xs.length * c.sz)).length = off + xs.length * c.sz := by
                simp; omega
              by_cases hj1 : j < xs.length * c.sz
              · rw [if_pos (by rw [hl1]; omega), List.getElem?_take, if_pos (by omega)]
                rw [List.getElem?_append_left (by rw [encs_length]; exact hj1)] at hj
                have := hu j u hj
                simpa using this
              · rw [if_neg (by rw [hl1]; omega), hl1]
                rw [List.getElem?_append_right (by rw [encs_length]; omega), encs_length] at hj
                rw [List.getElem?_append_left, show off + j - (off + xs.length * c.sz) = j - xs.length * c.sz by omega]
                · exact hj
                · rcases Nat.lt_or_ge (off + j - (off + xs.length * c.sz)) (encs c ys).length with h | h
                  · exact h
                  · rw [show off + j - (off + xs.length * c.sz) = j - xs.length * c.sz by omega] at h
                    rw [List.getElem?_eq_none h] at hj; cases hj
      · have holds : ∀ j u, (encs c xs)[j]? = some u → w.cell? ((⟨b, off, none⟩ : Addr).add j) = some u := fun j u hj => by
          rw [add_plain]
          show (hpOf w).cell _ = _
          simp only [Hp.cell, hpOf, hbw]
          simpa using hu j u hj
        have hr := run_append_grow (P := P) w T ty E i z ht hi hiz ⟨b, off, none⟩ xs.length cap (encs c xs) hlx holds a ys.length kx (encs c ys) hln hnews (by omega) (by omega) (growslice_fits (by omega) (by rw [hib]; exact hlim))
        refine ⟨_, _, hr, ?_⟩
        have hgr := grown cap (by omega) w.drew s.drop.drew rfl
        exact hgr
theorem l_append {T E : TypeId} {d bytes : Nat} {x y : Operand} {z : Value} {v vy : Value} {xs ys : List α} (s : SL e w L) (t : Take L (Arr c E v xs) L') (ho : o.op = .call { callee := .builtin .append, args := #[x, y], argTypes := #[T, T] }) (hg : o.guard = none) (hd : o.dst = some d)
    (hT : elemB P T = some E) (hz : sizeB P E = some c.sz) (hb : bytesB P E = some bytes) (hzero : zeroB P E = some z) (hzs : z.cells.size = c.sz) (hx : ev l x = v) (hy : ev l y = vy) (hr : Ent L (SlR c vy ys)) (hlim : (xs.length + ys.length) * bytes ≤ 140737488355328) (hbp : 0 < bytes)
    (k : ∀ v' w', SL e w' (Arr c E v' (xs ++ ys) :: L') → wpList P ops Q rest (fr (l.set d v')) w') : wpList P ops Q (o :: rest) (fr l) w := by
  obtain ⟨v', w', h1, h2⟩ := run_append (P := P) (ty := o.type) (s.take t) hT hz hb hzero hzs (hr.at s) hlim hbp
  refine l_do (w' := w') (v := v') hg hd ?_ (k _ _ h2)
  unfold execOp; rw [ho]
  simp only [resolve, invoke, builtin, Sem.run_bind, Sem.run_pure, Result.andThen_ok, List.map_toArray, List.map_cons, List.map_nil, hx, hy, h1]
end
end Go.SL
