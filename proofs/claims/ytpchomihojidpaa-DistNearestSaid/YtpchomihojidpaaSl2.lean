import Derived.Test.YtpchomihojidpaaSl1
namespace Go.SL
set_option linter.unusedSimpArgs false

abbrev ptr (b i : Nat) : Value := .pointer (some ⟨b, i, none⟩)
theorem add_plain (b i n : Nat) : (⟨b, i, none⟩ : Addr).add n = ⟨b, i + n, none⟩ := by
  unfold Addr.add; split <;> simp_all
theorem add_add (a : Addr) (m n : Nat) : (a.add m).add n = a.add (m + n) := by
  unfold Addr.add
  by_cases hm : m = 0
  · subst hm; simp
  · by_cases hn : n = 0
    · subst hn; simp
    · simp [hm, hn, show ¬ (m + n = 0) by omega, Nat.add_assoc]

/-- what is known of a type -/
structure TI (P : Program) (T : TypeId) (d : TypeDesc) (sz bytes : Nat) (z : Value) : Prop where
  u : P.underlying T = some d
  i : (P.info? T).map (fun i => (i.size, i.bytes, i.zero)) = some (sz, bytes, some z)
def aggB (P : Program) (T : TypeId) : Bool := match P.underlying T with
  | some (.struct _) | some (.array _ _) => true
  | _ => false
def sizeB (P : Program) (T : TypeId) : Option Nat := (P.info? T).map (·.size)
def bytesB (P : Program) (T : TypeId) : Option Nat := (P.info? T).map (·.bytes)
def zeroB (P : Program) (T : TypeId) : Option Value := (P.info? T).bind (·.zero)
def elemB (P : Program) (T : TypeId) : Option TypeId := match P.underlying T with
  | some (.slice e) => some e
  | _ => none
def arrB (P : Program) (T : TypeId) : Option (Nat × TypeId) := match P.underlying T with
  | some (.array n e) => some (n, e)
  | _ => none
def fieldB (P : Program) (T : TypeId) (f : Nat) : Option (Nat × TypeId) := match P.underlying T with
  | some (.struct fs) => (fs[f]?).map fun x => (x.offset, x.type)
  | _ => none
def someU (P : Program) (T : TypeId) : Bool := (P.underlying T).isSome

section
variable {P : Program} {e : Env} {o : Oper} {l l' : List Value} {L L' : List Asn} {ops : Array Oper} {rest : List Oper} {w : World} {Q : Exit → Act → World → Prop}

theorem run_typeInfo {T : TypeId} {i : TypeInfo} (h : P.info? T = some i) (w : World) : (typeInfo T).run P w = .ok i w := by
  simp [typeInfo, h]
theorem run_und {T : TypeId} {d : TypeDesc} (h : P.underlying T = some d) (w : World) : (underlying T).run P w = .ok d w := by
  simp [underlying, h]
theorem run_sizeOf {T : TypeId} {n : Nat} (h : sizeB P T = some n) (w : World) : (sizeOf T).run P w = .ok n w := by
  unfold sizeB at h
  cases hi : P.info? T with
  | none => rw [hi] at h; cases h
  | some i => rw [hi] at h; simp at h; simp [sizeOf, typeInfo, hi, h]
theorem run_zero {T : TypeId} {z : Value} (h : zeroB P T = some z) (w : World) : (zeroValue T).run P w = .ok z w := by
  unfold zeroB at h
  cases hi : P.info? T with
  | none => rw [hi] at h; cases h
  | some i => rw [hi] at h; simp at h; simp [zeroValue, typeInfo, hi, h]
theorem run_isAgg {T : TypeId} {b : Bool} (hs : someU P T = true) (h : aggB P T = b) (w : World) : (isAgg T).run P w = .ok b w := by
  unfold someU at hs
  unfold aggB at h
  cases hu : P.underlying T with
  | none => rw [hu] at hs; cases hs
  | some d => rw [hu] at h; subst h; simp only [isAgg, Sem.run_bind, run_und hu, Result.andThen_ok]; cases d <;> simp

/-! reads -/
theorem y_load {T : TypeId} {x : Operand} {a : Addr} {v : Value} (ho : o.op = .load T x) (hs : someU P T = true) (hT : aggB P T = false) (hx : ev l x = .pointer (some a))
    (hc : Ent L (CellIs a v)) : Yl e P o l L v := fun w s => by
  have h1 : w.cell? a = some v := hc.at s
  unfold execOp; rw [ho]
  simp [hx, Instr.loadAt, Instr.sureAddr, loadVar, run_isAgg hs hT, h1]
theorem y_load_agg {T : TypeId} {x : Operand} {a : Addr} {vs : List Value} {n : Nat} (ho : o.op = .load T x) (hs : someU P T = true) (hT : aggB P T = true) (hn : sizeB P T = some n) (hx : ev l x = .pointer (some a))
    (hc : Ent L (CellsAre a vs)) (hl : vs.length = n) : Yl e P o l L (.agg vs.toArray) := fun w s => by
  have h1 : CellsAre a vs (hpOf w) := hc.at s
  unfold execOp; rw [ho]
  simp only [hx, Instr.loadAt, Instr.sureAddr, loadVar, run_isAgg hs hT, Sem.run_bind, Sem.run_pure, Result.andThen_ok, if_true, run_sizeOf hn, ← hl]
  rw [run_loadCells_list w a vs (fun j v hj => h1 j v hj)]
  rfl
theorem y_fieldAddr {T T1 : TypeId} {x : Operand} {f off n : Nat} {a : Addr} (ho : o.op = .fieldAddr T x f) (hf : fieldB P T f = some (off, T1)) (hn : sizeB P T1 = some (n + 1)) (hx : ev l x = .pointer (some a)) :
    Yl e P o l L (.pointer (some (a.add off))) := fun w _ => by
  unfold fieldB at hf
  cases hu : P.underlying T with
  | none => rw [hu] at hf; cases hf
  | some d =>
    rw [hu] at hf
    cases d <;> try (cases hf; done)
    rename_i fs
    simp only [Option.map_eq_some_iff, Prod.mk.injEq] at hf
    obtain ⟨g, hg, rfl, rfl⟩ := hf
    unfold execOp; rw [ho]
    simp [hx, Instr.fieldAt, run_und hu, hg, Instr.sureAddr, fieldPlace, run_sizeOf hn]
theorem y_fieldAddrB {T T1 : TypeId} {x : Operand} {f off n b i : Nat} (ho : o.op = .fieldAddr T x f) (hf : fieldB P T f = some (off, T1)) (hn : sizeB P T1 = some (n + 1)) (hx : ev l x = ptr b i) :
    Yl e P o l L (ptr b (i + off)) := fun w s => by
  have := y_fieldAddr (e := e) (L := L) ho hf hn hx w s
  rwa [add_plain] at this

/-! new blocks -/
theorem l_new {d : Nat} {A : Nat → Asn} (s : SL e w L) (hg : o.guard = none) (hd : o.dst = some d) (f : Nat → Value) (ob : Obj)
    (y : ∀ w, (execOp (ev l) o).run P w = .ok (.value (f w.heap.size)) { w with heap := w.heap.push ob }) (hA : ∀ b, A b (single b ob))
    (k : ∀ b w', SL e w' (A b :: L) → wpList P ops Q rest (fr (l.set d (f b))) w') : wpList P ops Q (o :: rest) (fr l) w := by
  refine wpList_plain hg fun K hK => ?_
  unfold Oper.wp
  rw [fr_eval, y w]
  simp only [Oper.upon, hd, fr_put]
  exact hK _ _ (k _ _ (s.new ob _ (hA _)))
theorem blk_single (b : Nat) (cells : Array Value) (T : TypeId) : Blk b cells T (single b (.cells cells T)) := by
  simp [Blk, single]
theorem l_box {T : TypeId} {x : Operand} {d : Nat} {v : Value} (s : SL e w L) (ho : o.op = .box T x) (hg : o.guard = none) (hd : o.dst = some d) (hx : ev l x = v)
    (k : ∀ b w', SL e w' (Blk b v.cells T :: L) → wpList P ops Q rest (fr (l.set d (ptr b 0))) w') : wpList P ops Q (o :: rest) (fr l) w :=
  l_new s hg hd (fun b => ptr b 0) (.cells v.cells T) (fun w => by
    unfold execOp; rw [ho]; simp [hx, Instr.box, newVar, newRow]) (fun b => blk_single b _ _) k
theorem l_alloc {T : TypeId} {d : Nat} {z : Value} (s : SL e w L) (ho : o.op = .alloc T) (hg : o.guard = none) (hd : o.dst = some d) (hz : zeroB P T = some z)
    (k : ∀ b w', SL e w' (Blk b z.cells T :: L) → wpList P ops Q rest (fr (l.set d (ptr b 0))) w') : wpList P ops Q (o :: rest) (fr l) w :=
  l_new s hg hd (fun b => ptr b 0) (.cells z.cells T) (fun w => by
    unfold execOp; rw [ho]; simp [Instr.alloc, run_zero hz, newVar, newRow]) (fun b => blk_single b _ _) k

/-! writes -/
def Hp.upd (h : Hp) (b : Nat) (o : Obj) : Hp := fun x => if x = b then some o else h x
/-- block b of the list becomes cells' -/
inductive Wr : List Asn → Nat → Nat → Value → List Asn → Prop
  | blk {b : Nat} {cells cells' : Array Value} {T : TypeId} {i : Nat} {u : Value} {L : List Asn} (hi : i < cells.size) (hc : cells.setIfInBounds i u = cells') : Wr (Blk b cells T :: L) b i u (Blk b cells' T :: L)
  | row {b i : Nat} {u : Value} {A A' : Asn} {L : List Asn} (h : ∀ h, A h → ∃ cells T, h b = some (.cells cells T (0, 0)) ∧ i < cells.size ∧ A' (h.upd b (.cells (cells.setIfInBounds i u) T (0, 0)))) : Wr (A :: L) b i u (A' :: L)
  | there {L L' : List Asn} {b i : Nat} {u : Value} (B : Asn) (h : Wr L b i u L') : Wr (B :: L) b i u (B :: L')
theorem Wr.sat {L L' : List Asn} {b i : Nat} {u : Value} (t : Wr L b i u L') : ∀ {h : Hp}, Sat L h → ∃ cells T, h b = some (.cells cells T (0, 0)) ∧ i < cells.size ∧ Sat L' (h.upd b (.cells (cells.setIfInBounds i u) T (0, 0))) := by
  have key : ∀ {A A' : Asn} {L : List Asn} {b i : Nat} {u : Value}, (∀ h, A h → ∃ cells T, h b = some (.cells cells T (0, 0)) ∧ i < cells.size ∧ A' (h.upd b (.cells (cells.setIfInBounds i u) T (0, 0)))) → ∀ {h : Hp}, Sat (A :: L) h →
      ∃ cells T, h b = some (.cells cells T (0, 0)) ∧ i < cells.size ∧ Sat (A' :: L) (h.upd b (.cells (cells.setIfInBounds i u) T (0, 0))) := by
    intro A A' L b i u hA h s
    obtain ⟨h1, h2, d, l1, l2, a, s⟩ := s
    obtain ⟨cells, T, hb, hi, a'⟩ := hA _ a
    refine ⟨cells, T, l1 _ _ hb, hi, h1.upd b _, h2, ?_, ?_, ?_, a', s⟩
    · intro x
      rcases d x with e' | e'
      · by_cases hx : x = b
        · subst hx; rw [hb] at e'; cases e'
        · left; simp [Hp.upd, hx, e']
      · exact .inr e'
    · intro x o' e'
      unfold Hp.upd at *
      split
      · rename_i hx; simpa [hx] using e'
      · rename_i hx; simp only [hx, if_false] at e'; exact l1 _ _ e'
    · intro x o' e'
      unfold Hp.upd
      split
      · rename_i hx; subst hx
        rcases d x with e'' | e''
        · rw [hb] at e''; cases e''
        · rw [e''] at e'; cases e'
      · exact l2 _ _ e'
  induction t with
  | blk hi hc => exact fun s => key (A := Blk _ _ _) (A' := Blk _ _ _) (fun h hb => ⟨_, _, hb, hi, by simp [Blk, Hp.upd, hc]⟩) s
  | row h => exact fun s => key h s
  | @there _ _ b0 _ _ B t ih =>
    intro h s
    obtain ⟨h1, h2, d, l1, l2, a, s⟩ := s
    obtain ⟨cells, T, hb, hi, s'⟩ := ih s
    refine ⟨cells, T, l2 _ _ hb, hi, h1, Hp.upd h2 _ _, ?_, ?_, ?_, a, s'⟩
    · intro x
      rcases d x with e' | e'
      · exact .inl e'
      · by_cases hx : x = b0
        · subst hx; rw [hb] at e'; cases e'
        · right; simp only [Hp.upd]; rw [if_neg hx]; exact e'
    · intro x o' e'
      unfold Hp.upd
      split
      · rename_i hx; subst hx
        rcases d x with e'' | e''
        · rw [e''] at e'; cases e'
        · rw [hb] at e''; cases e''
      · exact l1 _ _ e'
    · intro x o' e'
      unfold Hp.upd at *
      split
      · rename_i hx; simpa [hx] using e'
      · rename_i hx; simp only [hx, if_false] at e'; exact l2 _ _ e'
theorem hpOf_setCell {w : World} {b i : Nat} {u : Value} {cells : Array Value} {T : TypeId} (h : hpOf w b = some (.cells cells T (0, 0))) :
    hpOf (w.setCell ⟨b, i, none⟩ u) = (hpOf w).upd b (.cells (cells.setIfInBounds i u) T (0, 0)) := by
  funext x
  simp only [hpOf, World.setCell, Array.getElem?_modify, Hp.upd] at *
  by_cases hx : b = x
  · subst hx; simp [h]
  · simp [hx, show ¬ x = b from fun e => hx e.symm]
theorem SL.set {b i : Nat} {u : Value} (s : SL e w L) (t : Wr L b i u L') (hu : u.oneCell' = true) :
    (store ⟨b, i, none⟩ u).run P w = .ok () (w.setCell ⟨b, i, none⟩ u) ∧ SL e (w.setCell ⟨b, i, none⟩ u) L' := by
  obtain ⟨cells, T, hb, hi, s'⟩ := t.sat s.sat
  have hc : w.cell? ⟨b, i, none⟩ = some cells[i] := by
    show (hpOf w).cell _ = _
    simp only [Hp.cell, hb]
    simp [hi]
  have hf : w.frozen? ⟨b, i, none⟩ = false := by
    have hb' : w.heap[b]? = some (.cells cells T (0, 0)) := hb
    simp [World.frozen?, hb']
  refine ⟨by rw [run_store P w _ u _ hu, hc]; simp [hf], ?_⟩
  refine ⟨s.env, ?_⟩
  rw [hpOf_setCell hb]; exact s'
theorem cells_one {u : Value} (hu : u.oneCell' = true) : u.cells = #[u] := by
  cases u <;> first | rfl | (simp [Value.oneCell'] at hu)
theorem l_store {T : TypeId} {x y : Operand} {b i : Nat} {u : Value} (s : SL e w L) (ho : o.op = .store T x y) (hg : o.guard = none) (hd : o.dst = none)
    (hn : sizeB P T = some 1) (hx : ev l x = ptr b i) (hy : ev l y = u) (hu : u.oneCell' = true) (t : Wr L b i u L')
    (k : ∀ w', SL e w' L' → wpList P ops Q rest (fr l) w') : wpList P ops Q (o :: rest) (fr l) w := by
  refine wpList_plain hg fun K hK => ?_
  obtain ⟨h1, h2⟩ := s.set (P := P) t hu
  have h : (execOp (ev l) o).run P w = .ok .skip (w.setCell ⟨b, i, none⟩ u) := by
    unfold execOp; rw [ho]
    have e0 : (⟨b, i, none⟩ : Addr).add 0 = ⟨b, i, none⟩ := rfl
    simp [hx, hy, Instr.storeAt, Instr.sureAddr, storeVar, run_sizeOf hn, cells_one hu, storeCells, e0, h1]
  unfold Oper.wp
  rw [fr_eval, h]
  simp only [Oper.upon, hd, fr_put_none]
  exact hK _ _ (k _ h2)
end
end Go.SL
