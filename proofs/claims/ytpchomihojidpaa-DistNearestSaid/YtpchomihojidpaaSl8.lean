import Derived.Test.YtpchomihojidpaaSl7
namespace Go.SL
set_option linter.unusedSimpArgs false

/-! what a slot holds, in a form that computes -/
def nth : List Value → Nat → Option Value
  | [], _ => none
  | v :: _, 0 => some v
  | _ :: l, n + 1 => nth l n
def evo (l : List Value) : Operand → Option Value
  | .tmp t => nth l t
  | .const v => some v
  | .global g => some (.pointer (some ⟨g, 0, none⟩))
  | .func f => some (.func (.func f) #[] #[])
theorem nth_getD : ∀ (l : List Value) (t : Nat) (v : Value), nth l t = some v → l.getD t undef = v
  | [], _, _, h => by cases h
  | x :: l, 0, v, h => by simpa [nth] using h
  | x :: l, n + 1, v, h => by simpa using nth_getD l n v h
theorem ev_of {l : List Value} {x : Operand} {v : Value} (h : evo l x = some v) : ev l x = v := by
  cases x with
  | tmp t => exact nth_getD l t v h
  | const u => simpa [evo, ev] using h
  | global g => simpa [evo, ev] using h
  | func f => simpa [evo, ev] using h
theorem evs_of {l : List Value} {as : Array Operand} {vs : List Value} (h : as.toList.map (evo l) = vs.map some) : as.map (ev l) = vs.toArray := by
  apply Array.ext'
  rw [Array.toList_map]
  generalize as.toList = xs at h
  show xs.map (ev l) = vs
  induction xs generalizing vs with
  | nil => cases vs with
    | nil => rfl
    | cons v vs => simp at h
  | cons x xs ih => cases vs with
    | nil => simp at h
    | cons v vs =>
      simp only [List.map_cons, List.cons.injEq] at h ⊢
      exact ⟨ev_of h.1, ih h.2⟩

section
variable {P : Program} {e : Env} {o : Oper} {l l' : List Value} {L L' M : List Asn} {ops : Array Oper} {rest : List Oper} {w : World} {Q : Exit → Act → World → Prop} {K : Act → List Asn → Prop} {xs : List (Oper × VS)}

theorem nlL (hl : l = l') (k : wpList P ops Q rest (fr l') w) : wpList P ops Q rest (fr l) w := by rw [hl]; exact k
theorem nlD (hl : l = l') (k : WD P e L ops K xs (fr l') M) : WD P e L ops K xs (fr l) M := by rw [hl]; exact k
theorem nlC {c : Code} (hl : l = l') (k : c.wp P Q (fr l') w) : c.wp P Q (fr l) w := by rw [hl]; exact k
theorem y_mv {x : Operand} {v : Value} (ho : o.op = .move x) (hx : ev l x = v) : Yl e P o l L v := hx ▸ y_move ho
theorem y_as {x : Operand} {v : Value} (ho : o.op = .assign x) (hx : ev l x = v) : Yl e P o l L v := hx ▸ y_assign ho
theorem y_pick1 {c x y : Operand} {v : Value} (ho : o.op = .pick c x y) (hc : ev l c = .bool true) (hx : ev l x = v) : Yl e P o l L v := by
  have := y_pick (e := e) (P := P) (L := L) ho hc; rw [if_pos rfl, hx] at this; exact this
theorem y_pick0 {c x y : Operand} {v : Value} (ho : o.op = .pick c x y) (hc : ev l c = .bool false) (hx : ev l y = v) : Yl e P o l L v := by
  have := y_pick (e := e) (P := P) (L := L) ho hc; rw [if_neg (by simp), hx] at this; exact this

/-! known truth values -/
theorem evo_set {t : Nat} {v : Value} (h : nth l t = some v) : l.set t v = l := by
  induction l generalizing t with
  | nil => rfl
  | cons x l ih => cases t with
    | zero => simp [nth] at h; simp [h]
    | succ t => rw [List.set_cons_succ, ih (by simpa [nth] using h)]
theorem l_split {t : Nat} {c : Bool} (hx : evo l (.tmp t) = some (.bool c)) (ht : c = true → wpList P ops Q rest (fr (l.set t (.bool true))) w) (hf : c = false → wpList P ops Q rest (fr (l.set t (.bool false))) w) : wpList P ops Q rest (fr l) w := by
  cases c with
  | true => have := ht rfl; rwa [evo_set hx] at this
  | false => have := hf rfl; rwa [evo_set hx] at this
theorem l_known {t : Nat} {c b : Bool} (hx : evo l (.tmp t) = some (.bool c)) (hc : c = b) (k : wpList P ops Q rest (fr (l.set t (.bool b))) w) : wpList P ops Q rest (fr l) w := by
  subst hc; rwa [evo_set hx] at k
theorem d_known {t : Nat} {c b : Bool} (hx : evo l (.tmp t) = some (.bool c)) (hc : c = b) (k : WD P e L ops K xs (fr (l.set t (.bool b))) M) : WD P e L ops K xs (fr l) M := by
  subst hc; rwa [evo_set hx] at k
theorem p_known {t : Nat} {c b : Bool} {KP : Act → Prop} {os : List Oper} (hx : evo l (.tmp t) = some (.bool c)) (hc : c = b) (k : WP P ops KP os (fr (l.set t (.bool b)))) : WP P ops KP os (fr l) := by
  subst hc; rwa [evo_set hx] at k

/-! guarded operations -/
theorem d_gval {v : Value} {d : Nat} (y : Yl e P o l L v) (hg : Region.wanted o (yielded ops (fr l).tmps) = true) (hd : o.dst = some d) (hl : l.set d v = l') (k : WD P e L ops K xs (fr l') M) : WD P e L ops K ((o, vq v) :: xs) (fr l) M := by
  refine ⟨.inl ⟨hg, fun w M' s => ?_⟩, ⟨v, [], rfl, rfl⟩, ?_⟩
  · have h1 : Sat L (hpOf w) := by
      have : ∀ (A B : List Asn) h, Sat (A ++ B) h → Sat B h := by
        intro A; induction A with
        | nil => exact fun _ _ h => h
        | cons a A ih => exact fun B h s => ih B h s.drop
      exact this _ _ _ s.sat
    rw [fr_eval, y w ⟨s.env, h1⟩]
    exact ⟨[], ⟨rfl, rfl⟩, s⟩
  · rintro v' E ⟨rfl, rfl⟩
    rw [hd, fr_put, hl]; exact k
theorem d_skip {d : Nat} (hg : Region.wanted o (yielded ops (fr l).tmps) = false) (hd : o.dst = some d) (hl : l.set d undef = l') (k : WD P e L ops K xs (fr l') M) : WD P e L ops K ((o, vq undef) :: xs) (fr l) M := by
  refine ⟨.inr ⟨hg, ⟨rfl, rfl⟩, fun v E h => h⟩, ⟨undef, [], rfl, rfl⟩, ?_⟩
  rintro v' E ⟨rfl, rfl⟩
  rw [hd, fr_put, hl]; exact k
theorem d_gcall {f d : Nat} {as : Array Operand} {ts : Array TypeId} {vs : List Value} {v : Value} (ho : o.op = .call { callee := .value (.func f), args := as, argTypes := ts }) (hg : Region.wanted o (yielded ops (fr l).tmps) = true) (hd : o.dst = some d)
    (hB : callB P f = true) (ha : as.toList.map (evo l) = vs.map some) (hc : ∀ w M, SL e w (M ++ L) → Calls P f vs.toArray w (Rets fun u w' => u = v ∧ SL e w' (M ++ L))) (hl : l.set d v = l')
    (k : WD P e L ops K xs (fr l') M) : WD P e L ops K ((o, vq v) :: xs) (fr l) M := by
  refine ⟨.inl ⟨hg, fun w M' s => ?_⟩, ⟨v, [], rfl, rfl⟩, ?_⟩
  · rw [fr_eval, run_call (f := f) (first := #[]) (cap := #[]) ho rfl hB (by simpa using evs_of ha) w]
    exact Rets.mono (hc w M' s) fun u w' ⟨h1, h2⟩ => ⟨[], ⟨h1, rfl⟩, h2⟩
  · rintro v' E ⟨rfl, rfl⟩
    rw [hd, fr_put, hl]; exact k
theorem l_gcall {f d : Nat} {as : Array Operand} {ts : Array TypeId} {vs : List Value} {R : Value → World → Prop} (ho : o.op = .call { callee := .value (.func f), args := as, argTypes := ts }) (hg : Region.wanted o (yielded ops (fr l).tmps) = true) (hd : o.dst = some d)
    (hB : callB P f = true) (ha : as.toList.map (evo l) = vs.map some) (hc : Calls P f vs.toArray w (Rets R))
    (k : ∀ v w', R v w' → wpList P ops Q rest (fr (l.set d v)) w') : wpList P ops Q (o :: rest) (fr l) w := by
  refine wpList_step fun K hK => ?_
  rw [if_pos hg]
  unfold Oper.wp
  rw [fr_eval, run_call (f := f) (first := #[]) (cap := #[]) ho rfl hB (by simpa using evs_of ha) w]
  simp only [Oper.upon]
  refine hc.mono fun en w' r => ?_
  cases en with
  | returned v => simp only [hd, fr_put]; exact hK _ _ (k _ _ r)
  | panicked c => exact r.elim
  | outgrown => exact r.elim

/-! calls, with lists -/
theorem l_callL {f d : Nat} {as : Array Operand} {ts : Array TypeId} {vs : List Value} {R : Value → World → Prop} (ho : o.op = .call { callee := .value (.func f), args := as, argTypes := ts }) (hg : o.guard = none) (hd : o.dst = some d)
    (hB : callB P f = true) (ha : as.toList.map (evo l) = vs.map some) (hc : Calls P f vs.toArray w (Rets R))
    (k : ∀ v w', R v w' → wpList P ops Q rest (fr (l.set d v)) w') : wpList P ops Q (o :: rest) (fr l) w :=
  l_call ho hg hd hB (evs_of ha) hc k
theorem l_callL0 {f : Nat} {as : Array Operand} {ts : Array TypeId} {vs : List Value} {R : Value → World → Prop} (ho : o.op = .call { callee := .value (.func f), args := as, argTypes := ts }) (hg : o.guard = none) (hd : o.dst = none)
    (hB : callB P f = true) (ha : as.toList.map (evo l) = vs.map some) (hc : Calls P f vs.toArray w (Rets R))
    (k : ∀ v w', R v w' → wpList P ops Q rest (fr l) w') : wpList P ops Q (o :: rest) (fr l) w :=
  l_call0 ho hg hd hB (evs_of ha) hc k
theorem d_callL {f d : Nat} {as : Array Operand} {ts : Array TypeId} {vs : List Value} {v : Value} (ho : o.op = .call { callee := .value (.func f), args := as, argTypes := ts }) (hg : o.guard = none) (hd : o.dst = some d)
    (hB : callB P f = true) (ha : as.toList.map (evo l) = vs.map some) (hc : ∀ w M, SL e w (M ++ L) → Calls P f vs.toArray w (Rets fun u w' => u = v ∧ SL e w' (M ++ L))) (hl : l.set d v = l')
    (k : WD P e L ops K xs (fr l') M) : WD P e L ops K ((o, vq v) :: xs) (fr l) M := d_call ho hg hd hB (evs_of ha) hc hl k
theorem d_callRL {f d : Nat} {as : Array Operand} {ts : Array TypeId} {vs : List Value} {R : VS} (ho : o.op = .call { callee := .value (.func f), args := as, argTypes := ts }) (hg : o.guard = none) (hd : o.dst = some d)
    (hB : callB P f = true) (ha : as.toList.map (evo l) = vs.map some) (hin : ∃ v E, R v E) (hc : ∀ w M, SL e w (M ++ L) → Calls P f vs.toArray w (Rets fun u w' => ∃ E, R u E ∧ SL e w' (E ++ (M ++ L))))
    (k : ∀ v E, R v E → WD P e L ops K xs (fr (l.set d v)) (E ++ M)) : WD P e L ops K ((o, R) :: xs) (fr l) M := d_callR ho hg hd hB (evs_of ha) hin hc k

/-! whole structs -/
theorem blk_cells {b i : Nat} {cells : Array Value} {T : TypeId} {vs : List Value} (h : (cells.toList.drop i).take vs.length = vs) : ∀ hp, Blk b cells T hp → CellsAre ⟨b, i, none⟩ vs hp := by
  intro hp hb j v hj
  rw [add_plain]
  simp only [Hp.cell, Blk] at *
  rw [hb]
  rw [← h, List.getElem?_take] at hj
  split at hj
  · rw [List.getElem?_drop] at hj
    simpa using hj
  · cases hj
theorem y_load_blk {T T' : TypeId} {x : Operand} {b : Nat} {cells : Array Value} {n : Nat} (ho : o.op = .load T x) (hs : someU P T = true) (hT : aggB P T = true) (hn : sizeB P T = some n) (hx : ev l x = ptr b 0)
    (hc : Ent L (fun h => Blk b cells T' h)) (hl : cells.size = n) : Yl e P o l L (.agg cells) := by
  have h1 : Ent L (CellsAre ⟨b, 0, none⟩ cells.toList) := fun h s => blk_cells (by rw [List.drop_zero]; exact List.take_of_length_le (Nat.le_refl _)) h (hc h s)
  have := y_load_agg (e := e) ho hs hT hn hx h1 (by simpa using hl)
  simpa using this
theorem ent_blk {b : Nat} {cells : Array Value} {T : TypeId} {L : List Asn} : Ent (Blk b cells T :: L) (fun h => Blk b cells T h) := Ent.here (φ := Blk b cells T) fun _ h => h

/-- parts laid into cells -/
def lay (z : List Value) : List (Nat × List Value) → List Value
  | [] => z
  | (off, cs) :: r => lay (z.take off ++ cs ++ z.drop (off + cs.length)) r
def partsB (P : Program) (T : TypeId) (i : Nat) : Option (Nat × Nat) := match fieldB P T i with
  | some (off, ft) => (sizeB P ft).map fun n => (off, n)
  | none => none
theorem foldl_set (cs : List Value) : ∀ (k off : Nat) (z : Array Value), off + k + cs.length ≤ z.size →
    ((cs.zipIdx k).foldl (fun (a : Array Value) (p : Value × Nat) => a.setIfInBounds (off + p.2) p.1) z).toList = z.toList.take (off + k) ++ cs ++ z.toList.drop (off + k + cs.length) := by
  induction cs with
  | nil => intro k off z h; simp
  | cons c cs ih =>
    intro k off z h
    simp only [List.zipIdx_cons, List.foldl_cons]
    rw [ih (k + 1) off _ (by simp at h ⊢; omega)]
    have hlt : off + k < z.toList.length := by simp at h ⊢; omega
    simp only [Array.toList_setIfInBounds, List.length_cons]
    rw [List.drop_set_of_lt (by omega), show off + (k + 1) = off + k + 1 by omega, List.take_add_one, List.take_set_of_le (Nat.le_refl _)]
    rw [List.getElem?_set_self hlt]
    simp [Nat.add_assoc, Nat.add_comm, Nat.add_left_comm]
theorem fill_lay (place : Nat → Option (Nat × Nat)) : ∀ (vs : List (Nat × Value)) (ps : List (Nat × List Value)) (z : Array Value), vs.length = ps.length → (∀ q ∈ vs.zip ps, place q.1.1 = some (q.2.1, q.2.2.length) ∧ q.1.2.cells.toList = q.2.2 ∧ q.2.1 + q.2.2.length ≤ z.size) →
    ∃ r, Instr.fill place z vs = some r ∧ r.toList = lay z.toList ps ∧ r.size = z.size
  | [], [], z, _, _ => ⟨z, rfl, rfl, rfl⟩
  | [], _ :: _, _, h, _ => by simp at h
  | _ :: _, [], _, h, _ => by simp at h
  | (i, v) :: vs, (off, cs) :: ps, z, hl, h => by
    obtain ⟨h1, h2, h3⟩ := h ((i, v), (off, cs)) (by simp)
    simp only at h1 h2 h3
    have hcs : v.cells.size = cs.length := by rw [← h2]; simp
    have hf := foldl_set cs 0 off z (by omega)
    have e1 : (v.cells.zipIdx.foldl (fun (a : Array Value) (p : Value × Nat) => a.setIfInBounds (off + p.2) p.1) z).toList = z.toList.take off ++ cs ++ z.toList.drop (off + cs.length) := by
      rw [← Array.foldl_toList, Array.toList_zipIdx, h2]
      simpa using hf
    have hsz : (v.cells.zipIdx.foldl (fun (a : Array Value) (p : Value × Nat) => a.setIfInBounds (off + p.2) p.1) z).size = z.size := by
      rw [← Array.length_toList, e1]; simp; omega
    obtain ⟨r, hr1, hr2, hr3⟩ := fill_lay place vs ps _ (by simpa using hl) (fun q hq => by
      obtain ⟨a, b, c⟩ := h q (by simp [hq]); exact ⟨a, b, by rw [hsz]; exact c⟩)
    refine ⟨r, ?_, by rw [hr2, e1]; rfl, by rw [hr3, hsz]⟩
    simp only [Instr.fill, h1]
    rw [if_neg (by simp; omega)]
    exact hr1
theorem run_mapM_list {α β : Type} (f : α → Sem β) (g : α → β) (xs : List α) (w : World) (h : ∀ x ∈ xs, (f x).run P w = .ok (g x) w) : (xs.mapM f).run P w = .ok (xs.map g) w := by
  induction xs with
  | nil => simp
  | cons x xs ih =>
    rw [List.mapM_cons]
    simp only [Sem.run_bind, h x (by simp), Result.andThen_ok, ih (fun y hy => h y (by simp [hy])), Sem.run_pure, List.map_cons]
theorem y_bld {T : TypeId} {parts : Array (Nat × Operand)} {z : Value} {zs : List Value} {vs : List (Nat × Value)} {ps : List (Nat × List Value)} (ho : o.op = .build T parts) (hz : zeroB P T = some z) (hzs : z.cells.toList = zs)
    (hfs : ∃ fs : Array Field, P.underlying T = some (.struct fs) ∧ ∀ f ∈ fs.toList, (sizeB P f.type).isSome = true)
    (hv : parts.toList.map (fun p => (evo l p.2).map fun v => (p.1, v)) = vs.map some) (hl : vs.length = ps.length)
    (hp : ∀ q ∈ vs.zip ps, partsB P T q.1.1 = some (q.2.1, q.2.2.length) ∧ q.1.2.cells.toList = q.2.2 ∧ q.2.1 + q.2.2.length ≤ zs.length) {v : Value} (hval : (lay zs ps).toArray = v.cells) (hag : ∃ cs, v = .agg cs) : Yl e P o l L v := fun w _ => by
  obtain ⟨cs, rfl⟩ := hag
  obtain ⟨fs, hu, hsz⟩ := hfs
  have hparts : parts.map (fun (x : Nat × Operand) => match x with | (i, x) => (i, ev l x)) = vs.toArray := by
    apply Array.ext'
    rw [Array.toList_map]
    generalize parts.toList = xs at hv
    show xs.map _ = vs
    clear hl hp
    induction xs generalizing vs with
    | nil => cases vs with
      | nil => rfl
      | cons v vs => simp at hv
    | cons x xs ih => cases vs with
      | nil => simp at hv
      | cons v vs =>
        simp only [List.map_cons, List.cons.injEq] at hv ⊢
        refine ⟨?_, ih hv.2⟩
        have h1 := hv.1
        cases hx : evo l x.2 with
        | none => rw [hx] at h1; cases h1
        | some u => rw [hx] at h1; simp at h1; rw [← h1, ev_of hx]
  let pl : Field → Nat × Nat := fun f => (f.offset, (sizeB P f.type).getD 0)
  have hm : (fs.mapM (fun f => do pure (f.offset, ← sizeOf f.type) : Field → Sem (Nat × Nat))).run P w = .ok (fs.map pl) w := by
    have h1 := run_mapM_list (P := P) (fun f => do pure (f.offset, ← sizeOf f.type) : Field → Sem (Nat × Nat)) pl fs.toList w (fun f hf => by
      have := hsz f hf
      cases hs : sizeB P f.type with
      | none => rw [hs] at this; cases this
      | some n => simp [run_sizeOf hs, pl, hs])
    rw [Array.mapM_eq_mapM_toList]
    simp only [Sem.run_map, h1, Result.andThen_ok]
    congr 1
    apply Array.ext'
    simp
  have hplace : ∀ i, (fs.map pl)[i]? = partsB P T i ∨ partsB P T i = none := by
    intro i
    cases hf : fs[i]? with
    | none => right; simp [partsB, fieldB, hu, hf]
    | some f =>
      left
      have h1 := hsz f (by simpa using Array.mem_of_getElem? hf)
      cases hs : sizeB P f.type with
      | none => rw [hs] at h1; cases h1
      | some n => simp [partsB, fieldB, hu, hf, hs, pl]
  obtain ⟨r, hr1, hr2, _⟩ := fill_lay (fun i => (fs.map pl)[i]?) vs ps z.cells hl (fun q hq => by
    obtain ⟨a, b, c⟩ := hp q hq
    refine ⟨?_, b, ?_⟩
    · rcases hplace q.1.1 with h | h
      · exact h.trans a
      · rw [a] at h; cases h
    · have := congrArg List.length hzs; simp at this; omega)
  have hrcs : r = cs := by
    have h3 : (lay zs ps).toArray = cs := hval
    rw [← h3]; apply Array.ext'; rw [hr2, hzs]
  unfold execOp; rw [ho]
  simp only [Instr.build, Sem.run_bind, run_zero hz, Result.andThen_ok, run_und hu, hm, hparts]
  rw [hr1]
  simp [hrcs]
end
end Go.SL
