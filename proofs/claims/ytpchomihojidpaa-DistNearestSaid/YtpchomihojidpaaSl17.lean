import Derived.Test.YtpchomihojidpaaSl16
namespace Go.SL
set_option linter.unusedSimpArgs false
set_option linter.unusedVariables false
section
variable {α : Type} {c : Ty α} {P : Program} {e : Env} {o : Oper} {l l' : List Value} {L L' L2 : List Asn} {ops : Array Oper} {rest : List Oper} {w : World} {Q : Exit → Act → World → Prop}
/-- a function value with what it holds -/
def fnV (f : Nat) (cap : List Value) : Value := .func (.func f) #[] cap.toArray
theorem y_mkF {f : Nat} {as : Array Operand} {vs : List Value} (ho : o.op = .makeFunc (.func f) #[] as) (ha : as.toList.map (evo l) = vs.map some) : Yl e P o l L (fnV f vs) := fun w _ => by
  unfold execOp; rw [ho]
  simp [Instr.makeFunc, evs_of ha, fnV]
theorem l_callF {f d : Nat} {as : Array Operand} {ts : Array TypeId} {vs cap : List Value} {x : Operand} {R : Value → World → Prop} (ho : o.op = .call { callee := .value x, args := as, argTypes := ts }) (hg : o.guard = none) (hd : o.dst = some d)
    (hx : ev l x = fnV f cap) (hB : callB P f = true) (ha : as.toList.map (evo l) = vs.map some) (hc : Calls P f (vs ++ cap).toArray w (Rets R))
    (k : ∀ v w', R v w' → wpList P ops Q rest (fr (l.set d v)) w') : wpList P ops Q (o :: rest) (fr l) w :=
  l_callC ho hg hd hx hB (by rw [evs_of ha]; simp) hc k
/-- a place in a part is one in the whole -/
theorem y_idxP {T E : TypeId} {x y : Operand} {v : Value} {k : IntKind} {i : Int} {n a b : Nat} {xs : List α} (ho : o.op = .indexAddr T x y) (hT : elemB P T = some E) (hz : sizeB P E = some c.sz)
    (hx : ev l x = slV c.sz v a b) (hy : ev l y = .int k i) (hr : Ent L (SlR c v xs)) (hk : i = (n : Int)) (h1 : a + n < b) (hb : b ≤ xs.length) : Yl e P o l L (elp v ((a + n) * c.sz)) := fun w s => by
  have hp : Ent L (SlR c (slV c.sz v a b) ((xs.drop a).take (b - a))) := fun h hs => slR_part (by omega) hb (hr h hs)
  have := y_idx (P := P) (e := e) ho hT hz hx hy hp hk (by simp; omega) w s
  rwa [elp_slV (hr.at s) h1 hb] at this
/-- the empty slice is anybody's -/
theorem SL.nilArr (c : Ty α) (E : TypeId) (s : SL e w L) : SL e w (Arr c E (.slice none 0 0) [] :: L) :=
  ⟨s.env, fun _ => none, hpOf w, fun _ => .inl rfl, fun _ _ h => (by cases h), fun _ _ h => h, Or.inl ⟨rfl, rfl⟩, s.sat⟩
theorem one_I32 {b : Nat} {n : Int} {T : TypeId} : ∀ h, Blk b #[.int .i32 n] T h → SlR I32 (.slice (some ⟨b, 0, none⟩) 1 1) [n] h := blk_reads rfl rfl
/-- cells of a list that a law picks, all of one value -/
def fillP (p : Nat → Bool) (n : Int) (vs : List Int) : List Int := (List.range vs.length).map fun k => if p k then n else vs.getD k 0
theorem fillP_length (p : Nat → Bool) (n : Int) (vs : List Int) : (fillP p n vs).length = vs.length := by simp [fillP]
theorem fillP_getD (p : Nat → Bool) (n : Int) (vs : List Int) {k : Nat} (h : k < vs.length) : (fillP p n vs).getD k 0 = if p k then n else vs.getD k 0 := by
  simp [fillP, List.getD_eq_getElem?_getD, h]
theorem fillP_set (p : Nat → Bool) (n : Int) (vs : List Int) (k : Nat) : (fillP p n vs).set k n = fillP (fun i => p i || i == k) n vs := by
  apply List.ext_getElem?
  intro i
  rw [List.getElem?_set]
  simp only [fillP, List.length_map, List.length_range, List.getElem?_map]
  by_cases hi : i < vs.length
  · rw [List.getElem?_range hi]
    by_cases hk : k = i
    · subst hk; simp [hi]
    · have : ¬ i = k := fun h => hk h.symm
      simp [hk, this]
  · rw [List.getElem?_eq_none (by simpa using Nat.not_lt.1 hi)]
    by_cases hk : k = i
    · subst hk; simp [hi]
    · simp [hk]
theorem fillP_congr {p q : Nat → Bool} {n : Int} {vs : List Int} (h : ∀ k, k < vs.length → p k = q k) : fillP p n vs = fillP q n vs := by
  unfold fillP
  apply List.map_congr_left
  intro k hk
  rw [h k (List.mem_range.1 hk)]
theorem list_getD (vs : List Int) : (List.range vs.length).map (fun k => vs.getD k 0) = vs := by
  apply List.ext_getElem?
  intro i
  rw [List.getElem?_map]
  by_cases hi : i < vs.length
  · rw [List.getElem?_range hi]; simp [List.getD_eq_getElem?_getD, hi]
  · rw [List.getElem?_eq_none (by simpa using Nat.not_lt.1 hi), List.getElem?_eq_none (Nat.not_lt.1 hi)]; rfl
theorem fillP_none {p : Nat → Bool} {n : Int} {vs : List Int} (h : ∀ k, k < vs.length → p k = false) : fillP p n vs = vs := by
  have : fillP p n vs = (List.range vs.length).map (fun k => vs.getD k 0) := by
    unfold fillP
    apply List.map_congr_left
    intro k hk
    rw [h k (List.mem_range.1 hk)]; rfl
  rw [this, list_getD]
theorem fillP_all {p : Nat → Bool} {n : Int} {vs : List Int} (h : ∀ k, k < vs.length → p k = true) : fillP p n vs = List.replicate vs.length n := by
  unfold fillP
  apply List.ext_getElem?
  intro i
  rw [List.getElem?_map]
  by_cases hi : i < vs.length
  · rw [List.getElem?_range hi, List.getElem?_replicate, if_pos hi]; simp [h i hi]
  · rw [List.getElem?_eq_none (by simpa using Nat.not_lt.1 hi), List.getElem?_eq_none (by simpa using Nat.not_lt.1 hi)]; rfl
theorem fillP_same {p : Nat → Bool} {n : Int} {len : Nat} : fillP p n (List.replicate len n) = List.replicate len n := by
  unfold fillP
  apply List.ext_getElem?
  intro i
  rw [List.getElem?_map, List.length_replicate]
  by_cases hi : i < len
  · rw [List.getElem?_range hi, List.getElem?_replicate, if_pos hi]; simp [List.getD_eq_getElem?_getD, List.getElem?_replicate, hi]
  · rw [List.getElem?_eq_none (by simpa using Nat.not_lt.1 hi), List.getElem?_eq_none (by simpa using Nat.not_lt.1 hi)]; rfl
theorem all_same {vs : List Int} (h : ∀ k, k < vs.length → vs.getD k 0 = vs.getD 0 0) : vs = List.replicate vs.length (vs.getD 0 0) := by
  apply List.ext_getElem?
  intro i
  rw [List.getElem?_replicate]
  by_cases hi : i < vs.length
  · rw [if_pos hi, ← h i hi]; simp [List.getD_eq_getElem?_getD, hi]
  · rw [if_neg hi, List.getElem?_eq_none (Nat.not_lt.1 hi)]
end
end Go.SL
