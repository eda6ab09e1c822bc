/- The library of this claim: what memory holds, part by part, and the steps of a walk. Part D. -/
import Derived.Test.YtpchomihojidpaaSlC
namespace Go.SL
set_option linter.unusedVariables false
set_option linter.unusedSimpArgs false
set_option linter.unusedVariables false
section
variable {α : Type} {c : Ty α} {P : Program} {e : Env} {ops : Array Oper} {Q : Exit → Act → World → Prop} {rest : List Oper} {o : Oper} {l : List Value} {L L' : List Asn} {w : World}
theorem encs_blk (xs : List α) {i j m : Nat} {y : α} {us : List Value} (hi : i < xs.length) (hm : us.length = m) (hj : j + m ≤ c.sz) (he : c.enc y = (c.enc (xs.getD i c.d)).take j ++ us ++ (c.enc (xs.getD i c.d)).drop (j + m)) :
    encs c (xs.set i y) = (encs c xs).take (i * c.sz + j) ++ us ++ (encs c xs).drop (i * c.sz + j + m) := by
  induction xs generalizing i with
  | nil => simp at hi
  | cons x xs ih =>
    cases i with
    | zero =>
      simp only [List.getD_cons_zero] at he
      simp only [List.set_cons_zero, encs_cons, Nat.zero_mul, Nat.zero_add]
      rw [he, List.take_append_of_le_length (by rw [c.len]; omega), List.drop_append_of_le_length (by rw [c.len]; omega)]
      simp only [List.append_assoc]
    | succ i =>
      simp only [List.getD_cons_succ] at he
      simp only [List.set_cons_succ, encs_cons]
      have e1 : (i + 1) * c.sz = c.sz + i * c.sz := by rw [Nat.add_mul]; omega
      rw [ih (by simpa using hi) he, e1, List.take_append, List.drop_append, c.len, List.take_of_length_le (l := c.enc x) (by rw [c.len]; omega), List.drop_eq_nil_of_le (as := c.enc x) (by rw [c.len]; omega)]
      rw [show c.sz + i * c.sz + j - c.sz = i * c.sz + j by omega, show c.sz + i * c.sz + j + m - c.sz = i * c.sz + j + m by omega]
      simp only [List.append_assoc, List.nil_append]
theorem blk_shift {A C : List Value} {p m off : Nat} {us : List Value} (hm : us.length = m) (hA : p + m ≤ A.length) (hC : off + p + m ≤ C.length) (h : ∀ k z, A[k]? = some z → C[off + k]? = some z) :
    ∀ k z, (A.take p ++ us ++ A.drop (p + m))[k]? = some z → (C.take (off + p) ++ us ++ C.drop (off + p + m))[off + k]? = some z := by
  intro k z hk
  have l1 : (A.take p).length = p := by rw [List.length_take]; omega
  have l2 : (C.take (off + p)).length = off + p := by rw [List.length_take]; omega
  have l3 : (A.take p ++ us).length = p + m := by rw [List.length_append, l1, hm]
  have l4 : (C.take (off + p) ++ us).length = off + p + m := by rw [List.length_append, l2, hm]
  rcases Nat.lt_or_ge k (p + m) with h1 | h1
  · rw [List.getElem?_append_left (by rw [l3]; exact h1)] at hk
    rw [List.getElem?_append_left (by rw [l4]; omega)]
    rcases Nat.lt_or_ge k p with h2 | h2
    · rw [List.getElem?_append_left (by rw [l1]; exact h2), List.getElem?_take, if_pos h2] at hk
      rw [List.getElem?_append_left (by rw [l2]; omega), List.getElem?_take, if_pos (by omega)]
      exact h k z hk
    · rw [List.getElem?_append_right (by rw [l1]; exact h2), l1] at hk
      rw [List.getElem?_append_right (by rw [l2]; omega), l2, show off + k - (off + p) = k - p by omega]
      exact hk
  · rw [List.getElem?_append_right (by rw [l3]; exact h1), l3, List.getElem?_drop] at hk
    rw [List.getElem?_append_right (by rw [l4]; omega), l4, List.getElem?_drop, show off + p + m + (off + k - (off + p + m)) = off + (p + m + (k - (p + m))) by omega]
    exact h _ z hk
/-- a struct stored in an element's field -/
theorem l_stEA {T E : TypeId} {x z : Operand} {v : Value} {xs : List α} {n i j m : Nat} {vs : Array Value} {y : α} (s : SL e w L) (t : Take L (Arr c E v xs) L') (ho : o.op = .store T x z) (hg : o.guard = none) (hd : o.dst = none)
    (hz : sizeB P T = some m) (hx : ev l x = elp v n) (hy : ev l z = .agg vs) (hm : vs.size = m) (h1 : ∀ u ∈ vs.toList, u.oneCell' = true) (hi : i < xs.length) (hn : n = i * c.sz + j) (hj : j + m ≤ c.sz)
    (he : c.enc y = (c.enc (xs.getD i c.d)).take j ++ vs.toList ++ (c.enc (xs.getD i c.d)).drop (j + m))
    (k : ∀ w', SL e w' (Arr c E v (xs.set i y) :: L') → wpList P ops Q rest (fr l) w') : wpList P ops Q (o :: rest) (fr l) w := by
  refine wpList_plain hg fun K hK => ?_
  have s1 := s.take t
  obtain ⟨h1', h2', _, l1, _, ha, _⟩ := s1.sat
  rcases ha with ⟨rfl, rfl⟩ | ⟨b, off, cap, cells, rfl, hc, hb, hs, hu⟩
  · simp at hi
  subst hn
  have hlt : i * c.sz + j + m ≤ xs.length * c.sz := by
    have : (i + 1) * c.sz ≤ xs.length * c.sz := Nat.mul_le_mul_right _ hi
    rw [Nat.add_mul] at this; omega
  have hlt2 : off + (i * c.sz + j) + m ≤ cells.size := by
    have : xs.length * c.sz ≤ cap * c.sz := Nat.mul_le_mul_right _ hc
    omega
  have hx' : ev l x = ptr b (off + (i * c.sz + j)) := by rw [hx]; simp only [elp, add_plain]
  have hw : w.heap[b]? = some (.cells cells E (0, 0)) := l1 _ _ hb
  have hst := run_storeCells_at P b (off + (i * c.sz + j)) E vs.toList 0 cells w hw (by simp; omega) h1
  have h : (execOp (ev l) o).run P w = .ok .skip (w.setRow b (cells.toList.take (off + (i * c.sz + j)) ++ vs.toList ++ cells.toList.drop (off + (i * c.sz + j) + m)).toArray) := by
    unfold execOp; rw [ho]
    have hne : ¬ (Value.agg vs).cells.size ≠ m := by simp [Value.cells, hm]
    simp only [hx', hy, Instr.storeAt, Instr.sureAddr, storeVar, Sem.run_bind, Sem.run_pure, Result.andThen_ok, run_sizeOf hz, if_neg hne]
    simp only [Value.cells]
    have e2 : off + (i * c.sz + j) + 0 + vs.toList.length = off + (i * c.sz + j) + m := by simp [hm]
    rw [e2, Nat.add_zero] at hst
    rw [hst]; rfl
  unfold Oper.wp
  rw [fr_eval, h]
  simp only [Oper.upon, hd, fr_put_none]
  refine hK _ _ (k _ (s1.setRow hw fun h hh => ⟨?_, fun hh2 => ?_⟩))
  · rcases hh with ⟨h3, _⟩ | ⟨b', off', cap', cells', e1, _, hb', _⟩
    · simp at h3
    · simp only [Value.slice.injEq, Option.some.injEq, Addr.mk.injEq] at e1
      rw [e1.1.1, hb']; rfl
  · refine .inr ⟨b, off, cap, _, by rw [List.length_set], by rw [List.length_set]; exact hc, by simp [Hp.upd]; rfl, ?_, ?_⟩
    · simp; omega
    · rw [encs_blk xs hi (by simp [hm]) hj he]
      intro k' z hk
      have := blk_shift (A := encs c xs) (C := cells.toList) (p := i * c.sz + j) (off := off) (us := vs.toList) (m := m) (by simp [hm]) (by rw [encs_length]; exact hlt) (by simpa using hlt2) (fun k z hk => by simpa using hu k z hk) k' z hk
      simpa using this
/-- a struct read out of an element's field -/
theorem y_ldFA {T : TypeId} {x : Operand} {v : Value} {xs : List α} {i j m n : Nat} {vs : List Value} (ho : o.op = .load T x) (hs : someU P T = true) (hT : aggB P T = true) (hz : sizeB P T = some m) (hx : ev l x = elp v n) (hr : Ent L (SlR c v xs)) (hi : i < xs.length) (hn : n = i * c.sz + j)
    (hv : ((c.enc (xs.getD i c.d)).drop j).take m = vs) (hl : vs.length = m) : Yl e P o l L (.agg vs.toArray) := fun w s => by
  obtain ⟨A, k, rfl, hk, mm⟩ := hr.at s
  cases A with
  | none => simp only at mm; subst mm; simp at hi
  | some a =>
    have h1 : ∀ q u, vs[q]? = some u → w.cell? ((a.add n).add q) = some u := fun q u hq => by
      have hqm : q < m := by rw [← hl]; exact (List.getElem?_eq_some_iff.1 hq).1
      rw [← hv, List.getElem?_take, if_pos hqm, List.getElem?_drop] at hq
      have hj' : j + q < c.sz := by
        rcases Nat.lt_or_ge (j + q) c.sz with h | h
        · exact h
        · rw [List.getElem?_eq_none (by rw [c.len]; exact h)] at hq; cases hq
      rw [add_add]
      exact mm _ u (by rw [hn, Nat.add_assoc, encs_get xs hi hj']; exact hq)
    have h2 := run_loadCells_list (P := P) w (a.add n) _ h1
    rw [hl] at h2
    unfold execOp; rw [ho]
    simp [hx, elp, Instr.loadAt, Instr.sureAddr, loadVar, run_isAgg hs hT, run_sizeOf hz, h2]
/-- an element's address is not nil -/
theorem y_nilE {x : Operand} {v : Value} {n : Nat} {xs : List α} (ho : o.op = .nilCheck x) (hx : ev l x = elp v n) (hr : Ent L (SlR c v xs)) (hne : 0 < xs.length) : Yl e P o l L (elp v n) := fun w s => by
  obtain ⟨A, k, rfl, _, m⟩ := hr.at s
  cases A with
  | none => simp only at m; rw [m] at hne; simp at hne
  | some a => exact y_nilCheck (a := a.add n) ho hx w s
end
end Go.SL

namespace Go.SL
set_option linter.unusedVariables false
set_option linter.unusedSimpArgs false
/-- slices as elements -/
structure SlV where
  a : Option Addr
  n : Nat
  k : Nat
def SlV.val (x : SlV) : Value := .slice x.a x.n x.k
def SliT : Ty SlV := { sz := 1, enc := fun x => [.slice x.a x.n x.k], len := fun _ => rfl, pos := by decide, one := fun x u h => by simp at h; subst h; rfl, d := ⟨none, 0, 0⟩ }
def funB (P : Program) (T : TypeId) : Bool := match P.underlying T with
  | some (.func ..) => true
  | _ => false
section
variable {P : Program} {e : Env} {o : Oper} {l : List Value} {L : List Asn} {w : World}
theorem one_Sli {b : Nat} {x : SlV} {T : TypeId} : ∀ h, Blk b #[.slice x.a x.n x.k] T h → SlR SliT (.slice (some ⟨b, 0, none⟩) 1 1) [x] h := blk_reads rfl rfl
/-- a slice's value is a slice -/
theorem arr_val {α : Type} {c : Ty α} {T : TypeId} {v : Value} {xs : List α} (s : SL e w (Arr c T v xs :: L)) : ∃ x : SlV, v = x.val ∧ x.n = xs.length := by
  obtain ⟨h1, h2, _, _, _, ha, _⟩ := s.sat
  rcases ha with ⟨rfl, rfl⟩ | ⟨b, off, cap, cells, rfl, _⟩
  · exact ⟨⟨none, 0, 0⟩, rfl, rfl⟩
  · exact ⟨⟨_, _, _⟩, rfl, rfl⟩
theorem fun_und {T : TypeId} (h : funB P T = true) : ∃ a b c, P.underlying T = some (.func a b c) := by
  unfold funB at h
  cases hu : P.underlying T with
  | none => rw [hu] at h; cases h
  | some d => rw [hu] at h; cases d <;> first | (cases h; done) | exact ⟨_, _, _, rfl⟩
theorem y_feqN {T T' : TypeId} {x y : Operand} (ho : o.op = .binOp .eql T x y T') (hT : funB P T = true) (hx : ev l x = .nilFunc) (hy : ev l y = .nilFunc) : Yl e P o l L (.bool true) := by
  obtain ⟨a, b, c, hu⟩ := fun_und hT
  exact run_cmp .eql T x y T' ho hx hy (fun w => rfl) fun w => run_beq rfl fun d => by
    simp only [Op.equalIn, Sem.run_bind, run_und hu, Result.andThen_ok]; rfl
theorem y_feqF {T T' : TypeId} {x y : Operand} {f : Nat} {vs : List Value} (ho : o.op = .binOp .eql T x y T') (hT : funB P T = true) (hx : ev l x = fnV f vs) (hy : ev l y = .nilFunc) : Yl e P o l L (.bool false) := by
  obtain ⟨a, b, c, hu⟩ := fun_und hT
  exact run_cmp .eql T x y T' ho hx hy (fun w => rfl) fun w => run_beq rfl fun d => by
    simp only [Op.equalIn, Sem.run_bind, run_und hu, Result.andThen_ok, fnV]; rfl
/-- a part of what a call tells -/
theorem y_extr {x : Operand} {i : Nat} {vs : List Value} {v : Value} (ho : o.op = .extract x i) (hx : ev l x = .tuple vs.toArray) (hv : nth vs i = some v) : Yl e P o l L v :=
  y_extract ho hx (by simpa using nth_get _ _ _ hv)
/-! the last two bits -/
theorem bits_and3 (n : Int) : bits .and .i64 n 3 = n % 4 := by
  show IntKind.i64.wrap ((BitVec.ofInt 64 n &&& BitVec.ofInt 64 3).toNat : Int) = _
  have e : ((BitVec.ofInt 64 n &&& BitVec.ofInt 64 3).toNat : Int) = n % 4 := by
    rw [BitVec.toNat_and, show BitVec.ofInt 64 3 = BitVec.ofNat 64 3 from rfl, BitVec.toNat_ofNat, show 3 % 2 ^ 64 = 2 ^ 2 - 1 from rfl, Nat.and_two_pow_sub_one_eq_mod, BitVec.toNat_ofInt]
    show (((n % (2 ^ 64 : Nat)).toNat % 4 : Nat) : Int) = n % 4
    omega
  rw [e]; exact w64 (by omega) (by omega)
theorem y_and3 {T T' : TypeId} {x y : Operand} {n : Int} (ho : o.op = .binOp .and T x y T') (hx : ev l x = .int .i64 n) (hy : ev l y = .int .i64 3) : Yl e P o l L (.int .i64 (n % 4)) :=
  run_int _ _ _ _ _ _ _ _ ho hx hy fun w => by rw [binOp_and, intBits_and, bits_and3 n]; rfl
/-! halves -/
theorem y_shr1 {T T' : TypeId} {x y : Operand} {n : Nat} {k : IntKind} (ho : o.op = .binOp .shr T x y T') (hx : ev l x = .int .u64 (n : Int)) (hy : ev l y = .int k 1) : Yl e P o l L (.int .u64 ((n / 2 : Nat) : Int)) := fun w _ => by
  have e : Int.fdiv (n : Int) 2 = ((n / 2 : Nat) : Int) := by
    rw [Int.fdiv_eq_ediv_of_nonneg _ (by decide)]; rfl
  unfold execOp; rw [ho]
  simp [hx, hy, eqGuard, binOp, Op.shift, IntKind.bits, e]
end
end Go.SL

