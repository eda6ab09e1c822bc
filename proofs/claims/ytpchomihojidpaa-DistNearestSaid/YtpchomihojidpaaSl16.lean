import Derived.Test.YtpchomihojidpaaSl15
namespace Go.SL
set_option linter.unusedSimpArgs false
set_option linter.unusedVariables false

/-! words -/
section
variable {α : Type} {c : Ty α} {P : Program} {e : Env} {o : Oper} {l l' : List Value} {L L' L2 : List Asn} {ops : Array Oper} {rest : List Oper} {w : World} {Q : Exit → Act → World → Prop}
theorem wu64 {n : Int} (h0 : 0 ≤ n) (h1 : n < 18446744073709551616) : IntKind.u64.wrap n = n := by
  simp [IntKind.wrap, IntKind.bits, IntKind.signed]; omega
theorem ofInt_nat (n : Nat) : BitVec.ofInt 64 (n : Int) = BitVec.ofNat 64 n := by
  simp
theorem bits_mask (n : Nat) (h : n < 18446744073709551616) : bits .and .u64 (n : Int) 4294967295 = ((n % 4294967296 : Nat) : Int) := by
  show IntKind.u64.wrap ((BitVec.ofInt 64 (n : Int) &&& BitVec.ofInt 64 4294967295).toNat : Int) = _
  have e : (BitVec.ofInt 64 (n : Int) &&& BitVec.ofInt 64 4294967295).toNat = n % 4294967296 := by
    rw [BitVec.toNat_and, ofInt_nat, show BitVec.ofInt 64 4294967295 = BitVec.ofNat 64 4294967295 from rfl, BitVec.toNat_ofNat, BitVec.toNat_ofNat, Nat.mod_eq_of_lt h, show 4294967295 % 2 ^ 64 = 2 ^ 32 - 1 from rfl, Nat.and_two_pow_sub_one_eq_mod]
  rw [e]; exact wu64 (by omega) (by omega)
theorem not15 : ∀ i : Fin 64, (~~~(BitVec.ofNat 64 15)).getLsbD i.val = decide (4 ≤ i.val) := by decide
theorem bits_floor (n : Nat) (h : n < 9223372036854775808) : bits .andNot .i64 (n : Int) 15 = ((16 * (n / 16) : Nat) : Int) := by
  show IntKind.i64.wrap ((BitVec.ofInt 64 (n : Int) &&& ~~~(BitVec.ofInt 64 15)).toNat : Int) = _
  have e : BitVec.ofInt 64 (n : Int) &&& ~~~(BitVec.ofInt 64 15) = (BitVec.ofNat 64 n >>> 4) <<< 4 := by
    rw [ofInt_nat, show BitVec.ofInt 64 15 = BitVec.ofNat 64 15 from rfl]
    apply BitVec.eq_of_getLsbD_eq
    intro i hi
    rw [BitVec.getLsbD_and, not15 ⟨i, hi⟩, BitVec.getLsbD_shiftLeft]
    by_cases h4 : 4 ≤ i
    · simp [h4, hi, Nat.not_lt.2 h4, BitVec.getLsbD_ushiftRight, show 4 + (i - 4) = i by omega]
    · simp [h4, Nat.lt_of_not_le h4]
  rw [e, BitVec.toNat_shiftLeft, BitVec.toNat_ushiftRight, BitVec.toNat_ofNat, Nat.mod_eq_of_lt (by omega), Nat.shiftRight_eq_div_pow, Nat.shiftLeft_eq, Nat.mod_eq_of_lt (by omega)]
  rw [w64 (by omega) (by omega)]
  omega
theorem y_mask32 {T T' : TypeId} {x y : Operand} {n : Nat} (ho : o.op = .binOp .and T x y T') (hx : ev l x = .int .u64 (n : Int)) (hy : ev l y = .int .u64 4294967295) (h : n < 18446744073709551616) : Yl e P o l L (.int .u64 ((n % 4294967296 : Nat) : Int)) :=
  run_int _ _ _ _ _ _ _ _ ho hx hy fun w => by rw [binOp_and, intBits_and, bits_mask n h]; rfl
theorem y_floor {T T' : TypeId} {x y : Operand} {n : Nat} (ho : o.op = .binOp .andNot T x y T') (hx : ev l x = .int .i64 (n : Int)) (hy : ev l y = .int .i64 15) (h : n < 9223372036854775808) : Yl e P o l L (.int .i64 ((16 * (n / 16) : Nat) : Int)) :=
  run_int _ _ _ _ _ _ _ _ ho hx hy fun w => by rw [binOp_andNot, intBits_andNot, bits_floor n h]; rfl
theorem y_shr32 {T T' : TypeId} {x y : Operand} {n : Nat} (ho : o.op = .binOp .shr T x y T') (hx : ev l x = .int .u64 (n : Int)) (hy : ev l y = .int .u64 32) : Yl e P o l L (.int .u64 ((n / 4294967296 : Nat) : Int)) :=
  run_int _ _ _ _ _ _ _ _ ho hx hy fun w => by
    have e : Int.fdiv (n : Int) 4294967296 = ((n / 4294967296 : Nat) : Int) := by
      rw [Int.fdiv_eq_ediv_of_nonneg _ (by decide)]; rfl
    simp [binOp, Op.shift, IntKind.bits, e]
theorem y_umul {T T' : TypeId} {x y : Operand} {a b : Nat} (ho : o.op = .binOp .mul T x y T') (hx : ev l x = .int .u64 (a : Int)) (hy : ev l y = .int .u64 (b : Int)) (h1 : a * b < 18446744073709551616) : Yl e P o l L (.int .u64 ((a * b : Nat) : Int)) :=
  run_int _ _ _ _ _ _ _ _ ho hx hy fun w => by
    have h : IntKind.u64.wrap ((a : Int) * b) = ((a * b : Nat) : Int) := by rw [← Int.natCast_mul]; exact wu64 (by omega) (by omega)
    simp only [binOp, Op.intArith, h]; rfl
theorem y_uadd {T T' : TypeId} {x y : Operand} {a b : Nat} (ho : o.op = .binOp .add T x y T') (hx : ev l x = .int .u64 (a : Int)) (hy : ev l y = .int .u64 (b : Int)) (h1 : a + b < 18446744073709551616) : Yl e P o l L (.int .u64 ((a + b : Nat) : Int)) :=
  run_int _ _ _ _ _ _ _ _ ho hx hy fun w => by
    have h : IntKind.u64.wrap ((a : Int) + b) = ((a + b : Nat) : Int) := by rw [← Int.natCast_add]; exact wu64 (by omega) (by omega)
    simp only [binOp, Op.intArith, h]; rfl
theorem y_convU {S D : TypeId} {x : Operand} {ks : IntKind} {n : Nat} (ho : o.op = .convert S D x) (hS : kindB P S = some ks) (hD : kindB P D = some .u64) (hx : ev l x = .int ks (n : Int)) (h1 : n < 18446744073709551616) : Yl e P o l L (.int .u64 (n : Int)) := by
  have := y_conv (P := P) (e := e) (L := L) ho hS hD hx
  rwa [wu64 (by omega) (by omega)] at this

/-! parts of slices -/
/-- v[a:b] -/
def slV (sz : Nat) (v : Value) (a b : Nat) : Value := match v with
  | .slice A n k => .slice (if k = a then A else A.map (·.add (a * sz))) (b - a) (k - a)
  | _ => undef
theorem slV_all {v : Value} {xs : List α} {h : Hp} (hr : SlR c v xs h) : slV c.sz v 0 xs.length = v := by
  obtain ⟨A, k, rfl, hk, m⟩ := hr
  have e2 : A.map (·.add (0 * c.sz)) = A := by cases A <;> simp [Addr.add]
  simp only [slV, e2, Nat.sub_zero, ite_self]
theorem encs_part (xs : List α) (a n : Nat) : encs c ((xs.drop a).take n) = ((encs c xs).drop (a * c.sz)).take (n * c.sz) := by
  rw [encs_take, encs_drop]
theorem slR_part {v : Value} {xs : List α} {a b : Nat} {h : Hp} (hab : a ≤ b) (hb : b ≤ xs.length) (hr : SlR c v xs h) : SlR c (slV c.sz v a b) ((xs.drop a).take (b - a)) h := by
  obtain ⟨A, k, rfl, hk, m⟩ := hr
  have hl : ((xs.drop a).take (b - a)).length = b - a := by simp; omega
  refine ⟨if k = a then A else A.map (·.add (a * c.sz)), k - a, by rw [hl]; rfl, by omega, ?_⟩
  cases A with
  | none =>
    simp only at m; subst m
    simp
  | some p =>
    by_cases hka : k = a
    · rw [if_pos hka]
      have : (xs.drop a).take (b - a) = [] := List.eq_nil_of_length_eq_zero (by rw [hl]; omega)
      rw [this]; intro j u hj; cases hj
    · rw [if_neg hka]
      intro j u hj
      show h.cell ((p.add (a * c.sz)).add j) = some u
      rw [add_add]
      rw [encs_part, List.getElem?_take] at hj
      split at hj
      · rw [List.getElem?_drop] at hj; exact m _ _ hj
      · cases hj
theorem run_sliceBound {v : Value} {kk : IntKind} {i y : Nat} {code : BoundsCode} (hv : v = .int kk (i : Int)) (h : i ≤ y) (w : World) : (Instr.sliceBound v y code).run P w = .ok i w := by
  subst hv
  simp only [Instr.sliceBound, asIntOf, Sem.run_bind, Sem.run_pure, Result.andThen_ok]
  rw [if_pos ⟨by omega, by omega⟩]
  simp
theorem y_slLo {T E : TypeId} {x y : Operand} {v : Value} {kk : IntKind} {i : Int} {xs : List α} {a : Nat} (ho : o.op = .slice T x (some y) none none) (hT : elemB P T = some E) (hz : sizeB P E = some c.sz) (hx : ev l x = v) (hy : ev l y = .int kk i) (hr : Ent L (SlR c v xs)) (hi : i = (a : Int)) (ha : a ≤ xs.length) : Yl e P o l L (slV c.sz v a xs.length) := fun w s => by
  subst hi
  obtain ⟨A, k, rfl, hk, m⟩ := hr.at s
  unfold execOp; rw [ho]
  simp [Instr.sliceAt, Instr.slice, Instr.sliceBounds, hx, hy, run_und (elemB_und hT), run_sliceBound (v := .int kk (a : Int)) rfl ha, run_sizeOf hz, slV]
theorem y_slHi {T E : TypeId} {x y : Operand} {v : Value} {kk : IntKind} {i : Int} {xs : List α} {b : Nat} (ho : o.op = .slice T x none (some y) none) (hT : elemB P T = some E) (hz : sizeB P E = some c.sz) (hx : ev l x = v) (hy : ev l y = .int kk i) (hr : Ent L (SlR c v xs)) (hi : i = (b : Int)) (hb : b ≤ xs.length) : Yl e P o l L (slV c.sz v 0 b) := fun w s => by
  subst hi
  obtain ⟨A, k, rfl, hk, m⟩ := hr.at s
  unfold execOp; rw [ho]
  simp [Instr.sliceAt, Instr.slice, Instr.sliceBounds, hx, hy, run_und (elemB_und hT), run_sliceBound (v := .int kk (b : Int)) rfl (Nat.le_trans hb hk), run_sizeOf hz, slV]
theorem y_slLH {T E : TypeId} {x y z : Operand} {v : Value} {kk kk' : IntKind} {i j : Int} {xs : List α} {a b : Nat} (ho : o.op = .slice T x (some y) (some z) none) (hT : elemB P T = some E) (hz : sizeB P E = some c.sz) (hx : ev l x = v) (hy : ev l y = .int kk i) (hy' : ev l z = .int kk' j) (hr : Ent L (SlR c v xs)) (hi : i = (a : Int)) (hj : j = (b : Int)) (hab : a ≤ b) (hb : b ≤ xs.length) : Yl e P o l L (slV c.sz v a b) := fun w s => by
  subst hi; subst hj
  obtain ⟨A, k, rfl, hk, m⟩ := hr.at s
  unfold execOp; rw [ho]
  simp [Instr.sliceAt, Instr.slice, Instr.sliceBounds, hx, hy, hy', run_und (elemB_und hT), run_sliceBound (v := .int kk' (b : Int)) rfl (Nat.le_trans hb hk), run_sliceBound (v := .int kk (a : Int)) rfl hab, run_sizeOf hz, slV]
/-- a part's cell is the whole's -/
theorem elp_slV {v : Value} {xs : List α} {a b n : Nat} {h : Hp} (hr : SlR c v xs h) (hn : a + n < b) (hb : b ≤ xs.length) : elp (slV c.sz v a b) (n * c.sz) = elp v ((a + n) * c.sz) := by
  obtain ⟨A, k, rfl, hk, m⟩ := hr
  cases A with
  | none => simp only at m; subst m; simp at hb; omega
  | some p =>
    have : k ≠ a := by omega
    simp only [slV, if_neg this, Option.map_some, elp, add_add, Nat.add_mul]

/-! copy -/
theorem run_copy {T E : TypeId} {ty : TypeId} {v d y : Value} {xs ys : List α} {a b n : Nat} (s : SL e w (Arr c E v xs :: L)) (hT : elemB P T = some E) (hz : sizeB P E = some c.sz) (hd : d = slV c.sz v a b) (hab : a ≤ b) (hb : b ≤ xs.length) (hr : SlR c y ys (hpOf w)) (hn : n = min ys.length (b - a)) :
    ∃ w', (Builtin.copy_ #[T, T] ty #[d, y]).run P w = .ok (.int .i64 (n : Nat)) w' ∧ SL e w' (Arr c E v (xs.take a ++ ys.take n ++ xs.drop (a + n)) :: L) := by
  have ht := elemB_und hT
  have hlt : (ys.take n).length = n := by rw [List.length_take]; omega
  obtain ⟨A, ky, rfl, hky, m⟩ := hr
  obtain ⟨h1, h2, dj, l1, l2, ha, s'⟩ := s.sat
  have hfc : (Builtin.firstCells c.sz n (.slice A ys.length ky)).run P w = .ok (encs c (ys.take n)).toArray w := by
    cases A with
    | none => simp only at m; subst m; simp [Builtin.firstCells, encs_nil]
    | some p =>
      simp only at m
      refine run_firstCells_some w c.sz n p _ _ _ (by rw [encs_length, hlt]) fun j u hj => ?_
      rw [encs_take, List.getElem?_take] at hj
      split at hj
      · exact m j u hj
      · cases hj
  have hmin : ∀ dl : Nat, dl = b - a → Nat.min ys.length dl = n := fun dl h => by rw [h, hn]
  rcases ha with ⟨rfl, rfl⟩ | ⟨bk, off, cap, cells, rfl, hc, hbk, hs, hu⟩
  · simp only [List.length_nil, Nat.le_zero] at hb
    obtain rfl : b = 0 := hb
    obtain rfl : a = 0 := by omega
    obtain rfl : n = 0 := by simp at hn; exact hn
    refine ⟨w, ?_, by simpa using s⟩
    subst hd
    simp [Builtin.copy_, slV, run_und ht, Builtin.lenOf, run_sizeOf hz, goInt] at hfc ⊢
    simp [hfc]
  · have hbw : w.heap[bk]? = some (.cells cells E (0, 0)) := l1 _ _ hbk
    by_cases hn0 : n = 0
    · subst hn0
      refine ⟨w, ?_, by simpa using s⟩
      subst hd
      simp only [List.take_zero, encs_nil] at hfc
      simp [Builtin.copy_, slV, run_und ht, Builtin.lenOf, run_sizeOf hz, goInt, hmin _ rfl, hfc]
      split <;> simp [storeCells]
    · have hka : cap ≠ a := by omega
      have hcap : (a + n) * c.sz ≤ cap * c.sz := Nat.mul_le_mul_right _ (by omega)
      rw [Nat.add_mul] at hcap
      have hel : (encs c (ys.take n)).length = n * c.sz := by rw [encs_length, hlt]
      have hst := run_storeCells_at P bk (off + a * c.sz) E (encs c (ys.take n)) 0 cells w hbw (by rw [hel]; omega) (encs_one _)
      simp only [Nat.add_zero] at hst
      refine ⟨w.setRow bk (cells.toList.take (off + a * c.sz) ++ encs c (ys.take n) ++ cells.toList.drop (off + a * c.sz + (encs c (ys.take n)).length)).toArray, ?_, ?_⟩
      · subst hd
        simp [Builtin.copy_, slV, hka, run_und ht, Builtin.lenOf, run_sizeOf hz, goInt, hmin _ rfl, hfc, add_plain, hst]
      · refine s.setRow hbw fun h hh => ?_
        rcases hh with ⟨hv, _⟩ | ⟨b', off', cap', cells2, hv, hc', hbk', hs', hu'⟩
        · cases hv
        · simp only [Value.slice.injEq, Option.some.injEq, Addr.mk.injEq] at hv
          obtain ⟨⟨rfl, rfl, _⟩, _, rfl⟩ := hv
          refine ⟨by rw [hbk']; rfl, fun hbk2 => ?_⟩
          rw [hbk'] at hbk2
          simp only [Option.some.injEq, Obj.cells.injEq, and_true] at hbk2
          subst hbk2
          have hlen : (xs.take a ++ ys.take n ++ xs.drop (a + n)).length = xs.length := by simp; omega
          refine .inr ⟨bk, off, cap, _, by rw [hlen], by rw [hlen]; exact hc, by simp [Hp.upd]; rfl, ?_, fun j u hj => ?_⟩
          · simp only [List.size_toArray, List.length_append, List.length_take, List.length_drop, Array.length_toList, hel]
            omega
          · rw [encs_append, encs_append, encs_take, encs_drop] at hj
            have hex : (encs c xs).length = xs.length * c.sz := encs_length xs
            have hxc : (a + n) * c.sz ≤ xs.length * c.sz := Nat.mul_le_mul_right _ (by omega)
            rw [Nat.add_mul] at hxc
            have hta : ((encs c xs).take (a * c.sz)).length = a * c.sz := by rw [List.length_take]; omega
            have htc : (cells2.toList.take (off + a * c.sz)).length = off + a * c.sz := by simp; omega
            simp only [List.getElem?_toArray]
            rw [← List.append_assoc]
            by_cases hj1 : j < a * c.sz
            · rw [List.append_assoc, List.getElem?_append_left (by rw [hta]; exact hj1), List.getElem?_take, if_pos hj1] at hj
              rw [List.append_assoc, List.getElem?_append_left (by rw [htc]; omega), List.getElem?_take, if_pos (by omega)]
              have := hu j u hj
              simpa using this
            · by_cases hj2 : j < a * c.sz + n * c.sz
              · rw [List.getElem?_append_left (by rw [List.length_append, hta, hel]; exact hj2), List.getElem?_append_right (by rw [hta]; omega), hta] at hj
                rw [List.getElem?_append_left (by rw [List.length_append, htc, hel]; omega), List.getElem?_append_right (by rw [htc]; omega), htc, show off + j - (off + a * c.sz) = j - a * c.sz by omega]
                exact hj
              · rw [List.getElem?_append_right (by rw [List.length_append, hta, hel]; omega), List.length_append, hta, hel, List.getElem?_drop] at hj
                rw [List.getElem?_append_right (by rw [List.length_append, htc, hel]; omega), List.length_append, htc, hel, List.getElem?_drop]
                have := hu ((a + n) * c.sz + (j - (a * c.sz + n * c.sz))) u hj
                rw [Nat.add_mul] at this
                rw [Array.getElem?_toList, show off + a * c.sz + n * c.sz + (off + j - (off + a * c.sz + n * c.sz)) = off + (a * c.sz + n * c.sz + (j - (a * c.sz + n * c.sz))) by omega]
                exact this
theorem l_copy {T E : TypeId} {dd : Nat} {x y : Operand} {v vd vy : Value} {xs ys : List α} {a b n : Nat} (s : SL e w L) (t : Take L (Arr c E v xs) L') (ho : o.op = .call { callee := .builtin .copy, args := #[x, y], argTypes := #[T, T] }) (hg : o.guard = none) (hd : o.dst = some dd)
    (hT : elemB P T = some E) (hz : sizeB P E = some c.sz) (hx : ev l x = vd) (hdv : vd = slV c.sz v a b) (hab : a ≤ b) (hb : b ≤ xs.length) (hy : ev l y = vy) (hr : Ent L (SlR c vy ys)) (hn : n = min ys.length (b - a))
    (k : ∀ w', SL e w' (Arr c E v (xs.take a ++ ys.take n ++ xs.drop (a + n)) :: L') → wpList P ops Q rest (fr (l.set dd (.int .i64 (n : Nat)))) w') : wpList P ops Q (o :: rest) (fr l) w := by
  obtain ⟨w', h1, h2⟩ := run_copy (P := P) (ty := o.type) (s.take t) hT hz hdv hab hb (hr.at s) hn
  refine l_do (w' := w') (v := .int .i64 (n : Nat)) hg hd ?_ (k _ h2)
  unfold execOp; rw [ho]
  simp only [resolve, invoke, builtin, Sem.run_bind, Sem.run_pure, Result.andThen_ok, List.map_toArray, List.map_cons, List.map_nil, hx, hy, h1]
end
end Go.SL
