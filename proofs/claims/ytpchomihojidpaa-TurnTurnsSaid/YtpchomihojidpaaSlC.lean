/- The library of this claim: what memory holds, part by part, and the steps of a walk. Part C. -/
import Derived.Test.YtpchomihojidpaaSlB
import Derived.SizedLaws
import Derived.ChangeSlices
import Derived.WideShapes
import Derived.Laws.StructEq
namespace Go.SL
set_option linter.unusedVariables false
theorem Take.putSat {L L' : List Asn} {A : Asn} (t : Take L A L') : ∀ {h : Hp}, Sat (A :: L') h → Sat L h := by
  induction t with
  | here => exact fun s => s
  | there B t ih => intro h s; exact Sat.tail (fun _ => ih) s.swap
theorem SL.put {e : Env} {w : World} {L L' : List Asn} {A : Asn} (t : Take L A L') (s : SL e w (A :: L')) : SL e w L := ⟨s.env, t.putSat s.sat⟩
theorem Take.app {L L' : List Asn} {A : Asn} (t : Take L A L') (M : List Asn) : Take (M ++ L) A (M ++ L') := by
  induction M with
  | nil => exact t
  | cons B M ih => exact Take.there B ih
/-- a list of assertions as one -/
def Box (L : List Asn) : Asn := fun h => Sat L h
theorem Sat.app {L1 L2 : List Asn} : ∀ {h : Hp}, Sat (L1 ++ L2) h → Sat (Box L1 :: L2) h := by
  induction L1 with
  | nil => intro h s; exact ⟨(fun _ => none), h, (fun _ => .inl rfl), (fun _ _ (e : (none : Option Obj) = some _) => nomatch e), Hp.le.refl _, trivial, s⟩
  | cons A L1 ih =>
    intro h s
    obtain ⟨h1, h2, d, l1, l2, a, s⟩ := s
    obtain ⟨h3, h4, d2, l3, l4, b, s⟩ := ih s
    refine ⟨h1.join h3, h4, Hp.join_dis (d.mono (.refl _) l4) d2, Hp.join_le l1 (l3.trans l2), l4.trans l2, ?_, s⟩
    exact ⟨h1, h3, d.mono (.refl _) l3, Hp.le_join_left _ _, Hp.le_join_right (d.mono (.refl _) l3), a, b⟩
theorem Sat.unapp {L1 L2 : List Asn} : ∀ {h : Hp}, Sat (Box L1 :: L2) h → Sat (L1 ++ L2) h := by
  induction L1 with
  | nil => intro h s; exact s.drop
  | cons A L1 ih =>
    intro h s
    obtain ⟨h1, h2, d, l1, l2, ⟨h3, h4, d2, l3, l4, a, b⟩, s⟩ := s
    refine ⟨h3, h4.join h2, ?_, l3.trans l1, Hp.join_le (l4.trans l1) l2, a, ih ?_⟩
    · exact (Hp.join_dis d2.symm (d.mono l3 (.refl _)).symm).symm
    · exact ⟨h4, h2, d.mono l4 (.refl _), Hp.le_join_left _ _, Hp.le_join_right (d.mono l4 (.refl _)), b, s⟩
theorem SL.box {e : Env} {w : World} {L1 L2 : List Asn} (s : SL e w (L1 ++ L2)) : SL e w (Box L1 :: L2) := ⟨s.env, s.sat.app⟩
theorem SL.unbox {e : Env} {w : World} {L1 L2 : List Asn} (s : SL e w (Box L1 :: L2)) : SL e w (L1 ++ L2) := ⟨s.env, s.sat.unapp⟩
/-- what the head says, taken out -/
theorem SL.ex {α : Type} {e : Env} {w : World} {A : α → Asn} {L : List Asn} (s : SL e w ((fun h => ∃ x, A x h) :: L)) : ∃ x, SL e w (A x :: L) := by
  obtain ⟨h1, h2, d, l1, l2, ⟨x, a⟩, s'⟩ := s.sat
  exact ⟨x, s.env, h1, h2, d, l1, l2, a, s'⟩
theorem SL.head {e : Env} {w : World} {A : Asn} {L : List Asn} (s : SL e w (A :: L)) : ∃ h1 h2, Hp.dis h1 h2 ∧ Hp.le h1 (hpOf w) ∧ Hp.le h2 (hpOf w) ∧ A h1 ∧ Sat L h2 := s.sat
theorem Take.of_mem {B : Asn} {Ls : List Asn} : ∀ {k : Nat}, Ls[k]? = some B → ∀ L, Take (Ls ++ L) B (Ls.eraseIdx k ++ L) := by
  induction Ls with
  | nil => intro k h; simp at h
  | cons A Ls ih =>
    intro k h L
    cases k with
    | zero => simp at h; subst h; exact Take.here _ _
    | succ k => exact Take.there _ (ih (by simpa using h) L)
theorem Take.of_set {A B : Asn} {Ls : List Asn} : ∀ {k : Nat}, Ls[k]? = some B → ∀ L, Take (Ls.set k A ++ L) A (Ls.eraseIdx k ++ L) := by
  induction Ls with
  | nil => intro k h; simp at h
  | cons C Ls ih =>
    intro k h L
    cases k with
    | zero => exact Take.here _ _
    | succ k => exact Take.there _ (ih (by simpa using h) L)
theorem getD_mem {α : Type} {xs : List α} {i : Nat} {d : α} (h : i < xs.length) : xs.getD i d ∈ xs := by
  rw [List.getD_eq_getElem?_getD, List.getElem?_eq_getElem h]; exact List.getElem_mem h
theorem ent_cell_of {b : Nat} {cells : Array Value} {T : TypeId} {i : Nat} {v : Value} {L : List Asn} (h : Ent L (fun h => Blk b cells T h)) (hv : nth cells.toList i = some v) : Ent L (CellIs ⟨b, i, none⟩ v) :=
  fun hp s => blk_cell (by have := nth_get _ _ _ hv; simpa using this) hp (h hp s)
end Go.SL

namespace Go.SL
set_option linter.unusedVariables false
section
variable {P : Program} {e : Env} {o : Oper} {l l' : List Value} {L M : List Asn} {os rest : List Oper} {w : World} {Q : Exit → Act → World → Prop} {K : Act → List Asn → Prop} {xs : List (Oper × VS)}
def nthO : List Oper → Nat → Option Oper
  | [], _ => none
  | o :: _, 0 => some o
  | _ :: l, n + 1 => nthO l n
theorem nthO_get : ∀ (l : List Oper) (t : Nat) (v : Oper), nthO l t = some v → l[t]? = some v := by
  intro l; induction l with
  | nil => intro t v h; cases h
  | cons x l ih => intro t v h; cases t with
    | zero => simpa [nthO] using h
    | succ t => simpa using ih t v h
/-- whether a guarded operation is carried out -/
theorem wanted_of {j d : Nat} {want b r : Bool} {oj : Oper} (hg : o.guard = some (j, want)) (hj : nthO os j = some oj) (hd : oj.dst = some d) (hv : nth l d = some (.bool b)) (hr : (b == want) = r) : Region.wanted o (yielded os.toArray (fr l).tmps) = r := by
  have h1 := nthO_get _ _ _ hj
  have h2 := nth_get _ _ _ hv
  have h3 : yielded os.toArray (fr l).tmps j = some b := by
    simp [yielded, h1, hd, fr, h2]
  rw [Region.wanted, hg]
  simp only [h3]
  rw [← hr]
  cases b <;> cases want <;> rfl
end
/-- A is one of the list's -/
def Has (L : List Asn) (A : Asn) : Prop := ∃ L', Take L A L'
theorem Has.here (A : Asn) (L : List Asn) : Has (A :: L) A := ⟨L, Take.here A L⟩
theorem Has.there {A : Asn} {L : List Asn} (B : Asn) (h : Has L A) : Has (B :: L) A := let ⟨L', t⟩ := h; ⟨B :: L', Take.there B t⟩
theorem Has.app {A : Asn} {L : List Asn} (h : Has L A) (M : List Asn) : Has (M ++ L) A := let ⟨L', t⟩ := h; ⟨M ++ L', t.app M⟩
theorem Has.of {A : Asn} {L L' : List Asn} (t : Take L A L') : Has L A := ⟨L', t⟩
end Go.SL

namespace Go.SL
set_option linter.unusedVariables false
set_option linter.unusedSimpArgs false
set_option linter.unusedVariables false

/-! words -/
section
variable {α : Type} {c : Ty α} {P : Program} {e : Env} {o : Oper} {l l' : List Value} {L L' L2 : List Asn} {ops : Array Oper} {rest : List Oper} {w : World} {Q : Exit → Act → World → Prop}
theorem wu64 {n : Int} (h0 : 0 ≤ n) (h1 : n < 18446744073709551616) : IntKind.u64.wrap n = n := by
  simp [IntKind.wrap, IntKind.bits, IntKind.signed]; omega
theorem ofInt_nat (n : Nat) : BitVec.ofInt 64 (n : Int) = BitVec.ofNat 64 n := by
  simp
theorem bits_mask (n : Nat) (h : n < 18446744073709551616) : bits .and .u64 (n : Int) 4294967295 = ((n % 4294967296 : Nat) : Int) := by
  show IntKind.u64.wrap ((BitVec.ofInt 64 (n : Int) &&& BitVec.ofInt 64 4294967295).toNat : Int) = _
  have e : (BitVec.ofInt 64 (n : Int) &&& BitVec.ofInt 64 4294967295).toNat = n % 4294967296 := by
    rw [BitVec.toNat_and, ofInt_nat, show BitVec.ofInt 64 4294967295 = BitVec.ofNat 64 4294967295 from rfl, BitVec.toNat_ofNat, BitVec.toNat_ofNat, Nat.mod_eq_of_lt h, show 4294967295 % 2 ^ 64 = 2 ^ 32 - 1 from rfl, Nat.and_two_pow_sub_one_eq_mod]
  rw [e]; exact wu64 (by omega) (by omega)
theorem not15 : ∀ i : Fin 64, (~~~(BitVec.ofNat 64 15)).getLsbD i.val = decide (4 ≤ i.val) := by decide
theorem bits_floor (n : Nat) (h : n < 9223372036854775808) : bits .andNot .i64 (n : Int) 15 = ((16 * (n / 16) : Nat) : Int) := by
  show IntKind.i64.wrap ((BitVec.ofInt 64 (n : Int) &&& ~~~(BitVec.ofInt 64 15)).toNat : Int) = _
  have e : BitVec.ofInt 64 (n : Int) &&& ~~~(BitVec.ofInt 64 15) = (BitVec.ofNat 64 n >>> 4) <<< 4 := by
    rw [ofInt_nat, show BitVec.ofInt 64 15 = BitVec.ofNat 64 15 from rfl]
    apply BitVec.eq_of_getLsbD_eq
    intro i hi
    rw [BitVec.getLsbD_and, not15 ⟨i, hi⟩, BitVec.getLsbD_shiftLeft]
    by_cases h4 : 4 ≤ i
    · simp [h4, hi, Nat.not_lt.2 h4, BitVec.getLsbD_ushiftRight, show 4 + (i - 4) = i by omega]
    · simp [h4, Nat.lt_of_not_le h4]
  rw [e, BitVec.toNat_shiftLeft, BitVec.toNat_ushiftRight, BitVec.toNat_ofNat, Nat.mod_eq_of_lt (by omega), Nat.shiftRight_eq_div_pow, Nat.shiftLeft_eq, Nat.mod_eq_of_lt (by omega)]
  rw [w64 (by omega) (by omega)]
  omega
theorem y_mask32 {T T' : TypeId} {x y : Operand} {n : Nat} (ho : o.op = .binOp .and T x y T') (hx : ev l x = .int .u64 (n : Int)) (hy : ev l y = .int .u64 4294967295) (h : n < 18446744073709551616) : Yl e P o l L (.int .u64 ((n % 4294967296 : Nat) : Int)) :=
  run_int _ _ _ _ _ _ _ _ ho hx hy fun w => by rw [binOp_and, intBits_and, bits_mask n h]; rfl
theorem y_floor {T T' : TypeId} {x y : Operand} {n : Nat} (ho : o.op = .binOp .andNot T x y T') (hx : ev l x = .int .i64 (n : Int)) (hy : ev l y = .int .i64 15) (h : n < 9223372036854775808) : Yl e P o l L (.int .i64 ((16 * (n / 16) : Nat) : Int)) :=
  run_int _ _ _ _ _ _ _ _ ho hx hy fun w => by rw [binOp_andNot, intBits_andNot, bits_floor n h]; rfl
theorem y_shr32 {T T' : TypeId} {x y : Operand} {n : Nat} (ho : o.op = .binOp .shr T x y T') (hx : ev l x = .int .u64 (n : Int)) (hy : ev l y = .int .u64 32) : Yl e P o l L (.int .u64 ((n / 4294967296 : Nat) : Int)) :=
  run_int _ _ _ _ _ _ _ _ ho hx hy fun w => by
    have e : Int.fdiv (n : Int) 4294967296 = ((n / 4294967296 : Nat) : Int) := by
      rw [Int.fdiv_eq_ediv_of_nonneg _ (by decide)]; rfl
    simp [binOp, Op.shift, IntKind.bits, e]
theorem y_umul {T T' : TypeId} {x y : Operand} {a b : Nat} (ho : o.op = .binOp .mul T x y T') (hx : ev l x = .int .u64 (a : Int)) (hy : ev l y = .int .u64 (b : Int)) (h1 : a * b < 18446744073709551616) : Yl e P o l L (.int .u64 ((a * b : Nat) : Int)) :=
  run_int _ _ _ _ _ _ _ _ ho hx hy fun w => by
    have h : IntKind.u64.wrap ((a : Int) * b) = ((a * b : Nat) : Int) := by rw [← Int.natCast_mul]; exact wu64 (by omega) (by omega)
    simp only [binOp, Op.intArith, h]; rfl
theorem y_uadd {T T' : TypeId} {x y : Operand} {a b : Nat} (ho : o.op = .binOp .add T x y T') (hx : ev l x = .int .u64 (a : Int)) (hy : ev l y = .int .u64 (b : Int)) (h1 : a + b < 18446744073709551616) : Yl e P o l L (.int .u64 ((a + b : Nat) : Int)) :=
  run_int _ _ _ _ _ _ _ _ ho hx hy fun w => by
    have h : IntKind.u64.wrap ((a : Int) + b) = ((a + b : Nat) : Int) := by rw [← Int.natCast_add]; exact wu64 (by omega) (by omega)
    simp only [binOp, Op.intArith, h]; rfl
theorem y_convU {S D : TypeId} {x : Operand} {ks : IntKind} {n : Nat} (ho : o.op = .convert S D x) (hS : kindB P S = some ks) (hD : kindB P D = some .u64) (hx : ev l x = .int ks (n : Int)) (h1 : n < 18446744073709551616) : Yl e P o l L (.int .u64 (n : Int)) := by
  have := y_conv (P := P) (e := e) (L := L) ho hS hD hx
  rwa [wu64 (by omega) (by omega)] at this

/-! parts of slices -/
/-- v[a:b] -/
def slV (sz : Nat) (v : Value) (a b : Nat) : Value := match v with
  | .slice A n k => .slice (if k = a then A else A.map (·.add (a * sz))) (b - a) (k - a)
  | _ => undef
theorem slV_all {v : Value} {xs : List α} {h : Hp} (hr : SlR c v xs h) : slV c.sz v 0 xs.length = v := by
  obtain ⟨A, k, rfl, hk, m⟩ := hr
  have e2 : A.map (·.add (0 * c.sz)) = A := by cases A <;> simp [Addr.add]
  simp only [slV, e2, Nat.sub_zero, ite_self]
theorem encs_part (xs : List α) (a n : Nat) : encs c ((xs.drop a).take n) = ((encs c xs).drop (a * c.sz)).take (n * c.sz) := by
  rw [encs_take, encs_drop]
theorem slR_part {v : Value} {xs : List α} {a b : Nat} {h : Hp} (hab : a ≤ b) (hb : b ≤ xs.length) (hr : SlR c v xs h) : SlR c (slV c.sz v a b) ((xs.drop a).take (b - a)) h := by
  obtain ⟨A, k, rfl, hk, m⟩ := hr
  have hl : ((xs.drop a).take (b - a)).length = b - a := by simp; omega
  refine ⟨if k = a then A else A.map (·.add (a * c.sz)), k - a, by rw [hl]; rfl, by omega, ?_⟩
  cases A with
  | none =>
    simp only at m; subst m
    simp
  | some p =>
    by_cases hka : k = a
    · rw [if_pos hka]
      have : (xs.drop a).take (b - a) = [] := List.eq_nil_of_length_eq_zero (by rw [hl]; omega)
      rw [this]; intro j u hj; cases hj
    · rw [if_neg hka]
      intro j u hj
      show h.cell ((p.add (a * c.sz)).add j) = some u
      rw [add_add]
      rw [encs_part, List.getElem?_take] at hj
      split at hj
      · rw [List.getElem?_drop] at hj; exact m _ _ hj
      · cases hj
theorem run_sliceBound {v : Value} {kk : IntKind} {i y : Nat} {code : BoundsCode} (hv : v = .int kk (i : Int)) (h : i ≤ y) (w : World) : (Instr.sliceBound v y code).run P w = .ok i w := by
  subst hv
  simp only [Instr.sliceBound, asIntOf, Sem.run_bind, Sem.run_pure, Result.andThen_ok]
  rw [if_pos ⟨by omega, by omega⟩]
  simp
theorem y_slLo {T E : TypeId} {x y : Operand} {v : Value} {kk : IntKind} {i : Int} {xs : List α} {a : Nat} (ho : o.op = .slice T x (some y) none none) (hT : elemB P T = some E) (hz : sizeB P E = some c.sz) (hx : ev l x = v) (hy : ev l y = .int kk i) (hr : Ent L (SlR c v xs)) (hi : i = (a : Int)) (ha : a ≤ xs.length) : Yl e P o l L (slV c.sz v a xs.length) := fun w s => by
  subst hi
  obtain ⟨A, k, rfl, hk, m⟩ := hr.at s
  unfold execOp; rw [ho]
  simp [Instr.sliceAt, Instr.slice, Instr.sliceBounds, hx, hy, run_und (elemB_und hT), run_sliceBound (v := .int kk (a : Int)) rfl ha, run_sizeOf hz, slV]
theorem y_slHi {T E : TypeId} {x y : Operand} {v : Value} {kk : IntKind} {i : Int} {xs : List α} {b : Nat} (ho : o.op = .slice T x none (some y) none) (hT : elemB P T = some E) (hz : sizeB P E = some c.sz) (hx : ev l x = v) (hy : ev l y = .int kk i) (hr : Ent L (SlR c v xs)) (hi : i = (b : Int)) (hb : b ≤ xs.length) : Yl e P o l L (slV c.sz v 0 b) := fun w s => by
  subst hi
  obtain ⟨A, k, rfl, hk, m⟩ := hr.at s
  unfold execOp; rw [ho]
  simp [Instr.sliceAt, Instr.slice, Instr.sliceBounds, hx, hy, run_und (elemB_und hT), run_sliceBound (v := .int kk (b : Int)) rfl (Nat.le_trans hb hk), run_sizeOf hz, slV]
theorem y_slLH {T E : TypeId} {x y z : Operand} {v : Value} {kk kk' : IntKind} {i j : Int} {xs : List α} {a b : Nat} (ho : o.op = .slice T x (some y) (some z) none) (hT : elemB P T = some E) (hz : sizeB P E = some c.sz) (hx : ev l x = v) (hy : ev l y = .int kk i) (hy' : ev l z = .int kk' j) (hr : Ent L (SlR c v xs)) (hi : i = (a : Int)) (hj : j = (b : Int)) (hab : a ≤ b) (hb : b ≤ xs.length) : Yl e P o l L (slV c.sz v a b) := fun w s => by
  subst hi; subst hj
  obtain ⟨A, k, rfl, hk, m⟩ := hr.at s
  unfold execOp; rw [ho]
  simp [Instr.sliceAt, Instr.slice, Instr.sliceBounds, hx, hy, hy', run_und (elemB_und hT), run_sliceBound (v := .int kk' (b : Int)) rfl (Nat.le_trans hb hk), run_sliceBound (v := .int kk (a : Int)) rfl hab, run_sizeOf hz, slV]
/-- a part's cell is the whole's -/
theorem elp_slV {v : Value} {xs : List α} {a b n : Nat} {h : Hp} (hr : SlR c v xs h) (hn : a + n < b) (hb : b ≤ xs.length) : elp (slV c.sz v a b) (n * c.sz) = elp v ((a + n) * c.sz) := by
  obtain ⟨A, k, rfl, hk, m⟩ := hr
  cases A with
  | none => simp only at m; subst m; simp at hb; omega
  | some p =>
    have : k ≠ a := by omega
    simp only [slV, if_neg this, Option.map_some, elp, add_add, Nat.add_mul]

/-! copy -/
theorem run_copy {T E : TypeId} {ty : TypeId} {v d y : Value} {xs ys : List α} {a b n : Nat} (s : SL e w (Arr c E v xs :: L)) (hT : elemB P T = some E) (hz : sizeB P E = some c.sz) (hd : d = slV c.sz v a b) (hab : a ≤ b) (hb : b ≤ xs.length) (hr : SlR c y ys (hpOf w)) (hn : n = min ys.length (b - a)) :
    ∃ w', (Builtin.copy_ #[T, T] ty #[d, y]).run P w = .ok (.int .i64 (n : Nat)) w' ∧ SL e w' (Arr c E v (xs.take a ++ ys.take n ++ xs.drop (a + n)) :: L) := by
  have ht := elemB_und hT
  have hlt : (ys.take n).length = n := by rw [List.length_take]; omega
  obtain ⟨A, ky, rfl, hky, m⟩ := hr
  obtain ⟨h1, h2, dj, l1, l2, ha, s'⟩ := s.sat
  have hfc : (Builtin.firstCells c.sz n (.slice A ys.length ky)).run P w = .ok (encs c (ys.take n)).toArray w := by
    cases A with
    | none => simp only at m; subst m; simp [Builtin.firstCells, encs_nil]
    | some p =>
      simp only at m
      refine run_firstCells_some w c.sz n p _ _ _ (by rw [encs_length, hlt]) fun j u hj => ?_
      rw [encs_take, List.getElem?_take] at hj
      split at hj
      · exact m j u hj
      · cases hj
  have hmin : ∀ dl : Nat, dl = b - a → Nat.min ys.length dl = n := fun dl h => by rw [h, hn]
  rcases ha with ⟨rfl, rfl⟩ | ⟨bk, off, cap, cells, rfl, hc, hbk, hs, hu⟩
  · simp only [List.length_nil, Nat.le_zero] at hb
    obtain rfl : b = 0 := hb
    obtain rfl : a = 0 := by omega
    obtain rfl : n = 0 := by simp at hn; exact hn
    refine ⟨w, ?_, by simpa using s⟩
    subst hd
    simp [Builtin.copy_, slV, run_und ht, Builtin.lenOf, run_sizeOf hz, goInt] at hfc ⊢
    simp [hfc]
  · have hbw : w.heap[bk]? = some (.cells cells E (0, 0)) := l1 _ _ hbk
    by_cases hn0 : n = 0
    · subst hn0
      refine ⟨w, ?_, by simpa using s⟩
      subst hd
      simp only [List.take_zero, encs_nil] at hfc
      simp [Builtin.copy_, slV, run_und ht, Builtin.lenOf, run_sizeOf hz, goInt, hmin _ rfl, hfc]
      split <;> simp [storeCells]
    · have hka : cap ≠ a := by omega
      have hcap : (a + n) * c.sz ≤ cap * c.sz := Nat.mul_le_mul_right _ (by omega)
      rw [Nat.add_mul] at hcap
      have hel : (encs c (ys.take n)).length = n * c.sz := by rw [encs_length, hlt]
      have hst := run_storeCells_at P bk (off + a * c.sz) E (encs c (ys.take n)) 0 cells w hbw (by rw [hel]; omega) (encs_one _)
      simp only [Nat.add_zero] at hst
      refine ⟨w.setRow bk (cells.toList.take (off + a * c.sz) ++ encs c (ys.take n) ++ cells.toList.drop (off + a * c.sz + (encs c (ys.take n)).length)).toArray, ?_, ?_⟩
      · subst hd
        simp [Builtin.copy_, slV, hka, run_und ht, Builtin.lenOf, run_sizeOf hz, goInt, hmin _ rfl, hfc, add_plain, hst]
      · refine s.setRow hbw fun h hh => ?_
        rcases hh with ⟨hv, _⟩ | ⟨b', off', cap', cells2, hv, hc', hbk', hs', hu'⟩
        · cases hv
        · simp only [Value.slice.injEq, Option.some.injEq, Addr.mk.injEq] at hv
          obtain ⟨⟨rfl, rfl, _⟩, _, rfl⟩ := hv
          refine ⟨by rw [hbk']; rfl, fun hbk2 => ?_⟩
          rw [hbk'] at hbk2
          simp only [Option.some.injEq, Obj.cells.injEq, and_true] at hbk2
          subst hbk2
          have hlen : (xs.take a ++ ys.take n ++ xs.drop (a + n)).length = xs.length := by simp; omega
          refine .inr ⟨bk, off, cap, _, by rw [hlen], by rw [hlen]; exact hc, by simp [Hp.upd]; rfl, ?_, fun j u hj => ?_⟩
          · simp only [List.size_toArray, List.length_append, List.length_take, List.length_drop, Array.length_toList, hel]
            omega
          · rw [encs_append, encs_append, encs_take, encs_drop] at hj
            have hex : (encs c xs).length = xs.length * c.sz := encs_length xs
            have hxc : (a + n) * c.sz ≤ xs.length * c.sz := Nat.mul_le_mul_right _ (by omega)
            rw [Nat.add_mul] at hxc
            have hta : ((encs c xs).take (a * c.sz)).length = a * c.sz := by rw [List.length_take]; omega
            have htc : (cells2.toList.take (off + a * c.sz)).length = off + a * c.sz := by simp; omega
            simp only [List.getElem?_toArray]
            rw [← List.append_assoc]
            by_cases hj1 : j < a * c.sz
            · rw [List.append_assoc, List.getElem?_append_left (by rw [hta]; exact hj1), List.getElem?_take, if_pos hj1] at hj
              rw [List.append_assoc, List.getElem?_append_left (by rw [htc]; omega), List.getElem?_take, if_pos (by omega)]
              have := hu j u hj
              simpa using this
            · by_cases hj2 : j < a * c.sz + n * c.sz
              · rw [List.getElem?_append_left (by rw [List.length_append, hta, hel]; exact hj2), List.getElem?_append_right (by rw [hta]; omega), hta] at hj
                rw [List.getElem?_append_left (by rw [List.length_append, htc, hel]; omega), List.getElem?_append_right (by rw [htc]; omega), htc, show off + j - (off + a * c.sz) = j - a * c.sz by omega]
                exact hj
              · rw [List.getElem?_append_right (by rw [List.length_append, hta, hel]; omega), List.length_append, hta, hel, List.getElem?_drop] at hj
                rw [List.getElem?_append_right (by rw [List.length_append, htc, hel]; omega), List.length_append, htc, hel, List.getElem?_drop]
                have := hu ((a + n) * c.sz + (j - (a * c.sz + n * c.sz))) u hj
                rw [Nat.add_mul] at this
                rw [Array.getElem?_toList, show off + a * c.sz + n * c.sz + (off + j - (off + a * c.sz + n * c.sz)) = off + (a * c.sz + n * c.sz + (j - (a * c.sz + n * c.sz))) by omega]
                exact this
theorem l_copy {T E : TypeId} {dd : Nat} {x y : Operand} {v vd vy : Value} {xs ys : List α} {a b n : Nat} (s : SL e w L) (t : Take L (Arr c E v xs) L') (ho : o.op = .call { callee := .builtin .copy, args := #[x, y], argTypes := #[T, T] }) (hg : o.guard = none) (hd : o.dst = some dd)
    (hT : elemB P T = some E) (hz : sizeB P E = some c.sz) (hx : ev l x = vd) (hdv : vd = slV c.sz v a b) (hab : a ≤ b) (hb : b ≤ xs.length) (hy : ev l y = vy) (hr : Ent L (SlR c vy ys)) (hn : n = min ys.length (b - a))
    (k : ∀ w', SL e w' (Arr c E v (xs.take a ++ ys.take n ++ xs.drop (a + n)) :: L') → wpList P ops Q rest (fr (l.set dd (.int .i64 (n : Nat)))) w') : wpList P ops Q (o :: rest) (fr l) w := by
  obtain ⟨w', h1, h2⟩ := run_copy (P := P) (ty := o.type) (s.take t) hT hz hdv hab hb (hr.at s) hn
  refine l_do (w' := w') (v := .int .i64 (n : Nat)) hg hd ?_ (k _ h2)
  unfold execOp; rw [ho]
  simp only [resolve, invoke, builtin, Sem.run_bind, Sem.run_pure, Result.andThen_ok, List.map_toArray, List.map_cons, List.map_nil, hx, hy, h1]
end
end Go.SL

namespace Go.SL
set_option linter.unusedVariables false
set_option linter.unusedSimpArgs false
set_option linter.unusedVariables false
section
variable {α : Type} {c : Ty α} {P : Program} {e : Env} {o : Oper} {l l' : List Value} {L L' L2 : List Asn} {ops : Array Oper} {rest : List Oper} {w : World} {Q : Exit → Act → World → Prop}
/-- a function value with what it holds -/
def fnV (f : Nat) (cap : List Value) : Value := .func (.func f) #[] cap.toArray
theorem y_mkF {f : Nat} {as : Array Operand} {vs : List Value} (ho : o.op = .makeFunc (.func f) #[] as) (ha : as.toList.map (evo l) = vs.map some) : Yl e P o l L (fnV f vs) := fun w _ => by
  unfold execOp; rw [ho]
  simp [Instr.makeFunc, evs_of ha, fnV]
theorem l_callF {f d : Nat} {as : Array Operand} {ts : Array TypeId} {vs cap : List Value} {x : Operand} {R : Value → World → Prop} (ho : o.op = .call { callee := .value x, args := as, argTypes := ts }) (hg : o.guard = none) (hd : o.dst = some d)
    (hx : ev l x = fnV f cap) (hB : callB P f = true) (ha : as.toList.map (evo l) = vs.map some) (hc : Calls P f (vs ++ cap).toArray w (Rets R))
    (k : ∀ v w', R v w' → wpList P ops Q rest (fr (l.set d v)) w') : wpList P ops Q (o :: rest) (fr l) w :=
  l_callC ho hg hd hx hB (by rw [evs_of ha]; simp) hc k
/-- a place in a part is one in the whole -/
theorem y_idxP {T E : TypeId} {x y : Operand} {v : Value} {k : IntKind} {i : Int} {n a b : Nat} {xs : List α} (ho : o.op = .indexAddr T x y) (hT : elemB P T = some E) (hz : sizeB P E = some c.sz)
    (hx : ev l x = slV c.sz v a b) (hy : ev l y = .int k i) (hr : Ent L (SlR c v xs)) (hk : i = (n : Int)) (h1 : a + n < b) (hb : b ≤ xs.length) : Yl e P o l L (elp v ((a + n) * c.sz)) := fun w s => by
  have hp : Ent L (SlR c (slV c.sz v a b) ((xs.drop a).take (b - a))) := fun h hs => slR_part (by omega) hb (hr h hs)
  have := y_idx (P := P) (e := e) ho hT hz hx hy hp hk (by simp; omega) w s
  rwa [elp_slV (hr.at s) h1 hb] at this
/-- the empty slice is anybody's -/
theorem SL.nilArr (c : Ty α) (E : TypeId) (s : SL e w L) : SL e w (Arr c E (.slice none 0 0) [] :: L) :=
  ⟨s.env, fun _ => none, hpOf w, fun _ => .inl rfl, fun _ _ h => (by cases h), fun _ _ h => h, Or.inl ⟨rfl, rfl⟩, s.sat⟩
theorem one_I32 {b : Nat} {n : Int} {T : TypeId} : ∀ h, Blk b #[.int .i32 n] T h → SlR I32 (.slice (some ⟨b, 0, none⟩) 1 1) [n] h := blk_reads rfl rfl
/-- cells of a list that a law picks, all of one value -/
def fillP (p : Nat → Bool) (n : Int) (vs : List Int) : List Int := (List.range vs.length).map fun k => if p k then n else vs.getD k 0
theorem fillP_length (p : Nat → Bool) (n : Int) (vs : List Int) : (fillP p n vs).length = vs.length := by simp [fillP]
theorem fillP_getD (p : Nat → Bool) (n : Int) (vs : List Int) {k : Nat} (h : k < vs.length) : (fillP p n vs).getD k 0 = if p k then n else vs.getD k 0 := by
  simp [fillP, List.getD_eq_getElem?_getD, h]
theorem fillP_set (p : Nat → Bool) (n : Int) (vs : List Int) (k : Nat) : (fillP p n vs).set k n = fillP (fun i => p i || i == k) n vs := by
  apply List.ext_getElem?
  intro i
  rw [List.getElem?_set]
  simp only [fillP, List.length_map, List.length_range, List.getElem?_map]
  by_cases hi : i < vs.length
  · rw [List.getElem?_range hi]
    by_cases hk : k = i
    · subst hk; simp [hi]
    · have : ¬ i = k := fun h => hk h.symm
      simp [hk, this]
  · rw [List.getElem?_eq_none (by simpa using Nat.not_lt.1 hi)]
    by_cases hk : k = i
    · subst hk; simp [hi]
    · simp [hk]
theorem fillP_congr {p q : Nat → Bool} {n : Int} {vs : List Int} (h : ∀ k, k < vs.length → p k = q k) : fillP p n vs = fillP q n vs := by
  unfold fillP
  apply List.map_congr_left
  intro k hk
  rw [h k (List.mem_range.1 hk)]
theorem list_getD (vs : List Int) : (List.range vs.length).map (fun k => vs.getD k 0) = vs := by
  apply List.ext_getElem?
  intro i
  rw [List.getElem?_map]
  by_cases hi : i < vs.length
  · rw [List.getElem?_range hi]; simp [List.getD_eq_getElem?_getD, hi]
  · rw [List.getElem?_eq_none (by simpa using Nat.not_lt.1 hi), List.getElem?_eq_none (Nat.not_lt.1 hi)]; rfl
theorem fillP_none {p : Nat → Bool} {n : Int} {vs : List Int} (h : ∀ k, k < vs.length → p k = false) : fillP p n vs = vs := by
  have : fillP p n vs = (List.range vs.length).map (fun k => vs.getD k 0) := by
    unfold fillP
    apply List.map_congr_left
    intro k hk
    rw [h k (List.mem_range.1 hk)]; rfl
  rw [this, list_getD]
theorem fillP_all {p : Nat → Bool} {n : Int} {vs : List Int} (h : ∀ k, k < vs.length → p k = true) : fillP p n vs = List.replicate vs.length n := by
  unfold fillP
  apply List.ext_getElem?
  intro i
  rw [List.getElem?_map]
  by_cases hi : i < vs.length
  · rw [List.getElem?_range hi, List.getElem?_replicate, if_pos hi]; simp [h i hi]
  · rw [List.getElem?_eq_none (by simpa using Nat.not_lt.1 hi), List.getElem?_eq_none (by simpa using Nat.not_lt.1 hi)]; rfl
theorem fillP_same {p : Nat → Bool} {n : Int} {len : Nat} : fillP p n (List.replicate len n) = List.replicate len n := by
  unfold fillP
  apply List.ext_getElem?
  intro i
  rw [List.getElem?_map, List.length_replicate]
  by_cases hi : i < len
  · rw [List.getElem?_range hi, List.getElem?_replicate, if_pos hi]; simp [List.getD_eq_getElem?_getD, List.getElem?_replicate, hi]
  · rw [List.getElem?_eq_none (by simpa using Nat.not_lt.1 hi), List.getElem?_eq_none (by simpa using Nat.not_lt.1 hi)]; rfl
theorem all_same {vs : List Int} (h : ∀ k, k < vs.length → vs.getD k 0 = vs.getD 0 0) : vs = List.replicate vs.length (vs.getD 0 0) := by
  apply List.ext_getElem?
  intro i
  rw [List.getElem?_replicate]
  by_cases hi : i < vs.length
  · rw [if_pos hi, ← h i hi]; simp [List.getD_eq_getElem?_getD, hi]
  · rw [if_neg hi, List.getElem?_eq_none (Nat.not_lt.1 hi)]
end
end Go.SL

namespace Go.SL
set_option linter.unusedVariables false
set_option linter.unusedSimpArgs false
set_option linter.unusedVariables false
section
variable {α : Type} {c : Ty α} {P : Program} {e : Env} {L L' L2 : List Asn} {w : World}
theorem SL.nilBox (s : SL e w L) : SL e w (Box [] :: L) :=
  ⟨s.env, fun _ => none, hpOf w, fun _ => .inl rfl, fun _ _ h => (by cases h), fun _ _ h => h, trivial, s.sat⟩
theorem Sat.assoc {A : Asn} {Ls L : List Asn} {h : Hp} (hs : Sat (A :: Box Ls :: L) h) : Sat (Box (A :: Ls) :: L) h :=
  Sat.app (L1 := A :: Ls) (Sat.tail (fun _ h => Sat.unapp h) hs)
theorem Sat.snoc {A : Asn} : ∀ {Ls : List Asn} {h : Hp}, Sat (A :: Ls) h → Sat (Ls ++ [A]) h
  | [], _, hs => hs
  | B :: Ls, _, hs => by
    have h1 := (Take.there (L := B :: Ls) A (Take.here B Ls)).sat hs
    exact Sat.tail (fun _ h => Sat.snoc h) h1
theorem SL.boxSnoc {A : Asn} {Ls : List Asn} (s : SL e w (A :: Box Ls :: L)) : SL e w (Box (Ls ++ [A]) :: L) := by
  refine ⟨s.env, ?_⟩
  obtain ⟨h1, h2, d, l1, l2, a, b⟩ := s.sat.assoc
  exact ⟨h1, h2, d, l1, l2, Sat.snoc a, b⟩
/-- take one of a row out, and put one back in its place -/
theorem SL.boxTake {Ls : List Asn} {A : Asn} {k : Nat} (hk : Ls[k]? = some A) (s : SL e w (Box Ls :: L)) : SL e w (A :: Box (Ls.eraseIdx k) :: L) := by
  have h1 := s.unbox.take (Take.of_mem hk L)
  exact ⟨h1.env, Sat.tail (fun _ h => Sat.app h) h1.sat⟩
theorem SL.boxPut {Ls : List Asn} {A B : Asn} {k : Nat} (hk : Ls[k]? = some A) (s : SL e w (B :: Box (Ls.eraseIdx k) :: L)) : SL e w (Box (Ls.set k B) :: L) := by
  have h1 : SL e w (B :: (Ls.eraseIdx k ++ L)) := ⟨s.env, Sat.tail (fun _ h => Sat.unapp h) s.sat⟩
  exact (h1.put (Take.of_set hk L)).box
end
end Go.SL

namespace Go.SL
set_option linter.unusedVariables false
set_option linter.unusedSimpArgs false
set_option linter.unusedVariables false
open Go.ChangeShapes Go.WideShapes
/-- an operation that hangs on a skipped one is skipped -/
theorem wanted_undef {os : List Oper} {o oj : Oper} {l : List Value} {j d : Nat} {want : Bool} (hg : o.guard = some (j, want)) (hj : nthO os j = some oj) (hd : oj.dst = some d) (hv : nth l d = some undef) : Region.wanted o (yielded os.toArray (fr l).tmps) = false := by
  have h1 := nthO_get _ _ _ hj
  have h2 := nth_get _ _ _ hv
  have h3 : yielded os.toArray (fr l).tmps j = none := by
    simp [yielded, h1, hd, fr, h2, undef]
  rw [Region.wanted, hg]; simp only [h3]; rfl
/-- what stands in slots that nobody reads again -/
def nthD : List Value → Nat → Value
  | [], _ => undef
  | v :: _, 0 => v
  | _ :: l, n + 1 => nthD l n
/-- a guarded operation that is wanted, as one without a guard -/
theorem l_ung {P : Program} {ops : Array Oper} {Q : Exit → Act → World → Prop} {w : World} {rest : List Oper} {o : Oper} {l : List Value} (hg : Region.wanted o (yielded ops (fr l).tmps) = true) (k : wpList P ops Q ({ o with guard := none } :: rest) (fr l) w) : wpList P ops Q (o :: rest) (fr l) w := by
  rw [wpList] at k ⊢
  rw [if_pos hg]
  rw [if_pos (wanted_none rfl _)] at k
  exact k
/-- all that an older world had -/
def OldW (w0 : World) : Asn := fun h => (hpOf w0).le h
theorem SL.start (w : World) : SL (envOf w) w [OldW w] :=
  ⟨rfl, hpOf w, fun _ => none, fun _ => .inr rfl, Hp.le.refl _, (fun _ _ e => by cases e), Hp.le.refl _, trivial⟩
theorem SL.below {w0 w : World} {L L' : List Asn} (s : SL (envOf w0) w L) (t : Take L (OldW w0) L') : Go.RowKit.Below w0.heap.size w0 w := by
  have hle : (hpOf w0).le (hpOf w) := by
    obtain ⟨h1, h2, _, l1, _, o, _⟩ := (s.take t).sat
    exact Hp.le.trans o l1
  have he := s.env
  simp only [envOf, Env.mk.injEq] at he
  refine ⟨he.1, he.2.1, he.2.2, ?_, fun k hk => ?_⟩
  · rcases Nat.lt_or_ge w.heap.size w0.heap.size with h | h
    · have h1 := hle w.heap.size w0.heap[w.heap.size] (by simp [hpOf, h])
      simp [hpOf] at h1
    · exact h
  · have h1 := hle k w0.heap[k] (by simp [hpOf, hk])
    simp only [hpOf] at h1
    rw [h1]; simp [hk]
theorem row_walk {P : Program} {f : FuncId} {vs : Array Value} {w : World} (h : Calls P f vs w (Rets fun v w' => v = .bool true ∧ SL (envOf w) w' [OldW w])) :
    Calls P f vs w (fun e w' => e = .returned (.bool true) ∧ Go.RowKit.Below w.heap.size w w') :=
  h.mono fun e w' r => by
    cases e <;> first | exact ⟨by rw [r.1], r.2.below (Take.here _ _)⟩ | exact r.elim
theorem wf64 {n : Int} (h : (Lit.int .i64 n).wf = true) : -9223372036854775808 ≤ n ∧ n ≤ 9223372036854775807 := by
  simp [Lit.wf, IntKind.min, IntKind.max, IntKind.signed, IntKind.bits] at h
  omega
/-- a slice of whole numbers, as a row tells it -/
def RowS (w : World) (a : Option Addr) (len cap : Nat) (zs : List Int) : Prop :=
  (a = none ∧ len = 0 ∧ cap = 0 ∧ zs = []) ∨
  ∃ x, a = some x ∧ len ≤ cap ∧ cap ≤ maxLen ∧ zs.length = cap ∧ (∀ i, i < zs.length → w.cell? (x.add i) = some (.int .i64 (zs.getD i 0))) ∧ ∀ n ∈ zs, (Lit.int .i64 n).wf = true
theorem rowR {w : World} {a : Option Addr} {len cap : Nat} {zs : List Int} (h : RowS w a len cap zs) {L : List Asn} : Ent (OldW w :: L) (SlR I64 (.slice a len cap) (zs.take len)) := by
  refine Ent.here (φ := SlR I64 (.slice a len cap) (zs.take len)) fun hp o => ?_
  rcases h with ⟨rfl, rfl, rfl, rfl⟩ | ⟨x, rfl, hl, hm, hz, hc, hw⟩
  · exact ⟨none, 0, rfl, Nat.le_refl _, rfl⟩
  · have e : (zs.take len).length = len := by rw [List.length_take, hz]; omega
    refine ⟨some x, cap, by rw [e], by rw [e]; exact hl, fun j u hj => ?_⟩
    have h2 : j < len := by
      have := (List.getElem?_eq_some_iff.1 hj).1
      rw [encs_length, e] at this
      simpa [I64] using this
    have h3 : (encs I64 (zs.take len))[j]? = some (.int .i64 ((zs.take len).getD j 0)) := by
      have := encs_get (c := I64) (zs.take len) (i := j) (j := 0) (by rw [e]; exact h2) (by decide)
      simpa [I64] using this
    rw [hj] at h3
    have h4 : (zs.take len).getD j 0 = zs.getD j 0 := by simp [List.getD_eq_getElem?_getD, List.getElem?_take, h2]
    rw [h4] at h3
    rw [h3]
    exact Hp.cell_mono o ((cell_hpOf w _).trans (hc j (by omega)))
theorem row_len {w : World} {a : Option Addr} {len cap : Nat} {zs : List Int} (h : RowS w a len cap zs) : (zs.take len).length = len := by
  rcases h with ⟨rfl, rfl, rfl, rfl⟩ | ⟨x, rfl, hl, hm, hz, hc, hw⟩
  · rfl
  · rw [List.length_take, hz]; omega
theorem row_in {w : World} {a : Option Addr} {len cap : Nat} {zs : List Int} (h : RowS w a len cap zs) : ∀ x ∈ zs.take len, -9223372036854775808 ≤ x ∧ x ≤ 9223372036854775807 := by
  intro x hx
  rcases h with ⟨rfl, rfl, rfl, rfl⟩ | ⟨_, rfl, hl, hm, hz, hc, hw⟩
  · simp at hx
  · exact wf64 (hw x (List.mem_of_mem_take hx))
/-- a slice among the arguments, opened -/
theorem row_open {H : Type} {enc : TypeId × Value → H} {P : Program} {W : World} {t e : TypeId} {a : Option Addr} {len cap : Nat} {d : DataW H} {ps : List MemPlace} {spare : Nat → Bool} {held : Bool} {base : Nat} (hs : ∀ b, spare b = true)
    (hu : P.underlying t = some (.slice e)) (he : P.underlying e = some (.int .i64)) (hc : P.cellsOf e = 1) (h : DataW.Trod enc P W base spare held t (.slice a len cap) d ps) : ∃ zs, RowS W a len cap zs := by
  obtain ⟨fuel, hf⟩ := h
  rcases open_ints hu he hc hf with ⟨hcs, _⟩ | ⟨x, l, c, zs, hcs, _, hl, hm, hz, _, hcell, hwz⟩
  · simp [Value.cells] at hcs
    obtain ⟨rfl, rfl, rfl⟩ := hcs
    exact ⟨[], .inl ⟨rfl, rfl, rfl, rfl⟩⟩
  · simp [Value.cells] at hcs
    obtain ⟨rfl, rfl, rfl⟩ := hcs
    exact ⟨zs, .inr ⟨_, rfl, hl, hm, by rw [hz, hs, if_pos rfl], hcell, hwz⟩⟩
theorem row_size {H : Type} {enc : TypeId × Value → H} {P : Program} {W : World} {base : Nat} {spare : Nat → Bool} {held : Bool} {t e : TypeId} {k : IntKind} {a : Option Addr} {len cap : Nat} {d : DataW H} {ps : List MemPlace} {ts : List TypeId} {ds : List (DataW H)} {j : Nat}
    (hsz : (DataW.weightsEach P ts ds).all (· ≤ reachBytes) = true) (ht : ts[j]? = some t) (hd : ds[j]? = some d) (hu : P.underlying t = some (.slice e)) (he : P.underlying e = some (.int k)) (hc : P.cellsOf e = 1) (hB : P.bytesOf e = 8)
    (h : DataW.Trod enc P W base spare held t (.slice a len cap) d ps) : len ≤ 20000000000000 := by
  obtain ⟨fuel, hf⟩ := h
  rcases open_ints hu he hc hf with ⟨hcs, _⟩ | ⟨x, l, c, zs, hcs, _, hl, _, hz, hx, _, _⟩
  · simp [Value.cells] at hcs
    obtain ⟨rfl, rfl, rfl⟩ := hcs
    simp
  · simp [Value.cells] at hcs
    obtain ⟨rfl, rfl, rfl⟩ := hcs
    obtain ⟨hx, _⟩ := Prod.mk.inj hx
    subst hx
    have z := sized_slice hsz ht hd hu
    rw [hB] at z
    have hl2 : len ≤ zs.length := by
      rw [hz]
      split
      · exact hl
      · exact Nat.le_refl _
    have h1 : (lits (H := H) k (zs.take len)).length + (lits (H := H) k (zs.drop len)).length = zs.length := by
      simp [lits]
      omega
    rw [h1] at z
    have z2 : zs.length * 8 ≤ 140737488351232 := z
    omega
end Go.SL

namespace Go.SL
set_option linter.unusedVariables false
set_option linter.unusedSimpArgs false
set_option linter.unusedVariables false
section
variable {P : Program} {e : Env} {o : Oper} {l : List Value} {L : List Asn}
/-- two structs of one type, held against each other -/
theorem y_eqF {T T' : TypeId} {x y : Operand} {xs ys : Array Value} {b : Bool} (ho : o.op = .binOp .eql T x y T') (hx : ev l x = .agg xs) (hy : ev l y = .agg ys) (hg : P.eqGuardType P.depth T = false)
    (ht : P.underlying T = some (.struct (P.fieldsOf T))) (hp : P.stoodInHeld T = false) (h : ∀ w, (Op.eqFields 9999 xs ys (P.fieldsOf T).toList).run P w = .ok b w) : Yl e P o l L (.bool b) :=
  run_cmp .eql T x y T' ho hx hy (fun w => run_eqGuard_agg w .eql T x y xs ys hg) fun w => by
    rw [run_eql_struct, show (10000 : Nat) = 9999 + 1 from rfl, run_equalIn_agg w 9999 T xs ys ht hp, h]; rfl
theorem y_neF {T T' : TypeId} {x y : Operand} {xs ys : Array Value} {b : Bool} (ho : o.op = .binOp .neq T x y T') (hx : ev l x = .agg xs) (hy : ev l y = .agg ys) (hg : P.eqGuardType P.depth T = false)
    (ht : P.underlying T = some (.struct (P.fieldsOf T))) (hp : P.stoodInHeld T = false) (h : ∀ w, (Op.eqFields 9999 xs ys (P.fieldsOf T).toList).run P w = .ok b w) : Yl e P o l L (.bool (!b)) :=
  run_cmp .neq T x y T' ho hx hy (fun w => run_eqGuard_agg w .neq T x y xs ys hg) fun w => by
    rw [run_neq_struct, show (10000 : Nat) = 9999 + 1 from rfl, run_equalIn_agg w 9999 T xs ys ht hp, h]; rfl
/-- an element of an array by value -/
theorem y_index {T : TypeId} {x y : Operand} {u v r : Value} (ho : o.op = .index T x y) (hx : ev l x = u) (hy : ev l y = v) (h : ∀ w, (Instr.index T u v).run P w = .ok r w) : Yl e P o l L r := fun w _ => by
  unfold execOp; rw [ho]
  simp only [hx, hy, Sem.run_bind, h w]; rfl
theorem y_bld2 {T : TypeId} {x y : Operand} {a b v z : Value} (ho : o.op = .build T #[(0, x), (1, y)]) (hz : zeroB P T = some z) (hx : ev l x = a) (hy : ev l y = b) (h : ∀ w, (Instr.build T #[(0, a), (1, b)]).run P w = .ok v w) : Yl e P o l L v :=
  y_build ho hz fun w => by simpa [hx, hy] using h w
theorem rc3 {w : World} {fn : Func} {t b u u2 n : Nat} {T T' : TypeId} {cells : Array Value} {v v2 : Value} {R : Value → World → Prop} (s : SL e w L) (hr : fn.results = #[.cell t T, .tmp u, .tmp u2]) (hv : nth l t = some (ptr b 0)) (hs : someU P T = true) (hT : aggB P T = true) (hn' : sizeB P T = some n) (hc : Ent L (fun h => Blk b cells T' h)) (hsz : cells.size = n) (hu : nth l u = some v) (hu2 : nth l u2 = some v2)
    (h : R (.tuple #[.agg cells, v, v2]) w) : bodyPost P fn (Rets R) .ret (fr l) w := by
  subst hsz
  obtain ⟨h1, h2⟩ := run_resCell hv hs hT hn' hc s
  have h3 := nth_getD _ _ _ hu
  have h4 := nth_getD _ _ _ hu2
  refine ⟨rfl, .tuple #[.agg cells, v, v2], ?_, h⟩
  have h2' : l[t]?.getD undef = ptr b 0 := by simpa using h2
  have h3' : l[u]?.getD undef = v := by simpa using h3
  have h4' : l[u2]?.getD undef = v2 := by simpa using h4
  simp [results, hr, fr, h2', asAddr, h1, h3', h4']
theorem rc4 {w : World} {fn : Func} {t b u u2 u3 n : Nat} {T T' : TypeId} {cells : Array Value} {v v2 v3 : Value} {R : Value → World → Prop} (s : SL e w L) (hr : fn.results = #[.cell t T, .tmp u, .tmp u2, .tmp u3]) (hv : nth l t = some (ptr b 0)) (hs : someU P T = true) (hT : aggB P T = true) (hn' : sizeB P T = some n) (hc : Ent L (fun h => Blk b cells T' h)) (hsz : cells.size = n) (hu : nth l u = some v) (hu2 : nth l u2 = some v2) (hu3 : nth l u3 = some v3)
    (h : R (.tuple #[.agg cells, v, v2, v3]) w) : bodyPost P fn (Rets R) .ret (fr l) w := by
  subst hsz
  obtain ⟨h1, h2⟩ := run_resCell hv hs hT hn' hc s
  have h3 := nth_getD _ _ _ hu
  have h4 := nth_getD _ _ _ hu2
  have h5 := nth_getD _ _ _ hu3
  refine ⟨rfl, .tuple #[.agg cells, v, v2, v3], ?_, h⟩
  have h2' : l[t]?.getD undef = ptr b 0 := by simpa using h2
  have h3' : l[u]?.getD undef = v := by simpa using h3
  have h4' : l[u2]?.getD undef = v2 := by simpa using h4
  have h5' : l[u3]?.getD undef = v3 := by simpa using h5
  simp [results, hr, fr, h2', asAddr, h1, h3', h4', h5']
end
end Go.SL

namespace Go.SL
set_option linter.unusedVariables false
set_option linter.unusedSimpArgs false
set_option linter.unusedVariables false
section
variable {P : Program} {e : Env} {L : List Asn} {ops : Array Oper} {md : Region.Mode} {V : Nat → VS} {fs : List Nat}
/-- an operation that looks at no memory, and may come late -/
def lateB (o : Oper) : Bool := match o.op with | .extract _ _ => true | _ => false
theorem yields_late {o : Oper} {v : Value} {a : Act} {w : World} {M : List Asn} (hl : lateB o = true) (h : YG P e L ops o a (vq v)) (s : SL e w (M ++ L)) : Yields P ops o v a := by
  rcases h with ⟨hw, h⟩ | ⟨hw, hu, _⟩
  · refine .inl ⟨hw, fun w2 => ?_⟩
    have h1 := h w M s
    unfold lateB at hl
    cases ho : o.op <;> rw [ho] at hl <;> try (cases hl; done)
    rename_i x i
    unfold execOp at h1 ⊢
    rw [ho] at h1 ⊢
    simp only [Sem.run_bind] at h1 ⊢
    cases hx : a.eval x <;> simp [hx, Instr.extract, gUpon] at h1 ⊢
    rename_i vs
    cases hv : vs[i]? <;> simp [hv, gUpon] at h1 ⊢
    obtain ⟨E, h2, _⟩ := h1
    exact h2.1
  · exact .inr ⟨hw, hu.1.symm⟩
def edgeB (md : Region.Mode) (ops : Array Oper) (ts : List Nat) : Bool :=
  (List.range ops.size).all (fun i => match ops[i]? with
    | none => true
    | some o => o.after.all (fun e => !Region.binds md e || (decide (e.on < i) && (ts.contains i || !ts.contains e.on))))
theorem Mid.doneQ {ts : List Nat} {listed : Array Bool} (m : Mid md ops fs ts listed) (hT : edgeB md ops ts = true) (hno : ∀ i ∈ Region.ready md ops listed, i ∉ fs) (hdis : ∀ i ∈ fs, ts.contains i = false) : listed = frontDone ts ops.size := by
  simp only [edgeB, List.all_eq_true, List.mem_range] at hT
  have hall : ∀ n j, j < n → j < ops.size → ts.contains j = false → listed.getD j false = true := by
    intro n
    induction n with
    | zero => intro j h; omega
    | succ n ih =>
      intro j hj hjs ht
      by_cases hjf : fs.contains j = true
      · cases hl : listed.getD j false with
        | true => rfl
        | false =>
          exfalso
          refine hno j (mem_ready.2 ⟨?_, ops[j], by simp [hjs], fun e he hb => ?_⟩) (by simpa using hjf)
          · have : j < listed.size := by rw [m.size]; exact hjs
            simp [this] at hl ⊢; exact hl
          · have h1 := hT j hjs
            simp only [Array.getElem?_eq_getElem hjs] at h1
            have h2 := Array.all_eq_true_iff_forall_mem.1 h1 e he
            simp only [hb, Bool.not_true, Bool.false_or, Bool.and_eq_true, decide_eq_true_eq, Bool.or_eq_true, ht, Bool.false_eq_true, false_or, Bool.not_eq_true'] at h2
            exact ih e.on (by omega) (by omega) h2.2
      · exact m.rest j hjs ht (by simpa using hjf)
  apply Array.ext
  · simp [frontDone, m.size]
  · intro j h1 h2
    have hj : j < ops.size := by rw [← m.size]; exact h1
    simp only [frontDone, Array.getElem_map, Array.getElem_range]
    cases ht : ts.contains j with
    | true => have := m.tail j hj ht; simp [h1] at this; simpa using this
    | false => have := hall (j + 1) j (by omega) hj ht; simp [h1] at this; simpa using this


theorem wpAny_of_AnyDQ {Q : Exit → Act → World → Prop} {K : Act → List Asn → Prop} {ts : List Nat} {g : Nat} (qs : List Nat) (hns : Region.noSelect ops = true) (hQ : ∀ c a w, ¬ Q (.panic c) a w)
    (hq : ∀ i ∈ qs, i ∈ fs ∧ ∃ v, V i = vq v ∧ ∃ o, ops[i]? = some o ∧ lateB o = true ∧ Region.free md ops ((Array.range ops.size).map fun j => reachB md ops ops.size i j) i = true)
    (hT : ∀ t ∈ ts, ∀ f ∈ fs, (qs.contains f || reachB md ops ops.size t f) = true) (hE : edgeB md ops ts = true) (hdis : ∀ i ∈ fs, ts.contains i = false)
    (hK : ∀ a M w, K a M → SL e w (M ++ L) → wpAny P md ops Q g (frontDone ts ops.size) a w) :
    ∀ (f : Nat) (listed : Array Bool) (a : Act) (M : List Asn) (w : World), Mid md ops fs ts listed → AnyD P e L ops md V fs K f listed a M → SL e w (M ++ L) → wpAny P md ops Q (f + g) listed a w := by
  intro f
  induction f with
  | zero =>
    intro listed a M w m h s
    have := m.doneQ hE h.1 hdis
    rw [this, Nat.zero_add]
    exact hK a M w h.2 s
  | succ f ih =>
    intro listed a M w m h s
    by_cases hqr : ∃ i, i ∈ Region.ready md ops listed ∧ i ∈ qs
    · obtain ⟨i, hi, hiq⟩ := hqr
      obtain ⟨hif, v, hv, o, ho, hl, hfree⟩ := hq i hiq
      obtain ⟨o', ho', hy, hn⟩ := h.2 i hi hif
      rw [ho] at ho'
      obtain rfl : o = o' := by simpa using ho'
      rw [hv] at hy hn
      rw [show f + 1 + g = (f + g) + 1 by omega]
      refine wpAny_first ho (Region.noSelect_spec hns) (fun c a w h => (hQ _ _ _ h).elim) (f + g) listed a w (fun j oj hj hne hun hno => Region.free_spec ho hfree j oj hj hne ?_ hno) hi (yields_late hl hy s) ?_
      · have hjs := (Array.getElem?_eq_some_iff.1 hj).1
        obtain ⟨_, oi, hoi, hall⟩ := mem_ready.1 hi
        rw [ho] at hoi
        obtain rfl : o = oi := by simpa using hoi
        cases hr : reachB md ops ops.size i j with
        | true =>
          have h2 := reach_listed m.down _ _ _ o ho hall hr
          have hjl : j < listed.size := by rw [m.size]; exact hjs
          simp [hjl] at h2 hun
          rw [h2] at hun; cases hun
        | false => simp [hjs, hr]
      · exact ih _ _ M w (m.set hi hif (hdis i hif)) (by have := hn v [] ⟨rfl, rfl⟩; simpa using this) s
    · by_cases hno : ∀ i ∈ Region.ready md ops listed, i ∉ fs
      · have := m.doneQ hE hno hdis
        rw [this]
        exact wpAny_moreN (hK a M w (h.1 hno) s) (f + 1)
      · rw [show f + 1 + g = (f + g) + 1 by omega]
        refine ⟨fun h0 => (hno (by rw [h0]; intro i hi; cases hi)).elim, fun i hi => ?_⟩
        by_cases hif : i ∈ fs
        · obtain ⟨o, ho, hy, hn⟩ := h.2 i hi hif
          refine hy.wpOp ho s fun v E w' hv s' => ?_
          exact ih _ _ (E ++ M) w' (m.set hi hif (hdis i hif)) (hn v E hv) s'
        · exfalso
          obtain ⟨hun, o, ho, hall⟩ := mem_ready.1 hi
          have his : i < ops.size := (Array.getElem?_eq_some_iff.1 ho).1
          cases ht : ts.contains i with
          | false =>
            have h1 := m.rest i his ht (by simpa using hif)
            have : i < listed.size := by rw [m.size]; exact his
            simp [this] at h1 hun
            rw [h1] at hun; cases hun
          | true =>
            refine hno fun j hj hjf => ?_
            have h1 := hT i (by simpa using ht) j hjf
            have hjq : qs.contains j = false := by
              cases hc : qs.contains j with
              | false => rfl
              | true => exact absurd ⟨j, hj, by simpa using hc⟩ hqr
            rw [hjq, Bool.false_or] at h1
            have h2 := reach_listed m.down _ _ _ o ho hall h1
            obtain ⟨hjun, oj, hoj, _⟩ := mem_ready.1 hj
            have : j < listed.size := by rw [m.size]; exact (Array.getElem?_eq_some_iff.1 hoj).1
            simp [this] at h2 hjun
            rw [h2] at hjun; cases hjun
theorem hq0 {qs : List Nat} {xs : List (Oper × VS)} : ∀ p ∈ List.zip ([] : List Nat) xs, qs.contains p.1 = true → ∃ v, p.2.2 = vq v := fun p hp => by simp at hp
theorem hqN {qs ks : List Nat} {k : Nat} {x : Oper × VS} {xs : List (Oper × VS)} (hk : qs.contains k = false) (r : ∀ p ∈ ks.zip xs, qs.contains p.1 = true → ∃ v, p.2.2 = vq v) : ∀ p ∈ (k :: ks).zip (x :: xs), qs.contains p.1 = true → ∃ v, p.2.2 = vq v := by
  intro p hp hc
  rw [List.zip_cons_cons, List.mem_cons] at hp
  rcases hp with rfl | hp
  · rw [hk] at hc; cases hc
  · exact r p hp hc
theorem hqY {qs ks : List Nat} {k : Nat} {o : Oper} {v : Value} {xs : List (Oper × VS)} (r : ∀ p ∈ ks.zip xs, qs.contains p.1 = true → ∃ v, p.2.2 = vq v) : ∀ p ∈ (k :: ks).zip ((o, vq v) :: xs), qs.contains p.1 = true → ∃ v, p.2.2 = vq v := by
  intro p hp hc
  rw [List.zip_cons_cons, List.mem_cons] at hp
  rcases hp with rfl | hp
  · exact ⟨v, rfl⟩
  · exact r p hp hc
/-- all that is to be looked up of a region, where some operations may come late -/
def drawQ (md : Region.Mode) (ops : Array Oper) (ps fs qs ts : List Nat) : Bool :=
  Region.noSelect ops && pureB md ops (Array.replicate ops.size false) ps && midB md ops ps fs ts && lexD md ops fs (listAll (Array.replicate ops.size false) ps) fs && (ts.all fun t => fs.all fun f => qs.contains f || reachB md ops ops.size t f) && edgeB md ops ts && fs.all (fun i => !ts.contains i) &&
    seqB md ops (frontDone ts ops.size) ts && decide (ps.length + fs.length + ts.length = ops.size) &&
    qs.all (fun i => fs.contains i && match ops[i]? with | none => false | some o => lateB o && Region.free md ops ((Array.range ops.size).map fun j => reachB md ops ops.size i j) i)
theorem c_drawnQ {id : Nat} {os : List Oper} {Q : Exit → Act → World → Prop} {l : List Value} {w : World} (ps fs qs ts : List Nat) (po to : List Oper) (fo : List (Oper × VS)) (s : SL e w L) (hm : P.follows .mixedOrders = true) (hB : drawQ .any os.toArray ps fs qs ts = true)
    (hQ : ∀ c a w, ¬ Q (.panic c) a w)
    (hp : ps.map (os[·]?) = po.map some) (hf : fs.map (os[·]?) = (fo.map (·.1)).map some) (ht : ts.map (os[·]?) = to.map some) (hnd : fs.Nodup) (hqv : ∀ p ∈ fs.zip fo, qs.contains p.1 = true → ∃ v, p.2.2 = vq v)
    (h : WP P os.toArray (WD P e L os.toArray (fun a M => ∀ w', SL e w' (M ++ L) → wpList P os.toArray Q to a w') fo · []) po (fr l)) : (Code.region id os.toArray true).wp P Q (fr l) w := by
  simp only [drawQ, Bool.and_eq_true, decide_eq_true_eq, List.all_eq_true, Bool.not_eq_true'] at hB
  obtain ⟨⟨⟨⟨⟨⟨⟨⟨⟨hns, hpure⟩, hmid⟩, hlex⟩, htail⟩, hedge⟩, hdis⟩, hseq⟩, hsum⟩, hlate⟩ := hB
  have zip_of : ∀ {ks : List Nat} {xs : List Oper}, ks.map (os[·]?) = xs.map some → ks.length = xs.length ∧ ∀ p ∈ ks.zip xs, os.toArray[p.1]? = some p.2 := by
    intro ks
    induction ks with
    | nil => intro xs h; cases xs with
      | nil => exact ⟨rfl, by simp⟩
      | cons x xs => simp at h
    | cons k ks ih => intro xs h; cases xs with
      | nil => simp at h
      | cons x xs =>
        simp only [List.map_cons, List.cons.injEq] at h
        obtain ⟨h1, h2⟩ := ih h.2
        refine ⟨by simp [h1], fun p hp => ?_⟩
        simp only [List.zip_cons_cons, List.mem_cons] at hp
        rcases hp with rfl | hp
        · simpa using h.1
        · exact h2 p hp
  refine wp_region_any hm ?_
  have hsum' : os.toArray.size = ps.length + (fs.length + ts.length) := by rw [← hsum]; omega
  obtain ⟨hpl, hpz⟩ := zip_of hp
  obtain ⟨htl, htz⟩ := zip_of ht
  obtain ⟨hfl, hfz⟩ := zip_of hf
  have hfl' : fs.length = fo.length := by simpa using hfl
  suffices hh : wpAny P .any os.toArray Q (ps.length + (fs.length + ts.length)) (Array.replicate os.toArray.size false) (fr l) { w with drawn := w.drawn + 1 } by
    rw [← hsum'] at hh; exact hh
  refine wpAny_pure hns hQ ps po _ _ hpure hpl hpz ?_
  -- the values by their numbers
  let V : Nat → VS := fun i => ((fs.zip fo).find? (·.1 == i)).elim (fun _ _ => False) (·.2.2)
  have hV : ∀ p ∈ fs.zip fo, V p.1 = p.2.2 := by
    intro p hp
    have : ∀ (ks : List Nat) (xs : List (Oper × VS)), ks.Nodup → p ∈ ks.zip xs → (ks.zip xs).find? (·.1 == p.1) = some p := by
      intro ks
      induction ks with
      | nil => intro xs _ h; simp at h
      | cons k ks ih =>
        intro xs hn h
        cases xs with
        | nil => simp at h
        | cons x xs =>
          simp only [List.zip_cons_cons, List.mem_cons] at h
          rw [List.zip_cons_cons, List.find?_cons]
          rcases h with rfl | h
          · simp
          · have hne : (k == p.1) = false := by
              have h1 : p.1 ∈ ks := (List.of_mem_zip h).1
              have h2 := (List.nodup_cons.1 hn).1
              simp only [beq_eq_false_iff_ne, ne_eq]
              intro e; rw [e] at h2; exact h2 h1
            simp only [hne]
            exact ih xs (List.nodup_cons.1 hn).2 h
    simp only [V, this fs fo hnd hp, Option.elim_some]
  have mono : ∀ (os' : List Oper) (K K' : Act → Prop) (a : Act), (∀ a, K a → K' a) → WP P os.toArray K os' a → WP P os.toArray K' os' a := by
    intro os'
    induction os' with
    | nil => intro K K' a hk h; exact hk _ h
    | cons o os' ih => intro K K' a hk h; obtain ⟨v, hy, h⟩ := h; exact ⟨v, hy, ih K K' _ hk h⟩
  refine mono po _ _ _ (fun a hW => ?_) h
  have hK : ∀ (a : Act) (M M' : List Asn), M.Perm M' → (∀ w', SL e w' (M ++ L) → wpList P os.toArray Q to a w') → (∀ w', SL e w' (M' ++ L) → wpList P os.toArray Q to a w') :=
    fun a M M' p h w' s' => h w' (s'.perm (List.Perm.append_right L p.symm))
  have hA := AnyD.lex (V := V) (md := .any) (fs := fs) hK hns fs fo _ a [] hfl' (fun p hp => ⟨by
      have h2 : (p.1, p.2.1) ∈ fs.zip (fo.map (·.1)) := by
        rw [List.zip_map_right]
        exact List.mem_map.2 ⟨p, hp, rfl⟩
      exact hfz _ h2, hV p hp⟩) hlex hW
  refine wpAny_of_AnyDQ (V := V) qs hns hQ (fun i hi => ?_) (fun t ht f hf => htail t ht f hf) hedge (fun i hi => hdis i hi) (g := ts.length) ?_ fs.length _ a [] _ (Mid.of hmid) hA ⟨s.env, s.sat⟩
  · have h1 := hlate i hi
    have hif : i ∈ fs := by simpa using h1.1
    obtain ⟨n, hn, hn2⟩ := List.getElem_of_mem hif
    have hz : (i, fo[n]'(by rw [← hfl']; exact hn)) ∈ fs.zip fo := by
      refine List.mem_iff_getElem.2 ⟨n, by simp [hfl'] at hn ⊢; omega, by simp [hn2]⟩
    obtain ⟨v, hv⟩ := hqv _ hz (by simpa using hi)
    refine ⟨hif, v, by rw [hV _ hz, hv], ?_⟩
    cases ho : os.toArray[i]? with
    | none => rw [ho] at h1; cases h1.2
    | some o => rw [ho] at h1; simp only [Bool.and_eq_true] at h1; exact ⟨o, rfl, h1.2.1, h1.2.2⟩
  intro a M w' hk s'
  exact wpAny_seq ts to _ a w' hseq htl htz (hk w' s')
end
end Go.SL

