import Derived.Test.YtpchomihojidpaaSl18
import Derived.SizedLaws
import Derived.ChangeSlices
import Derived.WideShapes
namespace Go.SL
set_option linter.unusedSimpArgs false
set_option linter.unusedVariables false
open Go.ChangeShapes Go.WideShapes
/-- an operation that hangs on a skipped one is skipped -/
theorem wanted_undef {os : List Oper} {o oj : Oper} {l : List Value} {j d : Nat} {want : Bool} (hg : o.guard = some (j, want)) (hj : nthO os j = some oj) (hd : oj.dst = some d) (hv : nth l d = some undef) : Region.wanted o (yielded os.toArray (fr l).tmps) = false := by
  have h1 := nthO_get _ _ _ hj
  have h2 := nth_get _ _ _ hv
  have h3 : yielded os.toArray (fr l).tmps j = none := by
    simp [yielded, h1, hd, fr, h2, undef]
  rw [Region.wanted, hg]; simp only [h3]; rfl
/-- what stands in slots that nobody reads again -/
def nthD : List Value → Nat → Value
  | [], _ => undef
  | v :: _, 0 => v
  | _ :: l, n + 1 => nthD l n
/-- a guarded operation that is wanted, as one without a guard -/
theorem l_ung {P : Program} {ops : Array Oper} {Q : Exit → Act → World → Prop} {w : World} {rest : List Oper} {o : Oper} {l : List Value} (hg : Region.wanted o (yielded ops (fr l).tmps) = true) (k : wpList P ops Q ({ o with guard := none } :: rest) (fr l) w) : wpList P ops Q (o :: rest) (fr l) w := by
  rw [wpList] at k ⊢
  rw [if_pos hg]
  rw [if_pos (wanted_none rfl _)] at k
  exact k
/-- all that an older world had -/
def OldW (w0 : World) : Asn := fun h => (hpOf w0).le h
theorem SL.start (w : World) : SL (envOf w) w [OldW w] :=
  ⟨rfl, hpOf w, fun _ => none, fun _ => .inr rfl, Hp.le.refl _, (fun _ _ e => by cases e), Hp.le.refl _, trivial⟩
theorem SL.below {w0 w : World} {L L' : List Asn} (s : SL (envOf w0) w L) (t : Take L (OldW w0) L') : Go.RowKit.Below w0.heap.size w0 w := by
  have hle : (hpOf w0).le (hpOf w) := by
    obtain ⟨h1, h2, _, l1, _, o, _⟩ := (s.take t).sat
    exact Hp.le.trans o l1
  have he := s.env
  simp only [envOf, Env.mk.injEq] at he
  refine ⟨he.1, he.2.1, he.2.2, ?_, fun k hk => ?_⟩
  · rcases Nat.lt_or_ge w.heap.size w0.heap.size with h | h
    · have h1 := hle w.heap.size w0.heap[w.heap.size] (by simp [hpOf, h])
      simp [hpOf] at h1
    · exact h
  · have h1 := hle k w0.heap[k] (by simp [hpOf, hk])
    simp only [hpOf] at h1
    rw [h1]; simp [hk]
theorem row_walk {P : Program} {f : FuncId} {vs : Array Value} {w : World} (h : Calls P f vs w (Rets fun v w' => v = .bool true ∧ SL (envOf w) w' [OldW w])) :
    Calls P f vs w (fun e w' => e = .returned (.bool true) ∧ Go.RowKit.Below w.heap.size w w') :=
  h.mono fun e w' r => by
    cases e <;> first | exact ⟨by rw [r.1], r.2.below (Take.here _ _)⟩ | exact r.elim
theorem wf64 {n : Int} (h : (Lit.int .i64 n).wf = true) : -9223372036854775808 ≤ n ∧ n ≤ 9223372036854775807 := by
  simp [Lit.wf, IntKind.min, IntKind.max, IntKind.signed, IntKind.bits] at h
  omega
/-- a slice of whole numbers, as a row tells it -/
def RowS (w : World) (a : Option Addr) (len cap : Nat) (zs : List Int) : Prop :=
  (a = none ∧ len = 0 ∧ cap = 0 ∧ zs = []) ∨
  ∃ x, a = some x ∧ len ≤ cap ∧ cap ≤ maxLen ∧ zs.length = cap ∧ (∀ i, i < zs.length → w.cell? (x.add i) = some (.int .i64 (zs.getD i 0))) ∧ ∀ n ∈ zs, (Lit.int .i64 n).wf = true
theorem rowR {w : World} {a : Option Addr} {len cap : Nat} {zs : List Int} (h : RowS w a len cap zs) {L : List Asn} : Ent (OldW w :: L) (SlR I64 (.slice a len cap) (zs.take len)) := by
  refine Ent.here (φ := SlR I64 (.slice a len cap) (zs.take len)) fun hp o => ?_
  rcases h with ⟨rfl, rfl, rfl, rfl⟩ | ⟨x, rfl, hl, hm, hz, hc, hw⟩
  · exact ⟨none, 0, rfl, Nat.le_refl _, rfl⟩
  · have e : (zs.take len).length = len := by rw [List.length_take, hz]; omega
    refine ⟨some x, cap, by rw [e], by rw [e]; exact hl, fun j u hj => ?_⟩
    have h2 : j < len := by
      have := (List.getElem?_eq_some_iff.1 hj).1
      rw [encs_length, e] at this
      simpa [I64] using this
    have h3 : (encs I64 (zs.take len))[j]? = some (.int .i64 ((zs.take len).getD j 0)) := by
      have := encs_get (c := I64) (zs.take len) (i := j) (j := 0) (by rw [e]; exact h2) (by decide)
      simpa [I64] using this
    rw [hj] at h3
    have h4 : (zs.take len).getD j 0 = zs.getD j 0 := by simp [List.getD_eq_getElem?_getD, List.getElem?_take, h2]
    rw [h4] at h3
    rw [h3]
    exact Hp.cell_mono o ((cell_hpOf w _).trans (hc j (by omega)))
theorem row_len {w : World} {a : Option Addr} {len cap : Nat} {zs : List Int} (h : RowS w a len cap zs) : (zs.take len).length = len := by
  rcases h with ⟨rfl, rfl, rfl, rfl⟩ | ⟨x, rfl, hl, hm, hz, hc, hw⟩
  · rfl
  · rw [List.length_take, hz]; omega
theorem row_in {w : World} {a : Option Addr} {len cap : Nat} {zs : List Int} (h : RowS w a len cap zs) : ∀ x ∈ zs.take len, -9223372036854775808 ≤ x ∧ x ≤ 9223372036854775807 := by
  intro x hx
  rcases h with ⟨rfl, rfl, rfl, rfl⟩ | ⟨_, rfl, hl, hm, hz, hc, hw⟩
  · simp at hx
  · exact wf64 (hw x (List.mem_of_mem_take hx))
/-- a slice among the arguments, opened -/
theorem row_open {H : Type} {enc : TypeId × Value → H} {P : Program} {W : World} {t e : TypeId} {a : Option Addr} {len cap : Nat} {d : DataW H} {ps : List MemPlace} {spare : Nat → Bool} {held : Bool} {base : Nat} (hs : ∀ b, spare b = true)
    (hu : P.underlying t = some (.slice e)) (he : P.underlying e = some (.int .i64)) (hc : P.cellsOf e = 1) (h : DataW.Trod enc P W base spare held t (.slice a len cap) d ps) : ∃ zs, RowS W a len cap zs := by
  obtain ⟨fuel, hf⟩ := h
  rcases open_ints hu he hc hf with ⟨hcs, _⟩ | ⟨x, l, c, zs, hcs, _, hl, hm, hz, _, hcell, hwz⟩
  · simp [Value.cells] at hcs
    obtain ⟨rfl, rfl, rfl⟩ := hcs
    exact ⟨[], .inl ⟨rfl, rfl, rfl, rfl⟩⟩
  · simp [Value.cells] at hcs
    obtain ⟨rfl, rfl, rfl⟩ := hcs
    exact ⟨zs, .inr ⟨_, rfl, hl, hm, by rw [hz, hs, if_pos rfl], hcell, hwz⟩⟩
theorem row_size {H : Type} {enc : TypeId × Value → H} {P : Program} {W : World} {base : Nat} {spare : Nat → Bool} {held : Bool} {t e : TypeId} {k : IntKind} {a : Option Addr} {len cap : Nat} {d : DataW H} {ps : List MemPlace} {ts : List TypeId} {ds : List (DataW H)} {j : Nat}
    (hsz : (DataW.weightsEach P ts ds).all (· ≤ reachBytes) = true) (ht : ts[j]? = some t) (hd : ds[j]? = some d) (hu : P.underlying t = some (.slice e)) (he : P.underlying e = some (.int k)) (hc : P.cellsOf e = 1) (hB : P.bytesOf e = 8)
    (h : DataW.Trod enc P W base spare held t (.slice a len cap) d ps) : len ≤ 20000000000000 := by
  obtain ⟨fuel, hf⟩ := h
  rcases open_ints hu he hc hf with ⟨hcs, _⟩ | ⟨x, l, c, zs, hcs, _, hl, _, hz, hx, _, _⟩
  · simp [Value.cells] at hcs
    obtain ⟨rfl, rfl, rfl⟩ := hcs
    simp
  · simp [Value.cells] at hcs
    obtain ⟨rfl, rfl, rfl⟩ := hcs
    obtain ⟨hx, _⟩ := Prod.mk.inj hx
    subst hx
    have z := sized_slice hsz ht hd hu
    rw [hB] at z
    have hl2 : len ≤ zs.length := by
      rw [hz]
      split
      · exact hl
      · exact Nat.le_refl _
    have h1 : (lits (H := H) k (zs.take len)).length + (lits (H := H) k (zs.drop len)).length = zs.length := by
      simp [lits]
      omega
    rw [h1] at z
    have z2 : zs.length * 8 ≤ 140737488351232 := z
    omega
end Go.SL
