import Derived.Test.YtpchomihojidpaaSl14
namespace Go.SL
section
variable {P : Program} {e : Env} {o : Oper} {l l' : List Value} {L M : List Asn} {os rest : List Oper} {w : World} {Q : Exit → Act → World → Prop} {K : Act → List Asn → Prop} {xs : List (Oper × VS)}
def nthO : List Oper → Nat → Option Oper
  | [], _ => none
  | o :: _, 0 => some o
  | _ :: l, n + 1 => nthO l n
theorem nthO_get : ∀ (l : List Oper) (t : Nat) (v : Oper), nthO l t = some v → l[t]? = some v := by
  intro l; induction l with
  | nil => intro t v h; cases h
  | cons x l ih => intro t v h; cases t with
    | zero => simpa [nthO] using h
    | succ t => simpa using ih t v h
/-- whether a guarded operation is carried out -/
theorem wanted_of {j d : Nat} {want b r : Bool} {oj : Oper} (hg : o.guard = some (j, want)) (hj : nthO os j = some oj) (hd : oj.dst = some d) (hv : nth l d = some (.bool b)) (hr : (b == want) = r) : Region.wanted o (yielded os.toArray (fr l).tmps) = r := by
  have h1 := nthO_get _ _ _ hj
  have h2 := nth_get _ _ _ hv
  have h3 : yielded os.toArray (fr l).tmps j = some b := by
    simp [yielded, h1, hd, fr, h2]
  rw [Region.wanted, hg]
  simp only [h3]
  rw [← hr]
  cases b <;> cases want <;> rfl
end
/-- A is one of the list's -/
def Has (L : List Asn) (A : Asn) : Prop := ∃ L', Take L A L'
theorem Has.here (A : Asn) (L : List Asn) : Has (A :: L) A := ⟨L, Take.here A L⟩
theorem Has.there {A : Asn} {L : List Asn} (B : Asn) (h : Has L A) : Has (B :: L) A := let ⟨L', t⟩ := h; ⟨B :: L', Take.there B t⟩
theorem Has.app {A : Asn} {L : List Asn} (h : Has L A) (M : List Asn) : Has (M ++ L) A := let ⟨L', t⟩ := h; ⟨M ++ L', t.app M⟩
theorem Has.of {A : Asn} {L L' : List Asn} (t : Take L A L') : Has L A := ⟨L', t⟩
end Go.SL
