import Derived.Test.YtpchomihojidpaaSl5
namespace Go.SL
set_option linter.unusedSimpArgs false

/-! regions that draw their order: first what hangs on no memory, then in any order what reads or makes memory, then what waits for all of it -/
abbrev VS := Value → List Asn → Prop
/-- what an operation may come to: one value -/
def vq (v : Value) : VS := fun u E => u = v ∧ E = []
/-- a new block -/
def vb (f : Nat → Value) (A : Nat → Asn) : VS := fun u E => ∃ b, u = f b ∧ E = [A b]

section
variable {P : Program} {e : Env} {L : List Asn} {ops : Array Oper} {md : Region.Mode} {V : Nat → VS} {fs : List Nat}

def gUpon (P : Program) (e : Env) (M : List Asn) (V : VS) : Result Next → Prop
  | .ok (.value v) w' => ∃ E, V v E ∧ SL e w' (E ++ M)
  | .ok .skip w' => ∃ E, V undef E ∧ SL e w' (E ++ M)
  | .ok (.enter f args) w' => Calls P f args w' (Rets fun v w'' => ∃ E, V v E ∧ SL e w'' (E ++ M))
  | _ => False
def YG (P : Program) (e : Env) (L : List Asn) (ops : Array Oper) (o : Oper) (a : Act) (V : VS) : Prop :=
  (Region.wanted o (yielded ops a.tmps) = true ∧ ∀ w M, SL e w (M ++ L) → gUpon P e (M ++ L) V ((execOp a.eval o).run P w)) ∨
  (Region.wanted o (yielded ops a.tmps) = false ∧ V undef [] ∧ ∀ v E, V v E → v = undef ∧ E = [])

theorem YG.of_same {o : Oper} {V : VS} {a a' : Act} (h : YG P e L ops o a V) (he : execOp a'.eval o = execOp a.eval o) (hw : Region.wanted o (yielded ops a'.tmps) = Region.wanted o (yielded ops a.tmps)) : YG P e L ops o a' V := by
  unfold YG at *
  rw [he, hw]; exact h
theorem YG.wpOp {i : Nat} {o : Oper} {V : VS} {a : Act} {w : World} {M : List Asn} {K : Act → World → Prop} {Q : Exit → Act → World → Prop} (hi : ops[i]? = some o) (h : YG P e L ops o a V) (s : SL e w (M ++ L))
    (k : ∀ v E w', V v E → SL e w' (E ++ M ++ L) → K (a.put o.dst v) w') : wpOp P ops Q i K a w := by
  unfold Go.wpOp
  simp only [hi]
  rcases h with ⟨hw, h⟩ | ⟨hw, hu, hv⟩
  · rw [if_pos hw]
    left
    have h1 := h w M s
    unfold Oper.wp
    generalize (execOp a.eval o).run P w = r at *
    cases r with
    | halt x w' => exact h1.elim
    | ok n w' =>
      cases n <;> simp only [gUpon] at h1 <;> simp only [Oper.upon]
      case value v => obtain ⟨E, hv, s'⟩ := h1; exact k v E _ hv (by rw [List.append_assoc]; exact s')
      case skip => obtain ⟨E, hv, s'⟩ := h1; exact k undef E _ hv (by rw [List.append_assoc]; exact s')
      case enter f args =>
        refine h1.mono fun en w'' r => ?_
        cases en with
        | returned v => obtain ⟨E, hv, s'⟩ := r; exact k v E _ hv (by rw [List.append_assoc]; exact s')
        | panicked c => exact r.elim
        | outgrown => exact r.elim
  · rw [if_neg (by rw [hw]; simp)]
    exact k undef [] w hu s

theorem Sat.perm {L L' : List Asn} (p : L.Perm L') : ∀ {h : Hp}, Sat L h → Sat L' h := by
  induction p with
  | nil => exact fun s => s
  | cons x _ ih => exact fun s => Sat.tail (fun _ => ih) s
  | swap x y l => exact fun s => s.swap
  | trans _ _ ih1 ih2 => exact fun s => ih2 (ih1 s)
theorem SL.perm {w : World} {L L' : List Asn} (s : SL e w L) (p : L.Perm L') : SL e w L' := ⟨s.env, s.sat.perm p⟩

def AnyD (P : Program) (e : Env) (L : List Asn) (ops : Array Oper) (md : Region.Mode) (V : Nat → VS) (fs : List Nat) (K : Act → List Asn → Prop) : Nat → Array Bool → Act → List Asn → Prop
  | 0, listed, a, M => (∀ i ∈ Region.ready md ops listed, i ∉ fs) ∧ K a M
  | f + 1, listed, a, M => ((∀ i ∈ Region.ready md ops listed, i ∉ fs) → K a M) ∧
      ∀ i ∈ Region.ready md ops listed, i ∈ fs → ∃ o, ops[i]? = some o ∧ YG P e L ops o a (V i) ∧ ∀ v E, V i v E → AnyD P e L ops md V fs K f (listed.setIfInBounds i true) (a.put o.dst v) (E ++ M)
theorem AnyD.perm {K : Act → List Asn → Prop} (hK : ∀ a M M', M.Perm M' → K a M → K a M') : ∀ (f : Nat) (listed : Array Bool) (a : Act) (M M' : List Asn), M.Perm M' → AnyD P e L ops md V fs K f listed a M → AnyD P e L ops md V fs K f listed a M'
  | 0, _, _, _, _, p, h => ⟨h.1, hK _ _ _ p h.2⟩
  | f + 1, listed, a, M, M', p, h => ⟨fun h0 => hK _ _ _ p (h.1 h0), fun i hi hf => by
      obtain ⟨o, ho, hy, hn⟩ := h.2 i hi hf
      exact ⟨o, ho, hy, fun v E hv => AnyD.perm hK f _ _ _ _ (List.Perm.append_left E p) (hn v E hv)⟩⟩

theorem AnyD.first {K : Act → List Asn → Prop} (hK : ∀ a M M', M.Perm M' → K a M → K a M') {i : Nat} {oi : Oper} (hi : ops[i]? = some oi) (hif : i ∈ fs) (hsel : ∀ (j : Nat) (o : Oper) cs b, ops[j]? = some o → o.op ≠ .select cs b) (hin : ∃ v E, V i v E) :
    ∀ (f : Nat) (listed : Array Bool) (a : Act) (M : List Asn),
      (∀ j oj, ops[j]? = some oj → j ≠ i → listed.getD j true = false → (∀ e ∈ oj.after, Region.binds md e = true → e.on ≠ i) → oi.apart ops oj = true) →
      i ∈ Region.ready md ops listed → YG P e L ops oi a (V i) → (∀ v E, V i v E → AnyD P e L ops md V fs K f (listed.setIfInBounds i true) (a.put oi.dst v) (E ++ M)) → AnyD P e L ops md V fs K (f + 1) listed a M := by
  obtain ⟨v0, E0, hv0⟩ := hin
  intro f
  induction f with
  | zero =>
    intro listed a M _ hr hy H
    refine ⟨fun h => absurd hif (h i hr), fun j hj hjf => ?_⟩
    by_cases hji : j = i
    · subst hji; exact ⟨oi, hi, hy, H⟩
    · exact absurd hjf ((H v0 E0 hv0).1 j (ready_mono hj hji))
  | succ f ih =>
    intro listed a M hfree hr hy H
    refine ⟨fun h => absurd hif (h i hr), fun j hj hjf => ?_⟩
    by_cases hji : j = i
    · subst hji; exact ⟨oi, hi, hy, H⟩
    · obtain ⟨oj, hoj, hyj, hnj⟩ := (H v0 E0 hv0).2 j (ready_mono hj hji) hjf
      obtain ⟨hjun, oj', hoj', hall⟩ := mem_ready.1 hj
      rw [hoj] at hoj'
      obtain rfl : oj = oj' := by simpa using hoj'
      have hnot : ∀ e ∈ oj.after, Region.binds md e = true → e.on ≠ i := fun e he hb heq => by
        have h1 := hall e he hb
        have h0 := (mem_ready.1 hr).1
        rw [heq] at h1
        rcases Nat.lt_or_ge i listed.size with h' | h'
        · simp [h'] at h0 h1; rw [h0] at h1; cases h1
        · simp [Array.getElem?_eq_none h'] at h1
      have hap := hfree j oj hoj hji hjun hnot
      obtain ⟨h1, h2, h3⟩ := Oper.apart_spec hap
      have hsi := fun cs b => hsel i oi cs b hi
      have hsj := fun cs b => hsel j oj cs b hoj
      have hyj' : YG P e L ops oj a (V j) := hyj.of_same (execOp_put oj hsj a oi.dst v0 h1).symm (wanted_put oj a oi.dst v0 h1).symm
      refine ⟨oj, hoj, hyj', fun u F hu => ?_⟩
      have hfree' : ∀ k ok, ops[k]? = some ok → k ≠ i → (listed.setIfInBounds j true).getD k true = false →
          (∀ e ∈ ok.after, Region.binds md e = true → e.on ≠ i) → oi.apart ops ok = true := fun k ok hk hki hun hno => by
        refine hfree k ok hk hki ?_ hno
        by_cases hjk : j = k
        · subst hjk; exact hjun
        · rw [getD_set_ne true hjk] at hun; exact hun
      refine ih (listed.setIfInBounds j true) (a.put oj.dst u) (F ++ M) hfree' (ready_mono hr (Ne.symm hji)) (hy.of_same (execOp_put oi hsi a oj.dst u h3) (wanted_put oi a oj.dst u h3)) fun v E hv => ?_
      obtain ⟨oj2, hoj2, _, hn2⟩ := (H v E hv).2 j (ready_mono hj hji) hjf
      rw [hoj] at hoj2
      obtain rfl : oj = oj2 := by simpa using hoj2
      have := hn2 u F hu
      rw [Array.setIfInBounds_comm _ _ hji, ← Act.put_comm a v u h2]
      refine AnyD.perm hK _ _ _ _ _ ?_ this
      rw [← List.append_assoc, ← List.append_assoc]
      exact List.Perm.append_right M List.perm_append_comm

/-! the walk of the front, in the order ks -/
def lexD (md : Region.Mode) (ops : Array Oper) (fs : List Nat) : Array Bool → List Nat → Bool
  | listed, [] => (Region.ready md ops listed).all fun i => !fs.contains i
  | listed, k :: ks => (Region.ready md ops listed).contains k && fs.contains k && Region.free md ops listed k && lexD md ops fs (listed.setIfInBounds k true) ks
def WD (P : Program) (e : Env) (L : List Asn) (ops : Array Oper) (K : Act → List Asn → Prop) : List (Oper × VS) → Act → List Asn → Prop
  | [], a, M => K a M
  | x :: xs, a, M => YG P e L ops x.1 a x.2 ∧ (∃ v E, x.2 v E) ∧ ∀ v E, x.2 v E → WD P e L ops K xs (a.put x.1.dst v) (E ++ M)
theorem AnyD.lex {K : Act → List Asn → Prop} (hK : ∀ a M M', M.Perm M' → K a M → K a M') (hs : Region.noSelect ops = true) (ks : List Nat) : ∀ (xs : List (Oper × VS)) (listed : Array Bool) (a : Act) (M : List Asn),
    ks.length = xs.length → (∀ p ∈ ks.zip xs, ops[p.1]? = some p.2.1 ∧ V p.1 = p.2.2) → lexD md ops fs listed ks = true → WD P e L ops K xs a M → AnyD P e L ops md V fs K ks.length listed a M := by
  induction ks with
  | nil =>
    intro xs listed a M hl _ hB h
    cases xs with
    | nil => exact ⟨by simpa [lexD] using hB, h⟩
    | cons x xs => simp at hl
  | cons k ks ih =>
    intro xs listed a M hl hz hB h
    cases xs with
    | nil => simp at hl
    | cons x xs =>
      simp only [lexD, Bool.and_eq_true] at hB
      obtain ⟨⟨⟨hr, hf⟩, hfree⟩, hB'⟩ := hB
      obtain ⟨ho, hV⟩ := hz (k, x) (by simp)
      obtain ⟨hy, hin, hn⟩ := h
      refine AnyD.first hK ho (by simpa using hf) (Region.noSelect_spec hs) (by rw [hV]; exact hin) ks.length listed a M (Region.free_spec ho hfree) (by simpa using hr) (by rw [hV]; exact hy) fun v E hv => ?_
      rw [hV] at hv
      exact ih xs _ _ _ (by simpa using hl) (fun p hp => hz p (by simp [hp])) hB' (hn v E hv)

/-! back to worlds -/
theorem wpAny_more {Q : Exit → Act → World → Prop} : ∀ (f : Nat) (listed : Array Bool) (a : Act) (w : World), wpAny P md ops Q f listed a w → wpAny P md ops Q (f + 1) listed a w
  | 0, _, _, _, h => ⟨fun _ => h.2, fun i hi => by rw [h.1] at hi; cases hi⟩
  | f + 1, _, _, _, h => ⟨h.1, fun i hi => wpOp_mono (fun a' w' h' => wpAny_more f _ a' w' h') (h.2 i hi)⟩
theorem wpAny_moreN {Q : Exit → Act → World → Prop} {f : Nat} {listed : Array Bool} {a : Act} {w : World} (h : wpAny P md ops Q f listed a w) (g : Nat) : wpAny P md ops Q (g + f) listed a w := by
  induction g with
  | zero => rw [Nat.zero_add]; exact h
  | succ g ih => rw [Nat.add_right_comm]; exact wpAny_more _ _ _ _ ih

/-- t waits for f, over others -/
def reachB (md : Region.Mode) (ops : Array Oper) : Nat → Nat → Nat → Bool
  | 0, _, _ => false
  | n + 1, t, f => match ops[t]? with
    | none => false
    | some o => o.after.any (fun e => Region.binds md e && e.on == f) || o.after.any (fun e => Region.binds md e && reachB md ops n e.on f)
/-- listed: what each one waits for is listed, too -/
def Down (md : Region.Mode) (ops : Array Oper) (listed : Array Bool) : Prop := ∀ (j : Nat) (o : Oper), ops[j]? = some o → listed.getD j false = true → ∀ e ∈ o.after, Region.binds md e = true → listed.getD e.on false = true
theorem reach_listed {listed : Array Bool} (hd : Down md ops listed) : ∀ (n t f : Nat) (o : Oper), ops[t]? = some o → (∀ e ∈ o.after, Region.binds md e = true → listed.getD e.on false = true) → reachB md ops n t f = true → listed.getD f false = true
  | 0, _, _, _, _, _, h => by cases h
  | n + 1, t, f, o, ho, hall, h => by
    simp only [reachB, ho, Bool.or_eq_true] at h
    rcases h with h | h
    · obtain ⟨e, he, hb⟩ := Array.any_eq_true'.1 h
      simp only [Bool.and_eq_true, beq_iff_eq] at hb
      rw [← hb.2]; exact hall e he hb.1
    · obtain ⟨e, he, hb⟩ := Array.any_eq_true'.1 h
      simp only [Bool.and_eq_true] at hb
      have hl := hall e he hb.1
      cases hoe : ops[e.on]? with
      | none =>
        have := hb.2
        cases n with
        | zero => cases this
        | succ n => simp only [reachB, hoe] at this; cases this
      | some oe => exact reach_listed hd n e.on f oe hoe (hd e.on oe hoe hl) hb.2
theorem Down.set {listed : Array Bool} (hd : Down md ops listed) {i : Nat} (hi : i ∈ Region.ready md ops listed) : Down md ops (listed.setIfInBounds i true) := by
  intro j o ho hl e he hb
  by_cases hji : i = j
  · subst hji
    obtain ⟨_, o', ho', hall⟩ := mem_ready.1 hi
    rw [ho] at ho'
    obtain rfl : o = o' := by simpa using ho'
    exact getD_set_true (hall e he hb)
  · rw [getD_set_ne false hji] at hl
    exact getD_set_true (hd j o ho hl e he hb)

/-- the tail waits for all of the front, the front for nothing of the tail; all edges go back -/
def tailB (md : Region.Mode) (ops : Array Oper) (fs ts : List Nat) : Bool :=
  ts.all (fun t => fs.all fun f => reachB md ops ops.size t f) &&
  (List.range ops.size).all (fun i => match ops[i]? with
    | none => true
    | some o => o.after.all (fun e => !Region.binds md e || (decide (e.on < i) && (ts.contains i || !ts.contains e.on))))
/-- where the front is done -/
def frontDone (ts : List Nat) (n : Nat) : Array Bool := (Array.range n).map fun j => !ts.contains j
structure Mid (md : Region.Mode) (ops : Array Oper) (fs ts : List Nat) (listed : Array Bool) : Prop where
  size : listed.size = ops.size
  down : Down md ops listed
  tail : ∀ j, j < ops.size → ts.contains j = true → listed.getD j false = false
  rest : ∀ j, j < ops.size → ts.contains j = false → fs.contains j = false → listed.getD j false = true
theorem Mid.set {ts : List Nat} {listed : Array Bool} (m : Mid md ops fs ts listed) {i : Nat} (hi : i ∈ Region.ready md ops listed) (hf : i ∈ fs) (hft : ts.contains i = false) : Mid md ops fs ts (listed.setIfInBounds i true) := by
  refine ⟨by simpa using m.size, m.down.set hi, fun j hj ht => ?_, fun j hj ht hnf => getD_set_true (m.rest j hj ht hnf)⟩
  have : i ≠ j := fun e => by subst e; rw [hft] at ht; cases ht
  rw [getD_set_ne false this]; exact m.tail j hj ht
theorem Mid.done {ts : List Nat} {listed : Array Bool} (m : Mid md ops fs ts listed) (hT : tailB md ops fs ts = true) (hno : ∀ i ∈ Region.ready md ops listed, i ∉ fs) (hdis : ∀ i ∈ fs, ts.contains i = false) : listed = frontDone ts ops.size := by
  simp only [tailB, Bool.and_eq_true, List.all_eq_true, List.mem_range] at hT
  have hall : ∀ n j, j < n → j < ops.size → ts.contains j = false → listed.getD j false = true := by
    intro n
    induction n with
    | zero => intro j h; omega
    | succ n ih =>
      intro j hj hjs ht
      by_cases hjf : fs.contains j = true
      · cases hl : listed.getD j false with
        | true => rfl
        | false =>
          exfalso
          refine hno j (mem_ready.2 ⟨?_, ops[j], by simp [hjs], fun e he hb => ?_⟩) (by simpa using hjf)
          · have : j < listed.size := by rw [m.size]; exact hjs
            simp [this] at hl ⊢; exact hl
          · have h1 := hT.2 j hjs
            simp only [Array.getElem?_eq_getElem hjs] at h1
            have h2 := Array.all_eq_true_iff_forall_mem.1 h1 e he
            simp only [hb, Bool.not_true, Bool.false_or, Bool.and_eq_true, decide_eq_true_eq, Bool.or_eq_true, ht, Bool.false_eq_true, false_or, Bool.not_eq_true'] at h2
            exact ih e.on (by omega) (by omega) h2.2
      · exact m.rest j hjs ht (by simpa using hjf)
  apply Array.ext
  · simp [frontDone, m.size]
  · intro j h1 h2
    have hj : j < ops.size := by rw [← m.size]; exact h1
    simp only [frontDone, Array.getElem_map, Array.getElem_range]
    cases ht : ts.contains j with
    | true => have := m.tail j hj ht; simp [h1] at this; simpa using this
    | false => have := hall (j + 1) j (by omega) hj ht; simp [h1] at this; simpa using this

theorem wpAny_of_AnyD {Q : Exit → Act → World → Prop} {K : Act → List Asn → Prop} {ts : List Nat} {g : Nat} (hT : tailB md ops fs ts = true) (hdis : ∀ i ∈ fs, ts.contains i = false)
    (hK : ∀ a M w, K a M → SL e w (M ++ L) → wpAny P md ops Q g (frontDone ts ops.size) a w) :
    ∀ (f : Nat) (listed : Array Bool) (a : Act) (M : List Asn) (w : World), Mid md ops fs ts listed → AnyD P e L ops md V fs K f listed a M → SL e w (M ++ L) → wpAny P md ops Q (f + g) listed a w := by
  intro f
  induction f with
  | zero =>
    intro listed a M w m h s
    have := m.done hT h.1 hdis
    rw [this, Nat.zero_add]
    exact hK a M w h.2 s
  | succ f ih =>
    intro listed a M w m h s
    by_cases hno : ∀ i ∈ Region.ready md ops listed, i ∉ fs
    · have := m.done hT hno hdis
      rw [this]
      exact wpAny_moreN (hK a M w (h.1 hno) s) (f + 1)
    · rw [show f + 1 + g = (f + g) + 1 by omega]
      refine ⟨fun h0 => (hno (by rw [h0]; intro i hi; cases hi)).elim, fun i hi => ?_⟩
      by_cases hif : i ∈ fs
      · obtain ⟨o, ho, hy, hn⟩ := h.2 i hi hif
        refine hy.wpOp ho s fun v E w' hv s' => ?_
        exact ih _ _ (E ++ M) w' (m.set hi hif (hdis i hif)) (hn v E hv) s'
      · -- a tail's operation is never ready before the front is done
        exfalso
        obtain ⟨hun, o, ho, hall⟩ := mem_ready.1 hi
        have his : i < ops.size := (Array.getElem?_eq_some_iff.1 ho).1
        cases ht : ts.contains i with
        | false =>
          have h1 := m.rest i his ht (by simpa using hif)
          have : i < listed.size := by rw [m.size]; exact his
          simp [this] at h1 hun
          rw [h1] at hun; cases hun
        | true =>
          refine hno fun j hj hjf => ?_
          simp only [tailB, Bool.and_eq_true, List.all_eq_true] at hT
          have h1 := hT.1 i (by simpa using ht) j hjf
          have h2 := reach_listed m.down _ _ _ o ho hall h1
          obtain ⟨hjun, oj, hoj, _⟩ := mem_ready.1 hj
          have : j < listed.size := by rw [m.size]; exact (Array.getElem?_eq_some_iff.1 hoj).1
          simp [this] at h2 hjun
          rw [h2] at hjun; cases hjun

/-! the tail, one behind the other -/
def seqB (md : Region.Mode) (ops : Array Oper) : Array Bool → List Nat → Bool
  | listed, [] => (Region.ready md ops listed).isEmpty
  | listed, k :: ks => decide (Region.ready md ops listed = [k]) && seqB md ops (listed.setIfInBounds k true) ks
theorem wpAny_seq {Q : Exit → Act → World → Prop} (ks : List Nat) : ∀ (os : List Oper) (listed : Array Bool) (a : Act) (w : World), seqB md ops listed ks = true → ks.length = os.length → (∀ p ∈ ks.zip os, ops[p.1]? = some p.2) → wpList P ops Q os a w → wpAny P md ops Q ks.length listed a w := by
  induction ks with
  | nil =>
    intro os listed a w hB hl _ h
    cases os with
    | nil => exact ⟨by simpa [seqB] using hB, h⟩
    | cons o os => simp at hl
  | cons k ks ih =>
    intro os listed a w hB hl hz h
    cases os with
    | nil => simp at hl
    | cons o os =>
      simp only [seqB, Bool.and_eq_true, decide_eq_true_eq] at hB
      refine ⟨fun h0 => (by rw [h0] at hB; cases hB.1), fun i hi => ?_⟩
      rw [hB.1] at hi
      obtain rfl : i = k := by simpa using hi
      have ho := hz (i, o) (by simp)
      unfold wpOp
      simp only at ho
      simp only [ho]
      unfold wpList at h
      split
      · rename_i hw
        rw [if_pos hw] at h
        rcases h with h | h
        · exact .inl (Oper.wp_mono (fun a' w' h' => ih os _ a' w' hB.2 (by simpa using hl) (fun p hp => hz p (by simp [hp])) h') h)
        · exact .inr h
      · rename_i hw
        rw [if_neg hw] at h
        exact ih os _ _ _ hB.2 (by simpa using hl) (fun p hp => hz p (by simp [hp])) h

/-! what hangs on no memory, first -/
def pureB (md : Region.Mode) (ops : Array Oper) : Array Bool → List Nat → Bool
  | _, [] => true
  | listed, k :: ks => (Region.ready md ops listed).contains k && Region.free md ops listed k && pureB md ops (listed.setIfInBounds k true) ks
def listAll (listed : Array Bool) : List Nat → Array Bool
  | [] => listed
  | k :: ks => listAll (listed.setIfInBounds k true) ks
def WP (P : Program) (ops : Array Oper) (K : Act → Prop) : List Oper → Act → Prop
  | [], a => K a
  | o :: os, a => ∃ v, Yields P ops o v a ∧ WP P ops K os (a.put o.dst v)
theorem wpAny_pure {Q : Exit → Act → World → Prop} (hs : Region.noSelect ops = true) (hQ : ∀ c a w, ¬ Q (.panic c) a w) {w : World} {g : Nat} (ks : List Nat) : ∀ (os : List Oper) (listed : Array Bool) (a : Act), pureB md ops listed ks = true → ks.length = os.length → (∀ p ∈ ks.zip os, ops[p.1]? = some p.2) →
    WP P ops (fun a => wpAny P md ops Q g (listAll listed ks) a w) os a → wpAny P md ops Q (ks.length + g) listed a w := by
  induction ks with
  | nil =>
    intro os listed a _ hl _ h
    cases os with
    | nil => rw [List.length_nil, Nat.zero_add]; exact h
    | cons o os => simp at hl
  | cons k ks ih =>
    intro os listed a hB hl hz h
    cases os with
    | nil => simp at hl
    | cons o os =>
      simp only [pureB, Bool.and_eq_true] at hB
      obtain ⟨⟨hr, hf⟩, hB'⟩ := hB
      have ho := hz (k, o) (by simp)
      obtain ⟨v, hy, h⟩ := h
      rw [List.length_cons, show ks.length + 1 + g = (ks.length + g) + 1 by omega]
      exact wpAny_first ho (Region.noSelect_spec hs) (fun c a w h => (hQ _ _ _ h).elim) _ _ _ _ (Region.free_spec ho hf) (by simpa using hr) hy (ih os _ _ hB' (by simpa using hl) (fun p hp => hz p (by simp [hp])) h)

def midB (md : Region.Mode) (ops : Array Oper) (ps fs ts : List Nat) : Bool :=
  let listed := listAll (Array.replicate ops.size false) ps
  decide (listed.size = ops.size) && (List.range ops.size).all (fun j => (match ops[j]? with
      | none => true
      | some o => !listed.getD j false || o.after.all (fun e => !Region.binds md e || listed.getD e.on false)) &&
    (!ts.contains j || !listed.getD j false) && (ts.contains j || fs.contains j || listed.getD j false))
theorem Mid.of {ps ts : List Nat} (h : midB md ops ps fs ts = true) : Mid md ops fs ts (listAll (Array.replicate ops.size false) ps) := by
  simp only [midB, Bool.and_eq_true, decide_eq_true_eq, List.all_eq_true, List.mem_range] at h
  refine ⟨h.1, fun j o ho hl e he hb => ?_, fun j hj ht => ?_, fun j hj ht hf => ?_⟩
  · have h1 := (h.2 j (Array.getElem?_eq_some_iff.1 ho).1).1.1
    simp only [ho, hl, Bool.not_true, Bool.false_or] at h1
    have h2 := Array.all_eq_true_iff_forall_mem.1 h1 e he
    simpa [hb] using h2
  · have h1 := (h.2 j hj).1.2
    rw [ht] at h1
    simpa using h1
  · have h1 := (h.2 j hj).2
    rw [ht, hf] at h1
    simpa using h1

/-- all that is to be looked up of a region -/
def drawB (md : Region.Mode) (ops : Array Oper) (ps fs ts : List Nat) : Bool :=
  Region.noSelect ops && pureB md ops (Array.replicate ops.size false) ps && midB md ops ps fs ts && lexD md ops fs (listAll (Array.replicate ops.size false) ps) fs && tailB md ops fs ts && fs.all (fun i => !ts.contains i) &&
    seqB md ops (frontDone ts ops.size) ts && decide (ps.length + fs.length + ts.length = ops.size)
def pickO (ops : List Oper) (ks : List Nat) : List Oper := ks.filterMap (ops[·]?)

theorem c_drawn {id : Nat} {os : List Oper} {Q : Exit → Act → World → Prop} {l : List Value} {w : World} (ps fs ts : List Nat) (po to : List Oper) (fo : List (Oper × VS)) (s : SL e w L) (hm : P.follows .mixedOrders = true) (hB : drawB .any os.toArray ps fs ts = true)
    (hQ : ∀ c a w, ¬ Q (.panic c) a w)
    (hp : ps.map (os[·]?) = po.map some) (hf : fs.map (os[·]?) = (fo.map (·.1)).map some) (ht : ts.map (os[·]?) = to.map some) (hnd : fs.Nodup)
    (h : WP P os.toArray (WD P e L os.toArray (fun a M => ∀ w', SL e w' (M ++ L) → wpList P os.toArray Q to a w') fo · []) po (fr l)) : (Code.region id os.toArray true).wp P Q (fr l) w := by
  simp only [drawB, Bool.and_eq_true, decide_eq_true_eq, List.all_eq_true, Bool.not_eq_true'] at hB
  obtain ⟨⟨⟨⟨⟨⟨⟨hns, hpure⟩, hmid⟩, hlex⟩, htail⟩, hdis⟩, hseq⟩, hsum⟩ := hB
  have zip_of : ∀ {ks : List Nat} {xs : List Oper}, ks.map (os[·]?) = xs.map some → ks.length = xs.length ∧ ∀ p ∈ ks.zip xs, os.toArray[p.1]? = some p.2 := by
    intro ks
    induction ks with
    | nil => intro xs h; cases xs with
      | nil => exact ⟨rfl, by simp⟩
      | cons x xs => simp at h
    | cons k ks ih => intro xs h; cases xs with
      | nil => simp at h
      | cons x xs =>
        simp only [List.map_cons, List.cons.injEq] at h
        obtain ⟨h1, h2⟩ := ih h.2
        refine ⟨by simp [h1], fun p hp => ?_⟩
        simp only [List.zip_cons_cons, List.mem_cons] at hp
        rcases hp with rfl | hp
        · simpa using h.1
        · exact h2 p hp
  refine wp_region_any hm ?_
  have hsum' : os.toArray.size = ps.length + (fs.length + ts.length) := by rw [← hsum]; omega
  obtain ⟨hpl, hpz⟩ := zip_of hp
  obtain ⟨htl, htz⟩ := zip_of ht
  obtain ⟨hfl, hfz⟩ := zip_of hf
  have hfl' : fs.length = fo.length := by simpa using hfl
  suffices hh : wpAny P .any os.toArray Q (ps.length + (fs.length + ts.length)) (Array.replicate os.toArray.size false) (fr l) { w with drawn := w.drawn + 1 } by
    rw [← hsum'] at hh; exact hh
  refine wpAny_pure hns hQ ps po _ _ hpure hpl hpz ?_
  -- the values by their numbers
  let V : Nat → VS := fun i => ((fs.zip fo).find? (·.1 == i)).elim (fun _ _ => False) (·.2.2)
  have hV : ∀ p ∈ fs.zip fo, V p.1 = p.2.2 := by
    intro p hp
    have : ∀ (ks : List Nat) (xs : List (Oper × VS)), ks.Nodup → p ∈ ks.zip xs → (ks.zip xs).find? (·.1 == p.1) = some p := by
      intro ks
      induction ks with
      | nil => intro xs _ h; simp at h
      | cons k ks ih =>
        intro xs hn h
        cases xs with
        | nil => simp at h
        | cons x xs =>
          simp only [List.zip_cons_cons, List.mem_cons] at h
          rw [List.zip_cons_cons, List.find?_cons]
          rcases h with rfl | h
          · simp
          · have hne : (k == p.1) = false := by
              have h1 : p.1 ∈ ks := (List.of_mem_zip h).1
              have h2 := (List.nodup_cons.1 hn).1
              simp only [beq_eq_false_iff_ne, ne_eq]
              intro e; rw [e] at h2; exact h2 h1
            simp only [hne]
            exact ih xs (List.nodup_cons.1 hn).2 h
    simp only [V, this fs fo hnd hp, Option.elim_some]
  have mono : ∀ (os' : List Oper) (K K' : Act → Prop) (a : Act), (∀ a, K a → K' a) → WP P os.toArray K os' a → WP P os.toArray K' os' a := by
    intro os'
    induction os' with
    | nil => intro K K' a hk h; exact hk _ h
    | cons o os' ih => intro K K' a hk h; obtain ⟨v, hy, h⟩ := h; exact ⟨v, hy, ih K K' _ hk h⟩
  refine mono po _ _ _ (fun a hW => ?_) h
  have hK : ∀ (a : Act) (M M' : List Asn), M.Perm M' → (∀ w', SL e w' (M ++ L) → wpList P os.toArray Q to a w') → (∀ w', SL e w' (M' ++ L) → wpList P os.toArray Q to a w') :=
    fun a M M' p h w' s' => h w' (s'.perm (List.Perm.append_right L p.symm))
  have hA := AnyD.lex (V := V) (md := .any) (fs := fs) hK hns fs fo _ a [] hfl' (fun p hp => ⟨by
      have h2 : (p.1, p.2.1) ∈ fs.zip (fo.map (·.1)) := by
        rw [List.zip_map_right]
        exact List.mem_map.2 ⟨p, hp, rfl⟩
      exact hfz _ h2, hV p hp⟩) hlex hW
  refine wpAny_of_AnyD (V := V) htail (fun i hi => hdis i hi) (g := ts.length) ?_ fs.length _ a [] _ (Mid.of hmid) hA ⟨s.env, s.sat⟩
  intro a M w' hk s'
  exact wpAny_seq ts to _ a w' hseq htl htz (hk w' s')
end
end Go.SL
