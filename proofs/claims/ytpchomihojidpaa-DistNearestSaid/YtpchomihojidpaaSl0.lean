import Derived.Deep.Quiet
import Derived.Tactics
import Derived.Below
namespace Go.SL

abbrev Hp := Nat → Option Obj
def hpOf (w : World) : Hp := fun b => w.heap[b]?
def Hp.le (h h' : Hp) : Prop := ∀ b o, h b = some o → h' b = some o
def Hp.dis (h h' : Hp) : Prop := ∀ b, h b = none ∨ h' b = none
abbrev Asn := Hp → Prop

theorem Hp.le.refl (h : Hp) : h.le h := fun _ _ e => e
theorem Hp.le.trans {a b c : Hp} (h : a.le b) (k : b.le c) : a.le c := fun x o e => k x o (h x o e)
theorem Hp.dis.symm {a b : Hp} (h : a.dis b) : b.dis a := fun x => (h x).symm
theorem Hp.dis.mono {a b a' b' : Hp} (h : a.dis b) (ha : a'.le a) (hb : b'.le b) : a'.dis b' := fun x => by
  rcases h x with e | e
  · left; cases e' : a' x with
    | none => rfl
    | some o => rw [ha x o e'] at e; cases e
  · right; cases e' : b' x with
    | none => rfl
    | some o => rw [hb x o e'] at e; cases e

def Hp.cell (h : Hp) (a : Addr) : Option Value :=
  match h a.block with
  | some (.cells c _ _) => if a.spot.isSome then none else c[a.off]?
  | _ => none
theorem Hp.cell_mono {h h' : Hp} (hl : h.le h') {a : Addr} {v : Value} (e : h.cell a = some v) : h'.cell a = some v := by
  unfold Hp.cell at *
  cases hb : h a.block with
  | none => rw [hb] at e; cases e
  | some o => rw [hl _ _ hb]; rw [hb] at e; exact e
theorem cell_hpOf (w : World) (a : Addr) : (hpOf w).cell a = w.cell? a := rfl

/-- what the list asks holds of parts of h, each apart from the others -/
def Sat : List Asn → Hp → Prop
  | [], _ => True
  | A :: L, h => ∃ h1 h2, Hp.dis h1 h2 ∧ Hp.le h1 h ∧ Hp.le h2 h ∧ A h1 ∧ Sat L h2

theorem Sat.up {L : List Asn} {h h' : Hp} (hl : h.le h') (s : Sat L h) : Sat L h' := by
  cases L with
  | nil => trivial
  | cons A L => obtain ⟨h1, h2, a, b, c, d, e⟩ := s; exact ⟨h1, h2, a, b.trans hl, c.trans hl, d, e⟩
theorem Sat.drop {A : Asn} {L : List Asn} {h : Hp} (s : Sat (A :: L) h) : Sat L h := by
  obtain ⟨h1, h2, a, b, c, d, e⟩ := s; exact e.up c

def Hp.join (a b : Hp) : Hp := fun x => match a x with | some o => some o | none => b x
theorem Hp.le_join_left (a b : Hp) : a.le (a.join b) := fun x o e => by simp [Hp.join, e]
theorem Hp.le_join_right {a b : Hp} (h : a.dis b) : b.le (a.join b) := fun x o e => by
  rcases h x with e' | e'
  · simp [Hp.join, e', e]
  · rw [e'] at e; cases e
theorem Hp.join_le {a b c : Hp} (ha : a.le c) (hb : b.le c) : (a.join b).le c := fun x o e => by
  unfold Hp.join at e
  cases h : a x with
  | some o' => rw [h] at e; exact ha x o (h.trans e)
  | none => rw [h] at e; exact hb x o e
theorem Hp.join_dis {a b c : Hp} (ha : a.dis c) (hb : b.dis c) : (a.join b).dis c := fun x => by
  rcases ha x with e | e
  · rcases hb x with e' | e'
    · left; simp [Hp.join, e, e']
    · exact .inr e'
  · exact .inr e

theorem Sat.swap {A B : Asn} {L : List Asn} {h : Hp} (s : Sat (A :: B :: L) h) : Sat (B :: A :: L) h := by
  obtain ⟨h1, h2, d12, l1, l2, a, h3, h4, d34, l3, l4, b, s⟩ := s
  refine ⟨h3, h1.join h4, ?_, l3.trans l2, Hp.join_le l1 (l4.trans l2), b, h1, h4, d12.mono (.refl _) l4, Hp.le_join_left _ _, Hp.le_join_right (d12.mono (.refl _) l4), a, s⟩
  exact (Hp.join_dis (d12.mono (.refl _) l3) d34.symm).symm

/-- the environment that no call of ours turns -/
structure Env where
  os : Os
  tape : Nat → Question → Nat
  output : Array (Nat × ByteArray)
def envOf (w : World) : Env := ⟨w.os, w.tape, w.output⟩
structure SL (e : Env) (w : World) (L : List Asn) : Prop where
  env : envOf w = e
  sat : Sat L (hpOf w)

theorem SL.mk' {w : World} {L : List Asn} (s : Sat L (hpOf w)) : SL (envOf w) w L := ⟨rfl, s⟩

/-- A is one of the list's, the rest is L' -/
inductive Take : List Asn → Asn → List Asn → Prop
  | here (A : Asn) (L : List Asn) : Take (A :: L) A L
  | there {L : List Asn} {A : Asn} {L' : List Asn} (B : Asn) (h : Take L A L') : Take (B :: L) A (B :: L')
theorem Take.sat {L L' : List Asn} {A : Asn} (t : Take L A L') : ∀ {h : Hp}, Sat L h → Sat (A :: L') h := by
  induction t with
  | here => exact fun s => s
  | there B t ih =>
    intro h s
    obtain ⟨h1, h2, d, l1, l2, b, s⟩ := s
    exact Sat.swap ⟨h1, h2, d, l1, l2, b, ih s⟩
theorem Take.back {L L' : List Asn} {A : Asn} (t : Take L A L') : ∀ {h : Hp}, Sat L h → Sat (A :: L') h := fun s => t.sat s
theorem SL.take {e : Env} {w : World} {L L' : List Asn} {A : Asn} (s : SL e w L) (t : Take L A L') : SL e w (A :: L') := ⟨s.env, t.sat s.sat⟩
theorem SL.drop {e : Env} {w : World} {L : List Asn} {A : Asn} (s : SL e w (A :: L)) : SL e w L := ⟨s.env, s.sat.drop⟩
theorem SL.swap {e : Env} {w : World} {L : List Asn} {A B : Asn} (s : SL e w (A :: B :: L)) : SL e w (B :: A :: L) := ⟨s.env, s.sat.swap⟩
theorem SL.imp {e : Env} {w : World} {L : List Asn} {A B : Asn} (s : SL e w (A :: L)) (h : ∀ h, A h → B h) : SL e w (B :: L) := by
  obtain ⟨h1, h2, d, l1, l2, a, s'⟩ := s.sat
  exact ⟨s.env, h1, h2, d, l1, l2, h _ a, s'⟩
/-- under the head -/
theorem Sat.tail {A : Asn} {L L' : List Asn} (t : ∀ h, Sat L h → Sat L' h) {h : Hp} (s : Sat (A :: L) h) : Sat (A :: L') h := by
  obtain ⟨h1, h2, d, l1, l2, a, s⟩ := s
  exact ⟨h1, h2, d, l1, l2, a, t _ s⟩

/-- L' is made of L's: each once at most -/
inductive Sub : List Asn → List Asn → Prop
  | refl (L : List Asn) : Sub L L
  | nil (L : List Asn) : Sub L []
  | take {L L1 L' : List Asn} {A : Asn} (t : Take L A L1) (s : Sub L1 L') : Sub L (A :: L')
  | skip {L L' : List Asn} (A : Asn) (s : Sub L L') : Sub (A :: L) L'
theorem Sub.sat {L L' : List Asn} (u : Sub L L') : ∀ {h : Hp}, Sat L h → Sat L' h := by
  induction u with
  | refl => exact fun s => s
  | nil => exact fun _ => trivial
  | take t _ ih => exact fun s => Sat.tail (fun _ => ih) (t.sat s)
  | skip A _ ih => exact fun s => ih s.drop
theorem SL.sub {e : Env} {w : World} {L L' : List Asn} (s : SL e w L) (u : Sub L L') : SL e w L' := ⟨s.env, u.sat s.sat⟩

/-- predicates that stay as memory grows -/
class Mono (φ : Hp → Prop) : Prop where
  up : ∀ {h h' : Hp}, h.le h' → φ h → φ h'
def Ent (L : List Asn) (φ : Hp → Prop) : Prop := ∀ h, Sat L h → φ h
theorem Ent.here {A : Asn} {L : List Asn} {φ : Hp → Prop} [Mono φ] (h : ∀ h, A h → φ h) : Ent (A :: L) φ := by
  rintro h0 ⟨h1, h2, d, l1, l2, a, s⟩
  exact Mono.up l1 (h _ a)
theorem Ent.there {A : Asn} {L : List Asn} {φ : Hp → Prop} (h : Ent L φ) : Ent (A :: L) φ := fun h0 s => h h0 s.drop
theorem Ent.imp {L : List Asn} {φ ψ : Hp → Prop} (h : Ent L φ) (k : ∀ h, φ h → ψ h) : Ent L ψ := fun h0 s => k _ (h h0 s)
theorem Ent.and {L : List Asn} {φ ψ : Hp → Prop} (h : Ent L φ) (k : Ent L ψ) : Ent L (fun h => φ h ∧ ψ h) := fun h0 s => ⟨h h0 s, k h0 s⟩
theorem Ent.at {L : List Asn} {φ : Hp → Prop} (h : Ent L φ) {e : Env} {w : World} (s : SL e w L) : φ (hpOf w) := h _ s.sat

/-! blocks -/
def Blk (b : Nat) (cells : Array Value) (T : TypeId) : Asn := fun h => h b = some (.cells cells T (0, 0))
instance (b : Nat) (cells : Array Value) (T : TypeId) : Mono (Blk b cells T) := ⟨fun hl e => hl _ _ e⟩
def CellIs (a : Addr) (v : Value) : Hp → Prop := fun h => h.cell a = some v
instance (a : Addr) (v : Value) : Mono (CellIs a v) := ⟨fun hl e => Hp.cell_mono hl e⟩
theorem blk_cell {b : Nat} {cells : Array Value} {T : TypeId} {i : Nat} {v : Value} (hv : cells[i]? = some v) : ∀ h, Blk b cells T h → CellIs ⟨b, i, none⟩ v h := by
  intro h hb
  simp only [CellIs, Hp.cell, Blk] at *
  rw [hb]
  simpa using hv
/-- cells one by one from an address on -/
def CellsAre (a : Addr) (vs : List Value) : Hp → Prop := fun h => ∀ j v, vs[j]? = some v → h.cell (a.add j) = some v
instance (a : Addr) (vs : List Value) : Mono (CellsAre a vs) := ⟨fun hl e j v hj => Hp.cell_mono hl (e j v hj)⟩

/-! worlds -/
theorem hpOf_alloc (w : World) (o : Obj) : (hpOf w).le (hpOf { w with heap := w.heap.push o }) := by
  intro b o' e
  unfold hpOf at *
  have hb : b < w.heap.size := by
    rcases Nat.lt_or_ge b w.heap.size with h | h
    · exact h
    · rw [Array.getElem?_eq_none h] at e; cases e
  show (w.heap.push o)[b]? = _
  rw [Array.getElem?_push, if_neg (by omega)]; exact e
def single (b : Nat) (o : Obj) : Hp := fun x => if x = b then some o else none
theorem SL.new {e : Env} {w : World} {L : List Asn} (s : SL e w L) (o : Obj) (A : Asn) (hA : A (single w.heap.size o)) :
    SL e { w with heap := w.heap.push o } (A :: L) := by
  refine ⟨s.env, single w.heap.size o, hpOf w, ?_, ?_, hpOf_alloc w o, hA, s.sat⟩
  · intro b
    by_cases hb : b = w.heap.size
    · right; subst hb; simp [hpOf]
    · left; simp [single, hb]
  · intro b o' h
    unfold single at h
    split at h
    · rename_i hb; subst hb
      show (w.heap.push o)[w.heap.size]? = _
      rw [Array.getElem?_push, if_pos rfl]; exact h
    · cases h

end Go.SL
