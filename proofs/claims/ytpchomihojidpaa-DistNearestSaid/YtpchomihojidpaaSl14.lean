import Derived.Test.YtpchomihojidpaaSl13
namespace Go.SL
theorem Take.putSat {L L' : List Asn} {A : Asn} (t : Take L A L') : ∀ {h : Hp}, Sat (A :: L') h → Sat L h := by
  induction t with
  | here => exact fun s => s
  | there B t ih => intro h s; exact Sat.tail (fun _ => ih) s.swap
theorem SL.put {e : Env} {w : World} {L L' : List Asn} {A : Asn} (t : Take L A L') (s : SL e w (A :: L')) : SL e w L := ⟨s.env, t.putSat s.sat⟩
theorem Take.app {L L' : List Asn} {A : Asn} (t : Take L A L') (M : List Asn) : Take (M ++ L) A (M ++ L') := by
  induction M with
  | nil => exact t
  | cons B M ih => exact Take.there B ih
/-- a list of assertions as one -/
def Box (L : List Asn) : Asn := fun h => Sat L h
theorem Sat.app {L1 L2 : List Asn} : ∀ {h : Hp}, Sat (L1 ++ L2) h → Sat (Box L1 :: L2) h := by
  induction L1 with
  | nil => intro h s; exact ⟨(fun _ => none), h, (fun _ => .inl rfl), (fun _ _ (e : (none : Option Obj) = some _) => nomatch e), Hp.le.refl _, trivial, s⟩
  | cons A L1 ih =>
    intro h s
    obtain ⟨h1, h2, d, l1, l2, a, s⟩ := s
    obtain ⟨h3, h4, d2, l3, l4, b, s⟩ := ih s
    refine ⟨h1.join h3, h4, Hp.join_dis (d.mono (.refl _) l4) d2, Hp.join_le l1 (l3.trans l2), l4.trans l2, ?_, s⟩
    exact ⟨h1, h3, d.mono (.refl _) l3, Hp.le_join_left _ _, Hp.le_join_right (d.mono (.refl _) l3), a, b⟩
theorem Sat.unapp {L1 L2 : List Asn} : ∀ {h : Hp}, Sat (Box L1 :: L2) h → Sat (L1 ++ L2) h := by
  induction L1 with
  | nil => intro h s; exact s.drop
  | cons A L1 ih =>
    intro h s
    obtain ⟨h1, h2, d, l1, l2, ⟨h3, h4, d2, l3, l4, a, b⟩, s⟩ := s
    refine ⟨h3, h4.join h2, ?_, l3.trans l1, Hp.join_le (l4.trans l1) l2, a, ih ?_⟩
    · exact (Hp.join_dis d2.symm (d.mono l3 (.refl _)).symm).symm
    · exact ⟨h4, h2, d.mono l4 (.refl _), Hp.le_join_left _ _, Hp.le_join_right (d.mono l4 (.refl _)), b, s⟩
theorem SL.box {e : Env} {w : World} {L1 L2 : List Asn} (s : SL e w (L1 ++ L2)) : SL e w (Box L1 :: L2) := ⟨s.env, s.sat.app⟩
theorem SL.unbox {e : Env} {w : World} {L1 L2 : List Asn} (s : SL e w (Box L1 :: L2)) : SL e w (L1 ++ L2) := ⟨s.env, s.sat.unapp⟩
/-- what the head says, taken out -/
theorem SL.ex {α : Type} {e : Env} {w : World} {A : α → Asn} {L : List Asn} (s : SL e w ((fun h => ∃ x, A x h) :: L)) : ∃ x, SL e w (A x :: L) := by
  obtain ⟨h1, h2, d, l1, l2, ⟨x, a⟩, s'⟩ := s.sat
  exact ⟨x, s.env, h1, h2, d, l1, l2, a, s'⟩
theorem SL.head {e : Env} {w : World} {A : Asn} {L : List Asn} (s : SL e w (A :: L)) : ∃ h1 h2, Hp.dis h1 h2 ∧ Hp.le h1 (hpOf w) ∧ Hp.le h2 (hpOf w) ∧ A h1 ∧ Sat L h2 := s.sat
theorem Take.of_mem {B : Asn} {Ls : List Asn} : ∀ {k : Nat}, Ls[k]? = some B → ∀ L, Take (Ls ++ L) B (Ls.eraseIdx k ++ L) := by
  induction Ls with
  | nil => intro k h; simp at h
  | cons A Ls ih =>
    intro k h L
    cases k with
    | zero => simp at h; subst h; exact Take.here _ _
    | succ k => exact Take.there _ (ih (by simpa using h) L)
theorem Take.of_set {A B : Asn} {Ls : List Asn} : ∀ {k : Nat}, Ls[k]? = some B → ∀ L, Take (Ls.set k A ++ L) A (Ls.eraseIdx k ++ L) := by
  induction Ls with
  | nil => intro k h; simp at h
  | cons C Ls ih =>
    intro k h L
    cases k with
    | zero => exact Take.here _ _
    | succ k => exact Take.there _ (ih (by simpa using h) L)
theorem getD_mem {α : Type} {xs : List α} {i : Nat} {d : α} (h : i < xs.length) : xs.getD i d ∈ xs := by
  rw [List.getD_eq_getElem?_getD, List.getElem?_eq_getElem h]; exact List.getElem_mem h
theorem ent_cell_of {b : Nat} {cells : Array Value} {T : TypeId} {i : Nat} {v : Value} {L : List Asn} (h : Ent L (fun h => Blk b cells T h)) (hv : nth cells.toList i = some v) : Ent L (CellIs ⟨b, i, none⟩ v) :=
  fun hp s => blk_cell (by have := nth_get _ _ _ hv; simpa using this) hp (h hp s)
end Go.SL
