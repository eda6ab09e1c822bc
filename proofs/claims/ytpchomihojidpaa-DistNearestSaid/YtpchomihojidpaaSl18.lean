import Derived.Test.YtpchomihojidpaaSl17
namespace Go.SL
set_option linter.unusedSimpArgs false
set_option linter.unusedVariables false
section
variable {α : Type} {c : Ty α} {P : Program} {e : Env} {L L' L2 : List Asn} {w : World}
theorem SL.nilBox (s : SL e w L) : SL e w (Box [] :: L) :=
  ⟨s.env, fun _ => none, hpOf w, fun _ => .inl rfl, fun _ _ h => (by cases h), fun _ _ h => h, trivial, s.sat⟩
theorem Sat.assoc {A : Asn} {Ls L : List Asn} {h : Hp} (hs : Sat (A :: Box Ls :: L) h) : Sat (Box (A :: Ls) :: L) h :=
  Sat.app (L1 := A :: Ls) (Sat.tail (fun _ h => Sat.unapp h) hs)
theorem Sat.snoc {A : Asn} : ∀ {Ls : List Asn} {h : Hp}, Sat (A :: Ls) h → Sat (Ls ++ [A]) h
  | [], _, hs => hs
  | B :: Ls, _, hs => by
    have h1 := (Take.there (L := B :: Ls) A (Take.here B Ls)).sat hs
    exact Sat.tail (fun _ h => Sat.snoc h) h1
theorem SL.boxSnoc {A : Asn} {Ls : List Asn} (s : SL e w (A :: Box Ls :: L)) : SL e w (Box (Ls ++ [A]) :: L) := by
  refine ⟨s.env, ?_⟩
  obtain ⟨h1, h2, d, l1, l2, a, b⟩ := s.sat.assoc
  exact ⟨h1, h2, d, l1, l2, Sat.snoc a, b⟩
/-- take one of a row out, and put one back in its place -/
theorem SL.boxTake {Ls : List Asn} {A : Asn} {k : Nat} (hk : Ls[k]? = some A) (s : SL e w (Box Ls :: L)) : SL e w (A :: Box (Ls.eraseIdx k) :: L) := by
  have h1 := s.unbox.take (Take.of_mem hk L)
  exact ⟨h1.env, Sat.tail (fun _ h => Sat.app h) h1.sat⟩
theorem SL.boxPut {Ls : List Asn} {A B : Asn} {k : Nat} (hk : Ls[k]? = some A) (s : SL e w (B :: Box (Ls.eraseIdx k) :: L)) : SL e w (Box (Ls.set k B) :: L) := by
  have h1 : SL e w (B :: (Ls.eraseIdx k ++ L)) := ⟨s.env, Sat.tail (fun _ h => Sat.unapp h) s.sat⟩
  exact (h1.put (Take.of_set hk L)).box
end
end Go.SL
