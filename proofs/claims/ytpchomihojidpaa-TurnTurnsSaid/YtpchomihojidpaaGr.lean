/- A grid that may not be there. -/
import Derived.Test.YtpchomihojidpaaTy
import Derived.Test.YtpchomihojidpaaSlC
import Derived.Test.YtpchomihojidpaaGe
import Derived.KernelRfl
namespace Go.Proofs.Ytpchomihojidpaa
open Go.SL
set_option linter.unusedVariables false
set_option linter.unusedSimpArgs false
attribute [local irreducible] wpList WD WP Region.wanted Code.wp
/-- a grid that may not be there -/
def GrO (p : Option Addr) (W H : Nat) (vs : List Int) : Asn := match p with
  | some a => GridA a.block W H vs
  | none => fun _ => True
theorem gro_some (b W H : Nat) (vs : List Int) : GrO (some ⟨b, 0, none⟩) W H vs = GridA b W H vs := rfl
theorem gro_shut {e : Env} {L : List Asn} {w : World} {b W H : Nat} {vs : List Int} (s : SL e w (GridA b W H vs :: L)) : SL e w (GrO (some ⟨b, 0, none⟩) W H vs :: L) := s
theorem gro_none {e : Env} {L : List Asn} {w : World} {W H : Nat} {vs : List Int} (s : SL e w L) : SL e w (GrO none W H vs :: L) :=
  ⟨s.env, fun _ => none, hpOf w, fun _ => .inl rfl, fun _ _ h => (by cases h), fun _ _ h => h, trivial, s.sat⟩
end Go.Proofs.Ytpchomihojidpaa
