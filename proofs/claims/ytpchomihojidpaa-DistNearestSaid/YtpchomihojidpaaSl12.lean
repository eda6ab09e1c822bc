import Derived.Test.YtpchomihojidpaaSl11
namespace Go.SL
theorem nth_get : ∀ (l : List Value) (t : Nat) (v : Value), nth l t = some v → l[t]? = some v := by
  intro l; induction l with
  | nil => intro t v h; cases h
  | cons x l ih => intro t v h; cases t with
    | zero => simpa [nth] using h
    | succ t => simpa using ih t v h
theorem ent_cell {b : Nat} {cells : Array Value} {T : TypeId} {i : Nat} {v : Value} {L : List Asn} (hv : nth cells.toList i = some v) : Ent (Blk b cells T :: L) (CellIs ⟨b, i, none⟩ v) :=
  Ent.here (blk_cell (by have := nth_get _ _ _ hv; simpa using this))
section
variable {P : Program} {Q : Exit → Act → World → Prop} {K : Act → World → Prop} {l : List Value} {w : World} {id id' : Nat}
theorem x_thenN (h : K (fr l) w) : Exit.then K Q .normal (fr l) w := h
theorem x_thenE (h : Q (.exit id) (fr l) w) : Exit.then K Q (.exit id) (fr l) w := h
theorem x_thenR (h : Q .ret (fr l) w) : Exit.then K Q .ret (fr l) w := h
theorem x_blockN (h : Q .normal (fr l) w) : Exit.inBlock id Q .normal (fr l) w := h
theorem x_blockR (h : Q .ret (fr l) w) : Exit.inBlock id Q .ret (fr l) w := h
end
end Go.SL
