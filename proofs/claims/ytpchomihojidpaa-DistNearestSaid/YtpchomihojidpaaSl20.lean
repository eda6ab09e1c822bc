import Derived.Test.YtpchomihojidpaaSl19
import Derived.Laws.StructEq
namespace Go.SL
set_option linter.unusedSimpArgs false
set_option linter.unusedVariables false
section
variable {P : Program} {e : Env} {o : Oper} {l : List Value} {L : List Asn}
/-- two structs of one type, held against each other -/
theorem y_eqF {T T' : TypeId} {x y : Operand} {xs ys : Array Value} {b : Bool} (ho : o.op = .binOp .eql T x y T') (hx : ev l x = .agg xs) (hy : ev l y = .agg ys) (hg : P.eqGuardType P.depth T = false)
    (ht : P.underlying T = some (.struct (P.fieldsOf T))) (hp : P.stoodInHeld T = false) (h : ∀ w, (Op.eqFields 9999 xs ys (P.fieldsOf T).toList).run P w = .ok b w) : Yl e P o l L (.bool b) :=
  run_cmp .eql T x y T' ho hx hy (fun w => run_eqGuard_agg w .eql T x y xs ys hg) fun w => by
    rw [run_eql_struct, show (10000 : Nat) = 9999 + 1 from rfl, run_equalIn_agg w 9999 T xs ys ht hp, h]; rfl
theorem y_neF {T T' : TypeId} {x y : Operand} {xs ys : Array Value} {b : Bool} (ho : o.op = .binOp .neq T x y T') (hx : ev l x = .agg xs) (hy : ev l y = .agg ys) (hg : P.eqGuardType P.depth T = false)
    (ht : P.underlying T = some (.struct (P.fieldsOf T))) (hp : P.stoodInHeld T = false) (h : ∀ w, (Op.eqFields 9999 xs ys (P.fieldsOf T).toList).run P w = .ok b w) : Yl e P o l L (.bool (!b)) :=
  run_cmp .neq T x y T' ho hx hy (fun w => run_eqGuard_agg w .neq T x y xs ys hg) fun w => by
    rw [run_neq_struct, show (10000 : Nat) = 9999 + 1 from rfl, run_equalIn_agg w 9999 T xs ys ht hp, h]; rfl
/-- an element of an array by value -/
theorem y_index {T : TypeId} {x y : Operand} {u v r : Value} (ho : o.op = .index T x y) (hx : ev l x = u) (hy : ev l y = v) (h : ∀ w, (Instr.index T u v).run P w = .ok r w) : Yl e P o l L r := fun w _ => by
  unfold execOp; rw [ho]
  simp only [hx, hy, Sem.run_bind, h w]; rfl
theorem y_bld2 {T : TypeId} {x y : Operand} {a b v z : Value} (ho : o.op = .build T #[(0, x), (1, y)]) (hz : zeroB P T = some z) (hx : ev l x = a) (hy : ev l y = b) (h : ∀ w, (Instr.build T #[(0, a), (1, b)]).run P w = .ok v w) : Yl e P o l L v :=
  y_build ho hz fun w => by simpa [hx, hy] using h w
theorem rc3 {w : World} {fn : Func} {t b u u2 n : Nat} {T T' : TypeId} {cells : Array Value} {v v2 : Value} {R : Value → World → Prop} (s : SL e w L) (hr : fn.results = #[.cell t T, .tmp u, .tmp u2]) (hv : nth l t = some (ptr b 0)) (hs : someU P T = true) (hT : aggB P T = true) (hn' : sizeB P T = some n) (hc : Ent L (fun h => Blk b cells T' h)) (hsz : cells.size = n) (hu : nth l u = some v) (hu2 : nth l u2 = some v2)
    (h : R (.tuple #[.agg cells, v, v2]) w) : bodyPost P fn (Rets R) .ret (fr l) w := by
  subst hsz
  obtain ⟨h1, h2⟩ := run_resCell hv hs hT hn' hc s
  have h3 := nth_getD _ _ _ hu
  have h4 := nth_getD _ _ _ hu2
  refine ⟨rfl, .tuple #[.agg cells, v, v2], ?_, h⟩
  have h2' : l[t]?.getD undef = ptr b 0 := by simpa using h2
  have h3' : l[u]?.getD undef = v := by simpa using h3
  have h4' : l[u2]?.getD undef = v2 := by simpa using h4
  simp [results, hr, fr, h2', asAddr, h1, h3', h4']
theorem rc4 {w : World} {fn : Func} {t b u u2 u3 n : Nat} {T T' : TypeId} {cells : Array Value} {v v2 v3 : Value} {R : Value → World → Prop} (s : SL e w L) (hr : fn.results = #[.cell t T, .tmp u, .tmp u2, .tmp u3]) (hv : nth l t = some (ptr b 0)) (hs : someU P T = true) (hT : aggB P T = true) (hn' : sizeB P T = some n) (hc : Ent L (fun h => Blk b cells T' h)) (hsz : cells.size = n) (hu : nth l u = some v) (hu2 : nth l u2 = some v2) (hu3 : nth l u3 = some v3)
    (h : R (.tuple #[.agg cells, v, v2, v3]) w) : bodyPost P fn (Rets R) .ret (fr l) w := by
  subst hsz
  obtain ⟨h1, h2⟩ := run_resCell hv hs hT hn' hc s
  have h3 := nth_getD _ _ _ hu
  have h4 := nth_getD _ _ _ hu2
  have h5 := nth_getD _ _ _ hu3
  refine ⟨rfl, .tuple #[.agg cells, v, v2, v3], ?_, h⟩
  have h2' : l[t]?.getD undef = ptr b 0 := by simpa using h2
  have h3' : l[u]?.getD undef = v := by simpa using h3
  have h4' : l[u2]?.getD undef = v2 := by simpa using h4
  have h5' : l[u3]?.getD undef = v3 := by simpa using h5
  simp [results, hr, fr, h2', asAddr, h1, h3', h4', h5']
end
end Go.SL
