/-
  Structs by value, opened. No condition.
-/
import Derived.Test.YtfooomfdokkiaaaOpen
import Derived.WideShapes
namespace Go.Proofs.Ytfooomfdokkiaaa
open Go.RowKit Go.WideShapes
theorem agg_of {P : Program} {W : World} {base : Nat} {t : TypeId} {fs : Array Field} {v : Value} {xs : List Value} (ht : P.underlying t = some (.struct fs)) (hv : Value.okWide P W .any base t v) (e : v.cells.toList = xs) : Value.agg xs.toArray = v := by
  obtain ⟨cs, rfl, _⟩ := okWide_struct ht hv
  simp only [Value.cells] at e
  rw [← e]
end Go.Proofs.Ytfooomfdokkiaaa
