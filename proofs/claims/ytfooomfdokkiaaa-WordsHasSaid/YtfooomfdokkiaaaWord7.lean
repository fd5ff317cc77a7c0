/-
  What the document's Words computes: the words of the text, place by place. Conditions: texts are no longer than 2^38.
-/
import Derived.Test.YtfooomfdokkiaaaWord4
import Derived.Test.YtfooomfdokkiaaaRefW
namespace Go.Proofs.Ytfooomfdokkiaaa
open Go.RowKit
set_option linter.unusedVariables false
/-- a row of another kind of element stays -/
theorem own_apart {w w1 : World} {B n m : Nat} {e1 e2 : TypeId} {v1 v2 : Value} {xs ys : List Value} (hg : w.grownBy w1 v2.ownBlock) (h1 : w.ownsRow B e1 1 v1 n xs) (h2 : w.ownsRow B e2 1 v2 m ys) (hne : e1 ≠ e2) : w1.ownsRow B e1 1 v1 n xs := by
  rcases h1.2 with ⟨h0, h0'⟩ | ⟨g, cap, cur, rfl, m1, m2, m3⟩
  · exact ⟨h1.1, .inl ⟨h0, h0'⟩⟩
  · refine ⟨h1.1, .inr ⟨g, cap, cur, rfl, m1, ?_, m3⟩⟩
    exact (hg.block g (lt_of_block m2) fun e => own_ne_blk (cs := cur) h2 m2 (Ne.symm hne) e.symm).trans m2
end Go.Proofs.Ytfooomfdokkiaaa
