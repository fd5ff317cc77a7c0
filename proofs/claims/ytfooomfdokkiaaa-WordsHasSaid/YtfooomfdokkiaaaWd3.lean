/-
  The document's Words, by frames; the example. Conditions: texts are no longer than 2^38.
-/
import Derived.Test.YtfooomfdokkiaaaWd2
import Derived.Test.YtfooomfdokkiaaaRefW
namespace Go.Proofs.Ytfooomfdokkiaaa
open Go.RowKit
set_option linter.unusedVariables false
variable {B : Nat} {w0 : World} {F : List Ch}
def aliveText : List UInt8 := [71, 69, 84, 32, 47, 97, 45, 98, 32, 72, 84, 84, 80, 32, 50, 48, 48]
def aliveWords : List (List UInt8) := [[103, 101, 116], [97], [98], [104, 116, 116, 112], [50, 48, 48]]
theorem alive_words : wordsL aliveText = aliveWords := by decide
theorem alive_d : Does Try.prog B w0 10 [] F (fun r L => r = .bool true ∧ L = F) := by
  have H := words_d (B := B) (w0 := w0) (F := F) aliveText (by decide)
  rw [alive_words] at H
  refine fn_walk Try.func10 4 rfl rfl rfl [] trivial ?_
  refine vc_seq ?_
  refine vc_region ?_
  refine vl_det (det_assign rfl) rfl ?_
  refine vl_end [] trivial ?_
  refine then_next ?_
  refine vc_seq ?_
  refine vc_region ?_
  refine vl_call co12 rfl (H) rfl ?_
  rintro _ _ ⟨A1, c1, rfl, hLL⟩
  obtain rfl := hLL.symm
  refine vl_eff (eff_build_lit slT24 [_, _, _, _, _] rfl rfl (by first | exact bv_one _ | exact strs_one _ | exact ints_one _ _ | (simp; done) | (simp [Value.oneCell']; done) | assumption) (by omega) (by omega)) rfl ?_
  rintro _ _ ⟨A2, rfl, rfl⟩
  refine vl_call co11 rfl (same_d (l1 := aliveWords) (l2 := aliveWords) (by first | (exact Bor.own (by repeat (first | exact List.Mem.head _ | apply List.Mem.tail))) | (repeat (first | assumption | apply Bor.cons))) (by first | (exact Bor.own (by repeat (first | exact List.Mem.head _ | apply List.Mem.tail))) | (repeat (first | assumption | apply Bor.cons))) (by decide)) rfl ?_
  rintro _ _ ⟨rfl, hLL⟩
  obtain rfl := hLL.symm
  refine vl_det (det_assign rfl) rfl ?_
  refine vl_end [(0, _)] ⟨rfl, trivial⟩ ?_
  refine then_next ?_
  refine vc_ret ?_
  refine ret_wk (.skip (.skip (.refl _))) ?_
  refine ret1 rfl rfl ?_
  exact ⟨rfl, rfl⟩
end Go.Proofs.Ytfooomfdokkiaaa
