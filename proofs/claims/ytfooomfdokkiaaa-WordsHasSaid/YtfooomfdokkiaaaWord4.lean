/-
  words.Words, and the document's Small. Conditions: texts are no longer than 2^38.
-/
import Derived.Test.YtfooomfdokkiaaaWord3
namespace Go.Proofs.Ytfooomfdokkiaaa
open Go.RowKit
set_option linter.unusedVariables false
set_option maxRecDepth 100000 in
set_option maxHeartbeats 400000 in
theorem words_c (w : World) (l : List UInt8) (hll : l.length ≤ 274877906944) :
    Calls Try.prog 12 #[.string ⟨l.toArray⟩] w fun e w' => ∃ v, e = .returned v ∧ w'.ownsRow w.heap.size 9 1 v (wordsL l).length (strs (wordsL l)) ∧ Below w.heap.size w w' := by
  have hC0 : Col w.heap.size (w.alloc (.cells #[.slice none 0 0] 24)) w.heap.size [] := ⟨_, Blk.new _ _ _, World.ownsRow_nil _ _ _ _⟩
  have HC0 := Lib.hid hC0
  clear hC0
  go_enter Try.func12, Try.ntmps12
  go_wp2_with (go_at_call 22; refine (w_split _ w.heap.size w.heap.size [] l HC0.out (Nat.le_refl _) (by simp) (by simp) hll (fun t => t) (Lib.hid rfl)).mono ?_; rintro e w2 ⟨rfl, hC2, hB2⟩; rw [List.nil_append, List.map_id'] at hC2; obtain ⟨v, hb, hown⟩ := hC2; have h0 := hb.cell 0; simp at h0)
  go_ret
  exact ⟨_, rfl, hown, ((Below.refl _ w).alloc (Nat.le_refl _) _).trans hB2⟩
end Go.Proofs.Ytfooomfdokkiaaa
