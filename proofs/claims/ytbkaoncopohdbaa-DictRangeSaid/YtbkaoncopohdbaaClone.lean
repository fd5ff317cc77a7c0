/-
  slices.Clone of bytes. Condition: shorter than 2^40.
-/
import Derived.Test.YtbkaoncopohdbaaTypes
namespace Go.Proofs.Ytbkaoncopohdbaa
open Go.RowKit
set_option linter.unusedVariables false
set_option maxRecDepth 20000
set_option maxHeartbeats 1000000 in
/-- slices.Clone of bytes -/
theorem clone_c {B : Nat} {v : Value} {n : Nat} {l : List UInt8} (w : World) (h : Rd w B 1 v n (bv l)) (hn : n ≤ 1099511627776) :
    Calls Try.prog 50 #[v] w fun e w' => ∃ v', e = .returned v' ∧ w'.ownsRow w.heap.size 5 1 v' n (bv l) ∧ Below w.heap.size w w' := by
  have h' := h
  obtain ⟨A, c, rfl, hc, hl, hr⟩ := h
  have hnil := fun w => Lib.run_eql_slice_nil (P := Try.prog) w 25 5 A n c 0 0 Try.underlying25
  rcases A with _ | ad
  · have h0 : n = 0 := by
      rcases Nat.eq_zero_or_pos n with h0 | h0
      · exact h0
      · obtain ⟨ad, h, _⟩ := hr h0; cases h
    subst h0
    have hl0 : l = [] := List.eq_nil_of_length_eq_zero (by simpa using hl)
    subst hl0
    clear hr hl h'
    go_enter Try.func50, Try.ntmps50
    go_wp2
    go_ret
    exact ⟨_, rfl, World.ownsRow_nil _ _ _ _, Below.refl _ _⟩
  · have hcap : n ≤ c := hc
    have hown : (w.alloc (.cells #[] 5)).ownsRow w.heap.size 5 1 (.slice (some ⟨w.heap.size, 0, none⟩) 0 0) 0 [] := ⟨rfl, .inr ⟨_, 0, #[], rfl, Nat.le_refl _, heap_alloc_new w _, Nat.le_refl _, by unfold maxLen; omega, rfl, rfl⟩⟩
    have hr' : Rd (w.alloc (.cells #[] 5)) B 1 (.slice (some ad) n c) n (bv l) := by
      obtain ⟨A, c', hv, h2, h3, h4⟩ := h'
      refine ⟨A, c', hv, h2, h3, fun hn => ?_⟩
      obtain ⟨ad', e, hb, hcell⟩ := h4 hn
      refine ⟨ad', e, hb, fun j u hu => ?_⟩
      have := hcell j u hu
      rw [World.cell?_alloc_lt w _ _ (World.block_lt_of_cell? w _ this)]
      exact this
    have H1 := Lib.hid hown; have H2 := Lib.hid hr'
    clear hr hl h' hown hr'
    go_enter Try.func50, Try.ntmps50
    have hb0 : Below w.heap.size w (w.alloc (.cells #[] 5)) := (Below.refl _ _).alloc (Nat.le_refl _) _
    have hs0 : w.heap.size ≤ (w.alloc (.cells #[] 5)).heap.size := hb0.size
    have H3 := Lib.hid hb0; have H4 := Lib.hid hs0
    clear hb0 hs0
    go_wp2_with (at_builtin; refine wp_app slT25 rfl (.tmp 5) (.tmp 6) rfl rfl H1.out rfl H2.out (bv_one _) H3.out (Nat.le_refl _) H4.out (by omega) (by omega) ?_; intro v2 w2 hown2 hb2 hg2)
    go_ret
    have e0 : 0 + n = n := by omega
    rw [e0, List.nil_append] at hown2
    exact ⟨v2, rfl, hown2, hb2⟩
theorem clone_d {B : Nat} {w0 : World} {F : List Ch} {A : Option Addr} {n c : Nat} (l : List UInt8) (hb : Bor B w0 F 1 (.slice A n c) n (bv l)) (hn : n ≤ 1099511627776) :
    Does Try.prog B w0 50 [.slice A n c] F (fun r L => ∃ A' c', r = .slice A' n c' ∧ L = .own 5 1 A' n c' (bv l) :: F) :=
  Does.of_own fun w hw => clone_c w (hb w hw) hn
end Go.Proofs.Ytbkaoncopohdbaa
