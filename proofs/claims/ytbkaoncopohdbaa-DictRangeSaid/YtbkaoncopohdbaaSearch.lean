/-
  sort.Search, by frames. Condition: at most 10^9 places.
-/
import Derived.Test.YtbkaoncopohdbaaTypes
import Derived.Test.YtbkaoncopohdbaaEngG
namespace Go.Proofs.Ytbkaoncopohdbaa
open Go.RowKit
set_option linter.unusedVariables false
set_option maxRecDepth 20000
variable {B : Nat} {w0 : World} {F : List Ch} {A A1 A2 : Option Addr} {n c c1 c2 g : Nat}
theorem Does.reperm {P : Program} {B : Nat} {w0 : World} {f : FuncId} {args : List Value} {L M : List Ch} {v : Value} (h : Does P B w0 f args M (fun r K => r = v ∧ K = M)) (hp : L.Perm M) : Does P B w0 f args L (fun r K => r = v ∧ K = L) := fun w hw =>
  (h w (hw.perm hp)).mono fun e w' ⟨r, K, he, ⟨hr, hK⟩, hs⟩ => by subst hK; exact ⟨r, L, he, ⟨hr, rfl⟩, hs.perm hp.symm⟩
theorem half_i (a : Nat) : ((a : Int)).fdiv (2 ^ min (1 : Int).toNat IntKind.u64.bits) = ((a / 2 : Nat) : Int) := by
  have e : min (1 : Int).toNat IntKind.u64.bits = 1 := by decide
  rw [e, Int.fdiv_eq_ediv_of_nonneg _ (by decide)]
  rfl
theorem search_d (m : Nat) (hm : m ≤ 1000000000) {ff : FuncId} (hc : Callable Try.prog ff) {caps : List Value} {P : Nat → Bool} (hcall : ∀ i, i < m → Does Try.prog B w0 ff (.int .i64 i :: caps) F (fun r L => r = .bool (P i) ∧ L = F)) (hmono : ∀ i j, i ≤ j → j < m → P i = true → P j = true) :
    Does Try.prog B w0 47 [.int .i64 m, .func (.func ff) #[] caps.toArray] F (fun r L => ∃ k : Nat, r = .int .i64 k ∧ L = F ∧ k ≤ m ∧ (∀ i, i < k → P i = false) ∧ (∀ i, k ≤ i → i < m → P i = true)) := by
  refine fn_walk Try.func47 26 rfl rfl rfl [(0, .int .i64 m), (1, .func (.func ff) #[] caps.toArray)] ⟨⟨rfl, rfl⟩, ⟨rfl, rfl⟩, trivial⟩ ?_
  refine vc_seq ?_
  refine vc_region ?_
  refine vl_det (det_assign rfl) rfl ?_
  refine vl_end [(0, _), (1, _)] ⟨rfl, rfl, trivial⟩ ?_
  refine then_next ?_
  refine vc_seq ?_
  refine vc_region ?_
  refine vl_det (det_move rfl) rfl ?_
  refine vl_det (det_assign rfl) rfl ?_
  refine vl_det (det_assign rfl) rfl ?_
  refine vl_end [(1, _), (5, _), (6, _)] ⟨rfl, rfl, rfl, trivial⟩ ?_
  refine then_next ?_
  refine vc_seq ?_
  refine vc_block ?_
  refine vc_loopJ (fun zf zL zm => ∃ (i j : Nat), (i ≤ j ∧ j ≤ m ∧ (∀ x, x < i → P x = false) ∧ (∀ x, j ≤ x → x < m → P x = true)) ∧ j - i = zm ∧ Sub zf [(1, .func (.func ff) #[] caps.toArray), (5, .int .i64 i), (6, .int .i64 j)] ∧ Wk zL (F)) _ ⟨0, m, ⟨Nat.zero_le _, Nat.le_refl _, fun x h => absurd h (by omega), fun x h1 h2 => absurd h1 (by omega)⟩, rfl, ⟨(by first | rfl | exact int_to (by omega) | exact sl_to (by omega)), (by first | rfl | exact int_to (by omega) | exact sl_to (by omega)), (by first | rfl | exact int_to (by omega) | exact sl_to (by omega)), trivial⟩, .refl _⟩ ?_
  rintro _ _ _ ⟨i, j, ⟨hij, hjm, hlo, hhi⟩, rfl, hs, hp⟩
  refine vc_weaken _ hs (vc_wk hp ?_)
  clear hs hp
  refine vc_seq ?_
  refine vc_seq ?_
  refine vc_region ?_
  refine vl_det (det_move rfl) rfl ?_
  refine vl_det (det_move rfl) rfl ?_
  refine vl_det (det_lss rfl rfl) rfl ?_
  refine vl_end [(1, _), (5, _), (6, _), (11, _)] ⟨rfl, rfl, rfl, rfl, trivial⟩ ?_
  refine then_next ?_
  refine vc_decideU rfl (fun h11 => ?_) (fun h11 => ?_)
  · skip
    obtain ⟨h, hh⟩ : ∃ h, h = (i + j) / 2 := ⟨_, rfl⟩
    have hcl := hcall h (by omega)
    refine vc_skip ?_
    refine then_next ?_
    refine vc_block ?_
    refine vc_seq ?_
    refine vc_region ?_
    refine vl_det (det_move rfl) rfl ?_
    refine vl_det (det_move rfl) rfl ?_
    refine vl_det (det_add rfl rfl (r := ((i + j : Nat) : Int)) ((w_i64 (by omega) (by omega)).trans (by omega))) rfl ?_
    refine vl_det (det_conv Try.underlying3 Try.underlying75 rfl (w_u64 (by omega) (by omega))) rfl ?_
    refine vl_det (det_shr rfl rfl (by omega) (half_i (i + j))) rfl ?_
    refine vl_det (det_conv Try.underlying75 Try.underlying3 rfl (r := (h : Int)) ((w_i64 (by omega) (by omega)).trans (by omega))) rfl ?_
    refine vl_det (det_assign rfl) rfl ?_
    refine vl_end [(1, _), (5, _), (6, _), (7, _)] ⟨rfl, rfl, rfl, rfl, trivial⟩ ?_
    refine then_next ?_
    refine vc_seq ?_
    refine vc_region ?_
    refine vl_det (det_move rfl) rfl ?_
    refine vl_det (det_move rfl) rfl ?_
    refine vl_callv hc rfl rfl (hcl) rfl ?_
    rintro _ _ ⟨rfl, hLL⟩
    obtain rfl := hLL.symm
    refine vl_det (det_not rfl) rfl ?_
    refine vl_end [(1, _), (5, _), (6, _), (7, _), (21, _)] ⟨rfl, rfl, rfl, rfl, rfl, trivial⟩ ?_
    refine then_next ?_
    refine vc_condU rfl (fun h21 => ?_) (fun h21 => ?_)
    · skip
      refine vc_region ?_
      refine vl_det (det_move rfl) rfl ?_
      refine vl_det (det_add rfl rfl (w_i64 (by omega) (by omega))) rfl ?_
      refine vl_det (det_assign rfl) rfl ?_
      refine vl_end [(1, _), (5, _), (6, _)] ⟨rfl, rfl, rfl, trivial⟩ ?_
      refine in_normal ?_
      refine in_loop_ ⟨_, by omega, h + 1, j, ⟨by omega, hjm, fun x hx => by
  cases hP : P x with
  | false => rfl
  | true => exact absurd (hmono x h (by omega) (by omega) hP) (by simpa using h21), hhi⟩, rfl, ⟨(by first | rfl | exact int_to (by omega) | exact sl_to (by omega)), (by first | rfl | exact int_to (by omega) | exact sl_to (by omega)), (by first | rfl | exact int_to (by omega) | exact sl_to (by omega)), trivial⟩, .refl _⟩
    · skip
      refine vc_region ?_
      refine vl_det (det_move rfl) rfl ?_
      refine vl_det (det_assign rfl) rfl ?_
      refine vl_end [(1, _), (5, _), (6, _)] ⟨rfl, rfl, rfl, trivial⟩ ?_
      refine in_normal ?_
      refine in_loop_ ⟨_, by omega, i, h, ⟨by omega, by omega, hlo, fun x h1 h2 => hmono h x h1 h2 (by simpa using h21)⟩, rfl, ⟨(by first | rfl | exact int_to (by omega) | exact sl_to (by omega)), (by first | rfl | exact int_to (by omega) | exact sl_to (by omega)), (by first | rfl | exact int_to (by omega) | exact sl_to (by omega)), trivial⟩, .refl _⟩
  · skip
    refine vc_exit ?_
    refine then_exit ?_
    refine loop_exit ?_
    refine in_eq ?_
    refine then_next ?_
    refine vc_seq ?_
    refine vc_region ?_
    refine vl_det (det_move rfl) rfl ?_
    refine vl_det (det_assign rfl) rfl ?_
    refine vl_end [(4, _)] ⟨rfl, trivial⟩ ?_
    refine then_next ?_
    refine vc_ret ?_
    refine ret1 rfl rfl ?_
    exact ⟨i, rfl, rfl, by omega, hlo, fun x h1 h2 => hhi x (by omega) h2⟩
end Go.Proofs.Ytbkaoncopohdbaa
