/-
  Texts of one proof, joined: part 7. No condition.
-/
import Derived.Test.YtakokckokchacaaNe6
import Derived.ProofKit
import Derived.OpenShut
import Derived.ShutString
import Derived.ChangeOld
import Derived.Deep.Slices
namespace Go.Proofs.Ytakokckokchacaa
open Go.RowKit
set_option linter.unusedVariables false
set_option maxRecDepth 20000
variable {B : Nat} {w0 : World} {F L M : List Ch} {A A2 : Option Addr} {n c c2 g at_ : Nat} {s : Txt}
/-- a parser's block -/
abbrev Pb (g : Nat) (s : Txt) (at_ : Nat) : Ch := .blk g 84 [.string ⟨s.toArray⟩, .int .i64 at_, .int .i64 (-1)]
def skB (s : Txt) : Nat → Nat → Nat
  | i, 0 => i
  | i, f + 1 => if i < s.length ∧ s.getD i 0 = 32 then skB s (i + 1) f else i
/-- the place behind blanks -/
def sk (s : Txt) (i : Nat) : Nat := skB s i (s.length - i)
theorem sk_step {i : Nat} (h : i < s.length) (h2 : s.getD i 0 = 32) : sk s i = sk s (i + 1) := by
  unfold sk
  rw [show s.length - i = (s.length - (i + 1)) + 1 by omega, skB, if_pos ⟨h, h2⟩]
theorem sk_stop {i : Nat} (h : ¬ (i < s.length ∧ s.getD i 0 = 32)) : sk s i = i := by
  unfold sk
  cases s.length - i with
  | zero => rfl
  | succ f => rw [skB, if_neg h]
theorem pb_at {a b : Value} {x y : Int} (h : x = y) : [a, Value.int .i64 x, b] = [a, Value.int .i64 y, b] := by rw [h]
theorem skip_d (hs : s.length ≤ 1000) (ha : at_ ≤ s.length) : Does Try.prog B w0 45 [.pointer (some ⟨g, 0, none⟩)] (Pb g s at_ :: F) (fun r L => r = .tuple #[] ∧ L = Pb g s (sk s at_) :: F ∧ sk s at_ ≤ s.length) := by
  refine fn_walk Try.func45 31 rfl rfl rfl [(0, .pointer (some ⟨g, 0, none⟩))] ⟨⟨rfl, rfl⟩, trivial⟩ ?_
  refine vc_block ?_
  refine vc_loopJ (fun zf zL zm => ∃ (k : Nat), (k ≤ s.length ∧ sk s k = sk s at_) ∧ s.length - k = zm ∧ Sub zf [(0, .pointer (some ⟨g, 0, none⟩))] ∧ Wk zL (Pb g s k :: F)) _ ⟨at_, ⟨ha, rfl⟩, rfl, ⟨(by first | rfl | exact int_to (by omega) | exact sl_to (by omega)), trivial⟩, .refl _⟩ ?_
  rintro _ _ _ ⟨k, ⟨hk, hsk⟩, rfl, hs, hp⟩
  refine vc_weaken _ hs (vc_wk hp ?_)
  clear hs hp
  refine vc_seq ?_
  refine vc_seq ?_
  refine vq_region (by kernel_rfl) (by kernel_rfl) ?_
  refine vq_cut 22 23 [(0, _)] ((k : Int) < s.length ∧ ((s.getD k 0).toNat : Int) = 32) ⟨rfl, trivial⟩ ?_ ?_
  · skip
    refine vq_det (det_move rfl) rfl ?_
    refine vq_det (det_nilCheck rfl) rfl ?_
    refine vq_det (det_fieldAddr_ Try.underlying84 rfl (by kernel_rfl) rfl rfl) rfl ?_
    refine vq_det (det_load_blk (by kernel_rfl) rfl (by repeat (first | exact .hd | apply Sel.tl)) rfl) rfl ?_
    refine vq_det (det_move rfl) rfl ?_
    refine vq_det (det_nilCheck rfl) rfl ?_
    refine vq_det (det_fieldAddr_ Try.underlying84 rfl (by kernel_rfl) rfl rfl) rfl ?_
    refine vq_det (det_load_blk (by kernel_rfl) rfl (by repeat (first | exact .hd | apply Sel.tl)) rfl) rfl ?_
    refine vq_det (det_len_s Try.underlying9 rfl) rfl ?_
    refine vq_det (det_lss rfl rfl) rfl ?_
    refine vq_det (det_move rfl) rfl ?_
    refine vq_guardp rfl rfl rfl (fun h12 => ?_) (fun h12 => ?_)
    · skip
      refine vq_det (det_move rfl) rfl ?_
      refine vq_guard_t rfl rfl ?_
      refine vq_det (det_nilCheck rfl) rfl ?_
      refine vq_guard_t rfl rfl ?_
      refine vq_det (det_fieldAddr_ Try.underlying84 rfl (by kernel_rfl) rfl rfl) rfl ?_
      refine vq_guard_t rfl rfl ?_
      refine vq_det (det_load_blk (by kernel_rfl) rfl (by repeat (first | exact .hd | apply Sel.tl)) rfl) rfl ?_
      refine vq_guard_t rfl rfl ?_
      refine vq_det (det_move rfl) rfl ?_
      refine vq_guard_t rfl rfl ?_
      refine vq_det (det_nilCheck rfl) rfl ?_
      refine vq_guard_t rfl rfl ?_
      refine vq_det (det_fieldAddr_ Try.underlying84 rfl (by kernel_rfl) rfl rfl) rfl ?_
      refine vq_guard_t rfl rfl ?_
      refine vq_det (det_load_blk (by kernel_rfl) rfl (by repeat (first | exact .hd | apply Sel.tl)) rfl) rfl ?_
      refine vq_guard_t rfl rfl ?_
      refine vq_det (det_at_str Try.underlying9 rfl rfl rfl (by omega)) rfl ?_
      refine vq_guard_t rfl rfl ?_
      refine vq_det (det_eql rfl rfl) rfl ?_
      refine vq_det (det_pick_t rfl rfl) rfl ?_
      exact vq_cut_end ⟨rfl, trivial⟩ (by first | rfl | exact bool_to_t (by first | omega | simp_all) | exact bool_to_f (by first | omega | simp_all) | exact bool_to (by first | omega | simp_all) | exact bool_to_b (by first | omega | simp_all))
    · skip
      refine vq_guard_f rfl rfl rfl rfl ?_
      refine vq_guard_f rfl rfl rfl rfl ?_
      refine vq_guard_f rfl rfl rfl rfl ?_
      refine vq_guard_f rfl rfl rfl rfl ?_
      refine vq_guard_f rfl rfl rfl rfl ?_
      refine vq_guard_f rfl rfl rfl rfl ?_
      refine vq_guard_f rfl rfl rfl rfl ?_
      refine vq_guard_f rfl rfl rfl rfl ?_
      refine vq_guard_f rfl rfl rfl rfl ?_
      refine vq_det (det_pick_f rfl rfl) rfl ?_
      exact vq_cut_end ⟨rfl, trivial⟩ (by first | rfl | exact bool_to_t (by first | omega | simp_all) | exact bool_to_f (by first | omega | simp_all) | exact bool_to (by first | omega | simp_all) | exact bool_to_b (by first | omega | simp_all))
  · skip
    refine vq_end [(0, _), (23, _)] ⟨rfl, rfl, trivial⟩ ?_
    refine then_next ?_
    refine vc_decideU rfl (fun h23 => ?_) (fun h23 => ?_)
    · skip
      refine vc_skip ?_
      refine then_next ?_
      refine vc_block ?_
      refine vc_region ?_
      refine vl_det (det_move rfl) rfl ?_
      refine vl_det (det_nilCheck rfl) rfl ?_
      refine vl_det (det_fieldAddr_ Try.underlying84 rfl (by kernel_rfl) rfl rfl) rfl ?_
      refine vl_det (det_load_blk (by kernel_rfl) rfl (by repeat (first | exact .hd | apply Sel.tl)) rfl) rfl ?_
      refine vl_det (det_add rfl rfl (w_i64 (by omega) (by omega))) rfl ?_
      refine vl_det (det_nilCheck rfl) rfl ?_
      refine vl_det (det_fieldAddr_ Try.underlying84 rfl (by kernel_rfl) rfl rfl) rfl ?_
      refine vl_eff0 (eff_store (by kernel_rfl) rfl rfl rfl (by repeat (first | exact .hd | apply Sel.tl)) (by simp)) ?_
      rintro _ _ rfl
      refine vl_end [(0, _)] ⟨rfl, trivial⟩ ?_
      refine in_normal ?_
      refine in_loop_ ⟨_, by omega, k + 1, ⟨by omega, by rw [← sk_step (by omega) (by have := h23.2; exact UInt8.toNat_inj.1 (by show (s.getD k 0).toNat = 32; omega)), hsk]⟩, rfl, ⟨(by first | rfl | exact int_to (by omega) | exact sl_to (by omega)), trivial⟩, wk_blk (pb_at (by omega)) (.refl _)⟩
    · skip
      have hst : sk s k = k := sk_stop fun h => h23 ⟨by omega, by rw [h.2]; rfl⟩
      rw [hst] at hsk
      refine vc_exit ?_
      refine then_exit ?_
      refine loop_exit ?_
      refine in_eq ?_
      refine ret_n ?_
      rw [← hsk]
      refine ret0 rfl ?_
      exact ⟨rfl, rfl, hk⟩
theorem sees_d (ch : UInt8) (hs : s.length ≤ 1000) (ha : at_ ≤ s.length) : Does Try.prog B w0 57 [.pointer (some ⟨g, 0, none⟩), .int .u8 (ch.toNat : Int)] (Pb g s at_ :: F) (fun r L => r = .bool (decide (sk s at_ < s.length ∧ s.getD (sk s at_) 0 = ch)) ∧ L = Pb g s (sk s at_) :: F ∧ sk s at_ ≤ s.length) := by
  refine fn_walk Try.func57 30 rfl rfl rfl [(0, .pointer (some ⟨g, 0, none⟩)), (1, .int .u8 (ch.toNat : Int))] ⟨⟨rfl, rfl⟩, ⟨rfl, rfl⟩, trivial⟩ ?_
  refine vc_seq ?_
  refine vc_region ?_
  refine vl_det (det_assign rfl) rfl ?_
  refine vl_end [(0, _), (1, _)] ⟨rfl, rfl, trivial⟩ ?_
  refine then_next ?_
  refine vc_seq ?_
  refine vc_region ?_
  refine vl_det (det_move rfl) rfl ?_
  refine vl_call co45 rfl (skip_d hs ha) rfl ?_
  rintro _ _ ⟨rfl, hLL, hle⟩
  obtain rfl := hLL.symm
  refine vl_end [(0, _), (1, _)] ⟨rfl, rfl, trivial⟩ ?_
  refine then_next ?_
  refine vc_seq ?_
  refine vq_region (by kernel_rfl) (by kernel_rfl) ?_
  refine vq_cut 23 29 [] (sk s at_ < s.length ∧ s.getD (sk s at_) 0 = ch) trivial ?_ ?_
  · skip
    refine vq_det (det_move rfl) rfl ?_
    refine vq_det (det_nilCheck rfl) rfl ?_
    refine vq_det (det_fieldAddr_ Try.underlying84 rfl (by kernel_rfl) rfl rfl) rfl ?_
    refine vq_det (det_load_blk (by kernel_rfl) rfl (by repeat (first | exact .hd | apply Sel.tl)) rfl) rfl ?_
    refine vq_det (det_move rfl) rfl ?_
    refine vq_det (det_nilCheck rfl) rfl ?_
    refine vq_det (det_fieldAddr_ Try.underlying84 rfl (by kernel_rfl) rfl rfl) rfl ?_
    refine vq_det (det_load_blk (by kernel_rfl) rfl (by repeat (first | exact .hd | apply Sel.tl)) rfl) rfl ?_
    refine vq_det (det_len_s Try.underlying9 rfl) rfl ?_
    refine vq_det (det_lss rfl rfl) rfl ?_
    refine vq_det (det_move rfl) rfl ?_
    refine vq_guardp rfl rfl rfl (fun h17 => ?_) (fun h17 => ?_)
    · skip
      refine vq_det (det_move rfl) rfl ?_
      refine vq_guard_t rfl rfl ?_
      refine vq_det (det_nilCheck rfl) rfl ?_
      refine vq_guard_t rfl rfl ?_
      refine vq_det (det_fieldAddr_ Try.underlying84 rfl (by kernel_rfl) rfl rfl) rfl ?_
      refine vq_guard_t rfl rfl ?_
      refine vq_det (det_load_blk (by kernel_rfl) rfl (by repeat (first | exact .hd | apply Sel.tl)) rfl) rfl ?_
      refine vq_guard_t rfl rfl ?_
      refine vq_det (det_move rfl) rfl ?_
      refine vq_guard_t rfl rfl ?_
      refine vq_det (det_nilCheck rfl) rfl ?_
      refine vq_guard_t rfl rfl ?_
      refine vq_det (det_fieldAddr_ Try.underlying84 rfl (by kernel_rfl) rfl rfl) rfl ?_
      refine vq_guard_t rfl rfl ?_
      refine vq_det (det_load_blk (by kernel_rfl) rfl (by repeat (first | exact .hd | apply Sel.tl)) rfl) rfl ?_
      refine vq_guard_t rfl rfl ?_
      refine vq_det (det_at_str Try.underlying9 rfl rfl rfl (by omega)) rfl ?_
      refine vq_guard_t rfl rfl ?_
      refine vq_det (det_move rfl) rfl ?_
      refine vq_guard_t rfl rfl ?_
      refine vq_det (det_eql rfl rfl) rfl ?_
      refine vq_det (det_pick_t rfl rfl) rfl ?_
      exact vq_cut_end trivial (by first | rfl | exact bool_to_t (by first | omega | exact fun h => by omega | exact ⟨fun h => ⟨by omega, UInt8.toNat_inj.1 (by omega)⟩, fun h => by rw [h.2]⟩) | exact bool_to_f (by first | omega | exact fun h => by omega | exact ⟨fun h => ⟨by omega, UInt8.toNat_inj.1 (by omega)⟩, fun h => by rw [h.2]⟩) | exact bool_to (by first | omega | exact fun h => by omega | exact ⟨fun h => ⟨by omega, UInt8.toNat_inj.1 (by omega)⟩, fun h => by rw [h.2]⟩) | exact bool_to_b (by first | omega | exact fun h => by omega | exact ⟨fun h => ⟨by omega, UInt8.toNat_inj.1 (by omega)⟩, fun h => by rw [h.2]⟩))
    · skip
      refine vq_guard_f rfl rfl rfl rfl ?_
      refine vq_guard_f rfl rfl rfl rfl ?_
      refine vq_guard_f rfl rfl rfl rfl ?_
      refine vq_guard_f rfl rfl rfl rfl ?_
      refine vq_guard_f rfl rfl rfl rfl ?_
      refine vq_guard_f rfl rfl rfl rfl ?_
      refine vq_guard_f rfl rfl rfl rfl ?_
      refine vq_guard_f rfl rfl rfl rfl ?_
      refine vq_guard_f rfl rfl rfl rfl ?_
      refine vq_guard_f rfl rfl rfl rfl ?_
      refine vq_det (det_pick_f rfl rfl) rfl ?_
      exact vq_cut_end trivial (by first | rfl | exact bool_to_t (by first | omega | exact fun h => by omega | exact ⟨fun h => ⟨by omega, UInt8.toNat_inj.1 (by omega)⟩, fun h => by rw [h.2]⟩) | exact bool_to_f (by first | omega | exact fun h => by omega | exact ⟨fun h => ⟨by omega, UInt8.toNat_inj.1 (by omega)⟩, fun h => by rw [h.2]⟩) | exact bool_to (by first | omega | exact fun h => by omega | exact ⟨fun h => ⟨by omega, UInt8.toNat_inj.1 (by omega)⟩, fun h => by rw [h.2]⟩) | exact bool_to_b (by first | omega | exact fun h => by omega | exact ⟨fun h => ⟨by omega, UInt8.toNat_inj.1 (by omega)⟩, fun h => by rw [h.2]⟩))
  · skip
    refine vq_det (det_assign rfl) rfl ?_
    refine vq_end [(4, _)] ⟨rfl, trivial⟩ ?_
    refine then_next ?_
    refine vc_ret ?_
    refine ret1 rfl rfl ?_
    exact ⟨rfl, rfl, hle⟩
/-- a call that reads steps from one place to another -/
def PDo (f : FuncId) (args : List Value) (s : Txt) (at_ : Nat) (q : List StepC) (to_ : Nat) : Prop := to_ ≤ s.length ∧ ∀ (B : Nat) (w0 : World) (F : List Ch) (g : Nat), Does Try.prog B w0 f (.pointer (some ⟨g, 0, none⟩) :: args) (Pb g s at_ :: F) (fun r L => ∃ A c, r = .slice A q.length c ∧ L = .own 38 5 A q.length c (stepsV q) :: Pb g s to_ :: F)
abbrev PNot (s : Txt) (at_ : Nat) (q : List StepC) (to_ : Nat) : Prop := PDo 56 [] s at_ q to_
abbrev PLst (b : Bool) (s : Txt) (at_ : Nat) (q : List StepC) (to_ : Nat) : Prop := PDo 44 [.bool b] s at_ q to_
theorem leaf_d {a k : Nat} {w : Txt} (hs : s.length ≤ 1000) (ha : at_ ≤ s.length) (h0 : sk s at_ = a) (h1 : sk s a = a) (hal : a < s.length) (n1 : ¬ s.getD a 0 = 91) (n2 : ¬ s.getD a 0 = 60) (n3 : ¬ s.getD a 0 = 64)
    (hak : a ≤ k) (hk : k ≤ s.length) (hw : ∀ i, a ≤ i → i < k → small (s.getD i 0) ≠ 0) (he : ¬ (k < s.length ∧ small (s.getD k 0) ≠ 0)) (hone : oneL ((s.take k).drop a) = (w, true)) (n4 : ¬ (k < s.length ∧ s.getD k 0 = 42)) (hwl : w.length ≤ 100) :
    Does Try.prog B w0 76 [.pointer (some ⟨g, 0, none⟩)] (Pb g s at_ :: F) (fun r L => ∃ A c, r = .slice A 1 c ∧ L = .own 38 5 A 1 c (stepsV [(1, 0, w, 0, 0)]) :: Pb g s k :: F) := by
  have hd1 := decide_eq_false (p := a < s.length ∧ s.getD a 0 = 91) (fun h => n1 h.2)
  have hd2 := decide_eq_false (p := a < s.length ∧ s.getD a 0 = 60) (fun h => n2 h.2)
  have hd3 := decide_eq_false (p := a < s.length ∧ s.getD a 0 = 64) (fun h => n3 h.2)
  have q1 := fun B w0 F => @sees_d B w0 F g at_ s 91 hs ha
  have q2 := fun B w0 F => @sees_d B w0 F g a s 60 hs (by omega)
  have q3 := fun B w0 F => @sees_d B w0 F g a s 64 hs (by omega)
  simp only [h0, hd1] at q1
  simp only [h1, hd2] at q2
  simp only [h1, hd3] at q3
  refine fn_walk Try.func76 122 rfl rfl rfl [(0, .pointer (some ⟨g, 0, none⟩))] ⟨⟨rfl, rfl⟩, trivial⟩ ?_
  refine vc_seq ?_
  refine vc_region ?_
  refine vl_det (det_assign rfl) rfl ?_
  refine vl_end [(0, _)] ⟨rfl, trivial⟩ ?_
  refine then_next ?_
  refine vc_seq ?_
  refine vc_region ?_
  refine vl_det (det_move rfl) rfl ?_
  refine vl_det (det_nilCheck rfl) rfl ?_
  refine vl_det (det_fieldAddr_ Try.underlying84 rfl (by kernel_rfl) rfl rfl) rfl ?_
  refine vl_det (det_load_blk (by kernel_rfl) rfl (by repeat (first | exact .hd | apply Sel.tl)) rfl) rfl ?_
  refine vl_det (det_assign rfl) rfl ?_
  refine vl_end [(0, _), (3, _)] ⟨rfl, rfl, trivial⟩ ?_
  refine then_next ?_
  refine vc_seq ?_
  refine vc_seq ?_
  refine vc_region ?_
  refine vl_det (det_move rfl) rfl ?_
  refine vl_call co57 rfl (q1 _ _ _) rfl ?_
  rintro _ _ ⟨rfl, hLL, _⟩
  obtain rfl := hLL.symm
  refine vl_end [(0, _), (3, _), (13, _)] ⟨rfl, rfl, rfl, trivial⟩ ?_
  refine then_next ?_
  refine vc_cond_f rfl ?_
  refine vc_skip ?_
  refine then_next ?_
  refine vc_seq ?_
  refine vc_seq ?_
  refine vc_region ?_
  refine vl_det (det_move rfl) rfl ?_
  refine vl_call co57 rfl (q2 _ _ _) rfl ?_
  rintro _ _ ⟨rfl, hLL, _⟩
  obtain rfl := hLL.symm
  refine vl_end [(0, _), (3, _), (18, _)] ⟨rfl, rfl, rfl, trivial⟩ ?_
  refine then_next ?_
  refine vc_cond_f rfl ?_
  refine vc_skip ?_
  refine then_next ?_
  refine vc_seq ?_
  refine vc_region ?_
  refine vl_det (det_assign rfl) rfl ?_
  refine vl_end [(0, _), (4, _)] ⟨rfl, rfl, trivial⟩ ?_
  refine then_next ?_
  refine vc_seq ?_
  refine vc_seq ?_
  refine vc_region ?_
  refine vl_det (det_move rfl) rfl ?_
  refine vl_call co57 rfl (q3 _ _ _) rfl ?_
  rintro _ _ ⟨rfl, hLL, _⟩
  obtain rfl := hLL.symm
  refine vl_end [(0, _), (4, _), (23, _)] ⟨rfl, rfl, rfl, trivial⟩ ?_
  refine then_next ?_
  refine vc_cond_f rfl ?_
  refine vc_skip ?_
  refine then_next ?_
  refine vc_seq ?_
  refine vc_region ?_
  refine vl_det (det_move rfl) rfl ?_
  refine vl_det (det_nilCheck rfl) rfl ?_
  refine vl_det (det_fieldAddr_ Try.underlying84 rfl (by kernel_rfl) rfl rfl) rfl ?_
  refine vl_det (det_load_blk (by kernel_rfl) rfl (by repeat (first | exact .hd | apply Sel.tl)) rfl) rfl ?_
  refine vl_det (det_assign rfl) rfl ?_
  refine vl_end [(0, _), (4, _), (5, _)] ⟨rfl, rfl, rfl, trivial⟩ ?_
  refine then_next ?_
  refine vc_seq ?_
  refine vc_block ?_
  refine vc_loopJ (fun zf zL zm => ∃ (j : Nat), (a ≤ j ∧ j ≤ k) ∧ k - j = zm ∧ Sub zf [(0, .pointer (some ⟨g, 0, none⟩)), (4, .string ⟨#[]⟩), (5, .int .i64 j)] ∧ Wk zL (Pb g s a :: F)) _ ⟨a, ⟨Nat.le_refl _, hak⟩, rfl, ⟨(by first | rfl | exact int_to (by omega) | exact sl_to (by omega)), (by first | rfl | exact int_to (by omega) | exact sl_to (by omega)), (by first | rfl | exact int_to (by omega) | exact sl_to (by omega)), trivial⟩, .refl _⟩ ?_
  rintro _ _ _ ⟨j, ⟨hj, hjk⟩, rfl, hs, hp⟩
  refine vc_weaken _ hs (vc_wk hp ?_)
  clear hs hp
  refine vc_seq ?_
  refine vc_seq ?_
  refine vc_region ?_
  refine vl_cut 17 51 [(0, _), (4, _), (5, _)] ((j : Int) < s.length ∧ ¬ ((small (s.getD j 0)).toNat : Int) = 0) ⟨rfl, rfl, rfl, trivial⟩ ?_ ?_
  · skip
    refine vl_det (det_move rfl) rfl ?_
    refine vl_det (det_move rfl) rfl ?_
    refine vl_det (det_nilCheck rfl) rfl ?_
    refine vl_det (det_fieldAddr_ Try.underlying84 rfl (by kernel_rfl) rfl rfl) rfl ?_
    refine vl_det (det_load_blk (by kernel_rfl) rfl (by repeat (first | exact .hd | apply Sel.tl)) rfl) rfl ?_
    refine vl_det (det_len_s Try.underlying9 rfl) rfl ?_
    refine vl_det (det_lss rfl rfl) rfl ?_
    refine vl_det (det_move rfl) rfl ?_
    refine vl_guardp rfl rfl rfl (fun h42 => ?_) (fun h42 => ?_)
    · skip
      refine vl_det (det_move rfl) rfl ?_
      refine vl_guard_t rfl rfl ?_
      refine vl_det (det_nilCheck rfl) rfl ?_
      refine vl_guard_t rfl rfl ?_
      refine vl_det (det_fieldAddr_ Try.underlying84 rfl (by kernel_rfl) rfl rfl) rfl ?_
      refine vl_guard_t rfl rfl ?_
      refine vl_det (det_load_blk (by kernel_rfl) rfl (by repeat (first | exact .hd | apply Sel.tl)) rfl) rfl ?_
      refine vl_guard_t rfl rfl ?_
      refine vl_det (det_move rfl) rfl ?_
      refine vl_guard_t rfl rfl ?_
      refine vl_det (det_at_str Try.underlying9 rfl rfl rfl (by omega)) rfl ?_
      refine vl_guard_t rfl rfl ?_
      refine vl_call co72 rfl (rsmall_d _) rfl ?_
      rintro _ _ ⟨rfl, hLL⟩
      obtain rfl := hLL.symm
      refine vl_guard_t rfl rfl ?_
      refine vl_det (det_neq rfl rfl) rfl ?_
      refine vl_det (det_pick_t rfl rfl) rfl ?_
      exact vl_cut_end ⟨rfl, rfl, rfl, trivial⟩ (by first | rfl | exact bool_to_t (by first | omega | simp_all) | exact bool_to_f (by first | omega | simp_all) | exact bool_to (by first | omega | simp_all) | exact bool_to_b (by first | omega | simp_all))
    · skip
      refine vl_guard_f rfl rfl rfl rfl ?_
      refine vl_guard_f rfl rfl rfl rfl ?_
      refine vl_guard_f rfl rfl rfl rfl ?_
      refine vl_guard_f rfl rfl rfl rfl ?_
      refine vl_guard_f rfl rfl rfl rfl ?_
      refine vl_guard_f rfl rfl rfl rfl ?_
      refine vl_guard_f rfl rfl rfl rfl ?_
      refine vl_det (det_pick_f rfl rfl) rfl ?_
      exact vl_cut_end ⟨rfl, rfl, rfl, trivial⟩ (by first | rfl | exact bool_to_t (by first | omega | simp_all) | exact bool_to_f (by first | omega | simp_all) | exact bool_to (by first | omega | simp_all) | exact bool_to_b (by first | omega | simp_all))
  · skip
    refine vl_end [(0, _), (4, _), (5, _), (51, _)] ⟨rfl, rfl, rfl, rfl, trivial⟩ ?_
    refine then_next ?_
    refine vc_decideU rfl (fun h51 => ?_) (fun h51 => ?_)
    · skip
      have hjl : j < k := by
        rcases Nat.lt_or_ge j k with h | h
        · exact h
        · have hjj : j = k := by omega
          exact absurd ⟨by omega, fun e => h51.2 (by rw [← hjj] at e; rw [e]; rfl)⟩ he
      refine vc_skip ?_
      refine then_next ?_
      refine vc_block ?_
      refine vc_region ?_
      refine vl_det (det_move rfl) rfl ?_
      refine vl_det (det_add rfl rfl (w_i64 (by omega) (by omega))) rfl ?_
      refine vl_det (det_assign rfl) rfl ?_
      refine vl_end [(0, _), (4, _), (5, _)] ⟨rfl, rfl, rfl, trivial⟩ ?_
      refine in_normal ?_
      refine in_loop_ ⟨_, by omega, j + 1, ⟨by omega, by omega⟩, rfl, ⟨(by first | rfl | exact int_to (by omega) | exact sl_to (by omega)), (by first | rfl | exact int_to (by omega) | exact sl_to (by omega)), (by first | rfl | exact int_to (by omega) | exact sl_to (by omega)), trivial⟩, .refl _⟩
    · skip
      have hjj : j = k := by
        rcases Nat.lt_or_ge j k with h | h
        · refine absurd ⟨by omega, fun e => hw j hj h ?_⟩ h51
          refine UInt8.toNat_inj.1 ?_
          show _ = 0
          omega
        · omega
      subst hjj
      refine vc_exit ?_
      refine then_exit ?_
      refine loop_exit ?_
      refine in_eq ?_
      refine then_next ?_
      refine vc_seq ?_
      refine vq_region (by kernel_rfl) (by kernel_rfl) ?_
      refine vq_det (det_move rfl) rfl ?_
      refine vq_det (det_nilCheck rfl) rfl ?_
      refine vq_det (det_fieldAddr_ Try.underlying84 rfl (by kernel_rfl) rfl rfl) rfl ?_
      refine vq_det (det_load_blk (by kernel_rfl) rfl (by repeat (first | exact .hd | apply Sel.tl)) rfl) rfl ?_
      refine vq_det (det_move rfl) rfl ?_
      refine vq_det (det_nilCheck rfl) rfl ?_
      refine vq_det (det_fieldAddr_ Try.underlying84 rfl (by kernel_rfl) rfl rfl) rfl ?_
      refine vq_det (det_load_blk (by kernel_rfl) rfl (by repeat (first | exact .hd | apply Sel.tl)) rfl) rfl ?_
      refine vq_det (det_move rfl) rfl ?_
      refine vq_det (det_str_both (i := a) (j := j) Try.underlying9 rfl rfl rfl rfl rfl (by omega) (by omega)) rfl ?_
      refine vq_call co77 rfl (rone_d _) (by rintro _ _ ⟨rfl, rfl⟩; exact ⟨rfl, List.Sublist.refl _⟩) rfl ?_
      rw [hone]
      refine vq_det (det_move rfl) rfl ?_
      refine vq_det (det_extract rfl rfl) rfl ?_
      refine vq_det (det_extract rfl rfl) rfl ?_
      refine vq_det (det_assign rfl) rfl ?_
      refine vq_det (det_assign rfl) rfl ?_
      refine vq_end [(0, _), (4, _), (5, _), (6, _), (7, _)] ⟨rfl, rfl, rfl, rfl, rfl, trivial⟩ ?_
      refine then_next ?_
      refine vc_seq ?_
      refine vc_seq ?_
      refine vc_region ?_
      refine vl_det (det_move rfl) rfl ?_
      refine vl_det (det_not_t rfl) rfl ?_
      refine vl_end [(0, _), (4, _), (5, _), (6, _), (69, _)] ⟨rfl, rfl, rfl, rfl, rfl, trivial⟩ ?_
      refine then_next ?_
      refine vc_cond_f rfl ?_
      refine vc_skip ?_
      refine then_next ?_
      refine vc_seq ?_
      refine vc_region ?_
      refine vl_det (det_move rfl) rfl ?_
      refine vl_det (det_move rfl) rfl ?_
      refine vl_det (det_nilCheck rfl) rfl ?_
      refine vl_det (det_fieldAddr_ Try.underlying84 rfl (by kernel_rfl) rfl rfl) rfl ?_
      refine vl_eff0 (eff_store (by kernel_rfl) rfl rfl rfl (by repeat (first | exact .hd | apply Sel.tl)) (by simp)) ?_
      rintro _ _ rfl
      refine vl_end [(0, _), (4, _), (6, _)] ⟨rfl, rfl, rfl, trivial⟩ ?_
      refine then_next ?_
      refine vc_seq ?_
      refine vc_seq ?_
      refine vq_region (by kernel_rfl) (by kernel_rfl) ?_
      refine vq_cut 22 104 [(0, _), (4, _), (6, _)] (False) ⟨rfl, rfl, rfl, trivial⟩ ?_ ?_
      · skip
        refine vq_det (det_move rfl) rfl ?_
        refine vq_det (det_nilCheck rfl) rfl ?_
        refine vq_det (det_fieldAddr_ Try.underlying84 rfl (by kernel_rfl) rfl rfl) rfl ?_
        refine vq_det (det_load_blk (by kernel_rfl) rfl (by repeat (first | exact .hd | apply Sel.tl)) rfl) rfl ?_
        refine vq_det (det_move rfl) rfl ?_
        refine vq_det (det_nilCheck rfl) rfl ?_
        refine vq_det (det_fieldAddr_ Try.underlying84 rfl (by kernel_rfl) rfl rfl) rfl ?_
        refine vq_det (det_load_blk (by kernel_rfl) rfl (by repeat (first | exact .hd | apply Sel.tl)) rfl) rfl ?_
        refine vq_det (det_len_s Try.underlying9 rfl) rfl ?_
        refine vq_det (det_lss rfl rfl) rfl ?_
        refine vq_det (det_move rfl) rfl ?_
        refine vq_guardp rfl rfl rfl (fun h93 => ?_) (fun h93 => ?_)
        · skip
          refine vq_det (det_move rfl) rfl ?_
          refine vq_guard_t rfl rfl ?_
          refine vq_det (det_nilCheck rfl) rfl ?_
          refine vq_guard_t rfl rfl ?_
          refine vq_det (det_fieldAddr_ Try.underlying84 rfl (by kernel_rfl) rfl rfl) rfl ?_
          refine vq_guard_t rfl rfl ?_
          refine vq_det (det_load_blk (by kernel_rfl) rfl (by repeat (first | exact .hd | apply Sel.tl)) rfl) rfl ?_
          refine vq_guard_t rfl rfl ?_
          refine vq_det (det_move rfl) rfl ?_
          refine vq_guard_t rfl rfl ?_
          refine vq_det (det_nilCheck rfl) rfl ?_
          refine vq_guard_t rfl rfl ?_
          refine vq_det (det_fieldAddr_ Try.underlying84 rfl (by kernel_rfl) rfl rfl) rfl ?_
          refine vq_guard_t rfl rfl ?_
          refine vq_det (det_load_blk (by kernel_rfl) rfl (by repeat (first | exact .hd | apply Sel.tl)) rfl) rfl ?_
          refine vq_guard_t rfl rfl ?_
          refine vq_det (det_at_str Try.underlying9 rfl rfl rfl (by omega)) rfl ?_
          refine vq_guard_t rfl rfl ?_
          refine vq_det (det_eql rfl rfl) rfl ?_
          refine vq_det (det_pick_t rfl rfl) rfl ?_
          exact vq_cut_end ⟨rfl, rfl, rfl, trivial⟩ (by first | rfl | exact bool_to_t (by first | omega | exact fun h => n4 ⟨by omega, UInt8.toNat_inj.1 (by show (s.getD j 0).toNat = 42; omega)⟩ | exact ⟨fun h => n4 ⟨by omega, UInt8.toNat_inj.1 (by show (s.getD j 0).toNat = 42; omega)⟩, False.elim⟩) | exact bool_to_f (by first | omega | exact fun h => n4 ⟨by omega, UInt8.toNat_inj.1 (by show (s.getD j 0).toNat = 42; omega)⟩ | exact ⟨fun h => n4 ⟨by omega, UInt8.toNat_inj.1 (by show (s.getD j 0).toNat = 42; omega)⟩, False.elim⟩) | exact bool_to (by first | omega | exact fun h => n4 ⟨by omega, UInt8.toNat_inj.1 (by show (s.getD j 0).toNat = 42; omega)⟩ | exact ⟨fun h => n4 ⟨by omega, UInt8.toNat_inj.1 (by show (s.getD j 0).toNat = 42; omega)⟩, False.elim⟩) | exact bool_to_b (by first | omega | exact fun h => n4 ⟨by omega, UInt8.toNat_inj.1 (by show (s.getD j 0).toNat = 42; omega)⟩ | exact ⟨fun h => n4 ⟨by omega, UInt8.toNat_inj.1 (by show (s.getD j 0).toNat = 42; omega)⟩, False.elim⟩))
        · skip
          refine vq_guard_f rfl rfl rfl rfl ?_
          refine vq_guard_f rfl rfl rfl rfl ?_
          refine vq_guard_f rfl rfl rfl rfl ?_
          refine vq_guard_f rfl rfl rfl rfl ?_
          refine vq_guard_f rfl rfl rfl rfl ?_
          refine vq_guard_f rfl rfl rfl rfl ?_
          refine vq_guard_f rfl rfl rfl rfl ?_
          refine vq_guard_f rfl rfl rfl rfl ?_
          refine vq_guard_f rfl rfl rfl rfl ?_
          refine vq_det (det_pick_f rfl rfl) rfl ?_
          exact vq_cut_end ⟨rfl, rfl, rfl, trivial⟩ (by first | rfl | exact bool_to_t (by first | omega | exact fun h => n4 ⟨by omega, UInt8.toNat_inj.1 (by show (s.getD j 0).toNat = 42; omega)⟩ | exact ⟨fun h => n4 ⟨by omega, UInt8.toNat_inj.1 (by show (s.getD j 0).toNat = 42; omega)⟩, False.elim⟩) | exact bool_to_f (by first | omega | exact fun h => n4 ⟨by omega, UInt8.toNat_inj.1 (by show (s.getD j 0).toNat = 42; omega)⟩ | exact ⟨fun h => n4 ⟨by omega, UInt8.toNat_inj.1 (by show (s.getD j 0).toNat = 42; omega)⟩, False.elim⟩) | exact bool_to (by first | omega | exact fun h => n4 ⟨by omega, UInt8.toNat_inj.1 (by show (s.getD j 0).toNat = 42; omega)⟩ | exact ⟨fun h => n4 ⟨by omega, UInt8.toNat_inj.1 (by show (s.getD j 0).toNat = 42; omega)⟩, False.elim⟩) | exact bool_to_b (by first | omega | exact fun h => n4 ⟨by omega, UInt8.toNat_inj.1 (by show (s.getD j 0).toNat = 42; omega)⟩ | exact ⟨fun h => n4 ⟨by omega, UInt8.toNat_inj.1 (by show (s.getD j 0).toNat = 42; omega)⟩, False.elim⟩))
      · skip
        refine vq_end [(0, _), (4, _), (6, _), (104, _)] ⟨rfl, rfl, rfl, rfl, trivial⟩ ?_
        refine then_next ?_
        refine vc_decideU rfl (fun h104 => ?_) (fun h104 => ?_)
        · skip
          exfalso; exact h104
        · skip
          refine vc_skip ?_
          refine then_next ?_
          refine vc_seq ?_
          refine vc_region ?_
          refine vl_det (det_move rfl) rfl ?_
          refine vl_det (det_move rfl) rfl ?_
          refine vl_det (det_s_add (s := []) (r := w) rfl rfl (by simp only [List.length_nil]; omega)) rfl ?_
          refine vl_det (det_buildp [(0, _), (2, _)] [.int .i64 0, .int .i64 0, .string ⟨#[]⟩, .int .u64 0, .int .u64 0] [0, 2] [_, _, _, _, _] rfl rfl (by kernel_rfl)) rfl ?_
          refine vl_eff (eff_build1s (us := StepC.cells (1, 0, w, 0, 0)) slT22 rfl rfl rfl (by omega)) rfl ?_
          rintro _ _ ⟨A121, rfl, rfl⟩
          refine vl_det (det_assign rfl) rfl ?_
          refine vl_end [(2, _)] ⟨rfl, trivial⟩ ?_
          refine then_next ?_
          refine vc_ret ?_
          refine ret_wk (L' := .own 38 5 A121 1 1 (stepsV [(1, 0, w, 0, 0)]) :: Pb g s j :: F) (wk_own rfl (steps_sing _).symm (.refl _)) ?_
          refine ret1 rfl rfl ?_
          exact ⟨A121, 1, rfl, rfl⟩
theorem not_word {a k : Nat} {w : Txt} (hs : s.length ≤ 1000) (ha : at_ ≤ s.length) (h0 : sk s at_ = a) (h1 : sk s a = a) (hal : a < s.length) (n1 : ¬ s.getD a 0 = 91) (n2 : ¬ s.getD a 0 = 60) (n3 : ¬ s.getD a 0 = 64) (n5 : ¬ s.getD a 0 = 33) (n6 : ¬ s.getD a 0 = 40)
    (hak : a ≤ k) (hk : k ≤ s.length) (hw : ∀ i, a ≤ i → i < k → small (s.getD i 0) ≠ 0) (he : ¬ (k < s.length ∧ small (s.getD k 0) ≠ 0)) (hone : oneL ((s.take k).drop a) = (w, true)) (n4 : ¬ (k < s.length ∧ s.getD k 0 = 42)) (hwl : w.length ≤ 100) :
    PNot s at_ [(1, 0, w, 0, 0)] k := ⟨hk, fun B w0 F g => by
  have hd1 := decide_eq_false (p := a < s.length ∧ s.getD a 0 = 33) (fun h => n5 h.2)
  have hd2 := decide_eq_false (p := a < s.length ∧ s.getD a 0 = 40) (fun h => n6 h.2)
  have q1 := fun B w0 F => @sees_d B w0 F g at_ s 33 hs ha
  have q2 := fun B w0 F => @sees_d B w0 F g a s 40 hs (by omega)
  simp only [h0, hd1] at q1
  simp only [h1, hd2] at q2
  refine fn_walk Try.func56 57 rfl rfl rfl [(0, .pointer (some ⟨g, 0, none⟩))] ⟨⟨rfl, rfl⟩, trivial⟩ ?_
  refine vc_seq ?_
  refine vc_region ?_
  refine vl_det (det_assign rfl) rfl ?_
  refine vl_end [(0, _)] ⟨rfl, trivial⟩ ?_
  refine then_next ?_
  refine vc_seq ?_
  refine vc_seq ?_
  refine vc_region ?_
  refine vl_det (det_move rfl) rfl ?_
  refine vl_call co57 rfl (q1 _ _ _) rfl ?_
  rintro _ _ ⟨rfl, hLL, _⟩
  obtain rfl := hLL.symm
  refine vl_end [(0, _), (6, _)] ⟨rfl, rfl, trivial⟩ ?_
  refine then_next ?_
  refine vc_cond_f rfl ?_
  refine vc_skip ?_
  refine then_next ?_
  refine vc_seq ?_
  refine vc_seq ?_
  refine vc_region ?_
  refine vl_det (det_move rfl) rfl ?_
  refine vl_call co57 rfl (q2 _ _ _) rfl ?_
  rintro _ _ ⟨rfl, hLL, _⟩
  obtain rfl := hLL.symm
  refine vl_end [(0, _), (21, _)] ⟨rfl, rfl, trivial⟩ ?_
  refine then_next ?_
  refine vc_cond_f rfl ?_
  refine vc_skip ?_
  refine then_next ?_
  refine vc_seq ?_
  refine vc_region ?_
  refine vl_det (det_move rfl) rfl ?_
  refine vl_call co76 rfl (leaf_d hs (by omega) h1 h1 hal n1 n2 n3 hak hk hw he hone n4 hwl) rfl ?_
  rintro _ _ ⟨A56, c56, rfl, hLL⟩
  obtain rfl := hLL.symm
  refine vl_det (det_assign rfl) rfl ?_
  refine vl_end [(2, _)] ⟨rfl, trivial⟩ ?_
  refine then_next ?_
  refine vc_ret ?_
  refine ret1 rfl rfl ?_
  exact ⟨A56, c56, rfl, rfl⟩
  ⟩
theorem not_par {a b e : Nat} {q : List StepC} (hs : s.length ≤ 1000) (ha : at_ ≤ s.length) (h0 : sk s at_ = a) (h1 : sk s a = a) (hal : a < s.length) (n6 : s.getD a 0 = 40) (hq : PLst true s (a + 1) q b) (h2 : sk s b = e) (hel : e < s.length) (he : s.getD e 0 = 41) :
    PNot s at_ q (e + 1) := ⟨by omega, fun B w0 F g => by
  obtain ⟨hb, hq⟩ := hq
  have hd1 := decide_eq_false (p := a < s.length ∧ s.getD a 0 = 33) (fun h => by rw [n6] at h; exact absurd h.2 (by decide))
  have hd2 := decide_eq_true (p := a < s.length ∧ s.getD a 0 = 40) ⟨hal, n6⟩
  have hd3 := decide_eq_true (p := e < s.length ∧ s.getD e 0 = 41) ⟨hel, he⟩
  have q1 := fun B w0 F => @sees_d B w0 F g at_ s 33 hs ha
  have q2 := fun B w0 F => @sees_d B w0 F g a s 40 hs (by omega)
  have q3 := fun B w0 F => @sees_d B w0 F g b s 41 hs hb
  simp only [h0, hd1] at q1
  simp only [h1, hd2] at q2
  simp only [h2, hd3] at q3
  refine fn_walk Try.func56 57 rfl rfl rfl [(0, .pointer (some ⟨g, 0, none⟩))] ⟨⟨rfl, rfl⟩, trivial⟩ ?_
  refine vc_seq ?_
  refine vc_region ?_
  refine vl_det (det_assign rfl) rfl ?_
  refine vl_end [(0, _)] ⟨rfl, trivial⟩ ?_
  refine then_next ?_
  refine vc_seq ?_
  refine vc_seq ?_
  refine vc_region ?_
  refine vl_det (det_move rfl) rfl ?_
  refine vl_call co57 rfl (q1 _ _ _) rfl ?_
  rintro _ _ ⟨rfl, hLL, _⟩
  obtain rfl := hLL.symm
  refine vl_end [(0, _), (6, _)] ⟨rfl, rfl, trivial⟩ ?_
  refine then_next ?_
  refine vc_cond_f rfl ?_
  refine vc_skip ?_
  refine then_next ?_
  refine vc_seq ?_
  refine vc_seq ?_
  refine vc_region ?_
  refine vl_det (det_move rfl) rfl ?_
  refine vl_call co57 rfl (q2 _ _ _) rfl ?_
  rintro _ _ ⟨rfl, hLL, _⟩
  obtain rfl := hLL.symm
  refine vl_end [(0, _), (21, _)] ⟨rfl, rfl, trivial⟩ ?_
  refine then_next ?_
  refine vc_cond_t rfl ?_
  refine vc_seq ?_
  refine vc_region ?_
  refine vl_det (det_move rfl) rfl ?_
  refine vl_det (det_nilCheck rfl) rfl ?_
  refine vl_det (det_fieldAddr_ Try.underlying84 rfl (by kernel_rfl) rfl rfl) rfl ?_
  refine vl_det (det_load_blk (by kernel_rfl) rfl (by repeat (first | exact .hd | apply Sel.tl)) rfl) rfl ?_
  refine vl_det (det_add rfl rfl (w_i64 (by omega) (by omega))) rfl ?_
  refine vl_det (det_nilCheck rfl) rfl ?_
  refine vl_det (det_fieldAddr_ Try.underlying84 rfl (by kernel_rfl) rfl rfl) rfl ?_
  refine vl_eff0 (eff_store (by kernel_rfl) rfl rfl rfl (by repeat (first | exact .hd | apply Sel.tl)) (by simp)) ?_
  rintro _ _ rfl
  refine vl_end [(0, _)] ⟨rfl, trivial⟩ ?_
  refine then_next ?_
  refine vc_seq ?_
  refine vc_region ?_
  refine vl_det (det_move rfl) rfl ?_
  refine vl_wk (wk_blk (ys := [.string ⟨s.toArray⟩, .int .i64 ((a + 1 : Nat) : Int), .int .i64 (-1)]) (pb_at (by omega)) (.refl _)) ?_
  refine vl_call co44 rfl (hq _ _ _ _) rfl ?_
  rintro _ _ ⟨A30, c30, rfl, hLL⟩
  obtain rfl := hLL.symm
  refine vl_det (det_assign rfl) rfl ?_
  refine vl_end [(0, _), (4, _)] ⟨rfl, rfl, trivial⟩ ?_
  refine then_next ?_
  refine vc_seq ?_
  refine vc_seq ?_
  refine vc_region ?_
  refine vl_det (det_move rfl) rfl ?_
  refine vl_det (det_nilCheck rfl) rfl ?_
  refine vl_det (det_fieldAddr_ Try.underlying84 rfl (by kernel_rfl) rfl rfl) rfl ?_
  refine vl_det (det_load_blk (by kernel_rfl) rfl (by repeat (first | exact .hd | apply Sel.tl)) rfl) rfl ?_
  refine vl_det (det_lss rfl rfl) rfl ?_
  refine vl_det (det_move rfl) rfl ?_
  refine vl_guardp rfl rfl rfl (fun h36 => ?_) (fun h36 => ?_)
  · skip
    refine vl_det (det_move rfl) rfl ?_
    refine vl_guard_t rfl rfl ?_
    refine vl_call co57 rfl ((q3 _ _ _).perm swp) rfl ?_
    rintro _ _ ⟨rfl, hLL, _⟩
    obtain rfl := hLL.symm
    refine vl_guard_t rfl rfl ?_
    refine vl_det (det_not_t rfl) rfl ?_
    refine vl_det (det_pick_t rfl rfl) rfl ?_
    refine vl_end [(0, _), (4, _), (40, _)] ⟨rfl, rfl, rfl, trivial⟩ ?_
    refine then_next ?_
    refine vc_cond_f rfl ?_
    refine vc_skip ?_
    refine then_next ?_
    refine vc_seq ?_
    refine vc_region ?_
    refine vl_det (det_move rfl) rfl ?_
    refine vl_det (det_nilCheck rfl) rfl ?_
    refine vl_det (det_fieldAddr_ Try.underlying84 rfl (by kernel_rfl) rfl rfl) rfl ?_
    refine vl_det (det_load_blk (by kernel_rfl) rfl (by repeat (first | exact .hd | apply Sel.tl)) rfl) rfl ?_
    refine vl_det (det_add rfl rfl (w_i64 (by omega) (by omega))) rfl ?_
    refine vl_det (det_nilCheck rfl) rfl ?_
    refine vl_det (det_fieldAddr_ Try.underlying84 rfl (by kernel_rfl) rfl rfl) rfl ?_
    refine vl_eff0 (eff_store (by kernel_rfl) rfl rfl rfl (by repeat (first | exact .hd | apply Sel.tl)) (by simp)) ?_
    rintro _ _ rfl
    refine vl_end [(4, _)] ⟨rfl, trivial⟩ ?_
    refine then_next ?_
    refine vc_seq ?_
    refine vc_region ?_
    refine vl_det (det_move rfl) rfl ?_
    refine vl_det (det_assign rfl) rfl ?_
    refine vl_end [(2, _)] ⟨rfl, trivial⟩ ?_
    refine then_next ?_
    refine vc_ret ?_
    refine then_ret ?_
    refine ret_wk (L' := .own 38 5 A30 q.length c30 (stepsV q) :: Pb g s (e + 1) :: F) (.swap (.cons (wk_blk (pb_at (by omega)) (.refl _)))) ?_
    refine ret1 rfl rfl ?_
    exact ⟨A30, c30, rfl, rfl⟩
  · skip
    exfalso; exact h36 (by decide)
  ⟩
theorem list_or {m : Nat} {atf ate : Nat → Nat} {qf : Nat → List StepC} (hs : s.length ≤ 1000) (hm : 1 ≤ m) (hm2 : m ≤ 1000) (hat : atf 0 = at_) (hp : ∀ i, i < m → PLst false s (atf i) (qf i) (ate i))
    (h1 : ∀ i, i + 1 < m → sk s (ate i) < s.length ∧ s.getD (sk s (ate i)) 0 = 124 ∧ atf (i + 1) = sk s (ate i) + 1) (h2 : ¬ (sk s (ate (m - 1)) < s.length ∧ s.getD (sk s (ate (m - 1))) 0 = 124)) (h3 : sk s (ate (m - 1)) ≤ s.length) (hl : ∀ i, i ≤ m → ((List.range i).flatMap qf).length ≤ 10000) :
    PLst true s at_ ((List.range m).flatMap qf ++ (if 1 < m then [(7, (m : Int), [], 0, 0)] else [])) (sk s (ate (m - 1))) := ⟨h3, fun B w0 F g => by
  have htk : ∀ i, (List.range (i + 1)).flatMap qf = (List.range i).flatMap qf ++ qf i := fun i => by rw [List.range_succ, List.flatMap_append, List.flatMap_singleton]
  refine fn_walk Try.func44 53 rfl rfl rfl [(0, .pointer (some ⟨g, 0, none⟩)), (1, .bool true)] ⟨⟨rfl, rfl⟩, ⟨rfl, rfl⟩, trivial⟩ ?_
  refine vc_seq ?_
  refine vc_region ?_
  refine vl_det (det_assign rfl) rfl ?_
  refine vl_end [(0, _), (1, _)] ⟨rfl, rfl, trivial⟩ ?_
  refine then_next ?_
  refine vc_seq ?_
  refine vc_region ?_
  refine vl_det (det_assign rfl) rfl ?_
  refine vl_det (det_assign rfl) rfl ?_
  refine vl_end [(0, _), (1, _), (5, _), (6, _)] ⟨rfl, rfl, rfl, rfl, trivial⟩ ?_
  refine then_next ?_
  refine vc_seq ?_
  refine vc_seq ?_
  refine vc_region ?_
  refine vl_det (det_move rfl) rfl ?_
  refine vl_end [(0, _), (1, _), (5, _), (6, _), (9, _)] ⟨rfl, rfl, rfl, rfl, rfl, trivial⟩ ?_
  refine then_next ?_
  refine vc_cond_t rfl ?_
  refine vc_seq ?_
  refine vc_region ?_
  refine vl_det (det_assign rfl) rfl ?_
  refine vl_end [(0, _), (1, _), (5, _)] ⟨rfl, rfl, rfl, trivial⟩ ?_
  refine then_next ?_
  refine vc_region ?_
  refine vl_det (det_assign rfl) rfl ?_
  refine vl_end [(0, _), (1, _), (5, _), (6, _)] ⟨rfl, rfl, rfl, rfl, trivial⟩ ?_
  refine then_next ?_
  refine vc_seq ?_
  refine vc_region ?_
  refine vl_det (det_assign rfl) rfl ?_
  refine vl_end [(0, _), (1, _), (5, _), (6, _), (7, _)] ⟨rfl, rfl, rfl, rfl, rfl, trivial⟩ ?_
  refine then_next ?_
  refine vc_seq ?_
  refine vc_nil_row 38 5 none ?_
  refine vc_region ?_
  refine vl_det (det_assign rfl) rfl ?_
  refine vl_end [(0, _), (1, _), (5, _), (6, _), (7, _), (8, _)] ⟨rfl, rfl, rfl, rfl, rfl, rfl, trivial⟩ ?_
  refine then_next ?_
  refine vc_seq ?_
  refine vc_block ?_
  refine vc_loopJ (fun zf zL zm => ∃ (i : Nat) (A7 : Option Addr) (c7 : Nat), (i < m) ∧ m - i = zm ∧ Sub zf [(0, .pointer (some ⟨g, 0, none⟩)), (1, .bool true), (5, .int .u8 (((124 : UInt8).toNat : Nat) : Int)), (6, .int .i64 7), (7, .slice A7 ((List.range i).flatMap qf).length c7), (8, .int .i64 i)] ∧ Wk zL (.own 38 5 A7 ((List.range i).flatMap qf).length c7 (stepsV ((List.range i).flatMap qf)) :: Pb g s (atf i) :: F)) _ ⟨0, none, 0, by omega, rfl, ⟨(by first | rfl | exact int_to (by omega) | exact sl_to (by omega)), (by first | rfl | exact int_to (by omega) | exact sl_to (by omega)), (by first | rfl | exact int_to (by omega) | exact sl_to (by omega)), (by first | rfl | exact int_to (by omega) | exact sl_to (by omega)), (by first | rfl | exact int_to (by omega) | exact sl_to (by omega)), (by first | rfl | exact int_to (by omega) | exact sl_to (by omega)), trivial⟩, by rw [hat]; exact .refl _⟩ ?_
  rintro _ _ _ ⟨i, A7, c7, hi, rfl, hs, hp⟩
  refine vc_weaken _ hs (vc_wk hp ?_)
  clear hs hp
  have hti := htk i
  have hl1 := hl i (by omega)
  have hl2 := hl (i + 1) (by omega)
  rw [hti, List.length_append] at hl2
  obtain ⟨hpe, hpi⟩ := hp i hi
  have hse := fun B w0 F => @sees_d B w0 F g (ate i) s 124 hs hpe
  refine vc_seq ?_
  refine vc_seq ?_
  refine vc_region ?_
  refine vl_det (det_move rfl) rfl ?_
  refine vl_det (det_nilCheck rfl) rfl ?_
  refine vl_det (det_fieldAddr_ Try.underlying84 rfl (by kernel_rfl) rfl rfl) rfl ?_
  refine vl_det (det_load_blk (by kernel_rfl) rfl (by repeat (first | exact .hd | apply Sel.tl)) rfl) rfl ?_
  refine vl_det (det_lss rfl rfl) rfl ?_
  refine vl_end [(0, _), (1, _), (5, _), (6, _), (7, _), (8, _), (14, _)] ⟨rfl, rfl, rfl, rfl, rfl, rfl, rfl, trivial⟩ ?_
  refine then_next ?_
  refine vc_decideU rfl (fun h14 => ?_) (fun h14 => ?_)
  · skip
    refine vc_skip ?_
    refine then_next ?_
    refine vc_block ?_
    refine vc_seq ?_
    refine vc_seq ?_
    refine vc_region ?_
    refine vl_det (det_move rfl) rfl ?_
    refine vl_end [(0, _), (1, _), (5, _), (6, _), (7, _), (8, _), (15, _)] ⟨rfl, rfl, rfl, rfl, rfl, rfl, rfl, trivial⟩ ?_
    refine then_next ?_
    refine vc_cond_t rfl ?_
    refine vc_region ?_
    refine vl_det (det_move rfl) rfl ?_
    refine vl_det (det_move rfl) rfl ?_
    refine vl_call co44 rfl ((hpi _ _ _ _).perm swp) rfl ?_
    rintro _ _ ⟨A18, c18, rfl, hLL⟩
    obtain rfl := hLL.symm
    refine vl_eff (eff_app slT22 rfl (by repeat (first | exact .hd | apply Sel.tl)) rfl (by first | (exact Bor.own (by repeat (first | exact List.Mem.head _ | apply List.Mem.tail))) | (repeat (first | assumption | apply Bor.cons))) (steps_one _) (by omega) (by omega)) rfl ?_
    rintro _ _ ⟨A19, c19, rfl, rfl⟩
    refine vl_det (det_assign rfl) rfl ?_
    refine vl_end [(0, _), (1, _), (5, _), (6, _), (7, _), (8, _)] ⟨rfl, rfl, rfl, rfl, rfl, rfl, trivial⟩ ?_
    refine then_next ?_
    refine vc_seq ?_
    refine vc_region ?_
    refine vl_det (det_move rfl) rfl ?_
    refine vl_det (det_add rfl rfl (w_i64 (by omega) (by omega))) rfl ?_
    refine vl_det (det_assign rfl) rfl ?_
    refine vl_end [(0, _), (1, _), (5, _), (6, _), (7, _), (8, _)] ⟨rfl, rfl, rfl, rfl, rfl, rfl, trivial⟩ ?_
    refine then_next ?_
    refine vc_seq ?_
    refine vc_seq ?_
    refine vc_region ?_
    refine vl_det (det_move rfl) rfl ?_
    refine vl_det (det_nilCheck rfl) rfl ?_
    refine vl_det (det_fieldAddr_ Try.underlying84 rfl (by kernel_rfl) rfl rfl) rfl ?_
    refine vl_det (det_load_blk (by kernel_rfl) rfl (by repeat (first | exact .hd | apply Sel.tl)) rfl) rfl ?_
    refine vl_det (det_geq rfl rfl) rfl ?_
    refine vl_det (det_move rfl) rfl ?_
    refine vl_guardn rfl rfl rfl (fun h31 => ?_) (fun h31 => ?_)
    · skip
      refine vl_det (det_move rfl) rfl ?_
      refine vl_guard_t rfl rfl ?_
      refine vl_det (det_move rfl) rfl ?_
      refine vl_guard_t rfl rfl ?_
      refine vl_call co57 rfl ((hse _ _ _).perm ((pu1 (pu0 (pu0 (.refl _)))))) rfl ?_
      rintro _ _ ⟨rfl, hLL, _⟩
      obtain rfl := hLL.symm
      refine vl_guard_t rfl rfl ?_
      refine vl_det (det_notd rfl) rfl ?_
      refine vl_det (det_pick_f rfl rfl) rfl ?_
      refine vl_end [(0, _), (1, _), (5, _), (6, _), (7, _), (8, _), (36, _)] ⟨rfl, rfl, rfl, rfl, rfl, rfl, rfl, trivial⟩ ?_
      refine then_next ?_
      refine vc_decideU rfl (fun h36 => ?_) (fun h36 => ?_)
      · skip
        have hlast : ¬ i + 1 < m := fun hh => h36 ⟨(h1 i hh).1, (h1 i hh).2.1⟩
        obtain rfl : m = i + 1 := by omega
        rw [Nat.add_sub_cancel]
        refine vc_exit ?_
        refine then_exit ?_
        refine in_exit rfl ?_
        refine loop_exit ?_
        refine in_eq ?_
        refine then_next ?_
        refine vc_seq ?_
        refine vc_seq ?_
        refine vc_region ?_
        refine vl_det (det_move rfl) rfl ?_
        refine vl_det (det_gtr rfl rfl) rfl ?_
        refine vl_end [(6, _), (7, _), (8, _), (45, _)] ⟨rfl, rfl, rfl, rfl, trivial⟩ ?_
        refine then_next ?_
        refine vc_decideU rfl (fun h45 => ?_) (fun h45 => ?_)
        · skip
          have hq : (List.range (i + 1)).flatMap qf ++ (if 1 < i + 1 then [((7, ((i + 1 : Nat) : Int), [], 0, 0) : StepC)] else []) = (List.range i).flatMap qf ++ qf i ++ [((7, ((i + 1 : Nat) : Int), [], 0, 0) : StepC)] := by rw [if_pos (by omega), hti]
          have hql : ((List.range i).flatMap qf).length + (qf i).length + 1 = ((List.range i).flatMap qf ++ qf i ++ [((7, ((i + 1 : Nat) : Int), [], 0, 0) : StepC)]).length := by simp; omega
          rw [hq]
          refine vc_region ?_
          refine vl_det (det_move rfl) rfl ?_
          refine vl_det (det_move rfl) rfl ?_
          refine vl_det (det_move rfl) rfl ?_
          refine vl_det (det_buildp [(0, _), (1, _)] [.int .i64 0, .int .i64 0, .string ⟨#[]⟩, .int .u64 0, .int .u64 0] [0, 1] [_, _, _, _, _] rfl rfl (by kernel_rfl)) rfl ?_
          refine vl_pushs slT22 rfl rfl rfl (by omega) (by first | exact bv_one _ | exact strs_one _ | exact ints_one _ _ | (simp; done) | (simp [Value.oneCell']; done) | assumption) rfl rfl rfl (fun _ => rfl) (by repeat (first | exact .hd | apply Sel.tl)) (by omega) (by omega) ?_
          intro _ A51 c51
          refine vl_det (det_assign rfl) rfl ?_
          refine vl_end [(7, _)] ⟨rfl, trivial⟩ ?_
          refine then_next ?_
          refine vc_seq ?_
          refine vc_region ?_
          refine vl_det (det_move rfl) rfl ?_
          refine vl_det (det_assign rfl) rfl ?_
          refine vl_end [(4, _)] ⟨rfl, trivial⟩ ?_
          refine then_next ?_
          refine vc_ret ?_
          refine ret_wk (L' := .own 38 5 A51 ((List.range i).flatMap qf ++ qf i ++ [((7, ((i + 1 : Nat) : Int), [], 0, 0) : StepC)]).length c51 (stepsV ((List.range i).flatMap qf ++ qf i ++ [((7, ((i + 1 : Nat) : Int), [], 0, 0) : StepC)])) :: Pb g s (sk s (ate i)) :: F) (.swap (.skip (.swap (wk_own hql (by rw [steps_app, steps_app, steps_sing]; rfl) (.refl _))))) ?_
          refine ret1 rfl rfl ?_
          exact ⟨A51, c51, by rw [← hql], rfl⟩
        · skip
          have hq : (List.range (i + 1)).flatMap qf ++ (if 1 < i + 1 then [((7, ((i + 1 : Nat) : Int), [], 0, 0) : StepC)] else []) = (List.range i).flatMap qf ++ qf i := by rw [if_neg (by omega), hti, List.append_nil]
          have hql : ((List.range i).flatMap qf).length + (qf i).length = ((List.range i).flatMap qf ++ qf i).length := by simp
          rw [hq]
          refine vc_skip ?_
          refine then_next ?_
          refine vc_seq ?_
          refine vc_region ?_
          refine vl_det (det_move rfl) rfl ?_
          refine vl_det (det_assign rfl) rfl ?_
          refine vl_end [(4, _)] ⟨rfl, trivial⟩ ?_
          refine then_next ?_
          refine vc_ret ?_
          refine ret_wk (L' := .own 38 5 A19 ((List.range i).flatMap qf ++ qf i).length c19 (stepsV ((List.range i).flatMap qf ++ qf i)) :: Pb g s (sk s (ate i)) :: F) (.swap (.skip (.swap (wk_own hql (by rw [steps_app]) (.refl _))))) ?_
          refine ret1 rfl rfl ?_
          exact ⟨A19, c19, by rw [← hql], rfl⟩
      · skip
        have hnx : i + 1 < m := by
          rcases Nat.lt_or_ge (i + 1) m with h | h
          · exact h
          · have e : i = m - 1 := by omega
            rw [e] at h36
            exact absurd h2 h36
        have hat2 := (h1 i hnx).2.2
        refine vc_skip ?_
        refine then_next ?_
        refine vc_region ?_
        refine vl_det (det_move rfl) rfl ?_
        refine vl_det (det_nilCheck rfl) rfl ?_
        refine vl_det (det_fieldAddr_ Try.underlying84 rfl (by kernel_rfl) rfl rfl) rfl ?_
        refine vl_det (det_load_blk (by kernel_rfl) rfl (by repeat (first | exact .hd | apply Sel.tl)) rfl) rfl ?_
        refine vl_det (det_add rfl rfl (w_i64 (by omega) (by omega))) rfl ?_
        refine vl_det (det_nilCheck rfl) rfl ?_
        refine vl_det (det_fieldAddr_ Try.underlying84 rfl (by kernel_rfl) rfl rfl) rfl ?_
        refine vl_eff0 (eff_store (by kernel_rfl) rfl rfl rfl (by repeat (first | exact .hd | apply Sel.tl)) (by simp)) ?_
        rintro _ _ rfl
        refine vl_end [(0, _), (1, _), (5, _), (6, _), (7, _), (8, _)] ⟨rfl, rfl, rfl, rfl, rfl, rfl, trivial⟩ ?_
        refine in_normal ?_
        have hel : ((List.range i).flatMap qf).length + (qf i).length = ((List.range (i + 1)).flatMap qf).length := by rw [hti, List.length_append]
        refine in_loop_ ⟨_, by omega, i + 1, A19, c19, hnx, rfl, ⟨(by first | rfl | exact int_to (by omega) | exact sl_to (by omega)), (by first | rfl | exact int_to (by omega) | exact sl_to (by omega)), (by first | rfl | exact int_to (by omega) | exact sl_to (by omega)), (by first | rfl | exact int_to (by omega) | exact sl_to (by omega)), (by first | rfl | exact int_to (by omega) | exact sl_to (by omega)), (by first | rfl | exact int_to (by omega) | exact sl_to (by omega)), trivial⟩, .swap (.skip (.swap (wk_own hel (by rw [hti, steps_app]) (wk_blk (pb_at (by rw [hat2]; omega)) (.refl _)))))⟩
    · skip
      exfalso; exact absurd h31 (by decide)
  · skip
    exfalso; exact h14 (by decide)
  ⟩
theorem list_and {m : Nat} {atf ate : Nat → Nat} {qf : Nat → List StepC} (hs : s.length ≤ 1000) (hm : 1 ≤ m) (hm2 : m ≤ 1000) (hat : atf 0 = at_) (hp : ∀ i, i < m → PNot s (atf i) (qf i) (ate i))
    (h1 : ∀ i, i + 1 < m → sk s (ate i) < s.length ∧ s.getD (sk s (ate i)) 0 = 38 ∧ atf (i + 1) = sk s (ate i) + 1) (h2 : ¬ (sk s (ate (m - 1)) < s.length ∧ s.getD (sk s (ate (m - 1))) 0 = 38)) (h3 : sk s (ate (m - 1)) ≤ s.length) (hl : ∀ i, i ≤ m → ((List.range i).flatMap qf).length ≤ 10000) :
    PLst false s at_ ((List.range m).flatMap qf ++ (if 1 < m then [(6, (m : Int), [], 0, 0)] else [])) (sk s (ate (m - 1))) := ⟨h3, fun B w0 F g => by
  have htk : ∀ i, (List.range (i + 1)).flatMap qf = (List.range i).flatMap qf ++ qf i := fun i => by rw [List.range_succ, List.flatMap_append, List.flatMap_singleton]
  refine fn_walk Try.func44 53 rfl rfl rfl [(0, .pointer (some ⟨g, 0, none⟩)), (1, .bool false)] ⟨⟨rfl, rfl⟩, ⟨rfl, rfl⟩, trivial⟩ ?_
  refine vc_seq ?_
  refine vc_region ?_
  refine vl_det (det_assign rfl) rfl ?_
  refine vl_end [(0, _), (1, _)] ⟨rfl, rfl, trivial⟩ ?_
  refine then_next ?_
  refine vc_seq ?_
  refine vc_region ?_
  refine vl_det (det_assign rfl) rfl ?_
  refine vl_det (det_assign rfl) rfl ?_
  refine vl_end [(0, _), (1, _), (5, _), (6, _)] ⟨rfl, rfl, rfl, rfl, trivial⟩ ?_
  refine then_next ?_
  refine vc_seq ?_
  refine vc_seq ?_
  refine vc_region ?_
  refine vl_det (det_move rfl) rfl ?_
  refine vl_end [(0, _), (1, _), (5, _), (6, _), (9, _)] ⟨rfl, rfl, rfl, rfl, rfl, trivial⟩ ?_
  refine then_next ?_
  refine vc_cond_f rfl ?_
  refine vc_skip ?_
  refine then_next ?_
  refine vc_seq ?_
  refine vc_region ?_
  refine vl_det (det_assign rfl) rfl ?_
  refine vl_end [(0, _), (1, _), (5, _), (6, _), (7, _)] ⟨rfl, rfl, rfl, rfl, rfl, trivial⟩ ?_
  refine then_next ?_
  refine vc_seq ?_
  refine vc_nil_row 38 5 none ?_
  refine vc_region ?_
  refine vl_det (det_assign rfl) rfl ?_
  refine vl_end [(0, _), (1, _), (5, _), (6, _), (7, _), (8, _)] ⟨rfl, rfl, rfl, rfl, rfl, rfl, trivial⟩ ?_
  refine then_next ?_
  refine vc_seq ?_
  refine vc_block ?_
  refine vc_loopJ (fun zf zL zm => ∃ (i : Nat) (A7 : Option Addr) (c7 : Nat), (i < m) ∧ m - i = zm ∧ Sub zf [(0, .pointer (some ⟨g, 0, none⟩)), (1, .bool false), (5, .int .u8 (((38 : UInt8).toNat : Nat) : Int)), (6, .int .i64 6), (7, .slice A7 ((List.range i).flatMap qf).length c7), (8, .int .i64 i)] ∧ Wk zL (.own 38 5 A7 ((List.range i).flatMap qf).length c7 (stepsV ((List.range i).flatMap qf)) :: Pb g s (atf i) :: F)) _ ⟨0, none, 0, by omega, rfl, ⟨(by first | rfl | exact int_to (by omega) | exact sl_to (by omega)), (by first | rfl | exact int_to (by omega) | exact sl_to (by omega)), (by first | rfl | exact int_to (by omega) | exact sl_to (by omega)), (by first | rfl | exact int_to (by omega) | exact sl_to (by omega)), (by first | rfl | exact int_to (by omega) | exact sl_to (by omega)), (by first | rfl | exact int_to (by omega) | exact sl_to (by omega)), trivial⟩, by rw [hat]; exact .refl _⟩ ?_
  rintro _ _ _ ⟨i, A7, c7, hi, rfl, hs, hp⟩
  refine vc_weaken _ hs (vc_wk hp ?_)
  clear hs hp
  have hti := htk i
  have hl1 := hl i (by omega)
  have hl2 := hl (i + 1) (by omega)
  rw [hti, List.length_append] at hl2
  obtain ⟨hpe, hpi⟩ := hp i hi
  have hse := fun B w0 F => @sees_d B w0 F g (ate i) s 38 hs hpe
  refine vc_seq ?_
  refine vc_seq ?_
  refine vc_region ?_
  refine vl_det (det_move rfl) rfl ?_
  refine vl_det (det_nilCheck rfl) rfl ?_
  refine vl_det (det_fieldAddr_ Try.underlying84 rfl (by kernel_rfl) rfl rfl) rfl ?_
  refine vl_det (det_load_blk (by kernel_rfl) rfl (by repeat (first | exact .hd | apply Sel.tl)) rfl) rfl ?_
  refine vl_det (det_lss rfl rfl) rfl ?_
  refine vl_end [(0, _), (1, _), (5, _), (6, _), (7, _), (8, _), (14, _)] ⟨rfl, rfl, rfl, rfl, rfl, rfl, rfl, trivial⟩ ?_
  refine then_next ?_
  refine vc_decideU rfl (fun h14 => ?_) (fun h14 => ?_)
  · skip
    refine vc_skip ?_
    refine then_next ?_
    refine vc_block ?_
    refine vc_seq ?_
    refine vc_seq ?_
    refine vc_region ?_
    refine vl_det (det_move rfl) rfl ?_
    refine vl_end [(0, _), (1, _), (5, _), (6, _), (7, _), (8, _), (15, _)] ⟨rfl, rfl, rfl, rfl, rfl, rfl, rfl, trivial⟩ ?_
    refine then_next ?_
    refine vc_cond_f rfl ?_
    refine vc_region ?_
    refine vl_det (det_move rfl) rfl ?_
    refine vl_det (det_move rfl) rfl ?_
    refine vl_call co56 rfl ((hpi _ _ _ _).perm swp) rfl ?_
    rintro _ _ ⟨A22, c22, rfl, hLL⟩
    obtain rfl := hLL.symm
    refine vl_eff (eff_app slT22 rfl (by repeat (first | exact .hd | apply Sel.tl)) rfl (by first | (exact Bor.own (by repeat (first | exact List.Mem.head _ | apply List.Mem.tail))) | (repeat (first | assumption | apply Bor.cons))) (steps_one _) (by omega) (by omega)) rfl ?_
    rintro _ _ ⟨A23, c23, rfl, rfl⟩
    refine vl_det (det_assign rfl) rfl ?_
    refine vl_end [(0, _), (1, _), (5, _), (6, _), (7, _), (8, _)] ⟨rfl, rfl, rfl, rfl, rfl, rfl, trivial⟩ ?_
    refine then_next ?_
    refine vc_seq ?_
    refine vc_region ?_
    refine vl_det (det_move rfl) rfl ?_
    refine vl_det (det_add rfl rfl (w_i64 (by omega) (by omega))) rfl ?_
    refine vl_det (det_assign rfl) rfl ?_
    refine vl_end [(0, _), (1, _), (5, _), (6, _), (7, _), (8, _)] ⟨rfl, rfl, rfl, rfl, rfl, rfl, trivial⟩ ?_
    refine then_next ?_
    refine vc_seq ?_
    refine vc_seq ?_
    refine vc_region ?_
    refine vl_det (det_move rfl) rfl ?_
    refine vl_det (det_nilCheck rfl) rfl ?_
    refine vl_det (det_fieldAddr_ Try.underlying84 rfl (by kernel_rfl) rfl rfl) rfl ?_
    refine vl_det (det_load_blk (by kernel_rfl) rfl (by repeat (first | exact .hd | apply Sel.tl)) rfl) rfl ?_
    refine vl_det (det_geq rfl rfl) rfl ?_
    refine vl_det (det_move rfl) rfl ?_
    refine vl_guardn rfl rfl rfl (fun h31 => ?_) (fun h31 => ?_)
    · skip
      refine vl_det (det_move rfl) rfl ?_
      refine vl_guard_t rfl rfl ?_
      refine vl_det (det_move rfl) rfl ?_
      refine vl_guard_t rfl rfl ?_
      refine vl_call co57 rfl ((hse _ _ _).perm ((pu1 (pu0 (pu0 (.refl _)))))) rfl ?_
      rintro _ _ ⟨rfl, hLL, _⟩
      obtain rfl := hLL.symm
      refine vl_guard_t rfl rfl ?_
      refine vl_det (det_notd rfl) rfl ?_
      refine vl_det (det_pick_f rfl rfl) rfl ?_
      refine vl_end [(0, _), (1, _), (5, _), (6, _), (7, _), (8, _), (36, _)] ⟨rfl, rfl, rfl, rfl, rfl, rfl, rfl, trivial⟩ ?_
      refine then_next ?_
      refine vc_decideU rfl (fun h36 => ?_) (fun h36 => ?_)
      · skip
        have hlast : ¬ i + 1 < m := fun hh => h36 ⟨(h1 i hh).1, (h1 i hh).2.1⟩
        obtain rfl : m = i + 1 := by omega
        rw [Nat.add_sub_cancel]
        refine vc_exit ?_
        refine then_exit ?_
        refine in_exit rfl ?_
        refine loop_exit ?_
        refine in_eq ?_
        refine then_next ?_
        refine vc_seq ?_
        refine vc_seq ?_
        refine vc_region ?_
        refine vl_det (det_move rfl) rfl ?_
        refine vl_det (det_gtr rfl rfl) rfl ?_
        refine vl_end [(6, _), (7, _), (8, _), (45, _)] ⟨rfl, rfl, rfl, rfl, trivial⟩ ?_
        refine then_next ?_
        refine vc_decideU rfl (fun h45 => ?_) (fun h45 => ?_)
        · skip
          have hq : (List.range (i + 1)).flatMap qf ++ (if 1 < i + 1 then [((6, ((i + 1 : Nat) : Int), [], 0, 0) : StepC)] else []) = (List.range i).flatMap qf ++ qf i ++ [((6, ((i + 1 : Nat) : Int), [], 0, 0) : StepC)] := by rw [if_pos (by omega), hti]
          have hql : ((List.range i).flatMap qf).length + (qf i).length + 1 = ((List.range i).flatMap qf ++ qf i ++ [((6, ((i + 1 : Nat) : Int), [], 0, 0) : StepC)]).length := by simp; omega
          rw [hq]
          refine vc_region ?_
          refine vl_det (det_move rfl) rfl ?_
          refine vl_det (det_move rfl) rfl ?_
          refine vl_det (det_move rfl) rfl ?_
          refine vl_det (det_buildp [(0, _), (1, _)] [.int .i64 0, .int .i64 0, .string ⟨#[]⟩, .int .u64 0, .int .u64 0] [0, 1] [_, _, _, _, _] rfl rfl (by kernel_rfl)) rfl ?_
          refine vl_pushs slT22 rfl rfl rfl (by omega) (by first | exact bv_one _ | exact strs_one _ | exact ints_one _ _ | (simp; done) | (simp [Value.oneCell']; done) | assumption) rfl rfl rfl (fun _ => rfl) (by repeat (first | exact .hd | apply Sel.tl)) (by omega) (by omega) ?_
          intro _ A51 c51
          refine vl_det (det_assign rfl) rfl ?_
          refine vl_end [(7, _)] ⟨rfl, trivial⟩ ?_
          refine then_next ?_
          refine vc_seq ?_
          refine vc_region ?_
          refine vl_det (det_move rfl) rfl ?_
          refine vl_det (det_assign rfl) rfl ?_
          refine vl_end [(4, _)] ⟨rfl, trivial⟩ ?_
          refine then_next ?_
          refine vc_ret ?_
          refine ret_wk (L' := .own 38 5 A51 ((List.range i).flatMap qf ++ qf i ++ [((6, ((i + 1 : Nat) : Int), [], 0, 0) : StepC)]).length c51 (stepsV ((List.range i).flatMap qf ++ qf i ++ [((6, ((i + 1 : Nat) : Int), [], 0, 0) : StepC)])) :: Pb g s (sk s (ate i)) :: F) (.swap (.skip (.swap (wk_own hql (by rw [steps_app, steps_app, steps_sing]; rfl) (.refl _))))) ?_
          refine ret1 rfl rfl ?_
          exact ⟨A51, c51, by rw [← hql], rfl⟩
        · skip
          have hq : (List.range (i + 1)).flatMap qf ++ (if 1 < i + 1 then [((6, ((i + 1 : Nat) : Int), [], 0, 0) : StepC)] else []) = (List.range i).flatMap qf ++ qf i := by rw [if_neg (by omega), hti, List.append_nil]
          have hql : ((List.range i).flatMap qf).length + (qf i).length = ((List.range i).flatMap qf ++ qf i).length := by simp
          rw [hq]
          refine vc_skip ?_
          refine then_next ?_
          refine vc_seq ?_
          refine vc_region ?_
          refine vl_det (det_move rfl) rfl ?_
          refine vl_det (det_assign rfl) rfl ?_
          refine vl_end [(4, _)] ⟨rfl, trivial⟩ ?_
          refine then_next ?_
          refine vc_ret ?_
          refine ret_wk (L' := .own 38 5 A23 ((List.range i).flatMap qf ++ qf i).length c23 (stepsV ((List.range i).flatMap qf ++ qf i)) :: Pb g s (sk s (ate i)) :: F) (.swap (.skip (.swap (wk_own hql (by rw [steps_app]) (.refl _))))) ?_
          refine ret1 rfl rfl ?_
          exact ⟨A23, c23, by rw [← hql], rfl⟩
      · skip
        have hnx : i + 1 < m := by
          rcases Nat.lt_or_ge (i + 1) m with h | h
          · exact h
          · have e : i = m - 1 := by omega
            rw [e] at h36
            exact absurd h2 h36
        have hat2 := (h1 i hnx).2.2
        refine vc_skip ?_
        refine then_next ?_
        refine vc_region ?_
        refine vl_det (det_move rfl) rfl ?_
        refine vl_det (det_nilCheck rfl) rfl ?_
        refine vl_det (det_fieldAddr_ Try.underlying84 rfl (by kernel_rfl) rfl rfl) rfl ?_
        refine vl_det (det_load_blk (by kernel_rfl) rfl (by repeat (first | exact .hd | apply Sel.tl)) rfl) rfl ?_
        refine vl_det (det_add rfl rfl (w_i64 (by omega) (by omega))) rfl ?_
        refine vl_det (det_nilCheck rfl) rfl ?_
        refine vl_det (det_fieldAddr_ Try.underlying84 rfl (by kernel_rfl) rfl rfl) rfl ?_
        refine vl_eff0 (eff_store (by kernel_rfl) rfl rfl rfl (by repeat (first | exact .hd | apply Sel.tl)) (by simp)) ?_
        rintro _ _ rfl
        refine vl_end [(0, _), (1, _), (5, _), (6, _), (7, _), (8, _)] ⟨rfl, rfl, rfl, rfl, rfl, rfl, trivial⟩ ?_
        refine in_normal ?_
        have hel : ((List.range i).flatMap qf).length + (qf i).length = ((List.range (i + 1)).flatMap qf).length := by rw [hti, List.length_append]
        refine in_loop_ ⟨_, by omega, i + 1, A23, c23, hnx, rfl, ⟨(by first | rfl | exact int_to (by omega) | exact sl_to (by omega)), (by first | rfl | exact int_to (by omega) | exact sl_to (by omega)), (by first | rfl | exact int_to (by omega) | exact sl_to (by omega)), (by first | rfl | exact int_to (by omega) | exact sl_to (by omega)), (by first | rfl | exact int_to (by omega) | exact sl_to (by omega)), (by first | rfl | exact int_to (by omega) | exact sl_to (by omega)), trivial⟩, .swap (.skip (.swap (wk_own hel (by rw [hti, steps_app]) (wk_blk (pb_at (by rw [hat2]; omega)) (.refl _)))))⟩
    · skip
      exfalso; exact absurd h31 (by decide)
  · skip
    exfalso; exact h14 (by decide)
  ⟩
end Go.Proofs.Ytakokckokchacaa
namespace Go.Proofs.Ytakokckokchacaa
open Go.RowKit
set_option linter.unusedVariables false
set_option maxRecDepth 20000
variable {B : Nat} {w0 : World} {F L M : List Ch} {A A2 : Option Addr} {n c c2 g : Nat} {q : List StepC}
theorem wk_rows {M N : List Ch} (h : Wk M N) : ∀ R : List Ch, Wk (R ++ M) N
  | [] => h
  | _ :: R => .skip (wk_rows h R)
theorem pflat_ok {t : Qt} (hb : Bor B w0 F 5 (.slice A q.length c) q.length (stepsV q)) (hc : checkQ q = 0) (hq : q.length ≤ 1000) (hd : depS [] q = some [t.dep]) (hp : parS [] q = [t]) (hn : t.isN) (hw : t.wf) (hst : t.st = q) :
    Does Try.prog B w0 11 [.slice A q.length c] F (fun r L => ∃ A' c', r = .tuple #[.slice A' (flatT t).st.length c', .int .i64 0] ∧ L = .own 38 5 A' (flatT t).st.length c' (stepsV (flatT t).st) :: F) := by
  have hf := (flatT_ok t hw).1 hn
  have hsl : t.st.length ≤ 1000 := by rw [hst]; exact hq
  refine fn_walk Try.func11 14 rfl rfl rfl [(0, .slice A q.length c)] ⟨⟨rfl, rfl⟩, trivial⟩ ?_
  refine vc_seq ?_
  refine vc_region ?_
  refine vl_det (det_assign rfl) rfl ?_
  refine vl_det (det_assign rfl) rfl ?_
  refine vl_end [(0, _)] ⟨rfl, trivial⟩ ?_
  refine then_next ?_
  refine vc_seq ?_
  refine vc_seq ?_
  refine vc_region ?_
  refine vl_det (det_move rfl) rfl ?_
  refine vl_call co16 rfl (check_d (by first | (exact Bor.own (by repeat (first | exact List.Mem.head _ | apply List.Mem.tail))) | (repeat (first | assumption | apply Bor.cons)))) rfl ?_
  rintro _ _ ⟨rfl, hLL⟩
  obtain rfl := hLL.symm
  refine vl_det (det_assign rfl) rfl ?_
  refine vl_end [(0, _), (4, _)] ⟨rfl, rfl, trivial⟩ ?_
  refine then_next ?_
  refine vc_seq ?_
  refine vc_region ?_
  refine vl_det (det_move rfl) rfl ?_
  refine vl_det (det_neq rfl rfl) rfl ?_
  refine vl_end [(0, _), (4, _), (8, _)] ⟨rfl, rfl, rfl, trivial⟩ ?_
  refine then_next ?_
  refine vc_decideU rfl (fun h8 => ?_) (fun h8 => ?_)
  · skip
    exfalso; exact h8 hc
  · skip
    refine vc_skip ?_
    refine then_next ?_
    refine vc_seq ?_
    refine vc_region ?_
    refine vl_det (det_move rfl) rfl ?_
    refine vl_call co30 rfl (tree_d (by first | (exact Bor.own (by repeat (first | exact List.Mem.head _ | apply List.Mem.tail))) | (repeat (first | assumption | apply Bor.cons))) hq hd hp) rfl ?_
    rintro _ _ ⟨M11, rfl, hx⟩
    refine vl_invoke (by kernel_rfl) rfl rfl (flat_m hn hw (by omega) [] _ _ hx) rfl ?_
    rintro _ _ ⟨M12, rfl, hy⟩
    refine vl_invoke (by kernel_rfl) rfl rfl (steps_m hf.1 hf.2.1 (by omega) _ _ hy) rfl ?_
    rintro _ _ ⟨A13, c13, rfl, hLL⟩
    obtain rfl := hLL.symm
    refine vl_det (det_assign rfl) rfl ?_
    refine vl_det (det_assign rfl) rfl ?_
    refine vl_end [(2, _), (3, _)] ⟨rfl, rfl, trivial⟩ ?_
    refine then_next ?_
    refine vc_ret ?_
    refine ret_wk (L' := .own 38 5 A13 (flatT t).st.length c13 (stepsV (flatT t).st) :: F) (.cons (wk_rows (M := [] ++ (M11 ++ F)) (wk_rows (M := F) (.refl _) M11) M12)) ?_
    refine ret2 rfl rfl rfl ?_
    exact ⟨A13, c13, rfl, rfl⟩
theorem parse_d {s : Txt} {e : Nat} (hs : s.length ≤ 1000) (hq : PLst true s 0 q e) (he : sk s e = s.length) (hc : checkQ q = 0) :
    Does Try.prog B w0 28 [.string ⟨s.toArray⟩] F (fun r L => ∃ A c, r = .tuple #[.slice A q.length c, .int .i64 0, .int .i64 0] ∧ L = .own 38 5 A q.length c (stepsV q) :: F) := by
  obtain ⟨hel, hq⟩ := hq
  refine fn_walk Try.func28 54 rfl rfl rfl [(0, .string ⟨s.toArray⟩)] ⟨⟨rfl, rfl⟩, trivial⟩ ?_
  refine vc_seq ?_
  refine vc_region ?_
  refine vl_det (det_assign rfl) rfl ?_
  refine vl_det (det_assign rfl) rfl ?_
  refine vl_det (det_assign rfl) rfl ?_
  refine vl_end [(0, _)] ⟨rfl, trivial⟩ ?_
  refine then_next ?_
  refine vc_seq ?_
  refine vc_seq ?_
  refine vc_region ?_
  refine vl_det (det_move rfl) rfl ?_
  refine vl_det (det_len_s Try.underlying9 rfl) rfl ?_
  refine vl_det (det_gtr rfl rfl) rfl ?_
  refine vl_end [(0, _), (10, _)] ⟨rfl, rfl, trivial⟩ ?_
  refine then_next ?_
  refine vc_decideU rfl (fun h10 => ?_) (fun h10 => ?_)
  · skip
    exfalso; omega
  · skip
    refine vc_skip ?_
    refine then_next ?_
    refine vc_seq ?_
    refine vc_region ?_
    refine vl_det (det_move rfl) rfl ?_
    refine vl_det (det_buildp [(0, _), (2, _)] [.string ⟨#[]⟩, .int .i64 0, .int .i64 0] [0, 2] [_, _, _] rfl rfl (by kernel_rfl)) rfl ?_
    refine vl_eff (eff_box rfl rfl) rfl ?_
    rintro _ _ ⟨g13, rfl, rfl⟩
    refine vl_det (det_assign rfl) rfl ?_
    refine vl_end [(0, _), (5, _)] ⟨rfl, rfl, trivial⟩ ?_
    refine then_next ?_
    refine vc_seq ?_
    refine vc_region ?_
    refine vl_det (det_move rfl) rfl ?_
    refine vl_call co44 rfl (hq _ _ _ _) rfl ?_
    rintro _ _ ⟨A15, c15, rfl, hLL⟩
    obtain rfl := hLL.symm
    refine vl_det (det_assign rfl) rfl ?_
    refine vl_end [(0, _), (5, _), (6, _)] ⟨rfl, rfl, rfl, trivial⟩ ?_
    refine then_next ?_
    refine vc_seq ?_
    refine vc_region ?_
    refine vl_det (det_move rfl) rfl ?_
    refine vl_call co45 rfl ((skip_d hs hel).perm swp) rfl ?_
    rintro _ _ ⟨rfl, hLL, _⟩
    obtain rfl := hLL.symm
    refine vl_end [(0, _), (5, _), (6, _)] ⟨rfl, rfl, rfl, trivial⟩ ?_
    refine then_next ?_
    refine vc_seq ?_
    refine vc_seq ?_
    refine vc_region ?_
    refine vl_det (det_move rfl) rfl ?_
    refine vl_det (det_nilCheck rfl) rfl ?_
    refine vl_det (det_fieldAddr_ Try.underlying84 rfl (by kernel_rfl) rfl rfl) rfl ?_
    refine vl_det (det_load_blk (by kernel_rfl) rfl (by repeat (first | exact .hd | apply Sel.tl)) rfl) rfl ?_
    refine vl_det (det_lss rfl rfl) rfl ?_
    refine vl_det (det_move rfl) rfl ?_
    refine vl_guardp rfl rfl rfl (fun h23 => ?_) (fun h23 => ?_)
    · skip
      refine vl_det (det_move rfl) rfl ?_
      refine vl_guard_t rfl rfl ?_
      refine vl_det (det_nilCheck rfl) rfl ?_
      refine vl_guard_t rfl rfl ?_
      refine vl_det (det_fieldAddr_ Try.underlying84 rfl (by kernel_rfl) rfl rfl) rfl ?_
      refine vl_guard_t rfl rfl ?_
      refine vl_det (det_load_blk (by kernel_rfl) rfl (by repeat (first | exact .hd | apply Sel.tl)) rfl) rfl ?_
      refine vl_guard_t rfl rfl ?_
      refine vl_det (det_move rfl) rfl ?_
      refine vl_guard_t rfl rfl ?_
      refine vl_det (det_len_s Try.underlying9 rfl) rfl ?_
      refine vl_guard_t rfl rfl ?_
      refine vl_det (det_lss rfl rfl) rfl ?_
      refine vl_det (det_pick_t rfl rfl) rfl ?_
      refine vl_end [(5, _), (6, _), (31, _)] ⟨rfl, rfl, rfl, trivial⟩ ?_
      refine then_next ?_
      refine vc_decideU rfl (fun h31 => ?_) (fun h31 => ?_)
      · skip
        exfalso; omega
      · skip
        refine vc_skip ?_
        refine then_next ?_
        refine vc_seq ?_
        refine vc_seq ?_
        refine vc_region ?_
        refine vl_det (det_move rfl) rfl ?_
        refine vl_det (det_nilCheck rfl) rfl ?_
        refine vl_det (det_fieldAddr_ Try.underlying84 rfl (by kernel_rfl) rfl rfl) rfl ?_
        refine vl_det (det_load_blk (by kernel_rfl) rfl (by repeat (first | exact .hd | apply Sel.tl)) rfl) rfl ?_
        refine vl_det (det_geq rfl rfl) rfl ?_
        refine vl_end [(5, _), (6, _), (43, _)] ⟨rfl, rfl, rfl, trivial⟩ ?_
        refine then_next ?_
        refine vc_decideU rfl (fun h43 => ?_) (fun h43 => ?_)
        · skip
          exfalso; exact absurd h43 (by decide)
        · skip
          refine vc_skip ?_
          refine then_next ?_
          refine vc_seq ?_
          refine vc_region ?_
          refine vl_det (det_move rfl) rfl ?_
          refine vl_call co10 rfl (rcheck_d (by first | (exact Bor.own (by repeat (first | exact List.Mem.head _ | apply List.Mem.tail))) | (repeat (first | assumption | apply Bor.cons)))) rfl ?_
          rintro _ _ ⟨rfl, hLL⟩
          obtain rfl := hLL.symm
          refine vl_det (det_assign rfl) rfl ?_
          refine vl_end [(6, _), (7, _)] ⟨rfl, rfl, trivial⟩ ?_
          refine then_next ?_
          refine vc_seq ?_
          refine vc_seq ?_
          refine vc_region ?_
          refine vl_det (det_move rfl) rfl ?_
          refine vl_det (det_neq rfl rfl) rfl ?_
          refine vl_end [(6, _), (7, _), (51, _)] ⟨rfl, rfl, rfl, trivial⟩ ?_
          refine then_next ?_
          refine vc_decideU rfl (fun h51 => ?_) (fun h51 => ?_)
          · skip
            exfalso; exact h51 hc
          · skip
            refine vc_skip ?_
            refine then_next ?_
            refine vc_seq ?_
            refine vc_region ?_
            refine vl_det (det_move rfl) rfl ?_
            refine vl_det (det_assign rfl) rfl ?_
            refine vl_det (det_assign rfl) rfl ?_
            refine vl_det (det_assign rfl) rfl ?_
            refine vl_end [(2, _), (3, _), (4, _)] ⟨rfl, rfl, rfl, trivial⟩ ?_
            refine then_next ?_
            refine vc_ret ?_
            refine ret_wk (L' := .own 38 5 A15 q.length c15 (stepsV q) :: F) (.skip (.refl _)) ?_
            refine ret3_ rfl rfl rfl rfl ?_
            exact ⟨A15, c15, rfl, rfl⟩
    · skip
      exfalso; exact h23 (by decide)
/-! the example -/
def s1 : Txt := [97, 32, 38, 32, 40, 98, 32, 38, 32, 97, 41]
def s2 : Txt := [97, 32, 38, 32, 98]
def sA : StepC := (1, 0, [97], 0, 0)
def sB : StepC := (1, 0, [98], 0, 0)
def sC : StepC := (6, 2, [], 0, 0)
theorem two {P : Nat → Prop} (h0 : P 0) (h1 : P 1) : ∀ i, i < 2 → P i := fun i hi => by
  match i, hi with
  | 0, _ => exact h0
  | 1, _ => exact h1
theorem p2 : PLst true s2 0 [sA, sB, sC] 5 := by
  have w0 : PNot s2 0 [sA] 1 := not_word (a := 0) (k := 1) (by decide) (by decide) (by decide) (by decide) (by decide) (by decide) (by decide) (by decide) (by decide) (by decide) (by decide) (by decide) (fun i h1 h2 => by obtain rfl : i = 0 := (by omega); decide) (by decide) (by decide) (by decide) (by decide)
  have w1 : PNot s2 3 [sB] 5 := not_word (a := 4) (k := 5) (by decide) (by decide) (by decide) (by decide) (by decide) (by decide) (by decide) (by decide) (by decide) (by decide) (by decide) (by decide) (fun i h1 h2 => by obtain rfl : i = 4 := (by omega); decide) (by decide) (by decide) (by decide) (by decide)
  have l1 : PLst false s2 0 [sA, sB, sC] 5 := list_and (m := 2) (atf := fun i => if i = 0 then 0 else 3) (ate := fun i => if i = 0 then 1 else 5) (qf := fun i => if i = 0 then [sA] else [sB]) (by decide) (by decide) (by decide) rfl (two w0 w1) (fun i hi => by obtain rfl : i = 0 := (by omega); decide) (by decide) (by decide) (fun i hi => by
    match i, hi with
    | 0, _ => decide
    | 1, _ => decide
    | 2, _ => decide)
  exact list_or (m := 1) (atf := fun i => 0) (ate := fun i => 5) (qf := fun i => [sA, sB, sC]) (by decide) (by decide) (by decide) rfl (fun i _ => l1) (fun i hi => absurd hi (by omega)) (by decide) (by decide) (fun i hi => by
    match i, hi with
    | 0, _ => decide
    | 1, _ => decide)
theorem p1 : PLst true s1 0 [sA, sB, sA, sC, sC] 11 := by
  have w0 : PNot s1 0 [sA] 1 := not_word (a := 0) (k := 1) (by decide) (by decide) (by decide) (by decide) (by decide) (by decide) (by decide) (by decide) (by decide) (by decide) (by decide) (by decide) (fun i h1 h2 => by obtain rfl : i = 0 := (by omega); decide) (by decide) (by decide) (by decide) (by decide)
  have w1 : PNot s1 5 [sB] 6 := not_word (a := 5) (k := 6) (by decide) (by decide) (by decide) (by decide) (by decide) (by decide) (by decide) (by decide) (by decide) (by decide) (by decide) (by decide) (fun i h1 h2 => by obtain rfl : i = 5 := (by omega); decide) (by decide) (by decide) (by decide) (by decide)
  have w2 : PNot s1 8 [sA] 10 := not_word (a := 9) (k := 10) (by decide) (by decide) (by decide) (by decide) (by decide) (by decide) (by decide) (by decide) (by decide) (by decide) (by decide) (by decide) (fun i h1 h2 => by obtain rfl : i = 9 := (by omega); decide) (by decide) (by decide) (by decide) (by decide)
  have l1 : PLst false s1 5 [sB, sA, sC] 10 := list_and (m := 2) (atf := fun i => if i = 0 then 5 else 8) (ate := fun i => if i = 0 then 6 else 10) (qf := fun i => if i = 0 then [sB] else [sA]) (by decide) (by decide) (by decide) rfl (two w1 w2) (fun i hi => by obtain rfl : i = 0 := (by omega); decide) (by decide) (by decide) (fun i hi => by
    match i, hi with
    | 0, _ => decide
    | 1, _ => decide
    | 2, _ => decide)
  have l2 : PLst true s1 5 [sB, sA, sC] 10 := list_or (m := 1) (atf := fun i => 5) (ate := fun i => 10) (qf := fun i => [sB, sA, sC]) (by decide) (by decide) (by decide) rfl (fun i _ => l1) (fun i hi => absurd hi (by omega)) (by decide) (by decide) (fun i hi => by
    match i, hi with
    | 0, _ => decide
    | 1, _ => decide)
  have w3 : PNot s1 3 [sB, sA, sC] 11 := not_par (a := 4) (b := 10) (e := 10) (by decide) (by decide) (by decide) (by decide) (by decide) (by decide) l2 (by decide) (by decide) (by decide)
  have l3 : PLst false s1 0 [sA, sB, sA, sC, sC] 11 := list_and (m := 2) (atf := fun i => if i = 0 then 0 else 3) (ate := fun i => if i = 0 then 1 else 11) (qf := fun i => if i = 0 then [sA] else [sB, sA, sC]) (by decide) (by decide) (by decide) rfl (two w0 w3) (fun i hi => by obtain rfl : i = 0 := (by omega); decide) (by decide) (by decide) (fun i hi => by
    match i, hi with
    | 0, _ => decide
    | 1, _ => decide
    | 2, _ => decide)
  exact list_or (m := 1) (atf := fun i => 0) (ate := fun i => 11) (qf := fun i => [sA, sB, sA, sC, sC]) (by decide) (by decide) (by decide) rfl (fun i _ => l3) (fun i hi => absurd hi (by omega)) (by decide) (by decide) (fun i hi => by
    match i, hi with
    | 0, _ => decide
    | 1, _ => decide)
theorem c1 : checkQ [sA, sB, sA, sC, sC] = 0 := by decide
theorem c2_ : checkQ [sA, sB, sC] = 0 := by decide
theorem f1 {t : Qt} (h : parS [] [sA, sB, sA, sC, sC] = [t]) : (flatT t).st = [sA, sB, sC] := by
  have e : parS [] [sA, sB, sA, sC, sC] = [.group 6 (.cons (.leaf sA) (.cons (.group 6 (.cons (.leaf sB) (.cons (.leaf sA) .nil))) .nil))] := rfl
  rw [e] at h
  injection h with h _
  rw [← h]
  decide
theorem alive_d : Does Try.prog B w0 9 [] F (fun r L => r = .bool true ∧ L = F) := by
  obtain ⟨t, k1, k2, k3, k4, k5, k6, k7⟩ := check_ok c1
  have hf := f1 k3
  have hpf := fun B w0 F A c hb => @pflat_ok B w0 F A c [sA, sB, sA, sC, sC] t hb c1 k1 k2 k3 k4 k5 k6
  rw [hf] at hpf
  refine fn_walk Try.func9 31 rfl rfl rfl [] trivial ?_
  refine vc_seq ?_
  refine vc_region ?_
  refine vl_det (det_assign rfl) rfl ?_
  refine vl_end [] trivial ?_
  refine then_next ?_
  refine vc_seq ?_
  refine vc_region ?_
  refine vl_call co28 rfl (parse_d (s := s1) (by decide) p1 (by decide) c1) rfl ?_
  rintro _ _ ⟨A10, c10, rfl, hLL⟩
  obtain rfl := hLL.symm
  refine vl_det (det_move rfl) rfl ?_
  refine vl_det (det_extract rfl rfl) rfl ?_
  refine vl_det (det_extract rfl rfl) rfl ?_
  refine vl_det (det_extract rfl rfl) rfl ?_
  refine vl_det (det_assign rfl) rfl ?_
  refine vl_det (det_assign rfl) rfl ?_
  refine vl_det (det_assign rfl) rfl ?_
  refine vl_end [(1, _)] ⟨rfl, trivial⟩ ?_
  refine then_next ?_
  refine vc_seq ?_
  refine vc_region ?_
  refine vl_call co28 rfl (parse_d (s := s2) (by decide) p2 (by decide) c2_) rfl ?_
  rintro _ _ ⟨A15, c15, rfl, hLL⟩
  obtain rfl := hLL.symm
  refine vl_det (det_move rfl) rfl ?_
  refine vl_det (det_extract rfl rfl) rfl ?_
  refine vl_det (det_extract rfl rfl) rfl ?_
  refine vl_det (det_extract rfl rfl) rfl ?_
  refine vl_det (det_assign rfl) rfl ?_
  refine vl_det (det_assign rfl) rfl ?_
  refine vl_det (det_assign rfl) rfl ?_
  refine vl_end [(1, _), (4, _)] ⟨rfl, rfl, trivial⟩ ?_
  refine then_next ?_
  refine vc_seq ?_
  refine vc_region ?_
  refine vl_det (det_move rfl) rfl ?_
  refine vl_call co11 rfl (hpf _ _ _ _ _ (by first | (exact Bor.own (by repeat (first | exact List.Mem.head _ | apply List.Mem.tail))) | (repeat (first | assumption | apply Bor.cons)))) rfl ?_
  rintro _ _ ⟨A21, c21, rfl, hLL⟩
  obtain rfl := hLL.symm
  refine vl_det (det_move rfl) rfl ?_
  refine vl_det (det_extract rfl rfl) rfl ?_
  refine vl_det (det_extract rfl rfl) rfl ?_
  refine vl_det (det_assign rfl) rfl ?_
  refine vl_det (det_assign rfl) rfl ?_
  refine vl_end [(4, _), (7, _), (8, _)] ⟨rfl, rfl, rfl, trivial⟩ ?_
  refine then_next ?_
  refine vc_seq ?_
  refine vc_region ?_
  refine vl_det (det_move rfl) rfl ?_
  refine vl_det (det_eql rfl rfl) rfl ?_
  refine vl_det (det_move rfl) rfl ?_
  refine vl_guardp rfl rfl rfl (fun h26 => ?_) (fun h26 => ?_)
  · skip
    refine vl_det (det_move rfl) rfl ?_
    refine vl_guard_t rfl rfl ?_
    refine vl_det (det_move rfl) rfl ?_
    refine vl_guard_t rfl rfl ?_
    refine vl_call co12 rfl (qsame_d (l := [sA, sB, sC]) (l2 := [sA, sB, sC]) (by first | (exact Bor.own (by repeat (first | exact List.Mem.head _ | apply List.Mem.tail))) | (repeat (first | assumption | apply Bor.cons))) (by first | (exact Bor.own (by repeat (first | exact List.Mem.head _ | apply List.Mem.tail))) | (repeat (first | assumption | apply Bor.cons))) (by decide)) rfl ?_
    rintro _ _ ⟨rfl, hLL⟩
    obtain rfl := hLL.symm
    refine vl_det (det_pick_t rfl rfl) rfl ?_
    refine vl_det (det_assign rfl) rfl ?_
    refine vl_end [(0, _)] ⟨rfl, trivial⟩ ?_
    refine then_next ?_
    refine vc_ret ?_
    refine ret_wk (L' := F) (.skip (.skip (.skip (.refl _)))) ?_
    refine ret1 rfl rfl ?_
    exact ⟨by rw [decide_eq_true rfl], rfl⟩
  · skip
    exfalso; exact h26 rfl
end Go.Proofs.Ytakokckokchacaa
namespace Go.Proofs.Ytakokckokchacaa
open Go.RowKit
set_option linter.unusedVariables false
set_option maxRecDepth 20000
/-! steps tell the tree -/
/-! normal form -/
def ndS (S : List Qt) : Prop := (S.map Qt.st).Nodup
def Qt.nf : Qt → Prop
  | .leaf _ => True
  | .not k => isNt k = false ∧ k.nf
  | .group op ks => ndS (toL ks) ∧ (∀ t ∈ toL ks, ¬ (isG t = true ∧ gop t = op)) ∧ ks.nf
  | .nil => True
  | .cons k r => k.nf ∧ r.nf
end Go.Proofs.Ytakokckokchacaa
namespace Go.Proofs.Ytakokckokchacaa
open Go.RowKit
set_option linter.unusedVariables false
set_option maxRecDepth 20000
variable {B : Nat} {w0 : World} {F L M : List Ch} {A A2 : Option Addr} {n c c2 g : Nat}
def kidsT : Qt → List Qt
  | .not k => [k]
  | .group _ ks => toL ks
  | _ => []
def lastT : Qt → StepC
  | .leaf s => s
  | .not _ => (5, 0, [], 0, 0)
  | .group op ks => (op, (ks.len : Int), [], 0, 0)
  | _ => sNil
theorem st_right (t : Qt) (hw : t.wf) : (t.isN → ∀ s ∈ t.st, rightS s) ∧ ∀ k ∈ toL t, ∀ s ∈ k.st, rightS s := by
  refine Qt.ind (P := fun t => ∀ s ∈ t.st, rightS s) (fun s h1 h2 x hx => ?_) (fun k h1 h2 ih x hx => ?_) (fun op l h1 h2 h3 ih x hx => ?_) t hw
  · rw [show x = s by simpa [Qt.st] using hx]; exact h1
  · rcases List.mem_append.1 (show x ∈ k.st ++ _ from hx) with hx | hx
    · exact ih x hx
    · rw [List.mem_singleton.1 hx]; exact (right_n rfl).2 rfl
  · rcases List.mem_append.1 (show x ∈ (ofL l).st ++ _ from hx) with hx | hx
    · rw [ofL_st, List.mem_flatMap] at hx
      obtain ⟨k, hk, hx⟩ := hx
      exact ih k hk x hx
    · rw [List.mem_singleton.1 hx, ofL_len]; exact (right_g h1).2 ⟨rfl, by omega⟩
/-! how many queries steps want, ahead of them -/
def ND : List StepC → Int
  | [] => 0
  | s :: r => takesS s - 1 + ND r
/-- a row of steps in memory: where it lies, its room, the steps -/
abbrev Pq := Option Addr × Nat × List StepC
abbrev pqv (e : Pq) : Value := .slice e.1 e.2.2.length e.2.1
def PqB (B : Nat) (w0 : World) (F : List Ch) (PL : List Pq) : Prop := ∀ e ∈ PL, Bor B w0 F 5 (.slice e.1 e.2.2.length e.2.1) e.2.2.length (stepsV e.2.2)
theorem PqB.mono {PL : List Pq} (h : PqB B w0 F PL) (hs : F.Sublist M) : PqB B w0 M PL := fun e he => (h e he).mono hs
def PartsQ (B : Nat) (w0 : World) (t : Qt) (A : Option Addr) (c : Nat) (F : List Ch) (r : Value) (L : List Ch) : Prop :=
  ∃ A' c' PL, r = .slice A' (kidsT t).length c' ∧ PL.length = (kidsT t).length ∧ L = .own 22 1 A' (kidsT t).length c' (PL.map pqv) :: F ∧ PL.map (·.2.2) = (kidsT t).map Qt.st ∧ ∀ F', Bor B w0 F' 5 (.slice A t.st.length c) t.st.length (stepsV t.st) → PqB B w0 F' PL
end Go.Proofs.Ytakokckokchacaa
namespace Go.Proofs.Ytakokckokchacaa
open Go.RowKit
set_option linter.unusedVariables false
set_option maxRecDepth 20000
variable {B : Nat} {w0 : World} {F : List Ch} {A A1 A2 : Option Addr} {n c c1 c2 g : Nat}
def SameT (l1 l2 : List Txt) (k : Nat) : Prop := l1.take k = l2.take k
theorem SameT.step {l1 l2 : List Txt} {k : Nat} (h : SameT l1 l2 k) (h1 : k < l1.length) (h2 : k < l2.length) (he : l1.getD k [] = l2.getD k []) : SameT l1 l2 (k + 1) := by
  unfold SameT at *
  rw [List.take_add_one, List.take_add_one, h]
  congr 1
  rw [List.getElem?_eq_getElem h1, List.getElem?_eq_getElem h2]
  simp [List.getD, List.getElem?_eq_getElem h1, List.getElem?_eq_getElem h2] at he
  rw [he]
theorem SameT.all {l1 l2 : List Txt} {k : Nat} (h : SameT l1 l2 k) (h1 : ¬ k < l1.length) (h2 : l1.length = l2.length) : l1 = l2 := by
  unfold SameT at h
  rwa [List.take_of_length_le (by omega), List.take_of_length_le (by omega)] at h
theorem same15_d {l1 l2 : List Txt} (h1 : Bor B w0 F 1 (.slice A1 l1.length c1) l1.length (strs l1)) (h2 : Bor B w0 F 1 (.slice A2 l2.length c2) l2.length (strs l2)) (hn1 : l1.length ≤ 1000000000000000) :
    Does Try.prog B w0 18 [.slice A1 l1.length c1, .slice A2 l2.length c2] F (fun r L => r = .bool (decide (l1 = l2)) ∧ L = F) := by
  refine fn_walk Try.func18 26 rfl rfl rfl [(0, .slice A1 l1.length c1), (1, .slice A2 l2.length c2)] ⟨⟨rfl, rfl⟩, ⟨rfl, rfl⟩, trivial⟩ ?_
  refine vc_seq ?_
  refine vc_region ?_
  refine vl_det (det_assign rfl) rfl ?_
  refine vl_end [(0, _), (1, _)] ⟨rfl, rfl, trivial⟩ ?_
  refine then_next ?_
  refine vc_seq ?_
  refine vc_seq ?_
  refine vc_region ?_
  refine vl_det (det_move rfl) rfl ?_
  refine vl_det (det_len_sl Try.underlying39 rfl) rfl ?_
  refine vl_det (det_move rfl) rfl ?_
  refine vl_det (det_len_sl Try.underlying39 rfl) rfl ?_
  refine vl_det (det_neq rfl rfl) rfl ?_
  refine vl_end [(0, _), (1, _), (10, _)] ⟨rfl, rfl, rfl, trivial⟩ ?_
  refine then_next ?_
  refine vc_decideU rfl (fun h10 => ?_) (fun h10 => ?_)
  · skip
    refine vc_seq ?_
    refine vc_region ?_
    refine vl_det (det_assign rfl) rfl ?_
    refine vl_end [(4, _)] ⟨rfl, trivial⟩ ?_
    refine then_next ?_
    refine vc_ret ?_
    refine then_ret ?_
    refine ret1 rfl rfl ?_
    rw [decide_eq_false (fun e => h10 (by rw [e]))]; exact ⟨rfl, rfl⟩
  · skip
    refine vc_skip ?_
    refine then_next ?_
    refine vc_seq ?_
    refine vc_seq ?_
    refine vc_region ?_
    refine vl_det (det_assign rfl) rfl ?_
    refine vl_end [(0, _), (1, _), (5, _)] ⟨rfl, rfl, rfl, trivial⟩ ?_
    refine then_next ?_
    refine vc_block ?_
    refine vc_loopJ (fun zf zL zm => ∃ (k : Nat), (k ≤ l1.length ∧ SameT l1 l2 k) ∧ l1.length - k = zm ∧ Sub zf [(0, .slice A1 l1.length c1), (1, .slice A2 l2.length c2), (5, .int .i64 k)] ∧ Wk zL (F)) _ ⟨0, ⟨Nat.zero_le _, rfl⟩, rfl, ⟨(by first | rfl | exact int_to (by omega) | exact sl_to (by omega)), (by first | rfl | exact int_to (by omega) | exact sl_to (by omega)), (by first | rfl | exact int_to (by omega) | exact sl_to (by omega)), trivial⟩, .refl _⟩ ?_
    rintro _ _ _ ⟨k, ⟨hk, hS⟩, rfl, hs, hp⟩
    refine vc_weaken _ hs (vc_wk hp ?_)
    clear hs hp
    refine vc_seq ?_
    refine vc_seq ?_
    refine vc_region ?_
    refine vl_det (det_move rfl) rfl ?_
    refine vl_det (det_move rfl) rfl ?_
    refine vl_det (det_len_sl Try.underlying39 rfl) rfl ?_
    refine vl_det (det_lss rfl rfl) rfl ?_
    refine vl_end [(0, _), (1, _), (5, _), (14, _)] ⟨rfl, rfl, rfl, rfl, trivial⟩ ?_
    refine then_next ?_
    refine vc_decideU rfl (fun h14 => ?_) (fun h14 => ?_)
    · skip
      refine vc_skip ?_
      refine then_next ?_
      refine vc_seq ?_
      refine vc_block ?_
      refine vc_seq ?_
      refine vq_region (by kernel_rfl) (by kernel_rfl) ?_
      refine vq_det (det_move rfl) rfl ?_
      refine vq_det (det_move rfl) rfl ?_
      refine vq_det (det_indexAddr (size := 1) Try.underlying39 (by kernel_rfl) rfl rfl rfl (by omega) (by first | (exact Bor.own (by repeat (first | exact List.Mem.head _ | apply List.Mem.tail))) | (repeat (first | assumption | apply Bor.cons)))) rfl ?_
      refine vq_det (det_load_str (by kernel_rfl) rfl (by first | (exact Bor.own (by repeat (first | exact List.Mem.head _ | apply List.Mem.tail))) | (repeat (first | assumption | apply Bor.cons))) (by omega)) rfl ?_
      refine vq_det (det_move rfl) rfl ?_
      refine vq_det (det_move rfl) rfl ?_
      refine vq_det (det_indexAddr (size := 1) Try.underlying39 (by kernel_rfl) rfl rfl rfl (by omega) (by first | (exact Bor.own (by repeat (first | exact List.Mem.head _ | apply List.Mem.tail))) | (repeat (first | assumption | apply Bor.cons)))) rfl ?_
      refine vq_det (det_load_str (by kernel_rfl) rfl (by first | (exact Bor.own (by repeat (first | exact List.Mem.head _ | apply List.Mem.tail))) | (repeat (first | assumption | apply Bor.cons))) (by omega)) rfl ?_
      refine vq_det (det_s_neq rfl rfl) rfl ?_
      refine vq_end [(0, _), (1, _), (5, _), (25, _)] ⟨rfl, rfl, rfl, rfl, trivial⟩ ?_
      refine then_next ?_
      refine vc_decideU rfl (fun h25 => ?_) (fun h25 => ?_)
      · skip
        refine vc_seq ?_
        refine vc_region ?_
        refine vl_det (det_assign rfl) rfl ?_
        refine vl_end [(4, _)] ⟨rfl, trivial⟩ ?_
        refine then_next ?_
        refine vc_ret ?_
        refine in_ret ?_
        refine then_ret ?_
        refine loop_ret ?_
        refine in_ret ?_
        refine then_ret ?_
        refine ret1 rfl rfl ?_
        rw [decide_eq_false (fun e => h25 (by rw [e]))]; exact ⟨rfl, rfl⟩
      · skip
        refine vc_skip ?_
        refine in_normal ?_
        refine then_next ?_
        refine vc_region ?_
        refine vl_det (det_move rfl) rfl ?_
        refine vl_det (det_add rfl rfl (w_i64 (by omega) (by omega))) rfl ?_
        refine vl_det (det_assign rfl) rfl ?_
        refine vl_end [(0, _), (1, _), (5, _)] ⟨rfl, rfl, rfl, trivial⟩ ?_
        refine in_loop_ ⟨_, by omega, k + 1, ⟨by omega, hS.step (by omega) (by omega) (by simpa using h25)⟩, rfl, ⟨(by first | rfl | exact int_to (by omega) | exact sl_to (by omega)), (by first | rfl | exact int_to (by omega) | exact sl_to (by omega)), (by first | rfl | exact int_to (by omega) | exact sl_to (by omega)), trivial⟩, .refl _⟩
    · skip
      refine vc_exit ?_
      refine then_exit ?_
      refine loop_exit ?_
      refine in_eq ?_
      refine then_next ?_
      refine vc_seq ?_
      refine vc_region ?_
      refine vl_det (det_assign rfl) rfl ?_
      refine vl_end [(4, _)] ⟨rfl, trivial⟩ ?_
      refine then_next ?_
      refine vc_ret ?_
      refine ret1 rfl rfl ?_
      rw [decide_eq_true (hS.all (by omega) (by omega))]; exact ⟨rfl, rfl⟩
end Go.Proofs.Ytakokckokchacaa
namespace Go.Proofs.Ytakokckokchacaa
open Go.RowKit Go.ChangeShapes Go.WideShapes Go.ChangeAt

/-- whatever reads at type t is 'F x' for some x that is fine -/
def DecT (P : Program) (w : World) (t : TypeId) {α : Type} (F : α → List Value) (Ok : α → Prop) : Prop :=
  ∀ (H : Type) (enc : TypeId × Value → H) (n : Nat) (cs : List Value) (y : DataW H × List MemPlace),
    DataW.trod enc P w 0 (fun _ => true) true n t cs = some y → ∃ x, cs = F x ∧ Ok x

section
variable {P : Program} {w : World} {t : TypeId}
theorem dec_u64 (ht : P.underlying t = some (.int .u64)) : DecT P w t (fun x : Nat => [.int .u64 (x : Int)]) (fun x => x < 18446744073709551616) := by
  intro H enc n cs y h
  obtain ⟨m, rfl, _, hw⟩ := DataW.trod_int ht h
  have hb := bounds_u64 hw
  exact ⟨m.toNat, by dsimp only; rw [Int.toNat_of_nonneg hb.1], by omega⟩
theorem dec_int (ht : P.underlying t = some (.int .i64)) : DecT P w t (fun x : Int => [.int .i64 x]) (fun x => -9223372036854775808 ≤ x ∧ x ≤ 9223372036854775807) := by
  intro H enc n cs y h
  obtain ⟨m, rfl, _, hw⟩ := DataW.trod_int ht h
  exact ⟨m, rfl, bounds_i64 hw⟩
theorem dec_string (ht : P.underlying t = some .string) : DecT P w t (fun s : ByteArray => [.string s]) (fun s => s.size ≤ maxLen) := by
  intro H enc n cs y h
  obtain ⟨s, rfl, _, hs⟩ := DataW.trod_string ht h
  exact ⟨s, rfl, hs⟩
theorem flatMap_get {α : Type} {F : α → List Value} {size : Nat} (hF : ∀ x, (F x).length = size) : ∀ (L : List α) (i j : Nat), j < size → (L.flatMap F)[i * size + j]? = (L[i]?).bind fun x => (F x)[j]? := by
  intro L
  induction L with
  | nil => intro i j _; simp
  | cons x L ih =>
    intro i j hj
    rw [List.flatMap_cons]
    rcases i with _ | i
    · rw [List.getElem?_append_left (by rw [hF]; omega)]; simp
    · rw [List.getElem?_append_right (by rw [hF, Nat.succ_mul]; omega), hF, show (i + 1) * size + j - size = i * size + j by rw [Nat.succ_mul]; omega, ih i j hj]
      simp
/-- a slice whose elements are opened by 'he' -/
theorem dec_slice {e : TypeId} {α : Type} {F : α → List Value} {Ok : α → Prop} {size : Nat} (ht : P.underlying t = some (.slice e)) (hc : P.cellsOf e = size) (hs : 0 < size) (hF : ∀ x, (F x).length = size) (he : DecT P w e F Ok) :
    DecT P w t (fun x : Value × List α => [x.1]) (fun x => Rd w w.heap.size size x.1 x.2.length (x.2.flatMap F) ∧ (∀ y ∈ x.2, Ok y) ∧ x.2.length ≤ maxLen) := by
  intro H enc n cs y h
  rcases Deep.open_slice ht h with ⟨rfl, _⟩ | ⟨a, len, cap, m, n', D, Pl, rfl, _, hl, hm, hmm, _, hel⟩
  · exact ⟨(.slice none 0 0, []), rfl, Rd.nil_, by simp, by simp⟩
  · simp only [if_true] at hmm
    have hex : ∀ i, i < len → ∃ x, w.cells? 0 (a.add (i * P.cellsOf e)) (P.cellsOf e) = some (F x) ∧ Ok x := by
      intro i hi
      obtain ⟨cs', h1, h2⟩ := hel i (by omega)
      obtain ⟨x, rfl, ho⟩ := he H enc _ _ _ h2
      exact ⟨x, h1, ho⟩
    have hlist : ∀ k, k ≤ len → ∃ L : List α, L.length = k ∧ ∀ i x, L[i]? = some x → w.cells? 0 (a.add (i * P.cellsOf e)) (P.cellsOf e) = some (F x) ∧ Ok x := by
      intro k
      induction k with
      | zero => intro _; exact ⟨[], rfl, by simp⟩
      | succ k ih =>
        intro hk
        obtain ⟨L, hL, hLi⟩ := ih (by omega)
        obtain ⟨x, hx⟩ := hex k (by omega)
        refine ⟨L ++ [x], by simp [hL], fun i z hz => ?_⟩
        rw [List.getElem?_append] at hz
        split at hz
        · exact hLi i z hz
        · rename_i hlt
          have : i = k := by
            have := (List.getElem?_eq_some_iff.1 hz).1
            simp at this; omega
          subst this
          simp [hL] at hz; subst hz; exact hx
    obtain ⟨L, hL, hLi⟩ := hlist len (Nat.le_refl _)
    refine ⟨(.slice (some a) len cap, L), rfl, ⟨some a, cap, by rw [hL], by rw [hL]; exact hl, ?_, fun hn => ⟨a, rfl, ?_, ?_⟩⟩, ?_, by show L.length ≤ maxLen; omega⟩
    · show (L.flatMap F).length = L.length * size
      clear hL hLi
      induction L with
      | nil => simp
      | cons x L ih => simp [ih, hF, Nat.succ_mul, Nat.add_comm]
    · obtain ⟨x, hx⟩ : ∃ x, L[0]? = some x := by
        rcases L with _ | ⟨x, L⟩
        · simp at hn
        · exact ⟨x, rfl⟩
      have := (hLi 0 x hx).1
      rw [hc] at this
      have := (World.cells?_some this).2.2 0 hs
      simp [Addr.add] at this
      rcases Nat.lt_or_ge a.block w.heap.size with hlt | hge
      · exact hlt
      · rw [World.cell?, Array.getElem?_eq_none hge] at this
        have h0 := hF x
        have : (F x)[0]? = none := by simpa using this.symm
        have := List.getElem?_eq_none_iff.1 this
        omega
    · intro j u hu
      have hj : j = j / size * size + j % size := by have := Nat.div_add_mod j size; rw [Nat.mul_comm] at this; omega
      rw [hj, flatMap_get hF L _ _ (Nat.mod_lt _ hs)] at hu
      obtain ⟨x, hx, hu⟩ := Option.bind_eq_some_iff.1 hu
      have hcx := (hLi _ x hx).1
      rw [hc] at hcx
      have := (World.cells?_some hcx).2.2 (j % size) (Nat.mod_lt _ hs)
      rw [add_of_add, ← hj] at this
      rw [this, hu]
    · intro y hy
      obtain ⟨i, hi⟩ := List.getElem?_of_mem hy
      exact (hLi i y hi).2
end

section
variable {P : Program} {w : World} {t : TypeId}
/-- an argument that is opened -/
theorem DecT.arg {α : Type} {F : α → List Value} {Ok : α → Prop} (hd : DecT P w t F Ok) {H : Type} {enc : TypeId × Value → H} {v : Value} {d : DataW H} {ps : List MemPlace}
    (h : DataW.Trod enc P w 0 (fun _ => true) true t v d ps) : ∃ x, v.cells.toList = F x ∧ Ok x := by
  obtain ⟨n, h⟩ := h
  exact hd H enc n _ _ h
theorem cells_slice {v : Value} {x : Value} (a : Option Addr) (n c : Nat) (hv : v = .slice a n c) (h : v.cells.toList = [x]) : x = v := by
  subst hv; simp [Value.cells] at h; exact h.symm
end

section
variable {P : Program} {w : World} {t : TypeId}
end
end Go.Proofs.Ytakokckokchacaa
namespace Go.Proofs.Ytakokckokchacaa
open Go.RowKit
set_option linter.unusedVariables false
/-- a record: its time, its level, its source, its text -/
abbrev RecC := Nat × UInt8 × List UInt8 × List UInt8
def RecC.cells (x : RecC) : List Value := [.int .u64 x.1, .int .u8 (x.2.1.toNat : Int), .string ⟨x.2.2.1.toArray⟩, .string ⟨x.2.2.2.toArray⟩]
def RecC.ok (x : RecC) : Prop := x.1 < 18446744073709551616 ∧ True ∧ x.2.2.1.length ≤ maxLen ∧ x.2.2.2.length ≤ maxLen
theorem dec_strL {P : Program} {w : World} {t : TypeId} (ht : P.underlying t = some .string) : DecT P w t (fun s : List UInt8 => [.string ⟨s.toArray⟩]) (fun s => s.length ≤ maxLen) := by
  intro H enc n cs y h
  obtain ⟨s, h1, h2⟩ := dec_string ht H enc n cs y h
  refine ⟨s.data.toList, ?_, ?_⟩
  · rw [h1]
  · have e : s.data.toList.length = s.size := by rw [Array.length_toList]; rfl
    show s.data.toList.length ≤ maxLen
    rw [e]; exact h2
def recs (L : List RecC) : List Value := L.flatMap RecC.cells
def recAt (L : List RecC) (k : Nat) : RecC := L.getD k (0, 0, [], [])
end Go.Proofs.Ytakokckokchacaa
namespace Go.Proofs.Ytakokckokchacaa
open Go.RowKit
set_option linter.unusedVariables false
set_option maxRecDepth 20000
theorem dec_struct5 {P : Program} {w : World} {t : TypeId} {α β γ δ ε : Type} {f0 f1 f2 f3 f4 : Field} {F0 : α → Value} {F1 : β → Value} {F2 : γ → Value} {F3 : δ → Value} {F4 : ε → Value} {O0 : α → Prop} {O1 : β → Prop} {O2 : γ → Prop} {O3 : δ → Prop} {O4 : ε → Prop}
    (ht : P.underlying t = some (.struct #[f0, f1, f2, f3, f4])) (hc : P.cellsOf t = 5) (h0 : f0.offset = 0 ∧ P.cellsOf f0.type = 1) (h1 : f1.offset = 1 ∧ P.cellsOf f1.type = 1) (h2 : f2.offset = 2 ∧ P.cellsOf f2.type = 1) (h3 : f3.offset = 3 ∧ P.cellsOf f3.type = 1) (h4 : f4.offset = 4 ∧ P.cellsOf f4.type = 1)
    (d0 : DecT P w f0.type (fun x => [F0 x]) O0) (d1 : DecT P w f1.type (fun x => [F1 x]) O1) (d2 : DecT P w f2.type (fun x => [F2 x]) O2) (d3 : DecT P w f3.type (fun x => [F3 x]) O3) (d4 : DecT P w f4.type (fun x => [F4 x]) O4) :
    DecT P w t (fun x : α × β × γ × δ × ε => [F0 x.1, F1 x.2.1, F2 x.2.2.1, F3 x.2.2.2.1, F4 x.2.2.2.2]) (fun x => O0 x.1 ∧ O1 x.2.1 ∧ O2 x.2.2.1 ∧ O3 x.2.2.2.1 ∧ O4 x.2.2.2.2) := by
  intro H enc n cs y h
  obtain ⟨xs, n', _, _, hl, hx, hf⟩ := DataW.trod_struct ht h
  rw [hc] at hl
  obtain ⟨c0, c1, c2, c3, c4, rfl⟩ : ∃ c0 c1 c2 c3 c4, cs = [c0, c1, c2, c3, c4] := by
    match cs, hl with
    | [c0, c1, c2, c3, c4], _ => exact ⟨c0, c1, c2, c3, c4, rfl⟩
  obtain ⟨y0, y1, y2, y3, y4, rfl⟩ : ∃ y0 y1 y2 y3 y4, xs = [y0, y1, y2, y3, y4] := by
    match xs, hx with
    | [y0, y1, y2, y3, y4], _ => exact ⟨y0, y1, y2, y3, y4, rfl⟩
  have g0 := hf 0 f0 rfl
  have g1 := hf 1 f1 rfl
  have g2 := hf 2 f2 rfl
  have g3 := hf 3 f3 rfl
  have g4 := hf 4 f4 rfl
  rw [h0.1, h0.2] at g0
  rw [h1.1, h1.2] at g1
  rw [h2.1, h2.2] at g2
  rw [h3.1, h3.2] at g3
  rw [h4.1, h4.2] at g4
  obtain ⟨a, ea, oa⟩ := d0 H enc _ _ _ g0
  obtain ⟨b, eb, ob⟩ := d1 H enc _ _ _ g1
  obtain ⟨c, ec, oc⟩ := d2 H enc _ _ _ g2
  obtain ⟨d, ed, od⟩ := d3 H enc _ _ _ g3
  obtain ⟨e, ee, oe⟩ := d4 H enc _ _ _ g4
  simp at ea eb ec ed ee
  exact ⟨(a, b, c, d, e), by simp [ea, eb, ec, ed, ee], oa, ob, oc, od, oe⟩
def StepC.ok (s : StepC) : Prop := (-9223372036854775808 ≤ s.1 ∧ s.1 ≤ 9223372036854775807) ∧ (-9223372036854775808 ≤ s.2.1 ∧ s.2.1 ≤ 9223372036854775807) ∧ s.2.2.1.length ≤ maxLen ∧ s.2.2.2.1 < 18446744073709551616 ∧ s.2.2.2.2 < 18446744073709551616
theorem dec_step (w : World) : DecT Try.prog w 38 StepC.cells StepC.ok :=
  dec_struct5 Try.underlying38 (by kernel_rfl) ⟨rfl, by kernel_rfl⟩ ⟨rfl, by kernel_rfl⟩ ⟨rfl, by kernel_rfl⟩ ⟨rfl, by kernel_rfl⟩ ⟨rfl, by kernel_rfl⟩ (dec_int Try.underlying3) (dec_int Try.underlying3) (dec_strL Try.underlying9) (dec_u64 Try.underlying36) (dec_u64 Try.underlying36)
end Go.Proofs.Ytakokckokchacaa
