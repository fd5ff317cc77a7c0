/-
  Texts of one proof, joined: part 7. No condition.
-/
import Derived.Test.YtakokckokchacaaLa6
namespace Go.Proofs.Ytakokckokchacaa
open Go.RowKit
set_option linter.unusedVariables false
set_option maxRecDepth 20000
variable {B : Nat} {w0 : World} {F L M : List Ch} {A A2 : Option Addr} {n c c2 g at_ : Nat} {s : Txt}
/-- a parser's block -/
abbrev Pb (g : Nat) (s : Txt) (at_ : Nat) : Ch := .blk g 84 [.string ⟨s.toArray⟩, .int .i64 at_, .int .i64 (-1)]
def skB (s : Txt) : Nat → Nat → Nat
  | i, 0 => i
  | i, f + 1 => if i < s.length ∧ s.getD i 0 = 32 then skB s (i + 1) f else i
/-- the place behind blanks -/
def sk (s : Txt) (i : Nat) : Nat := skB s i (s.length - i)
theorem sk_step {i : Nat} (h : i < s.length) (h2 : s.getD i 0 = 32) : sk s i = sk s (i + 1) := by
  unfold sk
  rw [show s.length - i = (s.length - (i + 1)) + 1 by omega, skB, if_pos ⟨h, h2⟩]
theorem sk_stop {i : Nat} (h : ¬ (i < s.length ∧ s.getD i 0 = 32)) : sk s i = i := by
  unfold sk
  cases s.length - i with
  | zero => rfl
  | succ f => rw [skB, if_neg h]
theorem pb_at {a b : Value} {x y : Int} (h : x = y) : [a, Value.int .i64 x, b] = [a, Value.int .i64 y, b] := by rw [h]
theorem skip_d (hs : s.length ≤ 1000) (ha : at_ ≤ s.length) : Does Try.prog B w0 45 [.pointer (some ⟨g, 0, none⟩)] (Pb g s at_ :: F) (fun r L => r = .tuple #[] ∧ L = Pb g s (sk s at_) :: F ∧ sk s at_ ≤ s.length) := by
  refine fn_walk Try.func45 31 rfl rfl rfl [(0, .pointer (some ⟨g, 0, none⟩))] ⟨⟨rfl, rfl⟩, trivial⟩ ?_
  refine vc_block ?_
  refine vc_loopJ (fun zf zL zm => ∃ (k : Nat), (k ≤ s.length ∧ sk s k = sk s at_) ∧ s.length - k = zm ∧ Sub zf [(0, .pointer (some ⟨g, 0, none⟩))] ∧ Wk zL (Pb g s k :: F)) _ ⟨at_, ⟨ha, rfl⟩, rfl, ⟨(by first | rfl | exact int_to (by omega) | exact sl_to (by omega)), trivial⟩, .refl _⟩ ?_
  rintro _ _ _ ⟨k, ⟨hk, hsk⟩, rfl, hs, hp⟩
  refine vc_weaken _ hs (vc_wk hp ?_)
  clear hs hp
  refine vc_seq ?_
  refine vc_seq ?_
  refine vq_region (by kernel_rfl) (by kernel_rfl) ?_
  refine vq_cut 22 23 [(0, _)] ((k : Int) < s.length ∧ ((s.getD k 0).toNat : Int) = 32) ⟨rfl, trivial⟩ ?_ ?_
  · skip
    refine vq_det (det_move rfl) rfl ?_
    refine vq_det (det_nilCheck rfl) rfl ?_
    refine vq_det (det_fieldAddr_ Try.underlying84 rfl (by kernel_rfl) rfl rfl) rfl ?_
    refine vq_det (det_load_blk (by kernel_rfl) rfl (by repeat (first | exact .hd | apply Sel.tl)) rfl) rfl ?_
    refine vq_det (det_move rfl) rfl ?_
    refine vq_det (det_nilCheck rfl) rfl ?_
    refine vq_det (det_fieldAddr_ Try.underlying84 rfl (by kernel_rfl) rfl rfl) rfl ?_
    refine vq_det (det_load_blk (by kernel_rfl) rfl (by repeat (first | exact .hd | apply Sel.tl)) rfl) rfl ?_
    refine vq_det (det_len_s Try.underlying9 rfl) rfl ?_
    refine vq_det (det_lss rfl rfl) rfl ?_
    refine vq_det (det_move rfl) rfl ?_
    refine vq_guardp rfl rfl rfl (fun h12 => ?_) (fun h12 => ?_)
    · skip
      refine vq_det (det_move rfl) rfl ?_
      refine vq_guard_t rfl rfl ?_
      refine vq_det (det_nilCheck rfl) rfl ?_
      refine vq_guard_t rfl rfl ?_
      refine vq_det (det_fieldAddr_ Try.underlying84 rfl (by kernel_rfl) rfl rfl) rfl ?_
      refine vq_guard_t rfl rfl ?_
      refine vq_det (det_load_blk (by kernel_rfl) rfl (by repeat (first | exact .hd | apply Sel.tl)) rfl) rfl ?_
      refine vq_guard_t rfl rfl ?_
      refine vq_det (det_move rfl) rfl ?_
      refine vq_guard_t rfl rfl ?_
      refine vq_det (det_nilCheck rfl) rfl ?_
      refine vq_guard_t rfl rfl ?_
      refine vq_det (det_fieldAddr_ Try.underlying84 rfl (by kernel_rfl) rfl rfl) rfl ?_
      refine vq_guard_t rfl rfl ?_
      refine vq_det (det_load_blk (by kernel_rfl) rfl (by repeat (first | exact .hd | apply Sel.tl)) rfl) rfl ?_
      refine vq_guard_t rfl rfl ?_
      refine vq_det (det_at_str Try.underlying9 rfl rfl rfl (by omega)) rfl ?_
      refine vq_guard_t rfl rfl ?_
      refine vq_det (det_eql rfl rfl) rfl ?_
      refine vq_det (det_pick_t rfl rfl) rfl ?_
      exact vq_cut_end ⟨rfl, trivial⟩ (by first | rfl | exact bool_to_t (by first | omega | simp_all) | exact bool_to_f (by first | omega | simp_all) | exact bool_to (by first | omega | simp_all) | exact bool_to_b (by first | omega | simp_all))
    · skip
      refine vq_guard_f rfl rfl rfl rfl ?_
      refine vq_guard_f rfl rfl rfl rfl ?_
      refine vq_guard_f rfl rfl rfl rfl ?_
      refine vq_guard_f rfl rfl rfl rfl ?_
      refine vq_guard_f rfl rfl rfl rfl ?_
      refine vq_guard_f rfl rfl rfl rfl ?_
      refine vq_guard_f rfl rfl rfl rfl ?_
      refine vq_guard_f rfl rfl rfl rfl ?_
      refine vq_guard_f rfl rfl rfl rfl ?_
      refine vq_det (det_pick_f rfl rfl) rfl ?_
      exact vq_cut_end ⟨rfl, trivial⟩ (by first | rfl | exact bool_to_t (by first | omega | simp_all) | exact bool_to_f (by first | omega | simp_all) | exact bool_to (by first | omega | simp_all) | exact bool_to_b (by first | omega | simp_all))
  · skip
    refine vq_end [(0, _), (23, _)] ⟨rfl, rfl, trivial⟩ ?_
    refine then_next ?_
    refine vc_decideU rfl (fun h23 => ?_) (fun h23 => ?_)
    · skip
      refine vc_skip ?_
      refine then_next ?_
      refine vc_block ?_
      refine vc_region ?_
      refine vl_det (det_move rfl) rfl ?_
      refine vl_det (det_nilCheck rfl) rfl ?_
      refine vl_det (det_fieldAddr_ Try.underlying84 rfl (by kernel_rfl) rfl rfl) rfl ?_
      refine vl_det (det_load_blk (by kernel_rfl) rfl (by repeat (first | exact .hd | apply Sel.tl)) rfl) rfl ?_
      refine vl_det (det_add rfl rfl (w_i64 (by omega) (by omega))) rfl ?_
      refine vl_det (det_nilCheck rfl) rfl ?_
      refine vl_det (det_fieldAddr_ Try.underlying84 rfl (by kernel_rfl) rfl rfl) rfl ?_
      refine vl_eff0 (eff_store (by kernel_rfl) rfl rfl rfl (by repeat (first | exact .hd | apply Sel.tl)) (by simp)) ?_
      rintro _ _ rfl
      refine vl_end [(0, _)] ⟨rfl, trivial⟩ ?_
      refine in_normal ?_
      refine in_loop_ ⟨_, by omega, k + 1, ⟨by omega, by rw [← sk_step (by omega) (by have := h23.2; exact UInt8.toNat_inj.1 (by show (s.getD k 0).toNat = 32; omega)), hsk]⟩, rfl, ⟨(by first | rfl | exact int_to (by omega) | exact sl_to (by omega)), trivial⟩, wk_blk (pb_at (by omega)) (.refl _)⟩
    · skip
      have hst : sk s k = k := sk_stop fun h => h23 ⟨by omega, by rw [h.2]; rfl⟩
      rw [hst] at hsk
      refine vc_exit ?_
      refine then_exit ?_
      refine loop_exit ?_
      refine in_eq ?_
      refine ret_n ?_
      rw [← hsk]
      refine ret0 rfl ?_
      exact ⟨rfl, rfl, hk⟩
theorem sees_d (ch : UInt8) (hs : s.length ≤ 1000) (ha : at_ ≤ s.length) : Does Try.prog B w0 57 [.pointer (some ⟨g, 0, none⟩), .int .u8 (ch.toNat : Int)] (Pb g s at_ :: F) (fun r L => r = .bool (decide (sk s at_ < s.length ∧ s.getD (sk s at_) 0 = ch)) ∧ L = Pb g s (sk s at_) :: F ∧ sk s at_ ≤ s.length) := by
  refine fn_walk Try.func57 30 rfl rfl rfl [(0, .pointer (some ⟨g, 0, none⟩)), (1, .int .u8 (ch.toNat : Int))] ⟨⟨rfl, rfl⟩, ⟨rfl, rfl⟩, trivial⟩ ?_
  refine vc_seq ?_
  refine vc_region ?_
  refine vl_det (det_assign rfl) rfl ?_
  refine vl_end [(0, _), (1, _)] ⟨rfl, rfl, trivial⟩ ?_
  refine then_next ?_
  refine vc_seq ?_
  refine vc_region ?_
  refine vl_det (det_move rfl) rfl ?_
  refine vl_call co45 rfl (skip_d hs ha) rfl ?_
  rintro _ _ ⟨rfl, hLL, hle⟩
  obtain rfl := hLL.symm
  refine vl_end [(0, _), (1, _)] ⟨rfl, rfl, trivial⟩ ?_
  refine then_next ?_
  refine vc_seq ?_
  refine vq_region (by kernel_rfl) (by kernel_rfl) ?_
  refine vq_cut 23 29 [] (sk s at_ < s.length ∧ s.getD (sk s at_) 0 = ch) trivial ?_ ?_
  · skip
    refine vq_det (det_move rfl) rfl ?_
    refine vq_det (det_nilCheck rfl) rfl ?_
    refine vq_det (det_fieldAddr_ Try.underlying84 rfl (by kernel_rfl) rfl rfl) rfl ?_
    refine vq_det (det_load_blk (by kernel_rfl) rfl (by repeat (first | exact .hd | apply Sel.tl)) rfl) rfl ?_
    refine vq_det (det_move rfl) rfl ?_
    refine vq_det (det_nilCheck rfl) rfl ?_
    refine vq_det (det_fieldAddr_ Try.underlying84 rfl (by kernel_rfl) rfl rfl) rfl ?_
    refine vq_det (det_load_blk (by kernel_rfl) rfl (by repeat (first | exact .hd | apply Sel.tl)) rfl) rfl ?_
    refine vq_det (det_len_s Try.underlying9 rfl) rfl ?_
    refine vq_det (det_lss rfl rfl) rfl ?_
    refine vq_det (det_move rfl) rfl ?_
    refine vq_guardp rfl rfl rfl (fun h17 => ?_) (fun h17 => ?_)
    · skip
      refine vq_det (det_move rfl) rfl ?_
      refine vq_guard_t rfl rfl ?_
      refine vq_det (det_nilCheck rfl) rfl ?_
      refine vq_guard_t rfl rfl ?_
      refine vq_det (det_fieldAddr_ Try.underlying84 rfl (by kernel_rfl) rfl rfl) rfl ?_
      refine vq_guard_t rfl rfl ?_
      refine vq_det (det_load_blk (by kernel_rfl) rfl (by repeat (first | exact .hd | apply Sel.tl)) rfl) rfl ?_
      refine vq_guard_t rfl rfl ?_
      refine vq_det (det_move rfl) rfl ?_
      refine vq_guard_t rfl rfl ?_
      refine vq_det (det_nilCheck rfl) rfl ?_
      refine vq_guard_t rfl rfl ?_
      refine vq_det (det_fieldAddr_ Try.underlying84 rfl (by kernel_rfl) rfl rfl) rfl ?_
      refine vq_guard_t rfl rfl ?_
      refine vq_det (det_load_blk (by kernel_rfl) rfl (by repeat (first | exact .hd | apply Sel.tl)) rfl) rfl ?_
      refine vq_guard_t rfl rfl ?_
      refine vq_det (det_at_str Try.underlying9 rfl rfl rfl (by omega)) rfl ?_
      refine vq_guard_t rfl rfl ?_
      refine vq_det (det_move rfl) rfl ?_
      refine vq_guard_t rfl rfl ?_
      refine vq_det (det_eql rfl rfl) rfl ?_
      refine vq_det (det_pick_t rfl rfl) rfl ?_
      exact vq_cut_end trivial (by first | rfl | exact bool_to_t (by first | omega | exact fun h => by omega | exact ⟨fun h => ⟨by omega, UInt8.toNat_inj.1 (by omega)⟩, fun h => by rw [h.2]⟩) | exact bool_to_f (by first | omega | exact fun h => by omega | exact ⟨fun h => ⟨by omega, UInt8.toNat_inj.1 (by omega)⟩, fun h => by rw [h.2]⟩) | exact bool_to (by first | omega | exact fun h => by omega | exact ⟨fun h => ⟨by omega, UInt8.toNat_inj.1 (by omega)⟩, fun h => by rw [h.2]⟩) | exact bool_to_b (by first | omega | exact fun h => by omega | exact ⟨fun h => ⟨by omega, UInt8.toNat_inj.1 (by omega)⟩, fun h => by rw [h.2]⟩))
    · skip
      refine vq_guard_f rfl rfl rfl rfl ?_
      refine vq_guard_f rfl rfl rfl rfl ?_
      refine vq_guard_f rfl rfl rfl rfl ?_
      refine vq_guard_f rfl rfl rfl rfl ?_
      refine vq_guard_f rfl rfl rfl rfl ?_
      refine vq_guard_f rfl rfl rfl rfl ?_
      refine vq_guard_f rfl rfl rfl rfl ?_
      refine vq_guard_f rfl rfl rfl rfl ?_
      refine vq_guard_f rfl rfl rfl rfl ?_
      refine vq_guard_f rfl rfl rfl rfl ?_
      refine vq_det (det_pick_f rfl rfl) rfl ?_
      exact vq_cut_end trivial (by first | rfl | exact bool_to_t (by first | omega | exact fun h => by omega | exact ⟨fun h => ⟨by omega, UInt8.toNat_inj.1 (by omega)⟩, fun h => by rw [h.2]⟩) | exact bool_to_f (by first | omega | exact fun h => by omega | exact ⟨fun h => ⟨by omega, UInt8.toNat_inj.1 (by omega)⟩, fun h => by rw [h.2]⟩) | exact bool_to (by first | omega | exact fun h => by omega | exact ⟨fun h => ⟨by omega, UInt8.toNat_inj.1 (by omega)⟩, fun h => by rw [h.2]⟩) | exact bool_to_b (by first | omega | exact fun h => by omega | exact ⟨fun h => ⟨by omega, UInt8.toNat_inj.1 (by omega)⟩, fun h => by rw [h.2]⟩))
  · skip
    refine vq_det (det_assign rfl) rfl ?_
    refine vq_end [(4, _)] ⟨rfl, trivial⟩ ?_
    refine then_next ?_
    refine vc_ret ?_
    refine ret1 rfl rfl ?_
    exact ⟨rfl, rfl, hle⟩
/-- a call that reads steps from one place to another -/
def PDo (f : FuncId) (args : List Value) (s : Txt) (at_ : Nat) (q : List StepC) (to_ : Nat) : Prop := to_ ≤ s.length ∧ ∀ (B : Nat) (w0 : World) (F : List Ch) (g : Nat), Does Try.prog B w0 f (.pointer (some ⟨g, 0, none⟩) :: args) (Pb g s at_ :: F) (fun r L => ∃ A c, r = .slice A q.length c ∧ L = .own 38 5 A q.length c (stepsV q) :: Pb g s to_ :: F)
abbrev PNot (s : Txt) (at_ : Nat) (q : List StepC) (to_ : Nat) : Prop := PDo 56 [] s at_ q to_
abbrev PLst (b : Bool) (s : Txt) (at_ : Nat) (q : List StepC) (to_ : Nat) : Prop := PDo 44 [.bool b] s at_ q to_
theorem leaf_d {a k : Nat} {w : Txt} (hs : s.length ≤ 1000) (ha : at_ ≤ s.length) (h0 : sk s at_ = a) (h1 : sk s a = a) (hal : a < s.length) (n1 : ¬ s.getD a 0 = 91) (n2 : ¬ s.getD a 0 = 60) (n3 : ¬ s.getD a 0 = 64)
    (hak : a ≤ k) (hk : k ≤ s.length) (hw : ∀ i, a ≤ i → i < k → small (s.getD i 0) ≠ 0) (he : ¬ (k < s.length ∧ small (s.getD k 0) ≠ 0)) (hone : oneL ((s.take k).drop a) = (w, true)) (n4 : ¬ (k < s.length ∧ s.getD k 0 = 42)) (hwl : w.length ≤ 100) :
    Does Try.prog B w0 76 [.pointer (some ⟨g, 0, none⟩)] (Pb g s at_ :: F) (fun r L => ∃ A c, r = .slice A 1 c ∧ L = .own 38 5 A 1 c (stepsV [(1, 0, w, 0, 0)]) :: Pb g s k :: F) := by
  have hd1 := decide_eq_false (p := a < s.length ∧ s.getD a 0 = 91) (fun h => n1 h.2)
  have hd2 := decide_eq_false (p := a < s.length ∧ s.getD a 0 = 60) (fun h => n2 h.2)
  have hd3 := decide_eq_false (p := a < s.length ∧ s.getD a 0 = 64) (fun h => n3 h.2)
  have q1 := fun B w0 F => @sees_d B w0 F g at_ s 91 hs ha
  have q2 := fun B w0 F => @sees_d B w0 F g a s 60 hs (by omega)
  have q3 := fun B w0 F => @sees_d B w0 F g a s 64 hs (by omega)
  simp only [h0, hd1] at q1
  simp only [h1, hd2] at q2
  simp only [h1, hd3] at q3
  refine fn_walk Try.func76 122 rfl rfl rfl [(0, .pointer (some ⟨g, 0, none⟩))] ⟨⟨rfl, rfl⟩, trivial⟩ ?_
  refine vc_seq ?_
  refine vc_region ?_
  refine vl_det (det_assign rfl) rfl ?_
  refine vl_end [(0, _)] ⟨rfl, trivial⟩ ?_
  refine then_next ?_
  refine vc_seq ?_
  refine vc_region ?_
  refine vl_det (det_move rfl) rfl ?_
  refine vl_det (det_nilCheck rfl) rfl ?_
  refine vl_det (det_fieldAddr_ Try.underlying84 rfl (by kernel_rfl) rfl rfl) rfl ?_
  refine vl_det (det_load_blk (by kernel_rfl) rfl (by repeat (first | exact .hd | apply Sel.tl)) rfl) rfl ?_
  refine vl_det (det_assign rfl) rfl ?_
  refine vl_end [(0, _), (3, _)] ⟨rfl, rfl, trivial⟩ ?_
  refine then_next ?_
  refine vc_seq ?_
  refine vc_seq ?_
  refine vc_region ?_
  refine vl_det (det_move rfl) rfl ?_
  refine vl_call co57 rfl (q1 _ _ _) rfl ?_
  rintro _ _ ⟨rfl, hLL, _⟩
  obtain rfl := hLL.symm
  refine vl_end [(0, _), (3, _), (13, _)] ⟨rfl, rfl, rfl, trivial⟩ ?_
  refine then_next ?_
  refine vc_cond_f rfl ?_
  refine vc_skip ?_
  refine then_next ?_
  refine vc_seq ?_
  refine vc_seq ?_
  refine vc_region ?_
  refine vl_det (det_move rfl) rfl ?_
  refine vl_call co57 rfl (q2 _ _ _) rfl ?_
  rintro _ _ ⟨rfl, hLL, _⟩
  obtain rfl := hLL.symm
  refine vl_end [(0, _), (3, _), (18, _)] ⟨rfl, rfl, rfl, trivial⟩ ?_
  refine then_next ?_
  refine vc_cond_f rfl ?_
  refine vc_skip ?_
  refine then_next ?_
  refine vc_seq ?_
  refine vc_region ?_
  refine vl_det (det_assign rfl) rfl ?_
  refine vl_end [(0, _), (4, _)] ⟨rfl, rfl, trivial⟩ ?_
  refine then_next ?_
  refine vc_seq ?_
  refine vc_seq ?_
  refine vc_region ?_
  refine vl_det (det_move rfl) rfl ?_
  refine vl_call co57 rfl (q3 _ _ _) rfl ?_
  rintro _ _ ⟨rfl, hLL, _⟩
  obtain rfl := hLL.symm
  refine vl_end [(0, _), (4, _), (23, _)] ⟨rfl, rfl, rfl, trivial⟩ ?_
  refine then_next ?_
  refine vc_cond_f rfl ?_
  refine vc_skip ?_
  refine then_next ?_
  refine vc_seq ?_
  refine vc_region ?_
  refine vl_det (det_move rfl) rfl ?_
  refine vl_det (det_nilCheck rfl) rfl ?_
  refine vl_det (det_fieldAddr_ Try.underlying84 rfl (by kernel_rfl) rfl rfl) rfl ?_
  refine vl_det (det_load_blk (by kernel_rfl) rfl (by repeat (first | exact .hd | apply Sel.tl)) rfl) rfl ?_
  refine vl_det (det_assign rfl) rfl ?_
  refine vl_end [(0, _), (4, _), (5, _)] ⟨rfl, rfl, rfl, trivial⟩ ?_
  refine then_next ?_
  refine vc_seq ?_
  refine vc_block ?_
  refine vc_loopJ (fun zf zL zm => ∃ (j : Nat), (a ≤ j ∧ j ≤ k) ∧ k - j = zm ∧ Sub zf [(0, .pointer (some ⟨g, 0, none⟩)), (4, .string ⟨#[]⟩), (5, .int .i64 j)] ∧ Wk zL (Pb g s a :: F)) _ ⟨a, ⟨Nat.le_refl _, hak⟩, rfl, ⟨(by first | rfl | exact int_to (by omega) | exact sl_to (by omega)), (by first | rfl | exact int_to (by omega) | exact sl_to (by omega)), (by first | rfl | exact int_to (by omega) | exact sl_to (by omega)), trivial⟩, .refl _⟩ ?_
  rintro _ _ _ ⟨j, ⟨hj, hjk⟩, rfl, hs, hp⟩
  refine vc_weaken _ hs (vc_wk hp ?_)
  clear hs hp
  refine vc_seq ?_
  refine vc_seq ?_
  refine vc_region ?_
  refine vl_cut 17 51 [(0, _), (4, _), (5, _)] ((j : Int) < s.length ∧ ¬ ((small (s.getD j 0)).toNat : Int) = 0) ⟨rfl, rfl, rfl, trivial⟩ ?_ ?_
  · skip
    refine vl_det (det_move rfl) rfl ?_
    refine vl_det (det_move rfl) rfl ?_
    refine vl_det (det_nilCheck rfl) rfl ?_
    refine vl_det (det_fieldAddr_ Try.underlying84 rfl (by kernel_rfl) rfl rfl) rfl ?_
    refine vl_det (det_load_blk (by kernel_rfl) rfl (by repeat (first | exact .hd | apply Sel.tl)) rfl) rfl ?_
    refine vl_det (det_len_s Try.underlying9 rfl) rfl ?_
    refine vl_det (det_lss rfl rfl) rfl ?_
    refine vl_det (det_move rfl) rfl ?_
    refine vl_guardp rfl rfl rfl (fun h42 => ?_) (fun h42 => ?_)
    · skip
      refine vl_det (det_move rfl) rfl ?_
      refine vl_guard_t rfl rfl ?_
      refine vl_det (det_nilCheck rfl) rfl ?_
      refine vl_guard_t rfl rfl ?_
      refine vl_det (det_fieldAddr_ Try.underlying84 rfl (by kernel_rfl) rfl rfl) rfl ?_
      refine vl_guard_t rfl rfl ?_
      refine vl_det (det_load_blk (by kernel_rfl) rfl (by repeat (first | exact .hd | apply Sel.tl)) rfl) rfl ?_
      refine vl_guard_t rfl rfl ?_
      refine vl_det (det_move rfl) rfl ?_
      refine vl_guard_t rfl rfl ?_
      refine vl_det (det_at_str Try.underlying9 rfl rfl rfl (by omega)) rfl ?_
      refine vl_guard_t rfl rfl ?_
      refine vl_call co72 rfl (rsmall_d _) rfl ?_
      rintro _ _ ⟨rfl, hLL⟩
      obtain rfl := hLL.symm
      refine vl_guard_t rfl rfl ?_
      refine vl_det (det_neq rfl rfl) rfl ?_
      refine vl_det (det_pick_t rfl rfl) rfl ?_
      exact vl_cut_end ⟨rfl, rfl, rfl, trivial⟩ (by first | rfl | exact bool_to_t (by first | omega | simp_all) | exact bool_to_f (by first | omega | simp_all) | exact bool_to (by first | omega | simp_all) | exact bool_to_b (by first | omega | simp_all))
    · skip
      refine vl_guard_f rfl rfl rfl rfl ?_
      refine vl_guard_f rfl rfl rfl rfl ?_
      refine vl_guard_f rfl rfl rfl rfl ?_
      refine vl_guard_f rfl rfl rfl rfl ?_
      refine vl_guard_f rfl rfl rfl rfl ?_
      refine vl_guard_f rfl rfl rfl rfl ?_
      refine vl_guard_f rfl rfl rfl rfl ?_
      refine vl_det (det_pick_f rfl rfl) rfl ?_
      exact vl_cut_end ⟨rfl, rfl, rfl, trivial⟩ (by first | rfl | exact bool_to_t (by first | omega | simp_all) | exact bool_to_f (by first | omega | simp_all) | exact bool_to (by first | omega | simp_all) | exact bool_to_b (by first | omega | simp_all))
  · skip
    refine vl_end [(0, _), (4, _), (5, _), (51, _)] ⟨rfl, rfl, rfl, rfl, trivial⟩ ?_
    refine then_next ?_
    refine vc_decideU rfl (fun h51 => ?_) (fun h51 => ?_)
    · skip
      have hjl : j < k := by
        rcases Nat.lt_or_ge j k with h | h
        · exact h
        · have hjj : j = k := by omega
          exact absurd ⟨by omega, fun e => h51.2 (by rw [← hjj] at e; rw [e]; rfl)⟩ he
      refine vc_skip ?_
      refine then_next ?_
      refine vc_block ?_
      refine vc_region ?_
      refine vl_det (det_move rfl) rfl ?_
      refine vl_det (det_add rfl rfl (w_i64 (by omega) (by omega))) rfl ?_
      refine vl_det (det_assign rfl) rfl ?_
      refine vl_end [(0, _), (4, _), (5, _)] ⟨rfl, rfl, rfl, trivial⟩ ?_
      refine in_normal ?_
      refine in_loop_ ⟨_, by omega, j + 1, ⟨by omega, by omega⟩, rfl, ⟨(by first | rfl | exact int_to (by omega) | exact sl_to (by omega)), (by first | rfl | exact int_to (by omega) | exact sl_to (by omega)), (by first | rfl | exact int_to (by omega) | exact sl_to (by omega)), trivial⟩, .refl _⟩
    · skip
      have hjj : j = k := by
        rcases Nat.lt_or_ge j k with h | h
        · refine absurd ⟨by omega, fun e => hw j hj h ?_⟩ h51
          refine UInt8.toNat_inj.1 ?_
          show _ = 0
          omega
        · omega
      subst hjj
      refine vc_exit ?_
      refine then_exit ?_
      refine loop_exit ?_
      refine in_eq ?_
      refine then_next ?_
      refine vc_seq ?_
      refine vq_region (by kernel_rfl) (by kernel_rfl) ?_
      refine vq_det (det_move rfl) rfl ?_
      refine vq_det (det_nilCheck rfl) rfl ?_
      refine vq_det (det_fieldAddr_ Try.underlying84 rfl (by kernel_rfl) rfl rfl) rfl ?_
      refine vq_det (det_load_blk (by kernel_rfl) rfl (by repeat (first | exact .hd | apply Sel.tl)) rfl) rfl ?_
      refine vq_det (det_move rfl) rfl ?_
      refine vq_det (det_nilCheck rfl) rfl ?_
      refine vq_det (det_fieldAddr_ Try.underlying84 rfl (by kernel_rfl) rfl rfl) rfl ?_
      refine vq_det (det_load_blk (by kernel_rfl) rfl (by repeat (first | exact .hd | apply Sel.tl)) rfl) rfl ?_
      refine vq_det (det_move rfl) rfl ?_
      refine vq_det (det_str_both (i := a) (j := j) Try.underlying9 rfl rfl rfl rfl rfl (by omega) (by omega)) rfl ?_
      refine vq_call co77 rfl (rone_d _) (by rintro _ _ ⟨rfl, rfl⟩; exact ⟨rfl, List.Sublist.refl _⟩) rfl ?_
      rw [hone]
      refine vq_det (det_move rfl) rfl ?_
      refine vq_det (det_extract rfl rfl) rfl ?_
      refine vq_det (det_extract rfl rfl) rfl ?_
      refine vq_det (det_assign rfl) rfl ?_
      refine vq_det (det_assign rfl) rfl ?_
      refine vq_end [(0, _), (4, _), (5, _), (6, _), (7, _)] ⟨rfl, rfl, rfl, rfl, rfl, trivial⟩ ?_
      refine then_next ?_
      refine vc_seq ?_
      refine vc_seq ?_
      refine vc_region ?_
      refine vl_det (det_move rfl) rfl ?_
      refine vl_det (det_not_t rfl) rfl ?_
      refine vl_end [(0, _), (4, _), (5, _), (6, _), (69, _)] ⟨rfl, rfl, rfl, rfl, rfl, trivial⟩ ?_
      refine then_next ?_
      refine vc_cond_f rfl ?_
      refine vc_skip ?_
      refine then_next ?_
      refine vc_seq ?_
      refine vc_region ?_
      refine vl_det (det_move rfl) rfl ?_
      refine vl_det (det_move rfl) rfl ?_
      refine vl_det (det_nilCheck rfl) rfl ?_
      refine vl_det (det_fieldAddr_ Try.underlying84 rfl (by kernel_rfl) rfl rfl) rfl ?_
      refine vl_eff0 (eff_store (by kernel_rfl) rfl rfl rfl (by repeat (first | exact .hd | apply Sel.tl)) (by simp)) ?_
      rintro _ _ rfl
      refine vl_end [(0, _), (4, _), (6, _)] ⟨rfl, rfl, rfl, trivial⟩ ?_
      refine then_next ?_
      refine vc_seq ?_
      refine vc_seq ?_
      refine vq_region (by kernel_rfl) (by kernel_rfl) ?_
      refine vq_cut 22 104 [(0, _), (4, _), (6, _)] (False) ⟨rfl, rfl, rfl, trivial⟩ ?_ ?_
      · skip
        refine vq_det (det_move rfl) rfl ?_
        refine vq_det (det_nilCheck rfl) rfl ?_
        refine vq_det (det_fieldAddr_ Try.underlying84 rfl (by kernel_rfl) rfl rfl) rfl ?_
        refine vq_det (det_load_blk (by kernel_rfl) rfl (by repeat (first | exact .hd | apply Sel.tl)) rfl) rfl ?_
        refine vq_det (det_move rfl) rfl ?_
        refine vq_det (det_nilCheck rfl) rfl ?_
        refine vq_det (det_fieldAddr_ Try.underlying84 rfl (by kernel_rfl) rfl rfl) rfl ?_
        refine vq_det (det_load_blk (by kernel_rfl) rfl (by repeat (first | exact .hd | apply Sel.tl)) rfl) rfl ?_
        refine vq_det (det_len_s Try.underlying9 rfl) rfl ?_
        refine vq_det (det_lss rfl rfl) rfl ?_
        refine vq_det (det_move rfl) rfl ?_
        refine vq_guardp rfl rfl rfl (fun h93 => ?_) (fun h93 => ?_)
        · skip
          refine vq_det (det_move rfl) rfl ?_
          refine vq_guard_t rfl rfl ?_
          refine vq_det (det_nilCheck rfl) rfl ?_
          refine vq_guard_t rfl rfl ?_
          refine vq_det (det_fieldAddr_ Try.underlying84 rfl (by kernel_rfl) rfl rfl) rfl ?_
          refine vq_guard_t rfl rfl ?_
          refine vq_det (det_load_blk (by kernel_rfl) rfl (by repeat (first | exact .hd | apply Sel.tl)) rfl) rfl ?_
          refine vq_guard_t rfl rfl ?_
          refine vq_det (det_move rfl) rfl ?_
          refine vq_guard_t rfl rfl ?_
          refine vq_det (det_nilCheck rfl) rfl ?_
          refine vq_guard_t rfl rfl ?_
          refine vq_det (det_fieldAddr_ Try.underlying84 rfl (by kernel_rfl) rfl rfl) rfl ?_
          refine vq_guard_t rfl rfl ?_
          refine vq_det (det_load_blk (by kernel_rfl) rfl (by repeat (first | exact .hd | apply Sel.tl)) rfl) rfl ?_
          refine vq_guard_t rfl rfl ?_
          refine vq_det (det_at_str Try.underlying9 rfl rfl rfl (by omega)) rfl ?_
          refine vq_guard_t rfl rfl ?_
          refine vq_det (det_eql rfl rfl) rfl ?_
          refine vq_det (det_pick_t rfl rfl) rfl ?_
          exact vq_cut_end ⟨rfl, rfl, rfl, trivial⟩ (by first | rfl | exact bool_to_t (by first | omega | exact fun h => n4 ⟨by omega, UInt8.toNat_inj.1 (by show (s.getD j 0).toNat = 42; omega)⟩ | exact ⟨fun h => n4 ⟨by omega, UInt8.toNat_inj.1 (by show (s.getD j 0).toNat = 42; omega)⟩, False.elim⟩) | exact bool_to_f (by first | omega | exact fun h => n4 ⟨by omega, UInt8.toNat_inj.1 (by show (s.getD j 0).toNat = 42; omega)⟩ | exact ⟨fun h => n4 ⟨by omega, UInt8.toNat_inj.1 (by show (s.getD j 0).toNat = 42; omega)⟩, False.elim⟩) | exact bool_to (by first | omega | exact fun h => n4 ⟨by omega, UInt8.toNat_inj.1 (by show (s.getD j 0).toNat = 42; omega)⟩ | exact ⟨fun h => n4 ⟨by omega, UInt8.toNat_inj.1 (by show (s.getD j 0).toNat = 42; omega)⟩, False.elim⟩) | exact bool_to_b (by first | omega | exact fun h => n4 ⟨by omega, UInt8.toNat_inj.1 (by show (s.getD j 0).toNat = 42; omega)⟩ | exact ⟨fun h => n4 ⟨by omega, UInt8.toNat_inj.1 (by show (s.getD j 0).toNat = 42; omega)⟩, False.elim⟩))
        · skip
          refine vq_guard_f rfl rfl rfl rfl ?_
          refine vq_guard_f rfl rfl rfl rfl ?_
          refine vq_guard_f rfl rfl rfl rfl ?_
          refine vq_guard_f rfl rfl rfl rfl ?_
          refine vq_guard_f rfl rfl rfl rfl ?_
          refine vq_guard_f rfl rfl rfl rfl ?_
          refine vq_guard_f rfl rfl rfl rfl ?_
          refine vq_guard_f rfl rfl rfl rfl ?_
          refine vq_guard_f rfl rfl rfl rfl ?_
          refine vq_det (det_pick_f rfl rfl) rfl ?_
          exact vq_cut_end ⟨rfl, rfl, rfl, trivial⟩ (by first | rfl | exact bool_to_t (by first | omega | exact fun h => n4 ⟨by omega, UInt8.toNat_inj.1 (by show (s.getD j 0).toNat = 42; omega)⟩ | exact ⟨fun h => n4 ⟨by omega, UInt8.toNat_inj.1 (by show (s.getD j 0).toNat = 42; omega)⟩, False.elim⟩) | exact bool_to_f (by first | omega | exact fun h => n4 ⟨by omega, UInt8.toNat_inj.1 (by show (s.getD j 0).toNat = 42; omega)⟩ | exact ⟨fun h => n4 ⟨by omega, UInt8.toNat_inj.1 (by show (s.getD j 0).toNat = 42; omega)⟩, False.elim⟩) | exact bool_to (by first | omega | exact fun h => n4 ⟨by omega, UInt8.toNat_inj.1 (by show (s.getD j 0).toNat = 42; omega)⟩ | exact ⟨fun h => n4 ⟨by omega, UInt8.toNat_inj.1 (by show (s.getD j 0).toNat = 42; omega)⟩, False.elim⟩) | exact bool_to_b (by first | omega | exact fun h => n4 ⟨by omega, UInt8.toNat_inj.1 (by show (s.getD j 0).toNat = 42; omega)⟩ | exact ⟨fun h => n4 ⟨by omega, UInt8.toNat_inj.1 (by show (s.getD j 0).toNat = 42; omega)⟩, False.elim⟩))
      · skip
        refine vq_end [(0, _), (4, _), (6, _), (104, _)] ⟨rfl, rfl, rfl, rfl, trivial⟩ ?_
        refine then_next ?_
        refine vc_decideU rfl (fun h104 => ?_) (fun h104 => ?_)
        · skip
          exfalso; exact h104
        · skip
          refine vc_skip ?_
          refine then_next ?_
          refine vc_seq ?_
          refine vc_region ?_
          refine vl_det (det_move rfl) rfl ?_
          refine vl_det (det_move rfl) rfl ?_
          refine vl_det (det_s_add (s := []) (r := w) rfl rfl (by simp only [List.length_nil]; omega)) rfl ?_
          refine vl_det (det_buildp [(0, _), (2, _)] [.int .i64 0, .int .i64 0, .string ⟨#[]⟩, .int .u64 0, .int .u64 0] [0, 2] [_, _, _, _, _] rfl rfl (by kernel_rfl)) rfl ?_
          refine vl_eff (eff_build1s (us := StepC.cells (1, 0, w, 0, 0)) slT22 rfl rfl rfl (by omega)) rfl ?_
          rintro _ _ ⟨A121, rfl, rfl⟩
          refine vl_det (det_assign rfl) rfl ?_
          refine vl_end [(2, _)] ⟨rfl, trivial⟩ ?_
          refine then_next ?_
          refine vc_ret ?_
          refine ret_wk (L' := .own 38 5 A121 1 1 (stepsV [(1, 0, w, 0, 0)]) :: Pb g s j :: F) (wk_own rfl (steps_sing _).symm (.refl _)) ?_
          refine ret1 rfl rfl ?_
          exact ⟨A121, 1, rfl, rfl⟩
theorem not_word {a k : Nat} {w : Txt} (hs : s.length ≤ 1000) (ha : at_ ≤ s.length) (h0 : sk s at_ = a) (h1 : sk s a = a) (hal : a < s.length) (n1 : ¬ s.getD a 0 = 91) (n2 : ¬ s.getD a 0 = 60) (n3 : ¬ s.getD a 0 = 64) (n5 : ¬ s.getD a 0 = 33) (n6 : ¬ s.getD a 0 = 40)
    (hak : a ≤ k) (hk : k ≤ s.length) (hw : ∀ i, a ≤ i → i < k → small (s.getD i 0) ≠ 0) (he : ¬ (k < s.length ∧ small (s.getD k 0) ≠ 0)) (hone : oneL ((s.take k).drop a) = (w, true)) (n4 : ¬ (k < s.length ∧ s.getD k 0 = 42)) (hwl : w.length ≤ 100) :
    PNot s at_ [(1, 0, w, 0, 0)] k := ⟨hk, fun B w0 F g => by
  have hd1 := decide_eq_false (p := a < s.length ∧ s.getD a 0 = 33) (fun h => n5 h.2)
  have hd2 := decide_eq_false (p := a < s.length ∧ s.getD a 0 = 40) (fun h => n6 h.2)
  have q1 := fun B w0 F => @sees_d B w0 F g at_ s 33 hs ha
  have q2 := fun B w0 F => @sees_d B w0 F g a s 40 hs (by omega)
  simp only [h0, hd1] at q1
  simp only [h1, hd2] at q2
  refine fn_walk Try.func56 57 rfl rfl rfl [(0, .pointer (some ⟨g, 0, none⟩))] ⟨⟨rfl, rfl⟩, trivial⟩ ?_
  refine vc_seq ?_
  refine vc_region ?_
  refine vl_det (det_assign rfl) rfl ?_
  refine vl_end [(0, _)] ⟨rfl, trivial⟩ ?_
  refine then_next ?_
  refine vc_seq ?_
  refine vc_seq ?_
  refine vc_region ?_
  refine vl_det (det_move rfl) rfl ?_
  refine vl_call co57 rfl (q1 _ _ _) rfl ?_
  rintro _ _ ⟨rfl, hLL, _⟩
  obtain rfl := hLL.symm
  refine vl_end [(0, _), (6, _)] ⟨rfl, rfl, trivial⟩ ?_
  refine then_next ?_
  refine vc_cond_f rfl ?_
  refine vc_skip ?_
  refine then_next ?_
  refine vc_seq ?_
  refine vc_seq ?_
  refine vc_region ?_
  refine vl_det (det_move rfl) rfl ?_
  refine vl_call co57 rfl (q2 _ _ _) rfl ?_
  rintro _ _ ⟨rfl, hLL, _⟩
  obtain rfl := hLL.symm
  refine vl_end [(0, _), (21, _)] ⟨rfl, rfl, trivial⟩ ?_
  refine then_next ?_
  refine vc_cond_f rfl ?_
  refine vc_skip ?_
  refine then_next ?_
  refine vc_seq ?_
  refine vc_region ?_
  refine vl_det (det_move rfl) rfl ?_
  refine vl_call co76 rfl (leaf_d hs (by omega) h1 h1 hal n1 n2 n3 hak hk hw he hone n4 hwl) rfl ?_
  rintro _ _ ⟨A56, c56, rfl, hLL⟩
  obtain rfl := hLL.symm
  refine vl_det (det_assign rfl) rfl ?_
  refine vl_end [(2, _)] ⟨rfl, trivial⟩ ?_
  refine then_next ?_
  refine vc_ret ?_
  refine ret1 rfl rfl ?_
  exact ⟨A56, c56, rfl, rfl⟩
  ⟩
theorem not_par {a b e : Nat} {q : List StepC} (hs : s.length ≤ 1000) (ha : at_ ≤ s.length) (h0 : sk s at_ = a) (h1 : sk s a = a) (hal : a < s.length) (n6 : s.getD a 0 = 40) (hq : PLst true s (a + 1) q b) (h2 : sk s b = e) (hel : e < s.length) (he : s.getD e 0 = 41) :
    PNot s at_ q (e + 1) := ⟨by omega, fun B w0 F g => by
  obtain ⟨hb, hq⟩ := hq
  have hd1 := decide_eq_false (p := a < s.length ∧ s.getD a 0 = 33) (fun h => by rw [n6] at h; exact absurd h.2 (by decide))
  have hd2 := decide_eq_true (p := a < s.length ∧ s.getD a 0 = 40) ⟨hal, n6⟩
  have hd3 := decide_eq_true (p := e < s.length ∧ s.getD e 0 = 41) ⟨hel, he⟩
  have q1 := fun B w0 F => @sees_d B w0 F g at_ s 33 hs ha
  have q2 := fun B w0 F => @sees_d B w0 F g a s 40 hs (by omega)
  have q3 := fun B w0 F => @sees_d B w0 F g b s 41 hs hb
  simp only [h0, hd1] at q1
  simp only [h1, hd2] at q2
  simp only [h2, hd3] at q3
  refine fn_walk Try.func56 57 rfl rfl rfl [(0, .pointer (some ⟨g, 0, none⟩))] ⟨⟨rfl, rfl⟩, trivial⟩ ?_
  refine vc_seq ?_
  refine vc_region ?_
  refine vl_det (det_assign rfl) rfl ?_
  refine vl_end [(0, _)] ⟨rfl, trivial⟩ ?_
  refine then_next ?_
  refine vc_seq ?_
  refine vc_seq ?_
  refine vc_region ?_
  refine vl_det (det_move rfl) rfl ?_
  refine vl_call co57 rfl (q1 _ _ _) rfl ?_
  rintro _ _ ⟨rfl, hLL, _⟩
  obtain rfl := hLL.symm
  refine vl_end [(0, _), (6, _)] ⟨rfl, rfl, trivial⟩ ?_
  refine then_next ?_
  refine vc_cond_f rfl ?_
  refine vc_skip ?_
  refine then_next ?_
  refine vc_seq ?_
  refine vc_seq ?_
  refine vc_region ?_
  refine vl_det (det_move rfl) rfl ?_
  refine vl_call co57 rfl (q2 _ _ _) rfl ?_
  rintro _ _ ⟨rfl, hLL, _⟩
  obtain rfl := hLL.symm
  refine vl_end [(0, _), (21, _)] ⟨rfl, rfl, trivial⟩ ?_
  refine then_next ?_
  refine vc_cond_t rfl ?_
  refine vc_seq ?_
  refine vc_region ?_
  refine vl_det (det_move rfl) rfl ?_
  refine vl_det (det_nilCheck rfl) rfl ?_
  refine vl_det (det_fieldAddr_ Try.underlying84 rfl (by kernel_rfl) rfl rfl) rfl ?_
  refine vl_det (det_load_blk (by kernel_rfl) rfl (by repeat (first | exact .hd | apply Sel.tl)) rfl) rfl ?_
  refine vl_det (det_add rfl rfl (w_i64 (by omega) (by omega))) rfl ?_
  refine vl_det (det_nilCheck rfl) rfl ?_
  refine vl_det (det_fieldAddr_ Try.underlying84 rfl (by kernel_rfl) rfl rfl) rfl ?_
  refine vl_eff0 (eff_store (by kernel_rfl) rfl rfl rfl (by repeat (first | exact .hd | apply Sel.tl)) (by simp)) ?_
  rintro _ _ rfl
  refine vl_end [(0, _)] ⟨rfl, trivial⟩ ?_
  refine then_next ?_
  refine vc_seq ?_
  refine vc_region ?_
  refine vl_det (det_move rfl) rfl ?_
  refine vl_wk (wk_blk (ys := [.string ⟨s.toArray⟩, .int .i64 ((a + 1 : Nat) : Int), .int .i64 (-1)]) (pb_at (by omega)) (.refl _)) ?_
  refine vl_call co44 rfl (hq _ _ _ _) rfl ?_
  rintro _ _ ⟨A30, c30, rfl, hLL⟩
  obtain rfl := hLL.symm
  refine vl_det (det_assign rfl) rfl ?_
  refine vl_end [(0, _), (4, _)] ⟨rfl, rfl, trivial⟩ ?_
  refine then_next ?_
  refine vc_seq ?_
  refine vc_seq ?_
  refine vc_region ?_
  refine vl_det (det_move rfl) rfl ?_
  refine vl_det (det_nilCheck rfl) rfl ?_
  refine vl_det (det_fieldAddr_ Try.underlying84 rfl (by kernel_rfl) rfl rfl) rfl ?_
  refine vl_det (det_load_blk (by kernel_rfl) rfl (by repeat (first | exact .hd | apply Sel.tl)) rfl) rfl ?_
  refine vl_det (det_lss rfl rfl) rfl ?_
  refine vl_det (det_move rfl) rfl ?_
  refine vl_guardp rfl rfl rfl (fun h36 => ?_) (fun h36 => ?_)
  · skip
    refine vl_det (det_move rfl) rfl ?_
    refine vl_guard_t rfl rfl ?_
    refine vl_call co57 rfl ((q3 _ _ _).perm swp) rfl ?_
    rintro _ _ ⟨rfl, hLL, _⟩
    obtain rfl := hLL.symm
    refine vl_guard_t rfl rfl ?_
    refine vl_det (det_not_t rfl) rfl ?_
    refine vl_det (det_pick_t rfl rfl) rfl ?_
    refine vl_end [(0, _), (4, _), (40, _)] ⟨rfl, rfl, rfl, trivial⟩ ?_
    refine then_next ?_
    refine vc_cond_f rfl ?_
    refine vc_skip ?_
    refine then_next ?_
    refine vc_seq ?_
    refine vc_region ?_
    refine vl_det (det_move rfl) rfl ?_
    refine vl_det (det_nilCheck rfl) rfl ?_
    refine vl_det (det_fieldAddr_ Try.underlying84 rfl (by kernel_rfl) rfl rfl) rfl ?_
    refine vl_det (det_load_blk (by kernel_rfl) rfl (by repeat (first | exact .hd | apply Sel.tl)) rfl) rfl ?_
    refine vl_det (det_add rfl rfl (w_i64 (by omega) (by omega))) rfl ?_
    refine vl_det (det_nilCheck rfl) rfl ?_
    refine vl_det (det_fieldAddr_ Try.underlying84 rfl (by kernel_rfl) rfl rfl) rfl ?_
    refine vl_eff0 (eff_store (by kernel_rfl) rfl rfl rfl (by repeat (first | exact .hd | apply Sel.tl)) (by simp)) ?_
    rintro _ _ rfl
    refine vl_end [(4, _)] ⟨rfl, trivial⟩ ?_
    refine then_next ?_
    refine vc_seq ?_
    refine vc_region ?_
    refine vl_det (det_move rfl) rfl ?_
    refine vl_det (det_assign rfl) rfl ?_
    refine vl_end [(2, _)] ⟨rfl, trivial⟩ ?_
    refine then_next ?_
    refine vc_ret ?_
    refine then_ret ?_
    refine ret_wk (L' := .own 38 5 A30 q.length c30 (stepsV q) :: Pb g s (e + 1) :: F) (.swap (.cons (wk_blk (pb_at (by omega)) (.refl _)))) ?_
    refine ret1 rfl rfl ?_
    exact ⟨A30, c30, rfl, rfl⟩
  · skip
    exfalso; exact h36 (by decide)
  ⟩
theorem list_or {m : Nat} {atf ate : Nat → Nat} {qf : Nat → List StepC} (hs : s.length ≤ 1000) (hm : 1 ≤ m) (hm2 : m ≤ 1000) (hat : atf 0 = at_) (hp : ∀ i, i < m → PLst false s (atf i) (qf i) (ate i))
    (h1 : ∀ i, i + 1 < m → sk s (ate i) < s.length ∧ s.getD (sk s (ate i)) 0 = 124 ∧ atf (i + 1) = sk s (ate i) + 1) (h2 : ¬ (sk s (ate (m - 1)) < s.length ∧ s.getD (sk s (ate (m - 1))) 0 = 124)) (h3 : sk s (ate (m - 1)) ≤ s.length) (hl : ∀ i, i ≤ m → ((List.range i).flatMap qf).length ≤ 10000) :
    PLst true s at_ ((List.range m).flatMap qf ++ (if 1 < m then [(7, (m : Int), [], 0, 0)] else [])) (sk s (ate (m - 1))) := ⟨h3, fun B w0 F g => by
  have htk : ∀ i, (List.range (i + 1)).flatMap qf = (List.range i).flatMap qf ++ qf i := fun i => by rw [List.range_succ, List.flatMap_append, List.flatMap_singleton]
  refine fn_walk Try.func44 53 rfl rfl rfl [(0, .pointer (some ⟨g, 0, none⟩)), (1, .bool true)] ⟨⟨rfl, rfl⟩, ⟨rfl, rfl⟩, trivial⟩ ?_
  refine vc_seq ?_
  refine vc_region ?_
  refine vl_det (det_assign rfl) rfl ?_
  refine vl_end [(0, _), (1, _)] ⟨rfl, rfl, trivial⟩ ?_
  refine then_next ?_
  refine vc_seq ?_
  refine vc_region ?_
  refine vl_det (det_assign rfl) rfl ?_
  refine vl_det (det_assign rfl) rfl ?_
  refine vl_end [(0, _), (1, _), (5, _), (6, _)] ⟨rfl, rfl, rfl, rfl, trivial⟩ ?_
  refine then_next ?_
  refine vc_seq ?_
  refine vc_seq ?_
  refine vc_region ?_
  refine vl_det (det_move rfl) rfl ?_
  refine vl_end [(0, _), (1, _), (5, _), (6, _), (9, _)] ⟨rfl, rfl, rfl, rfl, rfl, trivial⟩ ?_
  refine then_next ?_
  refine vc_cond_t rfl ?_
  refine vc_seq ?_
  refine vc_region ?_
  refine vl_det (det_assign rfl) rfl ?_
  refine vl_end [(0, _), (1, _), (5, _)] ⟨rfl, rfl, rfl, trivial⟩ ?_
  refine then_next ?_
  refine vc_region ?_
  refine vl_det (det_assign rfl) rfl ?_
  refine vl_end [(0, _), (1, _), (5, _), (6, _)] ⟨rfl, rfl, rfl, rfl, trivial⟩ ?_
  refine then_next ?_
  refine vc_seq ?_
  refine vc_region ?_
  refine vl_det (det_assign rfl) rfl ?_
  refine vl_end [(0, _), (1, _), (5, _), (6, _), (7, _)] ⟨rfl, rfl, rfl, rfl, rfl, trivial⟩ ?_
  refine then_next ?_
  refine vc_seq ?_
  refine vc_nil_row 38 5 none ?_
  refine vc_region ?_
  refine vl_det (det_assign rfl) rfl ?_
  refine vl_end [(0, _), (1, _), (5, _), (6, _), (7, _), (8, _)] ⟨rfl, rfl, rfl, rfl, rfl, rfl, trivial⟩ ?_
  refine then_next ?_
  refine vc_seq ?_
  refine vc_block ?_
  refine vc_loopJ (fun zf zL zm => ∃ (i : Nat) (A7 : Option Addr) (c7 : Nat), (i < m) ∧ m - i = zm ∧ Sub zf [(0, .pointer (some ⟨g, 0, none⟩)), (1, .bool true), (5, .int .u8 (((124 : UInt8).toNat : Nat) : Int)), (6, .int .i64 7), (7, .slice A7 ((List.range i).flatMap qf).length c7), (8, .int .i64 i)] ∧ Wk zL (.own 38 5 A7 ((List.range i).flatMap qf).length c7 (stepsV ((List.range i).flatMap qf)) :: Pb g s (atf i) :: F)) _ ⟨0, none, 0, by omega, rfl, ⟨(by first | rfl | exact int_to (by omega) | exact sl_to (by omega)), (by first | rfl | exact int_to (by omega) | exact sl_to (by omega)), (by first | rfl | exact int_to (by omega) | exact sl_to (by omega)), (by first | rfl | exact int_to (by omega) | exact sl_to (by omega)), (by first | rfl | exact int_to (by omega) | exact sl_to (by omega)), (by first | rfl | exact int_to (by omega) | exact sl_to (by omega)), trivial⟩, by rw [hat]; exact .refl _⟩ ?_
  rintro _ _ _ ⟨i, A7, c7, hi, rfl, hs, hp⟩
  refine vc_weaken _ hs (vc_wk hp ?_)
  clear hs hp
  have hti := htk i
  have hl1 := hl i (by omega)
  have hl2 := hl (i + 1) (by omega)
  rw [hti, List.length_append] at hl2
  obtain ⟨hpe, hpi⟩ := hp i hi
  have hse := fun B w0 F => @sees_d B w0 F g (ate i) s 124 hs hpe
  refine vc_seq ?_
  refine vc_seq ?_
  refine vc_region ?_
  refine vl_det (det_move rfl) rfl ?_
  refine vl_det (det_nilCheck rfl) rfl ?_
  refine vl_det (det_fieldAddr_ Try.underlying84 rfl (by kernel_rfl) rfl rfl) rfl ?_
  refine vl_det (det_load_blk (by kernel_rfl) rfl (by repeat (first | exact .hd | apply Sel.tl)) rfl) rfl ?_
  refine vl_det (det_lss rfl rfl) rfl ?_
  refine vl_end [(0, _), (1, _), (5, _), (6, _), (7, _), (8, _), (14, _)] ⟨rfl, rfl, rfl, rfl, rfl, rfl, rfl, trivial⟩ ?_
  refine then_next ?_
  refine vc_decideU rfl (fun h14 => ?_) (fun h14 => ?_)
  · skip
    refine vc_skip ?_
    refine then_next ?_
    refine vc_block ?_
    refine vc_seq ?_
    refine vc_seq ?_
    refine vc_region ?_
    refine vl_det (det_move rfl) rfl ?_
    refine vl_end [(0, _), (1, _), (5, _), (6, _), (7, _), (8, _), (15, _)] ⟨rfl, rfl, rfl, rfl, rfl, rfl, rfl, trivial⟩ ?_
    refine then_next ?_
    refine vc_cond_t rfl ?_
    refine vc_region ?_
    refine vl_det (det_move rfl) rfl ?_
    refine vl_det (det_move rfl) rfl ?_
    refine vl_call co44 rfl ((hpi _ _ _ _).perm swp) rfl ?_
    rintro _ _ ⟨A18, c18, rfl, hLL⟩
    obtain rfl := hLL.symm
    refine vl_eff (eff_app slT22 rfl (by repeat (first | exact .hd | apply Sel.tl)) rfl (by first | (exact Bor.own (by repeat (first | exact List.Mem.head _ | apply List.Mem.tail))) | (repeat (first | assumption | apply Bor.cons))) (steps_one _) (by omega) (by omega)) rfl ?_
    rintro _ _ ⟨A19, c19, rfl, rfl⟩
    refine vl_det (det_assign rfl) rfl ?_
    refine vl_end [(0, _), (1, _), (5, _), (6, _), (7, _), (8, _)] ⟨rfl, rfl, rfl, rfl, rfl, rfl, trivial⟩ ?_
    refine then_next ?_
    refine vc_seq ?_
    refine vc_region ?_
    refine vl_det (det_move rfl) rfl ?_
    refine vl_det (det_add rfl rfl (w_i64 (by omega) (by omega))) rfl ?_
    refine vl_det (det_assign rfl) rfl ?_
    refine vl_end [(0, _), (1, _), (5, _), (6, _), (7, _), (8, _)] ⟨rfl, rfl, rfl, rfl, rfl, rfl, trivial⟩ ?_
    refine then_next ?_
    refine vc_seq ?_
    refine vc_seq ?_
    refine vc_region ?_
    refine vl_det (det_move rfl) rfl ?_
    refine vl_det (det_nilCheck rfl) rfl ?_
    refine vl_det (det_fieldAddr_ Try.underlying84 rfl (by kernel_rfl) rfl rfl) rfl ?_
    refine vl_det (det_load_blk (by kernel_rfl) rfl (by repeat (first | exact .hd | apply Sel.tl)) rfl) rfl ?_
    refine vl_det (det_geq rfl rfl) rfl ?_
    refine vl_det (det_move rfl) rfl ?_
    refine vl_guardn rfl rfl rfl (fun h31 => ?_) (fun h31 => ?_)
    · skip
      refine vl_det (det_move rfl) rfl ?_
      refine vl_guard_t rfl rfl ?_
      refine vl_det (det_move rfl) rfl ?_
      refine vl_guard_t rfl rfl ?_
      refine vl_call co57 rfl ((hse _ _ _).perm ((pu1 (pu0 (pu0 (.refl _)))))) rfl ?_
      rintro _ _ ⟨rfl, hLL, _⟩
      obtain rfl := hLL.symm
      refine vl_guard_t rfl rfl ?_
      refine vl_det (det_notd rfl) rfl ?_
      refine vl_det (det_pick_f rfl rfl) rfl ?_
      refine vl_end [(0, _), (1, _), (5, _), (6, _), (7, _), (8, _), (36, _)] ⟨rfl, rfl, rfl, rfl, rfl, rfl, rfl, trivial⟩ ?_
      refine then_next ?_
      refine vc_decideU rfl (fun h36 => ?_) (fun h36 => ?_)
      · skip
        have hlast : ¬ i + 1 < m := fun hh => h36 ⟨(h1 i hh).1, (h1 i hh).2.1⟩
        obtain rfl : m = i + 1 := by omega
        rw [Nat.add_sub_cancel]
        refine vc_exit ?_
        refine then_exit ?_
        refine in_exit rfl ?_
        refine loop_exit ?_
        refine in_eq ?_
        refine then_next ?_
        refine vc_seq ?_
        refine vc_seq ?_
        refine vc_region ?_
        refine vl_det (det_move rfl) rfl ?_
        refine vl_det (det_gtr rfl rfl) rfl ?_
        refine vl_end [(6, _), (7, _), (8, _), (45, _)] ⟨rfl, rfl, rfl, rfl, trivial⟩ ?_
        refine then_next ?_
        refine vc_decideU rfl (fun h45 => ?_) (fun h45 => ?_)
        · skip
          have hq : (List.range (i + 1)).flatMap qf ++ (if 1 < i + 1 then [((7, ((i + 1 : Nat) : Int), [], 0, 0) : StepC)] else []) = (List.range i).flatMap qf ++ qf i ++ [((7, ((i + 1 : Nat) : Int), [], 0, 0) : StepC)] := by rw [if_pos (by omega), hti]
          have hql : ((List.range i).flatMap qf).length + (qf i).length + 1 = ((List.range i).flatMap qf ++ qf i ++ [((7, ((i + 1 : Nat) : Int), [], 0, 0) : StepC)]).length := by simp; omega
          rw [hq]
          refine vc_region ?_
          refine vl_det (det_move rfl) rfl ?_
          refine vl_det (det_move rfl) rfl ?_
          refine vl_det (det_move rfl) rfl ?_
          refine vl_det (det_buildp [(0, _), (1, _)] [.int .i64 0, .int .i64 0, .string ⟨#[]⟩, .int .u64 0, .int .u64 0] [0, 1] [_, _, _, _, _] rfl rfl (by kernel_rfl)) rfl ?_
          refine vl_pushs slT22 rfl rfl rfl (by omega) (by first | exact bv_one _ | exact strs_one _ | exact ints_one _ _ | (simp; done) | (simp [Value.oneCell']; done) | assumption) rfl rfl rfl (fun _ => rfl) (by repeat (first | exact .hd | apply Sel.tl)) (by omega) (by omega) ?_
          intro _ A51 c51
          refine vl_det (det_assign rfl) rfl ?_
          refine vl_end [(7, _)] ⟨rfl, trivial⟩ ?_
          refine then_next ?_
          refine vc_seq ?_
          refine vc_region ?_
          refine vl_det (det_move rfl) rfl ?_
          refine vl_det (det_assign rfl) rfl ?_
          refine vl_end [(4, _)] ⟨rfl, trivial⟩ ?_
          refine then_next ?_
          refine vc_ret ?_
          refine ret_wk (L' := .own 38 5 A51 ((List.range i).flatMap qf ++ qf i ++ [((7, ((i + 1 : Nat) : Int), [], 0, 0) : StepC)]).length c51 (stepsV ((List.range i).flatMap qf ++ qf i ++ [((7, ((i + 1 : Nat) : Int), [], 0, 0) : StepC)])) :: Pb g s (sk s (ate i)) :: F) (.swap (.skip (.swap (wk_own hql (by rw [steps_app, steps_app, steps_sing]; rfl) (.refl _))))) ?_
          refine ret1 rfl rfl ?_
          exact ⟨A51, c51, by rw [← hql], rfl⟩
        · skip
          have hq : (List.range (i + 1)).flatMap qf ++ (if 1 < i + 1 then [((7, ((i + 1 : Nat) : Int), [], 0, 0) : StepC)] else []) = (List.range i).flatMap qf ++ qf i := by rw [if_neg (by omega), hti, List.append_nil]
          have hql : ((List.range i).flatMap qf).length + (qf i).length = ((List.range i).flatMap qf ++ qf i).length := by simp
          rw [hq]
          refine vc_skip ?_
          refine then_next ?_
          refine vc_seq ?_
          refine vc_region ?_
          refine vl_det (det_move rfl) rfl ?_
          refine vl_det (det_assign rfl) rfl ?_
          refine vl_end [(4, _)] ⟨rfl, trivial⟩ ?_
          refine then_next ?_
          refine vc_ret ?_
          refine ret_wk (L' := .own 38 5 A19 ((List.range i).flatMap qf ++ qf i).length c19 (stepsV ((List.range i).flatMap qf ++ qf i)) :: Pb g s (sk s (ate i)) :: F) (.swap (.skip (.swap (wk_own hql (by rw [steps_app]) (.refl _))))) ?_
          refine ret1 rfl rfl ?_
          exact ⟨A19, c19, by rw [← hql], rfl⟩
      · skip
        have hnx : i + 1 < m := by
          rcases Nat.lt_or_ge (i + 1) m with h | h
          · exact h
          · have e : i = m - 1 := by omega
            rw [e] at h36
            exact absurd h2 h36
        have hat2 := (h1 i hnx).2.2
        refine vc_skip ?_
        refine then_next ?_
        refine vc_region ?_
        refine vl_det (det_move rfl) rfl ?_
        refine vl_det (det_nilCheck rfl) rfl ?_
        refine vl_det (det_fieldAddr_ Try.underlying84 rfl (by kernel_rfl) rfl rfl) rfl ?_
        refine vl_det (det_load_blk (by kernel_rfl) rfl (by repeat (first | exact .hd | apply Sel.tl)) rfl) rfl ?_
        refine vl_det (det_add rfl rfl (w_i64 (by omega) (by omega))) rfl ?_
        refine vl_det (det_nilCheck rfl) rfl ?_
        refine vl_det (det_fieldAddr_ Try.underlying84 rfl (by kernel_rfl) rfl rfl) rfl ?_
        refine vl_eff0 (eff_store (by kernel_rfl) rfl rfl rfl (by repeat (first | exact .hd | apply Sel.tl)) (by simp)) ?_
        rintro _ _ rfl
        refine vl_end [(0, _), (1, _), (5, _), (6, _), (7, _), (8, _)] ⟨rfl, rfl, rfl, rfl, rfl, rfl, trivial⟩ ?_
        refine in_normal ?_
        have hel : ((List.range i).flatMap qf).length + (qf i).length = ((List.range (i + 1)).flatMap qf).length := by rw [hti, List.length_append]
        refine in_loop_ ⟨_, by omega, i + 1, A19, c19, hnx, rfl, ⟨(by first | rfl | exact int_to (by omega) | exact sl_to (by omega)), (by first | rfl | exact int_to (by omega) | exact sl_to (by omega)), (by first | rfl | exact int_to (by omega) | exact sl_to (by omega)), (by first | rfl | exact int_to (by omega) | exact sl_to (by omega)), (by first | rfl | exact int_to (by omega) | exact sl_to (by omega)), (by first | rfl | exact int_to (by omega) | exact sl_to (by omega)), trivial⟩, .swap (.skip (.swap (wk_own hel (by rw [hti, steps_app]) (wk_blk (pb_at (by rw [hat2]; omega)) (.refl _)))))⟩
    · skip
      exfalso; exact absurd h31 (by decide)
  · skip
    exfalso; exact h14 (by decide)
  ⟩
theorem list_and {m : Nat} {atf ate : Nat → Nat} {qf : Nat → List StepC} (hs : s.length ≤ 1000) (hm : 1 ≤ m) (hm2 : m ≤ 1000) (hat : atf 0 = at_) (hp : ∀ i, i < m → PNot s (atf i) (qf i) (ate i))
    (h1 : ∀ i, i + 1 < m → sk s (ate i) < s.length ∧ s.getD (sk s (ate i)) 0 = 38 ∧ atf (i + 1) = sk s (ate i) + 1) (h2 : ¬ (sk s (ate (m - 1)) < s.length ∧ s.getD (sk s (ate (m - 1))) 0 = 38)) (h3 : sk s (ate (m - 1)) ≤ s.length) (hl : ∀ i, i ≤ m → ((List.range i).flatMap qf).length ≤ 10000) :
    PLst false s at_ ((List.range m).flatMap qf ++ (if 1 < m then [(6, (m : Int), [], 0, 0)] else [])) (sk s (ate (m - 1))) := ⟨h3, fun B w0 F g => by
  have htk : ∀ i, (List.range (i + 1)).flatMap qf = (List.range i).flatMap qf ++ qf i := fun i => by rw [List.range_succ, List.flatMap_append, List.flatMap_singleton]
  refine fn_walk Try.func44 53 rfl rfl rfl [(0, .pointer (some ⟨g, 0, none⟩)), (1, .bool false)] ⟨⟨rfl, rfl⟩, ⟨rfl, rfl⟩, trivial⟩ ?_
  refine vc_seq ?_
  refine vc_region ?_
  refine vl_det (det_assign rfl) rfl ?_
  refine vl_end [(0, _), (1, _)] ⟨rfl, rfl, trivial⟩ ?_
  refine then_next ?_
  refine vc_seq ?_
  refine vc_region ?_
  refine vl_det (det_assign rfl) rfl ?_
  refine vl_det (det_assign rfl) rfl ?_
  refine vl_end [(0, _), (1, _), (5, _), (6, _)] ⟨rfl, rfl, rfl, rfl, trivial⟩ ?_
  refine then_next ?_
  refine vc_seq ?_
  refine vc_seq ?_
  refine vc_region ?_
  refine vl_det (det_move rfl) rfl ?_
  refine vl_end [(0, _), (1, _), (5, _), (6, _), (9, _)] ⟨rfl, rfl, rfl, rfl, rfl, trivial⟩ ?_
  refine then_next ?_
  refine vc_cond_f rfl ?_
  refine vc_skip ?_
  refine then_next ?_
  refine vc_seq ?_
  refine vc_region ?_
  refine vl_det (det_assign rfl) rfl ?_
  refine vl_end [(0, _), (1, _), (5, _), (6, _), (7, _)] ⟨rfl, rfl, rfl, rfl, rfl, trivial⟩ ?_
  refine then_next ?_
  refine vc_seq ?_
  refine vc_nil_row 38 5 none ?_
  refine vc_region ?_
  refine vl_det (det_assign rfl) rfl ?_
  refine vl_end [(0, _), (1, _), (5, _), (6, _), (7, _), (8, _)] ⟨rfl, rfl, rfl, rfl, rfl, rfl, trivial⟩ ?_
  refine then_next ?_
  refine vc_seq ?_
  refine vc_block ?_
  refine vc_loopJ (fun zf zL zm => ∃ (i : Nat) (A7 : Option Addr) (c7 : Nat), (i < m) ∧ m - i = zm ∧ Sub zf [(0, .pointer (some ⟨g, 0, none⟩)), (1, .bool false), (5, .int .u8 (((38 : UInt8).toNat : Nat) : Int)), (6, .int .i64 6), (7, .slice A7 ((List.range i).flatMap qf).length c7), (8, .int .i64 i)] ∧ Wk zL (.own 38 5 A7 ((List.range i).flatMap qf).length c7 (stepsV ((List.range i).flatMap qf)) :: Pb g s (atf i) :: F)) _ ⟨0, none, 0, by omega, rfl, ⟨(by first | rfl | exact int_to (by omega) | exact sl_to (by omega)), (by first | rfl | exact int_to (by omega) | exact sl_to (by omega)), (by first | rfl | exact int_to (by omega) | exact sl_to (by omega)), (by first | rfl | exact int_to (by omega) | exact sl_to (by omega)), (by first | rfl | exact int_to (by omega) | exact sl_to (by omega)), (by first | rfl | exact int_to (by omega) | exact sl_to (by omega)), trivial⟩, by rw [hat]; exact .refl _⟩ ?_
  rintro _ _ _ ⟨i, A7, c7, hi, rfl, hs, hp⟩
  refine vc_weaken _ hs (vc_wk hp ?_)
  clear hs hp
  have hti := htk i
  have hl1 := hl i (by omega)
  have hl2 := hl (i + 1) (by omega)
  rw [hti, List.length_append] at hl2
  obtain ⟨hpe, hpi⟩ := hp i hi
  have hse := fun B w0 F => @sees_d B w0 F g (ate i) s 38 hs hpe
  refine vc_seq ?_
  refine vc_seq ?_
  refine vc_region ?_
  refine vl_det (det_move rfl) rfl ?_
  refine vl_det (det_nilCheck rfl) rfl ?_
  refine vl_det (det_fieldAddr_ Try.underlying84 rfl (by kernel_rfl) rfl rfl) rfl ?_
  refine vl_det (det_load_blk (by kernel_rfl) rfl (by repeat (first | exact .hd | apply Sel.tl)) rfl) rfl ?_
  refine vl_det (det_lss rfl rfl) rfl ?_
  refine vl_end [(0, _), (1, _), (5, _), (6, _), (7, _), (8, _), (14, _)] ⟨rfl, rfl, rfl, rfl, rfl, rfl, rfl, trivial⟩ ?_
  refine then_next ?_
  refine vc_decideU rfl (fun h14 => ?_) (fun h14 => ?_)
  · skip
    refine vc_skip ?_
    refine then_next ?_
    refine vc_block ?_
    refine vc_seq ?_
    refine vc_seq ?_
    refine vc_region ?_
    refine vl_det (det_move rfl) rfl ?_
    refine vl_end [(0, _), (1, _), (5, _), (6, _), (7, _), (8, _), (15, _)] ⟨rfl, rfl, rfl, rfl, rfl, rfl, rfl, trivial⟩ ?_
    refine then_next ?_
    refine vc_cond_f rfl ?_
    refine vc_region ?_
    refine vl_det (det_move rfl) rfl ?_
    refine vl_det (det_move rfl) rfl ?_
    refine vl_call co56 rfl ((hpi _ _ _ _).perm swp) rfl ?_
    rintro _ _ ⟨A22, c22, rfl, hLL⟩
    obtain rfl := hLL.symm
    refine vl_eff (eff_app slT22 rfl (by repeat (first | exact .hd | apply Sel.tl)) rfl (by first | (exact Bor.own (by repeat (first | exact List.Mem.head _ | apply List.Mem.tail))) | (repeat (first | assumption | apply Bor.cons))) (steps_one _) (by omega) (by omega)) rfl ?_
    rintro _ _ ⟨A23, c23, rfl, rfl⟩
    refine vl_det (det_assign rfl) rfl ?_
    refine vl_end [(0, _), (1, _), (5, _), (6, _), (7, _), (8, _)] ⟨rfl, rfl, rfl, rfl, rfl, rfl, trivial⟩ ?_
    refine then_next ?_
    refine vc_seq ?_
    refine vc_region ?_
    refine vl_det (det_move rfl) rfl ?_
    refine vl_det (det_add rfl rfl (w_i64 (by omega) (by omega))) rfl ?_
    refine vl_det (det_assign rfl) rfl ?_
    refine vl_end [(0, _), (1, _), (5, _), (6, _), (7, _), (8, _)] ⟨rfl, rfl, rfl, rfl, rfl, rfl, trivial⟩ ?_
    refine then_next ?_
    refine vc_seq ?_
    refine vc_seq ?_
    refine vc_region ?_
    refine vl_det (det_move rfl) rfl ?_
    refine vl_det (det_nilCheck rfl) rfl ?_
    refine vl_det (det_fieldAddr_ Try.underlying84 rfl (by kernel_rfl) rfl rfl) rfl ?_
    refine vl_det (det_load_blk (by kernel_rfl) rfl (by repeat (first | exact .hd | apply Sel.tl)) rfl) rfl ?_
    refine vl_det (det_geq rfl rfl) rfl ?_
    refine vl_det (det_move rfl) rfl ?_
    refine vl_guardn rfl rfl rfl (fun h31 => ?_) (fun h31 => ?_)
    · skip
      refine vl_det (det_move rfl) rfl ?_
      refine vl_guard_t rfl rfl ?_
      refine vl_det (det_move rfl) rfl ?_
      refine vl_guard_t rfl rfl ?_
      refine vl_call co57 rfl ((hse _ _ _).perm ((pu1 (pu0 (pu0 (.refl _)))))) rfl ?_
      rintro _ _ ⟨rfl, hLL, _⟩
      obtain rfl := hLL.symm
      refine vl_guard_t rfl rfl ?_
      refine vl_det (det_notd rfl) rfl ?_
      refine vl_det (det_pick_f rfl rfl) rfl ?_
      refine vl_end [(0, _), (1, _), (5, _), (6, _), (7, _), (8, _), (36, _)] ⟨rfl, rfl, rfl, rfl, rfl, rfl, rfl, trivial⟩ ?_
      refine then_next ?_
      refine vc_decideU rfl (fun h36 => ?_) (fun h36 => ?_)
      · skip
        have hlast : ¬ i + 1 < m := fun hh => h36 ⟨(h1 i hh).1, (h1 i hh).2.1⟩
        obtain rfl : m = i + 1 := by omega
        rw [Nat.add_sub_cancel]
        refine vc_exit ?_
        refine then_exit ?_
        refine in_exit rfl ?_
        refine loop_exit ?_
        refine in_eq ?_
        refine then_next ?_
        refine vc_seq ?_
        refine vc_seq ?_
        refine vc_region ?_
        refine vl_det (det_move rfl) rfl ?_
        refine vl_det (det_gtr rfl rfl) rfl ?_
        refine vl_end [(6, _), (7, _), (8, _), (45, _)] ⟨rfl, rfl, rfl, rfl, trivial⟩ ?_
        refine then_next ?_
        refine vc_decideU rfl (fun h45 => ?_) (fun h45 => ?_)
        · skip
          have hq : (List.range (i + 1)).flatMap qf ++ (if 1 < i + 1 then [((6, ((i + 1 : Nat) : Int), [], 0, 0) : StepC)] else []) = (List.range i).flatMap qf ++ qf i ++ [((6, ((i + 1 : Nat) : Int), [], 0, 0) : StepC)] := by rw [if_pos (by omega), hti]
          have hql : ((List.range i).flatMap qf).length + (qf i).length + 1 = ((List.range i).flatMap qf ++ qf i ++ [((6, ((i + 1 : Nat) : Int), [], 0, 0) : StepC)]).length := by simp; omega
          rw [hq]
          refine vc_region ?_
          refine vl_det (det_move rfl) rfl ?_
          refine vl_det (det_move rfl) rfl ?_
          refine vl_det (det_move rfl) rfl ?_
          refine vl_det (det_buildp [(0, _), (1, _)] [.int .i64 0, .int .i64 0, .string ⟨#[]⟩, .int .u64 0, .int .u64 0] [0, 1] [_, _, _, _, _] rfl rfl (by kernel_rfl)) rfl ?_
          refine vl_pushs slT22 rfl rfl rfl (by omega) (by first | exact bv_one _ | exact strs_one _ | exact ints_one _ _ | (simp; done) | (simp [Value.oneCell']; done) | assumption) rfl rfl rfl (fun _ => rfl) (by repeat (first | exact .hd | apply Sel.tl)) (by omega) (by omega) ?_
          intro _ A51 c51
          refine vl_det (det_assign rfl) rfl ?_
          refine vl_end [(7, _)] ⟨rfl, trivial⟩ ?_
          refine then_next ?_
          refine vc_seq ?_
          refine vc_region ?_
          refine vl_det (det_move rfl) rfl ?_
          refine vl_det (det_assign rfl) rfl ?_
          refine vl_end [(4, _)] ⟨rfl, trivial⟩ ?_
          refine then_next ?_
          refine vc_ret ?_
          refine ret_wk (L' := .own 38 5 A51 ((List.range i).flatMap qf ++ qf i ++ [((6, ((i + 1 : Nat) : Int), [], 0, 0) : StepC)]).length c51 (stepsV ((List.range i).flatMap qf ++ qf i ++ [((6, ((i + 1 : Nat) : Int), [], 0, 0) : StepC)])) :: Pb g s (sk s (ate i)) :: F) (.swap (.skip (.swap (wk_own hql (by rw [steps_app, steps_app, steps_sing]; rfl) (.refl _))))) ?_
          refine ret1 rfl rfl ?_
          exact ⟨A51, c51, by rw [← hql], rfl⟩
        · skip
          have hq : (List.range (i + 1)).flatMap qf ++ (if 1 < i + 1 then [((6, ((i + 1 : Nat) : Int), [], 0, 0) : StepC)] else []) = (List.range i).flatMap qf ++ qf i := by rw [if_neg (by omega), hti, List.append_nil]
          have hql : ((List.range i).flatMap qf).length + (qf i).length = ((List.range i).flatMap qf ++ qf i).length := by simp
          rw [hq]
          refine vc_skip ?_
          refine then_next ?_
          refine vc_seq ?_
          refine vc_region ?_
          refine vl_det (det_move rfl) rfl ?_
          refine vl_det (det_assign rfl) rfl ?_
          refine vl_end [(4, _)] ⟨rfl, trivial⟩ ?_
          refine then_next ?_
          refine vc_ret ?_
          refine ret_wk (L' := .own 38 5 A23 ((List.range i).flatMap qf ++ qf i).length c23 (stepsV ((List.range i).flatMap qf ++ qf i)) :: Pb g s (sk s (ate i)) :: F) (.swap (.skip (.swap (wk_own hql (by rw [steps_app]) (.refl _))))) ?_
          refine ret1 rfl rfl ?_
          exact ⟨A23, c23, by rw [← hql], rfl⟩
      · skip
        have hnx : i + 1 < m := by
          rcases Nat.lt_or_ge (i + 1) m with h | h
          · exact h
          · have e : i = m - 1 := by omega
            rw [e] at h36
            exact absurd h2 h36
        have hat2 := (h1 i hnx).2.2
        refine vc_skip ?_
        refine then_next ?_
        refine vc_region ?_
        refine vl_det (det_move rfl) rfl ?_
        refine vl_det (det_nilCheck rfl) rfl ?_
        refine vl_det (det_fieldAddr_ Try.underlying84 rfl (by kernel_rfl) rfl rfl) rfl ?_
        refine vl_det (det_load_blk (by kernel_rfl) rfl (by repeat (first | exact .hd | apply Sel.tl)) rfl) rfl ?_
        refine vl_det (det_add rfl rfl (w_i64 (by omega) (by omega))) rfl ?_
        refine vl_det (det_nilCheck rfl) rfl ?_
        refine vl_det (det_fieldAddr_ Try.underlying84 rfl (by kernel_rfl) rfl rfl) rfl ?_
        refine vl_eff0 (eff_store (by kernel_rfl) rfl rfl rfl (by repeat (first | exact .hd | apply Sel.tl)) (by simp)) ?_
        rintro _ _ rfl
        refine vl_end [(0, _), (1, _), (5, _), (6, _), (7, _), (8, _)] ⟨rfl, rfl, rfl, rfl, rfl, rfl, trivial⟩ ?_
        refine in_normal ?_
        have hel : ((List.range i).flatMap qf).length + (qf i).length = ((List.range (i + 1)).flatMap qf).length := by rw [hti, List.length_append]
        refine in_loop_ ⟨_, by omega, i + 1, A23, c23, hnx, rfl, ⟨(by first | rfl | exact int_to (by omega) | exact sl_to (by omega)), (by first | rfl | exact int_to (by omega) | exact sl_to (by omega)), (by first | rfl | exact int_to (by omega) | exact sl_to (by omega)), (by first | rfl | exact int_to (by omega) | exact sl_to (by omega)), (by first | rfl | exact int_to (by omega) | exact sl_to (by omega)), (by first | rfl | exact int_to (by omega) | exact sl_to (by omega)), trivial⟩, .swap (.skip (.swap (wk_own hel (by rw [hti, steps_app]) (wk_blk (pb_at (by rw [hat2]; omega)) (.refl _)))))⟩
    · skip
      exfalso; exact absurd h31 (by decide)
  · skip
    exfalso; exact h14 (by decide)
  ⟩
end Go.Proofs.Ytakokckokchacaa
namespace Go.Proofs.Ytakokckokchacaa
open Go.RowKit
set_option linter.unusedVariables false
set_option maxRecDepth 20000
variable {B : Nat} {w0 : World} {F L M : List Ch} {A A2 : Option Addr} {n c c2 g : Nat} {q : List StepC}
theorem wk_rows {M N : List Ch} (h : Wk M N) : ∀ R : List Ch, Wk (R ++ M) N
  | [] => h
  | _ :: R => .skip (wk_rows h R)
theorem pflat_ok {t : Qt} (hb : Bor B w0 F 5 (.slice A q.length c) q.length (stepsV q)) (hc : checkQ q = 0) (hq : q.length ≤ 1000) (hd : depS [] q = some [t.dep]) (hp : parS [] q = [t]) (hn : t.isN) (hw : t.wf) (hst : t.st = q) :
    Does Try.prog B w0 11 [.slice A q.length c] F (fun r L => ∃ A' c', r = .tuple #[.slice A' (flatT t).st.length c', .int .i64 0] ∧ L = .own 38 5 A' (flatT t).st.length c' (stepsV (flatT t).st) :: F) := by
  have hf := (flatT_ok t hw).1 hn
  have hsl : t.st.length ≤ 1000 := by rw [hst]; exact hq
  refine fn_walk Try.func11 14 rfl rfl rfl [(0, .slice A q.length c)] ⟨⟨rfl, rfl⟩, trivial⟩ ?_
  refine vc_seq ?_
  refine vc_region ?_
  refine vl_det (det_assign rfl) rfl ?_
  refine vl_det (det_assign rfl) rfl ?_
  refine vl_end [(0, _)] ⟨rfl, trivial⟩ ?_
  refine then_next ?_
  refine vc_seq ?_
  refine vc_seq ?_
  refine vc_region ?_
  refine vl_det (det_move rfl) rfl ?_
  refine vl_call co16 rfl (check_d (by first | (exact Bor.own (by repeat (first | exact List.Mem.head _ | apply List.Mem.tail))) | (repeat (first | assumption | apply Bor.cons)))) rfl ?_
  rintro _ _ ⟨rfl, hLL⟩
  obtain rfl := hLL.symm
  refine vl_det (det_assign rfl) rfl ?_
  refine vl_end [(0, _), (4, _)] ⟨rfl, rfl, trivial⟩ ?_
  refine then_next ?_
  refine vc_seq ?_
  refine vc_region ?_
  refine vl_det (det_move rfl) rfl ?_
  refine vl_det (det_neq rfl rfl) rfl ?_
  refine vl_end [(0, _), (4, _), (8, _)] ⟨rfl, rfl, rfl, trivial⟩ ?_
  refine then_next ?_
  refine vc_decideU rfl (fun h8 => ?_) (fun h8 => ?_)
  · skip
    exfalso; exact h8 hc
  · skip
    refine vc_skip ?_
    refine then_next ?_
    refine vc_seq ?_
    refine vc_region ?_
    refine vl_det (det_move rfl) rfl ?_
    refine vl_call co30 rfl (tree_d (by first | (exact Bor.own (by repeat (first | exact List.Mem.head _ | apply List.Mem.tail))) | (repeat (first | assumption | apply Bor.cons))) hq hd hp) rfl ?_
    rintro _ _ ⟨M11, rfl, hx⟩
    refine vl_invoke (by kernel_rfl) rfl rfl (flat_m hn hw (by omega) [] _ _ hx) rfl ?_
    rintro _ _ ⟨M12, rfl, hy⟩
    refine vl_invoke (by kernel_rfl) rfl rfl (steps_m hf.1 hf.2.1 (by omega) _ _ hy) rfl ?_
    rintro _ _ ⟨A13, c13, rfl, hLL⟩
    obtain rfl := hLL.symm
    refine vl_det (det_assign rfl) rfl ?_
    refine vl_det (det_assign rfl) rfl ?_
    refine vl_end [(2, _), (3, _)] ⟨rfl, rfl, trivial⟩ ?_
    refine then_next ?_
    refine vc_ret ?_
    refine ret_wk (L' := .own 38 5 A13 (flatT t).st.length c13 (stepsV (flatT t).st) :: F) (.cons (wk_rows (M := [] ++ (M11 ++ F)) (wk_rows (M := F) (.refl _) M11) M12)) ?_
    refine ret2 rfl rfl rfl ?_
    exact ⟨A13, c13, rfl, rfl⟩
theorem parse_d {s : Txt} {e : Nat} (hs : s.length ≤ 1000) (hq : PLst true s 0 q e) (he : sk s e = s.length) (hc : checkQ q = 0) :
    Does Try.prog B w0 28 [.string ⟨s.toArray⟩] F (fun r L => ∃ A c, r = .tuple #[.slice A q.length c, .int .i64 0, .int .i64 0] ∧ L = .own 38 5 A q.length c (stepsV q) :: F) := by
  obtain ⟨hel, hq⟩ := hq
  refine fn_walk Try.func28 54 rfl rfl rfl [(0, .string ⟨s.toArray⟩)] ⟨⟨rfl, rfl⟩, trivial⟩ ?_
  refine vc_seq ?_
  refine vc_region ?_
  refine vl_det (det_assign rfl) rfl ?_
  refine vl_det (det_assign rfl) rfl ?_
  refine vl_det (det_assign rfl) rfl ?_
  refine vl_end [(0, _)] ⟨rfl, trivial⟩ ?_
  refine then_next ?_
  refine vc_seq ?_
  refine vc_seq ?_
  refine vc_region ?_
  refine vl_det (det_move rfl) rfl ?_
  refine vl_det (det_len_s Try.underlying9 rfl) rfl ?_
  refine vl_det (det_gtr rfl rfl) rfl ?_
  refine vl_end [(0, _), (10, _)] ⟨rfl, rfl, trivial⟩ ?_
  refine then_next ?_
  refine vc_decideU rfl (fun h10 => ?_) (fun h10 => ?_)
  · skip
    exfalso; omega
  · skip
    refine vc_skip ?_
    refine then_next ?_
    refine vc_seq ?_
    refine vc_region ?_
    refine vl_det (det_move rfl) rfl ?_
    refine vl_det (det_buildp [(0, _), (2, _)] [.string ⟨#[]⟩, .int .i64 0, .int .i64 0] [0, 2] [_, _, _] rfl rfl (by kernel_rfl)) rfl ?_
    refine vl_eff (eff_box rfl rfl) rfl ?_
    rintro _ _ ⟨g13, rfl, rfl⟩
    refine vl_det (det_assign rfl) rfl ?_
    refine vl_end [(0, _), (5, _)] ⟨rfl, rfl, trivial⟩ ?_
    refine then_next ?_
    refine vc_seq ?_
    refine vc_region ?_
    refine vl_det (det_move rfl) rfl ?_
    refine vl_call co44 rfl (hq _ _ _ _) rfl ?_
    rintro _ _ ⟨A15, c15, rfl, hLL⟩
    obtain rfl := hLL.symm
    refine vl_det (det_assign rfl) rfl ?_
    refine vl_end [(0, _), (5, _), (6, _)] ⟨rfl, rfl, rfl, trivial⟩ ?_
    refine then_next ?_
    refine vc_seq ?_
    refine vc_region ?_
    refine vl_det (det_move rfl) rfl ?_
    refine vl_call co45 rfl ((skip_d hs hel).perm swp) rfl ?_
    rintro _ _ ⟨rfl, hLL, _⟩
    obtain rfl := hLL.symm
    refine vl_end [(0, _), (5, _), (6, _)] ⟨rfl, rfl, rfl, trivial⟩ ?_
    refine then_next ?_
    refine vc_seq ?_
    refine vc_seq ?_
    refine vc_region ?_
    refine vl_det (det_move rfl) rfl ?_
    refine vl_det (det_nilCheck rfl) rfl ?_
    refine vl_det (det_fieldAddr_ Try.underlying84 rfl (by kernel_rfl) rfl rfl) rfl ?_
    refine vl_det (det_load_blk (by kernel_rfl) rfl (by repeat (first | exact .hd | apply Sel.tl)) rfl) rfl ?_
    refine vl_det (det_lss rfl rfl) rfl ?_
    refine vl_det (det_move rfl) rfl ?_
    refine vl_guardp rfl rfl rfl (fun h23 => ?_) (fun h23 => ?_)
    · skip
      refine vl_det (det_move rfl) rfl ?_
      refine vl_guard_t rfl rfl ?_
      refine vl_det (det_nilCheck rfl) rfl ?_
      refine vl_guard_t rfl rfl ?_
      refine vl_det (det_fieldAddr_ Try.underlying84 rfl (by kernel_rfl) rfl rfl) rfl ?_
      refine vl_guard_t rfl rfl ?_
      refine vl_det (det_load_blk (by kernel_rfl) rfl (by repeat (first | exact .hd | apply Sel.tl)) rfl) rfl ?_
      refine vl_guard_t rfl rfl ?_
      refine vl_det (det_move rfl) rfl ?_
      refine vl_guard_t rfl rfl ?_
      refine vl_det (det_len_s Try.underlying9 rfl) rfl ?_
      refine vl_guard_t rfl rfl ?_
      refine vl_det (det_lss rfl rfl) rfl ?_
      refine vl_det (det_pick_t rfl rfl) rfl ?_
      refine vl_end [(5, _), (6, _), (31, _)] ⟨rfl, rfl, rfl, trivial⟩ ?_
      refine then_next ?_
      refine vc_decideU rfl (fun h31 => ?_) (fun h31 => ?_)
      · skip
        exfalso; omega
      · skip
        refine vc_skip ?_
        refine then_next ?_
        refine vc_seq ?_
        refine vc_seq ?_
        refine vc_region ?_
        refine vl_det (det_move rfl) rfl ?_
        refine vl_det (det_nilCheck rfl) rfl ?_
        refine vl_det (det_fieldAddr_ Try.underlying84 rfl (by kernel_rfl) rfl rfl) rfl ?_
        refine vl_det (det_load_blk (by kernel_rfl) rfl (by repeat (first | exact .hd | apply Sel.tl)) rfl) rfl ?_
        refine vl_det (det_geq rfl rfl) rfl ?_
        refine vl_end [(5, _), (6, _), (43, _)] ⟨rfl, rfl, rfl, trivial⟩ ?_
        refine then_next ?_
        refine vc_decideU rfl (fun h43 => ?_) (fun h43 => ?_)
        · skip
          exfalso; exact absurd h43 (by decide)
        · skip
          refine vc_skip ?_
          refine then_next ?_
          refine vc_seq ?_
          refine vc_region ?_
          refine vl_det (det_move rfl) rfl ?_
          refine vl_call co10 rfl (rcheck_d (by first | (exact Bor.own (by repeat (first | exact List.Mem.head _ | apply List.Mem.tail))) | (repeat (first | assumption | apply Bor.cons)))) rfl ?_
          rintro _ _ ⟨rfl, hLL⟩
          obtain rfl := hLL.symm
          refine vl_det (det_assign rfl) rfl ?_
          refine vl_end [(6, _), (7, _)] ⟨rfl, rfl, trivial⟩ ?_
          refine then_next ?_
          refine vc_seq ?_
          refine vc_seq ?_
          refine vc_region ?_
          refine vl_det (det_move rfl) rfl ?_
          refine vl_det (det_neq rfl rfl) rfl ?_
          refine vl_end [(6, _), (7, _), (51, _)] ⟨rfl, rfl, rfl, trivial⟩ ?_
          refine then_next ?_
          refine vc_decideU rfl (fun h51 => ?_) (fun h51 => ?_)
          · skip
            exfalso; exact h51 hc
          · skip
            refine vc_skip ?_
            refine then_next ?_
            refine vc_seq ?_
            refine vc_region ?_
            refine vl_det (det_move rfl) rfl ?_
            refine vl_det (det_assign rfl) rfl ?_
            refine vl_det (det_assign rfl) rfl ?_
            refine vl_det (det_assign rfl) rfl ?_
            refine vl_end [(2, _), (3, _), (4, _)] ⟨rfl, rfl, rfl, trivial⟩ ?_
            refine then_next ?_
            refine vc_ret ?_
            refine ret_wk (L' := .own 38 5 A15 q.length c15 (stepsV q) :: F) (.skip (.refl _)) ?_
            refine ret3_ rfl rfl rfl rfl ?_
            exact ⟨A15, c15, rfl, rfl⟩
    · skip
      exfalso; exact h23 (by decide)
/-! the example -/
def s1 : Txt := [97, 32, 38, 32, 40, 98, 32, 38, 32, 97, 41]
def s2 : Txt := [97, 32, 38, 32, 98]
def sA : StepC := (1, 0, [97], 0, 0)
def sB : StepC := (1, 0, [98], 0, 0)
def sC : StepC := (6, 2, [], 0, 0)
theorem two {P : Nat → Prop} (h0 : P 0) (h1 : P 1) : ∀ i, i < 2 → P i := fun i hi => by
  match i, hi with
  | 0, _ => exact h0
  | 1, _ => exact h1
theorem p2 : PLst true s2 0 [sA, sB, sC] 5 := by
  have w0 : PNot s2 0 [sA] 1 := not_word (a := 0) (k := 1) (by decide) (by decide) (by decide) (by decide) (by decide) (by decide) (by decide) (by decide) (by decide) (by decide) (by decide) (by decide) (fun i h1 h2 => by obtain rfl : i = 0 := (by omega); decide) (by decide) (by decide) (by decide) (by decide)
  have w1 : PNot s2 3 [sB] 5 := not_word (a := 4) (k := 5) (by decide) (by decide) (by decide) (by decide) (by decide) (by decide) (by decide) (by decide) (by decide) (by decide) (by decide) (by decide) (fun i h1 h2 => by obtain rfl : i = 4 := (by omega); decide) (by decide) (by decide) (by decide) (by decide)
  have l1 : PLst false s2 0 [sA, sB, sC] 5 := list_and (m := 2) (atf := fun i => if i = 0 then 0 else 3) (ate := fun i => if i = 0 then 1 else 5) (qf := fun i => if i = 0 then [sA] else [sB]) (by decide) (by decide) (by decide) rfl (two w0 w1) (fun i hi => by obtain rfl : i = 0 := (by omega); decide) (by decide) (by decide) (fun i hi => by
    match i, hi with
    | 0, _ => decide
    | 1, _ => decide
    | 2, _ => decide)
  exact list_or (m := 1) (atf := fun i => 0) (ate := fun i => 5) (qf := fun i => [sA, sB, sC]) (by decide) (by decide) (by decide) rfl (fun i _ => l1) (fun i hi => absurd hi (by omega)) (by decide) (by decide) (fun i hi => by
    match i, hi with
    | 0, _ => decide
    | 1, _ => decide)
theorem p1 : PLst true s1 0 [sA, sB, sA, sC, sC] 11 := by
  have w0 : PNot s1 0 [sA] 1 := not_word (a := 0) (k := 1) (by decide) (by decide) (by decide) (by decide) (by decide) (by decide) (by decide) (by decide) (by decide) (by decide) (by decide) (by decide) (fun i h1 h2 => by obtain rfl : i = 0 := (by omega); decide) (by decide) (by decide) (by decide) (by decide)
  have w1 : PNot s1 5 [sB] 6 := not_word (a := 5) (k := 6) (by decide) (by decide) (by decide) (by decide) (by decide) (by decide) (by decide) (by decide) (by decide) (by decide) (by decide) (by decide) (fun i h1 h2 => by obtain rfl : i = 5 := (by omega); decide) (by decide) (by decide) (by decide) (by decide)
  have w2 : PNot s1 8 [sA] 10 := not_word (a := 9) (k := 10) (by decide) (by decide) (by decide) (by decide) (by decide) (by decide) (by decide) (by decide) (by decide) (by decide) (by decide) (by decide) (fun i h1 h2 => by obtain rfl : i = 9 := (by omega); decide) (by decide) (by decide) (by decide) (by decide)
  have l1 : PLst false s1 5 [sB, sA, sC] 10 := list_and (m := 2) (atf := fun i => if i = 0 then 5 else 8) (ate := fun i => if i = 0 then 6 else 10) (qf := fun i => if i = 0 then [sB] else [sA]) (by decide) (by decide) (by decide) rfl (two w1 w2) (fun i hi => by obtain rfl : i = 0 := (by omega); decide) (by decide) (by decide) (fun i hi => by
    match i, hi with
    | 0, _ => decide
    | 1, _ => decide
    | 2, _ => decide)
  have l2 : PLst true s1 5 [sB, sA, sC] 10 := list_or (m := 1) (atf := fun i => 5) (ate := fun i => 10) (qf := fun i => [sB, sA, sC]) (by decide) (by decide) (by decide) rfl (fun i _ => l1) (fun i hi => absurd hi (by omega)) (by decide) (by decide) (fun i hi => by
    match i, hi with
    | 0, _ => decide
    | 1, _ => decide)
  have w3 : PNot s1 3 [sB, sA, sC] 11 := not_par (a := 4) (b := 10) (e := 10) (by decide) (by decide) (by decide) (by decide) (by decide) (by decide) l2 (by decide) (by decide) (by decide)
  have l3 : PLst false s1 0 [sA, sB, sA, sC, sC] 11 := list_and (m := 2) (atf := fun i => if i = 0 then 0 else 3) (ate := fun i => if i = 0 then 1 else 11) (qf := fun i => if i = 0 then [sA] else [sB, sA, sC]) (by decide) (by decide) (by decide) rfl (two w0 w3) (fun i hi => by obtain rfl : i = 0 := (by omega); decide) (by decide) (by decide) (fun i hi => by
    match i, hi with
    | 0, _ => decide
    | 1, _ => decide
    | 2, _ => decide)
  exact list_or (m := 1) (atf := fun i => 0) (ate := fun i => 11) (qf := fun i => [sA, sB, sA, sC, sC]) (by decide) (by decide) (by decide) rfl (fun i _ => l3) (fun i hi => absurd hi (by omega)) (by decide) (by decide) (fun i hi => by
    match i, hi with
    | 0, _ => decide
    | 1, _ => decide)
theorem c1 : checkQ [sA, sB, sA, sC, sC] = 0 := by decide
theorem c2_ : checkQ [sA, sB, sC] = 0 := by decide
theorem f1 {t : Qt} (h : parS [] [sA, sB, sA, sC, sC] = [t]) : (flatT t).st = [sA, sB, sC] := by
  have e : parS [] [sA, sB, sA, sC, sC] = [.group 6 (.cons (.leaf sA) (.cons (.group 6 (.cons (.leaf sB) (.cons (.leaf sA) .nil))) .nil))] := rfl
  rw [e] at h
  injection h with h _
  rw [← h]
  decide
theorem alive_d : Does Try.prog B w0 9 [] F (fun r L => r = .bool true ∧ L = F) := by
  obtain ⟨t, k1, k2, k3, k4, k5, k6, k7⟩ := check_ok c1
  have hf := f1 k3
  have hpf := fun B w0 F A c hb => @pflat_ok B w0 F A c [sA, sB, sA, sC, sC] t hb c1 k1 k2 k3 k4 k5 k6
  rw [hf] at hpf
  refine fn_walk Try.func9 31 rfl rfl rfl [] trivial ?_
  refine vc_seq ?_
  refine vc_region ?_
  refine vl_det (det_assign rfl) rfl ?_
  refine vl_end [] trivial ?_
  refine then_next ?_
  refine vc_seq ?_
  refine vc_region ?_
  refine vl_call co28 rfl (parse_d (s := s1) (by decide) p1 (by decide) c1) rfl ?_
  rintro _ _ ⟨A10, c10, rfl, hLL⟩
  obtain rfl := hLL.symm
  refine vl_det (det_move rfl) rfl ?_
  refine vl_det (det_extract rfl rfl) rfl ?_
  refine vl_det (det_extract rfl rfl) rfl ?_
  refine vl_det (det_extract rfl rfl) rfl ?_
  refine vl_det (det_assign rfl) rfl ?_
  refine vl_det (det_assign rfl) rfl ?_
  refine vl_det (det_assign rfl) rfl ?_
  refine vl_end [(1, _)] ⟨rfl, trivial⟩ ?_
  refine then_next ?_
  refine vc_seq ?_
  refine vc_region ?_
  refine vl_call co28 rfl (parse_d (s := s2) (by decide) p2 (by decide) c2_) rfl ?_
  rintro _ _ ⟨A15, c15, rfl, hLL⟩
  obtain rfl := hLL.symm
  refine vl_det (det_move rfl) rfl ?_
  refine vl_det (det_extract rfl rfl) rfl ?_
  refine vl_det (det_extract rfl rfl) rfl ?_
  refine vl_det (det_extract rfl rfl) rfl ?_
  refine vl_det (det_assign rfl) rfl ?_
  refine vl_det (det_assign rfl) rfl ?_
  refine vl_det (det_assign rfl) rfl ?_
  refine vl_end [(1, _), (4, _)] ⟨rfl, rfl, trivial⟩ ?_
  refine then_next ?_
  refine vc_seq ?_
  refine vc_region ?_
  refine vl_det (det_move rfl) rfl ?_
  refine vl_call co11 rfl (hpf _ _ _ _ _ (by first | (exact Bor.own (by repeat (first | exact List.Mem.head _ | apply List.Mem.tail))) | (repeat (first | assumption | apply Bor.cons)))) rfl ?_
  rintro _ _ ⟨A21, c21, rfl, hLL⟩
  obtain rfl := hLL.symm
  refine vl_det (det_move rfl) rfl ?_
  refine vl_det (det_extract rfl rfl) rfl ?_
  refine vl_det (det_extract rfl rfl) rfl ?_
  refine vl_det (det_assign rfl) rfl ?_
  refine vl_det (det_assign rfl) rfl ?_
  refine vl_end [(4, _), (7, _), (8, _)] ⟨rfl, rfl, rfl, trivial⟩ ?_
  refine then_next ?_
  refine vc_seq ?_
  refine vc_region ?_
  refine vl_det (det_move rfl) rfl ?_
  refine vl_det (det_eql rfl rfl) rfl ?_
  refine vl_det (det_move rfl) rfl ?_
  refine vl_guardp rfl rfl rfl (fun h26 => ?_) (fun h26 => ?_)
  · skip
    refine vl_det (det_move rfl) rfl ?_
    refine vl_guard_t rfl rfl ?_
    refine vl_det (det_move rfl) rfl ?_
    refine vl_guard_t rfl rfl ?_
    refine vl_call co12 rfl (qsame_d (l := [sA, sB, sC]) (l2 := [sA, sB, sC]) (by first | (exact Bor.own (by repeat (first | exact List.Mem.head _ | apply List.Mem.tail))) | (repeat (first | assumption | apply Bor.cons))) (by first | (exact Bor.own (by repeat (first | exact List.Mem.head _ | apply List.Mem.tail))) | (repeat (first | assumption | apply Bor.cons))) (by decide)) rfl ?_
    rintro _ _ ⟨rfl, hLL⟩
    obtain rfl := hLL.symm
    refine vl_det (det_pick_t rfl rfl) rfl ?_
    refine vl_det (det_assign rfl) rfl ?_
    refine vl_end [(0, _)] ⟨rfl, trivial⟩ ?_
    refine then_next ?_
    refine vc_ret ?_
    refine ret_wk (L' := F) (.skip (.skip (.skip (.refl _)))) ?_
    refine ret1 rfl rfl ?_
    exact ⟨by rw [decide_eq_true rfl], rfl⟩
  · skip
    exfalso; exact h26 rfl
end Go.Proofs.Ytakokckokchacaa
namespace Go.Proofs.Ytakokckokchacaa
open Go.RowKit
set_option linter.unusedVariables false
set_option maxRecDepth 20000
variable {B : Nat} {w0 : World} {F : List Ch} {A A1 A2 : Option Addr} {n c c1 c2 g : Nat}
theorem SL.own_cut {w : World} {L : List Ch} {e : TypeId} {size k : Nat} {xs : List Value} (h : SL B w0 (.own e size A n c xs :: L) w) (hk : k ≤ n) : SL B w0 (.own e size A k c (xs.take (k * size)) :: L) w := by
  refine ⟨h.below, h.base, fun d hd => ?_, List.pairwise_cons.2 ⟨fun d hd => ?_, (List.pairwise_cons.1 h.apart).2⟩⟩
  · rcases List.mem_cons.1 hd with rfl | hd
    · obtain ⟨k1, k2, k3⟩ := h.head
      have hks : k * size ≤ n * size := Nat.mul_le_mul_right _ hk
      refine ⟨by rw [List.length_take, k1]; omega, by omega, k3.imp id fun ⟨g, cur, q1, q2, q3, q4, q5, q6⟩ => ⟨g, cur, q1, q2, q3, q4, q5, by rw [← q6, List.take_take, Nat.min_eq_left hks]⟩⟩
    · exact h.tail.all d hd
  · exact (List.pairwise_cons.1 h.apart).1 d hd
theorem ret_own_cut {P : Program} {fn : Func} {R : Value → List Ch → Prop} {ee : Exit} {fr : Fr} {L : List Ch} {e : TypeId} {size : Nat} {xs : List Value} (k : Nat) (hk : k ≤ n) (h : Ret P fn R ee fr (.own e size A k c (xs.take (k * size)) :: L)) : Ret P fn R ee fr (.own e size A n c xs :: L) := by
  cases ee <;> first
    | exact h
    | (intro B w0 a w ha hw; exact h B w0 a w ha (hw.own_cut hk))
/-- the collecting variable -/
abbrev ColP (ho : Nat) (A : Option Addr) (c : Nat) (ws : List Txt) (F : List Ch) : List Ch := .blk ho 39 [.slice A ws.length c] :: .own 9 1 A ws.length c (strs ws) :: F
/-- what a function does with each word that it is handed: it stands behind the others, turned -/
def Collects (B : Nat) (w0 : World) (ff : FuncId) (ho : Nat) (f : Txt → Txt) : Prop :=
  ∀ (F : List Ch) (t : Txt) (ws : List Txt) (A : Option Addr) (c : Nat), t.length ≤ 24 → ws.length ≤ 1000000000000 →
    Does Try.prog B w0 ff [.string ⟨t.toArray⟩, .pointer (some ⟨ho, 0, none⟩)] (ColP ho A c ws F) (fun r L => r = .tuple #[] ∧ ∃ A' c', L = ColP ho A' c' (ws ++ [f t]) F)
/-- the row of letters -/
abbrev RowP (hr : Nat) (A : Option Addr) (c : Nat) (row : List UInt8) (F : List Ch) : List Ch := .blk hr 108 [.slice A row.length c] :: .own 5 1 A row.length c (bv row) :: F
theorem tell_d {ff : FuncId} {ho hr hw : Nat} {f : Txt → Txt} (hcal : Callable Try.prog ff) (hword : Collects B w0 ff ho f) {row : List UInt8} {ws : List Txt} (hws : ws.length ≤ 1000000000000) (hrow : row.length ≤ 1000000000000) :
    Does Try.prog B w0 70 [.pointer (some ⟨hr, 0, none⟩), .pointer (some ⟨hw, 0, none⟩)] (RowP hr A1 c1 row (.blk hw 93 [.func (.func ff) #[] [.pointer (some ⟨ho, 0, none⟩)].toArray] :: ColP ho A2 c2 ws F))
      (fun r L => r = .tuple #[] ∧ ∃ A2' c2', L = RowP hr A1 c1 [] (.blk hw 93 [.func (.func ff) #[] [.pointer (some ⟨ho, 0, none⟩)].toArray] :: ColP ho A2' c2' (ws ++ (emit row).map f) F)) := by
  refine fn_walk Try.func70 15 rfl rfl rfl [(0, .pointer (some ⟨hr, 0, none⟩)), (1, .pointer (some ⟨hw, 0, none⟩))] ⟨⟨rfl, rfl⟩, ⟨rfl, rfl⟩, trivial⟩ ?_
  refine vc_seq ?_
  refine vc_seq ?_
  refine vc_region ?_
  refine vl_det (det_load_blk (by kernel_rfl) rfl (by repeat (first | exact .hd | apply Sel.tl)) rfl) rfl ?_
  refine vl_det (det_len_sl Try.underlying108 rfl) rfl ?_
  refine vl_det (det_gtr rfl rfl) rfl ?_
  refine vl_end [(0, _), (1, _), (4, _)] ⟨rfl, rfl, rfl, trivial⟩ ?_
  refine then_next ?_
  refine vc_decideU rfl (fun h4 => ?_) (fun h4 => ?_)
  · skip
    refine vc_bor (A := A1) (nn := row.length) (c := c1) (size := 1) (xs := bv row) (by first | (exact Bor.own (by repeat (first | exact List.Mem.head _ | apply List.Mem.tail))) | (repeat (first | assumption | apply Bor.cons))) fun hcap _ => ?_
    obtain ⟨M, hM⟩ : ∃ M, M = min row.length 24 := ⟨_, rfl⟩
    have htl : (row.take 24).length = M := by rw [List.length_take, hM, Nat.min_comm]
    have he : emit row = [row.take 24] := if_neg (fun e => by rw [e] at h4; simp at h4)
    have hMm : min (row.length : Int) 24 = (M : Int) := by omega
    have htk : (bv row).take (M * 1) = bv (row.take 24) := by
      rw [Nat.mul_one, bv_take]
      congr 1
      rcases Nat.lt_or_ge row.length 24 with h | h
      · rw [List.take_of_length_le (by omega), List.take_of_length_le (by omega)]
      · rw [show M = 24 by omega]
    refine vh_region (S := .blk hr 108 [.slice A1 row.length c1] :: .own 5 1 A1 row.length c1 (bv row) :: .blk hw 93 [.func (.func ff) #[] [.pointer (some ⟨ho, 0, none⟩)].toArray] :: []) (by kernel_rfl) (by repeat (first | exact List.Sublist.refl _ | exact List.nil_sublist _ | exact List.sublist_append_right _ _ | apply List.Sublist.cons_cons | apply List.Sublist.cons)) ?_
    refine vh_take 0 rfl (by kernel_rfl) (by kernel_rfl) (by kernel_rfl) (det_load_blk (by kernel_rfl) rfl (by repeat (first | exact .hd | apply Sel.tl)) rfl) rfl ?_
    refine vh_take 1 rfl (by kernel_rfl) (by kernel_rfl) (by kernel_rfl) (det_load_blk (by kernel_rfl) rfl (by repeat (first | exact .hd | apply Sel.tl)) rfl) rfl ?_
    refine vh_take 2 rfl (by kernel_rfl) (by kernel_rfl) (by kernel_rfl) (det_load_blk (by kernel_rfl) rfl (by repeat (first | exact .hd | apply Sel.tl)) rfl) rfl ?_
    refine vh_take 3 rfl (by kernel_rfl) (by kernel_rfl) (by kernel_rfl) (det_len_sl Try.underlying108 rfl) rfl ?_
    refine vh_take 4 rfl (by kernel_rfl) (by kernel_rfl) (by kernel_rfl) (det_min rfl rfl) rfl ?_
    rw [hMm]
    refine vh_take 5 rfl (by kernel_rfl) (by kernel_rfl) (by kernel_rfl) (det_slice_hi (i := M) (size := 1) Try.underlying108 (by kernel_rfl) rfl rfl rfl (by omega)) rfl ?_
    refine vh_take 6 rfl (by kernel_rfl) (by kernel_rfl) (by kernel_rfl) (det_bstr (b := row.take 24) Try.underlying108 Try.underlying5 Try.underlying9 rfl (htk ▸ ((by first | (exact Bor.own (by repeat (first | exact List.Mem.head _ | apply List.Mem.tail))) | (repeat (first | assumption | apply Bor.cons))) : Bor _ _ _ 1 (.slice A1 row.length c1) row.length (bv row)).head_ (k := M) (by omega))) rfl ?_
    refine vh_one 7 (by kernel_rfl) ?_
    refine st_callv rfl .no hcal rfl rfl ((hword _ (row.take 24) ws _ _ (by omega) (by omega)).perm ((pu3 (pu3 (pu0 (pu0 (pu0 (.refl _)))))))) rfl (by rintro _ _ ⟨rfl, A12, c12, rfl⟩; exact (by repeat (first | exact List.Sublist.refl _ | exact List.nil_sublist _ | exact List.sublist_append_right _ _ | apply List.Sublist.cons_cons | apply List.Sublist.cons))) ?_
    rintro _ _ ⟨rfl, A12, c12, hLL⟩
    obtain rfl := hLL.symm
    refine vh_done [(0, _)] ⟨rfl, trivial⟩ (by kernel_rfl) ?_
    refine then_next ?_
    refine vc_region ?_
    refine vl_det (det_load_blk (by kernel_rfl) rfl (by repeat (first | exact .hd | apply Sel.tl)) rfl) rfl ?_
    refine vl_det (det_slice_hi (i := 0) (size := 1) Try.underlying108 (by kernel_rfl) rfl rfl rfl (by omega)) rfl ?_
    refine vl_eff0 (eff_store (by kernel_rfl) rfl rfl rfl (by repeat (first | exact .hd | apply Sel.tl)) (by simp)) ?_
    rintro _ _ rfl
    refine vl_end [] trivial ?_
    refine ret_n ?_
    refine ret_wk (L' := .own 5 1 A1 row.length c1 (bv row) :: .blk hr 108 [.slice A1 0 c1] :: .blk hw 93 [.func (.func ff) #[] [.pointer (some ⟨ho, 0, none⟩)].toArray] :: ColP ho A12 c12 (ws ++ [f (row.take 24)]) F) ((wu3 (wu2 (wu2 (wu0 (wu0 (.refl _))))))) ?_
    refine ret_own_cut 0 (Nat.zero_le _) ?_
    refine ret_wk (L' := RowP hr A1 c1 [] (.blk hw 93 [.func (.func ff) #[] [.pointer (some ⟨ho, 0, none⟩)].toArray] :: ColP ho A12 c12 (ws ++ [f (row.take 24)]) F)) (.swap (.cons (wk_own rfl (by rw [Nat.zero_mul]; rfl) (.refl _)))) ?_
    refine ret0 rfl ?_
    exact ⟨rfl, A12, c12, by rw [he]; rfl⟩
  · skip
    obtain rfl : row = [] := List.eq_nil_of_length_eq_zero (by omega)
    refine vc_skip ?_
    refine then_next ?_
    refine vc_region ?_
    refine vl_det (det_load_blk (by kernel_rfl) rfl (by repeat (first | exact .hd | apply Sel.tl)) rfl) rfl ?_
    refine vl_det (det_slice_hi (i := 0) (size := 1) Try.underlying108 (by kernel_rfl) rfl rfl rfl (by omega)) rfl ?_
    refine vl_eff0 (eff_store (by kernel_rfl) rfl rfl rfl (by repeat (first | exact .hd | apply Sel.tl)) (by simp)) ?_
    rintro _ _ rfl
    refine vl_end [] trivial ?_
    refine ret_n ?_
    refine ret0 rfl ?_
    exact ⟨rfl, A2, c2, by simp [emit]⟩
theorem split_d {ff : FuncId} {ho : Nat} {f : Txt → Txt} (hcal : Callable Try.prog ff) (hword : Collects B w0 ff ho f) (l : List UInt8) {ws : List Txt} (hws : ws.length ≤ 274877906944) (hl : l.length ≤ 274877906944) :
    Does Try.prog B w0 50 [.string ⟨l.toArray⟩, .func (.func ff) #[] [.pointer (some ⟨ho, 0, none⟩)].toArray] (ColP ho A2 c2 ws F)
      (fun r L => r = .tuple #[] ∧ ∃ A2' c2', L = ColP ho A2' c2' (ws ++ (wordsL l).map f) F) := by
  refine fn_walk Try.func50 32 rfl rfl rfl [(0, .string ⟨l.toArray⟩), (1, .func (.func ff) #[] [.pointer (some ⟨ho, 0, none⟩)].toArray)] ⟨⟨rfl, rfl⟩, ⟨rfl, rfl⟩, trivial⟩ ?_
  refine vc_seq ?_
  refine vc_region ?_
  refine vl_eff (eff_box rfl rfl) rfl ?_
  rintro _ _ ⟨g3, rfl, rfl⟩
  refine vl_end [(0, _), (3, _)] ⟨rfl, rfl, trivial⟩ ?_
  refine then_next ?_
  refine vc_seq ?_
  refine vc_region ?_
  refine vl_eff (eff_alloc_z (zv := (.slice none 0 0)) (by kernel_rfl) rfl) rfl ?_
  rintro _ _ ⟨g4, rfl, rfl⟩
  refine vl_end [(0, _), (3, _), (4, _)] ⟨rfl, rfl, rfl, trivial⟩ ?_
  refine then_next ?_
  refine vc_seq ?_
  refine vc_region ?_
  refine vl_det (det_makeFunc rfl rfl) rfl ?_
  refine vl_det (det_assign rfl) rfl ?_
  refine vl_end [(0, _), (4, _), (5, _)] ⟨rfl, rfl, rfl, trivial⟩ ?_
  refine then_next ?_
  refine vc_seq ?_
  refine vc_seq ?_
  refine vc_nil_row 5 1 none ?_
  refine vc_region ?_
  refine vl_det (det_move rfl) rfl ?_
  refine vl_det (det_len_s Try.underlying9 rfl) rfl ?_
  refine vl_det (det_move rfl) rfl ?_
  refine vl_end [(0, _), (4, _), (5, _), (11, _), (12, _)] ⟨rfl, rfl, rfl, rfl, rfl, trivial⟩ ?_
  refine then_next ?_
  refine vc_block ?_
  refine vc_loopJ (fun zf zL zm => ∃ (k : Nat) (W : List Txt) (R : List UInt8) (A : Option Addr) (c : Nat) (A3 : Option Addr) (c3 : Nat), (k ≤ l.length ∧ wst (l.take k) = (W, R)) ∧ l.length - k = zm ∧ Sub zf [(0, .string ⟨l.toArray⟩), (4, .pointer (some ⟨g4, 0, none⟩)), (5, .func (.func 70) #[] [.pointer (some ⟨g4, 0, none⟩), .pointer (some ⟨g3, 0, none⟩)].toArray), (11, .int .i64 l.length), (12, .int .i64 k)] ∧ Wk zL (RowP g4 A c R (.blk g3 93 [.func (.func ff) #[] [.pointer (some ⟨ho, 0, none⟩)].toArray] :: ColP ho A3 c3 (ws ++ W.map f) F))) _ ⟨0, [], [], none, 0, A2, c2, ⟨Nat.zero_le _, rfl⟩, rfl, ⟨(by first | rfl | exact int_to (by omega) | exact sl_to (by omega)), (by first | rfl | exact int_to (by omega) | exact sl_to (by omega)), (by first | rfl | exact int_to (by omega) | exact sl_to (by omega)), (by first | rfl | exact int_to (by omega) | exact sl_to (by omega)), (by first | rfl | exact int_to (by omega) | exact sl_to (by omega)), trivial⟩, .swap (.cons (.cons (.cons (wk_blk (by simp) (wk_own (by simp) (by simp) (.refl _))))))⟩ ?_
  rintro _ _ _ ⟨k, W, R, A, c, A3, c3, ⟨hk, hW⟩, rfl, hs, hp⟩
  refine vc_weaken _ hs (vc_wk hp ?_)
  clear hs hp
  refine vc_seq ?_
  refine vc_region ?_
  refine vl_det (det_lss rfl rfl) rfl ?_
  refine vl_end [(0, _), (4, _), (5, _), (11, _), (12, _), (13, _)] ⟨rfl, rfl, rfl, rfl, rfl, rfl, trivial⟩ ?_
  refine then_next ?_
  refine vc_seq ?_
  refine vc_decideU rfl (fun h13 => ?_) (fun h13 => ?_)
  · skip
    have hwl := wst_len (l.take k)
    rw [hW, List.length_take] at hwl
    simp only at hwl
    have hel := emit_len R
    have hsn : wst (l.take (k + 1)) = wstep (W, R) (l.getD k 0) := by
      rw [List.take_add_one, List.getElem?_eq_getElem (show k < l.length by omega), ← hW, ← wst_snoc]
      simp [List.getD, List.getElem?_eq_getElem (show k < l.length by omega)]
    refine vc_skip ?_
    refine then_next ?_
    refine vc_seq ?_
    refine vc_block ?_
    refine vc_seq ?_
    refine vc_region ?_
    refine vl_det (det_move rfl) rfl ?_
    refine vl_det (det_assign rfl) rfl ?_
    refine vl_end [(0, _), (4, _), (5, _), (6, _), (11, _), (12, _)] ⟨rfl, rfl, rfl, rfl, rfl, rfl, trivial⟩ ?_
    refine then_next ?_
    refine vc_seq ?_
    refine vc_seq ?_
    refine vc_region ?_
    refine vl_det (det_move rfl) rfl ?_
    refine vl_det (det_move rfl) rfl ?_
    refine vl_det (det_at_str Try.underlying9 rfl rfl rfl (by omega)) rfl ?_
    refine vl_call co71 rfl (letter_d (l.getD k 0)) rfl ?_
    rintro _ _ ⟨rfl, hLL⟩
    obtain rfl := hLL.symm
    refine vl_det (det_move rfl) rfl ?_
    refine vl_det (det_extract rfl rfl) rfl ?_
    refine vl_det (det_extract rfl rfl) rfl ?_
    refine vl_det (det_assign rfl) rfl ?_
    refine vl_det (det_assign rfl) rfl ?_
    refine vl_end [(0, _), (4, _), (5, _), (7, _), (8, _), (11, _), (12, _)] ⟨rfl, rfl, rfl, rfl, rfl, rfl, rfl, trivial⟩ ?_
    refine then_next ?_
    refine vc_seq ?_
    refine vc_region ?_
    refine vl_det (det_move rfl) rfl ?_
    refine vl_end [(0, _), (4, _), (5, _), (7, _), (11, _), (12, _), (22, _)] ⟨rfl, rfl, rfl, rfl, rfl, rfl, rfl, trivial⟩ ?_
    refine then_next ?_
    refine vc_decideU rfl (fun h22 => ?_) (fun h22 => ?_)
    · skip
      refine vc_seq ?_
      refine vc_region ?_
      refine vl_det (det_load_blk (by kernel_rfl) rfl (by repeat (first | exact .hd | apply Sel.tl)) rfl) rfl ?_
      refine vl_det (det_move rfl) rfl ?_
      refine vl_push slT108 rfl rfl rfl rfl rfl (fun _ => rfl) (by repeat (first | exact .hd | apply Sel.tl)) (by omega) (by omega) ?_
      intro _ A26 c26
      refine vl_eff0 (eff_store (by kernel_rfl) rfl rfl rfl (by repeat (first | exact .hd | apply Sel.tl)) (by simp)) ?_
      rintro _ _ rfl
      refine vl_end [(0, _), (4, _), (5, _), (11, _), (12, _)] ⟨rfl, rfl, rfl, rfl, rfl, trivial⟩ ?_
      refine then_next ?_
      refine vc_exit ?_
      refine then_exit ?_
      refine in_eq ?_
      refine then_next ?_
      refine vc_region ?_
      refine vl_det (det_add rfl rfl (w_i64 (by omega) (by omega))) rfl ?_
      refine vl_det (det_move rfl) rfl ?_
      refine vl_end [(0, _), (4, _), (5, _), (11, _), (12, _)] ⟨rfl, rfl, rfl, rfl, rfl, trivial⟩ ?_
      have hel2 : R.length + 1 = (R ++ [small (l.getD k 0)]).length := by simp
      refine in_loop_ ⟨_, by omega, k + 1, W, R ++ [small (l.getD k 0)], A26, c26, A3, c3, ⟨by omega, by rw [hsn, wstep_yes h22]⟩, rfl, ⟨(by first | rfl | exact int_to (by omega) | exact sl_to (by omega)), (by first | rfl | exact int_to (by omega) | exact sl_to (by omega)), (by first | rfl | exact int_to (by omega) | exact sl_to (by omega)), (by first | rfl | exact int_to (by omega) | exact sl_to (by omega)), (by first | rfl | exact int_to (by omega) | exact sl_to (by omega)), trivial⟩, wk_blk (by rw [hel2]; rfl) (wk_own hel2 (by simp [bv]) (.refl _))⟩
    · skip
      refine vc_skip ?_
      refine then_next ?_
      refine vc_region ?_
      refine vl_det (det_move rfl) rfl ?_
      refine vl_callv co70 rfl rfl (tell_d hcal hword (by simp; omega) (by omega)) rfl ?_
      rintro _ _ ⟨rfl, A28, c28, hLL⟩
      obtain rfl := hLL.symm
      refine vl_end [(0, _), (4, _), (5, _), (11, _), (12, _)] ⟨rfl, rfl, rfl, rfl, rfl, trivial⟩ ?_
      refine in_normal ?_
      refine then_next ?_
      refine vc_region ?_
      refine vl_det (det_add rfl rfl (w_i64 (by omega) (by omega))) rfl ?_
      refine vl_det (det_move rfl) rfl ?_
      refine vl_end [(0, _), (4, _), (5, _), (11, _), (12, _)] ⟨rfl, rfl, rfl, rfl, rfl, trivial⟩ ?_
      refine in_loop_ ⟨_, by omega, k + 1, W ++ emit R, [], A, c, A28, c28, ⟨by omega, by rw [hsn, wstep_no (Classical.not_not.1 h22)]⟩, rfl, ⟨(by first | rfl | exact int_to (by omega) | exact sl_to (by omega)), (by first | rfl | exact int_to (by omega) | exact sl_to (by omega)), (by first | rfl | exact int_to (by omega) | exact sl_to (by omega)), (by first | rfl | exact int_to (by omega) | exact sl_to (by omega)), (by first | rfl | exact int_to (by omega) | exact sl_to (by omega)), trivial⟩, .cons (.cons (.cons (wk_blk (by simp) (wk_own (by simp) (by simp) (.refl _)))))⟩
  · skip
    obtain rfl : k = l.length := by omega
    rw [List.take_length] at hW
    have hwl := wst_len l
    rw [hW] at hwl
    simp only at hwl
    have hwd : wordsL l = W ++ emit R := by unfold wordsL; rw [hW]
    refine vc_exit ?_
    refine then_exit ?_
    refine loop_exit ?_
    refine in_eq ?_
    refine then_next ?_
    refine vc_region ?_
    refine vl_det (det_move rfl) rfl ?_
    refine vl_callv co70 rfl rfl (tell_d hcal hword (by simp; omega) (by omega)) rfl ?_
    rintro _ _ ⟨rfl, A31, c31, hLL⟩
    obtain rfl := hLL.symm
    refine vl_end [] trivial ?_
    refine ret_n ?_
    refine ret_wk (L' := ColP ho A31 c31 (ws ++ W.map f ++ (emit R).map f) F) (.skip (.skip (.skip (.refl _)))) ?_
    refine ret0 rfl ?_
    exact ⟨rfl, A31, c31, by rw [hwd]; simp⟩
theorem collects1 {ho : Nat} : Collects B w0 51 ho (fun t => t) := by
  intro F t ws A c ht hws
  refine fn_walk Try.func51 7 rfl rfl rfl [(0, .string ⟨t.toArray⟩), (1, .pointer (some ⟨ho, 0, none⟩))] ⟨⟨rfl, rfl⟩, ⟨rfl, rfl⟩, trivial⟩ ?_
  refine vc_region ?_
  refine vl_det (det_load_blk (by kernel_rfl) rfl (by repeat (first | exact .hd | apply Sel.tl)) rfl) rfl ?_
  refine vl_det (det_move rfl) rfl ?_
  refine vl_push slT39 rfl rfl rfl rfl rfl (fun _ => rfl) (by repeat (first | exact .hd | apply Sel.tl)) (by omega) (by omega) ?_
  intro _ A6 c6
  refine vl_eff0 (eff_store (by kernel_rfl) rfl rfl rfl (by repeat (first | exact .hd | apply Sel.tl)) (by simp)) ?_
  rintro _ _ rfl
  refine vl_end [] trivial ?_
  refine ret_n ?_
  have hel : ws.length + 1 = (ws ++ [t]).length := by simp
  refine ret_wk (L' := ColP ho A6 c6 (ws ++ [t]) F) (wk_blk (by rw [hel]; rfl) (wk_own hel (by simp [strs]) (.refl _))) ?_
  refine ret0 rfl ?_
  exact ⟨rfl, A6, c6, rfl⟩
theorem collects2 {ho : Nat} : Collects B w0 52 ho (fun t => 64 :: t) := by
  intro F t ws A c ht hws
  refine fn_walk Try.func52 8 rfl rfl rfl [(0, .string ⟨t.toArray⟩), (1, .pointer (some ⟨ho, 0, none⟩))] ⟨⟨rfl, rfl⟩, ⟨rfl, rfl⟩, trivial⟩ ?_
  refine vc_region ?_
  refine vl_det (det_load_blk (by kernel_rfl) rfl (by repeat (first | exact .hd | apply Sel.tl)) rfl) rfl ?_
  refine vl_det (det_move rfl) rfl ?_
  refine vl_det (det_s_add (s := [64]) (r := t) rfl rfl (by simp only [List.length_cons, List.length_nil]; omega)) rfl ?_
  refine vl_push slT39 rfl rfl rfl rfl rfl (fun _ => rfl) (by repeat (first | exact .hd | apply Sel.tl)) (by omega) (by omega) ?_
  intro _ A7 c7
  refine vl_eff0 (eff_store (by kernel_rfl) rfl rfl rfl (by repeat (first | exact .hd | apply Sel.tl)) (by simp)) ?_
  rintro _ _ rfl
  refine vl_end [] trivial ?_
  refine ret_n ?_
  have hel : ws.length + 1 = (ws ++ [64 :: t]).length := by simp
  refine ret_wk (L' := ColP ho A7 c7 (ws ++ [64 :: t]) F) (wk_blk (by rw [hel]; rfl) (wk_own hel (by simp [strs]) (.refl _))) ?_
  refine ret0 rfl ?_
  exact ⟨rfl, A7, c7, rfl⟩
theorem terms_d {a b : Value} (txt src : List UInt8) (h1 : txt.length ≤ 100000000000) (h2 : src.length ≤ 100000000000) :
    Does Try.prog B w0 36 [.agg #[a, b, .string ⟨src.toArray⟩, .string ⟨txt.toArray⟩]] F (fun r L => ∃ A c, r = .slice A (termsL txt src).length c ∧ L = .own 9 1 A (termsL txt src).length c (strs (termsL txt src)) :: F) := by
  have hrl := rawT_len txt src
  have hw1 := wordsL_len txt
  refine fn_walk Try.func36 16 rfl rfl rfl [(0, .agg #[a, b, .string ⟨src.toArray⟩, .string ⟨txt.toArray⟩])] ⟨⟨rfl, rfl⟩, trivial⟩ ?_
  refine vc_seq ?_
  refine vc_region ?_
  refine vl_eff (eff_box rfl rfl) rfl ?_
  rintro _ _ ⟨g1, rfl, rfl⟩
  refine vl_det (det_assign rfl) rfl ?_
  refine vl_end [(1, _)] ⟨rfl, trivial⟩ ?_
  refine then_next ?_
  refine vc_seq ?_
  refine vc_region ?_
  refine vl_eff (eff_alloc_z (zv := (.slice none 0 0)) (by kernel_rfl) rfl) rfl ?_
  rintro _ _ ⟨g3, rfl, rfl⟩
  refine vl_end [(1, _), (3, _)] ⟨rfl, rfl, trivial⟩ ?_
  refine then_next ?_
  refine vc_seq ?_
  refine vc_nil_row 9 1 none ?_
  refine vc_region ?_
  refine vl_det (det_fieldAddr_ Try.underlying45 rfl (by kernel_rfl) rfl rfl) rfl ?_
  refine vl_det (det_load_blk (by kernel_rfl) rfl (by repeat (first | exact .hd | apply Sel.tl)) rfl) rfl ?_
  refine vl_det (det_makeFunc rfl rfl) rfl ?_
  refine vl_call co50 rfl ((split_d co51 collects1 txt (ws := []) (by simp) (by omega)).perm ((pu1 (pu0 (pu0 (.refl _)))))) rfl ?_
  rintro _ _ ⟨rfl, A7, c7, hLL⟩
  obtain rfl := hLL.symm
  refine vl_end [(1, _), (3, _)] ⟨rfl, rfl, trivial⟩ ?_
  refine then_next ?_
  refine vc_seq ?_
  refine vc_region ?_
  refine vl_det (det_fieldAddr_ Try.underlying45 rfl (by kernel_rfl) rfl rfl) rfl ?_
  refine vl_det (det_load_blk (by kernel_rfl) rfl (by repeat (first | exact .hd | apply Sel.tl)) rfl) rfl ?_
  refine vl_det (det_makeFunc rfl rfl) rfl ?_
  refine vl_call co50 rfl (split_d co52 collects2 src (by simp; omega) (by omega)) rfl ?_
  rintro _ _ ⟨rfl, A11, c11, hLL⟩
  obtain rfl := hLL.symm
  have e : ([] ++ List.map (fun t => t) (wordsL txt)) ++ List.map (fun t => 64 :: t) (wordsL src) = rawT txt src := by simp [rawT]
  rw [e]
  refine vl_end [(3, _)] ⟨rfl, trivial⟩ ?_
  refine then_next ?_
  refine vc_seq ?_
  refine vc_region ?_
  refine vl_det (det_load_blk (by kernel_rfl) rfl (by repeat (first | exact .hd | apply Sel.tl)) rfl) rfl ?_
  refine vl_call co33 rfl ((sort_d (l := rawT txt src) (by omega)).perm ((pu1 (pu0 (pu0 (.refl _)))))) rfl ?_
  rintro _ _ ⟨rfl, hLL⟩
  obtain rfl := hLL.symm
  rw [show (rawT txt src).length = ((rawT txt src).mergeSort leS).length from (List.length_mergeSort _).symm]
  refine vl_end [(3, _)] ⟨rfl, trivial⟩ ?_
  refine then_next ?_
  refine vc_seq ?_
  refine vc_region ?_
  refine vl_det (det_load_blk (by kernel_rfl) rfl (by repeat (first | exact .hd | apply Sel.tl)) rfl) rfl ?_
  refine vl_call co34 rfl (compact_d (l := (rawT txt src).mergeSort leS) (by rw [List.length_mergeSort]; omega)) rfl ?_
  rintro _ _ ⟨rfl, hLL⟩
  obtain rfl := hLL.symm
  refine vl_det (det_assign rfl) rfl ?_
  refine vl_end [(2, _)] ⟨rfl, trivial⟩ ?_
  refine then_next ?_
  refine vc_ret ?_
  refine ret_wk (L' := .own 9 1 A11 (termsL txt src).length c11 (strs (termsL txt src)) :: F) (.cons (.skip (.skip (.refl _)))) ?_
  refine ret1 rfl rfl ?_
  exact ⟨A11, c11, rfl, rfl⟩
end Go.Proofs.Ytakokckokchacaa
