/-
  ef.Read on what was written, and what was read written; the reference's Next; Same of numbers. Condition: bounds to 20000.
-/
import Derived.Test.YtpgmokfhcdibhaaEfB
namespace Go.Proofs.Ytpgmokfhcdibhaa
open Go.RowKit
set_option linter.unusedVariables false
set_option maxRecDepth 20000
variable {B : Nat} {w0 : World} {F : List Ch} {A A1 A2 : Option Addr} {n c c1 c2 g : Nat}
theorem efRd_back {bound : Nat} {xs : List Nat} (hR : RisN bound xs) (hb : bound ≤ 20000) (more : List UInt8) : efRd (bound : Int) (efB bound xs ++ more) = (xs, (efB bound xs).length, 0) := by
  have hlen := hR.len
  obtain ⟨tl, htl⟩ : ∃ tl, tl = (if xs.length = 0 then [] else packed (efQ (2 ^ wid bound xs.length) (wid bound xs.length) xs)) := ⟨_, rfl⟩
  have hB : efB bound xs = encN xs.length ++ tl := by rw [efB, ← htl]
  obtain ⟨b, hbb⟩ : ∃ b, b = encN xs.length ++ (tl ++ more) := ⟨_, rfl⟩
  have hbe : efB bound xs ++ more = b := by rw [hB, hbb, List.append_assoc]
  have hs : scanS b = (xs.length, (encN xs.length).length, 0) := by rw [hbb]; exact scanS_back _ (by omega) _
  have hl : limS b (bound : Int) = (xs.length, (encN xs.length).length, 0) := by
    unfold limS
    rw [hs, if_neg (by simp), if_neg (by simp only; omega)]
  have hC : rdC (bound : Int) b = ⟨b, (encN xs.length).length, 0⟩ := by
    unfold rdC Cs.int' Cs.rest
    simp only [List.drop_zero]
    rw [hl]
    simp [Cs.moved]
  have hN : rdN (bound : Int) b = xs.length := by
    unfold rdN Cs.int Cs.rest
    simp only [List.drop_zero]
    rw [hl]
    simp
  rw [hbe]
  by_cases h0 : xs.length = 0
  · rw [efRd_c (by omega) (by rw [hC]; simp) (by rw [hN]; exact h0), hC, List.length_eq_zero_iff.1 h0]
    rw [if_pos h0] at htl
    have : efB bound [] = encN 0 ++ [] := by simp [efB]
    rw [this]
    simp
  · have hRR : rdR (bound : Int) b = (xs, tl.length, 0) := by
      unfold rdR
      rw [hN, hC]
      simp only [Int.toNat_natCast]
      rw [if_neg h0] at htl
      rw [show b.drop (encN xs.length).length = tl ++ more by rw [hbb]; exact List.drop_left' rfl, htl]
      exact efRow_back hR more (by omega)
    rw [efRd_e (by omega) (by rw [hC]; simp) (by rw [hN]; exact h0) (by rw [hRR]; simp), hRR, hC, hB]
    simp
theorem efRd_one {bound : Int} {b : List UInt8} (hbd : bound ≤ 9223372036854775807) (h : (efRd bound b).2.2 = 0) :
    ∃ bn : Nat, bound = (bn : Int) ∧ bn ≤ 20000 ∧ RisN bn (efRd bound b).1 ∧ efB bn (efRd bound b).1 = b.take (efRd bound b).2.1 ∧ (efRd bound b).2.1 ≤ b.length := by
  by_cases h1 : bound < 0 ∨ 20000 < bound
  · rw [efRd_a h1] at h; simp at h
  · obtain ⟨bn, rfl⟩ := Int.eq_ofNat_of_zero_le (show 0 ≤ bound by omega)
    refine ⟨bn, rfl, by omega, ?_⟩
    by_cases h2 : (rdC bn b).e = 0
    · have hl : (limS b (bn : Int)).2.2 = 0 := by
        unfold rdC Cs.int' Cs.rest at h2
        simp only [List.drop_zero] at h2
        by_cases hh : (limS b (bn : Int)).2.2 = 0
        · exact hh
        · simp [Cs.moved, hh] at h2
      have hsc : (scanS b).2.2 = 0 ∧ limS b (bn : Int) = ((scanS b).1, (scanS b).2.1, 0) := by
        unfold limS at hl ⊢
        split at hl
        · rename_i hh; exact absurd hl hh
        · rename_i hh
          split at hl
          · simp at hl
          · rename_i h3
            rw [if_neg hh, if_neg h3]
            exact ⟨by simpa using hh, rfl⟩
      have henc := scanS_enc hsc.1
      have hle := (scanS_facts b).2.1
      have hC : rdC (bn : Int) b = ⟨b, (scanS b).2.1, 0⟩ := by
        unfold rdC Cs.int' Cs.rest
        simp only [List.drop_zero]
        rw [hsc.2]
        simp [Cs.moved]
      have hN : rdN (bn : Int) b = (scanS b).1 := by
        unfold rdN Cs.int Cs.rest
        simp only [List.drop_zero]
        rw [hsc.2]
        simp
      by_cases h3 : rdN bn b = 0
      · rw [efRd_c h1 (by simpa using h2) h3, hC]
        refine ⟨fun i hi => absurd hi (by simp), ?_, hle⟩
        rw [hN] at h3
        rw [h3] at henc
        simp only
        rw [← henc]
        simp [efB]
      · by_cases h4 : (rdR bn b).2.2 = 0
        · rw [efRd_e h1 (by simpa using h2) h3 (by simpa using h4)]
          have hR : rdR bn b = efRow bn (scanS b).1 (b.drop (scanS b).2.1) := by unfold rdR; rw [hN, hC, Int.toNat_natCast]
          rw [hR] at h4
          obtain ⟨e1, e2, e3⟩ := efRow_one h4
          have e4 := efRow_len bn (scanS b).1 (b.drop (scanS b).2.1)
          rw [List.length_drop] at e4
          rw [hN] at h3
          simp only
          rw [hC, hR]
          refine ⟨e2, ?_, by simp only; omega⟩
          rw [efB, e1, if_neg h3, e3, henc]
          simp only
          rw [List.take_add]
        · rw [efRd_d h1 (by simpa using h2) h3 (by simpa using h4)] at h
          exact absurd h h4
    · rw [efRd_b h1 h2] at h; exact absurd h h2
theorem efB_len {bound : Nat} {xs : List Nat} (h : RisN bound xs) (hb : bound ≤ 20000) : (efB bound xs).length ≤ 50011 := by
  have h1 := h.len
  have h2 := encL_len (n := xs.length) (by omega)
  have h3 := efQ_len (p := 2 ^ wid bound xs.length) (w := wid bound xs.length) h hb (wid_le hb)
  unfold efB
  rw [List.length_append]
  split
  · simp only [List.length_nil]; omega
  · rw [packed_length]; omega
theorem RisN.le {bound : Nat} {xs : List Nat} (h : RisN bound xs) (hb : bound ≤ 20000) : ∀ i, i < xs.length → xs.getD i 0 ≤ 1000000 := fun i hi => by have := (h i hi).1; omega
theorem efread_ok {bound t : Nat} {xs : List Nat} {b : List UInt8} (hb : Bor B w0 F 1 (.slice A b.length c) b.length (bv b)) (hbl : b.length ≤ 100000) (hbd : bound ≤ 20000) (he : efRd bound b = (xs, t, 0)) :
    Does Try.prog B w0 17 [.int .i64 bound, .slice A b.length c] F (fun r L => ∃ w p g A1 c1 A2 c2, p = 2 ^ w ∧ w ≤ 14 ∧ r = .tuple #[.pointer (some ⟨g, 0, none⟩), .int .i64 t, .int .i64 0] ∧ L = Rl g w p A1 c1 A2 c2 xs F) :=
  (efread_d hb hbl (by omega) (by omega)).mono fun r L h => by
    unfold ReadR at h
    rw [he] at h
    rcases h with ⟨h, _⟩ | ⟨_, h⟩
    · exact absurd rfl h
    · exact h
theorem natv_inj {l l2 : List Nat} (h : natv l = natv l2) : l = l2 := by
  have : ∀ {a b : Nat}, (Value.int .i64 (a : Int)) = .int .i64 b → a = b := fun h => by injection h with _ h; exact Int.ofNat_inj.1 h
  induction l generalizing l2 with
  | nil => cases l2 with
    | nil => rfl
    | cons y r => simp [natv] at h
  | cons x r ih => cases l2 with
    | nil => simp [natv] at h
    | cons y r2 =>
      simp only [natv, List.map_cons, List.cons.injEq] at h
      rw [this h.1, ih (by exact h.2)]
theorem same9_d {l l2 : List Nat} (h1 : Bor B w0 F 1 (.slice A l.length c) l.length (natv l)) (h2 : Bor B w0 F 1 (.slice A2 l2.length c2) l2.length (natv l2)) (hl : l.length ≤ 1000000000) :
    Does Try.prog B w0 18 [.slice A l.length c, .slice A2 l2.length c2] F (fun r L => r = .bool (decide (l = l2)) ∧ L = F) := by
  refine fn_walk Try.func18 26 rfl rfl rfl [(0, .slice A l.length c), (1, .slice A2 l2.length c2)] ⟨⟨rfl, rfl⟩, ⟨rfl, rfl⟩, trivial⟩ ?_
  refine vc_seq ?_
  refine vc_region ?_
  refine vl_det (det_assign rfl) rfl ?_
  refine vl_end [(0, _), (1, _)] ⟨rfl, rfl, trivial⟩ ?_
  refine then_next ?_
  refine vc_seq ?_
  refine vc_seq ?_
  refine vc_region ?_
  refine vl_det (det_move rfl) rfl ?_
  refine vl_det (det_len_sl Try.underlying22 rfl) rfl ?_
  refine vl_det (det_move rfl) rfl ?_
  refine vl_det (det_len_sl Try.underlying22 rfl) rfl ?_
  refine vl_det (det_neq rfl rfl) rfl ?_
  refine vl_end [(0, _), (1, _), (10, _)] ⟨rfl, rfl, rfl, trivial⟩ ?_
  refine then_next ?_
  refine vc_decideU rfl (fun h10 => ?_) (fun h10 => ?_)
  · skip
    refine vc_seq ?_
    refine vc_region ?_
    refine vl_det (det_assign rfl) rfl ?_
    refine vl_end [(4, _)] ⟨rfl, trivial⟩ ?_
    refine then_next ?_
    refine vc_ret ?_
    refine then_ret ?_
    refine ret1 rfl rfl ?_
    exact ⟨by rw [decide_eq_false (fun h => by rw [h] at h10; exact h10 rfl)], rfl⟩
  · skip
    refine vc_skip ?_
    refine then_next ?_
    refine vc_seq ?_
    refine vc_seq ?_
    refine vc_region ?_
    refine vl_det (det_assign rfl) rfl ?_
    refine vl_end [(0, _), (1, _), (5, _)] ⟨rfl, rfl, rfl, trivial⟩ ?_
    refine then_next ?_
    refine vc_block ?_
    refine vc_loopJ (fun zf zL zm => ∃ (k : Nat), (k ≤ l.length ∧ l.take k = l2.take k) ∧ l.length - k = zm ∧ Sub zf [(0, .slice A l.length c), (1, .slice A2 l2.length c2), (5, .int .i64 k)] ∧ Wk zL (F)) _ ⟨0, ⟨Nat.zero_le _, rfl⟩, rfl, ⟨(by first | rfl | exact int_to (by omega) | exact sl_to (by omega)), (by first | rfl | exact int_to (by omega) | exact sl_to (by omega)), (by first | rfl | exact int_to (by omega) | exact sl_to (by omega)), trivial⟩, .refl _⟩ ?_
    rintro _ _ _ ⟨k, ⟨hk, heq⟩, rfl, hs, hp⟩
    refine vc_weaken _ hs (vc_wk hp ?_)
    clear hs hp
    refine vc_seq ?_
    refine vc_seq ?_
    refine vc_region ?_
    refine vl_det (det_move rfl) rfl ?_
    refine vl_det (det_move rfl) rfl ?_
    refine vl_det (det_len_sl Try.underlying22 rfl) rfl ?_
    refine vl_det (det_lss rfl rfl) rfl ?_
    refine vl_end [(0, _), (1, _), (5, _), (14, _)] ⟨rfl, rfl, rfl, rfl, trivial⟩ ?_
    refine then_next ?_
    refine vc_decideU rfl (fun h14 => ?_) (fun h14 => ?_)
    · skip
      refine vc_skip ?_
      refine then_next ?_
      refine vc_seq ?_
      refine vc_block ?_
      refine vc_seq ?_
      refine vq_region (by kernel_rfl) (by kernel_rfl) ?_
      refine vq_det (det_move rfl) rfl ?_
      refine vq_det (det_move rfl) rfl ?_
      refine vq_det (det_indexAddr (size := 1) Try.underlying22 (by kernel_rfl) rfl rfl rfl (by omega) (by first | (exact Bor.own (by repeat (first | exact List.Mem.head _ | apply List.Mem.tail))) | (repeat (first | assumption | apply Bor.cons)))) rfl ?_
      refine vq_det (det_load_row (v := .int .i64 (l.getD k 0 : Nat)) (by kernel_rfl) rfl (by first | (exact Bor.own (by repeat (first | exact List.Mem.head _ | apply List.Mem.tail))) | (repeat (first | assumption | apply Bor.cons))) (by omega) (by simp [natv, List.getD, List.getElem?_eq_getElem (show k < l.length by omega)])) rfl ?_
      refine vq_det (det_move rfl) rfl ?_
      refine vq_det (det_move rfl) rfl ?_
      refine vq_det (det_indexAddr (size := 1) Try.underlying22 (by kernel_rfl) rfl rfl rfl (by omega) (by first | (exact Bor.own (by repeat (first | exact List.Mem.head _ | apply List.Mem.tail))) | (repeat (first | assumption | apply Bor.cons)))) rfl ?_
      refine vq_det (det_load_row (v := .int .i64 (l2.getD k 0 : Nat)) (by kernel_rfl) rfl (by first | (exact Bor.own (by repeat (first | exact List.Mem.head _ | apply List.Mem.tail))) | (repeat (first | assumption | apply Bor.cons))) (by omega) (by simp [natv, List.getD, List.getElem?_eq_getElem (show k < l2.length by omega)])) rfl ?_
      refine vq_det (det_neq rfl rfl) rfl ?_
      refine vq_end [(0, _), (1, _), (5, _), (25, _)] ⟨rfl, rfl, rfl, rfl, trivial⟩ ?_
      refine then_next ?_
      refine vc_decideU rfl (fun h25 => ?_) (fun h25 => ?_)
      · skip
        refine vc_seq ?_
        refine vc_region ?_
        refine vl_det (det_assign rfl) rfl ?_
        refine vl_end [(4, _)] ⟨rfl, trivial⟩ ?_
        refine then_next ?_
        refine vc_ret ?_
        refine in_ret ?_
        refine then_ret ?_
        refine loop_ret ?_
        refine in_ret ?_
        refine then_ret ?_
        refine ret1 rfl rfl ?_
        exact ⟨by rw [decide_eq_false (fun h => by rw [h] at h25; exact h25 rfl)], rfl⟩
      · skip
        refine vc_skip ?_
        refine in_normal ?_
        refine then_next ?_
        refine vc_region ?_
        refine vl_det (det_move rfl) rfl ?_
        refine vl_det (det_add rfl rfl (w_i64 (by omega) (by omega))) rfl ?_
        refine vl_det (det_assign rfl) rfl ?_
        refine vl_end [(0, _), (1, _), (5, _)] ⟨rfl, rfl, rfl, trivial⟩ ?_
        refine in_loop_ ⟨_, by omega, k + 1, ⟨by omega, by rw [take_getD (by omega) 0, take_getD (by omega) 0, heq, show l.getD k 0 = l2.getD k 0 by omega]⟩, rfl, ⟨(by first | rfl | exact int_to (by omega) | exact sl_to (by omega)), (by first | rfl | exact int_to (by omega) | exact sl_to (by omega)), (by first | rfl | exact int_to (by omega) | exact sl_to (by omega)), trivial⟩, .refl _⟩
    · skip
      refine vc_exit ?_
      refine then_exit ?_
      refine loop_exit ?_
      refine in_eq ?_
      refine then_next ?_
      refine vc_seq ?_
      refine vc_region ?_
      refine vl_det (det_assign rfl) rfl ?_
      refine vl_end [(4, _)] ⟨rfl, trivial⟩ ?_
      refine then_next ?_
      refine vc_ret ?_
      refine ret1 rfl rfl ?_
      have e : l = l2 := by
        have := heq
        rwa [List.take_of_length_le (by omega), List.take_of_length_le (by omega)] at this
      exact ⟨by rw [decide_eq_true e], rfl⟩
theorem rnext_d {xs : List Nat} (h1 : Bor B w0 F 1 (.slice A xs.length c) xs.length (natv xs)) (hl : xs.length ≤ 1000000000) {x : Int} {k : Nat} (hK : nxK xs x k) :
    Does Try.prog B w0 20 [.slice A xs.length c, .int .i64 x] F (fun r L => r = .tuple #[.int .i64 (if k < xs.length then k else 0 : Nat), .int .i64 (if k < xs.length then xs.getD k 0 else 0 : Nat), .bool (decide (k < xs.length))] ∧ L = F) := by
  obtain ⟨hk1, hk2, hk3⟩ := hK
  refine fn_walk Try.func20 25 rfl rfl rfl [(0, .slice A xs.length c), (1, .int .i64 x)] ⟨⟨rfl, rfl⟩, ⟨rfl, rfl⟩, trivial⟩ ?_
  refine vc_seq ?_
  refine vc_region ?_
  refine vl_det (det_assign rfl) rfl ?_
  refine vl_det (det_assign rfl) rfl ?_
  refine vl_det (det_assign rfl) rfl ?_
  refine vl_end [(0, _), (1, _)] ⟨rfl, rfl, trivial⟩ ?_
  refine then_next ?_
  refine vc_seq ?_
  refine vc_seq ?_
  refine vc_region ?_
  refine vl_det (det_assign rfl) rfl ?_
  refine vl_end [(0, _), (1, _), (7, _)] ⟨rfl, rfl, rfl, trivial⟩ ?_
  refine then_next ?_
  refine vc_block ?_
  refine vc_loopJ (fun zf zL zm => ∃ (i : Nat), (i ≤ xs.length ∧ i ≤ k) ∧ xs.length - i = zm ∧ Sub zf [(0, .slice A xs.length c), (1, .int .i64 x), (7, .int .i64 i)] ∧ Wk zL (F)) _ ⟨0, ⟨Nat.zero_le _, Nat.zero_le _⟩, rfl, ⟨(by first | rfl | exact int_to (by omega) | exact sl_to (by omega)), (by first | rfl | exact int_to (by omega) | exact sl_to (by omega)), (by first | rfl | exact int_to (by omega) | exact sl_to (by omega)), trivial⟩, .refl _⟩ ?_
  rintro _ _ _ ⟨i, ⟨hi, hik⟩, rfl, hs, hp⟩
  refine vc_weaken _ hs (vc_wk hp ?_)
  clear hs hp
  refine vc_seq ?_
  refine vc_seq ?_
  refine vc_region ?_
  refine vl_det (det_move rfl) rfl ?_
  refine vl_det (det_move rfl) rfl ?_
  refine vl_det (det_len_sl Try.underlying22 rfl) rfl ?_
  refine vl_det (det_lss rfl rfl) rfl ?_
  refine vl_end [(0, _), (1, _), (7, _), (11, _)] ⟨rfl, rfl, rfl, rfl, trivial⟩ ?_
  refine then_next ?_
  refine vc_decideU rfl (fun h11 => ?_) (fun h11 => ?_)
  · skip
    refine vc_skip ?_
    refine then_next ?_
    refine vc_seq ?_
    refine vc_block ?_
    refine vc_seq ?_
    refine vc_region ?_
    refine vl_det (det_move rfl) rfl ?_
    refine vl_det (det_move rfl) rfl ?_
    refine vl_det (det_indexAddr (size := 1) Try.underlying22 (by kernel_rfl) rfl rfl rfl (by omega) (by first | (exact Bor.own (by repeat (first | exact List.Mem.head _ | apply List.Mem.tail))) | (repeat (first | assumption | apply Bor.cons)))) rfl ?_
    refine vl_det (det_load_row (v := .int .i64 (xs.getD i 0 : Nat)) (by kernel_rfl) rfl (by first | (exact Bor.own (by repeat (first | exact List.Mem.head _ | apply List.Mem.tail))) | (repeat (first | assumption | apply Bor.cons))) (by omega) (by simp [natv, List.getD, List.getElem?_eq_getElem (show i < xs.length by omega)])) rfl ?_
    refine vl_det (det_move rfl) rfl ?_
    refine vl_det (det_geq rfl rfl) rfl ?_
    refine vl_end [(0, _), (1, _), (7, _), (19, _)] ⟨rfl, rfl, rfl, rfl, trivial⟩ ?_
    refine then_next ?_
    refine vc_decideU rfl (fun h19 => ?_) (fun h19 => ?_)
    · skip
      refine vc_seq ?_
      refine vq_region (by kernel_rfl) (by kernel_rfl) ?_
      refine vq_det (det_move rfl) rfl ?_
      refine vq_det (det_move rfl) rfl ?_
      refine vq_det (det_move rfl) rfl ?_
      refine vq_det (det_indexAddr (size := 1) Try.underlying22 (by kernel_rfl) rfl rfl rfl (by omega) (by first | (exact Bor.own (by repeat (first | exact List.Mem.head _ | apply List.Mem.tail))) | (repeat (first | assumption | apply Bor.cons)))) rfl ?_
      refine vq_det (det_load_row (v := .int .i64 (xs.getD i 0 : Nat)) (by kernel_rfl) rfl (by first | (exact Bor.own (by repeat (first | exact List.Mem.head _ | apply List.Mem.tail))) | (repeat (first | assumption | apply Bor.cons))) (by omega) (by simp [natv, List.getD, List.getElem?_eq_getElem (show i < xs.length by omega)])) rfl ?_
      refine vq_det (det_assign rfl) rfl ?_
      refine vq_det (det_assign rfl) rfl ?_
      refine vq_det (det_assign rfl) rfl ?_
      refine vq_end [(4, _), (5, _), (6, _)] ⟨rfl, rfl, rfl, trivial⟩ ?_
      refine then_next ?_
      refine vc_ret ?_
      refine in_ret ?_
      refine then_ret ?_
      refine loop_ret ?_
      refine in_ret ?_
      refine then_ret ?_
      refine ret3_ rfl rfl rfl rfl ?_
      have e : k = i := by
        by_cases e : i < k
        · exact absurd (hk2 i e) (by omega)
        · omega
      subst e
      exact ⟨by rw [if_pos (by omega), if_pos (by omega), decide_eq_true (by omega)], rfl⟩
    · skip
      refine vc_skip ?_
      refine in_normal ?_
      refine then_next ?_
      refine vc_region ?_
      refine vl_det (det_move rfl) rfl ?_
      refine vl_det (det_add rfl rfl (w_i64 (by omega) (by omega))) rfl ?_
      refine vl_det (det_assign rfl) rfl ?_
      refine vl_end [(0, _), (1, _), (7, _)] ⟨rfl, rfl, rfl, trivial⟩ ?_
      refine in_loop_ ⟨_, by omega, i + 1, ⟨by omega, by
        by_cases e : i < k
        · omega
        · exact absurd (hk3 i (by omega) (by omega)) h19⟩, rfl, ⟨(by first | rfl | exact int_to (by omega) | exact sl_to (by omega)), (by first | rfl | exact int_to (by omega) | exact sl_to (by omega)), (by first | rfl | exact int_to (by omega) | exact sl_to (by omega)), trivial⟩, .refl _⟩
  · skip
    refine vc_exit ?_
    refine then_exit ?_
    refine loop_exit ?_
    refine in_eq ?_
    refine then_next ?_
    refine vc_seq ?_
    refine vc_region ?_
    refine vl_det (det_assign rfl) rfl ?_
    refine vl_det (det_assign rfl) rfl ?_
    refine vl_det (det_assign rfl) rfl ?_
    refine vl_end [(4, _), (5, _), (6, _)] ⟨rfl, rfl, rfl, trivial⟩ ?_
    refine then_next ?_
    refine vc_ret ?_
    refine ret3_ rfl rfl rfl rfl ?_
    have e : ¬ k < xs.length := by omega
    exact ⟨by rw [if_neg e, if_neg e, decide_eq_false e]; rfl, rfl⟩
end Go.Proofs.Ytpgmokfhcdibhaa
