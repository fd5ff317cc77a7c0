/-
  canon.count, counts.weight, canon.Check, and the document's Kraft and Check. No condition.
-/
import Derived.Test.YtpdnohllbijonaaTypes
import Derived.Test.YtpdnohllbijonaaCanonPure
namespace Go.Proofs.Ytpdnohllbijonaa
open Go.RowKit
set_option linter.unusedVariables false
variable {B : Nat} {w0 : World} {F : List Ch} {A : Option Addr} {c : Nat}
theorem Fit.no {l : List UInt8} {k : Nat} (hk : k < l.length) (h : ¬ ((l.getD k 0).toNat ≤ 15)) : ¬ Fit l := fun hf => h (hf.2 _ (getD_mem hk 0))
def Le15 (l : List UInt8) : Prop := ∀ c ∈ l, c.toNat ≤ 15
theorem Le15.step {l : List UInt8} {k : Nat} (h : Le15 (l.take k)) (hk : k < l.length) (hs : (l.getD k 0).toNat ≤ 15) : Le15 (l.take (k + 1)) := by
  rw [take_getD hk 0]
  intro c hc
  rcases List.mem_append.1 hc with hc | hc
  · exact h c hc
  · simp only [List.mem_singleton] at hc; rw [hc]; exact hs
theorem Le15.nil_ : Le15 [] := by intro c h; cases h
theorem Le15.all {l : List UInt8} {k : Nat} (h : Le15 (l.take k)) (hk : ¬ k < l.length) : Le15 l := by rwa [List.take_of_length_le (by omega)] at h
theorem cnt_more {l : List UInt8} {k : Nat} (hk : k < l.length) (hc : (l.getD k 0).toNat < 16) : ints .i64 ((cntL (l.take k)).set (l.getD k 0).toNat ((cntL (l.take k)).getD (l.getD k 0).toNat 0 + 1)) = ints .i64 (cntL (l.take (k + 1))) := by
  rw [cnt_snoc hc, take_getD hk 0]
/-- what count yields -/
def CntR (l : List UInt8) (b : List Int) (ok : Bool) : Prop := Few b ∧ ok = decide (Fit l) ∧ (ok = true → b = cnt0 l)
theorem few_zero : Few (List.replicate 16 0) := cnt_nil ▸ few_cnt (by simp)
theorem pow_le15 {k : Nat} {x : Int} (h : 0 ≤ x ∧ x ≤ 300) : 0 ≤ x * 2 ^ (15 - k) ∧ x * 2 ^ (15 - k) ≤ 9830400 := by
  have h2 : (2 : Int) ^ (15 - k) ≤ 2 ^ 15 := by
    have : (2 : Nat) ^ (15 - k) ≤ 2 ^ 15 := Nat.pow_le_pow_right (by omega) (by omega)
    exact_mod_cast this
  have h3 : (0 : Int) < 2 ^ (15 - k) := Int.pow_pos (by omega)
  exact ⟨Int.mul_nonneg h.1 (by omega), by have := Int.mul_le_mul h.2 h2 (by omega) (by omega); omega⟩
theorem shl15 {k : Nat} {x : Int} (hk : k < 16) (h : 0 ≤ x * 2 ^ (15 - k) ∧ x * 2 ^ (15 - k) ≤ 9830400) : IntKind.i64.wrap (x * 2 ^ min (15 - (k : Int)).toNat IntKind.i64.bits) = x * 2 ^ (15 - k) := by
  have e : min (15 - (k : Int)).toNat IntKind.i64.bits = 15 - k := by
    have : (15 - (k : Int)).toNat = 15 - k := by omega
    rw [this]
    show min (15 - k) 64 = 15 - k
    omega
  rw [e]
  exact w_i64 (by omega) (by omega)
theorem count_d (l : List UInt8) (hb : Bor B w0 F 1 (.slice A l.length c) l.length (bv l)) : Does Try.prog B w0 30 [.slice A l.length c] F (fun r L => ∃ b ok, r = .tuple #[.agg (ints .i64 b).toArray, .bool ok] ∧ L = F ∧ CntR l b ok) := by
  refine fn_walk Try.func30 27 rfl rfl rfl [(0, .slice A l.length c)] ⟨⟨rfl, rfl⟩, trivial⟩ ?_
  refine vc_seq ?_
  refine vc_region ?_
  refine vl_eff (eff_alloc_z (zv := (.agg #[.int .i64 0, .int .i64 0, .int .i64 0, .int .i64 0, .int .i64 0, .int .i64 0, .int .i64 0, .int .i64 0, .int .i64 0, .int .i64 0, .int .i64 0, .int .i64 0, .int .i64 0, .int .i64 0, .int .i64 0, .int .i64 0])) (by kernel_rfl) rfl) rfl ?_
  rintro _ _ ⟨g2, rfl, rfl⟩
  refine vl_det (det_assign rfl) rfl ?_
  refine vl_end [(0, _), (2, _)] ⟨rfl, rfl, trivial⟩ ?_
  refine then_next ?_
  refine vc_seq ?_
  refine vc_seq ?_
  refine vc_region ?_
  refine vl_det (det_move rfl) rfl ?_
  refine vl_det (det_len_sl Try.underlying22 rfl) rfl ?_
  refine vl_det (det_gtr rfl rfl) rfl ?_
  refine vl_end [(0, _), (2, _), (8, _)] ⟨rfl, rfl, rfl, trivial⟩ ?_
  refine then_next ?_
  refine vc_decideU rfl (fun h8 => ?_) (fun h8 => ?_)
  · skip
    refine vc_seq ?_
    refine vc_region ?_
    refine vl_det (det_load_whole 16 (by kernel_rfl) rfl (by repeat (first | exact .hd | apply Sel.tl)) (by first | rfl | (simp; omega) | (simp [*]; done))) rfl ?_
    refine vl_eff0 (eff_store_whole 16 (by kernel_rfl) rfl rfl (by first | exact bv_one _ | exact strs_one _ | exact ints_one _ _ | (simp; done) | (simp [Value.oneCell']; done) | assumption) (by repeat (first | exact .hd | apply Sel.tl)) (by first | rfl | (simp; omega) | (simp [*]; done)) (by first | rfl | (simp; omega) | (simp [*]; done))) ?_
    rintro _ _ rfl
    refine vl_det (det_assign rfl) rfl ?_
    refine vl_end [(2, _), (3, _)] ⟨rfl, rfl, trivial⟩ ?_
    refine then_next ?_
    refine vc_ret ?_
    refine then_ret ?_
    refine ret_ct rfl rfl (by kernel_rfl) (by repeat (first | exact .hd | apply Sel.tl)) (by first | rfl | (simp; omega) | (simp [*]; done)) rfl (.skip (.refl _)) ?_
    refine ⟨List.replicate 16 0, false, rfl, rfl, few_zero, (decide_eq_false fun h => ?_).symm, fun h => by cases h⟩
    have := h.1; omega
  · skip
    refine vc_skip ?_
    refine then_next ?_
    refine vc_seq ?_
    refine vc_seq ?_
    refine vc_region ?_
    refine vl_det (det_move rfl) rfl ?_
    refine vl_det (det_len_sl Try.underlying22 rfl) rfl ?_
    refine vl_det (det_move rfl) rfl ?_
    refine vl_end [(2, _), (10, _), (11, _), (12, _)] ⟨rfl, rfl, rfl, rfl, trivial⟩ ?_
    refine then_next ?_
    refine vc_block ?_
    refine vc_loopJ (fun zf zL zm => ∃ (k : Nat), (k ≤ l.length ∧ Le15 (l.take k)) ∧ l.length - k = zm ∧ Sub zf [(2, .pointer (some ⟨g2, 0, none⟩)), (10, .slice A l.length c), (11, .int .i64 l.length), (12, .int .i64 k)] ∧ Wk zL (.blk g2 58 (ints .i64 (cntL (l.take k))) :: F)) _ ⟨0, ⟨Nat.zero_le _, Le15.nil_⟩, rfl, ⟨(by first | rfl | exact int_to (by omega)), (by first | rfl | exact int_to (by omega)), (by first | rfl | exact int_to (by omega)), (by first | rfl | exact int_to (by omega)), trivial⟩, wk_blk rfl (.refl _)⟩ ?_
    rintro _ _ _ ⟨k, ⟨hk, hL⟩, rfl, hs, hp⟩
    refine vc_weaken _ hs (vc_wk hp ?_)
    clear hs hp
    have hu := (l.getD k 0).toNat_lt
    have hf := few_cnt (l := l.take k) (by simp; omega)
    have hf1 := hf.1
    have hfb := hf.2 (l.getD k 0).toNat
    refine vc_seq ?_
    refine vc_region ?_
    refine vl_det (det_lss rfl rfl) rfl ?_
    refine vl_end [(2, _), (10, _), (11, _), (12, _), (13, _)] ⟨rfl, rfl, rfl, rfl, rfl, trivial⟩ ?_
    refine then_next ?_
    refine vc_seq ?_
    refine vc_decideU rfl (fun h13 => ?_) (fun h13 => ?_)
    · skip
      refine vc_skip ?_
      refine then_next ?_
      refine vc_seq ?_
      refine vc_block ?_
      refine vc_seq ?_
      refine vc_region ?_
      refine vl_det (det_indexAddr Try.underlying22 (by kernel_rfl) rfl rfl rfl (by omega) (by first | (exact Bor.own (by repeat (first | exact List.Mem.head _ | apply List.Mem.tail))) | (repeat (first | assumption | apply Bor.cons)))) rfl ?_
      refine vl_det (det_load_u8 (by kernel_rfl) rfl (by first | (exact Bor.own (by repeat (first | exact List.Mem.head _ | apply List.Mem.tail))) | (repeat (first | assumption | apply Bor.cons))) (by omega)) rfl ?_
      refine vl_det (det_assign rfl) rfl ?_
      refine vl_end [(2, _), (5, _), (10, _), (11, _), (12, _)] ⟨rfl, rfl, rfl, rfl, rfl, trivial⟩ ?_
      refine then_next ?_
      refine vc_seq ?_
      refine vc_seq ?_
      refine vc_region ?_
      refine vl_det (det_move rfl) rfl ?_
      refine vl_det (det_gtr rfl rfl) rfl ?_
      refine vl_end [(2, _), (5, _), (10, _), (11, _), (12, _), (17, _)] ⟨rfl, rfl, rfl, rfl, rfl, rfl, trivial⟩ ?_
      refine then_next ?_
      refine vc_decideU rfl (fun h17 => ?_) (fun h17 => ?_)
      · skip
        refine vc_seq ?_
        refine vc_region ?_
        refine vl_det (det_load_whole 16 (by kernel_rfl) rfl (by repeat (first | exact .hd | apply Sel.tl)) (by first | rfl | (simp; omega) | (simp [*]; done))) rfl ?_
        refine vl_eff0 (eff_store_whole 16 (by kernel_rfl) rfl rfl (by first | exact bv_one _ | exact strs_one _ | exact ints_one _ _ | (simp; done) | (simp [Value.oneCell']; done) | assumption) (by repeat (first | exact .hd | apply Sel.tl)) (by first | rfl | (simp; omega) | (simp [*]; done)) (by first | rfl | (simp; omega) | (simp [*]; done))) ?_
        rintro _ _ rfl
        refine vl_det (det_assign rfl) rfl ?_
        refine vl_end [(2, _), (3, _)] ⟨rfl, rfl, trivial⟩ ?_
        refine then_next ?_
        refine vc_ret ?_
        refine then_ret ?_
        refine in_ret ?_
        refine then_ret ?_
        refine loop_ret ?_
        refine in_ret ?_
        refine then_ret ?_
        refine ret_ct rfl rfl (by kernel_rfl) (by repeat (first | exact .hd | apply Sel.tl)) (by first | rfl | (simp; omega) | (simp [*]; done)) rfl (.skip (.refl _)) ?_
        refine ⟨_, false, rfl, rfl, hf, (decide_eq_false ?_).symm, fun h => by cases h⟩
        exact Fit.no (k := k) (by omega) (by omega)
      · skip
        refine vc_skip ?_
        refine then_next ?_
        refine vc_region ?_
        refine vl_det (det_move rfl) rfl ?_
        refine vl_det (det_indexAddr_arr (i := (l.getD k 0).toNat) Try.underlying58 (by kernel_rfl) rfl rfl rfl (by omega)) rfl ?_
        refine vl_det (det_load_arr (by kernel_rfl) rfl (by repeat (first | exact .hd | apply Sel.tl)) (by first | omega | (simp; omega))) rfl ?_
        refine vl_det (det_add rfl rfl (w_i64 (by omega) (by omega))) rfl ?_
        refine vl_det (det_indexAddr_arr (i := (l.getD k 0).toNat) Try.underlying58 (by kernel_rfl) rfl rfl rfl (by omega)) rfl ?_
        refine vl_eff0 (eff_store_arr (by kernel_rfl) rfl rfl (by repeat (first | exact .hd | apply Sel.tl)) (by first | omega | (simp; omega))) ?_
        rintro _ _ rfl
        refine vl_end [(2, _), (10, _), (11, _), (12, _)] ⟨rfl, rfl, rfl, rfl, trivial⟩ ?_
        refine in_normal ?_
        refine then_next ?_
        refine vc_region ?_
        refine vl_det (det_add rfl rfl (w_i64 (by omega) (by omega))) rfl ?_
        refine vl_det (det_move rfl) rfl ?_
        refine vl_end [(2, _), (10, _), (11, _), (12, _)] ⟨rfl, rfl, rfl, rfl, trivial⟩ ?_
        refine in_loop_ ⟨_, by omega, k + 1, ⟨by omega, hL.step (by omega) (by omega)⟩, rfl, ⟨(by first | rfl | exact int_to (by omega)), (by first | rfl | exact int_to (by omega)), (by first | rfl | exact int_to (by omega)), (by first | rfl | exact int_to (by omega)), trivial⟩, wk_blk (cnt_more (by omega) (by omega)) (.refl _)⟩
    · skip
      refine vc_exit ?_
      refine then_exit ?_
      refine loop_exit ?_
      refine in_eq ?_
      refine then_next ?_
      refine vc_seq ?_
      refine vc_region ?_
      refine vl_det (det_indexAddr_arr (i := 0) Try.underlying58 (by kernel_rfl) rfl rfl rfl (by omega)) rfl ?_
      refine vl_eff0 (eff_store_arr (by kernel_rfl) rfl rfl (by repeat (first | exact .hd | apply Sel.tl)) (by first | omega | (simp; omega))) ?_
      rintro _ _ rfl
      refine vl_end [(2, _)] ⟨rfl, trivial⟩ ?_
      refine then_next ?_
      refine vc_seq ?_
      refine vc_region ?_
      refine vl_det (det_load_whole 16 (by kernel_rfl) rfl (by repeat (first | exact .hd | apply Sel.tl)) (by first | rfl | (simp; omega) | (simp [*]; done))) rfl ?_
      refine vl_eff0 (eff_store_whole 16 (by kernel_rfl) rfl rfl (by first | exact bv_one _ | exact strs_one _ | exact ints_one _ _ | (simp; done) | (simp [Value.oneCell']; done) | assumption) (by repeat (first | exact .hd | apply Sel.tl)) (by first | rfl | (simp; omega) | (simp [*]; done)) (by first | rfl | (simp; omega) | (simp [*]; done))) ?_
      rintro _ _ rfl
      refine vl_det (det_assign rfl) rfl ?_
      refine vl_end [(2, _), (3, _)] ⟨rfl, rfl, trivial⟩ ?_
      refine then_next ?_
      refine vc_ret ?_
      refine ret_ct rfl rfl (by kernel_rfl) (by repeat (first | exact .hd | apply Sel.tl)) (by first | rfl | (simp; omega) | (simp [*]; done)) rfl (.skip (.refl _)) ?_
      have hL' := hL.all (by omega)
      refine ⟨_, true, rfl, rfl, few_set hf 0 (by omega), (decide_eq_true ⟨by omega, hL'⟩).symm, fun _ => ?_⟩
      rw [List.take_of_length_le (by omega)]; rfl
theorem weight_d (b : List Int) (hf : Few b) : Does Try.prog B w0 31 [.agg (ints .i64 b).toArray] F (fun r L => r = .tuple #[.int .i64 (sumW b 16), .int .i64 (cntW b 16)] ∧ L = F) := by
  have hb := hf.1
  refine fn_walk Try.func31 24 rfl rfl rfl [(0, .agg (ints .i64 b).toArray)] ⟨⟨rfl, rfl⟩, trivial⟩ ?_
  refine vc_seq ?_
  refine vc_region ?_
  refine vl_eff (eff_box rfl rfl) rfl ?_
  rintro _ _ ⟨g1, rfl, rfl⟩
  refine vl_det (det_assign rfl) rfl ?_
  refine vl_det (det_assign rfl) rfl ?_
  refine vl_end [(1, _), (2, _), (3, _)] ⟨rfl, rfl, rfl, trivial⟩ ?_
  refine then_next ?_
  refine vc_seq ?_
  refine vc_seq ?_
  refine vc_region ?_
  refine vl_det (det_assign rfl) rfl ?_
  refine vl_end [(1, _), (2, _), (3, _), (4, _)] ⟨rfl, rfl, rfl, rfl, trivial⟩ ?_
  refine then_next ?_
  refine vc_block ?_
  refine vc_loopJ (fun zf zL zm => ∃ (k : Nat), (1 ≤ k ∧ k ≤ 16) ∧ 16 - k = zm ∧ Sub zf [(1, .pointer (some ⟨g1, 0, none⟩)), (2, .int .i64 (sumW b k)), (3, .int .i64 (cntW b k)), (4, .int .i64 k)] ∧ Wk zL (.blk g1 58 (ints .i64 b) :: F)) _ ⟨1, ⟨by omega, by omega⟩, rfl, ⟨(by first | rfl | exact int_to (by omega)), (by first | rfl | exact int_to (by omega)), (by first | rfl | exact int_to (by omega)), (by first | rfl | exact int_to (by omega)), trivial⟩, .refl _⟩ ?_
  rintro _ _ _ ⟨k, ⟨hk1, hk⟩, rfl, hs, hp⟩
  refine vc_weaken _ hs (vc_wk hp ?_)
  clear hs hp
  have hs := hf.sum k
  have hc := hf.cnt k
  have hs1 := hf.sum (k + 1)
  have hc1 := hf.cnt (k + 1)
  have hbk := hf.2 k
  have e1 := sumW_succ b hk1
  have e2 := cntW_succ b hk1
  have hw2 := pow_le15 (k := k) hbk
  refine vc_seq ?_
  refine vc_seq ?_
  refine vc_region ?_
  refine vl_det (det_move rfl) rfl ?_
  refine vl_det (det_lss rfl rfl) rfl ?_
  refine vl_end [(1, _), (2, _), (3, _), (4, _), (6, _)] ⟨rfl, rfl, rfl, rfl, rfl, trivial⟩ ?_
  refine then_next ?_
  refine vc_decideU rfl (fun h6 => ?_) (fun h6 => ?_)
  · skip
    refine vc_skip ?_
    refine then_next ?_
    refine vc_seq ?_
    refine vc_block ?_
    refine vc_seq ?_
    refine vc_region ?_
    refine vl_det (det_move rfl) rfl ?_
    refine vl_det (det_move rfl) rfl ?_
    refine vl_det (det_indexAddr_arr Try.underlying58 (by kernel_rfl) rfl rfl rfl (by omega)) rfl ?_
    refine vl_det (det_load_arr (by kernel_rfl) rfl (by repeat (first | exact .hd | apply Sel.tl)) (by first | omega | (simp; omega))) rfl ?_
    refine vl_det (det_move rfl) rfl ?_
    refine vl_det (det_sub rfl rfl (w_i64 (by omega) (by omega))) rfl ?_
    refine vl_det (det_shl rfl rfl (by omega) (shl15 (by omega) hw2)) rfl ?_
    refine vl_det (det_add rfl rfl (w_i64 (by omega) (by omega))) rfl ?_
    refine vl_det (det_assign rfl) rfl ?_
    refine vl_end [(1, _), (2, _), (3, _), (4, _)] ⟨rfl, rfl, rfl, rfl, trivial⟩ ?_
    refine then_next ?_
    refine vc_region ?_
    refine vl_det (det_move rfl) rfl ?_
    refine vl_det (det_move rfl) rfl ?_
    refine vl_det (det_indexAddr_arr Try.underlying58 (by kernel_rfl) rfl rfl rfl (by omega)) rfl ?_
    refine vl_det (det_load_arr (by kernel_rfl) rfl (by repeat (first | exact .hd | apply Sel.tl)) (by first | omega | (simp; omega))) rfl ?_
    refine vl_det (det_add rfl rfl (w_i64 (by omega) (by omega))) rfl ?_
    refine vl_det (det_assign rfl) rfl ?_
    refine vl_end [(1, _), (2, _), (3, _), (4, _)] ⟨rfl, rfl, rfl, rfl, trivial⟩ ?_
    refine in_normal ?_
    refine then_next ?_
    refine vc_region ?_
    refine vl_det (det_move rfl) rfl ?_
    refine vl_det (det_add rfl rfl (w_i64 (by omega) (by omega))) rfl ?_
    refine vl_det (det_assign rfl) rfl ?_
    refine vl_end [(1, _), (2, _), (3, _), (4, _)] ⟨rfl, rfl, rfl, rfl, trivial⟩ ?_
    rw [← e1, ← e2]
    refine in_loop_ ⟨_, by omega, k + 1, ⟨by omega, by omega⟩, rfl, ⟨(by first | rfl | exact int_to (by omega)), (by first | rfl | exact int_to (by omega)), (by first | rfl | exact int_to (by omega)), (by first | rfl | exact int_to (by omega)), trivial⟩, .refl _⟩
  · skip
    refine vc_exit ?_
    refine then_exit ?_
    refine loop_exit ?_
    refine in_eq ?_
    refine then_next ?_
    refine vc_seq ?_
    refine vc_region ?_
    refine vl_det (det_move rfl) rfl ?_
    refine vl_det (det_move rfl) rfl ?_
    refine vl_det (det_assign rfl) rfl ?_
    refine vl_det (det_assign rfl) rfl ?_
    refine vl_end [(2, _), (3, _)] ⟨rfl, rfl, trivial⟩ ?_
    refine then_next ?_
    refine vc_ret ?_
    have hk16 : k = 16 := by omega
    subst hk16
    refine ret_wk (.skip (.refl _)) ?_
    refine ret2 rfl rfl rfl ?_
    exact ⟨rfl, rfl⟩
theorem count_yes (l : List UInt8) (hb : Bor B w0 F 1 (.slice A l.length c) l.length (bv l)) (hf : Fit l) : Does Try.prog B w0 30 [.slice A l.length c] F (fun r L => r = .tuple #[.agg (ints .i64 (cnt0 l)).toArray, .bool true] ∧ L = F) :=
  (count_d l hb).mono fun v L ⟨b, ok, h1, h2, h3, h4, h5⟩ => by
    have : ok = true := h4.trans (decide_eq_true hf)
    subst this
    rw [h1, h5 rfl]; exact ⟨rfl, h2⟩
theorem count_no (l : List UInt8) (hb : Bor B w0 F 1 (.slice A l.length c) l.length (bv l)) (hf : ¬ Fit l) : Does Try.prog B w0 30 [.slice A l.length c] F (fun r L => ∃ b, r = .tuple #[.agg (ints .i64 b).toArray, .bool false] ∧ L = F ∧ Few b) :=
  (count_d l hb).mono fun v L ⟨b, ok, h1, h2, h3, h4, h5⟩ => by
    have : ok = false := h4.trans (decide_eq_false hf)
    subst this
    exact ⟨b, h1, h2, h3⟩
theorem chk_good {l : List UInt8} (h : Good l) : chk l = 0 := if_pos h
theorem chk_bad {l : List UInt8} (h : ¬ Good l) : chk l = 7 := if_neg h
theorem check_d (l : List UInt8) (hb : Bor B w0 F 1 (.slice A l.length c) l.length (bv l)) : Does Try.prog B w0 11 [.slice A l.length c] F (fun r L => r = .int .i64 (chk l) ∧ L = F) := by
  by_cases hf : Fit l
  · have hfe := few_cnt0 hf
    have hf1 := hfe.1
    have hc16 := hfe.cnt 16
    have hg := good_iff hf
    refine fn_walk Try.func11 36 rfl rfl rfl [(0, .slice A l.length c)] ⟨⟨rfl, rfl⟩, trivial⟩ ?_
    refine vc_seq ?_
    refine vc_region ?_
    refine vl_det (det_assign rfl) rfl ?_
    refine vl_end [(0, _)] ⟨rfl, trivial⟩ ?_
    refine then_next ?_
    refine vc_seq ?_
    refine vc_region ?_
    refine vl_det (det_move rfl) rfl ?_
    refine vl_call co30 rfl (count_yes l (by first | (exact Bor.own (by repeat (first | exact List.Mem.head _ | apply List.Mem.tail))) | (repeat (first | assumption | apply Bor.cons))) hf) rfl ?_
    rintro _ _ ⟨rfl, hLL⟩
    obtain rfl := hLL.symm
    refine vl_det (det_move rfl) rfl ?_
    refine vl_det (det_extract rfl rfl) rfl ?_
    refine vl_det (det_extract rfl rfl) rfl ?_
    refine vl_eff (eff_alloc_z (zv := (.agg #[.int .i64 0, .int .i64 0, .int .i64 0, .int .i64 0, .int .i64 0, .int .i64 0, .int .i64 0, .int .i64 0, .int .i64 0, .int .i64 0, .int .i64 0, .int .i64 0, .int .i64 0, .int .i64 0, .int .i64 0, .int .i64 0])) (by kernel_rfl) rfl) rfl ?_
    rintro _ _ ⟨g3, rfl, rfl⟩
    refine vl_eff0 (eff_store_whole 16 (by kernel_rfl) rfl rfl (by first | exact bv_one _ | exact strs_one _ | exact ints_one _ _ | (simp; done) | (simp [Value.oneCell']; done) | assumption) (by repeat (first | exact .hd | apply Sel.tl)) (by first | rfl | (simp; omega) | (simp [*]; done)) (by first | rfl | (simp; omega) | (simp [*]; done))) ?_
    rintro _ _ rfl
    refine vl_det (det_assign rfl) rfl ?_
    refine vl_end [(3, _), (4, _)] ⟨rfl, rfl, trivial⟩ ?_
    refine then_next ?_
    refine vc_seq ?_
    refine vc_region ?_
    refine vl_det (det_load_whole 16 (by kernel_rfl) rfl (by repeat (first | exact .hd | apply Sel.tl)) (by first | rfl | (simp; omega) | (simp [*]; done))) rfl ?_
    refine vl_call co31 rfl (weight_d _ hfe) rfl ?_
    rintro _ _ ⟨rfl, hLL⟩
    obtain rfl := hLL.symm
    refine vl_det (det_move rfl) rfl ?_
    refine vl_det (det_extract rfl rfl) rfl ?_
    refine vl_det (det_extract rfl rfl) rfl ?_
    refine vl_det (det_assign rfl) rfl ?_
    refine vl_det (det_assign rfl) rfl ?_
    refine vl_end [(3, _), (4, _), (5, _), (6, _)] ⟨rfl, rfl, rfl, rfl, trivial⟩ ?_
    refine then_next ?_
    refine vc_seq ?_
    refine vc_seq ?_
    refine vc_region ?_
    refine vl_cut 19 35 [] (¬ Good l) trivial ?_ ?_
    · skip
      refine vl_det (det_move rfl) rfl ?_
      refine vl_det (det_not_t rfl) rfl ?_
      refine vl_det (det_move rfl) rfl ?_
      refine vl_guard_t rfl rfl ?_
      refine vl_det (det_move rfl) rfl ?_
      refine vl_guard_t rfl rfl ?_
      refine vl_det (det_gtr rfl rfl) rfl ?_
      refine vl_guard_t rfl rfl ?_
      refine vl_det (det_move rfl) rfl ?_
      refine vl_guardp rfl rfl rfl (fun h22 => ?_) (fun h22 => ?_)
      · skip
        refine vl_det (det_move rfl) rfl ?_
        refine vl_guard_t rfl rfl ?_
        refine vl_det (det_neq rfl rfl) rfl ?_
        refine vl_guard_t rfl rfl ?_
        refine vl_det (det_pick_t rfl rfl) rfl ?_
        refine vl_guard_t rfl rfl ?_
        refine vl_det (det_move rfl) rfl ?_
        refine vl_guardp rfl rfl rfl (fun h26 => ?_) (fun h26 => ?_)
        · skip
          refine vl_det (det_move rfl) rfl ?_
          refine vl_guard_t rfl rfl ?_
          refine vl_det (det_neq rfl rfl) rfl ?_
          refine vl_guard_t rfl rfl ?_
          refine vl_det (det_move rfl) rfl ?_
          refine vl_guardn rfl rfl rfl (fun h29 => ?_) (fun h29 => ?_)
          · skip
            refine vl_det (det_indexAddr_arr (i := 1) Try.underlying58 (by kernel_rfl) rfl rfl rfl (by omega)) rfl ?_
            refine vl_guard_t rfl rfl ?_
            refine vl_det (det_load_arr (by kernel_rfl) rfl (by repeat (first | exact .hd | apply Sel.tl)) (by first | omega | (simp; omega))) rfl ?_
            refine vl_guard_t rfl rfl ?_
            refine vl_det (det_neq rfl rfl) rfl ?_
            refine vl_guard_t rfl rfl ?_
            refine vl_det (det_pick_f rfl rfl) rfl ?_
            refine vl_guard_t rfl rfl ?_
            refine vl_det (det_pick_t rfl rfl) rfl ?_
            refine vl_det (det_pick_f rfl rfl) rfl ?_
            exact vl_cut_end trivial (by first | rfl | exact bool_to_t (by first | omega | (rw [hg]; omega)) | exact bool_to_f (by first | omega | (rw [hg]; omega)) | exact bool_to (by first | omega | (rw [hg]; omega)) | exact bool_to_b (by first | omega | (rw [hg]; omega)))
          · skip
            refine vl_guard_f rfl rfl rfl rfl ?_
            refine vl_guard_f rfl rfl rfl rfl ?_
            refine vl_guard_t rfl rfl ?_
            refine vl_det (det_pick_t rfl rfl) rfl ?_
            refine vl_guard_t rfl rfl ?_
            refine vl_det (det_pick_t rfl rfl) rfl ?_
            refine vl_det (det_pick_f rfl rfl) rfl ?_
            exact vl_cut_end trivial (by first | rfl | exact bool_to_t (by first | omega | (rw [hg]; omega)) | exact bool_to_f (by first | omega | (rw [hg]; omega)) | exact bool_to (by first | omega | (rw [hg]; omega)) | exact bool_to_b (by first | omega | (rw [hg]; omega)))
        · skip
          refine vl_guard_f rfl rfl rfl rfl ?_
          refine vl_guard_f rfl rfl rfl rfl ?_
          refine vl_guard_u rfl rfl rfl ?_
          refine vl_guard_u rfl rfl rfl ?_
          refine vl_guard_u rfl rfl rfl ?_
          refine vl_guard_f rfl rfl rfl rfl ?_
          refine vl_guard_t rfl rfl ?_
          refine vl_det (det_pick_f rfl rfl) rfl ?_
          refine vl_det (det_pick_f rfl rfl) rfl ?_
          exact vl_cut_end trivial (by first | rfl | exact bool_to_t (by first | omega | (rw [hg]; omega)) | exact bool_to_f (by first | omega | (rw [hg]; omega)) | exact bool_to (by first | omega | (rw [hg]; omega)) | exact bool_to_b (by first | omega | (rw [hg]; omega)))
      · skip
        refine vl_guard_f rfl rfl rfl rfl ?_
        refine vl_guard_t rfl rfl ?_
        refine vl_det (det_pick_f rfl rfl) rfl ?_
        refine vl_guard_t rfl rfl ?_
        refine vl_det (det_move rfl) rfl ?_
        refine vl_guard_f rfl rfl rfl rfl ?_
        refine vl_guard_f rfl rfl rfl rfl ?_
        refine vl_guard_f rfl rfl rfl rfl ?_
        refine vl_guard_u rfl rfl rfl ?_
        refine vl_guard_u rfl rfl rfl ?_
        refine vl_guard_u rfl rfl rfl ?_
        refine vl_guard_f rfl rfl rfl rfl ?_
        refine vl_guard_t rfl rfl ?_
        refine vl_det (det_pick_f rfl rfl) rfl ?_
        refine vl_det (det_pick_f rfl rfl) rfl ?_
        exact vl_cut_end trivial (by first | rfl | exact bool_to_t (by first | omega | (rw [hg]; omega)) | exact bool_to_f (by first | omega | (rw [hg]; omega)) | exact bool_to (by first | omega | (rw [hg]; omega)) | exact bool_to_b (by first | omega | (rw [hg]; omega)))
    · skip
      refine vl_end [(35, _)] ⟨rfl, trivial⟩ ?_
      refine then_next ?_
      refine vc_decideU rfl (fun h35 => ?_) (fun h35 => ?_)
      · skip
        refine vc_seq ?_
        refine vc_region ?_
        refine vl_det (det_assign rfl) rfl ?_
        refine vl_end [(2, _)] ⟨rfl, trivial⟩ ?_
        refine then_next ?_
        refine vc_ret ?_
        refine then_ret ?_
        refine ret_wk (.skip (.refl _)) ?_
        refine ret1 rfl rfl ?_
        rw [chk_bad h35]; exact ⟨rfl, rfl⟩
      · skip
        refine vc_skip ?_
        refine then_next ?_
        refine vc_seq ?_
        refine vc_region ?_
        refine vl_det (det_assign rfl) rfl ?_
        refine vl_end [(2, _)] ⟨rfl, trivial⟩ ?_
        refine then_next ?_
        refine vc_ret ?_
        refine ret_wk (.skip (.refl _)) ?_
        refine ret1 rfl rfl ?_
        rw [chk_good (Classical.not_not.1 h35)]; exact ⟨rfl, rfl⟩
  · have hbad : ¬ Good l := fun g => hf g.1
    refine fn_walk Try.func11 36 rfl rfl rfl [(0, .slice A l.length c)] ⟨⟨rfl, rfl⟩, trivial⟩ ?_
    refine vc_seq ?_
    refine vc_region ?_
    refine vl_det (det_assign rfl) rfl ?_
    refine vl_end [(0, _)] ⟨rfl, trivial⟩ ?_
    refine then_next ?_
    refine vc_seq ?_
    refine vc_region ?_
    refine vl_det (det_move rfl) rfl ?_
    refine vl_call co30 rfl (count_no l (by first | (exact Bor.own (by repeat (first | exact List.Mem.head _ | apply List.Mem.tail))) | (repeat (first | assumption | apply Bor.cons))) hf) rfl ?_
    rintro _ _ ⟨b, rfl, hLL, hfe⟩
    obtain rfl := hLL.symm
    have hf1 := hfe.1
    refine vl_det (det_move rfl) rfl ?_
    refine vl_det (det_extract rfl rfl) rfl ?_
    refine vl_det (det_extract rfl rfl) rfl ?_
    refine vl_eff (eff_alloc_z (zv := (.agg #[.int .i64 0, .int .i64 0, .int .i64 0, .int .i64 0, .int .i64 0, .int .i64 0, .int .i64 0, .int .i64 0, .int .i64 0, .int .i64 0, .int .i64 0, .int .i64 0, .int .i64 0, .int .i64 0, .int .i64 0, .int .i64 0])) (by kernel_rfl) rfl) rfl ?_
    rintro _ _ ⟨g3, rfl, rfl⟩
    refine vl_eff0 (eff_store_whole 16 (by kernel_rfl) rfl rfl (by first | exact bv_one _ | exact strs_one _ | exact ints_one _ _ | (simp; done) | (simp [Value.oneCell']; done) | assumption) (by repeat (first | exact .hd | apply Sel.tl)) (by first | rfl | (simp; omega) | (simp [*]; done)) (by first | rfl | (simp; omega) | (simp [*]; done))) ?_
    rintro _ _ rfl
    refine vl_det (det_assign rfl) rfl ?_
    refine vl_end [(3, _), (4, _)] ⟨rfl, rfl, trivial⟩ ?_
    refine then_next ?_
    refine vc_seq ?_
    refine vc_region ?_
    refine vl_det (det_load_whole 16 (by kernel_rfl) rfl (by repeat (first | exact .hd | apply Sel.tl)) (by first | rfl | (simp; omega) | (simp [*]; done))) rfl ?_
    refine vl_call co31 rfl (weight_d _ hfe) rfl ?_
    rintro _ _ ⟨rfl, hLL⟩
    obtain rfl := hLL.symm
    refine vl_det (det_move rfl) rfl ?_
    refine vl_det (det_extract rfl rfl) rfl ?_
    refine vl_det (det_extract rfl rfl) rfl ?_
    refine vl_det (det_assign rfl) rfl ?_
    refine vl_det (det_assign rfl) rfl ?_
    refine vl_end [(3, _), (4, _), (5, _), (6, _)] ⟨rfl, rfl, rfl, rfl, trivial⟩ ?_
    refine then_next ?_
    refine vc_seq ?_
    refine vc_seq ?_
    refine vc_region ?_
    refine vl_det (det_move rfl) rfl ?_
    refine vl_det (det_not_f rfl) rfl ?_
    refine vl_det (det_move rfl) rfl ?_
    refine vl_guard_f rfl rfl rfl rfl ?_
    refine vl_guard_f rfl rfl rfl rfl ?_
    refine vl_guard_f rfl rfl rfl rfl ?_
    refine vl_guard_u rfl rfl rfl ?_
    refine vl_guard_u rfl rfl rfl ?_
    refine vl_guard_f rfl rfl rfl rfl ?_
    refine vl_guard_f rfl rfl rfl rfl ?_
    refine vl_guard_u rfl rfl rfl ?_
    refine vl_guard_u rfl rfl rfl ?_
    refine vl_guard_u rfl rfl rfl ?_
    refine vl_guard_u rfl rfl rfl ?_
    refine vl_guard_u rfl rfl rfl ?_
    refine vl_guard_u rfl rfl rfl ?_
    refine vl_guard_u rfl rfl rfl ?_
    refine vl_guard_f rfl rfl rfl rfl ?_
    refine vl_det (det_pick_t rfl rfl) rfl ?_
    refine vl_end [(35, _)] ⟨rfl, trivial⟩ ?_
    refine then_next ?_
    refine vc_cond_t rfl ?_
    refine vc_seq ?_
    refine vc_region ?_
    refine vl_det (det_assign rfl) rfl ?_
    refine vl_end [(2, _)] ⟨rfl, trivial⟩ ?_
    refine then_next ?_
    refine vc_ret ?_
    refine then_ret ?_
    refine ret_wk (.skip (.refl _)) ?_
    refine ret1 rfl rfl ?_
    rw [chk_bad hbad]; exact ⟨rfl, rfl⟩
theorem half_nat {y : Nat} (h : y ≤ 32768) : IntKind.i64.wrap ((y : Int).tdiv 2) = ((y / 2 : Nat) : Int) := by
  rw [Int.tdiv_eq_ediv_of_nonneg (by omega), w_i64 (by omega) (by omega)]; omega
theorem half15 {j y : Nat} (h : j < 15) (hy : y = 2 ^ (15 - j)) : y / 2 = 2 ^ (15 - (j + 1)) := by
  have e : (2 : Nat) ^ (15 - j) = 2 * 2 ^ (15 - (j + 1)) := by
    rw [show 15 - j = (15 - (j + 1)) + 1 by omega, Nat.pow_succ]; omega
  rw [hy, e]; omega
theorem kraft_step {l : List UInt8} {k : Nat} (hk : k < l.length) : kraft (l.take (k + 1)) = kraft (l.take k) + if (l.getD k 0).toNat = 0 then 0 else 2 ^ (15 - (l.getD k 0).toNat) := by rw [take_getD hk 0, kraft_snoc]
theorem rkraft_d (l : List UInt8) (hb : Bor B w0 F 1 (.slice A l.length c) l.length (bv l)) : Does Try.prog B w0 32 [.slice A l.length c] F (fun r L => r = .tuple #[.int .i64 (if Fit l then (kraft l : Int) else 0), .int .i64 (if Fit l then 0 else 13)] ∧ L = F) := by
  refine fn_walk Try.func32 42 rfl rfl rfl [(0, .slice A l.length c)] ⟨⟨rfl, rfl⟩, trivial⟩ ?_
  refine vc_seq ?_
  refine vc_region ?_
  refine vl_det (det_assign rfl) rfl ?_
  refine vl_det (det_assign rfl) rfl ?_
  refine vl_end [(0, _)] ⟨rfl, trivial⟩ ?_
  refine then_next ?_
  refine vc_seq ?_
  refine vc_seq ?_
  refine vc_region ?_
  refine vl_det (det_move rfl) rfl ?_
  refine vl_det (det_len_sl Try.underlying22 rfl) rfl ?_
  refine vl_det (det_gtr rfl rfl) rfl ?_
  refine vl_end [(0, _), (10, _)] ⟨rfl, rfl, trivial⟩ ?_
  refine then_next ?_
  refine vc_decideU rfl (fun h10 => ?_) (fun h10 => ?_)
  · skip
    refine vc_seq ?_
    refine vc_region ?_
    refine vl_det (det_assign rfl) rfl ?_
    refine vl_det (det_assign rfl) rfl ?_
    refine vl_end [(2, _), (3, _)] ⟨rfl, rfl, trivial⟩ ?_
    refine then_next ?_
    refine vc_ret ?_
    refine then_ret ?_
    refine ret2 rfl rfl rfl ?_
    have hf : ¬ Fit l := fun h => by have := h.1; omega
    rw [if_neg hf, if_neg hf]; exact ⟨rfl, rfl⟩
  · skip
    refine vc_skip ?_
    refine then_next ?_
    refine vc_seq ?_
    refine vc_region ?_
    refine vl_det (det_assign rfl) rfl ?_
    refine vl_end [(0, _), (4, _)] ⟨rfl, rfl, trivial⟩ ?_
    refine then_next ?_
    refine vc_seq ?_
    refine vc_seq ?_
    refine vc_region ?_
    refine vl_det (det_assign rfl) rfl ?_
    refine vl_end [(0, _), (4, _), (5, _)] ⟨rfl, rfl, rfl, trivial⟩ ?_
    refine then_next ?_
    refine vc_block ?_
    refine vc_loopJ (fun zf zL zm => ∃ (k : Nat), (k ≤ l.length ∧ Le15 (l.take k)) ∧ l.length - k = zm ∧ Sub zf [(0, .slice A l.length c), (4, .int .i64 (kraft (l.take k) : Int)), (5, .int .i64 k)] ∧ Wk zL (F)) _ ⟨0, ⟨Nat.zero_le _, Le15.nil_⟩, rfl, ⟨(by first | rfl | exact int_to (by omega)), (by first | rfl | exact int_to (by omega)), (by first | rfl | exact int_to (by omega)), trivial⟩, .refl _⟩ ?_
    rintro _ _ _ ⟨k, ⟨hk, hL⟩, rfl, hs, hp⟩
    refine vc_weaken _ hs (vc_wk hp ?_)
    clear hs hp
    have hkl := kraft_le (l.take k)
    have hkl2 : (l.take k).length ≤ l.length := List.length_take_le' k l
    refine vc_seq ?_
    refine vc_seq ?_
    refine vc_region ?_
    refine vl_det (det_move rfl) rfl ?_
    refine vl_det (det_move rfl) rfl ?_
    refine vl_det (det_len_sl Try.underlying22 rfl) rfl ?_
    refine vl_det (det_lss rfl rfl) rfl ?_
    refine vl_end [(0, _), (4, _), (5, _), (14, _)] ⟨rfl, rfl, rfl, rfl, trivial⟩ ?_
    refine then_next ?_
    refine vc_decideU rfl (fun h14 => ?_) (fun h14 => ?_)
    · skip
      refine vc_skip ?_
      refine then_next ?_
      refine vc_seq ?_
      refine vc_block ?_
      refine vc_seq ?_
      refine vc_seq ?_
      refine vc_region ?_
      refine vl_det (det_move rfl) rfl ?_
      refine vl_det (det_move rfl) rfl ?_
      refine vl_det (det_indexAddr Try.underlying22 (by kernel_rfl) rfl rfl rfl (by omega) (by first | (exact Bor.own (by repeat (first | exact List.Mem.head _ | apply List.Mem.tail))) | (repeat (first | assumption | apply Bor.cons)))) rfl ?_
      refine vl_det (det_load_u8 (by kernel_rfl) rfl (by first | (exact Bor.own (by repeat (first | exact List.Mem.head _ | apply List.Mem.tail))) | (repeat (first | assumption | apply Bor.cons))) (by omega)) rfl ?_
      refine vl_det (det_gtr rfl rfl) rfl ?_
      refine vl_end [(0, _), (4, _), (5, _), (21, _)] ⟨rfl, rfl, rfl, rfl, trivial⟩ ?_
      refine then_next ?_
      refine vc_decideU rfl (fun h21 => ?_) (fun h21 => ?_)
      · skip
        refine vc_seq ?_
        refine vc_region ?_
        refine vl_det (det_assign rfl) rfl ?_
        refine vl_det (det_assign rfl) rfl ?_
        refine vl_end [(2, _), (3, _)] ⟨rfl, rfl, trivial⟩ ?_
        refine then_next ?_
        refine vc_ret ?_
        refine then_ret ?_
        refine in_ret ?_
        refine then_ret ?_
        refine loop_ret ?_
        refine in_ret ?_
        refine then_ret ?_
        refine ret2 rfl rfl rfl ?_
        have hf : ¬ Fit l := Fit.no (k := k) (by omega) (by omega)
        rw [if_neg hf, if_neg hf]; exact ⟨rfl, rfl⟩
      · skip
        refine vc_skip ?_
        refine then_next ?_
        refine vc_seq ?_
        refine vc_region ?_
        refine vl_det (det_move rfl) rfl ?_
        refine vl_det (det_move rfl) rfl ?_
        refine vl_det (det_indexAddr Try.underlying22 (by kernel_rfl) rfl rfl rfl (by omega) (by first | (exact Bor.own (by repeat (first | exact List.Mem.head _ | apply List.Mem.tail))) | (repeat (first | assumption | apply Bor.cons)))) rfl ?_
        refine vl_det (det_load_u8 (by kernel_rfl) rfl (by first | (exact Bor.own (by repeat (first | exact List.Mem.head _ | apply List.Mem.tail))) | (repeat (first | assumption | apply Bor.cons))) (by omega)) rfl ?_
        refine vl_det (det_gtr rfl rfl) rfl ?_
        refine vl_end [(0, _), (4, _), (5, _), (26, _)] ⟨rfl, rfl, rfl, rfl, trivial⟩ ?_
        refine then_next ?_
        refine vc_decideU rfl (fun h26 => ?_) (fun h26 => ?_)
        · skip
          refine vc_seq ?_
          refine vc_region ?_
          refine vl_det (det_assign rfl) rfl ?_
          refine vl_end [(0, _), (4, _), (5, _), (6, _)] ⟨rfl, rfl, rfl, rfl, trivial⟩ ?_
          refine then_next ?_
          refine vc_seq ?_
          refine vc_seq ?_
          refine vc_region ?_
          refine vl_det (det_assign rfl) rfl ?_
          refine vl_end [(0, _), (4, _), (5, _), (6, _), (7, _)] ⟨rfl, rfl, rfl, rfl, rfl, trivial⟩ ?_
          refine then_next ?_
          refine vc_block ?_
          refine vc_loopJ (fun zf zL zm => ∃ (j y : Nat), (j ≤ (l.getD k 0).toNat ∧ y = 2 ^ (15 - j) ∧ y ≤ 32768) ∧ (l.getD k 0).toNat - j = zm ∧ Sub zf [(0, .slice A l.length c), (4, .int .i64 (kraft (l.take k) : Int)), (5, .int .i64 k), (6, .int .i64 (y : Int)), (7, .int .i64 j)] ∧ Wk zL (F)) _ ⟨0, 32768, ⟨Nat.zero_le _, rfl, by omega⟩, rfl, ⟨(by first | rfl | exact int_to (by omega)), (by first | rfl | exact int_to (by omega)), (by first | rfl | exact int_to (by omega)), (by first | rfl | exact int_to (by omega)), (by first | rfl | exact int_to (by omega)), trivial⟩, .refl _⟩ ?_
          rintro _ _ _ ⟨j, y, ⟨hj, hy, hy2⟩, rfl, hs, hp⟩
          refine vc_weaken _ hs (vc_wk hp ?_)
          clear hs hp
          refine vc_seq ?_
          refine vc_seq ?_
          refine vc_region ?_
          refine vl_det (det_move rfl) rfl ?_
          refine vl_det (det_move rfl) rfl ?_
          refine vl_det (det_move rfl) rfl ?_
          refine vl_det (det_indexAddr Try.underlying22 (by kernel_rfl) rfl rfl rfl (by omega) (by first | (exact Bor.own (by repeat (first | exact List.Mem.head _ | apply List.Mem.tail))) | (repeat (first | assumption | apply Bor.cons)))) rfl ?_
          refine vl_det (det_load_u8 (by kernel_rfl) rfl (by first | (exact Bor.own (by repeat (first | exact List.Mem.head _ | apply List.Mem.tail))) | (repeat (first | assumption | apply Bor.cons))) (by omega)) rfl ?_
          refine vl_det (det_conv Try.underlying5 Try.underlying3 rfl (w_i64 (by omega) (by omega))) rfl ?_
          refine vl_det (det_lss rfl rfl) rfl ?_
          refine vl_end [(0, _), (4, _), (5, _), (6, _), (7, _), (33, _)] ⟨rfl, rfl, rfl, rfl, rfl, rfl, trivial⟩ ?_
          refine then_next ?_
          refine vc_decideU rfl (fun h33 => ?_) (fun h33 => ?_)
          · skip
            refine vc_skip ?_
            refine then_next ?_
            refine vc_seq ?_
            refine vc_block ?_
            refine vc_region ?_
            refine vl_det (det_move rfl) rfl ?_
            refine vl_det (det_quo rfl rfl (by omega) (half_nat hy2)) rfl ?_
            refine vl_det (det_assign rfl) rfl ?_
            refine vl_end [(0, _), (4, _), (5, _), (6, _), (7, _)] ⟨rfl, rfl, rfl, rfl, rfl, trivial⟩ ?_
            refine in_normal ?_
            refine then_next ?_
            refine vc_region ?_
            refine vl_det (det_move rfl) rfl ?_
            refine vl_det (det_add rfl rfl (w_i64 (by omega) (by omega))) rfl ?_
            refine vl_det (det_assign rfl) rfl ?_
            refine vl_end [(0, _), (4, _), (5, _), (6, _), (7, _)] ⟨rfl, rfl, rfl, rfl, rfl, trivial⟩ ?_
            refine in_loop_ ⟨_, by omega, j + 1, y / 2, ⟨by omega, half15 (by omega) hy, by omega⟩, rfl, ⟨(by first | rfl | exact int_to (by omega)), (by first | rfl | exact int_to (by omega)), (by first | rfl | exact int_to (by omega)), (by first | rfl | exact int_to (by omega)), (by first | rfl | exact int_to (by omega)), trivial⟩, .refl _⟩
          · skip
            refine vc_exit ?_
            refine then_exit ?_
            refine loop_exit ?_
            refine in_eq ?_
            refine then_next ?_
            refine vc_region ?_
            refine vl_det (det_move rfl) rfl ?_
            refine vl_det (det_move rfl) rfl ?_
            refine vl_det (det_add rfl rfl (w_i64 (by omega) (by omega))) rfl ?_
            refine vl_det (det_assign rfl) rfl ?_
            refine vl_end [(0, _), (4, _), (5, _)] ⟨rfl, rfl, rfl, trivial⟩ ?_
            refine in_normal ?_
            refine then_next ?_
            refine vc_region ?_
            refine vl_det (det_move rfl) rfl ?_
            refine vl_det (det_add rfl rfl (w_i64 (by omega) (by omega))) rfl ?_
            refine vl_det (det_assign rfl) rfl ?_
            refine vl_end [(0, _), (4, _), (5, _)] ⟨rfl, rfl, rfl, trivial⟩ ?_
            have hks := kraft_step (l := l) (k := k) (by omega)
            have hj' : j = (l.getD k 0).toNat := by omega
            rw [if_neg (by omega), ← hj', ← hy] at hks
            refine in_loop_ ⟨_, by omega, k + 1, ⟨by omega, hL.step (by omega) (by omega)⟩, rfl, ⟨(by first | rfl | exact int_to (by omega)), (by first | rfl | exact int_to (by omega)), (by first | rfl | exact int_to (by omega)), trivial⟩, .refl _⟩
        · skip
          refine vc_skip ?_
          refine in_normal ?_
          refine then_next ?_
          refine vc_region ?_
          refine vl_det (det_move rfl) rfl ?_
          refine vl_det (det_add rfl rfl (w_i64 (by omega) (by omega))) rfl ?_
          refine vl_det (det_assign rfl) rfl ?_
          refine vl_end [(0, _), (4, _), (5, _)] ⟨rfl, rfl, rfl, trivial⟩ ?_
          have hks := kraft_step (l := l) (k := k) (by omega)
          rw [if_pos (by omega)] at hks
          refine in_loop_ ⟨_, by omega, k + 1, ⟨by omega, hL.step (by omega) (by omega)⟩, rfl, ⟨(by first | rfl | exact int_to (by omega)), (by first | rfl | exact int_to (by omega)), (by first | rfl | exact int_to (by omega)), trivial⟩, .refl _⟩
    · skip
      refine vc_exit ?_
      refine then_exit ?_
      refine loop_exit ?_
      refine in_eq ?_
      refine then_next ?_
      refine vc_seq ?_
      refine vc_region ?_
      refine vl_det (det_move rfl) rfl ?_
      refine vl_det (det_assign rfl) rfl ?_
      refine vl_det (det_assign rfl) rfl ?_
      refine vl_end [(2, _), (3, _)] ⟨rfl, rfl, trivial⟩ ?_
      refine then_next ?_
      refine vc_ret ?_
      refine ret2 rfl rfl rfl ?_
      have hf : Fit l := ⟨by omega, hL.all (by omega)⟩
      rw [if_pos hf, if_pos hf, List.take_of_length_le (by omega)]; exact ⟨rfl, rfl⟩
theorem nz_step {l : List UInt8} {k : Nat} (hk : k < l.length) : nz (l.take (k + 1)) = nz (l.take k) + if (l.getD k 0).toNat = 0 then 0 else 1 := by rw [take_getD hk 0, nz_snoc]
theorem num_step {l : List UInt8} {k : Nat} (i : Nat) (hk : k < l.length) : num (l.take (k + 1)) i = num (l.take k) i + if (l.getD k 0).toNat = i then 1 else 0 := by rw [take_getD hk 0, num_snoc]
theorem nz_le (l : List UInt8) : nz l ≤ l.length := List.countP_le_length
theorem rkraft_yes (l : List UInt8) (hb : Bor B w0 F 1 (.slice A l.length c) l.length (bv l)) (hf : Fit l) : Does Try.prog B w0 32 [.slice A l.length c] F (fun r L => r = .tuple #[.int .i64 (kraft l : Int), .int .i64 0] ∧ L = F) := by
  have h := rkraft_d l hb
  rwa [if_pos hf, if_pos hf] at h
theorem rkraft_no (l : List UInt8) (hb : Bor B w0 F 1 (.slice A l.length c) l.length (bv l)) (hf : ¬ Fit l) : Does Try.prog B w0 32 [.slice A l.length c] F (fun r L => r = .tuple #[.int .i64 0, .int .i64 13] ∧ L = F) := by
  have h := rkraft_d l hb
  rwa [if_neg hf, if_neg hf] at h
theorem rcheck_d (l : List UInt8) (hb : Bor B w0 F 1 (.slice A l.length c) l.length (bv l)) : Does Try.prog B w0 12 [.slice A l.length c] F (fun r L => r = .int .i64 (chk l) ∧ L = F) := by
  by_cases hf : Fit l
  · have hg := good_ref hf
    have hl := hf.1
    refine fn_walk Try.func12 49 rfl rfl rfl [(0, .slice A l.length c)] ⟨⟨rfl, rfl⟩, trivial⟩ ?_
    refine vc_seq ?_
    refine vc_region ?_
    refine vl_det (det_assign rfl) rfl ?_
    refine vl_end [(0, _)] ⟨rfl, trivial⟩ ?_
    refine then_next ?_
    refine vc_seq ?_
    refine vc_region ?_
    refine vl_det (det_move rfl) rfl ?_
    refine vl_call co32 rfl (rkraft_yes l (by first | (exact Bor.own (by repeat (first | exact List.Mem.head _ | apply List.Mem.tail))) | (repeat (first | assumption | apply Bor.cons))) hf) rfl ?_
    rintro _ _ ⟨rfl, hLL⟩
    obtain rfl := hLL.symm
    refine vl_det (det_move rfl) rfl ?_
    refine vl_det (det_extract rfl rfl) rfl ?_
    refine vl_det (det_extract rfl rfl) rfl ?_
    refine vl_det (det_assign rfl) rfl ?_
    refine vl_det (det_assign rfl) rfl ?_
    refine vl_end [(0, _), (3, _), (4, _)] ⟨rfl, rfl, rfl, trivial⟩ ?_
    refine then_next ?_
    refine vc_seq ?_
    refine vc_seq ?_
    refine vc_region ?_
    refine vl_det (det_move rfl) rfl ?_
    refine vl_det (det_neq rfl rfl) rfl ?_
    refine vl_end [(0, _), (3, _), (14, _)] ⟨rfl, rfl, rfl, trivial⟩ ?_
    refine then_next ?_
    refine vc_decideU rfl (fun h14 => ?_) (fun h14 => ?_)
    · skip
      exfalso; omega
    · skip
      refine vc_skip ?_
      refine then_next ?_
      refine vc_seq ?_
      refine vc_region ?_
      refine vl_det (det_assign rfl) rfl ?_
      refine vl_det (det_assign rfl) rfl ?_
      refine vl_end [(0, _), (3, _), (5, _), (6, _)] ⟨rfl, rfl, rfl, rfl, trivial⟩ ?_
      refine then_next ?_
      refine vc_seq ?_
      refine vc_seq ?_
      refine vc_region ?_
      refine vl_det (det_assign rfl) rfl ?_
      refine vl_end [(0, _), (3, _), (5, _), (6, _), (7, _)] ⟨rfl, rfl, rfl, rfl, rfl, trivial⟩ ?_
      refine then_next ?_
      refine vc_block ?_
      refine vc_loopJ (fun zf zL zm => ∃ (k : Nat), (k ≤ l.length) ∧ l.length - k = zm ∧ Sub zf [(0, .slice A l.length c), (3, .int .i64 (kraft l : Int)), (5, .int .i64 (nz (l.take k) : Int)), (6, .int .i64 (num (l.take k) 1 : Int)), (7, .int .i64 k)] ∧ Wk zL (F)) _ ⟨0, Nat.zero_le _, rfl, ⟨(by first | rfl | exact int_to (by omega)), (by first | rfl | exact int_to (by omega)), (by first | rfl | exact int_to (by omega)), (by first | rfl | exact int_to (by omega)), (by first | rfl | exact int_to (by omega)), trivial⟩, .refl _⟩ ?_
      rintro _ _ _ ⟨k, hk, rfl, hs, hp⟩
      refine vc_weaken _ hs (vc_wk hp ?_)
      clear hs hp
      have hn1 := nz_le (l.take k)
      have hn2 := num_le (l.take k) 1
      have hkl2 : (l.take k).length ≤ l.length := List.length_take_le' k l
      refine vc_seq ?_
      refine vc_seq ?_
      refine vc_region ?_
      refine vl_det (det_move rfl) rfl ?_
      refine vl_det (det_move rfl) rfl ?_
      refine vl_det (det_len_sl Try.underlying22 rfl) rfl ?_
      refine vl_det (det_lss rfl rfl) rfl ?_
      refine vl_end [(0, _), (3, _), (5, _), (6, _), (7, _), (18, _)] ⟨rfl, rfl, rfl, rfl, rfl, rfl, trivial⟩ ?_
      refine then_next ?_
      refine vc_decideU rfl (fun h18 => ?_) (fun h18 => ?_)
      · skip
        have hs1 := nz_step (l := l) (k := k) (by omega)
        have hs2 := num_step (l := l) (k := k) 1 (by omega)
        refine vc_skip ?_
        refine then_next ?_
        refine vc_seq ?_
        refine vc_block ?_
        refine vc_seqJ (fun zf zL => Sub zf [(0, .slice A l.length c), (3, .int .i64 (kraft l : Int)), (5, .int .i64 (nz (l.take (k + 1)) : Int)), (6, .int .i64 (num (l.take k) 1 : Int)), (7, .int .i64 k)] ∧ Wk zL (F)) ?_ ?_
        · skip
          refine vc_seq ?_
          refine vc_region ?_
          refine vl_det (det_move rfl) rfl ?_
          refine vl_det (det_move rfl) rfl ?_
          refine vl_det (det_indexAddr Try.underlying22 (by kernel_rfl) rfl rfl rfl (by omega) (by first | (exact Bor.own (by repeat (first | exact List.Mem.head _ | apply List.Mem.tail))) | (repeat (first | assumption | apply Bor.cons)))) rfl ?_
          refine vl_det (det_load_u8 (by kernel_rfl) rfl (by first | (exact Bor.own (by repeat (first | exact List.Mem.head _ | apply List.Mem.tail))) | (repeat (first | assumption | apply Bor.cons))) (by omega)) rfl ?_
          refine vl_det (det_gtr rfl rfl) rfl ?_
          refine vl_end [(0, _), (3, _), (5, _), (6, _), (7, _), (25, _)] ⟨rfl, rfl, rfl, rfl, rfl, rfl, trivial⟩ ?_
          refine then_next ?_
          refine vc_decideU rfl (fun h25 => ?_) (fun h25 => ?_)
          · skip
            refine vc_region ?_
            refine vl_det (det_move rfl) rfl ?_
            refine vl_det (det_add rfl rfl (w_i64 (by omega) (by omega))) rfl ?_
            refine vl_det (det_assign rfl) rfl ?_
            refine vl_end [(0, _), (3, _), (5, _), (6, _), (7, _)] ⟨rfl, rfl, rfl, rfl, rfl, trivial⟩ ?_
            rw [if_neg (by omega)] at hs1
            exact in_join ⟨⟨(by first | rfl | exact int_to (by omega)), (by first | rfl | exact int_to (by omega)), (by first | rfl | exact int_to (by omega)), (by first | rfl | exact int_to (by omega)), (by first | rfl | exact int_to (by omega)), trivial⟩, .refl _⟩
          · skip
            refine vc_skip ?_
            rw [if_pos (by omega)] at hs1
            exact in_join ⟨⟨(by first | rfl | exact int_to (by omega)), (by first | rfl | exact int_to (by omega)), (by first | rfl | exact int_to (by omega)), (by first | rfl | exact int_to (by omega)), (by first | rfl | exact int_to (by omega)), trivial⟩, .refl _⟩
        · rintro _ _ ⟨hs, hp⟩
          refine vc_weaken _ hs (vc_wk hp ?_)
          clear hs hp
          refine vc_seq ?_
          refine vc_region ?_
          refine vl_det (det_move rfl) rfl ?_
          refine vl_det (det_move rfl) rfl ?_
          refine vl_det (det_indexAddr Try.underlying22 (by kernel_rfl) rfl rfl rfl (by omega) (by first | (exact Bor.own (by repeat (first | exact List.Mem.head _ | apply List.Mem.tail))) | (repeat (first | assumption | apply Bor.cons)))) rfl ?_
          refine vl_det (det_load_u8 (by kernel_rfl) rfl (by first | (exact Bor.own (by repeat (first | exact List.Mem.head _ | apply List.Mem.tail))) | (repeat (first | assumption | apply Bor.cons))) (by omega)) rfl ?_
          refine vl_det (det_eql rfl rfl) rfl ?_
          refine vl_end [(0, _), (3, _), (5, _), (6, _), (7, _), (32, _)] ⟨rfl, rfl, rfl, rfl, rfl, rfl, trivial⟩ ?_
          refine then_next ?_
          refine vc_decideU rfl (fun h32 => ?_) (fun h32 => ?_)
          · skip
            rw [if_pos (by omega)] at hs2
            refine vc_region ?_
            refine vl_det (det_move rfl) rfl ?_
            refine vl_det (det_add rfl rfl (w_i64 (by omega) (by omega))) rfl ?_
            refine vl_det (det_assign rfl) rfl ?_
            refine vl_end [(0, _), (3, _), (5, _), (6, _), (7, _)] ⟨rfl, rfl, rfl, rfl, rfl, trivial⟩ ?_
            refine in_normal ?_
            refine then_next ?_
            refine vc_region ?_
            refine vl_det (det_move rfl) rfl ?_
            refine vl_det (det_add rfl rfl (w_i64 (by omega) (by omega))) rfl ?_
            refine vl_det (det_assign rfl) rfl ?_
            refine vl_end [(0, _), (3, _), (5, _), (6, _), (7, _)] ⟨rfl, rfl, rfl, rfl, rfl, trivial⟩ ?_
            refine in_loop_ ⟨_, by omega, k + 1, by omega, rfl, ⟨(by first | rfl | exact int_to (by omega)), (by first | rfl | exact int_to (by omega)), (by first | rfl | exact int_to (by omega)), (by first | rfl | exact int_to (by omega)), (by first | rfl | exact int_to (by omega)), trivial⟩, .refl _⟩
          · skip
            rw [if_neg (by omega)] at hs2
            refine vc_skip ?_
            refine in_normal ?_
            refine then_next ?_
            refine vc_region ?_
            refine vl_det (det_move rfl) rfl ?_
            refine vl_det (det_add rfl rfl (w_i64 (by omega) (by omega))) rfl ?_
            refine vl_det (det_assign rfl) rfl ?_
            refine vl_end [(0, _), (3, _), (5, _), (6, _), (7, _)] ⟨rfl, rfl, rfl, rfl, rfl, trivial⟩ ?_
            refine in_loop_ ⟨_, by omega, k + 1, by omega, rfl, ⟨(by first | rfl | exact int_to (by omega)), (by first | rfl | exact int_to (by omega)), (by first | rfl | exact int_to (by omega)), (by first | rfl | exact int_to (by omega)), (by first | rfl | exact int_to (by omega)), trivial⟩, .refl _⟩
      · skip
        rw [List.take_of_length_le (by omega)]
        refine vc_exit ?_
        refine then_exit ?_
        refine loop_exit ?_
        refine in_eq ?_
        refine then_next ?_
        refine vc_seq ?_
        refine vc_seq ?_
        refine vc_region ?_
        refine vl_cut 14 48 [] (Good l) trivial ?_ ?_
        · skip
          refine vl_det (det_move rfl) rfl ?_
          refine vl_det (det_eql rfl rfl) rfl ?_
          refine vl_det (det_move rfl) rfl ?_
          refine vl_guardn rfl rfl rfl (fun h37 => ?_) (fun h37 => ?_)
          · skip
            refine vl_det (det_move rfl) rfl ?_
            refine vl_guard_t rfl rfl ?_
            refine vl_det (det_eql rfl rfl) rfl ?_
            refine vl_guard_t rfl rfl ?_
            refine vl_det (det_move rfl) rfl ?_
            refine vl_guardp rfl rfl rfl (fun h40 => ?_) (fun h40 => ?_)
            · skip
              refine vl_det (det_move rfl) rfl ?_
              refine vl_guard_t rfl rfl ?_
              refine vl_det (det_eql rfl rfl) rfl ?_
              refine vl_guard_t rfl rfl ?_
              refine vl_det (det_pick_t rfl rfl) rfl ?_
              refine vl_det (det_pick_f rfl rfl) rfl ?_
              refine vl_det (det_move rfl) rfl ?_
              refine vl_guardn rfl rfl rfl (fun h45 => ?_) (fun h45 => ?_)
              · skip
                refine vl_det (det_move rfl) rfl ?_
                refine vl_guard_t rfl rfl ?_
                refine vl_det (det_eql rfl rfl) rfl ?_
                refine vl_det (det_pick_f rfl rfl) rfl ?_
                exact vl_cut_end trivial (by first | rfl | exact bool_to_t (by first | omega | (rw [hg]; omega)) | exact bool_to_f (by first | omega | (rw [hg]; omega)) | exact bool_to (by first | omega | (rw [hg]; omega)) | exact bool_to_b (by first | omega | (rw [hg]; omega)))
              · skip
                refine vl_guard_f rfl rfl rfl rfl ?_
                refine vl_det (det_pick_t rfl rfl) rfl ?_
                exact vl_cut_end trivial (by first | rfl | exact bool_to_t (by first | omega | (rw [hg]; omega)) | exact bool_to_f (by first | omega | (rw [hg]; omega)) | exact bool_to (by first | omega | (rw [hg]; omega)) | exact bool_to_b (by first | omega | (rw [hg]; omega)))
            · skip
              refine vl_guard_f rfl rfl rfl rfl ?_
              refine vl_guard_t rfl rfl ?_
              refine vl_det (det_pick_f rfl rfl) rfl ?_
              refine vl_det (det_pick_f rfl rfl) rfl ?_
              refine vl_det (det_move rfl) rfl ?_
              refine vl_guard_t rfl rfl ?_
              refine vl_det (det_move rfl) rfl ?_
              refine vl_guard_t rfl rfl ?_
              refine vl_det (det_eql rfl rfl) rfl ?_
              refine vl_det (det_pick_f rfl rfl) rfl ?_
              exact vl_cut_end trivial (by first | rfl | exact bool_to_t (by first | omega | (rw [hg]; omega)) | exact bool_to_f (by first | omega | (rw [hg]; omega)) | exact bool_to (by first | omega | (rw [hg]; omega)) | exact bool_to_b (by first | omega | (rw [hg]; omega)))
          · skip
            refine vl_guard_f rfl rfl rfl rfl ?_
            refine vl_guard_f rfl rfl rfl rfl ?_
            refine vl_guard_u rfl rfl rfl ?_
            refine vl_guard_u rfl rfl rfl ?_
            refine vl_guard_f rfl rfl rfl rfl ?_
            refine vl_det (det_pick_t rfl rfl) rfl ?_
            refine vl_det (det_move rfl) rfl ?_
            refine vl_guard_f rfl rfl rfl rfl ?_
            refine vl_guard_f rfl rfl rfl rfl ?_
            refine vl_det (det_pick_t rfl rfl) rfl ?_
            exact vl_cut_end trivial (by first | rfl | exact bool_to_t (by first | omega | (rw [hg]; omega)) | exact bool_to_f (by first | omega | (rw [hg]; omega)) | exact bool_to (by first | omega | (rw [hg]; omega)) | exact bool_to_b (by first | omega | (rw [hg]; omega)))
        · skip
          refine vl_end [(48, _)] ⟨rfl, trivial⟩ ?_
          refine then_next ?_
          refine vc_decideU rfl (fun h48 => ?_) (fun h48 => ?_)
          · skip
            refine vc_seq ?_
            refine vc_region ?_
            refine vl_det (det_assign rfl) rfl ?_
            refine vl_end [(2, _)] ⟨rfl, trivial⟩ ?_
            refine then_next ?_
            refine vc_ret ?_
            refine then_ret ?_
            refine ret1 rfl rfl ?_
            rw [chk_good h48]; exact ⟨rfl, rfl⟩
          · skip
            refine vc_skip ?_
            refine then_next ?_
            refine vc_seq ?_
            refine vc_region ?_
            refine vl_det (det_assign rfl) rfl ?_
            refine vl_end [(2, _)] ⟨rfl, trivial⟩ ?_
            refine then_next ?_
            refine vc_ret ?_
            refine ret1 rfl rfl ?_
            rw [chk_bad h48]; exact ⟨rfl, rfl⟩
  · have hbad : ¬ Good l := fun g => hf g.1
    refine fn_walk Try.func12 49 rfl rfl rfl [(0, .slice A l.length c)] ⟨⟨rfl, rfl⟩, trivial⟩ ?_
    refine vc_seq ?_
    refine vc_region ?_
    refine vl_det (det_assign rfl) rfl ?_
    refine vl_end [(0, _)] ⟨rfl, trivial⟩ ?_
    refine then_next ?_
    refine vc_seq ?_
    refine vc_region ?_
    refine vl_det (det_move rfl) rfl ?_
    refine vl_call co32 rfl (rkraft_no l (by first | (exact Bor.own (by repeat (first | exact List.Mem.head _ | apply List.Mem.tail))) | (repeat (first | assumption | apply Bor.cons))) hf) rfl ?_
    rintro _ _ ⟨rfl, hLL⟩
    obtain rfl := hLL.symm
    refine vl_det (det_move rfl) rfl ?_
    refine vl_det (det_extract rfl rfl) rfl ?_
    refine vl_det (det_extract rfl rfl) rfl ?_
    refine vl_det (det_assign rfl) rfl ?_
    refine vl_det (det_assign rfl) rfl ?_
    refine vl_end [(0, _), (3, _), (4, _)] ⟨rfl, rfl, rfl, trivial⟩ ?_
    refine then_next ?_
    refine vc_seq ?_
    refine vc_seq ?_
    refine vc_region ?_
    refine vl_det (det_move rfl) rfl ?_
    refine vl_det (det_neq rfl rfl) rfl ?_
    refine vl_end [(0, _), (3, _), (14, _)] ⟨rfl, rfl, rfl, trivial⟩ ?_
    refine then_next ?_
    refine vc_decideU rfl (fun h14 => ?_) (fun h14 => ?_)
    · skip
      refine vc_seq ?_
      refine vc_region ?_
      refine vl_det (det_assign rfl) rfl ?_
      refine vl_end [(2, _)] ⟨rfl, trivial⟩ ?_
      refine then_next ?_
      refine vc_ret ?_
      refine then_ret ?_
      refine ret1 rfl rfl ?_
      rw [chk_bad hbad]; exact ⟨rfl, rfl⟩
    · skip
      exfalso; omega
end Go.Proofs.Ytpdnohllbijonaa
