/-
  The document's reader of bits, by frames. No condition.
-/
import Derived.Test.YtpdnohllbijonaaBitRow
import Derived.Test.YtpdnohllbijonaaBitRd
namespace Go.Proofs.Ytpdnohllbijonaa
open Go.RowKit
set_option linter.unusedVariables false
variable {B : Nat} {w0 : World} {F : List Ch} {A : Option Addr} {n c g : Nat} {bt : TypeId} {f : Ch → List Ch}
abbrev Rf (g : Nat) (A : Option Addr) (c : Nat) (q : List Bool) (p : Nat) (F : List Ch) : List Ch := .blk g 72 [.slice A q.length c, .int .i64 p] :: .own 5 1 A q.length c (bv (ref q)) :: F
theorem rf_at (a : Value) {x y : Int} (h : x = y) : [a, Value.int .i64 x] = [a, Value.int .i64 y] := by rw [h]
theorem rf_eq {q q' : List Bool} {b : Bool} {A' : Option Addr} {c' m : Nat} {xs : List Value} {v : Value} (hm : m = q.length + 1) (hx : xs = bv (ref q) ++ [.int .u8 b.toNat]) (hq : q' = q ++ [b]) : Wk (.blk g bt [.slice A' m c', v] :: .own 5 1 A' m c' xs :: F) (.blk g bt [.slice A' q'.length c', v] :: .own 5 1 A' q'.length c' (bv (ref q')) :: F) := by
  subst hx
  subst hq
  exact wk_blk (by rw [hm]; simp) (wk_own (by rw [hm]; simp) (by rw [ref_app, bv_add, ref_bit]) (.refl _))
def pw (j : Nat) : Nat := 128 / 2 ^ j
theorem pw_succ (j : Nat) : pw (j + 1) = pw j / 2 := by rw [pw, pw, Nat.pow_succ, Nat.div_div_eq_div_mul]
theorem pw_pos {j : Nat} (h : j < 8) : 0 < pw j := by
  have : ∀ j : Fin 8, 0 < pw j.val := by decide
  exact this ⟨j, h⟩
theorem pw_le (j : Nat) : pw j ≤ 128 := Nat.div_le_self _ _
theorem pw_eq {j : Nat} (h : j < 8) : pw j = 2 ^ (7 - j) := by
  have : ∀ j : Fin 8, pw j.val = 2 ^ (7 - j.val) := by decide
  exact this ⟨j, h⟩
theorem quoN {a b : Nat} (ha : a < 9223372036854775808) : IntKind.i64.wrap ((a : Int).tdiv (b : Int)) = ((a / b : Nat) : Int) := by
  have e : (a : Int).tdiv (b : Int) = ((a / b : Nat) : Int) := (Int.ofNat_tdiv a b).symm
  have h0 : a / b < 9223372036854775808 := Nat.lt_of_le_of_lt (Nat.div_le_self a b) ha
  rw [e]
  generalize a / b = x at h0
  exact wrap_i64 _ (by omega) (by omega)
theorem unp_bit8 (l : List UInt8) {k j : Nat} (hk : k < l.length) (hj : j < 8) : IntKind.u8.wrap (((l.getD k 0).toNat / pw j % 2 : Nat) : Int) = ((((unp l).getD (8 * k + j) false).toNat : Nat) : Int) := by
  have h := unp_bit l (i := 8 * k + j) (by omega)
  rw [show (8 * k + j) / 8 = k by omega, show 7 - (8 * k + j) % 8 = 7 - j by omega, ← pw_eq hj] at h
  rw [← h]
  have := bitn_le (unp l) (8 * k + j)
  exact w_u8 (by omega) (by omega)
theorem take_more (l : List UInt8) {m : Nat} (h : m < 8 * l.length) : (unp l).take (m + 1) = (unp l).take m ++ [(unp l).getD m false] := take_getD (by rw [unp_length]; exact h) false
theorem newf_d {l : List UInt8} (hb : Bor B w0 F 1 (.slice A l.length c) l.length (bv l)) (hl : l.length ≤ 1000000) :
    Does Try.prog B w0 24 [.slice A l.length c] F (fun r L => ∃ g A' c', r = .pointer (some ⟨g, 0, none⟩) ∧ L = Rf g A' c' (unp l) 0 F) := by
  have hul := unp_length l
  refine fn_walk Try.func24 40 rfl rfl rfl [(0, .slice A l.length c)] ⟨⟨rfl, rfl⟩, trivial⟩ ?_
  refine vc_seq ?_
  refine vc_region ?_
  refine vl_det (det_assign rfl) rfl ?_
  refine vl_end [(0, _)] ⟨rfl, trivial⟩ ?_
  refine then_next ?_
  refine vc_seq ?_
  refine vc_nil_row 5 1 none ?_
  refine vc_region ?_
  refine vl_det (det_build0 [.slice none 0 0, .int .i64 0] (by kernel_rfl)) rfl ?_
  refine vl_eff (eff_box rfl rfl) rfl ?_
  rintro _ _ ⟨g8, rfl, rfl⟩
  refine vl_det (det_assign rfl) rfl ?_
  refine vl_end [(0, _), (3, _)] ⟨rfl, rfl, trivial⟩ ?_
  refine then_next ?_
  refine vc_seq ?_
  refine vc_seq ?_
  refine vc_region ?_
  refine vl_det (det_assign rfl) rfl ?_
  refine vl_end [(0, _), (3, _), (4, _)] ⟨rfl, rfl, rfl, trivial⟩ ?_
  refine then_next ?_
  refine vc_block ?_
  refine vc_loopJ (fun zf zL zm => ∃ (k : Nat) (A' : Option Addr) (c' : Nat), (k ≤ l.length) ∧ l.length - k = zm ∧ Sub zf [(0, .slice A l.length c), (3, .pointer (some ⟨g8, 0, none⟩)), (4, .int .i64 k)] ∧ Wk zL (Rf g8 A' c' ((unp l).take (8 * k)) 0 F)) _ ⟨0, none, 0, Nat.zero_le _, rfl, ⟨(by first | rfl | exact int_to (by omega)), (by first | rfl | exact int_to (by omega)), (by first | rfl | exact int_to (by omega)), trivial⟩, .refl _⟩ ?_
  rintro _ _ _ ⟨k, A', c', hk, rfl, hs, hp⟩
  refine vc_weaken _ hs (vc_wk hp ?_)
  clear hs hp
  refine vc_seq ?_
  refine vc_seq ?_
  refine vc_region ?_
  refine vl_det (det_move rfl) rfl ?_
  refine vl_det (det_move rfl) rfl ?_
  refine vl_det (det_len_sl Try.underlying22 rfl) rfl ?_
  refine vl_det (det_lss rfl rfl) rfl ?_
  refine vl_end [(0, _), (3, _), (4, _), (12, _)] ⟨rfl, rfl, rfl, rfl, trivial⟩ ?_
  refine then_next ?_
  refine vc_decideU rfl (fun h12 => ?_) (fun h12 => ?_)
  · skip
    refine vc_skip ?_
    refine then_next ?_
    refine vc_seq ?_
    refine vc_block ?_
    refine vc_seq ?_
    refine vc_region ?_
    refine vl_det (det_assign rfl) rfl ?_
    refine vl_end [(0, _), (3, _), (4, _), (5, _)] ⟨rfl, rfl, rfl, rfl, trivial⟩ ?_
    refine then_next ?_
    refine vc_seq ?_
    refine vc_region ?_
    refine vl_det (det_assign rfl) rfl ?_
    refine vl_end [(0, _), (3, _), (4, _), (5, _), (6, _)] ⟨rfl, rfl, rfl, rfl, rfl, trivial⟩ ?_
    refine then_next ?_
    refine vc_block ?_
    refine vc_loopJ (fun zf zL zm => ∃ (j : Nat) (A' : Option Addr) (c' : Nat), (j ≤ 8) ∧ 8 - j = zm ∧ Sub zf [(0, .slice A l.length c), (3, .pointer (some ⟨g8, 0, none⟩)), (4, .int .i64 k), (5, .int .i64 (pw j : Nat)), (6, .int .i64 j)] ∧ Wk zL (Rf g8 A' c' ((unp l).take (8 * k + j)) 0 F)) _ ⟨0, A', c', Nat.zero_le _, rfl, ⟨(by first | rfl | exact int_to (by omega)), (by first | rfl | exact int_to (by omega)), (by first | rfl | exact int_to (by omega)), (by first | rfl | exact int_to (by omega)), (by first | rfl | exact int_to (by omega)), trivial⟩, .refl _⟩ ?_
    rintro _ _ _ ⟨j, A', c', hj, rfl, hs, hp⟩
    refine vc_weaken _ hs (vc_wk hp ?_)
    clear hs hp
    have hpl := pw_le j
    have htl : ((unp l).take (8 * k + j)).length ≤ 8 * k + j := List.length_take_le _ _
    refine vc_seq ?_
    refine vc_seq ?_
    refine vc_region ?_
    refine vl_det (det_move rfl) rfl ?_
    refine vl_det (det_lss rfl rfl) rfl ?_
    refine vl_end [(0, _), (3, _), (4, _), (5, _), (6, _), (16, _)] ⟨rfl, rfl, rfl, rfl, rfl, rfl, trivial⟩ ?_
    refine then_next ?_
    refine vc_decideU rfl (fun h16 => ?_) (fun h16 => ?_)
    · skip
      have hpp := pw_pos (j := j) (by omega)
      have hps := pw_succ j
      have hub := UInt8.toNat_lt (l.getD k 0)
      refine vc_skip ?_
      refine then_next ?_
      refine vc_seq ?_
      refine vc_block ?_
      refine vc_seq ?_
      refine vh_region (S := F) (by kernel_rfl) (by repeat (first | exact List.Sublist.refl _ | exact List.nil_sublist _ | apply List.Sublist.cons_cons | apply List.Sublist.cons)) ?_
      refine vh_take 0 rfl (by kernel_rfl) (by kernel_rfl) (by kernel_rfl) (det_move rfl) rfl ?_
      refine vh_take 1 rfl (by kernel_rfl) (by kernel_rfl) (by kernel_rfl) (det_move rfl) rfl ?_
      refine vh_take 2 rfl (by kernel_rfl) (by kernel_rfl) (by kernel_rfl) (det_nilCheck rfl) rfl ?_
      refine vh_take 3 rfl (by kernel_rfl) (by kernel_rfl) (by kernel_rfl) (det_fieldAddr_ Try.underlying72 rfl (by kernel_rfl) rfl rfl) rfl ?_
      refine vh_take 5 rfl (by kernel_rfl) (by kernel_rfl) (by kernel_rfl) (det_move rfl) rfl ?_
      refine vh_take 6 rfl (by kernel_rfl) (by kernel_rfl) (by kernel_rfl) (det_move rfl) rfl ?_
      refine vh_take 7 rfl (by kernel_rfl) (by kernel_rfl) (by kernel_rfl) (det_indexAddr Try.underlying22 (by kernel_rfl) rfl rfl rfl (by omega) (by first | (exact Bor.own (by repeat (first | exact List.Mem.head _ | apply List.Mem.tail))) | (repeat (first | assumption | apply Bor.cons)))) rfl ?_
      refine vh_take 8 rfl (by kernel_rfl) (by kernel_rfl) (by kernel_rfl) (det_load_u8 (by kernel_rfl) rfl (by first | (exact Bor.own (by repeat (first | exact List.Mem.head _ | apply List.Mem.tail))) | (repeat (first | assumption | apply Bor.cons))) (by omega)) rfl ?_
      refine vh_take 9 rfl (by kernel_rfl) (by kernel_rfl) (by kernel_rfl) (det_conv Try.underlying5 Try.underlying3 rfl (w_i64 (by omega) (by omega))) rfl ?_
      refine vh_take 10 rfl (by kernel_rfl) (by kernel_rfl) (by kernel_rfl) (det_move rfl) rfl ?_
      refine vh_take 11 rfl (by kernel_rfl) (by kernel_rfl) (by kernel_rfl) (det_quo rfl rfl (by omega) (quoN (by omega))) rfl ?_
      refine vh_take 12 rfl (by kernel_rfl) (by kernel_rfl) (by kernel_rfl) (det_rem rfl rfl (by omega) (tmod2 _)) rfl ?_
      refine vh_take 13 rfl (by kernel_rfl) (by kernel_rfl) (by kernel_rfl) (det_conv Try.underlying3 Try.underlying5 rfl (unp_bit8 l (by omega) (by omega))) rfl ?_
      refine vh_two 4 14 (by kernel_rfl) ?_ ?_
      · skip
        refine st_det rfl .no (det_load_blk (by kernel_rfl) rfl (by repeat (first | exact .hd | apply Sel.tl)) rfl) rfl (by repeat (first | exact List.Sublist.refl _ | exact List.nil_sublist _ | apply List.Sublist.cons_cons | apply List.Sublist.cons)) ?_
        refine vh_one 14 (by kernel_rfl) ?_
        refine st_eff rfl .no (eff_build_lit slT22 [_] rfl rfl (by first | exact bv_one _ | exact strs_one _ | exact ints_one _ _ | (simp; done) | (simp [Value.oneCell']; done) | assumption) (by omega) (by omega)) rfl (by rintro _ _ ⟨A33, rfl, rfl⟩; exact (by repeat (first | exact List.Sublist.refl _ | exact List.nil_sublist _ | apply List.Sublist.cons_cons | apply List.Sublist.cons))) ?_
        rintro _ _ ⟨A33, rfl, rfl⟩
        refine vh_one 15 (by kernel_rfl) ?_
        refine st_eff rfl .no (eff_app slT22 rfl (by repeat (first | exact .hd | apply Sel.tl)) rfl (by first | (exact Bor.own (by repeat (first | exact List.Mem.head _ | apply List.Mem.tail))) | (repeat (first | assumption | apply Bor.cons))) (by first | exact bv_one _ | exact strs_one _ | exact ints_one _ _ | (simp; done) | (simp [Value.oneCell']; done) | assumption) (by omega) (by omega)) rfl (by rintro _ _ ⟨A34, c34, rfl, rfl⟩; exact (by repeat (first | exact List.Sublist.refl _ | exact List.nil_sublist _ | apply List.Sublist.cons_cons | apply List.Sublist.cons))) ?_
        rintro _ _ ⟨A34, c34, rfl, rfl⟩
        refine vh_take 16 rfl (by kernel_rfl) (by kernel_rfl) (by kernel_rfl) (det_nilCheck rfl) rfl ?_
        refine vh_take 17 rfl (by kernel_rfl) (by kernel_rfl) (by kernel_rfl) (det_fieldAddr_ Try.underlying72 rfl (by kernel_rfl) rfl rfl) rfl ?_
        refine vh_one 18 (by kernel_rfl) ?_
        refine st_eff0 rfl .no (eff_store (by kernel_rfl) rfl rfl rfl (by repeat (first | exact .hd | apply Sel.tl)) (by simp)) (by rintro _ _ rfl; exact (by repeat (first | exact List.Sublist.refl _ | exact List.nil_sublist _ | apply List.Sublist.cons_cons | apply List.Sublist.cons))) ?_
        rintro _ _ rfl
        refine vh_done [(0, _), (3, _), (4, _), (5, _), (6, _)] ⟨rfl, rfl, rfl, rfl, rfl, trivial⟩ (by kernel_rfl) ?_
        refine then_next ?_
        refine vc_region ?_
        refine vl_det (det_move rfl) rfl ?_
        refine vl_det (det_quo rfl rfl (by omega) (quoN (b := 2) (by omega))) rfl ?_
        refine vl_det (det_assign rfl) rfl ?_
        refine vl_end [(0, _), (3, _), (4, _), (5, _), (6, _)] ⟨rfl, rfl, rfl, rfl, rfl, trivial⟩ ?_
        refine in_normal ?_
        refine then_next ?_
        refine vc_region ?_
        refine vl_det (det_move rfl) rfl ?_
        refine vl_det (det_add rfl rfl (w_i64 (by omega) (by omega))) rfl ?_
        refine vl_det (det_assign rfl) rfl ?_
        refine vl_end [(0, _), (3, _), (4, _), (5, _), (6, _)] ⟨rfl, rfl, rfl, rfl, rfl, trivial⟩ ?_
        refine in_loop_ ⟨_, by omega, j + 1, A34, c34, by omega, rfl, ⟨(by first | rfl | exact int_to (by omega)), (by first | rfl | exact int_to (by omega)), (by first | rfl | exact int_to (by omega)), (by first | rfl | exact int_to (by omega)), (by first | rfl | exact int_to (by omega)), trivial⟩, .skip (rf_eq (q := (unp l).take (8 * k + j)) (q' := (unp l).take (8 * k + (j + 1))) (b := (unp l).getD (8 * k + j) false) rfl rfl (take_more l (m := 8 * k + j) (by omega)))⟩
      · skip
        refine st_eff rfl .no (eff_build_lit slT22 [_] rfl rfl (by first | exact bv_one _ | exact strs_one _ | exact ints_one _ _ | (simp; done) | (simp [Value.oneCell']; done) | assumption) (by omega) (by omega)) rfl (by rintro _ _ ⟨A33, rfl, rfl⟩; exact (by repeat (first | exact List.Sublist.refl _ | exact List.nil_sublist _ | apply List.Sublist.cons_cons | apply List.Sublist.cons))) ?_
        rintro _ _ ⟨A33, rfl, rfl⟩
        refine vh_one 4 (by kernel_rfl) ?_
        refine st_det rfl .no (det_load_blk (by kernel_rfl) rfl (by repeat (first | exact .hd | apply Sel.tl)) rfl) rfl (by repeat (first | exact List.Sublist.refl _ | exact List.nil_sublist _ | apply List.Sublist.cons_cons | apply List.Sublist.cons)) ?_
        refine vh_one 15 (by kernel_rfl) ?_
        refine st_eff rfl .no (eff_app slT22 rfl (by repeat (first | exact .hd | apply Sel.tl)) rfl (by first | (exact Bor.own (by repeat (first | exact List.Mem.head _ | apply List.Mem.tail))) | (repeat (first | assumption | apply Bor.cons))) (by first | exact bv_one _ | exact strs_one _ | exact ints_one _ _ | (simp; done) | (simp [Value.oneCell']; done) | assumption) (by omega) (by omega)) rfl (by rintro _ _ ⟨A34, c34, rfl, rfl⟩; exact (by repeat (first | exact List.Sublist.refl _ | exact List.nil_sublist _ | apply List.Sublist.cons_cons | apply List.Sublist.cons))) ?_
        rintro _ _ ⟨A34, c34, rfl, rfl⟩
        refine vh_take 16 rfl (by kernel_rfl) (by kernel_rfl) (by kernel_rfl) (det_nilCheck rfl) rfl ?_
        refine vh_take 17 rfl (by kernel_rfl) (by kernel_rfl) (by kernel_rfl) (det_fieldAddr_ Try.underlying72 rfl (by kernel_rfl) rfl rfl) rfl ?_
        refine vh_one 18 (by kernel_rfl) ?_
        refine st_eff0 rfl .no (eff_store (by kernel_rfl) rfl rfl rfl (by repeat (first | exact .hd | apply Sel.tl)) (by simp)) (by rintro _ _ rfl; exact (by repeat (first | exact List.Sublist.refl _ | exact List.nil_sublist _ | apply List.Sublist.cons_cons | apply List.Sublist.cons))) ?_
        rintro _ _ rfl
        refine vh_done [(0, _), (3, _), (4, _), (5, _), (6, _)] ⟨rfl, rfl, rfl, rfl, rfl, trivial⟩ (by kernel_rfl) ?_
        refine then_next ?_
        refine vc_region ?_
        refine vl_det (det_move rfl) rfl ?_
        refine vl_det (det_quo rfl rfl (by omega) (quoN (b := 2) (by omega))) rfl ?_
        refine vl_det (det_assign rfl) rfl ?_
        refine vl_end [(0, _), (3, _), (4, _), (5, _), (6, _)] ⟨rfl, rfl, rfl, rfl, rfl, trivial⟩ ?_
        refine in_normal ?_
        refine then_next ?_
        refine vc_region ?_
        refine vl_det (det_move rfl) rfl ?_
        refine vl_det (det_add rfl rfl (w_i64 (by omega) (by omega))) rfl ?_
        refine vl_det (det_assign rfl) rfl ?_
        refine vl_end [(0, _), (3, _), (4, _), (5, _), (6, _)] ⟨rfl, rfl, rfl, rfl, rfl, trivial⟩ ?_
        refine in_loop_ ⟨_, by omega, j + 1, A34, c34, by omega, rfl, ⟨(by first | rfl | exact int_to (by omega)), (by first | rfl | exact int_to (by omega)), (by first | rfl | exact int_to (by omega)), (by first | rfl | exact int_to (by omega)), (by first | rfl | exact int_to (by omega)), trivial⟩, .skip (rf_eq (q := (unp l).take (8 * k + j)) (q' := (unp l).take (8 * k + (j + 1))) (b := (unp l).getD (8 * k + j) false) rfl rfl (take_more l (m := 8 * k + j) (by omega)))⟩
    · skip
      refine vc_exit ?_
      refine then_exit ?_
      refine loop_exit ?_
      refine in_eq ?_
      refine in_normal ?_
      refine then_next ?_
      refine vc_region ?_
      refine vl_det (det_move rfl) rfl ?_
      refine vl_det (det_add rfl rfl (w_i64 (by omega) (by omega))) rfl ?_
      refine vl_det (det_assign rfl) rfl ?_
      refine vl_end [(0, _), (3, _), (4, _)] ⟨rfl, rfl, rfl, trivial⟩ ?_
      refine in_loop_ ⟨_, by omega, k + 1, A', c', by omega, rfl, ⟨(by first | rfl | exact int_to (by omega)), (by first | rfl | exact int_to (by omega)), (by first | rfl | exact int_to (by omega)), trivial⟩, by rw [show j = 8 by omega]; exact .refl _⟩
  · skip
    refine vc_exit ?_
    refine then_exit ?_
    refine loop_exit ?_
    refine in_eq ?_
    refine then_next ?_
    refine vc_seq ?_
    refine vc_region ?_
    refine vl_det (det_move rfl) rfl ?_
    refine vl_det (det_assign rfl) rfl ?_
    refine vl_end [(2, _)] ⟨rfl, trivial⟩ ?_
    refine then_next ?_
    refine vc_ret ?_
    refine ret_wk (L' := Rf g8 A' c' (unp l) 0 F) (by rw [List.take_of_length_le (show (unp l).length ≤ 8 * k by omega)]; exact .refl _) ?_
    refine ret1 rfl rfl ?_
    exact ⟨g8, A', c', rfl, rfl⟩
theorem rleft_d (q : List Bool) (p : Nat) (hp : p ≤ q.length) (hq : q.length ≤ 8000000) : Does Try.prog B w0 28 [.pointer (some ⟨g, 0, none⟩)] (Rf g A c q p F) (fun r L => r = .int .i64 ((q.length : Int) - p) ∧ L = Rf g A c q p F) := by
  refine fn_walk Try.func28 13 rfl rfl rfl [(0, .pointer (some ⟨g, 0, none⟩))] ⟨⟨rfl, rfl⟩, trivial⟩ ?_
  refine vc_seq ?_
  refine vc_region ?_
  refine vl_det (det_assign rfl) rfl ?_
  refine vl_end [(0, _)] ⟨rfl, trivial⟩ ?_
  refine then_next ?_
  refine vc_seq ?_
  refine vq_region (by kernel_rfl) (by kernel_rfl) ?_
  refine vq_det (det_move rfl) rfl ?_
  refine vq_det (det_nilCheck rfl) rfl ?_
  refine vq_det (det_fieldAddr_ Try.underlying72 rfl (by kernel_rfl) rfl rfl) rfl ?_
  refine vq_det (det_load_blk (by kernel_rfl) rfl (by repeat (first | exact .hd | apply Sel.tl)) rfl) rfl ?_
  refine vq_det (det_len_sl Try.underlying22 rfl) rfl ?_
  refine vq_det (det_move rfl) rfl ?_
  refine vq_det (det_nilCheck rfl) rfl ?_
  refine vq_det (det_fieldAddr_ Try.underlying72 rfl (by kernel_rfl) rfl rfl) rfl ?_
  refine vq_det (det_load_blk (by kernel_rfl) rfl (by repeat (first | exact .hd | apply Sel.tl)) rfl) rfl ?_
  refine vq_det (det_sub rfl rfl (w_i64 (by omega) (by omega))) rfl ?_
  refine vq_det (det_assign rfl) rfl ?_
  refine vq_end [(2, _)] ⟨rfl, trivial⟩ ?_
  refine then_next ?_
  refine vc_ret ?_
  refine ret1 rfl rfl ?_
  exact ⟨rfl, rfl⟩
theorem dblm_u64 {x m : Nat} (hx : x < 2 ^ m) (hm : m < 64) : IntKind.u64.wrap (2 * (x : Int)) = ((2 * x : Nat) : Int) := by
  have h : x < 2 ^ 63 := Nat.lt_of_lt_of_le hx (Nat.pow_le_pow_right (by omega) (by omega))
  rw [w_u64 (by omega) (by omega)]; omega
theorem addb_u64 {x m b : Nat} (hx : x < 2 ^ m) (hm : m < 64) (hb : b ≤ 1) : IntKind.u64.wrap (((2 * x : Nat) : Int) + (b : Int)) = ((2 * x + b : Nat) : Int) := by
  have h : x < 2 ^ 63 := Nat.lt_of_lt_of_le hx (Nat.pow_le_pow_right (by omega) (by omega))
  rw [w_u64 (by omega) (by omega)]; omega
theorem rpeek_d (q : List Bool) (p : Nat) (hp : p ≤ q.length) (hq : q.length ≤ 8000000) (n : Int) (h1 : -9223372036854775808 ≤ n) (h2 : n ≤ 9223372036854775807) :
    Does Try.prog B w0 38 [.pointer (some ⟨g, 0, none⟩), .int .i64 n] (Rf g A c q p F) (fun r L => r = .tuple #[.int .u64 (pkV q p n), .int .i64 (pkN q p n)] ∧ L = Rf g A c q p F) := by
  have hrl := ref_length q
  refine fn_walk Try.func38 45 rfl rfl rfl [(0, .pointer (some ⟨g, 0, none⟩)), (1, .int .i64 n)] ⟨⟨rfl, rfl⟩, ⟨rfl, rfl⟩, trivial⟩ ?_
  refine vc_seq ?_
  refine vc_region ?_
  refine vl_det (det_assign rfl) rfl ?_
  refine vl_det (det_assign rfl) rfl ?_
  refine vl_end [(0, _), (1, _)] ⟨rfl, rfl, trivial⟩ ?_
  refine then_next ?_
  refine vc_seq ?_
  refine vc_seq ?_
  refine vc_region ?_
  refine vl_cut 6 14 [(0, _), (1, _)] (n < 0 ∨ 64 < n) ⟨rfl, rfl, trivial⟩ ?_ ?_
  · skip
    refine vl_det (det_move rfl) rfl ?_
    refine vl_det (det_lss rfl rfl) rfl ?_
    refine vl_det (det_move rfl) rfl ?_
    refine vl_guardn rfl rfl rfl (fun h11 => ?_) (fun h11 => ?_)
    · skip
      refine vl_det (det_move rfl) rfl ?_
      refine vl_guard_t rfl rfl ?_
      refine vl_det (det_gtr rfl rfl) rfl ?_
      refine vl_det (det_pick_f rfl rfl) rfl ?_
      exact vl_cut_end ⟨rfl, rfl, trivial⟩ (by first | rfl | exact bool_to_t (by first | omega | (exact ⟨fun h => by omega, fun h => by omega⟩)) | exact bool_to_f (by first | omega | (exact ⟨fun h => by omega, fun h => by omega⟩)) | exact bool_to (by first | omega | (exact ⟨fun h => by omega, fun h => by omega⟩)) | exact bool_to_b (by first | omega | (exact ⟨fun h => by omega, fun h => by omega⟩)))
    · skip
      refine vl_guard_f rfl rfl rfl rfl ?_
      refine vl_det (det_pick_t rfl rfl) rfl ?_
      exact vl_cut_end ⟨rfl, rfl, trivial⟩ (by first | rfl | exact bool_to_t (by first | omega | (exact ⟨fun h => by omega, fun h => by omega⟩)) | exact bool_to_f (by first | omega | (exact ⟨fun h => by omega, fun h => by omega⟩)) | exact bool_to (by first | omega | (exact ⟨fun h => by omega, fun h => by omega⟩)) | exact bool_to_b (by first | omega | (exact ⟨fun h => by omega, fun h => by omega⟩)))
  · skip
    refine vl_end [(0, _), (1, _), (14, _)] ⟨rfl, rfl, rfl, trivial⟩ ?_
    refine then_next ?_
    refine vc_decideU rfl (fun h14 => ?_) (fun h14 => ?_)
    · skip
      refine vc_seq ?_
      refine vc_region ?_
      refine vl_det (det_assign rfl) rfl ?_
      refine vl_det (det_assign rfl) rfl ?_
      refine vl_end [(4, _), (5, _)] ⟨rfl, rfl, trivial⟩ ?_
      refine then_next ?_
      refine vc_ret ?_
      refine then_ret ?_
      refine ret2 rfl rfl rfl ?_
      simp only [pkV, pkN, if_pos h14]; exact ⟨by first | rfl | trivial, by first | rfl | trivial⟩
    · skip
      obtain ⟨m, rfl⟩ := Int.eq_ofNat_of_zero_le (show 0 ≤ n by omega)
      refine vc_skip ?_
      refine then_next ?_
      refine vc_seq ?_
      refine vc_region ?_
      refine vl_det (det_assign rfl) rfl ?_
      refine vl_det (det_assign rfl) rfl ?_
      refine vl_end [(0, _), (1, _), (6, _), (7, _)] ⟨rfl, rfl, rfl, rfl, trivial⟩ ?_
      refine then_next ?_
      refine vc_seq ?_
      refine vc_seq ?_
      refine vc_region ?_
      refine vl_det (det_assign rfl) rfl ?_
      refine vl_end [(0, _), (1, _), (6, _), (7, _), (8, _)] ⟨rfl, rfl, rfl, rfl, rfl, trivial⟩ ?_
      refine then_next ?_
      refine vc_block ?_
      refine vc_loopJ (fun zf zL zm => ∃ (k : Nat), (k ≤ m) ∧ m - k = zm ∧ Sub zf [(0, .pointer (some ⟨g, 0, none⟩)), (1, .int .i64 m), (6, .int .u64 (part q p k)), (7, .int .i64 (min (k : Int) ((q.length : Int) - p))), (8, .int .i64 k)] ∧ Wk zL (Rf g A c q p F)) _ ⟨0, Nat.zero_le _, rfl, ⟨(by first | rfl | exact int_to (by omega)), (by first | rfl | exact int_to (by omega)), (by first | rfl | exact int_to (by omega)), (by first | rfl | exact int_to (by omega)), (by first | rfl | exact int_to (by omega)), trivial⟩, .refl _⟩ ?_
      rintro _ _ _ ⟨k, hk, rfl, hs, hp⟩
      refine vc_weaken _ hs (vc_wk hp ?_)
      clear hs hp
      have hlt := part_lt q p k
      have hble := bitn_le q (p + k)
      have hps : part q p (k + 1) = 2 * part q p k + bitn q (p + k) := rfl
      refine vc_seq ?_
      refine vc_seq ?_
      refine vc_region ?_
      refine vl_det (det_move rfl) rfl ?_
      refine vl_det (det_move rfl) rfl ?_
      refine vl_det (det_lss rfl rfl) rfl ?_
      refine vl_end [(0, _), (1, _), (6, _), (7, _), (8, _), (17, _)] ⟨rfl, rfl, rfl, rfl, rfl, rfl, trivial⟩ ?_
      refine then_next ?_
      refine vc_decideU rfl (fun h17 => ?_) (fun h17 => ?_)
      · skip
        refine vc_skip ?_
        refine then_next ?_
        refine vc_seq ?_
        refine vc_block ?_
        refine vc_seq ?_
        refine vc_region ?_
        refine vl_det (det_move rfl) rfl ?_
        refine vl_det (det_mul rfl rfl (dblm_u64 hlt (by omega))) rfl ?_
        refine vl_det (det_assign rfl) rfl ?_
        refine vl_end [(0, _), (1, _), (6, _), (7, _), (8, _)] ⟨rfl, rfl, rfl, rfl, rfl, trivial⟩ ?_
        refine then_next ?_
        refine vc_seq ?_
        refine vc_region ?_
        refine vl_det (det_move rfl) rfl ?_
        refine vl_det (det_move rfl) rfl ?_
        refine vl_call co28 rfl (rleft_d q p hp hq) rfl ?_
        rintro _ _ ⟨rfl, hLL⟩
        obtain rfl := hLL.symm
        refine vl_det (det_lss rfl rfl) rfl ?_
        refine vl_end [(0, _), (1, _), (6, _), (7, _), (8, _), (25, _)] ⟨rfl, rfl, rfl, rfl, rfl, rfl, trivial⟩ ?_
        refine then_next ?_
        refine vc_decideU rfl (fun h25 => ?_) (fun h25 => ?_)
        · skip
          refine vc_seq ?_
          refine vq_region (by kernel_rfl) (by kernel_rfl) ?_
          refine vq_det (det_move rfl) rfl ?_
          refine vq_det (det_move rfl) rfl ?_
          refine vq_det (det_nilCheck rfl) rfl ?_
          refine vq_det (det_fieldAddr_ Try.underlying72 rfl (by kernel_rfl) rfl rfl) rfl ?_
          refine vq_det (det_load_blk (by kernel_rfl) rfl (by repeat (first | exact .hd | apply Sel.tl)) rfl) rfl ?_
          refine vq_det (det_move rfl) rfl ?_
          refine vq_det (det_nilCheck rfl) rfl ?_
          refine vq_det (det_fieldAddr_ Try.underlying72 rfl (by kernel_rfl) rfl rfl) rfl ?_
          refine vq_det (det_load_blk (by kernel_rfl) rfl (by repeat (first | exact .hd | apply Sel.tl)) rfl) rfl ?_
          refine vq_det (det_move rfl) rfl ?_
          refine vq_det (det_add rfl rfl (w_i64 (by omega) (by omega))) rfl ?_
          refine vq_det (det_indexAddr (i := p + k) Try.underlying22 (by kernel_rfl) rfl rfl rfl (by omega) (by first | (exact Bor.own (by repeat (first | exact List.Mem.head _ | apply List.Mem.tail))) | (repeat (first | assumption | apply Bor.cons)))) rfl ?_
          refine vq_det (det_load_u8 (by kernel_rfl) rfl (by first | (exact Bor.own (by repeat (first | exact List.Mem.head _ | apply List.Mem.tail))) | (repeat (first | assumption | apply Bor.cons))) (by omega)) rfl ?_
          rw [ref_get _ (by omega)]
          refine vq_det (det_conv Try.underlying5 Try.underlying39 rfl (w_u64 (by omega) (by omega))) rfl ?_
          refine vq_det (det_add rfl rfl (addb_u64 hlt (by omega) hble)) rfl ?_
          refine vq_det (det_assign rfl) rfl ?_
          refine vq_end [(0, _), (1, _), (6, _), (7, _), (8, _)] ⟨rfl, rfl, rfl, rfl, rfl, trivial⟩ ?_
          refine then_next ?_
          refine vc_region ?_
          refine vl_det (det_move rfl) rfl ?_
          refine vl_det (det_add rfl rfl (w_i64 (by omega) (by omega))) rfl ?_
          refine vl_det (det_assign rfl) rfl ?_
          refine vl_end [(0, _), (1, _), (6, _), (7, _), (8, _)] ⟨rfl, rfl, rfl, rfl, rfl, trivial⟩ ?_
          refine in_normal ?_
          refine then_next ?_
          refine vc_region ?_
          refine vl_det (det_move rfl) rfl ?_
          refine vl_det (det_add rfl rfl (w_i64 (by omega) (by omega))) rfl ?_
          refine vl_det (det_assign rfl) rfl ?_
          refine vl_end [(0, _), (1, _), (6, _), (7, _), (8, _)] ⟨rfl, rfl, rfl, rfl, rfl, trivial⟩ ?_
          refine in_loop_ ⟨_, by omega, k + 1, by omega, rfl, ⟨(by first | rfl | exact int_to (by omega)), (by first | rfl | exact int_to (by omega)), (by first | rfl | exact int_to (by omega)), (by first | rfl | exact int_to (by omega)), (by first | rfl | exact int_to (by omega)), trivial⟩, .refl _⟩
        · skip
          have h0 := bitn_out q (i := p + k) (by omega)
          refine vc_skip ?_
          refine in_normal ?_
          refine then_next ?_
          refine vc_region ?_
          refine vl_det (det_move rfl) rfl ?_
          refine vl_det (det_add rfl rfl (w_i64 (by omega) (by omega))) rfl ?_
          refine vl_det (det_assign rfl) rfl ?_
          refine vl_end [(0, _), (1, _), (6, _), (7, _), (8, _)] ⟨rfl, rfl, rfl, rfl, rfl, trivial⟩ ?_
          refine in_loop_ ⟨_, by omega, k + 1, by omega, rfl, ⟨(by first | rfl | exact int_to (by omega)), (by first | rfl | exact int_to (by omega)), (by first | rfl | exact int_to (by omega)), (by first | rfl | exact int_to (by omega)), (by first | rfl | exact int_to (by omega)), trivial⟩, .refl _⟩
      · skip
        refine vc_exit ?_
        refine then_exit ?_
        refine loop_exit ?_
        refine in_eq ?_
        refine then_next ?_
        refine vc_seq ?_
        refine vc_region ?_
        refine vl_det (det_move rfl) rfl ?_
        refine vl_det (det_move rfl) rfl ?_
        refine vl_det (det_assign rfl) rfl ?_
        refine vl_det (det_assign rfl) rfl ?_
        refine vl_end [(4, _), (5, _)] ⟨rfl, rfl, trivial⟩ ?_
        refine then_next ?_
        refine vc_ret ?_
        refine ret2 rfl rfl rfl ?_
        have hkm : m = k := by omega
        subst hkm
        simp only [pkV, pkN, if_neg h14]; exact ⟨by first | rfl | trivial, by first | rfl | trivial⟩
theorem rget_d (q : List Bool) (p : Nat) (hp : p ≤ q.length) (hq : q.length ≤ 8000000) (n : Int) (h1 : -9223372036854775808 ≤ n) (h2 : n ≤ 9223372036854775807) :
    Does Try.prog B w0 36 [.pointer (some ⟨g, 0, none⟩), .int .i64 n] (Rf g A c q p F) (fun r L => r = .tuple #[.int .u64 (gtV q p n), .int .i64 (gtE q p n)] ∧ L = Rf g A c q (gtP q p n) F) := by
  refine fn_walk Try.func36 34 rfl rfl rfl [(0, .pointer (some ⟨g, 0, none⟩)), (1, .int .i64 n)] ⟨⟨rfl, rfl⟩, ⟨rfl, rfl⟩, trivial⟩ ?_
  refine vc_seq ?_
  refine vc_region ?_
  refine vl_det (det_assign rfl) rfl ?_
  refine vl_det (det_assign rfl) rfl ?_
  refine vl_end [(0, _), (1, _)] ⟨rfl, rfl, trivial⟩ ?_
  refine then_next ?_
  refine vc_seq ?_
  refine vc_seq ?_
  refine vc_region ?_
  refine vl_cut 6 13 [(0, _), (1, _)] (n < 0 ∨ 64 < n) ⟨rfl, rfl, trivial⟩ ?_ ?_
  · skip
    refine vl_det (det_move rfl) rfl ?_
    refine vl_det (det_lss rfl rfl) rfl ?_
    refine vl_det (det_move rfl) rfl ?_
    refine vl_guardn rfl rfl rfl (fun h10 => ?_) (fun h10 => ?_)
    · skip
      refine vl_det (det_move rfl) rfl ?_
      refine vl_guard_t rfl rfl ?_
      refine vl_det (det_gtr rfl rfl) rfl ?_
      refine vl_det (det_pick_f rfl rfl) rfl ?_
      exact vl_cut_end ⟨rfl, rfl, trivial⟩ (by first | rfl | exact bool_to_t (by first | omega | (exact ⟨fun h => by omega, fun h => by omega⟩)) | exact bool_to_f (by first | omega | (exact ⟨fun h => by omega, fun h => by omega⟩)) | exact bool_to (by first | omega | (exact ⟨fun h => by omega, fun h => by omega⟩)) | exact bool_to_b (by first | omega | (exact ⟨fun h => by omega, fun h => by omega⟩)))
    · skip
      refine vl_guard_f rfl rfl rfl rfl ?_
      refine vl_det (det_pick_t rfl rfl) rfl ?_
      exact vl_cut_end ⟨rfl, rfl, trivial⟩ (by first | rfl | exact bool_to_t (by first | omega | (exact ⟨fun h => by omega, fun h => by omega⟩)) | exact bool_to_f (by first | omega | (exact ⟨fun h => by omega, fun h => by omega⟩)) | exact bool_to (by first | omega | (exact ⟨fun h => by omega, fun h => by omega⟩)) | exact bool_to_b (by first | omega | (exact ⟨fun h => by omega, fun h => by omega⟩)))
  · skip
    refine vl_end [(0, _), (1, _), (13, _)] ⟨rfl, rfl, rfl, trivial⟩ ?_
    refine then_next ?_
    refine vc_decideU rfl (fun h13 => ?_) (fun h13 => ?_)
    · skip
      refine vc_seq ?_
      refine vc_region ?_
      refine vl_det (det_assign rfl) rfl ?_
      refine vl_det (det_assign rfl) rfl ?_
      refine vl_end [(4, _), (5, _)] ⟨rfl, rfl, trivial⟩ ?_
      refine then_next ?_
      refine vc_ret ?_
      refine then_ret ?_
      refine ret2 rfl rfl rfl ?_
      simp only [gtV, gtE, gtP, if_pos h13]; exact ⟨by first | rfl | trivial, by first | rfl | trivial⟩
    · skip
      refine vc_skip ?_
      refine then_next ?_
      refine vc_seq ?_
      refine vc_seq ?_
      refine vc_region ?_
      refine vl_cut 4 17 [(0, _), (1, _)] ((q.length : Int) < p + n) ⟨rfl, rfl, trivial⟩ ?_ ?_
      · skip
        refine vl_det (det_move rfl) rfl ?_
        refine vl_det (det_move rfl) rfl ?_
        refine vl_call co28 rfl (rleft_d q p hp hq) rfl ?_
        rintro _ _ ⟨rfl, hLL⟩
        obtain rfl := hLL.symm
        refine vl_det (det_gtr rfl rfl) rfl ?_
        exact vl_cut_end ⟨rfl, rfl, trivial⟩ (by first | rfl | exact bool_to_t (by first | omega | (exact ⟨fun h => by omega, fun h => by omega⟩)) | exact bool_to_f (by first | omega | (exact ⟨fun h => by omega, fun h => by omega⟩)) | exact bool_to (by first | omega | (exact ⟨fun h => by omega, fun h => by omega⟩)) | exact bool_to_b (by first | omega | (exact ⟨fun h => by omega, fun h => by omega⟩)))
      · skip
        refine vl_end [(0, _), (1, _), (17, _)] ⟨rfl, rfl, rfl, trivial⟩ ?_
        refine then_next ?_
        refine vc_decideU rfl (fun h17 => ?_) (fun h17 => ?_)
        · skip
          refine vc_seq ?_
          refine vc_region ?_
          refine vl_det (det_assign rfl) rfl ?_
          refine vl_det (det_assign rfl) rfl ?_
          refine vl_end [(4, _), (5, _)] ⟨rfl, rfl, trivial⟩ ?_
          refine then_next ?_
          refine vc_ret ?_
          refine then_ret ?_
          refine ret2 rfl rfl rfl ?_
          simp only [gtV, gtE, gtP, if_neg h13, if_pos h17]; exact ⟨by first | rfl | trivial, by first | rfl | trivial⟩
        · skip
          refine vc_skip ?_
          refine then_next ?_
          refine vc_seq ?_
          refine vc_region ?_
          refine vl_det (det_move rfl) rfl ?_
          refine vl_det (det_move rfl) rfl ?_
          refine vl_call co38 rfl (rpeek_d q p hp hq n h1 h2) rfl ?_
          rintro _ _ ⟨rfl, hLL⟩
          obtain rfl := hLL.symm
          refine vl_det (det_move rfl) rfl ?_
          refine vl_det (det_extract rfl rfl) rfl ?_
          refine vl_det (det_extract rfl rfl) rfl ?_
          refine vl_det (det_assign rfl) rfl ?_
          refine vl_det (det_assign rfl) rfl ?_
          refine vl_end [(0, _), (1, _), (6, _)] ⟨rfl, rfl, rfl, trivial⟩ ?_
          refine then_next ?_
          refine vc_seq ?_
          refine vc_region ?_
          refine vl_det (det_move rfl) rfl ?_
          refine vl_det (det_move rfl) rfl ?_
          refine vl_det (det_nilCheck rfl) rfl ?_
          refine vl_det (det_fieldAddr_ Try.underlying72 rfl (by kernel_rfl) rfl rfl) rfl ?_
          refine vl_det (det_load_blk (by kernel_rfl) rfl (by repeat (first | exact .hd | apply Sel.tl)) rfl) rfl ?_
          refine vl_det (det_move rfl) rfl ?_
          refine vl_det (det_add rfl rfl (w_i64 (by omega) (by omega))) rfl ?_
          refine vl_det (det_nilCheck rfl) rfl ?_
          refine vl_det (det_fieldAddr_ Try.underlying72 rfl (by kernel_rfl) rfl rfl) rfl ?_
          refine vl_eff0 (eff_store (by kernel_rfl) rfl rfl rfl (by repeat (first | exact .hd | apply Sel.tl)) (by simp)) ?_
          rintro _ _ rfl
          refine vl_end [(6, _)] ⟨rfl, trivial⟩ ?_
          refine then_next ?_
          refine vc_seq ?_
          refine vc_region ?_
          refine vl_det (det_move rfl) rfl ?_
          refine vl_det (det_assign rfl) rfl ?_
          refine vl_det (det_assign rfl) rfl ?_
          refine vl_end [(4, _), (5, _)] ⟨rfl, rfl, trivial⟩ ?_
          refine then_next ?_
          refine vc_ret ?_
          refine ret_wk (L' := Rf g A c q (gtP q p n) F) (wk_blk (by simp only [gtP, if_neg h13, if_neg h17]; refine rf_at _ (?_ : _ = _); omega) (.refl _)) ?_
          refine ret2 rfl rfl rfl ?_
          simp only [gtV, gtE, pkV, if_neg h13, if_neg h17]; exact ⟨by first | rfl | trivial, by first | rfl | trivial⟩
end Go.Proofs.Ytpdnohllbijonaa
