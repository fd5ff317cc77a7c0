/-
  Texts of one proof, joined: part 8. No condition.
-/
import Derived.Test.YtpamjobiohbibaaGreatGb7
namespace Go.Proofs.YtpamjobiohbibaaGreat
open Go.RowKit
set_option linter.unusedVariables false
set_option maxRecDepth 20000
variable {B : Nat} {w0 : World} {F : List Ch} {A A1 A2 : Option Addr} {n c c1 c2 g : Nat}
def loR (q : List Bool) (w n : Nat) : List Nat := (List.range n).map fun i => part q (i * w) w
theorem loR_length (q : List Bool) (w n : Nat) : (loR q w n).length = n := by simp [loR]
theorem loR_succ (q : List Bool) (w n : Nat) : loR q w (n + 1) = loR q w n ++ [part q (n * w) w] := by simp [loR, List.range_succ]
/-- the high parts: numbers, place, error -/
def rwF (bound p : Nat) (q : List Bool) : List Nat → Nat → Nat → Int → List Nat → List Nat × Nat × Int
  | [], pos, _, _, out => (out, pos, 0)
  | x :: ls, pos, high, was, out =>
    if ¬ Z q pos < q.length then ([], 0, 1)
    else if (((high + (Z q pos - pos)) * p + x : Nat) : Int) ≤ was then ([], 0, 2)
    else if bound ≤ (high + (Z q pos - pos)) * p + x then ([], 0, 8)
    else rwF bound p q ls (Z q pos + 1) (high + (Z q pos - pos)) ((high + (Z q pos - pos)) * p + x : Nat) (out ++ [(high + (Z q pos - pos)) * p + x])
def efF (bound n : Nat) (b : List UInt8) : List Nat × Nat × Int := rwF bound (2 ^ wid bound n) (unp b) (loR (unp b) (wid bound n) n) (n * wid bound n) 0 (-1) []
def efRest (bound n : Nat) (b : List UInt8) : Nat := ((unp b).length - (efF bound n b).2.1) % 8
/-- n numbers below a bound: they, how many bytes, the error -/
def efRow (bound n : Nat) (b : List UInt8) : List Nat × Nat × Int :=
  if (unp b).length < n * wid bound n then ([], 0, 1)
  else if (efF bound n b).2.2 ≠ 0 then ([], 0, (efF bound n b).2.2)
  else if part (unp b) (efF bound n b).2.1 (efRest bound n b) ≠ 0 then ([], 0, 2)
  else ((efF bound n b).1, b.length - ((unp b).length - ((efF bound n b).2.1 + efRest bound n b)) / 8, 0)
theorem lows_bad (q : List Bool) {m w : Nat} (hm : m ≤ 20000) (hw : w ≤ 14) (hq : q.length ≤ 8000000) (hE : q.length < m * w) :
    Does Tryz.prog B w0 82 [.pointer (some ⟨g, 0, none⟩), .int .i64 m, .int .i64 w] (Rr g A c q 0 F) (fun r L => r = .tuple #[.slice none 0 0, .int .i64 1] ∧ L = Rr g A c q 0 F) := by
  have hmw : m * w ≤ 20000 * 14 := Nat.mul_le_mul hm hw
  have hmul : IntKind.i64.wrap ((m : Int) * (w : Int)) = ((m * w : Nat) : Int) := by
    rw [← Int.natCast_mul]
    generalize m * w = z at *
    exact w_i64 (by omega) (by omega)
  refine fn_walk Tryz.func82 38 rfl rfl rfl [(0, .pointer (some ⟨g, 0, none⟩)), (1, .int .i64 m), (2, .int .i64 w)] ⟨⟨rfl, rfl⟩, ⟨rfl, rfl⟩, ⟨rfl, rfl⟩, trivial⟩ ?_
  refine vc_seq ?_
  refine vc_region ?_
  refine vl_det (det_assign rfl) rfl ?_
  refine vl_det (det_assign rfl) rfl ?_
  refine vl_end [(0, _), (1, _), (2, _)] ⟨rfl, rfl, rfl, trivial⟩ ?_
  refine then_next ?_
  refine vc_seq ?_
  refine vc_seq ?_
  refine vc_region ?_
  refine vl_det (det_move rfl) rfl ?_
  refine vl_det (det_move rfl) rfl ?_
  refine vl_det (det_mul rfl rfl hmul) rfl ?_
  refine vl_det (det_move rfl) rfl ?_
  refine vl_call co84 rfl (left_d q 0 (Nat.zero_le _) hq) rfl ?_
  rintro _ _ ⟨rfl, hLL⟩
  obtain rfl := hLL.symm
  refine vl_det (det_gtr rfl rfl) rfl ?_
  refine vl_end [(0, _), (1, _), (2, _), (17, _)] ⟨rfl, rfl, rfl, rfl, trivial⟩ ?_
  refine then_next ?_
  refine vc_decideU rfl (fun h17 => ?_) (fun h17 => ?_)
  · skip
    refine vc_seq ?_
    refine vc_region ?_
    refine vl_det (det_assign rfl) rfl ?_
    refine vl_det (det_assign rfl) rfl ?_
    refine vl_end [(6, _), (7, _)] ⟨rfl, rfl, trivial⟩ ?_
    refine then_next ?_
    refine vc_ret ?_
    refine then_ret ?_
    refine ret2 rfl rfl rfl ?_
    exact ⟨rfl, rfl⟩
  · skip
    exfalso; omega
theorem lows_ok (q : List Bool) {m w : Nat} (hm : m ≤ 20000) (hw : w ≤ 14) (hq : q.length ≤ 8000000) (hE : m * w ≤ q.length) :
    Does Tryz.prog B w0 82 [.pointer (some ⟨g, 0, none⟩), .int .i64 m, .int .i64 w] (Rr g A c q 0 F) (fun r L => ∃ A' c', r = .tuple #[.slice A' m c', .int .i64 0] ∧ L = Rr g A c q (m * w) (.own 79 1 A' m c' (u16v (loR q w m)) :: F)) := by
  have hmw : m * w ≤ 20000 * 14 := Nat.mul_le_mul hm hw
  have hmul : IntKind.i64.wrap ((m : Int) * (w : Int)) = ((m * w : Nat) : Int) := by
    rw [← Int.natCast_mul]
    generalize m * w = z at *
    exact w_i64 (by omega) (by omega)
  refine fn_walk Tryz.func82 38 rfl rfl rfl [(0, .pointer (some ⟨g, 0, none⟩)), (1, .int .i64 m), (2, .int .i64 w)] ⟨⟨rfl, rfl⟩, ⟨rfl, rfl⟩, ⟨rfl, rfl⟩, trivial⟩ ?_
  refine vc_seq ?_
  refine vc_region ?_
  refine vl_det (det_assign rfl) rfl ?_
  refine vl_det (det_assign rfl) rfl ?_
  refine vl_end [(0, _), (1, _), (2, _)] ⟨rfl, rfl, rfl, trivial⟩ ?_
  refine then_next ?_
  refine vc_seq ?_
  refine vc_seq ?_
  refine vc_region ?_
  refine vl_det (det_move rfl) rfl ?_
  refine vl_det (det_move rfl) rfl ?_
  refine vl_det (det_mul rfl rfl hmul) rfl ?_
  refine vl_det (det_move rfl) rfl ?_
  refine vl_call co84 rfl (left_d q 0 (Nat.zero_le _) hq) rfl ?_
  rintro _ _ ⟨rfl, hLL⟩
  obtain rfl := hLL.symm
  refine vl_det (det_gtr rfl rfl) rfl ?_
  refine vl_end [(0, _), (1, _), (2, _), (17, _)] ⟨rfl, rfl, rfl, rfl, trivial⟩ ?_
  refine then_next ?_
  refine vc_decideU rfl (fun h17 => ?_) (fun h17 => ?_)
  · skip
    exfalso; omega
  · skip
    refine vc_skip ?_
    refine then_next ?_
    refine vc_seq ?_
    refine vc_region ?_
    refine vl_det (det_move rfl) rfl ?_
    refine vl_eff (eff_make slT71 rfl rfl rfl rfl rfl (by omega) (by omega) (by omega)) rfl ?_
    rintro _ _ ⟨A19, rfl, rfl⟩
    refine vl_det (det_assign rfl) rfl ?_
    refine vl_end [(0, _), (2, _), (8, _)] ⟨rfl, rfl, rfl, trivial⟩ ?_
    refine then_next ?_
    refine vc_seq ?_
    refine vc_seq ?_
    refine vc_region ?_
    refine vl_det (det_move rfl) rfl ?_
    refine vl_det (det_len_sl Tryz.underlying71 rfl) rfl ?_
    refine vl_det (det_move rfl) rfl ?_
    refine vl_end [(0, _), (2, _), (8, _), (21, _), (22, _)] ⟨rfl, rfl, rfl, rfl, rfl, trivial⟩ ?_
    refine then_next ?_
    refine vc_block ?_
    refine vc_loopJ (fun zf zL zm => ∃ (k : Nat), (k ≤ m) ∧ m - k = zm ∧ Sub zf [(0, .pointer (some ⟨g, 0, none⟩)), (2, .int .i64 w), (8, .slice A19 m m), (21, .int .i64 m), (22, .int .i64 k)] ∧ Wk zL (Rr g A c q (k * w) (.own 79 1 A19 m m (u16v (loR q w k) ++ List.replicate (m - k) (.int .u16 0)) :: F))) _ ⟨0, Nat.zero_le _, rfl, ⟨(by first | rfl | exact int_to (by omega) | exact sl_to (by omega)), (by first | rfl | exact int_to (by omega) | exact sl_to (by omega)), (by first | rfl | exact int_to (by omega) | exact sl_to (by omega)), (by first | rfl | exact int_to (by omega) | exact sl_to (by omega)), (by first | rfl | exact int_to (by omega) | exact sl_to (by omega)), trivial⟩, by rw [Nat.zero_mul]; exact (wu1 (wu1 (wu0 (.refl _))))⟩ ?_
    rintro _ _ _ ⟨k, hk, rfl, hs, hp⟩
    refine vc_weaken _ hs (vc_wk hp ?_)
    clear hs hp
    refine vc_seq ?_
    refine vc_region ?_
    refine vl_det (det_lss rfl rfl) rfl ?_
    refine vl_end [(0, _), (2, _), (8, _), (21, _), (22, _), (23, _)] ⟨rfl, rfl, rfl, rfl, rfl, rfl, trivial⟩ ?_
    refine then_next ?_
    refine vc_seq ?_
    refine vc_decideU rfl (fun h23 => ?_) (fun h23 => ?_)
    · skip
      have hkw : (k + 1) * w ≤ m * w := Nat.mul_le_mul_right w (by omega)
      have hks : (k + 1) * w = k * w + w := Nat.succ_mul k w
      have hpl := part_lt q (k * w) w
      have hpw := pow_le14 hw
      have hlr := loR_length q w k
      have hgv : gtV q (k * w) w = part q (k * w) w := by unfold gtV; rw [if_neg (by omega), if_neg (by omega), Int.toNat_natCast]
      have hgp : gtP q (k * w) w = (k + 1) * w := by unfold gtP; rw [if_neg (by omega), if_neg (by omega), Int.toNat_natCast, hks]
      refine vc_skip ?_
      refine then_next ?_
      refine vc_seq ?_
      refine vc_block ?_
      refine vc_seq ?_
      refine vc_region ?_
      refine vl_det (det_move rfl) rfl ?_
      refine vl_det (det_assign rfl) rfl ?_
      refine vl_end [(0, _), (2, _), (8, _), (9, _), (21, _), (22, _)] ⟨rfl, rfl, rfl, rfl, rfl, rfl, trivial⟩ ?_
      refine then_next ?_
      refine vc_seq ?_
      refine vc_region ?_
      refine vl_det (det_move rfl) rfl ?_
      refine vl_det (det_move rfl) rfl ?_
      refine vl_call co85 rfl (get_d q (k * w) (by omega) hq w (by omega) (by omega)) rfl ?_
      rintro _ _ ⟨rfl, hLL⟩
      obtain rfl := hLL.symm
      rw [hgv, hgp]
      refine vl_det (det_move rfl) rfl ?_
      refine vl_det (det_extract rfl rfl) rfl ?_
      refine vl_det (det_extract rfl rfl) rfl ?_
      refine vl_det (det_assign rfl) rfl ?_
      refine vl_det (det_assign rfl) rfl ?_
      refine vl_end [(0, _), (2, _), (8, _), (9, _), (10, _), (21, _), (22, _)] ⟨rfl, rfl, rfl, rfl, rfl, rfl, rfl, trivial⟩ ?_
      refine then_next ?_
      refine vc_region ?_
      refine vl_det (det_move rfl) rfl ?_
      refine vl_det (det_move rfl) rfl ?_
      refine vl_det (det_move rfl) rfl ?_
      refine vl_det (det_conv Tryz.underlying39 Tryz.underlying79 rfl (w_u16 (by omega) (by omega))) rfl ?_
      refine vl_det (det_indexAddr (size := 1) Tryz.underlying71 (by kernel_rfl) rfl rfl rfl (by omega) (by first | (exact Bor.own (by repeat (first | exact List.Mem.head _ | apply List.Mem.tail))) | (repeat (first | assumption | apply Bor.cons)))) rfl ?_
      refine vl_eff0 (eff_store_row (by kernel_rfl) rfl rfl rfl (by repeat (first | exact .hd | apply Sel.tl)) (by first | omega | (simp; done) | (simp; omega))) ?_
      rintro _ _ rfl
      refine vl_end [(0, _), (2, _), (8, _), (21, _), (22, _)] ⟨rfl, rfl, rfl, rfl, rfl, trivial⟩ ?_
      refine in_normal ?_
      refine then_next ?_
      refine vc_region ?_
      refine vl_det (det_add rfl rfl (w_i64 (by omega) (by omega))) rfl ?_
      refine vl_det (det_move rfl) rfl ?_
      refine vl_end [(0, _), (2, _), (8, _), (21, _), (22, _)] ⟨rfl, rfl, rfl, rfl, rfl, trivial⟩ ?_
      refine in_loop_ ⟨_, by omega, k + 1, by omega, rfl, ⟨(by first | rfl | exact int_to (by omega) | exact sl_to (by omega)), (by first | rfl | exact int_to (by omega) | exact sl_to (by omega)), (by first | rfl | exact int_to (by omega) | exact sl_to (by omega)), (by first | rfl | exact int_to (by omega) | exact sl_to (by omega)), (by first | rfl | exact int_to (by omega) | exact sl_to (by omega)), trivial⟩, .cons (.cons (wk_own rfl (by rw [Nat.mul_one, rep_mid _ (show k < m by omega), set_mid _ _ _ _ (by simp [loR_length]), loR_succ]; simp [u16v]) (.refl _)))⟩
    · skip
      refine vc_exit ?_
      refine then_exit ?_
      refine loop_exit ?_
      refine in_eq ?_
      refine then_next ?_
      refine vc_seq ?_
      refine vc_region ?_
      refine vl_det (det_move rfl) rfl ?_
      refine vl_det (det_assign rfl) rfl ?_
      refine vl_det (det_assign rfl) rfl ?_
      refine vl_end [(6, _), (7, _)] ⟨rfl, rfl, trivial⟩ ?_
      refine then_next ?_
      refine vc_ret ?_
      obtain rfl : k = m := by omega
      refine ret_wk (L' := Rr g A c q (k * w) (.own 79 1 A19 k k (u16v (loR q w k)) :: F)) (.cons (.cons (wk_own rfl (by rw [Nat.sub_self, List.replicate_zero, List.append_nil]) (.refl _)))) ?_
      refine ret2 rfl rfl rfl ?_
      exact ⟨A19, k, rfl, rfl⟩
theorem efRow_lo {bound m : Nat} {b : List UInt8} (h : (unp b).length < m * wid bound m) : efRow bound m b = ([], 0, 1) := if_pos h
theorem efRow_e {bound m : Nat} {b : List UInt8} (h : ¬ (unp b).length < m * wid bound m) (he : (efF bound m b).2.2 ≠ 0) : efRow bound m b = ([], 0, (efF bound m b).2.2) := by unfold efRow; rw [if_neg h, if_pos he]
theorem efRow_p {bound m : Nat} {b : List UInt8} (h : ¬ (unp b).length < m * wid bound m) (he : ¬ (efF bound m b).2.2 ≠ 0) (hp : part (unp b) (efF bound m b).2.1 (efRest bound m b) ≠ 0) : efRow bound m b = ([], 0, 2) := by unfold efRow; rw [if_neg h, if_neg he, if_pos hp]
theorem efRow_ok {bound m : Nat} {b : List UInt8} (h : ¬ (unp b).length < m * wid bound m) (he : ¬ (efF bound m b).2.2 ≠ 0) (hp : ¬ part (unp b) (efF bound m b).2.1 (efRest bound m b) ≠ 0) : efRow bound m b = ((efF bound m b).1, b.length - ((unp b).length - ((efF bound m b).2.1 + efRest bound m b)) / 8, 0) := by unfold efRow; rw [if_neg h, if_neg he, if_neg hp]
theorem orQ {h x w p : Nat} (hp : p = 2 ^ w) (hx : x < p) (hb : h * p ≤ 4611686018427387904) (hpb : p ≤ 16384) : IntKind.i64.wrap ((BitVec.ofInt IntKind.i64.bits ((h * p : Nat) : Int) ||| BitVec.ofInt IntKind.i64.bits (x : Int)).toNat : Int) = ((h * p + x : Nat) : Int) := by
  have hh := i64_or (h * p) x (by omega) (by omega)
  have e : h * p ||| x = h * p + x := by
    rw [hp] at hx ⊢
    rw [Nat.mul_comm, ← Nat.two_pow_add_eq_or_of_lt hx]
  rw [e] at hh
  exact hh
theorem loR_get {q : List Bool} {w m k : Nat} (h : k < m) : (loR q w m).getD k 0 = part q (k * w) w := by simp [loR, List.getD, h]
def RowR (bound m : Nat) (b : List UInt8) (F : List Ch) (r : Value) (L : List Ch) : Prop :=
  ((efRow bound m b).2.2 ≠ 0 ∧ r = .tuple #[.pointer none, .int .i64 0, .int .i64 (efRow bound m b).2.2] ∧ L = F) ∨
  ((efRow bound m b).2.2 = 0 ∧ ∃ g A1 c1 A2 c2, r = .tuple #[.pointer (some ⟨g, 0, none⟩), .int .i64 (efRow bound m b).2.1, .int .i64 0] ∧ L = Pt g 122 (wid bound m) (2 ^ wid bound m) A1 c1 A2 c2 (efRow bound m b).1 F)
theorem row_bad {bound m : Nat} {b : List UInt8} (hb : Bor B w0 F 1 (.slice A b.length c) b.length (bv b)) (hbl : b.length ≤ 100000) (hb2 : bound ≤ 20000) (hm : 1 ≤ m) (hmb : m ≤ bound) (hE : (unp b).length < m * wid bound m) :
    Does Tryz.prog B w0 68 [.int .i64 bound, .int .i64 m, .slice A b.length c] F (RowR bound m b F) := by
  have hul := unp_length b
  have hwl := wid_le (n := m) hb2
  refine fn_walk Tryz.func68 107 rfl rfl rfl [(0, .int .i64 bound), (1, .int .i64 m), (2, .slice A b.length c)] ⟨⟨rfl, rfl⟩, ⟨rfl, rfl⟩, ⟨rfl, rfl⟩, trivial⟩ ?_
  refine vc_seq ?_
  refine vc_region ?_
  refine vl_det (det_assign rfl) rfl ?_
  refine vl_det (det_assign rfl) rfl ?_
  refine vl_det (det_assign rfl) rfl ?_
  refine vl_end [(0, _), (1, _), (2, _)] ⟨rfl, rfl, rfl, trivial⟩ ?_
  refine then_next ?_
  refine vc_seq ?_
  refine vc_region ?_
  refine vl_det (det_move rfl) rfl ?_
  refine vl_call co81 rfl (newr_d hb (by omega)) rfl ?_
  rintro _ _ ⟨g24, A24, c24, rfl, hLL⟩
  obtain rfl := hLL.symm
  refine vl_det (det_assign rfl) rfl ?_
  refine vl_end [(0, _), (1, _), (2, _), (9, _)] ⟨rfl, rfl, rfl, rfl, trivial⟩ ?_
  refine then_next ?_
  refine vc_seq ?_
  refine vc_region ?_
  refine vl_det (det_move rfl) rfl ?_
  refine vl_det (det_move rfl) rfl ?_
  refine vl_call co31 rfl (width_d bound m hb2 hm hmb) rfl ?_
  rintro _ _ ⟨rfl, hLL⟩
  obtain rfl := hLL.symm
  refine vl_det (det_buildp [(0, _)] [.int .i64 0, .slice none 0 0, .slice none 0 0] [0] [_, _, _] rfl rfl (by kernel_rfl)) rfl ?_
  refine vl_det (det_build [(0, _)] [_, _, _] rfl rfl (by kernel_rfl)) rfl ?_
  refine vl_eff (eff_box rfl rfl) rfl ?_
  rintro _ _ ⟨g30, rfl, rfl⟩
  refine vl_det (det_assign rfl) rfl ?_
  refine vl_end [(0, _), (1, _), (2, _), (9, _), (10, _)] ⟨rfl, rfl, rfl, rfl, rfl, trivial⟩ ?_
  refine then_next ?_
  refine vc_seq ?_
  refine vc_region ?_
  refine vl_det (det_move rfl) rfl ?_
  refine vl_det (det_move rfl) rfl ?_
  refine vl_det (det_move rfl) rfl ?_
  refine vl_det (det_nilCheck rfl) rfl ?_
  refine vl_det (det_fieldAddr_ Tryz.underlying122 rfl (by kernel_rfl) rfl rfl) rfl ?_
  refine vl_det (det_fieldAddr_ Tryz.underlying73 rfl (by kernel_rfl) rfl rfl) rfl ?_
  refine vl_det (det_load_blk (by kernel_rfl) rfl (by repeat (first | exact .hd | apply Sel.tl)) rfl) rfl ?_
  refine vl_call co82 rfl ((lows_bad (unp b) (m := m) (w := wid bound m) (by omega) hwl (by omega) hE).perm ((pu1 (pu1 (pu0 (.refl _)))))) rfl ?_
  rintro _ _ ⟨rfl, hLL⟩
  obtain rfl := hLL.symm
  refine vl_det (det_move rfl) rfl ?_
  refine vl_det (det_extract rfl rfl) rfl ?_
  refine vl_det (det_extract rfl rfl) rfl ?_
  refine vl_det (det_assign rfl) rfl ?_
  refine vl_det (det_assign rfl) rfl ?_
  refine vl_end [(0, _), (2, _), (9, _), (10, _), (11, _), (12, _)] ⟨rfl, rfl, rfl, rfl, rfl, rfl, trivial⟩ ?_
  refine then_next ?_
  refine vc_seq ?_
  refine vc_seq ?_
  refine vc_region ?_
  refine vl_det (det_move rfl) rfl ?_
  refine vl_det (det_neq rfl rfl) rfl ?_
  refine vl_end [(0, _), (2, _), (9, _), (10, _), (11, _), (12, _), (43, _)] ⟨rfl, rfl, rfl, rfl, rfl, rfl, rfl, trivial⟩ ?_
  refine then_next ?_
  refine vc_decideU rfl (fun h43 => ?_) (fun h43 => ?_)
  · skip
    refine vc_seq ?_
    refine vc_region ?_
    refine vl_det (det_move rfl) rfl ?_
    refine vl_det (det_assign rfl) rfl ?_
    refine vl_det (det_assign rfl) rfl ?_
    refine vl_det (det_assign rfl) rfl ?_
    refine vl_end [(6, _), (7, _), (8, _)] ⟨rfl, rfl, rfl, trivial⟩ ?_
    refine then_next ?_
    refine vc_ret ?_
    refine then_ret ?_
    refine ret_wk (L' := F) (.skip (.skip (.skip (.refl _)))) ?_
    refine ret3_ rfl rfl rfl rfl ?_
    exact .inl ⟨by rw [efRow_lo hE]; decide, by rw [efRow_lo hE], rfl⟩
  · skip
    exfalso; exact h43 (by decide)
theorem row_ok {bound m : Nat} {b : List UInt8} (hb : Bor B w0 F 1 (.slice A b.length c) b.length (bv b)) (hbl : b.length ≤ 100000) (hb2 : bound ≤ 20000) (hm : 1 ≤ m) (hmb : m ≤ bound) (hE : ¬ (unp b).length < m * wid bound m) :
    Does Tryz.prog B w0 68 [.int .i64 bound, .int .i64 m, .slice A b.length c] F (RowR bound m b F) := by
  have hul := unp_length b
  have hwl := wid_le (n := m) hb2
  have hF0 : efF bound m b = rwF bound (2 ^ wid bound m) (unp b) (loR (unp b) (wid bound m) m) (m * wid bound m) 0 (-1) [] := rfl
  have hRest : efRest bound m b = ((unp b).length - (efF bound m b).2.1) % 8 := rfl
  unfold RowR
  have hlo : efRow bound m b = efRow bound m b := rfl
  obtain ⟨q, hq⟩ : ∃ q, q = unp b := ⟨_, rfl⟩
  have hEe := @efRow_e bound m b hE
  have hEp := @efRow_p bound m b hE
  have hEo := @efRow_ok bound m b hE
  rw [← hq] at hE hul hF0 hRest hEp hEo
  obtain ⟨w, hw⟩ : ∃ w, w = wid bound m := ⟨_, rfl⟩
  rw [← hw] at hE hwl hF0 ⊢
  obtain ⟨p, hp⟩ : ∃ p, p = 2 ^ w := ⟨_, rfl⟩
  rw [← hp] at hF0 ⊢
  have hp0 : 1 ≤ p := by rw [hp]; exact Nat.one_le_two_pow
  have hpb : p ≤ 16384 := by rw [hp]; exact pow_le14 hwl
  have hlol := loR_length q w m
  refine fn_walk Tryz.func68 107 rfl rfl rfl [(0, .int .i64 bound), (1, .int .i64 m), (2, .slice A b.length c)] ⟨⟨rfl, rfl⟩, ⟨rfl, rfl⟩, ⟨rfl, rfl⟩, trivial⟩ ?_
  refine vc_seq ?_
  refine vc_region ?_
  refine vl_det (det_assign rfl) rfl ?_
  refine vl_det (det_assign rfl) rfl ?_
  refine vl_det (det_assign rfl) rfl ?_
  refine vl_end [(0, _), (1, _), (2, _)] ⟨rfl, rfl, rfl, trivial⟩ ?_
  refine then_next ?_
  refine vc_seq ?_
  refine vc_region ?_
  refine vl_det (det_move rfl) rfl ?_
  refine vl_call co81 rfl (newr_d hb (by omega)) rfl ?_
  rintro _ _ ⟨g24, A24, c24, rfl, hLL⟩
  obtain rfl := hLL.symm
  rw [← hq]
  refine vl_det (det_assign rfl) rfl ?_
  refine vl_end [(0, _), (1, _), (2, _), (9, _)] ⟨rfl, rfl, rfl, rfl, trivial⟩ ?_
  refine then_next ?_
  refine vc_seq ?_
  refine vc_region ?_
  refine vl_det (det_move rfl) rfl ?_
  refine vl_det (det_move rfl) rfl ?_
  refine vl_call co31 rfl (width_d bound m hb2 hm hmb) rfl ?_
  rintro _ _ ⟨rfl, hLL⟩
  obtain rfl := hLL.symm
  rw [← hw]
  refine vl_det (det_buildp [(0, _)] [.int .i64 0, .slice none 0 0, .slice none 0 0] [0] [_, _, _] rfl rfl (by kernel_rfl)) rfl ?_
  refine vl_det (det_build [(0, _)] [_, _, _] rfl rfl (by kernel_rfl)) rfl ?_
  refine vl_eff (eff_box rfl rfl) rfl ?_
  rintro _ _ ⟨g30, rfl, rfl⟩
  refine vl_det (det_assign rfl) rfl ?_
  refine vl_end [(0, _), (1, _), (2, _), (9, _), (10, _)] ⟨rfl, rfl, rfl, rfl, rfl, trivial⟩ ?_
  refine then_next ?_
  refine vc_seq ?_
  refine vc_region ?_
  refine vl_det (det_move rfl) rfl ?_
  refine vl_det (det_move rfl) rfl ?_
  refine vl_det (det_move rfl) rfl ?_
  refine vl_det (det_nilCheck rfl) rfl ?_
  refine vl_det (det_fieldAddr_ Tryz.underlying122 rfl (by kernel_rfl) rfl rfl) rfl ?_
  refine vl_det (det_fieldAddr_ Tryz.underlying73 rfl (by kernel_rfl) rfl rfl) rfl ?_
  refine vl_det (det_load_blk (by kernel_rfl) rfl (by repeat (first | exact .hd | apply Sel.tl)) rfl) rfl ?_
  refine vl_call co82 rfl ((lows_ok q (m := m) (w := w) (by omega) hwl (by omega) (by omega)).perm ((pu1 (pu1 (pu0 (.refl _)))))) rfl ?_
  rintro _ _ ⟨A39, c39, rfl, hLL⟩
  obtain rfl := hLL.symm
  refine vl_det (det_move rfl) rfl ?_
  refine vl_det (det_extract rfl rfl) rfl ?_
  refine vl_det (det_extract rfl rfl) rfl ?_
  refine vl_det (det_assign rfl) rfl ?_
  refine vl_det (det_assign rfl) rfl ?_
  refine vl_end [(0, _), (2, _), (9, _), (10, _), (11, _), (12, _)] ⟨rfl, rfl, rfl, rfl, rfl, rfl, trivial⟩ ?_
  refine then_next ?_
  refine vc_seq ?_
  refine vc_seq ?_
  refine vc_region ?_
  refine vl_det (det_move rfl) rfl ?_
  refine vl_det (det_neq rfl rfl) rfl ?_
  refine vl_end [(0, _), (2, _), (9, _), (10, _), (11, _), (12, _), (43, _)] ⟨rfl, rfl, rfl, rfl, rfl, rfl, rfl, trivial⟩ ?_
  refine then_next ?_
  refine vc_decideU rfl (fun h43 => ?_) (fun h43 => ?_)
  · skip
    exfalso; exact h43 (by decide)
  · skip
    refine vc_skip ?_
    refine then_next ?_
    refine vc_seq ?_
    refine vc_nil_row 79 1 none ?_
    refine vc_nil_row 3 1 none ?_
    refine vc_region ?_
    refine vl_det (det_assign rfl) rfl ?_
    refine vl_det (det_assign rfl) rfl ?_
    refine vl_end [(0, _), (2, _), (9, _), (10, _), (11, _), (13, _), (14, _)] ⟨rfl, rfl, rfl, rfl, rfl, rfl, rfl, trivial⟩ ?_
    refine then_next ?_
    refine vc_seq ?_
    refine vc_seq ?_
    refine vc_region ?_
    refine vl_det (det_move rfl) rfl ?_
    refine vl_det (det_len_sl Tryz.underlying71 rfl) rfl ?_
    refine vl_det (det_move rfl) rfl ?_
    refine vl_end [(0, _), (2, _), (9, _), (10, _), (13, _), (14, _), (45, _), (46, _), (47, _)] ⟨rfl, rfl, rfl, rfl, rfl, rfl, rfl, rfl, rfl, trivial⟩ ?_
    refine then_next ?_
    refine vc_block ?_
    refine vc_loopJ (fun zf zL zm => ∃ (k pos high : Nat) (was : Int) (out : List Nat) (P1 : Option Addr) (p1 : Nat) (P2 : Option Addr) (p2 : Nat), (k ≤ m ∧ pos ≤ q.length ∧ high ≤ 20000 ∧ out.length = k ∧ rwF bound p q ((loR q w m).drop k) pos high was out = efF bound m b) ∧ m - k = zm ∧ Sub zf [(0, .int .i64 bound), (2, .slice A b.length c), (9, .pointer (some ⟨g24, 0, none⟩)), (10, .pointer (some ⟨g30, 0, none⟩)), (13, .int .i64 high), (14, .int .i64 was), (45, .slice A39 m c39), (46, .int .i64 m), (47, .int .i64 k)] ∧ Wk zL (Rr g24 A24 c24 q pos (Pt g30 122 w p P1 p1 P2 p2 out (.own 79 1 A39 m c39 (u16v (loR q w m)) :: F)))) _ ⟨0, m * w, 0, -1, [], none, 0, none, 0, ⟨Nat.zero_le _, by omega, Nat.zero_le _, rfl, hF0.symm⟩, rfl, ⟨(by first | rfl | exact int_to (by omega) | exact sl_to (by omega)), (by first | rfl | exact int_to (by omega) | exact sl_to (by omega)), (by first | rfl | exact int_to (by omega) | exact sl_to (by omega)), (by first | rfl | exact int_to (by omega) | exact sl_to (by omega)), (by first | rfl | exact int_to (by omega) | exact sl_to (by omega)), (by first | rfl | exact int_to (by omega) | exact sl_to (by omega)), (by first | rfl | exact int_to (by omega) | exact sl_to (by omega)), (by first | rfl | exact int_to (by omega) | exact sl_to (by omega)), (by first | rfl | exact int_to (by omega) | exact sl_to (by omega)), trivial⟩, (wu2 (wu2 (wu3 (wu0 (wu0 (wu0 (.refl _)))))))⟩ ?_
    rintro _ _ _ ⟨k, pos, high, was, out, P1, p1, P2, p2, ⟨hk, hpos, hhi, hol, hG⟩, rfl, hs, hp⟩
    refine vc_weaken _ hs (vc_wk hp ?_)
    clear hs hp
    refine vc_seq ?_
    refine vc_region ?_
    refine vl_det (det_lss rfl rfl) rfl ?_
    refine vl_end [(0, _), (2, _), (9, _), (10, _), (13, _), (14, _), (45, _), (46, _), (47, _), (48, _)] ⟨rfl, rfl, rfl, rfl, rfl, rfl, rfl, rfl, rfl, rfl, trivial⟩ ?_
    refine then_next ?_
    refine vc_seq ?_
    refine vc_decideU rfl (fun h48 => ?_) (fun h48 => ?_)
    · skip
      have hx := loR_get (q := q) (w := w) (m := m) (k := k) (by omega)
      have hxl := part_lt q (k * w) w
      have hd := drop_getD (l := loR q w m) (k := k) (by omega) 0
      obtain ⟨x, hxx⟩ : ∃ x, x = (loR q w m).getD k 0 := ⟨_, rfl⟩
      have hld : (u16v (loR q w m))[k * 1]? = some (.int .u16 (x : Int)) := by rw [hxx]; exact u16v_get (by omega)
      rw [← hx, ← hxx, ← hp] at hxl
      rw [hd, ← hxx, rwF] at hG
      have hzg := zp_ge q pos
      have hzl := zp_le q hpos
      refine vc_skip ?_
      refine then_next ?_
      refine vc_seq ?_
      refine vc_block ?_
      refine vc_seq ?_
      refine vc_region ?_
      refine vl_det (det_indexAddr (size := 1) Tryz.underlying71 (by kernel_rfl) rfl rfl rfl (by omega) (by first | (exact Bor.own (by repeat (first | exact List.Mem.head _ | apply List.Mem.tail))) | (repeat (first | assumption | apply Bor.cons)))) rfl ?_
      refine vl_det (det_load_row (by kernel_rfl) rfl (by first | (exact Bor.own (by repeat (first | exact List.Mem.head _ | apply List.Mem.tail))) | (repeat (first | assumption | apply Bor.cons))) (by omega) hld) rfl ?_
      refine vl_det (det_assign rfl) rfl ?_
      refine vl_end [(0, _), (2, _), (9, _), (10, _), (13, _), (14, _), (16, _), (45, _), (46, _), (47, _)] ⟨rfl, rfl, rfl, rfl, rfl, rfl, rfl, rfl, rfl, rfl, trivial⟩ ?_
      refine then_next ?_
      refine vc_seq ?_
      refine vc_region ?_
      refine vl_det (det_move rfl) rfl ?_
      refine vl_call co83 rfl (unaryr_d q pos hpos (by omega)) rfl ?_
      rintro _ _ ⟨rfl, hLL⟩
      obtain rfl := hLL.symm
      refine vl_det (det_move rfl) rfl ?_
      refine vl_det (det_extract rfl rfl) rfl ?_
      refine vl_det (det_extract rfl rfl) rfl ?_
      refine vl_det (det_assign rfl) rfl ?_
      refine vl_det (det_assign rfl) rfl ?_
      refine vl_end [(0, _), (2, _), (9, _), (10, _), (13, _), (14, _), (16, _), (17, _), (18, _), (45, _), (46, _), (47, _)] ⟨rfl, rfl, rfl, rfl, rfl, rfl, rfl, rfl, rfl, rfl, rfl, rfl, trivial⟩ ?_
      refine then_next ?_
      refine vc_seq ?_
      refine vc_seq ?_
      refine vc_region ?_
      refine vl_det (det_move rfl) rfl ?_
      refine vl_det (det_neq rfl rfl) rfl ?_
      refine vl_end [(0, _), (2, _), (9, _), (10, _), (13, _), (14, _), (16, _), (17, _), (18, _), (45, _), (46, _), (47, _), (57, _)] ⟨rfl, rfl, rfl, rfl, rfl, rfl, rfl, rfl, rfl, rfl, rfl, rfl, rfl, trivial⟩ ?_
      refine then_next ?_
      refine vc_decideU rfl (fun h57 => ?_) (fun h57 => ?_)
      · skip
        have hnz : ¬ Z q pos < q.length := fun h => h57 (by unfold unR; rw [if_pos h])
        have hr1 : unR q pos = 1 := by unfold unR; rw [if_neg hnz]
        rw [if_pos hnz] at hG
        have hz := hEe (by rw [← hG]; decide)
        rw [← hG] at hz
        refine vc_seq ?_
        refine vc_region ?_
        refine vl_det (det_move rfl) rfl ?_
        refine vl_det (det_assign rfl) rfl ?_
        refine vl_det (det_assign rfl) rfl ?_
        refine vl_det (det_assign rfl) rfl ?_
        refine vl_end [(6, _), (7, _), (8, _)] ⟨rfl, rfl, rfl, trivial⟩ ?_
        refine then_next ?_
        refine vc_ret ?_
        refine then_ret ?_
        refine in_ret ?_
        refine then_ret ?_
        refine loop_ret ?_
        refine in_ret ?_
        refine then_ret ?_
        refine ret_wk (L' := F) (.skip (.skip (.skip (.skip (.skip (.skip (.refl _))))))) ?_
        refine ret3_ rfl rfl rfl rfl ?_
        exact .inl ⟨by rw [hz]; decide, by rw [hz, hr1], rfl⟩
      · skip
        have hnz : Z q pos < q.length := Classical.byContradiction fun h => h57 (by unfold unR; rw [if_neg h]; decide)
        have hv : unV q pos = ((Z q pos - pos : Nat) : Int) := by unfold unV; rw [if_pos hnz]; omega
        have hu : unP q pos = Z q pos + 1 := by unfold unP; rw [if_pos hnz]
        rw [hv, hu]
        rw [if_neg (by simpa using hnz)] at hG
        obtain ⟨h2, hh2⟩ : ∃ h2, h2 = high + (Z q pos - pos) := ⟨_, rfl⟩
        rw [← hh2] at hG
        have hmul : h2 * p ≤ 1000000 * 16384 := Nat.mul_le_mul (by omega) hpb
        obtain ⟨id, hid⟩ : ∃ id, id = h2 * p + x := ⟨_, rfl⟩
        rw [← hid] at hG
        refine vc_skip ?_
        refine then_next ?_
        refine vc_seq ?_
        refine vc_region ?_
        refine vl_det (det_move rfl) rfl ?_
        refine vl_det (det_move rfl) rfl ?_
        refine vl_det (det_add rfl rfl (r := (h2 : Int)) ((w_i64 (by omega) (by omega)).trans (by omega))) rfl ?_
        refine vl_det (det_assign rfl) rfl ?_
        refine vl_end [(0, _), (2, _), (9, _), (10, _), (13, _), (14, _), (16, _), (45, _), (46, _), (47, _)] ⟨rfl, rfl, rfl, rfl, rfl, rfl, rfl, rfl, rfl, rfl, trivial⟩ ?_
        refine then_next ?_
        refine vc_seq ?_
        refine vc_region ?_
        refine vl_det (det_move rfl) rfl ?_
        refine vl_det (det_move rfl) rfl ?_
        refine vl_det (det_nilCheck rfl) rfl ?_
        refine vl_det (det_fieldAddr_ Tryz.underlying122 rfl (by kernel_rfl) rfl rfl) rfl ?_
        refine vl_det (det_fieldAddr_ Tryz.underlying73 rfl (by kernel_rfl) rfl rfl) rfl ?_
        refine vl_det (det_load_blk (by kernel_rfl) rfl (by repeat (first | exact .hd | apply Sel.tl)) rfl) rfl ?_
        refine vl_det (det_shl rfl rfl (by omega) (shlP hp hwl (by omega))) rfl ?_
        refine vl_det (det_move rfl) rfl ?_
        refine vl_det (det_conv Tryz.underlying79 Tryz.underlying3 rfl (w_i64 (by omega) (by omega))) rfl ?_
        refine vl_det (det_or rfl rfl (r := (id : Int)) ((orQ hp hxl (by omega) hpb).trans (by rw [hid]))) rfl ?_
        refine vl_det (det_assign rfl) rfl ?_
        refine vl_end [(0, _), (2, _), (9, _), (10, _), (13, _), (14, _), (19, _), (45, _), (46, _), (47, _)] ⟨rfl, rfl, rfl, rfl, rfl, rfl, rfl, rfl, rfl, rfl, trivial⟩ ?_
        refine then_next ?_
        refine vc_seq ?_
        refine vc_block ?_
        refine vc_seq ?_
        refine vc_region ?_
        refine vl_det (det_move rfl) rfl ?_
        refine vl_det (det_move rfl) rfl ?_
        refine vl_det (det_leq rfl rfl) rfl ?_
        refine vl_det (det_assign rfl) rfl ?_
        refine vl_end [(0, _), (2, _), (9, _), (10, _), (13, _), (19, _), (45, _), (46, _), (47, _), (72, _)] ⟨rfl, rfl, rfl, rfl, rfl, rfl, rfl, rfl, rfl, rfl, trivial⟩ ?_
        refine then_next ?_
        refine vc_decideU rfl (fun h72 => ?_) (fun h72 => ?_)
        · skip
          rw [if_pos (by omega)] at hG
          have hz := hEe (by rw [← hG]; decide)
          rw [← hG] at hz
          refine vc_seq ?_
          refine vc_region ?_
          refine vl_det (det_assign rfl) rfl ?_
          refine vl_det (det_assign rfl) rfl ?_
          refine vl_det (det_assign rfl) rfl ?_
          refine vl_end [(6, _), (7, _), (8, _)] ⟨rfl, rfl, rfl, trivial⟩ ?_
          refine then_next ?_
          refine vc_ret ?_
          refine in_ret ?_
          refine then_ret ?_
          refine in_ret ?_
          refine then_ret ?_
          refine loop_ret ?_
          refine in_ret ?_
          refine then_ret ?_
          refine ret_wk (L' := F) (.skip (.skip (.skip (.skip (.skip (.skip (.refl _))))))) ?_
          refine ret3_ rfl rfl rfl rfl ?_
          exact .inl ⟨by rw [hz]; decide, by rw [hz], rfl⟩
        · skip
          rw [if_neg (by omega)] at hG
          refine vc_seq ?_
          refine vc_region ?_
          refine vl_det (det_move rfl) rfl ?_
          refine vl_det (det_move rfl) rfl ?_
          refine vl_det (det_geq rfl rfl) rfl ?_
          refine vl_det (det_assign rfl) rfl ?_
          refine vl_end [(0, _), (2, _), (9, _), (10, _), (13, _), (19, _), (45, _), (46, _), (47, _), (76, _)] ⟨rfl, rfl, rfl, rfl, rfl, rfl, rfl, rfl, rfl, rfl, trivial⟩ ?_
          refine then_next ?_
          refine vc_decideU rfl (fun h76 => ?_) (fun h76 => ?_)
          · skip
            rw [if_pos (by omega)] at hG
            have hz := hEe (by rw [← hG]; decide)
            rw [← hG] at hz
            refine vc_seq ?_
            refine vc_region ?_
            refine vl_det (det_assign rfl) rfl ?_
            refine vl_det (det_assign rfl) rfl ?_
            refine vl_det (det_assign rfl) rfl ?_
            refine vl_end [(6, _), (7, _), (8, _)] ⟨rfl, rfl, rfl, trivial⟩ ?_
            refine then_next ?_
            refine vc_ret ?_
            refine in_ret ?_
            refine then_ret ?_
            refine in_ret ?_
            refine then_ret ?_
            refine loop_ret ?_
            refine in_ret ?_
            refine then_ret ?_
            refine ret_wk (L' := F) (.skip (.skip (.skip (.skip (.skip (.skip (.refl _))))))) ?_
            refine ret3_ rfl rfl rfl rfl ?_
            exact .inl ⟨by rw [hz]; decide, by rw [hz], rfl⟩
          · skip
            rw [if_neg (by omega)] at hG
            have hh2p : h2 ≤ h2 * p := Nat.le_mul_of_pos_right h2 hp0
            refine vc_skip ?_
            refine in_normal ?_
            refine then_next ?_
            refine vc_seq ?_
            refine vc_region ?_
            refine vl_det (det_move rfl) rfl ?_
            refine vl_det (det_assign rfl) rfl ?_
            refine vl_end [(0, _), (2, _), (9, _), (10, _), (13, _), (14, _), (19, _), (45, _), (46, _), (47, _)] ⟨rfl, rfl, rfl, rfl, rfl, rfl, rfl, rfl, rfl, rfl, trivial⟩ ?_
            refine then_next ?_
            refine vc_region ?_
            refine vl_det (det_move rfl) rfl ?_
            refine vl_det (det_nilCheck rfl) rfl ?_
            refine vl_det (det_fieldAddr_ Tryz.underlying122 rfl (by kernel_rfl) rfl rfl) rfl ?_
            refine vl_det (det_move rfl) rfl ?_
            refine vl_call co32 rfl ((padd_d 122 hp hwl out id (by omega) (by omega)).perm ((pu2 (pu2 (pu2 (pu0 (pu0 (.refl _)))))))) rfl ?_
            rintro _ _ ⟨rfl, P85, p85, Q85, q85, hLL⟩
            obtain rfl := hLL.symm
            refine vl_end [(0, _), (2, _), (9, _), (10, _), (13, _), (14, _), (45, _), (46, _), (47, _)] ⟨rfl, rfl, rfl, rfl, rfl, rfl, rfl, rfl, rfl, trivial⟩ ?_
            refine in_normal ?_
            refine then_next ?_
            refine vc_region ?_
            refine vl_det (det_add rfl rfl (w_i64 (by omega) (by omega))) rfl ?_
            refine vl_det (det_move rfl) rfl ?_
            refine vl_end [(0, _), (2, _), (9, _), (10, _), (13, _), (14, _), (45, _), (46, _), (47, _)] ⟨rfl, rfl, rfl, rfl, rfl, rfl, rfl, rfl, rfl, trivial⟩ ?_
            refine in_loop_ ⟨_, by omega, k + 1, Z q pos + 1, h2, (id : Int), out ++ [id], P85, p85, Q85, q85, ⟨by omega, by omega, by omega, by simp; omega, hG⟩, rfl, ⟨(by first | rfl | exact int_to (by omega) | exact sl_to (by omega)), (by first | rfl | exact int_to (by omega) | exact sl_to (by omega)), (by first | rfl | exact int_to (by omega) | exact sl_to (by omega)), (by first | rfl | exact int_to (by omega) | exact sl_to (by omega)), (by first | rfl | exact int_to (by omega) | exact sl_to (by omega)), (by first | rfl | exact int_to (by omega) | exact sl_to (by omega)), (by first | rfl | exact int_to (by omega) | exact sl_to (by omega)), (by first | rfl | exact int_to (by omega) | exact sl_to (by omega)), (by first | rfl | exact int_to (by omega) | exact sl_to (by omega)), trivial⟩, (wu3 (wu3 (wu0 (wu0 (wu0 (.refl _))))))⟩
    · skip
      obtain rfl : k = m := by omega
      rw [List.drop_of_length_le (by omega), rwF] at hG
      rw [← hG] at hEp hEo hRest
      simp only at hRest
      obtain ⟨rest, hrest⟩ : ∃ rest, rest = efRest bound k b := ⟨_, rfl⟩
      rw [← hrest] at hRest hEp hEo
      have hrm : ((q.length : Int) - pos).tmod 8 = (rest : Int) := by
        rw [show (q.length : Int) - pos = ((q.length - pos : Nat) : Int) by omega, hRest]
        exact (Int.ofNat_tmod _ 8).symm
      have hrl : rest < 8 := by omega
      refine vc_exit ?_
      refine then_exit ?_
      refine loop_exit ?_
      refine in_eq ?_
      refine then_next ?_
      refine vc_seqJ (fun zf zL => (part q pos rest = 0) ∧ Sub zf [(2, .slice A b.length c), (9, .pointer (some ⟨g24, 0, none⟩)), (10, .pointer (some ⟨g30, 0, none⟩))] ∧ Wk zL (Rr g24 A24 c24 q (pos + rest) (Pt g30 122 w p P1 p1 P2 p2 out (.own 79 1 A39 k c39 (u16v (loR q w k)) :: F)))) ?_ ?_
      · skip
        refine vc_seq ?_
        refine vc_region ?_
        refine vl_det (det_move rfl) rfl ?_
        refine vl_call co84 rfl (left_d q pos hpos (by omega)) rfl ?_
        rintro _ _ ⟨rfl, hLL⟩
        obtain rfl := hLL.symm
        refine vl_det (det_rem rfl rfl (by omega) hrm) rfl ?_
        refine vl_det (det_assign rfl) rfl ?_
        refine vl_end [(2, _), (9, _), (10, _), (20, _)] ⟨rfl, rfl, rfl, rfl, trivial⟩ ?_
        refine then_next ?_
        refine vc_seq ?_
        refine vc_region ?_
        refine vl_det (det_move rfl) rfl ?_
        refine vl_det (det_gtr rfl rfl) rfl ?_
        refine vl_end [(2, _), (9, _), (10, _), (20, _), (91, _)] ⟨rfl, rfl, rfl, rfl, rfl, trivial⟩ ?_
        refine then_next ?_
        refine vc_decideU rfl (fun h91 => ?_) (fun h91 => ?_)
        · skip
          have hgv : gtV q pos rest = part q pos rest := by unfold gtV; rw [if_neg (by omega), if_neg (by omega), Int.toNat_natCast]
          have hgp : gtP q pos rest = pos + rest := by unfold gtP; rw [if_neg (by omega), if_neg (by omega), Int.toNat_natCast]
          refine vc_seq ?_
          refine vc_region ?_
          refine vl_det (det_move rfl) rfl ?_
          refine vl_det (det_move rfl) rfl ?_
          refine vl_call co85 rfl (get_d q pos hpos (by omega) rest (by omega) (by omega)) rfl ?_
          rintro _ _ ⟨rfl, hLL⟩
          obtain rfl := hLL.symm
          rw [hgv, hgp]
          refine vl_det (det_move rfl) rfl ?_
          refine vl_det (det_extract rfl rfl) rfl ?_
          refine vl_det (det_extract rfl rfl) rfl ?_
          refine vl_det (det_assign rfl) rfl ?_
          refine vl_det (det_assign rfl) rfl ?_
          refine vl_end [(2, _), (9, _), (10, _), (21, _)] ⟨rfl, rfl, rfl, rfl, trivial⟩ ?_
          refine then_next ?_
          refine vc_seq ?_
          refine vc_region ?_
          refine vl_det (det_move rfl) rfl ?_
          refine vl_det (det_neq rfl rfl) rfl ?_
          refine vl_end [(2, _), (9, _), (10, _), (99, _)] ⟨rfl, rfl, rfl, rfl, trivial⟩ ?_
          refine then_next ?_
          refine vc_decideU rfl (fun h99 => ?_) (fun h99 => ?_)
          · skip
            have hz := hEp (by simp) (show part q pos rest ≠ 0 by omega)
            refine vc_seq ?_
            refine vc_region ?_
            refine vl_det (det_assign rfl) rfl ?_
            refine vl_det (det_assign rfl) rfl ?_
            refine vl_det (det_assign rfl) rfl ?_
            refine vl_end [(6, _), (7, _), (8, _)] ⟨rfl, rfl, rfl, trivial⟩ ?_
            refine then_next ?_
            refine vc_ret ?_
            refine join_ret ?_
            refine ret_wk (L' := F) (.skip (.skip (.skip (.skip (.skip (.skip (.refl _))))))) ?_
            refine ret3_ rfl rfl rfl rfl ?_
            exact .inl ⟨by rw [hz]; decide, by rw [hz], rfl⟩
          · skip
            refine vc_skip ?_
            exact in_join ⟨by omega, ⟨(by first | rfl | exact int_to (by omega) | exact sl_to (by omega)), (by first | rfl | exact int_to (by omega) | exact sl_to (by omega)), (by first | rfl | exact int_to (by omega) | exact sl_to (by omega)), trivial⟩, .refl _⟩
        · skip
          refine vc_skip ?_
          have hr0 : rest = 0 := by omega
          exact in_join ⟨by rw [hr0]; rfl, ⟨(by first | rfl | exact int_to (by omega) | exact sl_to (by omega)), (by first | rfl | exact int_to (by omega) | exact sl_to (by omega)), (by first | rfl | exact int_to (by omega) | exact sl_to (by omega)), trivial⟩, by rw [hr0, Nat.add_zero]; exact .refl _⟩
      · rintro _ _ ⟨hpz, hs, hp⟩
        refine vc_weaken _ hs (vc_wk hp ?_)
        clear hs hp
        refine vc_seq ?_
        refine vc_region ?_
        refine vl_det (det_move rfl) rfl ?_
        refine vl_det (det_move rfl) rfl ?_
        refine vl_det (det_len_sl Tryz.underlying26 rfl) rfl ?_
        refine vl_det (det_move rfl) rfl ?_
        refine vl_call co84 rfl (left_d q (pos + rest) (by omega) (by omega)) rfl ?_
        rintro _ _ ⟨rfl, hLL⟩
        obtain rfl := hLL.symm
        refine vl_det (det_quo rfl rfl (by omega) (r := (((q.length - (pos + rest)) / 8 : Nat) : Int)) (by rw [show (q.length : Int) - ((pos + rest : Nat) : Int) = ((q.length - (pos + rest) : Nat) : Int) by omega]; exact quo8 (by omega))) rfl ?_
        refine vl_det (det_sub rfl rfl (r := ((b.length - (q.length - (pos + rest)) / 8 : Nat) : Int)) ((w_i64 (by omega) (by omega)).trans (by omega))) rfl ?_
        refine vl_det (det_assign rfl) rfl ?_
        refine vl_det (det_assign rfl) rfl ?_
        refine vl_det (det_assign rfl) rfl ?_
        refine vl_end [(6, _), (7, _), (8, _)] ⟨rfl, rfl, rfl, trivial⟩ ?_
        refine then_next ?_
        refine vc_ret ?_
        have hz := hEo (by simp) (by simpa using hpz)
        refine ret_wk (L' := Pt g30 122 w p P1 p1 P2 p2 out F) ((wu2 (wu2 (wu2 (.skip (.skip (.skip (.refl _)))))))) ?_
        refine ret3_ rfl rfl rfl rfl ?_
        exact .inr ⟨by rw [hz], g30, P1, p1, P2, p2, by rw [hz], by rw [hz]⟩
end Go.Proofs.YtpamjobiohbibaaGreat
namespace Go.Proofs.YtpamjobiohbibaaGreat
open Go.RowKit
set_option linter.unusedVariables false
set_option maxRecDepth 20000
variable {B : Nat} {w0 : World} {F : List Ch} {A A1 A2 : Option Addr} {n c c1 c2 g : Nat}
theorem Does.reperm {P : Program} {B : Nat} {w0 : World} {f : FuncId} {args : List Value} {L M : List Ch} {v : Value} (h : Does P B w0 f args M (fun r K => r = v ∧ K = M)) (hp : L.Perm M) : Does P B w0 f args L (fun r K => r = v ∧ K = L) := fun w hw =>
  (h w (hw.perm hp)).mono fun e w' ⟨r, K, he, ⟨hr, hK⟩, hs⟩ => by subst hK; exact ⟨r, L, he, ⟨hr, rfl⟩, hs.perm hp.symm⟩
end Go.Proofs.YtpamjobiohbibaaGreat
namespace Go.Proofs.YtpamjobiohbibaaGreat
open Go.RowKit
set_option linter.unusedVariables false
set_option maxRecDepth 20000
variable {B : Nat} {w0 : World} {F : List Ch} {A A1 A2 : Option Addr} {n c c1 c2 g : Nat}
abbrev Rl (g w p : Nat) (A1 : Option Addr) (c1 : Nat) (A2 : Option Addr) (c2 : Nat) (xs : List Nat) (F : List Ch) : List Ch := Pt g 122 w p A1 c1 A2 c2 xs F
theorem llen_d {w p : Nat} {xs : List Nat} : Does Tryz.prog B w0 44 [.pointer (some ⟨g, 0, none⟩)] (Rl g w p A1 c1 A2 c2 xs F) (fun r L => r = .int .i64 xs.length ∧ L = Rl g w p A1 c1 A2 c2 xs F) := by
  refine fn_walk Tryz.func44 11 rfl rfl rfl [(0, .pointer (some ⟨g, 0, none⟩))] ⟨⟨rfl, rfl⟩, trivial⟩ ?_
  refine vc_seq ?_
  refine vc_region ?_
  refine vl_det (det_assign rfl) rfl ?_
  refine vl_end [(0, _)] ⟨rfl, trivial⟩ ?_
  refine then_next ?_
  refine vc_seq ?_
  refine vc_seq ?_
  refine vc_region ?_
  refine vl_det (det_move rfl) rfl ?_
  refine vl_det (det_ptr_nil Tryz.underlying93 rfl rfl) rfl ?_
  refine vl_end [(0, _), (4, _)] ⟨rfl, rfl, trivial⟩ ?_
  refine then_next ?_
  refine vc_cond_f rfl ?_
  refine vc_skip ?_
  refine then_next ?_
  refine vc_seq ?_
  refine vc_region ?_
  refine vl_det (det_move rfl) rfl ?_
  refine vl_det (det_nilCheck rfl) rfl ?_
  refine vl_det (det_fieldAddr_ Tryz.underlying122 rfl (by kernel_rfl) rfl rfl) rfl ?_
  refine vl_det (det_fieldAddr_ Tryz.underlying73 rfl (by kernel_rfl) rfl rfl) rfl ?_
  refine vl_det (det_load_blk (by kernel_rfl) rfl (by repeat (first | exact .hd | apply Sel.tl)) rfl) rfl ?_
  refine vl_det (det_len_sl Tryz.underlying42 rfl) rfl ?_
  refine vl_det (det_assign rfl) rfl ?_
  refine vl_end [(2, _)] ⟨rfl, trivial⟩ ?_
  refine then_next ?_
  refine vc_ret ?_
  refine ret1 rfl rfl ?_
  exact ⟨rfl, rfl⟩
/-- the place of the first number that isn't below x -/
def nxK (xs : List Nat) (x : Int) (k : Nat) : Prop := k ≤ xs.length ∧ (∀ i, i < k → ((xs.getD i 0 : Nat) : Int) < x) ∧ (∀ i, k ≤ i → i < xs.length → x ≤ ((xs.getD i 0 : Nat) : Int))
theorem RisN.mono {bound : Nat} {xs : List Nat} (h : RisN bound xs) : ∀ j i, i ≤ j → j < xs.length → xs.getD i 0 ≤ xs.getD j 0
  | 0, i, hij, _ => by rw [Nat.le_zero.1 hij]; exact Nat.le_refl _
  | j + 1, i, hij, hj => by
    by_cases e : i = j + 1
    · rw [e]; exact Nat.le_refl _
    · have h1 := RisN.mono h j i (by omega) (by omega)
      have h2 := (h (j + 1) hj).2 (by omega)
      rw [Nat.add_sub_cancel] at h2
      omega
theorem lall_d {w p : Nat} (hp : p = 2 ^ w) (hw : w ≤ 14) {xs : List Nat} (hx : ∀ i, i < xs.length → xs.getD i 0 ≤ 1000000) (hl : xs.length ≤ 1000000) :
    Does Tryz.prog B w0 45 [.pointer (some ⟨g, 0, none⟩)] (Rl g w p A1 c1 A2 c2 xs F) (fun r L => ∃ A' c', r = .slice A' xs.length c' ∧ L = Rl g w p A1 c1 A2 c2 xs (.own 3 1 A' xs.length c' (natv xs) :: F)) := by
  refine fn_walk Tryz.func45 20 rfl rfl rfl [(0, .pointer (some ⟨g, 0, none⟩))] ⟨⟨rfl, rfl⟩, trivial⟩ ?_
  refine vc_seq ?_
  refine vc_region ?_
  refine vl_det (det_assign rfl) rfl ?_
  refine vl_end [(0, _)] ⟨rfl, trivial⟩ ?_
  refine then_next ?_
  refine vc_seq ?_
  refine vc_nil_row 3 1 none ?_
  refine vc_region ?_
  refine vl_det (det_assign rfl) rfl ?_
  refine vl_end [(0, _), (3, _)] ⟨rfl, rfl, trivial⟩ ?_
  refine then_next ?_
  refine vc_seq ?_
  refine vc_seq ?_
  refine vc_region ?_
  refine vl_det (det_move rfl) rfl ?_
  refine vl_call co44 rfl ((llen_d (w := w) (p := p) (xs := xs)).reperm ((pu1 (pu1 (pu1 (pu0 (.refl _))))))) rfl ?_
  rintro _ _ ⟨rfl, hLL⟩
  obtain rfl := hLL.symm
  refine vl_det (det_move rfl) rfl ?_
  refine vl_end [(0, _), (3, _), (6, _), (7, _)] ⟨rfl, rfl, rfl, rfl, trivial⟩ ?_
  refine then_next ?_
  refine vc_block ?_
  refine vc_loopJ (fun zf zL zm => ∃ (k : Nat) (A5 : Option Addr) (c5 : Nat), (k ≤ xs.length) ∧ xs.length - k = zm ∧ Sub zf [(0, .pointer (some ⟨g, 0, none⟩)), (3, .slice A5 k c5), (6, .int .i64 xs.length), (7, .int .i64 k)] ∧ Wk zL (Rl g w p A1 c1 A2 c2 xs (.own 3 1 A5 k c5 (natv (xs.take k)) :: F))) _ ⟨0, none, 0, Nat.zero_le _, rfl, ⟨(by first | rfl | exact int_to (by omega) | exact sl_to (by omega)), (by first | rfl | exact int_to (by omega) | exact sl_to (by omega)), (by first | rfl | exact int_to (by omega) | exact sl_to (by omega)), (by first | rfl | exact int_to (by omega) | exact sl_to (by omega)), trivial⟩, (wu1 (wu1 (wu1 (wu0 (.refl _)))))⟩ ?_
  rintro _ _ _ ⟨k, A5, c5, hk, rfl, hs, hp⟩
  refine vc_weaken _ hs (vc_wk hp ?_)
  clear hs hp
  refine vc_seq ?_
  refine vc_region ?_
  refine vl_det (det_lss rfl rfl) rfl ?_
  refine vl_end [(0, _), (3, _), (6, _), (7, _), (8, _)] ⟨rfl, rfl, rfl, rfl, rfl, trivial⟩ ?_
  refine then_next ?_
  refine vc_seq ?_
  refine vc_decideU rfl (fun h8 => ?_) (fun h8 => ?_)
  · skip
    refine vc_skip ?_
    refine then_next ?_
    refine vc_seq ?_
    refine vc_block ?_
    refine vc_seq ?_
    refine vc_region ?_
    refine vl_det (det_move rfl) rfl ?_
    refine vl_det (det_assign rfl) rfl ?_
    refine vl_end [(0, _), (3, _), (4, _), (6, _), (7, _)] ⟨rfl, rfl, rfl, rfl, rfl, trivial⟩ ?_
    refine then_next ?_
    refine vc_region ?_
    refine vl_det (det_move rfl) rfl ?_
    refine vl_det (det_move rfl) rfl ?_
    refine vl_det (det_nilCheck rfl) rfl ?_
    refine vl_det (det_fieldAddr_ Tryz.underlying122 rfl (by kernel_rfl) rfl rfl) rfl ?_
    refine vl_det (det_move rfl) rfl ?_
    refine vl_call co69 rfl (num_d' 122 hp hw xs k (by omega) (hx k (by omega))) rfl ?_
    rintro _ _ ⟨rfl, hLL⟩
    obtain rfl := hLL.symm
    refine vl_push slT42 rfl rfl rfl rfl rfl (fun _ => rfl) (by repeat (first | exact .hd | apply Sel.tl)) (by omega) (by omega) ?_
    intro _ A17 c17
    refine vl_det (det_assign rfl) rfl ?_
    refine vl_end [(0, _), (3, _), (6, _), (7, _)] ⟨rfl, rfl, rfl, rfl, trivial⟩ ?_
    refine in_normal ?_
    refine then_next ?_
    refine vc_region ?_
    refine vl_det (det_add rfl rfl (w_i64 (by omega) (by omega))) rfl ?_
    refine vl_det (det_move rfl) rfl ?_
    refine vl_end [(0, _), (3, _), (6, _), (7, _)] ⟨rfl, rfl, rfl, rfl, trivial⟩ ?_
    refine in_loop_ ⟨_, by omega, k + 1, A17, c17, by omega, rfl, ⟨(by first | rfl | exact int_to (by omega) | exact sl_to (by omega)), (by first | rfl | exact int_to (by omega) | exact sl_to (by omega)), (by first | rfl | exact int_to (by omega) | exact sl_to (by omega)), (by first | rfl | exact int_to (by omega) | exact sl_to (by omega)), trivial⟩, .cons (.cons (.cons (wk_own rfl (by rw [take_getD (show k < xs.length by omega) 0]; simp [natv]) (.refl _))))⟩
  · skip
    refine vc_exit ?_
    refine then_exit ?_
    refine loop_exit ?_
    refine in_eq ?_
    refine then_next ?_
    refine vc_seq ?_
    refine vc_region ?_
    refine vl_det (det_move rfl) rfl ?_
    refine vl_det (det_assign rfl) rfl ?_
    refine vl_end [(2, _)] ⟨rfl, trivial⟩ ?_
    refine then_next ?_
    refine vc_ret ?_
    obtain rfl : k = xs.length := by omega
    rw [List.take_length]
    refine ret1 rfl rfl ?_
    exact ⟨A5, c5, rfl, rfl⟩
end Go.Proofs.YtpamjobiohbibaaGreat
namespace Go.Proofs.YtpamjobiohbibaaGreat
open Go.RowKit
set_option linter.unusedVariables false
set_option maxRecDepth 20000
variable {B : Nat} {w0 : World} {F : List Ch} {A A1 A2 : Option Addr} {n c c1 c2 g : Nat} {s : Cs}
theorem cat_d : Does Tryz.prog B w0 42 [.pointer (some ⟨g, 0, none⟩)] (Cv g A c s :: F) (fun r L => r = .int .i64 s.at_ ∧ L = Cv g A c s :: F) := by
  refine fn_walk Tryz.func42 10 rfl rfl rfl [(0, .pointer (some ⟨g, 0, none⟩))] ⟨⟨rfl, rfl⟩, trivial⟩ ?_
  refine vc_seq ?_
  refine vc_region ?_
  refine vl_det (det_assign rfl) rfl ?_
  refine vl_end [(0, _)] ⟨rfl, trivial⟩ ?_
  refine then_next ?_
  refine vc_seq ?_
  refine vc_seq ?_
  refine vc_region ?_
  refine vl_det (det_move rfl) rfl ?_
  refine vl_det (det_ptr_nil Tryz.underlying83 rfl rfl) rfl ?_
  refine vl_end [(0, _), (4, _)] ⟨rfl, rfl, trivial⟩ ?_
  refine then_next ?_
  refine vc_cond_f rfl ?_
  refine vc_skip ?_
  refine then_next ?_
  refine vc_seq ?_
  refine vc_region ?_
  refine vl_det (det_move rfl) rfl ?_
  refine vl_det (det_nilCheck rfl) rfl ?_
  refine vl_det (det_fieldAddr_ Tryz.underlying115 rfl (by kernel_rfl) rfl rfl) rfl ?_
  refine vl_det (det_fieldAddr_ Tryz.underlying113 rfl (by kernel_rfl) rfl rfl) rfl ?_
  refine vl_det (det_load_blk (by kernel_rfl) rfl (by repeat (first | exact .hd | apply Sel.tl)) rfl) rfl ?_
  refine vl_det (det_assign rfl) rfl ?_
  refine vl_end [(2, _)] ⟨rfl, trivial⟩ ?_
  refine then_next ?_
  refine vc_ret ?_
  refine ret1 rfl rfl ?_
  exact ⟨rfl, rfl⟩
def rdC (bound : Int) (b : List UInt8) : Cs := Cs.int' ⟨b, 0, 0⟩ bound
def rdN (bound : Int) (b : List UInt8) : Nat := Cs.int ⟨b, 0, 0⟩ bound
def rdR (bound : Int) (b : List UInt8) : List Nat × Nat × Int := efRow bound.toNat (rdN bound b) (b.drop (rdC bound b).at_)
def efRd (bound : Int) (b : List UInt8) : List Nat × Nat × Int :=
  if bound < 0 ∨ 20000 < bound then ([], 0, 13)
  else if (rdC bound b).e ≠ 0 then ([], 0, (rdC bound b).e)
  else if rdN bound b = 0 then ([], (rdC bound b).at_, 0)
  else if (rdR bound b).2.2 ≠ 0 then ([], 0, (rdR bound b).2.2)
  else ((rdR bound b).1, (rdC bound b).at_ + (rdR bound b).2.1, 0)
theorem efRd_a {bound : Int} {b : List UInt8} (h : bound < 0 ∨ 20000 < bound) : efRd bound b = ([], 0, 13) := if_pos h
theorem efRd_b {bound : Int} {b : List UInt8} (h : ¬ (bound < 0 ∨ 20000 < bound)) (h1 : (rdC bound b).e ≠ 0) : efRd bound b = ([], 0, (rdC bound b).e) := by unfold efRd; rw [if_neg h, if_pos h1]
theorem efRd_c {bound : Int} {b : List UInt8} (h : ¬ (bound < 0 ∨ 20000 < bound)) (h1 : ¬ (rdC bound b).e ≠ 0) (h2 : rdN bound b = 0) : efRd bound b = ([], (rdC bound b).at_, 0) := by unfold efRd; rw [if_neg h, if_neg h1, if_pos h2]
theorem efRd_d {bound : Int} {b : List UInt8} (h : ¬ (bound < 0 ∨ 20000 < bound)) (h1 : ¬ (rdC bound b).e ≠ 0) (h2 : ¬ rdN bound b = 0) (h3 : (rdR bound b).2.2 ≠ 0) : efRd bound b = ([], 0, (rdR bound b).2.2) := by unfold efRd; rw [if_neg h, if_neg h1, if_neg h2, if_pos h3]
theorem efRd_e {bound : Int} {b : List UInt8} (h : ¬ (bound < 0 ∨ 20000 < bound)) (h1 : ¬ (rdC bound b).e ≠ 0) (h2 : ¬ rdN bound b = 0) (h3 : ¬ (rdR bound b).2.2 ≠ 0) : efRd bound b = ((rdR bound b).1, (rdC bound b).at_ + (rdR bound b).2.1, 0) := by unfold efRd; rw [if_neg h, if_neg h1, if_neg h2, if_neg h3]
def ReadR (bound : Int) (b : List UInt8) (F : List Ch) (r : Value) (L : List Ch) : Prop :=
  ((efRd bound b).2.2 ≠ 0 ∧ r = .tuple #[.pointer none, .int .i64 0, .int .i64 (efRd bound b).2.2] ∧ L = F) ∨
  ((efRd bound b).2.2 = 0 ∧ ∃ w p g A1 c1 A2 c2, p = 2 ^ w ∧ w ≤ 14 ∧ r = .tuple #[.pointer (some ⟨g, 0, none⟩), .int .i64 (efRd bound b).2.1, .int .i64 0] ∧ L = Rl g w p A1 c1 A2 c2 (efRd bound b).1 F)
theorem efRow_len (bound m : Nat) (b : List UInt8) : (efRow bound m b).2.1 ≤ b.length := by
  unfold efRow
  split
  · exact Nat.zero_le _
  · split
    · exact Nat.zero_le _
    · split
      · exact Nat.zero_le _
      · exact Nat.sub_le ..
theorem row_d {bound m : Nat} {b : List UInt8} (hb : Bor B w0 F 1 (.slice A b.length c) b.length (bv b)) (hbl : b.length ≤ 100000) (hb2 : bound ≤ 20000) (hm : 1 ≤ m) (hmb : m ≤ bound) :
    Does Tryz.prog B w0 68 [.int .i64 bound, .int .i64 m, .slice A b.length c] F (RowR bound m b F) := by
  by_cases hE : (unp b).length < m * wid bound m
  · exact row_bad hb hbl hb2 hm hmb hE
  · exact row_ok hb hbl hb2 hm hmb hE
theorem efread_d {bound : Int} {b : List UInt8} (hb : Bor B w0 F 1 (.slice A b.length c) b.length (bv b)) (hbl : b.length ≤ 100000) (hbd1 : -9223372036854775808 ≤ bound) (hbd2 : bound ≤ 9223372036854775807) :
    Does Tryz.prog B w0 43 [.int .i64 bound, .slice A b.length c] F (ReadR bound b F) := by
  have ho0 : CsOk ⟨b, 0, 0⟩ := ⟨Nat.zero_le _, by simp only; omega⟩
  have ho1 : CsOk (rdC bound b) := ho0.int' hbd2
  have hrb : (rdC bound b).b = b := Cs.moved_b _ _ _
  have hat : (rdC bound b).at_ ≤ b.length := by have := ho1.at_; rw [hrb] at this; exact this
  have hnb : 0 ≤ bound → (rdN bound b : Int) ≤ bound := fun h => by
    unfold rdN Cs.int
    rw [if_neg (by simp)]
    by_cases he : (limS (Cs.rest ⟨b, 0, 0⟩) bound).2.2 = 0
    · exact (limS_facts _ bound hbd2).2.2.2 he
    · rw [(limS_err he).1]; exact h
  have hcut := hb.cut hat
  have hrl : (rdR bound b).2.1 ≤ b.length := by
    have := efRow_len bound.toNat (rdN bound b) (b.drop (rdC bound b).at_)
    rw [List.length_drop] at this
    unfold rdR; omega
  have ecut : (bv b).drop ((rdC bound b).at_ * 1) = bv (b.drop (rdC bound b).at_) := by rw [Nat.mul_one, bv_drop]
  rw [ecut, show b.length - (rdC bound b).at_ = (b.drop (rdC bound b).at_).length from (List.length_drop ..).symm] at hcut
  have hint : ∀ {g : Nat} {A' : Option Addr} {c' : Nat} {F' : List Ch}, Bor B w0 F' 1 (.slice A' b.length c') b.length (bv b) → Does Tryz.prog B w0 38 [.pointer (some ⟨g, 0, none⟩), .int .i64 bound] (Cv g A' c' ⟨b, 0, 0⟩ :: F') (fun r L => r = .int .i64 (rdN bound b) ∧ L = Cv g A' c' (rdC bound b) :: F') := fun hb' => cint_d ho0 hb' hbd1 hbd2
  by_cases hRw : (rdR bound b).2.2 = 0
  · skip
    refine fn_walk Tryz.func43 54 rfl rfl rfl [(0, .int .i64 bound), (1, .slice A b.length c)] ⟨⟨rfl, rfl⟩, ⟨rfl, rfl⟩, trivial⟩ ?_
    refine vc_seq ?_
    refine vc_region ?_
    refine vl_det (det_assign rfl) rfl ?_
    refine vl_det (det_assign rfl) rfl ?_
    refine vl_det (det_assign rfl) rfl ?_
    refine vl_end [(0, _), (1, _)] ⟨rfl, rfl, trivial⟩ ?_
    refine then_next ?_
    refine vc_seq ?_
    refine vc_seq ?_
    refine vc_region ?_
    refine vl_cut 6 18 [(0, _), (1, _)] (bound < 0 ∨ 20000 < bound) ⟨rfl, rfl, trivial⟩ ?_ ?_
    · skip
      refine vl_det (det_move rfl) rfl ?_
      refine vl_det (det_lss rfl rfl) rfl ?_
      refine vl_det (det_move rfl) rfl ?_
      refine vl_guardn rfl rfl rfl (fun h15 => ?_) (fun h15 => ?_)
      · skip
        refine vl_det (det_move rfl) rfl ?_
        refine vl_guard_t rfl rfl ?_
        refine vl_det (det_gtr rfl rfl) rfl ?_
        refine vl_det (det_pick_f rfl rfl) rfl ?_
        exact vl_cut_end ⟨rfl, rfl, trivial⟩ (by first | rfl | exact bool_to_t (by first | omega | simp_all) | exact bool_to_f (by first | omega | simp_all) | exact bool_to (by first | omega | simp_all) | exact bool_to_b (by first | omega | simp_all))
      · skip
        refine vl_guard_f rfl rfl rfl rfl ?_
        refine vl_det (det_pick_t rfl rfl) rfl ?_
        exact vl_cut_end ⟨rfl, rfl, trivial⟩ (by first | rfl | exact bool_to_t (by first | omega | simp_all) | exact bool_to_f (by first | omega | simp_all) | exact bool_to (by first | omega | simp_all) | exact bool_to_b (by first | omega | simp_all))
    · skip
      refine vl_end [(0, _), (1, _), (18, _)] ⟨rfl, rfl, rfl, trivial⟩ ?_
      refine then_next ?_
      refine vc_decideU rfl (fun h18 => ?_) (fun h18 => ?_)
      · skip
        refine vc_seq ?_
        refine vc_region ?_
        refine vl_det (det_assign rfl) rfl ?_
        refine vl_det (det_assign rfl) rfl ?_
        refine vl_det (det_assign rfl) rfl ?_
        refine vl_end [(4, _), (5, _), (6, _)] ⟨rfl, rfl, rfl, trivial⟩ ?_
        refine then_next ?_
        refine vc_ret ?_
        refine then_ret ?_
        refine ret3_ rfl rfl rfl rfl ?_
        exact .inl ⟨by rw [efRd_a h18]; decide, by rw [efRd_a h18], rfl⟩
      · skip
        obtain ⟨bn, rfl⟩ := Int.eq_ofNat_of_zero_le (show 0 ≤ bound by omega)
        have hnb' := hnb (by omega)
        refine vc_skip ?_
        refine then_next ?_
        refine vc_seq ?_
        refine vc_region ?_
        refine vl_det (det_move rfl) rfl ?_
        refine vl_call co37 rfl (cnew_d hb (by omega)) rfl ?_
        rintro _ _ ⟨g20, A20, c20, rfl, hLL⟩
        obtain rfl := hLL.symm
        refine vl_det (det_assign rfl) rfl ?_
        refine vl_end [(0, _), (1, _), (7, _)] ⟨rfl, rfl, rfl, trivial⟩ ?_
        refine then_next ?_
        refine vc_seq ?_
        refine vc_region ?_
        refine vl_det (det_move rfl) rfl ?_
        refine vl_det (det_move rfl) rfl ?_
        refine vl_call co38 rfl (hint (by first | (exact Bor.own (by repeat (first | exact List.Mem.head _ | apply List.Mem.tail))) | (repeat (first | assumption | apply Bor.cons)))) rfl ?_
        rintro _ _ ⟨rfl, hLL⟩
        obtain rfl := hLL.symm
        refine vl_det (det_assign rfl) rfl ?_
        refine vl_end [(0, _), (1, _), (7, _), (8, _)] ⟨rfl, rfl, rfl, rfl, trivial⟩ ?_
        refine then_next ?_
        refine vc_seq ?_
        refine vc_seq ?_
        refine vc_region ?_
        refine vl_det (det_move rfl) rfl ?_
        refine vl_call co39 rfl (cerr_d) rfl ?_
        rintro _ _ ⟨rfl, hLL⟩
        obtain rfl := hLL.symm
        refine vl_det (det_assign rfl) rfl ?_
        refine vl_end [(0, _), (1, _), (7, _), (8, _), (9, _)] ⟨rfl, rfl, rfl, rfl, rfl, trivial⟩ ?_
        refine then_next ?_
        refine vc_seq ?_
        refine vc_region ?_
        refine vl_det (det_move rfl) rfl ?_
        refine vl_det (det_neq rfl rfl) rfl ?_
        refine vl_end [(0, _), (1, _), (7, _), (8, _), (9, _), (27, _)] ⟨rfl, rfl, rfl, rfl, rfl, rfl, trivial⟩ ?_
        refine then_next ?_
        refine vc_decideU rfl (fun h27 => ?_) (fun h27 => ?_)
        · skip
          refine vc_seq ?_
          refine vc_region ?_
          refine vl_det (det_move rfl) rfl ?_
          refine vl_det (det_assign rfl) rfl ?_
          refine vl_det (det_assign rfl) rfl ?_
          refine vl_det (det_assign rfl) rfl ?_
          refine vl_end [(4, _), (5, _), (6, _)] ⟨rfl, rfl, rfl, trivial⟩ ?_
          refine then_next ?_
          refine vc_ret ?_
          refine then_ret ?_
          refine ret_wk (L' := F) (.skip (.skip (.refl _))) ?_
          refine ret3_ rfl rfl rfl rfl ?_
          exact .inl ⟨by rw [efRd_b h18 h27]; exact h27, by rw [efRd_b h18 h27], rfl⟩
        · skip
          refine vc_skip ?_
          refine then_next ?_
          refine vc_seq ?_
          refine vc_seq ?_
          refine vc_region ?_
          refine vl_det (det_move rfl) rfl ?_
          refine vl_det (det_eql rfl rfl) rfl ?_
          refine vl_end [(0, _), (1, _), (7, _), (8, _), (30, _)] ⟨rfl, rfl, rfl, rfl, rfl, trivial⟩ ?_
          refine then_next ?_
          refine vc_decideU rfl (fun h30 => ?_) (fun h30 => ?_)
          · skip
            refine vc_seq ?_
            refine vc_nil_row 79 1 none ?_
            refine vc_nil_row 3 1 none ?_
            refine vc_perm ((pu2 (pu2 (pu0 (pu0 (.refl _)))))) ?_
            refine vc_region ?_
            refine vl_det (det_build0 [.int .i64 0, .slice none 0 0, .slice none 0 0] (by kernel_rfl)) rfl ?_
            refine vl_eff (eff_box rfl rfl) rfl ?_
            rintro _ _ ⟨g32, rfl, rfl⟩
            refine vl_det (det_move rfl) rfl ?_
            refine vl_call co42 rfl ((cat_d).reperm ((pu1 (pu0 (.refl _))))) rfl ?_
            rintro _ _ ⟨rfl, hLL⟩
            obtain rfl := hLL.symm
            refine vl_det (det_assign rfl) rfl ?_
            refine vl_det (det_assign rfl) rfl ?_
            refine vl_det (det_assign rfl) rfl ?_
            refine vl_end [(4, _), (5, _), (6, _)] ⟨rfl, rfl, rfl, trivial⟩ ?_
            refine then_next ?_
            refine vc_ret ?_
            refine then_ret ?_
            have hz := efRd_c (b := b) h18 h27 (show rdN bn b = 0 by omega)
            refine ret_wk (L' := Rl g32 0 1 none 0 none 0 [] F) ((wu0 (wu2 (wu2 (.skip (.skip (.refl _))))))) ?_
            refine ret3_ rfl rfl rfl rfl ?_
            exact .inr ⟨by rw [hz], 0, 1, g32, none, 0, none, 0, rfl, by omega, by rw [hz], by rw [hz]⟩
          · skip
            refine vc_skip ?_
            refine then_next ?_
            refine vc_seq ?_
            refine vc_region ?_
            refine vl_det (det_move rfl) rfl ?_
            refine vl_det (det_move rfl) rfl ?_
            refine vl_det (det_move rfl) rfl ?_
            refine vl_det (det_move rfl) rfl ?_
            refine vl_call co42 rfl (cat_d) rfl ?_
            rintro _ _ ⟨rfl, hLL⟩
            obtain rfl := hLL.symm
            refine vl_det (det_slice_lo (i := (rdC bn b).at_) (size := 1) Tryz.underlying26 (by kernel_rfl) rfl rfl rfl hat) rfl ?_
            rw [show b.length - (rdC bn b).at_ = (b.drop (rdC bn b).at_).length from (List.length_drop ..).symm]
            refine vl_call co68 rfl ((row_d (bound := bn) (m := rdN bn b) (b := b.drop (rdC bn b).at_) (.cons (.cons hcut)) (by rw [List.length_drop]; omega) (by omega) (by omega) (by omega)).mono (R' := fun r L => ∃ g A1 c1 A2 c2, r = .tuple #[.pointer (some ⟨g, 0, none⟩), .int .i64 (rdR bn b).2.1, .int .i64 0] ∧ L = Rl g (wid bn (rdN bn b)) (2 ^ wid bn (rdN bn b)) A1 c1 A2 c2 (rdR bn b).1 (Cv g20 A20 c20 (rdC bn b) :: .own 5 1 A20 b.length c20 (bv b) :: F)) (fun r L h => by rcases h with ⟨h1, _⟩ | ⟨_, h⟩; exact absurd hRw h1; exact h)) rfl ?_
            rintro _ _ ⟨g42, P42, p42, Q42, q42, rfl, hLL⟩
            obtain rfl := hLL.symm
            refine vl_det (det_move rfl) rfl ?_
            refine vl_det (det_extract rfl rfl) rfl ?_
            refine vl_det (det_extract rfl rfl) rfl ?_
            refine vl_det (det_extract rfl rfl) rfl ?_
            refine vl_det (det_assign rfl) rfl ?_
            refine vl_det (det_assign rfl) rfl ?_
            refine vl_det (det_assign rfl) rfl ?_
            refine vl_end [(7, _), (10, _), (11, _), (12, _)] ⟨rfl, rfl, rfl, rfl, trivial⟩ ?_
            refine then_next ?_
            refine vc_seq ?_
            refine vc_seq ?_
            refine vc_region ?_
            refine vl_det (det_move rfl) rfl ?_
            refine vl_det (det_neq rfl rfl) rfl ?_
            refine vl_end [(7, _), (10, _), (11, _), (12, _), (47, _)] ⟨rfl, rfl, rfl, rfl, rfl, trivial⟩ ?_
            refine then_next ?_
            refine vc_decideU rfl (fun h47 => ?_) (fun h47 => ?_)
            · skip
              exfalso; exact h47 rfl
            · skip
              refine vc_skip ?_
              refine then_next ?_
              refine vc_seq ?_
              refine vc_region ?_
              refine vl_det (det_move rfl) rfl ?_
              refine vl_det (det_move rfl) rfl ?_
              refine vl_call co42 rfl ((cat_d).reperm ((pu3 (pu0 (pu0 (pu0 (.refl _))))))) rfl ?_
              rintro _ _ ⟨rfl, hLL⟩
              obtain rfl := hLL.symm
              refine vl_det (det_move rfl) rfl ?_
              refine vl_det (det_add rfl rfl (r := (((rdC bn b).at_ + (rdR bn b).2.1 : Nat) : Int)) ((w_i64 (by omega) (by omega)).trans (by omega))) rfl ?_
              refine vl_det (det_assign rfl) rfl ?_
              refine vl_det (det_assign rfl) rfl ?_
              refine vl_det (det_assign rfl) rfl ?_
              refine vl_end [(4, _), (5, _), (6, _)] ⟨rfl, rfl, rfl, trivial⟩ ?_
              refine then_next ?_
              refine vc_ret ?_
              have hz := efRd_e (b := b) h18 h27 (show ¬ rdN bn b = 0 by omega) (by simpa using hRw)
              refine ret_wk (L' := Rl g42 (wid bn (rdN bn b)) (2 ^ wid bn (rdN bn b)) P42 p42 Q42 q42 (rdR bn b).1 F) ((wu0 (wu0 (wu0 (.skip (.skip (.refl _))))))) ?_
              refine ret3_ rfl rfl rfl rfl ?_
              exact .inr ⟨by rw [hz], wid bn (rdN bn b), _, g42, P42, p42, Q42, q42, rfl, wid_le (by omega), by rw [hz], by rw [hz]⟩
  · skip
    refine fn_walk Tryz.func43 54 rfl rfl rfl [(0, .int .i64 bound), (1, .slice A b.length c)] ⟨⟨rfl, rfl⟩, ⟨rfl, rfl⟩, trivial⟩ ?_
    refine vc_seq ?_
    refine vc_region ?_
    refine vl_det (det_assign rfl) rfl ?_
    refine vl_det (det_assign rfl) rfl ?_
    refine vl_det (det_assign rfl) rfl ?_
    refine vl_end [(0, _), (1, _)] ⟨rfl, rfl, trivial⟩ ?_
    refine then_next ?_
    refine vc_seq ?_
    refine vc_seq ?_
    refine vc_region ?_
    refine vl_cut 6 18 [(0, _), (1, _)] (bound < 0 ∨ 20000 < bound) ⟨rfl, rfl, trivial⟩ ?_ ?_
    · skip
      refine vl_det (det_move rfl) rfl ?_
      refine vl_det (det_lss rfl rfl) rfl ?_
      refine vl_det (det_move rfl) rfl ?_
      refine vl_guardn rfl rfl rfl (fun h15 => ?_) (fun h15 => ?_)
      · skip
        refine vl_det (det_move rfl) rfl ?_
        refine vl_guard_t rfl rfl ?_
        refine vl_det (det_gtr rfl rfl) rfl ?_
        refine vl_det (det_pick_f rfl rfl) rfl ?_
        exact vl_cut_end ⟨rfl, rfl, trivial⟩ (by first | rfl | exact bool_to_t (by first | omega | simp_all) | exact bool_to_f (by first | omega | simp_all) | exact bool_to (by first | omega | simp_all) | exact bool_to_b (by first | omega | simp_all))
      · skip
        refine vl_guard_f rfl rfl rfl rfl ?_
        refine vl_det (det_pick_t rfl rfl) rfl ?_
        exact vl_cut_end ⟨rfl, rfl, trivial⟩ (by first | rfl | exact bool_to_t (by first | omega | simp_all) | exact bool_to_f (by first | omega | simp_all) | exact bool_to (by first | omega | simp_all) | exact bool_to_b (by first | omega | simp_all))
    · skip
      refine vl_end [(0, _), (1, _), (18, _)] ⟨rfl, rfl, rfl, trivial⟩ ?_
      refine then_next ?_
      refine vc_decideU rfl (fun h18 => ?_) (fun h18 => ?_)
      · skip
        refine vc_seq ?_
        refine vc_region ?_
        refine vl_det (det_assign rfl) rfl ?_
        refine vl_det (det_assign rfl) rfl ?_
        refine vl_det (det_assign rfl) rfl ?_
        refine vl_end [(4, _), (5, _), (6, _)] ⟨rfl, rfl, rfl, trivial⟩ ?_
        refine then_next ?_
        refine vc_ret ?_
        refine then_ret ?_
        refine ret3_ rfl rfl rfl rfl ?_
        exact .inl ⟨by rw [efRd_a h18]; decide, by rw [efRd_a h18], rfl⟩
      · skip
        obtain ⟨bn, rfl⟩ := Int.eq_ofNat_of_zero_le (show 0 ≤ bound by omega)
        have hnb' := hnb (by omega)
        refine vc_skip ?_
        refine then_next ?_
        refine vc_seq ?_
        refine vc_region ?_
        refine vl_det (det_move rfl) rfl ?_
        refine vl_call co37 rfl (cnew_d hb (by omega)) rfl ?_
        rintro _ _ ⟨g20, A20, c20, rfl, hLL⟩
        obtain rfl := hLL.symm
        refine vl_det (det_assign rfl) rfl ?_
        refine vl_end [(0, _), (1, _), (7, _)] ⟨rfl, rfl, rfl, trivial⟩ ?_
        refine then_next ?_
        refine vc_seq ?_
        refine vc_region ?_
        refine vl_det (det_move rfl) rfl ?_
        refine vl_det (det_move rfl) rfl ?_
        refine vl_call co38 rfl (hint (by first | (exact Bor.own (by repeat (first | exact List.Mem.head _ | apply List.Mem.tail))) | (repeat (first | assumption | apply Bor.cons)))) rfl ?_
        rintro _ _ ⟨rfl, hLL⟩
        obtain rfl := hLL.symm
        refine vl_det (det_assign rfl) rfl ?_
        refine vl_end [(0, _), (1, _), (7, _), (8, _)] ⟨rfl, rfl, rfl, rfl, trivial⟩ ?_
        refine then_next ?_
        refine vc_seq ?_
        refine vc_seq ?_
        refine vc_region ?_
        refine vl_det (det_move rfl) rfl ?_
        refine vl_call co39 rfl (cerr_d) rfl ?_
        rintro _ _ ⟨rfl, hLL⟩
        obtain rfl := hLL.symm
        refine vl_det (det_assign rfl) rfl ?_
        refine vl_end [(0, _), (1, _), (7, _), (8, _), (9, _)] ⟨rfl, rfl, rfl, rfl, rfl, trivial⟩ ?_
        refine then_next ?_
        refine vc_seq ?_
        refine vc_region ?_
        refine vl_det (det_move rfl) rfl ?_
        refine vl_det (det_neq rfl rfl) rfl ?_
        refine vl_end [(0, _), (1, _), (7, _), (8, _), (9, _), (27, _)] ⟨rfl, rfl, rfl, rfl, rfl, rfl, trivial⟩ ?_
        refine then_next ?_
        refine vc_decideU rfl (fun h27 => ?_) (fun h27 => ?_)
        · skip
          refine vc_seq ?_
          refine vc_region ?_
          refine vl_det (det_move rfl) rfl ?_
          refine vl_det (det_assign rfl) rfl ?_
          refine vl_det (det_assign rfl) rfl ?_
          refine vl_det (det_assign rfl) rfl ?_
          refine vl_end [(4, _), (5, _), (6, _)] ⟨rfl, rfl, rfl, trivial⟩ ?_
          refine then_next ?_
          refine vc_ret ?_
          refine then_ret ?_
          refine ret_wk (L' := F) (.skip (.skip (.refl _))) ?_
          refine ret3_ rfl rfl rfl rfl ?_
          exact .inl ⟨by rw [efRd_b h18 h27]; exact h27, by rw [efRd_b h18 h27], rfl⟩
        · skip
          refine vc_skip ?_
          refine then_next ?_
          refine vc_seq ?_
          refine vc_seq ?_
          refine vc_region ?_
          refine vl_det (det_move rfl) rfl ?_
          refine vl_det (det_eql rfl rfl) rfl ?_
          refine vl_end [(0, _), (1, _), (7, _), (8, _), (30, _)] ⟨rfl, rfl, rfl, rfl, rfl, trivial⟩ ?_
          refine then_next ?_
          refine vc_decideU rfl (fun h30 => ?_) (fun h30 => ?_)
          · skip
            refine vc_seq ?_
            refine vc_nil_row 79 1 none ?_
            refine vc_nil_row 3 1 none ?_
            refine vc_perm ((pu2 (pu2 (pu0 (pu0 (.refl _)))))) ?_
            refine vc_region ?_
            refine vl_det (det_build0 [.int .i64 0, .slice none 0 0, .slice none 0 0] (by kernel_rfl)) rfl ?_
            refine vl_eff (eff_box rfl rfl) rfl ?_
            rintro _ _ ⟨g32, rfl, rfl⟩
            refine vl_det (det_move rfl) rfl ?_
            refine vl_call co42 rfl ((cat_d).reperm ((pu1 (pu0 (.refl _))))) rfl ?_
            rintro _ _ ⟨rfl, hLL⟩
            obtain rfl := hLL.symm
            refine vl_det (det_assign rfl) rfl ?_
            refine vl_det (det_assign rfl) rfl ?_
            refine vl_det (det_assign rfl) rfl ?_
            refine vl_end [(4, _), (5, _), (6, _)] ⟨rfl, rfl, rfl, trivial⟩ ?_
            refine then_next ?_
            refine vc_ret ?_
            refine then_ret ?_
            have hz := efRd_c (b := b) h18 h27 (show rdN bn b = 0 by omega)
            refine ret_wk (L' := Rl g32 0 1 none 0 none 0 [] F) ((wu0 (wu2 (wu2 (.skip (.skip (.refl _))))))) ?_
            refine ret3_ rfl rfl rfl rfl ?_
            exact .inr ⟨by rw [hz], 0, 1, g32, none, 0, none, 0, rfl, by omega, by rw [hz], by rw [hz]⟩
          · skip
            refine vc_skip ?_
            refine then_next ?_
            refine vc_seq ?_
            refine vc_region ?_
            refine vl_det (det_move rfl) rfl ?_
            refine vl_det (det_move rfl) rfl ?_
            refine vl_det (det_move rfl) rfl ?_
            refine vl_det (det_move rfl) rfl ?_
            refine vl_call co42 rfl (cat_d) rfl ?_
            rintro _ _ ⟨rfl, hLL⟩
            obtain rfl := hLL.symm
            refine vl_det (det_slice_lo (i := (rdC bn b).at_) (size := 1) Tryz.underlying26 (by kernel_rfl) rfl rfl rfl hat) rfl ?_
            rw [show b.length - (rdC bn b).at_ = (b.drop (rdC bn b).at_).length from (List.length_drop ..).symm]
            refine vl_call co68 rfl ((row_d (bound := bn) (m := rdN bn b) (b := b.drop (rdC bn b).at_) (.cons (.cons hcut)) (by rw [List.length_drop]; omega) (by omega) (by omega) (by omega)).mono (R' := fun r L => r = .tuple #[.pointer none, .int .i64 0, .int .i64 (rdR bn b).2.2] ∧ L = Cv g20 A20 c20 (rdC bn b) :: .own 5 1 A20 b.length c20 (bv b) :: F) (fun r L h => by rcases h with ⟨_, h⟩ | ⟨h1, _⟩; exact h; exact absurd h1 hRw)) rfl ?_
            rintro _ _ ⟨rfl, hLL⟩
            obtain rfl := hLL.symm
            refine vl_det (det_move rfl) rfl ?_
            refine vl_det (det_extract rfl rfl) rfl ?_
            refine vl_det (det_extract rfl rfl) rfl ?_
            refine vl_det (det_extract rfl rfl) rfl ?_
            refine vl_det (det_assign rfl) rfl ?_
            refine vl_det (det_assign rfl) rfl ?_
            refine vl_det (det_assign rfl) rfl ?_
            refine vl_end [(7, _), (10, _), (11, _), (12, _)] ⟨rfl, rfl, rfl, rfl, trivial⟩ ?_
            refine then_next ?_
            refine vc_seq ?_
            refine vc_seq ?_
            refine vc_region ?_
            refine vl_det (det_move rfl) rfl ?_
            refine vl_det (det_neq rfl rfl) rfl ?_
            refine vl_end [(7, _), (10, _), (11, _), (12, _), (47, _)] ⟨rfl, rfl, rfl, rfl, rfl, trivial⟩ ?_
            refine then_next ?_
            refine vc_decideU rfl (fun h47 => ?_) (fun h47 => ?_)
            · skip
              refine vc_seq ?_
              refine vc_region ?_
              refine vl_det (det_move rfl) rfl ?_
              refine vl_det (det_assign rfl) rfl ?_
              refine vl_det (det_assign rfl) rfl ?_
              refine vl_det (det_assign rfl) rfl ?_
              refine vl_end [(4, _), (5, _), (6, _)] ⟨rfl, rfl, rfl, trivial⟩ ?_
              refine then_next ?_
              refine vc_ret ?_
              refine then_ret ?_
              have hz := efRd_d (b := b) h18 h27 (show ¬ rdN bn b = 0 by omega) hRw
              refine ret_wk (L' := F) (.skip (.skip (.refl _))) ?_
              refine ret3_ rfl rfl rfl rfl ?_
              exact .inl ⟨by rw [hz]; exact hRw, by rw [hz], rfl⟩
            · skip
              exfalso; exact h47 hRw
end Go.Proofs.YtpamjobiohbibaaGreat
namespace Go.Proofs.YtpamjobiohbibaaGreat
set_option linter.unusedVariables false
set_option maxRecDepth 20000
theorem bitn_left {q r : List Bool} {i : Nat} (h : i < q.length) : bitn (q ++ r) i = bitn q i := by
  simp [bitn, List.getD_eq_getElem?_getD, List.getElem?_append, h]
theorem bitn_right (q r : List Bool) (i : Nat) : bitn (q ++ r) (q.length + i) = bitn r i := by
  simp [bitn, List.getD_eq_getElem?_getD, List.getElem?_append, show ¬ q.length + i < q.length by omega]
theorem hi_bit (v n : Nat) {j : Nat} (h : j < n) : bitn (hi v n n) j = v / 2 ^ (n - 1 - j) % 2 := by
  rw [bit_of]
  simp [bitn, hi, List.getD_eq_getElem?_getD, h]
theorem part_hi (q r : List Bool) (v n : Nat) (hv : v < 2 ^ n) : ∀ m, m ≤ n → part (q ++ (hi v n n ++ r)) q.length m = v / 2 ^ (n - m)
  | 0, _ => by rw [part, Nat.sub_zero, Nat.div_eq_of_lt hv]
  | m + 1, h => by
    rw [part, part_hi q r v n hv m (by omega), bitn_right, bitn_left (by rw [hi_length]; omega), hi_bit v n (by omega), show n - m = (n - 1 - m) + 1 by omega, show n - (m + 1) = n - 1 - m by omega, Nat.pow_succ, ← Nat.div_div_eq_div_mul]
    omega
theorem part_put (q r : List Bool) (v n : Nat) (hv : v < 2 ^ n) : part (q ++ (hi v n n ++ r)) q.length n = v := by
  rw [part_hi q r v n hv n (Nat.le_refl _), Nat.sub_self, Nat.pow_zero, Nat.div_one]
theorem z_run (Q : List Bool) : ∀ m p, (∀ i, i < m → bitn Q (p + i) = 0) → bitn Q (p + m) = 1 → p + m < Q.length → Z Q p = p + m
  | 0, p, _, h1, hl => z_hit h1 hl
  | m + 1, p, h0, h1, hl => by
    have := h0 0 (by omega)
    rw [z_step (by rw [Nat.add_zero] at this; omega) (by omega), z_run Q m (p + 1) (fun i hi => by rw [show p + 1 + i = p + (i + 1) by omega]; exact h0 _ (by omega)) (by rw [show p + 1 + m = p + (m + 1) by omega]; exact h1) (by omega)]
    omega
theorem un_bit (n : Nat) {j : Nat} (h : j < n) : bitn (un n) j = 0 := by
  rw [un, bitn_left (by simpa using h)]
  simp [bitn, List.getD_eq_getElem?_getD, h]
theorem un_last (n : Nat) : bitn (un n) n = 1 := by
  have := bitn_right (List.replicate n false) [true] 0
  rw [List.length_replicate, Nat.add_zero] at this
  rw [un, this]; rfl
theorem z_un (q r : List Bool) (n : Nat) : Z (q ++ (un n ++ r)) q.length = q.length + n := by
  refine z_run _ n _ (fun i hi => ?_) ?_ ?_
  · rw [bitn_right, bitn_left (by rw [un_length]; omega), un_bit n hi]
  · rw [bitn_right, bitn_left (by rw [un_length]; omega), un_last]
  · simp [un_length]; omega
def pad (q : List Bool) : List Bool := List.replicate (8 * ((q.length + 7) / 8) - q.length) false
theorem pad_length (q : List Bool) : (pad q).length = 8 * ((q.length + 7) / 8) - q.length := by simp [pad]
theorem toNat_inj {a b : Bool} (h : a.toNat = b.toNat) : a = b := by cases a <;> cases b <;> simp_all
theorem getD_get {q : List Bool} {i : Nat} (h : i < q.length) : bitn q i = (q[i]).toNat := by simp [bitn, List.getD_eq_getElem?_getD, h]
theorem unp_of_packed (q : List Bool) : unp (packed q) = q ++ pad q := by
  apply List.ext_getElem
  · rw [unp_length, packed_length, List.length_append, pad_length]; omega
  · intro i h1 h2
    apply toNat_inj
    rw [← getD_get h1, ← getD_get h2]
    have hl : i < 8 * (packed q).length := by rw [unp_length] at h1; exact h1
    have hl' := hl
    rw [packed_length] at hl'
    have hp : ((packed q).getD (i / 8) 0).toNat = part q (8 * (i / 8)) 8 := by rw [packed, octets_get q (by omega), octet_nat]
    rw [unp_bit _ hl, hp]
    have e := part_shift q (8 * (i / 8)) (i % 8 + 1) (7 - i % 8)
    rw [show i % 8 + 1 + (7 - i % 8) = 8 by omega] at e
    rw [e, part, show 8 * (i / 8) + i % 8 = i by omega]
    have hb := bitn_le q i
    by_cases hq : i < q.length
    · rw [bitn_left hq]; omega
    · rw [bitn_out q (by omega)]
      have := bitn_right q (pad q) (i - q.length)
      rw [show q.length + (i - q.length) = i by omega] at this
      rw [this, bitn]
      have hz : (pad q).getD (i - q.length) false = false := by
        rw [pad, List.getD_eq_getElem?_getD, List.getElem?_replicate]
        split <;> rfl
      rw [hz]
      simp
/-- a call that was taken, and its bits -/
abbrev BO := UInt8 × Nat × Int
def enc (x : BO) : List Bool := if x.1.toNat % 2 = 0 then hi x.2.1 x.2.2.toNat x.2.2.toNat else un x.2.2.toNat
def acc (x : BO) : Prop := if x.1.toNat % 2 = 0 then Puts x.2.1 x.2.2 else 0 ≤ x.2.2 ∧ x.2.2 ≤ 300
def encs (M : List BO) : List Bool := M.flatMap enc
end Go.Proofs.YtpamjobiohbibaaGreat
namespace Go.Proofs.YtpamjobiohbibaaGreat
theorem ofNat_toNat (c : UInt8) (n : Nat) (h : n = c.toNat) : UInt8.ofNat n = c := by subst h; simp
/-- bytes that are a number's are that number's only bytes -/
theorem scanFrom_enc : ∀ (l : List UInt8) (i acc : Nat), (scanFrom i acc l).2.2 = 0 →
    ∃ y, (scanFrom i acc l).1 = acc + y * 128 ^ i ∧ i ≤ (scanFrom i acc l).2.1 ∧ encN y = l.take ((scanFrom i acc l).2.1 - i) ∧ (0 < i → 0 < y) ∧ (scanFrom i acc l).2.1 ≤ i + l.length := by
  intro l
  induction l with
  | nil => intro i acc h; simp [scanFrom] at h
  | cons c r ih =>
    intro i acc h
    unfold scanFrom at h ⊢
    by_cases h1 : i = 9 ∧ c.toNat ≠ 1 ∨ 0 < i ∧ c.toNat = 0
    · rw [if_pos h1] at h; simp at h
    · rw [if_neg h1] at h ⊢
      by_cases h2 : c.toNat < 128
      · rw [if_pos h2]
        refine ⟨c.toNat, ?_, by simp, ?_, by omega, by simp only [List.length_cons]; omega⟩
        · show acc + c.toNat % 128 * 128 ^ i = _
          rw [Nat.mod_eq_of_lt h2]
        · show encN c.toNat = List.take (i + 1 - i) (c :: r)
          rw [encN_lt h2, Nat.add_sub_cancel_left]
          simp
      · rw [if_neg h2] at h ⊢
        obtain ⟨y, e1, e2, e3, e4, e5⟩ := ih _ _ h
        have hy := e4 (by omega)
        refine ⟨c.toNat % 128 + 128 * y, ?_, by omega, ?_, by omega, by simp only [List.length_cons]; omega⟩
        · rw [e1, Nat.pow_succ, Nat.add_mul, Nat.add_assoc]
          congr 2
          rw [Nat.mul_comm (128 ^ i) 128, ← Nat.mul_assoc, Nat.mul_comm y 128]
        · rw [encN_ge (by omega)]
          have hc := c.toNat_lt
          rw [show (c.toNat % 128 + 128 * y) / 128 = y by omega, e3, ofNat_toNat c _ (by omega)]
          generalize hN : (scanFrom (i + 1) (acc + c.toNat % 128 * 128 ^ i) r).2.1 = N at *
          rw [show N - i = (N - (i + 1)) + 1 by omega, List.take_succ_cons]
theorem scanS_enc {l : List UInt8} (h : (scanS l).2.2 = 0) : encN (scanS l).1 = l.take (scanS l).2.1 := by
  obtain ⟨y, e1, _, e3, _⟩ := scanFrom_enc l 0 0 h
  have : (scanS l).1 = y := by unfold scanS; rw [e1]; simp
  rw [this, e3]; rfl
/-- a number's bytes are read as_ that number, whatever stands behind them -/
theorem scanFrom_back (r : List UInt8) : ∀ (n y i acc : Nat), y ≤ n → y * 128 ^ i < 18446744073709551616 → (0 < i → 0 < y) →
    scanFrom i acc (encN y ++ r) = (acc + y * 128 ^ i, i + (encN y).length, 0) := by
  intro n
  induction n with
  | zero =>
    intro y i acc hy h h0
    have hy0 : y = 0 := by omega
    subst hy0
    have hi : i = 0 := by
      rcases Nat.eq_zero_or_pos i with h' | h'
      · exact h'
      · exact absurd (h0 h') (by omega)
    subst hi
    rw [encN_lt (by omega)]
    simp [scanFrom]
  | succ n ih =>
    intro y i acc hy h h0
    have hi9 : i ≤ 9 := by
      rcases Nat.lt_or_ge 9 i with h' | h'
      · exfalso
        have h1 : (128 : Nat) ^ 10 ≤ 128 ^ i := Nat.pow_le_pow_right (by omega) (by omega)
        have e : (128 : Nat) ^ 10 = 1180591620717411303424 := by decide +kernel
        rw [e] at h1
        have h2 : 1 * 128 ^ i ≤ y * 128 ^ i := Nat.mul_le_mul_right _ (h0 (by omega))
        omega
      · exact h'
    have e9 : (128 : Nat) ^ 9 = 9223372036854775808 := by decide +kernel
    have hy9 : i = 9 → y = 1 := by
      intro hi
      rw [hi, e9] at h
      have := h0 (by omega)
      omega
    by_cases hlt : y < 128
    · rw [encN_lt hlt]
      have hu := u8n y (by omega)
      show scanFrom i acc (UInt8.ofNat y :: r) = _
      unfold scanFrom
      rw [hu, if_neg (by omega), if_pos hlt, Nat.mod_eq_of_lt hlt]
      rfl
    · rw [encN_ge (by omega)]
      have hu := u8n (128 + y % 128) (by omega)
      show scanFrom i acc (UInt8.ofNat (128 + y % 128) :: (encN (y / 128) ++ r)) = _
      unfold scanFrom
      rw [hu, if_neg (by omega), if_neg (by omega), show (128 + y % 128) % 128 = y % 128 by omega]
      have hd : y = y % 128 + 128 * (y / 128) := by omega
      have hm : y * 128 ^ i = y % 128 * 128 ^ i + y / 128 * 128 ^ (i + 1) := by
        conv => lhs; rw [hd, Nat.add_mul]
        rw [Nat.pow_succ, Nat.mul_comm (128 ^ i) 128, ← Nat.mul_assoc, Nat.mul_comm (y / 128) 128]
      rw [ih (y / 128) (i + 1) _ (by omega) (by omega) (by omega), hm]
      simp only [List.length_cons]
      rw [show acc + y % 128 * 128 ^ i + y / 128 * 128 ^ (i + 1) = acc + (y % 128 * 128 ^ i + y / 128 * 128 ^ (i + 1)) by omega, show i + 1 + (encN (y / 128)).length = i + ((encN (y / 128)).length + 1) by omega]
theorem scanS_back (x : Nat) (hx : x < 18446744073709551616) (r : List UInt8) : scanS (encN x ++ r) = (x, (encN x).length, 0) := by
  have := scanFrom_back r x x 0 0 (Nat.le_refl _) (by simpa using hx) (by omega)
  simpa [scanS] using this
end Go.Proofs.YtpamjobiohbibaaGreat
namespace Go.Proofs.YtpamjobiohbibaaGreat
open Go.RowKit
set_option linter.unusedVariables false
set_option maxRecDepth 20000
theorem bitn_ext {a b : List Bool} (hl : a.length = b.length) (h : ∀ i, i < a.length → bitn a i = bitn b i) : a = b := by
  apply List.ext_getElem hl
  intro i h1 h2
  apply toNat_inj
  rw [← getD_get h1, ← getD_get h2]
  exact h i h1
theorem bitn_take {q : List Bool} {n i : Nat} (h : i < n) : bitn (q.take n) i = bitn q i := by
  simp [bitn, List.getD_eq_getElem?_getD, h]
theorem unp_append (a b : List UInt8) : unp (a ++ b) = unp a ++ unp b := by
  refine bitn_ext (by simp [unp_length]; omega) (fun i hi => ?_)
  rw [unp_length, List.length_append] at hi
  rw [unp_bit _ (by rw [List.length_append]; exact hi)]
  by_cases h : i < 8 * a.length
  · rw [bitn_left (by rw [unp_length]; exact h), unp_bit _ h]
    congr 2
    rw [List.getD_eq_getElem?_getD, List.getD_eq_getElem?_getD, List.getElem?_append_left (by omega)]
  · have e := bitn_right (unp a) (unp b) (i - 8 * a.length)
    rw [unp_length, show 8 * a.length + (i - 8 * a.length) = i by omega] at e
    rw [e, unp_bit _ (by omega), show (i - 8 * a.length) % 8 = i % 8 by omega, show (i - 8 * a.length) / 8 = i / 8 - a.length by omega]
    congr 2
    rw [List.getD_eq_getElem?_getD, List.getD_eq_getElem?_getD, List.getElem?_append_right (by omega)]
theorem unp_take (l : List UInt8) {k : Nat} (h : k ≤ l.length) : unp (l.take k) = (unp l).take (8 * k) := by
  have e : unp l = unp (l.take k) ++ unp (l.drop k) := by rw [← unp_append, List.take_append_drop]
  rw [e, List.take_left' (by rw [unp_length, List.length_take]; omega)]
theorem hi_zeros (m : Nat) : hi 0 m m = List.replicate m false := by
  apply List.ext_getElem
  · simp [hi]
  · intro i h1 h2; simp [hi]
theorem part_zeros (q r : List Bool) (m : Nat) : part (q ++ (List.replicate m false ++ r)) q.length m = 0 := by
  rw [← hi_zeros]; exact part_put q r 0 m (Nat.two_pow_pos m)
theorem take_part (q : List Bool) (i m : Nat) (h : i + m ≤ q.length) : q.take (i + m) = q.take i ++ hi (part q i m) m m := by
  refine bitn_ext (by simp [hi_length]; omega) (fun k hk => ?_)
  rw [List.length_take] at hk
  rw [bitn_take (by omega)]
  by_cases hlt : k < i
  · rw [bitn_left (by rw [List.length_take]; omega), bitn_take hlt]
  · have e := bitn_right (q.take i) (hi (part q i m) m m) (k - i)
    rw [List.length_take, Nat.min_eq_left (by omega), show i + (k - i) = k by omega] at e
    rw [e, hi_bit _ _ (by omega)]
    have e2 := part_shift q i (k - i + 1) (m - 1 - (k - i))
    rw [show k - i + 1 + (m - 1 - (k - i)) = m by omega] at e2
    rw [e2, part, show i + (k - i) = k by omega]
    have := bitn_le q k
    omega
theorem take_un (q : List Bool) : ∀ m pos, q.length - pos ≤ m → Z q pos < q.length → q.take (Z q pos + 1) = q.take pos ++ un (Z q pos - pos)
  | 0, pos, h, hz => absurd hz (by rw [z_end (by omega)]; omega)
  | m + 1, pos, h, hz => by
    by_cases hp : pos < q.length
    · by_cases hb : bitn q pos = 1
      · rw [z_hit hb hp, Nat.sub_self, take_getD hp false]
        have : q.getD pos false = true := by
          unfold bitn at hb
          cases h : q.getD pos false
          · rw [h] at hb; simp at hb
          · rfl
        rw [this]; rfl
      · have hs := z_step hb hp
        rw [hs] at hz ⊢
        have hge : pos + 1 ≤ Z q (pos + 1) := z_ge _ _ _
        rw [take_un q m (pos + 1) (by omega) hz, take_getD hp false]
        have : q.getD pos false = false := by
          unfold bitn at hb
          cases h : q.getD pos false
          · rfl
          · rw [h] at hb; simp at hb
        rw [this, show Z q (pos + 1) - pos = (Z q (pos + 1) - (pos + 1)) + 1 by omega]
        simp [un, List.replicate_succ]
    · exact absurd hz (by rw [z_end (by omega)]; omega)
/-- numbers rise above 'was', below a bound -/
def up (bound : Nat) : Int → List Nat → Prop
  | _, [] => True
  | was, x :: r => was < x ∧ x < bound ∧ up bound (x : Int) r
theorem up_of {bound : Nat} : ∀ (xs : List Nat) (was : Int), (∀ i, i < xs.length → xs.getD i 0 < bound ∧ (0 < i → xs.getD (i - 1) 0 < xs.getD i 0)) → (0 < xs.length → was < xs.getD 0 0) → up bound was xs
  | [], _, _, _ => trivial
  | x :: r, was, h, h0 => by
    refine ⟨h0 (by simp), (h 0 (by simp)).1, up_of r x (fun i hi => ?_) (fun hr => ?_)⟩
    · have := h (i + 1) (by simp; omega)
      refine ⟨this.1, fun hp => ?_⟩
      have h2 := this.2 (by omega)
      rw [Nat.add_sub_cancel] at h2
      obtain ⟨j, rfl⟩ : ∃ j, i = j + 1 := ⟨i - 1, by omega⟩
      exact h2
    · have := (h 1 (by simp; omega)).2 (by omega)
      exact Int.ofNat_lt.2 this
theorem up_iff {bound : Nat} : ∀ (xs : List Nat) (was : Int), up bound was xs → (∀ i, i < xs.length → xs.getD i 0 < bound ∧ (0 < i → xs.getD (i - 1) 0 < xs.getD i 0)) ∧ (0 < xs.length → was < xs.getD 0 0)
  | [], _, _ => ⟨fun i hi => absurd hi (by simp), fun h => absurd h (by simp)⟩
  | x :: r, was, ⟨h1, h2, h3⟩ => by
    obtain ⟨a, b⟩ := up_iff r x h3
    refine ⟨fun i hi => ?_, fun _ => h1⟩
    cases i with
    | zero => exact ⟨h2, fun h => absurd h (by omega)⟩
    | succ j =>
      have hj : j < r.length := by simp at hi; omega
      refine ⟨(a j hj).1, fun _ => ?_⟩
      cases j with
      | zero => exact Int.ofNat_lt.1 (b hj)
      | succ k => exact (a (k + 1) hj).2 (by omega)
theorem loS_get {p w : Nat} (hp : p = 2 ^ w) : ∀ (xs : List Nat) (pre R : List Bool) (i : Nat), i < xs.length → part (pre ++ (loS p w xs ++ R)) (pre.length + i * w) w = xs.getD i 0 % p
  | [], _, _, _, h => absurd h (by simp)
  | x :: r, pre, R, 0, h => by
    have := part_put pre (loS p w r ++ R) (x % p) w (by rw [hp]; exact Nat.mod_lt _ (Nat.two_pow_pos w))
    rw [Nat.zero_mul, Nat.add_zero]
    simpa [loS, List.append_assoc] using this
  | x :: r, pre, R, i + 1, h => by
    have := loS_get hp r (pre ++ hi (x % p) w w) R i (by simp at h; omega)
    rw [List.length_append, hi_length, Nat.add_assoc, show w + i * w = (i + 1) * w by rw [Nat.succ_mul]; omega] at this
    simpa [loS, List.append_assoc] using this
theorem loR_back {p w : Nat} (hp : p = 2 ^ w) (xs : List Nat) (R : List Bool) : loR (loS p w xs ++ R) w xs.length = xs.map (· % p) := by
  apply List.ext_getElem
  · simp [loR]
  · intro i h1 h2
    have h3 : i < xs.length := by simpa [loR] using h1
    have := loS_get hp xs [] R i h3
    rw [List.nil_append, List.length_nil, Nat.zero_add] at this
    simp [loR, this, List.getD_eq_getElem?_getD, h3]
theorem rw_back {bound p w : Nat} (hp : p = 2 ^ w) (q R : List Bool) : ∀ (xs : List Nat) (pre : List Bool) (high : Nat) (was : Int) (out : List Nat), q = pre ++ (unS p high xs ++ R) → up bound was xs → high = was.toNat / p →
    rwF bound p q (xs.map (· % p)) pre.length high was out = (out ++ xs, (pre ++ unS p high xs).length, 0)
  | [], pre, high, was, out, hq, hu, hh => by simp [rwF, unS]
  | x :: r, pre, high, was, out, hq, ⟨u1, u2, u3⟩, hh => by
    have hp0 : 0 < p := by rw [hp]; exact Nat.two_pow_pos w
    have hle : high ≤ x / p := by rw [hh]; exact Nat.div_le_div_right (by omega)
    have hq' : q = pre ++ (un (x / p - high) ++ (unS p (x / p) r ++ R)) := by rw [hq]; simp [unS, List.append_assoc]
    have hz : Z q pre.length = pre.length + (x / p - high) := by rw [hq']; exact z_un pre _ _
    have hlt : Z q pre.length < q.length := by rw [hz, hq']; simp [un_length]; omega
    have e1 : high + (Z q pre.length - pre.length) = x / p := by rw [hz]; omega
    have e2 : x / p * p + x % p = x := by rw [Nat.mul_comm]; exact Nat.div_add_mod x p
    have ih := rw_back hp q R r (pre ++ un (x / p - high)) (x / p) (x : Int) (out ++ [x]) (by rw [hq', List.append_assoc]) u3 (by simp)
    rw [List.map_cons, rwF, if_neg (by omega), e1, e2, if_neg (by omega), if_neg (by omega)]
    rw [show Z q pre.length + 1 = (pre ++ un (x / p - high)).length by rw [List.length_append, un_length, hz]; omega, ih]
    simp [unS, List.append_assoc]
/-- a row that was written is read -/
theorem efRow_back {bound : Nat} {xs : List Nat} (hR : RisN bound xs) (more : List UInt8) (hn : 0 < xs.length) :
    efRow bound xs.length (packed (efQ (2 ^ wid bound xs.length) (wid bound xs.length) xs) ++ more) = (xs, (packed (efQ (2 ^ wid bound xs.length) (wid bound xs.length) xs)).length, 0) := by
  obtain ⟨w, hw⟩ : ∃ w, w = wid bound xs.length := ⟨_, rfl⟩
  obtain ⟨p, hp⟩ : ∃ p, p = 2 ^ w := ⟨_, rfl⟩
  obtain ⟨Q, hQ⟩ : ∃ Q, Q = efQ p w xs := ⟨_, rfl⟩
  obtain ⟨b, hb⟩ : ∃ b, b = packed Q ++ more := ⟨_, rfl⟩
  rw [← hw, ← hp, ← hQ, ← hb]
  have hu : unp b = Q ++ (pad Q ++ unp more) := by rw [hb, unp_append, unp_of_packed, List.append_assoc]
  have hq2 : unp b = loS p w xs ++ (unS p 0 xs ++ (pad Q ++ unp more)) := by
    have e : Q = loS p w xs ++ unS p 0 xs := hQ
    rw [hu]; generalize pad Q = P; rw [e, List.append_assoc]
  have hlo : loR (unp b) w xs.length = xs.map (· % p) := by rw [hq2]; exact loR_back hp xs _
  have hF : efF bound xs.length b = (xs, Q.length, 0) := by
    unfold efF
    rw [← hw, ← hp, hlo]
    have := rw_back (bound := bound) hp (unp b) (pad Q ++ unp more) xs (loS p w xs) 0 (-1) [] hq2 (up_of xs (-1) hR (fun _ => by omega)) (by simp)
    rw [loS_length] at this
    rw [this, List.nil_append, hQ, efQ]
  have hpl := pad_length Q
  have hul := unp_length b
  have hml := unp_length more
  have hbl : b.length = (Q.length + 7) / 8 + more.length := by rw [hb, List.length_append, packed_length]
  have hr : efRest bound xs.length b = (pad Q).length := by
    unfold efRest
    rw [hF]
    simp only
    omega
  have hlen : (loS p w xs).length ≤ (unp b).length := by rw [hq2, List.length_append]; omega
  rw [loS_length] at hlen
  unfold efRow
  rw [← hw, if_neg (by omega), hr, hF]
  have hz := part_zeros Q (unp more) (pad Q).length
  rw [show List.replicate (pad Q).length false = pad Q by simp [pad], ← hu] at hz
  rw [if_neg (by simp), if_neg (by simp only [hz]; simp)]
  rw [packed_length]
  simp only
  congr 2
  omega
/-- a row that is read is what was written -/
theorem rw_one {bound p w : Nat} (hp : p = 2 ^ w) (q : List Bool) : ∀ (ls : List Nat) (pos high : Nat) (was : Int) (out : List Nat), (∀ x ∈ ls, x < p) → pos ≤ q.length → (rwF bound p q ls pos high was out).2.2 = 0 →
    ∃ ys, (rwF bound p q ls pos high was out).1 = out ++ ys ∧ ls = ys.map (· % p) ∧ up bound was ys ∧ (rwF bound p q ls pos high was out).2.1 ≤ q.length ∧ q.take (rwF bound p q ls pos high was out).2.1 = q.take pos ++ unS p high ys
  | [], pos, high, was, out, hl, hpos, h => ⟨[], by simp [rwF], rfl, trivial, by simpa [rwF] using hpos, by simp [rwF, unS]⟩
  | x :: r, pos, high, was, out, hl, hpos, h => by
    have hx := hl x (by simp)
    have hp0 : 0 < p := by omega
    by_cases h1 : Z q pos < q.length
    · obtain ⟨y, hy⟩ : ∃ y, y = (high + (Z q pos - pos)) * p + x := ⟨_, rfl⟩
      have hyd : y / p = high + (Z q pos - pos) := by rw [hy, Nat.mul_comm, Nat.mul_add_div hp0, Nat.div_eq_of_lt hx, Nat.add_zero]
      have hym : y % p = x := by rw [hy, Nat.mul_comm, Nat.mul_add_mod, Nat.mod_eq_of_lt hx]
      rw [rwF, if_neg (by omega), ← hy] at h ⊢
      by_cases h2 : (y : Int) ≤ was
      · rw [if_pos h2] at h; simp at h
      · by_cases h3 : bound ≤ y
        · rw [if_neg h2, if_pos h3] at h; simp at h
        · rw [if_neg h2, if_neg h3] at h ⊢
          obtain ⟨ys, e1, e2, e3, e4, e5⟩ := rw_one hp q r (Z q pos + 1) (high + (Z q pos - pos)) y (out ++ [y]) (fun z hz => hl z (by simp [hz])) (by omega) h
          refine ⟨y :: ys, by rw [e1]; simp, by rw [List.map_cons, hym, ← e2], ⟨by omega, by omega, e3⟩, e4, ?_⟩
          rw [e5, take_un q _ pos (Nat.le_refl _) h1, unS, hyd, show high + (Z q pos - pos) - high = Z q pos - pos by omega, List.append_assoc]
    · rw [rwF, if_pos h1] at h; simp at h
theorem loR_take (q : List Bool) (w : Nat) : ∀ n, n * w ≤ q.length → q.take (n * w) = (loR q w n).flatMap fun x => hi x w w
  | 0, _ => by simp [loR]
  | n + 1, h => by
    rw [Nat.succ_mul] at h ⊢
    rw [take_part q _ _ h, loR_take q w n (by omega), loR_succ, List.flatMap_append]
    simp
theorem efRow_one {bound n : Nat} {b : List UInt8} (h : (efRow bound n b).2.2 = 0) :
    (efRow bound n b).1.length = n ∧ RisN bound (efRow bound n b).1 ∧ packed (efQ (2 ^ wid bound n) (wid bound n) (efRow bound n b).1) = b.take (efRow bound n b).2.1 := by
  obtain ⟨w, hw⟩ : ∃ w, w = wid bound n := ⟨_, rfl⟩
  obtain ⟨p, hp⟩ : ∃ p, p = 2 ^ w := ⟨_, rfl⟩
  rw [← hw, ← hp]
  by_cases h1 : (unp b).length < n * w
  · rw [efRow_lo (by rw [← hw]; exact h1)] at h; simp at h
  · have h1' : ¬ (unp b).length < n * wid bound n := by rw [← hw]; exact h1
    by_cases h2 : (efF bound n b).2.2 = 0
    · by_cases h3 : part (unp b) (efF bound n b).2.1 (efRest bound n b) = 0
      · rw [efRow_ok h1' (by simpa using h2) (by simpa using h3)]
        have hF : efF bound n b = rwF bound p (unp b) (loR (unp b) w n) (n * w) 0 (-1) [] := by unfold efF; rw [← hw, ← hp]
        have hlt : ∀ x ∈ loR (unp b) w n, x < p := by
          intro x hx
          obtain ⟨i, _, rfl⟩ := List.mem_map.1 hx
          rw [hp]; exact part_lt _ _ _
        obtain ⟨ys, e1, e2, e3, e4, e5⟩ := rw_one (bound := bound) hp (unp b) (loR (unp b) w n) (n * w) 0 (-1) [] hlt (by omega) (by rw [← hF]; exact h2)
        rw [← hF] at e1 e4 e5
        rw [List.nil_append] at e1
        have hyl : ys.length = n := by
          have := congrArg List.length e2
          rw [loR_length, List.length_map] at this
          exact this.symm
        have hQ : efQ p w ys = (unp b).take (efF bound n b).2.1 := by
          rw [e5, loR_take _ _ _ (by omega), e2, efQ, loS, List.flatMap_map]
        obtain ⟨pos, hpos⟩ : ∃ pos, pos = (efF bound n b).2.1 := ⟨_, rfl⟩
        have hrest : efRest bound n b = ((unp b).length - pos) % 8 := by unfold efRest; rw [hpos]
        rw [← hpos] at e4 hQ h3
        rw [← hpos, e1]
        have hul := unp_length b
        refine ⟨hyl, (up_iff ys _ e3).1, ?_⟩
        simp only
        obtain ⟨K, hK⟩ : ∃ K, pos + efRest bound n b = 8 * K := ⟨(pos + efRest bound n b) / 8, by omega⟩
        rw [hK, show b.length - ((unp b).length - 8 * K) / 8 = K by omega]
        have hKl : K ≤ b.length := by omega
        have hQl : (efQ p w ys).length = pos := by rw [hQ, List.length_take]; omega
        have ez : unp (b.take K) = efQ p w ys ++ List.replicate (efRest bound n b) false := by
          rw [unp_take b hKl, ← hK, take_part _ _ _ (by omega), h3, hi_zeros, hQ]
        have ep : pad (efQ p w ys) = List.replicate (efRest bound n b) false := by
          unfold pad
          rw [hQl]
          congr 1
          omega
        rw [← unp_packed (packed (efQ p w ys)), unp_of_packed, ep, ← ez, unp_packed]
      · rw [efRow_p h1' (by simpa using h2) (by simpa using h3)] at h; simp at h
    · rw [efRow_e h1' h2] at h; exact absurd h h2
end Go.Proofs.YtpamjobiohbibaaGreat
namespace Go.Proofs.YtpamjobiohbibaaGreat
open Go.RowKit
set_option linter.unusedVariables false
set_option maxRecDepth 20000
variable {B : Nat} {w0 : World} {F : List Ch} {A A1 A2 : Option Addr} {n c c1 c2 g : Nat}
theorem efRd_back {bound : Nat} {xs : List Nat} (hR : RisN bound xs) (hb : bound ≤ 20000) (more : List UInt8) : efRd (bound : Int) (efB bound xs ++ more) = (xs, (efB bound xs).length, 0) := by
  have hlen := hR.len
  obtain ⟨tl, htl⟩ : ∃ tl, tl = (if xs.length = 0 then [] else packed (efQ (2 ^ wid bound xs.length) (wid bound xs.length) xs)) := ⟨_, rfl⟩
  have hB : efB bound xs = encN xs.length ++ tl := by rw [efB, ← htl]
  obtain ⟨b, hbb⟩ : ∃ b, b = encN xs.length ++ (tl ++ more) := ⟨_, rfl⟩
  have hbe : efB bound xs ++ more = b := by rw [hB, hbb, List.append_assoc]
  have hs : scanS b = (xs.length, (encN xs.length).length, 0) := by rw [hbb]; exact scanS_back _ (by omega) _
  have hl : limS b (bound : Int) = (xs.length, (encN xs.length).length, 0) := by
    unfold limS
    rw [hs, if_neg (by simp), if_neg (by simp only; omega)]
  have hC : rdC (bound : Int) b = ⟨b, (encN xs.length).length, 0⟩ := by
    unfold rdC Cs.int' Cs.rest
    simp only [List.drop_zero]
    rw [hl]
    simp [Cs.moved]
  have hN : rdN (bound : Int) b = xs.length := by
    unfold rdN Cs.int Cs.rest
    simp only [List.drop_zero]
    rw [hl]
    simp
  rw [hbe]
  by_cases h0 : xs.length = 0
  · rw [efRd_c (by omega) (by rw [hC]; simp) (by rw [hN]; exact h0), hC, List.length_eq_zero_iff.1 h0]
    rw [if_pos h0] at htl
    have : efB bound [] = encN 0 ++ [] := by simp [efB]
    rw [this]
    simp
  · have hRR : rdR (bound : Int) b = (xs, tl.length, 0) := by
      unfold rdR
      rw [hN, hC]
      simp only [Int.toNat_natCast]
      rw [if_neg h0] at htl
      rw [show b.drop (encN xs.length).length = tl ++ more by rw [hbb]; exact List.drop_left' rfl, htl]
      exact efRow_back hR more (by omega)
    rw [efRd_e (by omega) (by rw [hC]; simp) (by rw [hN]; exact h0) (by rw [hRR]; simp), hRR, hC, hB]
    simp
theorem efRd_one {bound : Int} {b : List UInt8} (hbd : bound ≤ 9223372036854775807) (h : (efRd bound b).2.2 = 0) :
    ∃ bn : Nat, bound = (bn : Int) ∧ bn ≤ 20000 ∧ RisN bn (efRd bound b).1 ∧ efB bn (efRd bound b).1 = b.take (efRd bound b).2.1 ∧ (efRd bound b).2.1 ≤ b.length := by
  by_cases h1 : bound < 0 ∨ 20000 < bound
  · rw [efRd_a h1] at h; simp at h
  · obtain ⟨bn, rfl⟩ := Int.eq_ofNat_of_zero_le (show 0 ≤ bound by omega)
    refine ⟨bn, rfl, by omega, ?_⟩
    by_cases h2 : (rdC bn b).e = 0
    · have hl : (limS b (bn : Int)).2.2 = 0 := by
        unfold rdC Cs.int' Cs.rest at h2
        simp only [List.drop_zero] at h2
        by_cases hh : (limS b (bn : Int)).2.2 = 0
        · exact hh
        · simp [Cs.moved, hh] at h2
      have hsc : (scanS b).2.2 = 0 ∧ limS b (bn : Int) = ((scanS b).1, (scanS b).2.1, 0) := by
        unfold limS at hl ⊢
        split at hl
        · rename_i hh; exact absurd hl hh
        · rename_i hh
          split at hl
          · simp at hl
          · rename_i h3
            rw [if_neg hh, if_neg h3]
            exact ⟨by simpa using hh, rfl⟩
      have henc := scanS_enc hsc.1
      have hle := (scanS_facts b).2.1
      have hC : rdC (bn : Int) b = ⟨b, (scanS b).2.1, 0⟩ := by
        unfold rdC Cs.int' Cs.rest
        simp only [List.drop_zero]
        rw [hsc.2]
        simp [Cs.moved]
      have hN : rdN (bn : Int) b = (scanS b).1 := by
        unfold rdN Cs.int Cs.rest
        simp only [List.drop_zero]
        rw [hsc.2]
        simp
      by_cases h3 : rdN bn b = 0
      · rw [efRd_c h1 (by simpa using h2) h3, hC]
        refine ⟨fun i hi => absurd hi (by simp), ?_, hle⟩
        rw [hN] at h3
        rw [h3] at henc
        simp only
        rw [← henc]
        simp [efB]
      · by_cases h4 : (rdR bn b).2.2 = 0
        · rw [efRd_e h1 (by simpa using h2) h3 (by simpa using h4)]
          have hR : rdR bn b = efRow bn (scanS b).1 (b.drop (scanS b).2.1) := by unfold rdR; rw [hN, hC, Int.toNat_natCast]
          rw [hR] at h4
          obtain ⟨e1, e2, e3⟩ := efRow_one h4
          have e4 := efRow_len bn (scanS b).1 (b.drop (scanS b).2.1)
          rw [List.length_drop] at e4
          rw [hN] at h3
          simp only
          rw [hC, hR]
          refine ⟨e2, ?_, by simp only; omega⟩
          rw [efB, e1, if_neg h3, e3, henc]
          simp only
          rw [List.take_add]
        · rw [efRd_d h1 (by simpa using h2) h3 (by simpa using h4)] at h
          exact absurd h h4
    · rw [efRd_b h1 h2] at h; exact absurd h h2
theorem efB_len {bound : Nat} {xs : List Nat} (h : RisN bound xs) (hb : bound ≤ 20000) : (efB bound xs).length ≤ 50011 := by
  have h1 := h.len
  have h2 := encL_len (n := xs.length) (by omega)
  have h3 := efQ_len (p := 2 ^ wid bound xs.length) (w := wid bound xs.length) h hb (wid_le hb)
  unfold efB
  rw [List.length_append]
  split
  · simp only [List.length_nil]; omega
  · rw [packed_length]; omega
theorem RisN.le {bound : Nat} {xs : List Nat} (h : RisN bound xs) (hb : bound ≤ 20000) : ∀ i, i < xs.length → xs.getD i 0 ≤ 1000000 := fun i hi => by have := (h i hi).1; omega
end Go.Proofs.YtpamjobiohbibaaGreat
