/-
  Rising rows of numbers read: plain functions, and the walks. Conditions: at most 10^5 bytes.
-/
import Derived.Test.YtpgmokfhcdibhaaEfV
import Derived.Test.YtpgmokfhcdibhaaBitRdr
namespace Go.Proofs.Ytpgmokfhcdibhaa
open Go.RowKit
set_option linter.unusedVariables false
set_option maxRecDepth 20000
variable {B : Nat} {w0 : World} {F : List Ch} {A A1 A2 : Option Addr} {n c c1 c2 g : Nat}
def loR (q : List Bool) (w n : Nat) : List Nat := (List.range n).map fun i => part q (i * w) w
theorem loR_length (q : List Bool) (w n : Nat) : (loR q w n).length = n := by simp [loR]
theorem loR_succ (q : List Bool) (w n : Nat) : loR q w (n + 1) = loR q w n ++ [part q (n * w) w] := by simp [loR, List.range_succ]
/-- the high parts: numbers, place, error -/
def rwF (bound p : Nat) (q : List Bool) : List Nat → Nat → Nat → Int → List Nat → List Nat × Nat × Int
  | [], pos, _, _, out => (out, pos, 0)
  | x :: ls, pos, high, was, out =>
    if ¬ Z q pos < q.length then ([], 0, 1)
    else if (((high + (Z q pos - pos)) * p + x : Nat) : Int) ≤ was then ([], 0, 2)
    else if bound ≤ (high + (Z q pos - pos)) * p + x then ([], 0, 8)
    else rwF bound p q ls (Z q pos + 1) (high + (Z q pos - pos)) ((high + (Z q pos - pos)) * p + x : Nat) (out ++ [(high + (Z q pos - pos)) * p + x])
def efF (bound n : Nat) (b : List UInt8) : List Nat × Nat × Int := rwF bound (2 ^ wid bound n) (unp b) (loR (unp b) (wid bound n) n) (n * wid bound n) 0 (-1) []
def efRest (bound n : Nat) (b : List UInt8) : Nat := ((unp b).length - (efF bound n b).2.1) % 8
/-- n numbers below a bound: they, how many bytes, the error -/
def efRow (bound n : Nat) (b : List UInt8) : List Nat × Nat × Int :=
  if (unp b).length < n * wid bound n then ([], 0, 1)
  else if (efF bound n b).2.2 ≠ 0 then ([], 0, (efF bound n b).2.2)
  else if part (unp b) (efF bound n b).2.1 (efRest bound n b) ≠ 0 then ([], 0, 2)
  else ((efF bound n b).1, b.length - ((unp b).length - ((efF bound n b).2.1 + efRest bound n b)) / 8, 0)
theorem lows_bad (q : List Bool) {m w : Nat} (hm : m ≤ 20000) (hw : w ≤ 14) (hq : q.length ≤ 8000000) (hE : q.length < m * w) :
    Does Try.prog B w0 50 [.pointer (some ⟨g, 0, none⟩), .int .i64 m, .int .i64 w] (Rr g A c q 0 F) (fun r L => r = .tuple #[.slice none 0 0, .int .i64 1] ∧ L = Rr g A c q 0 F) := by
  have hmw : m * w ≤ 20000 * 14 := Nat.mul_le_mul hm hw
  have hmul : IntKind.i64.wrap ((m : Int) * (w : Int)) = ((m * w : Nat) : Int) := by
    rw [← Int.natCast_mul]
    generalize m * w = z at *
    exact w_i64 (by omega) (by omega)
  refine fn_walk Try.func50 38 rfl rfl rfl [(0, .pointer (some ⟨g, 0, none⟩)), (1, .int .i64 m), (2, .int .i64 w)] ⟨⟨rfl, rfl⟩, ⟨rfl, rfl⟩, ⟨rfl, rfl⟩, trivial⟩ ?_
  refine vc_seq ?_
  refine vc_region ?_
  refine vl_det (det_assign rfl) rfl ?_
  refine vl_det (det_assign rfl) rfl ?_
  refine vl_end [(0, _), (1, _), (2, _)] ⟨rfl, rfl, rfl, trivial⟩ ?_
  refine then_next ?_
  refine vc_seq ?_
  refine vc_seq ?_
  refine vc_region ?_
  refine vl_det (det_move rfl) rfl ?_
  refine vl_det (det_move rfl) rfl ?_
  refine vl_det (det_mul rfl rfl hmul) rfl ?_
  refine vl_det (det_move rfl) rfl ?_
  refine vl_call co52 rfl (left_d q 0 (Nat.zero_le _) hq) rfl ?_
  rintro _ _ ⟨rfl, hLL⟩
  obtain rfl := hLL.symm
  refine vl_det (det_gtr rfl rfl) rfl ?_
  refine vl_end [(0, _), (1, _), (2, _), (17, _)] ⟨rfl, rfl, rfl, rfl, trivial⟩ ?_
  refine then_next ?_
  refine vc_decideU rfl (fun h17 => ?_) (fun h17 => ?_)
  · skip
    refine vc_seq ?_
    refine vc_region ?_
    refine vl_det (det_assign rfl) rfl ?_
    refine vl_det (det_assign rfl) rfl ?_
    refine vl_end [(6, _), (7, _)] ⟨rfl, rfl, trivial⟩ ?_
    refine then_next ?_
    refine vc_ret ?_
    refine then_ret ?_
    refine ret2 rfl rfl rfl ?_
    exact ⟨rfl, rfl⟩
  · skip
    exfalso; omega
theorem lows_ok (q : List Bool) {m w : Nat} (hm : m ≤ 20000) (hw : w ≤ 14) (hq : q.length ≤ 8000000) (hE : m * w ≤ q.length) :
    Does Try.prog B w0 50 [.pointer (some ⟨g, 0, none⟩), .int .i64 m, .int .i64 w] (Rr g A c q 0 F) (fun r L => ∃ A' c', r = .tuple #[.slice A' m c', .int .i64 0] ∧ L = Rr g A c q (m * w) (.own 57 1 A' m c' (u16v (loR q w m)) :: F)) := by
  have hmw : m * w ≤ 20000 * 14 := Nat.mul_le_mul hm hw
  have hmul : IntKind.i64.wrap ((m : Int) * (w : Int)) = ((m * w : Nat) : Int) := by
    rw [← Int.natCast_mul]
    generalize m * w = z at *
    exact w_i64 (by omega) (by omega)
  refine fn_walk Try.func50 38 rfl rfl rfl [(0, .pointer (some ⟨g, 0, none⟩)), (1, .int .i64 m), (2, .int .i64 w)] ⟨⟨rfl, rfl⟩, ⟨rfl, rfl⟩, ⟨rfl, rfl⟩, trivial⟩ ?_
  refine vc_seq ?_
  refine vc_region ?_
  refine vl_det (det_assign rfl) rfl ?_
  refine vl_det (det_assign rfl) rfl ?_
  refine vl_end [(0, _), (1, _), (2, _)] ⟨rfl, rfl, rfl, trivial⟩ ?_
  refine then_next ?_
  refine vc_seq ?_
  refine vc_seq ?_
  refine vc_region ?_
  refine vl_det (det_move rfl) rfl ?_
  refine vl_det (det_move rfl) rfl ?_
  refine vl_det (det_mul rfl rfl hmul) rfl ?_
  refine vl_det (det_move rfl) rfl ?_
  refine vl_call co52 rfl (left_d q 0 (Nat.zero_le _) hq) rfl ?_
  rintro _ _ ⟨rfl, hLL⟩
  obtain rfl := hLL.symm
  refine vl_det (det_gtr rfl rfl) rfl ?_
  refine vl_end [(0, _), (1, _), (2, _), (17, _)] ⟨rfl, rfl, rfl, rfl, trivial⟩ ?_
  refine then_next ?_
  refine vc_decideU rfl (fun h17 => ?_) (fun h17 => ?_)
  · skip
    exfalso; omega
  · skip
    refine vc_skip ?_
    refine then_next ?_
    refine vc_seq ?_
    refine vc_region ?_
    refine vl_det (det_move rfl) rfl ?_
    refine vl_eff (eff_make slT49 rfl rfl rfl rfl rfl (by omega) (by omega) (by omega)) rfl ?_
    rintro _ _ ⟨A19, rfl, rfl⟩
    refine vl_det (det_assign rfl) rfl ?_
    refine vl_end [(0, _), (2, _), (8, _)] ⟨rfl, rfl, rfl, trivial⟩ ?_
    refine then_next ?_
    refine vc_seq ?_
    refine vc_seq ?_
    refine vc_region ?_
    refine vl_det (det_move rfl) rfl ?_
    refine vl_det (det_len_sl Try.underlying49 rfl) rfl ?_
    refine vl_det (det_move rfl) rfl ?_
    refine vl_end [(0, _), (2, _), (8, _), (21, _), (22, _)] ⟨rfl, rfl, rfl, rfl, rfl, trivial⟩ ?_
    refine then_next ?_
    refine vc_block ?_
    refine vc_loopJ (fun zf zL zm => ∃ (k : Nat), (k ≤ m) ∧ m - k = zm ∧ Sub zf [(0, .pointer (some ⟨g, 0, none⟩)), (2, .int .i64 w), (8, .slice A19 m m), (21, .int .i64 m), (22, .int .i64 k)] ∧ Wk zL (Rr g A c q (k * w) (.own 57 1 A19 m m (u16v (loR q w k) ++ List.replicate (m - k) (.int .u16 0)) :: F))) _ ⟨0, Nat.zero_le _, rfl, ⟨(by first | rfl | exact int_to (by omega) | exact sl_to (by omega)), (by first | rfl | exact int_to (by omega) | exact sl_to (by omega)), (by first | rfl | exact int_to (by omega) | exact sl_to (by omega)), (by first | rfl | exact int_to (by omega) | exact sl_to (by omega)), (by first | rfl | exact int_to (by omega) | exact sl_to (by omega)), trivial⟩, by rw [Nat.zero_mul]; exact (wu1 (wu1 (wu0 (.refl _))))⟩ ?_
    rintro _ _ _ ⟨k, hk, rfl, hs, hp⟩
    refine vc_weaken _ hs (vc_wk hp ?_)
    clear hs hp
    refine vc_seq ?_
    refine vc_region ?_
    refine vl_det (det_lss rfl rfl) rfl ?_
    refine vl_end [(0, _), (2, _), (8, _), (21, _), (22, _), (23, _)] ⟨rfl, rfl, rfl, rfl, rfl, rfl, trivial⟩ ?_
    refine then_next ?_
    refine vc_seq ?_
    refine vc_decideU rfl (fun h23 => ?_) (fun h23 => ?_)
    · skip
      have hkw : (k + 1) * w ≤ m * w := Nat.mul_le_mul_right w (by omega)
      have hks : (k + 1) * w = k * w + w := Nat.succ_mul k w
      have hpl := part_lt q (k * w) w
      have hpw := pow_le14 hw
      have hlr := loR_length q w k
      have hgv : gtV q (k * w) w = part q (k * w) w := by unfold gtV; rw [if_neg (by omega), if_neg (by omega), Int.toNat_natCast]
      have hgp : gtP q (k * w) w = (k + 1) * w := by unfold gtP; rw [if_neg (by omega), if_neg (by omega), Int.toNat_natCast, hks]
      refine vc_skip ?_
      refine then_next ?_
      refine vc_seq ?_
      refine vc_block ?_
      refine vc_seq ?_
      refine vc_region ?_
      refine vl_det (det_move rfl) rfl ?_
      refine vl_det (det_assign rfl) rfl ?_
      refine vl_end [(0, _), (2, _), (8, _), (9, _), (21, _), (22, _)] ⟨rfl, rfl, rfl, rfl, rfl, rfl, trivial⟩ ?_
      refine then_next ?_
      refine vc_seq ?_
      refine vc_region ?_
      refine vl_det (det_move rfl) rfl ?_
      refine vl_det (det_move rfl) rfl ?_
      refine vl_call co53 rfl (get_d q (k * w) (by omega) hq w (by omega) (by omega)) rfl ?_
      rintro _ _ ⟨rfl, hLL⟩
      obtain rfl := hLL.symm
      rw [hgv, hgp]
      refine vl_det (det_move rfl) rfl ?_
      refine vl_det (det_extract rfl rfl) rfl ?_
      refine vl_det (det_extract rfl rfl) rfl ?_
      refine vl_det (det_assign rfl) rfl ?_
      refine vl_det (det_assign rfl) rfl ?_
      refine vl_end [(0, _), (2, _), (8, _), (9, _), (10, _), (21, _), (22, _)] ⟨rfl, rfl, rfl, rfl, rfl, rfl, rfl, trivial⟩ ?_
      refine then_next ?_
      refine vc_region ?_
      refine vl_det (det_move rfl) rfl ?_
      refine vl_det (det_move rfl) rfl ?_
      refine vl_det (det_move rfl) rfl ?_
      refine vl_det (det_conv Try.underlying47 Try.underlying57 rfl (w_u16 (by omega) (by omega))) rfl ?_
      refine vl_det (det_indexAddr (size := 1) Try.underlying49 (by kernel_rfl) rfl rfl rfl (by omega) (by first | (exact Bor.own (by repeat (first | exact List.Mem.head _ | apply List.Mem.tail))) | (repeat (first | assumption | apply Bor.cons)))) rfl ?_
      refine vl_eff0 (eff_store_row (by kernel_rfl) rfl rfl rfl (by repeat (first | exact .hd | apply Sel.tl)) (by first | omega | (simp; done) | (simp; omega))) ?_
      rintro _ _ rfl
      refine vl_end [(0, _), (2, _), (8, _), (21, _), (22, _)] ⟨rfl, rfl, rfl, rfl, rfl, trivial⟩ ?_
      refine in_normal ?_
      refine then_next ?_
      refine vc_region ?_
      refine vl_det (det_add rfl rfl (w_i64 (by omega) (by omega))) rfl ?_
      refine vl_det (det_move rfl) rfl ?_
      refine vl_end [(0, _), (2, _), (8, _), (21, _), (22, _)] ⟨rfl, rfl, rfl, rfl, rfl, trivial⟩ ?_
      refine in_loop_ ⟨_, by omega, k + 1, by omega, rfl, ⟨(by first | rfl | exact int_to (by omega) | exact sl_to (by omega)), (by first | rfl | exact int_to (by omega) | exact sl_to (by omega)), (by first | rfl | exact int_to (by omega) | exact sl_to (by omega)), (by first | rfl | exact int_to (by omega) | exact sl_to (by omega)), (by first | rfl | exact int_to (by omega) | exact sl_to (by omega)), trivial⟩, .cons (.cons (wk_own rfl (by rw [Nat.mul_one, rep_mid _ (show k < m by omega), set_mid _ _ _ _ (by simp [loR_length]), loR_succ]; simp [u16v]) (.refl _)))⟩
    · skip
      refine vc_exit ?_
      refine then_exit ?_
      refine loop_exit ?_
      refine in_eq ?_
      refine then_next ?_
      refine vc_seq ?_
      refine vc_region ?_
      refine vl_det (det_move rfl) rfl ?_
      refine vl_det (det_assign rfl) rfl ?_
      refine vl_det (det_assign rfl) rfl ?_
      refine vl_end [(6, _), (7, _)] ⟨rfl, rfl, trivial⟩ ?_
      refine then_next ?_
      refine vc_ret ?_
      obtain rfl : k = m := by omega
      refine ret_wk (L' := Rr g A c q (k * w) (.own 57 1 A19 k k (u16v (loR q w k)) :: F)) (.cons (.cons (wk_own rfl (by rw [Nat.sub_self, List.replicate_zero, List.append_nil]) (.refl _)))) ?_
      refine ret2 rfl rfl rfl ?_
      exact ⟨A19, k, rfl, rfl⟩
theorem efRow_lo {bound m : Nat} {b : List UInt8} (h : (unp b).length < m * wid bound m) : efRow bound m b = ([], 0, 1) := if_pos h
theorem efRow_e {bound m : Nat} {b : List UInt8} (h : ¬ (unp b).length < m * wid bound m) (he : (efF bound m b).2.2 ≠ 0) : efRow bound m b = ([], 0, (efF bound m b).2.2) := by unfold efRow; rw [if_neg h, if_pos he]
theorem efRow_p {bound m : Nat} {b : List UInt8} (h : ¬ (unp b).length < m * wid bound m) (he : ¬ (efF bound m b).2.2 ≠ 0) (hp : part (unp b) (efF bound m b).2.1 (efRest bound m b) ≠ 0) : efRow bound m b = ([], 0, 2) := by unfold efRow; rw [if_neg h, if_neg he, if_pos hp]
theorem efRow_ok {bound m : Nat} {b : List UInt8} (h : ¬ (unp b).length < m * wid bound m) (he : ¬ (efF bound m b).2.2 ≠ 0) (hp : ¬ part (unp b) (efF bound m b).2.1 (efRest bound m b) ≠ 0) : efRow bound m b = ((efF bound m b).1, b.length - ((unp b).length - ((efF bound m b).2.1 + efRest bound m b)) / 8, 0) := by unfold efRow; rw [if_neg h, if_neg he, if_neg hp]
theorem orQ {h x w p : Nat} (hp : p = 2 ^ w) (hx : x < p) (hb : h * p ≤ 4611686018427387904) (hpb : p ≤ 16384) : IntKind.i64.wrap ((BitVec.ofInt IntKind.i64.bits ((h * p : Nat) : Int) ||| BitVec.ofInt IntKind.i64.bits (x : Int)).toNat : Int) = ((h * p + x : Nat) : Int) := by
  have hh := i64_or (h * p) x (by omega) (by omega)
  have e : h * p ||| x = h * p + x := by
    rw [hp] at hx ⊢
    rw [Nat.mul_comm, ← Nat.two_pow_add_eq_or_of_lt hx]
  rw [e] at hh
  exact hh
theorem loR_get {q : List Bool} {w m k : Nat} (h : k < m) : (loR q w m).getD k 0 = part q (k * w) w := by simp [loR, List.getD, h]
def RowR (bound m : Nat) (b : List UInt8) (F : List Ch) (r : Value) (L : List Ch) : Prop :=
  ((efRow bound m b).2.2 ≠ 0 ∧ r = .tuple #[.pointer none, .int .i64 0, .int .i64 (efRow bound m b).2.2] ∧ L = F) ∨
  ((efRow bound m b).2.2 = 0 ∧ ∃ g A1 c1 A2 c2, r = .tuple #[.pointer (some ⟨g, 0, none⟩), .int .i64 (efRow bound m b).2.1, .int .i64 0] ∧ L = Pt g 68 (wid bound m) (2 ^ wid bound m) A1 c1 A2 c2 (efRow bound m b).1 F)
theorem row_bad {bound m : Nat} {b : List UInt8} (hb : Bor B w0 F 1 (.slice A b.length c) b.length (bv b)) (hbl : b.length ≤ 100000) (hb2 : bound ≤ 20000) (hm : 1 ≤ m) (hmb : m ≤ bound) (hE : (unp b).length < m * wid bound m) :
    Does Try.prog B w0 41 [.int .i64 bound, .int .i64 m, .slice A b.length c] F (RowR bound m b F) := by
  have hul := unp_length b
  have hwl := wid_le (n := m) hb2
  refine fn_walk Try.func41 107 rfl rfl rfl [(0, .int .i64 bound), (1, .int .i64 m), (2, .slice A b.length c)] ⟨⟨rfl, rfl⟩, ⟨rfl, rfl⟩, ⟨rfl, rfl⟩, trivial⟩ ?_
  refine vc_seq ?_
  refine vc_region ?_
  refine vl_det (det_assign rfl) rfl ?_
  refine vl_det (det_assign rfl) rfl ?_
  refine vl_det (det_assign rfl) rfl ?_
  refine vl_end [(0, _), (1, _), (2, _)] ⟨rfl, rfl, rfl, trivial⟩ ?_
  refine then_next ?_
  refine vc_seq ?_
  refine vc_region ?_
  refine vl_det (det_move rfl) rfl ?_
  refine vl_call co49 rfl (newr_d hb (by omega)) rfl ?_
  rintro _ _ ⟨g24, A24, c24, rfl, hLL⟩
  obtain rfl := hLL.symm
  refine vl_det (det_assign rfl) rfl ?_
  refine vl_end [(0, _), (1, _), (2, _), (9, _)] ⟨rfl, rfl, rfl, rfl, trivial⟩ ?_
  refine then_next ?_
  refine vc_seq ?_
  refine vc_region ?_
  refine vl_det (det_move rfl) rfl ?_
  refine vl_det (det_move rfl) rfl ?_
  refine vl_call co23 rfl (width_d bound m hb2 hm hmb) rfl ?_
  rintro _ _ ⟨rfl, hLL⟩
  obtain rfl := hLL.symm
  refine vl_det (det_buildp [(0, _)] [.int .i64 0, .slice none 0 0, .slice none 0 0] [0] [_, _, _] rfl rfl (by kernel_rfl)) rfl ?_
  refine vl_det (det_build [(0, _)] [_, _, _] rfl rfl (by kernel_rfl)) rfl ?_
  refine vl_eff (eff_box rfl rfl) rfl ?_
  rintro _ _ ⟨g30, rfl, rfl⟩
  refine vl_det (det_assign rfl) rfl ?_
  refine vl_end [(0, _), (1, _), (2, _), (9, _), (10, _)] ⟨rfl, rfl, rfl, rfl, rfl, trivial⟩ ?_
  refine then_next ?_
  refine vc_seq ?_
  refine vc_region ?_
  refine vl_det (det_move rfl) rfl ?_
  refine vl_det (det_move rfl) rfl ?_
  refine vl_det (det_move rfl) rfl ?_
  refine vl_det (det_nilCheck rfl) rfl ?_
  refine vl_det (det_fieldAddr_ Try.underlying68 rfl (by kernel_rfl) rfl rfl) rfl ?_
  refine vl_det (det_fieldAddr_ Try.underlying51 rfl (by kernel_rfl) rfl rfl) rfl ?_
  refine vl_det (det_load_blk (by kernel_rfl) rfl (by repeat (first | exact .hd | apply Sel.tl)) rfl) rfl ?_
  refine vl_call co50 rfl ((lows_bad (unp b) (m := m) (w := wid bound m) (by omega) hwl (by omega) hE).perm ((pu1 (pu1 (pu0 (.refl _)))))) rfl ?_
  rintro _ _ ⟨rfl, hLL⟩
  obtain rfl := hLL.symm
  refine vl_det (det_move rfl) rfl ?_
  refine vl_det (det_extract rfl rfl) rfl ?_
  refine vl_det (det_extract rfl rfl) rfl ?_
  refine vl_det (det_assign rfl) rfl ?_
  refine vl_det (det_assign rfl) rfl ?_
  refine vl_end [(0, _), (2, _), (9, _), (10, _), (11, _), (12, _)] ⟨rfl, rfl, rfl, rfl, rfl, rfl, trivial⟩ ?_
  refine then_next ?_
  refine vc_seq ?_
  refine vc_seq ?_
  refine vc_region ?_
  refine vl_det (det_move rfl) rfl ?_
  refine vl_det (det_neq rfl rfl) rfl ?_
  refine vl_end [(0, _), (2, _), (9, _), (10, _), (11, _), (12, _), (43, _)] ⟨rfl, rfl, rfl, rfl, rfl, rfl, rfl, trivial⟩ ?_
  refine then_next ?_
  refine vc_decideU rfl (fun h43 => ?_) (fun h43 => ?_)
  · skip
    refine vc_seq ?_
    refine vc_region ?_
    refine vl_det (det_move rfl) rfl ?_
    refine vl_det (det_assign rfl) rfl ?_
    refine vl_det (det_assign rfl) rfl ?_
    refine vl_det (det_assign rfl) rfl ?_
    refine vl_end [(6, _), (7, _), (8, _)] ⟨rfl, rfl, rfl, trivial⟩ ?_
    refine then_next ?_
    refine vc_ret ?_
    refine then_ret ?_
    refine ret_wk (L' := F) (.skip (.skip (.skip (.refl _)))) ?_
    refine ret3_ rfl rfl rfl rfl ?_
    exact .inl ⟨by rw [efRow_lo hE]; decide, by rw [efRow_lo hE], rfl⟩
  · skip
    exfalso; exact h43 (by decide)
theorem row_ok {bound m : Nat} {b : List UInt8} (hb : Bor B w0 F 1 (.slice A b.length c) b.length (bv b)) (hbl : b.length ≤ 100000) (hb2 : bound ≤ 20000) (hm : 1 ≤ m) (hmb : m ≤ bound) (hE : ¬ (unp b).length < m * wid bound m) :
    Does Try.prog B w0 41 [.int .i64 bound, .int .i64 m, .slice A b.length c] F (RowR bound m b F) := by
  have hul := unp_length b
  have hwl := wid_le (n := m) hb2
  have hF0 : efF bound m b = rwF bound (2 ^ wid bound m) (unp b) (loR (unp b) (wid bound m) m) (m * wid bound m) 0 (-1) [] := rfl
  have hRest : efRest bound m b = ((unp b).length - (efF bound m b).2.1) % 8 := rfl
  unfold RowR
  have hlo : efRow bound m b = efRow bound m b := rfl
  obtain ⟨q, hq⟩ : ∃ q, q = unp b := ⟨_, rfl⟩
  have hEe := @efRow_e bound m b hE
  have hEp := @efRow_p bound m b hE
  have hEo := @efRow_ok bound m b hE
  rw [← hq] at hE hul hF0 hRest hEp hEo
  obtain ⟨w, hw⟩ : ∃ w, w = wid bound m := ⟨_, rfl⟩
  rw [← hw] at hE hwl hF0 ⊢
  obtain ⟨p, hp⟩ : ∃ p, p = 2 ^ w := ⟨_, rfl⟩
  rw [← hp] at hF0 ⊢
  have hp0 : 1 ≤ p := by rw [hp]; exact Nat.one_le_two_pow
  have hpb : p ≤ 16384 := by rw [hp]; exact pow_le14 hwl
  have hlol := loR_length q w m
  refine fn_walk Try.func41 107 rfl rfl rfl [(0, .int .i64 bound), (1, .int .i64 m), (2, .slice A b.length c)] ⟨⟨rfl, rfl⟩, ⟨rfl, rfl⟩, ⟨rfl, rfl⟩, trivial⟩ ?_
  refine vc_seq ?_
  refine vc_region ?_
  refine vl_det (det_assign rfl) rfl ?_
  refine vl_det (det_assign rfl) rfl ?_
  refine vl_det (det_assign rfl) rfl ?_
  refine vl_end [(0, _), (1, _), (2, _)] ⟨rfl, rfl, rfl, trivial⟩ ?_
  refine then_next ?_
  refine vc_seq ?_
  refine vc_region ?_
  refine vl_det (det_move rfl) rfl ?_
  refine vl_call co49 rfl (newr_d hb (by omega)) rfl ?_
  rintro _ _ ⟨g24, A24, c24, rfl, hLL⟩
  obtain rfl := hLL.symm
  rw [← hq]
  refine vl_det (det_assign rfl) rfl ?_
  refine vl_end [(0, _), (1, _), (2, _), (9, _)] ⟨rfl, rfl, rfl, rfl, trivial⟩ ?_
  refine then_next ?_
  refine vc_seq ?_
  refine vc_region ?_
  refine vl_det (det_move rfl) rfl ?_
  refine vl_det (det_move rfl) rfl ?_
  refine vl_call co23 rfl (width_d bound m hb2 hm hmb) rfl ?_
  rintro _ _ ⟨rfl, hLL⟩
  obtain rfl := hLL.symm
  rw [← hw]
  refine vl_det (det_buildp [(0, _)] [.int .i64 0, .slice none 0 0, .slice none 0 0] [0] [_, _, _] rfl rfl (by kernel_rfl)) rfl ?_
  refine vl_det (det_build [(0, _)] [_, _, _] rfl rfl (by kernel_rfl)) rfl ?_
  refine vl_eff (eff_box rfl rfl) rfl ?_
  rintro _ _ ⟨g30, rfl, rfl⟩
  refine vl_det (det_assign rfl) rfl ?_
  refine vl_end [(0, _), (1, _), (2, _), (9, _), (10, _)] ⟨rfl, rfl, rfl, rfl, rfl, trivial⟩ ?_
  refine then_next ?_
  refine vc_seq ?_
  refine vc_region ?_
  refine vl_det (det_move rfl) rfl ?_
  refine vl_det (det_move rfl) rfl ?_
  refine vl_det (det_move rfl) rfl ?_
  refine vl_det (det_nilCheck rfl) rfl ?_
  refine vl_det (det_fieldAddr_ Try.underlying68 rfl (by kernel_rfl) rfl rfl) rfl ?_
  refine vl_det (det_fieldAddr_ Try.underlying51 rfl (by kernel_rfl) rfl rfl) rfl ?_
  refine vl_det (det_load_blk (by kernel_rfl) rfl (by repeat (first | exact .hd | apply Sel.tl)) rfl) rfl ?_
  refine vl_call co50 rfl ((lows_ok q (m := m) (w := w) (by omega) hwl (by omega) (by omega)).perm ((pu1 (pu1 (pu0 (.refl _)))))) rfl ?_
  rintro _ _ ⟨A39, c39, rfl, hLL⟩
  obtain rfl := hLL.symm
  refine vl_det (det_move rfl) rfl ?_
  refine vl_det (det_extract rfl rfl) rfl ?_
  refine vl_det (det_extract rfl rfl) rfl ?_
  refine vl_det (det_assign rfl) rfl ?_
  refine vl_det (det_assign rfl) rfl ?_
  refine vl_end [(0, _), (2, _), (9, _), (10, _), (11, _), (12, _)] ⟨rfl, rfl, rfl, rfl, rfl, rfl, trivial⟩ ?_
  refine then_next ?_
  refine vc_seq ?_
  refine vc_seq ?_
  refine vc_region ?_
  refine vl_det (det_move rfl) rfl ?_
  refine vl_det (det_neq rfl rfl) rfl ?_
  refine vl_end [(0, _), (2, _), (9, _), (10, _), (11, _), (12, _), (43, _)] ⟨rfl, rfl, rfl, rfl, rfl, rfl, rfl, trivial⟩ ?_
  refine then_next ?_
  refine vc_decideU rfl (fun h43 => ?_) (fun h43 => ?_)
  · skip
    exfalso; exact h43 (by decide)
  · skip
    refine vc_skip ?_
    refine then_next ?_
    refine vc_seq ?_
    refine vc_nil_row 57 1 none ?_
    refine vc_nil_row 3 1 none ?_
    refine vc_region ?_
    refine vl_det (det_assign rfl) rfl ?_
    refine vl_det (det_assign rfl) rfl ?_
    refine vl_end [(0, _), (2, _), (9, _), (10, _), (11, _), (13, _), (14, _)] ⟨rfl, rfl, rfl, rfl, rfl, rfl, rfl, trivial⟩ ?_
    refine then_next ?_
    refine vc_seq ?_
    refine vc_seq ?_
    refine vc_region ?_
    refine vl_det (det_move rfl) rfl ?_
    refine vl_det (det_len_sl Try.underlying49 rfl) rfl ?_
    refine vl_det (det_move rfl) rfl ?_
    refine vl_end [(0, _), (2, _), (9, _), (10, _), (13, _), (14, _), (45, _), (46, _), (47, _)] ⟨rfl, rfl, rfl, rfl, rfl, rfl, rfl, rfl, rfl, trivial⟩ ?_
    refine then_next ?_
    refine vc_block ?_
    refine vc_loopJ (fun zf zL zm => ∃ (k pos high : Nat) (was : Int) (out : List Nat) (P1 : Option Addr) (p1 : Nat) (P2 : Option Addr) (p2 : Nat), (k ≤ m ∧ pos ≤ q.length ∧ high ≤ 20000 ∧ out.length = k ∧ rwF bound p q ((loR q w m).drop k) pos high was out = efF bound m b) ∧ m - k = zm ∧ Sub zf [(0, .int .i64 bound), (2, .slice A b.length c), (9, .pointer (some ⟨g24, 0, none⟩)), (10, .pointer (some ⟨g30, 0, none⟩)), (13, .int .i64 high), (14, .int .i64 was), (45, .slice A39 m c39), (46, .int .i64 m), (47, .int .i64 k)] ∧ Wk zL (Rr g24 A24 c24 q pos (Pt g30 68 w p P1 p1 P2 p2 out (.own 57 1 A39 m c39 (u16v (loR q w m)) :: F)))) _ ⟨0, m * w, 0, -1, [], none, 0, none, 0, ⟨Nat.zero_le _, by omega, Nat.zero_le _, rfl, hF0.symm⟩, rfl, ⟨(by first | rfl | exact int_to (by omega) | exact sl_to (by omega)), (by first | rfl | exact int_to (by omega) | exact sl_to (by omega)), (by first | rfl | exact int_to (by omega) | exact sl_to (by omega)), (by first | rfl | exact int_to (by omega) | exact sl_to (by omega)), (by first | rfl | exact int_to (by omega) | exact sl_to (by omega)), (by first | rfl | exact int_to (by omega) | exact sl_to (by omega)), (by first | rfl | exact int_to (by omega) | exact sl_to (by omega)), (by first | rfl | exact int_to (by omega) | exact sl_to (by omega)), (by first | rfl | exact int_to (by omega) | exact sl_to (by omega)), trivial⟩, (wu2 (wu2 (wu3 (wu0 (wu0 (wu0 (.refl _)))))))⟩ ?_
    rintro _ _ _ ⟨k, pos, high, was, out, P1, p1, P2, p2, ⟨hk, hpos, hhi, hol, hG⟩, rfl, hs, hp⟩
    refine vc_weaken _ hs (vc_wk hp ?_)
    clear hs hp
    refine vc_seq ?_
    refine vc_region ?_
    refine vl_det (det_lss rfl rfl) rfl ?_
    refine vl_end [(0, _), (2, _), (9, _), (10, _), (13, _), (14, _), (45, _), (46, _), (47, _), (48, _)] ⟨rfl, rfl, rfl, rfl, rfl, rfl, rfl, rfl, rfl, rfl, trivial⟩ ?_
    refine then_next ?_
    refine vc_seq ?_
    refine vc_decideU rfl (fun h48 => ?_) (fun h48 => ?_)
    · skip
      have hx := loR_get (q := q) (w := w) (m := m) (k := k) (by omega)
      have hxl := part_lt q (k * w) w
      have hd := drop_getD (l := loR q w m) (k := k) (by omega) 0
      obtain ⟨x, hxx⟩ : ∃ x, x = (loR q w m).getD k 0 := ⟨_, rfl⟩
      have hld : (u16v (loR q w m))[k * 1]? = some (.int .u16 (x : Int)) := by rw [hxx]; exact u16v_get (by omega)
      rw [← hx, ← hxx, ← hp] at hxl
      rw [hd, ← hxx, rwF] at hG
      have hzg := zp_ge q pos
      have hzl := zp_le q hpos
      refine vc_skip ?_
      refine then_next ?_
      refine vc_seq ?_
      refine vc_block ?_
      refine vc_seq ?_
      refine vc_region ?_
      refine vl_det (det_indexAddr (size := 1) Try.underlying49 (by kernel_rfl) rfl rfl rfl (by omega) (by first | (exact Bor.own (by repeat (first | exact List.Mem.head _ | apply List.Mem.tail))) | (repeat (first | assumption | apply Bor.cons)))) rfl ?_
      refine vl_det (det_load_row (by kernel_rfl) rfl (by first | (exact Bor.own (by repeat (first | exact List.Mem.head _ | apply List.Mem.tail))) | (repeat (first | assumption | apply Bor.cons))) (by omega) hld) rfl ?_
      refine vl_det (det_assign rfl) rfl ?_
      refine vl_end [(0, _), (2, _), (9, _), (10, _), (13, _), (14, _), (16, _), (45, _), (46, _), (47, _)] ⟨rfl, rfl, rfl, rfl, rfl, rfl, rfl, rfl, rfl, rfl, trivial⟩ ?_
      refine then_next ?_
      refine vc_seq ?_
      refine vc_region ?_
      refine vl_det (det_move rfl) rfl ?_
      refine vl_call co51 rfl (unaryr_d q pos hpos (by omega)) rfl ?_
      rintro _ _ ⟨rfl, hLL⟩
      obtain rfl := hLL.symm
      refine vl_det (det_move rfl) rfl ?_
      refine vl_det (det_extract rfl rfl) rfl ?_
      refine vl_det (det_extract rfl rfl) rfl ?_
      refine vl_det (det_assign rfl) rfl ?_
      refine vl_det (det_assign rfl) rfl ?_
      refine vl_end [(0, _), (2, _), (9, _), (10, _), (13, _), (14, _), (16, _), (17, _), (18, _), (45, _), (46, _), (47, _)] ⟨rfl, rfl, rfl, rfl, rfl, rfl, rfl, rfl, rfl, rfl, rfl, rfl, trivial⟩ ?_
      refine then_next ?_
      refine vc_seq ?_
      refine vc_seq ?_
      refine vc_region ?_
      refine vl_det (det_move rfl) rfl ?_
      refine vl_det (det_neq rfl rfl) rfl ?_
      refine vl_end [(0, _), (2, _), (9, _), (10, _), (13, _), (14, _), (16, _), (17, _), (18, _), (45, _), (46, _), (47, _), (57, _)] ⟨rfl, rfl, rfl, rfl, rfl, rfl, rfl, rfl, rfl, rfl, rfl, rfl, rfl, trivial⟩ ?_
      refine then_next ?_
      refine vc_decideU rfl (fun h57 => ?_) (fun h57 => ?_)
      · skip
        have hnz : ¬ Z q pos < q.length := fun h => h57 (by unfold unR; rw [if_pos h])
        have hr1 : unR q pos = 1 := by unfold unR; rw [if_neg hnz]
        rw [if_pos hnz] at hG
        have hz := hEe (by rw [← hG]; decide)
        rw [← hG] at hz
        refine vc_seq ?_
        refine vc_region ?_
        refine vl_det (det_move rfl) rfl ?_
        refine vl_det (det_assign rfl) rfl ?_
        refine vl_det (det_assign rfl) rfl ?_
        refine vl_det (det_assign rfl) rfl ?_
        refine vl_end [(6, _), (7, _), (8, _)] ⟨rfl, rfl, rfl, trivial⟩ ?_
        refine then_next ?_
        refine vc_ret ?_
        refine then_ret ?_
        refine in_ret ?_
        refine then_ret ?_
        refine loop_ret ?_
        refine in_ret ?_
        refine then_ret ?_
        refine ret_wk (L' := F) (.skip (.skip (.skip (.skip (.skip (.skip (.refl _))))))) ?_
        refine ret3_ rfl rfl rfl rfl ?_
        exact .inl ⟨by rw [hz]; decide, by rw [hz, hr1], rfl⟩
      · skip
        have hnz : Z q pos < q.length := Classical.byContradiction fun h => h57 (by unfold unR; rw [if_neg h]; decide)
        have hv : unV q pos = ((Z q pos - pos : Nat) : Int) := by unfold unV; rw [if_pos hnz]; omega
        have hu : unP q pos = Z q pos + 1 := by unfold unP; rw [if_pos hnz]
        rw [hv, hu]
        rw [if_neg (by simpa using hnz)] at hG
        obtain ⟨h2, hh2⟩ : ∃ h2, h2 = high + (Z q pos - pos) := ⟨_, rfl⟩
        rw [← hh2] at hG
        have hmul : h2 * p ≤ 1000000 * 16384 := Nat.mul_le_mul (by omega) hpb
        obtain ⟨id, hid⟩ : ∃ id, id = h2 * p + x := ⟨_, rfl⟩
        rw [← hid] at hG
        refine vc_skip ?_
        refine then_next ?_
        refine vc_seq ?_
        refine vc_region ?_
        refine vl_det (det_move rfl) rfl ?_
        refine vl_det (det_move rfl) rfl ?_
        refine vl_det (det_add rfl rfl (r := (h2 : Int)) ((w_i64 (by omega) (by omega)).trans (by omega))) rfl ?_
        refine vl_det (det_assign rfl) rfl ?_
        refine vl_end [(0, _), (2, _), (9, _), (10, _), (13, _), (14, _), (16, _), (45, _), (46, _), (47, _)] ⟨rfl, rfl, rfl, rfl, rfl, rfl, rfl, rfl, rfl, rfl, trivial⟩ ?_
        refine then_next ?_
        refine vc_seq ?_
        refine vc_region ?_
        refine vl_det (det_move rfl) rfl ?_
        refine vl_det (det_move rfl) rfl ?_
        refine vl_det (det_nilCheck rfl) rfl ?_
        refine vl_det (det_fieldAddr_ Try.underlying68 rfl (by kernel_rfl) rfl rfl) rfl ?_
        refine vl_det (det_fieldAddr_ Try.underlying51 rfl (by kernel_rfl) rfl rfl) rfl ?_
        refine vl_det (det_load_blk (by kernel_rfl) rfl (by repeat (first | exact .hd | apply Sel.tl)) rfl) rfl ?_
        refine vl_det (det_shl rfl rfl (by omega) (shlP hp hwl (by omega))) rfl ?_
        refine vl_det (det_move rfl) rfl ?_
        refine vl_det (det_conv Try.underlying57 Try.underlying3 rfl (w_i64 (by omega) (by omega))) rfl ?_
        refine vl_det (det_or rfl rfl (r := (id : Int)) ((orQ hp hxl (by omega) hpb).trans (by rw [hid]))) rfl ?_
        refine vl_det (det_assign rfl) rfl ?_
        refine vl_end [(0, _), (2, _), (9, _), (10, _), (13, _), (14, _), (19, _), (45, _), (46, _), (47, _)] ⟨rfl, rfl, rfl, rfl, rfl, rfl, rfl, rfl, rfl, rfl, trivial⟩ ?_
        refine then_next ?_
        refine vc_seq ?_
        refine vc_block ?_
        refine vc_seq ?_
        refine vc_region ?_
        refine vl_det (det_move rfl) rfl ?_
        refine vl_det (det_move rfl) rfl ?_
        refine vl_det (det_leq rfl rfl) rfl ?_
        refine vl_det (det_assign rfl) rfl ?_
        refine vl_end [(0, _), (2, _), (9, _), (10, _), (13, _), (19, _), (45, _), (46, _), (47, _), (72, _)] ⟨rfl, rfl, rfl, rfl, rfl, rfl, rfl, rfl, rfl, rfl, trivial⟩ ?_
        refine then_next ?_
        refine vc_decideU rfl (fun h72 => ?_) (fun h72 => ?_)
        · skip
          rw [if_pos (by omega)] at hG
          have hz := hEe (by rw [← hG]; decide)
          rw [← hG] at hz
          refine vc_seq ?_
          refine vc_region ?_
          refine vl_det (det_assign rfl) rfl ?_
          refine vl_det (det_assign rfl) rfl ?_
          refine vl_det (det_assign rfl) rfl ?_
          refine vl_end [(6, _), (7, _), (8, _)] ⟨rfl, rfl, rfl, trivial⟩ ?_
          refine then_next ?_
          refine vc_ret ?_
          refine in_ret ?_
          refine then_ret ?_
          refine in_ret ?_
          refine then_ret ?_
          refine loop_ret ?_
          refine in_ret ?_
          refine then_ret ?_
          refine ret_wk (L' := F) (.skip (.skip (.skip (.skip (.skip (.skip (.refl _))))))) ?_
          refine ret3_ rfl rfl rfl rfl ?_
          exact .inl ⟨by rw [hz]; decide, by rw [hz], rfl⟩
        · skip
          rw [if_neg (by omega)] at hG
          refine vc_seq ?_
          refine vc_region ?_
          refine vl_det (det_move rfl) rfl ?_
          refine vl_det (det_move rfl) rfl ?_
          refine vl_det (det_geq rfl rfl) rfl ?_
          refine vl_det (det_assign rfl) rfl ?_
          refine vl_end [(0, _), (2, _), (9, _), (10, _), (13, _), (19, _), (45, _), (46, _), (47, _), (76, _)] ⟨rfl, rfl, rfl, rfl, rfl, rfl, rfl, rfl, rfl, rfl, trivial⟩ ?_
          refine then_next ?_
          refine vc_decideU rfl (fun h76 => ?_) (fun h76 => ?_)
          · skip
            rw [if_pos (by omega)] at hG
            have hz := hEe (by rw [← hG]; decide)
            rw [← hG] at hz
            refine vc_seq ?_
            refine vc_region ?_
            refine vl_det (det_assign rfl) rfl ?_
            refine vl_det (det_assign rfl) rfl ?_
            refine vl_det (det_assign rfl) rfl ?_
            refine vl_end [(6, _), (7, _), (8, _)] ⟨rfl, rfl, rfl, trivial⟩ ?_
            refine then_next ?_
            refine vc_ret ?_
            refine in_ret ?_
            refine then_ret ?_
            refine in_ret ?_
            refine then_ret ?_
            refine loop_ret ?_
            refine in_ret ?_
            refine then_ret ?_
            refine ret_wk (L' := F) (.skip (.skip (.skip (.skip (.skip (.skip (.refl _))))))) ?_
            refine ret3_ rfl rfl rfl rfl ?_
            exact .inl ⟨by rw [hz]; decide, by rw [hz], rfl⟩
          · skip
            rw [if_neg (by omega)] at hG
            have hh2p : h2 ≤ h2 * p := Nat.le_mul_of_pos_right h2 hp0
            refine vc_skip ?_
            refine in_normal ?_
            refine then_next ?_
            refine vc_seq ?_
            refine vc_region ?_
            refine vl_det (det_move rfl) rfl ?_
            refine vl_det (det_assign rfl) rfl ?_
            refine vl_end [(0, _), (2, _), (9, _), (10, _), (13, _), (14, _), (19, _), (45, _), (46, _), (47, _)] ⟨rfl, rfl, rfl, rfl, rfl, rfl, rfl, rfl, rfl, rfl, trivial⟩ ?_
            refine then_next ?_
            refine vc_region ?_
            refine vl_det (det_move rfl) rfl ?_
            refine vl_det (det_nilCheck rfl) rfl ?_
            refine vl_det (det_fieldAddr_ Try.underlying68 rfl (by kernel_rfl) rfl rfl) rfl ?_
            refine vl_det (det_move rfl) rfl ?_
            refine vl_call co24 rfl ((padd_d 68 hp hwl out id (by omega) (by omega)).perm ((pu2 (pu2 (pu2 (pu0 (pu0 (.refl _)))))))) rfl ?_
            rintro _ _ ⟨rfl, P85, p85, Q85, q85, hLL⟩
            obtain rfl := hLL.symm
            refine vl_end [(0, _), (2, _), (9, _), (10, _), (13, _), (14, _), (45, _), (46, _), (47, _)] ⟨rfl, rfl, rfl, rfl, rfl, rfl, rfl, rfl, rfl, trivial⟩ ?_
            refine in_normal ?_
            refine then_next ?_
            refine vc_region ?_
            refine vl_det (det_add rfl rfl (w_i64 (by omega) (by omega))) rfl ?_
            refine vl_det (det_move rfl) rfl ?_
            refine vl_end [(0, _), (2, _), (9, _), (10, _), (13, _), (14, _), (45, _), (46, _), (47, _)] ⟨rfl, rfl, rfl, rfl, rfl, rfl, rfl, rfl, rfl, trivial⟩ ?_
            refine in_loop_ ⟨_, by omega, k + 1, Z q pos + 1, h2, (id : Int), out ++ [id], P85, p85, Q85, q85, ⟨by omega, by omega, by omega, by simp; omega, hG⟩, rfl, ⟨(by first | rfl | exact int_to (by omega) | exact sl_to (by omega)), (by first | rfl | exact int_to (by omega) | exact sl_to (by omega)), (by first | rfl | exact int_to (by omega) | exact sl_to (by omega)), (by first | rfl | exact int_to (by omega) | exact sl_to (by omega)), (by first | rfl | exact int_to (by omega) | exact sl_to (by omega)), (by first | rfl | exact int_to (by omega) | exact sl_to (by omega)), (by first | rfl | exact int_to (by omega) | exact sl_to (by omega)), (by first | rfl | exact int_to (by omega) | exact sl_to (by omega)), (by first | rfl | exact int_to (by omega) | exact sl_to (by omega)), trivial⟩, (wu3 (wu3 (wu0 (wu0 (wu0 (.refl _))))))⟩
    · skip
      obtain rfl : k = m := by omega
      rw [List.drop_of_length_le (by omega), rwF] at hG
      rw [← hG] at hEp hEo hRest
      simp only at hRest
      obtain ⟨rest, hrest⟩ : ∃ rest, rest = efRest bound k b := ⟨_, rfl⟩
      rw [← hrest] at hRest hEp hEo
      have hrm : ((q.length : Int) - pos).tmod 8 = (rest : Int) := by
        rw [show (q.length : Int) - pos = ((q.length - pos : Nat) : Int) by omega, hRest]
        exact (Int.ofNat_tmod _ 8).symm
      have hrl : rest < 8 := by omega
      refine vc_exit ?_
      refine then_exit ?_
      refine loop_exit ?_
      refine in_eq ?_
      refine then_next ?_
      refine vc_seqJ (fun zf zL => (part q pos rest = 0) ∧ Sub zf [(2, .slice A b.length c), (9, .pointer (some ⟨g24, 0, none⟩)), (10, .pointer (some ⟨g30, 0, none⟩))] ∧ Wk zL (Rr g24 A24 c24 q (pos + rest) (Pt g30 68 w p P1 p1 P2 p2 out (.own 57 1 A39 k c39 (u16v (loR q w k)) :: F)))) ?_ ?_
      · skip
        refine vc_seq ?_
        refine vc_region ?_
        refine vl_det (det_move rfl) rfl ?_
        refine vl_call co52 rfl (left_d q pos hpos (by omega)) rfl ?_
        rintro _ _ ⟨rfl, hLL⟩
        obtain rfl := hLL.symm
        refine vl_det (det_rem rfl rfl (by omega) hrm) rfl ?_
        refine vl_det (det_assign rfl) rfl ?_
        refine vl_end [(2, _), (9, _), (10, _), (20, _)] ⟨rfl, rfl, rfl, rfl, trivial⟩ ?_
        refine then_next ?_
        refine vc_seq ?_
        refine vc_region ?_
        refine vl_det (det_move rfl) rfl ?_
        refine vl_det (det_gtr rfl rfl) rfl ?_
        refine vl_end [(2, _), (9, _), (10, _), (20, _), (91, _)] ⟨rfl, rfl, rfl, rfl, rfl, trivial⟩ ?_
        refine then_next ?_
        refine vc_decideU rfl (fun h91 => ?_) (fun h91 => ?_)
        · skip
          have hgv : gtV q pos rest = part q pos rest := by unfold gtV; rw [if_neg (by omega), if_neg (by omega), Int.toNat_natCast]
          have hgp : gtP q pos rest = pos + rest := by unfold gtP; rw [if_neg (by omega), if_neg (by omega), Int.toNat_natCast]
          refine vc_seq ?_
          refine vc_region ?_
          refine vl_det (det_move rfl) rfl ?_
          refine vl_det (det_move rfl) rfl ?_
          refine vl_call co53 rfl (get_d q pos hpos (by omega) rest (by omega) (by omega)) rfl ?_
          rintro _ _ ⟨rfl, hLL⟩
          obtain rfl := hLL.symm
          rw [hgv, hgp]
          refine vl_det (det_move rfl) rfl ?_
          refine vl_det (det_extract rfl rfl) rfl ?_
          refine vl_det (det_extract rfl rfl) rfl ?_
          refine vl_det (det_assign rfl) rfl ?_
          refine vl_det (det_assign rfl) rfl ?_
          refine vl_end [(2, _), (9, _), (10, _), (21, _)] ⟨rfl, rfl, rfl, rfl, trivial⟩ ?_
          refine then_next ?_
          refine vc_seq ?_
          refine vc_region ?_
          refine vl_det (det_move rfl) rfl ?_
          refine vl_det (det_neq rfl rfl) rfl ?_
          refine vl_end [(2, _), (9, _), (10, _), (99, _)] ⟨rfl, rfl, rfl, rfl, trivial⟩ ?_
          refine then_next ?_
          refine vc_decideU rfl (fun h99 => ?_) (fun h99 => ?_)
          · skip
            have hz := hEp (by simp) (show part q pos rest ≠ 0 by omega)
            refine vc_seq ?_
            refine vc_region ?_
            refine vl_det (det_assign rfl) rfl ?_
            refine vl_det (det_assign rfl) rfl ?_
            refine vl_det (det_assign rfl) rfl ?_
            refine vl_end [(6, _), (7, _), (8, _)] ⟨rfl, rfl, rfl, trivial⟩ ?_
            refine then_next ?_
            refine vc_ret ?_
            refine join_ret ?_
            refine ret_wk (L' := F) (.skip (.skip (.skip (.skip (.skip (.skip (.refl _))))))) ?_
            refine ret3_ rfl rfl rfl rfl ?_
            exact .inl ⟨by rw [hz]; decide, by rw [hz], rfl⟩
          · skip
            refine vc_skip ?_
            exact in_join ⟨by omega, ⟨(by first | rfl | exact int_to (by omega) | exact sl_to (by omega)), (by first | rfl | exact int_to (by omega) | exact sl_to (by omega)), (by first | rfl | exact int_to (by omega) | exact sl_to (by omega)), trivial⟩, .refl _⟩
        · skip
          refine vc_skip ?_
          have hr0 : rest = 0 := by omega
          exact in_join ⟨by rw [hr0]; rfl, ⟨(by first | rfl | exact int_to (by omega) | exact sl_to (by omega)), (by first | rfl | exact int_to (by omega) | exact sl_to (by omega)), (by first | rfl | exact int_to (by omega) | exact sl_to (by omega)), trivial⟩, by rw [hr0, Nat.add_zero]; exact .refl _⟩
      · rintro _ _ ⟨hpz, hs, hp⟩
        refine vc_weaken _ hs (vc_wk hp ?_)
        clear hs hp
        refine vc_seq ?_
        refine vc_region ?_
        refine vl_det (det_move rfl) rfl ?_
        refine vl_det (det_move rfl) rfl ?_
        refine vl_det (det_len_sl Try.underlying24 rfl) rfl ?_
        refine vl_det (det_move rfl) rfl ?_
        refine vl_call co52 rfl (left_d q (pos + rest) (by omega) (by omega)) rfl ?_
        rintro _ _ ⟨rfl, hLL⟩
        obtain rfl := hLL.symm
        refine vl_det (det_quo rfl rfl (by omega) (r := (((q.length - (pos + rest)) / 8 : Nat) : Int)) (by rw [show (q.length : Int) - ((pos + rest : Nat) : Int) = ((q.length - (pos + rest) : Nat) : Int) by omega]; exact quo8 (by omega))) rfl ?_
        refine vl_det (det_sub rfl rfl (r := ((b.length - (q.length - (pos + rest)) / 8 : Nat) : Int)) ((w_i64 (by omega) (by omega)).trans (by omega))) rfl ?_
        refine vl_det (det_assign rfl) rfl ?_
        refine vl_det (det_assign rfl) rfl ?_
        refine vl_det (det_assign rfl) rfl ?_
        refine vl_end [(6, _), (7, _), (8, _)] ⟨rfl, rfl, rfl, trivial⟩ ?_
        refine then_next ?_
        refine vc_ret ?_
        have hz := hEo (by simp) (by simpa using hpz)
        refine ret_wk (L' := Pt g30 68 w p P1 p1 P2 p2 out F) ((wu2 (wu2 (wu2 (.skip (.skip (.skip (.refl _)))))))) ?_
        refine ret3_ rfl rfl rfl rfl ?_
        exact .inr ⟨by rw [hz], g30, P1, p1, P2, p2, by rw [hz], by rw [hz]⟩
end Go.Proofs.Ytpgmokfhcdibhaa
