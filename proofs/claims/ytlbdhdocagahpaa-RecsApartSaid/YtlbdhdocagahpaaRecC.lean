/-
  The columns of a log, by frames. Condition: at most 10^6 records.
-/
import Derived.Test.YtlbdhdocagahpaaRecB
import Derived.Test.YtlbdhdocagahpaaRZigD
namespace Go.Proofs.Ytlbdhdocagahpaa
open Go.RowKit
set_option linter.unusedVariables false
set_option maxRecDepth 20000
variable {B : Nat} {w0 : World} {F : List Ch} {A : Option Addr} {n c : Nat}
def dlt (a b : Nat) : Nat := (a + (18446744073709551616 - b)) % 18446744073709551616
theorem dlt_lt (a b : Nat) : dlt a b < 18446744073709551616 := Nat.mod_lt _ (by omega)
theorem dlt_wrap {a b : Nat} (hb : b < 18446744073709551616) : IntKind.u64.wrap ((a : Int) - (b : Int)) = ((dlt a b : Nat) : Int) := by
  show ((a : Int) - b) % 18446744073709551616 = _
  unfold dlt; omega
def colT : Nat → List RecC → List UInt8
  | _, [] => []
  | was, x :: L => encN (zig (dlt x.1 was)) ++ colT x.1 L
def lastT (was : Nat) (L : List RecC) : Nat := L.foldl (fun _ x => x.1) was
theorem colT_snoc (x : RecC) : ∀ (L : List RecC) (was : Nat), colT was (L ++ [x]) = colT was L ++ encN (zig (dlt x.1 (lastT was L)))
  | [], was => by simp [colT, lastT]
  | y :: L, was => by
    rw [List.cons_append, colT, colT, colT_snoc x L y.1, List.append_assoc]
    rfl
theorem lastT_snoc (was : Nat) (L : List RecC) (x : RecC) : lastT was (L ++ [x]) = x.1 := by simp [lastT]
theorem colT_take {L : List RecC} {k : Nat} (h : k < L.length) : colT 0 (L.take (k + 1)) = colT 0 (L.take k) ++ encN (zig (dlt (recAt L k).1 (lastT 0 (L.take k)))) := by
  rw [take_getD h (0, 0, [], []), colT_snoc]; rfl
theorem lastT_take {L : List RecC} {k : Nat} (h : k < L.length) : lastT 0 (L.take (k + 1)) = (recAt L k).1 := by
  rw [take_getD h (0, 0, [], []), lastT_snoc]; rfl
theorem lastT_lt {L : List RecC} (hx : ∀ x ∈ L, x.1 < 18446744073709551616) : lastT 0 L < 18446744073709551616 := by
  rcases List.eq_nil_or_concat L with rfl | ⟨M, x, rfl⟩
  · simp [lastT]
  · rw [List.concat_eq_append, lastT_snoc]; exact hx x (by simp)
theorem encZ_len (a b : Nat) : (encN (zig (dlt a b))).length ≤ 10 := encN_len10 (zig_lt (dlt_lt a b))
theorem colT_len : ∀ (L : List RecC) (was : Nat), (colT was L).length ≤ 10 * L.length
  | [], was => by simp [colT]
  | x :: L, was => by
    have h1 := encZ_len x.1 was
    have h2 := colT_len L x.1
    rw [colT, List.length_append, List.length_cons]; omega
/-- how many of the first bytes are x -/
def run (x : UInt8) : List UInt8 → Nat
  | [] => 0
  | y :: l => if y = x then run x l + 1 else 0
theorem run_le (x : UInt8) : ∀ l, run x l ≤ l.length
  | [] => Nat.le_refl _
  | y :: l => by
    have := run_le x l
    unfold run; split <;> simp <;> omega
def colR : Option UInt8 → List UInt8 → List UInt8
  | _, [] => []
  | p, x :: l => if p = some x then colR (some x) l else x :: (encN (1 + run x l) ++ colR (some x) l)
theorem colR_run (x : UInt8) : ∀ l, colR (some x) l = colR none (l.drop (run x l))
  | [] => rfl
  | y :: l => by
    unfold run
    by_cases h : y = x
    · subst h
      rw [if_pos rfl, List.drop_succ_cons, colR, if_pos rfl]
      exact colR_run y l
    · rw [if_neg h, List.drop_zero, colR, colR, if_neg (by simpa using fun e => h e.symm), if_neg (by simp)]
theorem colR_len : ∀ (l : List UInt8) (p : Option UInt8), l.length ≤ 1000000000 → (colR p l).length ≤ 11 * l.length
  | [], p, _ => by cases p <;> simp [colR]
  | x :: l, p, h => by
    simp only [List.length_cons] at h
    have h1 := colR_len l (some x) (by omega)
    have h2 := encN_len10 (x := 1 + run x l) (by have := run_le x l; omega)
    rw [colR]
    split
    · simp only [List.length_cons]; omega
    · simp only [List.length_cons, List.length_append]; omega
def lv (L : List RecC) : List UInt8 := L.map (·.2.1)
theorem lv_length (L : List RecC) : (lv L).length = L.length := by simp [lv]
theorem lv_get (L : List RecC) (k : Nat) : (recAt L k).2.1 = (lv L).getD k 0 := by
  unfold recAt lv
  simp only [List.getD_eq_getElem?_getD, List.getElem?_map]
  cases L[k]? <;> rfl
theorem lv_drop (L : List RecC) (k : Nat) : lv (L.drop k) = (lv L).drop k := by simp [lv]
/-- all columns -/
def colB (L : List RecC) : List UInt8 := colT 0 L ++ colR none (lv L)
theorem colB_len {L : List RecC} (h : L.length ≤ 1000000) : (colB L).length ≤ 21 * L.length := by
  have h1 := colT_len L 0
  have h2 := colR_len (lv L) none (by rw [lv_length]; omega)
  rw [lv_length] at h2
  rw [colB, List.length_append]; omega
theorem recs_drop : ∀ (L : List RecC) (k : Nat), (recs L).drop (k * 4) = recs (L.drop k)
  | L, 0 => by simp
  | [], k + 1 => by simp [recs]
  | x :: L, k + 1 => by
    have h := recs_drop L k
    rw [List.drop_succ_cons, ← h]
    simp only [recs, List.flatMap_cons]
    rw [Nat.succ_mul, Nat.add_comm (k * 4) 4, ← List.drop_drop]
    rfl
theorem colR_head {l : List UInt8} (h : 0 < l.length) : colR none l = (l.getD 0 0) :: (encN (1 + run (l.getD 0 0) (l.drop 1)) ++ colR none (l.drop (1 + run (l.getD 0 0) (l.drop 1)))) := by
  match l, h with
  | x :: l, _ =>
    rw [colR, if_neg (by simp), colR_run]
    simp only [List.getD_cons_zero, List.drop_succ_cons, List.drop_zero]
    rw [Nat.add_comm 1, List.drop_succ_cons]
theorem run_step {x : UInt8} {l : List UInt8} {k : Nat} (h : k < l.length) : run x (l.drop k) = if l.getD k 0 = x then run x (l.drop (k + 1)) + 1 else 0 := by
  rw [drop_getD h 0, run]
theorem columns_d (L : List RecC) (hb : Bor B w0 F 4 (.slice A L.length c) L.length (recs L)) (hx : ∀ x ∈ L, x.1 < 18446744073709551616) (hl : L.length ≤ 1000000) :
    Does Try.prog B w0 27 [.slice A L.length c] F (fun r K => ∃ A' c', r = .slice A' (colB L).length c' ∧ K = .own 5 1 A' (colB L).length c' (bv (colB L)) :: F) := by
  have hcb := colB_len hl
  refine fn_walk Try.func27 61 rfl rfl rfl [(0, .slice A L.length c)] ⟨⟨rfl, rfl⟩, trivial⟩ ?_
  refine vc_seq ?_
  refine vc_region ?_
  refine vl_det (det_assign rfl) rfl ?_
  refine vl_end [(0, _)] ⟨rfl, trivial⟩ ?_
  refine then_next ?_
  refine vc_seq ?_
  refine vc_nil_row 5 1 none ?_
  refine vc_region ?_
  refine vl_det (det_assign rfl) rfl ?_
  refine vl_end [(0, _), (3, _)] ⟨rfl, rfl, trivial⟩ ?_
  refine then_next ?_
  refine vc_seq ?_
  refine vc_region ?_
  refine vl_det (det_assign rfl) rfl ?_
  refine vl_end [(0, _), (3, _), (4, _)] ⟨rfl, rfl, rfl, trivial⟩ ?_
  refine then_next ?_
  refine vc_seq ?_
  refine vc_seq ?_
  refine vc_region ?_
  refine vl_det (det_move rfl) rfl ?_
  refine vl_det (det_len_sl Try.underlying22 rfl) rfl ?_
  refine vl_det (det_move rfl) rfl ?_
  refine vl_end [(0, _), (3, _), (4, _), (8, _), (9, _), (10, _)] ⟨rfl, rfl, rfl, rfl, rfl, rfl, trivial⟩ ?_
  refine then_next ?_
  refine vc_block ?_
  refine vc_loopJ (fun zf zL zm => ∃ (k : Nat) (A3 : Option Addr) (c3 : Nat), (k ≤ L.length) ∧ L.length - k = zm ∧ Sub zf [(0, .slice A L.length c), (3, .slice A3 (colT 0 (L.take k)).length c3), (4, .int .u64 (lastT 0 (L.take k))), (8, .slice A L.length c), (9, .int .i64 L.length), (10, .int .i64 k)] ∧ Wk zL (.own 5 1 A3 (colT 0 (L.take k)).length c3 (bv (colT 0 (L.take k))) :: F)) _ ⟨0, none, 0, Nat.zero_le _, rfl, ⟨(by first | rfl | exact int_to (by omega) | exact sl_to (by omega)), (by first | rfl | exact int_to (by omega) | exact sl_to (by omega)), (by first | rfl | exact int_to (by omega) | exact sl_to (by omega)), (by first | rfl | exact int_to (by omega) | exact sl_to (by omega)), (by first | rfl | exact int_to (by omega) | exact sl_to (by omega)), (by first | rfl | exact int_to (by omega) | exact sl_to (by omega)), trivial⟩, wk_own rfl rfl (.refl _)⟩ ?_
  rintro _ _ _ ⟨k, A3, c3, hk, rfl, hs, hp⟩
  refine vc_weaken _ hs (vc_wk hp ?_)
  clear hs hp
  refine vc_seq ?_
  refine vc_region ?_
  refine vl_det (det_lss rfl rfl) rfl ?_
  refine vl_end [(0, _), (3, _), (4, _), (8, _), (9, _), (10, _), (11, _)] ⟨rfl, rfl, rfl, rfl, rfl, rfl, rfl, trivial⟩ ?_
  refine then_next ?_
  refine vc_seq ?_
  refine vc_decideU rfl (fun h11 => ?_) (fun h11 => ?_)
  · skip
    have hxk := recAt_lt hx (k := k) (by omega)
    have hlt := lastT_lt (L := L.take k) (fun x h => hx x (List.mem_of_mem_take h))
    have hcl := colT_len (L.take k) 0
    have htl := List.length_take_le k L
    have hone := rec_one (recAt L k)
    have e := colT_take (L := L) (k := k) (by omega)
    have e2 := lastT_take (L := L) (k := k) (by omega)
    have hel := encZ_len (recAt L k).1 (lastT 0 (L.take k))
    have el : (colT 0 (L.take k)).length + (encN (zig (dlt (recAt L k).1 (lastT 0 (L.take k))))).length = (colT 0 (L.take (k + 1))).length := by rw [e, List.length_append]
    refine vc_skip ?_
    refine then_next ?_
    refine vc_seq ?_
    refine vc_block ?_
    refine vc_seq ?_
    refine vc_region ?_
    refine vl_det (det_indexAddr (i := k) (size := 4) Try.underlying22 (by kernel_rfl) rfl rfl rfl (by omega) (by first | (exact Bor.own (by repeat (first | exact List.Mem.head _ | apply List.Mem.tail))) | (repeat (first | assumption | apply Bor.cons)))) rfl ?_
    refine vl_det (det_load_rowa 4 (by kernel_rfl) rfl (by first | (exact Bor.own (by repeat (first | exact List.Mem.head _ | apply List.Mem.tail))) | (repeat (first | assumption | apply Bor.cons))) (by omega) (RecC.cells (recAt L k)) (rec_cells (by omega)) rfl) rfl ?_
    refine vl_eff (eff_alloc_z (zv := (.agg #[.int .u64 0, .int .u8 0, .string ⟨#[]⟩, .string ⟨#[]⟩])) (by kernel_rfl) rfl) rfl ?_
    rintro _ _ ⟨g6, rfl, rfl⟩
    refine vl_eff0 (eff_store_whole 4 (by kernel_rfl) rfl rfl (by first | exact bv_one _ | exact strs_one _ | exact ints_one _ _ | (simp; done) | (simp [Value.oneCell']; done) | assumption) (by repeat (first | exact .hd | apply Sel.tl)) (by first | rfl | (simp; omega) | (simp [*]; done)) (by first | rfl | (simp; omega) | (simp [*]; done))) ?_
    rintro _ _ rfl
    refine vl_end [(0, _), (3, _), (4, _), (6, _), (8, _), (9, _), (10, _)] ⟨rfl, rfl, rfl, rfl, rfl, rfl, rfl, trivial⟩ ?_
    refine then_next ?_
    refine vc_seq ?_
    refine vc_region ?_
    refine vl_det (det_move rfl) rfl ?_
    refine vl_det (det_fieldAddr_ Try.underlying44 rfl (by kernel_rfl) rfl rfl) rfl ?_
    refine vl_det (det_load_blk (by kernel_rfl) rfl (by repeat (first | exact .hd | apply Sel.tl)) rfl) rfl ?_
    refine vl_det (det_move rfl) rfl ?_
    refine vl_det (det_sub rfl rfl (dlt_wrap hlt)) rfl ?_
    refine vl_call co45 rfl (zig_d _ (dlt_lt _ _)) rfl ?_
    rintro _ _ ⟨rfl, hLL⟩
    obtain rfl := hLL.symm
    refine vl_call co44 rfl (num_d _ (zig_lt (dlt_lt _ _))) rfl ?_
    rintro _ _ ⟨A20, c20, rfl, hLL⟩
    obtain rfl := hLL.symm
    refine vl_eff (eff_app slT32 rfl (by repeat (first | exact .hd | apply Sel.tl)) rfl (by first | (exact Bor.own (by repeat (first | exact List.Mem.head _ | apply List.Mem.tail))) | (repeat (first | assumption | apply Bor.cons))) (by first | exact bv_one _ | exact strs_one _ | exact ints_one _ _ | (simp; done) | (simp [Value.oneCell']; done) | assumption) (by omega) (by omega)) rfl ?_
    rintro _ _ ⟨A21, c21, rfl, rfl⟩
    refine vl_det (det_assign rfl) rfl ?_
    refine vl_end [(0, _), (3, _), (6, _), (8, _), (9, _), (10, _)] ⟨rfl, rfl, rfl, rfl, rfl, rfl, trivial⟩ ?_
    refine then_next ?_
    refine vc_region ?_
    refine vl_det (det_fieldAddr_ Try.underlying44 rfl (by kernel_rfl) rfl rfl) rfl ?_
    refine vl_det (det_load_blk (by kernel_rfl) rfl (by repeat (first | exact .hd | apply Sel.tl)) rfl) rfl ?_
    refine vl_det (det_assign rfl) rfl ?_
    refine vl_end [(0, _), (3, _), (4, _), (8, _), (9, _), (10, _)] ⟨rfl, rfl, rfl, rfl, rfl, rfl, trivial⟩ ?_
    refine in_normal ?_
    refine then_next ?_
    refine vc_region ?_
    refine vl_det (det_add rfl rfl (w_i64 (by omega) (by omega))) rfl ?_
    refine vl_det (det_move rfl) rfl ?_
    refine vl_end [(0, _), (3, _), (4, _), (8, _), (9, _), (10, _)] ⟨rfl, rfl, rfl, rfl, rfl, rfl, trivial⟩ ?_
    rw [el]
    refine in_loop_ ⟨_, by omega, k + 1, A21, c21, by omega, rfl, ⟨(by first | rfl | exact int_to (by omega) | exact sl_to (by omega)), (by first | rfl | exact int_to (by omega) | exact sl_to (by omega)), (by first | rfl | exact int_to (by omega) | exact sl_to (by omega)), (by first | rfl | exact int_to (by omega) | exact sl_to (by omega)), (by first | rfl | exact int_to (by omega) | exact sl_to (by omega)), (by first | rfl | exact int_to (by omega) | exact sl_to (by omega)), trivial⟩, .skip (.skip (wk_own rfl (by rw [e, bv_append]) (.refl _)))⟩
  · skip
    refine vc_exit ?_
    refine then_exit ?_
    refine loop_exit ?_
    refine in_eq ?_
    refine then_next ?_
    refine vc_seq ?_
    refine vc_block ?_
    refine vc_loopJ (fun zf zL zm => ∃ (M : List RecC) (m : Nat) (A0 : Option Addr) (c0 : Nat) (pre : List UInt8) (A4 : Option Addr) (c4 : Nat), (m = M.length ∧ m ≤ L.length ∧ Bor B w0 F 4 (.slice A0 m c0) m (recs M) ∧ colB L = pre ++ colR none (lv M)) ∧ m = zm ∧ Sub zf [(0, .slice A0 m c0), (3, .slice A4 pre.length c4)] ∧ Wk zL (.own 5 1 A4 pre.length c4 (bv pre) :: F)) _ ⟨L, L.length, A, c, colT 0 (L.take k), A3, c3, ⟨rfl, Nat.le_refl _, hb, by rw [List.take_of_length_le (by omega)]; rfl⟩, rfl, ⟨(by first | rfl | exact int_to (by omega) | exact sl_to (by omega)), (by first | rfl | exact int_to (by omega) | exact sl_to (by omega)), trivial⟩, .refl _⟩ ?_
    rintro _ _ _ ⟨M, m, A0, c0, pre, A4, c4, ⟨hm, hml, hbm, hpre⟩, rfl, hs, hp⟩
    refine vc_weaken _ hs (vc_wk hp ?_)
    clear hs hp
    have hpl : pre.length ≤ (colB L).length := by rw [hpre, List.length_append]; omega
    have hlv : (lv M).length = m := by rw [lv_length, hm]
    refine vc_seq ?_
    refine vc_seq ?_
    refine vc_region ?_
    refine vl_det (det_move rfl) rfl ?_
    refine vl_det (det_len_sl Try.underlying22 rfl) rfl ?_
    refine vl_det (det_gtr rfl rfl) rfl ?_
    refine vl_end [(0, _), (3, _), (27, _)] ⟨rfl, rfl, rfl, trivial⟩ ?_
    refine then_next ?_
    refine vc_decideU rfl (fun h27 => ?_) (fun h27 => ?_)
    · skip
      refine vc_skip ?_
      refine then_next ?_
      refine vc_block ?_
      refine vc_seq ?_
      refine vc_region ?_
      refine vl_det (det_assign rfl) rfl ?_
      refine vl_end [(0, _), (3, _), (7, _)] ⟨rfl, rfl, rfl, trivial⟩ ?_
      refine then_next ?_
      refine vc_seq ?_
      refine vc_block ?_
      refine vc_loopJ (fun zf zL zm => ∃ (i : Nat), (1 ≤ i ∧ i ≤ m ∧ run ((lv M).getD 0 0) ((lv M).drop 1) = (i - 1) + run ((lv M).getD 0 0) ((lv M).drop i)) ∧ m - i = zm ∧ Sub zf [(0, .slice A0 m c0), (3, .slice A4 pre.length c4), (7, .int .i64 i)] ∧ Wk zL (.own 5 1 A4 pre.length c4 (bv pre) :: F)) _ ⟨1, ⟨Nat.le_refl _, by omega, by omega⟩, rfl, ⟨(by first | rfl | exact int_to (by omega) | exact sl_to (by omega)), (by first | rfl | exact int_to (by omega) | exact sl_to (by omega)), (by first | rfl | exact int_to (by omega) | exact sl_to (by omega)), trivial⟩, .refl _⟩ ?_
      rintro _ _ _ ⟨i, ⟨hi1, him, hrun⟩, rfl, hs, hp⟩
      refine vc_weaken _ hs (vc_wk hp ?_)
      clear hs hp
      refine vc_seq ?_
      refine vc_seq ?_
      refine vq_region (by kernel_rfl) (by kernel_rfl) ?_
      refine vq_cut 16 43 [(0, _), (3, _), (7, _)] ((i : Int) < m ∧ ((recAt M i).2.1.toNat : Int) = (recAt M 0).2.1.toNat) ⟨rfl, rfl, rfl, trivial⟩ ?_ ?_
      · skip
        refine vq_det (det_move rfl) rfl ?_
        refine vq_det (det_move rfl) rfl ?_
        refine vq_det (det_len_sl Try.underlying22 rfl) rfl ?_
        refine vq_det (det_lss rfl rfl) rfl ?_
        refine vq_det (det_move rfl) rfl ?_
        refine vq_guardp rfl rfl rfl (fun h32 => ?_) (fun h32 => ?_)
        · skip
          refine vq_det (det_move rfl) rfl ?_
          refine vq_guard_t rfl rfl ?_
          refine vq_det (det_move rfl) rfl ?_
          refine vq_guard_t rfl rfl ?_
          refine vq_det (det_indexAddr (size := 4) Try.underlying22 (by kernel_rfl) rfl rfl rfl (by omega) (by first | (exact Bor.own (by repeat (first | exact List.Mem.head _ | apply List.Mem.tail))) | (repeat (first | assumption | apply Bor.cons)))) rfl ?_
          refine vq_guard_t rfl rfl ?_
          refine vq_det (det_fieldAddr_row_ Try.underlying44 rfl (by kernel_rfl) rfl (by first | (exact Bor.own (by repeat (first | exact List.Mem.head _ | apply List.Mem.tail))) | (repeat (first | assumption | apply Bor.cons))) (by omega) rfl) rfl ?_
          refine vq_guard_t rfl rfl ?_
          refine vq_det (det_load_rowf (by kernel_rfl) rfl (by first | (exact Bor.own (by repeat (first | exact List.Mem.head _ | apply List.Mem.tail))) | (repeat (first | assumption | apply Bor.cons))) (by omega) ((rec_get (by omega) (by decide)).trans rfl)) rfl ?_
          refine vq_guard_t rfl rfl ?_
          refine vq_det (det_move rfl) rfl ?_
          refine vq_guard_t rfl rfl ?_
          refine vq_det (det_indexAddr (i := 0) (size := 4) Try.underlying22 (by kernel_rfl) rfl rfl rfl (by omega) (by first | (exact Bor.own (by repeat (first | exact List.Mem.head _ | apply List.Mem.tail))) | (repeat (first | assumption | apply Bor.cons)))) rfl ?_
          refine vq_guard_t rfl rfl ?_
          refine vq_det (det_fieldAddr_row_ Try.underlying44 rfl (by kernel_rfl) rfl (by first | (exact Bor.own (by repeat (first | exact List.Mem.head _ | apply List.Mem.tail))) | (repeat (first | assumption | apply Bor.cons))) (by omega) rfl) rfl ?_
          refine vq_guard_t rfl rfl ?_
          refine vq_det (det_load_rowf (by kernel_rfl) rfl (by first | (exact Bor.own (by repeat (first | exact List.Mem.head _ | apply List.Mem.tail))) | (repeat (first | assumption | apply Bor.cons))) (by omega) ((rec_get (by omega) (by decide)).trans rfl)) rfl ?_
          refine vq_guard_t rfl rfl ?_
          refine vq_det (det_eql rfl rfl) rfl ?_
          refine vq_det (det_pick_t rfl rfl) rfl ?_
          exact vq_cut_end ⟨rfl, rfl, rfl, trivial⟩ (by first | rfl | exact bool_to_t (by first | omega | simp_all) | exact bool_to_f (by first | omega | simp_all) | exact bool_to (by first | omega | simp_all) | exact bool_to_b (by first | omega | simp_all))
        · skip
          refine vq_guard_f rfl rfl rfl rfl ?_
          refine vq_guard_f rfl rfl rfl rfl ?_
          refine vq_guard_f rfl rfl rfl rfl ?_
          refine vq_guard_f rfl rfl rfl rfl ?_
          refine vq_guard_f rfl rfl rfl rfl ?_
          refine vq_guard_f rfl rfl rfl rfl ?_
          refine vq_guard_f rfl rfl rfl rfl ?_
          refine vq_guard_f rfl rfl rfl rfl ?_
          refine vq_guard_f rfl rfl rfl rfl ?_
          refine vq_det (det_pick_f rfl rfl) rfl ?_
          exact vq_cut_end ⟨rfl, rfl, rfl, trivial⟩ (by first | rfl | exact bool_to_t (by first | omega | simp_all) | exact bool_to_f (by first | omega | simp_all) | exact bool_to (by first | omega | simp_all) | exact bool_to_b (by first | omega | simp_all))
      · skip
        refine vq_end [(0, _), (3, _), (7, _), (43, _)] ⟨rfl, rfl, rfl, rfl, trivial⟩ ?_
        refine then_next ?_
        refine vc_decideU rfl (fun h43 => ?_) (fun h43 => ?_)
        · skip
          have hq : (lv M).getD i 0 = (lv M).getD 0 0 := by rw [← lv_get, ← lv_get]; exact UInt8.toNat_inj.1 (by omega)
          have hs := run_step (x := (lv M).getD 0 0) (l := lv M) (k := i) (by omega)
          rw [if_pos hq] at hs
          refine vc_skip ?_
          refine then_next ?_
          refine vc_block ?_
          refine vc_region ?_
          refine vl_det (det_move rfl) rfl ?_
          refine vl_det (det_add rfl rfl (w_i64 (by omega) (by omega))) rfl ?_
          refine vl_det (det_assign rfl) rfl ?_
          refine vl_end [(0, _), (3, _), (7, _)] ⟨rfl, rfl, rfl, trivial⟩ ?_
          refine in_normal ?_
          refine in_loop_ ⟨_, by omega, i + 1, ⟨by omega, by omega, by omega⟩, rfl, ⟨(by first | rfl | exact int_to (by omega) | exact sl_to (by omega)), (by first | rfl | exact int_to (by omega) | exact sl_to (by omega)), (by first | rfl | exact int_to (by omega) | exact sl_to (by omega)), trivial⟩, .refl _⟩
        · skip
          have hz : run ((lv M).getD 0 0) ((lv M).drop i) = 0 := by
            by_cases hi : i < m
            · rw [run_step (by omega), if_neg (fun hq => h43 ⟨by omega, by rw [lv_get, lv_get, hq]⟩)]
            · rw [List.drop_of_length_le (by omega)]; rfl
          have hch := colR_head (l := lv M) (by omega)
          rw [hrun, hz, show 1 + (i - 1 + 0) = i by omega, ← lv_drop] at hch
          have hni := encN_len10 (x := i) (by omega)
          have hlv0 := lv_get M 0
          have hcut := hbm.cut (k := i) (by omega)
          rw [recs_drop] at hcut
          refine vc_exit ?_
          refine then_exit ?_
          refine loop_exit ?_
          refine in_eq ?_
          refine then_next ?_
          refine vc_seq ?_
          refine vc_region ?_
          refine vl_det (det_move rfl) rfl ?_
          refine vl_det (det_move rfl) rfl ?_
          refine vl_det (det_indexAddr (i := 0) (size := 4) Try.underlying22 (by kernel_rfl) rfl rfl rfl (by omega) (by first | (exact Bor.own (by repeat (first | exact List.Mem.head _ | apply List.Mem.tail))) | (repeat (first | assumption | apply Bor.cons)))) rfl ?_
          refine vl_det (det_fieldAddr_row_ Try.underlying44 rfl (by kernel_rfl) rfl (by first | (exact Bor.own (by repeat (first | exact List.Mem.head _ | apply List.Mem.tail))) | (repeat (first | assumption | apply Bor.cons))) (by omega) rfl) rfl ?_
          refine vl_det (det_load_rowf (by kernel_rfl) rfl (by first | (exact Bor.own (by repeat (first | exact List.Mem.head _ | apply List.Mem.tail))) | (repeat (first | assumption | apply Bor.cons))) (by omega) ((rec_get (by omega) (by decide)).trans rfl)) rfl ?_
          refine vl_push slT32 rfl rfl rfl rfl rfl (fun _ => rfl) (by repeat (first | exact .hd | apply Sel.tl)) (by omega) (by omega) ?_
          intro _ A52 c52
          refine vl_det (det_move rfl) rfl ?_
          refine vl_det (det_conv Try.underlying3 Try.underlying42 rfl (w_u64 (by omega) (by omega))) rfl ?_
          refine vl_call co44 rfl (num_d i (by omega)) rfl ?_
          rintro _ _ ⟨A55, c55, rfl, hLL⟩
          obtain rfl := hLL.symm
          refine vl_eff (eff_app slT32 rfl (by repeat (first | exact .hd | apply Sel.tl)) rfl (by first | (exact Bor.own (by repeat (first | exact List.Mem.head _ | apply List.Mem.tail))) | (repeat (first | assumption | apply Bor.cons))) (by first | exact bv_one _ | exact strs_one _ | exact ints_one _ _ | (simp; done) | (simp [Value.oneCell']; done) | assumption) (by omega) (by omega)) rfl ?_
          rintro _ _ ⟨A56, c56, rfl, rfl⟩
          refine vl_det (det_assign rfl) rfl ?_
          refine vl_end [(0, _), (3, _), (7, _)] ⟨rfl, rfl, rfl, trivial⟩ ?_
          refine then_next ?_
          refine vc_region ?_
          refine vl_det (det_move rfl) rfl ?_
          refine vl_det (det_move rfl) rfl ?_
          refine vl_det (det_slice_lo (i := i) (size := 4) Try.underlying22 (by kernel_rfl) rfl rfl rfl (by omega)) rfl ?_
          refine vl_det (det_assign rfl) rfl ?_
          refine vl_end [(0, _), (3, _)] ⟨rfl, rfl, trivial⟩ ?_
          refine in_normal ?_
          have el : pre.length + 1 + (encN i).length = (pre ++ ((lv M).getD 0 0 :: encN i)).length := by simp; omega
          rw [el]
          refine in_loop_ ⟨_, by omega, M.drop i, m - i, _, _, pre ++ ((lv M).getD 0 0 :: encN i), A56, c56, ⟨by rw [List.length_drop, hm], by omega, hcut, by rw [hpre, hch]; simp⟩, rfl, ⟨(by first | rfl | exact int_to (by omega) | exact sl_to (by omega)), (by first | rfl | exact int_to (by omega) | exact sl_to (by omega)), trivial⟩, .skip (wk_own rfl (by simp [bv, hlv0]) (.refl _))⟩
    · skip
      refine vc_exit ?_
      refine then_exit ?_
      refine loop_exit ?_
      refine in_eq ?_
      refine then_next ?_
      refine vc_seq ?_
      refine vc_region ?_
      refine vl_det (det_move rfl) rfl ?_
      refine vl_det (det_assign rfl) rfl ?_
      refine vl_end [(2, _)] ⟨rfl, trivial⟩ ?_
      refine then_next ?_
      refine vc_ret ?_
      have hM : M = [] := List.eq_nil_of_length_eq_zero (by omega)
      subst hM
      have hcb2 : colB L = pre := by rw [hpre]; simp [lv, colR]
      rw [hcb2]
      refine ret1 rfl rfl ?_
      exact ⟨A4, c4, rfl, rfl⟩
def prevO (l : List UInt8) (i : Nat) : Option UInt8 := if i = 0 then none else some (l.getD (i - 1) 0)
theorem prevO_succ (l : List UInt8) (i : Nat) : prevO l (i + 1) = some (l.getD i 0) := rfl
theorem rcolumns_d (L : List RecC) (hb : Bor B w0 F 4 (.slice A L.length c) L.length (recs L)) (hx : ∀ x ∈ L, x.1 < 18446744073709551616) (hl : L.length ≤ 1000000) :
    Does Try.prog B w0 28 [.slice A L.length c] F (fun r K => ∃ A' c', r = .slice A' (colB L).length c' ∧ K = .own 5 1 A' (colB L).length c' (bv (colB L)) :: F) := by
  have hcb := colB_len hl
  have hlv : (lv L).length = L.length := lv_length L
  refine fn_walk Try.func28 89 rfl rfl rfl [(0, .slice A L.length c)] ⟨⟨rfl, rfl⟩, trivial⟩ ?_
  refine vc_seq ?_
  refine vc_region ?_
  refine vl_det (det_assign rfl) rfl ?_
  refine vl_end [(0, _)] ⟨rfl, trivial⟩ ?_
  refine then_next ?_
  refine vc_seq ?_
  refine vc_nil_row 5 1 none ?_
  refine vc_region ?_
  refine vl_det (det_assign rfl) rfl ?_
  refine vl_end [(0, _), (3, _)] ⟨rfl, rfl, trivial⟩ ?_
  refine then_next ?_
  refine vc_seq ?_
  refine vc_region ?_
  refine vl_det (det_assign rfl) rfl ?_
  refine vl_end [(0, _), (3, _), (4, _)] ⟨rfl, rfl, rfl, trivial⟩ ?_
  refine then_next ?_
  refine vc_seq ?_
  refine vc_seq ?_
  refine vc_region ?_
  refine vl_det (det_assign rfl) rfl ?_
  refine vl_end [(0, _), (3, _), (4, _), (5, _)] ⟨rfl, rfl, rfl, rfl, trivial⟩ ?_
  refine then_next ?_
  refine vc_block ?_
  refine vc_loopJ (fun zf zL zm => ∃ (k : Nat) (A3 : Option Addr) (c3 : Nat), (k ≤ L.length) ∧ L.length - k = zm ∧ Sub zf [(0, .slice A L.length c), (3, .slice A3 (colT 0 (L.take k)).length c3), (4, .int .u64 (lastT 0 (L.take k))), (5, .int .i64 k)] ∧ Wk zL (.own 5 1 A3 (colT 0 (L.take k)).length c3 (bv (colT 0 (L.take k))) :: F)) _ ⟨0, none, 0, Nat.zero_le _, rfl, ⟨(by first | rfl | exact int_to (by omega) | exact sl_to (by omega)), (by first | rfl | exact int_to (by omega) | exact sl_to (by omega)), (by first | rfl | exact int_to (by omega) | exact sl_to (by omega)), (by first | rfl | exact int_to (by omega) | exact sl_to (by omega)), trivial⟩, wk_own rfl rfl (.refl _)⟩ ?_
  rintro _ _ _ ⟨k, A3, c3, hk, rfl, hs, hp⟩
  refine vc_weaken _ hs (vc_wk hp ?_)
  clear hs hp
  refine vc_seq ?_
  refine vc_seq ?_
  refine vc_region ?_
  refine vl_det (det_move rfl) rfl ?_
  refine vl_det (det_move rfl) rfl ?_
  refine vl_det (det_len_sl Try.underlying22 rfl) rfl ?_
  refine vl_det (det_lss rfl rfl) rfl ?_
  refine vl_end [(0, _), (3, _), (4, _), (5, _), (11, _)] ⟨rfl, rfl, rfl, rfl, rfl, trivial⟩ ?_
  refine then_next ?_
  refine vc_decideU rfl (fun h11 => ?_) (fun h11 => ?_)
  · skip
    have hxk := recAt_lt hx (k := k) (by omega)
    have hlt := lastT_lt (L := L.take k) (fun x h => hx x (List.mem_of_mem_take h))
    have hcl := colT_len (L.take k) 0
    have htl := List.length_take_le k L
    have hone := rec_one (recAt L k)
    have e := colT_take (L := L) (k := k) (by omega)
    have e2 := lastT_take (L := L) (k := k) (by omega)
    have hel := encZ_len (recAt L k).1 (lastT 0 (L.take k))
    have el : (colT 0 (L.take k)).length + (encN (zig (dlt (recAt L k).1 (lastT 0 (L.take k))))).length = (colT 0 (L.take (k + 1))).length := by rw [e, List.length_append]
    refine vc_skip ?_
    refine then_next ?_
    refine vc_seq ?_
    refine vc_block ?_
    refine vc_seq ?_
    refine vc_region ?_
    refine vl_det (det_move rfl) rfl ?_
    refine vl_det (det_move rfl) rfl ?_
    refine vl_det (det_move rfl) rfl ?_
    refine vl_det (det_indexAddr (size := 4) Try.underlying22 (by kernel_rfl) rfl rfl rfl (by omega) (by first | (exact Bor.own (by repeat (first | exact List.Mem.head _ | apply List.Mem.tail))) | (repeat (first | assumption | apply Bor.cons)))) rfl ?_
    refine vl_det (det_fieldAddr_row_ Try.underlying44 rfl (by kernel_rfl) rfl (by first | (exact Bor.own (by repeat (first | exact List.Mem.head _ | apply List.Mem.tail))) | (repeat (first | assumption | apply Bor.cons))) (by omega) rfl) rfl ?_
    refine vl_det (det_load_rowf (by kernel_rfl) rfl (by first | (exact Bor.own (by repeat (first | exact List.Mem.head _ | apply List.Mem.tail))) | (repeat (first | assumption | apply Bor.cons))) (by omega) ((rec_get (by omega) (by decide)).trans rfl)) rfl ?_
    refine vl_det (det_move rfl) rfl ?_
    refine vl_det (det_sub rfl rfl (dlt_wrap hlt)) rfl ?_
    refine vl_call co47 rfl (rzig_d _ (dlt_lt _ _)) rfl ?_
    rintro _ _ ⟨rfl, hLL⟩
    obtain rfl := hLL.symm
    refine vl_call co46 rfl (rnum_d _ (zig_lt (dlt_lt _ _))) rfl ?_
    rintro _ _ ⟨A23, c23, rfl, hLL⟩
    obtain rfl := hLL.symm
    refine vl_eff (eff_app slT32 rfl (by repeat (first | exact .hd | apply Sel.tl)) rfl (by first | (exact Bor.own (by repeat (first | exact List.Mem.head _ | apply List.Mem.tail))) | (repeat (first | assumption | apply Bor.cons))) (by first | exact bv_one _ | exact strs_one _ | exact ints_one _ _ | (simp; done) | (simp [Value.oneCell']; done) | assumption) (by omega) (by omega)) rfl ?_
    rintro _ _ ⟨A24, c24, rfl, rfl⟩
    refine vl_det (det_assign rfl) rfl ?_
    refine vl_end [(0, _), (3, _), (5, _)] ⟨rfl, rfl, rfl, trivial⟩ ?_
    refine then_next ?_
    refine vc_region ?_
    refine vl_det (det_move rfl) rfl ?_
    refine vl_det (det_move rfl) rfl ?_
    refine vl_det (det_indexAddr (size := 4) Try.underlying22 (by kernel_rfl) rfl rfl rfl (by omega) (by first | (exact Bor.own (by repeat (first | exact List.Mem.head _ | apply List.Mem.tail))) | (repeat (first | assumption | apply Bor.cons)))) rfl ?_
    refine vl_det (det_fieldAddr_row_ Try.underlying44 rfl (by kernel_rfl) rfl (by first | (exact Bor.own (by repeat (first | exact List.Mem.head _ | apply List.Mem.tail))) | (repeat (first | assumption | apply Bor.cons))) (by omega) rfl) rfl ?_
    refine vl_det (det_load_rowf (by kernel_rfl) rfl (by first | (exact Bor.own (by repeat (first | exact List.Mem.head _ | apply List.Mem.tail))) | (repeat (first | assumption | apply Bor.cons))) (by omega) ((rec_get (by omega) (by decide)).trans rfl)) rfl ?_
    refine vl_det (det_assign rfl) rfl ?_
    refine vl_end [(0, _), (3, _), (4, _), (5, _)] ⟨rfl, rfl, rfl, rfl, trivial⟩ ?_
    refine in_normal ?_
    refine then_next ?_
    refine vc_region ?_
    refine vl_det (det_move rfl) rfl ?_
    refine vl_det (det_add rfl rfl (w_i64 (by omega) (by omega))) rfl ?_
    refine vl_det (det_assign rfl) rfl ?_
    refine vl_end [(0, _), (3, _), (4, _), (5, _)] ⟨rfl, rfl, rfl, rfl, trivial⟩ ?_
    rw [el]
    refine in_loop_ ⟨_, by omega, k + 1, A24, c24, by omega, rfl, ⟨(by first | rfl | exact int_to (by omega) | exact sl_to (by omega)), (by first | rfl | exact int_to (by omega) | exact sl_to (by omega)), (by first | rfl | exact int_to (by omega) | exact sl_to (by omega)), (by first | rfl | exact int_to (by omega) | exact sl_to (by omega)), trivial⟩, .skip (wk_own rfl (by rw [e, bv_append]) (.refl _))⟩
  · skip
    refine vc_exit ?_
    refine then_exit ?_
    refine loop_exit ?_
    refine in_eq ?_
    refine then_next ?_
    refine vc_seq ?_
    refine vc_seq ?_
    refine vc_region ?_
    refine vl_det (det_assign rfl) rfl ?_
    refine vl_end [(0, _), (3, _), (6, _)] ⟨rfl, rfl, rfl, trivial⟩ ?_
    refine then_next ?_
    refine vc_block ?_
    refine vc_loopJ (fun zf zL zm => ∃ (i : Nat) (pre : List UInt8) (A4 : Option Addr) (c4 : Nat), (i ≤ L.length ∧ colB L = pre ++ colR (prevO (lv L) i) ((lv L).drop i)) ∧ L.length - i = zm ∧ Sub zf [(0, .slice A L.length c), (3, .slice A4 pre.length c4), (6, .int .i64 i)] ∧ Wk zL (.own 5 1 A4 pre.length c4 (bv pre) :: F)) _ ⟨0, colT 0 (L.take k), A3, c3, ⟨Nat.zero_le _, by rw [List.take_of_length_le (by omega)]; rfl⟩, rfl, ⟨(by first | rfl | exact int_to (by omega) | exact sl_to (by omega)), (by first | rfl | exact int_to (by omega) | exact sl_to (by omega)), (by first | rfl | exact int_to (by omega) | exact sl_to (by omega)), trivial⟩, .refl _⟩ ?_
    rintro _ _ _ ⟨i, pre, A4, c4, ⟨hi, hpre⟩, rfl, hs, hp⟩
    refine vc_weaken _ hs (vc_wk hp ?_)
    clear hs hp
    have hpl : pre.length ≤ (colB L).length := by rw [hpre, List.length_append]; omega
    refine vc_seq ?_
    refine vc_seq ?_
    refine vc_region ?_
    refine vl_det (det_move rfl) rfl ?_
    refine vl_det (det_move rfl) rfl ?_
    refine vl_det (det_len_sl Try.underlying22 rfl) rfl ?_
    refine vl_det (det_lss rfl rfl) rfl ?_
    refine vl_end [(0, _), (3, _), (6, _), (33, _)] ⟨rfl, rfl, rfl, rfl, trivial⟩ ?_
    refine then_next ?_
    refine vc_decideU rfl (fun h33 => ?_) (fun h33 => ?_)
    · skip
      have hdr := drop_getD (l := lv L) (k := i) (by omega) 0
      have hlvi := lv_get L i
      have hlvp := lv_get L (i - 1)
      refine vc_skip ?_
      refine then_next ?_
      refine vc_seq ?_
      refine vc_block ?_
      refine vc_seq ?_
      refine vc_seq ?_
      refine vq_region (by kernel_rfl) (by kernel_rfl) ?_
      refine vq_cut 16 51 [(0, _), (3, _), (6, _)] ((0 : Int) < i ∧ ((recAt L i).2.1.toNat : Int) = (recAt L (i - 1)).2.1.toNat) ⟨rfl, rfl, rfl, trivial⟩ ?_ ?_
      · skip
        refine vq_det (det_move rfl) rfl ?_
        refine vq_det (det_gtr rfl rfl) rfl ?_
        refine vq_det (det_move rfl) rfl ?_
        refine vq_guardp rfl rfl rfl (fun h38 => ?_) (fun h38 => ?_)
        · skip
          refine vq_det (det_move rfl) rfl ?_
          refine vq_guard_t rfl rfl ?_
          refine vq_det (det_move rfl) rfl ?_
          refine vq_guard_t rfl rfl ?_
          refine vq_det (det_indexAddr (size := 4) Try.underlying22 (by kernel_rfl) rfl rfl rfl (by omega) (by first | (exact Bor.own (by repeat (first | exact List.Mem.head _ | apply List.Mem.tail))) | (repeat (first | assumption | apply Bor.cons)))) rfl ?_
          refine vq_guard_t rfl rfl ?_
          refine vq_det (det_fieldAddr_row_ Try.underlying44 rfl (by kernel_rfl) rfl (by first | (exact Bor.own (by repeat (first | exact List.Mem.head _ | apply List.Mem.tail))) | (repeat (first | assumption | apply Bor.cons))) (by omega) rfl) rfl ?_
          refine vq_guard_t rfl rfl ?_
          refine vq_det (det_load_rowf (by kernel_rfl) rfl (by first | (exact Bor.own (by repeat (first | exact List.Mem.head _ | apply List.Mem.tail))) | (repeat (first | assumption | apply Bor.cons))) (by omega) ((rec_get (by omega) (by decide)).trans rfl)) rfl ?_
          refine vq_guard_t rfl rfl ?_
          refine vq_det (det_move rfl) rfl ?_
          refine vq_guard_t rfl rfl ?_
          refine vq_det (det_move rfl) rfl ?_
          refine vq_guard_t rfl rfl ?_
          refine vq_det (det_sub rfl rfl (r := ((i - 1 : Nat) : Int)) ((w_i64 (by omega) (by omega)).trans (by omega))) rfl ?_
          refine vq_guard_t rfl rfl ?_
          refine vq_det (det_indexAddr (size := 4) Try.underlying22 (by kernel_rfl) rfl rfl rfl (by omega) (by first | (exact Bor.own (by repeat (first | exact List.Mem.head _ | apply List.Mem.tail))) | (repeat (first | assumption | apply Bor.cons)))) rfl ?_
          refine vq_guard_t rfl rfl ?_
          refine vq_det (det_fieldAddr_row_ Try.underlying44 rfl (by kernel_rfl) rfl (by first | (exact Bor.own (by repeat (first | exact List.Mem.head _ | apply List.Mem.tail))) | (repeat (first | assumption | apply Bor.cons))) (by omega) rfl) rfl ?_
          refine vq_guard_t rfl rfl ?_
          refine vq_det (det_load_rowf (by kernel_rfl) rfl (by first | (exact Bor.own (by repeat (first | exact List.Mem.head _ | apply List.Mem.tail))) | (repeat (first | assumption | apply Bor.cons))) (by omega) ((rec_get (by omega) (by decide)).trans rfl)) rfl ?_
          refine vq_guard_t rfl rfl ?_
          refine vq_det (det_eql rfl rfl) rfl ?_
          refine vq_det (det_pick_t rfl rfl) rfl ?_
          exact vq_cut_end ⟨rfl, rfl, rfl, trivial⟩ (by first | rfl | exact bool_to_t (by first | omega | simp_all) | exact bool_to_f (by first | omega | simp_all) | exact bool_to (by first | omega | simp_all) | exact bool_to_b (by first | omega | simp_all))
        · skip
          refine vq_guard_f rfl rfl rfl rfl ?_
          refine vq_guard_f rfl rfl rfl rfl ?_
          refine vq_guard_f rfl rfl rfl rfl ?_
          refine vq_guard_f rfl rfl rfl rfl ?_
          refine vq_guard_f rfl rfl rfl rfl ?_
          refine vq_guard_f rfl rfl rfl rfl ?_
          refine vq_guard_f rfl rfl rfl rfl ?_
          refine vq_guard_f rfl rfl rfl rfl ?_
          refine vq_guard_f rfl rfl rfl rfl ?_
          refine vq_guard_f rfl rfl rfl rfl ?_
          refine vq_guard_f rfl rfl rfl rfl ?_
          refine vq_det (det_pick_f rfl rfl) rfl ?_
          exact vq_cut_end ⟨rfl, rfl, rfl, trivial⟩ (by first | rfl | exact bool_to_t (by first | omega | simp_all) | exact bool_to_f (by first | omega | simp_all) | exact bool_to (by first | omega | simp_all) | exact bool_to_b (by first | omega | simp_all))
      · skip
        refine vq_end [(0, _), (3, _), (6, _), (51, _)] ⟨rfl, rfl, rfl, rfl, trivial⟩ ?_
        refine then_next ?_
        refine vc_decideU rfl (fun h51 => ?_) (fun h51 => ?_)
        · skip
          have hq : (recAt L i).2.1 = (recAt L (i - 1)).2.1 := UInt8.toNat_inj.1 (by omega)
          have hp : prevO (lv L) i = some ((lv L).getD i 0) := by unfold prevO; rw [if_neg (by omega), ← hlvp, ← hlvi, hq]
          rw [hdr, colR, if_pos hp] at hpre
          refine vc_exit ?_
          refine then_exit ?_
          refine in_eq ?_
          refine then_next ?_
          refine vc_region ?_
          refine vl_det (det_move rfl) rfl ?_
          refine vl_det (det_add rfl rfl (w_i64 (by omega) (by omega))) rfl ?_
          refine vl_det (det_assign rfl) rfl ?_
          refine vl_end [(0, _), (3, _), (6, _)] ⟨rfl, rfl, rfl, trivial⟩ ?_
          refine in_loop_ ⟨_, by omega, i + 1, pre, A4, c4, ⟨by omega, hpre⟩, rfl, ⟨(by first | rfl | exact int_to (by omega) | exact sl_to (by omega)), (by first | rfl | exact int_to (by omega) | exact sl_to (by omega)), (by first | rfl | exact int_to (by omega) | exact sl_to (by omega)), trivial⟩, .refl _⟩
        · skip
          have hp : ¬ prevO (lv L) i = some ((lv L).getD i 0) := by
            unfold prevO
            by_cases h0 : i = 0
            · rw [if_pos h0]; simp
            · rw [if_neg h0, ← hlvp, ← hlvi]
              intro hq
              injection hq with hq
              exact h51 ⟨by omega, by rw [hq]⟩
          rw [hdr, colR, if_neg hp] at hpre
          refine vc_skip ?_
          refine then_next ?_
          refine vc_seq ?_
          refine vc_region ?_
          refine vl_det (det_assign rfl) rfl ?_
          refine vl_end [(0, _), (3, _), (6, _), (7, _)] ⟨rfl, rfl, rfl, rfl, trivial⟩ ?_
          refine then_next ?_
          refine vc_seq ?_
          refine vc_block ?_
          refine vc_loopJ (fun zf zL zm => ∃ (n : Nat), (1 ≤ n ∧ i + n ≤ L.length ∧ run ((lv L).getD i 0) ((lv L).drop (i + 1)) = (n - 1) + run ((lv L).getD i 0) ((lv L).drop (i + n))) ∧ L.length - n = zm ∧ Sub zf [(0, .slice A L.length c), (3, .slice A4 pre.length c4), (6, .int .i64 i), (7, .int .i64 n)] ∧ Wk zL (.own 5 1 A4 pre.length c4 (bv pre) :: F)) _ ⟨1, ⟨Nat.le_refl _, by omega, by omega⟩, rfl, ⟨(by first | rfl | exact int_to (by omega) | exact sl_to (by omega)), (by first | rfl | exact int_to (by omega) | exact sl_to (by omega)), (by first | rfl | exact int_to (by omega) | exact sl_to (by omega)), (by first | rfl | exact int_to (by omega) | exact sl_to (by omega)), trivial⟩, .refl _⟩ ?_
          rintro _ _ _ ⟨n, ⟨hn1, hin, hrun⟩, rfl, hs, hp⟩
          refine vc_weaken _ hs (vc_wk hp ?_)
          clear hs hp
          refine vc_seq ?_
          refine vc_seq ?_
          refine vq_region (by kernel_rfl) (by kernel_rfl) ?_
          refine vq_cut 21 72 [(0, _), (3, _), (6, _), (7, _)] ((i : Int) + n < L.length ∧ ((recAt L (i + n)).2.1.toNat : Int) = (recAt L i).2.1.toNat) ⟨rfl, rfl, rfl, rfl, trivial⟩ ?_ ?_
          · skip
            refine vq_det (det_move rfl) rfl ?_
            refine vq_det (det_move rfl) rfl ?_
            refine vq_det (det_add rfl rfl (w_i64 (by omega) (by omega))) rfl ?_
            refine vq_det (det_move rfl) rfl ?_
            refine vq_det (det_len_sl Try.underlying22 rfl) rfl ?_
            refine vq_det (det_lss rfl rfl) rfl ?_
            refine vq_det (det_move rfl) rfl ?_
            refine vq_guardp rfl rfl rfl (fun h58 => ?_) (fun h58 => ?_)
            · skip
              refine vq_det (det_move rfl) rfl ?_
              refine vq_guard_t rfl rfl ?_
              refine vq_det (det_move rfl) rfl ?_
              refine vq_guard_t rfl rfl ?_
              refine vq_det (det_move rfl) rfl ?_
              refine vq_guard_t rfl rfl ?_
              refine vq_det (det_add rfl rfl (w_i64 (by omega) (by omega))) rfl ?_
              refine vq_guard_t rfl rfl ?_
              refine vq_det (det_indexAddr (i := i + n) (size := 4) Try.underlying22 (by kernel_rfl) rfl rfl rfl (by omega) (by first | (exact Bor.own (by repeat (first | exact List.Mem.head _ | apply List.Mem.tail))) | (repeat (first | assumption | apply Bor.cons)))) rfl ?_
              refine vq_guard_t rfl rfl ?_
              refine vq_det (det_fieldAddr_row_ Try.underlying44 rfl (by kernel_rfl) rfl (by first | (exact Bor.own (by repeat (first | exact List.Mem.head _ | apply List.Mem.tail))) | (repeat (first | assumption | apply Bor.cons))) (by omega) rfl) rfl ?_
              refine vq_guard_t rfl rfl ?_
              refine vq_det (det_load_rowf (by kernel_rfl) rfl (by first | (exact Bor.own (by repeat (first | exact List.Mem.head _ | apply List.Mem.tail))) | (repeat (first | assumption | apply Bor.cons))) (by omega) ((rec_get (by omega) (by decide)).trans rfl)) rfl ?_
              refine vq_guard_t rfl rfl ?_
              refine vq_det (det_move rfl) rfl ?_
              refine vq_guard_t rfl rfl ?_
              refine vq_det (det_move rfl) rfl ?_
              refine vq_guard_t rfl rfl ?_
              refine vq_det (det_indexAddr (size := 4) Try.underlying22 (by kernel_rfl) rfl rfl rfl (by omega) (by first | (exact Bor.own (by repeat (first | exact List.Mem.head _ | apply List.Mem.tail))) | (repeat (first | assumption | apply Bor.cons)))) rfl ?_
              refine vq_guard_t rfl rfl ?_
              refine vq_det (det_fieldAddr_row_ Try.underlying44 rfl (by kernel_rfl) rfl (by first | (exact Bor.own (by repeat (first | exact List.Mem.head _ | apply List.Mem.tail))) | (repeat (first | assumption | apply Bor.cons))) (by omega) rfl) rfl ?_
              refine vq_guard_t rfl rfl ?_
              refine vq_det (det_load_rowf (by kernel_rfl) rfl (by first | (exact Bor.own (by repeat (first | exact List.Mem.head _ | apply List.Mem.tail))) | (repeat (first | assumption | apply Bor.cons))) (by omega) ((rec_get (by omega) (by decide)).trans rfl)) rfl ?_
              refine vq_guard_t rfl rfl ?_
              refine vq_det (det_eql rfl rfl) rfl ?_
              refine vq_det (det_pick_t rfl rfl) rfl ?_
              exact vq_cut_end ⟨rfl, rfl, rfl, rfl, trivial⟩ (by first | rfl | exact bool_to_t (by first | omega | simp_all) | exact bool_to_f (by first | omega | simp_all) | exact bool_to (by first | omega | simp_all) | exact bool_to_b (by first | omega | simp_all))
            · skip
              refine vq_guard_f rfl rfl rfl rfl ?_
              refine vq_guard_f rfl rfl rfl rfl ?_
              refine vq_guard_f rfl rfl rfl rfl ?_
              refine vq_guard_f rfl rfl rfl rfl ?_
              refine vq_guard_f rfl rfl rfl rfl ?_
              refine vq_guard_f rfl rfl rfl rfl ?_
              refine vq_guard_f rfl rfl rfl rfl ?_
              refine vq_guard_f rfl rfl rfl rfl ?_
              refine vq_guard_f rfl rfl rfl rfl ?_
              refine vq_guard_f rfl rfl rfl rfl ?_
              refine vq_guard_f rfl rfl rfl rfl ?_
              refine vq_guard_f rfl rfl rfl rfl ?_
              refine vq_det (det_pick_f rfl rfl) rfl ?_
              exact vq_cut_end ⟨rfl, rfl, rfl, rfl, trivial⟩ (by first | rfl | exact bool_to_t (by first | omega | simp_all) | exact bool_to_f (by first | omega | simp_all) | exact bool_to (by first | omega | simp_all) | exact bool_to_b (by first | omega | simp_all))
          · skip
            refine vq_end [(0, _), (3, _), (6, _), (7, _), (72, _)] ⟨rfl, rfl, rfl, rfl, rfl, trivial⟩ ?_
            refine then_next ?_
            refine vc_decideU rfl (fun h72 => ?_) (fun h72 => ?_)
            · skip
              have hq : (lv L).getD (i + n) 0 = (lv L).getD i 0 := by rw [← lv_get, ← lv_get]; exact UInt8.toNat_inj.1 (by omega)
              have hs := run_step (x := (lv L).getD i 0) (l := lv L) (k := i + n) (by omega)
              rw [if_pos hq] at hs
              refine vc_skip ?_
              refine then_next ?_
              refine vc_block ?_
              refine vc_region ?_
              refine vl_det (det_move rfl) rfl ?_
              refine vl_det (det_add rfl rfl (w_i64 (by omega) (by omega))) rfl ?_
              refine vl_det (det_assign rfl) rfl ?_
              refine vl_end [(0, _), (3, _), (6, _), (7, _)] ⟨rfl, rfl, rfl, rfl, trivial⟩ ?_
              refine in_normal ?_
              refine in_loop_ ⟨_, by omega, n + 1, ⟨by omega, by omega, by rw [show i + (n + 1) = i + n + 1 by omega]; omega⟩, rfl, ⟨(by first | rfl | exact int_to (by omega) | exact sl_to (by omega)), (by first | rfl | exact int_to (by omega) | exact sl_to (by omega)), (by first | rfl | exact int_to (by omega) | exact sl_to (by omega)), (by first | rfl | exact int_to (by omega) | exact sl_to (by omega)), trivial⟩, .refl _⟩
            · skip
              have hz : run ((lv L).getD i 0) ((lv L).drop (i + n)) = 0 := by
                by_cases hi : i + n < L.length
                · rw [run_step (by omega), if_neg (fun hq => h72 ⟨by omega, by rw [lv_get, lv_get, hq]⟩)]
                · rw [List.drop_of_length_le (by omega)]; rfl
              rw [hrun, hz, show 1 + (n - 1 + 0) = n by omega] at hpre
              have hni := encN_len10 (x := n) (by omega)
              refine vc_exit ?_
              refine then_exit ?_
              refine loop_exit ?_
              refine in_eq ?_
              refine then_next ?_
              refine vc_seq ?_
              refine vc_region ?_
              refine vl_det (det_move rfl) rfl ?_
              refine vl_det (det_move rfl) rfl ?_
              refine vl_det (det_move rfl) rfl ?_
              refine vl_det (det_indexAddr (size := 4) Try.underlying22 (by kernel_rfl) rfl rfl rfl (by omega) (by first | (exact Bor.own (by repeat (first | exact List.Mem.head _ | apply List.Mem.tail))) | (repeat (first | assumption | apply Bor.cons)))) rfl ?_
              refine vl_det (det_fieldAddr_row_ Try.underlying44 rfl (by kernel_rfl) rfl (by first | (exact Bor.own (by repeat (first | exact List.Mem.head _ | apply List.Mem.tail))) | (repeat (first | assumption | apply Bor.cons))) (by omega) rfl) rfl ?_
              refine vl_det (det_load_rowf (by kernel_rfl) rfl (by first | (exact Bor.own (by repeat (first | exact List.Mem.head _ | apply List.Mem.tail))) | (repeat (first | assumption | apply Bor.cons))) (by omega) ((rec_get (by omega) (by decide)).trans rfl)) rfl ?_
              refine vl_push slT32 rfl rfl rfl rfl rfl (fun _ => rfl) (by repeat (first | exact .hd | apply Sel.tl)) (by omega) (by omega) ?_
              intro _ A82 c82
              refine vl_det (det_assign rfl) rfl ?_
              refine vl_end [(0, _), (3, _), (6, _), (7, _)] ⟨rfl, rfl, rfl, rfl, trivial⟩ ?_
              refine then_next ?_
              refine vc_region ?_
              refine vl_det (det_move rfl) rfl ?_
              refine vl_det (det_move rfl) rfl ?_
              refine vl_det (det_conv Try.underlying3 Try.underlying42 rfl (w_u64 (by omega) (by omega))) rfl ?_
              refine vl_call co46 rfl (rnum_d n (by omega)) rfl ?_
              rintro _ _ ⟨A86, c86, rfl, hLL⟩
              obtain rfl := hLL.symm
              refine vl_eff (eff_app slT32 rfl (by repeat (first | exact .hd | apply Sel.tl)) rfl (by first | (exact Bor.own (by repeat (first | exact List.Mem.head _ | apply List.Mem.tail))) | (repeat (first | assumption | apply Bor.cons))) (by first | exact bv_one _ | exact strs_one _ | exact ints_one _ _ | (simp; done) | (simp [Value.oneCell']; done) | assumption) (by omega) (by omega)) rfl ?_
              rintro _ _ ⟨A87, c87, rfl, rfl⟩
              refine vl_det (det_assign rfl) rfl ?_
              refine vl_end [(0, _), (3, _), (6, _)] ⟨rfl, rfl, rfl, trivial⟩ ?_
              refine in_normal ?_
              refine then_next ?_
              refine vc_region ?_
              refine vl_det (det_move rfl) rfl ?_
              refine vl_det (det_add rfl rfl (w_i64 (by omega) (by omega))) rfl ?_
              refine vl_det (det_assign rfl) rfl ?_
              refine vl_end [(0, _), (3, _), (6, _)] ⟨rfl, rfl, rfl, trivial⟩ ?_
              have el : pre.length + 1 + (encN n).length = (pre ++ ((lv L).getD i 0 :: encN n)).length := by simp; omega
              rw [el]
              refine in_loop_ ⟨_, by omega, i + 1, pre ++ ((lv L).getD i 0 :: encN n), A87, c87, ⟨by omega, by rw [hpre, prevO_succ]; simp⟩, rfl, ⟨(by first | rfl | exact int_to (by omega) | exact sl_to (by omega)), (by first | rfl | exact int_to (by omega) | exact sl_to (by omega)), (by first | rfl | exact int_to (by omega) | exact sl_to (by omega)), trivial⟩, .skip (wk_own rfl (by simp [bv, hlvi]) (.refl _))⟩
    · skip
      refine vc_exit ?_
      refine then_exit ?_
      refine loop_exit ?_
      refine in_eq ?_
      refine then_next ?_
      refine vc_seq ?_
      refine vc_region ?_
      refine vl_det (det_move rfl) rfl ?_
      refine vl_det (det_assign rfl) rfl ?_
      refine vl_end [(2, _)] ⟨rfl, trivial⟩ ?_
      refine then_next ?_
      refine vc_ret ?_
      have hcb2 : colB L = pre := by rw [hpre, List.drop_of_length_le (by omega)]; cases prevO (lv L) i <;> simp [colR]
      rw [hcb2]
      refine ret1 rfl rfl ?_
      exact ⟨A4, c4, rfl, rfl⟩
/-- the document's example -/
def recX : List RecC := [(5, 1, [], []), (3, 1, [], [])]
end Go.Proofs.Ytlbdhdocagahpaa
