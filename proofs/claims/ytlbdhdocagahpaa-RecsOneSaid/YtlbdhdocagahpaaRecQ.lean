/-
  Whether two records, and two logs, are the same, by frames. No condition.
-/
import Derived.Test.YtlbdhdocagahpaaRecW
namespace Go.Proofs.Ytlbdhdocagahpaa
open Go.RowKit
set_option linter.unusedVariables false
set_option maxRecDepth 20000
variable {B : Nat} {w0 : World} {F : List Ch} {A A2 : Option Addr} {n c c2 : Nat}
@[simp] theorem RecC.cells_length (x : RecC) : x.cells.length = 4 := rfl
theorem rec_eq_run (x y : RecC) (w : World) : (Op.equalIn 10000 44 (.agg (RecC.cells x).toArray) (.agg (RecC.cells y).toArray)).run Try.prog w = .ok (decide (x = y)) w := by
  have p0 := fun (z : RecC) w => run_part_sc (P := Try.prog) (t := 42) (xs := (RecC.cells z).toArray) (off := 0) (v := .int .u64 z.1) (by kernel_rfl) rfl w
  have p1 := fun (z : RecC) w => run_part_sc (P := Try.prog) (t := 5) (xs := (RecC.cells z).toArray) (off := 1) (v := .int .u8 z.2.1.toNat) (by kernel_rfl) rfl w
  have p2 := fun (z : RecC) w => run_part_sc (P := Try.prog) (t := 9) (xs := (RecC.cells z).toArray) (off := 2) (v := .string ⟨z.2.2.1.toArray⟩) (by kernel_rfl) rfl w
  have p3 := fun (z : RecC) w => run_part_sc (P := Try.prog) (t := 9) (xs := (RecC.cells z).toArray) (off := 3) (v := .string ⟨z.2.2.2.toArray⟩) (by kernel_rfl) rfl w
  have q0 := fun (a b : Int) w => run_equalIn_int (P := Try.prog) w 9998 42 .u64 .u64 a b Try.underlying42
  have q1 := fun (a b : Int) w => run_equalIn_int (P := Try.prog) w 9998 5 .u8 .u8 a b Try.underlying5
  have q2 := fun (a b : ByteArray) w => run_equalIn_string (P := Try.prog) w 9998 9 a b Try.underlying9
  rw [run_equalIn_agg w 9999 _ _ _ (by kernel_rfl) (by kernel_rfl)]
  simp only [Program.fieldsOf, Try.underlying44]
  simp [Op.eqFields, p0, p1, p2, p3]
  rw [q0]
  obtain ⟨a, b, s, t⟩ := x
  obtain ⟨a', b', s', t'⟩ := y
  by_cases h0 : a = a'
  · have e0 : ((a : Int) == a') = true := by simp [h0]
    simp only [e0, Result.andThen_ok]
    rw [q1]
    by_cases h1 : b = b'
    · have e1 : ((b.toNat : Int) == b'.toNat) = true := by simp [h1]
      simp only [e1, Result.andThen_ok]
      rw [q2, bytes_eq]
      by_cases h2 : s = s'
      · simp only [decide_eq_true h2, Result.andThen_ok]
        rw [q2, bytes_eq]
        by_cases h3 : t = t'
        · simp [h0, h1, h2, h3]
        · simp [h0, h1, h2, h3]
      · simp [h2]
    · have : ¬ (b.toNat : Int) = b'.toNat := fun h => h1 (UInt8.toNat_inj.1 (by omega))
      have h' : ((b.toNat : Int) == b'.toNat) = false := by simpa using this
      simp [h1, h']
  · have h' : ((a : Int) == a') = false := by rw [beq_eq_false_iff_ne]; omega
    simp [h0, h']
theorem det_rec_neq {C : Cx} {fr : Fr} {L : List Ch} {x y : Operand} {ty yt : TypeId} {p q : RecC} (hP : C.P = Try.prog) (h1 : ev fr x = some (.agg (RecC.cells p).toArray)) (h2 : ev fr y = some (.agg (RecC.cells q).toArray)) : Det C fr L (.binOp .neq 44 x y yt) ty (.bool (decide (¬ p = q))) := fun a w ha hw d pos af g => by
  have he : (eqGuard .neq 44 x y (.agg (RecC.cells p).toArray) (.agg (RecC.cells q).toArray)).run C.P w = .ok () w := by rw [hP]; exact run_eqGuard_agg w .neq _ x y _ _ (by kernel_rfl)
  have e1 : (binOp .neq 44 (.agg (RecC.cells p).toArray) (.agg (RecC.cells q).toArray)).run C.P w = .ok (.bool (decide (¬ p = q))) w := by
    rw [hP, run_neq_struct, rec_eq_run]
    simp
  simp only [execOp, ha.tmp h1, ha.tmp h2, Sem.run_bind, he, e1, Result.andThen_ok, Sem.run_pure]
theorem same17_d {l l2 : List RecC} (h1 : Bor B w0 F 4 (.slice A l.length c) l.length (recs l)) (h2 : Bor B w0 F 4 (.slice A2 l2.length c2) l2.length (recs l2)) (hl : l.length ≤ 1000000000) :
    Does Try.prog B w0 26 [.slice A l.length c, .slice A2 l2.length c2] F (fun r L => r = .bool (decide (l = l2)) ∧ L = F) := by
  refine fn_walk Try.func26 26 rfl rfl rfl [(0, .slice A l.length c), (1, .slice A2 l2.length c2)] ⟨⟨rfl, rfl⟩, ⟨rfl, rfl⟩, trivial⟩ ?_
  refine vc_seq ?_
  refine vc_region ?_
  refine vl_det (det_assign rfl) rfl ?_
  refine vl_end [(0, _), (1, _)] ⟨rfl, rfl, trivial⟩ ?_
  refine then_next ?_
  refine vc_seq ?_
  refine vc_seq ?_
  refine vc_region ?_
  refine vl_det (det_move rfl) rfl ?_
  refine vl_det (det_len_sl Try.underlying22 rfl) rfl ?_
  refine vl_det (det_move rfl) rfl ?_
  refine vl_det (det_len_sl Try.underlying22 rfl) rfl ?_
  refine vl_det (det_neq rfl rfl) rfl ?_
  refine vl_end [(0, _), (1, _), (10, _)] ⟨rfl, rfl, rfl, trivial⟩ ?_
  refine then_next ?_
  refine vc_decideU rfl (fun h10 => ?_) (fun h10 => ?_)
  · skip
    refine vc_seq ?_
    refine vc_region ?_
    refine vl_det (det_assign rfl) rfl ?_
    refine vl_end [(4, _)] ⟨rfl, trivial⟩ ?_
    refine then_next ?_
    refine vc_ret ?_
    refine then_ret ?_
    refine ret1 rfl rfl ?_
    exact ⟨by rw [decide_eq_false (fun h => by rw [h] at h10; exact h10 rfl)], rfl⟩
  · skip
    refine vc_skip ?_
    refine then_next ?_
    refine vc_seq ?_
    refine vc_seq ?_
    refine vc_region ?_
    refine vl_det (det_assign rfl) rfl ?_
    refine vl_end [(0, _), (1, _), (5, _)] ⟨rfl, rfl, rfl, trivial⟩ ?_
    refine then_next ?_
    refine vc_block ?_
    refine vc_loopJ (fun zf zL zm => ∃ (k : Nat), (k ≤ l.length ∧ l.take k = l2.take k) ∧ l.length - k = zm ∧ Sub zf [(0, .slice A l.length c), (1, .slice A2 l2.length c2), (5, .int .i64 k)] ∧ Wk zL (F)) _ ⟨0, ⟨Nat.zero_le _, rfl⟩, rfl, ⟨(by first | rfl | exact int_to (by omega) | exact sl_to (by omega)), (by first | rfl | exact int_to (by omega) | exact sl_to (by omega)), (by first | rfl | exact int_to (by omega) | exact sl_to (by omega)), trivial⟩, .refl _⟩ ?_
    rintro _ _ _ ⟨k, ⟨hk, heq⟩, rfl, hs, hp⟩
    refine vc_weaken _ hs (vc_wk hp ?_)
    clear hs hp
    refine vc_seq ?_
    refine vc_seq ?_
    refine vc_region ?_
    refine vl_det (det_move rfl) rfl ?_
    refine vl_det (det_move rfl) rfl ?_
    refine vl_det (det_len_sl Try.underlying22 rfl) rfl ?_
    refine vl_det (det_lss rfl rfl) rfl ?_
    refine vl_end [(0, _), (1, _), (5, _), (14, _)] ⟨rfl, rfl, rfl, rfl, trivial⟩ ?_
    refine then_next ?_
    refine vc_decideU rfl (fun h14 => ?_) (fun h14 => ?_)
    · skip
      have hone := rec_one (recAt l k)
      refine vc_skip ?_
      refine then_next ?_
      refine vc_seq ?_
      refine vc_block ?_
      refine vc_seq ?_
      refine vq_region (by kernel_rfl) (by kernel_rfl) ?_
      refine vq_det (det_move rfl) rfl ?_
      refine vq_det (det_move rfl) rfl ?_
      refine vq_det (det_indexAddr (size := 4) Try.underlying22 (by kernel_rfl) rfl rfl rfl (by omega) (by first | (exact Bor.own (by repeat (first | exact List.Mem.head _ | apply List.Mem.tail))) | (repeat (first | assumption | apply Bor.cons)))) rfl ?_
      refine vq_det (det_load_rowa 4 (by kernel_rfl) rfl (by first | (exact Bor.own (by repeat (first | exact List.Mem.head _ | apply List.Mem.tail))) | (repeat (first | assumption | apply Bor.cons))) (by omega) (RecC.cells (recAt l k)) (rec_cells (by omega)) rfl) rfl ?_
      refine vq_det (det_move rfl) rfl ?_
      refine vq_det (det_move rfl) rfl ?_
      refine vq_det (det_indexAddr (size := 4) Try.underlying22 (by kernel_rfl) rfl rfl rfl (by omega) (by first | (exact Bor.own (by repeat (first | exact List.Mem.head _ | apply List.Mem.tail))) | (repeat (first | assumption | apply Bor.cons)))) rfl ?_
      refine vq_det (det_load_rowa 4 (by kernel_rfl) rfl (by first | (exact Bor.own (by repeat (first | exact List.Mem.head _ | apply List.Mem.tail))) | (repeat (first | assumption | apply Bor.cons))) (by omega) (RecC.cells (recAt l2 k)) (rec_cells (by omega)) rfl) rfl ?_
      refine vq_det (det_rec_neq rfl rfl rfl) rfl ?_
      refine vq_end [(0, _), (1, _), (5, _), (25, _)] ⟨rfl, rfl, rfl, rfl, trivial⟩ ?_
      refine then_next ?_
      refine vc_decideU rfl (fun h25 => ?_) (fun h25 => ?_)
      · skip
        refine vc_seq ?_
        refine vc_region ?_
        refine vl_det (det_assign rfl) rfl ?_
        refine vl_end [(4, _)] ⟨rfl, trivial⟩ ?_
        refine then_next ?_
        refine vc_ret ?_
        refine in_ret ?_
        refine then_ret ?_
        refine loop_ret ?_
        refine in_ret ?_
        refine then_ret ?_
        refine ret1 rfl rfl ?_
        exact ⟨by rw [decide_eq_false (fun h => by rw [h] at h25; exact h25 rfl)], rfl⟩
      · skip
        refine vc_skip ?_
        refine in_normal ?_
        refine then_next ?_
        refine vc_region ?_
        refine vl_det (det_move rfl) rfl ?_
        refine vl_det (det_add rfl rfl (w_i64 (by omega) (by omega))) rfl ?_
        refine vl_det (det_assign rfl) rfl ?_
        refine vl_end [(0, _), (1, _), (5, _)] ⟨rfl, rfl, rfl, trivial⟩ ?_
        refine in_loop_ ⟨_, by omega, k + 1, ⟨by omega, by rw [take_getD (by omega) (0, 0, [], []), take_getD (by omega) (0, 0, [], []), heq]; exact congrArg (fun z => l2.take k ++ [z]) (Classical.not_not.1 h25)⟩, rfl, ⟨(by first | rfl | exact int_to (by omega) | exact sl_to (by omega)), (by first | rfl | exact int_to (by omega) | exact sl_to (by omega)), (by first | rfl | exact int_to (by omega) | exact sl_to (by omega)), trivial⟩, .refl _⟩
    · skip
      refine vc_exit ?_
      refine then_exit ?_
      refine loop_exit ?_
      refine in_eq ?_
      refine then_next ?_
      refine vc_seq ?_
      refine vc_region ?_
      refine vl_det (det_assign rfl) rfl ?_
      refine vl_end [(4, _)] ⟨rfl, trivial⟩ ?_
      refine then_next ?_
      refine vc_ret ?_
      refine ret1 rfl rfl ?_
      have e : l = l2 := by
        have := heq
        rwa [List.take_of_length_le (by omega), List.take_of_length_le (by omega)] at this
      exact ⟨by rw [decide_eq_true e], rfl⟩
end Go.Proofs.Ytlbdhdocagahpaa
