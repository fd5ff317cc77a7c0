/-
  firkinlaw17.alive, the two Checks and slices.ContainsFunc with recs.long, by frames. Condition: the log's numbers fit.
-/
import Derived.Test.YtlbdhdocagahpaaRecC
import Derived.Test.YtlbdhdocagahpaaSameD
namespace Go.Proofs.Ytlbdhdocagahpaa
open Go.RowKit
set_option linter.unusedVariables false
set_option maxRecDepth 20000
variable {B : Nat} {w0 : World} {F : List Ch} {A : Option Addr} {n c : Nat}
theorem colX : colB recX = [10, 3, 1, 2] := by
  have h1 : zig (dlt 5 0) = 10 := by decide +kernel
  have h2 : zig (dlt 3 5) = 3 := by decide +kernel
  have e1 := encN_lt (x := 10) (by omega)
  have e2 := encN_lt (x := 3) (by omega)
  have e3 := encN_lt (x := 2) (by omega)
  simp [colB, recX, colT, lv, colR, run, h1, h2, e1, e2, e3]
theorem alive_d : Does Try.prog B w0 12 [] F (fun r L => r = .bool true ∧ L = F) := by
  refine fn_walk Try.func12 7 rfl rfl rfl [] trivial ?_
  refine vc_seq ?_
  refine vc_region ?_
  refine vl_det (det_assign rfl) rfl ?_
  refine vl_end [] trivial ?_
  refine then_next ?_
  refine vc_seq ?_
  refine vc_region ?_
  refine vl_det (det_buildp [(0, _), (1, _)] [.int .u64 0, .int .u8 0, .string ⟨#[]⟩, .string ⟨#[]⟩] [0, 1] [_, _, _, _] rfl rfl (by kernel_rfl)) rfl ?_
  refine vl_det (det_buildp [(0, _), (1, _)] [.int .u64 0, .int .u8 0, .string ⟨#[]⟩, .string ⟨#[]⟩] [0, 1] [_, _, _, _] rfl rfl (by kernel_rfl)) rfl ?_
  refine vl_eff (eff_buildSlice (e := 44) (size := 4) (kk := 2) (zv := .agg #[.int .u64 0, .int .u8 0, .string ⟨#[]⟩, .string ⟨#[]⟩]) (us := [(0, _), (1, _)]) (cs := recs recX) Try.underlying22 (by kernel_rfl) (by omega) (by omega) (by omega) (by kernel_rfl) rfl (by kernel_rfl) rfl) rfl ?_
  rintro _ _ ⟨A3, rfl, rfl⟩
  refine vl_call co27 rfl (columns_d recX (by first | (exact Bor.own (by repeat (first | exact List.Mem.head _ | apply List.Mem.tail))) | (repeat (first | assumption | apply Bor.cons))) (by simp [recX]) (by simp [recX])) rfl ?_
  rintro _ _ ⟨A4, c4, rfl, hLL⟩
  obtain rfl := hLL.symm
  refine vl_eff (eff_build_lit slT32 [_, _, _, _] rfl rfl (by first | exact bv_one _ | exact strs_one _ | exact ints_one _ _ | (simp; done) | (simp [Value.oneCell']; done) | assumption) (by omega) (by omega)) rfl ?_
  rintro _ _ ⟨A5, rfl, rfl⟩
  refine vl_call co18 rfl (same_d (l := colB recX) (l2 := [10, 3, 1, 2]) (by first | (exact Bor.own (by repeat (first | exact List.Mem.head _ | apply List.Mem.tail))) | (repeat (first | assumption | apply Bor.cons))) (by first | (exact Bor.own (by repeat (first | exact List.Mem.head _ | apply List.Mem.tail))) | (repeat (first | assumption | apply Bor.cons)))) rfl ?_
  rintro _ _ ⟨rfl, hLL⟩
  obtain rfl := hLL.symm
  refine vl_det (det_assign rfl) rfl ?_
  refine vl_end [(0, _)] ⟨rfl, trivial⟩ ?_
  refine then_next ?_
  refine vc_ret ?_
  refine ret_wk (L' := F) (.skip (.skip (.skip (.refl _)))) ?_
  refine ret1 rfl rfl ?_
  exact ⟨by rw [decide_eq_true colX], rfl⟩
/-- a text of a record is too long -/
def long (x : RecC) : Prop := 4000 < x.2.2.1.length ∨ 4000 < x.2.2.2.length
instance (x : RecC) : Decidable (long x) := inferInstanceAs (Decidable (_ ∨ _))
theorem long_d (x : RecC) : Does Try.prog B w0 32 [.agg (RecC.cells x).toArray] F (fun r L => r = .bool (decide (long x)) ∧ L = F) := by
  refine fn_walk Try.func32 13 rfl rfl rfl [(0, .agg (RecC.cells x).toArray)] ⟨⟨rfl, rfl⟩, trivial⟩ ?_
  refine vc_seq ?_
  refine vc_region ?_
  refine vl_eff (eff_box rfl rfl) rfl ?_
  rintro _ _ ⟨g1, rfl, rfl⟩
  refine vl_det (det_assign rfl) rfl ?_
  refine vl_end [(1, _)] ⟨rfl, trivial⟩ ?_
  refine then_next ?_
  refine vc_seq ?_
  refine vc_region ?_
  refine vl_cut 10 12 [] ((4000 : Int) < (x.2.2.1.length : Int) ∨ (4000 : Int) < (x.2.2.2.length : Int)) trivial ?_ ?_
  · skip
    refine vl_det (det_fieldAddr_ Try.underlying44 rfl (by kernel_rfl) rfl rfl) rfl ?_
    refine vl_det (det_load_blk (by kernel_rfl) rfl (by repeat (first | exact .hd | apply Sel.tl)) rfl) rfl ?_
    refine vl_det (det_len_s Try.underlying9 rfl) rfl ?_
    refine vl_det (det_gtr rfl rfl) rfl ?_
    refine vl_det (det_move rfl) rfl ?_
    refine vl_guardn rfl rfl rfl (fun h7 => ?_) (fun h7 => ?_)
    · skip
      refine vl_det (det_fieldAddr_ Try.underlying44 rfl (by kernel_rfl) rfl rfl) rfl ?_
      refine vl_guard_t rfl rfl ?_
      refine vl_det (det_load_blk (by kernel_rfl) rfl (by repeat (first | exact .hd | apply Sel.tl)) rfl) rfl ?_
      refine vl_guard_t rfl rfl ?_
      refine vl_det (det_len_s Try.underlying9 rfl) rfl ?_
      refine vl_guard_t rfl rfl ?_
      refine vl_det (det_gtr rfl rfl) rfl ?_
      refine vl_det (det_pick_f rfl rfl) rfl ?_
      exact vl_cut_end trivial (by first | rfl | exact bool_to_t (by first | omega | simp_all) | exact bool_to_f (by first | omega | simp_all) | exact bool_to (by first | omega | simp_all) | exact bool_to_b (by first | omega | simp_all))
    · skip
      refine vl_guard_f rfl rfl rfl rfl ?_
      refine vl_guard_f rfl rfl rfl rfl ?_
      refine vl_guard_f rfl rfl rfl rfl ?_
      refine vl_det (det_pick_t rfl rfl) rfl ?_
      exact vl_cut_end trivial (by first | rfl | exact bool_to_t (by first | omega | simp_all) | exact bool_to_f (by first | omega | simp_all) | exact bool_to (by first | omega | simp_all) | exact bool_to_b (by first | omega | simp_all))
  · skip
    refine vl_det (det_assign rfl) rfl ?_
    refine vl_end [(2, _)] ⟨rfl, trivial⟩ ?_
    refine then_next ?_
    refine vc_ret ?_
    refine ret_wk (L' := F) (.skip (.refl _)) ?_
    refine ret1 rfl rfl ?_
    exact ⟨by rw [decide_eq_decide.2 (show ((4000 : Int) < (x.2.2.1.length : Int) ∨ (4000 : Int) < (x.2.2.2.length : Int)) ↔ long x by unfold long; omega)], rfl⟩
theorem index_d (L : List RecC) (hb : Bor B w0 F 4 (.slice A L.length c) L.length (recs L)) (hl : L.length ≤ 1000000) :
    Does Try.prog B w0 53 [.slice A L.length c, .func (.func 32) #[] #[]] F (fun r K => ∃ v : Int, r = .int .i64 v ∧ K = F ∧ (0 ≤ v ↔ ∃ x ∈ L, long x)) := by
  refine fn_walk Try.func53 19 rfl rfl rfl [(0, .slice A L.length c), (1, .func (.func 32) #[] #[])] ⟨⟨rfl, rfl⟩, ⟨rfl, rfl⟩, trivial⟩ ?_
  refine vc_seq ?_
  refine vc_region ?_
  refine vl_det (det_assign rfl) rfl ?_
  refine vl_end [(0, _), (1, _)] ⟨rfl, rfl, trivial⟩ ?_
  refine then_next ?_
  refine vc_seq ?_
  refine vc_seq ?_
  refine vc_region ?_
  refine vl_det (det_move rfl) rfl ?_
  refine vl_det (det_len_sl Try.underlying22 rfl) rfl ?_
  refine vl_det (det_move rfl) rfl ?_
  refine vl_end [(0, _), (1, _), (7, _), (8, _)] ⟨rfl, rfl, rfl, rfl, trivial⟩ ?_
  refine then_next ?_
  refine vc_block ?_
  refine vc_loopJ (fun zf zL zm => ∃ (k : Nat), (k ≤ L.length ∧ ∀ i, i < k → ¬ long (recAt L i)) ∧ L.length - k = zm ∧ Sub zf [(0, .slice A L.length c), (1, .func (.func 32) #[] #[]), (7, .int .i64 L.length), (8, .int .i64 k)] ∧ Wk zL (F)) _ ⟨0, ⟨Nat.zero_le _, fun i h => absurd h (by omega)⟩, rfl, ⟨(by first | rfl | exact int_to (by omega) | exact sl_to (by omega)), (by first | rfl | exact int_to (by omega) | exact sl_to (by omega)), (by first | rfl | exact int_to (by omega) | exact sl_to (by omega)), (by first | rfl | exact int_to (by omega) | exact sl_to (by omega)), trivial⟩, .refl _⟩ ?_
  rintro _ _ _ ⟨k, ⟨hk, hno⟩, rfl, hs, hp⟩
  refine vc_weaken _ hs (vc_wk hp ?_)
  clear hs hp
  refine vc_seq ?_
  refine vc_region ?_
  refine vl_det (det_lss rfl rfl) rfl ?_
  refine vl_end [(0, _), (1, _), (7, _), (8, _), (9, _)] ⟨rfl, rfl, rfl, rfl, rfl, trivial⟩ ?_
  refine then_next ?_
  refine vc_seq ?_
  refine vc_decideU rfl (fun h9 => ?_) (fun h9 => ?_)
  · skip
    refine vc_skip ?_
    refine then_next ?_
    refine vc_seq ?_
    refine vc_block ?_
    refine vc_seq ?_
    refine vc_region ?_
    refine vl_det (det_move rfl) rfl ?_
    refine vl_det (det_assign rfl) rfl ?_
    refine vl_end [(0, _), (1, _), (5, _), (7, _), (8, _)] ⟨rfl, rfl, rfl, rfl, rfl, trivial⟩ ?_
    refine then_next ?_
    refine vc_seq ?_
    refine vc_region ?_
    refine vl_det (det_move rfl) rfl ?_
    refine vl_det (det_move rfl) rfl ?_
    refine vl_det (det_move rfl) rfl ?_
    refine vl_det (det_indexAddr (i := k) (size := 4) Try.underlying22 (by kernel_rfl) rfl rfl rfl (by omega) (by first | (exact Bor.own (by repeat (first | exact List.Mem.head _ | apply List.Mem.tail))) | (repeat (first | assumption | apply Bor.cons)))) rfl ?_
    refine vl_det (det_load_rowa 4 (by kernel_rfl) rfl (by first | (exact Bor.own (by repeat (first | exact List.Mem.head _ | apply List.Mem.tail))) | (repeat (first | assumption | apply Bor.cons))) (by omega) (RecC.cells (recAt L k)) (rec_cells (by omega)) rfl) rfl ?_
    refine vl_callv co32 rfl rfl (long_d (recAt L k)) rfl ?_
    rintro _ _ ⟨rfl, hLL⟩
    obtain rfl := hLL.symm
    refine vl_end [(0, _), (1, _), (5, _), (7, _), (8, _), (16, _)] ⟨rfl, rfl, rfl, rfl, rfl, rfl, trivial⟩ ?_
    refine then_next ?_
    refine vc_decideU rfl (fun h16 => ?_) (fun h16 => ?_)
    · skip
      refine vc_seq ?_
      refine vc_region ?_
      refine vl_det (det_move rfl) rfl ?_
      refine vl_det (det_assign rfl) rfl ?_
      refine vl_end [(4, _)] ⟨rfl, trivial⟩ ?_
      refine then_next ?_
      refine vc_ret ?_
      refine in_ret ?_
      refine then_ret ?_
      refine loop_ret ?_
      refine in_ret ?_
      refine then_ret ?_
      refine ret1 rfl rfl ?_
      exact ⟨_, rfl, rfl, by constructor; exact fun _ => ⟨_, getD_mem (show k < L.length by omega) (0, 0, [], []), h16⟩; exact fun _ => by omega⟩
    · skip
      refine vc_skip ?_
      refine in_normal ?_
      refine then_next ?_
      refine vc_region ?_
      refine vl_det (det_add rfl rfl (w_i64 (by omega) (by omega))) rfl ?_
      refine vl_det (det_move rfl) rfl ?_
      refine vl_end [(0, _), (1, _), (7, _), (8, _)] ⟨rfl, rfl, rfl, rfl, trivial⟩ ?_
      refine in_loop_ ⟨_, by omega, k + 1, ⟨by omega, fun i h => by rcases Nat.lt_succ_iff_lt_or_eq.1 h with h | h; exact hno i h; exact h ▸ h16⟩, rfl, ⟨(by first | rfl | exact int_to (by omega) | exact sl_to (by omega)), (by first | rfl | exact int_to (by omega) | exact sl_to (by omega)), (by first | rfl | exact int_to (by omega) | exact sl_to (by omega)), (by first | rfl | exact int_to (by omega) | exact sl_to (by omega)), trivial⟩, .refl _⟩
  · skip
    refine vc_exit ?_
    refine then_exit ?_
    refine loop_exit ?_
    refine in_eq ?_
    refine then_next ?_
    refine vc_seq ?_
    refine vc_region ?_
    refine vl_det (det_assign rfl) rfl ?_
    refine vl_end [(4, _)] ⟨rfl, trivial⟩ ?_
    refine then_next ?_
    refine vc_ret ?_
    refine ret1 rfl rfl ?_
    refine ⟨_, rfl, rfl, fun h => absurd h (by omega), fun ⟨x, hx, hlx⟩ => ?_⟩
    obtain ⟨i, hi, rfl⟩ := List.getElem_of_mem hx
    have := hno i (by omega)
    unfold recAt at this
    rw [List.getD_eq_getElem?_getD, List.getElem?_eq_getElem hi] at this
    exact absurd hlx this
theorem contains_d (L : List RecC) (hb : Bor B w0 F 4 (.slice A L.length c) L.length (recs L)) (hl : L.length ≤ 1000000) :
    Does Try.prog B w0 31 [.slice A L.length c, .func (.func 32) #[] #[]] F (fun r K => r = .bool (decide (∃ x ∈ L, long x)) ∧ K = F) := by
  refine fn_walk Try.func31 9 rfl rfl rfl [(0, .slice A L.length c), (1, .func (.func 32) #[] #[])] ⟨⟨rfl, rfl⟩, ⟨rfl, rfl⟩, trivial⟩ ?_
  refine vc_seq ?_
  refine vc_region ?_
  refine vl_det (det_assign rfl) rfl ?_
  refine vl_end [(0, _), (1, _)] ⟨rfl, rfl, trivial⟩ ?_
  refine then_next ?_
  refine vc_seq ?_
  refine vc_region ?_
  refine vl_det (det_move rfl) rfl ?_
  refine vl_det (det_move rfl) rfl ?_
  refine vl_call co53 rfl (index_d L hb hl) rfl ?_
  rintro _ _ ⟨v, rfl, hLL, hv⟩
  obtain rfl := hLL.symm
  refine vl_det (det_geq rfl rfl) rfl ?_
  refine vl_det (det_assign rfl) rfl ?_
  refine vl_end [(4, _)] ⟨rfl, trivial⟩ ?_
  refine then_next ?_
  refine vc_ret ?_
  refine ret1 rfl rfl ?_
  exact ⟨by rw [decide_eq_decide.2 hv], rfl⟩
/-- may a log be? -/
def checkE (L : List RecC) : Int := if 20000 < L.length ∨ (∃ x ∈ L, long x) ∨ 1048576 < wsum L then 6 else 0
theorem wsum_short : ∀ {L : List RecC}, (¬ ∃ x ∈ L, long x) → wsum L ≤ 8016 * L.length
  | [], _ => by simp [wsum]
  | x :: L, h => by
    have h1 := wsum_short (L := L) fun ⟨y, hy, hl⟩ => h ⟨y, by simp [hy], hl⟩
    have h2 : ¬ long x := fun hl => h ⟨x, by simp, hl⟩
    unfold long at h2
    rw [wsum_cons, List.length_cons]
    unfold RecC.w
    omega
theorem check_d (L : List RecC) (hb : Bor B w0 F 4 (.slice A L.length c) L.length (recs L)) :
    Does Try.prog B w0 13 [.slice A L.length c] F (fun r K => r = .int .i64 (checkE L) ∧ K = F) := by
  refine fn_walk Try.func13 15 rfl rfl rfl [(0, .slice A L.length c)] ⟨⟨rfl, rfl⟩, trivial⟩ ?_
  refine vc_seq ?_
  refine vc_region ?_
  refine vl_det (det_assign rfl) rfl ?_
  refine vl_end [(0, _)] ⟨rfl, trivial⟩ ?_
  refine then_next ?_
  refine vc_seq ?_
  refine vc_seq ?_
  refine vc_region ?_
  refine vl_cut 12 14 [] (20000 < L.length ∨ (∃ x ∈ L, long x) ∨ 1048576 < wsum L) trivial ?_ ?_
  · skip
    refine vl_det (det_move rfl) rfl ?_
    refine vl_det (det_len_sl Try.underlying22 rfl) rfl ?_
    refine vl_det (det_gtr rfl rfl) rfl ?_
    refine vl_det (det_move rfl) rfl ?_
    refine vl_guardn rfl rfl rfl (fun h6 => ?_) (fun h6 => ?_)
    · skip
      refine vl_det (det_move rfl) rfl ?_
      refine vl_guard_t rfl rfl ?_
      refine vl_call co31 rfl (contains_d L hb (by omega)) rfl ?_
      rintro _ _ ⟨rfl, hLL⟩
      obtain rfl := hLL.symm
      refine vl_det (det_pick_f rfl rfl) rfl ?_
      refine vl_det (det_move rfl) rfl ?_
      refine vl_guardn rfl rfl rfl (fun h10 => ?_) (fun h10 => ?_)
      · skip
        refine vl_det (det_move rfl) rfl ?_
        refine vl_guard_t rfl rfl ?_
        refine vl_call co16 rfl (weight_d L hb (by have := wsum_short h10; omega) (by omega)) rfl ?_
        rintro _ _ ⟨rfl, hLL⟩
        obtain rfl := hLL.symm
        refine vl_guard_t rfl rfl ?_
        refine vl_det (det_gtr rfl rfl) rfl ?_
        refine vl_det (det_pick_f rfl rfl) rfl ?_
        exact vl_cut_end trivial (by first | rfl | exact bool_to_t (by first | exact .inl (by omega) | exact .inr (.inl h10) | exact ⟨fun h => .inr (.inr (by omega)), fun h => by rcases h with h | h | h <;> first | omega | exact absurd h h10⟩) | exact bool_to_f (by first | exact .inl (by omega) | exact .inr (.inl h10) | exact ⟨fun h => .inr (.inr (by omega)), fun h => by rcases h with h | h | h <;> first | omega | exact absurd h h10⟩) | exact bool_to (by first | exact .inl (by omega) | exact .inr (.inl h10) | exact ⟨fun h => .inr (.inr (by omega)), fun h => by rcases h with h | h | h <;> first | omega | exact absurd h h10⟩) | exact bool_to_b (by first | exact .inl (by omega) | exact .inr (.inl h10) | exact ⟨fun h => .inr (.inr (by omega)), fun h => by rcases h with h | h | h <;> first | omega | exact absurd h h10⟩))
      · skip
        refine vl_guard_f rfl rfl rfl rfl ?_
        refine vl_guard_f rfl rfl rfl rfl ?_
        refine vl_det (det_pick_t rfl rfl) rfl ?_
        exact vl_cut_end trivial (by first | rfl | exact bool_to_t (by first | exact .inl (by omega) | exact .inr (.inl h10) | exact ⟨fun h => .inr (.inr (by omega)), fun h => by rcases h with h | h | h <;> first | omega | exact absurd h h10⟩) | exact bool_to_f (by first | exact .inl (by omega) | exact .inr (.inl h10) | exact ⟨fun h => .inr (.inr (by omega)), fun h => by rcases h with h | h | h <;> first | omega | exact absurd h h10⟩) | exact bool_to (by first | exact .inl (by omega) | exact .inr (.inl h10) | exact ⟨fun h => .inr (.inr (by omega)), fun h => by rcases h with h | h | h <;> first | omega | exact absurd h h10⟩) | exact bool_to_b (by first | exact .inl (by omega) | exact .inr (.inl h10) | exact ⟨fun h => .inr (.inr (by omega)), fun h => by rcases h with h | h | h <;> first | omega | exact absurd h h10⟩))
    · skip
      refine vl_guard_f rfl rfl rfl rfl ?_
      refine vl_det (det_pick_t rfl rfl) rfl ?_
      refine vl_det (det_move rfl) rfl ?_
      refine vl_guard_f rfl rfl rfl rfl ?_
      refine vl_guard_f rfl rfl rfl rfl ?_
      refine vl_guard_f rfl rfl rfl rfl ?_
      refine vl_det (det_pick_t rfl rfl) rfl ?_
      exact vl_cut_end trivial (by first | rfl | exact bool_to_t (by first | exact .inl (by omega) | exact .inr (.inl h10) | exact ⟨fun h => .inr (.inr (by omega)), fun h => by rcases h with h | h | h <;> first | omega | exact absurd h h10⟩) | exact bool_to_f (by first | exact .inl (by omega) | exact .inr (.inl h10) | exact ⟨fun h => .inr (.inr (by omega)), fun h => by rcases h with h | h | h <;> first | omega | exact absurd h h10⟩) | exact bool_to (by first | exact .inl (by omega) | exact .inr (.inl h10) | exact ⟨fun h => .inr (.inr (by omega)), fun h => by rcases h with h | h | h <;> first | omega | exact absurd h h10⟩) | exact bool_to_b (by first | exact .inl (by omega) | exact .inr (.inl h10) | exact ⟨fun h => .inr (.inr (by omega)), fun h => by rcases h with h | h | h <;> first | omega | exact absurd h h10⟩))
  · skip
    refine vl_end [(14, _)] ⟨rfl, trivial⟩ ?_
    refine then_next ?_
    refine vc_decideU rfl (fun h14 => ?_) (fun h14 => ?_)
    · skip
      refine vc_seq ?_
      refine vc_region ?_
      refine vl_det (det_assign rfl) rfl ?_
      refine vl_end [(2, _)] ⟨rfl, trivial⟩ ?_
      refine then_next ?_
      refine vc_ret ?_
      refine then_ret ?_
      refine ret1 rfl rfl ?_
      exact ⟨by rw [checkE, if_pos h14], rfl⟩
    · skip
      refine vc_skip ?_
      refine then_next ?_
      refine vc_seq ?_
      refine vc_region ?_
      refine vl_det (det_assign rfl) rfl ?_
      refine vl_end [(2, _)] ⟨rfl, trivial⟩ ?_
      refine then_next ?_
      refine vc_ret ?_
      refine ret1 rfl rfl ?_
      exact ⟨by rw [checkE, if_neg h14], rfl⟩
theorem rcheck_d (L : List RecC) (hb : Bor B w0 F 4 (.slice A L.length c) L.length (recs L)) :
    Does Try.prog B w0 14 [.slice A L.length c] F (fun r K => r = .int .i64 (checkE L) ∧ K = F) := by
  refine fn_walk Try.func14 48 rfl rfl rfl [(0, .slice A L.length c)] ⟨⟨rfl, rfl⟩, trivial⟩ ?_
  refine vc_seq ?_
  refine vc_region ?_
  refine vl_det (det_assign rfl) rfl ?_
  refine vl_end [(0, _)] ⟨rfl, trivial⟩ ?_
  refine then_next ?_
  refine vc_seq ?_
  refine vc_seq ?_
  refine vc_region ?_
  refine vl_det (det_move rfl) rfl ?_
  refine vl_det (det_len_sl Try.underlying22 rfl) rfl ?_
  refine vl_det (det_gtr rfl rfl) rfl ?_
  refine vl_end [(0, _), (7, _)] ⟨rfl, rfl, trivial⟩ ?_
  refine then_next ?_
  refine vc_decideU rfl (fun h7 => ?_) (fun h7 => ?_)
  · skip
    refine vc_seq ?_
    refine vc_region ?_
    refine vl_det (det_assign rfl) rfl ?_
    refine vl_end [(2, _)] ⟨rfl, trivial⟩ ?_
    refine then_next ?_
    refine vc_ret ?_
    refine then_ret ?_
    refine ret1 rfl rfl ?_
    exact ⟨by rw [checkE, if_pos (.inl (by omega))], rfl⟩
  · skip
    refine vc_skip ?_
    refine then_next ?_
    refine vc_seq ?_
    refine vc_region ?_
    refine vl_det (det_assign rfl) rfl ?_
    refine vl_end [(0, _), (3, _)] ⟨rfl, rfl, trivial⟩ ?_
    refine then_next ?_
    refine vc_seq ?_
    refine vc_seq ?_
    refine vc_region ?_
    refine vl_det (det_assign rfl) rfl ?_
    refine vl_end [(0, _), (3, _), (4, _)] ⟨rfl, rfl, rfl, trivial⟩ ?_
    refine then_next ?_
    refine vc_block ?_
    refine vc_loopJ (fun zf zL zm => ∃ (k : Nat), (k ≤ L.length ∧ ∀ i, i < k → ¬ long (recAt L i)) ∧ L.length - k = zm ∧ Sub zf [(0, .slice A L.length c), (3, .int .i64 (wsum (L.take k))), (4, .int .i64 k)] ∧ Wk zL (F)) _ ⟨0, ⟨Nat.zero_le _, fun i h => absurd h (by omega)⟩, rfl, ⟨(by first | rfl | exact int_to (by omega) | exact sl_to (by omega)), (by first | rfl | exact int_to (by omega) | exact sl_to (by omega)), (by first | rfl | exact int_to (by omega) | exact sl_to (by omega)), trivial⟩, .refl _⟩ ?_
    rintro _ _ _ ⟨k, ⟨hk, hno⟩, rfl, hs, hp⟩
    refine vc_weaken _ hs (vc_wk hp ?_)
    clear hs hp
    have hsh : wsum (L.take k) ≤ 8016 * k := by
      have h1 := wsum_short (L := L.take k) (by
        rintro ⟨x, hx, hl⟩
        obtain ⟨i, hi, rfl⟩ := List.getElem_of_mem hx
        have hi' : i < k := by rw [List.length_take] at hi; omega
        refine hno i hi' ?_
        rw [List.getElem_take] at hl
        unfold recAt
        rwa [List.getD_eq_getElem?_getD, List.getElem?_eq_getElem (by omega)])
      have h2 := List.length_take_le k L
      omega
    refine vc_seq ?_
    refine vc_seq ?_
    refine vc_region ?_
    refine vl_det (det_move rfl) rfl ?_
    refine vl_det (det_move rfl) rfl ?_
    refine vl_det (det_len_sl Try.underlying22 rfl) rfl ?_
    refine vl_det (det_lss rfl rfl) rfl ?_
    refine vl_end [(0, _), (3, _), (4, _), (11, _)] ⟨rfl, rfl, rfl, rfl, trivial⟩ ?_
    refine then_next ?_
    refine vc_decideU rfl (fun h11 => ?_) (fun h11 => ?_)
    · skip
      have hws := wsum_take (L := L) (k := k) (by omega)
      have hrw : (recAt L k).w = 16 + (recAt L k).2.2.1.length + (recAt L k).2.2.2.length := rfl
      refine vc_skip ?_
      refine then_next ?_
      refine vc_seq ?_
      refine vc_block ?_
      refine vc_seq ?_
      refine vc_seq ?_
      refine vc_region ?_
      refine vl_cut 16 29 [(0, _), (3, _), (4, _)] ((4000 : Int) < ((recAt L k).2.2.1.length : Int) ∨ (4000 : Int) < ((recAt L k).2.2.2.length : Int)) ⟨rfl, rfl, rfl, trivial⟩ ?_ ?_
      · skip
        refine vl_det (det_move rfl) rfl ?_
        refine vl_det (det_move rfl) rfl ?_
        refine vl_det (det_indexAddr (size := 4) Try.underlying22 (by kernel_rfl) rfl rfl rfl (by omega) (by first | (exact Bor.own (by repeat (first | exact List.Mem.head _ | apply List.Mem.tail))) | (repeat (first | assumption | apply Bor.cons)))) rfl ?_
        refine vl_det (det_fieldAddr_row_ Try.underlying44 rfl (by kernel_rfl) rfl (by first | (exact Bor.own (by repeat (first | exact List.Mem.head _ | apply List.Mem.tail))) | (repeat (first | assumption | apply Bor.cons))) (by omega) rfl) rfl ?_
        refine vl_det (det_load_rowf (by kernel_rfl) rfl (by first | (exact Bor.own (by repeat (first | exact List.Mem.head _ | apply List.Mem.tail))) | (repeat (first | assumption | apply Bor.cons))) (by omega) ((rec_get (by omega) (by decide)).trans rfl)) rfl ?_
        refine vl_det (det_len_s Try.underlying9 rfl) rfl ?_
        refine vl_det (det_gtr rfl rfl) rfl ?_
        refine vl_det (det_move rfl) rfl ?_
        refine vl_guardn rfl rfl rfl (fun h21 => ?_) (fun h21 => ?_)
        · skip
          refine vl_det (det_move rfl) rfl ?_
          refine vl_guard_t rfl rfl ?_
          refine vl_det (det_move rfl) rfl ?_
          refine vl_guard_t rfl rfl ?_
          refine vl_det (det_indexAddr (size := 4) Try.underlying22 (by kernel_rfl) rfl rfl rfl (by omega) (by first | (exact Bor.own (by repeat (first | exact List.Mem.head _ | apply List.Mem.tail))) | (repeat (first | assumption | apply Bor.cons)))) rfl ?_
          refine vl_guard_t rfl rfl ?_
          refine vl_det (det_fieldAddr_row_ Try.underlying44 rfl (by kernel_rfl) rfl (by first | (exact Bor.own (by repeat (first | exact List.Mem.head _ | apply List.Mem.tail))) | (repeat (first | assumption | apply Bor.cons))) (by omega) rfl) rfl ?_
          refine vl_guard_t rfl rfl ?_
          refine vl_det (det_load_rowf (by kernel_rfl) rfl (by first | (exact Bor.own (by repeat (first | exact List.Mem.head _ | apply List.Mem.tail))) | (repeat (first | assumption | apply Bor.cons))) (by omega) ((rec_get (by omega) (by decide)).trans rfl)) rfl ?_
          refine vl_guard_t rfl rfl ?_
          refine vl_det (det_len_s Try.underlying9 rfl) rfl ?_
          refine vl_guard_t rfl rfl ?_
          refine vl_det (det_gtr rfl rfl) rfl ?_
          refine vl_det (det_pick_f rfl rfl) rfl ?_
          exact vl_cut_end ⟨rfl, rfl, rfl, trivial⟩ (by first | rfl | exact bool_to_t (by first | omega | simp_all) | exact bool_to_f (by first | omega | simp_all) | exact bool_to (by first | omega | simp_all) | exact bool_to_b (by first | omega | simp_all))
        · skip
          refine vl_guard_f rfl rfl rfl rfl ?_
          refine vl_guard_f rfl rfl rfl rfl ?_
          refine vl_guard_f rfl rfl rfl rfl ?_
          refine vl_guard_f rfl rfl rfl rfl ?_
          refine vl_guard_f rfl rfl rfl rfl ?_
          refine vl_guard_f rfl rfl rfl rfl ?_
          refine vl_det (det_pick_t rfl rfl) rfl ?_
          exact vl_cut_end ⟨rfl, rfl, rfl, trivial⟩ (by first | rfl | exact bool_to_t (by first | omega | simp_all) | exact bool_to_f (by first | omega | simp_all) | exact bool_to (by first | omega | simp_all) | exact bool_to_b (by first | omega | simp_all))
      · skip
        refine vl_end [(0, _), (3, _), (4, _), (29, _)] ⟨rfl, rfl, rfl, rfl, trivial⟩ ?_
        refine then_next ?_
        refine vc_decideU rfl (fun h29 => ?_) (fun h29 => ?_)
        · skip
          refine vc_seq ?_
          refine vc_region ?_
          refine vl_det (det_assign rfl) rfl ?_
          refine vl_end [(2, _)] ⟨rfl, trivial⟩ ?_
          refine then_next ?_
          refine vc_ret ?_
          refine then_ret ?_
          refine in_ret ?_
          refine then_ret ?_
          refine loop_ret ?_
          refine in_ret ?_
          refine then_ret ?_
          refine ret1 rfl rfl ?_
          exact ⟨by rw [checkE, if_pos (.inr (.inl ⟨_, getD_mem (show k < L.length by omega) (0, 0, [], []), by unfold long; unfold recAt at h29; omega⟩))], rfl⟩
        · skip
          refine vc_skip ?_
          refine then_next ?_
          refine vq_region (by kernel_rfl) (by kernel_rfl) ?_
          refine vq_det (det_move rfl) rfl ?_
          refine vq_det (det_add rfl rfl (w_i64 (by omega) (by omega))) rfl ?_
          refine vq_det (det_move rfl) rfl ?_
          refine vq_det (det_move rfl) rfl ?_
          refine vq_det (det_indexAddr (size := 4) Try.underlying22 (by kernel_rfl) rfl rfl rfl (by omega) (by first | (exact Bor.own (by repeat (first | exact List.Mem.head _ | apply List.Mem.tail))) | (repeat (first | assumption | apply Bor.cons)))) rfl ?_
          refine vq_det (det_fieldAddr_row_ Try.underlying44 rfl (by kernel_rfl) rfl (by first | (exact Bor.own (by repeat (first | exact List.Mem.head _ | apply List.Mem.tail))) | (repeat (first | assumption | apply Bor.cons))) (by omega) rfl) rfl ?_
          refine vq_det (det_load_rowf (by kernel_rfl) rfl (by first | (exact Bor.own (by repeat (first | exact List.Mem.head _ | apply List.Mem.tail))) | (repeat (first | assumption | apply Bor.cons))) (by omega) ((rec_get (by omega) (by decide)).trans rfl)) rfl ?_
          refine vq_det (det_len_s Try.underlying9 rfl) rfl ?_
          refine vq_det (det_add rfl rfl (w_i64 (by omega) (by omega))) rfl ?_
          refine vq_det (det_move rfl) rfl ?_
          refine vq_det (det_move rfl) rfl ?_
          refine vq_det (det_indexAddr (size := 4) Try.underlying22 (by kernel_rfl) rfl rfl rfl (by omega) (by first | (exact Bor.own (by repeat (first | exact List.Mem.head _ | apply List.Mem.tail))) | (repeat (first | assumption | apply Bor.cons)))) rfl ?_
          refine vq_det (det_fieldAddr_row_ Try.underlying44 rfl (by kernel_rfl) rfl (by first | (exact Bor.own (by repeat (first | exact List.Mem.head _ | apply List.Mem.tail))) | (repeat (first | assumption | apply Bor.cons))) (by omega) rfl) rfl ?_
          refine vq_det (det_load_rowf (by kernel_rfl) rfl (by first | (exact Bor.own (by repeat (first | exact List.Mem.head _ | apply List.Mem.tail))) | (repeat (first | assumption | apply Bor.cons))) (by omega) ((rec_get (by omega) (by decide)).trans rfl)) rfl ?_
          refine vq_det (det_len_s Try.underlying9 rfl) rfl ?_
          refine vq_det (det_add rfl rfl (w_i64 (by omega) (by omega))) rfl ?_
          refine vq_det (det_assign rfl) rfl ?_
          refine vq_end [(0, _), (3, _), (4, _)] ⟨rfl, rfl, rfl, trivial⟩ ?_
          refine in_normal ?_
          refine then_next ?_
          refine vc_region ?_
          refine vl_det (det_move rfl) rfl ?_
          refine vl_det (det_add rfl rfl (w_i64 (by omega) (by omega))) rfl ?_
          refine vl_det (det_assign rfl) rfl ?_
          refine vl_end [(0, _), (3, _), (4, _)] ⟨rfl, rfl, rfl, trivial⟩ ?_
          refine in_loop_ ⟨_, by omega, k + 1, ⟨by omega, fun i h => by rcases Nat.lt_succ_iff_lt_or_eq.1 h with h | h; exact hno i h; subst h; unfold long; omega⟩, rfl, ⟨(by first | rfl | exact int_to (by omega) | exact sl_to (by omega)), (by first | rfl | exact int_to (by omega) | exact sl_to (by omega)), (by first | rfl | exact int_to (by omega) | exact sl_to (by omega)), trivial⟩, .refl _⟩
    · skip
      refine vc_exit ?_
      refine then_exit ?_
      refine loop_exit ?_
      refine in_eq ?_
      refine then_next ?_
      refine vc_seq ?_
      refine vc_seq ?_
      refine vc_region ?_
      refine vl_det (det_move rfl) rfl ?_
      refine vl_det (det_gtr rfl rfl) rfl ?_
      refine vl_end [(47, _)] ⟨rfl, trivial⟩ ?_
      refine then_next ?_
      refine vc_decideU rfl (fun h47 => ?_) (fun h47 => ?_)
      · skip
        refine vc_seq ?_
        refine vc_region ?_
        refine vl_det (det_assign rfl) rfl ?_
        refine vl_end [(2, _)] ⟨rfl, trivial⟩ ?_
        refine then_next ?_
        refine vc_ret ?_
        refine then_ret ?_
        refine ret1 rfl rfl ?_
        have hkl : k = L.length := by omega
        subst hkl
        rw [List.take_length] at h47
        exact ⟨by rw [checkE, if_pos (.inr (.inr (by omega)))], rfl⟩
      · skip
        refine vc_skip ?_
        refine then_next ?_
        refine vc_seq ?_
        refine vc_region ?_
        refine vl_det (det_assign rfl) rfl ?_
        refine vl_end [(2, _)] ⟨rfl, trivial⟩ ?_
        refine then_next ?_
        refine vc_ret ?_
        refine ret1 rfl rfl ?_
        have hkl : k = L.length := by omega
        subst hkl
        rw [List.take_length] at h47
        have hnn : ¬ (20000 < L.length ∨ (∃ x ∈ L, long x) ∨ 1048576 < wsum L) := ?_
        exact ⟨by rw [checkE, if_neg hnn], rfl⟩
        rintro (h | ⟨x, hx, hlx⟩ | h)
        · omega
        · obtain ⟨i, hi, rfl⟩ := List.getElem_of_mem hx
          have := hno i (by omega)
          unfold recAt at this
          rw [List.getD_eq_getElem?_getD, List.getElem?_eq_getElem hi] at this
          exact absurd hlx this
        · omega
end Go.Proofs.Ytlbdhdocagahpaa
