/-
  'DictRange': a text begins with another one just if its place is in that one's range. No condition.
-/
import Derived.Test.YtbkaoncopohdbaaDictL
import Derived.Test.YtbkaoncopohdbaaDictH
import Derived.Test.YtbkaoncopohdbaaDictR
import Derived.Test.YtbkaoncopohdbaaRows
import Derived.Test.YtbkaoncopohdbaaOpen
namespace Go.Proofs.Ytbkaoncopohdbaa.lawDictRange
open Go.ChangeShapes Go.WideShapes Go.ChangeAt Go.RowKit
open Go.ChangeMaps (open_string shut_string)
set_option linter.unusedVariables false
set_option maxRecDepth 20000
theorem walk (w : World) (a : Nat) (ha : a < 256) (v : Value) (ls : List ByteArray) (hr : Rd w w.heap.size 1 v ls.length (ls.flatMap fun s => [.string s])) (ho : ∀ s ∈ ls, s.size ≤ maxLen) (hm : ls.length ≤ maxLen) (s : ByteArray) (hs : s.size ≤ maxLen) (i : Nat) (hi : i < 65536) :
    Calls Try.prog 7 #[.int .u8 a, v, .string s, .int .u16 i] w fun e w' => e = .returned (.bool true) ∧ Below w.heap.size w w' := by
  obtain ⟨t, rfl⟩ : ∃ t : List UInt8, s = ⟨t.toArray⟩ := ⟨s.data.toList, by simp⟩
  obtain ⟨l, hl⟩ : ∃ l : List Txt, l = ls.map (·.data.toList) := ⟨_, rfl⟩
  have hll : ls.length = l.length := by rw [hl, List.length_map]
  have hst : (ls.flatMap fun s => [Value.string s]) = strs l := by
    rw [hl]; unfold strs; rw [List.map_map, flatMap_one]; rfl
  rw [hst, hll] at hr
  obtain ⟨A0, c0, rfl, hc0⟩ := hr.form
  have hbo : Bor w.heap.size w [] 1 (.slice A0 l.length c0) l.length (strs l) := Bor.in_ hr
  rw [hll] at hm
  simp only [maxLen] at hm
  clear hl hll hst ho
  obtain ⟨sz, hsz⟩ : ∃ sz, sz = 1 + a % 64 := ⟨_, rfl⟩
  have hW := dictW_ok (sz := sz) (l := l)
  have hbk := @dict_back l sz
  refine Does.law (args := [.int .u8 a, .slice A0 l.length c0, .string ⟨t.toArray⟩, .int .u16 i]) ?_
  refine fn_walk Try.func7 82 rfl rfl rfl [(0, .int .u8 a), (1, .slice A0 l.length c0), (2, .string ⟨t.toArray⟩), (3, .int .u16 i)] ⟨⟨rfl, rfl⟩, ⟨rfl, rfl⟩, ⟨rfl, rfl⟩, ⟨rfl, rfl⟩, trivial⟩ ?_
  refine vc_seq ?_
  refine vc_region ?_
  refine vl_det (det_assign rfl) rfl ?_
  refine vl_end [(0, _), (1, _), (2, _), (3, _)] ⟨rfl, rfl, rfl, rfl, trivial⟩ ?_
  refine then_next ?_
  refine vc_seq ?_
  refine vc_seq ?_
  refine vc_region ?_
  refine vl_call co9 rfl (alive_d) rfl ?_
  rintro _ _ ⟨rfl, hLL⟩
  obtain rfl := hLL.symm
  refine vl_det (det_not_t rfl) rfl ?_
  refine vl_end [(0, _), (1, _), (2, _), (3, _), (19, _)] ⟨rfl, rfl, rfl, rfl, rfl, trivial⟩ ?_
  refine then_next ?_
  refine vc_cond_f rfl ?_
  refine vc_skip ?_
  refine then_next ?_
  refine vc_seq ?_
  refine vc_seq ?_
  refine vc_region ?_
  refine vl_cut 17 36 [(0, _), (1, _), (2, _), (3, _)] ((grT l ∨ (60 : Int) < t.length ∨ ¬ RisT l) ∨ (l.length : Int) = 0) ⟨rfl, rfl, rfl, rfl, trivial⟩ ?_ ?_
  · skip
    refine vl_det (det_move rfl) rfl ?_
    refine vl_call co10 rfl (great_dd (by first | (exact Bor.own (by repeat (first | exact List.Mem.head _ | apply List.Mem.tail))) | (repeat (first | assumption | apply Bor.cons))) (by omega)) rfl ?_
    rintro _ _ ⟨rfl, hLL⟩
    obtain rfl := hLL.symm
    refine vl_det (det_move rfl) rfl ?_
    refine vl_guardn rfl rfl rfl (fun h22 => ?_) (fun h22 => ?_)
    · skip
      refine vl_det (det_move rfl) rfl ?_
      refine vl_guard_t rfl rfl ?_
      refine vl_det (det_len_s Try.underlying9 rfl) rfl ?_
      refine vl_guard_t rfl rfl ?_
      refine vl_det (det_gtr rfl rfl) rfl ?_
      refine vl_det (det_pick_f rfl rfl) rfl ?_
      refine vl_det (det_move rfl) rfl ?_
      refine vl_guardn rfl rfl rfl (fun h27 => ?_) (fun h27 => ?_)
      · skip
        refine vl_det (det_move rfl) rfl ?_
        refine vl_guard_t rfl rfl ?_
        refine vl_call co21 rfl (rmayT_d (by first | (exact Bor.own (by repeat (first | exact List.Mem.head _ | apply List.Mem.tail))) | (repeat (first | assumption | apply Bor.cons))) (by have := not_grT (l := l) (by assumption); omega)) rfl ?_
        rintro _ _ ⟨rfl, hLL⟩
        obtain rfl := hLL.symm
        refine vl_guard_t rfl rfl ?_
        refine vl_det (det_notd rfl) rfl ?_
        refine vl_det (det_pick_f rfl rfl) rfl ?_
        refine vl_det (det_move rfl) rfl ?_
        refine vl_guardn rfl rfl rfl (fun h32 => ?_) (fun h32 => ?_)
        · skip
          refine vl_det (det_move rfl) rfl ?_
          refine vl_guard_t rfl rfl ?_
          refine vl_det (det_len_sl Try.underlying22 rfl) rfl ?_
          refine vl_guard_t rfl rfl ?_
          refine vl_det (det_eql rfl rfl) rfl ?_
          refine vl_det (det_pick_f rfl rfl) rfl ?_
          exact vl_cut_end ⟨rfl, rfl, rfl, rfl, trivial⟩ (by first | rfl | exact bool_to_t (by first | exact .inl (.inl (by assumption)) | exact .inl (.inr (.inl (by assumption))) | exact .inl (.inr (.inr (by assumption))) | exact ⟨fun h => .inr h, fun h => h.elim (fun q => q.elim (fun q => absurd q (by assumption)) (fun q => q.elim (fun q => absurd q (by omega)) (fun q => absurd q (by assumption)))) id⟩) | exact bool_to_f (by first | exact .inl (.inl (by assumption)) | exact .inl (.inr (.inl (by assumption))) | exact .inl (.inr (.inr (by assumption))) | exact ⟨fun h => .inr h, fun h => h.elim (fun q => q.elim (fun q => absurd q (by assumption)) (fun q => q.elim (fun q => absurd q (by omega)) (fun q => absurd q (by assumption)))) id⟩) | exact bool_to (by first | exact .inl (.inl (by assumption)) | exact .inl (.inr (.inl (by assumption))) | exact .inl (.inr (.inr (by assumption))) | exact ⟨fun h => .inr h, fun h => h.elim (fun q => q.elim (fun q => absurd q (by assumption)) (fun q => q.elim (fun q => absurd q (by omega)) (fun q => absurd q (by assumption)))) id⟩) | exact bool_to_b (by first | exact .inl (.inl (by assumption)) | exact .inl (.inr (.inl (by assumption))) | exact .inl (.inr (.inr (by assumption))) | exact ⟨fun h => .inr h, fun h => h.elim (fun q => q.elim (fun q => absurd q (by assumption)) (fun q => q.elim (fun q => absurd q (by omega)) (fun q => absurd q (by assumption)))) id⟩))
        · skip
          refine vl_guard_f rfl rfl rfl rfl ?_
          refine vl_guard_f rfl rfl rfl rfl ?_
          refine vl_det (det_pick_t rfl rfl) rfl ?_
          exact vl_cut_end ⟨rfl, rfl, rfl, rfl, trivial⟩ (by first | rfl | exact bool_to_t (by first | exact .inl (.inl (by assumption)) | exact .inl (.inr (.inl (by assumption))) | exact .inl (.inr (.inr (by assumption))) | exact ⟨fun h => .inr h, fun h => h.elim (fun q => q.elim (fun q => absurd q (by assumption)) (fun q => q.elim (fun q => absurd q (by omega)) (fun q => absurd q (by assumption)))) id⟩) | exact bool_to_f (by first | exact .inl (.inl (by assumption)) | exact .inl (.inr (.inl (by assumption))) | exact .inl (.inr (.inr (by assumption))) | exact ⟨fun h => .inr h, fun h => h.elim (fun q => q.elim (fun q => absurd q (by assumption)) (fun q => q.elim (fun q => absurd q (by omega)) (fun q => absurd q (by assumption)))) id⟩) | exact bool_to (by first | exact .inl (.inl (by assumption)) | exact .inl (.inr (.inl (by assumption))) | exact .inl (.inr (.inr (by assumption))) | exact ⟨fun h => .inr h, fun h => h.elim (fun q => q.elim (fun q => absurd q (by assumption)) (fun q => q.elim (fun q => absurd q (by omega)) (fun q => absurd q (by assumption)))) id⟩) | exact bool_to_b (by first | exact .inl (.inl (by assumption)) | exact .inl (.inr (.inl (by assumption))) | exact .inl (.inr (.inr (by assumption))) | exact ⟨fun h => .inr h, fun h => h.elim (fun q => q.elim (fun q => absurd q (by assumption)) (fun q => q.elim (fun q => absurd q (by omega)) (fun q => absurd q (by assumption)))) id⟩))
      · skip
        refine vl_guard_f rfl rfl rfl rfl ?_
        refine vl_guard_f rfl rfl rfl rfl ?_
        refine vl_det (det_pick_t rfl rfl) rfl ?_
        refine vl_det (det_move rfl) rfl ?_
        refine vl_guard_f rfl rfl rfl rfl ?_
        refine vl_guard_f rfl rfl rfl rfl ?_
        refine vl_guard_f rfl rfl rfl rfl ?_
        refine vl_det (det_pick_t rfl rfl) rfl ?_
        exact vl_cut_end ⟨rfl, rfl, rfl, rfl, trivial⟩ (by first | rfl | exact bool_to_t (by first | exact .inl (.inl (by assumption)) | exact .inl (.inr (.inl (by assumption))) | exact .inl (.inr (.inr (by assumption))) | exact ⟨fun h => .inr h, fun h => h.elim (fun q => q.elim (fun q => absurd q (by assumption)) (fun q => q.elim (fun q => absurd q (by omega)) (fun q => absurd q (by assumption)))) id⟩) | exact bool_to_f (by first | exact .inl (.inl (by assumption)) | exact .inl (.inr (.inl (by assumption))) | exact .inl (.inr (.inr (by assumption))) | exact ⟨fun h => .inr h, fun h => h.elim (fun q => q.elim (fun q => absurd q (by assumption)) (fun q => q.elim (fun q => absurd q (by omega)) (fun q => absurd q (by assumption)))) id⟩) | exact bool_to (by first | exact .inl (.inl (by assumption)) | exact .inl (.inr (.inl (by assumption))) | exact .inl (.inr (.inr (by assumption))) | exact ⟨fun h => .inr h, fun h => h.elim (fun q => q.elim (fun q => absurd q (by assumption)) (fun q => q.elim (fun q => absurd q (by omega)) (fun q => absurd q (by assumption)))) id⟩) | exact bool_to_b (by first | exact .inl (.inl (by assumption)) | exact .inl (.inr (.inl (by assumption))) | exact .inl (.inr (.inr (by assumption))) | exact ⟨fun h => .inr h, fun h => h.elim (fun q => q.elim (fun q => absurd q (by assumption)) (fun q => q.elim (fun q => absurd q (by omega)) (fun q => absurd q (by assumption)))) id⟩))
    · skip
      refine vl_guard_f rfl rfl rfl rfl ?_
      refine vl_guard_f rfl rfl rfl rfl ?_
      refine vl_det (det_pick_t rfl rfl) rfl ?_
      refine vl_det (det_move rfl) rfl ?_
      refine vl_guard_f rfl rfl rfl rfl ?_
      refine vl_guard_f rfl rfl rfl rfl ?_
      refine vl_guard_f rfl rfl rfl rfl ?_
      refine vl_det (det_pick_t rfl rfl) rfl ?_
      refine vl_det (det_move rfl) rfl ?_
      refine vl_guard_f rfl rfl rfl rfl ?_
      refine vl_guard_f rfl rfl rfl rfl ?_
      refine vl_guard_f rfl rfl rfl rfl ?_
      refine vl_det (det_pick_t rfl rfl) rfl ?_
      exact vl_cut_end ⟨rfl, rfl, rfl, rfl, trivial⟩ (by first | rfl | exact bool_to_t (by first | exact .inl (.inl (by assumption)) | exact .inl (.inr (.inl (by assumption))) | exact .inl (.inr (.inr (by assumption))) | exact ⟨fun h => .inr h, fun h => h.elim (fun q => q.elim (fun q => absurd q (by assumption)) (fun q => q.elim (fun q => absurd q (by omega)) (fun q => absurd q (by assumption)))) id⟩) | exact bool_to_f (by first | exact .inl (.inl (by assumption)) | exact .inl (.inr (.inl (by assumption))) | exact .inl (.inr (.inr (by assumption))) | exact ⟨fun h => .inr h, fun h => h.elim (fun q => q.elim (fun q => absurd q (by assumption)) (fun q => q.elim (fun q => absurd q (by omega)) (fun q => absurd q (by assumption)))) id⟩) | exact bool_to (by first | exact .inl (.inl (by assumption)) | exact .inl (.inr (.inl (by assumption))) | exact .inl (.inr (.inr (by assumption))) | exact ⟨fun h => .inr h, fun h => h.elim (fun q => q.elim (fun q => absurd q (by assumption)) (fun q => q.elim (fun q => absurd q (by omega)) (fun q => absurd q (by assumption)))) id⟩) | exact bool_to_b (by first | exact .inl (.inl (by assumption)) | exact .inl (.inr (.inl (by assumption))) | exact .inl (.inr (.inr (by assumption))) | exact ⟨fun h => .inr h, fun h => h.elim (fun q => q.elim (fun q => absurd q (by assumption)) (fun q => q.elim (fun q => absurd q (by omega)) (fun q => absurd q (by assumption)))) id⟩))
  · skip
    refine vl_end [(0, _), (1, _), (2, _), (3, _), (36, _)] ⟨rfl, rfl, rfl, rfl, rfl, trivial⟩ ?_
    refine then_next ?_
    refine vc_decideU rfl (fun h36 => ?_) (fun h36 => ?_)
    · skip
      refine vc_seq ?_
      refine vc_region ?_
      refine vl_det (det_assign rfl) rfl ?_
      refine vl_end [(8, _)] ⟨rfl, trivial⟩ ?_
      refine then_next ?_
      refine vc_ret ?_
      refine then_ret ?_
      refine ret1 rfl rfl ?_
      rfl
    · skip
      obtain ⟨hl3, hl60⟩ := not_grT fun h => h36 (.inl (.inl h))
      have hR : RisT l := Classical.byContradiction fun h => h36 (.inl (.inr (.inr h)))
      have hB1 := bodyT_len (l := l) (sz := sz) (by omega) hR.le (List.range (chN sz l.length))
      have hH1 := headT_len (l := l) (sz := sz) (by omega) hR.le (List.range (chN sz l.length))
      have hN1 := encN_len10 (x := l.length) (by omega)
      have hcN : chN sz l.length ≤ 400 := by
        unfold chN
        exact Nat.le_trans (Nat.div_le_self _ _) (by omega)
      have hdl : (dictB sz l).length ≤ 1250000 := by
        rw [List.length_range] at hB1 hH1
        have h1 : chN sz l.length * 3000 ≤ 400 * 3000 := Nat.mul_le_mul_right _ hcN
        have h2 : chN sz l.length * 10 ≤ 400 * 10 := Nat.mul_le_mul_right _ hcN
        simp only [dictB, List.length_append]
        omega
      have hW := hW (by rintro (h | h | h); omega; omega; exact h hR)
      have hbk := hbk hR (by omega) (by omega) []
      rw [List.append_nil] at hbk
      have hl0 : 0 < l.length := by omega
      obtain ⟨j, hj⟩ : ∃ j, j = i % l.length := ⟨_, rfl⟩
      have hjl : j < l.length := by rw [hj]; exact Nat.mod_lt _ hl0
      refine vc_skip ?_
      refine then_next ?_
      refine vc_seq ?_
      refine vc_region ?_
      refine vl_det (det_move rfl) rfl ?_
      refine vl_det (det_conv Try.underlying5 Try.underlying3 rfl (w_i64 (by omega) (by omega))) rfl ?_
      refine vl_det (det_rem rfl rfl (by omega) (r := ((a % 64 : Nat) : Int)) (Int.ofNat_tmod _ _).symm) rfl ?_
      refine vl_det (det_add rfl rfl (r := (sz : Int)) ((w_i64 (by omega) (by omega)).trans (by omega))) rfl ?_
      refine vl_det (det_assign rfl) rfl ?_
      refine vl_end [(1, _), (2, _), (3, _), (9, _)] ⟨rfl, rfl, rfl, rfl, trivial⟩ ?_
      refine then_next ?_
      refine vc_seq ?_
      refine vc_region ?_
      refine vl_det (det_move rfl) rfl ?_
      refine vl_det (det_move rfl) rfl ?_
      refine vl_call co11 rfl (dwrite_d (by first | (exact Bor.own (by repeat (first | exact List.Mem.head _ | apply List.Mem.tail))) | (repeat (first | assumption | apply Bor.cons))) hc0 (by omega)) rfl ?_
      rintro _ _ ⟨A44, c44, rfl, hLL⟩
      obtain rfl := hLL.symm
      rw [hW]
      refine vl_det (det_move rfl) rfl ?_
      refine vl_det (det_extract rfl rfl) rfl ?_
      refine vl_det (det_extract rfl rfl) rfl ?_
      refine vl_det (det_assign rfl) rfl ?_
      refine vl_det (det_assign rfl) rfl ?_
      refine vl_end [(1, _), (2, _), (3, _), (9, _), (10, _)] ⟨rfl, rfl, rfl, rfl, rfl, trivial⟩ ?_
      refine then_next ?_
      refine vc_seq ?_
      refine vc_region ?_
      refine vl_det (det_move rfl) rfl ?_
      refine vl_det (det_move rfl) rfl ?_
      refine vl_call co19 rfl (dread_good (sz := sz) (by omega) (by omega) (by first | (exact Bor.own (by repeat (first | exact List.Mem.head _ | apply List.Mem.tail))) | (repeat (first | assumption | apply Bor.cons))) (by simp only; omega) hbk) rfl ?_
      rintro _ _ ⟨g50, P50, p50, Q50, q50, rfl, hLL⟩
      obtain rfl := hLL.symm
      refine vl_det (det_move rfl) rfl ?_
      refine vl_det (det_extract rfl rfl) rfl ?_
      refine vl_det (det_extract rfl rfl) rfl ?_
      refine vl_det (det_extract rfl rfl) rfl ?_
      refine vl_det (det_assign rfl) rfl ?_
      refine vl_det (det_assign rfl) rfl ?_
      refine vl_det (det_assign rfl) rfl ?_
      refine vl_end [(1, _), (2, _), (3, _), (12, _), (14, _)] ⟨rfl, rfl, rfl, rfl, rfl, trivial⟩ ?_
      refine then_next ?_
      refine vc_seq ?_
      refine vc_seq ?_
      refine vc_region ?_
      refine vl_det (det_move rfl) rfl ?_
      refine vl_det (det_neq rfl rfl) rfl ?_
      refine vl_end [(1, _), (2, _), (3, _), (12, _), (55, _)] ⟨rfl, rfl, rfl, rfl, rfl, trivial⟩ ?_
      refine then_next ?_
      refine vc_decideU rfl (fun h55 => ?_) (fun h55 => ?_)
      · skip
        exfalso; exact h55 rfl
      · skip
        refine vc_skip ?_
        refine then_next ?_
        refine vc_seq ?_
        refine vc_region ?_
        refine vl_det (det_move rfl) rfl ?_
        refine vl_det (det_conv Try.underlying47 Try.underlying3 rfl (w_i64 (by omega) (by omega))) rfl ?_
        refine vl_det (det_move rfl) rfl ?_
        refine vl_det (det_len_sl Try.underlying22 rfl) rfl ?_
        refine vl_det (det_rem rfl rfl (by omega) (r := (j : Int)) (by rw [hj]; exact (Int.ofNat_tmod _ _).symm)) rfl ?_
        refine vl_det (det_assign rfl) rfl ?_
        refine vl_end [(1, _), (2, _), (12, _), (15, _)] ⟨rfl, rfl, rfl, rfl, trivial⟩ ?_
        refine then_next ?_
        refine vc_seq ?_
        refine vc_region ?_
        refine vl_det (det_move rfl) rfl ?_
        refine vl_det (det_move rfl) rfl ?_
        refine vl_call co16 rfl (drange_d t (by omega) (by omega) hR) rfl ?_
        rintro _ _ ⟨a1, b1, hab1, rfl, hLL⟩
        obtain rfl := hLL.symm
        have hab := hab1.2.1 j hjl
        refine vl_det (det_move rfl) rfl ?_
        refine vl_det (det_extract rfl rfl) rfl ?_
        refine vl_det (det_extract rfl rfl) rfl ?_
        refine vl_det (det_assign rfl) rfl ?_
        refine vl_det (det_assign rfl) rfl ?_
        refine vl_end [(1, _), (2, _), (15, _), (16, _), (17, _)] ⟨rfl, rfl, rfl, rfl, rfl, trivial⟩ ?_
        refine then_next ?_
        refine vc_seq ?_
        refine vc_region ?_
        refine vl_det (det_move rfl) rfl ?_
        refine vl_det (det_move rfl) rfl ?_
        refine vl_det (det_indexAddr (size := 1) Try.underlying22 (by kernel_rfl) rfl rfl rfl (by omega) (by first | (exact Bor.own (by repeat (first | exact List.Mem.head _ | apply List.Mem.tail))) | (repeat (first | assumption | apply Bor.cons)))) rfl ?_
        refine vl_det (det_load_str (b := l) (j := j) (by kernel_rfl) rfl (by first | (exact Bor.own (by repeat (first | exact List.Mem.head _ | apply List.Mem.tail))) | (repeat (first | assumption | apply Bor.cons))) (by omega)) rfl ?_
        refine vl_det (det_move rfl) rfl ?_
        refine vl_call co22 rfl (rbegins_d (l.getD j []) t) rfl ?_
        rintro _ _ ⟨rfl, hLL⟩
        obtain rfl := hLL.symm
        refine vl_det (det_move rfl) rfl ?_
        refine vl_det (det_move rfl) rfl ?_
        refine vl_det (det_leq rfl rfl) rfl ?_
        refine vl_det (det_move rfl) rfl ?_
        refine vl_guardp rfl rfl rfl (fun h76 => ?_) (fun h76 => ?_)
        · skip
          refine vl_det (det_move rfl) rfl ?_
          refine vl_guard_t rfl rfl ?_
          refine vl_det (det_move rfl) rfl ?_
          refine vl_guard_t rfl rfl ?_
          refine vl_det (det_lss rfl rfl) rfl ?_
          refine vl_det (det_pick_t rfl rfl) rfl ?_
          refine vl_det (det_bool_eql Try.underlying4 rfl rfl) rfl ?_
          refine vl_det (det_assign rfl) rfl ?_
          refine vl_end [(8, _)] ⟨rfl, trivial⟩ ?_
          refine then_next ?_
          refine vc_ret ?_
          refine ret_wk (L' := []) (.skip (.skip (.skip (.skip (.refl _))))) ?_
          refine ret1 rfl rfl ?_
          rw [decide_eq_true (decide_eq_decide.2 ⟨fun h => by have := hab.1 h; omega, fun h => hab.2 ⟨by omega, by omega⟩⟩)]
        · skip
          refine vl_guard_f rfl rfl rfl rfl ?_
          refine vl_guard_f rfl rfl rfl rfl ?_
          refine vl_det (det_pick_f rfl rfl) rfl ?_
          refine vl_det (det_bool_eql Try.underlying4 rfl rfl) rfl ?_
          refine vl_det (det_assign rfl) rfl ?_
          refine vl_end [(8, _)] ⟨rfl, trivial⟩ ?_
          refine then_next ?_
          refine vc_ret ?_
          refine ret_wk (L' := []) (.skip (.skip (.skip (.skip (.refl _))))) ?_
          refine ret1 rfl rfl ?_
          rw [decide_eq_true (decide_eq_false fun h => by have := hab.1 h; omega)]
theorem own : ownKnob Try.prog.godebug = none := by kernel_rfl
theorem laidOut : laidOutB Try.prog = true := by kernel_rfl
set_option maxRecDepth 100000 in
theorem lifted (os : Os) (started : os.Started) (H : Type) (enc : TypeId × Value → H) :
    ReturnsInHanded {} Try.checked os 7 .any (Rows.dictRangeSpec.pre6 enc Try.prog Try.f7 Rows.dictRangeRow.domain false) (Rows.dictRangeSpec.post enc Try.prog Try.f7 false true false false) := by
  refine returnsInHanded_of_change (C := Try.checked) own started (by kernel_rfl) Try.func7
    (ChangeSpec.witness6 (enc := enc) (C := Try.checked) false ⟨#[], #[.int .u8 0, .slice none 0 0, .string ByteArray.empty, .int .u16 0], []⟩ 8 (by kernel_rfl) (by kernel_rfl) (by kernel_rfl) (by kernel_rfl)) ?_
  intro W base args ds gs before hval0 hW hcnd _
  have hval : ∀ (j : Nat) t v, Try.f7.params[j]? = some t → args[j]? = some v → Value.okWide Try.prog W .any base t v := hval0
  have hW' := hW
  obtain ⟨p, q, hA0, hV, rfl, hfz, hnd⟩ := hW
  have hA : DataW.TrodAll enc Try.prog W 0 (fun _ => true) true Try.f7.params.toList args.toList ds p := hA0
  rw [Try.params7] at hA hval
  obtain ⟨v0', vs0, d0, ds0, p0, q0, hargs, rfl, rfl, h0', r0⟩ := trodAll_cons hA
  obtain ⟨v1', vs1, d1, ds1, p1, q1, rfl, rfl, rfl, h1', r1⟩ := trodAll_cons r0
  obtain ⟨v2', vs2, d2, ds2, p2, q2, rfl, rfl, rfl, h2', r2⟩ := trodAll_cons r1
  obtain ⟨v3', vs3, d3, ds3, p3, q3, rfl, rfl, rfl, h3', r3⟩ := trodAll_cons r2
  obtain ⟨rfl, rfl, rfl⟩ := trodAll_nil r3
  obtain rfl : args = #[v0', v1', v2', v3'] := by cases args; simp_all
  obtain ⟨rfl, rfl⟩ := trodVars_none hV
  have k0 := h0'
  have lt0 : ∀ x ∈ p0, x.block < W.heap.size := by obtain ⟨m, hm⟩ := k0; exact DataW.trod_lt m _ _ _ hm
  obtain ⟨a0, rfl, hd0, hp0, w0⟩ := open_int Try.underlying5 (hval 0 5 v0' rfl rfl) h0'
  have bd0 := bounds_u8 w0
  obtain ⟨n0, rfl⟩ := Int.eq_ofNat_of_zero_le bd0.1
  have k1 := h1'
  have lt1 : ∀ x ∈ p1, x.block < W.heap.size := by obtain ⟨m, hm⟩ := k1; exact DataW.trod_lt m _ _ _ hm
  obtain ⟨A1, n1, c1, rfl⟩ := okWide_slice Try.underlying22 (hval 1 22 v1' rfl rfl)
  obtain ⟨⟨u1, L1⟩, e1, hr1, ho1, hm1⟩ := DecT.arg (dec_slice Try.underlying22 (by kernel_rfl : Try.prog.cellsOf 9 = 1) (by omega) (fun _ => rfl) (dec_string Try.underlying9)) k1
  obtain rfl := cells_slice A1 n1 c1 rfl e1
  have k2 := h2'
  have lt2 : ∀ x ∈ p2, x.block < W.heap.size := by obtain ⟨m, hm⟩ := k2; exact DataW.trod_lt m _ _ _ hm
  obtain ⟨a2, rfl, hd2, hp2, w2⟩ := open_string Try.underlying9 (hval 2 9 v2' rfl rfl) h2'
  have k3 := h3'
  have lt3 : ∀ x ∈ p3, x.block < W.heap.size := by obtain ⟨m, hm⟩ := k3; exact DataW.trod_lt m _ _ _ hm
  obtain ⟨a3, rfl, hd3, hp3, w3⟩ := open_int Try.underlying47 (hval 3 47 v3' rfl rfl) h3'
  have bd3 := bounds_u16 w3
  obtain ⟨n3, rfl⟩ := Int.eq_ofNat_of_zero_le bd3.1
  clear hA0 hval0
  refine (walk W n0 (by omega) _ L1 hr1 ho1 hm1 a2 w2 n3 (by omega)).mono fun e W' ⟨he, bel⟩ => ?_
  subst he
  exact ⟨_, rfl, _, _, _, [], _, [], hW', trodAll_mk1 (shut_bool Try.underlying4 _), (trodAll_cons_mk (Below.trod laidOut (by kernel_rfl) (of_decide_eq_true (by kernel_rfl)) k0 bel lt0) (trodAll_cons_mk (Below.trod laidOut (by kernel_rfl) (of_decide_eq_true (by kernel_rfl)) k1 bel lt1) (trodAll_cons_mk (Below.trod laidOut (by kernel_rfl) (of_decide_eq_true (by kernel_rfl)) k2 bel lt2) (trodAll_cons_mk (Below.trod laidOut (by kernel_rfl) (of_decide_eq_true (by kernel_rfl)) k3 bel lt3) trodAll_mk0)))), rfl, bel.frame _, fun h => by cases h⟩

theorem over : Rows.dictRangeRow.holds Try.pinned (OpenSpec.ofChange Rows.dictRangeSpec) :=
  OpenClaim.holds_of_wide 7 Try.f7 rfl rfl rfl rfl rfl rfl rfl ⟨rfl, rfl, rfl, rfl, rfl⟩ rfl rfl rfl rfl rfl (by kernel_rfl) Try.func7 (by kernel_rfl)
    (of_decide_eq_true (by kernel_rfl)) (by unfold Func.isWrapper; first | (rw [if_pos (by decide +kernel)]; kernel_rfl) | (rw [if_neg (by decide +kernel)]; exact ⟨rfl, rfl⟩))
    (fun os started H enc _ => lifted os started H enc)

theorem proved : Rows.DictRangeSaid := over
#print axioms proved
end Go.Proofs.Ytbkaoncopohdbaa.lawDictRange
