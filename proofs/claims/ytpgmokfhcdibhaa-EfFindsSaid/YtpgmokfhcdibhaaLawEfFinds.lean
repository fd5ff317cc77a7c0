/-
  'EfFinds': places, and the next number from any one on, are the document's. No condition.
-/
import Derived.Test.YtpgmokfhcdibhaaEfV
import Derived.Test.YtpgmokfhcdibhaaEfC
import Derived.Test.YtpgmokfhcdibhaaDecI
import Derived.Test.YtpgmokfhcdibhaaRows
import Derived.Test.YtpgmokfhcdibhaaOpen
namespace Go.Proofs.Ytpgmokfhcdibhaa.lawEfFinds
open Go.ChangeShapes Go.WideShapes Go.ChangeAt Go.RowKit
open Go.ChangeMaps (open_string shut_string)
set_option linter.unusedVariables false
set_option maxRecDepth 20000
theorem walk (w : World) (bound : Int) (hbd : -9223372036854775808 ≤ bound ∧ bound ≤ 9223372036854775807) (v : Value) (ids : List Int) (hr : Rd w w.heap.size 1 v ids.length (ids.flatMap fun x => [.int .i64 x])) (ho : ∀ x ∈ ids, -9223372036854775808 ≤ x ∧ x ≤ 9223372036854775807) (hm : ids.length ≤ maxLen)
    (i : Int) (hi : -9223372036854775808 ≤ i ∧ i ≤ 9223372036854775807) (x : Int) (hx : -9223372036854775808 ≤ x ∧ x ≤ 9223372036854775807) :
    Calls Try.prog 8 #[.int .i64 bound, v, .int .i64 i, .int .i64 x] w fun e w' => e = .returned (.bool true) ∧ Below w.heap.size w w' := by
  rw [flatMap_one] at hr
  obtain ⟨A0, c0, rfl, hc0⟩ := hr.form
  have hbo : Bor w.heap.size w [] 1 (.slice A0 ids.length c0) ids.length (ints .i64 ids) := Bor.in_ hr
  simp only [maxLen] at hm
  refine Does.law (args := [.int .i64 bound, .slice A0 ids.length c0, .int .i64 i, .int .i64 x]) ?_
  by_cases hin : 0 ≤ i ∧ i < (ids.length : Int)
  · skip
    refine fn_walk Try.func8 127 rfl rfl rfl [(0, .int .i64 bound), (1, .slice A0 ids.length c0), (2, .int .i64 i), (3, .int .i64 x)] ⟨⟨rfl, rfl⟩, ⟨rfl, rfl⟩, ⟨rfl, rfl⟩, ⟨rfl, rfl⟩, trivial⟩ ?_
    refine vc_seq ?_
    refine vc_region ?_
    refine vl_det (det_assign rfl) rfl ?_
    refine vl_end [(0, _), (1, _), (2, _), (3, _)] ⟨rfl, rfl, rfl, rfl, trivial⟩ ?_
    refine then_next ?_
    refine vc_seq ?_
    refine vc_seq ?_
    refine vc_region ?_
    refine vl_call co9 rfl (alive_d) rfl ?_
    rintro _ _ ⟨rfl, hLL⟩
    obtain rfl := hLL.symm
    refine vl_det (det_not_t rfl) rfl ?_
    refine vl_end [(0, _), (1, _), (2, _), (3, _), (24, _)] ⟨rfl, rfl, rfl, rfl, rfl, trivial⟩ ?_
    refine then_next ?_
    refine vc_cond_f rfl ?_
    refine vc_skip ?_
    refine then_next ?_
    refine vc_seq ?_
    refine vc_seq ?_
    refine vc_region ?_
    refine vl_cut 17 41 [(0, _), (1, _), (2, _), (3, _)] ((((600 : Int) < ids.length ∨ ¬ Ris bound ids) ∨ bound < 0) ∨ 20000 < bound) ⟨rfl, rfl, rfl, rfl, trivial⟩ ?_ ?_
    · skip
      refine vl_det (det_move rfl) rfl ?_
      refine vl_det (det_len_sl Try.underlying22 rfl) rfl ?_
      refine vl_det (det_gtr rfl rfl) rfl ?_
      refine vl_det (det_move rfl) rfl ?_
      refine vl_guardn rfl rfl rfl (fun h28 => ?_) (fun h28 => ?_)
      · skip
        refine vl_det (det_move rfl) rfl ?_
        refine vl_guard_t rfl rfl ?_
        refine vl_det (det_move rfl) rfl ?_
        refine vl_guard_t rfl rfl ?_
        refine vl_call co19 rfl (may_d bound ids (by first | (exact Bor.own (by repeat (first | exact List.Mem.head _ | apply List.Mem.tail))) | (repeat (first | assumption | apply Bor.cons))) (by omega)) rfl ?_
        rintro _ _ ⟨rfl, hLL⟩
        obtain rfl := hLL.symm
        refine vl_guard_t rfl rfl ?_
        refine vl_det (det_notd rfl) rfl ?_
        refine vl_det (det_pick_f rfl rfl) rfl ?_
        refine vl_det (det_move rfl) rfl ?_
        refine vl_guardn rfl rfl rfl (fun h34 => ?_) (fun h34 => ?_)
        · skip
          refine vl_det (det_move rfl) rfl ?_
          refine vl_guard_t rfl rfl ?_
          refine vl_det (det_lss rfl rfl) rfl ?_
          refine vl_det (det_pick_f rfl rfl) rfl ?_
          refine vl_det (det_move rfl) rfl ?_
          refine vl_guardn rfl rfl rfl (fun h38 => ?_) (fun h38 => ?_)
          · skip
            refine vl_det (det_move rfl) rfl ?_
            refine vl_guard_t rfl rfl ?_
            refine vl_det (det_gtr rfl rfl) rfl ?_
            refine vl_det (det_pick_f rfl rfl) rfl ?_
            exact vl_cut_end ⟨rfl, rfl, rfl, rfl, trivial⟩ (by first | rfl | exact bool_to_t (by first | exact .inl (.inl (.inl (by omega))) | exact .inl (.inl (.inr (by assumption))) | exact .inl (.inr (by omega)) | exact ⟨fun h => .inr h, fun h => by rcases h with ((h | h) | h) | h <;> first | omega | exact h | contradiction⟩) | exact bool_to_f (by first | exact .inl (.inl (.inl (by omega))) | exact .inl (.inl (.inr (by assumption))) | exact .inl (.inr (by omega)) | exact ⟨fun h => .inr h, fun h => by rcases h with ((h | h) | h) | h <;> first | omega | exact h | contradiction⟩) | exact bool_to (by first | exact .inl (.inl (.inl (by omega))) | exact .inl (.inl (.inr (by assumption))) | exact .inl (.inr (by omega)) | exact ⟨fun h => .inr h, fun h => by rcases h with ((h | h) | h) | h <;> first | omega | exact h | contradiction⟩) | exact bool_to_b (by first | exact .inl (.inl (.inl (by omega))) | exact .inl (.inl (.inr (by assumption))) | exact .inl (.inr (by omega)) | exact ⟨fun h => .inr h, fun h => by rcases h with ((h | h) | h) | h <;> first | omega | exact h | contradiction⟩))
          · skip
            refine vl_guard_f rfl rfl rfl rfl ?_
            refine vl_det (det_pick_t rfl rfl) rfl ?_
            exact vl_cut_end ⟨rfl, rfl, rfl, rfl, trivial⟩ (by first | rfl | exact bool_to_t (by first | exact .inl (.inl (.inl (by omega))) | exact .inl (.inl (.inr (by assumption))) | exact .inl (.inr (by omega)) | exact ⟨fun h => .inr h, fun h => by rcases h with ((h | h) | h) | h <;> first | omega | exact h | contradiction⟩) | exact bool_to_f (by first | exact .inl (.inl (.inl (by omega))) | exact .inl (.inl (.inr (by assumption))) | exact .inl (.inr (by omega)) | exact ⟨fun h => .inr h, fun h => by rcases h with ((h | h) | h) | h <;> first | omega | exact h | contradiction⟩) | exact bool_to (by first | exact .inl (.inl (.inl (by omega))) | exact .inl (.inl (.inr (by assumption))) | exact .inl (.inr (by omega)) | exact ⟨fun h => .inr h, fun h => by rcases h with ((h | h) | h) | h <;> first | omega | exact h | contradiction⟩) | exact bool_to_b (by first | exact .inl (.inl (.inl (by omega))) | exact .inl (.inl (.inr (by assumption))) | exact .inl (.inr (by omega)) | exact ⟨fun h => .inr h, fun h => by rcases h with ((h | h) | h) | h <;> first | omega | exact h | contradiction⟩))
        · skip
          refine vl_guard_f rfl rfl rfl rfl ?_
          refine vl_det (det_pick_t rfl rfl) rfl ?_
          refine vl_det (det_move rfl) rfl ?_
          refine vl_guard_f rfl rfl rfl rfl ?_
          refine vl_guard_f rfl rfl rfl rfl ?_
          refine vl_det (det_pick_t rfl rfl) rfl ?_
          exact vl_cut_end ⟨rfl, rfl, rfl, rfl, trivial⟩ (by first | rfl | exact bool_to_t (by first | exact .inl (.inl (.inl (by omega))) | exact .inl (.inl (.inr (by assumption))) | exact .inl (.inr (by omega)) | exact ⟨fun h => .inr h, fun h => by rcases h with ((h | h) | h) | h <;> first | omega | exact h | contradiction⟩) | exact bool_to_f (by first | exact .inl (.inl (.inl (by omega))) | exact .inl (.inl (.inr (by assumption))) | exact .inl (.inr (by omega)) | exact ⟨fun h => .inr h, fun h => by rcases h with ((h | h) | h) | h <;> first | omega | exact h | contradiction⟩) | exact bool_to (by first | exact .inl (.inl (.inl (by omega))) | exact .inl (.inl (.inr (by assumption))) | exact .inl (.inr (by omega)) | exact ⟨fun h => .inr h, fun h => by rcases h with ((h | h) | h) | h <;> first | omega | exact h | contradiction⟩) | exact bool_to_b (by first | exact .inl (.inl (.inl (by omega))) | exact .inl (.inl (.inr (by assumption))) | exact .inl (.inr (by omega)) | exact ⟨fun h => .inr h, fun h => by rcases h with ((h | h) | h) | h <;> first | omega | exact h | contradiction⟩))
      · skip
        refine vl_guard_f rfl rfl rfl rfl ?_
        refine vl_guard_f rfl rfl rfl rfl ?_
        refine vl_guard_f rfl rfl rfl rfl ?_
        refine vl_det (det_pick_t rfl rfl) rfl ?_
        refine vl_det (det_move rfl) rfl ?_
        refine vl_guard_f rfl rfl rfl rfl ?_
        refine vl_guard_f rfl rfl rfl rfl ?_
        refine vl_det (det_pick_t rfl rfl) rfl ?_
        refine vl_det (det_move rfl) rfl ?_
        refine vl_guard_f rfl rfl rfl rfl ?_
        refine vl_guard_f rfl rfl rfl rfl ?_
        refine vl_det (det_pick_t rfl rfl) rfl ?_
        exact vl_cut_end ⟨rfl, rfl, rfl, rfl, trivial⟩ (by first | rfl | exact bool_to_t (by first | exact .inl (.inl (.inl (by omega))) | exact .inl (.inl (.inr (by assumption))) | exact .inl (.inr (by omega)) | exact ⟨fun h => .inr h, fun h => by rcases h with ((h | h) | h) | h <;> first | omega | exact h | contradiction⟩) | exact bool_to_f (by first | exact .inl (.inl (.inl (by omega))) | exact .inl (.inl (.inr (by assumption))) | exact .inl (.inr (by omega)) | exact ⟨fun h => .inr h, fun h => by rcases h with ((h | h) | h) | h <;> first | omega | exact h | contradiction⟩) | exact bool_to (by first | exact .inl (.inl (.inl (by omega))) | exact .inl (.inl (.inr (by assumption))) | exact .inl (.inr (by omega)) | exact ⟨fun h => .inr h, fun h => by rcases h with ((h | h) | h) | h <;> first | omega | exact h | contradiction⟩) | exact bool_to_b (by first | exact .inl (.inl (.inl (by omega))) | exact .inl (.inl (.inr (by assumption))) | exact .inl (.inr (by omega)) | exact ⟨fun h => .inr h, fun h => by rcases h with ((h | h) | h) | h <;> first | omega | exact h | contradiction⟩))
    · skip
      refine vl_end [(0, _), (1, _), (2, _), (3, _), (41, _)] ⟨rfl, rfl, rfl, rfl, rfl, trivial⟩ ?_
      refine then_next ?_
      refine vc_decideU rfl (fun h41 => ?_) (fun h41 => ?_)
      · skip
        refine vc_seq ?_
        refine vc_region ?_
        refine vl_det (det_assign rfl) rfl ?_
        refine vl_end [(8, _)] ⟨rfl, trivial⟩ ?_
        refine then_next ?_
        refine vc_ret ?_
        refine then_ret ?_
        refine ret1 rfl rfl ?_
        rfl
      · skip
        have hR : Ris bound ids := Classical.byContradiction fun h => h41 (.inl (.inl (.inr h)))
        have h600 : ¬ (600 : Int) < ids.length := fun h => h41 (.inl (.inl (.inl h)))
        have hb0 : ¬ bound < 0 := fun h => h41 (.inl (.inr h))
        have hb2 : ¬ 20000 < bound := fun h => h41 (.inr h)
        clear h41
        obtain ⟨xs, rfl⟩ := hR.nats
        obtain ⟨b, rfl⟩ := Int.eq_ofNat_of_zero_le (show 0 ≤ bound by omega)
        have hml : (xs.map (fun (n : Nat) => (n : Int))).length = xs.length := List.length_map ..
        have hRN := (ris_iff b xs).1 hR
        have hlen := hRN.len
        have hbk := efRd_back hRN (by omega) []
        rw [List.append_nil] at hbk
        have hefl := efB_len hRN (by omega)
        have hbn : Bor w.heap.size w [] 1 (.slice A0 xs.length c0) xs.length (natv xs) := by
          have h := hbo
          rw [hml, ints_nat] at h
          exact h
        rw [hml] at hin h600 ⊢
        refine vc_skip ?_
        refine then_next ?_
        refine vc_seq ?_
        refine vc_region ?_
        refine vl_det (det_move rfl) rfl ?_
        refine vl_det (det_move rfl) rfl ?_
        refine vl_call co10 rfl (efwrite_ok (b := b) (xs := xs) (by first | (exact Bor.own (by repeat (first | exact List.Mem.head _ | apply List.Mem.tail))) | (repeat (first | assumption | apply Bor.cons))) (by omega) hRN) rfl ?_
        rintro _ _ ⟨A45, c45, rfl, hLL⟩
        obtain rfl := hLL.symm
        refine vl_det (det_move rfl) rfl ?_
        refine vl_det (det_extract rfl rfl) rfl ?_
        refine vl_det (det_extract rfl rfl) rfl ?_
        refine vl_det (det_assign rfl) rfl ?_
        refine vl_det (det_assign rfl) rfl ?_
        refine vl_end [(0, _), (1, _), (2, _), (3, _), (9, _)] ⟨rfl, rfl, rfl, rfl, rfl, trivial⟩ ?_
        refine then_next ?_
        refine vc_seq ?_
        refine vc_region ?_
        refine vl_det (det_move rfl) rfl ?_
        refine vl_det (det_move rfl) rfl ?_
        refine vl_call co17 rfl (efread_ok (by first | (exact Bor.own (by repeat (first | exact List.Mem.head _ | apply List.Mem.tail))) | (repeat (first | assumption | apply Bor.cons))) (by omega) (by omega) hbk) rfl ?_
        rintro _ _ ⟨lw, lp, g51, P51, p51, Q51, q51, hlp, hlw, rfl, hLL⟩
        obtain rfl := hLL.symm
        refine vl_det (det_move rfl) rfl ?_
        refine vl_det (det_extract rfl rfl) rfl ?_
        refine vl_det (det_extract rfl rfl) rfl ?_
        refine vl_det (det_extract rfl rfl) rfl ?_
        refine vl_det (det_assign rfl) rfl ?_
        refine vl_det (det_assign rfl) rfl ?_
        refine vl_det (det_assign rfl) rfl ?_
        refine vl_end [(1, _), (2, _), (3, _), (11, _), (13, _)] ⟨rfl, rfl, rfl, rfl, rfl, trivial⟩ ?_
        refine then_next ?_
        refine vc_seq ?_
        refine vc_seq ?_
        refine vc_region ?_
        refine vl_det (det_move rfl) rfl ?_
        refine vl_det (det_neq rfl rfl) rfl ?_
        refine vl_det (det_move rfl) rfl ?_
        refine vl_guardn rfl rfl rfl (fun h57 => ?_) (fun h57 => ?_)
        · skip
          refine vl_det (det_move rfl) rfl ?_
          refine vl_guard_t rfl rfl ?_
          refine vl_call co15 rfl (llen_d) rfl ?_
          rintro _ _ ⟨rfl, hLL⟩
          obtain rfl := hLL.symm
          refine vl_guard_t rfl rfl ?_
          refine vl_det (det_move rfl) rfl ?_
          refine vl_guard_t rfl rfl ?_
          refine vl_det (det_len_sl Try.underlying22 rfl) rfl ?_
          refine vl_guard_t rfl rfl ?_
          refine vl_det (det_neq rfl rfl) rfl ?_
          refine vl_det (det_pick_f rfl rfl) rfl ?_
          refine vl_end [(1, _), (2, _), (3, _), (11, _), (63, _)] ⟨rfl, rfl, rfl, rfl, rfl, trivial⟩ ?_
          refine then_next ?_
          refine vc_decideU rfl (fun h63 => ?_) (fun h63 => ?_)
          · skip
            exfalso; exact h63 rfl
          · skip
            refine vc_skip ?_
            refine then_next ?_
            refine vc_seq ?_
            refine vc_region ?_
            refine vl_det (det_move rfl) rfl ?_
            refine vl_det (det_move rfl) rfl ?_
            refine vl_call co13 rfl (lat_d hlp hlw (hRN.le (by omega)) i) rfl ?_
            rintro _ _ ⟨rfl, hLL⟩
            obtain rfl := hLL.symm
            refine vl_det (det_move rfl) rfl ?_
            refine vl_det (det_extract rfl rfl) rfl ?_
            refine vl_det (det_extract rfl rfl) rfl ?_
            refine vl_det (det_assign rfl) rfl ?_
            refine vl_det (det_assign rfl) rfl ?_
            refine vl_end [(1, _), (2, _), (3, _), (11, _), (14, _), (15, _)] ⟨rfl, rfl, rfl, rfl, rfl, rfl, trivial⟩ ?_
            refine then_next ?_
            refine vc_seq ?_
            refine vc_region ?_
            refine vl_cut 8 77 [(1, _), (2, _), (3, _), (11, _), (14, _), (15, _)] (0 ≤ i ∧ i < (xs.length : Int)) ⟨rfl, rfl, rfl, rfl, rfl, rfl, trivial⟩ ?_ ?_
            · skip
              refine vl_det (det_move rfl) rfl ?_
              refine vl_det (det_geq rfl rfl) rfl ?_
              refine vl_det (det_move rfl) rfl ?_
              refine vl_guardp rfl rfl rfl (fun h72 => ?_) (fun h72 => ?_)
              · skip
                refine vl_det (det_move rfl) rfl ?_
                refine vl_guard_t rfl rfl ?_
                refine vl_det (det_move rfl) rfl ?_
                refine vl_guard_t rfl rfl ?_
                refine vl_det (det_len_sl Try.underlying22 rfl) rfl ?_
                refine vl_guard_t rfl rfl ?_
                refine vl_det (det_lss rfl rfl) rfl ?_
                refine vl_det (det_pick_t rfl rfl) rfl ?_
                exact vl_cut_end ⟨rfl, rfl, rfl, rfl, rfl, rfl, trivial⟩ (by first | rfl | exact bool_to_t (by first | omega | simp_all) | exact bool_to_f (by first | omega | simp_all) | exact bool_to (by first | omega | simp_all) | exact bool_to_b (by first | omega | simp_all))
              · skip
                refine vl_guard_f rfl rfl rfl rfl ?_
                refine vl_guard_f rfl rfl rfl rfl ?_
                refine vl_guard_f rfl rfl rfl rfl ?_
                refine vl_det (det_pick_f rfl rfl) rfl ?_
                exact vl_cut_end ⟨rfl, rfl, rfl, rfl, rfl, rfl, trivial⟩ (by first | rfl | exact bool_to_t (by first | omega | simp_all) | exact bool_to_f (by first | omega | simp_all) | exact bool_to (by first | omega | simp_all) | exact bool_to_b (by first | omega | simp_all))
            · skip
              refine vl_det (det_assign rfl) rfl ?_
              refine vl_end [(1, _), (2, _), (3, _), (11, _), (14, _), (15, _), (16, _)] ⟨rfl, rfl, rfl, rfl, rfl, rfl, rfl, trivial⟩ ?_
              refine then_next ?_
              refine vc_seq ?_
              refine vc_seq ?_
              refine vc_region ?_
              refine vl_det (det_move rfl) rfl ?_
              refine vl_det (det_move rfl) rfl ?_
              refine vl_det (det_bool_neq Try.underlying4 rfl rfl) rfl ?_
              refine vl_det (det_move rfl) rfl ?_
              refine vl_guardn rfl rfl rfl (fun h81 => ?_) (fun h81 => ?_)
              · skip
                refine vl_det (det_move rfl) rfl ?_
                refine vl_guard_t rfl rfl ?_
                refine vl_det (det_notd rfl) rfl ?_
                refine vl_guard_t rfl rfl ?_
                refine vl_det (det_move rfl) rfl ?_
                refine vl_guardp rfl rfl rfl (fun h84 => ?_) (fun h84 => ?_)
                · skip
                  exfalso; exact h84 hin
                · skip
                  refine vl_guard_f rfl rfl rfl rfl ?_
                  refine vl_guard_t rfl rfl ?_
                  refine vl_det (det_pick_f rfl rfl) rfl ?_
                  refine vl_det (det_pick_f rfl rfl) rfl ?_
                  refine vl_det (det_move rfl) rfl ?_
                  refine vl_guard_t rfl rfl ?_
                  refine vl_det (det_move rfl) rfl ?_
                  refine vl_guard_t rfl rfl ?_
                  refine vl_det (det_move rfl) rfl ?_
                  refine vl_guardp rfl rfl rfl (fun h91 => ?_) (fun h91 => ?_)
                  · skip
                    obtain ⟨m, rfl⟩ := Int.eq_ofNat_of_zero_le hin.1
                    refine vl_det (det_move rfl) rfl ?_
                    refine vl_guard_t rfl rfl ?_
                    refine vl_det (det_move rfl) rfl ?_
                    refine vl_guard_t rfl rfl ?_
                    refine vl_det (det_move rfl) rfl ?_
                    refine vl_guard_t rfl rfl ?_
                    refine vl_det (det_indexAddr (size := 1) Try.underlying22 (by kernel_rfl) rfl rfl rfl (by omega) (by first | (exact Bor.own (by repeat (first | exact List.Mem.head _ | apply List.Mem.tail))) | (repeat (first | assumption | apply Bor.cons)))) rfl ?_
                    refine vl_guard_t rfl rfl ?_
                    refine vl_det (det_load_row (v := .int .i64 (xs.getD m 0 : Nat)) (by kernel_rfl) rfl (by first | (exact Bor.own (by repeat (first | exact List.Mem.head _ | apply List.Mem.tail))) | (repeat (first | assumption | apply Bor.cons))) (by omega) (by simp [natv, List.getD, List.getElem?_eq_getElem (show m < xs.length by omega)])) rfl ?_
                    refine vl_guard_t rfl rfl ?_
                    refine vl_det (det_neq rfl rfl) rfl ?_
                    refine vl_guard_t rfl rfl ?_
                    refine vl_det (det_pick_t rfl rfl) rfl ?_
                    refine vl_det (det_pick_f rfl rfl) rfl ?_
                    refine vl_end [(1, _), (3, _), (11, _), (99, _)] ⟨rfl, rfl, rfl, rfl, trivial⟩ ?_
                    refine then_next ?_
                    refine vc_decideU rfl (fun h99 => ?_) (fun h99 => ?_)
                    · skip
                      exfalso; exact h99 (by rw [if_pos hin, Int.toNat_natCast])
                    · skip
                      refine vc_skip ?_
                      refine then_next ?_
                      refine vc_seq ?_
                      refine vc_region ?_
                      refine vl_det (det_move rfl) rfl ?_
                      refine vl_det (det_move rfl) rfl ?_
                      refine vl_call co14 rfl (lnext_d hlp hlw hRN (by omega) x) rfl ?_
                      rintro _ _ ⟨k, hK, rfl, hLL⟩
                      obtain rfl := hLL.symm
                      refine vl_det (det_move rfl) rfl ?_
                      refine vl_det (det_extract rfl rfl) rfl ?_
                      refine vl_det (det_extract rfl rfl) rfl ?_
                      refine vl_det (det_extract rfl rfl) rfl ?_
                      refine vl_det (det_assign rfl) rfl ?_
                      refine vl_det (det_assign rfl) rfl ?_
                      refine vl_det (det_assign rfl) rfl ?_
                      refine vl_end [(1, _), (3, _), (17, _), (18, _), (19, _)] ⟨rfl, rfl, rfl, rfl, rfl, trivial⟩ ?_
                      refine then_next ?_
                      refine vc_seq ?_
                      refine vc_region ?_
                      refine vl_det (det_move rfl) rfl ?_
                      refine vl_det (det_move rfl) rfl ?_
                      refine vl_call co20 rfl (rnext_d (xs := xs) (by first | (exact Bor.own (by repeat (first | exact List.Mem.head _ | apply List.Mem.tail))) | (repeat (first | assumption | apply Bor.cons))) (by omega) hK) rfl ?_
                      rintro _ _ ⟨rfl, hLL⟩
                      obtain rfl := hLL.symm
                      refine vl_det (det_move rfl) rfl ?_
                      refine vl_det (det_extract rfl rfl) rfl ?_
                      refine vl_det (det_extract rfl rfl) rfl ?_
                      refine vl_det (det_extract rfl rfl) rfl ?_
                      refine vl_det (det_assign rfl) rfl ?_
                      refine vl_det (det_assign rfl) rfl ?_
                      refine vl_det (det_assign rfl) rfl ?_
                      refine vl_end [(17, _), (18, _), (19, _), (20, _), (21, _), (22, _)] ⟨rfl, rfl, rfl, rfl, rfl, rfl, trivial⟩ ?_
                      refine then_next ?_
                      refine vc_seq ?_
                      refine vc_region ?_
                      refine vl_det (det_move rfl) rfl ?_
                      refine vl_det (det_move rfl) rfl ?_
                      refine vl_det (det_eql rfl rfl) rfl ?_
                      refine vl_det (det_move rfl) rfl ?_
                      refine vl_guardp rfl rfl rfl (fun h117 => ?_) (fun h117 => ?_)
                      · skip
                        refine vl_det (det_move rfl) rfl ?_
                        refine vl_guard_t rfl rfl ?_
                        refine vl_det (det_move rfl) rfl ?_
                        refine vl_guard_t rfl rfl ?_
                        refine vl_det (det_eql rfl rfl) rfl ?_
                        refine vl_det (det_pick_t rfl rfl) rfl ?_
                        refine vl_det (det_move rfl) rfl ?_
                        refine vl_guardp rfl rfl rfl (fun h122 => ?_) (fun h122 => ?_)
                        · skip
                          refine vl_det (det_move rfl) rfl ?_
                          refine vl_guard_t rfl rfl ?_
                          refine vl_det (det_move rfl) rfl ?_
                          refine vl_guard_t rfl rfl ?_
                          refine vl_det (det_bool_eql Try.underlying4 rfl rfl) rfl ?_
                          refine vl_det (det_pick_t rfl rfl) rfl ?_
                          refine vl_det (det_assign rfl) rfl ?_
                          refine vl_end [(8, _)] ⟨rfl, trivial⟩ ?_
                          refine then_next ?_
                          refine vc_ret ?_
                          refine ret_wk (L' := []) (by unfold Rl Pt; repeat (first | exact Wk.refl _ | apply Wk.skip)) ?_
                          refine ret1 rfl rfl ?_
                          rw [decide_eq_true rfl]
                        · skip
                          exfalso; exact h122 rfl
                      · skip
                        exfalso; exact h117 rfl
                  · skip
                    exfalso; exact h91 hin
              · skip
                exfalso; exact h81 rfl
        · skip
          exfalso; exact h57 rfl
  · skip
    refine fn_walk Try.func8 127 rfl rfl rfl [(0, .int .i64 bound), (1, .slice A0 ids.length c0), (2, .int .i64 i), (3, .int .i64 x)] ⟨⟨rfl, rfl⟩, ⟨rfl, rfl⟩, ⟨rfl, rfl⟩, ⟨rfl, rfl⟩, trivial⟩ ?_
    refine vc_seq ?_
    refine vc_region ?_
    refine vl_det (det_assign rfl) rfl ?_
    refine vl_end [(0, _), (1, _), (2, _), (3, _)] ⟨rfl, rfl, rfl, rfl, trivial⟩ ?_
    refine then_next ?_
    refine vc_seq ?_
    refine vc_seq ?_
    refine vc_region ?_
    refine vl_call co9 rfl (alive_d) rfl ?_
    rintro _ _ ⟨rfl, hLL⟩
    obtain rfl := hLL.symm
    refine vl_det (det_not_t rfl) rfl ?_
    refine vl_end [(0, _), (1, _), (2, _), (3, _), (24, _)] ⟨rfl, rfl, rfl, rfl, rfl, trivial⟩ ?_
    refine then_next ?_
    refine vc_cond_f rfl ?_
    refine vc_skip ?_
    refine then_next ?_
    refine vc_seq ?_
    refine vc_seq ?_
    refine vc_region ?_
    refine vl_cut 17 41 [(0, _), (1, _), (2, _), (3, _)] ((((600 : Int) < ids.length ∨ ¬ Ris bound ids) ∨ bound < 0) ∨ 20000 < bound) ⟨rfl, rfl, rfl, rfl, trivial⟩ ?_ ?_
    · skip
      refine vl_det (det_move rfl) rfl ?_
      refine vl_det (det_len_sl Try.underlying22 rfl) rfl ?_
      refine vl_det (det_gtr rfl rfl) rfl ?_
      refine vl_det (det_move rfl) rfl ?_
      refine vl_guardn rfl rfl rfl (fun h28 => ?_) (fun h28 => ?_)
      · skip
        refine vl_det (det_move rfl) rfl ?_
        refine vl_guard_t rfl rfl ?_
        refine vl_det (det_move rfl) rfl ?_
        refine vl_guard_t rfl rfl ?_
        refine vl_call co19 rfl (may_d bound ids (by first | (exact Bor.own (by repeat (first | exact List.Mem.head _ | apply List.Mem.tail))) | (repeat (first | assumption | apply Bor.cons))) (by omega)) rfl ?_
        rintro _ _ ⟨rfl, hLL⟩
        obtain rfl := hLL.symm
        refine vl_guard_t rfl rfl ?_
        refine vl_det (det_notd rfl) rfl ?_
        refine vl_det (det_pick_f rfl rfl) rfl ?_
        refine vl_det (det_move rfl) rfl ?_
        refine vl_guardn rfl rfl rfl (fun h34 => ?_) (fun h34 => ?_)
        · skip
          refine vl_det (det_move rfl) rfl ?_
          refine vl_guard_t rfl rfl ?_
          refine vl_det (det_lss rfl rfl) rfl ?_
          refine vl_det (det_pick_f rfl rfl) rfl ?_
          refine vl_det (det_move rfl) rfl ?_
          refine vl_guardn rfl rfl rfl (fun h38 => ?_) (fun h38 => ?_)
          · skip
            refine vl_det (det_move rfl) rfl ?_
            refine vl_guard_t rfl rfl ?_
            refine vl_det (det_gtr rfl rfl) rfl ?_
            refine vl_det (det_pick_f rfl rfl) rfl ?_
            exact vl_cut_end ⟨rfl, rfl, rfl, rfl, trivial⟩ (by first | rfl | exact bool_to_t (by first | exact .inl (.inl (.inl (by omega))) | exact .inl (.inl (.inr (by assumption))) | exact .inl (.inr (by omega)) | exact ⟨fun h => .inr h, fun h => by rcases h with ((h | h) | h) | h <;> first | omega | exact h | contradiction⟩) | exact bool_to_f (by first | exact .inl (.inl (.inl (by omega))) | exact .inl (.inl (.inr (by assumption))) | exact .inl (.inr (by omega)) | exact ⟨fun h => .inr h, fun h => by rcases h with ((h | h) | h) | h <;> first | omega | exact h | contradiction⟩) | exact bool_to (by first | exact .inl (.inl (.inl (by omega))) | exact .inl (.inl (.inr (by assumption))) | exact .inl (.inr (by omega)) | exact ⟨fun h => .inr h, fun h => by rcases h with ((h | h) | h) | h <;> first | omega | exact h | contradiction⟩) | exact bool_to_b (by first | exact .inl (.inl (.inl (by omega))) | exact .inl (.inl (.inr (by assumption))) | exact .inl (.inr (by omega)) | exact ⟨fun h => .inr h, fun h => by rcases h with ((h | h) | h) | h <;> first | omega | exact h | contradiction⟩))
          · skip
            refine vl_guard_f rfl rfl rfl rfl ?_
            refine vl_det (det_pick_t rfl rfl) rfl ?_
            exact vl_cut_end ⟨rfl, rfl, rfl, rfl, trivial⟩ (by first | rfl | exact bool_to_t (by first | exact .inl (.inl (.inl (by omega))) | exact .inl (.inl (.inr (by assumption))) | exact .inl (.inr (by omega)) | exact ⟨fun h => .inr h, fun h => by rcases h with ((h | h) | h) | h <;> first | omega | exact h | contradiction⟩) | exact bool_to_f (by first | exact .inl (.inl (.inl (by omega))) | exact .inl (.inl (.inr (by assumption))) | exact .inl (.inr (by omega)) | exact ⟨fun h => .inr h, fun h => by rcases h with ((h | h) | h) | h <;> first | omega | exact h | contradiction⟩) | exact bool_to (by first | exact .inl (.inl (.inl (by omega))) | exact .inl (.inl (.inr (by assumption))) | exact .inl (.inr (by omega)) | exact ⟨fun h => .inr h, fun h => by rcases h with ((h | h) | h) | h <;> first | omega | exact h | contradiction⟩) | exact bool_to_b (by first | exact .inl (.inl (.inl (by omega))) | exact .inl (.inl (.inr (by assumption))) | exact .inl (.inr (by omega)) | exact ⟨fun h => .inr h, fun h => by rcases h with ((h | h) | h) | h <;> first | omega | exact h | contradiction⟩))
        · skip
          refine vl_guard_f rfl rfl rfl rfl ?_
          refine vl_det (det_pick_t rfl rfl) rfl ?_
          refine vl_det (det_move rfl) rfl ?_
          refine vl_guard_f rfl rfl rfl rfl ?_
          refine vl_guard_f rfl rfl rfl rfl ?_
          refine vl_det (det_pick_t rfl rfl) rfl ?_
          exact vl_cut_end ⟨rfl, rfl, rfl, rfl, trivial⟩ (by first | rfl | exact bool_to_t (by first | exact .inl (.inl (.inl (by omega))) | exact .inl (.inl (.inr (by assumption))) | exact .inl (.inr (by omega)) | exact ⟨fun h => .inr h, fun h => by rcases h with ((h | h) | h) | h <;> first | omega | exact h | contradiction⟩) | exact bool_to_f (by first | exact .inl (.inl (.inl (by omega))) | exact .inl (.inl (.inr (by assumption))) | exact .inl (.inr (by omega)) | exact ⟨fun h => .inr h, fun h => by rcases h with ((h | h) | h) | h <;> first | omega | exact h | contradiction⟩) | exact bool_to (by first | exact .inl (.inl (.inl (by omega))) | exact .inl (.inl (.inr (by assumption))) | exact .inl (.inr (by omega)) | exact ⟨fun h => .inr h, fun h => by rcases h with ((h | h) | h) | h <;> first | omega | exact h | contradiction⟩) | exact bool_to_b (by first | exact .inl (.inl (.inl (by omega))) | exact .inl (.inl (.inr (by assumption))) | exact .inl (.inr (by omega)) | exact ⟨fun h => .inr h, fun h => by rcases h with ((h | h) | h) | h <;> first | omega | exact h | contradiction⟩))
      · skip
        refine vl_guard_f rfl rfl rfl rfl ?_
        refine vl_guard_f rfl rfl rfl rfl ?_
        refine vl_guard_f rfl rfl rfl rfl ?_
        refine vl_det (det_pick_t rfl rfl) rfl ?_
        refine vl_det (det_move rfl) rfl ?_
        refine vl_guard_f rfl rfl rfl rfl ?_
        refine vl_guard_f rfl rfl rfl rfl ?_
        refine vl_det (det_pick_t rfl rfl) rfl ?_
        refine vl_det (det_move rfl) rfl ?_
        refine vl_guard_f rfl rfl rfl rfl ?_
        refine vl_guard_f rfl rfl rfl rfl ?_
        refine vl_det (det_pick_t rfl rfl) rfl ?_
        exact vl_cut_end ⟨rfl, rfl, rfl, rfl, trivial⟩ (by first | rfl | exact bool_to_t (by first | exact .inl (.inl (.inl (by omega))) | exact .inl (.inl (.inr (by assumption))) | exact .inl (.inr (by omega)) | exact ⟨fun h => .inr h, fun h => by rcases h with ((h | h) | h) | h <;> first | omega | exact h | contradiction⟩) | exact bool_to_f (by first | exact .inl (.inl (.inl (by omega))) | exact .inl (.inl (.inr (by assumption))) | exact .inl (.inr (by omega)) | exact ⟨fun h => .inr h, fun h => by rcases h with ((h | h) | h) | h <;> first | omega | exact h | contradiction⟩) | exact bool_to (by first | exact .inl (.inl (.inl (by omega))) | exact .inl (.inl (.inr (by assumption))) | exact .inl (.inr (by omega)) | exact ⟨fun h => .inr h, fun h => by rcases h with ((h | h) | h) | h <;> first | omega | exact h | contradiction⟩) | exact bool_to_b (by first | exact .inl (.inl (.inl (by omega))) | exact .inl (.inl (.inr (by assumption))) | exact .inl (.inr (by omega)) | exact ⟨fun h => .inr h, fun h => by rcases h with ((h | h) | h) | h <;> first | omega | exact h | contradiction⟩))
    · skip
      refine vl_end [(0, _), (1, _), (2, _), (3, _), (41, _)] ⟨rfl, rfl, rfl, rfl, rfl, trivial⟩ ?_
      refine then_next ?_
      refine vc_decideU rfl (fun h41 => ?_) (fun h41 => ?_)
      · skip
        refine vc_seq ?_
        refine vc_region ?_
        refine vl_det (det_assign rfl) rfl ?_
        refine vl_end [(8, _)] ⟨rfl, trivial⟩ ?_
        refine then_next ?_
        refine vc_ret ?_
        refine then_ret ?_
        refine ret1 rfl rfl ?_
        rfl
      · skip
        have hR : Ris bound ids := Classical.byContradiction fun h => h41 (.inl (.inl (.inr h)))
        have h600 : ¬ (600 : Int) < ids.length := fun h => h41 (.inl (.inl (.inl h)))
        have hb0 : ¬ bound < 0 := fun h => h41 (.inl (.inr h))
        have hb2 : ¬ 20000 < bound := fun h => h41 (.inr h)
        clear h41
        obtain ⟨xs, rfl⟩ := hR.nats
        obtain ⟨b, rfl⟩ := Int.eq_ofNat_of_zero_le (show 0 ≤ bound by omega)
        have hml : (xs.map (fun (n : Nat) => (n : Int))).length = xs.length := List.length_map ..
        have hRN := (ris_iff b xs).1 hR
        have hlen := hRN.len
        have hbk := efRd_back hRN (by omega) []
        rw [List.append_nil] at hbk
        have hefl := efB_len hRN (by omega)
        have hbn : Bor w.heap.size w [] 1 (.slice A0 xs.length c0) xs.length (natv xs) := by
          have h := hbo
          rw [hml, ints_nat] at h
          exact h
        rw [hml] at hin h600 ⊢
        refine vc_skip ?_
        refine then_next ?_
        refine vc_seq ?_
        refine vc_region ?_
        refine vl_det (det_move rfl) rfl ?_
        refine vl_det (det_move rfl) rfl ?_
        refine vl_call co10 rfl (efwrite_ok (b := b) (xs := xs) (by first | (exact Bor.own (by repeat (first | exact List.Mem.head _ | apply List.Mem.tail))) | (repeat (first | assumption | apply Bor.cons))) (by omega) hRN) rfl ?_
        rintro _ _ ⟨A45, c45, rfl, hLL⟩
        obtain rfl := hLL.symm
        refine vl_det (det_move rfl) rfl ?_
        refine vl_det (det_extract rfl rfl) rfl ?_
        refine vl_det (det_extract rfl rfl) rfl ?_
        refine vl_det (det_assign rfl) rfl ?_
        refine vl_det (det_assign rfl) rfl ?_
        refine vl_end [(0, _), (1, _), (2, _), (3, _), (9, _)] ⟨rfl, rfl, rfl, rfl, rfl, trivial⟩ ?_
        refine then_next ?_
        refine vc_seq ?_
        refine vc_region ?_
        refine vl_det (det_move rfl) rfl ?_
        refine vl_det (det_move rfl) rfl ?_
        refine vl_call co17 rfl (efread_ok (by first | (exact Bor.own (by repeat (first | exact List.Mem.head _ | apply List.Mem.tail))) | (repeat (first | assumption | apply Bor.cons))) (by omega) (by omega) hbk) rfl ?_
        rintro _ _ ⟨lw, lp, g51, P51, p51, Q51, q51, hlp, hlw, rfl, hLL⟩
        obtain rfl := hLL.symm
        refine vl_det (det_move rfl) rfl ?_
        refine vl_det (det_extract rfl rfl) rfl ?_
        refine vl_det (det_extract rfl rfl) rfl ?_
        refine vl_det (det_extract rfl rfl) rfl ?_
        refine vl_det (det_assign rfl) rfl ?_
        refine vl_det (det_assign rfl) rfl ?_
        refine vl_det (det_assign rfl) rfl ?_
        refine vl_end [(1, _), (2, _), (3, _), (11, _), (13, _)] ⟨rfl, rfl, rfl, rfl, rfl, trivial⟩ ?_
        refine then_next ?_
        refine vc_seq ?_
        refine vc_seq ?_
        refine vc_region ?_
        refine vl_det (det_move rfl) rfl ?_
        refine vl_det (det_neq rfl rfl) rfl ?_
        refine vl_det (det_move rfl) rfl ?_
        refine vl_guardn rfl rfl rfl (fun h57 => ?_) (fun h57 => ?_)
        · skip
          refine vl_det (det_move rfl) rfl ?_
          refine vl_guard_t rfl rfl ?_
          refine vl_call co15 rfl (llen_d) rfl ?_
          rintro _ _ ⟨rfl, hLL⟩
          obtain rfl := hLL.symm
          refine vl_guard_t rfl rfl ?_
          refine vl_det (det_move rfl) rfl ?_
          refine vl_guard_t rfl rfl ?_
          refine vl_det (det_len_sl Try.underlying22 rfl) rfl ?_
          refine vl_guard_t rfl rfl ?_
          refine vl_det (det_neq rfl rfl) rfl ?_
          refine vl_det (det_pick_f rfl rfl) rfl ?_
          refine vl_end [(1, _), (2, _), (3, _), (11, _), (63, _)] ⟨rfl, rfl, rfl, rfl, rfl, trivial⟩ ?_
          refine then_next ?_
          refine vc_decideU rfl (fun h63 => ?_) (fun h63 => ?_)
          · skip
            exfalso; exact h63 rfl
          · skip
            refine vc_skip ?_
            refine then_next ?_
            refine vc_seq ?_
            refine vc_region ?_
            refine vl_det (det_move rfl) rfl ?_
            refine vl_det (det_move rfl) rfl ?_
            refine vl_call co13 rfl (lat_d hlp hlw (hRN.le (by omega)) i) rfl ?_
            rintro _ _ ⟨rfl, hLL⟩
            obtain rfl := hLL.symm
            refine vl_det (det_move rfl) rfl ?_
            refine vl_det (det_extract rfl rfl) rfl ?_
            refine vl_det (det_extract rfl rfl) rfl ?_
            refine vl_det (det_assign rfl) rfl ?_
            refine vl_det (det_assign rfl) rfl ?_
            refine vl_end [(1, _), (2, _), (3, _), (11, _), (14, _), (15, _)] ⟨rfl, rfl, rfl, rfl, rfl, rfl, trivial⟩ ?_
            refine then_next ?_
            refine vc_seq ?_
            refine vc_region ?_
            refine vl_cut 8 77 [(1, _), (2, _), (3, _), (11, _), (14, _), (15, _)] (0 ≤ i ∧ i < (xs.length : Int)) ⟨rfl, rfl, rfl, rfl, rfl, rfl, trivial⟩ ?_ ?_
            · skip
              refine vl_det (det_move rfl) rfl ?_
              refine vl_det (det_geq rfl rfl) rfl ?_
              refine vl_det (det_move rfl) rfl ?_
              refine vl_guardp rfl rfl rfl (fun h72 => ?_) (fun h72 => ?_)
              · skip
                refine vl_det (det_move rfl) rfl ?_
                refine vl_guard_t rfl rfl ?_
                refine vl_det (det_move rfl) rfl ?_
                refine vl_guard_t rfl rfl ?_
                refine vl_det (det_len_sl Try.underlying22 rfl) rfl ?_
                refine vl_guard_t rfl rfl ?_
                refine vl_det (det_lss rfl rfl) rfl ?_
                refine vl_det (det_pick_t rfl rfl) rfl ?_
                exact vl_cut_end ⟨rfl, rfl, rfl, rfl, rfl, rfl, trivial⟩ (by first | rfl | exact bool_to_t (by first | omega | simp_all) | exact bool_to_f (by first | omega | simp_all) | exact bool_to (by first | omega | simp_all) | exact bool_to_b (by first | omega | simp_all))
              · skip
                refine vl_guard_f rfl rfl rfl rfl ?_
                refine vl_guard_f rfl rfl rfl rfl ?_
                refine vl_guard_f rfl rfl rfl rfl ?_
                refine vl_det (det_pick_f rfl rfl) rfl ?_
                exact vl_cut_end ⟨rfl, rfl, rfl, rfl, rfl, rfl, trivial⟩ (by first | rfl | exact bool_to_t (by first | omega | simp_all) | exact bool_to_f (by first | omega | simp_all) | exact bool_to (by first | omega | simp_all) | exact bool_to_b (by first | omega | simp_all))
            · skip
              refine vl_det (det_assign rfl) rfl ?_
              refine vl_end [(1, _), (2, _), (3, _), (11, _), (14, _), (15, _), (16, _)] ⟨rfl, rfl, rfl, rfl, rfl, rfl, rfl, trivial⟩ ?_
              refine then_next ?_
              refine vc_seq ?_
              refine vc_seq ?_
              refine vc_region ?_
              refine vl_det (det_move rfl) rfl ?_
              refine vl_det (det_move rfl) rfl ?_
              refine vl_det (det_bool_neq Try.underlying4 rfl rfl) rfl ?_
              refine vl_det (det_move rfl) rfl ?_
              refine vl_guardn rfl rfl rfl (fun h81 => ?_) (fun h81 => ?_)
              · skip
                refine vl_det (det_move rfl) rfl ?_
                refine vl_guard_t rfl rfl ?_
                refine vl_det (det_notd rfl) rfl ?_
                refine vl_guard_t rfl rfl ?_
                refine vl_det (det_move rfl) rfl ?_
                refine vl_guardp rfl rfl rfl (fun h84 => ?_) (fun h84 => ?_)
                · skip
                  refine vl_det (det_move rfl) rfl ?_
                  refine vl_guard_t rfl rfl ?_
                  refine vl_det (det_neq rfl rfl) rfl ?_
                  refine vl_guard_t rfl rfl ?_
                  refine vl_det (det_pick_t rfl rfl) rfl ?_
                  refine vl_det (det_pick_f rfl rfl) rfl ?_
                  refine vl_det (det_move rfl) rfl ?_
                  refine vl_guardn rfl rfl rfl (fun h89 => ?_) (fun h89 => ?_)
                  · skip
                    refine vl_det (det_move rfl) rfl ?_
                    refine vl_guard_t rfl rfl ?_
                    refine vl_det (det_move rfl) rfl ?_
                    refine vl_guardp rfl rfl rfl (fun h91 => ?_) (fun h91 => ?_)
                    · skip
                      exfalso; exact hin h91
                    · skip
                      refine vl_guard_f rfl rfl rfl rfl ?_
                      refine vl_guard_f rfl rfl rfl rfl ?_
                      refine vl_guard_f rfl rfl rfl rfl ?_
                      refine vl_guard_f rfl rfl rfl rfl ?_
                      refine vl_guard_f rfl rfl rfl rfl ?_
                      refine vl_guard_t rfl rfl ?_
                      refine vl_det (det_pick_f rfl rfl) rfl ?_
                      refine vl_det (det_pick_f rfl rfl) rfl ?_
                      refine vl_end [(1, _), (3, _), (11, _), (99, _)] ⟨rfl, rfl, rfl, rfl, trivial⟩ ?_
                      refine then_next ?_
                      refine vc_cond_f rfl ?_
                      refine vc_skip ?_
                      refine then_next ?_
                      refine vc_seq ?_
                      refine vc_region ?_
                      refine vl_det (det_move rfl) rfl ?_
                      refine vl_det (det_move rfl) rfl ?_
                      refine vl_call co14 rfl (lnext_d hlp hlw hRN (by omega) x) rfl ?_
                      rintro _ _ ⟨k, hK, rfl, hLL⟩
                      obtain rfl := hLL.symm
                      refine vl_det (det_move rfl) rfl ?_
                      refine vl_det (det_extract rfl rfl) rfl ?_
                      refine vl_det (det_extract rfl rfl) rfl ?_
                      refine vl_det (det_extract rfl rfl) rfl ?_
                      refine vl_det (det_assign rfl) rfl ?_
                      refine vl_det (det_assign rfl) rfl ?_
                      refine vl_det (det_assign rfl) rfl ?_
                      refine vl_end [(1, _), (3, _), (17, _), (18, _), (19, _)] ⟨rfl, rfl, rfl, rfl, rfl, trivial⟩ ?_
                      refine then_next ?_
                      refine vc_seq ?_
                      refine vc_region ?_
                      refine vl_det (det_move rfl) rfl ?_
                      refine vl_det (det_move rfl) rfl ?_
                      refine vl_call co20 rfl (rnext_d (xs := xs) (by first | (exact Bor.own (by repeat (first | exact List.Mem.head _ | apply List.Mem.tail))) | (repeat (first | assumption | apply Bor.cons))) (by omega) hK) rfl ?_
                      rintro _ _ ⟨rfl, hLL⟩
                      obtain rfl := hLL.symm
                      refine vl_det (det_move rfl) rfl ?_
                      refine vl_det (det_extract rfl rfl) rfl ?_
                      refine vl_det (det_extract rfl rfl) rfl ?_
                      refine vl_det (det_extract rfl rfl) rfl ?_
                      refine vl_det (det_assign rfl) rfl ?_
                      refine vl_det (det_assign rfl) rfl ?_
                      refine vl_det (det_assign rfl) rfl ?_
                      refine vl_end [(17, _), (18, _), (19, _), (20, _), (21, _), (22, _)] ⟨rfl, rfl, rfl, rfl, rfl, rfl, trivial⟩ ?_
                      refine then_next ?_
                      refine vc_seq ?_
                      refine vc_region ?_
                      refine vl_det (det_move rfl) rfl ?_
                      refine vl_det (det_move rfl) rfl ?_
                      refine vl_det (det_eql rfl rfl) rfl ?_
                      refine vl_det (det_move rfl) rfl ?_
                      refine vl_guardp rfl rfl rfl (fun h117 => ?_) (fun h117 => ?_)
                      · skip
                        refine vl_det (det_move rfl) rfl ?_
                        refine vl_guard_t rfl rfl ?_
                        refine vl_det (det_move rfl) rfl ?_
                        refine vl_guard_t rfl rfl ?_
                        refine vl_det (det_eql rfl rfl) rfl ?_
                        refine vl_det (det_pick_t rfl rfl) rfl ?_
                        refine vl_det (det_move rfl) rfl ?_
                        refine vl_guardp rfl rfl rfl (fun h122 => ?_) (fun h122 => ?_)
                        · skip
                          refine vl_det (det_move rfl) rfl ?_
                          refine vl_guard_t rfl rfl ?_
                          refine vl_det (det_move rfl) rfl ?_
                          refine vl_guard_t rfl rfl ?_
                          refine vl_det (det_bool_eql Try.underlying4 rfl rfl) rfl ?_
                          refine vl_det (det_pick_t rfl rfl) rfl ?_
                          refine vl_det (det_assign rfl) rfl ?_
                          refine vl_end [(8, _)] ⟨rfl, trivial⟩ ?_
                          refine then_next ?_
                          refine vc_ret ?_
                          refine ret_wk (L' := []) (by unfold Rl Pt; repeat (first | exact Wk.refl _ | apply Wk.skip)) ?_
                          refine ret1 rfl rfl ?_
                          rw [decide_eq_true rfl]
                        · skip
                          exfalso; exact h122 rfl
                      · skip
                        exfalso; exact h117 rfl
                  · skip
                    exfalso; exact h89 (by rw [if_neg hin]; rfl)
                · skip
                  exfalso; exact h84 hin
              · skip
                exfalso; exact h81 rfl
        · skip
          exfalso; exact h57 rfl
theorem own : ownKnob Try.prog.godebug = none := by kernel_rfl
theorem laidOut : laidOutB Try.prog = true := by kernel_rfl
set_option maxRecDepth 100000 in
theorem lifted (os : Os) (started : os.Started) (H : Type) (enc : TypeId × Value → H) :
    ReturnsInHanded {} Try.checked os 8 .any (Rows.efFindsSpec.pre6 enc Try.prog Try.f8 Rows.efFindsRow.domain false) (Rows.efFindsSpec.post enc Try.prog Try.f8 false true false false) := by
  refine returnsInHanded_of_change (C := Try.checked) own started (by kernel_rfl) Try.func8
    (ChangeSpec.witness6 (enc := enc) (C := Try.checked) false ⟨#[], #[.int .i64 0, .slice none 0 0, .int .i64 0, .int .i64 0], []⟩ 8 (by kernel_rfl) (by kernel_rfl) (by kernel_rfl) (by kernel_rfl)) ?_
  intro W base args ds gs before hval0 hW hcnd _
  have hval : ∀ (j : Nat) t v, Try.f8.params[j]? = some t → args[j]? = some v → Value.okWide Try.prog W .any base t v := hval0
  have hW' := hW
  obtain ⟨p, q, hA0, hV, rfl, hfz, hnd⟩ := hW
  have hA : DataW.TrodAll enc Try.prog W 0 (fun _ => true) true Try.f8.params.toList args.toList ds p := hA0
  rw [Try.params8] at hA hval
  obtain ⟨v0', vs0, d0, ds0, p0, q0, hargs, rfl, rfl, h0', r0⟩ := trodAll_cons hA
  obtain ⟨v1', vs1, d1, ds1, p1, q1, rfl, rfl, rfl, h1', r1⟩ := trodAll_cons r0
  obtain ⟨v2', vs2, d2, ds2, p2, q2, rfl, rfl, rfl, h2', r2⟩ := trodAll_cons r1
  obtain ⟨v3', vs3, d3, ds3, p3, q3, rfl, rfl, rfl, h3', r3⟩ := trodAll_cons r2
  obtain ⟨rfl, rfl, rfl⟩ := trodAll_nil r3
  obtain rfl : args = #[v0', v1', v2', v3'] := by cases args; simp_all
  obtain ⟨rfl, rfl⟩ := trodVars_none hV
  have k0 := h0'
  have lt0 : ∀ x ∈ p0, x.block < W.heap.size := by obtain ⟨m, hm⟩ := k0; exact DataW.trod_lt m _ _ _ hm
  obtain ⟨a0, rfl, hd0, hp0, w0⟩ := open_int Try.underlying3 (hval 0 3 v0' rfl rfl) h0'
  have k1 := h1'
  have lt1 : ∀ x ∈ p1, x.block < W.heap.size := by obtain ⟨m, hm⟩ := k1; exact DataW.trod_lt m _ _ _ hm
  obtain ⟨A1, n1, c1, rfl⟩ := okWide_slice Try.underlying22 (hval 1 22 v1' rfl rfl)
  obtain ⟨⟨u1, L1⟩, e1, hr1, ho1, hm1⟩ := DecT.arg (dec_slice Try.underlying22 (by kernel_rfl : Try.prog.cellsOf 3 = 1) (by omega) (fun _ => rfl) (dec_intW W)) k1
  obtain rfl := cells_slice A1 n1 c1 rfl e1
  have k2 := h2'
  have lt2 : ∀ x ∈ p2, x.block < W.heap.size := by obtain ⟨m, hm⟩ := k2; exact DataW.trod_lt m _ _ _ hm
  obtain ⟨a2, rfl, hd2, hp2, w2⟩ := open_int Try.underlying3 (hval 2 3 v2' rfl rfl) h2'
  have k3 := h3'
  have lt3 : ∀ x ∈ p3, x.block < W.heap.size := by obtain ⟨m, hm⟩ := k3; exact DataW.trod_lt m _ _ _ hm
  obtain ⟨a3, rfl, hd3, hp3, w3⟩ := open_int Try.underlying3 (hval 3 3 v3' rfl rfl) h3'
  clear hA0 hval0
  refine (walk W a0 (bounds_i64 w0) _ L1 hr1 ho1 hm1 a2 (bounds_i64 w2) a3 (bounds_i64 w3)).mono fun e W' ⟨he, bel⟩ => ?_
  subst he
  exact ⟨_, rfl, _, _, _, [], _, [], hW', trodAll_mk1 (shut_bool Try.underlying4 _), (trodAll_cons_mk (Below.trod laidOut (by kernel_rfl) (of_decide_eq_true (by kernel_rfl)) k0 bel lt0) (trodAll_cons_mk (Below.trod laidOut (by kernel_rfl) (of_decide_eq_true (by kernel_rfl)) k1 bel lt1) (trodAll_cons_mk (Below.trod laidOut (by kernel_rfl) (of_decide_eq_true (by kernel_rfl)) k2 bel lt2) (trodAll_cons_mk (Below.trod laidOut (by kernel_rfl) (of_decide_eq_true (by kernel_rfl)) k3 bel lt3) trodAll_mk0)))), rfl, bel.frame _, fun h => by cases h⟩

theorem over : Rows.efFindsRow.holds Try.pinned (OpenSpec.ofChange Rows.efFindsSpec) :=
  OpenClaim.holds_of_wide 8 Try.f8 rfl rfl rfl rfl rfl rfl rfl ⟨rfl, rfl, rfl, rfl, rfl⟩ rfl rfl rfl rfl rfl (by kernel_rfl) Try.func8 (by kernel_rfl)
    (of_decide_eq_true (by kernel_rfl)) (by unfold Func.isWrapper; first | (rw [if_pos (by decide +kernel)]; kernel_rfl) | (rw [if_neg (by decide +kernel)]; exact ⟨rfl, rfl⟩))
    (fun os started H enc _ => lifted os started H enc)

theorem proved : Rows.EfFindsSaid := over
#print axioms proved
end Go.Proofs.Ytpgmokfhcdibhaa.lawEfFinds
