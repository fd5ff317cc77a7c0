/-
  'WordsCase': words don't care for large and small letters. No condition.
-/
import Derived.Test.YtfooomfdokkiaaaWd3
import Derived.Test.YtfooomfdokkiaaaOpen
namespace Go.Proofs.Ytfooomfdokkiaaa.lawWordsCase
open Go.ChangeShapes Go.WideShapes Go.ChangeAt Go.RowKit
open Go.ChangeMaps (open_string shut_string)
set_option linter.unusedVariables false
theorem wst_congr : ∀ (a b : List UInt8) (st : List (List UInt8) × List UInt8), a.map small = b.map small → a.foldl wstep st = b.foldl wstep st
  | [], [], _, _ => rfl
  | [], _ :: _, _, h => by cases h
  | _ :: _, [], _, h => by cases h
  | x :: a, y :: b, st, h => by
    simp only [List.map_cons, List.cons.injEq] at h
    have e : wstep st x = wstep st y := by unfold wstep; rw [h.1]
    rw [List.foldl_cons, List.foldl_cons, e]
    exact wst_congr a b _ h.2
theorem words_congr {a b : List UInt8} (h : a.map small = b.map small) : wordsL a = wordsL b := by
  unfold wordsL wst
  rw [wst_congr a b _ h]
theorem turn_dn : ∀ c : UInt8, 97 ≤ (c.toNat : Int) → (c.toNat : Int) ≤ 122 → ∃ d : UInt8, ((c.toNat : Int) - 32 = (d.toNat : Int)) ∧ small d = small c := by
  have : ∀ x : Fin 256, 97 ≤ x.val → x.val ≤ 122 → (UInt8.ofNat (x.val - 32)).toNat = x.val - 32 ∧ small (UInt8.ofNat (x.val - 32)) = small (UInt8.ofNat x.val) := by decide +kernel
  intro c h1 h2
  have := this ⟨c.toNat, c.toNat_lt⟩ (by simp; omega) (by simp; omega)
  refine ⟨UInt8.ofNat (c.toNat - 32), ?_, by simpa using this.2⟩
  have h3 := this.1
  simp only at h3
  omega
theorem turn_up : ∀ c : UInt8, 65 ≤ (c.toNat : Int) → (c.toNat : Int) ≤ 90 → ∃ d : UInt8, ((c.toNat : Int) + 32 = (d.toNat : Int)) ∧ small d = small c := by
  have : ∀ x : Fin 256, 65 ≤ x.val → x.val ≤ 90 → (UInt8.ofNat (x.val + 32)).toNat = x.val + 32 ∧ small (UInt8.ofNat (x.val + 32)) = small (UInt8.ofNat x.val) := by decide +kernel
  intro c h1 h2
  have := this ⟨c.toNat, c.toNat_lt⟩ (by simp; omega) (by simp; omega)
  refine ⟨UInt8.ofNat (c.toNat + 32), ?_, by simpa using this.2⟩
  have h3 := this.1
  simp only at h3
  omega
theorem walk (w : World) (s : ByteArray) (hs : s.size ≤ maxLen) (v : Value) (L : List Bool) (hr : Rd w w.heap.size 1 v L.length (L.flatMap fun b => [.bool b])) (hok : ∀ x ∈ L, True) (hm : L.length ≤ maxLen) :
    Calls Try.prog 4 #[.string s, v] w fun e w' => e = .returned (.bool true) ∧ Below w.heap.size w w' := by
  obtain ⟨⟨l⟩⟩ := s
  obtain ⟨A0, c0, rfl, _⟩ := hr.form
  have hwl := wordsL_len l
  have hb : Bor w.heap.size w [] 1 (.slice A0 L.length c0) L.length (bools L) := Bor.in_ (by rw [flatMap_one] at hr; exact hr)
  simp only [maxLen] at hm
  refine Does.law (args := [.string ⟨l.toArray⟩, .slice A0 L.length c0]) ?_
  refine fn_walk Try.func4 58 rfl rfl rfl [(0, .string ⟨l.toArray⟩), (1, .slice A0 L.length c0)] ⟨⟨rfl, rfl⟩, ⟨rfl, rfl⟩, trivial⟩ ?_
  refine vc_seq ?_
  refine vc_region ?_
  refine vl_det (det_assign rfl) rfl ?_
  refine vl_end [(0, _), (1, _)] ⟨rfl, rfl, trivial⟩ ?_
  refine then_next ?_
  refine vc_seq ?_
  refine vc_seq ?_
  refine vc_region ?_
  refine vl_call co10 rfl (alive_d) rfl ?_
  rintro _ _ ⟨rfl, rfl⟩
  refine vl_det (det_not_t rfl) rfl ?_
  refine vl_end [(0, _), (1, _), (9, _)] ⟨rfl, rfl, rfl, trivial⟩ ?_
  refine then_next ?_
  refine vc_cond_f rfl ?_
  refine vc_skip ?_
  refine then_next ?_
  refine vc_seq ?_
  refine vc_seq ?_
  refine vc_region ?_
  refine vl_det (det_move rfl) rfl ?_
  refine vl_det (det_len_s Try.underlying9 rfl) rfl ?_
  refine vl_det (det_gtr rfl rfl) rfl ?_
  refine vl_end [(0, _), (1, _), (12, _)] ⟨rfl, rfl, rfl, trivial⟩ ?_
  refine then_next ?_
  refine vc_decideU rfl (fun h12 => ?_) (fun h12 => ?_)
  · skip
    refine vc_seq ?_
    refine vc_region ?_
    refine vl_det (det_assign rfl) rfl ?_
    refine vl_end [(4, _)] ⟨rfl, trivial⟩ ?_
    refine then_next ?_
    refine vc_ret ?_
    refine then_ret ?_
    refine ret1 rfl rfl ?_
    first | rfl | simp [hww]
  · skip
    refine vc_skip ?_
    refine then_next ?_
    refine vc_seq ?_
    refine vc_region ?_
    refine vl_det (det_assign rfl) rfl ?_
    refine vl_end [(0, _), (1, _), (5, _)] ⟨rfl, rfl, rfl, trivial⟩ ?_
    refine then_next ?_
    refine vc_seq ?_
    refine vc_seq ?_
    refine vc_region ?_
    refine vl_det (det_assign rfl) rfl ?_
    refine vl_end [(0, _), (1, _), (5, _), (6, _)] ⟨rfl, rfl, rfl, rfl, trivial⟩ ?_
    refine then_next ?_
    refine vc_block ?_
    refine vc_nil_row 5 1 none ?_
    refine vc_loopJ (fun zf zL zm => ∃ (i : Nat) (T : List UInt8) (A : Option Addr) (c : Nat), (i ≤ l.length ∧ T.map small = (l.take i).map small) ∧ l.length - i = zm ∧ Sub zf [(0, .string ⟨l.toArray⟩), (1, .slice A0 L.length c0), (5, .slice A i c), (6, .int .i64 i)] ∧ Wk zL ([.own 5 1 A i c (bv T)])) _ ⟨0, [], none, 0, ⟨Nat.zero_le _, rfl⟩, rfl, ⟨(by first | rfl | exact int_to (by omega)), (by first | rfl | exact int_to (by omega)), (by first | rfl | exact int_to (by omega)), (by first | rfl | exact int_to (by omega)), trivial⟩, .refl _⟩ ?_
    rintro _ _ _ ⟨i, T, A, c, ⟨hi, hT⟩, rfl, hs, hp⟩
    refine vc_weaken _ hs (vc_wk hp ?_)
    clear hs hp
    refine vc_seq ?_
    refine vc_seq ?_
    refine vc_region ?_
    refine vl_det (det_move rfl) rfl ?_
    refine vl_det (det_move rfl) rfl ?_
    refine vl_det (det_len_s Try.underlying9 rfl) rfl ?_
    refine vl_det (det_lss rfl rfl) rfl ?_
    refine vl_end [(0, _), (1, _), (5, _), (6, _), (16, _)] ⟨rfl, rfl, rfl, rfl, rfl, trivial⟩ ?_
    refine then_next ?_
    refine vc_decideU rfl (fun h16 => ?_) (fun h16 => ?_)
    · skip
      refine vc_skip ?_
      refine then_next ?_
      refine vc_seq ?_
      refine vc_block ?_
      refine vc_seq ?_
      refine vc_region ?_
      refine vl_det (det_move rfl) rfl ?_
      refine vl_det (det_move rfl) rfl ?_
      refine vl_det (det_at_str Try.underlying9 rfl rfl rfl (by omega)) rfl ?_
      refine vl_det (det_assign rfl) rfl ?_
      refine vl_end [(0, _), (1, _), (5, _), (6, _), (7, _)] ⟨rfl, rfl, rfl, rfl, rfl, trivial⟩ ?_
      refine then_next ?_
      refine vc_seqJ (fun zf zL => ∃ (d : UInt8), (small d = small (l.getD i 0)) ∧ Sub zf [(0, .string ⟨l.toArray⟩), (1, .slice A0 L.length c0), (5, .slice A i c), (6, .int .i64 i), (7, .int .u8 (d.toNat : Int))] ∧ Wk zL ([.own 5 1 A i c (bv T)])) ?_ ?_
      · skip
        refine vc_seq ?_
        refine vc_region ?_
        refine vl_cut 10 31 [(0, _), (1, _), (5, _), (6, _), (7, _)] (i < L.length ∧ L.getD i false = true) ⟨rfl, rfl, rfl, rfl, rfl, trivial⟩ ?_ ?_
        · skip
          refine vl_det (det_move rfl) rfl ?_
          refine vl_det (det_move rfl) rfl ?_
          refine vl_det (det_len_sl Try.underlying27 rfl) rfl ?_
          refine vl_det (det_lss rfl rfl) rfl ?_
          refine vl_det (det_move rfl) rfl ?_
          refine vl_guardp rfl rfl rfl (fun h26 => ?_) (fun h26 => ?_)
          · skip
            refine vl_det (det_move rfl) rfl ?_
            refine vl_guard_t rfl rfl ?_
            refine vl_det (det_move rfl) rfl ?_
            refine vl_guard_t rfl rfl ?_
            refine vl_det (det_indexAddr Try.underlying27 (by kernel_rfl) rfl rfl rfl (by omega) (by first | (exact Bor.own (by repeat (first | exact List.Mem.head _ | apply List.Mem.tail))) | (repeat (first | assumption | apply Bor.cons)))) rfl ?_
            refine vl_guard_t rfl rfl ?_
            refine vl_det (det_load_bool (by kernel_rfl) rfl (by first | (exact Bor.own (by repeat (first | exact List.Mem.head _ | apply List.Mem.tail))) | (repeat (first | assumption | apply Bor.cons))) (by omega)) rfl ?_
            refine vl_det (det_pick_t rfl rfl) rfl ?_
            exact vl_cut_end ⟨rfl, rfl, rfl, rfl, rfl, trivial⟩ (by first | rfl | exact bool_to_t (by first | omega | (simp; omega) | (simp; intro; omega) | simp_all) | exact bool_to_f (by first | omega | (simp; omega) | (simp; intro; omega) | simp_all) | exact bool_to (by first | omega | (simp; omega) | (simp; intro; omega) | simp_all) | exact bool_to_b (by first | omega | (simp; omega) | (simp; intro; omega) | simp_all))
          · skip
            refine vl_guard_f rfl rfl rfl rfl ?_
            refine vl_guard_f rfl rfl rfl rfl ?_
            refine vl_guard_f rfl rfl rfl rfl ?_
            refine vl_det (det_pick_f rfl rfl) rfl ?_
            exact vl_cut_end ⟨rfl, rfl, rfl, rfl, rfl, trivial⟩ (by first | rfl | exact bool_to_t (by first | omega | (simp; omega) | (simp; intro; omega) | simp_all) | exact bool_to_f (by first | omega | (simp; omega) | (simp; intro; omega) | simp_all) | exact bool_to (by first | omega | (simp; omega) | (simp; intro; omega) | simp_all) | exact bool_to_b (by first | omega | (simp; omega) | (simp; intro; omega) | simp_all))
        · skip
          refine vl_end [(0, _), (1, _), (5, _), (6, _), (7, _), (31, _)] ⟨rfl, rfl, rfl, rfl, rfl, rfl, trivial⟩ ?_
          refine then_next ?_
          refine vc_decideU rfl (fun h31 => ?_) (fun h31 => ?_)
          · skip
            refine vc_seq ?_
            refine vc_region ?_
            refine vl_cut 6 37 [(0, _), (1, _), (5, _), (6, _), (7, _)] (97 ≤ ((l.getD i 0).toNat : Int) ∧ ((l.getD i 0).toNat : Int) ≤ 122) ⟨rfl, rfl, rfl, rfl, rfl, trivial⟩ ?_ ?_
            · skip
              refine vl_det (det_move rfl) rfl ?_
              refine vl_det (det_geq rfl rfl) rfl ?_
              refine vl_det (det_move rfl) rfl ?_
              refine vl_guardp rfl rfl rfl (fun h34 => ?_) (fun h34 => ?_)
              · skip
                refine vl_det (det_move rfl) rfl ?_
                refine vl_guard_t rfl rfl ?_
                refine vl_det (det_leq rfl rfl) rfl ?_
                refine vl_det (det_pick_t rfl rfl) rfl ?_
                exact vl_cut_end ⟨rfl, rfl, rfl, rfl, rfl, trivial⟩ (by first | rfl | exact bool_to_t (by first | omega | simp_all) | exact bool_to_f (by first | omega | simp_all) | exact bool_to (by first | omega | simp_all) | exact bool_to_b (by first | omega | simp_all))
              · skip
                refine vl_guard_f rfl rfl rfl rfl ?_
                refine vl_det (det_pick_f rfl rfl) rfl ?_
                exact vl_cut_end ⟨rfl, rfl, rfl, rfl, rfl, trivial⟩ (by first | rfl | exact bool_to_t (by first | omega | simp_all) | exact bool_to_f (by first | omega | simp_all) | exact bool_to (by first | omega | simp_all) | exact bool_to_b (by first | omega | simp_all))
            · skip
              refine vl_end [(0, _), (1, _), (5, _), (6, _), (7, _), (37, _)] ⟨rfl, rfl, rfl, rfl, rfl, rfl, trivial⟩ ?_
              refine then_next ?_
              refine vc_decideU rfl (fun h37 => ?_) (fun h37 => ?_)
              · skip
                refine vc_region ?_
                refine vl_det (det_move rfl) rfl ?_
                obtain ⟨d, hd, hsd⟩ := turn_dn _ h37.1 h37.2
                refine vl_det (det_sub rfl rfl ((w_u8 (by omega) (by omega)).trans hd)) rfl ?_
                refine vl_det (det_assign rfl) rfl ?_
                refine vl_end [(0, _), (1, _), (5, _), (6, _), (7, _)] ⟨rfl, rfl, rfl, rfl, rfl, trivial⟩ ?_
                exact in_join ⟨d, hsd, ⟨(by first | rfl | exact int_to (by omega)), (by first | rfl | exact int_to (by omega)), (by first | rfl | exact int_to (by omega)), (by first | rfl | exact int_to (by omega)), (by first | rfl | exact int_to (by omega)), trivial⟩, .refl _⟩
              · skip
                refine vc_seq ?_
                refine vc_region ?_
                refine vl_cut 6 45 [(0, _), (1, _), (5, _), (6, _), (7, _)] (65 ≤ ((l.getD i 0).toNat : Int) ∧ ((l.getD i 0).toNat : Int) ≤ 90) ⟨rfl, rfl, rfl, rfl, rfl, trivial⟩ ?_ ?_
                · skip
                  refine vl_det (det_move rfl) rfl ?_
                  refine vl_det (det_geq rfl rfl) rfl ?_
                  refine vl_det (det_move rfl) rfl ?_
                  refine vl_guardp rfl rfl rfl (fun h42 => ?_) (fun h42 => ?_)
                  · skip
                    refine vl_det (det_move rfl) rfl ?_
                    refine vl_guard_t rfl rfl ?_
                    refine vl_det (det_leq rfl rfl) rfl ?_
                    refine vl_det (det_pick_t rfl rfl) rfl ?_
                    exact vl_cut_end ⟨rfl, rfl, rfl, rfl, rfl, trivial⟩ (by first | rfl | exact bool_to_t (by first | omega | simp_all) | exact bool_to_f (by first | omega | simp_all) | exact bool_to (by first | omega | simp_all) | exact bool_to_b (by first | omega | simp_all))
                  · skip
                    refine vl_guard_f rfl rfl rfl rfl ?_
                    refine vl_det (det_pick_f rfl rfl) rfl ?_
                    exact vl_cut_end ⟨rfl, rfl, rfl, rfl, rfl, trivial⟩ (by first | rfl | exact bool_to_t (by first | omega | simp_all) | exact bool_to_f (by first | omega | simp_all) | exact bool_to (by first | omega | simp_all) | exact bool_to_b (by first | omega | simp_all))
                · skip
                  refine vl_end [(0, _), (1, _), (5, _), (6, _), (7, _), (45, _)] ⟨rfl, rfl, rfl, rfl, rfl, rfl, trivial⟩ ?_
                  refine then_next ?_
                  refine vc_decideU rfl (fun h45 => ?_) (fun h45 => ?_)
                  · skip
                    refine vc_region ?_
                    refine vl_det (det_move rfl) rfl ?_
                    obtain ⟨d, hd, hsd⟩ := turn_up _ h45.1 h45.2
                    refine vl_det (det_add rfl rfl ((w_u8 (by omega) (by have := d.toNat_lt; omega)).trans hd)) rfl ?_
                    refine vl_det (det_assign rfl) rfl ?_
                    refine vl_end [(0, _), (1, _), (5, _), (6, _), (7, _)] ⟨rfl, rfl, rfl, rfl, rfl, trivial⟩ ?_
                    exact in_join ⟨d, hsd, ⟨(by first | rfl | exact int_to (by omega)), (by first | rfl | exact int_to (by omega)), (by first | rfl | exact int_to (by omega)), (by first | rfl | exact int_to (by omega)), (by first | rfl | exact int_to (by omega)), trivial⟩, .refl _⟩
                  · skip
                    refine vc_skip ?_
                    exact in_join ⟨l.getD i 0, rfl, ⟨(by first | rfl | exact int_to (by omega)), (by first | rfl | exact int_to (by omega)), (by first | rfl | exact int_to (by omega)), (by first | rfl | exact int_to (by omega)), (by first | rfl | exact int_to (by omega)), trivial⟩, .refl _⟩
          · skip
            refine vc_skip ?_
            exact in_join ⟨l.getD i 0, rfl, ⟨(by first | rfl | exact int_to (by omega)), (by first | rfl | exact int_to (by omega)), (by first | rfl | exact int_to (by omega)), (by first | rfl | exact int_to (by omega)), (by first | rfl | exact int_to (by omega)), trivial⟩, .refl _⟩
      · rintro _ _ ⟨d, hd, hs, hp⟩
        refine vc_weaken _ hs (vc_wk hp ?_)
        clear hs hp
        refine vc_region ?_
        refine vl_det (det_move rfl) rfl ?_
        refine vl_det (det_move rfl) rfl ?_
        refine vl_push slT28 rfl rfl rfl rfl rfl (fun _ => rfl) (by repeat (first | exact .hd | apply Sel.tl)) (by omega) (by omega) ?_
        intro _ A51 c51
        refine vl_det (det_assign rfl) rfl ?_
        refine vl_end [(0, _), (1, _), (5, _), (6, _)] ⟨rfl, rfl, rfl, rfl, trivial⟩ ?_
        refine in_normal ?_
        refine then_next ?_
        refine vc_region ?_
        refine vl_det (det_move rfl) rfl ?_
        refine vl_det (det_add rfl rfl (w_i64 (by omega) (by omega))) rfl ?_
        refine vl_det (det_assign rfl) rfl ?_
        refine vl_end [(0, _), (1, _), (5, _), (6, _)] ⟨rfl, rfl, rfl, rfl, trivial⟩ ?_
        refine in_loop_ ⟨_, by omega, i + 1, T ++ [d], A51, c51, ⟨by omega, by rw [take_getD (by omega) 0, List.map_append, List.map_append, hT]; simp [hd]⟩, rfl, ⟨(by first | rfl | exact int_to (by omega)), (by first | rfl | exact int_to (by omega)), (by first | rfl | exact int_to (by omega)), (by first | rfl | exact int_to (by omega)), trivial⟩, wk_own rfl (by simp [bv]) (.refl _)⟩
    · skip
      have hTl : T.length ≤ 2000 := by have := congrArg List.length hT; simp at this; omega
      have hww : wordsL T = wordsL l := words_congr (by rw [hT, List.take_of_length_le (by omega)])
      refine vc_exit ?_
      refine then_exit ?_
      refine loop_exit ?_
      refine in_eq ?_
      refine then_next ?_
      refine vc_seq ?_
      refine vh_region (S := [.own 5 1 A i c (bv T)]) (by kernel_rfl) (by repeat (first | exact List.Sublist.refl _ | exact List.nil_sublist _ | apply List.Sublist.cons_cons | apply List.Sublist.cons)) ?_
      refine vh_take 0 rfl (by kernel_rfl) (by kernel_rfl) (by kernel_rfl) (det_move rfl) rfl ?_
      refine vh_take 2 rfl (by kernel_rfl) (by kernel_rfl) (by kernel_rfl) (det_move rfl) rfl ?_
      refine vh_take 3 rfl (by kernel_rfl) (by kernel_rfl) (by kernel_rfl) (det_bstr Try.underlying28 Try.underlying5 Try.underlying9 rfl (by first | (exact Bor.own (by repeat (first | exact List.Mem.head _ | apply List.Mem.tail))) | (repeat (first | assumption | apply Bor.cons)))) rfl ?_
      refine vh_one 1 (by kernel_rfl) ?_
      refine st_call rfl .no co12 rfl (words_d _ (by omega)) rfl (by rintro _ _ ⟨A53, c53, rfl, rfl⟩; exact (by repeat (first | exact List.Sublist.refl _ | exact List.nil_sublist _ | apply List.Sublist.cons_cons | apply List.Sublist.cons))) ?_
      rintro _ _ ⟨A53, c53, rfl, rfl⟩
      refine vh_one 4 (by kernel_rfl) ?_
      refine st_call rfl .no co12 rfl (words_d _ (by omega)) rfl (by rintro _ _ ⟨A56, c56, rfl, rfl⟩; exact (by repeat (first | exact List.Sublist.refl _ | exact List.nil_sublist _ | apply List.Sublist.cons_cons | apply List.Sublist.cons))) ?_
      rintro _ _ ⟨A56, c56, rfl, rfl⟩
      refine vh_one 5 (by kernel_rfl) ?_
      refine st_call rfl .no co11 rfl (same_d (by first | (exact Bor.own (by repeat (first | exact List.Mem.head _ | apply List.Mem.tail))) | (repeat (first | assumption | apply Bor.cons))) (by first | (exact Bor.own (by repeat (first | exact List.Mem.head _ | apply List.Mem.tail))) | (repeat (first | assumption | apply Bor.cons))) (by omega)) rfl (by rintro _ _ ⟨rfl, rfl⟩; exact (by repeat (first | exact List.Sublist.refl _ | exact List.nil_sublist _ | apply List.Sublist.cons_cons | apply List.Sublist.cons))) ?_
      rintro _ _ ⟨rfl, rfl⟩
      refine vh_take 6 rfl (by kernel_rfl) (by kernel_rfl) (by kernel_rfl) (det_assign rfl) rfl ?_
      refine vh_done [(4, _)] ⟨rfl, trivial⟩ (by kernel_rfl) ?_
      refine then_next ?_
      refine vc_ret ?_
      refine ret1 rfl rfl ?_
      first | rfl | simp [hww]
theorem own : ownKnob Try.prog.godebug = none := by kernel_rfl
theorem laidOut : laidOutB Try.prog = true := by kernel_rfl
set_option maxRecDepth 100000 in
theorem lifted (os : Os) (started : os.Started) (H : Type) (enc : TypeId × Value → H) :
    ReturnsInHanded {} Try.checked os 4 .any (Rows.wordsCaseSpec.pre6 enc Try.prog Try.f4 Rows.wordsCaseRow.domain false) (Rows.wordsCaseSpec.post enc Try.prog Try.f4 false true false false) := by
  refine returnsInHanded_of_change (C := Try.checked) own started (by kernel_rfl) Try.func4
    (ChangeSpec.witness6 (enc := enc) (C := Try.checked) false ⟨#[], #[.string ByteArray.empty, .slice none 0 0], []⟩ 8 (by kernel_rfl) (by kernel_rfl) (by kernel_rfl) (by kernel_rfl)) ?_
  intro W base args ds gs before hval0 hW hcnd _
  have hval : ∀ (j : Nat) t v, Try.f4.params[j]? = some t → args[j]? = some v → Value.okWide Try.prog W .any base t v := hval0
  have hW' := hW
  obtain ⟨p, q, hA0, hV, rfl, hfz, hnd⟩ := hW
  have hA : DataW.TrodAll enc Try.prog W 0 (fun _ => true) true Try.f4.params.toList args.toList ds p := hA0
  rw [Try.params4] at hA hval
  obtain ⟨v0', vs0, d0, ds0, p0, q0, hargs, rfl, rfl, h0', r0⟩ := trodAll_cons hA
  obtain ⟨v1', vs1, d1, ds1, p1, q1, rfl, rfl, rfl, h1', r1⟩ := trodAll_cons r0
  obtain ⟨rfl, rfl, rfl⟩ := trodAll_nil r1
  obtain rfl : args = #[v0', v1'] := by cases args; simp_all
  obtain ⟨rfl, rfl⟩ := trodVars_none hV
  have k0 := h0'
  have lt0 : ∀ x ∈ p0, x.block < W.heap.size := by obtain ⟨m, hm⟩ := k0; exact DataW.trod_lt m _ _ _ hm
  obtain ⟨a0, rfl, hd0, hp0, w0⟩ := open_string Try.underlying9 (hval 0 9 v0' rfl rfl) h0'
  have k1 := h1'
  have lt1 : ∀ x ∈ p1, x.block < W.heap.size := by obtain ⟨m, hm⟩ := k1; exact DataW.trod_lt m _ _ _ hm
  obtain ⟨A1, n1, c1, rfl⟩ := okWide_slice Try.underlying27 (hval 1 27 v1' rfl rfl)
  obtain ⟨⟨u1, L1⟩, e1, hr1, ho1, hm1⟩ := DecT.arg (dec_slice Try.underlying27 (by kernel_rfl : Try.prog.cellsOf 4 = 1) (by omega) (fun _ => rfl) (@dec_bool Try.prog W _ Try.underlying4)) k1
  obtain rfl := cells_slice A1 n1 c1 rfl e1
  clear hA0 hval0
  refine (walk W a0 w0 _ L1 hr1 ho1 hm1).mono fun e W' ⟨he, bel⟩ => ?_
  subst he
  exact ⟨_, rfl, _, _, _, [], _, [], hW', trodAll_mk1 (shut_bool Try.underlying4 _), (trodAll_cons_mk (Below.trod laidOut (by kernel_rfl) (of_decide_eq_true (by kernel_rfl)) k0 bel lt0) (trodAll_cons_mk (Below.trod laidOut (by kernel_rfl) (of_decide_eq_true (by kernel_rfl)) k1 bel lt1) trodAll_mk0)), rfl, bel.frame _, fun h => by cases h⟩

theorem over : Rows.wordsCaseRow.holds Try.pinned (OpenSpec.ofChange Rows.wordsCaseSpec) :=
  OpenClaim.holds_of_wide 4 Try.f4 rfl rfl rfl rfl rfl rfl rfl ⟨rfl, rfl, rfl, rfl, rfl⟩ rfl rfl rfl rfl rfl (by kernel_rfl) Try.func4 (by kernel_rfl)
    (of_decide_eq_true (by kernel_rfl)) (by unfold Func.isWrapper; first | (rw [if_pos (by decide +kernel)]; kernel_rfl) | (rw [if_neg (by decide +kernel)]; exact ⟨rfl, rfl⟩))
    (fun os started H enc _ => lifted os started H enc)

theorem proved : Rows.WordsCaseSaid := over
#print axioms proved
end Go.Proofs.Ytfooomfdokkiaaa.lawWordsCase
