/-
  'WordsJoin': the words of two texts with a byte between that is no letter are those of the one, then those of the other. No condition.
-/
import Derived.Test.YtfooomfdokkiaaaWd3
import Derived.Test.YtfooomfdokkiaaaOpen
namespace Go.Proofs.Ytfooomfdokkiaaa.lawWordsJoin
open Go.ChangeShapes Go.WideShapes Go.ChangeAt Go.RowKit
open Go.ChangeMaps (open_string shut_string)
set_option linter.unusedVariables false
theorem words_join (a b : List UInt8) (c : UInt8) (hc : small c = 0) : wordsL (a ++ c :: b) = wordsL a ++ wordsL b := by
  have hpre : ∀ (l : List UInt8) (ws : List (List UInt8)) (row : List UInt8), l.foldl wstep (ws, row) = (ws ++ (l.foldl wstep ([], row)).1, (l.foldl wstep ([], row)).2) := by
    intro l
    induction l with
    | nil => intro ws row; simp
    | cons x r ih =>
      intro ws row
      rw [List.foldl_cons, List.foldl_cons]
      by_cases hx : small x = 0
      · rw [wstep_no hx, wstep_no hx, ih, ih ([] ++ emit row)]
        simp
      · rw [wstep_yes hx, wstep_yes hx, ih]
  have e : (a ++ c :: b).foldl wstep ([], []) = b.foldl wstep (wordsL a, []) := by
    rw [List.foldl_append, List.foldl_cons]
    congr 1
    exact wstep_no hc
  unfold wordsL
  conv => lhs; unfold wst
  rw [e, hpre, List.append_assoc]
  rfl
theorem walk (w : World) (s : ByteArray) (hs : s.size ≤ maxLen) (n : Nat) (hn : n < 256) (t : ByteArray) (ht : t.size ≤ maxLen) :
    Calls Try.prog 5 #[.string s, .int .u8 n, .string t] w fun e w' => e = .returned (.bool true) ∧ Below w.heap.size w w' := by
  obtain ⟨⟨a⟩⟩ := s
  obtain ⟨⟨b⟩⟩ := t
  obtain ⟨c, rfl⟩ : ∃ c : UInt8, n = c.toNat := ⟨UInt8.ofNat n, by simp; omega⟩
  refine Does.law (args := [.string ⟨a.toArray⟩, .int .u8 c.toNat, .string ⟨b.toArray⟩]) ?_
  have hwa := wordsL_len a
  have hwb := wordsL_len b
  refine fn_walk Try.func5 44 rfl rfl rfl [(0, .string ⟨a.toArray⟩), (1, .int .u8 c.toNat), (2, .string ⟨b.toArray⟩)] ⟨⟨rfl, rfl⟩, ⟨rfl, rfl⟩, ⟨rfl, rfl⟩, trivial⟩ ?_
  refine vc_seq ?_
  refine vc_region ?_
  refine vl_det (det_assign rfl) rfl ?_
  refine vl_end [(0, _), (1, _), (2, _)] ⟨rfl, rfl, rfl, trivial⟩ ?_
  refine then_next ?_
  refine vc_seq ?_
  refine vc_seq ?_
  refine vc_region ?_
  refine vl_call co10 rfl (alive_d) rfl ?_
  rintro _ _ ⟨rfl, rfl⟩
  refine vl_det (det_not_t rfl) rfl ?_
  refine vl_end [(0, _), (1, _), (2, _), (11, _)] ⟨rfl, rfl, rfl, rfl, trivial⟩ ?_
  refine then_next ?_
  refine vc_cond_f rfl ?_
  refine vc_skip ?_
  refine then_next ?_
  refine vc_seq ?_
  refine vc_seq ?_
  refine vc_region ?_
  refine vl_cut 13 24 [(0, _), (1, _), (2, _)] (¬ (a.length ≤ 1000 ∧ b.length ≤ 1000 ∧ small c = 0)) ⟨rfl, rfl, rfl, trivial⟩ ?_ ?_
  · skip
    refine vl_det (det_move rfl) rfl ?_
    refine vl_det (det_len_s Try.underlying9 rfl) rfl ?_
    refine vl_det (det_gtr rfl rfl) rfl ?_
    refine vl_det (det_move rfl) rfl ?_
    refine vl_guardn rfl rfl rfl (fun h15 => ?_) (fun h15 => ?_)
    · skip
      refine vl_det (det_move rfl) rfl ?_
      refine vl_guard_t rfl rfl ?_
      refine vl_det (det_len_s Try.underlying9 rfl) rfl ?_
      refine vl_guard_t rfl rfl ?_
      refine vl_det (det_gtr rfl rfl) rfl ?_
      refine vl_det (det_pick_f rfl rfl) rfl ?_
      refine vl_det (det_move rfl) rfl ?_
      refine vl_guardn rfl rfl rfl (fun h20 => ?_) (fun h20 => ?_)
      · skip
        refine vl_det (det_move rfl) rfl ?_
        refine vl_guard_t rfl rfl ?_
        refine vl_call co14 rfl (rsmall_d _) rfl ?_
        rintro _ _ ⟨rfl, rfl⟩
        refine vl_guard_t rfl rfl ?_
        refine vl_det (det_neq rfl rfl) rfl ?_
        refine vl_det (det_pick_f rfl rfl) rfl ?_
        exact vl_cut_end ⟨rfl, rfl, rfl, trivial⟩ (by first | rfl | exact bool_to_t (by first | omega | (simp only [← UInt8.toNat_inj] at *; simp at *; omega)) | exact bool_to_f (by first | omega | (simp only [← UInt8.toNat_inj] at *; simp at *; omega)) | exact bool_to (by first | omega | (simp only [← UInt8.toNat_inj] at *; simp at *; omega)) | exact bool_to_b (by first | omega | (simp only [← UInt8.toNat_inj] at *; simp at *; omega)))
      · skip
        refine vl_guard_f rfl rfl rfl rfl ?_
        refine vl_guard_f rfl rfl rfl rfl ?_
        refine vl_det (det_pick_t rfl rfl) rfl ?_
        exact vl_cut_end ⟨rfl, rfl, rfl, trivial⟩ (by first | rfl | exact bool_to_t (by first | omega | (simp only [← UInt8.toNat_inj] at *; simp at *; omega)) | exact bool_to_f (by first | omega | (simp only [← UInt8.toNat_inj] at *; simp at *; omega)) | exact bool_to (by first | omega | (simp only [← UInt8.toNat_inj] at *; simp at *; omega)) | exact bool_to_b (by first | omega | (simp only [← UInt8.toNat_inj] at *; simp at *; omega)))
    · skip
      refine vl_guard_f rfl rfl rfl rfl ?_
      refine vl_guard_f rfl rfl rfl rfl ?_
      refine vl_det (det_pick_t rfl rfl) rfl ?_
      refine vl_det (det_move rfl) rfl ?_
      refine vl_guard_f rfl rfl rfl rfl ?_
      refine vl_guard_f rfl rfl rfl rfl ?_
      refine vl_guard_f rfl rfl rfl rfl ?_
      refine vl_det (det_pick_t rfl rfl) rfl ?_
      exact vl_cut_end ⟨rfl, rfl, rfl, trivial⟩ (by first | rfl | exact bool_to_t (by first | omega | (simp only [← UInt8.toNat_inj] at *; simp at *; omega)) | exact bool_to_f (by first | omega | (simp only [← UInt8.toNat_inj] at *; simp at *; omega)) | exact bool_to (by first | omega | (simp only [← UInt8.toNat_inj] at *; simp at *; omega)) | exact bool_to_b (by first | omega | (simp only [← UInt8.toNat_inj] at *; simp at *; omega)))
  · skip
    refine vl_end [(0, _), (1, _), (2, _), (24, _)] ⟨rfl, rfl, rfl, rfl, trivial⟩ ?_
    refine then_next ?_
    refine vc_decideU rfl (fun h24 => ?_) (fun h24 => ?_)
    · skip
      refine vc_seq ?_
      refine vc_region ?_
      refine vl_det (det_assign rfl) rfl ?_
      refine vl_end [(6, _)] ⟨rfl, trivial⟩ ?_
      refine then_next ?_
      refine vc_ret ?_
      refine then_ret ?_
      refine ret1 rfl rfl ?_
      first | rfl | simp
    · skip
      refine vc_skip ?_
      refine then_next ?_
      refine vc_seq ?_
      refine vc_region ?_
      refine vl_det (det_move rfl) rfl ?_
      refine vl_call co12 rfl (words_d _ (by omega)) rfl ?_
      rintro _ _ ⟨A26, c26, rfl, rfl⟩
      refine vl_det (det_assign rfl) rfl ?_
      refine vl_end [(0, _), (1, _), (2, _), (7, _)] ⟨rfl, rfl, rfl, rfl, trivial⟩ ?_
      refine then_next ?_
      refine vc_seq ?_
      refine vc_region ?_
      refine vl_det (det_move rfl) rfl ?_
      refine vl_call co12 rfl (words_d _ (by omega)) rfl ?_
      rintro _ _ ⟨A28, c28, rfl, rfl⟩
      refine vl_det (det_assign rfl) rfl ?_
      refine vl_end [(0, _), (1, _), (2, _), (7, _), (8, _)] ⟨rfl, rfl, rfl, rfl, rfl, trivial⟩ ?_
      refine then_next ?_
      refine vc_seq ?_
      refine vc_region ?_
      refine vl_det (det_assign rfl) rfl ?_
      refine vl_end [(0, _), (1, _), (2, _), (7, _), (8, _), (9, _)] ⟨rfl, rfl, rfl, rfl, rfl, rfl, trivial⟩ ?_
      refine then_next ?_
      refine vc_seq ?_
      refine vc_region ?_
      refine vl_det (det_move rfl) rfl ?_
      refine vl_det (det_move rfl) rfl ?_
      refine vl_eff (eff_app_nil slT24 rfl rfl (by first | (exact Bor.own (by repeat (first | exact List.Mem.head _ | apply List.Mem.tail))) | (repeat (first | assumption | refine Bor.cons ?_))) (by first | exact bv_one _ | exact strs_one _ | exact ints_one _ _ | (simp; done) | (simp [Value.oneCell']; done) | assumption) (by omega) (by omega)) rfl ?_
      rintro _ _ ⟨A31, c31, rfl, rfl⟩
      refine vl_det (det_move rfl) rfl ?_
      refine vl_eff (eff_app slT24 rfl (by repeat (first | exact .hd | apply Sel.tl)) rfl (by first | (exact Bor.own (by repeat (first | exact List.Mem.head _ | apply List.Mem.tail))) | (repeat (first | assumption | refine Bor.cons ?_))) (by first | exact bv_one _ | exact strs_one _ | exact ints_one _ _ | (simp; done) | (simp [Value.oneCell']; done) | assumption) (by omega) (by omega)) rfl ?_
      rintro _ _ ⟨A33, c33, rfl, rfl⟩
      rw [← List.length_append, ← strs_append]
      refine vl_det (det_assign rfl) rfl ?_
      refine vl_end [(0, _), (1, _), (2, _), (9, _)] ⟨rfl, rfl, rfl, rfl, trivial⟩ ?_
      refine then_next ?_
      refine vc_seq ?_
      refine vc_region ?_
      refine vl_det (det_move rfl) rfl ?_
      refine vl_det (det_move rfl) rfl ?_
      refine vl_eff (eff_build_lit slT28 [_] rfl rfl (by first | exact bv_one _ | exact strs_one _ | exact ints_one _ _ | (simp; done) | (simp [Value.oneCell']; done) | assumption) (by omega) (by omega)) rfl ?_
      rintro _ _ ⟨A36, rfl, rfl⟩
      refine vl_det (det_bstr (b := [c]) Try.underlying28 Try.underlying5 Try.underlying9 rfl (Bor.own (List.Mem.head _))) rfl ?_
      refine vl_det (det_s_add rfl rfl (by first | omega | (simp; omega))) rfl ?_
      refine vl_det (det_move rfl) rfl ?_
      refine vl_det (det_s_add rfl rfl (by first | omega | (simp; omega))) rfl ?_
      have h := Classical.not_not.1 h24
      have hwj : ∀ F, Does Try.prog w.heap.size w 12 [.string ⟨(a ++ [c] ++ b).toArray⟩] F (fun r L => ∃ A cc, r = .slice A (wordsL a ++ wordsL b).length cc ∧ L = .own 9 1 A (wordsL a ++ wordsL b).length cc (strs (wordsL a ++ wordsL b)) :: F) := fun F => by
        have q := words_d (B := w.heap.size) (w0 := w) (F := F) (a ++ [c] ++ b) (by simp; omega)
        have e : a ++ [c] ++ b = a ++ c :: b := by simp
        rwa [e, words_join a b c h.2.2, ← e] at q
      refine vl_call co12 rfl (hwj _) rfl ?_
      rintro _ _ ⟨A41, c41, rfl, rfl⟩
      refine vl_det (det_move rfl) rfl ?_
      refine vl_call co11 rfl (same_d (by first | (exact Bor.own (by repeat (first | exact List.Mem.head _ | apply List.Mem.tail))) | (repeat (first | assumption | refine Bor.cons ?_))) (by first | (exact Bor.own (by repeat (first | exact List.Mem.head _ | apply List.Mem.tail))) | (repeat (first | assumption | refine Bor.cons ?_))) (by simp; omega)) rfl ?_
      rintro _ _ ⟨rfl, rfl⟩
      refine vl_det (det_assign rfl) rfl ?_
      refine vl_end [(6, _)] ⟨rfl, trivial⟩ ?_
      refine then_next ?_
      refine vc_ret ?_
      refine ret1 rfl rfl ?_
      first | rfl | simp
theorem own : ownKnob Try.prog.godebug = none := by kernel_rfl
theorem laidOut : laidOutB Try.prog = true := by kernel_rfl
set_option maxRecDepth 100000 in
theorem lifted (os : Os) (started : os.Started) (H : Type) (enc : TypeId × Value → H) :
    ReturnsInHanded {} Try.checked os 5 .any (Rows.wordsJoinSpec.pre6 enc Try.prog Try.f5 Rows.wordsJoinRow.domain false) (Rows.wordsJoinSpec.post enc Try.prog Try.f5 false true false false) := by
  refine returnsInHanded_of_change (C := Try.checked) own started (by kernel_rfl) Try.func5
    (ChangeSpec.witness6 (enc := enc) (C := Try.checked) false ⟨#[], #[.string ByteArray.empty, .int .u8 0, .string ByteArray.empty], []⟩ 8 (by kernel_rfl) (by kernel_rfl) (by kernel_rfl) (by kernel_rfl)) ?_
  intro W base args ds gs before hval0 hW hcnd _
  have hval : ∀ (j : Nat) t v, Try.f5.params[j]? = some t → args[j]? = some v → Value.okWide Try.prog W .any base t v := hval0
  have hW' := hW
  obtain ⟨p, q, hA0, hV, rfl, hfz, hnd⟩ := hW
  have hA : DataW.TrodAll enc Try.prog W 0 (fun _ => true) true Try.f5.params.toList args.toList ds p := hA0
  rw [Try.params5] at hA hval
  obtain ⟨v0', vs0, d0, ds0, p0, q0, hargs, rfl, rfl, h0', r0⟩ := trodAll_cons hA
  obtain ⟨v1', vs1, d1, ds1, p1, q1, rfl, rfl, rfl, h1', r1⟩ := trodAll_cons r0
  obtain ⟨v2', vs2, d2, ds2, p2, q2, rfl, rfl, rfl, h2', r2⟩ := trodAll_cons r1
  obtain ⟨rfl, rfl, rfl⟩ := trodAll_nil r2
  obtain rfl : args = #[v0', v1', v2'] := by cases args; simp_all
  obtain ⟨rfl, rfl⟩ := trodVars_none hV
  have k0 := h0'
  have lt0 : ∀ x ∈ p0, x.block < W.heap.size := by obtain ⟨m, hm⟩ := k0; exact DataW.trod_lt m _ _ _ hm
  obtain ⟨a0, rfl, hd0, hp0, w0⟩ := open_string Try.underlying9 (hval 0 9 v0' rfl rfl) h0'
  have k1 := h1'
  have lt1 : ∀ x ∈ p1, x.block < W.heap.size := by obtain ⟨m, hm⟩ := k1; exact DataW.trod_lt m _ _ _ hm
  obtain ⟨a1, rfl, hd1, hp1, w1⟩ := open_int Try.underlying5 (hval 1 5 v1' rfl rfl) h1'
  have bd1 := bounds_u8 w1
  obtain ⟨n1, rfl⟩ := Int.eq_ofNat_of_zero_le bd1.1
  have k2 := h2'
  have lt2 : ∀ x ∈ p2, x.block < W.heap.size := by obtain ⟨m, hm⟩ := k2; exact DataW.trod_lt m _ _ _ hm
  obtain ⟨a2, rfl, hd2, hp2, w2⟩ := open_string Try.underlying9 (hval 2 9 v2' rfl rfl) h2'
  clear hA0 hval0
  refine (walk W a0 w0 n1 (by omega) a2 w2).mono fun e W' ⟨he, bel⟩ => ?_
  subst he
  exact ⟨_, rfl, _, _, _, [], _, [], hW', trodAll_mk1 (shut_bool Try.underlying4 _), (trodAll_cons_mk (Below.trod laidOut (by kernel_rfl) (of_decide_eq_true (by kernel_rfl)) k0 bel lt0) (trodAll_cons_mk (Below.trod laidOut (by kernel_rfl) (of_decide_eq_true (by kernel_rfl)) k1 bel lt1) (trodAll_cons_mk (Below.trod laidOut (by kernel_rfl) (of_decide_eq_true (by kernel_rfl)) k2 bel lt2) trodAll_mk0))), rfl, bel.frame _, fun h => by cases h⟩

theorem over : Rows.wordsJoinRow.holds Try.pinned (OpenSpec.ofChange Rows.wordsJoinSpec) :=
  OpenClaim.holds_of_wide 5 Try.f5 rfl rfl rfl rfl rfl rfl rfl ⟨rfl, rfl, rfl, rfl, rfl⟩ rfl rfl rfl rfl rfl (by kernel_rfl) Try.func5 (by kernel_rfl)
    (of_decide_eq_true (by kernel_rfl)) (by unfold Func.isWrapper; first | (rw [if_pos (by decide +kernel)]; kernel_rfl) | (rw [if_neg (by decide +kernel)]; exact ⟨rfl, rfl⟩))
    (fun os started H enc _ => lifted os started H enc)

theorem proved : Rows.WordsJoinSaid := over
#print axioms proved
end Go.Proofs.Ytfooomfdokkiaaa.lawWordsJoin
