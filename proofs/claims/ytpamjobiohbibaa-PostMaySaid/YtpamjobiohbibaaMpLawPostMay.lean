/-
  'PostMay': whether an index may be, and whether two are the same, are the document's. No condition.
-/
import Derived.Test.YtpamjobiohbibaaMp14
import Derived.Test.YtpamjobiohbibaaRows
namespace Go.Proofs.Ytpamjobiohbibaa.lawPostMay
open Go.ChangeShapes Go.WideShapes Go.ChangeAt Go.RowKit
open Go.ChangeMaps (open_string shut_string)
set_option linter.unusedVariables false
set_option maxRecDepth 20000
theorem walk (w : World) (bound : Int) (hbd : -9223372036854775808 ≤ bound ∧ bound ≤ 9223372036854775807) (x : IdxX) (hx : IdxX.ok w x) (y : IdxX) (hy : IdxX.ok w y) :
    Calls Try.prog 7 #[.int .i64 bound, .agg (IdxX.cells x).toArray, .agg (IdxX.cells y).toArray] w fun e w' => e = .returned (.bool true) ∧ Below w.heap.size w w' := by
  obtain ⟨A1, c1, B1, b1, T, LL, hcx, h1, hL, hI, hm1, hm2, hm3⟩ := idx_open hx
  obtain ⟨A2, c2, B2, b2, T2, L2, hcy, h2, hL2, hI2, hn1, hn2, hn3⟩ := idx_open hy
  rw [hcx, hcy]
  simp only [maxLen] at hm1 hm2 hm3 hn1 hn2 hn3
  clear hcx hcy hx hy
  refine Does.law (args := [.int .i64 bound, IdxA A1 T.length c1 B1 LL.length b1, IdxA A2 T2.length c2 B2 L2.length b2]) ?_
  refine fn_walk Try.func7 36 rfl rfl rfl [(0, .int .i64 bound), (1, IdxA A1 T.length c1 B1 LL.length b1), (2, IdxA A2 T2.length c2 B2 L2.length b2)] ⟨⟨rfl, rfl⟩, ⟨rfl, rfl⟩, ⟨rfl, rfl⟩, trivial⟩ ?_
  refine vc_seq ?_
  refine vc_region ?_
  refine vl_eff (eff_box rfl rfl) rfl ?_
  rintro _ _ ⟨g4, rfl, rfl⟩
  refine vl_eff (eff_box rfl rfl) rfl ?_
  rintro _ _ ⟨g5, rfl, rfl⟩
  refine vl_det (det_assign rfl) rfl ?_
  refine vl_end [(0, _), (4, _), (5, _)] ⟨rfl, rfl, rfl, trivial⟩ ?_
  refine then_next ?_
  refine vc_seq ?_
  refine vc_seq ?_
  refine vc_region ?_
  refine vl_call co9 rfl (alive_d) rfl ?_
  rintro _ _ ⟨rfl, hLL⟩
  obtain rfl := hLL.symm
  refine vl_det (det_not_t rfl) rfl ?_
  refine vl_end [(0, _), (4, _), (5, _), (8, _)] ⟨rfl, rfl, rfl, rfl, trivial⟩ ?_
  refine then_next ?_
  refine vc_cond_f rfl ?_
  refine vc_skip ?_
  refine then_next ?_
  refine vc_seq ?_
  refine vc_seq ?_
  refine vc_region ?_
  refine vl_cut 6 14 [(0, _), (4, _), (5, _)] (gr18 T LL ∨ gr18 T2 L2) ⟨rfl, rfl, rfl, trivial⟩ ?_ ?_
  · skip
    refine vl_det (det_load_whole 2 (by kernel_rfl) rfl (by repeat (first | exact .hd | apply Sel.tl)) (by first | rfl | (simp; omega) | (simp [*]; done))) rfl ?_
    refine vl_call co16 rfl (great18_x (by first | (exact Bor.own (by repeat (first | exact List.Mem.head _ | apply List.Mem.tail))) | (repeat (first | assumption | apply Bor.cons))) (by first | (exact Bor.own (by repeat (first | exact List.Mem.head _ | apply List.Mem.tail))) | (repeat (first | assumption | apply Bor.cons))) (by omega) (by omega)) rfl ?_
    rintro _ _ ⟨rfl, hLL⟩
    obtain rfl := hLL.symm
    refine vl_det (det_move rfl) rfl ?_
    refine vl_guardn rfl rfl rfl (fun h11 => ?_) (fun h11 => ?_)
    · skip
      refine vl_det (det_load_whole 2 (by kernel_rfl) rfl (by repeat (first | exact .hd | apply Sel.tl)) (by first | rfl | (simp; omega) | (simp [*]; done))) rfl ?_
      refine vl_guard_t rfl rfl ?_
      refine vl_call co16 rfl (great18_x (by first | (exact Bor.own (by repeat (first | exact List.Mem.head _ | apply List.Mem.tail))) | (repeat (first | assumption | apply Bor.cons))) (by first | (exact Bor.own (by repeat (first | exact List.Mem.head _ | apply List.Mem.tail))) | (repeat (first | assumption | apply Bor.cons))) (by omega) (by omega)) rfl ?_
      rintro _ _ ⟨rfl, hLL⟩
      obtain rfl := hLL.symm
      refine vl_det (det_pick_f rfl rfl) rfl ?_
      exact vl_cut_end ⟨rfl, rfl, rfl, trivial⟩ (by first | rfl | exact bool_to_t (by first | exact .inl (by assumption) | exact ⟨fun z => .inr z, fun q => q.elim (fun z => absurd z (by assumption)) (fun z => z)⟩) | exact bool_to_f (by first | exact .inl (by assumption) | exact ⟨fun z => .inr z, fun q => q.elim (fun z => absurd z (by assumption)) (fun z => z)⟩) | exact bool_to (by first | exact .inl (by assumption) | exact ⟨fun z => .inr z, fun q => q.elim (fun z => absurd z (by assumption)) (fun z => z)⟩) | exact bool_to_b (by first | exact .inl (by assumption) | exact ⟨fun z => .inr z, fun q => q.elim (fun z => absurd z (by assumption)) (fun z => z)⟩))
    · skip
      refine vl_guard_f rfl rfl rfl rfl ?_
      refine vl_det (det_pick_t rfl rfl) rfl ?_
      exact vl_cut_end ⟨rfl, rfl, rfl, trivial⟩ (by first | rfl | exact bool_to_t (by first | exact .inl (by assumption) | exact ⟨fun z => .inr z, fun q => q.elim (fun z => absurd z (by assumption)) (fun z => z)⟩) | exact bool_to_f (by first | exact .inl (by assumption) | exact ⟨fun z => .inr z, fun q => q.elim (fun z => absurd z (by assumption)) (fun z => z)⟩) | exact bool_to (by first | exact .inl (by assumption) | exact ⟨fun z => .inr z, fun q => q.elim (fun z => absurd z (by assumption)) (fun z => z)⟩) | exact bool_to_b (by first | exact .inl (by assumption) | exact ⟨fun z => .inr z, fun q => q.elim (fun z => absurd z (by assumption)) (fun z => z)⟩))
  · skip
    refine vl_end [(0, _), (4, _), (5, _), (14, _)] ⟨rfl, rfl, rfl, rfl, trivial⟩ ?_
    refine then_next ?_
    refine vc_decideU rfl (fun h14 => ?_) (fun h14 => ?_)
    · skip
      refine vc_seq ?_
      refine vc_region ?_
      refine vl_det (det_assign rfl) rfl ?_
      refine vl_end [(6, _)] ⟨rfl, trivial⟩ ?_
      refine then_next ?_
      refine vc_ret ?_
      refine then_ret ?_
      refine ret_wk (L' := []) (.skip (.skip (.refl _))) ?_
      refine ret1 rfl rfl ?_
      rfl
    · skip
      obtain ⟨hg1, hg2, hg3⟩ := gr18_not fun q => h14 (.inl q)
      obtain ⟨hg4, hg5, hg6⟩ := gr18_not fun q => h14 (.inr q)
      refine vc_skip ?_
      refine then_next ?_
      refine vc_seq ?_
      have hs3 : ∀ e ∈ LL, e.2.2.length ≤ 9000000000000000000 := fun e he => Nat.le_trans (hg3 e he) (by omega)
      have hs4 : ∀ e ∈ LL, e.2.2.length ≤ 9223372036854775807 := fun e he => Nat.le_trans (hm3 e he) (by omega)
      refine vq_region (by kernel_rfl) (by kernel_rfl) ?_
      refine vq_det (det_move rfl) rfl ?_
      refine vq_det (det_load_whole 2 (by kernel_rfl) rfl (by repeat (first | exact .hd | apply Sel.tl)) (by first | rfl | (simp; omega) | (simp [*]; done))) rfl ?_
      refine vq_call co21 rfl (pmay_d (by first | (exact Bor.own (by repeat (first | exact List.Mem.head _ | apply List.Mem.tail))) | (repeat (first | assumption | apply Bor.cons))) (by first | (exact Bor.own (by repeat (first | exact List.Mem.head _ | apply List.Mem.tail))) | (repeat (first | assumption | apply Bor.cons))) (hI.mono (List.sublist_append_right [_, _] _)) hs3 (by omega)) (by rintro _ _ ⟨rfl, rfl⟩; exact ⟨rfl, List.Sublist.refl _⟩) rfl ?_
      refine vq_det (det_move rfl) rfl ?_
      refine vq_det (det_load_whole 2 (by kernel_rfl) rfl (by repeat (first | exact .hd | apply Sel.tl)) (by first | rfl | (simp; omega) | (simp [*]; done))) rfl ?_
      refine vq_call co20 rfl (rmay18_d (by first | (exact Bor.own (by repeat (first | exact List.Mem.head _ | apply List.Mem.tail))) | (repeat (first | assumption | apply Bor.cons))) (by first | (exact Bor.own (by repeat (first | exact List.Mem.head _ | apply List.Mem.tail))) | (repeat (first | assumption | apply Bor.cons))) (hI.mono (List.sublist_append_right [_, _] _)) hs3 (by omega)) (by rintro _ _ ⟨rfl, rfl⟩; exact ⟨rfl, List.Sublist.refl _⟩) rfl ?_
      refine vq_det (det_bool_eql Try.underlying4 rfl rfl) rfl ?_
      refine vq_det (det_move rfl) rfl ?_
      refine vq_guardp rfl rfl rfl (fun h22 => ?_) (fun h22 => ?_)
      · skip
        refine vq_det (det_load_whole 2 (by kernel_rfl) rfl (by repeat (first | exact .hd | apply Sel.tl)) (by first | rfl | (simp; omega) | (simp [*]; done))) rfl ?_
        refine vq_guard_t rfl rfl ?_
        refine vq_det (det_load_whole 2 (by kernel_rfl) rfl (by repeat (first | exact .hd | apply Sel.tl)) (by first | rfl | (simp; omega) | (simp [*]; done))) rfl ?_
        refine vq_guard_t rfl rfl ?_
        refine vq_call co23 rfl (psame_d (T1 := T) (T2 := T2) (L1 := LL) (L2 := L2) (by first | (exact Bor.own (by repeat (first | exact List.Mem.head _ | apply List.Mem.tail))) | (repeat (first | assumption | apply Bor.cons))) (by first | (exact Bor.own (by repeat (first | exact List.Mem.head _ | apply List.Mem.tail))) | (repeat (first | assumption | apply Bor.cons))) (hI.mono (List.sublist_append_right [_, _] _)) (by first | (exact Bor.own (by repeat (first | exact List.Mem.head _ | apply List.Mem.tail))) | (repeat (first | assumption | apply Bor.cons))) (by first | (exact Bor.own (by repeat (first | exact List.Mem.head _ | apply List.Mem.tail))) | (repeat (first | assumption | apply Bor.cons))) (hI2.mono (List.sublist_append_right [_, _] _)) (by omega) (by omega) hs4) (by rintro _ _ ⟨rfl, rfl⟩; exact ⟨rfl, List.Sublist.refl _⟩) rfl ?_
        refine vq_guard_t rfl rfl ?_
        refine vq_det (det_load_whole 2 (by kernel_rfl) rfl (by repeat (first | exact .hd | apply Sel.tl)) (by first | rfl | (simp; omega) | (simp [*]; done))) rfl ?_
        refine vq_guard_t rfl rfl ?_
        refine vq_det (det_load_whole 2 (by kernel_rfl) rfl (by repeat (first | exact .hd | apply Sel.tl)) (by first | rfl | (simp; omega) | (simp [*]; done))) rfl ?_
        refine vq_guard_t rfl rfl ?_
        refine vq_call co11 rfl (rsame18_d (T1 := T) (T2 := T2) (L1 := LL) (L2 := L2) (by first | (exact Bor.own (by repeat (first | exact List.Mem.head _ | apply List.Mem.tail))) | (repeat (first | assumption | apply Bor.cons))) (by first | (exact Bor.own (by repeat (first | exact List.Mem.head _ | apply List.Mem.tail))) | (repeat (first | assumption | apply Bor.cons))) (hI.mono (List.sublist_append_right [_, _] _)) (by first | (exact Bor.own (by repeat (first | exact List.Mem.head _ | apply List.Mem.tail))) | (repeat (first | assumption | apply Bor.cons))) (by first | (exact Bor.own (by repeat (first | exact List.Mem.head _ | apply List.Mem.tail))) | (repeat (first | assumption | apply Bor.cons))) (hI2.mono (List.sublist_append_right [_, _] _)) (by omega) (by omega) hs4) (by rintro _ _ ⟨rfl, rfl⟩; exact ⟨rfl, List.Sublist.refl _⟩) rfl ?_
        refine vq_guard_t rfl rfl ?_
        refine vq_det (det_bool_eql Try.underlying4 rfl rfl) rfl ?_
        refine vq_det (det_pick_t rfl rfl) rfl ?_
        refine vq_det (det_move rfl) rfl ?_
        refine vq_guardp rfl rfl rfl (fun h31 => ?_) (fun h31 => ?_)
        · skip
          refine vq_det (det_load_whole 2 (by kernel_rfl) rfl (by repeat (first | exact .hd | apply Sel.tl)) (by first | rfl | (simp; omega) | (simp [*]; done))) rfl ?_
          refine vq_guard_t rfl rfl ?_
          refine vq_det (det_load_whole 2 (by kernel_rfl) rfl (by repeat (first | exact .hd | apply Sel.tl)) (by first | rfl | (simp; omega) | (simp [*]; done))) rfl ?_
          refine vq_guard_t rfl rfl ?_
          refine vq_call co23 rfl (psame_d (T1 := T) (T2 := T) (L1 := LL) (L2 := LL) (by first | (exact Bor.own (by repeat (first | exact List.Mem.head _ | apply List.Mem.tail))) | (repeat (first | assumption | apply Bor.cons))) (by first | (exact Bor.own (by repeat (first | exact List.Mem.head _ | apply List.Mem.tail))) | (repeat (first | assumption | apply Bor.cons))) (hI.mono (List.sublist_append_right [_, _] _)) (by first | (exact Bor.own (by repeat (first | exact List.Mem.head _ | apply List.Mem.tail))) | (repeat (first | assumption | apply Bor.cons))) (by first | (exact Bor.own (by repeat (first | exact List.Mem.head _ | apply List.Mem.tail))) | (repeat (first | assumption | apply Bor.cons))) (hI.mono (List.sublist_append_right [_, _] _)) (by omega) (by omega) hs4) (by rintro _ _ ⟨rfl, rfl⟩; exact ⟨rfl, List.Sublist.refl _⟩) rfl ?_
          refine vq_det (det_pick_t rfl rfl) rfl ?_
          refine vq_det (det_assign rfl) rfl ?_
          refine vq_end [(6, _)] ⟨rfl, trivial⟩ ?_
          refine then_next ?_
          refine vc_ret ?_
          refine ret_wk (L' := []) (.skip (.skip (.refl _))) ?_
          refine ret1 rfl rfl ?_
          simp
        · skip
          exfalso; first | exact h31 rfl | simp at h31
      · skip
        exfalso; first | exact h22 rfl | simp at h22
theorem own : ownKnob Try.prog.godebug = none := by kernel_rfl
theorem laidOut : laidOutB Try.prog = true := by kernel_rfl
set_option maxRecDepth 100000 in
theorem lifted (os : Os) (started : os.Started) (H : Type) (enc : TypeId × Value → H) :
    ReturnsInHanded {} Try.checked os 7 .any (Rows.postMaySpec.pre6 enc Try.prog Try.f7 Rows.postMayRow.domain false) (Rows.postMaySpec.post enc Try.prog Try.f7 false true false false) := by
  refine returnsInHanded_of_change (C := Try.checked) own started (by kernel_rfl) Try.func7
    (ChangeSpec.witness6 (enc := enc) (C := Try.checked) false ⟨#[], #[.int .i64 0, (.agg #[.slice none 0 0, .slice none 0 0]), (.agg #[.slice none 0 0, .slice none 0 0])], []⟩ 8 (by kernel_rfl) (by kernel_rfl) (by kernel_rfl) (by kernel_rfl)) ?_
  intro W base args ds gs before hval0 hW hcnd _
  have hval : ∀ (j : Nat) t v, Try.f7.params[j]? = some t → args[j]? = some v → Value.okWide Try.prog W .any base t v := hval0
  have hW' := hW
  obtain ⟨p, q, hA0, hV, rfl, hfz, hnd⟩ := hW
  have hA : DataW.TrodAll enc Try.prog W 0 (fun _ => true) true Try.f7.params.toList args.toList ds p := hA0
  rw [Try.params7] at hA hval
  obtain ⟨v0', vs0, d0, ds0, p0, q0, hargs, rfl, rfl, h0', r0⟩ := trodAll_cons hA
  obtain ⟨v1', vs1, d1, ds1, p1, q1, rfl, rfl, rfl, h1', r1⟩ := trodAll_cons r0
  obtain ⟨v2', vs2, d2, ds2, p2, q2, rfl, rfl, rfl, h2', r2⟩ := trodAll_cons r1
  obtain ⟨rfl, rfl, rfl⟩ := trodAll_nil r2
  obtain rfl : args = #[v0', v1', v2'] := by cases args; simp_all
  obtain ⟨rfl, rfl⟩ := trodVars_none hV
  have k0 := h0'
  have lt0 : ∀ x ∈ p0, x.block < W.heap.size := by obtain ⟨m, hm⟩ := k0; exact DataW.trod_lt m _ _ _ hm
  obtain ⟨a0, rfl, hd0, hp0, w0⟩ := open_int Try.underlying3 (hval 0 3 v0' rfl rfl) h0'
  have k1 := h1'
  have lt1 : ∀ x ∈ p1, x.block < W.heap.size := by obtain ⟨m, hm⟩ := k1; exact DataW.trod_lt m _ _ _ hm
  obtain ⟨x1, e1, w1⟩ := DecT.arg (w := W) (dec_idx W) k1
  obtain rfl := agg_of Try.underlying29 (hval 1 29 v1' rfl rfl) e1
  have k2 := h2'
  have lt2 : ∀ x ∈ p2, x.block < W.heap.size := by obtain ⟨m, hm⟩ := k2; exact DataW.trod_lt m _ _ _ hm
  obtain ⟨x2, e2, w2⟩ := DecT.arg (w := W) (dec_idx W) k2
  obtain rfl := agg_of Try.underlying29 (hval 2 29 v2' rfl rfl) e2
  clear hA0 hval0
  refine (walk W a0 (bounds_i64 w0) x1 w1 x2 w2).mono fun e W' ⟨he, bel⟩ => ?_
  subst he
  exact ⟨_, rfl, _, _, _, [], _, [], hW', trodAll_mk1 (shut_bool Try.underlying4 _), (trodAll_cons_mk (Below.trod laidOut (by kernel_rfl) (of_decide_eq_true (by kernel_rfl)) k0 bel lt0) (trodAll_cons_mk (Below.trod laidOut (by kernel_rfl) (of_decide_eq_true (by kernel_rfl)) k1 bel lt1) (trodAll_cons_mk (Below.trod laidOut (by kernel_rfl) (of_decide_eq_true (by kernel_rfl)) k2 bel lt2) trodAll_mk0))), rfl, bel.frame _, fun h => by cases h⟩

theorem over : Rows.postMayRow.holds Try.pinned (OpenSpec.ofChange Rows.postMaySpec) :=
  OpenClaim.holds_of_wide 7 Try.f7 rfl rfl rfl rfl rfl rfl rfl ⟨rfl, rfl, rfl, rfl, rfl⟩ rfl rfl rfl rfl rfl (by kernel_rfl) Try.func7 (by kernel_rfl)
    (of_decide_eq_true (by kernel_rfl)) (by unfold Func.isWrapper; first | (rw [if_pos (by decide +kernel)]; kernel_rfl) | (rw [if_neg (by decide +kernel)]; exact ⟨rfl, rfl⟩))
    (fun os started H enc _ => lifted os started H enc)

theorem proved : Rows.PostMaySaid := over
#print axioms proved
end Go.Proofs.Ytpamjobiohbibaa.lawPostMay
