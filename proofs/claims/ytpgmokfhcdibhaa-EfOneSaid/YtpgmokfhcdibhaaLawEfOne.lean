/-
  'EfOne': the bytes of each row that is read are those that are written. No condition.
-/
import Derived.Test.YtpgmokfhcdibhaaEfV
import Derived.Test.YtpgmokfhcdibhaaEfC
import Derived.Test.YtpgmokfhcdibhaaRows
import Derived.Test.YtpgmokfhcdibhaaOpen
namespace Go.Proofs.Ytpgmokfhcdibhaa.lawEfOne
open Go.ChangeShapes Go.WideShapes Go.ChangeAt Go.RowKit
open Go.ChangeMaps (open_string shut_string)
set_option linter.unusedVariables false
set_option maxRecDepth 20000
theorem walk (w : World) (bound : Int) (hbd : -9223372036854775808 ≤ bound ∧ bound ≤ 9223372036854775807) (v : Value) (b : List UInt8) (hr : Rd w w.heap.size 1 v b.length (bv b)) (hm : b.length ≤ maxLen) :
    Calls Try.prog 7 #[.int .i64 bound, v] w fun e w' => e = .returned (.bool true) ∧ Below w.heap.size w w' := by
  obtain ⟨A0, c0, rfl, hc0⟩ := hr.form
  have hbo : Bor w.heap.size w [] 1 (.slice A0 b.length c0) b.length (bv b) := Bor.in_ hr
  simp only [maxLen] at hm
  refine Does.law (args := [.int .i64 bound, .slice A0 b.length c0]) ?_
  by_cases he : (efRd bound b).2.2 = 0
  · obtain ⟨bn, rfl, hbn, hR, hB, hle⟩ := efRd_one hbd.2 he
    obtain ⟨⟨xs, t, e⟩, hE⟩ : ∃ x, x = efRd (bn : Int) b := ⟨_, rfl⟩
    rw [← hE] at he hR hB hle
    dsimp only at he hR hB hle
    subst he
    have hlen := hR.len
    have hcut := hbo.head_ hle
    rw [Nat.mul_one, bv_take, ← hB] at hcut
    have htl : (efB bn xs).length = t := by rw [hB, List.length_take]; omega
    rw [← htl] at hcut
    rw [← htl] at hE hle
    clear hB htl
    skip
    refine fn_walk Try.func7 50 rfl rfl rfl [(0, .int .i64 bn), (1, .slice A0 b.length c0)] ⟨⟨rfl, rfl⟩, ⟨rfl, rfl⟩, trivial⟩ ?_
    refine vc_seq ?_
    refine vc_region ?_
    refine vl_det (det_assign rfl) rfl ?_
    refine vl_end [(0, _), (1, _)] ⟨rfl, rfl, trivial⟩ ?_
    refine then_next ?_
    refine vc_seq ?_
    refine vc_seq ?_
    refine vc_region ?_
    refine vl_call co9 rfl (alive_d) rfl ?_
    rintro _ _ ⟨rfl, hLL⟩
    obtain rfl := hLL.symm
    refine vl_det (det_not_t rfl) rfl ?_
    refine vl_end [(0, _), (1, _), (11, _)] ⟨rfl, rfl, rfl, trivial⟩ ?_
    refine then_next ?_
    refine vc_cond_f rfl ?_
    refine vc_skip ?_
    refine then_next ?_
    refine vc_seq ?_
    refine vc_seq ?_
    refine vc_region ?_
    refine vl_det (det_move rfl) rfl ?_
    refine vl_det (det_len_sl Try.underlying24 rfl) rfl ?_
    refine vl_det (det_gtr rfl rfl) rfl ?_
    refine vl_end [(0, _), (1, _), (14, _)] ⟨rfl, rfl, rfl, trivial⟩ ?_
    refine then_next ?_
    refine vc_decideU rfl (fun h14 => ?_) (fun h14 => ?_)
    · skip
      refine vc_seq ?_
      refine vc_region ?_
      refine vl_det (det_assign rfl) rfl ?_
      refine vl_end [(4, _)] ⟨rfl, trivial⟩ ?_
      refine then_next ?_
      refine vc_ret ?_
      refine then_ret ?_
      refine ret1 rfl rfl ?_
      rfl
    · skip
      refine vc_skip ?_
      refine then_next ?_
      refine vc_seq ?_
      refine vc_region ?_
      refine vl_det (det_move rfl) rfl ?_
      refine vl_det (det_move rfl) rfl ?_
      refine vl_call co17 rfl (efread_ok (by first | (exact Bor.own (by repeat (first | exact List.Mem.head _ | apply List.Mem.tail))) | (repeat (first | assumption | apply Bor.cons))) (by omega) (by omega) hE.symm) rfl ?_
      rintro _ _ ⟨lw, lp, g18, P18, p18, Q18, q18, hlp, hlw, rfl, hLL⟩
      obtain rfl := hLL.symm
      refine vl_det (det_move rfl) rfl ?_
      refine vl_det (det_extract rfl rfl) rfl ?_
      refine vl_det (det_extract rfl rfl) rfl ?_
      refine vl_det (det_extract rfl rfl) rfl ?_
      refine vl_det (det_assign rfl) rfl ?_
      refine vl_det (det_assign rfl) rfl ?_
      refine vl_det (det_assign rfl) rfl ?_
      refine vl_end [(0, _), (1, _), (5, _), (6, _), (7, _)] ⟨rfl, rfl, rfl, rfl, rfl, trivial⟩ ?_
      refine then_next ?_
      refine vc_seq ?_
      refine vc_seq ?_
      refine vc_region ?_
      refine vl_det (det_move rfl) rfl ?_
      refine vl_det (det_neq rfl rfl) rfl ?_
      refine vl_end [(0, _), (1, _), (5, _), (6, _), (23, _)] ⟨rfl, rfl, rfl, rfl, rfl, trivial⟩ ?_
      refine then_next ?_
      refine vc_decideU rfl (fun h23 => ?_) (fun h23 => ?_)
      · skip
        exfalso; exact h23 rfl
      · skip
        refine vc_skip ?_
        refine then_next ?_
        refine vc_seq ?_
        refine vc_region ?_
        refine vl_det (det_move rfl) rfl ?_
        refine vl_det (det_move rfl) rfl ?_
        refine vl_call co16 rfl (lall_d hlp hlw (hR.le (by omega)) (by omega)) rfl ?_
        rintro _ _ ⟨A27, c27, rfl, hLL⟩
        obtain rfl := hLL.symm
        refine vl_call co10 rfl (efwrite_ok (b := bn) (xs := xs) (by first | (exact Bor.own (by repeat (first | exact List.Mem.head _ | apply List.Mem.tail))) | (repeat (first | assumption | apply Bor.cons))) (by omega) hR) rfl ?_
        rintro _ _ ⟨A28, c28, rfl, hLL⟩
        obtain rfl := hLL.symm
        refine vl_det (det_move rfl) rfl ?_
        refine vl_det (det_extract rfl rfl) rfl ?_
        refine vl_det (det_extract rfl rfl) rfl ?_
        refine vl_det (det_assign rfl) rfl ?_
        refine vl_det (det_assign rfl) rfl ?_
        refine vl_end [(1, _), (6, _), (8, _), (9, _)] ⟨rfl, rfl, rfl, rfl, trivial⟩ ?_
        refine then_next ?_
        refine vc_seq ?_
        refine vc_region ?_
        refine vl_det (det_move rfl) rfl ?_
        refine vl_det (det_eql rfl rfl) rfl ?_
        refine vl_det (det_move rfl) rfl ?_
        refine vl_guardp rfl rfl rfl (fun h33 => ?_) (fun h33 => ?_)
        · skip
          refine vl_det (det_move rfl) rfl ?_
          refine vl_guard_t rfl rfl ?_
          refine vl_det (det_geq rfl rfl) rfl ?_
          refine vl_det (det_pick_t rfl rfl) rfl ?_
          refine vl_det (det_move rfl) rfl ?_
          refine vl_guardp rfl rfl rfl (fun h37 => ?_) (fun h37 => ?_)
          · skip
            refine vl_det (det_move rfl) rfl ?_
            refine vl_guard_t rfl rfl ?_
            refine vl_det (det_move rfl) rfl ?_
            refine vl_guard_t rfl rfl ?_
            refine vl_det (det_len_sl Try.underlying24 rfl) rfl ?_
            refine vl_guard_t rfl rfl ?_
            refine vl_det (det_leq rfl rfl) rfl ?_
            refine vl_det (det_pick_t rfl rfl) rfl ?_
            refine vl_det (det_move rfl) rfl ?_
            refine vl_guardp rfl rfl rfl (fun h43 => ?_) (fun h43 => ?_)
            · skip
              refine vl_det (det_move rfl) rfl ?_
              refine vl_guard_t rfl rfl ?_
              refine vl_det (det_move rfl) rfl ?_
              refine vl_guard_t rfl rfl ?_
              refine vl_det (det_move rfl) rfl ?_
              refine vl_guard_t rfl rfl ?_
              refine vl_det (det_slice_hi (i := (efB bn xs).length) (size := 1) Try.underlying24 (by kernel_rfl) rfl rfl rfl (by omega)) rfl ?_
              refine vl_guard_t rfl rfl ?_
              refine vl_call co12 rfl (same_d (l := efB bn xs) (l2 := efB bn xs) (by first | (exact Bor.own (by repeat (first | exact List.Mem.head _ | apply List.Mem.tail))) | (repeat (first | assumption | apply Bor.cons))) (by first | (exact Bor.own (by repeat (first | exact List.Mem.head _ | apply List.Mem.tail))) | (repeat (first | assumption | apply Bor.cons)))) rfl ?_
              rintro _ _ ⟨rfl, hLL⟩
              obtain rfl := hLL.symm
              refine vl_det (det_pick_t rfl rfl) rfl ?_
              refine vl_det (det_assign rfl) rfl ?_
              refine vl_end [(4, _)] ⟨rfl, trivial⟩ ?_
              refine then_next ?_
              refine vc_ret ?_
              refine ret_wk (L' := []) (by unfold Rl Pt; repeat (first | exact Wk.refl _ | apply Wk.skip)) ?_
              refine ret1 rfl rfl ?_
              rw [decide_eq_true rfl]
            · skip
              exfalso; omega
          · skip
            exfalso; omega
        · skip
          exfalso; exact h33 rfl
  · skip
    refine fn_walk Try.func7 50 rfl rfl rfl [(0, .int .i64 bound), (1, .slice A0 b.length c0)] ⟨⟨rfl, rfl⟩, ⟨rfl, rfl⟩, trivial⟩ ?_
    refine vc_seq ?_
    refine vc_region ?_
    refine vl_det (det_assign rfl) rfl ?_
    refine vl_end [(0, _), (1, _)] ⟨rfl, rfl, trivial⟩ ?_
    refine then_next ?_
    refine vc_seq ?_
    refine vc_seq ?_
    refine vc_region ?_
    refine vl_call co9 rfl (alive_d) rfl ?_
    rintro _ _ ⟨rfl, hLL⟩
    obtain rfl := hLL.symm
    refine vl_det (det_not_t rfl) rfl ?_
    refine vl_end [(0, _), (1, _), (11, _)] ⟨rfl, rfl, rfl, trivial⟩ ?_
    refine then_next ?_
    refine vc_cond_f rfl ?_
    refine vc_skip ?_
    refine then_next ?_
    refine vc_seq ?_
    refine vc_seq ?_
    refine vc_region ?_
    refine vl_det (det_move rfl) rfl ?_
    refine vl_det (det_len_sl Try.underlying24 rfl) rfl ?_
    refine vl_det (det_gtr rfl rfl) rfl ?_
    refine vl_end [(0, _), (1, _), (14, _)] ⟨rfl, rfl, rfl, trivial⟩ ?_
    refine then_next ?_
    refine vc_decideU rfl (fun h14 => ?_) (fun h14 => ?_)
    · skip
      refine vc_seq ?_
      refine vc_region ?_
      refine vl_det (det_assign rfl) rfl ?_
      refine vl_end [(4, _)] ⟨rfl, trivial⟩ ?_
      refine then_next ?_
      refine vc_ret ?_
      refine then_ret ?_
      refine ret1 rfl rfl ?_
      rfl
    · skip
      refine vc_skip ?_
      refine then_next ?_
      refine vc_seq ?_
      refine vc_region ?_
      refine vl_det (det_move rfl) rfl ?_
      refine vl_det (det_move rfl) rfl ?_
      refine vl_call co17 rfl ((efread_d (by first | (exact Bor.own (by repeat (first | exact List.Mem.head _ | apply List.Mem.tail))) | (repeat (first | assumption | apply Bor.cons))) (by omega) hbd.1 hbd.2).mono (R' := fun r L => r = .tuple #[.pointer none, .int .i64 0, .int .i64 (efRd bound b).2.2] ∧ L = []) (fun r L h => by rcases h with ⟨_, h⟩ | ⟨h, _⟩; exact h; exact absurd h he)) rfl ?_
      rintro _ _ ⟨rfl, hLL⟩
      obtain rfl := hLL.symm
      refine vl_det (det_move rfl) rfl ?_
      refine vl_det (det_extract rfl rfl) rfl ?_
      refine vl_det (det_extract rfl rfl) rfl ?_
      refine vl_det (det_extract rfl rfl) rfl ?_
      refine vl_det (det_assign rfl) rfl ?_
      refine vl_det (det_assign rfl) rfl ?_
      refine vl_det (det_assign rfl) rfl ?_
      refine vl_end [(0, _), (1, _), (5, _), (6, _), (7, _)] ⟨rfl, rfl, rfl, rfl, rfl, trivial⟩ ?_
      refine then_next ?_
      refine vc_seq ?_
      refine vc_seq ?_
      refine vc_region ?_
      refine vl_det (det_move rfl) rfl ?_
      refine vl_det (det_neq rfl rfl) rfl ?_
      refine vl_end [(0, _), (1, _), (5, _), (6, _), (23, _)] ⟨rfl, rfl, rfl, rfl, rfl, trivial⟩ ?_
      refine then_next ?_
      refine vc_decideU rfl (fun h23 => ?_) (fun h23 => ?_)
      · skip
        refine vc_seq ?_
        refine vc_region ?_
        refine vl_det (det_assign rfl) rfl ?_
        refine vl_end [(4, _)] ⟨rfl, trivial⟩ ?_
        refine then_next ?_
        refine vc_ret ?_
        refine then_ret ?_
        refine ret1 rfl rfl ?_
        rfl
      · skip
        exfalso; exact h23 he
theorem own : ownKnob Try.prog.godebug = none := by kernel_rfl
theorem laidOut : laidOutB Try.prog = true := by kernel_rfl
set_option maxRecDepth 100000 in
theorem lifted (os : Os) (started : os.Started) (H : Type) (enc : TypeId × Value → H) :
    ReturnsInHanded {} Try.checked os 7 .any (Rows.efOneSpec.pre6 enc Try.prog Try.f7 Rows.efOneRow.domain false) (Rows.efOneSpec.post enc Try.prog Try.f7 false true false false) := by
  refine returnsInHanded_of_change (C := Try.checked) own started (by kernel_rfl) Try.func7
    (ChangeSpec.witness6 (enc := enc) (C := Try.checked) false ⟨#[], #[.int .i64 0, .slice none 0 0], []⟩ 8 (by kernel_rfl) (by kernel_rfl) (by kernel_rfl) (by kernel_rfl)) ?_
  intro W base args ds gs before hval0 hW hcnd _
  have hval : ∀ (j : Nat) t v, Try.f7.params[j]? = some t → args[j]? = some v → Value.okWide Try.prog W .any base t v := hval0
  have hW' := hW
  obtain ⟨p, q, hA0, hV, rfl, hfz, hnd⟩ := hW
  have hA : DataW.TrodAll enc Try.prog W 0 (fun _ => true) true Try.f7.params.toList args.toList ds p := hA0
  rw [Try.params7] at hA hval
  obtain ⟨v0', vs0, d0, ds0, p0, q0, hargs, rfl, rfl, h0', r0⟩ := trodAll_cons hA
  obtain ⟨v1', vs1, d1, ds1, p1, q1, rfl, rfl, rfl, h1', r1⟩ := trodAll_cons r0
  obtain ⟨rfl, rfl, rfl⟩ := trodAll_nil r1
  obtain rfl : args = #[v0', v1'] := by cases args; simp_all
  obtain ⟨rfl, rfl⟩ := trodVars_none hV
  have k0 := h0'
  have lt0 : ∀ x ∈ p0, x.block < W.heap.size := by obtain ⟨m, hm⟩ := k0; exact DataW.trod_lt m _ _ _ hm
  obtain ⟨a0, rfl, hd0, hp0, w0⟩ := open_int Try.underlying3 (hval 0 3 v0' rfl rfl) h0'
  have k1 := h1'
  have lt1 : ∀ x ∈ p1, x.block < W.heap.size := by obtain ⟨m, hm⟩ := k1; exact DataW.trod_lt m _ _ _ hm
  obtain ⟨A1, n1, c1, rfl⟩ := okWide_slice Try.underlying24 (hval 1 24 v1' rfl rfl)
  obtain ⟨⟨u1, L1⟩, e1, hr1, ho1, hm1⟩ := DecT.arg (dec_slice Try.underlying24 (by kernel_rfl : Try.prog.cellsOf 5 = 1) (by omega) (fun _ => rfl) (dec_u8 (w := W) Try.underlying5)) k1
  obtain rfl := cells_slice A1 n1 c1 rfl e1
  rw [flatMap_bv] at hr1
  clear hA0 hval0
  refine (walk W a0 (bounds_i64 w0) _ L1 hr1 hm1).mono fun e W' ⟨he, bel⟩ => ?_
  subst he
  exact ⟨_, rfl, _, _, _, [], _, [], hW', trodAll_mk1 (shut_bool Try.underlying4 _), (trodAll_cons_mk (Below.trod laidOut (by kernel_rfl) (of_decide_eq_true (by kernel_rfl)) k0 bel lt0) (trodAll_cons_mk (Below.trod laidOut (by kernel_rfl) (of_decide_eq_true (by kernel_rfl)) k1 bel lt1) trodAll_mk0)), rfl, bel.frame _, fun h => by cases h⟩

theorem over : Rows.efOneRow.holds Try.pinned (OpenSpec.ofChange Rows.efOneSpec) :=
  OpenClaim.holds_of_wide 7 Try.f7 rfl rfl rfl rfl rfl rfl rfl ⟨rfl, rfl, rfl, rfl, rfl⟩ rfl rfl rfl rfl rfl (by kernel_rfl) Try.func7 (by kernel_rfl)
    (of_decide_eq_true (by kernel_rfl)) (by unfold Func.isWrapper; first | (rw [if_pos (by decide +kernel)]; kernel_rfl) | (rw [if_neg (by decide +kernel)]; exact ⟨rfl, rfl⟩))
    (fun os started H enc _ => lifted os started H enc)

theorem proved : Rows.EfOneSaid := over
#print axioms proved
end Go.Proofs.Ytpgmokfhcdibhaa.lawEfOne
